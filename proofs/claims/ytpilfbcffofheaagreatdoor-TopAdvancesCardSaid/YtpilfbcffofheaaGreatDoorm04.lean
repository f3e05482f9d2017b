/- Part 4 of the proof. -/
import Derived.Test.YtpilfbcffofheaaGreatDoorm01
import Derived.Test.YtpilfbcffofheaaGreatDoorm02
set_option linter.all false
set_option maxRecDepth 100000
set_option maxHeartbeats 16000000
namespace Go.Proofs.YtpilfbcffofheaaGreatDoor
open Go.RowKit Go.Proofs.Tryz Go.Sort
open Value renaming slice->D,agg->ā,string->š
open Option renaming none->O,some->J
open List renaming length->L
open Obj renaming cells->C
open Ending renaming returned->ŗ
open World renaming alloc->å
def ku {w:β} {v:ε} {n l} (g:L l=n) (h:Rd w v n 1 (τ l)) :
  ∃ a c,v=D a n c/\n<=9223372036854775807/\Hid (∀ i (j:i<L l),∃ b off,a=J ⟨b,off,O⟩/\w.cell? ⟨b,off+i,O⟩=J (G l[i])):=by
 subst g;obtain⟨-,f,⟨a,c,rfl,d⟩|⟨b,off,c,rfl,-,-,-,e⟩⟩:=h
 .exact⟨a,c,by rw[d],U,fun i j=>U⟩
 .exact⟨_,c,rfl,by unfold maxLen at f;omega,fun i j=>⟨b,off,rfl,e i _ (by simp[τ])⟩⟩
def tr (v:ε) (n l) (w:β) (q:L l=n) (h:Rd w v n 1 (τ l)) :
  Calls prog 180 #[v] w fun e w'=>e=ŗ (.bool (ge l))/\w=w':=by
 obtain⟨z,c,rfl,F,r⟩:=ku q h;have k:=Zh q;go_enter func180,ntmps180;go_wp2;go_loopw [3,8] (fun y j wr=>∃ (a:Nat) (d:Int),a<=n/\j=G a/\y=G d/\Hid (ge l=nD d (l.drop a))/\wr=w) (fun _ j _=>n - (intOf j).toNat)
 .exact⟨0,_,Ζ _,rfl,rfl,rfl,by first|rfl|trivial⟩
 obtain⟨a,d,B,rfl,rfl,g,rfl⟩:=hrel;by_cases E:a<n
 .have p:a<L l:=ι k.o
  obtain⟨b,off,rfl,A⟩:=r.o a p;have u:(a:Int)<(n:Int):=U;have i:Hid (nD d (l.drop a)=(decide (d<l[a]) && decide (l[a]<1000) && nD l[a] (l.drop (a+1)))):=by
   show _=_;rw[lL p,EE]
  generalize l[a]=x at *;by_cases m:d<x
  .have s:¬x<=d:=U
   by_cases o:x<1000
   .have t:¬(1000:Int)<=x:=U
    have f:Hid (ge l=nD x (l.drop (a+1))):=by show _=_;rw[g.o,i.o,kU m,kU o];rfl
    go_wp2;go_roundw
    .exact⟨ _,x,U,ϕ,rfl,f.o,by first|rfl|trivial⟩
    exact ω
   .have t:(1000:Int)<=x:=U
    have f:Hid (ge l=false):=by show _=_;rw[g.o,i.o,kE o];simp
    go_wp2;go_ret;exact⟨by rw[f.o];rfl,rfl⟩
  .have s:x<=d:=U
   have f:Hid (ge l=false):=by show _=_;rw[g.o,i.o,kE m];simp
   go_wp2;go_ret;exact⟨by rw[f.o];rfl,rfl⟩
 .have f:Hid (ge l=true):=by show _=_;rw[g.o,mg (ι k.o)];rfl
  have u:¬(a:Int)<(n:Int):=U;go_wp2;go_ret;exact⟨by rw[f.o];rfl,rfl⟩
def Rd.part {w:β} {b off n c} {f:List ε} (h:Rd w (D (J ⟨b,off,O⟩) n c) n 1 f) (p m) (i:0<m) (s:p+m<=n) :
  Rd w (D (J ⟨b,off+p,O⟩) m (c - p)) m 1 ((f.drop p).take m):=by
 obtain⟨r,t,⟨k,g,d,o⟩|⟨l,x,g,d,u,v,q,j⟩⟩:=h
 .omega
 .simp only[Χ,Φ,Addr.mk.injEq,it,ϵ]at d
  obtain⟨⟨rfl,rfl⟩,rfl⟩:=d;refine⟨by rw[gp,fT];omega,U,.inr ⟨b,off+p,c - p,rfl,i,U,U,fun e y a=>?_⟩⟩;have hi:e<m:=by
   have:=(lK.1 a).1;rw[gp]at this;omega
  rw[vS hi,jr]at a;rw[show off+p+e=off+(p+e)from U];exact j _ _ a
def io {w:β} {b off n c x l} (h:Rd w (D (J ⟨b,off,O⟩) (n+1) c) (n+1) 1 (τ (x::l))) :
  (c=1->Rd w (D (J ⟨b,off,O⟩) n 0) n 1 (τ l))/\(¬c=1->Rd w (D (J ⟨b,off+1,O⟩) n (c - 1)) n 1 (τ l)):=by
 have f:L l=n:=by have:=h.1;rw[zU]at this;simpa using this
 have o:n+1<=c:=by
  obtain⟨-,-,⟨e,d,g,a⟩|⟨k,p,d,g,-,m,-,-⟩⟩:=h
  .simp at a
  .simp only[Χ]at g;omega
 have i:n=0->∀ e d,Rd w (D e n d) n 1 (τ l):=fun a e d=>by
  subst a;have:=lJ.1 f;subst this;exact⟨rfl,Ζ _,.inl ⟨_,_,rfl,rfl⟩⟩
 constructor
 .intro j
  exact i U _ _
 .intro j
  by_cases a:n=0
  .exact i a _ _
  .have:=h.part 1 n U U
   rw[show((τ (x::l)).drop 1).take n=τ l from by simp[τ,gF (show(L (l.map (Value.int .i64)))<=n by simp[f])]]at this;exact this
def qQ {w:β} {ao n c x l} (h:Rd w (D ao n c) n 1 (τ (x::l))):∃ b off,ao=J ⟨b,off,O⟩/\w.cell? ⟨b,off,O⟩=J (G x)/\n<=c:=by
 have d:=h.1;rw[zU]at d;obtain⟨-,-,⟨k,f,a,m⟩|⟨e,j,f,a,-,g,-,i⟩⟩:=h
 .simp at d;omega
 .simp only[Χ]at a
  obtain⟨rfl,-,rfl⟩:=a;exact⟨e,j,rfl,i 0 _ rfl,g⟩
theorem nX (x y:γ):Op.bytesLess (δ x).toList (δ y).toList=ltStr x y:=by
 rw[hN,hN,bytesLess_eq];rfl
def Ha (w:β) (d:List ϰ) (b:List ε):Prop:=
 ∀ a (hi:a<L d),b[a*2]?=J (Ϫ d[a].1)/\∃ c,b[a*2+1]?=J c/\Rd w c (L d[a].2) 1 (τ d[a].2)
def fN (w:β) (v:ε) (n:Nat) (d:List ϰ):Prop:=L d=n/\∃ a,Rd w v n 2 a/\Ha w d a
def fN.B {w w' v n d} (h:fN w v n d) (a:BQ w w'):fN w' v n d:=by
 obtain⟨k,b,i,j⟩:=h;refine⟨k,b,i.B a,fun l hi=>?_⟩;obtain⟨e,c,f,g⟩:=j l hi;exact⟨e,c,f,g.B a⟩
def ic {w v n d} (h:fN w v n d) :
  ∃ e c,v=D e n c/\n<=9223372036854775807/\Hid (∀ i (y:i<L d),∃ b off da dc,e=J ⟨b,off,O⟩/\w.cell? ⟨b,off+i*2,O⟩=J (Ϫ d[i].1)/\w.cell? ⟨b,off+i*2+1,O⟩=J (D da (L d[i].2) dc)/\Rd w (D da (L d[i].2) dc) (L d[i].2) 1 (τ d[i].2)):=by
 obtain⟨u,r,⟨s,k,q⟩,p⟩:=h;rcases q with ⟨e,c,rfl,g⟩|⟨b,off,c,rfl,g,x,t,j⟩
 .exact⟨e,c,by rw[g],by unfold maxLen at k;omega,fun i y=>U⟩
 .refine⟨_,c,rfl,by unfold maxLen at k;omega,fun i y=>?_⟩
  obtain⟨m,l,o,f⟩:=p i y;obtain⟨da,dc,rfl⟩:∃ da dc,l=D da (L d[i].2) dc:=by
   obtain⟨a,c,h,-⟩:=ku rfl f;exact⟨a,c,h⟩
  exact⟨b,off,da,dc,rfl,j _ _ m,by rw[iX];exact j _ _ o,f⟩
def Gs (f t) (w:β):Calls prog 306 #[ā #[G f,G t]] w fun e w'=>e=ŗ (.bool (me f t))/\BQ w w':=by
 have g:BQ w (å w (C #[G f,G t] 89)):=ġ;by_cases b:0<=f
 .by_cases c:f<t
  .by_cases d:t<=1000
   .have a:Hid (me f t=true):=by show _=_;simp[me,b,c,d]
    go_enter func306,ntmps306;go_wp2;go_ret;exact⟨by rw[a.o];first|rfl|simp[b,c,d],g⟩
   .have a:Hid (me f t=false):=by show _=_;simp[me,d]
    go_enter func306,ntmps306;go_wp2;go_ret;exact⟨by rw[a.o];first|rfl|simp[b,c,d],g⟩
  .have a:Hid (me f t=false):=by show _=_;simp[me,c]
   go_enter func306,ntmps306;go_wp2;go_ret;exact⟨by rw[a.o];first|rfl|simp[b,c],g⟩
 .have a:Hid (me f t=false):=by show _=_;simp[me,b]
  go_enter func306,ntmps306;go_wp2;go_ret;exact⟨by rw[a.o];first|rfl|simp[b],g⟩
def sK {w:β} {v:ε} {b:γ} (h:Rd w v (L b) 1 (η b)):∃ a c,v=D a (L b) c:=by
 obtain⟨-,-,⟨a,c,rfl,d⟩|⟨e,off,c,rfl,-⟩⟩:=h
 .exact⟨a,c,by rw[d]⟩
 .exact⟨_,c,rfl⟩
def Ε (w:β) (v:ε) (d:List (γ)):Prop:= ∃ c:List ε,Rd w v (L d) 1 c/\∀ a (hi:a<L d),∃ b,c[a]?=J b/\Rd w b (L d[a]) 1 (η d[a])
def Ε.B {w w' v docs} (h:Ε w v docs) (a:BQ w w'):Ε w' v docs:=by
 obtain⟨i,e,f⟩:=h;refine⟨i,e.B a,fun g hi=>?_⟩;obtain⟨b,c,d⟩:=f g hi;exact⟨b,c,d.B a⟩
def mr {w v docs} (h:Ε w v docs):∃ a c,v=D a (L docs) c/\L docs<=9223372036854775807 /\
  Hid (∀ i (r:i<L docs),∃ b off da dc,a=J ⟨b,off,O⟩/\w.cell? ⟨b,off+i,O⟩=J (D da (L docs[i]) dc)/\Rd w (D da (L docs[i]) dc) (L docs[i]) 1 (η docs[i])):=by
 obtain⟨q,⟨o,l,k⟩,g⟩:=h;unfold maxLen at l;rcases k with ⟨a,c,rfl,e⟩|⟨b,off,c,rfl,e,p,n,j⟩
 .exact⟨a,c,by rw[e],U,fun i r=>U⟩
 .refine⟨_,c,rfl,U,fun i r=>?_⟩
  obtain⟨m,f,d⟩:=g i r;obtain⟨da,dc,rfl⟩:=sK d;exact⟨b,off,da,dc,rfl,j _ _ f,d⟩
def zz (v:ε) (n d) (w:β) (aI:ϭ w) (h:fN w v n d) (aw:∀ e∈d,L e.1<=100000) :
  Calls prog 230 #[v] w fun e w'=>e=ŗ (.bool (iC d))/\BQ w w':=by
 have X:=h.1;obtain⟨aN,a0,rfl,aS,aj⟩:=ic h;obtain⟨aa,ay⟩:=π X aw;have al:=Zh (fun(i:γ) am (aD:BQ w am) X=>xZ i am (aI.B aD) X);clear h aI X aw;go_enter func230,ntmps230;go_wp2;go_loopw [7] (fun ae wr=>∃ a:Nat,a<=n/\ae=G a/\Hid (∀ f (q:f<L d),f<a->lA d[f]=true)/\Hid (∀ f (q:f+1<L d),f+1<a->ltStr (d[f]' U).1 d[f+1].1=true)/\BQ w wr) (fun ae _=>n - (intOf ae).toNat)
 .exact⟨0,Ζ _,rfl,fun f q h=>U,fun f q h=>U,ρ _ _⟩
 obtain⟨a,aQ,rfl,ah,ai,K⟩:=hrel;have aH:=K.size;by_cases aR:a<n
 .have ad:a<L d:=ι aa.o
  obtain⟨a1,off,da,dc,rfl,c1,c2,Q⟩:=aj.o a ad;have aL:(a:Int)<(n:Int):=U;have aX:(0:Int)<=(a:Int):=U;have Y:=ay.o _ (Ψ ad);have E:Hid (lA d[a]=false->iC d=false):=Jr a ad;have u:=Zh (zJ d[a]);have ab:Hid (lA d[a]=true->∀ f (q:f<L d),f<a+1->lA d[f]=true):=fun g f q h=>by
   by_cases e:f=a
   .subst e;exact g
   .exact ah.o f q U
  have W:=ζ K c1;have V:=ζ K c2;have N:Hid (a=0\/ltStr (d[a - 1]' U).1 d[a].1=true->∀ f (q:f+1<L d),f+1<a+1->ltStr (d[f]' U).1 d[f+1].1=true):=fun g f q h=>by
   by_cases e:f+1=a
   .rcases g with g|g
    .omega
    .subst e;exact g
   .exact ai.o f q U
  have S:Hid (0<a->ltStr (d[a - 1]' U).1 d[a].1=false->iC d=false):=fun aP g=>by
   refine Js (a - 1) U ?_;simp only[show a - 1+1=a from U];exact g
  obtain⟨m,av⟩:∃ m,m=(d[a - 1]' U).1:=⟨_,rfl⟩;have ax:Hid (0<a->wr.cell? ⟨a1,off+(a - 1)*2,O⟩=J (Ϫ m)):=fun g=>by
   obtain⟨aO,aY,_,_,H,aC,_⟩:=aj.o (a - 1) U;simp only[Φ,Addr.mk.injEq,it]at H;obtain⟨rfl,rfl⟩:=H;rw[av];exact ζ K aC
  rw[<-av]at N S;obtain⟨⟨i,l⟩,aJ⟩:∃ x,x=d[a]:=⟨_,rfl⟩;rw[<-aJ]at W V Y E u ab Q N S;simp only at W V Y Q N S;obtain⟨k,aq⟩:∃ k,k=L l:=⟨_,rfl⟩;rw[<-aq]at V Q;have I:Hid (L l=k):=aq.symm;have ak:=Zh Q;clear aq aJ av c1 c2 Q;unfold Ϫ at W;have au:=φ wr (C #[š (δ i),D da k dc] 130);have P:(å wr (C #[š (δ i),D da k dc] 130)).cell? ⟨wr.heap.size,0,O⟩=J (š (δ i)):=by rw[ξ _ _ _ _ _ _ au];rfl
  have ap:(å wr (C #[š (δ i),D da k dc] 130)).cell? ⟨wr.heap.size,1,O⟩=J (D da k dc):=by rw[ξ _ _ _ _ _ _ au];rfl
  have c:BQ w (å wr (C #[š (δ i),D da k dc] 130)):=K.A aH _;have aF:BQ wr (å wr (C #[š (δ i),D da k dc] 130)):=ġ;clear au;rcases nK a with h0|h0
  .subst h0
   have Z:=Zh (N.o (.inl rfl));simp only[rj,kG]at W V;go_wp2_with fail
   generalize aE:(å wr _)=az at *;clear aE;go_wp2_with fail
   refine fY ?_;repeat (go_big_quiet_step (fail))
   refine gc fun y s=>?_;have aA:=ζ s P;have aB:=ζ s ap;have o:BQ w y:=c.t s;by_cases R:k=0
   .have t:lA (i,l)=false:=by
     rw[nf];intro g;exact(u.o.1 g).1 (lJ.1 (I.o.trans R))
    have j:=Zh (E.o t);clear t;go_wp2;go_ret;exact⟨by rw[j.o];rfl,o⟩
   .have aK:((k:Int)==0)=false:=fU.2 U
    have r:=Zh (tr _ k l y I.o (ak.o.B o));cases z:ge l with
    |false =>
     have t:lA (i,l)=false:=by
      rw[nf];intro g;have:=(u.o.1 g).2.1;rw[z]at this;cases this
     have j:=Zh (E.o t);rw[z]at r;clear t z;go_wp2_with (go_at_call 180;refine r.o.M ?_;rintro e w' ⟨rfl,rfl⟩)
     go_ret;exact⟨by rw[j.o];rfl,o⟩
    |true =>
     rw[z]at r;have p:=al.o i y o Y;cases A:iT i with
     |false =>
      have t:lA (i,l)=false:=by
       rw[nf];intro g;have:=(u.o.1 g).2.2;rw[A]at this;cases this
      have j:=Zh (E.o t);rw[A]at p;have F:=Zh p;clear t z A p;go_wp2_with (first|(go_at_call 180;refine r.o.M ?_;rintro e w' ⟨rfl,rfl⟩)|(go_at_call 167;refine F.o.M ?_;rintro e ag ⟨rfl,b⟩;have B:=o.t b))
      go_ret;exact⟨by rw[j.o];rfl,B⟩
     |true =>
      have ac:=u.o.2 ⟨fun e=>R (by have:=I.o;rw[show l=[]from e]at this;simpa using this.symm),z,A⟩;have j:=Zh (ab.o ac);rw[A]at p;have F:=Zh p;clear ac z A p;go_wp2_with (first|(go_at_call 180;refine r.o.M ?_;rintro e w' ⟨rfl,rfl⟩)|(go_at_call 167;refine F.o.M ?_;rintro e ag ⟨rfl,b⟩;have B:=o.t b))
      go_roundw
      .exact⟨ _,U,ϕ,j.o,Z.o,B⟩
      exact ω
  .have aG:=ax.o h0
   have T:=ζ aF aG;unfold Ϫ at T;have aW:¬(a:Int)<1:=U;have aU:(a:Int) - 1<(n:Int):=U;have aV:((a:Int) - 1).toNat=a - 1:=U;have aT:IntKind.i64.wrap ((a:Int) - 1)=(a:Int) - 1:=Ϗ;have af:=nX i m;have b1:=hN i;have b2:=hN m;clear aG;go_wp2_with fail
   generalize aE:(å wr _)=az at *;clear aE;cases M:ltStr m i with
   |true =>
    have Z:=Zh (N.o (.inr M));have ar:((δ i).toList==(δ m).toList)=false:=by
     rw[b1,b2,fU];rintro rfl;rw[swo_ltStr.irrefl]at M;cases M
    rw[swo_ltStr.asymmA M]at af;clear b1 b2 M;have ao:=Ι P;have an:=Ι T;go_wp2_with fail
    refine fY ?_;repeat (go_big_quiet_step (fail))
    refine gc fun y s=>?_;have aA:=ζ s P;clear ao an;have aB:=ζ s ap;have o:BQ w y:=c.t s;by_cases R:k=0
    .have t:lA (i,l)=false:=by
      rw[nf];intro g;exact(u.o.1 g).1 (lJ.1 (I.o.trans R))
     have j:=Zh (E.o t);clear t;go_wp2;go_ret;exact⟨by rw[j.o];rfl,o⟩
    .have aK:((k:Int)==0)=false:=fU.2 U
     have r:=Zh (tr _ k l y I.o (ak.o.B o));cases z:ge l with
     |false =>
      have t:lA (i,l)=false:=by
       rw[nf];intro g;have:=(u.o.1 g).2.1;rw[z]at this;cases this
      have j:=Zh (E.o t);rw[z]at r;clear t z;go_wp2_with (go_at_call 180;refine r.o.M ?_;rintro e w' ⟨rfl,rfl⟩)
      go_ret;exact⟨by rw[j.o];rfl,o⟩
     |true =>
      rw[z]at r;have p:=al.o i y o Y;cases A:iT i with
      |false =>
       have t:lA (i,l)=false:=by
        rw[nf];intro g;have:=(u.o.1 g).2.2;rw[A]at this;cases this
       have j:=Zh (E.o t);rw[A]at p;have F:=Zh p;clear t z A p;go_wp2_with (first|(go_at_call 180;refine r.o.M ?_;rintro e w' ⟨rfl,rfl⟩)|(go_at_call 167;refine F.o.M ?_;rintro e ag ⟨rfl,b⟩;have B:=o.t b))
       go_ret;exact⟨by rw[j.o];rfl,B⟩
      |true =>
       have ac:=u.o.2 ⟨fun e=>R (by have:=I.o;rw[show l=[]from e]at this;simpa using this.symm),z,A⟩;have j:=Zh (ab.o ac);rw[A]at p;have F:=Zh p;clear ac z A p;go_wp2_with (first|(go_at_call 180;refine r.o.M ?_;rintro e w' ⟨rfl,rfl⟩)|(go_at_call 167;refine F.o.M ?_;rintro e ag ⟨rfl,b⟩;have B:=o.t b))
       go_roundw
       .exact⟨ _,U,ϕ,j.o,Z.o,B⟩
       exact ω
   |false =>
    have j:=Zh (S.o h0 M);by_cases H:i=m
    .have ar:((δ i).toList==(δ m).toList)=true:=by rw[H];exact vU _
     have aM:Op.bytesLess (δ i).toList (δ m).toList=false:=by rw[af,H];exact swo_ltStr.irrefl _
     clear b1 b2 M H af
     have ao:=Ι P;have an:=Ι T;go_wp2_with fail
     refine fY ?_;repeat (go_big_quiet_step (fail))
     refine gc fun y s=>?_;clear ao an;go_wp2;go_ret;exact⟨by rw[j.o];rfl,c.t s⟩
    .have aM:Op.bytesLess (δ i).toList (δ m).toList=true:=by
      rw[af];cases h:ltStr i m with
      |true=>rfl
      |false=>exact absurd (rf i m h M) H
     have ar:((δ i).toList==(δ m).toList)=false:=by rw[b1,b2,fU];exact H
     clear b1 b2 M H af
     have ao:=Ι P;have an:=Ι T;go_wp2_with fail
     refine fY ?_;repeat (go_big_quiet_step (fail))
     refine gc fun y s=>?_;clear ao an;go_wp2;go_ret;exact⟨by rw[j.o];rfl,c.t s⟩
 .have aL:¬(a:Int)<(n:Int):=U
  have j:Hid (iC d=true):=CS (fun f q=>ah.o f q (ι aa.o)) (fun f q=>ai.o f q (ι aa.o));go_wp2;go_ret;exact⟨by rw[j.o];rfl,K⟩
def EU (v:ε) (Q:List (γ)) (a b) (w:β) (h:Ε w v Q) (F:L Q<=1000) (p:∀ d∈Q,L d<=2000) (y:a<=b) (z:b<=L Q) :
  Calls prog 282 #[v,ā #[G a,G b]] w fun e w'=>e=ŗ (.bool true)/\BQ w w':=by
 have j:BQ w (å w (C #[G a,G b] 89)):=ġ;have m:=φ w (C #[G a,G b] 89);have q:=h.B j;obtain⟨t,c,rfl,E,n⟩:=mr q;have P:(L Q:Int)<=1000:=U;have o:=Zh (fun f k=>p Q[f] (Ψ k));have I:(0:Int)<=(a:Int):=U;have K:(a:Int)<=(b:Int):=U;have M:(b:Int)<=(L Q:Int):=U;go_enter func282,ntmps282;go_wp2;generalize u:(å w _)=g at *;have A:g.cell? ⟨w.heap.size,0,O⟩=J (G a):=by rw[ξ _ _ _ _ _ _ m];rfl
 have B:g.cell? ⟨w.heap.size,1,O⟩=J (G b):=by rw[ξ _ _ _ _ _ _ m];rfl
 go_loopw [5] (fun i wr=>∃ (f:Nat),f<=L Q/\i=G f/\wr=g) (fun i _=>L Q - (intOf i).toNat)
 .exact⟨0,Ζ _,rfl,by first|rfl|trivial⟩
 obtain⟨f,k,rfl,rfl⟩:=hrel;by_cases l:f<L Q
 .obtain⟨b1,off,da,dc,rfl,c1,-⟩:=n.o f l
  have r:(f:Int)<(L Q:Int):=U;have N:(0:Int)<=(f:Int):=U;have x:=o.o f l;generalize (L Q[f])=s at *;have H:¬(2000:Int)<(s:Int):=U;go_wp2;go_roundw
  .exact⟨f+1,U,ϕ,by first|rfl|trivial⟩
  exact ω
 .have r:¬(f:Int)<(L Q:Int):=U
  go_wp2;go_ret;exact⟨rfl,j⟩
def NL (v:ε) (s:List (γ)) (a b) (w:β) (h:Ε w v s) (k:L s<=1000) (j:∀ d∈s,L d<=2000) (p:a<b) (i:b<=L s) :
  Calls prog 283 #[v,ā #[G a,G b]] w fun e w'=>e=ŗ (.bool true)/\BQ w w':=by
 have f:BQ w (å w (C #[G a,G b] 89)):=ġ;have l:=φ w (C #[G a,G b] 89);have g:=Zh (EU v s a b _ (h.B f) k j U i);have q:(a:Int)<(b:Int):=U;go_enter func283,ntmps283;go_wp2_with fail
 generalize o:(å w _)=m at *;obtain⟨⟨c0,c1⟩,-,-⟩:=ν l;go_wp2_with fail
 refine g.o.M ?_;rintro e r ⟨rfl,c⟩;have n:=ζ c c0;have d1:=ζ c c1;have hF:=f.t c;go_wp2;go_ret;exact⟨rfl,hF⟩
