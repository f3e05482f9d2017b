/- Part 8 of the proof. -/
import Derived.Test.YtpilfbcffofheaaGreatDoorm05
import Derived.Test.YtpilfbcffofheaaGreatDoorm07
set_option linter.unusedVariables false
set_option linter.unusedSimpArgs false
set_option maxRecDepth 100000
set_option maxHeartbeats 8000000
namespace Go.Proofs.YtpilfbcffofheaaGreatDoor
open Go.Proofs.Tryz Go.RowKit Go.Sort
open Option renaming some->J,none->O
open List renaming length->L
open Value renaming slice->D,agg->ā,string->š,int->ĭ,pointer->þ
open Obj renaming cells->C
open Ending renaming returned->ŗ
open World renaming alloc->å,setCell->ŝ
theorem qy (x y:γ):Op.bytesLess (δ x).toList (δ y).toList=ltStr x y:=by
 rw[hC,hC,bytesLess_eq];rfl
def Fq (w:β) (d:List υ) (b:List ε):Prop:=
 ∀ a (hi:a<L d),b[a*2]?=J (ϴ d[a].1)/\∃ c,b[a*2+1]?=J c/\Rd w c (L d[a].2) 1 (τ d[a].2)
def fY (w:β) (v:ε) (n:Nat) (d:List υ):Prop:=L d=n/\∃ a,Rd w v n 2 a/\Fq w d a
theorem fY.below {w w':β} {v:ε} {n:Nat} {d:List υ} (h:fY w v n d) (a:BQ w w'):fY w' v n d:=by
 obtain⟨k,b,i,j⟩:=h;refine⟨k,b,i.below a,fun l hi=>?_⟩;obtain⟨e,c,f,g⟩:=j l hi;exact⟨e,c,f,g.below a⟩
theorem iF {w:β} {v:ε} {n:Nat} {d:List υ} (h:fY w v n d) :
  ∃ e c,v=D e n c/\n<=9223372036854775807/\Hid (∀ i (hi:i<L d),∃ b off da dc,e=J ⟨b,off,O⟩/\w.cell? ⟨b,off+i*2,O⟩=J (ϴ d[i].1)/\w.cell? ⟨b,off+i*2+1,O⟩=J (D da (L d[i].2) dc)/\Rd w (D da (L d[i].2) dc) (L d[i].2) 1 (τ d[i].2)):=by
 obtain⟨u,r,⟨s,k,q⟩,p⟩:=h;rcases q with ⟨e,c,rfl,g⟩|⟨b,off,c,rfl,g,x,t,j⟩
 .exact⟨e,c,by rw[g],by unfold maxLen at k;omega,fun i hi=>ϊ⟩
 .refine⟨_,c,rfl,by unfold maxLen at k;omega,fun i hi=>?_⟩
  obtain⟨m,l,o,f⟩:=p i hi;obtain⟨da,dc,rfl⟩:∃ da dc,l=D da (L d[i].2) dc:=by
   obtain⟨a,c,h,-⟩:=jQ rfl f;exact⟨a,c,h⟩
  exact⟨b,off,da,dc,rfl,j _ _ m,by rw[iW];exact j _ _ o,f⟩
theorem EN (f t:Int) (w:β):Calls prog 306 #[ā #[IZ f,IZ t]] w fun e w'=>e=ŗ (.bool (ly f t))/\BQ w w':=by
 have g:BQ w (å w (C #[IZ f,IZ t] 89)):=ġ;by_cases b:0<=f
 .by_cases c:f<t
  .by_cases d:t<=1000
   .have a:Hid (ly f t=true):=by show _=_;simp[ly,b,c,d]
    go_enter func306,ntmps306;go_wp2;go_ret;exact⟨by rw[a.o];first|rfl|simp[b,c,d],g⟩
   .have a:Hid (ly f t=false):=by show _=_;simp[ly,d]
    go_enter func306,ntmps306;go_wp2;go_ret;exact⟨by rw[a.o];first|rfl|simp[b,c,d],g⟩
  .have a:Hid (ly f t=false):=by show _=_;simp[ly,c]
   go_enter func306,ntmps306;go_wp2;go_ret;exact⟨by rw[a.o];first|rfl|simp[b,c],g⟩
 .have a:Hid (ly f t=false):=by show _=_;simp[ly,b]
  go_enter func306,ntmps306;go_wp2;go_ret;exact⟨by rw[a.o];first|rfl|simp[b],g⟩
theorem Mn (I K:ε) (n m:Nat) (x y:List Int) (w:β) (t:L x=n) (hy:L y=m) (A:Rd w I n 1 (τ x)) (B:Rd w K m 1 (τ y)) :
  Calls prog 24 #[I,K] w fun e w'=>e=ŗ (.bool (x==y))/\BQ w w':=by
 obtain⟨U,c,rfl,aa,M⟩:=jQ t A;obtain⟨V,X,rfl,ab,N⟩:=jQ hy B;have H:prog.follows .mixedOrders=true:=ϋ;have f:=Zh (Γ t hy);clear A B t hy;by_cases i:n=m
 .have S:((n:Int) !=(m:Int))=false:=by rw[i];simp
  have p:=Zh i;clear i;go_enter func24,ntmps24;go_wp2;go_loopw [5] (fun u wr=>∃ (a:Nat),a<=n/\u=IZ a/\Hid (x.take a=y.take a)/\BQ w wr) (fun u _=>n - (intOf u).toNat)
  case atStart=>exact⟨0,Ι _,rfl,rfl,φ _ _⟩
  case round =>
   obtain⟨a,Y,rfl,v,d⟩:=hrel;by_cases Z:a<n
   .have E:a<L x:=by have:=f.o.1;omega
    have F:a<L y:=by have:=f.o.2;have:=p.o;omega
    obtain⟨b,off,rfl,c1⟩:=M.o a E;obtain⟨W,ag,rfl,c2⟩:=N.o a F;have r1:=ϻ (ζ d c1);have r2:=ϻ (ζ d c2);have z:Hid (x.take (a+1)=x.take a++[x[a]]/\y.take (a+1)=y.take a++[y[a]]):=⟨kD E,kD F⟩;have Q:Hid (x[a]≠y[a]->x≠y):=fun h e=>h (by subst e;rfl);have ac:(a:Int)<(n:Int):=ϊ;have ad:(0:Int)<=(a:Int):=ϊ;have ae:(a:Int)<(m:Int):=by have:=p.o;omega
    generalize x[a]=l at *;generalize y[a]=q at *;clear c1 c2;by_cases k:l=q
    .subst k
     have T:(l !=l)=false:=ύ;go_wp2_with fail
     refine jj H ϋ ?_;repeat (go_big_quiet_step (fail))
     refine jk ?_;intro R s;obtain⟨⟨r,osq⟩,j⟩:=s;have g:=d.trans ((jl wr r osq).mono d.size);rw[<-j]at g;clear j r1 r2;go_wp2;go_roundw;case rel=>exact⟨a+1,ϊ,ϕ,by show _=_;rw[z.o.1,z.o.2,v.o],g⟩
     case measure=>simp[intOf];omega
    .have T:(l !=q)=true:=by rw[bne_iff_ne];exact k
     have o:=Zh k;clear k;go_wp2_with fail
     refine jj H ϋ ?_;repeat (go_big_quiet_step (fail))
     refine jk ?_;intro R s;obtain⟨⟨r,osq⟩,j⟩:=s;have g:=d.trans ((jl wr r osq).mono d.size);rw[<-j]at g;clear j r1 r2;go_wp2;go_ret;exact⟨kS (by symm;simpa using Q.o o.o),g⟩
   .have G:x=y:=by
     have:=v.o;rw[gW (by have:=f.o.1;omega),gW (by have:=f.o.2;have:=p.o;omega)]at this;exact this
    have af:¬(a:Int)<(n:Int):=ϊ;have P:=Zh G;clear G;go_wp2;go_ret;exact⟨kS (by rw[P.o];simp),d⟩
 .have S:((n:Int) !=(m:Int))=true:=by rw[bne_iff_ne];omega
  have o:Hid ((x==y)=false):=by
   show _=_;rw[gl];rintro rfl;exact i (f.o.1.symm.trans f.o.2)
  clear i;go_enter func24,ntmps24;go_wp2;go_ret;exact⟨by rw[o.o];rfl,φ _ _⟩
theorem yd (v:ε) (n:Nat) (d:List υ) (w:β) (aE:Ϩ w) (h:fY w v n d) (aF:∀ e∈d,L e.1<=100000) :
  Calls prog 230 #[v] w fun e w'=>e=ŗ (.bool (iq d))/\BQ w w':=by
 have af:=h.1;obtain⟨aR,c,rfl,aW,ax⟩:=iF h;have ah:prog.follows .mixedOrders=true:=ϋ;have aj:=Zh af;have aI:=Zh aF;have az:=Zh (fun(f:γ) aA (aM:BQ w aA) (af:L f<=100000)=>wB f aA (aE.below aM) af);clear h af aE aF;go_enter func230,ntmps230;go_wp2;go_loopw [7] (fun aq wr=>∃ a:Nat,a<=n/\aq=IZ a/\Hid (∀ i (t:i<L d),i<a->kh d[i]=true)/\Hid (∀ i (t:i+1<L d),i+1<a->ltStr (d[i]' ϊ).1 d[i+1].1=true)/\BQ w wr) (fun aq _=>n - (intOf aq).toNat)
 case atStart=>exact⟨0,Ι _,rfl,fun i t h=>ϊ,fun i t h=>ϊ,φ _ _⟩
 case round =>
  obtain⟨a,aU,rfl,av,aw,S⟩:=hrel;have aO:=S.size;by_cases aV:a<n
  .have am:a<L d:=by have:=aj.o;omega
   obtain⟨b,off,da,dc,rfl,c1,c2,Y⟩:=ax.o a am;have aP:(a:Int)<(n:Int):=ϊ;have a3:(0:Int)<=(a:Int):=ϊ;have ag:=aI.o d[a] (Χ am);have I:Hid (kh d[a]=false->iq d=false):=Ht a am;have A:=Zh (ym d[a]);have ak:Hid (kh d[a]=true->∀ i (t:i<L d),i<a+1->kh d[i]=true):=fun g i t h=>by
    by_cases e:i=a
    .subst e;exact g
    .exact av.o i t ϊ
   have ae:=ζ S c1;have ad:=ζ S c2;have T:Hid (a=0\/ltStr (d[a - 1]' ϊ).1 d[a].1=true->∀ i (t:i+1<L d),i+1<a+1->ltStr (d[i]' ϊ).1 d[i+1].1=true):=fun g i t h=>by
    by_cases e:i+1=a
    .rcases g with g|g
     .omega
     .subst e;exact g
    .exact aw.o i t ϊ
   have ab:Hid (0<a->ltStr (d[a - 1]' ϊ).1 d[a].1=false->iq d=false):=fun aT g=>by
    refine Hu (a - 1) ϊ ?_;simp only[show a - 1+1=a from ϊ];exact g
   obtain⟨r,ap⟩:∃ r,r=(d[a - 1]' ϊ).1:=⟨_,rfl⟩;have aH:Hid (0<a->wr.cell? ⟨b,off+(a - 1)*2,O⟩=J (ϴ r)):=fun g=>by
    obtain⟨aS,a4,_,_,E,aL,_⟩:=ax.o (a - 1) ϊ;simp only[Ο,Addr.mk.injEq,hR]at E;obtain⟨rfl,rfl⟩:=E;rw[ap];exact ζ S aL
   rw[<-ap]at T ab;obtain⟨⟨f,o⟩,aG⟩:∃ x,x=d[a]:=⟨_,rfl⟩;rw[<-aG]at ae ad ag I A ak Y T ab;simp only at ae ad ag Y T ab;obtain⟨j,an⟩:∃ j,j=L o:=⟨_,rfl⟩;rw[<-an]at ad Y;have R:Hid (L o=j):=an.symm;have ay:=Zh Y;clear an Y aG ap c1 c2;unfold ϴ at ae;have ao:=χ wr (C #[š (δ f),D da j dc] 130);have W:(å wr (C #[š (δ f),D da j dc] 130)).cell? ⟨wr.heap.size,0,O⟩=J (š (δ f)):=by rw[ν _ _ _ _ _ _ ao];rfl
   have aB:(å wr (C #[š (δ f),D da j dc] 130)).cell? ⟨wr.heap.size,1,O⟩=J (D da j dc):=by rw[ν _ _ _ _ _ _ ao];rfl
   have G:BQ w (å wr (C #[š (δ f),D da j dc] 130)):=S.alloc aO _;have aN:BQ wr (å wr (C #[š (δ f),D da j dc] 130)):=ġ;clear ao;rcases oj a with h0|h0
   .subst h0
    have ai:=Zh (T.o (.inl rfl));simp only[pL,kW]at ae ad;go_wp2_with fail
    generalize al:(å wr (C #[š (δ f),D da j dc] 130))=U at *;clear al;go_wp2_with fail
    refine jj ah ϋ ?_;repeat (go_big_quiet_step (fail))
    refine jk ?_;intro B Q;obtain⟨⟨M,osq⟩,z⟩:=Q;have p:=jl U M osq;rw[<-z]at p;clear z;have aJ:=ζ p W;have aK:=ζ p aB;have l:BQ w B:=G.trans (p.mono G.size);by_cases P:j=0
    .have ar:((j:Int)==0)=true:=by rw[P];rfl
     have m:kh (f,o)=false:=by
      rw[nk];intro g;exact(A.o.1 g).1 (lM.1 (R.o.trans P))
     have k:=Zh (I.o m);clear m;go_wp2;go_ret;exact⟨by rw[k.o];rfl,l⟩
    .have ar:((j:Int)==0)=false:=gl.2 ϊ
     have y:=Zh (rJ (D da j dc) j o B R.o (ay.o.below l));cases q:fT o with
     |false =>
      have m:kh (f,o)=false:=by
       rw[nk];intro g;have:=(A.o.1 g).2.1;rw[q]at this;cases this
      have k:=Zh (I.o m);rw[q]at y;clear m q;go_wp2_with (go_at_call 180;refine y.o.mono ?_;rintro e w' ⟨rfl,rfl⟩)
      go_ret;exact⟨by rw[k.o];rfl,l⟩
     |true =>
      rw[q]at y;have s:=az.o f B l ag;cases u:it f with
      |false =>
       have m:kh (f,o)=false:=by
        rw[nk];intro g;have:=(A.o.1 g).2.2;rw[u]at this;cases this
       have k:=Zh (I.o m);rw[u]at s;have K:=Zh s;clear m q u s;go_wp2_with (first|(go_at_call 180;refine y.o.mono ?_;rintro e w' ⟨rfl,rfl⟩)|(go_at_call 167;refine K.o.mono ?_;rintro e au ⟨rfl,N⟩;have H:=l.trans (N.mono l.size)))
       go_ret;exact⟨by rw[k.o];rfl,H⟩
      |true =>
       have Z:kh (f,o)=true:=A.o.2 ⟨fun e=>P (by have:=R.o;rw[show o=[]from e]at this;simpa using this.symm),q,u⟩;have k:=Zh (ak.o Z);rw[u]at s;have K:=Zh s;clear Z q u s;go_wp2_with (first|(go_at_call 180;refine y.o.mono ?_;rintro e w' ⟨rfl,rfl⟩)|(go_at_call 167;refine K.o.mono ?_;rintro e au ⟨rfl,N⟩;have H:=l.trans (N.mono l.size)))
       go_roundw;case rel=>exact⟨0+1,ϊ,ϕ,k.o,ai.o,H⟩
       case measure=>simp[intOf];omega
   .have aC:=aH.o h0
    have ac:=ζ aN aC;unfold ϴ at ac;have aY:(0:Int)<(a:Int):=ϊ;have a2:¬(a:Int)<1:=ϊ;have aZ:(0:Int)<=(a:Int) - 1:=ϊ;have a0:(a:Int) - 1<(n:Int):=ϊ;have a1:((a:Int) - 1).toNat=a - 1:=ϊ;have aX:IntKind.i64.wrap ((a:Int) - 1)=(a:Int) - 1:=Ϗ;have aa:=qy f r;have b1:=hC f;have b2:=hC r;clear aC;go_wp2_with fail
    generalize al:(å wr (C #[š (δ f),D da j dc] 130))=U at *;clear al;cases F:ltStr r f with
    |true =>
     have ai:=Zh (T.o (.inr F));have aD:((δ f).toList==(δ r).toList)=false:=by
      rw[b1,b2,gl];rintro rfl;rw[swo_ltStr.irrefl]at F;cases F
     rw[swo_ltStr.asymmA F]at aa;clear b1 b2 F;have X:=ϻ W;have V:=ϻ ac;go_wp2_with fail
     refine jj ah ϋ ?_;repeat (go_big_quiet_step (fail))
     refine jk ?_;intro B Q;obtain⟨⟨M,osq⟩,z⟩:=Q;have p:=jl U M osq;rw[<-z]at p;clear z X V;have aJ:=ζ p W;have aK:=ζ p aB;have l:BQ w B:=G.trans (p.mono G.size);by_cases P:j=0
     .have ar:((j:Int)==0)=true:=by rw[P];rfl
      have m:kh (f,o)=false:=by
       rw[nk];intro g;exact(A.o.1 g).1 (lM.1 (R.o.trans P))
      have k:=Zh (I.o m);clear m;go_wp2;go_ret;exact⟨by rw[k.o];rfl,l⟩
     .have ar:((j:Int)==0)=false:=gl.2 ϊ
      have y:=Zh (rJ (D da j dc) j o B R.o (ay.o.below l));cases q:fT o with
      |false =>
       have m:kh (f,o)=false:=by
        rw[nk];intro g;have:=(A.o.1 g).2.1;rw[q]at this;cases this
       have k:=Zh (I.o m);rw[q]at y;clear m q;go_wp2_with (go_at_call 180;refine y.o.mono ?_;rintro e w' ⟨rfl,rfl⟩)
       go_ret;exact⟨by rw[k.o];rfl,l⟩
      |true =>
       rw[q]at y;have s:=az.o f B l ag;cases u:it f with
       |false =>
        have m:kh (f,o)=false:=by
         rw[nk];intro g;have:=(A.o.1 g).2.2;rw[u]at this;cases this
        have k:=Zh (I.o m);rw[u]at s;have K:=Zh s;clear m q u s;go_wp2_with (first|(go_at_call 180;refine y.o.mono ?_;rintro e w' ⟨rfl,rfl⟩)|(go_at_call 167;refine K.o.mono ?_;rintro e au ⟨rfl,N⟩;have H:=l.trans (N.mono l.size)))
        go_ret;exact⟨by rw[k.o];rfl,H⟩
       |true =>
        have Z:kh (f,o)=true:=A.o.2 ⟨fun e=>P (by have:=R.o;rw[show o=[]from e]at this;simpa using this.symm),q,u⟩;have k:=Zh (ak.o Z);rw[u]at s;have K:=Zh s;clear Z q u s;go_wp2_with (first|(go_at_call 180;refine y.o.mono ?_;rintro e w' ⟨rfl,rfl⟩)|(go_at_call 167;refine K.o.mono ?_;rintro e au ⟨rfl,N⟩;have H:=l.trans (N.mono l.size)))
        go_roundw;case rel=>exact⟨a+1,ϊ,ϕ,k.o,ai.o,H⟩
        case measure=>simp[intOf];omega
    |false =>
     have k:=Zh (ab.o h0 F);by_cases E:f=r
     .have aD:((δ f).toList==(δ r).toList)=true:=by rw[E];exact un _
      have aQ:Op.bytesLess (δ f).toList (δ r).toList=false:=by rw[aa,E];exact swo_ltStr.irrefl _
      clear b1 b2 F E aa;have X:=ϻ W;have V:=ϻ ac;go_wp2_with fail
      refine jj ah ϋ ?_;repeat (go_big_quiet_step (fail))
      refine jk ?_;intro B Q;obtain⟨⟨M,osq⟩,z⟩:=Q;have p:=jl U M osq;rw[<-z]at p;clear z X V;go_wp2;go_ret;exact⟨by rw[k.o];rfl,G.trans (p.mono G.size)⟩
     .have aQ:Op.bytesLess (δ f).toList (δ r).toList=true:=by
       rw[aa];cases h:ltStr f r with
       |true=>rfl
       |false=>exact absurd (pJ f r h F) E
      have aD:((δ f).toList==(δ r).toList)=false:=by rw[b1,b2,gl];exact E
      clear b1 b2 F E aa;have X:=ϻ W;have V:=ϻ ac;go_wp2_with fail
      refine jj ah ϋ ?_;repeat (go_big_quiet_step (fail))
      refine jk ?_;intro B Q;obtain⟨⟨M,osq⟩,z⟩:=Q;have p:=jl U M osq;rw[<-z]at p;clear z X V;go_wp2;go_ret;exact⟨by rw[k.o];rfl,G.trans (p.mono G.size)⟩
  .have aP:¬(a:Int)<(n:Int):=ϊ
   have k:Hid (iq d=true):=By (fun i t=>av.o i t (by have:=aj.o;omega)) (fun i t=>aw.o i t (by have:=aj.o;omega));go_wp2;go_ret;exact⟨by rw[k.o];rfl,S⟩
def ij (s:S8) (b:γ):S8×γ:=if L b<64 then(s,b)else ij (oG s (b.take 64)) (b.drop 64)
 termination_by (L b)
 decreasing_by simp;omega
theorem yV (s:S8) {b:γ} (h:L b<64):ij s b=(s,b):=by rw[ij,μ h]
theorem Ds (s:S8) {b:γ} (h:64<=L b):ij s b=ij (oG s (b.take 64)) (b.drop 64):=by rw[ij,κ ϊ]
theorem yW (n:Nat):∀ (s:S8) (b:γ),L b<=n->s.ok->(ij s b).1.ok/\L (ij s b).2=L b % 64:=by
 induction n with
 |zero =>
  intro s b h a;rw[yV s ϊ];exact⟨a,by show L b=_;omega⟩
 |succ n d =>
  intro s b h a;by_cases c:L b<64
  .rw[yV s c];exact⟨a,by show L b=_;omega⟩
  .rw[Ds s ϊ]
   have:=d (oG s (b.take 64)) (b.drop 64) ό (Ar _ _);refine⟨this.1,?_⟩;rw[this.2,gb];omega
theorem vQ {w:β} {b off c n k:Nat} {l:γ} (h:Rd w (D (J ⟨b,off,O⟩) n c) n 1 (η l)) (s:k<=n):Rd w (D (J ⟨b,off,O⟩) k c) k 1 (η (l.take k)):=by
 obtain⟨f,u,j⟩:=h;have t:L l=n:=by simpa[η] using f
 refine⟨by simp[η];omega,ϊ,?_⟩;by_cases m:k=0
 .subst m;exact .inl ⟨_,_,rfl,rfl⟩
 .rcases j with ⟨q,d,a,e⟩|⟨r,x,d,a,e,v,i,g⟩
  .omega
  .simp only[Ξ,Ο,Addr.mk.injEq,hR,Ϯ]at a
   obtain⟨⟨rfl,rfl⟩,rfl⟩:=a;refine .inr ⟨b,off,c,rfl,ϊ,ϊ,i,fun o p hi=>g o p ?_⟩;simp only[η,List.map_take,hP]at hi ⊢;split at hi
   .exact hi
   .cases hi
theorem vO {w:β} {b off c n k:Nat} {l:γ} (h:Rd w (D (J ⟨b,off,O⟩) n c) n 1 (η l)) (s:k<=n):Rd w (D (J ⟨b,off+k,O⟩) (n - k) (c - k)) (n - k) 1 (η (l.drop k)):=by
 obtain⟨f,u,i⟩:=h;have t:L l=n:=by simpa[η] using f
 refine⟨by simp[η];omega,ϊ,?_⟩;by_cases j:n - k=0
 .rw[j];exact .inl ⟨_,_,rfl,rfl⟩
 .rcases i with ⟨p,d,a,e⟩|⟨q,x,d,a,e,v,r,g⟩
  .omega
  .simp only[Ξ,Ο,Addr.mk.injEq,hR,Ϯ]at a
   obtain⟨⟨rfl,rfl⟩,rfl⟩:=a;refine .inr ⟨b,off+k,c - k,rfl,ϊ,ϊ,ϊ,fun m o hi=>?_⟩;rw[iW];refine g (k+m) o ?_;simpa[η] using hi
theorem pC {w:β} (a:Option Addr) (c:Nat):Rd w (D a 0 c) 0 1 (η []):=⟨rfl,ώ,.inl ⟨_,_,rfl,rfl⟩⟩
theorem tb {w:β} {d:Option Addr} {n c:Nat} {f:List ε} (h:Rd w (D d n c) n 1 f) (m:0<n):∃ b off,d=J ⟨b,off,O⟩/\n<=c/\c<=maxLen:=by
 obtain⟨-,-,⟨k,e,a,g⟩|⟨l,o,e,a,g,j,i,-⟩⟩:=h
 .omega
 .simp only[Ξ,Ϯ]at a
  obtain⟨rfl,rfl⟩:=a;exact⟨_,_,rfl,j,i⟩
theorem DN {w:β} {g:Nat} {T:TypeId} {r q p o m l j i:ε} (h:w.heap[g]?=J (C #[r,q,p,o,m,l,j,i] T (0,0))) (a b c d e f k n:Int) :
  (ŝ (ŝ (ŝ (ŝ (ŝ (ŝ (ŝ (ŝ w ⟨g,0,O⟩ (ĭ .u32 a)) ⟨g,1,O⟩ (ĭ .u32 b)) ⟨g,2,O⟩ (ĭ .u32 c)) ⟨g,3,O⟩ (ĭ .u32 d)) ⟨g,4,O⟩ (ĭ .u32 e)) ⟨g,5,O⟩ (ĭ .u32 f)) ⟨g,6,O⟩ (ĭ .u32 k)) ⟨g,7,O⟩ (ĭ .u32 n)).heap[g]?=J (C #[ĭ .u32 a,ĭ .u32 b,ĭ .u32 c,ĭ .u32 d,ĭ .u32 e,ĭ .u32 f,ĭ .u32 k,ĭ .u32 n] T (0,0)):=by
 have s:(ŝ w ⟨g,0,O⟩ (ĭ .u32 a)).heap[g]?=J (C #[ĭ .u32 a,q,p,o,m,l,j,i] T (0,0)):=π _ g 0 _ _ (ĭ .u32 a) h;have t:(ŝ (ŝ w ⟨g,0,O⟩ (ĭ .u32 a)) ⟨g,1,O⟩ (ĭ .u32 b)).heap[g]?=J (C #[ĭ .u32 a,ĭ .u32 b,p,o,m,l,j,i] T (0,0)):=π _ g 1 _ _ (ĭ .u32 b) s;have u:(ŝ (ŝ (ŝ w ⟨g,0,O⟩ (ĭ .u32 a)) ⟨g,1,O⟩ (ĭ .u32 b)) ⟨g,2,O⟩ (ĭ .u32 c)).heap[g]?=J (C #[ĭ .u32 a,ĭ .u32 b,ĭ .u32 c,o,m,l,j,i] T (0,0)):=π _ g 2 _ _ (ĭ .u32 c) t;have v:(ŝ (ŝ (ŝ (ŝ w ⟨g,0,O⟩ (ĭ .u32 a)) ⟨g,1,O⟩ (ĭ .u32 b)) ⟨g,2,O⟩ (ĭ .u32 c)) ⟨g,3,O⟩ (ĭ .u32 d)).heap[g]?=J (C #[ĭ .u32 a,ĭ .u32 b,ĭ .u32 c,ĭ .u32 d,m,l,j,i] T (0,0)):=π _ g 3 _ _ (ĭ .u32 d) u;have x:(ŝ (ŝ (ŝ (ŝ (ŝ w ⟨g,0,O⟩ (ĭ .u32 a)) ⟨g,1,O⟩ (ĭ .u32 b)) ⟨g,2,O⟩ (ĭ .u32 c)) ⟨g,3,O⟩ (ĭ .u32 d)) ⟨g,4,O⟩ (ĭ .u32 e)).heap[g]?=J (C #[ĭ .u32 a,ĭ .u32 b,ĭ .u32 c,ĭ .u32 d,ĭ .u32 e,l,j,i] T (0,0)):=π _ g 4 _ _ (ĭ .u32 e) v;have y:(ŝ (ŝ (ŝ (ŝ (ŝ (ŝ w ⟨g,0,O⟩ (ĭ .u32 a)) ⟨g,1,O⟩ (ĭ .u32 b)) ⟨g,2,O⟩ (ĭ .u32 c)) ⟨g,3,O⟩ (ĭ .u32 d)) ⟨g,4,O⟩ (ĭ .u32 e)) ⟨g,5,O⟩ (ĭ .u32 f)).heap[g]?=J (C #[ĭ .u32 a,ĭ .u32 b,ĭ .u32 c,ĭ .u32 d,ĭ .u32 e,ĭ .u32 f,j,i] T (0,0)):=π _ g 5 _ _ (ĭ .u32 f) x;have z:(ŝ (ŝ (ŝ (ŝ (ŝ (ŝ (ŝ w ⟨g,0,O⟩ (ĭ .u32 a)) ⟨g,1,O⟩ (ĭ .u32 b)) ⟨g,2,O⟩ (ĭ .u32 c)) ⟨g,3,O⟩ (ĭ .u32 d)) ⟨g,4,O⟩ (ĭ .u32 e)) ⟨g,5,O⟩ (ĭ .u32 f)) ⟨g,6,O⟩ (ĭ .u32 k)).heap[g]?=J (C #[ĭ .u32 a,ĭ .u32 b,ĭ .u32 c,ĭ .u32 d,ĭ .u32 e,ĭ .u32 f,ĭ .u32 k,i] T (0,0)):=π _ g 6 _ _ (ĭ .u32 k) y;have A:(ŝ (ŝ (ŝ (ŝ (ŝ (ŝ (ŝ (ŝ w ⟨g,0,O⟩ (ĭ .u32 a)) ⟨g,1,O⟩ (ĭ .u32 b)) ⟨g,2,O⟩ (ĭ .u32 c)) ⟨g,3,O⟩ (ĭ .u32 d)) ⟨g,4,O⟩ (ĭ .u32 e)) ⟨g,5,O⟩ (ĭ .u32 f)) ⟨g,6,O⟩ (ĭ .u32 k)) ⟨g,7,O⟩ (ĭ .u32 n)).heap[g]?=J (C #[ĭ .u32 a,ĭ .u32 b,ĭ .u32 c,ĭ .u32 d,ĭ .u32 e,ĭ .u32 f,ĭ .u32 k,ĭ .u32 n] T (0,0)):=π _ g 7 _ _ (ĭ .u32 n) z;exact A
theorem AH {b:Nat} {a w:β} {g:Nat} (h:Below b a w) (hg:b<=g) (c d e f i j k l:Int) :
  Below b a (ŝ (ŝ (ŝ (ŝ (ŝ (ŝ (ŝ (ŝ w ⟨g,0,O⟩ (ĭ .u32 c)) ⟨g,1,O⟩ (ĭ .u32 d)) ⟨g,2,O⟩ (ĭ .u32 e)) ⟨g,3,O⟩ (ĭ .u32 f)) ⟨g,4,O⟩ (ĭ .u32 i)) ⟨g,5,O⟩ (ĭ .u32 j)) ⟨g,6,O⟩ (ĭ .u32 k)) ⟨g,7,O⟩ (ĭ .u32 l)):=
 (((((((h.setCell hg _).setCell hg _).setCell hg _).setCell hg _).setCell hg _).setCell hg _).setCell hg _).setCell hg _
theorem Ko (w:β) (g k:Nat) (a:k≠g) (b c d e f h i j:Int) :
  (ŝ (ŝ (ŝ (ŝ (ŝ (ŝ (ŝ (ŝ w ⟨g,0,O⟩ (ĭ .u32 b)) ⟨g,1,O⟩ (ĭ .u32 c)) ⟨g,2,O⟩ (ĭ .u32 d)) ⟨g,3,O⟩ (ĭ .u32 e)) ⟨g,4,O⟩ (ĭ .u32 f)) ⟨g,5,O⟩ (ĭ .u32 h)) ⟨g,6,O⟩ (ĭ .u32 i)) ⟨g,7,O⟩ (ĭ .u32 j)).heap[k]?=w.heap[k]?:=by
 rw[ψ _ _ _ _ a,ψ _ _ _ _ a,ψ _ _ _ _ a,ψ _ _ _ _ a,ψ _ _ _ _ a,ψ _ _ _ _ a,ψ _ _ _ _ a,ψ _ _ _ _ a]
theorem gf {P:Program} {b:Func} {p u:Tmp} {ty:TypeId} (h:b.results=#[.cell p ty,.tmp u]) (tmps:Array ε) (w:β) (g:Nat) (t:TypeId) (a:Array ε) (c:Nat×Nat) (d:TypeDesc)
  (f:tmps.getD p undef=þ (J ⟨g,0,O⟩)) (hg:w.heap[g]?=J (C a t c))
  (j:P.underlying ty=J d) (e:(match d with|.struct _|.array _ _=>true|_=>false)=true) (hi:(P.info? ty).map (·.size)=J a.size) :
  (results b tmps).run P w=.ok (.tuple #[ā a,tmps.getD u undef]) w:=by
 have i:tmps[p]?.getD undef=þ (J ⟨g,0,O⟩):=by simpa using f
 simp[results,h,i,asAddr,uk w g t ty a c d hg j e hi]
def FD (s:S8) (b:γ) (w:β) (e:Ending) (w':β):Prop:= ∃ a c,e=ŗ (.tuple #[ā (ij s b).1.cells,D a (L (ij s b).2) c])/\Rd w' (D a (L (ij s b).2) c) (L (ij s b).2) 1 (η (ij s b).2)/\Below w.heap.size w w'
theorem Ec (j k l m o q r t:Int) (aV:(S8.mk j k l m o q r t).ok) (ay:Option Addr) (n az:Nat) (b:γ) (w:β) (aR:L b=n) (bt:n<=1099511627776) (aW:Rd w (D ay n az) n 1 (η b)) (aZ:Ϡ w) :
  Calls prog 278 #[ā #[ĭ .u32 j,ĭ .u32 k,ĭ .u32 l,ĭ .u32 m,ĭ .u32 o,ĭ .u32 q,ĭ .u32 r,ĭ .u32 t],D ay n az] w (FD ⟨j,k,l,m,o,q,r,t⟩ b w):=by
 have bw:prog.follows .mixedOrders=true:=ϋ;have a7:=Zh aW;have a9:=Zh aZ;have a5:=Zh aV;have a3:=Zh aR;clear aW aZ aV aR;go_enter func278,ntmps278;go_wp2_with fail
 have aB:BQ w (å w (C #[ĭ .u32 j,ĭ .u32 k,ĭ .u32 l,ĭ .u32 m,ĭ .u32 o,ĭ .u32 q,ĭ .u32 r,ĭ .u32 t] 315)):=ġ;have aU:=χ w (C #[ĭ .u32 j,ĭ .u32 k,ĭ .u32 l,ĭ .u32 m,ĭ .u32 o,ĭ .u32 q,ĭ .u32 r,ĭ .u32 t] 315);have aE:(å w (C #[ĭ .u32 j,ĭ .u32 k,ĭ .u32 l,ĭ .u32 m,ĭ .u32 o,ĭ .u32 q,ĭ .u32 r,ĭ .u32 t] 315)).heap.size=w.heap.size+1:=ύ;generalize(å w (C #[ĭ .u32 j,ĭ .u32 k,ĭ .u32 l,ĭ .u32 m,ĭ .u32 o,ĭ .u32 q,ĭ .u32 r,ĭ .u32 t] 315))=X at *;have aC:BQ X (å X (C #[ĭ .u32 0,ĭ .u32 0,ĭ .u32 0,ĭ .u32 0,ĭ .u32 0,ĭ .u32 0,ĭ .u32 0,ĭ .u32 0] 315)):=ġ;have aD:=χ X (C #[ĭ .u32 0,ĭ .u32 0,ĭ .u32 0,ĭ .u32 0,ĭ .u32 0,ĭ .u32 0,ĭ .u32 0,ĭ .u32 0] 315);have aY:(å X (C #[ĭ .u32 0,ĭ .u32 0,ĭ .u32 0,ĭ .u32 0,ĭ .u32 0,ĭ .u32 0,ĭ .u32 0,ĭ .u32 0] 315)).heap.size=w.heap.size+2:=by simp[aE]
 generalize(å X (C #[ĭ .u32 0,ĭ .u32 0,ĭ .u32 0,ĭ .u32 0,ĭ .u32 0,ĭ .u32 0,ĭ .u32 0,ĭ .u32 0] 315))=ax at *;have a4:Hid (ax.heap[w.heap.size]?=J (C #[ĭ .u32 j,ĭ .u32 k,ĭ .u32 l,ĭ .u32 m,ĭ .u32 o,ĭ .u32 q,ĭ .u32 r,ĭ .u32 t] 315 (0,0))):=(aC.block _ ϊ).trans aU;rw[aE]at aD;have av:=Zh aD;have a1:=Zh (aB.trans (aC.mono aB.size));have bi:=Zh aY;clear aU aD aB aC aE aY;go_loopw [1] (fun aF wr=>∃ (s:S8) (Y:Option Addr) (i c:Nat) (g:γ),aF=D Y i c/\i<=n/\Hid (ij s g=ij ⟨j,k,l,m,o,q,r,t⟩ b)/\Hid (L g=i)/\Hid (Rd w (D Y i c) i 1 (η g))/\Hid (wr.heap[w.heap.size]?=J (C s.cells 315 (0,0)))/\Hid s.ok/\Hid (BQ w wr)/\Hid (wr.heap[w.heap.size+1]?=ax.heap[w.heap.size+1]?)) (fun aF _=>ju aF)
 case atStart=>exact⟨⟨j,k,l,m,o,q,r,t⟩,ay,n,az,b,rfl,NZ,rfl,a3.o,a7.o,a4.o,a5.o,a1.o,rfl⟩
 case round =>
  obtain⟨⟨x,y,z,A,B,E,F,G⟩,Y,i,c,g,rfl,bs,aG,H,ah,ag,a8,V,aw⟩:=hrel;by_cases be:64<=i
  .obtain⟨ae,off,rfl,br,bc⟩:=tb ah.o ϊ
   unfold maxLen at bc;have bg:(64:Int)<=(i:Int):=ϊ;have bu:(64:Int)<=(c:Int):=ϊ;have bv:(i:Int)<=(c:Int):=ϊ;have a:=ag.o;simp only[S8.cells]at a;have c0:=ν _ _ 0 _ _ _ a;have c1:=ν _ _ 1 _ _ _ a;have c2:=ν _ _ 2 _ _ _ a;have Z:=ν _ _ 3 _ _ _ a;have aa:=ν _ _ 4 _ _ _ a;have ab:=ν _ _ 5 _ _ _ a;have ac:=ν _ _ 6 _ _ _ a;have ad:=ν _ _ 7 _ _ _ a;simp only[mj,oo,nh]at c0 c1 c2 Z aa ab ac ad;clear a;go_wp2_with fail
   refine ϸ (fun aj=>BQ wr aj) 4 ϋ ?_;have aA:BQ wr wr.drew:=RZ.drew;refine lD (fuel:=4) 0 (ā #[ĭ .u32 x,ĭ .u32 y,ĭ .u32 z,ĭ .u32 A,ĭ .u32 B,ĭ .u32 E,ĭ .u32 F,ĭ .u32 G]) rfl ϋ ϋ ϋ ϋ (fun _ _ _ h=>h) ϋ ?_ aA ?_
   .intro aj I
    have bk:=ζ I c0;have d1:=ζ I c1;have d2:=ζ I c2;have bl:=ζ I Z;have bm:=ζ I aa;have bn:=ζ I ab;have bo:=ζ I ac;have bp:=ζ I ad;go_simp
   clear c0 c1 c2 Z aa ab ac ad;refine gJ (fuel:=3) 1 (D (J ⟨ae,off,O⟩) i c) rfl ϋ ϋ ϋ ϋ (fun _ _ _ h=>h) ϋ ?_ aA ?_
   .intro aj
    go_simp
   refine gJ (fuel:=2) 2 (D (J ⟨ae,off,O⟩) 64 c) rfl ϋ ϋ ϋ ϋ (fun _ _ _ h=>h) ϋ ?_ aA ?_
   .intro aj
    go_simp
   refine Ψ (fuel:=1) 3 ϋ rfl ?_;intro K aQ;go_simp;have a0:L (g.take 64)=64:=by have:=H.o;simp;omega
   refine(MH x y z A B E F G a8.o ae off c (g.take 64) wr.drew a0 (vQ (ah.o.below V.o.drew) ϊ) (a9.o.below V.o.drew)).mono ?_;rintro e af ⟨rfl,aS⟩;have au:BQ wr af:=(φ wr.heap.size wr).drew.trans aS;have aK:Hid (S8.ok (oG ⟨x,y,z,A,B,E,F,G⟩ (g.take 64))):=Ar _ _;have aH:Hid (ij (oG ⟨x,y,z,A,B,E,F,G⟩ (g.take 64)) (g.drop 64)=ij ⟨j,k,l,m,o,q,r,t⟩ b):=(Ds _ (by have:=H.o;omega)).symm.trans aG.o;generalize oG ⟨x,y,z,A,B,E,F,G⟩ (g.take 64)=bh at *;obtain⟨M,N,P,Q,R,S,T,U⟩:=bh;simp only[S8.cells];refine aQ _ _ au ?_;clear aQ K a0 aS;have d:af.heap[w.heap.size]?=_:=(au.block _ (ο ag.o)).trans ag.o;simp only[S8.cells]at d;have aX:af.heap[w.heap.size+1]?=ax.heap[w.heap.size+1]?:=(au.block _ (by rw[<-aw.o]at av;exact ο av.o)).trans aw.o;have a2:=Zh (V.o.trans (au.mono V.o.size));have ak:=ν _ _ 0 _ _ _ d;have al:=ν _ _ 1 _ _ _ d;have am:=ν _ _ 2 _ _ _ d;have an:=ν _ _ 3 _ _ _ d;have ao:=ν _ _ 4 _ _ _ d;have ap:=ν _ _ 5 _ _ _ d;have aq:=ν _ _ 6 _ _ _ d;have ar:=ν _ _ 7 _ _ _ d;have aL:=ϥ _ _ 0 _ _ d;have f1:=ϥ _ _ 1 _ _ d;have f2:=ϥ _ _ 2 _ _ d;have f3:=ϥ _ _ 3 _ _ d;have aM:=ϥ _ _ 4 _ _ d;have aN:=ϥ _ _ 5 _ _ d;have aO:=ϥ _ _ 6 _ _ d;have aP:=ϥ _ _ 7 _ _ d;simp only[mj,oo,nh]at ak al am an ao ap aq ar;have ai:=Zh (DN d M N P Q R S T U);have W:=Zh (AH a2.o NZ M N P Q R S T U);have a6:=Zh (fun bf bd=>Ko af w.heap.size bf bd M N P Q R S T U);have ba:=Zh aX;clear d aX;refine Zl ?_;refine Zd ?_;clear ak al am an ao ap aq ar aL f1 f2 f3 aM aN aO aP;have aJ:=Zh ((a6.o (w.heap.size+1) ϊ).trans ba.o);generalize(ŝ (ŝ (ŝ (ŝ (ŝ (ŝ (ŝ (ŝ af ⟨w.heap.size,0,O⟩ (ĭ .u32 M)) ⟨w.heap.size,1,O⟩ (ĭ .u32 N)) ⟨w.heap.size,2,O⟩ (ĭ .u32 P)) ⟨w.heap.size,3,O⟩ (ĭ .u32 Q)) ⟨w.heap.size,4,O⟩ (ĭ .u32 R)) ⟨w.heap.size,5,O⟩ (ĭ .u32 S)) ⟨w.heap.size,6,O⟩ (ĭ .u32 T)) ⟨w.heap.size,7,O⟩ (ĭ .u32 U))=bj at *;by_cases bb:c=64
   .subst bb
    obtain rfl:i=64:=ϊ;go_wp2;go_roundw;case rel=>exact⟨⟨M,N,P,Q,R,S,T,U⟩,J ⟨ae,off,O⟩,0,0,g.drop 64,rfl,ϊ,aH.o,by show _=_;have:=H.o;simp;omega,by rw[show g.drop 64=[]from sw (by have:=H.o;omega)];exact pC _ _,ai.o,aK.o,W.o,aJ.o⟩
    case measure=>simp[ju]
   .have bq:64<c:=ϊ
    go_wp2;go_roundw;case rel=>exact⟨⟨M,N,P,Q,R,S,T,U⟩,J ⟨ae,off+64,O⟩,i - 64,c - 64,g.drop 64,rfl,ϊ,aH.o,by show _=_;have:=H.o;simp;omega,vO ah.o be,ai.o,aK.o,W.o,aJ.o⟩
    case measure=>simp[ju];omega
  .have bg:¬(64:Int)<=(i:Int):=ϊ
   have aT:=yV ⟨x,y,z,A,B,E,F,G⟩ (b:=g) (by have:=H.o;omega);have aI:=Zh (aG.o.symm.trans aT);have a:=ag.o;simp only[S8.cells]at a;have c0:=ν _ _ 0 _ _ _ a;have c1:=ν _ _ 1 _ _ _ a;have c2:=ν _ _ 2 _ _ _ a;have Z:=ν _ _ 3 _ _ _ a;have aa:=ν _ _ 4 _ _ _ a;have ab:=ν _ _ 5 _ _ _ a;have ac:=ν _ _ 6 _ _ _ a;have ad:=ν _ _ 7 _ _ _ a;simp only[mj,oo,nh]at c0 c1 c2 Z aa ab ac ad;have f:=aw.o.trans av.o;have aL:=ϥ _ _ 0 _ _ f;have f1:=ϥ _ _ 1 _ _ f;have f2:=ϥ _ _ 2 _ _ f;have f3:=ϥ _ _ 3 _ _ f;have aM:=ϥ _ _ 4 _ _ f;have aN:=ϥ _ _ 5 _ _ f;have aO:=ϥ _ _ 6 _ _ f;have aP:=ϥ _ _ 7 _ _ f;have ak:=ν _ _ 0 _ _ _ f;have al:=ν _ _ 1 _ _ _ f;have am:=ν _ _ 2 _ _ _ f;have an:=ν _ _ 3 _ _ _ f;have ao:=ν _ _ 4 _ _ _ f;have ap:=ν _ _ 5 _ _ _ f;have aq:=ν _ _ 6 _ _ _ f;have ar:=ν _ _ 7 _ _ _ f;simp only[mj,oo,nh]at ak al am an ao ap aq ar;have ai:=Zh (DN f x y z A B E F G);have W:=Zh (AH V.o (Nat.le_succ _) x y z A B E F G);clear aT a f;go_wp2;rw[<-H.o];refine ϟ (v:=.tuple #[ā #[ĭ .u32 x,ĭ .u32 y,ĭ .u32 z,ĭ .u32 A,ĭ .u32 B,ĭ .u32 E,ĭ .u32 F,ĭ .u32 G],D Y (L g) c]) (gf (p:=4) (u:=5) (ty:=315) rfl _ _ (w.heap.size+1) 315 _ (0,0) _ rfl ai.o underlying315 rfl ϋ) rfl ?_;refine⟨Y,c,?_,?_,W.o⟩
   .rw[aI.o];rfl
   .rw[aI.o]
    have:=ah.o;rw[<-H.o]at this;exact this.below W.o
def nu:S8:=⟨1779033703,3144134277,1013904242,2773480762,1359893119,2600822924,528734635,1541459225⟩
theorem xG:nu.ok:=by constructor<;>exact⟨ϐ,ϐ⟩
def Fj (b:γ) (w:β) (e:Ending) (w':β):Prop:= ∃ (s:S8) (r:γ) (d:Option Addr) (a c:Nat),ij nu b=(s,r)/\e=ŗ (ā #[ĭ .u32 s.a,ĭ .u32 s.b,ĭ .u32 s.c,ĭ .u32 s.d,ĭ .u32 s.e,ĭ .u32 s.f,ĭ .u32 s.g,ĭ .u32 s.h,D d a c,IZ (L b)])/\L r=a/\Rd w' (D d a c) a 1 (η r)/\Below w.heap.size w w'
theorem MK (w:β):Calls prog 277 #[ā #[ĭ .u32 1779033703,ĭ .u32 3144134277,ĭ .u32 1013904242,ĭ .u32 2773480762,ĭ .u32 1359893119,ĭ .u32 2600822924,ĭ .u32 528734635,ĭ .u32 1541459225,D O 0 0,IZ 0]] w fun e w'=>e=ŗ (.bool true)/\BQ w w':=
 Ed 1779033703 3144134277 1013904242 2773480762 1359893119 2600822924 528734635 1541459225 O 0 0 0 w ϐ ϐ
theorem MG (Z:Option Addr) (n ab:Nat) (b:γ) (w:β) (ar:L b=n) (be:n<=1099511627776) (ax:Rd w (D Z n ab) n 1 (η b)) (aD:Ϡ w) :
  Calls prog 212 #[ā #[ĭ .u32 1779033703,ĭ .u32 3144134277,ĭ .u32 1013904242,ĭ .u32 2773480762,ĭ .u32 1359893119,ĭ .u32 2600822924,ĭ .u32 528734635,ĭ .u32 1541459225,D O 0 0,IZ 0],D Z n ab] w (Fj b w):=by
 have bJ:prog.follows .mixedOrders=true:=ϋ;obtain⟨bG,hi,bA,bB,bC⟩:=ϯ lF;have aL:=Zh ax;have aR:=Zh aD;have V:=Zh ar;have bI:(n:Int)<=1099511627776:=ϊ;have bH:(0:Int)<=(n:Int):=ϊ;clear ax aD ar;go_enter func212,ntmps212;have aS:=Zh (fun A=>MK A);go_wp2_with fail
 refine(aS.o _).mono ?_;rintro e u ⟨rfl,F⟩;obtain⟨a2,a7⟩:=nt F;have bg:=F.size;simp only[lz]at bg;have bk:w.heap.size<u.heap.size:=ϊ;have bl:w.heap.size+1<u.heap.size:=ϊ;have N:BQ w u:=(ġ.alloc ύ _).trans (F.mono ϓ);go_wp2_with (first
  |(at_make;refine EW rfl _ _ rfl n _ rfl rfl ύ ϊ ?_;intro bK bf S;obtain⟨a3,a8⟩:=nt S;have bh:=S.size)
  |(at_builtin;refine iz rfl (.tmp 27) (.tmp 29) rfl u.heap.size _ _ 0 0 [] [] rfl bf rfl rfl (pC _ _) ϊ S.size ?_;intro bm bn bL av aX;have G:=S.trans aX;have aF:=Zh (N.trans (G.mono N.size));clear a3 a8 bh;obtain⟨a4,a9⟩:=nt G;have bi:=G.size;simp only[kW,jy]at av)
  |(at_builtin;refine iz rfl (.tmp 31) (.tmp 32) rfl u.heap.size _ _ 0 n [] b rfl av rfl V.o (by have:=aL.o;exact this.below (aF.o)) ϊ G.size ?_;intro aT aU bj aw aY;have H:=G.trans aY;clear a4 a9 bi;obtain⟨a5,ba⟩:=nt H;have bD:=H.size;simp only[jJ,jy]at aw))
 have a1:=N.trans (H.mono N.size);refine(Ec 1779033703 3144134277 1013904242 2773480762 1359893119 2600822924 528734635 1541459225 xG aT n aU b bj V.o be aw.rd (aR.o.below a1)).mono ?_;rintro e z ⟨P,Q,rfl,U,aZ⟩;have I:BQ u z:=H.trans (aZ.mono H.size);clear a5 ba;obtain⟨a6,bb⟩:=nt I;have bE:=I.size;have X:=(yW (L b) nu b NZ xG).2;obtain⟨⟨⟨i,j,k,l,m,o,s,t⟩,r⟩,E⟩:∃ q,q=ij nu b:=⟨_,rfl⟩;have aC:Rd z (D P (L r) Q) (L r) 1 (η r):=by
  have:(ij nu b).2=r:=by rw[<-E]
  change Rd z (D P (L (ij nu b).2) Q) (L (ij nu b).2) 1 (η (ij nu b).2)at U;rw[this]at U;exact U
 have bx:L r<=64:=by rw[<-E]at X;change (L r)=_ at X;omega
 rw[show ij ⟨1779033703,3144134277,1013904242,2773480762,1359893119,2600822924,528734635,1541459225⟩ b=(⟨i,j,k,l,m,o,s,t⟩,r)from E.symm];have aK:=Zh E.symm;generalize au:L r=d at *;have Y:=Zh au;have aO:=Zh aC;clear E au U aC X;simp only[S8.cells];go_wp2_with fail
 have ay:u.heap[w.heap.size]?=J (C #[ĭ .u32 1779033703,ĭ .u32 3144134277,ĭ .u32 1013904242,ĭ .u32 2773480762,ĭ .u32 1359893119,ĭ .u32 2600822924,ĭ .u32 528734635,ĭ .u32 1541459225,D O 0 0,IZ 0] 317 (0,0)):=(F.block _ ϓ).trans ((gX _ _ _ ϓ).trans (χ w _));have aA:u.heap[w.heap.size+1]?=J (C #[ĭ .u32 0,ĭ .u32 0,ĭ .u32 0,ĭ .u32 0,ĭ .u32 0,ĭ .u32 0,ĭ .u32 0,ĭ .u32 0,D O 0 0,IZ 0] 317 (0,0)):=by
  have:=χ (å w (C #[ĭ .u32 1779033703,ĭ .u32 3144134277,ĭ .u32 1013904242,ĭ .u32 2773480762,ĭ .u32 1359893119,ĭ .u32 2600822924,ĭ .u32 528734635,ĭ .u32 1541459225,D O 0 0,IZ 0] 317)) (C #[ĭ .u32 0,ĭ .u32 0,ĭ .u32 0,ĭ .u32 0,ĭ .u32 0,ĭ .u32 0,ĭ .u32 0,ĭ .u32 0,D O 0 0,IZ 0] 317);simp only[lz]at this;exact(F.block _ ϓ).trans this
 obtain⟨c,R⟩:∃ c,c=å z (C #[ĭ .u32 i,ĭ .u32 j,ĭ .u32 k,ĭ .u32 l,ĭ .u32 m,ĭ .u32 o,ĭ .u32 s,ĭ .u32 t] 315):=⟨_,rfl⟩;rw[<-R];have M:BQ z c:=by rw[R];exact ġ
 have h:c.heap[z.heap.size]?=J (C #[ĭ .u32 i,ĭ .u32 j,ĭ .u32 k,ĭ .u32 l,ĭ .u32 m,ĭ .u32 o,ĭ .u32 s,ĭ .u32 t] 315 (0,0)):=by rw[R];exact χ z _
 have az:=(M.block _ ϊ).trans ((I.block _ bk).trans ay);have aB:=(M.block _ ϊ).trans ((I.block _ bl).trans aA);have aa:=ν _ _ 9 _ _ _ az;have ac:=ν _ _ 0 _ _ _ h;have d1:=ν _ _ 1 _ _ _ h;have d2:=ν _ _ 2 _ _ _ h;have ad:=ν _ _ 3 _ _ _ h;have ae:=ν _ _ 4 _ _ _ h;have af:=ν _ _ 5 _ _ _ h;have ag:=ν _ _ 6 _ _ _ h;have ah:=ν _ _ 7 _ _ _ h;simp only[mj,oo,nh]at aa ac d1 d2 ad ae af ag ah;have aM:=Zh aB;have aG:=Zh (N.trans ((I.mono ϊ).trans (M.mono ϊ):Below w.heap.size u c));have bF:=M.size;have bd:w.heap.size+1<c.heap.size:=ϊ;clear R h az aB ay aA a6 bb a2 a7;have bz:IntKind.i64.wrap (n:Int)=(n:Int):=Ϗ;refine ϸ (fun A=>BQ c A) 9 ϋ ?_;have f:BQ c c.drew:=RZ.drew;refine Zk 0 f ?_ (hy:=by intro A g;have ai:=ζ g ac;have aj:=ζ g d1;have ak:=ζ g d2;have al:=ζ g ad;have am:=ζ g ae;have an:=ζ g af;have ao:=ζ g ag;have ap:=ζ g ah;go_simp;try with_reducible rfl);refine Zf 1 f ?_;refine Zf 3 f ?_;refine Zk 4 f ?_ (hy:=by intro A g;have aq:=ζ g aa;go_simp;try with_reducible rfl);refine Zf 5 f ?_;refine Zf 6 f ?_;refine Zf 7 f ?_;refine Ψ (fuel:=2) 2 ϋ rfl ?_;intro K B;have aW:Rd c.drew (D P d Q) d 1 (η r):=((aO.o.below M).below f);have bc:c.heap.size<=c.drew.heap.size:=f.size
 (with_reducible refine Nb rfl (.const (D O 0 0)) (.tmp 42) rfl c.heap.size (D O 0 0) (D P d Q) 0 d [] r rfl (Φ.nil _ _) rfl Y.o aW ϊ bc ?_)
 intro x y aE W a0;simp only[jJ,jy]at W;have T:=f.trans a0;refine B _ _ T ?_;clear B K;simp only[jJ];try simp only[Act.put]
 refine Zf 8 T ?_;refine jp (fuel:=0) ϋ ϋ rfl ?_;intro K B;have a:=(T.block _ bd).trans aM.o;have ai:=ν _ _ 0 _ _ _ a;have bo:=ϥ _ _ 0 _ _ a;have aj:=ν _ _ 1 _ _ _ a;have f1:=ϥ _ _ 1 _ _ a;have ak:=ν _ _ 2 _ _ _ a;have f2:=ϥ _ _ 2 _ _ a;have al:=ν _ _ 3 _ _ _ a;have f3:=ϥ _ _ 3 _ _ a;have am:=ν _ _ 4 _ _ _ a;have bp:=ϥ _ _ 4 _ _ a;have an:=ν _ _ 5 _ _ _ a;have bq:=ϥ _ _ 5 _ _ a;have ao:=ν _ _ 6 _ _ _ a;have br:=ϥ _ _ 6 _ _ a;have ap:=ν _ _ 7 _ _ _ a;have bs:=ϥ _ _ 7 _ _ a;have aV:=ν _ _ 8 _ _ _ a;have bt:=ϥ _ _ 8 _ _ a;have aq:=ν _ _ 9 _ _ _ a;have bu:=ϥ _ _ 9 _ _ a;simp only[mj,oo,nh]at ai aj ak al am an ao ap aV aq;have aH:=Zh (aG.o.trans (T.mono ϊ));have aN:=Zh a;have aJ:=Zh W;clear a W;go_simp;refine B _ _ ?_;clear B K;refine Zd ?_;have aP:=Zh (Mb aN.o (ĭ .u32 i) (ĭ .u32 j) (ĭ .u32 k) (ĭ .u32 l) (ĭ .u32 m) (ĭ .u32 o) (ĭ .u32 s) (ĭ .u32 t) (D x d y) (IZ n));have aI:=Zh (Gb aH.o (go _ 1) (ĭ .u32 i) (ĭ .u32 j) (ĭ .u32 k) (ĭ .u32 l) (ĭ .u32 m) (ĭ .u32 o) (ĭ .u32 s) (ĭ .u32 t) (D x d y) (IZ n));have aQ:Hid (Rd ((ŝ (ŝ (ŝ (ŝ (ŝ (ŝ (ŝ (ŝ (ŝ (ŝ aE ⟨w.heap.size+1,0,O⟩ (ĭ .u32 i)) ⟨w.heap.size+1,1,O⟩ (ĭ .u32 j)) ⟨w.heap.size+1,2,O⟩ (ĭ .u32 k)) ⟨w.heap.size+1,3,O⟩ (ĭ .u32 l)) ⟨w.heap.size+1,4,O⟩ (ĭ .u32 m)) ⟨w.heap.size+1,5,O⟩ (ĭ .u32 o)) ⟨w.heap.size+1,6,O⟩ (ĭ .u32 s)) ⟨w.heap.size+1,7,O⟩ (ĭ .u32 t)) ⟨w.heap.size+1,8,O⟩ (D x d y)) ⟨w.heap.size+1,9,O⟩ (IZ n))) (D x d y) d 1 (η r)):=
  (aJ.o.hi.step ύ fun b bv bw=>Kp aE (w.heap.size+1) b ϊ (ĭ .u32 i) (ĭ .u32 j) (ĭ .u32 k) (ĭ .u32 l) (ĭ .u32 m) (ĭ .u32 o) (ĭ .u32 s) (ĭ .u32 t) (D x d y) (IZ n)).now
 go_wp2;refine ϟ (v:=ā #[ĭ .u32 i,ĭ .u32 j,ĭ .u32 k,ĭ .u32 l,ĭ .u32 m,ĭ .u32 o,ĭ .u32 s,ĭ .u32 t,D x d y,IZ n]) (jX (p:=4) (ty:=317) rfl _ _ (w.heap.size+1) 317 _ (0,0) _ rfl aP.o underlying317 rfl ϋ) rfl ?_;refine⟨⟨i,j,k,l,m,o,s,t⟩,r,x,d,y,aK.o,?_,Y.o,aQ.o,aI.o⟩;rw[V.o]
def mq (v:Int):γ:=[u8 (v / 72057594037927936 % 256),u8 (v / 281474976710656 % 256),u8 (v / 1099511627776 % 256),u8 (v / 4294967296 % 256),u8 (v / 16777216 % 256),u8 (v / 65536 % 256),u8 (v / 256 % 256),u8 (v % 256)]
def kC (x:Int):γ:=[u8 (x / 16777216 % 256),u8 (x / 65536 % 256),u8 (x / 256 % 256),u8 (x % 256)]
def lE (s:S8):γ:=kC s.a++kC s.b++kC s.c++kC s.d++kC s.e++kC s.f++kC s.g++kC s.h
def pz (m:Nat):Nat:=if m<56 then 56 else 120
def qE (r:γ) (n:Nat):γ:=r++[128]++List.replicate (pz (L r) - (L r+1)) 0++mq (8*n)
def tl (s:S8) (r:γ) (n:Nat):γ:=lE (ij s (qE r n)).1
def mY (b:γ):γ:=tl (ij nu b).1 (ij nu b).2 (L b)
theorem hO (b:γ):L (mY b)=32:=rfl
theorem pn (x:Int):η [u8 (x % 256)]=[ĭ .u8 (x % 256)]:=by
 simp only[η,iA,lf];rw[kf _ ϊ ϊ]
theorem po (x:Int):η (kC x)=[ĭ .u8 (x / 16777216 % 256),ĭ .u8 (x / 65536 % 256),ĭ .u8 (x / 256 % 256),ĭ .u8 (x % 256)]:=by
 simp only[η,kC,iA,lf];rw[kf _ ϊ ϊ,kf _ ϊ ϊ,kf _ ϊ ϊ,kf _ ϊ ϊ]
theorem Ks (m a:Nat) (d:m<64) (c:m+1<=a) (b:a<=pz m):(a % 64=56↔a=pz m):=by
 unfold pz at *;split at b<;>rename_i h<;>simp only[h,if_true,if_false]<;>omega
theorem Kr (m:Nat) (a:m<64):m+1<=pz m/\pz m<=120:=by
 unfold pz;split<;>omega
theorem MI (V W X Y Z aa ab ac:Int) (a5:(S8.mk V W X Y Z aa ab ac).ok) (ap:Option Addr) (m ar:Nat) (r:γ) (n:Nat) (w:β) (aY:L r=m) (b0:n<=1099511627776) (a4:m=n % 64) (ba:Rd w (D ap m ar) m 1 (η r)) (bc:Ϡ w) :
  Calls prog 211 #[ā #[ĭ .u32 V,ĭ .u32 W,ĭ .u32 X,ĭ .u32 Y,ĭ .u32 Z,ĭ .u32 aa,ĭ .u32 ab,ĭ .u32 ac,D ap m ar,IZ n]] w fun e w'=>e=ŗ (š (δ (tl ⟨V,W,X,Y,Z,aa,ab,ac⟩ r n)))/\BQ w w':=by
 have cA:prog.follows .mixedOrders=true:=ϋ;have bC:=Zh (fun bE=>Ed V W X Y Z aa ab ac ap m ar n bE b0 a4);have bw:=Zh ba;have bA:=Zh bc;have aM:=Zh aY;have aN:=Zh a5;have cz:(n:Int)<=1099511627776:=ϊ;have cy:(0:Int)<=(n:Int):=ϊ;have a3:m<64:=ϊ;clear ba bc aY a4 a5;go_enter func211,ntmps211;go_wp2_with fail
 refine(bC.o _).mono ?_;rintro e z ⟨rfl,av⟩;obtain⟨bM,bT⟩:=nt av;have b4:=av.size;simp only[lz]at b4;have bk:w.heap.size<z.heap.size:=ϊ;have ak:BQ w z:=ġ.trans (av.mono ϓ);have bx:=Zh (bw.o.below ak);go_wp2_with (first
  |(at_builtin;refine iz rfl (.const (D O 0 0)) (.tmp 16) rfl z.heap.size _ _ 0 m [] r rfl (Φ.nil _ _) rfl aM.o bx.o ϊ NZ ?_;intro cp aq ce aJ aj;obtain⟨bN,bU⟩:=nt aj;have bf:=aj.size;simp only[jJ,jy]at aJ)
  |(at_builtin;refine iz rfl (.tmp 18) (.tmp 19) rfl z.heap.size _ _ m 1 r [128] rfl (aJ.alloc _) rfl rfl (jG ce #[ĭ .u8 128] _ 1 [128] rfl rfl ϐ) ϊ (by have:=aj.size;simp;omega) ?_;intro bF bG cC a7 a0;have aw:=(aj.alloc bf _).trans a0;clear bN bU;obtain⟨bO,bV⟩:=nt aw;have cw:=aw.size))
 have bb:z.heap[w.heap.size]?=J (C #[ĭ .u32 V,ĭ .u32 W,ĭ .u32 X,ĭ .u32 Y,ĭ .u32 Z,ĭ .u32 aa,ĭ .u32 ab,ĭ .u32 ac,D ap m ar,IZ n] 317 (0,0)):=(av.block _ ϓ).trans (χ w _);have aO:=Zh bb;clear bb bM bT bO bV bf;have aX:=Kr m a3;generalize be:pz m=A at *;have aC:=Zh be;clear be;go_loopw [3] (fun ag wr=>∃ (y:Nat) (an:Option Addr) (c:Nat),ag=D an y c/\m+1<=y/\y<=A/\Hid (Φ z.heap.size wr (D an y c) y (r++[128]++List.replicate (y - (m+1)) 0))/\Hid (BQ z wr)) (fun ag _=>A - ju ag)
 case atStart=>exact⟨m+1,bF,bG,rfl,NZ,aX.1,by rw[kE,List.replicate_zero,im];exact a7,aw⟩
 case round =>
  obtain⟨y,an,c,rfl,bK,ct,aA,az⟩:=hrel;have ae:=Ks m y a3 bK (by have:=aC.o;omega);rw[aC.o]at ae;by_cases ai:y=A
  .have bg:((y:Int) % 64==56)=true:=by simp only[mH];have:=ae.2 ai;omega
   have bh:((y:Int) % 64 !=56)=false:=by simp only[bne_eq_false_iff_eq];have:=ae.2 ai;omega
   have ah:=az.o;obtain⟨bP,bW⟩:=nt ah;have bz:=Zh ((ah.block _ bk).trans aO.o);have aE:=ν _ _ 9 _ _ _ bz.o;simp only[mj,oo,nh]at aE;clear ae aw a7 aJ aj a0 bP bW;obtain rfl:A=y:=ai.symm;have b2:IntKind.u64.wrap (n:Int)=n:=by rw[IntKind.wrap_u64];omega
   have b3:IntKind.u64.wrap ((n:Int)*8)=(n:Int)*8:=by rw[IntKind.wrap_u64];omega
   go_wp2;obtain⟨bj,rfl⟩:∃ bj:β,bj=wr:=⟨_,rfl⟩;obtain⟨G,aG⟩:∃ G,G=r++[128]++List.replicate (A - (m+1)) 0:=⟨_,rfl⟩;rw[<-aG]at aA;have bB:=Zh aG;clear aG aE bg bh b2 b3 ah;go_loopw [3,32] (fun ag af al=>∃ (b:Nat) (ao:Option Addr) (c2:Nat),b<=8/\af=IZ (b:Int)/\ag=D ao (A+b) c2/\Hid (Φ z.heap.size al (D ao (A+b) c2) (A+b) (G++(mq ((n:Int)*8)).take b))/\Hid (BQ z al)) (fun _ af _=>8 - (intOf af).toNat)
   case atStart=>exact⟨0,an,c,ϊ,rfl,rfl,by rw[qR,im];exact aA.o,az.o⟩
   case round =>
    obtain⟨b,ao,c2,bY,rfl,rfl,T,bn⟩:=hrel;have k:=bn.o;have B:=k.size;have cu:=aX.2;by_cases bZ:b<8
    .obtain rfl|rfl|rfl|rfl|rfl|rfl|rfl|rfl:b=0\/b=1\/b=2\/b=3\/b=4\/b=5\/b=6\/b=7:=ϊ
     .go_wp2_with (at_builtin;refine iz rfl (.tmp 35) (.tmp 42) rfl z.heap.size _ _ (A+0) 1 (G++(mq ((n:Int)*8)).take 0) [u8 (((n:Int)*8) / 72057594037927936 % 256)] rfl (T.o.alloc _) rfl rfl (jG wr _ _ 1 _ rfl (by rw[pn]<;>(try simp)<;>omega) ϐ) ϊ ό ?_;intro d f E a j;have i:=(k.alloc B _).trans j)
      go_roundw;case rel=>exact⟨1,d,f,ϊ,rfl,rfl,by rw[gM]at a;exact a,i⟩
      case measure=>simp[intOf]
     .go_wp2_with (at_builtin;refine iz rfl (.tmp 35) (.tmp 42) rfl z.heap.size _ _ (A+1) 1 (G++(mq ((n:Int)*8)).take 1) [u8 (((n:Int)*8) / 281474976710656 % 256)] rfl (T.o.alloc _) rfl rfl (jG wr _ _ 1 _ rfl (by rw[pn]<;>(try simp)<;>omega) ϐ) ϊ ό ?_;intro d f E a j;have i:=(k.alloc B _).trans j)
      go_roundw;case rel=>exact⟨2,d,f,ϊ,rfl,rfl,by rw[gM]at a;exact a,i⟩
      case measure=>simp[intOf]
     .go_wp2_with (at_builtin;refine iz rfl (.tmp 35) (.tmp 42) rfl z.heap.size _ _ (A+2) 1 (G++(mq ((n:Int)*8)).take 2) [u8 (((n:Int)*8) / 1099511627776 % 256)] rfl (T.o.alloc _) rfl rfl (jG wr _ _ 1 _ rfl (by rw[pn]<;>(try simp)<;>omega) ϐ) ϊ ό ?_;intro d f E a j;have i:=(k.alloc B _).trans j)
      go_roundw;case rel=>exact⟨3,d,f,ϊ,rfl,rfl,by rw[gM]at a;exact a,i⟩
      case measure=>simp[intOf]
     .go_wp2_with (at_builtin;refine iz rfl (.tmp 35) (.tmp 42) rfl z.heap.size _ _ (A+3) 1 (G++(mq ((n:Int)*8)).take 3) [u8 (((n:Int)*8) / 4294967296 % 256)] rfl (T.o.alloc _) rfl rfl (jG wr _ _ 1 _ rfl (by rw[pn]<;>(try simp)<;>omega) ϐ) ϊ ό ?_;intro d f E a j;have i:=(k.alloc B _).trans j)
      go_roundw;case rel=>exact⟨4,d,f,ϊ,rfl,rfl,by rw[gM]at a;exact a,i⟩
      case measure=>simp[intOf]
     .go_wp2_with (at_builtin;refine iz rfl (.tmp 35) (.tmp 42) rfl z.heap.size _ _ (A+4) 1 (G++(mq ((n:Int)*8)).take 4) [u8 (((n:Int)*8) / 16777216 % 256)] rfl (T.o.alloc _) rfl rfl (jG wr _ _ 1 _ rfl (by rw[pn]<;>(try simp)<;>omega) ϐ) ϊ ό ?_;intro d f E a j;have i:=(k.alloc B _).trans j)
      go_roundw;case rel=>exact⟨5,d,f,ϊ,rfl,rfl,by rw[gM]at a;exact a,i⟩
      case measure=>simp[intOf]
     .go_wp2_with (at_builtin;refine iz rfl (.tmp 35) (.tmp 42) rfl z.heap.size _ _ (A+5) 1 (G++(mq ((n:Int)*8)).take 5) [u8 (((n:Int)*8) / 65536 % 256)] rfl (T.o.alloc _) rfl rfl (jG wr _ _ 1 _ rfl (by rw[pn]<;>(try simp)<;>omega) ϐ) ϊ ό ?_;intro d f E a j;have i:=(k.alloc B _).trans j)
      go_roundw;case rel=>exact⟨6,d,f,ϊ,rfl,rfl,by rw[gM]at a;exact a,i⟩
      case measure=>simp[intOf]
     .go_wp2_with (at_builtin;refine iz rfl (.tmp 35) (.tmp 42) rfl z.heap.size _ _ (A+6) 1 (G++(mq ((n:Int)*8)).take 6) [u8 (((n:Int)*8) / 256 % 256)] rfl (T.o.alloc _) rfl rfl (jG wr _ _ 1 _ rfl (by rw[pn]<;>(try simp)<;>omega) ϐ) ϊ ό ?_;intro d f E a j;have i:=(k.alloc B _).trans j)
      go_roundw;case rel=>exact⟨7,d,f,ϊ,rfl,rfl,by rw[gM]at a;exact a,i⟩
      case measure=>simp[intOf]
     .go_wp2_with (at_builtin;refine iz rfl (.tmp 35) (.tmp 42) rfl z.heap.size _ _ (A+7) 1 (G++(mq ((n:Int)*8)).take 7) [u8 (((n:Int)*8) % 256)] rfl (T.o.alloc _) rfl rfl (jG wr _ _ 1 _ rfl (by rw[pn]<;>(try simp)<;>omega) ϐ) ϊ ό ?_;intro d f E a j;have i:=(k.alloc B _).trans j)
      go_roundw;case rel=>exact⟨8,d,f,ϊ,rfl,rfl,by rw[gM]at a;exact a,i⟩
      case measure=>simp[intOf]
    .obtain rfl:b=8:=ϊ
     obtain⟨bQ,bX⟩:=nt k;have ad:=Zh ((k.block _ bk).trans aO.o);have aP:=ν _ _ 0 _ _ _ ad.o;have aQ:=ν _ _ 1 _ _ _ ad.o;have aR:=ν _ _ 2 _ _ _ ad.o;have aS:=ν _ _ 3 _ _ _ ad.o;have aT:=ν _ _ 4 _ _ _ ad.o;have aU:=ν _ _ 5 _ _ _ ad.o;have aV:=ν _ _ 6 _ _ _ ad.o;have aW:=ν _ _ 7 _ _ _ ad.o;simp only[mj,oo,nh]at aP aQ aR aS aT aU aV aW;have bd:(mq ((n:Int)*8)).take 8=mq ((n:Int)*8):=rfl;have a8:G++mq ((n:Int)*8)=qE r n:=by
      unfold qE;rw[bB.o,aM.o,aC.o,Int.mul_comm]
     have ay:=T.o;rw[bd,a8]at ay;have a9:L (qE r n)=A+8:=ay.1;have bu:=Zh ay;have bv:=Zh a9;have bp:=Zh (ak.trans (k.mono ak.size));clear bd a8 ay a9 bQ bX;go_wp2_with fail
     (with_reducible refine(Ec V W X Y Z aa ab ac aN.o ao (A+8) c2 (qE r n) wr bv.o ϊ bu.o.rd (bA.o.below bp.o)).mono ?_)
     rintro e bi ⟨cq,aE,rfl,b1,a1⟩;clear aP aQ aR aS aT aU aV aW b1;obtain⟨⟨⟨l,o,p,s,t,u,v,x⟩,cB⟩,aF⟩:∃ q,q=ij ⟨V,W,X,Y,Z,aa,ab,ac⟩ (qE r n):=⟨_,rfl⟩;have aK:=(yW _ ⟨V,W,X,Y,Z,aa,ab,ac⟩ (qE r n) NZ aN.o).1;rw[<-aF]at aK ⊢;have bq:Hid (tl ⟨V,W,X,Y,Z,aa,ab,ac⟩ r n=lE ⟨l,o,p,s,t,u,v,x⟩):=by show _=_;unfold tl;rw[<-aF]
     have bD:=Zh aK;have ax:=k.trans (a1.mono k.size);have cn:=Zh ax;have cx:=ax.size;have aB:=Zh (ak.trans (ax.mono ak.size));clear aF aK ax a1 k;simp only[S8.cells];obtain⟨⟨cf,b6⟩,⟨cg,b7⟩,⟨ch,b8⟩,⟨ci,b9⟩,⟨cj,ca⟩,⟨ck,cb⟩,⟨cl,cc⟩,⟨cm,cd⟩⟩:=bD.o;dsimp only at cf b6 cg b7 ch b8 ci b9 cj ca ck cb cl cc cm cd;go_wp2_with (at_make;refine EW rfl _ _ rfl 32 _ rfl rfl ύ ϊ ?_;intro aL a6 aH;obtain⟨bL,bS⟩:=nt aH)
     have aZ:Below w.heap.size bi aL:=(RZ.alloc (by have:=aB.o.size;exact this) _).trans (aH.mono ϓ);have bm:=Zh (aB.o.trans aZ);have am:=Zh a6;simp only[lz]at am;have H:∀ w,(Instr.index 315 (ā #[ĭ .u32 l,ĭ .u32 o,ĭ .u32 p,ĭ .u32 s,ĭ .u32 t,ĭ .u32 u,ĭ .u32 v,ĭ .u32 x]) (IZ 0)).run prog w=.ok (ĭ .u32 l) w:=fun _=>ϋ;have I:∀ w,(Instr.index 315 (ā #[ĭ .u32 l,ĭ .u32 o,ĭ .u32 p,ĭ .u32 s,ĭ .u32 t,ĭ .u32 u,ĭ .u32 v,ĭ .u32 x]) (IZ 1)).run prog w=.ok (ĭ .u32 o) w:=fun _=>ϋ;have K:∀ w,(Instr.index 315 (ā #[ĭ .u32 l,ĭ .u32 o,ĭ .u32 p,ĭ .u32 s,ĭ .u32 t,ĭ .u32 u,ĭ .u32 v,ĭ .u32 x]) (IZ 2)).run prog w=.ok (ĭ .u32 p) w:=fun _=>ϋ;have M:∀ w,(Instr.index 315 (ā #[ĭ .u32 l,ĭ .u32 o,ĭ .u32 p,ĭ .u32 s,ĭ .u32 t,ĭ .u32 u,ĭ .u32 v,ĭ .u32 x]) (IZ 3)).run prog w=.ok (ĭ .u32 s) w:=fun _=>ϋ;have N:∀ w,(Instr.index 315 (ā #[ĭ .u32 l,ĭ .u32 o,ĭ .u32 p,ĭ .u32 s,ĭ .u32 t,ĭ .u32 u,ĭ .u32 v,ĭ .u32 x]) (IZ 4)).run prog w=.ok (ĭ .u32 t) w:=fun _=>ϋ;have Q:∀ w,(Instr.index 315 (ā #[ĭ .u32 l,ĭ .u32 o,ĭ .u32 p,ĭ .u32 s,ĭ .u32 t,ĭ .u32 u,ĭ .u32 v,ĭ .u32 x]) (IZ 5)).run prog w=.ok (ĭ .u32 u) w:=fun _=>ϋ;have R:∀ w,(Instr.index 315 (ā #[ĭ .u32 l,ĭ .u32 o,ĭ .u32 p,ĭ .u32 s,ĭ .u32 t,ĭ .u32 u,ĭ .u32 v,ĭ .u32 x]) (IZ 6)).run prog w=.ok (ĭ .u32 v) w:=fun _=>ϋ;have S:∀ w,(Instr.index 315 (ā #[ĭ .u32 l,ĭ .u32 o,ĭ .u32 p,ĭ .u32 s,ĭ .u32 t,ĭ .u32 u,ĭ .u32 v,ĭ .u32 x]) (IZ 7)).run prog w=.ok (ĭ .u32 x) w:=fun _=>ϋ;have bs:=Zh (Γ H (Γ I (Γ K (Γ M (Γ N (Γ Q (Γ R S)))))));clear bL bS a6 aH aZ H I K M N Q R S;obtain⟨F,au⟩:∃ bl,bl=bi.heap.size+1:=⟨_,rfl⟩;rw[<-au]at am;have bJ:w.heap.size<=F:=by have:=aB.o.size;omega
     have bI:F<=aL.heap.size:=by
      rcases am.o.2.2 with ⟨h,-⟩|⟨g,cr,cur,-,cs,bH,-⟩
      .cases h
      .have:=ο bH;omega
     rw[<-au];have co:=Zh au;clear au;go_loopw [8,54] (fun ag af al=>∃ (b:Nat) (aD:Option Addr) (aq:Nat),b<=8/\af=IZ (b:Int)/\ag=D aD (4*b) aq/\Hid (Φ F al (D aD (4*b) aq) (4*b) ((lE ⟨l,o,p,s,t,u,v,x⟩).take (4*b)))/\Hid (Below F aL al)) (fun _ af _=>8 - (intOf af).toNat)
     case atStart=>exact⟨0,_,_,ϊ,rfl,rfl,am.o,φ _ _⟩
     case round =>
      obtain⟨b,aD,aq,bY,rfl,rfl,U,bo⟩:=hrel;have k:=bo.o;have B:=gh bI k.size;obtain⟨H,I,K,M,N,Q,R,S⟩:=bs.o;by_cases bZ:b<8
      .obtain rfl|rfl|rfl|rfl|rfl|rfl|rfl|rfl:b=0\/b=1\/b=2\/b=3\/b=4\/b=5\/b=6\/b=7:=ϊ
       .clear I K M N Q R S
        go_wp2_with (at_builtin;refine iz rfl (.tmp 57) (.tmp 69) rfl F _ _ 0 4 ((lE ⟨l,o,p,s,t,u,v,x⟩).take 0) (kC l) rfl (U.o.alloc _) rfl rfl (jG wr _ _ 4 _ rfl (by rw[po]<;>(try simp)<;>(try omega)) ϐ) ϊ ό ?_;intro d f E a j;have i:=(k.alloc B _).trans j)
        go_roundw;case rel=>exact⟨1,d,f,ϊ,rfl,rfl,a,i⟩
        case measure=>simp[intOf]
       .clear H K M N Q R S
        go_wp2_with (at_builtin;refine iz rfl (.tmp 57) (.tmp 69) rfl F _ _ 4 4 ((lE ⟨l,o,p,s,t,u,v,x⟩).take 4) (kC o) rfl (U.o.alloc _) rfl rfl (jG wr _ _ 4 _ rfl (by rw[po]<;>(try simp)<;>(try omega)) ϐ) ϊ ό ?_;intro d f E a j;have i:=(k.alloc B _).trans j)
        go_roundw;case rel=>exact⟨2,d,f,ϊ,rfl,rfl,a,i⟩
        case measure=>simp[intOf]
       .clear H I M N Q R S
        go_wp2_with (at_builtin;refine iz rfl (.tmp 57) (.tmp 69) rfl F _ _ 8 4 ((lE ⟨l,o,p,s,t,u,v,x⟩).take 8) (kC p) rfl (U.o.alloc _) rfl rfl (jG wr _ _ 4 _ rfl (by rw[po]<;>(try simp)<;>(try omega)) ϐ) ϊ ό ?_;intro d f E a j;have i:=(k.alloc B _).trans j)
        go_roundw;case rel=>exact⟨3,d,f,ϊ,rfl,rfl,a,i⟩
        case measure=>simp[intOf]
       .clear H I K N Q R S
        go_wp2_with (at_builtin;refine iz rfl (.tmp 57) (.tmp 69) rfl F _ _ 12 4 ((lE ⟨l,o,p,s,t,u,v,x⟩).take 12) (kC s) rfl (U.o.alloc _) rfl rfl (jG wr _ _ 4 _ rfl (by rw[po]<;>(try simp)<;>(try omega)) ϐ) ϊ ό ?_;intro d f E a j;have i:=(k.alloc B _).trans j)
        go_roundw;case rel=>exact⟨4,d,f,ϊ,rfl,rfl,a,i⟩
        case measure=>simp[intOf]
       .clear H I K M Q R S
        go_wp2_with (at_builtin;refine iz rfl (.tmp 57) (.tmp 69) rfl F _ _ 16 4 ((lE ⟨l,o,p,s,t,u,v,x⟩).take 16) (kC t) rfl (U.o.alloc _) rfl rfl (jG wr _ _ 4 _ rfl (by rw[po]<;>(try simp)<;>(try omega)) ϐ) ϊ ό ?_;intro d f E a j;have i:=(k.alloc B _).trans j)
        go_roundw;case rel=>exact⟨5,d,f,ϊ,rfl,rfl,a,i⟩
        case measure=>simp[intOf]
       .clear H I K M N R S
        go_wp2_with (at_builtin;refine iz rfl (.tmp 57) (.tmp 69) rfl F _ _ 20 4 ((lE ⟨l,o,p,s,t,u,v,x⟩).take 20) (kC u) rfl (U.o.alloc _) rfl rfl (jG wr _ _ 4 _ rfl (by rw[po]<;>(try simp)<;>(try omega)) ϐ) ϊ ό ?_;intro d f E a j;have i:=(k.alloc B _).trans j)
        go_roundw;case rel=>exact⟨6,d,f,ϊ,rfl,rfl,a,i⟩
        case measure=>simp[intOf]
       .clear H I K M N Q S
        go_wp2_with (at_builtin;refine iz rfl (.tmp 57) (.tmp 69) rfl F _ _ 24 4 ((lE ⟨l,o,p,s,t,u,v,x⟩).take 24) (kC v) rfl (U.o.alloc _) rfl rfl (jG wr _ _ 4 _ rfl (by rw[po]<;>(try simp)<;>(try omega)) ϐ) ϊ ό ?_;intro d f E a j;have i:=(k.alloc B _).trans j)
        go_roundw;case rel=>exact⟨7,d,f,ϊ,rfl,rfl,a,i⟩
        case measure=>simp[intOf]
       .clear H I K M N Q R
        go_wp2_with (at_builtin;refine iz rfl (.tmp 57) (.tmp 69) rfl F _ _ 28 4 ((lE ⟨l,o,p,s,t,u,v,x⟩).take 28) (kC x) rfl (U.o.alloc _) rfl rfl (jG wr _ _ 4 _ rfl (by rw[po]<;>(try simp)<;>(try omega)) ϐ) ϊ ό ?_;intro d f E a j;have i:=(k.alloc B _).trans j)
        go_roundw;case rel=>exact⟨8,d,f,ϊ,rfl,rfl,a,i⟩
        case measure=>simp[intOf]
      .obtain rfl:b=8:=ϊ
       have a2:(lE ⟨l,o,p,s,t,u,v,x⟩).take (4*8)=lE ⟨l,o,p,s,t,u,v,x⟩:=rfl;have aI:=U.o;rw[a2]at aI;have bR:=qI (P:=prog) wr 31 9 5 gu nH lK _ (lE ⟨l,o,p,s,t,u,v,x⟩) aI.rd;simp only[Nat.reduceMul]at bR;have br:=Zh (bm.o.trans (k.mono bJ));have cv:L (lE ⟨l,o,p,s,t,u,v,x⟩)=32:=rfl;clear aI a2 H I K M N Q R S;go_wp2;go_ret;rw[bq.o];exact⟨rfl,br.o⟩
  .have bg:((y:Int) % 64==56)=false:=by simp only[gl,ne_eq];intro h;exact ai (ae.1 ϊ)
   have bh:((y:Int) % 64 !=56)=true:=by simp only[bne_iff_ne,ne_eq];intro h;exact ai (ae.1 ϊ)
   have ah:=az.o;have b5:=ah.size;clear ae;go_wp2_with (at_builtin;refine iz rfl (.tmp 25) (.tmp 26) rfl z.heap.size _ _ y 1 (r++[128]++List.replicate (y - (m+1)) 0) [0] rfl (aA.o.alloc _) rfl rfl (jG wr #[ĭ .u8 0] _ 1 [0] rfl rfl ϐ) ϊ ό ?_;intro d f E a j;have i:=(ah.alloc b5 _).trans j)
   have bt:Hid (Φ z.heap.size E (D d (y+1) f) (y+1) (r++[128]++List.replicate (y+1 - (m+1)) 0)):=by
    show Φ _ _ _ _ _;rw[show y+1 - (m+1)=(y - (m+1))+1 from ϊ,List.replicate_succ',<-gM];exact a
   go_roundw;case rel=>exact⟨y+1,d,f,rfl,ϊ,ϊ,bt.o,i⟩
   case measure=>simp[ju];omega
theorem Ϡ.later {w w':β} (h:Ϡ w) (a:BQ w w'):Ϡ w':=h.below a
theorem rW (f:Option Addr) (n g:Nat) (b:γ) (w:β) (j:L b=n) (p:n<=1099511627776) (s:Rd w (D f n g) n 1 (η b)) (c:Ϡ w) :
  Calls prog 144 #[D f n g] w fun e w'=>e=ŗ (š (δ (mY b)))/\BQ w w':=by
 have I:=Zh (MJ w c);have F:=Zh (fun l (m:BQ w l)=>MG f n g b l j p (s.below m) (c.below m));have M:=Zh c;have d:=Zh j;have q:=yW (L b) nu b NZ xG;have K:=Zh q;clear s c j q;go_enter func144,ntmps144;go_wp2_with fail
 refine I.o.mono ?_;rintro e U ⟨rfl,k⟩;go_wp2_with fail
 refine(F.o _ k).mono ?_;rintro e T ⟨⟨u,v,x,y,z,A,B,E⟩,r,N,S,c2,i,rfl,o,t,Q⟩;have a:=K.o;rw[i]at a;have h:=k.trans (Q.mono k.size);have G:=Zh (MI u v x y z A B E a.1 N S c2 r n T o p (by have:=a.2;simp only at this;have:=d.o;omega) t (M.o.below h));have H:Hid (mY b=tl ⟨u,v,x,y,z,A,B,E⟩ r n):=by show _=_;unfold mY;rw[i,d.o]
 rw[d.o];clear a o t i;go_wp2_with fail
 refine G.o.mono ?_;rintro e V ⟨rfl,R⟩;have P:=h.trans (R.mono h.size);go_wp2;go_ret;rw[H.o];exact⟨rfl,P⟩
theorem ra {w:β} {v:ε} {b:γ} (h:Rd w v (L b) 1 (η b)):∃ a c,v=D a (L b) c:=by
 obtain⟨-,-,⟨a,c,rfl,d⟩|⟨e,off,c,rfl,-⟩⟩:=h
 .exact⟨a,c,by rw[d]⟩
 .exact⟨_,c,rfl⟩
def Δ (w:β) (v:ε) (docs:List (γ)):Prop:= ∃ c:List ε,Rd w v (L docs) 1 c/\∀ a (hi:a<L docs),∃ b,c[a]?=J b/\Rd w b (L docs[a]) 1 (η docs[a])
theorem Δ.below {w w':β} {v:ε} {docs:List (γ)} (h:Δ w v docs) (a:BQ w w'):Δ w' v docs:=by
 obtain⟨i,e,f⟩:=h;refine⟨i,e.below a,fun g hi=>?_⟩;obtain⟨b,c,d⟩:=f g hi;exact⟨b,c,d.below a⟩
theorem ny {w:β} {v:ε} {docs:List (γ)} (h:Δ w v docs):∃ a c,v=D a (L docs) c/\L docs<=9223372036854775807 /\
  Hid (∀ i (hi:i<L docs),∃ b off da dc,a=J ⟨b,off,O⟩/\w.cell? ⟨b,off+i,O⟩=J (D da (L docs[i]) dc)/\Rd w (D da (L docs[i]) dc) (L docs[i]) 1 (η docs[i])):=by
 obtain⟨q,⟨o,l,k⟩,g⟩:=h;unfold maxLen at l;rcases k with ⟨a,c,rfl,e⟩|⟨b,off,c,rfl,e,p,n,j⟩
 .exact⟨a,c,by rw[e],ϊ,fun i hi=>ϊ⟩
 .refine⟨_,c,rfl,ϊ,fun i hi=>?_⟩
  obtain⟨m,f,d⟩:=g i hi;obtain⟨da,dc,rfl⟩:=ra d;exact⟨b,off,da,dc,rfl,j _ _ f,d⟩
theorem AP (l:γ):(δ l).size=L l:=by
 unfold δ ByteArray.size;simp
def pX (l:γ) (w:β) (e:Ending) (w':β):Prop:= ∃ a n c,e=ŗ (D a n c)/\Φ w.heap.size w' (D a n c) n l/\Below w.heap.size w w'
theorem qH (w:β) (l:γ) (n:Nat) (m:L l=n) (p:n<=70368744177664):∃ c a,(convert 9 31 (š (δ l))).run prog w=.ok (D (J ⟨w.heap.size,0,O⟩) n c) a/\BQ w a/\Hi w.heap.size a (fun g=>Rd g (D (J ⟨w.heap.size,0,O⟩) n c) n 1 (η l))/\a.heap.size=w.heap.size+1:=by
 subst m;have b:=Lib.run_convert_string_bytes (P:=prog) w 9 31 5 (δ l) lK gu nH;rw[jx]at b;refine⟨_,_,b,⟨rfl,rfl,rfl,by rw[Lib.bytesWorld_size];omega,fun o k=>Lib.bytesWorld_at_old w _ _ o k⟩,?_,Lib.bytesWorld_size _ _ _⟩;intro g h;have hg:=(h w.heap.size NZ (by rw[Lib.bytesWorld_size];omega)).trans (Lib.bytesWorld_at_new w 5 (δ l));have j:=grownCap_ge w (L l) 0 5;have i:grownCap w (L l) 0 5<=maxLen:=uu w (L l) 0 5 ώ;refine⟨by simp[η],ώ,?_⟩;by_cases e:L l=0
 .exact .inl ⟨J ⟨w.heap.size,0,O⟩,grownCap w (L l) 0 5,by simp[e],e⟩
 .refine .inr ⟨w.heap.size,0,_,rfl,ϊ,j,i,fun f q hi=>?_⟩
  rw[jJ,ν _ _ f _ _ _ hg];have d:f<L l:=by
   have:=(lN.1 hi).1;simpa[η] using this
  simp only[Lib.bytesCells];rw[Array.getElem?_append_left (by simpa[δ,ByteArray.size] using d)];rw[<-hi];simp[δ,η,ch,d]
theorem vc (w:β) (b:Array ε) (T:TypeId) (a:List (γ)) (g:b.size=L a) (j:L a<=maxLen) (f:0<L a) (h:∀ i (hi:i<L a),∃ c,b[i]?=J c/\Rd w c (L a[i]) 1 (η a[i])) :
  Δ (å w (C b T)) (D (J ⟨w.heap.size,0,O⟩) (L a) (L a)) a:=by
 refine⟨b.toList,tR w b T 1 (L a) (by simpa using g) j f,fun i hi=>?_⟩;obtain⟨c,d,e⟩:=h i hi;exact⟨c,by simpa using d,e.below (ġ)⟩
theorem If (a:List (γ)) (k:Nat) (b:k<L a):(a.take (k+1)).flatten=(a.take k).flatten++a[k]:=by
 rw[kD b,wY,oX,List.flatten_nil,im]
theorem BV (a:List (γ)) (k:Nat):L (a.take k).flatten<=L a.flatten:=by
 have:a.flatten=(a.take k).flatten++(a.drop k).flatten:=by rw[<-wY,pd]
 rw[this];simp
theorem wg (e:UInt8) (z:ε) (a:List (γ)) (w:β) (h:Δ w z a) (V:L a.flatten<=1099511627776) :
  Calls prog 214 #[ĭ .u8 (ch e),z] w (pX (e::a.flatten) w):=by
 obtain⟨S,c,rfl,U,A⟩:=ny h;clear h;have I:BQ w (å w (C #[ĭ .u8 (ch e)] 5)):=ġ;have B:Hid (Φ w.heap.size (å w (C #[ĭ .u8 (ch e)] 5)) (D (J ⟨w.heap.size,0,O⟩) 1 1) 1 [e]):=⟨rfl,tG w #[ĭ .u8 (ch e)] 5 1 1 rfl ϐ⟩;go_enter func214,ntmps214;go_wp2;go_loopw [5,12] (fun Q p wr=>∃ (d n:Nat) (g:Option Addr) (c1:Nat),d<=L a/\p=IZ (d:Int)/\Q=D g n c1/\Hid (Φ w.heap.size wr (D g n c1) n (e::(a.take d).flatten))/\BQ w wr) (fun _ p _=>L a - (intOf p).toNat)
 case atStart=>exact⟨0,1,_,_,Ι _,rfl,rfl,B,I⟩
 case round =>
  obtain⟨d,n,g,c1,T,rfl,rfl,i,f⟩:=hrel;have v:=BV a d;have k:=i.o.1;simp only[Ϧ]at k;have W:n<=1099511627777:=ϊ;by_cases u:d<L a
  .obtain⟨b,off,da,dc,rfl,t,y⟩:=A.o d u
   have P:(d:Int)<(L a:Int):=ϊ;have X:(0:Int)<=(d:Int):=ϊ;have G:=ζ f t;have r:=Zh (y.below f);have x:=BV a (d+1);have o:=If a d u;have N:L a[d]<=1099511627776:=by rw[o,ω]at x;omega
   have F:=Zh o;obtain⟨q,m⟩:∃ q,q=L a[d]:=⟨_,rfl⟩;rw[<-m]at G r N;have E:=Zh m.symm;clear v x k o m t y;go_wp2_with (at_builtin;refine iz rfl (.tmp 16) (.tmp 17) rfl w.heap.size _ _ n q _ a[d] rfl i.o rfl E.o r.o ϊ f.size ?_;intro s c2 R M K;have H:=f.trans K)
   have j:Hid (Φ w.heap.size R (D s (n+q) c2) (n+q) (e::(a.take (d+1)).flatten)):=by show Φ _ _ _ _ _;rw[F.o];exact M
   go_roundw;case rel=>exact⟨d+1,n+q,s,c2,ϊ,ϕ,rfl,j.o,H⟩
   case measure=>simp[intOf];omega
  .obtain rfl:d=L a:=ϊ
   have P:¬(L a:Int)<(L a:Int):=ϊ;have l:=i.o;rw[pa]at l;have j:=Zh l;clear l v k;go_wp2;go_ret;exact⟨g,n,c1,rfl,j.o,f⟩
def ϩ (b:γ):γ:=mY (0::b)
def gw (l r:γ):γ:=mY (1::(l++r))
def rK (b:γ):γ:=mY (2::b)
def yx (b:γ):γ:=mY (3::b)
theorem Mt (a:Option Addr) (n c:Nat) (b:γ) (w:β) (m:L b=n) (s:n<=1099511627776) (i:Rd w (D a n c) n 1 (η b)) :
  Calls prog 145 #[D a n c] w (pX (0::b) w):=by
 have g:=vc w #[D a n c] 31 [b] rfl (by simp[maxLen]) ύ (fun q hi=>by
  obtain rfl:q=0:=by simp at hi;omega
  exact⟨_,rfl,by simp only[oq];rw[m];exact i⟩)
 have j:=Zh (wg 0 _ [b] _ g ό);have o:BQ w (å w (C #[D a n c] 31)):=ġ;clear g i;go_enter func145,ntmps145;go_wp2_with fail
 refine j.o.mono ?_;rintro e r ⟨f,d,c2,rfl,h,p⟩;have l:=o.trans (p.mono ύ);have k:Hid (Φ w.heap.size r (D f d c2) d (0::b)):=by show Φ _ _ _ _ _;have:=h.mono (show w.heap.size<=_ by simp:w.heap.size<=(å w (C #[D a n c] 31)).heap.size);simpa using this
 clear h;go_wp2;go_ret;exact⟨f,d,c2,rfl,k.o,l⟩
theorem Mv (a:Option Addr) (n c:Nat) (b:γ) (w:β) (m:L b=n) (s:n<=1099511627776) (i:Rd w (D a n c) n 1 (η b)) :
  Calls prog 300 #[D a n c] w (pX (2::b) w):=by
 have g:=vc w #[D a n c] 31 [b] rfl (by simp[maxLen]) ύ (fun q hi=>by
  obtain rfl:q=0:=by simp at hi;omega
  exact⟨_,rfl,by simp only[oq];rw[m];exact i⟩)
 have j:=Zh (wg 2 _ [b] _ g ό);have o:BQ w (å w (C #[D a n c] 31)):=ġ;clear g i;go_enter func300,ntmps300;go_wp2_with fail
 refine j.o.mono ?_;rintro e r ⟨f,d,c2,rfl,h,p⟩;have l:=o.trans (p.mono ύ);have k:Hid (Φ w.heap.size r (D f d c2) d (2::b)):=by show Φ _ _ _ _ _;have:=h.mono (show w.heap.size<=_ by simp:w.heap.size<=(å w (C #[D a n c] 31)).heap.size);simpa using this
 clear h;go_wp2;go_ret;exact⟨f,d,c2,rfl,k.o,l⟩
theorem Ms (a:Option Addr) (n c:Nat) (b:γ) (w:β) (m:L b=n) (s:n<=1099511627776) (i:Rd w (D a n c) n 1 (η b)) :
  Calls prog 197 #[D a n c] w (pX (3::b) w):=by
 have g:=vc w #[D a n c] 31 [b] rfl (by simp[maxLen]) ύ (fun q hi=>by
  obtain rfl:q=0:=by simp at hi;omega
  exact⟨_,rfl,by simp only[oq];rw[m];exact i⟩)
 have j:=Zh (wg 3 _ [b] _ g ό);have o:BQ w (å w (C #[D a n c] 31)):=ġ;clear g i;go_enter func197,ntmps197;go_wp2_with fail
 refine j.o.mono ?_;rintro e r ⟨f,d,c2,rfl,h,p⟩;have l:=o.trans (p.mono ύ);have k:Hid (Φ w.heap.size r (D f d c2) d (3::b)):=by show Φ _ _ _ _ _;have:=h.mono (show w.heap.size<=_ by simp:w.heap.size<=(å w (C #[D a n c] 31)).heap.size);simpa using this
 clear h;go_wp2;go_ret;exact⟨f,d,c2,rfl,k.o,l⟩
theorem zm (c:Option Addr) (n d:Nat) (b:γ) (w:β) (f:L b=n) (u:n<=1000000000) (i:Rd w (D c n d) n 1 (η b)) (j:Ϡ w) :
  Calls prog 84 #[D c n d] w fun e w'=>e=ŗ (š (δ (ϩ b)))/\BQ w w':=by
 have l:=Zh (Mt c n d b w f ϊ i);have o:=Zh j;have k:=Zh f;clear i j f;go_enter func84,ntmps84;go_wp2_with fail
 refine l.o.mono ?_;rintro e t ⟨p,s,c2,rfl,a,g⟩;have h:=a.1;simp only[Ϧ,k.o]at h;have m:=Zh (rW p s c2 (0::b) t a.1 ϊ a.rd (o.o.below g));clear a h;go_wp2_with fail
 refine m.o.mono ?_;rintro e v ⟨rfl,r⟩;have q:=g.trans (r.mono g.size);go_wp2;go_ret;exact⟨rfl,q⟩
theorem DS (c:Option Addr) (n d:Nat) (b:γ) (w:β) (f:L b=n) (u:n<=1000000000) (i:Rd w (D c n d) n 1 (η b)) (j:Ϡ w) :
  Calls prog 235 #[D c n d] w fun e w'=>e=ŗ (š (δ (rK b)))/\BQ w w':=by
 have l:=Zh (Mv c n d b w f ϊ i);have o:=Zh j;have k:=Zh f;clear i j f;go_enter func235,ntmps235;go_wp2_with fail
 refine l.o.mono ?_;rintro e t ⟨p,s,c2,rfl,a,g⟩;have h:=a.1;simp only[Ϧ,k.o]at h;have m:=Zh (rW p s c2 (2::b) t a.1 ϊ a.rd (o.o.below g));clear a h;go_wp2_with fail
 refine m.o.mono ?_;rintro e v ⟨rfl,r⟩;have q:=g.trans (r.mono g.size);go_wp2;go_ret;exact⟨rfl,q⟩
theorem Mr (c:Option Addr) (n d:Nat) (b:γ) (w:β) (f:L b=n) (u:n<=1000000000) (i:Rd w (D c n d) n 1 (η b)) (j:Ϡ w) :
  Calls prog 117 #[D c n d] w fun e w'=>e=ŗ (š (δ (yx b)))/\BQ w w':=by
 have l:=Zh (Ms c n d b w f ϊ i);have o:=Zh j;have k:=Zh f;clear i j f;go_enter func117,ntmps117;go_wp2_with fail
 refine l.o.mono ?_;rintro e t ⟨p,s,c2,rfl,a,g⟩;have h:=a.1;simp only[Ϧ,k.o]at h;have m:=Zh (rW p s c2 (3::b) t a.1 ϊ a.rd (o.o.below g));clear a h;go_wp2_with fail
 refine m.o.mono ?_;rintro e v ⟨rfl,r⟩;have q:=g.trans (r.mono g.size);go_wp2;go_ret;exact⟨rfl,q⟩
theorem Mu (l r:γ) (w:β) (g:L l=32) (h:L r=32) :
  Calls prog 276 #[š (δ l),š (δ r)] w (pX (1::(l++r)) w):=by
 obtain⟨c1,b,A,f,n,x⟩:=qH w l 32 g ϊ;obtain⟨c2,c,B,a,o,y⟩:=qH b r 32 h ϊ;have m:=vc c #[D (J ⟨w.heap.size,0,O⟩) 32 c1,D (J ⟨b.heap.size,0,O⟩) 32 c2] 31 [l,r] rfl (by simp[maxLen]) ύ (fun s hi=>by
  obtain rfl|rfl:s=0\/s=1:=by simp at hi;omega
  .exact⟨_,rfl,by simp only[oq];rw[g];exact n.now.below a⟩
  .exact⟨_,rfl,by simp only[oq,pP];rw[h];exact o.now⟩)
 have t:=Zh (wg 1 _ [l,r] _ m ό);have d:=f.trans (a.mono f.size);have k:BQ w (å c (C #[D (J ⟨w.heap.size,0,O⟩) 32 c1,D (J ⟨b.heap.size,0,O⟩) 32 c2] 31)):=d.alloc d.size _;have p:w.heap.size<=(å c (C #[D (J ⟨w.heap.size,0,O⟩) 32 c1,D (J ⟨b.heap.size,0,O⟩) 32 c2] 31)).heap.size:=k.size;clear m n o f a d g h x y;go_enter func276,ntmps276;go_wp2_with fail
 refine t.o.mono ?_;rintro e z ⟨j,i,c2,rfl,q,a⟩;have v:=k.trans (a.mono p);have u:Hid (Φ w.heap.size z (D j i c2) i (1::(l++r))):=by show Φ _ _ _ _ _;have:=q.mono p;simpa using this
 clear q;go_wp2;go_ret;exact⟨j,i,c2,rfl,u.o,v⟩
theorem DR (l r:γ) (w:β) (a:L l=32) (c:L r=32) (f:Ϡ w) :
  Calls prog 210 #[š (δ l),š (δ r)] w fun e w'=>e=ŗ (.tuple #[š (δ (gw l r)),IZ 0])/\BQ w w':=by
 have g:=Zh (Mu l r w a c);have j:=Zh f;have p:(δ l).size=32:=by rw[jx,a]
 have q:(δ r).size=32:=by rw[jx,c]
 have h:Hid (L (1::(l++r))=65):=by show _=_;simp[a,c]
 clear f a c;go_enter func210,ntmps210;go_wp2_with fail
 refine g.o.mono ?_;rintro e s ⟨k,o,c2,rfl,b,d⟩;have a:=b.1.symm.trans h.o;have i:=Zh (rW k o c2 (1::(l++r)) s b.1 ϊ b.rd (j.o.below d));clear b a p q;go_wp2_with fail
 refine i.o.mono ?_;rintro e t ⟨rfl,n⟩;have m:=d.trans (n.mono d.size);go_wp2;go_ret2;exact⟨rfl,m⟩
theorem Mj {P:Program} (w:β) (base:Nat) (t ty e:TypeId) (z:ε) (size:Nat) (K:P.underlying t=J (.slice e)) (N:∀ w,(zeroValue e).run P w=.ok z w)
  (o:z.cells.size=size) (q:∀ u∈z.cells.toList,u.oneCell'=true) (I:0<size)
  (g n a:Nat) (xs:List ε) (h:w.ownsRow base e size (D (J ⟨g,0,O⟩) n a) n xs) (k m c:Nat) (i:n<=k) (E:k+m<=a) (S:0<m) :
  ∃ w',(Builtin.clear_ #[t] ty #[D (J ⟨g,k*size,O⟩) m c]).run P w=.ok (.tuple #[]) w'/\w'.ownsRow base e size (D (J ⟨g,0,O⟩) n a) n xs/\w.grownBy w' (J g):=by
 obtain⟨B,y⟩:=h;rcases y with ⟨h,_⟩|⟨R,Q,cur,h,s,hg,G,v,x,M⟩
 .simp at h
 .simp only[Ξ,Ο,Addr.mk.injEq,hR,Ϯ]at h
  obtain⟨rfl,rfl⟩:=h;have p:L (Builtin.zeroCells z.cells m).toList=m*size:=by rw[qO,size_zeroCells,o]
  have r:∀ u∈(Builtin.zeroCells z.cells m).toList,u.oneCell'=true:=by
   intro u l;simp only[Builtin.zeroCells,Array.toList_map,hI,Array.toList_range,pO]at l;obtain⟨d,f,rfl⟩:=l;have F:d % z.cells.size<z.cells.size:=lJ _ (by rw[o];exact I);apply q;rw[getElem!_pos z.cells _ F];simp
  have A:k*size+m*size<=a*size:=by rw[<-kX];exact pQ _ E
  have j:=run_storeCells_at P g (k*size) e (Builtin.zeroCells z.cells m).toList 0 cur w hg (by rw[p,x];simpa using A) r;simp only[kW]at j;obtain⟨b,rfl⟩:∃ b,m=b+1:=⟨m - 1,ϊ⟩;have H:(Builtin.clear_ #[t] ty #[D (J ⟨g,k*size,O⟩) (b+1) c]).run P w=.ok (.tuple #[]) (w.setRow g (cur.toList.take (k*size)++(Builtin.zeroCells z.cells (b+1)).toList++cur.toList.drop (k*size+L (Builtin.zeroCells z.cells (b+1)).toList)).toArray):=by
   simp[Builtin.clear_,pf K,N,j]
  refine⟨_,H,⟨B,.inr ⟨g,a,_,rfl,s,setRow_heap w g cur _ e _ hg,G,v,?_,?_⟩⟩,⟨rfl,rfl,rfl,ύ,fun d _ f=>sC w g d _ (fun e=>f (by simp[e]))⟩⟩
  .simp only[pe,ω,gN,gb,qO]at p ⊢
   omega
  .simp only
   rw[gM,zW,sx,<-M]
   .congr 1
    have:=pQ size i;omega
   .have:=pQ size i
    rw[gN,qO];omega
theorem Oh {P:Program} {w:β} {ops:Array Oper} {d:List Oper} {o:Oper} {a:Act} {Q:Exit->Act->β->Prop} (p:o.guard=O) (s:Operand) (t:TypeId)
  (x:o.op=.call {callee:=.builtin .clear,args:= #[s],argTypes:= #[t]})
  (base:Nat) (e:TypeId) (z:ε) (size:Nat) (F:P.underlying t=J (.slice e)) (G:∀ w,(zeroValue e).run P w=.ok z w)
  (H:z.cells.size=size) (f:∀ u∈z.cells.toList,u.oneCell'=true) (E:0<size)
  (g n b:Nat) (xs:List ε) (y:w.ownsRow base e size (D (J ⟨g,0,O⟩) n b) n xs) (k m c:Nat) (B:a.eval s=D (J ⟨g,k*size,O⟩) m c) (q:n<=k) (r:k+m<=b) (v:0<m)
  (h:∀ w',w'.ownsRow base e size (D (J ⟨g,0,O⟩) n b) n xs->w.grownBy w' (J g)->wpList P ops Q d (a.put o.dst (.tuple #[])) w'):wpList P ops Q (o::d) a w:=by
 refine wpList_plain p fun K l=>?_;obtain⟨w',A,i,j⟩:=Mj (P:=P) w base t o.type e z size F G H f E g n b xs y k m c q r v;unfold Oper.wp execOp;simp only[x,resolve,invoke,builtin,Sem.run_bind,Sem.run_pure,pN,qP,iA,lf,B,A];exact l _ _ (h w' i j)
