/- Part 20 of the proof. -/
import Derived.Test.YtpilfbcffofheaaGreatDoorm15
import Derived.Test.YtpilfbcffofheaaGreatDoorm19
set_option linter.unusedVariables false
set_option linter.unusedSimpArgs false
set_option maxRecDepth 100000
set_option maxHeartbeats 8000000
namespace Go.Proofs.YtpilfbcffofheaaGreatDoor
open Go.Proofs.Tryz Go.RowKit Go.Sort
open List renaming length->L
open Value renaming string->š,slice->D,agg->ā
open Ending renaming returned->ŗ
open Obj renaming cells->C
open World renaming alloc->å,setCell->ŝ
open Option renaming none->O,some->J
theorem qz (d:List υ):L (iM d)=L d+1:=by simp[iM,mw]
theorem qp (d:List υ):L (hV d)=32:=by
 have f:∀ l:List (γ),ϭ l->l≠[]->L (hU l)=32:=by
  intro l;induction h:L l using Nat.strongRecOn generalizing l with
  |_ n i =>
   intro c e
   match l,h with
   |[],_=>exact absurd rfl e
   |[a],_=>rw[pr];exact c a ύ
   |b::a::t,h =>
    rw[hU];refine i (L t+1) (by simp at h;omega) _ ύ ?_ ύ;intro x hx;rcases gP.1 hx with rfl|hx
    .exact hO _
    .exact c x (by simp[hx])
 unfold hV Τ;split
 .exact hO _
 .rename_i e
  refine f _ (wo ?_ _ NZ) ?_
  .intro x hx
   obtain⟨y,-,rfl⟩:=hI.1 hx;exact hO _
  .intro g
   have:=pI ((iM d).map ϩ) (L ((iM d).map ϩ));rw[g]at this;have j:=vJ (n:=L ((iM d).map ϩ)) (by simp[qz]);simp only[gF]at this;omega
theorem kQ (a:List (γ)):ϭ (a.map ϩ):=by
 intro x b;obtain⟨y,-,rfl⟩:=hI.1 b;exact hO _
theorem Hx (v:ε) (n:Nat) (d:List υ) (w:β) (k:Ϡ w) (H:Ϩ w) (h:fY w v n d) (i:iq d=true) (l:∀ e∈d,L e.1<=64) (G:n<=100000000) :
  Calls prog 260 #[v] w fun e w'=>e=ŗ (.tuple #[š (δ (hV d)),IZ 0])/\BQ w w':=by
 have t:=Zh (BA v n d w k H h i l G);have p:=Zh k;have q:∀ x∈iM d,L x<=200:=by
  intro x b;unfold iM mw at b;obtain⟨I,-,rfl⟩:=hI.1 b;exact CK i l I
 have u:=Zh q;have m:Hid (L (iM d)=n+1):=by show _=_;rw[qz,h.1]
 obtain⟨Q,c,rfl,R,-⟩:=iF h;clear h k i l q;go_enter func260,ntmps260;go_wp2_with fail
 refine t.o.mono ?_;rintro e M ⟨z,rfl,j,g⟩;have r:=Zh (ue z (iM d) M (p.o.below g) j.now (by rw[m.o];omega) (fun x b=>by have:=u.o x b;omega));obtain⟨P,c1,rfl,S,-⟩:=ny j.now;clear j;go_wp2_with fail
 refine r.o.mono ?_;rintro e N ⟨y,K,c2,rfl,a,E⟩;have f:=g.trans (E.mono g.size);have o:=Zh (wD y K c2 _ N a.1 a.rd (kQ _) (by have A:=a.1;rw[io,m.o]at A;omega) (p.o.below f));have s:Hid (Τ ((iM d).map ϩ)=hV d):=rfl;rw[s.o]at o;clear a;go_wp2_with fail
 refine o.o.mono ?_;rintro e T ⟨rfl,F⟩;have B:=f.trans (F.mono f.size);go_wp2;go_ret2;exact⟨rfl,B⟩
theorem My (f t:Int) (v:ε) (n:Nat) (d:List υ) (w:β) (y:Ϡ w) (z:Ϩ w) (h:fY w v n d) (j:lH f t d=true) (m:∀ e∈d,L e.1<=64/\L e.2<=1000) (M:n<=100000000) :
  Calls prog 192 #[ā #[IZ f,IZ t,v]] w fun e w'=>e=ŗ (.tuple #[ā #[IZ f,IZ t,IZ ((n+1:Nat):Int),š (δ (hV d))],IZ 0])/\BQ w w':=by
 have x:iq d=true:=by unfold lH at j;simp only[gs]at j;exact j.1.2
 have q:=Zh (fun i (a:BQ w i)=>DT f t v n d i (z.below a) (h.below a) (fun e l=>⟨by have:=(m e l).1;omega,by have:=(m e l).2;omega⟩));rw[j]at q;have B:=Zh (fun i (a:BQ w i)=>Hx v n d i (y.below a) (z.below a) (h.below a) x (fun e l=>(m e l).1) M);obtain⟨H,c,rfl,X,-⟩:=iF h;clear h y x m j;go_enter func192,ntmps192;go_wp2_with fail
 have r:BQ w (å (å w (C #[IZ f,IZ t,D H n c] 92)) (C #[IZ 0,IZ 0,IZ 0,š ⟨#[]⟩] 198)):=ġ.alloc ύ _;refine(q.o _ r).mono ?_;rintro e Z ⟨rfl,s⟩;obtain⟨b,g,ab,ac,o⟩:=fU s;obtain⟨⟨N,P,Q⟩,⟨I,f1,f2⟩,-⟩:=Β b;have E:=Zh b;have F:=Zh g;clear s r b g;go_wp2_with fail
 refine(B.o _ o).mono ?_;rintro e aa ⟨rfl,k⟩;have b:=θ E.o k;have g:=θ F.o k;obtain⟨⟨N,P,Q⟩,⟨I,f1,f2⟩,-⟩:=Β b;obtain⟨⟨R,d1,d2,S⟩,⟨T,U,V,W⟩,-⟩:=Ϫ g;have K:=o.trans (k.mono o.size);have Y:IntKind.i64.wrap ((n:Int)+1)=(n:Int)+1:=Ϗ;have G:=Zh (nD g (IZ f) (IZ t) (IZ ((n:Int)+1)) (š (δ (hV d))));have A:=Zh (oF K (go _ 1) (IZ f) (IZ t) (IZ ((n:Int)+1)) (š (δ (hV d))));clear b g k;go_wp2;refine ϟ (v:=.tuple #[ā #[IZ f,IZ t,IZ ((n:Int)+1),š (δ (hV d))],IZ 0]) (gf (p:=2) (u:=3) (ty:=198) rfl _ _ (w.heap.size+1) 198 _ (0,0) _ rfl G.o underlying198 rfl ϋ) rfl ⟨rfl,A.o⟩
theorem Mx (f t a:Int) (r:γ) (w:β) (g:ly f t=true) (i:1<=a) (j:a<=1099511627776) (c:L r=32) :
  Calls prog 308 #[ā #[IZ f,IZ t,IZ a,š (δ r)]] w fun e w'=>e=ŗ (.bool true)/\BQ w w':=by
 have HW:=Zh (fun h=>EN f t h);rw[g]at HW;have n:(δ r).size=32:=by rw[jx,c]
 generalize δ r=l at *;clear g c;go_enter func308,ntmps308;go_wp2_with fail
 refine(HW.o _).mono ?_;rintro e u ⟨rfl,b⟩;obtain⟨d,v,k⟩:=Ϻ b;obtain⟨⟨o,p,q,s⟩,⟨m,f1,f2,f3⟩,-⟩:=Ϫ d;clear d b;go_wp2;go_ret;exact⟨by first|rfl|simp[i,j],k⟩
theorem FZ (a:Nat) (w:β) (q:Nat):Below a w (w.drewN q):=⟨rfl,rfl,rfl,NZ,fun _ _=>rfl⟩
theorem Jb (g h:ε) (n:Nat) (l:List Int) (w:β) (o:L l=n) (p:n<=1000000) (m:Rd w g n 1 (τ l)) (f:Rd w h n 1 (τ l)) :
  Calls prog 67 #[g,h] w fun e w'=>e=ŗ (.bool true)/\BQ w w':=by
 obtain⟨-,-,⟨i,c1,rfl,d⟩|⟨b1,o1,c1,rfl,r,-,-,j⟩⟩:=m
 .obtain⟨c,c2,rfl,-,-⟩:=jQ o f
  refine(Tryz.slices_Equal_int_empty i c c1 n c2 w ϊ).mono ?_;rintro e w' ⟨rfl,rfl⟩;exact⟨by simp[d],φ _ _⟩
 .obtain⟨-,-,⟨c,c2,rfl,d⟩|⟨b2,o2,c2,rfl,-,-,-,k⟩⟩:=f
  .omega
  .refine(Tryz.slices_Equal_int b1 o1 n c1 b2 o2 n c2 l l w ϊ ϊ ϊ ϊ ?_ ?_).mono ?_
   .intro b a
    exact j b _ (by simp[τ,a])
   .intro b a
    exact k b _ (by simp[τ,a])
   .rintro e w' ⟨rfl,q,rfl⟩
    exact⟨ύ,FZ _ _ q⟩
theorem Mp (t:γ) (d f:ε) (n:Nat) (l:List Int) (w:β) (a:L l=n) (r:n<=1000000) (b:Rd w d n 1 (τ l)) (c:Rd w f n 1 (τ l)) :
  Calls prog 66 #[ā #[š (δ t),d],ā #[š (δ t),f]] w fun e w'=>e=ŗ (.bool true)/\BQ w w':=by
 have m:=Zh (fun h (i:BQ w h)=>Jb d f n l h a r (b.below i) (c.below i));obtain⟨o,c1,rfl,-,-⟩:=jQ a b;obtain⟨p,c2,rfl,-,-⟩:=jQ a c;clear b c a;generalize δ t=g;have j:BQ w (å (å w (C #[š g,D o n c1] 130)) (C #[š g,D p n c2] 130)):=ġ.alloc ύ _;go_enter func66,ntmps66;go_wp2_with fail
 refine(m.o _ j).mono ?_;rintro e s ⟨rfl,k⟩;obtain⟨-,-,-,-,q⟩:=fU k;clear k j;go_wp2;go_ret;exact⟨by first|rfl|simp,q⟩
theorem HQ (x y:ε) (n:Nat) (d:List υ) (w:β) (i:fY w x n d) (s:fY w y n d) (u:∀ e∈d,L e.2<=1000000) :
  Calls prog 65 #[x,y,.func (.func 66) #[] #[]] w fun e w'=>e=ŗ (.bool true)/\BQ w w':=by
 have I:=Zh i.1;obtain⟨Q,c1,rfl,V,F⟩:=iF i;obtain⟨R,c2,rfl,-,G⟩:=iF s;have H:=Zh (fun a (v:a<L d)=>u d[a] (Χ v));clear i s u;go_enter func65,ntmps65;go_wp2;go_loopw [17] (fun l wr=>∃ a:Nat,a<=n/\l=IZ (a:Int)/\BQ w wr) (fun l _=>n - (intOf l).toNat)
 case atStart=>exact⟨0,Ι _,rfl,φ _ _⟩
 case round =>
  obtain⟨a,v,rfl,b⟩:=hrel;by_cases U:a<n
  .have k:a<L d:=by have:=I.o;omega
   obtain⟨b1,o1,f,g,rfl,z,B,r1⟩:=F.o a k;obtain⟨b2,o2,o,p,rfl,A,E,r2⟩:=G.o a k;have P:(a:Int)<(n:Int):=ϊ;have W:(0:Int)<=(a:Int):=ϊ;have r:=ζ b z;have f1:=ζ b B;have h:=ζ b A;have f2:=ζ b E;unfold ϴ at r h;have K:=Zh (fun m (t:BQ w m)=>Mp d[a].1 (D f (L d[a].2) g) (D o (L d[a].2) p) (L d[a].2) d[a].2 m rfl (H.o a k) (r1.below t) (r2.below t));generalize (L d[a].2)=q at *;generalize δ d[a].1=c at *;have Y:b1<wr.heap.size:=ib wr _ r;have Z:b2<wr.heap.size:=ib wr _ h;have S:=ζ ((φ wr.heap.size wr).alloc NZ (C #[š c,D f q g] 130)) h;have T:=ζ ((φ wr.heap.size wr).alloc NZ (C #[š c,D f q g] 130)) f2;have j:BQ w (å (å wr (C #[š c,D f q g] 130)) (C #[š c,D o q p] 130)):=(b.alloc b.size _).alloc (by have:=b.size;simp;omega) _;clear z B A E r1 r2;go_wp2_with fail
   refine(K.o _ j).mono ?_;rintro e X ⟨rfl,N⟩;have M:=j.trans (N.mono j.size);go_wp2;go_roundw;case rel=>exact⟨a+1,ϊ,ϕ,M⟩
   case measure=>simp[intOf];omega
  .have P:¬(a:Int)<(n:Int):=ϊ
   go_wp2;go_ret;exact⟨rfl,b⟩
theorem Mo (a b:ε) (n:Nat) (d:List υ) (w:β) (c:fY w a n d) (f:fY w b n d) (g:∀ e∈d,L e.2<=1000000) :
  Calls prog 37 #[a,b] w fun e w'=>e=ŗ (.bool true)/\BQ w w':=by
 have h:=Zh (HQ a b n d w c f g);clear c f g;go_enter func37,ntmps37;go_wp2_with fail
 refine h.o.mono ?_;rintro e j ⟨rfl,i⟩;go_wp2;go_ret;exact⟨rfl,i⟩
def Fl (f t:Int) (a:List υ) (w:β) (e:Ending) (w':β):Prop:= ∃ c,e=ŗ (.tuple #[ā #[IZ f,IZ t,c],IZ 0])/\(∀ d:β,(∀ b,w.heap.size<=b->b<w'.heap.size->d.heap[b]?=w'.heap[b]?)->fY d c (L a) a)/\Below w.heap.size w w'
theorem AQ (B:ε) (docs:List (γ)) (f t:Nat) (w:β) (X:Ϩ w) (I:Δ w B docs) (E:L docs<=1000) (k:∀ d∈docs,L d<=2000) (s:f<t) (M:t<=L docs) :
  Calls prog 36 #[B,ā #[IZ f,IZ t]] w (Fl f t (Α docs (f,t)) w):=by
 have H:BQ w (å w (C #[IZ f,IZ t] 89)):=ġ;have q:=χ w (C #[IZ f,IZ t] 89);obtain⟨a,n⟩:∃ a,a=(å w (C #[IZ f,IZ t] 89)):=⟨_,rfl⟩;rw[<-n]at H q;have x:BQ a (å a (C #[IZ 0,IZ 0,D O 0 0] 92)):=ġ;have r:=χ a (C #[IZ 0,IZ 0,D O 0 0] 92);have ad:w.heap.size<a.heap.size:=ο q;have m:=H.trans (x.mono H.size);have c0:(å a (C #[IZ 0,IZ 0,D O 0 0] 92)).cell? ⟨w.heap.size,0,O⟩=J (IZ f):=ζ x (by rw[ν _ _ _ _ _ _ q];rfl);have c1:(å a (C #[IZ 0,IZ 0,D O 0 0] 92)).cell? ⟨w.heap.size,1,O⟩=J (IZ t):=ζ x (by rw[ν _ _ _ _ _ _ q];rfl);have z:=Zh (JT B docs f t _ (X.below m) (I.below m) E k (mc s) M);have K:a.heap.size<(å a (C #[IZ 0,IZ 0,D O 0 0] 92)).heap.size:=ο r;obtain⟨A,F⟩:∃ A,A=(å a (C #[IZ 0,IZ 0,D O 0 0] 92)):=⟨_,rfl⟩;rw[<-F]at x r m c0 c1 z K;have R:Hid (å (å w (C #[IZ f,IZ t] 89)) (C #[IZ 0,IZ 0,D O 0 0] 92)=A):=by show _=_;rw[F,n]
 obtain⟨Y,c,rfl,-,-⟩:=ny I;have aj:((f:Int)==(t:Int))=false:=gl.2 ϊ;have ae:¬(f:Int)=(t:Int):=ϊ;have W:(å w (C #[IZ f,IZ t] 89)).heap.size=a.heap.size:=by rw[n]
 have N:a.heap.size=w.heap.size+1:=by rw[n];simp
 rw[N]at r K;clear n F I k s M W N q;go_enter func36,ntmps36;go_wp2_with fail
 rw[R.o];refine z.o.mono ?_;rintro e l ⟨ak,rfl,G,o⟩;obtain⟨i,j,rfl,-⟩:=iF (G l fun _ _ _=>rfl);have Z:=ζ o c0;have aa:=ζ o c1;have h:l.heap[w.heap.size+1]?=J (C #[IZ 0,IZ 0,D O 0 0] 92 (0,0)):=(o.block _ K).trans r;have ag:=ν _ _ 0 _ _ _ h;have ah:=ν _ _ 1 _ _ _ h;have ai:=ν _ _ 2 _ _ _ h;have ab:=ϥ _ _ 0 _ _ h;have f1:=ϥ _ _ 1 _ _ h;have f2:=ϥ _ _ 2 _ _ h;have af:=o.size;have P:=Zh G;have Q:Hid ((iN docs f (t - f))=Α docs (f,t)):=rfl;generalize iN docs f (t - f)=g at *;have T:=m.trans (o.mono m.size);clear c0 c1 z G r;go_wp2_with fail
 have E:=π l (w.heap.size+1) 0 _ _ (IZ f) h;have k:=π _ (w.heap.size+1) 1 _ _ (IZ t) E;have s:=π _ (w.heap.size+1) 2 _ _ (D i (L g) j) k;have U:BQ w (ŝ (ŝ (ŝ l ⟨w.heap.size+1,0,O⟩ (IZ f)) ⟨w.heap.size+1,1,O⟩ (IZ t)) ⟨w.heap.size+1,2,O⟩ (D i (L g) j)):=(((T.setCell ύ _).setCell ύ _).setCell ύ _);have V:∀ y:β,(∀ b,w.heap.size<=b->b<(ŝ (ŝ (ŝ l ⟨w.heap.size+1,0,O⟩ (IZ f)) ⟨w.heap.size+1,1,O⟩ (IZ t)) ⟨w.heap.size+1,2,O⟩ (D i (L g) j)).heap.size->y.heap[b]?=(ŝ (ŝ (ŝ l ⟨w.heap.size+1,0,O⟩ (IZ f)) ⟨w.heap.size+1,1,O⟩ (IZ t)) ⟨w.heap.size+1,2,O⟩ (D i (L g) j)).heap[b]?)->fY y (D i (L g) j) (L g) g:=fun y k=>P.o y fun b ac S=>by
  rw[k b ϊ (by simpa using S),ψ _ _ _ _ ό,ψ _ _ _ _ ό,ψ _ _ _ _ ό]
 rw[<-Q.o];exact ϟ (v:=.tuple #[ā #[IZ f,IZ t,D i (L g) j],IZ 0]) (DF (p:=4) (u:=5) (ty:=92) rfl _ _ (w.heap.size+1) 92 _ (0,0) _ rfl s underlying92 rfl ϋ) rfl ⟨_,rfl,V,U⟩
def ϧ (docs:List (γ)) (w:β) (v:ε) (ps:List (Nat×Nat)):Prop:= ∃ b,Rd w v (L ps) 3 b/\∀ a (d:a<L ps),b[a*3]?=J (IZ ps[a].1)/\b[a*3+1]?=J (IZ ps[a].2)/\∃ c,b[a*3+2]?=J c/\fY w c (L (Α docs ps[a])) (Α docs ps[a])
theorem ϧ.below {docs:List (γ)} {w w':β} {v:ε} {ps:List (Nat×Nat)} (h:ϧ docs w v ps) (a:BQ w w'):ϧ docs w' v ps:=by
 obtain⟨b,g,i⟩:=h;refine⟨b,g.below a,fun k j=>?_⟩;obtain⟨c,d,l,e,f⟩:=i k j;exact⟨c,d,l,e,f.below a⟩
theorem rU {docs:List (γ)} {w:β} {v:ε} {ps:List (Nat×Nat)} (h:ϧ docs w v ps):∃ a c,v=D a (L ps) c/\L ps<=9223372036854775807 /\
  Hid (∀ k (g:k<L ps),∃ b off da dc,a=J ⟨b,off,O⟩/\L ps<=c/\w.cell? ⟨b,off+k*3,O⟩=J (IZ ps[k].1)/\w.cell? ⟨b,off+k*3+1,O⟩=J (IZ ps[k].2)/\w.cell? ⟨b,off+k*3+2,O⟩=J (D da (L (Α docs ps[k])) dc)/\fY w (D da (L (Α docs ps[k])) dc) (L (Α docs ps[k])) (Α docs ps[k])):=by
 obtain⟨q,⟨s,o,n⟩,m⟩:=h;unfold maxLen at o;rcases n with ⟨a,c,rfl,f⟩|⟨b,off,c,rfl,f,p,r,d⟩
 .exact⟨a,c,by rw[f],ϊ,fun t hi=>ϊ⟩
 .refine⟨_,c,rfl,ϊ,fun k g=>?_⟩
  obtain⟨i,j,u,l,e⟩:=m k g;obtain⟨da,dc,rfl,-,-⟩:=iF e;exact⟨b,off,da,dc,rfl,p,d _ _ i,by rw[iW];exact d _ _ j,by rw[iW];exact d _ _ l,e⟩
def je (ps:List (Nat×Nat)):Nat->Nat
 |0=>0
 |k+1=>(ps.getD k (0,0)).2
theorem Bf:∀ {ps:List (Nat×Nat)} {lo hi:Nat},hE lo ps hi->∀ k (a:k<L ps),(ps[k].1=if k=0 then lo else(ps.getD (k - 1) (0,0)).2)/\ps[k].1<ps[k].2/\ps[k].2<=hi/\lo<=ps[k].1
 |[],lo,hi,h,k,a=>by simp at a
 |q::r,lo,hi,h,k,a=>by
  obtain⟨b,g,c⟩:=h;have i:=oH c;cases k with
  |zero=>exact⟨b,by simpa using g,by simpa using i,by simp[b]⟩
  |succ k =>
   obtain⟨d,e,f,j⟩:=Bf c k (by simpa using a);refine⟨?_,by simpa using e,by simpa using f,?_⟩
   .rw[κ ϊ]
    simp only[pP,pK];rw[d];cases k with
    |zero=>simp
    |succ k=>simp
   .simp only[pP];omega
theorem qi {ps:List (Nat×Nat)} {hi:Nat} (h:hE 0 ps hi) (k:Nat) (a:k<L ps):ps[k].1=je ps k/\ps[k].2=je ps (k+1)/\ps[k].1<ps[k].2/\ps[k].2<=hi:=by
 obtain⟨b,c,d,-⟩:=Bf h k a;refine⟨?_,?_,c,d⟩
 .rw[b]
  cases k with
  |zero=>rfl
  |succ k=>rw[κ ϊ,pK];rfl
 .show _=(ps.getD k (0,0)).2
  rw[fR,Ρ a];rfl
theorem uN:∀ {ps:List (Nat×Nat)} {lo hi:Nat},hE lo ps hi->0<L ps->(ps.getD (L ps - 1) (0,0)).2=hi
 |[],lo,hi,h,h0=>by simp at h0
 |[q],lo,hi,h,h0=>by obtain⟨b,c,a⟩:=h;exact a
 |q::r::s,lo,hi,h,h0=>by
  obtain⟨b,c,a⟩:=h;have:=uN a ύ;simpa using this
structure ϵ (docs:List (γ)) (ps:List (Nat×Nat)) (m:Nat):Prop where
 nd:L docs<=1000
 ld:∀ d∈docs,L d<=2000
 np:L ps<=64
 ch:hE 0 ps m
 le:m<=L docs
theorem vL (A ah:ε) (docs:List (γ)) (ps:List (Nat×Nat)) (m:Nat) (w:β) (aJ:Ϩ w) (G:Δ w A docs) (ad:ϧ docs w ah ps) (d:ϵ docs ps m) :
  Calls prog 13 #[ā #[A,ah]] w fun e w'=>e=ŗ (.bool true)/\BQ w w':=by
 have ai:=Zh (fun(f h:Nat) g (s:BQ w g) (aC:f<h) (aD:h<=L docs)=>AQ A docs f h g (aJ.below s) (G.below s) d.nd d.ld aC aD);have ax:=Zh (fun v r a g (j:a<L ps) (B:fY g v (L (Α docs ps[a])) (Α docs ps[a])) (E:fY g r (L (Α docs ps[a])) (Α docs ps[a]))=>Mo v r _ _ g B E (fun e aG=>by
  have a5:=qi d.ch a j
  obtain⟨-,-,-,aX,-⟩:=vy (show e∈iN docs ps[a].1 (ps[a].2 - ps[a].1)from aG)
  have:=d.nd;have:=d.le
  omega))
 have ao:=Zh (fun a (j:a<L ps)=>qi d.ch a j);have ap:=Zh (fun a (j:a<L docs)=>d.ld docs[a] (Χ j));obtain⟨da,dc,rfl,a0,am⟩:=ny G;obtain⟨sa,sc,rfl,a9,ak⟩:=rU ad;have a3:=d.nd;have a4:=d.np;have a2:=d.le;clear G ad d;go_enter func13,ntmps13;have aq:Hid (L docs=L docs):=rfl;have ar:Hid (L ps=L ps):=rfl;go_wp2;go_loopw [23] (fun k wr=>∃ a:Nat,a<=L docs/\k=IZ (a:Int)/\wr=å w (C #[D da (L docs) dc,D sa (L ps) sc] 44)) (fun k _=>L docs - (intOf k).toNat)
 case atStart=>exact⟨0,Ι _,rfl,rfl⟩
 case round =>
  obtain⟨a,j,rfl,rfl⟩:=hrel;by_cases aH:a<L docs
  .have aa:a<L docs:=by have:=aq.o;omega
   obtain⟨b,off,bj,bk,rfl,U,-⟩:=am.o a aa;have a1:=ap.o a aa;have aN:(a:Int)<(L docs:Int):=ϊ;have be:(0:Int)<=(a:Int):=ϊ;have F:=ζ ((φ w.heap.size w).alloc NZ (C #[D (J ⟨b,off,O⟩) (L docs) dc,D sa (L ps) sc] 44)) U;generalize (L docs[a])=q at *;have aK:¬(2000:Int)<(q:Int):=ϊ;clear U;go_wp2;go_roundw;case rel=>exact⟨a+1,ϊ,ϕ,by first|rfl|trivial⟩
   case measure=>simp[intOf];omega
  .have aN:¬(a:Int)<(L docs:Int):=ϊ
   have Q:BQ w (å w (C #[D da (L docs) dc,D sa (L ps) sc] 44)):=ġ;have ac:=χ w (C #[D da (L docs) dc,D sa (L ps) sc] 44);have ba:w.heap.size<(å w (C #[D da (L docs) dc,D sa (L ps) sc] 44)).heap.size:=ύ;clear j aH;go_wp2;generalize(å w (C #[D da (L docs) dc,D sa (L ps) sc] 44))=K at *;have I:=Zh ac;clear ac;go_loopw [5,34] (fun aB k aQ=>∃ q:Nat,q<=L ps/\k=IZ (q:Int)/\aB=IZ ((je ps q:Nat):Int)/\BQ K aQ) (fun _ k _=>L ps - (intOf k).toNat)
   case atStart=>exact⟨0,Ι _,rfl,rfl,φ _ _⟩
   case round =>
    obtain⟨q,a7,rfl,rfl,i⟩:=hrel;have c:=Q.trans (i.mono Q.size);by_cases a8:q<L ps
    .have H:q<L ps:=by have:=ar.o;omega
     obtain⟨b,off,M,N,rfl,a6,V,W,F,Y⟩:=ak.o q H;obtain⟨p1,p2,aP,bh⟩:=ao.o q H;have aO:(q:Int)<(L ps:Int):=ϊ;have bf:=ζ c V;have l1:=ζ c W;have l2:=ζ c F;obtain⟨⟨aR,aS⟩,⟨aT,aU⟩,-⟩:=ι (θ I.o i);have aj:=Zh (fun g s=>ai.o ps[q].1 ps[q].2 g s aP ϊ);have az:=Zh (fun v r g B E=>ax.o v r q g H B E);have an:=Zh Y;have aV:=Zh p1;have au:=Zh p2;have Z:((je ps q:Nat):Int)=(ps[q].1:Int):=ϊ;rw[Z];have aw:Hid (Α docs (ps[q].1,ps[q].2)=Α docs ps[q]):=rfl;generalize ps[q].1=f at *;generalize ps[q].2=h at *;clear V W F Y p1 p2 Z;have aK:¬(h:Int)<=(f:Int):=ϊ;have bd:¬(L docs:Int)<(h:Int):=ϊ;generalize ab:L (Α docs ps[q])=ag at *;have av:=Zh ab;clear ab;obtain⟨z,rfl⟩:∃ z:β,z=wr:=⟨_,rfl⟩;have bc:w.heap.size<z.heap.size:=by have:=i.size;omega
     have aF:BQ w (å z (C #[IZ f,IZ h,D M ag N] 92)):=c.alloc c.size _;go_wp2_with fail
     refine(aj.o _ aF).mono ?_;rintro e o ⟨r,rfl,P,R⟩;have t:=P o (fun _ _ _=>rfl);obtain⟨x,y,rfl,-,-⟩:=iF t;obtain⟨u,bb,l⟩:=Ϻ R;obtain⟨⟨aL,aM,af⟩,⟨aA,f1,f2⟩,-⟩:=Β u;obtain⟨⟨aR,aS⟩,⟨aT,aU⟩,-⟩:=ι (θ (θ I.o i) l);have X:=an.o.below (c.trans (l.mono c.size));rw[aw.o]at t ⊢;generalize aI:L (Α docs ps[q])=n at *;obtain rfl:n=ag:=av.o;have aY:w.heap.size<o.heap.size:=ϊ;have aZ:BQ w (å o (C #[IZ f,IZ h,D x n y] 92)):=(c.trans (l.mono c.size)).alloc (gh c.size l.size) _;have T:BQ K (å o (C #[IZ f,IZ h,D x n y] 92)):=(i.trans (l.mono i.size)).alloc (gh i.size l.size) _;have p:BQ o (å o (C #[IZ f,IZ h,D x n y] 92)):=ġ;have al:=Zh (az.o (D x n y) (D M n N) _ (t.below p) (X.below p));have ae:=θ u p;have aW:=Zh u;have ay:=Zh ae;have bg:=ζ p af;clear P t X aI u ae p R;go_wp2_with fail
     refine al.o.mono ?_;rintro e bi ⟨rfl,S⟩;obtain⟨⟨aL,aM,af⟩,⟨aA,f1,f2⟩,-⟩:=Β (θ ay.o S);have aE:=T.trans (S.mono T.size);go_wp2;go_roundw;case rel=>exact⟨q+1,ϊ,ϕ,by rw[<-au.o],aE⟩
     case measure=>simp[intOf];omega
    .have aO:¬(q:Int)<(L ps:Int):=ϊ
     go_wp2;go_ret;exact⟨rfl,c⟩
def qJ (docs:List (γ)) (ps:List (Nat×Nat)) (i:Nat):List υ:=(ps.map (Α docs)).getD i []
theorem wj {docs:List (γ)} {ps:List (Nat×Nat)} {i:Nat} (h:i<L ps):qJ docs ps i=Α docs ps[i]:=by
 unfold qJ;rw[fR,jK,Ρ h];rfl
theorem Eb (docs:List (γ)) (ps:List (Nat×Nat)):ir (qJ docs ps) (fun _=>0) (L ps)=ps.map (Α docs):=by
 unfold ir;refine List.ext_getElem ύ fun b c a=>?_;have hi:b<L ps:=by simpa using a
 simp[wj hi]
theorem MF {docs:List (γ)} {ps:List (Nat×Nat)} (b:∀ p∈ps,p.2<=1000) (i:Nat):∀ e∈qJ docs ps i,L e.1<=100000/\L e.2<=1000:=by
 intro e a;rcases ot i (L ps) with h|h
 .rw[wj h]at a
  have:=b _ (Χ h);obtain⟨-,c,-,d,-⟩:=vy (show e∈iN docs ps[i].1 (ps[i].2 - ps[i].1)from a);omega
 .unfold qJ at a
  rw[fR,kZ (by simpa using h)]at a;cases a
theorem rc:∀ {ps:List (Nat×Nat)} {lo hi:Nat},hE lo ps hi->∀ p∈ps,lo<=p.1/\p.1<p.2/\p.2<=hi
 |[],lo,hi,h,p,hp=>by cases hp
 |q::r,lo,hi,h,p,hp=>by
  obtain⟨b,c,a⟩:=h;have d:=oH a;rcases gP.1 hp with rfl|hp
  .omega
  .have:=rc a p hp
   omega
theorem Bh:∀ {ps:List (Nat×Nat)} {lo hi:Nat},hE lo ps hi->∀ i (h:i+1<L ps),ps[i+1].1=(ps[i]' ϊ).2
 |[],lo,hi,h,i,hi'=>by simp at hi'
 |[q],lo,hi,h,i,hi'=>by simp at hi'
 |q::r::s,lo,hi,h,i,hi'=>by
  obtain⟨b,c,a⟩:=h;cases i with
  |zero=>exact a.1
  |succ i=>exact Bh a i (by simpa using hi')
theorem uO:∀ {ps:List (Nat×Nat)} {lo hi:Nat},hE lo ps hi->∀ (h:0<L ps),(ps[0]'h).1=lo/\(ps[L ps - 1]' ϊ).2=hi
 |[],lo,hi,h,h0=>by simp at h0
 |[q],lo,hi,h,h0=>⟨h.1,h.2.2⟩
 |q::r::s,lo,hi,h,h0=>by
  obtain⟨a,c,b⟩:=h;refine⟨a,?_⟩;have:=(uO b ύ).2;simpa using this
theorem ϧ.segIn {docs:List (γ)} {w:β} {v:ε} {ps:List (Nat×Nat)} (h:ϧ docs w v ps) (t:0<L ps) :
  ∃ g off c f,v=D (J ⟨g,off,O⟩) (L ps) c/\qW w g off (L ps) (fun i=>((ps.getD i (0,0)).1:Int)) (fun i=>((ps.getD i (0,0)).2:Int)) f (qJ docs ps):=by
 obtain⟨j,⟨q,r,m⟩,d⟩:=h;rcases m with ⟨o,c,rfl,l⟩|⟨b,off,c,rfl,l,s,p,e⟩
 .omega
 .have hg:∀ i (hi:i<L ps),ps.getD i (0,0)=ps[i]:=fun i hi=>by rw[fR,Ρ hi];rfl
  refine⟨b,off,c,fun i=>j.getD (i*3+2) undef,rfl,fun i hi=>?_,fun i hi=>?_,fun i hi=>?_,fun i hi=>?_⟩
  .rw[hg i hi];exact e _ _ (d i hi).1
  .rw[hg i hi,iW];exact e _ _ (d i hi).2.1
  .obtain⟨-,-,n,a,-⟩:=d i hi
   rw[iW,fR,a];exact e _ _ a
  .obtain⟨-,-,n,a,k⟩:=d i hi
   rw[fR,a,wj hi];exact k
theorem As (docs:List (γ)) (v:ε) (ps:List (Nat×Nat)) (lo hi:Nat) (w:β) (n:Ϩ w) (h:ϧ docs w v ps) (b:hE lo ps hi) (e:0<L ps) (m:L ps<=1000) (p:hi<=40) (j:∀ d∈docs,L d<=2500) :
  Calls prog 302 #[v] w (Ab lo hi (Α docs (lo,hi)) w):=by
 obtain⟨g,off,c,i,rfl,k⟩:=h.segIn e;have hg:∀ a (hi:a<L ps),ps.getD a (0,0)=ps[a]:=fun a hi=>by rw[fR,Ρ hi];rfl
 have f:iU (ps.map (Α docs))<=100000:=by
  have:=EG docs 2500 j b;omega
 refine FP g off (L ps) c _ _ i (qJ docs ps) _ 100000 lo hi w n k e m ?_ ?_ ϊ (MF fun o l=>by have:=rc b o l;omega) (fun a hi=>?_) (fun a hi=>?_) ?_ ?_
 .rw[Eb];exact NI docs b 100000 f
 .rw[Eb];exact f
 .rw[hg a hi,wj hi]
  have:=rc b _ (Χ hi);exact Df docs ps[a] this.2.1 ϊ
 .rw[hg (a+1) hi,hg a ϊ,Bh b a hi]
 .rw[hg 0 e,(uO b e).1]
 .rw[hg (L ps - 1) ϊ,(uO b e).2]
theorem ϧ.three {docs:List (γ)} {w:β} {v:ε} {p q r:Nat×Nat} (h:ϧ docs w v [p,q,r]) :
  ∃ (b off c:Nat) (e f:ε),v=D (J ⟨b,off,O⟩) 3 c/\3<=c/\c<=maxLen /\
   (w.cell? ⟨b,off,O⟩=J (IZ p.1)/\w.cell? ⟨b,off+1,O⟩=J (IZ p.2)/\w.cell? ⟨b,off+2,O⟩=J e/\fY w e (L (Α docs p)) (Α docs p)) /\
   (w.cell? ⟨b,off+6,O⟩=J (IZ r.1)/\w.cell? ⟨b,off+7,O⟩=J (IZ r.2)/\w.cell? ⟨b,off+8,O⟩=J f/\fY w f (L (Α docs r)) (Α docs r)) /\
   ϧ docs w (D (J ⟨b,off,O⟩) 2 c) [p,q]/\ϧ docs w (D (J ⟨b,off+3,O⟩) 2 (c - 1)) [q,r]:=by
 obtain⟨y,⟨j,P,A⟩,g⟩:=h;simp only[Ϧ,gF]at j P A;rcases A with ⟨Q,c,rfl,N⟩|⟨b,off,c,rfl,N,R,z,a⟩
 .omega
 .obtain⟨m,n,e,o,s⟩:=g 0 ύ
  obtain⟨b1,b2,E,b3,t⟩:=g 1 ύ;obtain⟨c1,c2,f,u,x⟩:=g 2 ύ;have F:=a _ _ m;have G:=a _ _ n;have H:=a _ _ o;have I:=a _ _ c1;have K:=a _ _ c2;have M:=a _ _ u;refine⟨b,off,c,e,f,rfl,ϊ,z,⟨F,G,H,s⟩,⟨I,K,M,x⟩,?_,?_⟩
  .refine⟨y.take 6,⟨by rw[gN,j];rfl,by simp only[Ϧ,gF];omega,.inr ⟨b,off,c,rfl,ύ,by simp only[Ϧ,gF];omega,z,fun B l d=>?_⟩⟩,fun k i=>?_⟩
   .rw[hP]at d
    split at d
    .exact a B l d
    .cases d
   .match k,i with
    |0,_=>exact⟨by rw[hP,μ ϊ];exact m,by rw[hP,μ ϊ];exact n,e,by rw[hP,μ ϊ];exact o,s⟩
    |1,_=>exact⟨by rw[hP,μ ϊ];exact b1,by rw[hP,μ ϊ];exact b2,E,by rw[hP,μ ϊ];exact b3,t⟩
  .refine⟨y.drop 3,⟨by rw[gb,j];rfl,by simp only[Ϧ,gF];omega,.inr ⟨b,off+3,c - 1,rfl,ύ,by simp only[Ϧ,gF];omega,ϊ,fun B l d=>?_⟩⟩,fun k i=>?_⟩
   .rw[jo]at d
    rw[iW];exact a _ l d
   .match k,i with
    |0,_=>exact⟨by rw[jo];exact b1,by rw[jo];exact b2,E,by rw[jo];exact b3,t⟩
    |1,_=>exact⟨by rw[jo];exact c1,by rw[jo];exact c2,f,by rw[jo];exact u,x⟩
inductive Ev where
 |doc (d:γ)
 |flush
 |merge (i many:Nat)
 |settle
def Ev.bytes:Ev->γ
 |.doc d=>ξ 0++Ζ d
 |.flush=>ξ 1
 |.merge i m=>ξ 2++(ξ i++ξ m)
 |.settle=>ξ 3
def ϡ (a:List Ev):γ:=a.flatMap Ev.bytes
def Ev.ok:Ev->Prop
 |.doc d=>L d<=2000
 |.merge i m=>i<=4611686018427387904/\m<=4611686018427387904
 |_=>True
theorem vf (a:List Ev) (e:Ev):ϡ (a++[e])=ϡ a++e.bytes:=by simp[ϡ]
theorem Ev.bytes_pos (e:Ev):0<L e.bytes:=by
 cases e<;>simp only[Ev.bytes,ω]<;>first|exact qC _|(have:=qC 0;have:=qC 2;omega)
theorem Ev.bytes_len (e:Ev) (h:e.ok):L e.bytes<=2100:=by
 cases e with
 |doc d =>
  simp only[Ev.ok]at h;have a:=fQ 8 0 ϐ;have b:=fQ 8 (L d) ϊ;simp only[Ev.bytes,Ζ,ω];omega
 |flush=>have:=fQ 8 1 ϐ;simp only[Ev.bytes];omega
 |merge c f =>
  simp only[Ev.ok]at h;have a:=fQ 8 2 ϐ;have b:=fQ 8 c ϊ;have g:=fQ 8 f ϊ;simp only[Ev.bytes,ω];omega
 |settle=>have:=fQ 8 3 ϐ;simp only[Ev.bytes];omega
abbrev Ix:=List (γ)×List (Nat×Nat)
def nv (ps:List (Nat×Nat)):Nat:=je ps (L ps)
def hN (ps:List (Nat×Nat)) (i a:Nat):List (Nat×Nat):=ps.take i++((ps.getD i (0,0)).1,(ps.getD (i+a - 1) (0,0)).2)::ps.drop (i+a)
def iw (ps:List (Nat×Nat)):List (Int×Int):=ps.map fun a=>((a.1:Int),(a.2:Int))
def jU:Nat->List (Nat×Nat)->List (Nat×Nat)
 |0,ps=>ps
 |f+1,ps=>if(jS (iw ps)).2=true then jU f (hN ps (jS (iw ps)).1.toNat 2)else ps
def ge (x:Ix):Ev->Option Ix
 |.doc d=>if L d<=2000/\L x.1<1000 then J (x.1++[d],x.2)else O
 |.flush=>if nv x.2=L x.1\/64<=L x.2 then O else J (x.1,x.2++[(nv x.2,L x.1)])
 |.merge i m=>if m<2\/L x.2<m\/L x.2 - m<i then O else J (x.1,hN x.2 i m)
 |.settle=>J (x.1,jU (L x.2) x.2)
def gH:Ix->List Ev->Option Ix
 |x,[]=>J x
 |x,e::es=>match ge x e with
  |some y=>gH y es
  |none=>O
theorem rI:∀ (b:List Ev) (x:Ix) (e:Ev),gH x (b++[e])=(gH x b).bind fun y=>ge y e
 |[],x,e=>by
  simp only[jy,gH,sy];cases ge x e<;>rfl
 |a::b,x,e=>by
  simp only[kq,gH];cases ge x a with
  |none=>rfl
  |some y=>exact rI b y e
theorem td:∀ {a b:List (Nat×Nat)} {lo hi:Nat},hE lo (a++b) hi↔∃ m,hE lo a m/\hE m b hi
 |[],b,lo,hi=>by simp[hE]
 |p::a,b,lo,hi=>by
  simp only[kq,hE,td (a:=a)];constructor
  .rintro⟨c,d,m,e,f⟩;exact⟨m,⟨c,d,e⟩,f⟩
  .rintro⟨m,⟨c,d,e⟩,f⟩;exact⟨c,d,m,e,f⟩
theorem te {ps:List (Nat×Nat)} {m:Nat} (h:hE 0 ps m):nv ps=m:=by
 unfold nv;cases a:L ps with
 |zero =>
  have:ps=[]:=ko a;subst this;have:(0:Nat)=m:=h;simpa[je] using this
 |succ b =>
  have:=uN h ϊ;rw[a]at this;simpa[je] using this
theorem CR {ps:List (Nat×Nat)} {i m:Nat} (h:i+m<=L ps) (a:2<=m):L (hN ps i m)<L ps:=by
 simp only[hN,ω,Ϧ,gN,gb];omega
theorem JW {ps:List (Nat×Nat)} {i m:Nat} (h:i+m<=L ps):ps=ps.take i++((ps.drop i).take m++ps.drop (i+m)):=by
 rw[<-qQ,pd,pd]
theorem xO {lo hi:Nat} {ps:List (Nat×Nat)} (h:hE lo ps hi) {i m:Nat} (l:i+m<=L ps) (p:1<=m):∃ a b,hE lo (ps.take i) a/\hE a ((ps.drop i).take m) b/\hE b (ps.drop (i+m)) hi/\a=(ps.getD i (0,0)).1/\b=(ps.getD (i+m - 1) (0,0)).2/\a<b:=by
 have o:=JW l;rw[o]at h;obtain⟨a,g,j⟩:=td.1 h;obtain⟨b,c,k⟩:=td.1 j;have n:L ((ps.drop i).take m)=m:=ό;obtain⟨d,e⟩:=uO c ϊ;refine⟨a,b,g,c,k,?_,?_,?_⟩
 .rw[<-d,fR,Ρ ϊ]
  simp
 .rw[<-e,fR,Ρ ϊ]
  simp only[Option.getD_some,oV,List.getElem_drop,n]
  congr 2;omega
 .have f:0<L ((ps.drop i).take m):=ϊ
  obtain⟨q,r,s⟩:=rc c _ (Χ f);omega
theorem xN {lo hi:Nat} {ps:List (Nat×Nat)} (h:hE lo ps hi) {i m:Nat} (g:i+m<=L ps) (d:1<=m):hE lo (hN ps i m) hi:=by
 obtain⟨a,b,c,j,e,rfl,rfl,f⟩:=xO h g d;exact td.2 ⟨_,c,rfl,f,e⟩
theorem zA (ps:List (Nat×Nat)):L (iw ps)=L ps:=by simp[iw]
theorem yN {ps:List (Nat×Nat)} (h:(jS (iw ps)).2=true):(jS (iw ps)).1.toNat+2<=L ps/\0<=(jS (iw ps)).1:=by
 have:∀ (b:List (Int×Int)) (a:Nat),(nX b a).2=true->0<=(nX b a).1/\(nX b a).1.toNat<a:=by
  intro b a;induction a with
  |zero=>intro h;simp[nX]at h
  |succ a e =>
   intro h;unfold nX at h ⊢;split
   .simp
   .rename_i d
    rw[κ d]at h;have:=e h;omega
 have c:=this (iw ps) (L (iw ps) - 1) h;rw[zA]at c;unfold jS;rw[zA];omega
theorem Ea:∀ (f:Nat) {ps:List (Nat×Nat)} {lo hi:Nat},hE lo ps hi->hE lo (jU f ps) hi/\L (jU f ps)<=L ps
 |0,ps,lo,hi,h=>⟨h,NZ⟩
 |f+1,ps,lo,hi,h=>by
  unfold jU;split
  .rename_i b
   have d:=yN b;obtain⟨a,c⟩:=Ea f (xN h (i:=(jS (iw ps)).1.toNat) (m:=2) ϊ ϊ);have:=CR (ps:=ps) (i:=(jS (iw ps)).1.toNat) (m:=2) ϊ ϊ;exact⟨a,ϊ⟩
  .exact⟨h,NZ⟩
abbrev jA (x:Ix):Prop:=ϵ x.1 x.2 (nv x.2)
theorem jA.start:jA ([],[]):=⟨ύ,ύ,ύ,rfl,by simp[nv,je]⟩
theorem It {x y:Ix} {e:Ev} (h:jA x) (a:ge x e=J y):jA y:=by
 obtain⟨nd,ld,np,ch,le⟩:=h;cases e with
 |doc d =>
  simp only[ge]at a;split at a
  .rename_i f
   injection a with a;subst a;exact⟨ό,fun k l=>by
    rcases mg.1 l with h|h
    .exact ld k h
    .simp at h;rw[h];exact f.1,np,ch,ό⟩
  .cases a
 |flush =>
  simp only[ge]at a;split at a
  .cases a
  .rename_i f
   injection a with a;subst a;have b:hE 0 (x.2++[(nv x.2,L x.1)]) (L x.1):=td.2 ⟨_,ch,rfl,ϑ,rfl⟩;have c:=te b;exact⟨nd,ld,ό,by rw[c];exact b,by rw[c];exact NZ⟩
 |merge g j =>
  simp only[ge]at a;split at a
  .cases a
  .rename_i f
   injection a with a;subst a;have b:=xN ch (i:=g) (m:=j) ϊ ϊ;have c:=te b;have:=CR (ps:=x.2) (i:=g) (m:=j) ϊ ϊ;exact⟨nd,ld,ϑ,by rw[c];exact b,by rw[c];exact le⟩
 |settle =>
  simp only[ge]at a;injection a with a;subst a;obtain⟨b,n⟩:=Ea (L x.2) ch;have c:=te b;exact⟨nd,ld,ϑ,by rw[c];exact b,by rw[c];exact le⟩
theorem tN:∀ {b:List Ev} {x y:Ix},jA x->gH x b=J y->jA y
 |[],x,y,h,he=>by simp only[gH]at he;injection he with he;rw[<-he];exact h
 |e::b,x,y,h,he=>by
  simp only[gH]at he;cases a:ge x e with
  |none=>rw[a]at he;cases he
  |some z=>rw[a]at he;exact tN (It h a) he
def qq:Ev->List (γ)
 |.doc d=>[d]
 |_=>[]
theorem tn {x y:Ix} {e:Ev} (a:ge x e=J y):y.1=x.1++qq e:=by
 cases e<;>simp only[ge,qq]at a ⊢
 .split at a
  .injection a with a;subst a;rfl
  .cases a
 .split at a
  .cases a
  .injection a with a;subst a;simp
 .split at a
  .cases a
  .injection a with a;subst a;simp
 .injection a with a;subst a;simp
theorem rG:∀ {a:List Ev} {x y:Ix},gH x a=J y->L y.1<=L x.1+L a
 |[],x,y,he=>by simp only[gH]at he;injection he with he;rw[<-he];simp
 |e::a,x,y,he=>by
  simp only[gH]at he;cases b:ge x e with
  |none=>rw[b]at he;cases he
  |some z =>
   rw[b]at he;have d:=rG he;have c:=iY List.length (tn b);simp only[ω]at c;have:L (qq e)<=1:=by cases e<;>simp[qq]
   simp only[Ϧ];omega
theorem JS {d1 d2:List (γ)} {lo n:Nat} (h:∀ i,lo<=i->i<lo+n->d1.getD i []=d2.getD i []):iN d1 lo n=iN d2 lo n:=by
 have hi:∀ a,gB d1 a lo n=gB d2 a lo n:=by
  intro a;unfold gB
  congr 1
  apply List.filter_congr;intro i hi;rw[List.mem_range'_1]at hi;rw[h i hi.1 hi.2]
 have b:jr d1 lo n=jr d2 lo n:=by
  unfold jr;apply yp;intro i hi;rw[List.mem_range'_1]at hi;rw[h i hi.1 hi.2]
 unfold iN;rw[b];exact uq fun a _=>by rw[hi a]
theorem Kx (docs:List (γ)) (d:γ) (p:Nat×Nat) (a:p.1<=p.2) (h:p.2<=L docs):Α (docs++[d]) p=Α docs p:=by
 refine JS fun c a b=>?_;simp only[fR];rw[iX ϊ]
