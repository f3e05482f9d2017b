/- Part 15 of the proof. -/
import Derived.Test.YtpilfbcffofheaaGreatDoorm10
import Derived.Test.YtpilfbcffofheaaGreatDoorm12
import Derived.Test.YtpilfbcffofheaaGreatDoorm13
import Derived.Test.YtpilfbcffofheaaGreatDoorm14
set_option linter.all false
set_option maxRecDepth 100000
set_option maxHeartbeats 16000000
namespace Go.Proofs.YtpilfbcffofheaaGreatDoor
open Go.RowKit Go.Proofs.Tryz Go.Sort
open Value renaming slice->D,int->ĭ,agg->ā,string->š,pointer->þ
open Option renaming none->O,some->J
open List renaming length->L
open Obj renaming cells->C
open Ending renaming returned->ŗ
open World renaming alloc->å,setCell->ŝ
def GY (f t:Int) (a:List ϰ) (w:β) (e:Ending) (g:β):Prop:= ∃ c,e=ŗ (.tuple #[ā #[G f,G t,c],G 0])/\(∀ d:β,(∀ b,w.heap.size<=b->b<g.heap.size->d.heap[b]?=g.heap[b]?)->fN d c (L a) a)/\Below w.heap.size w g
def Cm (B:ε) (ď:List (γ)) (f t:Nat) (w:β) (X:ϭ w) (H:Ε w B ď) (E:L ď<=1000) (k:∀ d∈ď,L d<=2000) (o:f<t) (K:t<=L ď) :
  Calls prog 36 #[B,ā #[G f,G t]] w (GY f t (Δ ď (f,t)) w):=by
 have M:BQ w (å w (C #[G f,G t] 89)):=ġ;have x:=φ w (C #[G f,G t] 89);obtain⟨a,m⟩:∃ a,a=(å w (C #[G f,G t] 89)):=⟨_,rfl⟩;rw[<-m]at M x;have r:BQ a (å a (C #[G 0,G 0,D O 0 0] 92)):=ġ;have n:=φ a (C #[G 0,G 0,D O 0 0] 92);have q:=M.t r;have c0:(å a (C #[G 0,G 0,D O 0 0] 92)).cell? ⟨w.heap.size,0,O⟩=J (G f):=ζ r (by rw[ξ _ _ _ _ _ _ x];rfl);have c1:(å a (C #[G 0,G 0,D O 0 0] 92)).cell? ⟨w.heap.size,1,O⟩=J (G t):=ζ r (by rw[ξ _ _ _ _ _ _ x];rfl);have z:=Zh (LM B ď f t _ (X.B q) (H.B q) E k (mC o) K);have I:a.heap.size<(å a (C #[G 0,G 0,D O 0 0] 92)).heap.size:=ς n;obtain⟨A,F⟩:∃ A,A=(å a (C #[G 0,G 0,D O 0 0] 92)):=⟨_,rfl⟩;rw[<-F]at r n q c0 c1 z I;have R:Hid (å (å w (C #[G f,G t] 89)) (C #[G 0,G 0,D O 0 0] 92)=A):=by show _=_;rw[F,m]
 obtain⟨a0,c,rfl,-,-⟩:=mr H;have ah:((f:Int)==(t:Int))=false:=fU.2 U;have ad:¬(f:Int)=(t:Int):=U;have W:(å w (C #[G f,G t] 89)).heap.size=a.heap.size:=by rw[m]
 have N:a.heap.size=w.heap.size+1:=by rw[m];simp
 rw[N]at n I;clear m F H k o K W N x;go_enter func36,ntmps36;go_wp2_with fail
 rw[R.o];refine z.o.M ?_;rintro e l ⟨ai,rfl,Z,s⟩;obtain⟨i,j,rfl,-⟩:=ic (Z l fun _ _ _=>rfl);have a1:=ζ s c0;have aa:=ζ s c1;have h:l.heap[w.heap.size+1]?=J (C #[G 0,G 0,D O 0 0] 92 (0,0)):=(s.block _ I).trans n;have ae:=ξ _ _ 0 _ _ _ h;have af:=ξ _ _ 1 _ _ _ h;have ag:=ξ _ _ 2 _ _ _ h;have ab:=ϧ _ _ 0 _ _ h;have f1:=ϧ _ _ 1 _ _ h;have f2:=ϧ _ _ 2 _ _ h;have P:=Zh Z;have Q:Hid ((iw ď f (t - f))=Δ ď (f,t)):=rfl;generalize iw ď f (t - f)=g at *;have T:=q.t s;clear c0 c1 z Z n;go_wp2_with fail
 have E:=υ l (w.heap.size+1) 0 _ _ (G f) h;have k:=υ _ (w.heap.size+1) 1 _ _ (G t) E;have o:=υ _ (w.heap.size+1) 2 _ _ (D i (L g) j) k;have Y:BQ w (ŝ (ŝ (ŝ l ⟨w.heap.size+1,0,O⟩ (G f)) ⟨w.heap.size+1,1,O⟩ (G t)) ⟨w.heap.size+1,2,O⟩ (D i (L g) j)):=(((T.S ύ _).S ύ _).S ύ _);have V:∀ y:β,(∀ b,w.heap.size<=b->b<(ŝ (ŝ (ŝ l ⟨w.heap.size+1,0,O⟩ (G f)) ⟨w.heap.size+1,1,O⟩ (G t)) ⟨w.heap.size+1,2,O⟩ (D i (L g) j)).heap.size->y.heap[b]?=(ŝ (ŝ (ŝ l ⟨w.heap.size+1,0,O⟩ (G f)) ⟨w.heap.size+1,1,O⟩ (G t)) ⟨w.heap.size+1,2,O⟩ (D i (L g) j)).heap[b]?)->fN y (D i (L g) j) (L g) g:=fun y k=>P.o y fun b ac S=>by
  rw[k b U (by simpa using S),Γ _ _ _ _ ό,Γ _ _ _ _ ό,Γ _ _ _ _ ό]
 rw[<-Q.o];exact Ω (v:=.tuple #[ā #[G f,G t,D i (L g) j],G 0]) (Ff (p:=4) (u:=5) (ty:=92) rfl _ _ (w.heap.size+1) 92 _ (0,0) _ rfl o underlying92 rfl ϋ) rfl ⟨_,rfl,V,Y⟩
def ϣ (e:List (γ)) (w:β) (v:ε) (f:List (Nat×Nat)):Prop:= ∃ b,Rd w v (L f) 3 b/\∀ a (d:a<L f),b[a*3]?=J (G f[a].1)/\b[a*3+1]?=J (G f[a].2)/\∃ c,b[a*3+2]?=J c/\fN w c (L (Δ e f[a])) (Δ e f[a])
def ϣ.B {docs w w' v ps} (h:ϣ docs w v ps) (a:BQ w w'):ϣ docs w' v ps:=by
 obtain⟨b,g,i⟩:=h;refine⟨b,g.B a,fun k j=>?_⟩;obtain⟨c,d,l,e,f⟩:=i k j;exact⟨c,d,l,e,f.B a⟩
def qX {docs w v ps} (h:ϣ docs w v ps):∃ a c,v=D a (L ps) c/\L ps<=9223372036854775807 /\
  Hid (∀ k (g:k<L ps),∃ b off da dc,a=J ⟨b,off,O⟩/\L ps<=c/\w.cell? ⟨b,off+k*3,O⟩=J (G ps[k].1)/\w.cell? ⟨b,off+k*3+1,O⟩=J (G ps[k].2)/\w.cell? ⟨b,off+k*3+2,O⟩=J (D da (L (Δ docs ps[k])) dc)/\fN w (D da (L (Δ docs ps[k])) dc) (L (Δ docs ps[k])) (Δ docs ps[k])):=by
 obtain⟨q,⟨s,o,n⟩,m⟩:=h;unfold maxLen at o;rcases n with ⟨a,c,rfl,f⟩|⟨b,off,c,rfl,f,p,r,d⟩
 .exact⟨a,c,by rw[f],U,fun t hi=>U⟩
 .refine⟨_,c,rfl,U,fun k g=>?_⟩
  obtain⟨i,j,u,l,e⟩:=m k g;obtain⟨da,dc,rfl,-,-⟩:=ic e;exact⟨b,off,da,dc,rfl,p,d _ _ i,by rw[iX];exact d _ _ j,by rw[iX];exact d _ _ l,e⟩
def kb (a:List (Nat×Nat)):Nat->Nat
 |0=>0
 |k+1=>(a.getD k (0,0)).2
def Cz:∀ {l:List (Nat×Nat)} {m n:Nat},il m l n->∀ k (a:k<L l),(l[k].1=if k=0 then m else(l.getD (k - 1) (0,0)).2)/\l[k].1<l[k].2/\l[k].2<=n/\m<=l[k].1
 |[],m,n,h,k,a=>by simp at a
 |q::r,m,n,h,k,a=>by
  obtain⟨b,g,c⟩:=h;have i:=rJ c;cases k with
  |zero=>exact⟨b,by simpa using g,by simpa using i,by simp[b]⟩
  |succ k =>
   obtain⟨d,e,f,j⟩:=Cz c k (by simpa using a);refine⟨?_,by simpa using e,by simpa using f,?_⟩
   .rw[κ U]
    simp only[rn,qo];rw[d];cases k with
    |zero=>simp
    |succ k=>simp
   .simp only[rn];omega
theorem nU {ps hi} (h:il 0 ps hi) (k hk):ps[k].1=kb ps k/\ps[k].2=kb ps (k+1)/\ps[k].1<ps[k].2/\ps[k].2<=hi:=by
 obtain⟨a,b,c,-⟩:=Cz h k hk;refine⟨?_,?_,b,c⟩
 .rw[a]
  cases k with
  |zero=>rfl
  |succ k=>rw[κ U,qo];rfl
 .show _=(ps.getD k (0,0)).2
  rw[fX,Ρ hk];rfl
def wG:∀ {e:List (Nat×Nat)} {f d:Nat},il f e d->0<L e->(e.getD (L e - 1) (0,0)).2=d
 |[],f,d,h,h0=>by simp at h0
 |[q],f,d,h,h0=>by obtain⟨b,c,a⟩:=h;exact a
 |q::r::s,f,d,h,h0=>by
  obtain⟨b,c,a⟩:=h;have:=wG a ύ;simpa using this
structure Ϻ (docs:List (γ)) (ps:List (Nat×Nat)) (m:Nat):Prop where
 nd:L docs<=1000
 ld:∀ d∈docs,L d<=2000
 np:L ps<=64
 ch:il 0 ps m
 le:m<=L docs
def Au (t P:ε) (ď:List (γ)) (ps m) (w:β) (aF:ϭ w) (H:Ε w t ď) (aD:ϣ ď w P ps) (c:Ϻ ď ps m) :
  Calls prog 13 #[ā #[t,P]] w fun e w'=>e=ŗ (.bool true)/\BQ w w':=by
 have b0:=Zh (fun(f g) d (o:BQ w d) ak (al:g<=L ď)=>Cm t ď f g d (aF.B o) (H.B o) c.nd c.ld ak al);have ad:=Zh (fun A l a d (k:a<L ps) u (v:fN d l (L (Δ ď ps[a])) (Δ ď ps[a]))=>Pj A l _ _ d u v (fun e az=>by
  have aZ:=nU c.ch a k
  obtain⟨-,-,-,aS,-⟩:=xn (show e∈iw ď _ _ from az)
  have:=c.nd;have:=c.le
  omega))
 have Y:=Zh (fun a k=>nU c.ch a k);have Z:=Zh (fun a k=>c.ld ď[a] (Ψ k));obtain⟨da,dc,rfl,aT,W⟩:=mr H;obtain⟨sa,sc,rfl,a4,b1⟩:=qX aD;have aX:=c.nd;have aY:=c.np;have aW:=c.le;clear H aD c;go_enter func13,ntmps13;go_wp2;go_loopw [23] (fun h wr=>∃ a:Nat,a<=L ď/\h=G (a:Int)/\wr=å w (C #[D da (L ď) dc,D sa (L ps) sc] 44)) (fun h _=>L ď - (intOf h).toNat)
 .exact⟨0,Ζ _,rfl,rfl⟩
 obtain⟨a,k,rfl,rfl⟩:=hrel;by_cases aU:a<L ď
 .have I:a<L ď:=by omega
  obtain⟨b,off,be,bf,rfl,au,-⟩:=W.o a I;have aV:=Z.o a I;have aJ:(a:Int)<(L ď:Int):=U;have a9:(0:Int)<=(a:Int):=U;have S:=ζ ((ρ _ w).A NZ (C #[D (J ⟨b,off,O⟩) (L ď) dc,D sa (L ps) sc] 44)) au;generalize (L ď[a])=q at *;have aG:¬(2000:Int)<(q:Int):=U;clear au;go_wp2;go_roundw
  .exact⟨a+1,U,ϕ,by first|rfl|trivial⟩
  exact ω
 .have aJ:¬(a:Int)<(L ď:Int):=U
  have ao:BQ w (å w (C #[D da (L ď) dc,D sa (L ps) sc] 44)):=ġ;have aC:=φ w (C #[D da (L ď) dc,D sa (L ps) sc] 44);have a5:w.heap.size<(å w (C #[D da (L ď) dc,D sa (L ps) sc] 44)).heap.size:=ύ;clear k aU;go_wp2;generalize(å w _)=E at *;have B:=Zh aC;clear aC;go_loopw [5,34] (fun aj h aM=>∃ q:Nat,q<=L ps/\h=G (q:Int)/\aj=G ((kb ps q:Nat):Int)/\BQ E aM) (fun _ h _=>L ps - (intOf h).toNat)
  .exact⟨0,Ζ _,rfl,rfl,ρ _ _⟩
  obtain⟨q,a2,rfl,rfl,j⟩:=hrel;have i:=ao.t j;by_cases a3:q<L ps
  .have y:q<L ps:=by omega
   obtain⟨b,off,ag,ah,rfl,a0,av,aw,S,ay⟩:=b1.o q y;obtain⟨p1,p2,aL,bc⟩:=Y.o q y;have aK:(q:Int)<(L ps:Int):=U;have ba:=ζ i av;have l1:=ζ i aw;have l2:=ζ i S;obtain⟨⟨aN,aO⟩,⟨aP,aQ⟩,-⟩:=ν (θ B.o j);have T:=Zh (fun d o=>b0.o _ _ d o aL U);have af:=Zh (fun A l d u v=>ad.o A l q d y u v);have⟨X,aR,aa⟩:=ϲ ay p1 p2;have aA:((kb ps q:Nat):Int)=(ps[q].1:Int):=U;rw[aA];have ac:Hid (Δ ď (ps[q].1,ps[q].2)=Δ ď ps[q]):=rfl;generalize ps[q].1=f at *;generalize ps[q].2=g at *;clear av aw S ay p1 p2 aA;have aG:¬(g:Int)<=(f:Int):=U;have a8:¬(L ď:Int)<(g:Int):=U;generalize aB:L (Δ ď _)=N at *;have ab:=Zh aB;clear aB;obtain⟨s,rfl⟩:∃ s:β,s=wr:=⟨_,rfl⟩;have a7:w.heap.size<s.heap.size:=ι j.size;have ar:BQ w (å s (C #[G f,G g,D ag N ah] 92)):=i.al _;go_wp2_with fail
   refine(T.o _ ar).M ?_;rintro e r ⟨l,rfl,an,ap⟩;have x:=an r (fun _ _ _=>rfl);obtain⟨Q,R,rfl,-,-⟩:=ic x;obtain⟨K,a6,p⟩:=fO ap;obtain⟨⟨aH,aI,M⟩,⟨ai,f1,f2⟩,-⟩:=Β K;obtain⟨⟨aN,aO⟩,⟨aP,aQ⟩,-⟩:=ν (θ (θ B.o j) p);have ax:=X.o.B (i.t p);rw[ac.o]at x ⊢;generalize a1:L (Δ ď _)=z at *;obtain rfl:z=N:=ab.o;have aq:BQ E (å r (C #[G f,G g,D Q z R] 92)):=(j.t p).A (gj j.size p.size) _;have n:BQ r (å r (C #[G f,G g,D Q z R] 92)):=ġ;have V:=Zh (af.o _ _ _ (x.B n) (ax.B n));have aE:=θ K n;have ae:=Zh aE;have bb:=ζ n M;clear an x ax a1 K aE n ap;go_wp2_with fail
   refine V.o.M ?_;rintro e bd ⟨rfl,F⟩;obtain⟨⟨aH,aI,M⟩,⟨ai,f1,f2⟩,-⟩:=Β (θ ae.o F);have am:=aq.t F;go_wp2;go_roundw
   .exact⟨q+1,U,ϕ,by rw[<-aa.o],am⟩
   exact ω
  .have aK:¬(q:Int)<(L ps:Int):=U
   go_wp2;go_ret;exact⟨rfl,i⟩
def sk (a:List (γ)) (b:List (Nat×Nat)) (i:Nat):List ϰ:=(b.map (Δ a)).getD i []
theorem xQ {docs ps i} (h):sk docs ps i=Δ docs ps[i]:=by
 unfold sk;rw[fX,jP,Ρ h];rfl
def FH (docs ps):iS (sk docs ps) (fun _=>0) (L ps)=ps.map (Δ docs):=by
 unfold iS;refine List.ext_getElem ύ fun b c a=>?_;have hi:b<L ps:=by simpa using a
 simp[xQ hi]
def PB {docs ps} (b:∀ p∈ps,p.2<=1000) (i):∀ e∈sk docs ps i,L e.1<=100000/\L e.2<=1000:=by
 intro e a;rcases pC i (L ps) with h|h
 .rw[xQ h]at a
  have:=b _ (Ψ h);obtain⟨-,c,-,d,-⟩:=xn (show e∈iw docs _ _ from a);omega
 .unfold sk at a
  rw[fX,ls (by simpa using h)]at a;cases a
def sM:∀ {g:List (Nat×Nat)} {f e:Nat},il f g e->∀ p∈g,f<=p.1/\p.1<p.2/\p.2<=e
 |[],f,e,h,p,hp=>by cases hp
 |q::r,f,e,h,p,hp=>by
  obtain⟨b,c,a⟩:=h;have d:=rJ a;rcases hH.1 hp with rfl|hp
  .omega
  .have:=sM a p hp
   omega
def CB:∀ {d:List (Nat×Nat)} {f e:Nat},il f d e->∀ i (h:i+1<L d),d[i+1].1=(d[i]' U).2
 |[],f,e,h,i,hi'=>by simp at hi'
 |[q],f,e,h,i,hi'=>by simp at hi'
 |q::r::s,f,e,h,i,hi'=>by
  obtain⟨b,c,a⟩:=h;cases i with
  |zero=>exact a.1
  |succ i=>exact CB a i (by simpa using hi')
def wH:∀ {d:List (Nat×Nat)} {f e:Nat},il f d e->∀ (h:0<L d),(d[0]'h).1=f/\(d[L d - 1]' U).2=e
 |[],f,e,h,h0=>by simp at h0
 |[q],f,e,h,h0=>⟨h.1,h.2.2⟩
 |q::r::s,f,e,h,h0=>by
  obtain⟨a,c,b⟩:=h;refine⟨a,?_⟩;have:=(wH b ύ).2;simpa using this
def ϣ.segIn {u:List (γ)} {w:β} {v:ε} {ps} (h:ϣ u w v ps) (t:0<L ps) :
  ∃ g off c f,v=D (J ⟨g,off,O⟩) (L ps) c/\sF w g off (L ps) (fun i=>((ps.getD i (0,0)).1:Int)) (fun i=>((ps.getD i (0,0)).2:Int)) f (sk u ps):=by
 obtain⟨j,⟨q,r,m⟩,d⟩:=h;rcases m with ⟨o,c,rfl,l⟩|⟨b,off,c,rfl,l,s,p,e⟩
 .omega
 .have hg:∀ i (hi:i<L ps),ps.getD i (0,0)=ps[i]:=fun i hi=>by rw[fX,Ρ hi];rfl
  refine⟨b,off,c,fun i=>j.getD (i*3+2) undef,rfl,fun i hi=>?_,fun i hi=>?_,fun i hi=>?_,fun i hi=>?_⟩
  .rw[hg i hi];exact e _ _ (d i hi).1
  .rw[hg i hi,iX];exact e _ _ (d i hi).2.1
  .obtain⟨-,-,n,a,-⟩:=d i hi
   rw[iX,fX,a];exact e _ _ a
  .obtain⟨-,-,n,a,k⟩:=d i hi
   rw[fX,a,xQ hi];exact k
def BP (q:List (γ)) (v:ε) (ps lo hi) (w:β) (n:ϭ w) (h:ϣ q w v ps) (b:il lo ps hi) (e:0<L ps) (m:L ps<=1000) (p:hi<=40) (j:∀ d∈q,L d<=2500) :
  Calls prog 302 #[v] w (By lo hi (Δ q (lo,hi)) w):=by
 obtain⟨g,off,c,i,rfl,k⟩:=h.segIn e;have hg:∀ a (hi:a<L ps),ps.getD a (0,0)=ps[a]:=fun a hi=>by rw[fX,Ρ hi];rfl
 have f:jL (ps.map (Δ q))<=100000:=by
  have:=Gk q _ j b;omega
 refine HL g off (L ps) c _ _ i (sk q ps) _ 100000 lo hi w n k e m ?_ ?_ U (PB fun o l=>ι (sM b o l)) (fun a hi=>?_) (fun a hi=>?_) ?_ ?_
 .rw[FH];exact QB q b _ f
 .rw[FH];exact f
 .rw[hg a hi,xQ hi]
  have:=sM b _ (Ψ hi);exact Eu q _ this.2.1 U
 .rw[hg (a+1) hi,hg a U,CB b a hi]
 .rw[hg 0 e,(wH b e).1]
 .rw[hg (L ps - 1) U,(wH b e).2]
def ϣ.three {V:List (γ)} {w:β} {v:ε} {p q r} (h:ϣ V w v [p,q,r]) :
  ∃ (b T c:Nat) (e f:ε),v=D (J ⟨b,T,O⟩) 3 c/\3<=c/\c<=maxLen /\
   (w.cell? ⟨b,T,O⟩=J (G p.1)/\w.cell? ⟨b,T+1,O⟩=J (G p.2)/\w.cell? ⟨b,T+2,O⟩=J e/\fN w e (L (Δ V p)) (Δ V p)) /\
   (w.cell? ⟨b,T+6,O⟩=J (G r.1)/\w.cell? ⟨b,T+7,O⟩=J (G r.2)/\w.cell? ⟨b,T+8,O⟩=J f/\fN w f (L (Δ V r)) (Δ V r)) /\
   ϣ V w (D (J ⟨b,T,O⟩) 2 c) [p,q]/\ϣ V w (D (J ⟨b,T+3,O⟩) 2 (c - 1)) [q,r]:=by
 obtain⟨y,⟨j,P,A⟩,g⟩:=h;simp only[ϥ,gO]at j P A;rcases A with ⟨Q,c,rfl,N⟩|⟨b,T,c,rfl,N,R,z,a⟩
 .omega
 .obtain⟨m,n,e,o,s⟩:=g 0 ύ
  obtain⟨b1,b2,E,b3,t⟩:=g 1 ύ;obtain⟨c1,c2,f,u,x⟩:=g 2 ύ;have F:=a _ _ m;have S:=a _ _ n;have H:=a _ _ o;have I:=a _ _ c1;have K:=a _ _ c2;have M:=a _ _ u;refine⟨b,T,c,e,f,rfl,U,z,⟨F,S,H,s⟩,⟨I,K,M,x⟩,?_,?_⟩
  .refine⟨y.take 6,⟨by rw[gp,j];rfl,by simp only[ϥ,gO];omega,.inr ⟨b,T,c,rfl,ύ,by simp only[ϥ,gO];omega,z,fun B l d=>?_⟩⟩,fun k i=>?_⟩
   .rw[iH]at d
    split at d
    .exact a B l d
    .cases d
   .match k,i with
    |0,_=>exact⟨by rw[iH,μ U];exact m,by rw[iH,μ U];exact n,e,by rw[iH,μ U];exact o,s⟩
    |1,_=>exact⟨by rw[iH,μ U];exact b1,by rw[iH,μ U];exact b2,E,by rw[iH,μ U];exact b3,t⟩
  .refine⟨y.drop 3,⟨by rw[fT,j];rfl,by simp only[ϥ,gO];omega,.inr ⟨b,T+3,c - 1,rfl,ύ,by simp only[ϥ,gO];omega,U,fun B l d=>?_⟩⟩,fun k i=>?_⟩
   .rw[jr]at d
    rw[iX];exact a _ l d
   .match k,i with
    |0,_=>exact⟨by rw[jr];exact b1,by rw[jr];exact b2,E,by rw[jr];exact b3,t⟩
    |1,_=>exact⟨by rw[jr];exact c1,by rw[jr];exact c2,f,by rw[jr];exact u,x⟩
inductive Ev where
 |doc (d:γ)
 |flush
 |merge (i many:Nat)
 |settle
def Ev.bytes:Ev->γ
 |.doc d=>ο 0++Ξ d
 |.flush=>ο 1
 |.merge i m=>ο 2++(ο i++ο m)
 |.settle=>ο 3
def fQ (a:List Ev):γ:=a.flatMap Ev.bytes
def Ev.ok:Ev->Prop
 |.doc d=>L d<=2000
 |.merge i m=>i<=4611686018427387904/\m<=4611686018427387904
 |_=>True
def wX (es e):fQ (es++[e])=fQ es++e.bytes:=by simp[fQ]
def Ev.bytes_pos (e:Ev):0<L e.bytes:=by
 cases e<;>simp only[Ev.bytes,σ]<;>first|exact vj _|(have:=vj 0;have:=vj 2;omega)
def Ev.bytes_len (e:Ev) (h:e.ok):L e.bytes<=2100:=by
 cases e with
 |doc d =>
  simp only[Ev.ok]at h;have a:=Ϸ 8 0 ϐ;have b:=Ϸ 8 (L d) U;simp only[Ev.bytes,Ξ,σ];omega
 |flush=>have:=Ϸ 8 1 ϐ;simp only[Ev.bytes];omega
 |merge c f =>
  simp only[Ev.ok]at h;have a:=Ϸ 8 2 ϐ;have b:=Ϸ 8 c U;have g:=Ϸ 8 f U;simp only[Ev.bytes,σ];omega
 |settle=>have:=Ϸ 8 3 ϐ;simp only[Ev.bytes];omega
abbrev Ix:=List (γ)×List (Nat×Nat)
def lT (a:List (Nat×Nat)):Nat:=kb a (L a)
def iE (b:List (Nat×Nat)) (i a:Nat):List (Nat×Nat):=b.take i++((b.getD i (0,0)).1,(b.getD (i+a - 1) (0,0)).2)::b.drop (i+a)
def jB (b:List (Nat×Nat)):List (Int×Int):=b.map fun a=>((a.1:Int),(a.2:Int))
def kB:Nat->List (Nat×Nat)->List (Nat×Nat)
 |0,ps=>ps
 |f+1,ps=>if(ky (jB ps)).2=true then kB f (iE ps (ky (jB ps)).1.toNat 2)else ps
def gA (x:Ix):Ev->Option Ix
 |.doc d=>if L d<=2000/\L x.1<1000 then J (x.1++[d],x.2)else O
 |.flush=>if lT x.2=L x.1\/64<=L x.2 then O else J (x.1,x.2++[(lT x.2,L x.1)])
 |.merge i m=>if m<2\/L x.2<m\/L x.2 - m<i then O else J (x.1,iE x.2 i m)
 |.settle=>J (x.1,kB (L x.2) x.2)
def hO:Ix->List Ev->Option Ix
 |x,[]=>J x
 |x,e::es=>match gA x e with
  |some y=>hO y es
  |none=>O
def vu:∀ (b:List Ev) (x:Ix) (e:Ev),hO x (b++[e])=(hO x b).bind fun y=>gA y e
 |[],x,e=>by
  simp only[js,hO,tV];cases gA x e<;>rfl
 |a::b,x,e=>by
  simp only[jW,hO];cases gA x a with
  |none=>rfl
  |some y=>exact vu b y e
def uJ:∀ {a b:List (Nat×Nat)} {g h:Nat},il g (a++b) h↔∃ m,il g a m/\il m b h
 |[],b,g,h=>by simp[il]
 |p::a,b,g,h=>by
  simp only[jW,il,uJ (a:=a)];constructor
  .rintro⟨c,d,m,e,f⟩;exact⟨m,⟨c,d,e⟩,f⟩
  .rintro⟨m,⟨c,d,e⟩,f⟩;exact⟨c,d,m,e,f⟩
def uK {ps m} (h:il 0 ps m):lT ps=m:=by
 unfold lT;cases a:L ps with
 |zero =>
  have:=kS a;subst this;have:(0:Nat)=m:=h;simpa[kb] using this
 |succ b =>
  have:=wG h U;rw[a]at this;simpa[kb] using this
def Ee {ps i m} (h:i+m<=L ps) (a:2<=m):L (iE ps i m)<L ps:=by
 simp only[iE,σ,ϥ,gp,fT];omega
def LQ {a:List (Nat×Nat)} {i m} (h:i+m<=L a):a=a.take i++((a.drop i).take m++a.drop (i+m)):=by
 rw[<-qt,pG,pG]
def zj {lo hi ps} (h:il lo ps hi) {i m} (l:i+m<=L ps) (p:1<=m):∃ a b,il lo (ps.take i) a/\il a ((ps.drop i).take m) b/\il b (ps.drop (i+m)) hi/\a=(ps.getD i (0,0)).1/\b=(ps.getD (i+m - 1) (0,0)).2/\a<b:=by
 have o:=LQ l;rw[o]at h;obtain⟨a,g,j⟩:=uJ.1 h;obtain⟨b,c,k⟩:=uJ.1 j;have n:L ((ps.drop i).take m)=m:=ό;obtain⟨d,e⟩:=wH c U;refine⟨a,b,g,c,k,?_,?_,?_⟩
 .rw[<-d,fX,Ρ U]
  simp
 .rw[<-e,fX,Ρ U]
  simp only[Option.getD_some,rh,List.getElem_drop,n]
  congr 2;omega
 .have f:0<L ((ps.drop i).take m):=U
  obtain⟨q,r,s⟩:=sM c _ (Ψ f);omega
def zi {lo hi ps} (h:il lo ps hi) {i m} (g:i+m<=L ps) (d:1<=m):il lo (iE ps i m) hi:=by
 obtain⟨a,b,c,j,e,rfl,rfl,f⟩:=zj h g d;exact uJ.2 ⟨_,c,rfl,f,e⟩
def Bc (ps):L (jB ps)=L ps:=by simp[jB]
def Al {ps} (h:(ky (jB ps)).2=true):(ky (jB ps)).1.toNat+2<=L ps/\0<=(ky (jB ps)).1:=by
 have:∀ (b:List (Int×Int)) (a:Nat),(pn b a).2=true->0<=(pn b a).1/\(pn b a).1.toNat<a:=by
  intro b a;induction a with
  |zero=>intro h;simp[pn]at h
  |succ a e =>
   intro h;unfold pn at h ⊢;split
   .simp
   .rename_i d
    rw[κ d]at h;have:=e h;omega
 have c:=this _ _ h;rw[Bc]at c;unfold ky;rw[Bc];omega
def FG:∀ (f:Nat) {e:List (Nat×Nat)} {j g:Nat},il j e g->il j (kB f e) g/\L (kB f e)<=L e
 |0,e,j,g,h=>⟨h,NZ⟩
 |f+1,e,j,g,h=>by
  unfold kB;split
  .rename_i b
   have d:=Al b;obtain⟨a,c⟩:=FG f (zi h (i:=(ky (jB e)).1.toNat) (m:=2) U U);have:=Ee (ps:=e) (i:=(ky (jB e)).1.toNat) (m:=2) U U;exact⟨a,U⟩
  .exact⟨h,NZ⟩
abbrev kk (x:Ix):Prop:=Ϻ x.1 x.2 (lT x.2)
def kk.start:kk ([],[]):=⟨ύ,ύ,ύ,rfl,by simp[lT,kb]⟩
def Ks {x y e} (h:kk x) (a:gA x e=J y):kk y:=by
 obtain⟨nd,ld,np,ch,le⟩:=h;cases e with
 |doc d =>
  simp only[gA]at a;split at a
  .rename_i f
   injection a with a;subst a;exact⟨ό,fun k l=>by
    rcases nj.1 l with h|h
    .exact ld k h
    .simp at h;rw[h];exact f.1,np,ch,ό⟩
  .cases a
 |flush =>
  simp only[gA]at a;split at a
  .cases a
  .rename_i f
   injection a with a;subst a;have b:il 0 (x.2++[(lT x.2,L x.1)]) (L x.1):=uJ.2 ⟨_,ch,rfl,ϑ,rfl⟩;have c:=uK b;exact⟨nd,ld,ό,by rw[c];exact b,by rw[c];exact NZ⟩
 |merge g j =>
  simp only[gA]at a;split at a
  .cases a
  .rename_i f
   injection a with a;subst a;have b:=zi ch (i:=g) (m:=j) U U;have c:=uK b;have:=Ee (ps:=x.2) (i:=g) (m:=j) U U;exact⟨nd,ld,ϑ,by rw[c];exact b,by rw[c];exact le⟩
 |settle =>
  simp only[gA]at a;injection a with a;subst a;obtain⟨b,n⟩:=FG (L x.2) ch;have c:=uK b;exact⟨nd,ld,ϑ,by rw[c];exact b,by rw[c];exact le⟩
def vt:∀ {b:List Ev} {x y:Ix},kk x->hO x b=J y->kk y
 |[],x,y,h,he=>by simp only[hO]at he;injection he with he;rw[<-he];exact h
 |e::b,x,y,h,he=>by
  simp only[hO]at he;cases a:gA x e with
  |none=>rw[a]at he;cases he
  |some z=>rw[a]at he;exact vt (Ks h a) he
def uS:Ev->List (γ)
 |.doc d=>[d]
 |_=>[]
def wZ {x y e} (a:gA x e=J y):y.1=x.1++uS e:=by
 cases e<;>simp only[gA,uS]at a ⊢
 .split at a
  .injection a with a;subst a;rfl
  .cases a
 .split at a
  .cases a
  .injection a with a;subst a;simp
 .split at a
  .cases a
  .injection a with a;subst a;simp
 .injection a with a;subst a;simp
def sf:∀ {a:List Ev} {x y:Ix},hO x a=J y->L y.1<=L x.1+L a
 |[],x,y,he=>by simp only[hO]at he;injection he with he;rw[<-he];simp
 |e::a,x,y,he=>by
  simp only[hO]at he;cases b:gA x e with
  |none=>rw[b]at he;cases he
  |some z =>
   rw[b]at he;have d:=sf he;have c:=jp List.length (wZ b);simp only[σ]at c;have:L (uS e)<=1:=by cases e<;>simp[uS]
   simp only[ϥ];omega
def LL {d c:List (γ)} {lo n} (h:∀ i,lo<=i->i<lo+n->d.getD i []=c.getD i []):iw d lo n=iw c lo n:=by
 have hi:∀ a,gb d a lo n=gb c a lo n:=by
  intro a;unfold gb
  congr 1
  apply List.filter_congr;intro i hi;rw[List.mem_range'_1]at hi;rw[h i hi.1 hi.2]
 have b:gI d lo n=gI c lo n:=by
  unfold gI;apply zM;intro i hi;rw[List.mem_range'_1]at hi;rw[h i hi.1 hi.2]
 unfold iw;rw[b];exact vW fun a _=>by rw[hi a]
def Mt (e:List (γ)) (d:γ) (p) (a:p.1<=p.2) (h:p.2<=L e):Δ (e++[d]) p=Δ e p:=by
 refine LL fun c a b=>?_;simp only[fX];rw[je U]
def pw {P} {w:β} {ops o a} {K:Act->β->Prop} {Q:Exit->Act->β->Prop} {E}
  (y:o.guard=O) (l c) (t) (r:o.op=Op.makeSlice t l c)
  (base) (e) (i:TypeInfo) (z:ε) (size) (d:P.underlying t=J (.slice e)) (f:P.info? e=J i) (g:i.zero=J z) (h:i.size=size)
  (kl kc) (L C) (n:Nat) (q:a.eval l=ĭ kl L) (p:a.eval c=ĭ kc C) (m:L=(n:Int)) (j:C=(n:Int)) (x:i.bytes*n<=281474976710656) (v:n<=maxLen) (b:base<=w.heap.size)
  (k:∀ w',w'.ownsRow base e size (D (J ⟨w.heap.size,0,O⟩) n n) n (madeCells z.cells (n*size)).toList->w.grownBy w' O->K (a.put o.dst (D (J ⟨w.heap.size,0,O⟩) n n)) w') :
  if Region.wanted o (yielded ops a.tmps)=true then Oper.wp P o a w K Q else E:=by
 have u:Region.wanted o (yielded ops a.tmps)=true:=by simp[Region.wanted,y]
 rw[μ u];obtain⟨w',s,r1,r2⟩:=run_make_full  w base t e i z size d f g h kl kc n x v b;subst m;subst j;unfold Oper.wp;simp[execOp,r,q,p,s];exact k w' r1 r2
section
variable {P:Program} {ops:Array Oper} {Q:Exit->Act->β->Prop} {md:Region.Mode}
def Hg {c:β->Prop} {m:Nat} (i j k:Nat) {v n x:Oper} {fuel:Nat} {h:Array Bool} {a:Act} {w:β} (o:Region.ready md ops h=[i,j,k]) (y:ops[i]?=J v) (t:ops[j]?=J n) (u:ops[k]?=J x)
  (q:∀ K:Act->β->Prop,(∀ b w',c w'->Ϥ P md ops Q c m fuel (h.setIfInBounds i true) b w'->K b w')->if Region.wanted v (yielded ops a.tmps)=true then Oper.wp P v a w K Q else K (a.put v.dst undef) w)
  (r:∀ K:Act->β->Prop,(∀ b w',c w'->Ϥ P md ops Q c m fuel (h.setIfInBounds j true) b w'->K b w')->if Region.wanted n (yielded ops a.tmps)=true then Oper.wp P n a w K Q else K (a.put n.dst undef) w)
  (s:∀ K:Act->β->Prop,(∀ b w',c w'->Ϥ P md ops Q c m fuel (h.setIfInBounds k true) b w'->K b w')->if Region.wanted x (yielded ops a.tmps)=true then Oper.wp P x a w K Q else K (a.put x.dst undef) w) :
  Ϥ P md ops Q c m (fuel+1) h a w:=by
 refine⟨fun p=>?_,fun l hl=>?_⟩
 .rw[p]at o;cases o
 .rw[o]at hl
  rcases hH.1 hl with rfl|hl
  .exact lH y (fun d g=>q d (fun b w' e f=>g b w' ⟨fun _=>e,f⟩))
  .rcases hH.1 hl with rfl|hl
   .exact lH t (fun d g=>r d (fun b w' e f=>g b w' ⟨fun _=>e,f⟩))
   .obtain rfl:=kF.1 hl
    exact lH u (fun d g=>s d (fun b w' e f=>g b w' ⟨fun _=>e,f⟩))
def rE {c:β->Prop} {m:Nat} (i j:Nat) {s e:Oper} {fuel:Nat} {d:Array Bool} {a:Act} {w:β} (l:Region.ready md ops d=[i,j]) (t:ops[i]?=J s) (q:ops[j]?=J e)
  (o:∀ K:Act->β->Prop,(∀ b w',c w'->Ϥ P md ops Q c m fuel (d.setIfInBounds i true) b w'->K b w')->if Region.wanted s (yielded ops a.tmps)=true then Oper.wp P s a w K Q else K (a.put s.dst undef) w)
  (p:∀ K:Act->β->Prop,(∀ b w',c w'->Ϥ P md ops Q c m fuel (d.setIfInBounds j true) b w'->K b w')->if Region.wanted e (yielded ops a.tmps)=true then Oper.wp P e a w K Q else K (a.put e.dst undef) w) :
  Ϥ P md ops Q c m (fuel+1) d a w:=by
 refine⟨fun n=>?_,fun r hk=>?_⟩
 .rw[n]at l;cases l
 .rw[l]at hk
  rcases hH.1 hk with rfl|hk
  .exact lH t (fun f k=>o f (fun b w' g h=>k b w' ⟨fun _=>g,h⟩))
  .obtain rfl:=kF.1 hk
   exact lH q (fun f k=>p f (fun b w' g h=>k b w' ⟨fun _=>g,h⟩))
end
def GP (n:Nat):List ε:=List.replicate n (D O 0 0)
def GQ (m:Nat):List ε:=(madeCells #[G 0,G 0,D O 0 0] (m*3)).toList
structure lP (W w:β) (n m:Nat) (oD oS oY:Option Nat):Prop where
 bel:BQ W w
 rD:∀ g,oD=J g->W.heap.size<=g/\w.ownsRow W.heap.size 31 1 (D (J ⟨g,0,O⟩) n n) n (GP n)
 rS:∀ g,oS=J g->W.heap.size<=g/\w.ownsRow W.heap.size 92 3 (D (J ⟨g,0,O⟩) m m) m (GQ m)
 rY:∀ g,oY=J g->W.heap.size<=g/\w.heap[g]?=J (C #[D O 0 0,D O 0 0] 44 (0,0))
 dS:∀ g,oD=J g->oS≠J g
 dY:∀ g,oD=J g->oY≠J g
 sY:∀ g,oS=J g->oY≠J g
def lP.lt {W w n m oD oS oY} (h:lP W w n m oD oS oY):(∀ g,oD=J g->g<w.heap.size)/\(∀ g,oS=J g->g<w.heap.size)/\(∀ g,oY=J g->g<w.heap.size):=
 ⟨fun g hg=>(oH (h.rD g hg).2).2.2.2,fun g hg=>(oH (h.rS g hg).2).2.2.2,fun g hg=>ς (h.rY g hg).2⟩
def LK (z:ε) (n):(madeCells #[z] (n*1)).toList=List.replicate n z:=by rw[oR];exact te z n
def lP.mkD {b w k:β} {n m oS oY} (h:lP b w n m O oS oY) (f:k.ownsRow w.heap.size 31 1 (D (J ⟨w.heap.size,0,O⟩) n n) n (madeCells (Value.slice O 0 0).cells (n*1)).toList) (j:w.grownBy k O):lP b k n m (J w.heap.size) oS oY:=by
 have a:BQ w k:=RZ.grown j NZ (fun i d=>by cases d);obtain⟨l1,l2,l3⟩:=h.lt;have c:=gX f h.bel.size;rw[show(Value.slice O 0 0).cells=#[D O 0 0]from rfl,LK]at c;refine⟨h.bel.t a,fun g j=>?_,fun g j=>⟨(h.rS g j).1,ψ (h.rS g j).2 a⟩,fun g j=>⟨(h.rY g j).1,θ (h.rY g j).2 a⟩,fun g j e=>?_,fun g j e=>?_,h.sY⟩
 .injection j with j;subst j;exact⟨h.bel.size,c⟩
 .injection j with j;subst j;have:=l2 _ e;omega
 .injection j with j;subst j;have:=l3 _ e;omega
def lP.mkS {b w k:β} {n m oD oY} (h:lP b w n m oD O oY) (f:k.ownsRow w.heap.size 92 3 (D (J ⟨w.heap.size,0,O⟩) m m) m (madeCells (Value.agg #[G 0,G 0,D O 0 0]).cells (m*3)).toList) (j:w.grownBy k O):lP b k n m oD (J w.heap.size) oY:=by
 have a:BQ w k:=RZ.grown j NZ (fun i d=>by cases d);obtain⟨l1,l2,l3⟩:=h.lt;have c:=gX f h.bel.size;rw[show(Value.agg #[G 0,G 0,D O 0 0]).cells=#[G 0,G 0,D O 0 0]from rfl]at c;refine⟨h.bel.t a,fun g j=>⟨(h.rD g j).1,ψ (h.rD g j).2 a⟩,fun g j=>?_,fun g j=>⟨(h.rY g j).1,θ (h.rY g j).2 a⟩,fun g j e=>?_,h.dY,fun g j e=>?_⟩
 .injection j with j;subst j;exact⟨h.bel.size,c⟩
 .injection e with e;subst e;have:=l1 _ j;omega
 .injection j with j;subst j;have:=l3 _ e;omega
def lP.mkY {W w n m oD oS} (h:lP W w n m oD oS O):lP W (å w (C #[D O 0 0,D O 0 0] 44)) n m oD oS (J w.heap.size):=by
 have a:BQ w (å w (C #[D O 0 0,D O 0 0] 44)):=ġ;obtain⟨l1,l2,l3⟩:=h.lt;refine⟨h.bel.t a,fun g hg=>⟨(h.rD g hg).1,ψ (h.rD g hg).2 a⟩,fun g hg=>⟨(h.rS g hg).1,ψ (h.rS g hg).2 a⟩,fun g hg=>?_,h.dS,fun g hg e=>?_,fun g hg e=>?_⟩
 .injection hg with hg;subst hg;exact⟨h.bel.size,φ _ _⟩
 .injection e with e;subst e;have:=l1 _ hg;omega
 .injection e with e;subst e;have:=l2 _ hg;omega
def lP.rowY {W w n m gD gS gY} (h:lP W w n m (J gD) (J gS) (J gY)):w.heap[gY]?=J (C #[D O 0 0,D O 0 0] 44 (0,0)):=(h.rY gY rfl).2
structure BI (W wc:β) (n m gD gS gY:Nat):Prop where
 bel:BQ W wc
 rD:wc.ownsRow W.heap.size 31 1 (D (J ⟨gD,0,O⟩) n n) n (GP n)
 rS:wc.ownsRow W.heap.size 92 3 (D (J ⟨gS,0,O⟩) m m) m (GQ m)
 rY:wc.heap[gY]?=J (C #[D (J ⟨gD,0,O⟩) n n,D (J ⟨gS,0,O⟩) m m] 44 (0,0))
 le:W.heap.size<=gD/\W.heap.size<=gS/\W.heap.size<=gY
 ne:gD≠gS/\gD≠gY/\gS≠gY
def xr {w:β} {base e size g n cap} {k:List ε} (h:w.ownsRow base e size (D (J ⟨g,0,O⟩) n cap) n k) {p} (i:p.block≠g) (x:ε):(ŝ w p x).ownsRow base e size (D (J ⟨g,0,O⟩) n cap) n k:=by
 obtain⟨f,d⟩:=h;refine⟨f,?_⟩;rcases d with h|⟨b,a,cur,h,c,hg,j⟩
 .exact .inl h
 .refine .inr ⟨b,a,cur,h,c,?_,j⟩
  simp only[Χ,Φ,Addr.mk.injEq,it,ϵ]at h;obtain⟨rfl,rfl⟩:=h;rw[Γ _ _ _ _ (fun e=>i e.symm)];exact hg
def lP.fin {W w n m gD gS gY} (h:lP W w n m (J gD) (J gS) (J gY)):BI W (ŝ (ŝ w ⟨gY,0,O⟩ (D (J ⟨gD,0,O⟩) n n)) ⟨gY,1,O⟩ (D (J ⟨gS,0,O⟩) m m)) n m gD gS gY:=by
 have d:=h.rD gD rfl;have f:=h.rS gS rfl;have a:=h.rY gY rfl;have b:gY≠gD:=fun e=>h.dY gD rfl (by rw[e]);have c:gY≠gS:=fun e=>h.sY gS rfl (by rw[e]);have n3:gD≠gS:=fun e=>h.dS gD rfl (by rw[e]);exact⟨ga h.bel a.1 _ _,xr (xr d.2 b _) b _,xr (xr f.2 c _) c _,fS a.2 _ _,⟨d.1,f.1,a.1⟩,⟨n3,fun e=>b e.symm,fun e=>c e.symm⟩⟩
def xh:(prog.info? 92).map (fun i=>(i.zero,i.size,i.bytes))=J (J (ā #[G 0,G 0,D O 0 0]),3,40):=ϋ
def mU {w:β} {base e size g n cap} {o:List ε} (h:w.ownsRow base e size (D (J ⟨g,0,O⟩) n cap) n o) (i) (p:i<n*size) (x:ε):(ŝ w ⟨g,i,O⟩ x).ownsRow base e size (D (J ⟨g,0,O⟩) n cap) n (o.set i x):=by
 obtain⟨f,d⟩:=h;rcases d with ⟨h,_⟩|⟨m,l,cur,h,a,hg,j,b,c,k⟩
 .simp at h
 .simp only[Χ,Φ,Addr.mk.injEq,it,ϵ]at h
  obtain⟨rfl,rfl⟩:=h;refine⟨by simpa using f,.inr ⟨g,cap,_,rfl,a,υ _ _ i _ _ x hg,j,b,by simpa using c,?_⟩⟩;rw[Array.toList_setIfInBounds,<-k,List.take_set]
def im {w:β} {base e size g n cap} {o:List ε} (h:w.ownsRow base e size (D (J ⟨g,0,O⟩) n cap) n o) (i) (p:i<n*size):w.cell? ⟨g,i,O⟩=o[i]?/\w.frozen? ⟨g,i,O⟩=false/\base<=g/\g<w.heap.size:=by
 obtain⟨l,b⟩:=h;rcases b with ⟨h,_⟩|⟨f,d,cur,h,a,hg,m,j,k,c⟩
 .simp at h
 .simp only[Χ,Φ,Addr.mk.injEq,it,ϵ]at h
  obtain⟨rfl,rfl⟩:=h;refine⟨?_,ϧ _ _ _ _ _ hg,a,ς hg⟩;rw[ξ _ _ i _ _ _ hg,<-c,iH];simp[p]
def kA {w w':β} {base e size n} {v:ε} {k:List ε} (h:w.ownsRow base e size v n k) (f:∀ g,v.ownBlock=J g->w'.heap[g]?=w.heap[g]?):w'.ownsRow base e size v n k:=by
 obtain⟨i,d⟩:=h;refine⟨i,?_⟩;rcases d with h|⟨a,b,cur,rfl,c,hg,j⟩
 .exact .inl h
 .exact .inr ⟨a,b,cur,rfl,c,(f a rfl).trans hg,j⟩
def ml (d:List (γ)) (c:List ε) (k:Nat) (w:β):Prop:= ∀ a (hi:a<L d),a<k->∃ b,c[a]?=J b/\Rd w b (L d[a]) 1 (η d[a])
def lx (d:List (γ)) (e:List (Nat×Nat)) (b:List ε) (k:Nat) (w:β):Prop:= ∀ a (hi:a<L e),a<k->b[a*3]?=J (G e[a].1)/\b[a*3+1]?=J (G e[a].2)/\∃ c,b[a*3+2]?=J c/\fN w c (L (Δ d e[a])) (Δ d e[a])
structure yL (base:Nat) (w:β) (v1 v2:ε) (docs:List (γ)) (ps:List (Nat×Nat)) (vs cells:List ε) (lo:Nat):Prop where
 rD:w.ownsRow base 31 1 v1 (L docs) vs
 rS:w.ownsRow base 92 3 v2 (L ps) cells
 l1:∀ g,v1.ownBlock=J g->g<lo
 l2:∀ g,v2.ownBlock=J g->g<lo
 bl:base<=lo
 el:Hi lo w (fun w2=>ml docs vs (L docs) w2/\lx docs ps cells (L ps) w2)
 ne:∀ g,v1.ownBlock=J g->v2.ownBlock≠J g
def yL.hi {base w v1 v2 docs ps vs cells lo} (h:yL base w v1 v2 docs ps vs cells lo):Hi base w (fun a=>Ε a v1 docs/\ϣ docs a v2 ps):=by
 have g:=(h.el.M h.bl).and ((Hi.own h.rD).and (Hi.own h.rS));exact g.imp fun a ⟨⟨c,d⟩,e,f⟩=>⟨⟨vs,e,fun i hi=>c i hi hi⟩,cells,f,fun j b=>d j b b⟩
def xw (n m da dc sa sc) (ď:List (γ)) (ps) (w:β) (dA:L ď=n) (dz:L ps=m) (dP:Ε w (D da n dc) ď) (d3:ϣ ď w (D sa m sc) ps) (fd:n<=1000) (fc:m<=1000)
  (dW:∀ d∈ď,L d<=100000) (dX:∀ p∈ps,L (Δ ď p)<=2000000/\∀ e∈Δ ď p,L e.2<=1000) :
  Calls prog 301 #[ā #[D da n dc,D sa m sc]] w fun e w'=>∃ r j M W lo,e=ŗ (ā #[D (J ⟨r,0,O⟩) n n,D (J ⟨j,0,O⟩) m m])/\yL w.heap.size w' (D (J ⟨r,0,O⟩) n n) (D (J ⟨j,0,O⟩) m m) ď ps M W lo/\BQ w w':=by
 obtain⟨eV,eW,az,-,ci⟩:=mr dP;simp only[Χ]at az;obtain⟨rfl,-,rfl⟩:=az;obtain⟨fs,ft,az,-,cF⟩:=qX d3;simp only[Χ]at az;obtain⟨rfl,-,rfl⟩:=az;have cH:=Zh (fun f N=>dW ď[f] (Ψ N));have cI:=Zh (fun f N=>dX ps[f] (Ψ N));have⟨a2,a1⟩:=π dA dz;obtain⟨aD,au,aA,aB,aC⟩:=Ϩ uW;obtain⟨aE,N,av,aw,ax⟩:=Ϩ xh;have dT:=fZ    (w1:=(å (å w (C #[D da n dc,D sa m sc] 44)) (C #[D O 0 0,D O 0 0] 44))) RZ;go_enter func301,ntmps301;go_upto_region 1 with fail
 generalize(å (å w _) _)=A at *;obtain⟨b1,d2,ce,eO,dM⟩:=dT;obtain⟨⟨aW,aX⟩,-,-⟩:=ν b1;go_cut [3] (fun ez wc=>∃ r j H,ez=þ (J ⟨H,0,O⟩)/\BI A wc n m r j H)
 case first =>
  refine ϯ (fun z=>BQ A z) 10 ϋ ?_;have k:BQ A A.drew:=RZ.drew;have a7:lP A A.drew n m O O O:=⟨k,ύ,ύ,ύ,ύ,ύ,ύ⟩;generalize A.drew=wd at *;refine iO (oi:=⟨J 10,_,_,_,_,_⟩) 0 rfl k ?_;simp only[Zp];refine pN (oi:=⟨J 11,_,_,_,_,_⟩) 1 [2,3,8,10] rfl k ?_ (hy:=by intro z u;have bg:=ζ u aW;go_simp;try with_reducible rfl);simp only[Zp];refine iO (oi:=⟨J 12,_,_,_,_,_⟩) 2 rfl k ?_;simp only[Zp];refine iO (oi:=⟨J 14,_,_,_,_,_⟩) 4 rfl k ?_;simp only[Zp];refine pN (oi:=⟨J 15,_,_,_,_,_⟩) 5 [6,7,8,10] rfl k ?_ (hy:=by intro z u;have aa:=ζ u aX;go_simp;try with_reducible rfl);simp only[Zp];refine iO (oi:=⟨J 16,_,_,_,_,_⟩) 6 rfl k ?_;simp only[Zp];refine Hg (fuel:=4) 3 7 9 ϋ rfl rfl rfl ?_ ?_ ?_
  .skip
   intro K i;refine pw rfl _ _ _ rfl _ 31 aD _ 1 nM au aA aB .i64 .i64 _ _ n ϔ ϔ rfl rfl (by rw[aC];omega) ώ NZ ?_;intro eL ep dm;have bb:=a7.mkD ep dm;refine i _ _ bb.bel ?_;refine rE  7 9 ϋ rfl rfl ?_ ?_
   .skip
    intro K i;refine pw rfl _ _ _ rfl _ 92 aE _ 3 nN N av aw .i64 .i64 _ _ m ϔ ϔ rfl rfl (by rw[ax];omega) ώ NZ ?_;intro eM eu ds;have bd:=bb.mkS eu ds;refine i _ _ bd.bel ?_;refine iO (oi:=⟨J 18,_,_,_,_,_⟩) 8 rfl bd.bel ?_;simp only[Zp];refine Κ  9 ϋ rfl ?_;intro K i;go_simp;have be:=bd.mkY;refine i _ _ be.bel ?_;generalize(å eM _)=fF at *;have cB:=Zh be.fin;obtain⟨⟨c0,c1⟩,⟨am,f1⟩,-⟩:=ν be.rowY;refine Zl ?_;refine Zd ?_;go_wp2_with fail
    go_meet;case rel=>exact⟨_,_,_,rfl,cB.o⟩
   .skip
    intro K i;go_simp;have bH:=bb.mkY;refine i _ _ bH.bel ?_;generalize(å eL _)=fG at *;refine Κ  7 ϋ rfl ?_;intro K i;refine pw rfl _ _ _ rfl _ 92 aE _ 3 nN N av aw .i64 .i64 _ _ m ϔ ϔ rfl rfl (by rw[ax];omega) ώ NZ ?_;intro fH ev dt;have aP:=bH.mkS ev dt;refine i _ _ aP.bel ?_;refine iO (oi:=⟨J 18,_,_,_,_,_⟩) 8 rfl aP.bel ?_;simp only[Zp];have cw:=Zh aP.fin;obtain⟨⟨c0,c1⟩,⟨am,f1⟩,-⟩:=ν aP.rowY;refine Zl ?_;refine Zd ?_;go_wp2_with fail
    go_meet;case rel=>exact⟨_,_,_,rfl,cw.o⟩
  .skip
   intro K i;refine pw rfl _ _ _ rfl _ 92 aE _ 3 nN N av aw .i64 .i64 _ _ m ϔ ϔ rfl rfl (by rw[ax];omega) ώ NZ ?_;intro eJ em dj;have a8:=a7.mkS em dj;refine i _ _ a8.bel ?_;refine rE  3 9 ϋ rfl rfl ?_ ?_
   .skip
    intro K i;refine pw rfl _ _ _ rfl _ 31 aD _ 1 nM au aA aB .i64 .i64 _ _ n ϔ ϔ rfl rfl (by rw[aC];omega) ώ NZ ?_;intro eK en dk;have a9:=a8.mkD en dk;refine i _ _ a9.bel ?_;refine iO (oi:=⟨J 18,_,_,_,_,_⟩) 8 rfl a9.bel ?_;simp only[Zp];refine Κ  9 ϋ rfl ?_;intro K i;go_simp;have ba:=a9.mkY;refine i _ _ ba.bel ?_;generalize(å eK _)=fx at *;have cx:=Zh ba.fin;obtain⟨⟨c0,c1⟩,⟨am,f1⟩,-⟩:=ν ba.rowY;refine Zl ?_;refine Zd ?_;go_wp2_with fail
    go_meet;case rel=>exact⟨_,_,_,rfl,cx.o⟩
   .skip
    intro K i;go_simp;have bE:=a8.mkY;refine i _ _ bE.bel ?_;generalize(å eJ _)=fy at *;refine Κ  3 ϋ rfl ?_;intro K i;refine pw rfl _ _ _ rfl _ 31 aD _ 1 nM au aA aB .i64 .i64 _ _ n ϔ ϔ rfl rfl (by rw[aC];omega) ώ NZ ?_;intro fz eo dl;have aM:=bE.mkD eo dl;refine i _ _ aM.bel ?_;refine iO (oi:=⟨J 18,_,_,_,_,_⟩) 8 rfl aM.bel ?_;simp only[Zp];have cy:=Zh aM.fin;obtain⟨⟨c0,c1⟩,⟨am,f1⟩,-⟩:=ν aM.rowY;refine Zl ?_;refine Zd ?_;go_wp2_with fail
    go_meet;case rel=>exact⟨_,_,_,rfl,cy.o⟩
  .skip
   intro K i;go_simp;have bc:=a7.mkY;refine i _ _ bc.bel ?_;generalize(å wd _)=fA at *;refine rE  3 7 ϋ rfl rfl ?_ ?_
   .skip
    intro K i;refine pw rfl _ _ _ rfl _ 31 aD _ 1 nM au aA aB .i64 .i64 _ _ n ϔ ϔ rfl rfl (by rw[aC];omega) ώ NZ ?_;intro fB eq dn;have bF:=bc.mkD eq dn;refine i _ _ bF.bel ?_;refine Κ  7 ϋ rfl ?_;intro K i;refine pw rfl _ _ _ rfl _ 92 aE _ 3 nN N av aw .i64 .i64 _ _ m ϔ ϔ rfl rfl (by rw[ax];omega) ώ NZ ?_;intro fC er dp;have aN:=bF.mkS er dp;refine i _ _ aN.bel ?_;refine iO (oi:=⟨J 18,_,_,_,_,_⟩) 8 rfl aN.bel ?_;simp only[Zp];have cz:=Zh aN.fin;obtain⟨⟨c0,c1⟩,⟨am,f1⟩,-⟩:=ν aN.rowY;refine Zl ?_;refine Zd ?_;go_wp2_with fail
    go_meet;case rel=>exact⟨_,_,_,rfl,cz.o⟩
   .skip
    intro K i;refine pw rfl _ _ _ rfl _ 92 aE _ 3 nN N av aw .i64 .i64 _ _ m ϔ ϔ rfl rfl (by rw[ax];omega) ώ NZ ?_;intro fD es dq;have bG:=bc.mkS es dq;refine i _ _ bG.bel ?_;refine Κ  3 ϋ rfl ?_;intro K i;refine pw rfl _ _ _ rfl _ 31 aD _ 1 nM au aA aB .i64 .i64 _ _ n ϔ ϔ rfl rfl (by rw[aC];omega) ώ NZ ?_;intro fE et dr;have aO:=bG.mkD et dr;refine i _ _ aO.bel ?_;refine iO (oi:=⟨J 18,_,_,_,_,_⟩) 8 rfl aO.bel ?_;simp only[Zp];have cA:=Zh aO.fin;obtain⟨⟨c0,c1⟩,⟨am,f1⟩,-⟩:=ν aO.rowY;refine Zl ?_;refine Zd ?_;go_wp2_with fail
    go_meet;case rel=>exact⟨_,_,_,rfl,cA.o⟩
 case rest =>
  obtain⟨r,j,H,rfl,cM⟩:=hcut;obtain⟨bl,bZ,b0,b2,⟨ei,le2,fn⟩,⟨b9,ek,ca⟩⟩:=cM;have dD:=θ b1 bl;have dF:=θ d2 bl;have dN:=dM.t bl;have bo:r<wc.heap.size/\j<wc.heap.size/\H<wc.heap.size:=⟨(oH bZ).2.2.2,(oH b0).2.2.2,ς b2⟩;have aZ:=eO;have⟨cY,bB,c4,cR,cm⟩:=kW b2 dD dF b0 bZ;obtain⟨⟨aW,aX⟩,-,-⟩:=ν bB.o;go_wp2;go_loopw [22] (fun c wr=>∃ (f:Nat) (M:List ε),f<=n/\c=G (f:Int)/\Hid (wr.ownsRow A.heap.size 31 1 (D (J ⟨r,0,O⟩) n n) n M)/\Hid (Hi wc.heap.size wr (ml ď M f))/\Hid (∀ b,b<wc.heap.size->b≠r->wr.heap[b]?=wc.heap[b]?)/\Below A.heap.size wc wr/\wc.heap.size<=wr.heap.size) (fun c _=>n - (intOf c).toNat)
  .exact⟨0,_,Ζ _,rfl,cm.o,(fun v _ c hi h=>U),fun _ _ _=>rfl,ρ _ _,NZ⟩
  obtain⟨f,M,e9,rfl,a6,bu,ai,bP,d9⟩:=hrel;have bm:BQ w wr:=dN.trans (bP.M U);have bN:=(ai.o H bo.2.2 (fun e=>ek e.symm)).trans cY.o;have bM:=(ai.o _ U U).trans bB.o;obtain⟨⟨aY,aG⟩,-,bq⟩:=ν bN;obtain⟨⟨aW,aX⟩,-,ce⟩:=ν bM;by_cases fa:f<n
  .have bV:f<L ď:=ι a2.o
   obtain⟨ex,off,aQ,aR,rfl,dO,b4⟩:=ci.o f bV;have ef:(f:Int)<(n:Int):=U;have fj:(0:Int)<=(f:Int):=U;have fm:=ζ bm dO;have cl:=Zh (rK (D aQ (L ď[f]) aR) (L ď[f]) (η ď[f]) _ (b4.B bm.drew) (mM _) (ι (cH.o f bV)));obtain⟨bJ,dh,-,e1⟩:=im a6.o f U;have eR:=Zh b4.1;generalize dQ:L ď[f]=Z at *;have br:=Zh dQ;go_wp2_with fail
   have k:BQ wr wr.drew:=RZ.drew;refine ϯ (fun z=>BQ wr z) 6 ϋ ?_;refine iO (oi:=⟨J 27,_,_,_,_,_⟩) 0 rfl k ?_;simp only[Zp];refine pN (oi:=⟨J 28,_,_,_,_,_⟩) 1 [5,6] rfl k ?_ (hy:=by intro z u;have bg:=ζ u aY;go_simp;try with_reducible rfl);simp only[Zp];refine iO (oi:=⟨J 29,_,_,_,_,_⟩) 2 rfl k ?_;simp only[Zp];refine iO (oi:=⟨J 30,_,_,_,_,_⟩) 3 rfl k ?_;simp only[Zp];refine Κ (fuel:=2) 4 ϋ rfl ?_;intro K i;go_simp;refine cl.o.M ?_;rintro e T ⟨eI,rfl,ay,bi⟩;obtain⟨t,s,rfl⟩:=Η ay;have B:BQ wr T:=k.trans bi;refine i _ _ B ?_;try simp only[Act.put]
   refine iO (oi:=⟨J 32,_,_,_,_,_⟩) 5 rfl B ?_;simp only[Zp];have aK:=Zh (ψ a6.o B);obtain⟨dg,e0,-,di⟩:=im aK.o f U;obtain⟨fq,dY⟩:∃ ah,M[f]?=J ah:=⟨_,Ρ (ι aK.o.1)⟩;rw[dY]at dg;refine Zl ?_;refine Zd ?_;have cN:=Zh (mU aK.o f U (D t Z s));have cv:Hid (Hi wc.heap.size (ŝ T ⟨r,f,O⟩ (D t Z s)) (ml ď (M.set f (D t Z s)) (f+1))):=by
    have bh:=(bu.o.B B).and ((Hi.own ay).M (show wc.heap.size<=wr.drew.heap.size from d9));refine(bh.set (p:=⟨r,f,O⟩) bo.1 (D t Z s)).imp fun v ⟨ao,ab⟩ c hi dU=>?_;by_cases ar:c=f
    .subst ar
     refine⟨ _,by rw[mB (ι aK.o.1)],?_⟩;rw[br.o];exact ab
    .obtain⟨Q,ag,ad⟩:=ao c hi U
     exact⟨Q,by rw[gi U];exact ag,ad⟩
   have cE:Hid (∀ b,b<wc.heap.size->b≠r->(ŝ T ⟨r,f,O⟩ (D t Z s)).heap[b]?=wc.heap[b]?):=fun b ag ad=>by
    rw[Γ _ _ _ _ ad,B.block b U];exact ai.o b ag ad
   have dK:=(bP.trans (B.M U)).S (p:=⟨r,f,O⟩) ei (D t Z s);have bp:wc.heap.size<=(ŝ T ⟨r,f,O⟩ (D t Z s)).heap.size:=by
    have:=B.size;simp only[nc];omega
   go_wp2_with fail
   go_roundw
   .exact⟨ _,_,U,ϕ,cN.o,cv.o,cE.o,dK,bp⟩
   exact ω
  .have ef:¬(f:Int)<(n:Int):=U
   obtain rfl:f=n:=U;obtain⟨F,ee⟩:∃ x:β,x=wr:=⟨wr,rfl⟩;subst ee;have dC:=kA cR.o  (fun g hg=>by simp only[Value.ownBlock,Φ]at hg;subst hg;exact ai.o j bo.2.1 (fun e=>b9 e.symm));have⟨cU,c5,c3,cX⟩:=hV dC ((ai.o _ U U).trans c4.o) bN bM;have bT:r<F.heap.size/\j<F.heap.size/\H<F.heap.size:=U;have e3:A.heap.size<=F.heap.size:=U;go_wp2;go_loopw [37] (fun c wt=>∃ (q:Nat) (W:List ε),q<=m/\c=G (q:Int)/\Hid (wt.ownsRow A.heap.size 92 3 (D (J ⟨j,0,O⟩) m m) m W)/\Hid (Hi wc.heap.size wt (fun v=>ml ď M f v/\lx ď ps W q v))/\Hid (∀ b,b<F.heap.size->b≠j->wt.heap[b]?=F.heap[b]?)/\Below A.heap.size F wt/\F.heap.size<=wt.heap.size) (fun c _=>m - (intOf c).toNat)
   .exact⟨0,_,Ζ _,rfl,cU.o,bu.o.imp fun v h=>⟨h,fun c hi h=>U⟩,fun _ _ _=>rfl,ρ _ _,NZ⟩
   obtain⟨wt,aT⟩:∃ x:β,x=wr:=⟨wr,rfl⟩;subst aT;obtain⟨q,W,fe,rfl,bx,bv,aj,bQ,fi⟩:=hrel;have af:BQ w wt:=bm.trans (bQ.M U);have bO:=(aj.o H bT.2.2 (fun e=>ca e.symm)).trans c3.o;have dE:=(aj.o _ U U).trans cX.o;obtain⟨⟨aY,aG⟩,-,bq⟩:=ν bO;obtain⟨⟨aW,aX⟩,-,ce⟩:=ν dE;by_cases ff:q<m
   .have bX:q<L ps:=ι a1.o
    obtain⟨ex,off,aQ,aR,rfl,-,eA,eB,eC,dR⟩:=cF.o q bX;have eh:(q:Int)<(m:Int):=U;have fl:(0:Int)<=(q:Int):=U;have b8:=ζ af eA;have l1:=ζ af eB;have l2:=ζ af eC;have⟨a4,bs⟩:=π (cI.o q bX) dR;generalize dB:ps[q]=cb at *;have a5:=Zh dB;generalize dv:Δ ď cb=o at *;have⟨cn,br⟩:=π dv (show L o=L o from rfl);generalize dy:L o=ln at *;have aI:=Zh dy;obtain⟨R,S⟩:=cb;simp only at b8 l1;have ap:BQ wt (å wt (C #[G R,G S,D aQ ln aR] 92)):=ġ;have bY:=φ wt (C #[G R,G S,D aQ ln aR] 92);go_upto_region 10 with fail
    generalize(å wt _)=y at *;obtain⟨⟨cc,ag,ad⟩,-,fI⟩:=Β bY;have dH:=af.t ap;have bC:=Zh (θ bO ap);obtain⟨⟨aY,aG⟩,-,bq⟩:=ν bC.o;have cQ:=Zh (ψ bx.o ap);obtain⟨bf,bR,hz⟩:=(bs.o.B dH.drew).2;have dZ:∀ ah∈bf,ah.oneCell'=true:=by
     intro ah eb;obtain⟨c,hi,rfl⟩:=rk eb;have e5:c<ln*2:=by rw[<-bR.1];exact hi
     obtain⟨aa,Q,ae,bI⟩:=hz (c / 2) U;rcases ym c with hm2|hm2
     .rw[show c / 2*2=c from U,Ρ hi]at aa
      injection aa with aa;rw[aa];rfl
     .rw[show c / 2*2+1=c from U,Ρ hi]at ae
      injection ae with ae;rw[ae];obtain⟨c7,c8,aS,-⟩:=ku rfl bI;rw[aS];rfl
    have⟨cj,co,cg⟩:=ϲ (zo _ ln bf _ bR dZ (ι a4.o.1)) hz bY;have d7:A.heap.size<=wt.heap.size:=U;have d6:A.heap.size<=y.heap.size:=by omega
    have k:BQ y y.drew:=RZ.drew;refine ϯ (fun z=>BQ y z) 10 ϋ ?_;refine iO (oi:=⟨J 42,_,_,_,_,_⟩) 0 rfl k ?_;simp only[Zp];refine pN (oi:=⟨J 43,_,_,_,_,_⟩) 1 [9,10] rfl k ?_ (hy:=by intro z u;have bg:=ζ u aG;go_simp;try with_reducible rfl);simp only[Zp];refine iO (oi:=⟨J 44,_,_,_,_,_⟩) 2 rfl k ?_;simp only[Zp];refine iO (oi:=⟨J 45,_,_,_,_,_⟩) 3 rfl k ?_;simp only[Zp];refine pN (oi:=⟨J 46,_,_,_,_,_⟩) 4 [8,10] rfl k ?_ (hy:=by intro z u;have aa:=ζ u cc;have ae:=ζ u ag;go_simp;try with_reducible rfl);simp only[Zp];refine iO (oi:=⟨J 47,_,_,_,_,_⟩) 5 rfl k ?_;simp only[Zp];refine pN (oi:=⟨J 48,_,_,_,_,_⟩) 6 [7,8,10] rfl k ?_ (hy:=by intro z u;have bI:=ζ u ad;go_simp;try with_reducible rfl);simp only[Zp];refine Κ (fuel:=3) 7 ϋ rfl ?_;intro K i;go_simp;refine cj.o.M ?_;rintro e T ⟨eI,rfl,ay,bi⟩;obtain⟨t,s,rfl⟩:=Η ay;have B:BQ y T:=k.trans bi;refine i _ _ B ?_;try simp only[Act.put]
    refine iO (oi:=⟨J 50,_,_,_,_,_⟩) 8 rfl B ?_;simp only[Zp];refine iO (oi:=⟨J 51,_,_,_,_,_⟩) 9 rfl B ?_;simp only[Zp];have ak:=Zh (ψ cQ.o B);have e4:=ak.o.1;obtain⟨dd,eX,-,di⟩:=im ak.o (q*3) U;obtain⟨de,eY,-,-⟩:=im ak.o (q*3+1) U;obtain⟨df,eZ,-,-⟩:=im ak.o (q*3+2) U;rw[Ρ U]at dd de df;refine Zl ?_;refine Zd ?_;have cP:=Zh (mU (mU (mU ak.o (q*3) U (G R)) (q*3+1) U (G S)) (q*3+2) U (D t ln s));have bn:j<y.drew.heap.size:=by simp only[World.drew];omega
    have bw:=Zh (hR (hR (hR ay (a:=⟨j,q*3,O⟩) bn (G R)) (a:=⟨j,q*3+1,O⟩) bn (G S)) (a:=⟨j,q*3+2,O⟩) bn (D t ln s));have a0:Hid (∀ b,b<y.heap.size->b≠j->(ŝ (ŝ (ŝ T ⟨j,q*3,O⟩ (G R)) ⟨j,q*3+1,O⟩ (G S)) ⟨j,q*3+2,O⟩ (D t ln s)).heap[b]?=y.heap[b]?):=fun b ao ab=>by
     rw[Γ _ _ _ _ ab,Γ _ _ _ _ ab,Γ _ _ _ _ ab];exact B.block b ao
    have bK:=((((ap.M d7).trans (B.M d6)).S (p:=⟨j,q*3,O⟩) le2 (G R)).S (p:=⟨j,q*3+1,O⟩) le2 (G S)).S (p:=⟨j,q*3+2,O⟩) le2 (D t ln s);have bp:y.heap.size<=(ŝ (ŝ (ŝ T ⟨j,q*3,O⟩ (G R)) ⟨j,q*3+1,O⟩ (G S)) ⟨j,q*3+2,O⟩ (D t ln s)).heap.size:=by
     have:=B.size;simp only[nc];omega
    generalize(ŝ (ŝ (ŝ T _ _) _ _) _ _)=E at *;have dS:j<y.heap.size/\H<y.heap.size/\r<y.heap.size:=by omega
    have cf:=Zh ((a0.o _ (by omega) U).trans cg.o);have cZ:=Zh ((a0.o H dS.2.1 (fun e=>ca e.symm)).trans bC.o);obtain⟨⟨cc,ag,ad⟩,-,fJ⟩:=Β cf.o;have cW:Hid (∀ c (hi:c<L o),bf[c*2]?=J (Ϫ o[c].1)):=fun c hi=>(co.o c hi).1;have ec:∀ g,(Value.slice t ln s).ownBlock=J g->y.heap.size<=g/\g<E.heap.size:=fun g hg=>Ϡ bw.o g hg;have aL:=Zh ec;have fb:=a4.o.1;go_wp2_with fail
    go_loopw [55] (fun c aF=>∃ (l:Nat) (Y:List ε),l<=ln/\c=G (l:Int)/\Hid (aF.ownsRow y.heap.size 130 2 (D t ln s) ln Y)/\Hid (∀ c (hi:c<L o),Y[c*2]?=J (Ϫ o[c].1))/\Hid (Hi E.heap.size aF (fun v=>∀ c (hi:c<L o),c<l->∃ Q,Y[c*2+1]?=J Q/\Rd v Q (L o[c].2) 1 (τ o[c].2)))/\Hid (∀ b,b<E.heap.size->(∀ g,(Value.slice t ln s).ownBlock=J g->g≠b)->aF.heap[b]?=E.heap[b]?)/\Below y.heap.size E aF/\E.heap.size<=aF.heap.size) (fun c _=>ln - (intOf c).toNat)
    .exact⟨0,_,Ζ _,rfl,bw.o,cW.o,(fun v _ c hi h=>U),fun _ _ _=>rfl,ρ _ _,NZ⟩
    obtain⟨l,Y,e7,rfl,a3,bz,bt,aH,bj,fh⟩:=hrel;have bk:BQ w wr:=(af.trans (bK.M U)).trans (bj.M U);have bA:=Zh (kA cP.o  (fun g hg=>by
     simp only[Value.ownBlock,Φ]at hg;subst hg
     exact aH.o j U (fun an aq=>ι (aL.o an aq).1)))
    have c2:=Zh ((aH.o H U (fun an aq=>ι (aL.o an aq).1)).trans cZ.o);by_cases e8:l<ln
    .have bU:l<L o:=ι aI.o
     obtain⟨c7,c8,aS,-,cr⟩:=ic bs.o;simp only[Χ]at aS;obtain⟨rfl,-,rfl⟩:=aS;obtain⟨fr,fp,b6,b7,rfl,c9,db,dV⟩:=cr.o l bU;obtain⟨I,eT,b5⟩:=kO a3.o U;simp only[Χ,ϵ]at b5;obtain⟨rfl,rfl⟩:=b5;have eg:(l:Int)<(ln:Int):=U;have fk:(0:Int)<=(l:Int):=U;have b8:=ζ bk c9;have l1:=ζ bk db;have bS:=aL.o I rfl;have⟨cq,eS,cG⟩:=ϲ (show L o[l].2<=1000 from a4.o.2 _ (Ψ bU)) (show(o[l].1,o[l].2)=o[l]from rfl) dV;generalize bL:Ϫ _=eD at *;have d5:∃ c6,eD=š c6:=⟨_,bL.symm⟩;obtain⟨bD,rfl⟩:=d5;have eQ:=Zh (show L o[l].2=L o[l].2 from rfl);generalize dx:L o[l].2=el at *;have⟨cu,eP⟩:=π dx bL;obtain⟨aV,ed⟩:∃ x:β,x=wr:=⟨wr,rfl⟩;subst ed;have ac:BQ aV (å aV (C #[š bD,D b6 el b7] 130)):=ġ;have d0:=φ aV (C #[š bD,D b6 el b7] 130);obtain⟨cd,-,-,-⟩:=im bA.o (q*3+2) U;have d4:(((W.set (q*3) (G R)).set (q*3+1) (G S)).set (q*3+2) (D (J ⟨I,0,O⟩) ln s))[q*3+2]?=J (D (J ⟨I,0,O⟩) ln s):=by
      rw[mB (by simp only[List.length_set];omega)]
     rw[d4]at cd;obtain⟨⟨aY,aG⟩,-,bq⟩:=ν c2.o;go_upto_region 14 with fail
     have dI:=bk.t ac;have ey:=ζ ac cd;have eN:=ζ ac aG;have cL:=Zh (ψ a3.o ac);have ck:=Zh (uM _ el _ _ (by have:=cG.o.B dI.drew;exact this) (sW _) (ι cq.o));generalize(å aV _)=al at *;obtain⟨⟨fo,ej⟩,-,fK⟩:=ν d0;have k:BQ al al.drew:=RZ.drew;refine ϯ (fun z=>BQ al z) 12 ϋ ?_;refine iO (oi:=⟨J 60,_,_,_,_,_⟩) 0 rfl k ?_;simp only[Zp];refine pN (oi:=⟨J 61,_,_,_,_,_⟩) 1 [3,4,5,10,11,12] rfl k ?_ (hy:=by intro z u;have bg:=ζ u eN;go_simp;try with_reducible rfl);simp only[Zp];refine iO (oi:=⟨J 62,_,_,_,_,_⟩) 2 rfl k ?_;simp only[Zp];refine iO (oi:=⟨J 63,_,_,_,_,_⟩) 3 rfl k ?_;simp only[Zp];refine iO (oi:=⟨J 64,_,_,_,_,_⟩) 4 rfl k ?_;simp only[Zp];refine pN (oi:=⟨J 65,_,_,_,_,_⟩) 5 [10,11,12] rfl k ?_ (hy:=by intro z u;have aa:=ζ u ey;go_simp;try with_reducible rfl);simp only[Zp];refine iO (oi:=⟨J 66,_,_,_,_,_⟩) 6 rfl k ?_;simp only[Zp];refine iO (oi:=⟨J 67,_,_,_,_,_⟩) 7 rfl k ?_;simp only[Zp];refine pN (oi:=⟨J 68,_,_,_,_,_⟩) 8 [9,12] rfl k ?_ (hy:=by intro z u;have ae:=ζ u ej;go_simp;try with_reducible rfl);simp only[Zp];refine Κ (fuel:=3) 9 ϋ rfl ?_;intro K i;go_simp;refine ck.o.M ?_;rintro e aU ⟨fw,rfl,bW,dG⟩;obtain⟨P,V,rfl⟩:=Η bW;have X:BQ al aU:=k.trans dG;refine i _ _ X ?_;try simp only[Act.put]
     refine iO (oi:=⟨J 70,_,_,_,_,_⟩) 10 rfl X ?_;simp only[Zp];refine iO (oi:=⟨J 71,_,_,_,_,_⟩) 11 rfl X ?_;simp only[Zp];have aJ:=Zh (ψ cL.o X);obtain⟨bJ,dh,-,e2⟩:=im aJ.o (l*2+1) U;rw[Ρ (ι aJ.o.1)]at bJ;refine Zl ?_;refine Zd ?_;have fg:=X.size;have cK:=Zh (mU aJ.o (l*2+1) U (D P el V));have cV:Hid (∀ c (hi:c<L o),(Y.set (l*2+1) (D P el V))[c*2]?=J (Ϫ o[c].1)):=fun c hi=>by
      rw[gi U];exact bz.o c hi
     have cs:Hid (Hi E.heap.size (ŝ aU ⟨I,l*2+1,O⟩ (D P el V)) (fun v=>∀ c (hi:c<L o),c<l+1->∃ Q,(Y.set (l*2+1) (D P el V))[c*2+1]?=J Q/\Rd v Q (L o[c].2) 1 (τ o[c].2))):=by
      have bh:=((bt.o.B ac).B X).and ((Hi.own bW).M (show E.heap.size<=al.drew.heap.size by simp only[World.drew];omega));refine(bh.set (p:=⟨I,l*2+1,O⟩) bS.2 (D P el V)).imp fun v ⟨ao,ab⟩ c hi dU=>?_;by_cases ar:c=l
      .subst ar
       refine⟨ _,by rw[mB (ι aJ.o.1)],?_⟩;rw[cu.o];exact ab
      .obtain⟨Q,p1,p2⟩:=ao c hi U
       exact⟨Q,by rw[gi U];exact p1,p2⟩
     have cC:Hid (∀ b,b<E.heap.size->(∀ g,(Value.slice (J ⟨I,0,O⟩) ln s).ownBlock=J g->g≠b)->(ŝ aU ⟨I,l*2+1,O⟩ (D P el V)).heap[b]?=E.heap[b]?):=fun b p1 p2=>by
      rw[Γ _ _ _ _ (fun e=>p2 I rfl e.symm),X.block b U,ac.block b U];exact aH.o b p1 p2
     have dJ:=(bj.trans ((ac.t X).M U)).S (p:=⟨I,l*2+1,O⟩) bS.1 (D P el V);have d8:E.heap.size<=(ŝ aU ⟨I,l*2+1,O⟩ (D P el V)).heap.size:=by simp only[nc];omega
     go_wp2_with fail
     go_roundw
     .exact⟨ _,_,U,ϕ,cK.o,cV.o,cs.o,cC.o,dJ,d8⟩
     exact ω
    .have eg:¬(l:Int)<(ln:Int):=U
     obtain rfl:l=ln:=U;have aT:∀ b,b<wt.heap.size->b≠j->wr.heap[b]?=wt.heap[b]?:=fun b p1 p2=>by
      rw[aH.o b U (fun an aq=>ι (aL.o an aq).1),a0.o b U p2];exact ap.block b p1
     have cJ:Hid (Hi y.heap.size wr (fun v=>fN v (D t l s) l o)):=by
      refine((Hi.own a3.o).and (bt.o.M bp)).imp fun v ⟨p1,p2⟩=>⟨aI.o,Y,p1,fun c hi=>⟨bz.o c hi,p2 c hi (ι aI.o)⟩⟩
     have cS:Hid (Hi wc.heap.size wr (fun v=>ml ď M f v/\lx ď ps (((W.set (q*3) (G R)).set (q*3+1) (G S)).set (q*3+2) (D t l s)) (q+1) v)):=by
      have du:=bv.o.step U fun b p1 p2=>aT b p2 U;refine(du.and (cJ.o.M (U:wc.heap.size<=y.heap.size))).imp fun v ⟨⟨p1,p2⟩,ew⟩=>⟨p1,fun c hi e6=>?_⟩;by_cases ar:c=q
      .subst ar
       refine⟨?_,?_,D t l s,?_,?_⟩
       .rw[gi U,gi U,mB U,a5.o]
       .rw[gi U,mB (by simp only[List.length_set];omega),a5.o]
       .rw[mB (by simp only[List.length_set];omega)]
       .rw[a5.o,cn.o,aI.o];exact ew
      .obtain⟨eE,eF,ah,eG,eH⟩:=p2 c hi U
       refine⟨?_,?_,ah,?_,eH⟩
       .rw[gi U,gi U,gi U];exact eE
       .rw[gi U,gi U,gi U];exact eF
       .rw[gi U,gi U,gi U];exact eG
     have cD:Hid (∀ b,b<F.heap.size->b≠j->wr.heap[b]?=F.heap[b]?):=fun b p1 p2=>(aT b U p2).trans (aj.o b p1 p2);have dL:=(bQ.trans bK).trans (bj.M U);have ea:F.heap.size<=wr.heap.size:=U;go_wp2;go_roundw
     .exact⟨ _,_,U,ϕ,bA.o,cS.o,cD.o,dL,ea⟩
     exact ω
   .have eh:¬(q:Int)<(m:Int):=U
    obtain rfl:q=m:=U;have dw:=kA a6.o  (fun g hg=>by simp only[Value.ownBlock,Φ]at hg;subst hg;exact aj.o r bT.1 b9);have b3:=(aj.o _ U U).trans c5.o;obtain⟨⟨eU,d1⟩,⟨fu,fv⟩,fL⟩:=ν b3;have⟨cO,ch,cp,cT,ct⟩:=kW (fS b3 (D (J ⟨r,0,O⟩) f f) (D (J ⟨j,0,O⟩) q q)) (ga af (gu _ 1) (D (J ⟨r,0,O⟩) f f) (D (J ⟨j,0,O⟩) q q)) (gX (hR (hR dw (a:=⟨ _,0,O⟩) aZ (D (J ⟨r,0,O⟩) f f)) (a:=⟨ _,1,O⟩) aZ (D (J ⟨j,0,O⟩) q q)) (U:w.heap.size<=A.heap.size)) (gX (hR (hR bx.o (a:=⟨ _,0,O⟩) aZ (D (J ⟨r,0,O⟩) f f)) (a:=⟨ _,1,O⟩) aZ (D (J ⟨j,0,O⟩) q q)) (U:w.heap.size<=A.heap.size)) ((bv.o.set (p:=⟨ _,0,O⟩) (U:w.heap.size+1<wc.heap.size) (D (J ⟨r,0,O⟩) f f)).set (p:=⟨ _,1,O⟩) (U:w.heap.size+1<wc.heap.size) (D (J ⟨j,0,O⟩) q q));go_wp2;exact Ω  (jf   rfl _ _ _ _ _ _ _ rfl cO.o lG rfl ϋ) rfl ⟨r,j,rfl,⟨M,W,wc.heap.size,⟨by rw[a2.o];exact cp.o,by rw[a1.o];exact cT.o,fun g hg=>by simp only[Value.ownBlock,Φ]at hg;omega,fun g hg=>by simp only[Value.ownBlock,Φ]at hg;omega,U,by rw[a2.o,a1.o];exact ct.o,fun g hg e=>by simp only[Value.ownBlock,Φ]at hg e;omega⟩⟩,ch.o⟩
def tq (da nd dc sa ns sc) (A:List (γ)) (ps m) (w:β) (p:ϭ w) (k:Ε w (D da nd dc) A) (o:ϣ A w (D sa ns sc) ps) (l:Ϻ A ps m) :
  Calls prog 39 #[ā #[D da nd dc,D sa ns sc]] w fun e w'=>e=ŗ (ā #[D da nd dc,D sa ns sc])/\BQ w w':=by
 have f:=Zh (fun b (a:BQ w b)=>Au _ _ A ps m b (p.B a) (k.B a) (o.B a) l);have h:BQ w (å (å w (C #[D da nd dc,D sa ns sc] 44)) (C #[D O 0 0,D O 0 0] 44)):=ġ.A ύ _;go_enter func39,ntmps39;go_wp2_with fail
 refine(f.o _ h).M ?_;rintro e x ⟨rfl,i⟩;obtain⟨n,c,y,z,j⟩:=fZ i;obtain⟨⟨u,v⟩,⟨r,f1⟩,-⟩:=ν n;obtain⟨⟨q,d1⟩,⟨s,t⟩,-⟩:=ν c;have⟨g,d⟩:=π (fS c (D da nd dc) (D sa ns sc)) (ga j (gu _ 1) (D da nd dc) (D sa ns sc));go_wp2;exact Ω  (jf   rfl _ _ _ _ _ _ _ rfl g.o lG rfl ϋ) rfl ⟨rfl,d.o⟩
def EC (v:ε) (g:ε) (y:List (γ)) (ps m) (w:β) (p:ϣ y w g ps) (d:il 0 ps m) :
  Calls prog 38 #[ā #[v,g]] w fun e w'=>e=ŗ (G m)/\BQ w w':=by
 obtain⟨sa,sc,rfl,q,h⟩:=qX p;by_cases i:L ps=0
 .have o:=kS i
  subst o;have k:m=0:=by first|exact d.symm|(simp[il]at d;omega)
  subst k;have c:BQ w (å w (C #[v,D sa 0 sc] 44)):=ġ;simp only[gO];go_enter func38,ntmps38;go_wp2;go_ret;exact⟨rfl,c⟩
 .obtain⟨b,off,da,dc,rfl,n,c0,c1,c2,-⟩:=h.o (L ps - 1) U
  have f:=wG d U;rw[fX,Ρ U]at f;simp only[Option.getD_some]at f;rw[f]at c1;have l:((L ps:Int)==0)=false:=by simp only[fU,ne_eq];omega
  obtain⟨a,j⟩:∃ a,L ps=a+1:=⟨L ps - 1,U⟩;rw[j]at c1 l q n ⊢;simp only[qo]at c1;have r:=ζ ((ρ _ w).A NZ (C #[v,D (J ⟨b,off,O⟩) (a+1) sc] 44)) c1;have c:BQ w (å w (C #[v,D (J ⟨b,off,O⟩) (a+1) sc] 44)):=ġ;have u:IntKind.i64.wrap ((a:Int)+1 - 1)=(a:Int):=Ϗ;have x:IntKind.i64.wrap (a:Int)=(a:Int):=Ϗ;have s:(a:Int)<(a:Int)+1:=U;have t:(0:Int)<=(a:Int):=U;go_enter func38,ntmps38;go_wp2;go_ret;exact⟨rfl,c⟩
def As (da nd dc sa ns sc) (s:List (γ)) (ps m) (w:β) (o:ϭ w) (n:Ε w (D da nd dc) s) (f:ϣ s w (D sa ns sc) ps) (d:Ϻ s ps m) :
  Calls prog 17 #[ā #[D da nd dc,D sa ns sc]] w fun e w'=>e=ŗ (G m)/\BQ w w':=by
 have h:=Zh (fun a (b:BQ w a)=>tq da nd dc sa ns sc s ps m a (o.B b) (n.B b) (f.B b) d);have g:=Zh (fun a (b:BQ w a)=>EC (D da nd dc) _ s ps m a (f.B b) d.ch);have j:BQ w (å w (C #[D da nd dc,D sa ns sc] 44)):=ġ;go_enter func17,ntmps17;go_wp2_with fail
 refine(h.o _ j).M ?_;rintro e p ⟨rfl,k⟩;obtain⟨-,r,c⟩:=fO k;go_wp2_with fail
 refine(g.o _ c).M ?_;rintro e q ⟨rfl,l⟩;have i:=c.t l;go_wp2;go_ret;exact⟨rfl,i⟩
def ma (a:List (γ)) (p:Nat×Nat):List ε:=[G p.1,G p.2,G ((L (Δ a p)+1:Nat):Int),š (δ (ib (Δ a p)))]
def fP (a:List (γ)) (b:List (Nat×Nat)):List ε:=b.flatMap (ma a)
def PJ (docs ps):L (fP docs ps)=L ps*4:=by
 induction ps with
 |nil=>rfl
 |cons b ps a=>simp only[fP,lF,σ,ϥ]at a ⊢;rw[a];simp[ma];omega
def AP (docs) (a:List (Nat×Nat)) (k hk):fP docs (a.take (k+1))=fP docs (a.take k)++ma docs a[k]:=by
 unfold fP;rw[jt hk,pI];simp
def DI:(prog.info? 198).map (fun i=>(i.zero,i.size,i.bytes))=J (J (ā #[G 0,G 0,G 0,š ⟨#[]⟩]),4,40):=ϋ
def nC {j:List (γ)} {ps m} (a:Ϻ j ps m) {k} (d:k<L ps):lZ (ps[k].1:Int) (ps[k].2:Int) (Δ j ps[k])=true/\(∀ e∈Δ j ps[k],L e.1<=64/\L e.2<=1000)/\L (Δ j ps[k])<=2000000:=by
 obtain⟨p1,p2,f,i⟩:=nU a.ch k d;have:=a.nd;have:=a.le;refine⟨Eu j ps[k] f U,fun e c=>?_,?_⟩
 .obtain⟨-,b,-,h,-⟩:=xn (show e∈iw j _ _ from c)
  exact⟨b,U⟩
 .have g:=Eb j _ a.ld ps[k].1 (ps[k].2 - ps[k].1)
  have:(ps[k].2 - ps[k].1)*2000<=1000*2000:=qp _ U;show(L (iw j ps[k].1 (ps[k].2 - ps[k].1)))<=_;omega
def MS (da nd dc sa sc) (ď:List (γ)) (ps m) (w:β) (Q:ϭ w) (aB:Ϭ w) (av:Ε w (D da nd dc) ď) (P:ϣ ď w (D sa (L ps) sc) ps) (o:Ϻ ď ps m) :
  Calls prog 115 #[ā #[D da nd dc,D sa (L ps) sc]] w fun e w'=>∃ z c,e=ŗ (D z (L ps) c)/\w'.ownsRow w.heap.size 198 4 (D z (L ps) c) (L ps) (fP ď ps)/\BQ w w':=by
 obtain⟨V,hi,S,T,b⟩:=Ϩ DI;have ai:=Zh (fun g (i:BQ w g)=>tq da nd dc sa _ sc ď ps m g (Q.B i) (av.B i) (P.B i) o);have Z:=Zh (fun a j r g (i:BQ w g) (h:fN g r _ _)=>Pv _ _ r (L (Δ ď ps[a])) (Δ ď ps[a]) g (aB.B i) (Q.B i) h (nC o j).1 (nC o j).2.1 (ι (nC o j).2.2));obtain⟨aY,aZ,R,aR,Y⟩:=qX P;simp only[Χ,ϵ]at R;obtain⟨rfl,rfl⟩:=R;have aP:=o.np;have ao:BQ w (å w (C #[D da nd dc,D sa (L ps) sc] 44)):=ġ;go_enter func115,ntmps115;go_wp2_with fail
 refine(ai.o _ ao).M ?_;rintro e W ⟨rfl,ap⟩;obtain⟨M,a2,d⟩:=fO ap;obtain⟨⟨aE,aF⟩,⟨al,f1⟩,-⟩:=ν M;have N:=fS M (D da nd dc) (D sa (L ps) sc);have aq:=ga d NZ (D da nd dc) (D sa (L ps) sc);have aS:w.heap.size<(ŝ (ŝ W ⟨w.heap.size,0,O⟩ (D da nd dc)) ⟨w.heap.size,1,O⟩ (D sa (L ps) sc)).heap.size:=ό;go_upto_region 2 with fail
 generalize ŝ (ŝ W _ _) _ _=n at *;obtain⟨⟨aE,aF⟩,⟨al,f1⟩,-⟩:=ν N;have af:=Zh N;go_wp2_with (at_make;refine wpList_make_own n rfl _ _ _ rfl _ 198 V _ 4 underlying121 hi S T _ _ _ (L ps) rfl rfl ύ (by rw[b];omega) ώ NZ ?_;intro aH aA ax;have X:BQ n aH:=RZ.grown ax NZ (fun a j=>by cases j);obtain⟨⟨aT,aU⟩,⟨aM,aN⟩,-⟩:=ν (θ af.o X))
 have⟨ab,a4,v⟩:=ϲ aA X aq;go_loopw [3,17] (fun r u wr=>∃ (a:Nat) (q:Option Addr) (c1:Nat),a<=L ps/\u=G (a:Int)/\r=D q a c1/\Hid (wr.ownsRow n.heap.size 198 4 (D q a c1) a (fP ď (ps.take a)))/\BQ n wr) (fun _ u _=>L ps - (intOf u).toNat)
 .exact⟨0,_,_,Ζ _,rfl,rfl,ab.o,a4.o⟩
 obtain⟨a,q,c1,j,rfl,rfl,x,F⟩:=hrel;have d:=v.o.t F;by_cases s:a<L ps
 .obtain⟨a3,off,A,B,rfl,aQ,aJ,aK,aL,aw⟩:=Y.o a s
  have aG:(a:Int)<(L ps:Int):=U;have aV:(0:Int)<=(a:Int):=U;have aW:=ζ d aJ;have l1:=ζ d aK;have l2:=ζ d aL;have ah:=Zh (AP ď ps a s);have I:BQ w (å wr (C #[G ps[a].1,G ps[a].2,D A (L (Δ ď ps[a])) B] 92)):=d.al _;have au:BQ wr (å wr (C #[G ps[a].1,G ps[a].2,D A (L (Δ ď ps[a])) B] 92)):=ġ;have ad:=Zh (Z.o a s _ _ I (aw.B I));have ag:Hid (ma ď ps[a]=[G ps[a].1,G ps[a].2,G ((L (Δ ď ps[a])+1:Nat):Int),š (δ (ib (Δ ď ps[a])))]):=rfl;generalize ma ď _=sg at *;generalize δ _=l at *;generalize aO:((L (Δ ď _)+1:Nat):Int)=k at *;generalize(L (Δ ď _))=aX at *;generalize ps[a].1=f at *;generalize ps[a].2=p at *;go_wp2_with fail
  refine ad.o.M ?_;rintro e aI ⟨rfl,ar⟩;have H:=au.t ar;have ae:=Zh (ψ x.o H);have E:=F.t H;have aC:=E.size;have y:=Zh (ψ (ψ ae.o (RZ.A NZ (C #[G f,G p,G k,š l] 198))) (RZ.A NZ (C #[G f,G p,G k,š l] 198)));have am:BQ n (å (å aI (C #[G f,G p,G k,š l] 198)) (C #[G f,G p,G k,š l] 198)):=(E.A aC _).A ό _;go_wp2_with (at_builtin;refine ϻ rfl _ _ _ _ rfl _ 198 V _ 4 _ underlying121 hi S T b rfl _ a _ rfl y.o _ 1 [G f,G p,G k,š l] rfl (oj underlying121 _ _ 4 1 1 _ ύ rfl ϗ) ώ U ό ?_;intro a0 a1 t ay _ _;have an:=am.grown ay ό (fun aD az=>(y.o.lt aD az).1))
  obtain⟨aj,ak,rfl⟩:=Η t;rw[<-ag.o,<-ah.o]at t;have ac:=Zh t;go_roundw
  .exact⟨ _,aj,ak,U,ϕ,rfl,ac.o,an⟩
  exact ω
 .obtain rfl:a=L ps:=U
  have aG:¬(L ps:Int)<(L ps:Int):=U;have K:=x.o;rw[nL]at K;have aa:=Zh (gX K v.o.size);go_wp2;go_ret;exact⟨q,c1,rfl,aa.o,d⟩
def tG {q:List (γ)} {w:β} {v:ε} {ps} (h:Rd w v (L ps) 4 (fP q ps)):∃ d c,v=D d (L ps) c /\
  Hid (∀ k (a:k<L ps),∃ b off,d=J ⟨b,off,O⟩/\w.cell? ⟨b,off+k*4,O⟩=J (G ps[k].1)/\w.cell? ⟨b,off+k*4+1,O⟩=J (G ps[k].2)/\w.cell? ⟨b,off+k*4+2,O⟩=J (G ((L (Δ q ps[k])+1:Nat):Int))/\w.cell? ⟨b,off+k*4+3,O⟩=J (š (δ (ib (Δ q ps[k]))))):=by
 have g:∀ k (a:k<L ps),∀ f,f<4->(fP q ps)[k*4+f]?=(ma q ps[k])[f]?:=by
  intro k a f n;have l:fP q ps=fP q (ps.take k)++(ma q ps[k]++fP q (ps.drop (k+1))):=by
   have:ps=ps.take k++ps[k]::ps.drop (k+1):=by rw[List.getElem_cons_drop,pG]
   conv=>lhs;rw[this]
   unfold fP;rw[pI,lF]
  have i:=PJ q (ps.take k);rw[gp,mi U]at i;rw[l,hL U,i,Nat.add_sub_cancel_left,je (by simp[ma];omega)]
 obtain⟨i,o,⟨d,c,rfl,j⟩|⟨b,off,c,rfl,j,p,m,e⟩⟩:=h
 .exact⟨d,c,by rw[j],fun k a=>U⟩
 .refine⟨_,c,rfl,fun k a=>⟨b,off,rfl,?_,?_,?_,?_⟩⟩
  .exact e _ _ (by have:=g k a 0 U;simpa[ma] using this)
  .rw[iX];exact e _ _ (by have:=g k a 1 U;simpa[ma] using this)
  .rw[iX];exact e _ _ (by have:=g k a 2 U;simpa[ma] using this)
  .rw[iX];exact e _ _ (by have:=g k a 3 U;simpa[ma] using this)
def Pw (v:ε) (ď:List (γ)) (ps m) (w:β) (h:Rd w v (L ps) 4 (fP ď ps)) (g:Ϻ ď ps m) :
  Calls prog 261 #[v,G m] w fun e w'=>e=ŗ (.bool true)/\BQ w w':=by
 obtain⟨Q,c,rfl,p⟩:=tG h;have q:=Zh (fun a i=>nU g.ch a i);have u:=Zh (fun a (i:a<L ps)=>nC g i);have r:Hid (kb ps (L ps)=m):=by
  show _=_;have l:=g.ch;cases o:L ps with
  |zero =>
   have:=kS o;subst this;first|exact l|(simp[il,kb]at *;omega)
  |succ n =>
   show(ps.getD n (0,0)).2=m;have:=wG l U;rw[o,qo]at this;exact this
 have a1:=g.np;have S:=g.le;have T:=g.nd;clear h g;go_enter func261,ntmps261;go_wp2;go_loopw [5,14] (fun y k wr=>∃ a:Nat,a<=L ps/\k=G (a:Int)/\y=G ((kb ps a:Nat):Int)/\BQ w wr) (fun _ k _=>L ps - (intOf k).toNat)
 .exact⟨0,Ζ _,rfl,rfl,ρ _ _⟩
 obtain⟨a,i,rfl,rfl,d⟩:=hrel;by_cases j:a<L ps
 .obtain⟨b,off,rfl,H,I,K,M⟩:=p.o a j
  obtain⟨p1,p2,ac,ad⟩:=q.o a j;have V:=(u.o a j).2.2;have N:(a:Int)<(L ps:Int):=U;have aa:(0:Int)<=(a:Int):=U;have ab:=ζ d H;have l1:=ζ d I;have l2:=ζ d K;have l3:=ζ d M;have E:((kb ps a:Nat):Int)=(ps[a].1:Int):=U;rw[E];have t:=Zh p2;have s:=Zh (fun x=>Pu (ps[a].1:Int) (ps[a].2:Int) ((L (Δ ď ps[a])+1:Nat):Int) (ib (Δ ď ps[a])) x (by unfold me;simp;omega) U U (qB _));generalize δ _=P at *;generalize((L (Δ ď _)+1:Nat):Int)=a0 at *;generalize ps[a].1=f at *;generalize ps[a].2=ae at *;clear H I K M E p1 p2 V;go_wp2_with fail
  refine(s.o _).M ?_;rintro e af ⟨rfl,A⟩;obtain⟨F,ag,B⟩:=fO A;obtain⟨⟨W,X,Y,Z⟩,⟨R,f1,f2,f3⟩,-⟩:=ϩ F;have z:=d.t B;go_wp2;go_roundw
  .clear F A
   exact⟨a+1,U,ϕ,by rw[<-t.o],z⟩
  exact ω
 .obtain rfl:a=L ps:=U
  have N:¬(L ps:Int)<(L ps:Int):=U;rw[r.o];go_wp2;go_ret;exact⟨by first|rfl|simp,d⟩
def Dx (a) (b:γ) (v:ε) (z:List (γ)) (ps) (w:β) (o:L b=32) (h:Rd w v (L ps) 4 (fP z ps)) (d:Ϻ z ps a) :
  Calls prog 193 #[ā #[G a,š (δ b),v]] w fun e w'=>e=ŗ (.bool true)/\BQ w w':=by
 have g:=Zh (fun f (k:BQ w f)=>Pw v z ps a f (h.B k) d);have s:(δ b).size=32:=by rw[iG,o]
 have t:=d.le;have u:=d.nd;obtain⟨j,c,rfl,-⟩:=tG h;generalize δ b=i at *;have p:(0:Int)<=(a:Int):=U;have q:(a:Int)<=1000:=U;have l:BQ w (å w (C #[G a,š i,D j (L ps) c] 123)):=ġ;clear h d o;go_enter func193,ntmps193;go_wp2_with fail
 refine(g.o _ l).M ?_;rintro e x ⟨rfl,m⟩;obtain⟨r,y,n⟩:=fO m;clear m r;go_wp2;go_ret;exact⟨by first|rfl|simp[p,q],n⟩
def ϡ (a:List (γ)):γ:=Υ (a.map ϴ)
def sV (da dc sa sc) (ď:List (γ)) (ps m) (w:β) (E:ϭ w) (t:Ϭ w) (s:Ε w (D da (L ď) dc) ď) (B:ϣ ď w (D sa (L ps) sc) ps) (n:Ϻ ď ps m) (aq:m=L ď) :
  Calls prog 55 #[ā #[D da (L ď) dc,D sa (L ps) sc]] w fun e w'=>∃ I c,e=ŗ (.tuple #[ā #[G (L ď),š (δ (ϡ ď)),D I (L ps) c],G 0])/\Hi w.heap.size w' (fun aw=>Rd aw (D I (L ps) c) (L ps) 4 (fP ď ps))/\BQ w w':=by
 subst aq;have f:BQ w (å (å w (C #[D da (L ď) dc,D sa (L ps) sc] 44)) (C #[G 0,š ⟨#[]⟩,D O 0 0] 123)):=ġ.A ύ _;obtain⟨i,r⟩:∃ i,i=(å (å w (C #[D da (L ď) dc,D sa (L ps) sc] 44)) (C #[G 0,š ⟨#[]⟩,D O 0 0] 123)):=⟨_,rfl⟩;have au:=fZ  (w1:=i)   (by rw[r];exact ρ _ _);obtain⟨A,o,aJ,aK,-⟩:=au;rw[<-r]at f;have Z:=Zh (fun b (a:BQ i b)=>(Au _ _ ď ps _ b (E.B (f.t a)) (s.B (f.t a)) (B.B (f.t a)) n).M (R':=fun e w'=>e=ŗ _/\BQ i w') (fun e w' h=>⟨h.1,a.t h.2⟩));have a1:=Zh (fun b (a:BQ i b)=>(As da _ dc sa _ sc ď ps _ b (E.B (f.t a)) (s.B (f.t a)) (B.B (f.t a)) n).M (R':=fun e w'=>e=ŗ (G _)/\BQ i w') (fun e w' h=>⟨h.1,a.t h.2⟩));have W:=Zh (fun b (a:BQ i b)=>vM _ ď b (t.B (f.t a)) (s.B (f.t a)) (ι n.nd) (fun d ao=>ι (n.ld d ao)));have ad:=Zh t;have ac:=Zh (fun b (a:BQ i b)=>MS da _ dc sa sc ď ps _ b (E.B (f.t a)) (t.B (f.t a)) (s.B (f.t a)) (B.B (f.t a)) n);have aG:=n.nd;have⟨az,aa⟩:=π A o;obtain⟨⟨F,K⟩,⟨aC,f1⟩,-⟩:=ν A;have ae:=Zh r.symm;clear t A o r;go_enter func55,ntmps55;go_wp2_with fail
 rw[ae.o];have aj:BQ i i.drew:=RZ.drew;go_region_held3 (fun b=>BQ i b/\b.cell? ⟨w.heap.size,0,O⟩=J (D da (L ď) dc)/\b.cell? ⟨w.heap.size,1,O⟩=J (D sa (L ps) sc))
  (first|exact⟨aj,F,K⟩|assumption|exact⟨Ϙ,ζ Ϙ F,ζ Ϙ K⟩)
  (first|(go_at_call 13;refine(Z.o _ Ϙ).M ?_;rintro e aH ⟨rfl,aF⟩)|(go_at_call 17;refine(a1.o _ Ϙ).M ?_;rintro e aI ⟨rfl,Q⟩))
 go_wp2_with fail
 refine(W.o _ Q).M ?_;rintro e ax ⟨af,av,ag,rfl,z,al⟩;have R:=Q.t al;have H:=Zh (ye af av ag _ ax z.1 z.rd (kv _) (by have M:=z.1;rw[hU]at M;omega) (ad.o.B (f.t R)));have X:Hid (Υ (ď.map ϴ)=ϡ ď):=rfl;rw[X.o]at H;go_wp2_with fail
 refine H.o.M ?_;rintro e j ⟨rfl,am⟩;have l:=R.t am;have S:=ζ l F;have l1:=ζ l K;generalize N:δ _=x at *;have Y:=Zh N;clear N;go_wp2_with fail
 refine ϯ (fun b=>BQ j b) 7 ϋ ?_;have k:BQ j j.drew:=RZ.drew;refine Zf 0 k ?_;refine Zk 1 k ?_ (hy:=by intro b a;have ah:=ζ a S;go_simp;try with_reducible rfl);refine Zf 2 k ?_;refine Zf 3 k ?_;refine Zk 4 k ?_ (hy:=by intro b a;have ah:=ζ a S;have aB:=ζ a l1;go_simp;try with_reducible rfl);refine Κ (fuel:=3) 5 ϋ rfl ?_;intro a0 ai;go_simp;have ak:BQ i j.drew:=l.drew;refine(ac.o _ ak).M ?_;rintro e ay ⟨p,q,rfl,ar,an⟩;have y:BQ j ay:=k.trans an;refine ai _ _ y ?_;try simp only[Act.put]
 refine Zf 6 y ?_;have P:=l.t y;have o:=θ aa.o P;obtain⟨⟨aA,d1,d2⟩,⟨aD,M,aE⟩,-⟩:=Β o;have⟨ab,T⟩:=π (jz o (G (L ď)) (š x) (D p (L ps) q)) (kY (f.t P) (gu _ 1) (G (L ď)) (š x) (D p (L ps) q));have V:=Zh (lU (Hi.own ar) (g:=w.heap.size+1) (by have:=l.size;show _<j.heap.size;omega) (G (L ď)) (š x) (D p (L ps) q));have ap:w.heap.size<=j.drew.heap.size:=by have:=l.size;show _<=j.heap.size;omega
 clear o;refine Ze 7 ?_;refine Ze 8 ?_;refine Zd ?_;go_wp2;refine Ω (v:=.tuple #[ā _,G 0]) (gz  (u:=3)  rfl _ _ _ _ _ _ _ rfl ab.o underlying123 rfl ϋ) rfl ⟨p,q,by rw[Y.o],V.o.M ap,T.o⟩
theorem IL {b:List Bool} {a:List (γ)} (j h1) (c:j<L a) (d:γ):lz (b.drop j) (a.drop j) d=lz (b.drop (j+1)) (a.drop (j+1)) (if b[j]then iR a[j] d else iR d a[j]):=by
 rw[lL h1,lL c];rfl
def Gm (j:γ) (i n) (f:List (γ)) (ao k c) (w:β) (R:L j=32) (hi:i<n) (ar:n<=1000000) (q:L f=k) (Y:L f=L (jK n i n)) (A:Rd w (D ao k c) k 1 (χ f)) (N:ϱ f) (av:Ϭ w) :
  Calls prog 83 #[š (δ j),G i,G n,D ao k c] w fun e w'=>e=ŗ (.tuple #[š (δ (lz (jK n i n) f j)),G 0])/\BQ w w':=by
 have y:=Qu i n w hi ar;unfold BK at y;obtain⟨h,au⟩:∃ h,jK n i n=h:=⟨_,rfl⟩;rw[au]at y Y ⊢;have ae:=Zh y;have ac:=Zh (fun M (al:BQ w M)=>Be ao k c f M q (A.B al) N);have aa:=Zh (fun a m=>sr A q a m);have a0:=Zh (fun a (m:a<L f)=>N _ (Ψ m));have aI:(δ j).size=32:=by rw[iG];exact R
 have aE:¬(n:Int)<1:=U;have aF:¬(1099511627776:Int)<(n:Int):=U;have aG:¬(i:Int)<0:=U;have aH:¬(n:Int)<=(i:Int):=U;have⟨ab,ag,ai⟩:=ϲ R q av;have aq:=A.2.1;unfold maxLen at aq;have o:Hid (L (h)=k):=Y.symm.trans q;go_enter func83,ntmps83;go_wp2_with fail
 refine ae.o.M ?_;rintro e F ⟨sa,aN,sc,rfl,⟨V,B⟩,P⟩;rw[qn,o.o]at V;subst V;have ah:Hid (∀ a (m:a<L (h)),∃ b off,sa=J ⟨b,off,O⟩/\k<=sc/\F.cell? ⟨b,off+(k - 1 - a),O⟩=J (.bool (h)[a])):=by
  intro a m;obtain⟨g,az,X⟩:=kO B (ι o.o);simp only[Χ,ϵ]at X;obtain⟨rfl,rfl⟩:=X;obtain⟨ak,-,-,-⟩:=vl B (k - 1 - a) U;refine⟨g,0,rfl,(oH B).1,?_⟩;rw[iI,ak];simp only[uE,jP,List.getElem?_reverse (l:=h) (i:=k - 1 - a) U];rw[show(L (h)) - 1 - (k - 1 - a)=a from U,Ρ m];rfl
 have⟨ad,a1⟩:=π (ac.o F P) P;go_wp2_with fail
 refine ad.o.M ?_;rintro e aO ⟨rfl,rfl⟩;go_wp2_with fail
 go_loopw [11,49] (fun aj E wr=>∃ (a:Nat) (d:γ),a<=k/\E=G (a:Int)/\aj=š (δ d)/\Hid (L d=32)/\Hid (lz (h.drop a) (f.drop a) d=lz h f j)/\BQ F wr) (fun _ E _=>k - (intOf E).toNat)
 .exact⟨0,j,Ζ _,rfl,rfl,ab.o,rfl,ρ _ _⟩
 obtain⟨a,d,m,rfl,rfl,H,Z,p⟩:=hrel;have x:BQ w wr:=a1.o.t p;by_cases aC:a<k
 .have S:a<L h:=ι o.o
  have z:a<L f:=ι ag.o;obtain⟨b,off,rfl,aD,ap⟩:=ah.o a S;obtain⟨b2,aM,rfl,an⟩:=aa.o a z;have l1:=ζ p ap;have l2:=ζ x an;have T:=a0.o a z;have W:=IL a S z d;rw[Z.o]at W;have I:=Zh W.symm;have aw:(a:Int)<(k:Int):=U;have aL:(0:Int)<=(a:Int):=U;have aA:IntKind.i64.wrap ((k:Int) - 1)=(k:Int) - 1:=Ϗ;have aB:IntKind.i64.wrap ((k:Int) - 1 - (a:Int))=((k - 1 - a:Nat):Int):=Ϗ;have aJ:k - 1 - a<k:=U;have aK:((k - 1 - a:Nat):Int)<(k:Int):=U;have K:=Zh (ai.o.B x);generalize h[a]=ax at *;generalize f[a]=r at *;cases ax with
  |true =>
   have s:=Zh (Bf r d wr T H.o K.o);have t:Hid (lz (h.drop (a+1)) (f.drop (a+1)) (iR r d)=lz h f j):=I.o;go_wp2_with fail
   refine s.o.M ?_;rintro e ay ⟨rfl,v⟩;have u:=p.t v;go_wp2;go_roundw
   .exact⟨ _,_,U,ϕ,rfl,iq _,t.o,u⟩
   exact ω
  |false =>
   have s:=Zh (Bf d r wr H.o T K.o);have t:Hid (lz (h.drop (a+1)) (f.drop (a+1)) (iR d r)=lz h f j):=I.o;go_wp2_with fail
   refine s.o.M ?_;rintro e ay ⟨rfl,v⟩;have u:=p.t v;go_wp2;go_roundw
   .exact⟨ _,_,U,ϕ,rfl,iq _,t.o,u⟩
   exact ω
 .have aw:¬(a:Int)<(k:Int):=U
  have Q:=Z.o;rw[sx (ι o.o)]at Q;have am:d=lz h f j:=by rw[<-Q];rfl
  have af:=Zh am;go_wp2;go_ret2;rw[<-af.o];exact⟨rfl,x⟩
