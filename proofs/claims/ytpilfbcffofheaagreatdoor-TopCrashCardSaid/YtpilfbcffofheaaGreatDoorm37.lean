/- Part 37 of the proof. -/
import Derived.Test.YtpilfbcffofheaaGreatDoorm36
set_option linter.unusedVariables false
set_option linter.unusedSimpArgs false
set_option maxRecDepth 100000
set_option maxHeartbeats 4000000
namespace Go.Proofs.YtpilfbcffofheaaGreatDoor
open Go.Proofs.Tryz Go.RowKit Go.Sort
open Value renaming slice->D,string->š,pointer->þ,agg->ā
open Obj renaming cells->C
open Ending renaming returned->ŗ
open Option renaming none->O,some->J
open List renaming length->L
open World renaming alloc->å,setCell->ŝ
theorem NM (T i:Nat) (t nx:γ) (j:ε) (d:Option Addr) (b f:Nat) (ds:γ) (w:β) (m:w.heap[T]?=J (C #[š (δ t)] 9 (0,0))) (l:w.heap[i]?=J (C #[IZ 0] 26 (0,0))) (o:L ds=b) (I:b<=4000) (p:Rd w (D d b f) b 1 (η ds)) (r:Ϡ w) :
  Calls prog 234 #[ā #[IZ 1,š (δ t),š (δ nx),š (δ (rK ds)),j,D d b f],þ (J ⟨T,0,O⟩),þ (J ⟨i,0,O⟩)] w fun e w'=>e=ŗ (.bool true)/\BQ w w':=by
 obtain⟨q,P,c⟩:=Ϻ (w:=w) (A:=C #[IZ 1,š (δ t),š (δ nx),š (δ (rK ds)),j,D d b f] 185) RZ;generalize n:å w (C #[IZ 1,š (δ t),š (δ nx),š (δ (rK ds)),j,D d b f] 185)=g at *;have z:=Zh n;have y:=Zx (fun a (h:BQ g a)=>(DS d b f ds a o ϊ ((p.below c).below h) ((r.below c).below h)).mono (fun e w' ⟨B,E⟩=>show e=_/\BQ g w' from⟨B,h.trans (E.mono h.size)⟩));obtain⟨⟨K,p1,p2,s,M,u⟩,-,-⟩:=fX q;obtain⟨v,-,-⟩:=gm (θ m c);obtain⟨k,-,-⟩:=gm (θ l c);generalize rK ds=H at *;clear m l o p r q n;go_enter func234,ntmps234;go_upto_region 1 with (fail)
 rw[z.o];have F:=(φ g.heap.size g).drew;go_region_held3 (fun a=>BQ g a/\a.cell? ⟨w.heap.size,1,O⟩=J (š (δ t))/\a.cell? ⟨w.heap.size,3,O⟩=J (š (δ H))/\a.cell? ⟨w.heap.size,5,O⟩=J (D d b f)/\a.cell? ⟨T,0,O⟩=J (š (δ t))/\a.cell? ⟨i,0,O⟩=J (IZ 0))
  (first|exact⟨F,p1,s,u,v,k⟩|assumption|exact⟨Ϙ,ζ Ϙ p1,ζ Ϙ s,ζ Ϙ u,ζ Ϙ v,ζ Ϙ k⟩)
  ((go_at_call 235;refine(y.o _ Ϙ).mono ?_;rintro e N ⟨rfl,G⟩))
 have x:=Zx (c.trans (G.mono c.size));go_wp2;go_ret;exact⟨rfl,x.o⟩
theorem NL (T p:Nat) (h t nx f:γ) (g:ε) (i:Option Addr) (k j:Nat) (w:β) (l:w.heap[T]?=J (C #[š (δ t)] 9 (0,0))) (y:¬h=t) :
  Calls prog 234 #[ā #[IZ 1,š (δ h),š (δ nx),š (δ f),g,D i k j],þ (J ⟨T,0,O⟩),þ (J ⟨p,0,O⟩)] w fun e w'=>e=ŗ (.bool false)/\BQ w w':=by
 obtain⟨n,H,d⟩:=Ϻ (w:=w) (A:=C #[IZ 1,š (δ h),š (δ nx),š (δ f),g,D i k j] 185) RZ;generalize m:å w (C #[IZ 1,š (δ h),š (δ nx),š (δ f),g,D i k j] 185)=c at *;have r:=Zh m;obtain⟨⟨z,p1,p2,B,E,F⟩,-,-⟩:=fX n;obtain⟨o,-,-⟩:=gm (θ l d);have b1:=hC t;have b2:=hC h;have G:(h==t)=false:=gl.2 y;clear l n m;go_enter func234,ntmps234;go_upto_region 1 with (fail)
 rw[r.o];have a:=(φ c.heap.size c).drew;refine ϸ (fun s=>BQ c s) 17 ϋ ?_;refine Zf 0 a ?_;refine Zf 1 a ?_;refine Zb 2 [4,5,8,9,17] a ?_ (hy:=by intro u b;have v:=ζ b p1;have x:=ζ b o;go_simp;try with_reducible rfl);refine Zb 3 [4,5,8,9,17] a ?_ (hy:=by intro u b;have v:=ζ b p1;have x:=ζ b o;go_simp;try with_reducible rfl);refine Zf 4 a ?_;refine Zf 5 a ?_;refine Zs 6 a ?_;refine Zs 7 a ?_;refine Zf 8 a ?_;refine Zf 9 a ?_;refine Zs 10 a ?_;refine Zs 11 a ?_;refine Zs 12 a ?_;refine Zs 13 a ?_;refine Zs 14 a ?_;refine Zs 15 a ?_;refine Zs 16 a ?_;refine Zl ?_;try simp only[Zp]
 refine Ze 18 ?_;refine Zd ?_;have q:=Zx (d.trans (a.mono d.size));go_wp2;go_ret;exact⟨rfl,q.o⟩
theorem NN (T:Nat) (h t nx f:γ) (g:ε) (i:Option Addr) (j:Nat) (w:β) (k:w.heap[T]?=J (C #[š (δ t)] 9 (0,0))) (l:ltStr h t=true) (c:nx=[]) :
  Calls prog 236 #[ā #[IZ 1,š (δ h),š (δ nx),š (δ f),g,D i 0 j],þ (J ⟨T,0,O⟩)] w fun e w'=>e=ŗ (.bool true)/\BQ w w':=by
 obtain⟨m,G,d⟩:=Ϻ (w:=w) (A:=C #[IZ 1,š (δ h),š (δ nx),š (δ f),g,D i 0 j] 185) RZ;obtain⟨⟨q,p1,p2,r,s,u⟩,-,-⟩:=fX m;obtain⟨F,-,-⟩:=gm (θ k d);have b1:=hC t;have b2:=hC h;have v:Op.bytesLess h t=true:=by rw[<-b1,<-b2,qy];exact l
 have n:ltStr t nx=false:=by rw[c];cases t<;>rfl
 have b3:=hC nx;have x:Op.bytesLess t nx=false:=by rw[<-b1,<-b3,qy];exact n
 have E:Op.bytesLess nx t=true:=by
  rw[<-b1,<-b3,qy,c];cases t with
  |nil=>cases h<;>simp[ltStr]at l
  |cons a b=>rfl
 have y:(nx==([]:γ))=true:=by rw[c];rfl
 have z:(ByteArray.mk #[]).toList=([]:γ):=by rw[wZ]
 have B:ByteArray.empty.toList=([]:γ):=by rw[wZ];rfl
 have o:=Zx d;clear k m d n c;go_enter func236,ntmps236;go_upto_region 1 with (fail)
 generalize å w (C #[IZ 1,š (δ h),š (δ nx),š (δ f),g,D i 0 j] 185)=p at *;go_wp2;go_ret;exact⟨rfl,o.o⟩
def FK (t:γ) (b:List Int) (i:Int) (w:β) (e:Ending) (w':β):Prop:= ∃ d f g a c,e=ŗ (D (J ⟨g,0,O⟩) 2 2)/\w'.heap[d]?=J (C #[š (δ t)] 9 (0,0))/\w'.heap[f]?=J (C #[IZ i] 26 (0,0))/\w'.heap[g]?=J (C #[.func (.func 234) #[] #[þ (J ⟨d,0,O⟩),þ (J ⟨f,0,O⟩)],D a (L b) c,.func (.func 236) #[] #[þ (J ⟨d,0,O⟩)],D O 0 0] 283 (0,0))/\Hi w.heap.size w' (fun h=>Rd h (D a (L b) c) (L b) 1 (τ b))/\Below w.heap.size w w'
theorem Nt (t h nx n:γ) (o:ε) (i:Option Addr) (k j:Nat) (b:List Int) (l:Int) (w:β) (v:∀ f,BQ w f->Calls prog 233 #[D i k j] f (fun e w'=>∃ a c,e=ŗ (.tuple #[D a (L b) c,IZ l])/\Hi f.heap.size w' (fun F=>Rd F (D a (L b) c) (L b) 1 (τ b))/\BQ f w')) :
  Calls prog 179 #[š (δ t),ā #[IZ 1,š (δ h),š (δ nx),š (δ n),o,D i k j]] w (FK t b l w):=by
 obtain⟨u,s,P,N,d⟩:=fU (w:=w) (A:=C #[š (δ t)] 9) (Z:=C #[IZ 1,š (δ h),š (δ nx),š (δ n),o,D i k j] 185) RZ;have q:=Zx (v _ d);obtain⟨⟨G,p1,p2,H,I,K⟩,-,-⟩:=fX s;clear v s;go_enter func179,ntmps179;go_upto_region 1 with (fail)
 generalize å (å w (C #[š (δ t)] 9)) (C #[IZ 1,š (δ h),š (δ nx),š (δ n),o,D i k j] 185)=M at *;go_wp2_with fail
 refine q.o.mono ?_;rintro e x ⟨a,c,rfl,r,m⟩;have z:=Zx r;have p:=Zx (d.trans (m.mono d.size));have B:=Zx (θ u m);have E:=Zx d.size;clear r m u d G p1 p2 H I K q;go_wp2_with fail
 obtain⟨r1,r2,-,-,g⟩:=fU (w:=x) (A:=C #[IZ l] 26) (Z:=C #[.func (.func 234) #[] #[þ (J ⟨w.heap.size,0,O⟩),þ (J ⟨x.heap.size,0,O⟩)],D a (L b) c,.func (.func 236) #[] #[þ (J ⟨w.heap.size,0,O⟩)],D O 0 0] 283) RZ;have y:=Zx (Γ (θ B.o g) (Γ r1 (Γ r2 (Γ ((z.o.mono E.o).below g) (p.o.trans (g.mono p.o.size))))));clear r1 r2 g;go_ret;exact⟨_,_,_,a,c,rfl,y.o⟩
theorem pA:∀ (f:Nat) (l:List (γ)) (i:Nat),ϭ l->ϭ (gG f l i)
 |0,l,i,h=>fun d hd=>by simp[gG]at hd
 |f+1,l,i,h=>by
  have a:ϭ (l.take (Κ (L l))):=fun d hd=>h d (ni hd);have b:ϭ (l.drop (Κ (L l))):=fun d hd=>h d (su hd);intro d hd;unfold gG at hd;split at hd
  .cases hd
  .split at hd
   .rcases mg.1 hd with hd|hd
    .exact pA f _ _ a d hd
    .rw[jW.1 hd];exact nF b
   .rcases mg.1 hd with hd|hd
    .exact pA f _ _ b d hd
    .rw[jW.1 hd];exact nF a
theorem Le (s:Option Addr) (t:Nat) (xs:Option Addr) (y:Nat) (docs:List (γ)) (ps:List (Nat×Nat)) (i:Nat) (w:β) (az:Ϩ w) (H:Ϡ w) (I:Δ w (D s (L docs) t) docs) (aA:ϧ docs w (D xs (L ps) y) ps) (q:ϵ docs ps (L docs)) (hi:i<L docs) (bc:L docs<=64) :
  Calls prog 42 #[ā #[D s (L docs) t,D xs (L ps) y],IZ i] w (lP (mA docs ps i docs[i] (gG (L docs) (docs.map ϩ) i)) w):=by
 have aZ:=(pB (L docs) (docs.map ϩ) i).2;have ag:=Zx (fun f (a:BQ w f)=>rm s t xs y docs ps _ f (az.below a) (H.below a) (I.below a) (aA.below a) q rfl);have ae:=Zx (fun f (a:BQ w f)=>ue (D s (L docs) t) docs f (H.below a) (I.below a) ϊ (fun d aW=>by have:=q.ld d aW;omega));have ai:=Zx (fun P n c aL f (a:BQ w f) (h:fZ aL f (D P n c) n (docs.map ϩ))=>show Calls prog 78 #[D P n c,IZ i] f (uC (gG (L docs) (docs.map ϩ) i) f)by
  have av:=h.1
  rw[io]at av
  subst av
  exact EI P (L docs) c (docs.map ϩ) i f h.1 h.rd (kQ _) hi ϊ (H.below a))
 have al:=Zx (fun aK aI aJ aB M pc f (m:Rd f aK (L ps) 4 (Ϸ docs ps)) (aX:Rd f (D aI (L docs[i]) aJ) (L docs[i]) 1 (η docs[i])) (aY:L (gG (L docs) (docs.map ϩ) i)=M) (a0:Rd f (D aB M pc) M 1 (σ (gG (L docs) (docs.map ϩ) i)))=>Ol aK i aI (L docs[i]) aJ docs[i] aB M pc docs ps _ f m q ϊ rfl (q.ld _ (Χ hi)) aX aY ϊ (pA _ _ _ (kQ _)) a0);have ab:=Zx (fun f (a:BQ w f)=>nS (I.below a) rfl i hi);have be:¬(i:Int)<0:=ϊ;have bf:¬(L docs:Int)<=(i:Int):=ϊ;have bg:(i:Int)<(L docs:Int):=ϊ;have bh:(0:Int)<=(i:Int):=ϊ;have bd:L docs<=1000:=q.nd;clear az H I aA q aZ;generalize gG (L docs) (docs.map ϩ) i=a5 at *;generalize Ϸ docs ps=ba at *;generalize docs[i]=aM at *;generalize mA docs ps i aM a5=a9 at *;generalize ϣ docs=B at *;generalize (L docs)=r at *;generalize (L ps)=k at *;obtain⟨W,bj,v⟩:=Ϻ (w:=w) (A:=C #[D s r t,D xs k y] 44) RZ;go_enter func42,ntmps42;go_upto_region 1 with (fail)
 generalize å w (C #[D s r t,D xs k y] 44)=bb at *;obtain⟨⟨j,x⟩,-,-⟩:=ι W;have ac:=Zx (ag.o _ v);go_wp2_with fail
 refine ac.o.mono ?_;rintro e Y ⟨u,c1,rfl,ar,Q⟩;clear ac;have ay:=χ Y (C #[IZ r,š (δ B),D u k c1] 123);have R:=Q.alloc Q.size (C #[IZ r,š (δ B),D u k c1] 123);have au:=(ar.alloc (C #[IZ r,š (δ B),D u k c1] 123)).mono v.size;have X:=θ W R;have T:=v.trans (R.mono v.size);clear j x W Q R ar v;go_upto_region 4 with (fail)
 generalize å Y (C #[IZ r,š (δ B),D u k c1] 123)=aQ at *;generalize Y.heap.size=a8 at *;obtain⟨⟨j,x⟩,-,-⟩:=ι X;have ak:=Zx X;have aj:=Zx ay;have ad:=Zx au;have z:=Zx T;have af:=Zx (ae.o aQ T);clear X ay au T ae ag;go_wp2_with fail
 refine af.o.mono ?_;rintro e a6 ⟨aR,a3,c2,rfl,aw,S⟩;have aq:=z.o.trans (S.mono z.o.size);have ah:=Zx (ai.o aR a3 c2 _ a6 aq aw);have aa:=Zx S;clear aw S af ai;go_wp2_with fail
 refine ah.o.mono ?_;rintro e l ⟨aS,a2,aU,rfl,V,ao⟩;have p:=aa.o.trans (ao.mono aa.o.size);have U:=z.o.trans (p.mono z.o.size);have am:=θ ak.o p;have Z:=θ aj.o p;obtain⟨b,off,da,dc,rfl,bi,a1,E,aH⟩:=ab.o l U;unfold maxLen at a1;have aO:=Zx (fun f (a:BQ l f)=>al.o (D u k c1) da dc aS a2 aU f ((ad.o.below (p.trans (a.mono p.size))).now) (aH.below a) V.1 (V.rd.below a));have N:=Zx U;clear j x V ao p aq U ah al ad aH ab ak aj;obtain⟨⟨j,x⟩,-,-⟩:=ι am;obtain⟨⟨F,m,G⟩,-,-⟩:=Β Z;clear am Z;go_upto_region 9 with (fail)
 have g:BQ l l.drew:=RZ.drew;refine ϸ (fun aP=>BQ l aP) 9 ϋ ?_;refine Zb 0 [8,9] g ?_ (hy:=by intro f a;have aC:=ζ a j;have aD:=ζ a F;have aE:=ζ a m;have aF:=ζ a G;have aG:=ζ a E;go_simp;try with_reducible rfl);refine Zf 1 g ?_;refine Zf 2 g ?_;refine Zb 3 [5,6,8,9] g ?_ (hy:=by intro f a;have aC:=ζ a j;have aD:=ζ a F;have aE:=ζ a m;have aF:=ζ a G;have aG:=ζ a E;go_simp;try with_reducible rfl);refine Zf 4 g ?_;refine Zf 5 g ?_;refine Zb 6 [8,9] g ?_ (hy:=by intro f a;have aC:=ζ a j;have aD:=ζ a F;have aE:=ζ a m;have aF:=ζ a G;have aG:=ζ a E;go_simp;try with_reducible rfl);refine Zf 7 g ?_;refine Zf 8 g ?_;refine jp (fuel:=4) ϋ ϋ rfl ?_;intro K an;go_simp;refine(aO.o _ g).mono ?_;rintro e a7 ⟨aT,a4,aV,rfl,ax,ap⟩;refine an _ _ ?_;clear an K;try simp only[Zp]
 have o:BQ l a7:=g.trans ap;refine Zf (oi:=⟨J 46,_,_,_,_,_⟩) 10 o ?_;refine Zf (oi:=⟨J 47,_,_,_,_,_⟩) 11 o ?_;refine Zf (oi:=⟨J 4,_,_,_,_,_⟩) 12 o ?_;refine Zf (oi:=⟨J 5,_,_,_,_,_⟩) 13 o ?_;refine Zd ?_;have aN:=Zx (Γ (ax.mono (show w.heap.size<=l.drew.heap.size from N.o.size)) (N.o.trans (o.mono N.o.size)));clear ax ap g o j x F m G E;go_wp2;go_ret2;exact⟨aT,a4,aV,rfl,aN.o⟩
structure nn (P lo:Nat) (cs:Obj) (w1:β) (X:β->Prop) (W:β):Prop where
 s:W.heap[P]?=J cs
 b:BQ w1 W
 x:Hi lo W X
 z:P<lo/\lo<=W.heap.size/\w1.heap.size<=P
theorem nn.below {P lo:Nat} {d:Obj} {w1:β} {X:β->Prop} {c b:β} (h:nn P lo d w1 X c) (a:BQ c b):nn P lo d w1 X b:=
 ⟨θ h.s a,h.b.trans (a.mono h.b.size),h.x.below a,⟨h.z.1,by have:=a.size;have:=h.z;omega,h.z.2.2⟩⟩
theorem nn.set {P lo:Nat} {c b:Obj} {w1:β} {X:β->Prop} {a:β} (h:nn P lo c w1 X a) (k:Nat) (y:ε) (d:(ŝ a ⟨P,k,O⟩ y).heap[P]?=J b):nn P lo b w1 X (ŝ a ⟨P,k,O⟩ y):=
 ⟨d,h.b.setCell h.z.2.2 y,h.x.set h.z.1 y,⟨h.z.1,by simpa using h.z.2.1,h.z.2.2⟩⟩
theorem nn.add {P lo b:Nat} {d:Obj} {w1:β} {X Y:β->Prop} {a:β} (h:nn P lo d w1 X a) (hy:Hi b a Y) (e:lo<=b):nn P lo d w1 (fun c=>X c/\Y c) a:=⟨h.s,h.b,h.x.and (hy.mono e),h.z⟩
def gx (h:γ) (l:List Int):List (γ):=gG 2 ((iM [(h,l)]).map ϩ) 1
def qZ (h nx:γ) (l:List Int) (ds:γ) (w:β) (e:Ending) (w':β):Prop:= ∃ c a pc d b f,e=ŗ (.tuple #[ā #[IZ 1,š (δ h),š (δ nx),š (δ (Ω l)),D c a pc,D d b f],IZ 0])/\L (gx h l)=a/\L ds=b/\Hi w.heap.size w' (fun g=>Rd g (D c a pc) a 1 (σ (gx h l))/\Rd g (D d b f) b 1 (η ds))/\Below w.heap.size w w'
theorem EC (v:ε) (h nx t:γ) (l:List Int) (W:Bool) (w:β) (aM:nx=[]) (ak:decide (h=t)=W) (ab:Ϩ w) (aQ:Ϡ w) (aj:fY w v 1 [(h,l)]) (R:iq [(h,l)]=true) (bh:L h<=64) (bC:L l<=100000) (bn:it t=true) (bW:L t<=64) (bj:ltStr t h=false) :
  Calls prog 99 #[v,š (δ t)] w (qZ h nx l (if W then gr l else[]) w):=by
 have ac:∀ e∈[(h,l)],L e.1<=64:=fun e Z=>by rw[jW.1 Z];exact bh
 have aR:∀ e∈[(h,l)],L e.1<=100000:=fun e Z=>by have:=ac e Z;omega
 have aK:∀ e∈[(h,l)],ltStr t e.1=false:=fun e Z=>by rw[jW.1 Z];exact bj
 have bl:fT l=true:=(yc R ac 1).1;have aX:=Zx (fun f (g:BQ w f)=>BA v 1 [(h,l)] f (aQ.below g) (ab.below g) (aj.below g) R ac ϊ);have ax:=Zx (fun f (g:BQ w f)=>wB t f (ab.below g) ϊ);rw[bn]at ax;have ar:=Zx (fun f (g:BQ w f)=>Bz v 0 [(h,l)] t f (ab.below g) (aj.below g) aR R aK);have bg:decide ((([(h,l)]:List υ).getD 0 ([],[])).1=t)=W:=ak;rw[bg]at ar;have a0:=Zx (fun a n c f (al:L (gj h nx (Ω l))=n) (aa:Rd f (D a n c) n 1 (η (gj h nx (Ω l))))=>DC a n c h nx (Ω l) f al aa bh (by rw[aM];simp) (hO _));have aH:L (iM [(h,l)])=2:=qz _;have a4:(iM [(h,l)])[1]?=J (gj h nx (Ω l)):=by rw[aM];rfl
 have aY:=Zx (fun aF f (aP:Ϡ f) (aa:Δ f aF (iM [(h,l)]))=>ue aF (iM [(h,l)]) f aP aa ϊ (fun d be=>by
  unfold iM mw at be
  obtain⟨bD,-,rfl⟩:=hI.1 be
  have:=CK R ac bD
  omega))
 have aZ:=Zx (fun aD n c br f (aP:Ϡ f) (aG:fZ br f (D aD n c) n ((iM [(h,l)]).map ϩ))=>show Calls prog 78 #[D aD n c,IZ 1] f (uC (gx h l) f)by
  have al:=aG.1
  rw[io,aH]at al
  subst al
  exact EI aD 2 c ((iM [(h,l)]).map ϩ) 1 f aG.1 aG.rd (kQ _) ϊ ϊ aP)
 have ap:=Zx (fun(e:W=true) f (g:BQ w f)=>show Calls prog 174 #[v,š (δ t)] f (Ah l f)from Hw v 0 [(h,l)] t l f (ab.below g) (aj.below g) aR R aK (by rw[e]at ak;rw[of_decide_eq_true ak];rfl) bC);have au:=Zx (fun a c f (aa:Rd f (D a (L l) c) (L l) 1 (τ l))=>Dr (D a (L l) c) (L l) l f rfl aa bl);have a1:=Zx (fun f (g:BQ w f)=>aQ.below g);obtain⟨bm,b0,ai⟩:=Ϻ (w:=w) (A:=C #[IZ 0,š ⟨#[]⟩,š ⟨#[]⟩,š ⟨#[]⟩,D O 0 0,D O 0 0] 185) RZ;unfold qZ;generalize gx h l=bZ at *;generalize iM [(h,l)]=bt at *;have V:=Zx aH;have aW:=Zx a4;clear ac aR aK ab aQ aj R bn bj ak bg aH a4 bl aM;go_enter func99,ntmps99;go_upto_region 1 with (fail)
 generalize å w (C #[IZ 0,š ⟨#[]⟩,š ⟨#[]⟩,š ⟨#[]⟩,D O 0 0,D O 0 0] 185)=bv at *;go_wp2_with fail
 refine(aX.o bv ai).mono ?_;rintro e S ⟨aF,rfl,aJ,aI⟩;obtain⟨bX,bY,bf,-,-⟩:=ny aJ.now;rw[V.o]at bf;subst bf;have bd:=ai.trans (aI.mono ai.size);have av:=Zx (θ bm aI);have aq:=Zx (fun f (g:BQ S f)=>(aJ.below g).now);have m:=Zx bd;have bo:w.heap.size<S.heap.size:=ο av.o;clear aJ aI bm ai bd aX;go_wp2_with fail
 refine(ax.o S m.o).mono ?_;rintro e bN ⟨rfl,a6⟩;have ad:=Zx a6;clear a6 ax;go_wp2_with fail
 refine(ar.o bN (m.o.trans (ad.o.mono m.o.size))).mono ?_;rintro e T ⟨rfl,a7⟩;have aS:=Zx (ad.o.trans (a7.mono ad.o.size));have bp:=aS.o.size;clear a7 ad ar;go_upto_region 6 with (fail)
 have a5:=χ T (C #[IZ 1,š ⟨#[]⟩,š ⟨#[]⟩,š ⟨#[]⟩,D O 0 0,D O 0 0] 185);have ae:Ϭ (nn T.heap.size (T.heap.size+1) _ S (fun _=>True) (å T (C #[IZ 1,š ⟨#[]⟩,š ⟨#[]⟩,š ⟨#[]⟩,D O 0 0,D O 0 0] 185))):=⟨⟨a5,aS.o.alloc bp _,fun _ _=>trivial,⟨ϊ,ύ,bp⟩⟩⟩;clear a5;generalize å T (C #[IZ 1,š ⟨#[]⟩,š ⟨#[]⟩,š ⟨#[]⟩,D O 0 0,D O 0 0] 185)=a2 at *;generalize T.heap.size=B at *;obtain⟨b,off,da,dc,rfl,bE,bq,aE,am⟩:=nS (aq.o a2 ae.o.b) V.o 1 (by have:=V.o;omega);have a3:bt[1]'(by have:=V.o;omega)=gj h nx (Ω l):=by
  have:=aW.o;rw[Ρ (by have:=V.o;omega)]at this;exact kF this
 rw[a3]at aE am;obtain⟨bF,aL⟩:∃ n,L (gj h nx (Ω l))=n:=⟨_,rfl⟩;rw[aL]at aE am;have U:=Zx (a0.o da bF dc a2 aL am);obtain⟨⟨q,r,s,x,y,z⟩,H,N⟩:=fX ae.o.s;unfold maxLen at bq;clear am a3 aL a0 aW;go_wp2_with fail
 refine U.o.mono ?_;rintro e bO ⟨rfl,a8⟩;have af:=ae.o.below a8;have aA:=af.set 1 (š (δ h)) (kU af.s _).2.1;have aB:=aA.set 2 (š (δ nx)) (kU aA.s _).2.2.1;have aU:=Zx (aB.set 3 (š (δ (Ω l))) (kU aB.s _).2.2.2.1);clear q r s x y z H N a8 ae U aE bE bq;obtain⟨⟨q,r,s,x,y,z⟩,H,N⟩:=fX af.s;clear af aA aB;go_upto_region 7 with (fail)
 generalize ŝ (ŝ (ŝ bO ⟨B,1,O⟩ (š (δ h))) ⟨B,2,O⟩ (š (δ nx))) ⟨B,3,O⟩ (š (δ (Ω l)))=bU at *;clear q r s x y z H N;have G:=aU.o.below (RZ.drew);have ay:=Zx (fun f (g:BQ S f)=>a1.o f (m.o.trans (g.mono m.o.size)));refine ϸ (fun aC=>nn B (B+1) (C #[IZ 1,š (δ h),š (δ nx),š (δ (Ω l)),D O 0 0,D O 0 0] 185 (0,0)) S (fun _=>True) aC) 4 ϋ ?_;refine Zf 0 G ?_;refine Zf 2 G ?_;refine Zk 3 G ?_ (hy:=by intro f g;obtain⟨⟨q,-,-,-,-,-⟩,-,-⟩:=fX g.s;go_simp;try with_reducible rfl);refine Ψ (fuel:=6) 1 ϋ rfl ?_;intro K X;go_simp;refine(aY.o _ _ (ay.o _ G.b) (aq.o _ G.b)).mono ?_;rintro e bP ⟨bw,bG,bz,rfl,bk,a9⟩;have Y:=G.below a9;refine X _ _ Y ?_;clear X K;try simp only[Zp]
 refine jp (fuel:=5) ϋ ϋ rfl ?_;intro K X;go_simp;refine(aZ.o bw bG bz _ bP (ay.o _ Y.b) bk).mono ?_;rintro e bQ ⟨i,k,j,rfl,aN,ba⟩;refine X _ _ ?_;clear X K;try simp only[Zp]
 have Q:=Y.below ba;refine Zf 5 Q ?_;refine Zf 6 Q ?_;refine Zf 7 Q ?_;refine Zf 8 Q ?_;have ag:=Q.add (Hi.own aN.2) Y.z.2.1;have aV:=Zx aN.1;have P:=Zx (ag.set 4 (D i k j) (kU ag.s _).2.2.2.2.1);obtain⟨⟨q,r,s,x,y,z⟩,H,N⟩:=fX ag.s;refine Ze 9 ?_;refine Zd ?_;generalize ŝ bQ ⟨B,4,O⟩ (D i k j)=bu at *;clear q r s x y z H N ag G Y Q bk aN a9 ba aU aY aZ aq ay a1;cases W with
 |true =>
  have U:=Zx (ap.o rfl bu (m.o.trans (P.o.b.mono m.o.size)));clear ap;go_wp2_with fail
  refine U.o.mono ?_;rintro e bR ⟨bx,bA,rfl,bi,bb⟩;have aT:=Zx (au.o bx bA bR bi.now);have an:=Zx bb;clear bi bb U au;go_wp2_with fail
  refine aT.o.mono ?_;rintro e bS ⟨E,M,F,rfl,aO,bc⟩;have ah:=((P.o.below an.o).below bc).add aO.hi (by have:=P.o.z.2.1;have:=an.o.size;omega);have o:=Zx (ah.set 5 (D E M F) (kU ah.s _).2.2.2.2.2);have bs:=Zx aO.1;obtain⟨⟨q,r,s,x,y,z⟩,H,N⟩:=fX ah.s;clear aO bc aT an ah P;go_upto_region 10 with (fail)
  generalize ŝ bS ⟨B,5,O⟩ (D E M F)=bV at *;clear q r s x y z H N;have I:=(o.o.b.block _ bo).trans av.o;have aw:=Zx (DO I (IZ 1) (š (δ h)) (š (δ nx)) (š (δ (Ω l))) (D i k j) (D E M F));have ao:=Zx (AI (m.o.trans (o.o.b.mono m.o.size)) (Nat.le_refl w.heap.size) (IZ 1) (š (δ h)) (š (δ nx)) (š (δ (Ω l))) (D i k j) (D E M F));have az:=Zx ((((((((o.o.x.mono (lo':=w.heap.size+1) (by have:=o.o.z;omega)).set (p:=⟨w.heap.size,0,O⟩) (mF _) (IZ 1)).set (p:=⟨w.heap.size,1,O⟩) (mF _) (š (δ h))).set (p:=⟨w.heap.size,2,O⟩) (mF _) (š (δ nx))).set (p:=⟨w.heap.size,3,O⟩) (mF _) (š (δ (Ω l)))).set (p:=⟨w.heap.size,4,O⟩) (mF _) (D i k j)).set (p:=⟨w.heap.size,5,O⟩) (mF _) (D E M F)));obtain⟨⟨q,r,s,x,y,z⟩,-,-⟩:=fX o.o.s;obtain⟨⟨bH,bI,bJ,bK,bL,bM⟩,bB,bT⟩:=fX I;clear I;go_wp2;refine ϟ (v:=.tuple #[ā #[IZ 1,š (δ h),š (δ nx),š (δ (Ω l)),D i k j,D E M F],IZ 0]) (gf (p:=4) (u:=5) (ty:=185) rfl _ _ w.heap.size 185 _ (0,0) _ rfl aw.o underlying185 rfl ϋ) rfl ?_;exact⟨i,k,j,E,M,F,rfl,aV.o,bs.o,(az.o.imp fun aC h=>⟨h.1.2,h.2⟩).mono ϊ,ao.o⟩
 |false =>
  have o:=P;clear ap au P;go_upto_region 10 with (fail)
  have I:=(o.o.b.block _ bo).trans av.o;have aw:=Zx (DO I (IZ 1) (š (δ h)) (š (δ nx)) (š (δ (Ω l))) (D i k j) (D O 0 0));have ao:=Zx (AI (m.o.trans (o.o.b.mono m.o.size)) (Nat.le_refl w.heap.size) (IZ 1) (š (δ h)) (š (δ nx)) (š (δ (Ω l))) (D i k j) (D O 0 0));have az:=Zx ((((((((o.o.x.mono (lo':=w.heap.size+1) (by have:=o.o.z;omega)).set (p:=⟨w.heap.size,0,O⟩) (mF _) (IZ 1)).set (p:=⟨w.heap.size,1,O⟩) (mF _) (š (δ h))).set (p:=⟨w.heap.size,2,O⟩) (mF _) (š (δ nx))).set (p:=⟨w.heap.size,3,O⟩) (mF _) (š (δ (Ω l)))).set (p:=⟨w.heap.size,4,O⟩) (mF _) (D i k j)).set (p:=⟨w.heap.size,5,O⟩) (mF _) (D O 0 0)));obtain⟨⟨q,r,s,x,y,z⟩,-,-⟩:=fX o.o.s;obtain⟨⟨bH,bI,bJ,bK,bL,bM⟩,bB,bT⟩:=fX I;clear I;go_wp2;clear h;refine ϟ (v:=.tuple #[ā #[IZ 1,š (δ h),š (δ nx),š (δ (Ω l)),D i k j,D O 0 0],IZ 0]) (gf (p:=4) (u:=5) (ty:=185) rfl _ _ w.heap.size 185 _ (0,0) _ rfl aw.o underlying185 rfl ϋ) rfl ?_;exact⟨i,k,j,O,0,0,rfl,aV.o,rfl,(az.o.imp fun aC h=>⟨h.2,pC _ _⟩).mono ϊ,ao.o⟩
def qY (b:List Int) (w:β) (e:Ending) (w':β):Prop:= ∃ a c,e=ŗ (.tuple #[D a (L b) c,IZ 0])/\Hi w.heap.size w' (fun d=>Rd d (D a (L b) c) (L b) 1 (τ b))/\Below w.heap.size w w'
theorem KA (h nx:γ) (l:List Int) (a:nx=[]):kN (jh 2 1 2) (gx h l) (ϩ (gj h nx (Ω l)))=hV [(h,l)]:=by
 subst a;have:=vI 2 ((iM [(h,l)]).map ϩ) 1 (by rw[io,qz];simp) (by rw[io,qz];simp);rw[io,qz]at this;exact this
theorem yS (h:γ) (l:List Int):L (gx h l)=L (jh 2 1 2)/\L (gx h l)<=2:=by
 have:=pB 2 ((iM [(h,l)]).map ϩ) 1;rw[io,qz]at this;exact this
theorem Ns (h nx t:γ) (l:List Int) (g:Bool) (z:Option Addr) (k pc:Nat) (B:Option Addr) (v E:Nat) (ds:γ) (w:β) (af:nx=[]) (ae:decide (h=t)=g) (a1:Ϩ w) (am:Ϡ w) (aA:L h<=64) (a0:it t=true) (bk:L t<=64) (aB:g=false->ltStr h t=true/\v=0) (aR:g=true->ds=gr l) (aU:L (gx h l)=k) (aP:L ds=v) (aV:v<=4000) (aY:Rd w (D z k pc) k 1 (σ (gx h l))) (aQ:Rd w (D B v E) v 1 (η ds))
  (aZ:∀ b,BQ w b->Calls prog 233 #[D B v E] b (fun e w'=>∃ a c,e=ŗ (.tuple #[D a (L (if g then l else[])) c,IZ (if g then 0 else 4)])/\Hi b.heap.size w' (fun F=>Rd F (D a (L (if g then l else[])) c) (L (if g then l else[])) 1 (τ (if g then l else[])))/\BQ b w')) :
  Calls prog 104 #[š (δ (hV [(h,l)])),IZ 2,š (δ t),ā #[IZ 1,š (δ h),š (δ nx),š (δ (Ω l)),D z k pc,D B v E]] w (qY (if g then l else[]) w):=by
 obtain⟨aC,bz,S⟩:=Ϻ (w:=w) (A:=C #[IZ 1,š (δ h),š (δ nx),š (δ (Ω l)),D z k pc,D B v E] 185) RZ;obtain⟨aX,bf⟩:=yS h l;have ar:=Zx (wB t _ (a1.below S) ϊ);rw[a0]at ar;have aI:=Zx (fun b=>rk h nx (Ω l) b aA (by rw[af];simp) (hO _));have bd:=vu (t:=h) (nx:=nx) (d:=Ω l) aA (by rw[af];simp) (hO _);have aG:=Zx (fun a n c b (p:BQ w b) (be:L (gj h nx (Ω l))=n) (bg:Rd b (D a n c) n 1 (η (gj h nx (Ω l))))=>zm a n c (gj h nx (Ω l)) b be ϊ bg (am.below p));have ag:=Zx (fun b (p:BQ w b)=>EH (ϩ (gj h nx (Ω l))) 1 2 (gx h l) z k pc b (hO _) ϊ ϊ aU aX (aY.below p) (pA _ _ _ (kQ _)) (am.below p));rw[KA h nx l af]at ag;have aK:((1:Nat):Int)=1:=ϊ;have aL:((2:Nat):Int)=2:=ϊ;rw[aK,aL]at ag;have aJ:=Zx (fun b (p:BQ w b)=>Nt t h nx (Ω l) (D z k pc) B v E (if g then l else[]) (if g then 0 else 4) b (fun F bb=>aZ F (p.trans (bb.mono p.size))));have ai:=Zx (fun(j:g=true) i x b (p:BQ w b) (ab:b.heap[i]?=J (C #[š (δ t)] 9 (0,0))) (Y:b.heap[x]?=J (C #[IZ 0] 26 (0,0)))=>show Calls prog 234 #[ā #[IZ 1,š (δ h),š (δ nx),š (δ (Ω l)),D z k pc,D B v E],þ (J ⟨i,0,O⟩),þ (J ⟨x,0,O⟩)] b (fun e w'=>e=ŗ (.bool true)/\BQ b w')by
  rw[j]at ae
  have bj:=of_decide_eq_true ae
  subst bj
  have:=NM i x h nx (D z k pc) B v E ds b ab Y aP aV (aQ.below p) (am.below p)
  rw[aR j]at this
  exact this)
 have aj:=Zx (fun(j:g=false) i x b (ab:b.heap[i]?=J (C #[š (δ t)] 9 (0,0)))=>NL i x h t nx (Ω l) (D z k pc) B v E b ab (by rw[j]at ae;exact of_decide_eq_false ae));have ak:=Zx (fun(j:g=false) i b (ab:b.heap[i]?=J (C #[š (δ t)] 9 (0,0)))=>show Calls prog 236 #[ā #[IZ 1,š (δ h),š (δ nx),š (δ (Ω l)),D z k pc,D B v E],þ (J ⟨i,0,O⟩)] b (fun e w'=>e=ŗ (.bool true)/\BQ b w')by
  have:=NN i h t nx (Ω l) (D z k pc) B E b ab (aB j).1 af
  rw[(aB j).2]
  exact this)
 have a5:=Zx (fun(j:g=false)=>show(if g then l else[])=([]:List Int)by rw[j];rfl);have a4:=Zx (fun(j:g=true)=>show(if g then 0 else 4)=(0:Int)by rw[j];rfl);have bi:(δ (hV [(h,l)])).size=32:=by rw[jx,qp]
 unfold qY;clear aZ;generalize(if g=true then l else[])=ao at *;generalize(if g=true then(0:Int)else 4)=bG at *;generalize gj h nx (Ω l)=a7 at *;generalize ϩ a7=bB at *;generalize hV [(h,l)]=bC at *;generalize Ω l=a8 at *;generalize gx h l=bI at *;clear af ae a1 am aA a0 bk aB aR aU aP aV aY aQ aX bf aK aL bd;have bE:∀ V b,(callFunc 234 V).run prog b=.ok (.enter 234 V) b:=iB func234 ϋ rfl;have bF:∀ V b,(callFunc 236 V).run prog b=.ok (.enter 236 V) b:=iB func236 ϋ rfl;go_enter func104,ntmps104;go_upto_region 1 with (fail)
 generalize å w (C #[IZ 1,š (δ h),š (δ nx),š (δ a8),D z k pc,D B v E] 185)=bD at *;obtain⟨⟨m,p1,p2,q,o,r⟩,-,-⟩:=fX aC;have ah:=Zx aC;clear aC;go_wp2_with fail
 refine ar.o.mono ?_;rintro e bv ⟨rfl,al⟩;obtain⟨⟨bn,bo,bp,bq,br,bs⟩,-,-⟩:=fX (θ ah.o al);clear m p1 p2 q o r ar;go_wp2_with fail
 refine(aI.o bv).mono ?_;rintro e aE ⟨a9,bm,c2,rfl,aW,aM⟩;have ac:=al.trans (aM.mono al.size);clear bn bo bp bq br bs al aM aI;obtain⟨⟨m,p1,p2,q,o,r⟩,-,-⟩:=fX (θ ah.o ac);have ad:=S.trans (ac.mono S.size);have aq:=Zx aW;clear aW;go_upto_region 6 with (fail)
 have G:=(φ aE.heap.size aE).drew;refine ϸ (fun F=>BQ aE F) 7 ϋ ?_;refine Zf 0 G ?_;refine Zf 2 G ?_;refine Zk 3 G ?_ (hy:=by intro b p;have bt:=ζ p m;have bu:=ζ p o;go_simp;try with_reducible rfl);refine Zf 4 G ?_;refine Zf 5 G ?_;refine Zk 6 G ?_ (hy:=by intro b p;have bt:=ζ p m;have bu:=ζ p o;go_simp;try with_reducible rfl);refine Ψ (fuel:=6) 1 ϋ rfl ?_;intro K Z;go_simp;refine(aG.o a9 bm c2 _ (ad.trans (G.mono ad.size)) aq.o.1 (aq.o.below G).rd).mono ?_;rintro e bw ⟨rfl,aN⟩;have aa:=G.trans aN;refine Z _ _ aa ?_;clear Z K;try simp only[Zp]
 refine jp (fuel:=5) ϋ ϋ rfl ?_;intro K Z;go_simp;refine(ag.o bw (ad.trans (aa.mono ad.size))).mono ?_;rintro e bx ⟨rfl,aO⟩;refine Z _ _ ?_;clear Z K;try simp only[Zp]
 have N:=aa.trans (aO.mono aa.size);refine Zf 8 N ?_;refine Zf 9 N ?_;refine Zf 10 N ?_;refine Zf 11 N ?_;refine Zf 12 N ?_;refine Zd ?_;have ay:=ac.trans (N.mono ac.size);have aD:=θ ah.o ay;have T:=Zx (S.trans (ay.mono S.size));clear m p1 p2 q o r G aa N aN aO ac ad aq aG ag ah bi;obtain⟨⟨m,p1,p2,q,o,r⟩,-,-⟩:=fX aD;have aH:=Zx (aJ.o bx T.o);go_wp2_with fail
 refine aH.o.mono ?_;rintro e a2 ⟨i,x,bA,U,W,rfl,r1,r2,r3,aT,az⟩;have u:=Zx (Γ (θ aD az) (Γ r1 (Γ r2 (Γ r3 (Γ aT (T.o.trans (az.mono T.o.size)))))));have a6:=Zx T.o.size;clear m p1 p2 q o r r1 r2 r3 aT az aH aJ aD ay T S bz;have bH:=fun(b:β) (a:Addr) (f:Fn) (ba:Array ε) (bl:Mode)=>run_store prog b a (.func f #[] ba) bl rfl;go_wp2;go_loopw [61] (fun an wr=>(an=IZ 0\/(an=IZ 1/\g=false))/\Ϭ (BQ a2 wr)) (fun an _=>2 - (intOf an).toNat)
 case atStart=>exact⟨.inl rfl,⟨φ _ _⟩⟩
 case round =>
  obtain⟨bc,I⟩:=hrel;obtain⟨⟨au,av,aw,ax⟩,-,-⟩:=Ϫ (θ u.o.2.2.2.1 I.o);obtain⟨⟨m,p1,p2,q,o,r⟩,-,-⟩:=fX (θ u.o.1 I.o);rcases bc with rfl|⟨rfl,j⟩
  .have X:=χ wr (C #[.func (.func 234) #[] #[þ (J ⟨i,0,O⟩),þ (J ⟨x,0,O⟩)],D U (L ao) W] 283)
   have H:=Zx X;have s:=Zx (I.o.trans (((φ wr.heap.size wr).alloc NZ (C #[.func (.func 234) #[] #[þ (J ⟨i,0,O⟩),þ (J ⟨x,0,O⟩)],D U (L ao) W] 283)).mono I.o.size));have P:=Zx (u.o.2.2.2.2.2.trans (s.o.mono u.o.2.2.2.2.2.size));clear X I;by_cases j:g=true
   .have Y:=θ u.o.2.2.1 s.o
    rw[a4.o j]at Y;have M:=Zx (ai.o j i x _ P.o (θ u.o.2.1 s.o) Y);clear Y ai aj ak;go_upto_region 12 with (fail)
    generalize å wr (C #[.func (.func 234) #[] #[þ (J ⟨i,0,O⟩),þ (J ⟨x,0,O⟩)],D U (L ao) W] 283)=F at *;clear au av aw ax m p1 p2 q o r;obtain⟨⟨m,p1,p2,q,o,r⟩,-,-⟩:=fX (θ u.o.1 s.o);obtain⟨⟨Q,R⟩,-,-⟩:=ι H.o;go_wp2_with fail
    refine M.o.mono ?_;rintro e aF ⟨rfl,y⟩;clear Q R;obtain⟨⟨Q,R⟩,-,-⟩:=ι (θ H.o y);have ap:=Zx (Γ (((u.o.2.2.2.2.1.below (s.o.trans (y.mono s.o.size)))).mono a6.o) (P.o.trans (y.mono P.o.size)));clear m p1 p2 q o r y M H;go_wp2;go_ret2;exact⟨U,W,rfl,ap.o⟩
   .have aS:g=false:=by cases g<;>simp_all
    have M:=Zx (aj.o aS i x _ (θ u.o.2.1 s.o));clear ai aj ak j;go_upto_region 12 with (fail)
    generalize å wr (C #[.func (.func 234) #[] #[þ (J ⟨i,0,O⟩),þ (J ⟨x,0,O⟩)],D U (L ao) W] 283)=F at *;clear au av aw ax m p1 p2 q o r;obtain⟨⟨m,p1,p2,q,o,r⟩,-,-⟩:=fX (θ u.o.1 s.o);obtain⟨⟨Q,R⟩,-,-⟩:=ι H.o;go_wp2_with fail
    refine M.o.mono ?_;rintro e aF ⟨rfl,y⟩;have a3:Ϭ (BQ a2 aF):=⟨s.o.trans (y.mono s.o.size)⟩;clear m p1 p2 q o r y M H;go_wp2_with fail
    go_roundw;case rel=>exact⟨.inr ⟨rfl,aS⟩,a3⟩
    case measure=>simp[intOf]
  .have X:=χ wr (C #[.func (.func 236) #[] #[þ (J ⟨i,0,O⟩)],D O 0 0] 283)
   have H:=Zx X;have s:=Zx (I.o.trans (((φ wr.heap.size wr).alloc NZ (C #[.func (.func 236) #[] #[þ (J ⟨i,0,O⟩)],D O 0 0] 283)).mono I.o.size));have P:=Zx (u.o.2.2.2.2.2.trans (s.o.mono u.o.2.2.2.2.2.size));have M:=Zx (ak.o j i _ (θ u.o.2.1 s.o));clear X I ai aj ak;have bh:=a5.o j;clear j;go_upto_region 12 with (fail)
   generalize å wr (C #[.func (.func 236) #[] #[þ (J ⟨i,0,O⟩)],D O 0 0] 283)=F at *;clear au av aw ax m p1 p2 q o r;obtain⟨⟨m,p1,p2,q,o,r⟩,-,-⟩:=fX (θ u.o.1 s.o);obtain⟨⟨Q,R⟩,-,-⟩:=ι H.o;go_wp2_with fail
   refine M.o.mono ?_;rintro e aF ⟨rfl,y⟩;clear Q R;obtain⟨⟨Q,R⟩,-,-⟩:=ι (θ H.o y);have ap:=Zx (P.o.trans (y.mono P.o.size));clear m p1 p2 q o r y M H;go_wp2;go_ret2;subst bh;exact⟨O,0,rfl,fun F _=>tr F,ap.o⟩
