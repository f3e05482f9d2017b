/- Part 37 of the proof. -/
import Derived.Test.YtpilfbcffofheaaGreatDoorm30
import Derived.Test.YtpilfbcffofheaaGreatDoorm36
set_option linter.all false
set_option maxRecDepth 100000
set_option maxHeartbeats 16000000
namespace Go.Proofs.YtpilfbcffofheaaGreatDoor
open Go.RowKit Go.Proofs.Tryz Go.Sort
open Value renaming slice->D,agg->ā,string->š,pointer->þ
open Option renaming none->O,some->J
open List renaming length->L
open Obj renaming cells->C
open Ending renaming returned->ŗ
open World renaming alloc->å,setCell->ŝ
def DG:(prog.info? 185).map (fun i=>(i.zero,i.size,i.bytes))=J (J (ā #[G 0,š ByteArray.empty,š ByteArray.empty,š ByteArray.empty,D O 0 0,D O 0 0]),6,104):=ϋ
def DH:(prog.info? 181).map (fun i=>(i.zero,i.size,i.bytes))=J (J (D O 0 0),1,24):=ϋ
def H3 (g R a:Nat) (v:ε) (b:Nat):Prop:=b=g\/b=R\/b=a\/v.ownBlock=J b
def Α.grown3 {g R S v v'} {w c:β} {Q:β->Prop} (h:Α (H3 g R S v) w Q) (d:w.grownBy c v.ownBlock) (hv:v'.ownBlock=v.ownBlock\/v'.ownBlock=J w.heap.size):Α (H3 g R S v') c Q:=by
 refine h.step d.size (fun b a g2=>d.block b a fun e=>g2 (.inr (.inr (.inr e.symm)))) fun b a g2=>?_;rcases g2 with g2|g2|g2|g2
 .exact .inl g2
 .exact .inr (.inl g2)
 .exact .inr (.inr (.inl g2))
 .rcases hv with hv|hv
  .rw[hv]at g2;exact .inr (.inr (.inr g2))
  .rw[hv]at g2;injection g2 with g2;omega
def Hi.h3 {lo g R S v} {w:β} {Q:β->Prop} (h:Hi lo w Q) (c:g<lo/\R<lo/\S<lo) (a:∀ q,v.ownBlock=J q->q<lo):Α (H3 g R S v) w Q:=
 h.off fun b _ e=>by rcases e with e|e|e|e;omega;omega;omega;exact a b e
structure kI (g R S lo:Nat) (zr cs:Obj) (w:β) (B:γ) (p:Nat) (v:ε) (n:Nat) (xs:List ε) (X:β->Prop) (W:β):Prop where
 rs:∃ a n c,W.heap[g]?=J (C #[D a n c,G (p:Int),G 0] 238 (0,0))/\L B=n/\Α (H3 g R S v) W (fun w2=>Rd w2 (D a n c) n 1 (η B))
 r:W.heap[R]?=J zr
 s:W.heap[S]?=J cs
 b:Below w.heap.size w W
 o:W.ownsRow lo 185 6 v n xs
 x:Α (H3 g R S v) W X
 z:lo<=W.heap.size/\R<lo/\S<lo/\g<lo/\w.heap.size<=g/\w.heap.size<=S/\R≠g/\S≠g/\R≠S
def kI.toRs {g R S lo zr cs w B p n v xs X W} (h:kI g R S lo zr cs w B p v n xs X W):RS 238 g W B p:=by
 obtain⟨a,j,c,d,f,i⟩:=h.rs;exact⟨a,j,c,d,f,i.sub (fun b _ e=>.inl e)⟩
def kI.call {g R S lo zr cs w B p n v xs X W q} {f:β} (h:kI g R S lo zr cs w B p v n xs X W) (r:hZ 238 g W.heap.size f B q) (d:Ο g W f):kI g R S lo zr cs w B q v n xs X f:=by
 obtain⟨A,t,u,x,i,y,j,k,z⟩:=h.z;obtain⟨a,s,c,l,m,o⟩:=r;exact⟨⟨a,s,c,l,m,o.h3 ⟨U,U,U⟩ (fun b e=>(Ϡ h.o b e).2)⟩,d.row j h.r,d.row k h.s,d.to h.b h.b.size i,kA h.o (fun b e=>d.2.1 b (Ϡ h.o b e).2 (ι (Ϡ h.o b e).1)),h.x.oneCh (.inl rfl) d,⟨ι d.1,t,u,x,i,y,j,k,z⟩⟩
def kI.B {g R S lo zr cs w B p n v xs X W} {d:β} (h:kI g R S lo zr cs w B p v n xs X W) (b:Below W.heap.size W d):kI g R S lo zr cs w B p v n xs X d:=by
 obtain⟨l,k⟩:=h.z;obtain⟨a,j,c,e,f,i⟩:=h.rs;exact⟨⟨a,j,c,θ e b,f,i.B b⟩,θ h.r b,θ h.s b,h.b.t b,ψ h.o b,h.x.B b,⟨ι b.size,k⟩⟩
def kI.grown {g R S lo zr cs w B p n v xs X W k} {f:ε} {K:List ε} {d:β} (h:kI g R S lo zr cs w B p v n xs X W) (t:d.ownsRow lo 185 6 f k K) (I:W.grownBy d v.ownBlock) (j:f.ownBlock=v.ownBlock\/f.ownBlock=J W.heap.size):kI g R S lo zr cs w B p f k K X d:=by
 obtain⟨H,l,m,o,x,y,z,A,E⟩:=h.z;have i:∀ b,b<lo->d.heap[b]?=W.heap[b]?:=fun b F=>I.block b U (fun e=>ι (Ϡ h.o b e.symm).1);obtain⟨a,u,c,q,r,s⟩:=h.rs;exact⟨⟨a,u,c,(i g o).trans q,r,s.grown3 I j⟩,(i R l).trans h.r,(i S m).trans h.s,h.b.grown I h.b.size (fun b e=>ι (Ϡ h.o b e).1),t,h.x.grown3 I j,⟨ι I.size,l,m,o,x,y,z,A,E⟩⟩
def kI.add {g R S lo zr cs w B p n v xs X W b} {Y:β->Prop} (h:kI g R S lo zr cs w B p v n xs X W) (e:Hi b W Y) (d:lo<=b) (c:∀ q,v.ownBlock=J q->q<b):kI g R S lo zr cs w B p v n xs (fun a=>X a/\Y a) W:=
 ⟨h.rs,h.r,h.s,h.b,h.o,h.x.and (e.h3 (ι h.z) c),h.z⟩
def yB (s:List (γ)) (t v d:γ) (l:List (γ)) (k:Nat) (x:List (Nat×Nat)) (a b:γ) (w:β) (e:Ending) (u:β):Prop:= ∃ sa sc c f g h i m o q j n p r,e=ŗ (.tuple #[ā #[G (L s),š (δ (ϡ s)),D sa 1 sc,D c 1 f],G 0])/\Rd u (D sa 1 sc) 1 4 (fP s x)/\pM u c f g h t v d l k i m o (L a) q a j n p (L b) r b/\Below w.heap.size w u
def BC (g R j q:Nat) (r:Int) (i:γ) (F:Option Addr) (H:Nat) (l:List ε) (t I d:γ) (v:List (γ)) (k:Nat) (c e:γ) (w a:β):Prop:= ∃ f h o p s x z B u y A E m n,a.heap[j]?=J (C #[G r,š (δ i),D F 1 H,D f 1 h] 192 (0,0))/\a.heap[R]?=J (C #[G 0,š ⟨#[]⟩,D O 0 0,D O 0 0] 192 (0,0))/\a.heap[g]?=J (C #[D m q n,G (q:Int),G 0] 238 (0,0))/\Α (· =R) a (fun b=>Rd b (D F 1 H) 1 4 l/\pM b f h o p t I d v k s x z (L c) B c u y A (L e) E e)/\Below w.heap.size w a
def NB (c0 n c1) (ď:List (γ)) (ps) (t nx d:γ) (f:List (γ)) (k) (i m:γ) (w:β) (bF:L ps=1) (an:L (oZ ď ps (hJ 1 t nx d f i) (hJ 1 t nx d f m))=n) (a2:Rd w (D c0 n c1) n 1 (η (oZ ď ps (hJ 1 t nx d f i) (hJ 1 t nx d f m)))) (aF:Ϻ ď ps (L ď))
  (ap:L t<=64) (ao:L nx<=64) (am:L d=32) (bC:L f=k) (bZ:k<=64) (aj:ϱ f) (a3:L i<=4000) (a4:L m<=4000) :
  Calls prog 101 #[D c0 n c1] w (yB ď t nx d f k ps i m w):=by
 have l1:=lE (l:=fV ď ps) (ι (ke aF));have aU:=ke aF;have b1:=xz (n:=1)      U ap ao am U aj a3;have b2:=xz (n:=1)      U ap ao am U aj a4;have b3:=Ϸ 8 2 U;obtain⟨B,aW⟩:∃ B,oZ ď ps (hJ 1 t nx d f i) (hJ 1 t nx d f m)=B:=⟨_,rfl⟩;rw[aW]at an a2;have a:B=1::(Ξ (fV ď ps)++(ο 2++(hJ 1 t nx d f i++(hJ 1 t nx d f m++[])))):=by rw[<-aW];simp[oZ]
 obtain⟨aq,bG⟩:∃ q,1+L (Ξ (fV ď ps))=q:=⟨_,rfl⟩;obtain⟨aG,bH⟩:∃ q,aq+L (ο 2)=q:=⟨_,rfl⟩;obtain⟨aH,bI⟩:∃ q,aG+L (hJ 1 t nx d f i)=q:=⟨_,rfl⟩;obtain⟨X,bJ⟩:∃ q,aH+L (hJ 1 t nx d f m)=q:=⟨_,rfl⟩;have bw:L B=X:=by rw[a];simp only[ϥ,σ,gO];omega
 have ak:L B<=1000000000:=U;have ae:=Zx (fun g I h=>xK g 1 ď ps B [1] _ I h a rfl ak aF);have av:=Zx (fun g I h=>EH g aq 2 16 B (1::Ξ (fV ď ps)) (hJ 1 t nx d f i++(hJ 1 t nx d f m++[])) I h (by rw[a];simp) U U (by rw[ϥ];omega) ak);have af:=Zx (fun g I h=>EP g aG 1 t nx d f i B (1::(Ξ (fV ď ps)++ο 2)) (hJ 1 t nx d f m++[]) I h (by rw[a];simp) (by rw[ϥ,σ];omega) ak U ap ao am U aj a3);have ag:=Zx (fun g I h=>EP g aH 1 t nx d f m B (1::(Ξ (fV ď ps)++(ο 2++hJ 1 t nx d f i))) [] I h (by rw[a];simp) (by simp only[ϥ,σ];omega) ak U ap ao am U aj a4);have bq:((1:Nat):Int)=1:=U;have bs:((2:Nat):Int)=2:=U;have br:((16:Nat):Int)=16:=U;rw[bs,br,bH]at av;rw[bG]at ae;rw[bI]at af;rw[bJ]at ag;unfold yR at af ag;rw[bq]at af ag;unfold RP at av;unfold uq at ae;rw[bF]at ae;have aw:=Zx (fun I h=>AJ c0 n c1 1 _ I (by rw[<-a];exact an) U h);rw[<-a]at aw;have bD:(((1:UInt8).toNat:Nat):Int)=1:=ϐ;rw[bD]at aw;obtain rfl:X=n:=by rw[<-an,bw]
 have bf:=Zx (fun bo bp I=>sQ bo X bp I);have⟨bi,aO⟩:=ϟ an bC;unfold yB;generalize ϡ ď=E at *;generalize fP ď ps=T at *;generalize(L ď:Int)=H at *;obtain⟨bK,cn,aZ⟩:=fO (w:=w) (A:=C #[G 0,š ⟨#[]⟩,D O 0 0,D O 0 0] 192) RZ;have bj:=Zx (a2.B aZ);obtain⟨a9,a0,a5,a6,a7⟩:=Ϩ DG;obtain⟨bR,bB,bN,bO,bP⟩:=Ϩ DH;go_enter func101,ntmps101;go_upto_region 1 with fail
 generalize å w _=bn at *;go_wp2_with fail
 refine(aw.o bn bj.o).M ?_;rintro e aN ⟨g,rfl,bM,b8,aY⟩;have⟨aQ,aP,bd⟩:=iQ bM (θ bK aY) (aZ.t aY);go_upto_region 4 with fail
 go_wp2_with fail
 refine(ae.o g aN aQ.o).M ?_;rintro e R ⟨sa,sc,rfl,bL,aA,ab⟩;have b7:g<aN.heap.size:=by obtain⟨_,_,_,h,-,-⟩:=aQ.o;exact ς h
 have b0:=ς aP.o;have b6:=aA.1;have Z:=(ρ _ R).A NZ (C #[G H,š (δ E),D sa 1 sc,D O 0 0] 192);have j:ϫ (kI g w.heap.size R.heap.size (R.heap.size+1) (C #[G 0,š ⟨#[]⟩,D O 0 0,D O 0 0] 192 (0,0)) (C #[G H,š (δ E),D sa 1 sc,D O 0 0] 192 (0,0)) w B aq (D O 0 0) 0 [] (fun r=>Rd r (D sa 1 sc) 1 4 T) (å R (C #[G H,š (δ E),D sa 1 sc,D O 0 0] 192))):=by
  obtain⟨ah,bS,ai,r1,r2,r3⟩:=bL;have aX:∀ b,b<R.heap.size->H3 g w.heap.size R.heap.size (D O 0 0) b->b<aN.heap.size:=fun b b5 e=>by
   rcases e with e|e|e|e
   .omega
   .omega
   .omega
   .cases e
  exact⟨⟨⟨ah,bS,ai,θ r1 Z,r2,(r3.off aX).B Z⟩,θ (aA.row U aP.o) Z,φ R _,(aA.to bd.o U U).trans (Z.M U),gQ _ _ _ _,(ab.off aX).B Z,⟨ύ,U,U,U,U,U,U,U,U⟩⟩⟩
 generalize b4:R.heap.size=o at *;have⟨bm,bl⟩:=ϟ (show g<o/\w.heap.size<o/\g≠w.heap.size from⟨U,U,U⟩) j.o.s;obtain⟨⟨aI,aJ,aK,aL⟩,-,-⟩:=ϩ bl.o;go_upto_region 5 with fail
 generalize å R _=bY at *;go_wp2;go_loopw [25] (fun K wr=>(K=G 0/\ϫ (kI g w.heap.size o (o+1) (C #[G 0,š ⟨#[]⟩,D O 0 0,D O 0 0] 192 (0,0)) (C #[G H,š (δ E),D sa 1 sc,D O 0 0] 192 (0,0)) w B aq (D O 0 0) 0 ([]) (fun r=>Rd r (D sa 1 sc) 1 4 T) wr))\/(K=G 1/\ϫ (BC g w.heap.size o X H E sa sc T t nx d f k i m w wr))) (fun K _=>1 - (intOf K).toNat)
 .exact .inl ⟨rfl,j⟩
 rcases hrel with ⟨rfl,j⟩|⟨rfl,bg⟩
 .go_wp2_with fail
  refine(av.o g wr j.o.toRs).M ?_;rintro e cl ⟨rfl,-,bz,bE⟩;have bh:=Zx (j.o.call bE bz);go_wp2;go_loopw [7,29] (fun aM K wr=>(aM=D O 0 0/\K=G 0/\ϫ (kI g w.heap.size o (o+1) (C #[G 0,š ⟨#[]⟩,D O 0 0,D O 0 0] 192 (0,0)) (C #[G H,š (δ E),D sa 1 sc,D O 0 0] 192 (0,0)) w B aG (D O 0 0) 0 ([]) (fun r=>Rd r (D sa 1 sc) 1 4 T) wr))\/(∃ F c s x y z,aM=D F 1 c/\K=G 1/\ϫ (kI g w.heap.size o (o+1) (C #[G 0,š ⟨#[]⟩,D O 0 0,D O 0 0] 192 (0,0)) (C #[G H,š (δ E),D sa 1 sc,D O 0 0] 192 (0,0)) w B aH (D F 1 c) 1 (mu t nx d (D s k x) (D y (L i) z)) (fun r=>Rd r (D sa 1 sc) 1 4 T/\(Rd r (D s k x) k 1 (χ f)/\Rd r (D y (L i) z) (L i) 1 (η i))) wr))\/(∃ F c s x y z M N P Q,aM=D F 2 c/\K=G 2/\ϫ (kI g w.heap.size o (o+1) (C #[G 0,š ⟨#[]⟩,D O 0 0,D O 0 0] 192 (0,0)) (C #[G H,š (δ E),D sa 1 sc,D O 0 0] 192 (0,0)) w B X (D F 2 c) 2 (mu t nx d (D s k x) (D y (L i) z)++mu t nx d (D M k N) (D P (L m) Q)) (fun r=>(Rd r (D sa 1 sc) 1 4 T/\(Rd r (D s k x) k 1 (χ f)/\Rd r (D y (L i) z) (L i) 1 (η i)))/\(Rd r (D M k N) k 1 (χ f)/\Rd r (D P (L m) Q) (L m) 1 (η m))) wr))) (fun _ K _=>2 - (intOf K).toNat)
  .exact .inl ⟨rfl,rfl,bh⟩
  rcases hrel with ⟨rfl,rfl,j⟩|⟨F,c,s,x,y,z,rfl,rfl,j⟩|⟨F,c,s,x,y,z,M,N,P,Q,rfl,rfl,j⟩
  .go_wp2_with fail
   refine(af.o g wr j.o.toRs).M ?_;rintro e ad ⟨s,W,x,y,bT,z,rfl,aD,rfl,ab,aC,aa⟩;obtain rfl:W=k:=aD.symm.trans aO.o;have S:=Zx (((j.o.call aC aa).add ab j.o.z.1 (fun q e=>by cases e)).B ((ρ _ ad).A NZ (C #[G 1,š (δ t),š (δ nx),š (δ d),D s W x,D y (L i) z] 185)));have Y:=Zx (oj  (tx:=181) (e:=185) ue ad #[G 1,š (δ t),š (δ nx),š (δ d),D s W x,D y (L i) z] 6 1 1 _ rfl rfl ϗ);have bQ:=aa.1;have a8:=j.o.z.1;go_wp2_with (at_builtin;go_loud (refine ϻ rfl _ _ _ _ rfl _ 185 a9 _ 6 _ ue a0 a5 a6 a7 rfl _ 0 [] (by rfl) S.o.o _ 1 _ (by rfl) Y.o ώ U ό ?_;intro bU bV ac aB aE _;obtain⟨ay,az,rfl⟩:=Η ac))
   have ax:=Zx (S.o.grown ac aB aE);go_roundw
   .exact .inr (.inl ⟨ay,az,s,x,y,z,rfl,rfl,ax⟩)
   exact gG
  .go_wp2_with fail
   refine(ag.o g wr j.o.toRs).M ?_;rintro e ad ⟨M,W,N,P,bT,Q,rfl,aD,rfl,ab,aC,aa⟩;obtain rfl:W=k:=aD.symm.trans aO.o;have S:=Zx (((j.o.call aC aa).add ab j.o.z.1 (fun q e=>(Ϡ j.o.o q e).2)).B ((ρ _ ad).A NZ (C #[G 1,š (δ t),š (δ nx),š (δ d),D M W N,D P (L m) Q] 185)));have Y:=Zx (oj  (tx:=181) (e:=185) ue ad #[G 1,š (δ t),š (δ nx),š (δ d),D M W N,D P (L m) Q] 6 1 1 _ rfl rfl ϗ);have bQ:=aa.1;have a8:=j.o.z.1;go_wp2_with (at_builtin;go_loud (refine ϻ rfl _ _ _ _ rfl _ 185 a9 _ 6 _ ue a0 a5 a6 a7 rfl _ 1 _ (by rfl) S.o.o _ 1 _ (by rfl) Y.o ώ U ό ?_;intro bU bV ac aB aE _;obtain⟨ay,az,rfl⟩:=Η ac))
   have ax:=Zx (S.o.grown ac aB aE);go_roundw
   .exact .inr (.inr ⟨ay,az,s,x,y,z,M,N,P,Q,rfl,rfl,ax⟩)
   exact gG
  .have bx:=j.o.s
   have a8:=j.o.z.1;have⟨S,Y⟩:=ϟ (j.o.B ((ρ _ wr).A NZ (C #[D F 2 c] 181))) (oj  (tx:=190) (e:=181) underlying190 wr #[D F 2 c] 1 1 1 _ rfl rfl ϗ);obtain⟨⟨aI,aJ,aK,aL⟩,⟨bt,f1,f2,f3⟩,bX⟩:=ϩ bx;go_wp2_with (at_builtin;go_loud (refine ϻ rfl _ _ _ _ rfl (wr.heap.size+1) 181 bR _ 1 _ underlying190 bB bN bO bP rfl _ 0 _ (by rfl) (gQ _ _ _ _) _ 1 _ (by rfl) Y.o ώ U ύ ?_;intro ck bW a1 bA b9 _;obtain⟨aS,aT,rfl⟩:=Η a1;have V:=S.o.B (RZ.grown bA NZ (fun q e=>by cases e));obtain⟨⟨aI,aJ,aK,aL⟩,⟨bt,f1,f2,f3⟩,bX⟩:=ϩ V.s))
   have hF:ϫ (BC g w.heap.size o X H E sa sc T t nx d f k i m w (ŝ bW ⟨o,3,O⟩ (D aS 1 aT))):=by
    obtain⟨ah,cb,ai,r1,r2,r3⟩:=V.rs;have e:=r2.symm.trans bi.o;rw[e]at r1;have ca:=bm.o;exact⟨⟨aS,aT,F,c,s,x,y,z,M,N,P,Q,ah,ai,υ _ o 3 _ _ _ V.s,(Γ _ _ _ _ ϑ).trans V.r,(Γ _ _ _ _ ϑ).trans r1,(((V.x.set  (.inr (.inr (.inl rfl))) _).sub (fun b _ e=>.inr (.inl e))).and ((((Hi.own a1).set  (U:o<_) _).off (fun b _ e=>by have e:=e;omega)).and (((Hi.own V.o).set  (U:o<_) _).off (fun b _ e=>by omega)))).imp fun r h=>⟨h.1.1.1,h.2.1,h.2.2,h.1.1.2.1,h.1.1.2.2,h.1.2.1,h.1.2.2⟩,V.b.S ϑ _⟩⟩
   go_roundw
   .exact .inr ⟨rfl,hF⟩
   exact gG
 .obtain⟨ar,au,F,c,s,x,y,z,M,N,P,Q,ah,ai,f1,f2,f3,bu,bv⟩:=bg.o
  have⟨F1,ba,bb,bc⟩:=kX f1 f2 bu bv;obtain⟨⟨r0,r1,r2⟩,-,-⟩:=Β f3;go_wp2_with fail
  refine(bf.o _ _ _).M ?_;rintro e cm ⟨rfl,al⟩;have aU:=θ F1.o al;have aV:=θ ba.o al;have bk:=Zx (oh aV (G H) (š (δ E)) (D sa 1 sc) (D ar 1 au));have aR:=Zx (((((bb.o.B al).set (p:=⟨w.heap.size,0,O⟩) rfl (G H)).set (p:=⟨w.heap.size,1,O⟩) rfl (š (δ E))).set (p:=⟨w.heap.size,2,O⟩) rfl (D sa 1 sc)).set (p:=⟨w.heap.size,3,O⟩) rfl (D ar 1 au)).now;have be:=Zx (pd (bc.o.t al) (Nat.le_refl _) (G H) (š (δ E)) (D sa 1 sc) (D ar 1 au));obtain⟨⟨aI,aJ,aK,aL⟩,-,-⟩:=ϩ aU;obtain⟨⟨cc,cd,ce,cf⟩,⟨cg,ch,ci,cj⟩,co⟩:=ϩ aV;go_wp2;refine Ω (v:=.tuple #[ā _,G 0]) (gz  (u:=3)  rfl _ _ _ _ _ _ _ rfl bk.o underlying192 rfl ϋ) rfl ?_;exact⟨sa,sc,ar,au,F,c,s,x,y,z,M,N,P,Q,rfl,aR.o.1,aR.o.2,be.o⟩
def IK (a n c rl f t) (w:β) (B:L rl=n) (j:Rd w (D a n c) n 1 (τ rl)) (p:∀ x∈rl,f<=x/\x<t) :
  Calls prog 105 #[D a n c,ā #[G f,G t]] w fun e w'=>e=ŗ (.bool true)/\BQ w w':=by
 obtain⟨s,K,h⟩:=fO (w:=w) (A:=C #[G f,G t] 89) RZ;have l:=Zx (j.B h);have k:=Zx (fun d i=>p rl[d] (Ψ i));have r:=j.2.1;unfold maxLen at r;obtain⟨⟨H,I⟩,-,-⟩:=ν s;go_enter func105,ntmps105;go_upto_region 1 with fail
 generalize å w _=m at *;go_wp2;go_loopw [9] (fun g wr=>∃ d:Nat,d<=n/\g=G (d:Int)/\wr=m) (fun g _=>n - (intOf g).toNat)
 .exact⟨0,Ζ _,rfl,rfl⟩
 obtain⟨d,i,rfl,rfl⟩:=hrel;by_cases z:d<n
 .obtain⟨b,off,rfl,o⟩:=of l.o U
  have q:d<L rl:=U;have c1:=o d (G rl[d]) (by simp[τ]);obtain⟨v,y⟩:=k.o d q;generalize rl[d]=x at *;have E:¬x<f:=U;have F:¬t<=x:=U;have u:(d:Int)<(n:Int):=U;have M:(0:Int)<=(d:Int):=U;go_wp2_with fail
  go_roundw
  .exact⟨d+1,U,ϕ,trivial⟩
  exact ω
 .obtain rfl:d=n:=U
  have u:¬(d:Int)<(d:Int):=U;go_wp2;go_ret;exact⟨rfl,h⟩
def IF (A I TM) (n m o:ε) (qa qc la lc tva tvc) (w:β) (f:w.heap[A]?=J (C #[n,m,o,D qa 1 qc] 192 (0,0))) (g:w.heap[I]?=J (C #[G 0] 3 (0,0))) (h:w.heap[TM]?=J (C #[D tva 2 tvc] 143 (0,0))) (j:Rd w (D qa 1 qc) 1 1 [D la 2 lc]) :
  Calls prog 102 #[þ (J ⟨A,0,O⟩),þ (J ⟨I,0,O⟩),þ (J ⟨TM,0,O⟩)] w fun e w'=>e=ŗ (.bool true)/\BQ w w':=by
 obtain⟨b,off,rfl,i⟩:=of j U;have c0:=i 0 _ rfl;simp only[kG]at c0;obtain⟨⟨-,-,-,d⟩,-,-⟩:=ϩ f;obtain⟨k,-,-⟩:=gC g;obtain⟨l,-,-⟩:=gC h;go_enter func102,ntmps102;go_upto_region 1 with fail
 have c:=(ρ w.heap.size w).drew;go_region_held3 (fun a=>BQ w a/\a.cell? ⟨A,3,O⟩=J (D (J ⟨b,off,O⟩) 1 qc)/\a.cell? ⟨I,0,O⟩=J (G 0)/\a.cell? ⟨b,off,O⟩=J (D la 2 lc)/\a.cell? ⟨TM,0,O⟩=J (D tva 2 tvc)) (first|exact⟨c,d,k,c0,l⟩|assumption) (fail)
 go_wp2;go_ret;exact⟨rfl,by first|assumption|exact c⟩
def yI (d j:Nat) (g:Array ε) (b:List Int) (w:β) (e:Ending) (h:β):Prop:= ∃ a c,e=ŗ (.bool true)/\h.heap[d]?=J (C (g.setIfInBounds j (D a (L b) c)) 23 (0,0))/\Ο d w h/\Α (· =d) h (fun f=>Rd f (D a (L b) c) (L b) 1 (τ b))
def CC (S Wd A I J FR F f t0) (R T:γ) (x0 x1 x2:ε) (qa qc la lc) (j:Nat) (k:List ε) (b V W B X Y:ε) (cs rl) (w:β)
  (g:w.heap[S]?=some (C #[G f,G t0,G 2,š (δ R)] 198 (0,0))) (d:w.heap[Wd]?=some (C #[š (δ T)] 9 (0,0))) (aA:w.heap[A]?=some (C #[x0,x1,x2,D qa 1 qc] 192 (0,0))) (aF:w.heap[I]?=some (C #[G 0] 3 (0,0))) (aG:w.heap[J]?=some (C #[G j] 3 (0,0))) (aD:w.heap[FR]?=some (C #[D (some ⟨F,0,O⟩) 2 2] 196 (0,0))) (hF:w.heap[F]?=some (C cs 23 (0,0))) (a8:j<2) (aI:cs[j]?=some (D O 0 0))
  (aN:Rd w (D qa 1 qc) 1 1 [D la 2 lc]) (aM:Rd w (D la 2 lc) 2 6 k) (au:k[j*6]?=some b) (av:k[j*6+1]?=some V) (aw:k[j*6+2]?=some W) (ax:k[j*6+3]?=some B) (ay:k[j*6+4]?=some X) (az:k[j*6+5]?=some Y)
  (aB:∀ h,BQ w h->Calls prog 104 #[š (δ R),G 2,š (δ T),ā #[b,V,W,B,X,Y]] h (sG rl h)) (aL:∀ x∈rl,f<=x/\x<t0) (a9:L rl<=1000) :
  Calls prog 103 #[þ (some ⟨S,0,O⟩),þ (some ⟨Wd,0,O⟩),þ (some ⟨A,0,O⟩),þ (some ⟨I,0,O⟩),þ (some ⟨J,0,O⟩),þ (some ⟨FR,0,O⟩)] w (yI F j cs rl w):=by
 obtain⟨be,bf,rfl,aO⟩:=of aN U;obtain⟨lb,bd,rfl,m⟩:=of aM U;have Q:=aO 0 _ rfl;simp only[kG]at Q;have a1:=m _ _ au;have aa:=m _ _ av;have ab:=m _ _ aw;have ac:=m _ _ ax;have ad:=m _ _ ay;have ae:=m _ _ az;simp only[<-iX]at aa ab ac ad ae;obtain⟨⟨aV,aW,aX,aY⟩,-,-⟩:=ϩ g;obtain⟨aZ,-,-⟩:=gC d;obtain⟨⟨-,-,-,ap⟩,-,-⟩:=ϩ aA;obtain⟨aT,-,-⟩:=gC aF;obtain⟨N,-,-⟩:=gC aG;obtain⟨r0,-,-⟩:=gC aD;have aq:w.cell? ⟨F,j,O⟩=some (D O 0 0):=by rw[ξ _ _ j _ _ _ hF];exact aI
 have af:=Zx aB;have al:=Zx (fun a c h (aP:Rd h _ _ 1 _)=>IK a _ c rl f t0 h rfl aP aL);have ag:=Zx hF;have bc:(j:Int)<2:=U;have bb:(0:Int)<=(j:Int):=U;have a7:=ς hF;obtain⟨aU,aK,aQ,aR,aS⟩:=Ϩ oB;go_enter func103,ntmps103;go_upto_region 1 with fail
 have g:=(ρ w.heap.size w).drew;refine ϯ (fun t=>BQ w t) 13 ϋ ?_;refine Zf 0 g ?_;refine Zk 1 g ?_ (hy:=by intro h d;have v:=ζ d aY;go_simp;try with_reducible rfl);refine Zf 2 g ?_;refine Zk 3 g ?_ (hy:=by intro h d;have u:=ζ d aX;go_simp;try with_reducible rfl);refine Zk 4 g ?_ (hy:=by intro h d;have ar:=ζ d aZ;go_simp;try with_reducible rfl);refine Zf 5 g ?_;refine Zb 6 [8,9,11,12,13] g ?_ (hy:=by intro h d;have a3:=ζ d ap;go_simp;try with_reducible rfl);refine Zb 7 [8,9,11,12,13] g ?_ (hy:=by intro h d;have a4:=ζ d aT;go_simp;try with_reducible rfl);refine Zf 8 g ?_;refine Zb 9 [11,12,13] g ?_ (hy:=by intro h d;have a5:=ζ d Q;go_simp;try with_reducible rfl);refine Zb 10 [11,12,13] g ?_ (hy:=by intro h d;have a6:=ζ d N;go_simp;try with_reducible rfl);refine Zf 11 g ?_;refine Zk 12 g ?_ (hy:=by intro h d;have bg:=ζ d a1;have bh:=ζ d aa;have bi:=ζ d ab;have bj:=ζ d ac;have bk:=ζ d ad;have bl:=ζ d ae;go_simp;try with_reducible rfl);refine jF (fuel:=5) ϋ ϋ rfl ?_;intro K y;go_simp;refine(af.o _ g).M ?_;rintro e a0 ⟨ao,c1,rfl,M,aH⟩;refine y _ _ ?_;try simp only[Zp]
 have i:=g.trans aH;refine Zf 14 i ?_;refine Zf 15 i ?_;refine Zf 16 i ?_;refine Zf 17 i ?_;refine Zf 18 i ?_;refine Zd ?_;have⟨ai,am,ak⟩:=iQ (M.M (show w.heap.size<=_ from g.size)) i (al.o ao c1 a0 M.now);have u:=ζ i aV;have v:=ζ i aW;go_wp2_with fail
 refine ak.o.M ?_;rintro e n ⟨rfl,q⟩;have l:=am.o.t q;have aj:=Zx (ai.o.B q);go_upto_region 4 with fail
 have g:=(ρ n.heap.size n).drew;have P:=ζ l N;have r2:=ζ l r0;have f2:=ζ l aq;refine ϯ (fun t=>BQ n t) 9 ϋ ?_;refine Zb 0 [8,9] g ?_ (hy:=by intro h d;have v:=ζ d r2;go_simp;try with_reducible rfl);refine Zb 1 [8,9] g ?_ (hy:=by intro h d;have u:=ζ d P;go_simp;try with_reducible rfl);refine Zb 2 [4,5,7,9] g ?_ (hy:=by intro h d;have v:=ζ d r2;go_simp;try with_reducible rfl);refine Zb 3 [4,5,7,9] g ?_ (hy:=by intro h d;have u:=ζ d P;go_simp;try with_reducible rfl);refine Zf 4 g ?_;refine Zb 5 [7,9] g ?_ (hy:=by intro h d;have ar:=ζ d f2;go_simp;try with_reducible rfl);refine Zf 6 g ?_;have an:=Zx ((aj.o.B g).now.src  (tx:=23) gl (sW _));have aE:=θ ag.o l;refine Κ (fuel:=2) 7 ϋ rfl ?_;intro K y;refine lD rfl _ _ _ _ rfl n.heap.size 3 aU _ 1 8 gl aK aQ aR aS rfl _ 0 _ ϔ (gQ _ _ _ _) _ _ _ ϔ an.o ώ U NZ ?_;intro B Z z aJ ba;rw[iI]at z;obtain⟨o,r,rfl⟩:=Η z;have s:BQ n Z:=((ρ _ n).drew).grown aJ NZ (fun b1 e=>by cases e);refine y _ _ s ?_;try simp only[Zp]
 refine Zf 8 s ?_;have E:=θ aE s;have aC:(ŝ Z ⟨F,j,O⟩ (D o (L rl) r)).heap[F]?=some (C (cs.setIfInBounds j (D o (L rl) r)) 23 (0,0)):=υ _ F j _ _ _ E;have ah:=Zx (Ν aC (Ν (((Ο.refl F w).B (l.t s)).set j (D o (L rl) r)) (((Hi.own z).off (H:=(· =F)) (fun b0 _ e=>ι l.size)).set (p:=⟨F,j,O⟩) rfl (D o (L rl) r))));have f3:=ζ s f2;have a2:=ϧ _ _ j _ _ E;refine Zl ?_;refine Zd ?_;go_wp2;go_ret;exact⟨o,r,rfl,ah.o⟩
def Ic {a:β} {E} {x:ε} {T} (h:a.heap[E]?=J (C #[x] T (0,0))):Below a.heap.size a (ŝ a ⟨E,0,O⟩ x):=by
 have d:(ŝ a ⟨E,0,O⟩ x).heap[E]?=J (C #[x] T (0,0)):=υ _ E 0 _ _ _ h;have c:=(ρ 0 a).S (p:=⟨E,0,O⟩) (Ζ _) x;exact⟨c.os,c.tape,c.output,c.size,fun b _=>by
  by_cases e:b=E
  .subst e;exact d.trans h.symm
  .exact Γ _ _ _ _ e⟩
structure mp (D Q lo:Nat) (dv:ε) (w:β) (v:ε) (n:Nat) (xs:List ε) (X:β->Prop) (W:β):Prop where
 d:W.heap[D]?=J (C #[dv] 90 (0,0))
 q:W.heap[Q]?=J (C #[v] 181 (0,0))
 b:Below w.heap.size w W
 o:W.ownsRow lo 185 6 v n xs
 x:Α (kJ lo v) W X
 z:lo<=W.heap.size/\Q<lo/\D<lo/\w.heap.size<=Q/\D≠Q
def mp.B {D Q lo dv w v n xs X} {b c:β} (h:mp D Q lo dv w v n xs X b) (a:Below b.heap.size b c):mp D Q lo dv w v n xs X c:=
 ⟨θ h.d a,θ h.q a,h.b.t a,ψ h.o a,h.x.B a,⟨gw a.size h.z,h.z.2⟩⟩
def mp.put {D Q lo dv w} {v c:ε} {n k} {u t:List ε} {X} {d a:β} (h:mp D Q lo dv w v n u X d) (i:a.ownsRow lo 185 6 c k t) (s:d.grownBy a v.ownBlock) (o:c.ownBlock=v.ownBlock\/c.ownBlock=J d.heap.size):a.heap[Q]?=J (C #[v] 181 (0,0))/\mp D Q lo dv w c k t X (ŝ a ⟨Q,0,O⟩ c):=by
 obtain⟨r,f,l,m,p⟩:=h.z;have g:∀ b,b<lo->a.heap[b]?=d.heap[b]?:=fun b q=>s.block b U (fun e=>ι (Ϡ h.o b e.symm).1);have j:=(g Q f).trans h.q;exact⟨j,(Γ _ _ _ _ ϑ).trans ((g D l).trans h.d),υ _ Q 0 _ _ _ j,(h.b.grown s h.b.size (fun b e=>ι (Ϡ h.o b e).1)).S m _,kA i (fun b e=>Γ _ _ _ _ (by have:=(Ϡ i b e).1;simp only;omega)),(h.x.grown s o).set  (.inl f) _,⟨by have:=s.size;simp;omega,f,l,m,p⟩⟩
def mp.add {D Q lo b dv w v n xs} {X Y:β->Prop} {W} (h:mp D Q lo dv w v n xs X W) (e:Hi b W Y) (c:lo<=b) (d:∀ q,v.ownBlock=J q->q<b):mp D Q lo dv w v n xs (fun a=>X a/\Y a) W:=
 ⟨h.d,h.q,h.b,h.o,h.x.and (e.rowH c d),h.z⟩
def yO (f Q p:Nat) (g:ε) (w:β) (h o:γ) (l:List Int) (k:Nat) (m:γ) (n:Nat) (r:List ε) (X:β->Prop) (e:Ending) (q:β):Prop:= ∃ i j b pc c d,e=ŗ (.tuple #[])/\mp f Q p g w (D i (n+1) j) (n+1) (r++mu h o (Ϣ l) (D b k pc) (D c (L m) d)) (fun a=>X a/\Rd a (D b k pc) k 1 (χ (gU h l))/\Rd a (D c (L m) d) (L m) 1 (η m)) q
def BR (D Q E lo dv w) (h nx t:γ) (l) (s:Bool) (k) (ds:γ) (va n vc xs X W) (m:mp D Q lo dv w (.slice va n vc) n xs X W) (P:W.heap[E]?=J (C #[G 0] 26 (0,0))) (ar:E<w.heap.size) (au:n<=10) (Z:L (gU h l)=k) (T:(if s then gM l else[])=ds)
  (S:Calls prog 99 #[dv,š (δ t)] W (sH h nx l (if s then gM l else[]) W)) :
  Calls prog 98 #[š (δ t),þ (J ⟨D,0,O⟩),þ (J ⟨E,0,O⟩),þ (J ⟨Q,0,O⟩)] W (yO D Q lo dv w h nx l k ds n xs X):=by
 have j:=Zx S;rw[T]at j;have⟨o,a0,I⟩:=iQ m P Z;obtain⟨an,-,-⟩:=gC m.d;unfold yO;unfold sH at j;generalize Ϣ l=d at *;generalize gU h l=aA at *;have ag:=m.z;obtain⟨ak,Y,ah,ai,aj⟩:=Ϩ DG;go_enter func98,ntmps98;go_wp2_with fail
 refine j.o.M ?_;rintro e g ⟨a,f,pc,b,aB,c,rfl,ab,rfl,V,v⟩;have aa:=ab.symm.trans I.o;subst aa;have A:=Zx ((o.o.B v).add V ag.1 (fun q e=>(Ϡ o.o.o q e).2));have B:=Zx (θ a0.o v);have ad:=φ g (C #[G 1,š (δ h),š (δ nx),š (δ d),.slice a f pc,.slice b (L ds) c] 185);have y:=(ρ _ g).A NZ (C #[G 1,š (δ h),š (δ nx),š (δ d),.slice a f pc,.slice b (L ds) c] 185);have H:=Zx (A.o.B y);have u:=θ B.o y;obtain⟨ao,ap,aE⟩:=gC u;have x:=Ic u;have i:=Zx (H.o.B x);have ae:=θ ad x;go_upto_region 3 with fail
 generalize ŝ (å g _) _ _=r at *;generalize g.heap.size=am at *;obtain⟨⟨aw,p1,p2,ax,ay,az⟩,-,-⟩:=go ae;obtain⟨al,-,-⟩:=gC i.o.q;have⟨p,K⟩:=ϟ (i.o.B ((ρ _ r).A NZ (C #[G 1,š (δ h),š (δ nx),š (δ d),.slice a f pc,.slice b (L ds) c] 185))) (oj  (tx:=181) (e:=185) ue r #[G 1,š (δ h),š (δ nx),š (δ d),.slice a f pc,.slice b (L ds) c] 6 1 1 _ rfl rfl ϗ);have av:=i.o.z.1;go_wp2_with (at_builtin;go_loud (refine ϻ rfl _ _ _ _ rfl lo 185 ak _ 6 _ ue Y ah ai aj rfl _ n xs (by rfl) p.o.o _ 1 _ (by rfl) K.o ώ U ό ?_;intro aC aD z a1 af _;obtain⟨M,N,rfl⟩:=Η z;obtain⟨ac,R⟩:=p.o.put z a1 af;obtain⟨al,aq,aF⟩:=gC ac))
 have F:=Zx R
 go_returns
 exact⟨rfl,M,N,a,pc,b,c,F.o⟩
def yV (h r:γ) (l:List Int) (k:Nat) (p q:γ) (w:β) (e:Ending) (s:β):Prop:= ∃ b c d g j n f i m o,e=ŗ (D b 2 c)/\Hi w.heap.size s (fun a=>Rd a (D b 2 c) 2 6 (mu h r (Ϣ l) (D d k g) (D j (L p) n)++mu h r (Ϣ l) (D f k i) (D m (L q) o))/\(Rd a (D d k g) k 1 (χ (gU h l))/\Rd a (D j (L p) n) (L p) 1 (η p))/\(Rd a (D f k i) k 1 (χ (gU h l))/\Rd a (D m (L q) o) (L q) 1 (η q)))/\Below w.heap.size w s
def HP (E TM da dn dc) (h nx M N:γ) (l) (f1 f2:Bool) (k tva tvc) (w:β) (H:w.heap[E]?=J (C #[G 0] 26 (0,0))) (ah:w.heap[TM]?=J (C #[D tva 2 tvc] 143 (0,0))) (ai:Rd w (D tva 2 tvc) 2 1 (χ [M,N])) (ae:L (gU h l)=k)
  (af:∀ a,Below w.heap.size w a->Calls prog 99 #[D da dn dc,š (δ M)] a (sH h nx l (if f1 then gM l else[]) a))
  (ag:∀ a,Below w.heap.size w a->Calls prog 99 #[D da dn dc,š (δ N)] a (sH h nx l (if f2 then gM l else[]) a)) :
  Calls prog 97 #[D da dn dc,þ (J ⟨E,0,O⟩),þ (J ⟨TM,0,O⟩)] w (yV h nx l k (if f1 then gM l else[]) (if f2 then gM l else[]) w):=by
 obtain⟨al,am,az,aA,aj⟩:=fZ (w:=w) (A:=C #[D da dn dc] 90) (Z:=C #[D O 0 0] 181) RZ;obtain⟨d1,ab⟩:∃ d,(if f1 then gM l else[])=d:=⟨_,rfl⟩;obtain⟨d2,ac⟩:∃ d,(if f2 then gM l else[])=d:=⟨_,rfl⟩;have Y:=ς H;have a1:=Zx (fun P n Q R S a b I=>BR w.heap.size (w.heap.size+1) E (w.heap.size+2) _ w h nx M l f1 k d1 P n Q R S a b (θ H b.b) Y I ae ab (af a b.b));have T:=Zx (fun P n Q R S a b I=>BR w.heap.size (w.heap.size+1) E (w.heap.size+2) _ w h nx N l f2 k d2 P n Q R S a b (θ H b.b) Y I ae ac (ag a b.b));have B:=Zx (fun a (v:Below _ w a)=>Ν (θ ah v) (ai.B v));have y:ϫ (mp w.heap.size (w.heap.size+1) (w.heap.size+2) (D da dn dc) w (D O 0 0) 0 [] (fun _=>True) (å (å w (C #[D da dn dc] 90)) (C #[D O 0 0] 181))):=⟨⟨al,am,aj,gQ _ _ _ _,fun _ _=>trivial,⟨ύ,U,U,U,U⟩⟩⟩;rw[ab,ac];unfold yV;unfold yO at a1 T;generalize Ϣ l=F at *;generalize gU h l=K at *;have av:∀ X a,(callFunc 98 X).run prog a=.ok (.enter 98 X) a:=iW func98 ϋ rfl;go_enter func97,ntmps97;go_upto_region 3 with fail
 generalize å (å w _) _=W at *;obtain⟨⟨c0,-,-⟩,ak⟩:=Ν (gC (B.o W y.o.b).1) (B.o W y.o.b).2;obtain⟨an,ao,rfl,aw⟩:=of ak U;have V:=Zx (fun a (v:Below _ w a)=>show a.cell? ⟨an,ao,O⟩=J (š _)/\a.cell? _=J (š _)by
  obtain⟨au,ax,ad,aa⟩:=of (B.o a v).2 U
  simp only[Φ,Addr.mk.injEq,it]at ad
  obtain⟨rfl,rfl⟩:=ad
  exact⟨aa 0 _ rfl,aa 1 _ rfl⟩)
 go_wp2;go_loopw [12] (fun u wr=>(u=G 0/\ϫ (mp w.heap.size (w.heap.size+1) (w.heap.size+2) (D da dn dc) w (D O 0 0) 0 [] (fun _=>True) wr))\/(u=G 1/\∃ m o c f g i,ϫ (mp w.heap.size (w.heap.size+1) (w.heap.size+2) (D da dn dc) w (D m 1 o) 1 (mu h nx F (D c k f) (D g (L d1) i)) (fun p=>True/\Rd p (D c k f) k 1 (χ K)/\Rd p (D g (L d1) i) (L d1) 1 (η d1)) wr))\/(u=G 2/\∃ m o c f g i q r s t,ϫ (mp w.heap.size (w.heap.size+1) (w.heap.size+2) (D da dn dc) w (D m 2 o) 2 (mu h nx F (D c k f) (D g (L d1) i)++mu h nx F (D q k r) (D s (L d2) t)) (fun p=>(True/\Rd p (D c k f) k 1 (χ K)/\Rd p (D g (L d1) i) (L d1) 1 (η d1))/\Rd p (D q k r) k 1 (χ K)/\Rd p (D s (L d2) t) (L d2) 1 (η d2)) wr))) (fun u _=>2 - (intOf u).toNat)
 .exact .inl ⟨rfl,y⟩
 rcases hrel with ⟨rfl,j⟩|⟨rfl,m,o,c,f,g,i,j⟩|⟨rfl,m,o,c,f,g,i,q,r,s,t,j⟩
 .obtain⟨aq,ar⟩:=V.o wr j.o.b
  have x:=Zx (a1.o _ _ _ _ _ wr j.o U);go_wp2_with fail
  refine x.o.M ?_;rintro a0 ap ⟨m,o,c,f,g,i,rfl,b⟩;have z:=Zx b;go_wp2_with fail
  go_roundw
  .exact .inr (.inl ⟨rfl,m,o,c,f,g,i,z⟩)
  exact gG
 .obtain⟨aq,ar⟩:=V.o wr j.o.b
  have x:=Zx (T.o _ _ _ _ _ wr j.o U);go_wp2_with fail
  refine x.o.M ?_;rintro a0 ap ⟨m,o,q,r,s,t,rfl,b⟩;have z:=Zx b;go_wp2_with fail
  go_roundw
  .exact .inr (.inr ⟨rfl,m,o,c,f,g,i,q,r,s,t,z⟩)
  exact gG
 .obtain⟨ay,-,-⟩:=gC j.o.q
  have e:=Zx (Ν ((j.o.x.rowHi j.o.o).M (U:w.heap.size<=w.heap.size+2)) j.o.b);go_wp2;go_ret;exact⟨m,o,c,f,g,i,q,r,s,t,rfl,e.o.1.imp fun p h=>⟨h.2,h.1.1.2,h.1.2⟩,e.o.2⟩
def Pt {f t d} (h:lZ f t d=true):iC d=true:=by
 unfold lZ at h;simp only[gt]at h;exact h.1.2
def Nc (ak:Option Addr) (al:Nat) (xs:Option Addr) (am:Nat) (ď:List (γ)) (p:Nat×Nat) (h nx Q R:γ) (l:List Int) (f1 f2:Bool) (x:List nt) (aE:ε) (w:β) (aj:ϭ w) (aB:Ϭ w) (b4:Ε w (D ak (L ď) al) ď) (a8:ϣ ď w (D xs 1 am) [p]) (aD:Ϻ ď [p] (L ď)) (a4:Δ ď p=[(h,l)]) (aA:nx=[]) (bL:decide (h=Q)=f1) (bM:decide (h=R)=f2) (az:L h<=64) (cy:L l<=1000) (b1:iT Q=true) (b2:iT R=true) (bQ:L Q<=64) (bR:L R<=64) (bS:ltStr Q h=false) (bT:ltStr R h=false) (cz:L (gM l)<=4000)
  (a5:Rd w aE (L x) 2 (kz x)) (a6:L x<=100000) (bX:∀ s∈x,L s.2<=100000) (bV:∀ s∈x,-9223372036854775808<=s.1/\s.1<=9223372036854775807) (bW:mW x=true) (bY:fW (iU x)=[Q,R]) :
  Calls prog 50 #[ā #[D ak (L ď) al,D xs 1 am],aE] w (mG (oZ ď [p] (hJ 1 h nx (Ϣ l) (gU h l) (if f1 then gM l else[])) (hJ 1 h nx (Ϣ l) (gU h l) (if f2 then gM l else[]))) w):=by
 obtain⟨M,a0⟩:∃ M,L (gU h l)=M:=⟨_,rfl⟩;have cx:M<=64:=ι (Aq h l).2;have a1:iC [(h,l)]=true:=by
  have:=(nC aD (ύ:0<L [p])).1;simp only[oU,a4]at this;exact Pt this
 have bk:=Zx (fun a (f:Below w.heap.size w a)=>sV ak al xs am ď [p] _ a (aj.B f) (aB.B f) (b4.B f) (a8.B f) aD rfl);have aK:=Zx (fun a (f:Below w.heap.size w a)=>Ay aE x a (aj.B f) (a5.B f) a6 bX bV);rw[bW]at aK;have aL:=Zx (fun a (f:Below w.heap.size w a)=>Az aE x a (a5.B f) a6);rw[bY]at aL;have aM:=Zx (fun a (f:Below w.heap.size w a)=>show ∃ b off da dc,xs=J ⟨b,off,O⟩/\a.cell? ⟨b,off,O⟩=J (G p.1)/\a.cell? ⟨b,off+1,O⟩=J (G p.2)/\a.cell? ⟨b,off+2,O⟩=J (D da 1 dc)/\fN a (D da 1 dc) 1 [(h,l)]by
  obtain⟨cS,d0,b3,-,T⟩:=qX (a8.B f)
  simp only[Χ,qr,ϵ]at b3
  obtain⟨rfl,rfl⟩:=b3
  obtain⟨b,off,da,dc,e,-,c0,c1,c2,ai⟩:=T.o 0 ύ
  simp only[oU,a4,rj,kG,qr]at c0 c1 c2 ai
  exact⟨b,off,da,dc,e,c0,c1,c2,ai⟩)
 have an:=Zx (fun ba aq da dc V W a (f:Below w.heap.size w a) (ai:fN a (D da 1 dc) 1 [(h,l)]) (ct:a.heap[ba]?=J (C #[G 0] 26 (0,0))) (av:a.heap[aq]?=J (C #[D V 2 W] 143 (0,0))) (cv:Rd a (D V 2 W) 2 1 (χ [Q,R]))=>HP ba aq da 1 dc h nx Q R l f1 f2 M V W a ct av cv a0 (fun q c=>Gg (D da 1 dc) h nx Q l f1 q aA bL ((aj.B f).B c) ((aB.B f).B c) (ai.B c) a1 az U b1 bQ bS) (fun q c=>Gg (D da 1 dc) h nx R l f2 q aA bM ((aj.B f).B c) ((aB.B f).B c) (ai.B c) a1 az U b2 bR bT));have aN:=Zx (fun sa sc g i m n r u y B t v z E a (aS:Rd a (D sa 1 sc) 1 4 (fP ď [p])) (cu:pM a g i m n h nx (Ϣ l) (gU h l) M r u y (L (if f1 then gM l else[])) B (if f1 then gM l else[]) t v z (L (if f2 then gM l else[])) E (if f2 then gM l else[]))=>Ri sa sc ď [p] g i m n h nx (Ϣ l) (gU h l) M r u y _ B _ t v z _ E _ a rfl aS aD cu az (by rw[aA];simp) (iq _) a0 cx (qN _ _ _ (kv _)) rfl (by split<;>first|omega|simp) rfl (by split<;>first|omega|simp));have bj:L ([p]:List (Nat×Nat))=1:=rfl;rw[bj]at bk;obtain⟨ac,bD⟩:∃ d,(if f1 then gM l else[])=d:=⟨_,rfl⟩;obtain⟨ad,bE⟩:∃ d,(if f2 then gM l else[])=d:=⟨_,rfl⟩;rw[bD,bE]at aN an ⊢;unfold yV at an;generalize oZ ď [p] (hJ 1 h nx (Ϣ l) (gU h l) ac) (hJ 1 h nx (Ϣ l) (gU h l) ad)=cO at *;generalize fP ď [p]=bx at *;generalize ϡ ď=Y at *;generalize (L ď)=N at *;generalize Ϣ l=bw at *;generalize gU h l=b5 at *;clear aj aB b4 a8 aD a4 aA bL bM az cy b1 b2 bQ bR bS bT cz a5 a6 bX bV bW bY a0 a1 bj bD bE;obtain⟨cE,cw,cB,cC,cD⟩:=Ϩ DH;have cT:∀ bA a,(callFunc 97 bA).run prog a=.ok (.enter 97 bA) a:=iW func97 ϋ rfl;obtain⟨a7,de,ah⟩:=fO (w:=w) (A:=C #[D ak N al,D xs 1 am] 44) RZ;go_enter func50,ntmps50;go_upto_region 1 with fail
 generalize å w (C #[D ak N al,D xs 1 am] 44)=cR at *;obtain⟨⟨aG,aH⟩,-,-⟩:=ν a7;have bi:=Zx (bk.o _ ah);go_wp2_with fail
 refine bi.o.M ?_;rintro e aF ⟨o,c1,rfl,bO,aw⟩;clear bi aG aH;obtain⟨b0,bZ,db,c8,ay⟩:=fZ (w:=aF) (A:=C #[G N,š (δ Y),D o 1 c1] 123) (Z:=C #[G 0] 26) RZ;have aZ:=ah.trans ((aw.t ay).M ah.size);have⟨bu,bo⟩:=ϟ (θ a7 (aw.t ay)) ((bO.B ay).M ah.size);have cQ:=Zx (show w.heap.size<=aF.heap.size by have:=aw.size;omega);clear aw bO a7 ah;go_upto_region 4 with fail
 generalize å (å aF (C #[G N,š (δ Y),D o 1 c1] 123)) (C #[G 0] 26)=aO at *;have⟨bn,bm,aJ,T⟩:=kX b0 bZ aZ (aK.o aO aZ);generalize aF.heap.size=aI at *;clear b0 bZ aZ ay;go_wp2_with fail
 refine T.o.M ?_;rintro e cM ⟨rfl,aU⟩;have⟨bc,bg⟩:=ϟ aU (aL.o cM (aJ.o.t aU));clear aU T aK aL;go_wp2_with fail
 refine bg.o.M ?_;rintro e a9 ⟨c3,rfl,a2,bH⟩;obtain⟨V,W,rfl⟩:=Η a2;have⟨bl,bd⟩:=ϟ a2 (bc.o.t bH);clear a2 bH bg bc;obtain⟨av,dd,aY⟩:=fO (w:=a9) (A:=C #[D V 2 W] 143) RZ;have⟨ap,bq,br⟩:=iQ (bd.o.t aY) av (Rd.B (Rd.of_own bl.o) aY);clear av aY bd bl;go_upto_region 7 with fail
 generalize å a9 (C #[D V 2 W] 143)=ar at *;generalize a9.heap.size=aq at *;obtain⟨⟨cr,aS,cs⟩,-,-⟩:=Β (θ bn.o ap.o);obtain⟨bC,c6,ax⟩:=fO (w:=ar) (A:=C #[G N,š (δ Y),D o 1 c1,D O 0 0] 192) RZ;have⟨ae,ce,cf,b7,bv⟩:=lM (ap.o.t ax) (θ bq.o ax) (br.o.B ax) bC (show aO.heap.size<=ar.heap.size/\w.heap.size<=aO.heap.size from⟨ap.o.size,aJ.o.size⟩);clear bC ax bq br ap;go_upto_region 9 with fail
 generalize å ar (C #[G N,š (δ Y),D o 1 c1,D O 0 0] 192)=bz at *;generalize ar.heap.size=j at *;obtain⟨⟨aG,aH⟩,-,-⟩:=ν (θ bu.o ae.o);have⟨bf,b8⟩:=ϟ (aJ.o.t ae.o) (θ bm.o ae.o);have cc:=Zx ((bo.o.off (H:=(· =j)) (fun b cU e=>by have e:b=j:=e;have:=bv.o;omega)).B ae.o);clear cr aS cs bn bm bu bo ae;go_wp2;go_loopw [31] (fun aC wr=>(aC=G 0/\ϫ (Below bz.heap.size bz wr))\/(aC=G 1/\∃ g i m n r u y B t v z E,ϫ (wr.heap[j]?=J (C #[G N,š (δ Y),D o 1 c1,D g 1 i] 192 (0,0))/\pM wr g i m n h nx bw b5 M r u y (L ac) B ac t v z (L ad) E ad/\Rd wr (D o 1 c1) 1 4 bx/\wr.heap[aI+1]?=J (C #[G 0] 26 (0,0))/\Below w.heap.size w wr))) (fun aC _=>1 - (intOf aC).toNat)
 .exact .inl ⟨rfl,⟨ρ _ _⟩⟩
 rcases hrel with ⟨rfl,ao⟩|⟨rfl,g,i,m,n,r,u,y,B,t,v,z,E,X⟩
 .clear aG aH
  obtain⟨b,off,da,dc,rfl,co,cp,cq,bB⟩:=aM.o wr (bf.o.t ao.o);obtain⟨bF,c9,aX⟩:=fO (w:=wr) (A:=C #[G p.1,G p.2,D da 1 dc] 92) RZ;have⟨S,cb,ca⟩:=iQ (ao.o.t aX) (bB.B aX) bF;have⟨bb,bh,bs,bt,cd⟩:=lM (θ b7.o S.o) (θ b8.o S.o) (Ν (θ ce.o S.o) (cf.o.B S.o)) (bf.o.t S.o) (cc.o.B S.o);have cV:=ao.o.size;clear bB bF aX ao S aM;go_upto_region 12 with fail
  generalize å wr (C #[G p.1,G p.2,D da 1 dc] 92)=q at *;generalize wr.heap.size=cP at *;obtain⟨⟨cG,cH,b6⟩,-,-⟩:=Β ca.o;obtain⟨⟨aP,aQ,aR,au⟩,-,c7⟩:=ϩ bb.o;clear co cp cq;have k:=(ρ q.heap.size q).drew;refine ϯ (fun cg=>Below q.heap.size q cg) 7 ϋ ?_;refine Zf 0 k ?_;refine Zk 1 k ?_ (hy:=by intro a f;have cY:=ζ f au;go_simp;try with_reducible rfl);refine Zf 2 k ?_;refine Zf 3 k ?_;refine Zb 4 [5,6,7] k ?_ (hy:=by intro a f;have cZ:=ζ f b6;go_simp;try with_reducible rfl);refine Κ (fuel:=4) 5 ϋ rfl ?_;intro K I;go_simp;refine(an.o (aI+1) aq da dc V W _ (bt.o.t k) (cb.o.B k) (θ bh.o k) (θ bs.o.1 k) (bs.o.2.B k)).M ?_;rintro e F ⟨m,n,r,u,y,B,t,v,z,E,rfl,bP,bI⟩;have ag:=k.trans bI;refine I _ _ ag ?_;clear I K;try simp only[Zp]
  have aW:=(ρ F.heap.size F).A NZ (C #[D m 2 n] 181);have bG:=ag.t aW;refine Κ (fuel:=3) 6 ϋ rfl ?_;intro K I;go_simp;refine I _ _ bG ?_;clear I K;try simp only[Zp]
  have bp:=Zx (oj (P:=prog) (tx:=190) (e:=181) underlying190 F #[D m 2 n] 1 1 1 F.heap.size rfl rfl ϗ);refine jF (fuel:=2) ϋ ϋ rfl ?_;intro K I;refine lD rfl (.tmp 36) (.tmp 41) 190 190 rfl (F.heap.size+1) 181 cE (D O 0 0) 1 24 underlying190 cw cB cC cD rfl (D O 0 0) 0 [] ϔ (gQ _ _ _ _) (D (J ⟨F.heap.size,0,O⟩) 1 1) 1 _ ϔ bp.o ώ U ύ ?_;intro c4 ab a3 bN cA;obtain⟨g,i,rfl⟩:=Η a3;refine I _ _ ?_;clear I K;try simp only[Zp]
  have bJ:Below (å F (C #[D m 2 n] 181)).heap.size (å F (C #[D m 2 n] 181)) ab:=RZ.grown bN NZ (fun d1 e=>by cases e);have aV:=aW.t bJ;have aa:=ag.t aV;refine Zf 8 aa ?_;have aT:=θ bb.o aa;have cX:j<F.heap.size:=ι ag.size;have hF:ϫ ((ŝ ab ⟨j,3,O⟩ (D g 1 i)).heap[j]?=J (C #[G N,š (δ Y),D o 1 c1,D g 1 i] 192 (0,0))/\pM (ŝ ab ⟨j,3,O⟩ (D g 1 i)) g i m n h nx bw b5 M r u y (L ac) B ac t v z (L ad) E ad/\Rd (ŝ ab ⟨j,3,O⟩ (D g 1 i)) (D o 1 c1) 1 4 bx/\(ŝ ab ⟨j,3,O⟩ (D g 1 i)).heap[aI+1]?=J (C #[G 0] 26 (0,0))/\Below w.heap.size w (ŝ ab ⟨j,3,O⟩ (D g 1 i))):=by
   have af:=((bP.B aV).set (p:=⟨j,3,O⟩) (show j<_ by have:=k.size;omega) (D g 1 i)).now;have cW:=bv.o;exact⟨υ _ j 3 _ _ _ aT,⟨((Hi.own a3).set (p:=⟨j,3,O⟩) (U:j<_) _).now,af.1,af.2.1.1,af.2.1.2,af.2.2.1,af.2.2.2⟩,((cd.o.B aa).set (p:=⟨j,3,O⟩) rfl _).now,(Γ _ _ _ _ ϑ).trans (θ bh.o aa),(bt.o.t aa).S ϑ _⟩
  obtain⟨⟨cI,cJ,cK,cL⟩,⟨ck,cl,cm,cn⟩,cN⟩:=ϩ aT;refine Ze 9 ?_;refine Zd ?_;clear cG cH b6 aP aQ aR au cI cJ cK cL ck cl cm cn cN aT k ag bG aa bI aW bJ aV bP a3 bN cA bp;go_wp2_with fail
  go_roundw
  .exact .inr ⟨rfl,g,i,m,n,r,u,y,B,t,v,z,E,hF⟩
  exact gG
 .obtain⟨⟨aP,aQ,aR,au⟩,-,-⟩:=ϩ X.o.1
  obtain⟨cj,-,-⟩:=gC X.o.2.2.2.1;have⟨T,be⟩:=ϟ (aN.o o c1 g i m n r u y B t v z E wr X.o.2.2.1 X.o.2.1) X.o.2.2.2.2;clear X an aN aM aG aH;go_wp2_with fail
  refine T.o.M ?_;rintro e c5 ⟨ch,cF,ci,rfl,bU,bK⟩;have b9:=Zx (Ν (bU.M be.o.size) (be.o.t bK));clear bU bK T aP aQ aR au cj;go_wp2;go_ret2;exact⟨ch,cF,ci,rfl,b9.o⟩
def KN:(prog.info? 24).map (fun i=>(i.zero,i.size,i.bytes))=J (J .nilFunc,1,8):=ϋ
def oW (b:Nat) (w:β) (i h:List Int) (k:Nat) (d:β):Prop:=Ο b w d/\∃ f g,d.heap[b]?=J (C #[f,g] 23 (0,0))/\(k<=2->f=D O 0 0)/\(k<=3->g=D O 0 0)/\(3<=k->∃ a c,f=D a (L i) c/\Α (· =b) d (fun e=>Rd e (D a (L i) c) (L i) 1 (τ i)))/\(4<=k->∃ a c,g=D a (L h) c/\Α (· =b) d (fun e=>Rd e (D a (L h) c) (L h) 1 (τ h)))
def oW.B {F w r1 r2 k W V} (h:oW F w r1 r2 k W) (a:BQ W V) (l:k<=1):oW F w r1 r2 (k+1) V:=by
 obtain⟨b,f,g,c,d,e,i,j⟩:=h;exact⟨b.B a,f,g,θ c a,fun _=>d U,fun _=>e U,fun _=>U,fun _=>U⟩
def oW.two {F w r1 r2} {d b:β} {e} (h:oW F w r1 r2 2 d) (g:yI F 0 #[D O 0 0,D O 0 0] r1 d e b):e=ŗ (.bool true)/\oW F w r1 r2 3 b:=by
 obtain⟨f,-⟩:=h;obtain⟨a,c,j,l,i,k⟩:=g;exact⟨j,f.trans i,_,_,l,fun _=>U,fun _=>rfl,fun _=>⟨a,c,rfl,k⟩,fun _=>U⟩
def oW.three {F w r1 r2} {d b:β} {e a1 c1} (h:oW F w r1 r2 3 d) (l:Α (· =F) d (fun b=>Rd b (D a1 (L r1) c1) (L r1) 1 (τ r1))) (i:yI F 1 #[D a1 (L r1) c1,D O 0 0] r2 d e b):e=ŗ (.bool true)/\oW F w r1 r2 4 b:=by
 obtain⟨g,-⟩:=h;obtain⟨a,c,j,m,f,k⟩:=i;exact⟨j,g.trans f,_,_,m,fun _=>U,fun _=>U,fun _=>⟨a1,c1,rfl,l.oneCh rfl f⟩,fun _=>⟨a,c,rfl,k⟩⟩
structure mj (lo:Nat) (w:β) (v:ε) (n:Nat) (fs:List ε) (X:β->Prop) (W:β):Prop where
 b:Below lo w W
 o:W.ownsRow lo 24 1 v n fs
 x:Α (kJ lo v) W X
 z:lo<=W.heap.size
def mj.A {lo w v n fs X W} (h:mj lo w v n fs X W) (b:Array ε) (T):mj lo w v n fs (fun a=>X a/\a.heap[W.heap.size]?=J (C b T (0,0))) (å W (C b T)):=by
 have c:=(ρ _ W).A NZ (C b T);refine⟨h.b.trans (c.M h.z),ψ h.o c,(h.x.B c).and fun a d=>?_,by have:=h.z;simp;omega⟩;refine(d _ ύ fun e=>?_).trans (φ W _);rcases e with e|e
 .have:=h.z;omega
 .have:=(Ϡ h.o _ e).2;omega
def mj.B {lo w v n fs X W V} (h:mj lo w v n fs X W) (a:BQ W V):mj lo w v n fs X V:=
 ⟨h.b.trans (a.M h.z),ψ h.o a,h.x.B a,gw a.size h.z⟩
def mj.grown {lo w} {v a:ε} {n k} {g f:List ε} {X} {d c:β} (h:mj lo w v n g X d) (i:c.ownsRow lo 24 1 a k f) (l:d.grownBy c v.ownBlock) (j:a.ownBlock=v.ownBlock\/a.ownBlock=J d.heap.size):mj lo w a k f X c:=
 ⟨h.b.grown l h.z (fun b e=>(Ϡ h.o b e).1),i,h.x.grown l j,gw l.size h.z⟩
