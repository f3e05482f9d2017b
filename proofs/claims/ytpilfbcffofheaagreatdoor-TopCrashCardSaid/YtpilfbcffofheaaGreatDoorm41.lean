/- Part 41 of the proof. -/
import Derived.Test.YtpilfbcffofheaaGreatDoorm37
import Derived.Test.YtpilfbcffofheaaGreatDoorm40
set_option linter.unusedVariables false
set_option linter.unusedSimpArgs false
set_option maxRecDepth 100000
set_option maxHeartbeats 4000000
namespace Go.Proofs.YtpilfbcffofheaaGreatDoor
open Go.Proofs.Tryz Go.RowKit Go.Sort
open Value renaming string->š,slice->D,int->ĭ,agg->ā,pointer->þ
open Option renaming none->O,some->J
open Obj renaming cells->C
open List renaming length->L
open World renaming alloc->å,setCell->ŝ
open Ending renaming returned->ŗ
def nM (docs:List (γ)) (ps:List (Nat×Nat)) (p1 p2:γ):γ:=[1]++Ζ (ϲ docs ps)++ξ 2++p1++p2
def lu (t nx d:γ) (b a:ε):List ε:=[IZ 1,š (δ t),š (δ nx),š (δ d),b,a]
structure oC (w:β) (qa:Option Addr) (qc:Nat) (la:Option Addr) (lc:Nat) (t nx d:γ) (path:List (γ)) (k:Nat) (pa1:Option Addr) (pc1:Nat) (ta1:Option Addr) (tn1 tc1:Nat) (ds1:γ) (pa2:Option Addr) (pc2:Nat) (ta2:Option Addr) (tn2 tc2:Nat) (ds2:γ):Prop where
 q:Rd w (D qa 1 qc) 1 1 [D la 2 lc]
 l:Rd w (D la 2 lc) 2 6 (lu t nx d (D pa1 k pc1) (D ta1 tn1 tc1)++lu t nx d (D pa2 k pc2) (D ta2 tn2 tc2))
 p1:Rd w (D pa1 k pc1) k 1 (σ path)
 d1:Rd w (D ta1 tn1 tc1) tn1 1 (η ds1)
 p2:Rd w (D pa2 k pc2) k 1 (σ path)
 d2:Rd w (D ta2 tn2 tc2) tn2 1 (η ds2)
theorem oC.below {w b:β} {n:Option Addr} {o:Nat} {f:Option Addr} {g:Nat} {t nx d:γ} {path:List (γ)} {k:Nat} {i:Option Addr} {l:Nat} {p:Option Addr} {u r:Nat} {c:γ} {j:Option Addr} {m:Nat} {q:Option Addr} {v s:Nat} {e:γ} (h:oC w n o f g t nx d path k i l p u r c j m q v s e) (a:Below w.heap.size w b):oC b n o f g t nx d path k i l p u r c j m q v s e:=
 ⟨h.q.below a,h.l.below a,h.p1.below a,h.d1.below a,h.p2.below a,h.d2.below a⟩
theorem mW {w:β} {a:Option Addr} {n c s:Nat} {xs:List ε} (h:Rd w (D a n c) n s xs) (g:0<n):∃ b off,a=J ⟨b,off,O⟩/\∀ k u,xs[k]?=J u->w.cell? ⟨b,off+k,O⟩=J u:=by
 obtain⟨-,-,⟨-,-,-,i⟩|⟨b,off,f,d,-,-,-,e⟩⟩:=h
 .omega
 simp only[Ξ,Ϯ]at d;exact⟨b,off,d.1,e⟩
theorem Oj (sa:Option Addr) (sc:Nat) (docs:List (γ)) (ps:List (Nat×Nat)) (U:Option Addr) (V:Nat) (a4:Option Addr) (a5:Nat) (t nx d:γ) (path:List (γ)) (k:Nat) (ai:Option Addr) (ak:Nat) (am:Option Addr) (Q ao:Nat) (y:γ) (aj:Option Addr) (al:Nat) (an:Option Addr) (R ap:Nat) (z:γ) (w:β) (aN:L ps=1) (aG:Rd w (D sa 1 sc) 1 4 (Ϸ docs ps)) (T:ϵ docs ps (L docs)) (B:oC w U V a4 a5 t nx d path k ai ak am Q ao y aj al an R ap z)
  (M:L t<=64) (K:L nx<=64) (I:L d=32) (ag:L path=k) (ac:k<=64) (G:ϭ path) (aK:L y=Q) (aQ:Q<=4000) (aL:L z=R) (aR:R<=4000) :
  Calls prog 100 #[ā #[IZ (L docs),š (δ (ϣ docs)),D sa 1 sc,D U 1 V]] w (lP (nM docs ps (gA 1 t nx d path y) (gA 1 t nx d path z)) w):=by
 obtain⟨aO,a9,aI⟩:=Ϻ (w:=w) (A:=C #[IZ (L docs),š (δ (ϣ docs)),D sa 1 sc,D U 1 V] 192) RZ;have l1:=kV (l:=ϲ docs ps) (by have:=jP T;omega);have ba:=jP T;have b1:=vM (n:=1) (t:=t) (nx:=nx) (d:=d) (ds:=y) (path:=path) ϊ M K I ϊ G ϊ;have b2:=vM (n:=1) (t:=t) (nx:=nx) (d:=d) (ds:=z) (path:=path) ϊ M K I ϊ G ϊ;have b3:=fQ 8 2 ϊ;have az:=Zx (fun a g l h (o:Below w.heap.size w h) (j:WS a g h l) (u:a<=g) (x:L l<=10000000)=>wJ a g (D sa 1 sc) docs ps l h j u (by rw[aN];exact aG.below o) T x);have aA:=Zx (fun a g l h (j:WS a g h l) (u:a<=g) (x:L l<=10000000)=>EX a g 2 l h j u ϊ x);have aB:=Zx (fun a g l h (o:Below w.heap.size w h) (N:w.heap.size<=a) (j:WS a g h l) (u:a<=g) (x:L l<=100000)=>Fa a g 1 t nx d ai k ak path am Q ao y l h j u ϊ M K I ag ac G (fun aa v=>B.p1.below (o.trans (v.mono N))) aK aQ (fun aa v=>B.d1.below (o.trans (v.mono N))) x);have aC:=Zx (fun a g l h (o:Below w.heap.size w h) (N:w.heap.size<=a) (j:WS a g h l) (u:a<=g) (x:L l<=100000)=>Fa a g 1 t nx d aj k al path an R ap z l h j u ϊ M K I ag ac G (fun aa v=>B.p2.below (o.trans (v.mono N))) aL aR (fun aa v=>B.d2.below (o.trans (v.mono N))) x);have Y:=Zx (fun h (o:Below w.heap.size w h)=>B.below o);unfold nM;generalize Ζ (ϲ docs ps)=F at *;generalize gA 1 t nx d path y=Z at *;generalize gA 1 t nx d path z=aD at *;generalize ξ 2=S at *;generalize ϣ docs=aZ at *;generalize(L docs:Int)=a6 at *;have aE:((1:Nat):Int)=1:=ϊ;have aF:((2:Nat):Int)=2:=ϊ;rw[aE]at aB aC;rw[aF]at aA;clear aG T B M K I ag ac G aK aQ aL aR aE aF aN;go_enter func100,ntmps100;go_upto_region 1 with (fail)
 generalize å w (C #[IZ a6,š (δ aZ),D sa 1 sc,D U 1 V] 192)=i at *;go_upto_region 2 with (fail)
 have j:WS i.heap.size (i.heap.size+1) (å (å i (C #[ĭ .u8 1] 5)) (C #[D (J ⟨i.heap.size,0,O⟩) 1 1,.bool false] 227)) [1]:=zV i 1;have ad:Below i.heap.size i (å (å i (C #[ĭ .u8 1] 5)) (C #[D (J ⟨i.heap.size,0,O⟩) 1 1,.bool false] 227)):=ġ.alloc ύ _;generalize(å (å i (C #[ĭ .u8 1] 5)) (C #[D (J ⟨i.heap.size,0,O⟩) 1 1,.bool false] 227))=a0 at *;have s:=aI.size;have a3:=a9;have ah:=θ aO ad;generalize i.heap.size=a at *;have af:=aI.trans (ad.mono s);have ay:=Zx (az.o _ _ _ a0 af j ϊ ύ);obtain⟨⟨c0,c1,c2,ab⟩,-,-⟩:=Ϫ ah;clear j ad;go_wp2_with fail
 refine ay.o.mono ?_;rintro e bb ⟨rfl,aS,ae⟩;have aP:=(ae.block _ a3).trans ah;have aJ:=af.trans (ae.mono s);have iD:=Zx aS;clear ay c0 c1 c2 ab aS ae ah az aO af;obtain⟨⟨c0,c1,c2,ab⟩,-,-⟩:=Ϫ aP;go_wp2;go_loopw [25] (fun m wr=>(m=IZ 0/\Ϭ (WS a (a+1) wr ([1]++F)/\Below w.heap.size w wr))\/(m=IZ 1/\Ϭ (WS a (a+1) wr ([1]++F++S++Z++aD)/\Below w.heap.size w wr))) (fun m _=>1 - (intOf m).toNat)
 case atStart=>exact .inl ⟨rfl,⟨iD.o,aJ⟩⟩
 case round =>
  clear iD aJ aP c0 c1 c2 ab;rcases hrel with ⟨rfl,c⟩|⟨rfl,c⟩
  .obtain⟨b,off,rfl,f⟩:=mW (Y.o wr c.o.2).q ϊ
   have aU:=f 0 _ rfl;simp only[kW]at aU;have r:=Zx (aA.o a (a+1) _ wr c.o.1 ϊ ό);clear f;go_wp2_with fail
   refine r.o.mono ?_;rintro e bc ⟨rfl,aT,aH⟩;have ax:=Zx (Γ aT (c.o.2.trans (aH.mono s)));clear r aU aT aH c;go_wp2;go_loopw [37] (fun m wr=>(m=IZ 0/\Ϭ (WS a (a+1) wr ([1]++F++S)/\Below w.heap.size w wr))\/(m=IZ 1/\Ϭ (WS a (a+1) wr ([1]++F++S++Z)/\Below w.heap.size w wr))\/(m=IZ 2/\Ϭ (WS a (a+1) wr ([1]++F++S++Z++aD)/\Below w.heap.size w wr))) (fun m _=>2 - (intOf m).toNat)
   case atStart=>exact .inl ⟨rfl,ax⟩
   case round =>
    clear ax;rcases hrel with ⟨rfl,c⟩|⟨rfl,c⟩|⟨rfl,c⟩
    .obtain⟨b2,a8,rfl,f⟩:=mW (Y.o wr c.o.2).l ϊ
     have W:=f 0 _ rfl;have aq:=f 1 _ rfl;have ar:=f 2 _ rfl;have au:=f 3 _ rfl;have av:=f 4 _ rfl;have aw:=f 5 _ rfl;simp only[kW]at W;have p:=(φ wr.heap.size wr).alloc NZ (C #[IZ 1,š (δ t),š (δ nx),š (δ d),D ai k ak,D am Q ao] 185);have r:=Zx (aB.o a (a+1) _ _ (c.o.2.trans (p.mono c.o.2.size)) s (c.o.1.below p) ϊ ό);have E:=Zx (c.o.2.trans (p.mono c.o.2.size));clear f p c;go_wp2_with fail
     refine r.o.mono ?_;rintro e aV ⟨rfl,P,H⟩;have X:=Zx (Γ P (E.o.trans (H.mono s)));clear r E P H W aq ar au av aw;go_wp2_with fail
     go_roundw;case rel=>exact .inr (.inl ⟨rfl,X⟩)
     case measure=>simp[intOf]
    .obtain⟨b2,a8,rfl,f⟩:=mW (Y.o wr c.o.2).l ϊ
     have W:=f 6 _ rfl;have aq:=f 7 _ rfl;have ar:=f 8 _ rfl;have au:=f 9 _ rfl;have av:=f 10 _ rfl;have aw:=f 11 _ rfl;have p:=(φ wr.heap.size wr).alloc NZ (C #[IZ 1,š (δ t),š (δ nx),š (δ d),D aj k al,D an R ap] 185);have r:=Zx (aC.o a (a+1) _ _ (c.o.2.trans (p.mono c.o.2.size)) s (c.o.1.below p) ϊ ό);have E:=Zx (c.o.2.trans (p.mono c.o.2.size));clear f p c;go_wp2_with fail
     refine r.o.mono ?_;rintro e aV ⟨rfl,P,H⟩;have X:=Zx (Γ P (E.o.trans (H.mono s)));clear r E P H W aq ar au av aw;go_wp2_with fail
     go_roundw;case rel=>exact .inr (.inr ⟨rfl,X⟩)
     case measure=>simp[intOf]
    .go_wp2_with fail
     go_roundw;case rel=>exact .inr ⟨rfl,c⟩
     case measure=>simp[intOf]
  .have aX:=Zx (zO a (a+1) _ wr c.o.1 ό)
   have aW:=Zx c.o.2;clear c;go_wp2_with fail
   refine aX.o.mono ?_;rintro e aV ⟨a1,a7,a2,rfl,aM,rfl⟩;have aY:=Zx (aM.mono s);clear aM;go_wp2;go_ret2;exact⟨a1,a7,a2,rfl,aY.o,aW.o⟩
theorem Cs:(prog.info? 185).map (fun i=>(i.zero,i.size,i.bytes))=J (J (ā #[IZ 0,š ByteArray.empty,š ByteArray.empty,š ByteArray.empty,D O 0 0,D O 0 0]),6,104):=ϋ
theorem Ct:(prog.info? 181).map (fun i=>(i.zero,i.size,i.bytes))=J (J (D O 0 0),1,24):=ϋ
def H3 (g R S:Nat) (v:ε) (b:Nat):Prop:=b=g\/b=R\/b=S\/v.ownBlock=J b
theorem ς.grown3 {g R S:Nat} {v a:ε} {w w':β} {Q:β->Prop} (h:ς (H3 g R S v) w Q) (hg:w.grownBy w' v.ownBlock) (hv:a.ownBlock=v.ownBlock\/a.ownBlock=J w.heap.size):ς (H3 g R S a) w' Q:=by
 refine h.step hg.size (fun b c g2=>hg.block b c fun e=>g2 (.inr (.inr (.inr e.symm)))) fun b c g2=>?_;rcases g2 with g2|g2|g2|g2
 .exact .inl g2
 .exact .inr (.inl g2)
 .exact .inr (.inr (.inl g2))
 .rcases hv with hv|hv
  .rw[hv]at g2;exact .inr (.inr (.inr g2))
  .rw[hv]at g2;injection g2 with g2;omega
theorem Hi.h3 {lo g R S:Nat} {v:ε} {w:β} {Q:β->Prop} (h:Hi lo w Q) (c:g<lo/\R<lo/\S<lo) (a:∀ q,v.ownBlock=J q->q<lo):ς (H3 g R S v) w Q:=
 h.off fun b _ e=>by rcases e with e|e|e|e;omega;omega;omega;exact a b e
structure jY (g R S lo:Nat) (zr cs:Obj) (w:β) (B:γ) (p:Nat) (v:ε) (n:Nat) (xs:List ε) (X:β->Prop) (W:β):Prop where
 rs:∃ a n c,W.heap[g]?=J (C #[D a n c,IZ (p:Int),IZ 0] 238 (0,0))/\L B=n/\ς (H3 g R S v) W (fun w2=>Rd w2 (D a n c) n 1 (η B))
 r:W.heap[R]?=J zr
 s:W.heap[S]?=J cs
 b:Below w.heap.size w W
 o:W.ownsRow lo 185 6 v n xs
 x:ς (H3 g R S v) W X
 z:lo<=W.heap.size/\R<lo/\S<lo/\g<lo/\w.heap.size<=g/\w.heap.size<=S/\R≠g/\S≠g/\R≠S
theorem jY.toRs {g R S lo:Nat} {o i:Obj} {w:β} {d:γ} {p n:Nat} {v:ε} {xs:List ε} {X:β->Prop} {f:β} (h:jY g R S lo o i w d p v n xs X f):RS 238 g f d p:=by
 obtain⟨a,m,c,j,k,l⟩:=h.rs;exact⟨a,m,c,j,k,l.sub (fun b _ e=>.inl e)⟩
theorem jY.call {g R S lo:Nat} {r k:Obj} {w:β} {f:γ} {p n:Nat} {v:ε} {xs:List ε} {X:β->Prop} {j:β} {q:Nat} {i:β} (h:jY g R S lo r k w f p v n xs X j) (x:gT 238 g j.heap.size i f q) (d:Η g j i):jY g R S lo r k w f q v n xs X i:=by
 obtain⟨G,z,A,B,l,E,m,o,F⟩:=h.z;obtain⟨a,y,c,s,t,u⟩:=x;exact⟨⟨a,y,c,s,t,u.h3 ⟨ϊ,ϊ,ϊ⟩ (fun b e=>(Ν h.o b e).2)⟩,d.row m h.r,d.row o h.s,d.to h.b h.b.size l,jT h.o (fun b e=>d.2.1 b (Ν h.o b e).2 (by have:=(Ν h.o b e).1;omega)),h.x.oneCh (.inl rfl) d,⟨by have:=d.1;omega,z,A,B,l,E,m,o,F⟩⟩
theorem jY.below {g R S lo:Nat} {j i:Obj} {w:β} {e:γ} {p n:Nat} {v:ε} {xs:List ε} {X:β->Prop} {d:β} {f:β} (h:jY g R S lo j i w e p v n xs X d) (b:Below d.heap.size d f):jY g R S lo j i w e p v n xs X f:=by
 obtain⟨r,q⟩:=h.z;obtain⟨a,o,c,k,l,m⟩:=h.rs;exact⟨⟨a,o,c,θ k b,l,m.below b⟩,θ h.r b,θ h.s b,h.b.trans (b.mono h.b.size),Υ h.o b,h.x.below b,⟨by have:=b.size;omega,q⟩⟩
theorem jY.grown {g R S lo:Nat} {t m:Obj} {w:β} {l:γ} {p n:Nat} {v:ε} {xs:List ε} {X:β->Prop} {f:β} {k:Nat} {i:ε} {ys:List ε} {d:β} (h:jY g R S lo t m w l p v n xs X f) (z:d.ownsRow lo 185 6 i k ys) (hg:f.grownBy d v.ownBlock) (o:i.ownBlock=v.ownBlock\/i.ownBlock=J f.heap.size):jY g R S lo t m w l p i k ys X d:=by
 obtain⟨K,q,r,s,B,E,F,G,H⟩:=h.z;have j:∀ b,b<lo->d.heap[b]?=f.heap[b]?:=fun b I=>hg.block b ϊ (fun e=>by have:=(Ν h.o b e.symm).1;omega);obtain⟨a,A,c,u,x,y⟩:=h.rs;exact⟨⟨a,A,c,(j g s).trans u,x,y.grown3 hg o⟩,(j R q).trans h.r,(j S r).trans h.s,h.b.grown hg h.b.size (fun b e=>by have:=(Ν h.o b e).1;omega),z,h.x.grown3 hg o,⟨by have:=hg.size;omega,q,r,s,B,E,F,G,H⟩⟩
theorem jY.add {g R S lo:Nat} {f d:Obj} {w:β} {c:γ} {p n:Nat} {v:ε} {xs:List ε} {X:β->Prop} {a:β} {b:Nat} {Y:β->Prop} (h:jY g R S lo f d w c p v n xs X a) (hy:Hi b a Y) (j:lo<=b) (i:∀ q,v.ownBlock=J q->q<b):jY g R S lo f d w c p v n xs (fun e=>X e/\Y e) a:=
 ⟨h.rs,h.r,h.s,h.b,h.o,h.x.and (hy.h3 (by have:=h.z;omega) i),h.z⟩
def xb (docs:List (γ)) (t nx d:γ) (path:List (γ)) (k:Nat) (ps:List (Nat×Nat)) (a b:γ) (w:β) (e:Ending) (w':β):Prop:= ∃ sa sc c f g h i l n p j m o q,e=ŗ (.tuple #[ā #[IZ (L docs),š (δ (ϣ docs)),D sa 1 sc,D c 1 f],IZ 0])/\Rd w' (D sa 1 sc) 1 4 (Ϸ docs ps)/\oC w' c f g h t nx d path k i l n (L a) p a j m o (L b) q b/\Below w.heap.size w w'
def Af (g R S q:Nat) (p:Int) (i:γ) (sa:Option Addr) (sc:Nat) (j:List ε) (t nx d:γ) (path:List (γ)) (k:Nat) (c e:γ) (w a:β):Prop:= ∃ f h n o r u x z s v y A l m,a.heap[S]?=J (C #[IZ p,š (δ i),D sa 1 sc,D f 1 h] 192 (0,0))/\a.heap[R]?=J (C #[IZ 0,š ⟨#[]⟩,D O 0 0,D O 0 0] 192 (0,0))/\a.heap[g]?=J (C #[D l q m,IZ (q:Int),IZ 0] 238 (0,0))/\ς (· =R) a (fun b=>Rd b (D sa 1 sc) 1 4 j/\oC b f h n o t nx d path k r u x (L c) z c s v y (L e) A e)/\Below w.heap.size w a
theorem Lx (a:Option Addr) (n c:Nat) (docs:List (γ)) (ps:List (Nat×Nat)) (t nx d:γ) (path:List (γ)) (k:Nat) (f m:γ) (w:β) (br:L ps=1) (an:L (nM docs ps (gA 1 t nx d path f) (gA 1 t nx d path m))=n) (aV:Rd w (D a n c) n 1 (η (nM docs ps (gA 1 t nx d path f) (gA 1 t nx d path m)))) (aJ:ϵ docs ps (L docs))
  (ar:L t<=64) (ap:L nx<=64) (al:L d=32) (bo:L path=k) (bM:k<=64) (ah:ϭ path) (aW:L f<=4000) (aX:L m<=4000) :
  Calls prog 101 #[D a n c] w (xb docs t nx d path k ps f m w):=by
 have l1:=kV (l:=ϲ docs ps) (by have:=jP aJ;omega);have aG:=jP aJ;have b1:=vM (n:=1) (t:=t) (nx:=nx) (d:=d) (ds:=f) (path:=path) ϊ ar ap al ϊ ah aW;have b2:=vM (n:=1) (t:=t) (nx:=nx) (d:=d) (ds:=m) (path:=path) ϊ ar ap al ϊ ah aX;have b3:=fQ 8 2 ϊ;obtain⟨o,aT⟩:∃ o,nM docs ps (gA 1 t nx d path f) (gA 1 t nx d path m)=o:=⟨_,rfl⟩;rw[aT]at an aV;have V:o=1::(Ζ (ϲ docs ps)++(ξ 2++(gA 1 t nx d path f++(gA 1 t nx d path m++[])))):=by rw[<-aT];simp[nM]
 obtain⟨av,bs⟩:∃ q,1+L (Ζ (ϲ docs ps))=q:=⟨_,rfl⟩;obtain⟨aK,bt⟩:∃ q,av+L (ξ 2)=q:=⟨_,rfl⟩;obtain⟨aL,bu⟩:∃ q,aK+L (gA 1 t nx d path f)=q:=⟨_,rfl⟩;obtain⟨ad,bv⟩:∃ q,aL+L (gA 1 t nx d path m)=q:=⟨_,rfl⟩;have bi:L o=ad:=by rw[V];simp only[Ϧ,ω,gF];omega
 have ai:L o<=1000000000:=ϊ;have ae:=Zx (fun g s (h:RS 238 g s o 1)=>vY g 1 docs ps o [1] _ s h V rfl ai aJ);have aC:=Zx (fun g s (h:RS 238 g s o av)=>Du g av 2 16 o (1::Ζ (ϲ docs ps)) (gA 1 t nx d path f++(gA 1 t nx d path m++[])) s h (by rw[V];simp) ϊ ϊ (by rw[Ϧ];omega) ai);have af:=Zx (fun g s (h:RS 238 g s o aK)=>Dz g aK 1 t nx d path f o (1::(Ζ (ϲ docs ps)++ξ 2)) (gA 1 t nx d path m++[]) s h (by rw[V];simp) (by rw[Ϧ,ω];omega) ai ϊ ar ap al ϊ ah aW);have ag:=Zx (fun g s (h:RS 238 g s o aL)=>Dz g aL 1 t nx d path m o (1::(Ζ (ϲ docs ps)++(ξ 2++gA 1 t nx d path f))) [] s h (by rw[V];simp) (by simp only[Ϧ,ω];omega) ai ϊ ar ap al ϊ ah aX);have bc:((1:Nat):Int)=1:=ϊ;have be:((2:Nat):Int)=2:=ϊ;have bd:((16:Nat):Int)=16:=ϊ;rw[be,bd,bt]at aC;rw[bs]at ae;rw[bu]at af;rw[bv]at ag;unfold xq at af ag;rw[bc]at af ag;unfold RP at aC;unfold sN at ae;rw[br]at ae;have aD:=Zx (fun s (h:Rd s (D a n c) n 1 (η (1::(Ζ (ϲ docs ps)++(ξ 2++(gA 1 t nx d path f++(gA 1 t nx d path m++[])))))))=>zj a n c 1 _ s (by rw[<-V];exact an) ϊ h);rw[<-V]at aD;have bp:(((1:UInt8).toNat:Nat):Int)=1:=ϐ;rw[bp]at aD;obtain rfl:ad=n:=by rw[<-an,bi]
 have a3:=Zx (fun bK bL s=>rh bK ad bL s);have bG:=Zx an;have a6:=Zx bo;unfold xb;generalize ϣ docs=E at *;generalize Ϸ docs ps=Z at *;generalize(L docs:Int)=F at *;clear aJ ar ap al bo bM ah aW aX bc be bd bp bs bt bu bv V aT bi ai l1 aG b1 b2 b3 an br;obtain⟨bw,cp,ak⟩:=Ϻ (w:=w) (A:=C #[IZ 0,š ⟨#[]⟩,D O 0 0,D O 0 0] 192) RZ;have a7:=Zx (aV.below ak);clear aV;obtain⟨bE,bn,bA,bB,bC⟩:=ϯ Cs;obtain⟨bU,bO,bQ,bR,bS⟩:=ϯ Ct;go_enter func101,ntmps101;go_upto_region 1 with (fail)
 generalize å w (C #[IZ 0,š ⟨#[]⟩,D O 0 0,D O 0 0] 192)=bJ at *;go_wp2_with fail
 refine(aD.o bJ a7.o).mono ?_;rintro e aZ ⟨g,rfl,bz,b9,aH⟩;have aP:=Zx bz;have aO:=Zx (θ bw aH);have a2:=Zx (ak.trans (aH.mono ak.size));have cc:=aH.size;have cb:=ak.size;clear bz bw ak aH a7 aD;go_upto_region 4 with (fail)
 go_wp2_with fail
 refine(ae.o g aZ aP.o).mono ?_;rintro e S ⟨sa,sc,rfl,bx,aI,X⟩;have b8:g<aZ.heap.size:=by obtain⟨_,_,_,h,-,-⟩:=aP.o;exact ο h
 have b5:=ο aO.o;have bN:=aI.1;have ac:=(φ S.heap.size S).alloc NZ (C #[IZ F,š (δ E),D sa 1 sc,D O 0 0] 192);have i:Ϭ (jY g w.heap.size S.heap.size (S.heap.size+1) (C #[IZ 0,š ⟨#[]⟩,D O 0 0,D O 0 0] 192 (0,0)) (C #[IZ F,š (δ E),D sa 1 sc,D O 0 0] 192 (0,0)) w o av (D O 0 0) 0 [] (fun r=>Rd r (D sa 1 sc) 1 4 Z) (å S (C #[IZ F,š (δ E),D sa 1 sc,D O 0 0] 192))):=by
  obtain⟨aE,bV,aF,r1,r2,r3⟩:=bx;have bj:∀ b,b<S.heap.size->H3 g w.heap.size S.heap.size (D O 0 0) b->b<aZ.heap.size:=fun b b7 e=>by
   rcases e with e|e|e|e
   .omega
   .omega
   .omega
   .cases e
  exact⟨⟨⟨aE,bV,aF,θ r1 ac,r2,(r3.off bj).below ac⟩,θ (aI.row ϊ aO.o) ac,χ S _,(aI.to a2.o ϊ ϊ).trans (ac.mono ϊ),hZ _ _ _ _,(X.off bj).below ac,⟨ύ,ϊ,ϊ,ϊ,ϊ,ϊ,ϊ,ϊ,ϊ⟩⟩⟩
 generalize b6:S.heap.size=j at *;have bI:=Zx (show g<j/\w.heap.size<j/\g≠w.heap.size from⟨ϊ,ϊ,ϊ⟩);have a8:=Zx i.o.s;clear bx aI X ac bN aP aO a2 ae;obtain⟨⟨ay,az,aA,aB⟩,-,-⟩:=Ϫ a8.o;go_upto_region 5 with (fail)
 generalize å S (C #[IZ F,š (δ E),D sa 1 sc,D O 0 0] 192)=b4 at *;go_wp2;go_loopw [25] (fun K wr=>(K=IZ 0/\Ϭ (jY g w.heap.size j (j+1) (C #[IZ 0,š ⟨#[]⟩,D O 0 0,D O 0 0] 192 (0,0)) (C #[IZ F,š (δ E),D sa 1 sc,D O 0 0] 192 (0,0)) w o av (D O 0 0) 0 ([]) (fun r=>Rd r (D sa 1 sc) 1 4 Z) wr))\/(K=IZ 1/\Ϭ (Af g w.heap.size j ad F E sa sc Z t nx d path k f m w wr))) (fun K _=>1 - (intOf K).toNat)
 case atStart=>exact .inl ⟨rfl,i⟩
 case round =>
  clear i a8 ay az aA aB;rcases hrel with ⟨rfl,i⟩|⟨rfl,a4⟩
  .go_wp2_with fail
   refine(aC.o g wr i.o.toRs).mono ?_;rintro e cn ⟨rfl,-,bl,bq⟩;have a5:=Zx (i.o.call bq bl);clear i bl bq;go_wp2;go_loopw [7,29] (fun aY K wr=>(aY=D O 0 0/\K=IZ 0/\Ϭ (jY g w.heap.size j (j+1) (C #[IZ 0,š ⟨#[]⟩,D O 0 0,D O 0 0] 192 (0,0)) (C #[IZ F,š (δ E),D sa 1 sc,D O 0 0] 192 (0,0)) w o aK (D O 0 0) 0 ([]) (fun r=>Rd r (D sa 1 sc) 1 4 Z) wr))\/(∃ G H x y z B,aY=D G 1 H/\K=IZ 1/\Ϭ (jY g w.heap.size j (j+1) (C #[IZ 0,š ⟨#[]⟩,D O 0 0,D O 0 0] 192 (0,0)) (C #[IZ F,š (δ E),D sa 1 sc,D O 0 0] 192 (0,0)) w o aL (D G 1 H) 1 (lu t nx d (D x k y) (D z (L f) B)) (fun r=>Rd r (D sa 1 sc) 1 4 Z/\(Rd r (D x k y) k 1 (σ path)/\Rd r (D z (L f) B) (L f) 1 (η f))) wr))\/(∃ G H x y z B M N Q R,aY=D G 2 H/\K=IZ 2/\Ϭ (jY g w.heap.size j (j+1) (C #[IZ 0,š ⟨#[]⟩,D O 0 0,D O 0 0] 192 (0,0)) (C #[IZ F,š (δ E),D sa 1 sc,D O 0 0] 192 (0,0)) w o ad (D G 2 H) 2 (lu t nx d (D x k y) (D z (L f) B)++lu t nx d (D M k N) (D Q (L m) R)) (fun r=>(Rd r (D sa 1 sc) 1 4 Z/\(Rd r (D x k y) k 1 (σ path)/\Rd r (D z (L f) B) (L f) 1 (η f)))/\(Rd r (D M k N) k 1 (σ path)/\Rd r (D Q (L m) R) (L m) 1 (η m))) wr))) (fun _ K _=>2 - (intOf K).toNat)
   case atStart=>exact .inl ⟨rfl,rfl,a5⟩
   case round =>
    clear a5;rcases hrel with ⟨rfl,rfl,i⟩|⟨G,H,x,y,z,B,rfl,rfl,i⟩|⟨G,H,x,y,z,B,M,N,Q,R,rfl,rfl,i⟩
    .go_wp2_with fail
     refine(af.o g wr i.o.toRs).mono ?_;rintro e T ⟨x,Y,y,z,bW,B,rfl,aq,rfl,X,ao,aa⟩;obtain rfl:Y=k:=aq.symm.trans a6.o;have I:=Zx (((i.o.call ao aa).add X i.o.z.1 (fun q e=>by cases e)).below ((φ T.heap.size T).alloc NZ (C #[IZ 1,š (δ t),š (δ nx),š (δ d),D x Y y,D z (L f) B] 185)));have U:=Zx (mZ (P:=prog) (tx:=181) (e:=185) sG T #[IZ 1,š (δ t),š (δ nx),š (δ d),D x Y y,D z (L f) B] 6 1 1 T.heap.size rfl rfl ϗ);have bT:=aa.1;have bD:=i.o.z.1;clear X ao aa aq;go_wp2_with (at_builtin;go_loud (refine gn rfl _ _ _ _ rfl (j+1) 185 bE _ 6 104 sG bn bA bB bC rfl (D O 0 0) 0 [] (by rfl) I.o.o _ 1 _ (by rfl) U.o ώ ϊ ό ?_;intro bX bY ab am au _;obtain⟨aQ,aR,rfl⟩:=Θ ab))
     have aN:=Zx (I.o.grown ab am au);clear ab am au I U;go_roundw;case rel=>exact .inr (.inl ⟨aQ,aR,x,y,z,B,rfl,rfl,aN⟩)
     case measure=>simp[intOf]
    .go_wp2_with fail
     refine(ag.o g wr i.o.toRs).mono ?_;rintro e T ⟨M,Y,N,Q,bW,R,rfl,aq,rfl,X,ao,aa⟩;obtain rfl:Y=k:=aq.symm.trans a6.o;have I:=Zx (((i.o.call ao aa).add X i.o.z.1 (fun q e=>(Ν i.o.o q e).2)).below ((φ T.heap.size T).alloc NZ (C #[IZ 1,š (δ t),š (δ nx),š (δ d),D M Y N,D Q (L m) R] 185)));have U:=Zx (mZ (P:=prog) (tx:=181) (e:=185) sG T #[IZ 1,š (δ t),š (δ nx),š (δ d),D M Y N,D Q (L m) R] 6 1 1 T.heap.size rfl rfl ϗ);have bT:=aa.1;have bD:=i.o.z.1;clear X ao aa aq;go_wp2_with (at_builtin;go_loud (refine gn rfl _ _ _ _ rfl (j+1) 185 bE _ 6 104 sG bn bA bB bC rfl (D G 1 H) 1 (lu t nx d (D x Y y) (D z (L f) B)) (by rfl) I.o.o _ 1 _ (by rfl) U.o ώ ϊ ό ?_;intro bX bY ab am au _;obtain⟨aQ,aR,rfl⟩:=Θ ab))
     have aN:=Zx (I.o.grown ab am au);clear ab am au I U;go_roundw;case rel=>exact .inr (.inr ⟨aQ,aR,x,y,z,B,M,N,Q,R,rfl,rfl,aN⟩)
     case measure=>simp[intOf]
    .have bk:=i.o.s
     have bD:=i.o.z.1;have I:=Zx (i.o.below ((φ wr.heap.size wr).alloc NZ (C #[D G 2 H] 181)));have U:=Zx (mZ (P:=prog) (tx:=190) (e:=181) underlying190 wr #[D G 2 H] 1 1 1 wr.heap.size rfl rfl ϗ);obtain⟨⟨ay,az,aA,aB⟩,⟨bf,f1,f2,f3⟩,b0⟩:=Ϫ bk;clear bk;go_wp2_with (at_builtin;go_loud (refine gn rfl _ _ _ _ rfl (wr.heap.size+1) 181 bU _ 1 24 underlying190 bO bQ bR bS rfl (D O 0 0) 0 [] (by rfl) (hZ _ _ _ _) _ 1 _ (by rfl) U.o ώ ϊ ύ ?_;intro cm bZ aU bm bP _;obtain⟨ba,bb,rfl⟩:=Θ aU;have W:=I.o.below (RZ.grown bm NZ (fun q e=>by cases e));obtain⟨⟨ay,az,aA,aB⟩,⟨bf,f1,f2,f3⟩,b0⟩:=Ϫ W.s))
     have hF:Ϭ (Af g w.heap.size j ad F E sa sc Z t nx d path k f m w (ŝ bZ ⟨j,3,O⟩ (D ba 1 bb))):=by
      obtain⟨aE,cd,aF,r1,r2,r3⟩:=W.rs;have e:=r2.symm.trans bG.o;rw[e]at r1;have ca:=bI.o;exact⟨⟨ba,bb,G,H,x,y,z,B,M,N,Q,R,aE,aF,π _ j 3 _ _ _ W.s,(ψ _ _ _ _ ϑ).trans W.r,(ψ _ _ _ _ ϑ).trans r1,(((W.x.set (p:=⟨j,3,O⟩) (.inr (.inr (.inl rfl))) _).sub (fun b _ e=>.inr (.inl e))).and ((((Hi.own aU).set (p:=⟨j,3,O⟩) (ϊ:j<_) _).off (fun b _ e=>by have e:b=w.heap.size:=e;omega)).and (((Hi.own W.o).set (p:=⟨j,3,O⟩) (ϊ:j<_) _).off (fun b _ e=>by have e:b=w.heap.size:=e;omega)))).imp fun r h=>⟨h.1.1.1,h.2.1,h.2.2,h.1.1.2.1,h.1.1.2.2,h.1.2.1,h.1.2.2⟩,W.b.setCell ϑ _⟩⟩
     clear aU bm bP W I U i ay az aA aB bf f1 f2 f3;go_roundw;case rel=>exact .inr ⟨rfl,hF⟩
     case measure=>simp[intOf]
  .obtain⟨aw,ax,G,H,x,y,z,B,M,N,Q,R,aE,aF,f1,f2,f3,bg,bh⟩:=a4.o
   have F1:=Zx f1;have a0:=Zx f2;have a1:=Zx bg;have aM:=Zx bh;obtain⟨⟨r0,r1,r2⟩,-,-⟩:=Β f3;clear f1 f2 f3 bg bh a4 aC af ag;go_wp2_with fail
   refine(a3.o _ _ _).mono ?_;rintro e co ⟨rfl,aj⟩;have aG:=θ F1.o aj;have aS:=θ a0.o aj;have bH:=Zx (nD aS (IZ F) (š (δ E)) (D sa 1 sc) (D aw 1 ax));have a9:=Zx (((((a1.o.below aj).set (p:=⟨w.heap.size,0,O⟩) rfl (IZ F)).set (p:=⟨w.heap.size,1,O⟩) rfl (š (δ E))).set (p:=⟨w.heap.size,2,O⟩) rfl (D sa 1 sc)).set (p:=⟨w.heap.size,3,O⟩) rfl (D aw 1 ax)).now;have bF:=Zx (oF (aM.o.trans (aj.mono aM.o.size)) (Nat.le_refl w.heap.size) (IZ F) (š (δ E)) (D sa 1 sc) (D aw 1 ax));obtain⟨⟨ay,az,aA,aB⟩,-,-⟩:=Ϫ aG;obtain⟨⟨ce,cf,cg,ch⟩,⟨ci,cj,ck,cl⟩,cq⟩:=Ϫ aS;clear r0 r1 r2 aG aS aj F1 a0 a1 aM a3;go_wp2;refine ϟ (v:=.tuple #[ā #[IZ F,š (δ E),D sa 1 sc,D aw 1 ax],IZ 0]) (gf (p:=2) (u:=3) (ty:=192) rfl _ _ w.heap.size 192 _ (0,0) _ rfl bH.o underlying192 rfl ϋ) rfl ?_;exact⟨sa,sc,aw,ax,G,H,x,y,z,B,M,N,Q,R,rfl,a9.o.1,a9.o.2,bF.o⟩
def FB (w:β) (e:Ending) (w':β):Prop:= ∃ a c,e=ŗ (.tuple #[D a 1 c,IZ 0])/\Hi w.heap.size w' (fun b=>Rd b (D a 1 c) 1 1 (τ [0]))/\Below w.heap.size w w'
theorem Co:(prog.info? 3).map (fun i=>(i.zero,i.size,i.bytes))=J (J (IZ 0),1,8):=ϋ
theorem KZ (F:Option Addr) (n G:Nat) (w:β) (x:L (gr [0])=n) (ae:Rd w (D F n G) n 1 (η (gr [0]))) :
  Calls prog 233 #[D F n G] w (FB w):=by
 have u:gr [0]=[]++(ξ 1++ξ 0):=rfl;have Y:gr [0]=ξ 1++(ξ 0++[]):=by rw[u];simp
 have ad:L (ξ 1)+L (ξ 0)=n:=by rw[<-x,u];simp
 have ay:=fQ 8 1 ϊ;have ax:=fQ 8 0 ϊ;have p:=Zx (ql F n G 0 (gr [0]) [] (ξ 0) 1 w u ϊ rfl x ϊ ae);have l:=Zx (fun a c r (h:Rd r (D a n c) n 1 (η (gr [0])))=>ql a n c (L (ξ 1)) (gr [0]) (ξ 1) [] 0 r Y ϊ rfl x ϊ h);rw[ad]at l;rw[jJ]at p;have X:((1:Nat):Int)=1:=ϊ;have H:((0:Nat):Int)=0:=ϊ;rw[X,H]at p;rw[H]at l;have V:=Zx (fun a c r=>rh a n c r);generalize(L (ξ 1))=p1 at *;generalize gr [0]=ah at *;clear ae u Y x ad ay ax X H;obtain⟨aw,an,ap,aq,ar⟩:=ϯ Co;go_enter func233,ntmps233;go_wp2_with fail
 refine p.o.mono ?_;rintro e j ⟨b,c1,rfl,ac,v⟩;have S:=χ j (C #[D b n c1,IZ (p1:Int),IZ 0] 211);have N:=(φ j.heap.size j).alloc NZ (C #[D b n c1,IZ (p1:Int),IZ 0] 211);have T:=Zx (Γ S (Γ (ac.below N).now (v.trans (N.mono v.size))));have av:w.heap.size<=j.heap.size:=v.size;obtain⟨⟨f,g,i⟩,-,-⟩:=Β S;clear S N ac v p;go_upto_region 2 with (fail)
 generalize å j (C #[D b n c1,IZ (p1:Int),IZ 0] 211)=aC at *;generalize j.heap.size=k at *;go_wp2;go_loopw [6,7,24] (fun af ag y wr=>(y=IZ 0/\af=D O 0 0/\ag=IZ (-1)/\∃ b c1,Ϭ (wr.heap[k]?=J (C #[D b n c1,IZ (p1:Int),IZ 0] 211 (0,0))/\Rd wr (D b n c1) n 1 (η ah)/\Below w.heap.size w wr))\/(∃ z A,y=IZ 1/\af=D z 1 A/\ag=IZ 0/\∃ b c1,Ϭ (wr.heap[k]?=J (C #[D b n c1,IZ (n:Int),IZ 0] 211 (0,0))/\wr.ownsRow w.heap.size 3 1 (D z 1 A) 1 (τ [0])/\Below w.heap.size w wr))) (fun _ _ y _=>1 - (intOf y).toNat)
 case atStart=>exact .inl ⟨rfl,rfl,rfl,b,c1,T⟩
 case round =>
  clear T f g i;rcases hrel with ⟨rfl,rfl,rfl,b,c1,d⟩|⟨z,A,rfl,rfl,rfl,b,c1,d⟩
  .have U:=Zx (l.o b c1 wr d.o.2.1)
   obtain⟨⟨f,g,i⟩,-,-⟩:=Β d.o.1;clear l;go_wp2_with fail
   refine U.o.mono ?_;rintro e az ⟨s,t,rfl,-,I⟩;have R:=θ d.o.1 I;have Z:=kL (d.o.2.2.trans (I.mono d.o.2.2.size)) av (D s n t) (IZ (n:Int)) (IZ 0);have E:=Zx (jg R (D s n t) (IZ (n:Int)) (IZ 0));have B:=Zx Z;clear f g i I U d;obtain⟨⟨f,g,i⟩,⟨am,f1,f2⟩,aB⟩:=Β R;clear R Z;go_upto_region 12 with (fail)
   generalize ŝ (ŝ (ŝ az ⟨k,0,O⟩ (D s n t)) ⟨k,1,O⟩ (IZ (n:Int))) ⟨k,2,O⟩ (IZ 0)=m at *;clear f g i am f1 f2 aB;obtain⟨⟨f,g,i⟩,-,-⟩:=Β E.o;have au:=B.o.size;have W:=Zx (ig (P:=prog) (tx:=23) (e:=3) jm m #[IZ 0] 1 1 1 rfl ϗ);go_wp2_with (at_builtin;go_loud (refine gn rfl _ _ _ _ rfl w.heap.size 3 aw _ 1 8 jm an ap aq ar rfl (D O 0 0) 0 [] (by rfl) (hZ _ _ _ _) _ 1 _ (by rfl) W.o ώ ϊ ό ?_;intro aD aA Q ab ao _;obtain⟨ak,al,rfl⟩:=Θ Q))
   have aa:=((φ m.heap.size m).alloc NZ (C #[IZ 0] 3));have K:Below m.heap.size m aA:=aa.grown ab ύ (fun q e=>by cases e);have ai:=Zx (Γ (θ E.o K) (Γ Q (B.o.trans (K.mono au))));clear Q ab ao aa K E B W f g i;go_roundw;case rel=>exact .inr ⟨ak,al,rfl,rfl,rfl,s,t,ai⟩
   case measure=>simp[intOf]
  .obtain⟨⟨f,g,i⟩,-,-⟩:=Β d.o.1
   have o:=d;clear d l;go_wp2_with fail
   refine(V.o _ _ _).mono ?_;rintro e aE ⟨rfl,M⟩;have aj:=Zx (Γ ((Hi.own o.o.2.1).below M) (o.o.2.2.trans (M.mono o.o.2.2.size)));clear M o V f g i;go_wp2;go_ret2;exact⟨z,A,rfl,aj.o⟩
theorem GJ (a:Option Addr) (n c:Nat) (g:List Int) (f t:Int) (w:β) (E:L g=n) (h:Rd w (D a n c) n 1 (τ g)) (l:∀ x∈g,f<=x/\x<t) :
  Calls prog 105 #[D a n c,ā #[IZ f,IZ t]] w fun e w'=>e=ŗ (.bool true)/\BQ w w':=by
 obtain⟨p,M,j⟩:=Ϻ (w:=w) (A:=C #[IZ f,IZ t] 89) RZ;have r:=Zx (h.below j);have q:=Zx (fun d (m:d<L g)=>l g[d] (Χ m));have y:=h.2.1;unfold maxLen at y;obtain⟨⟨I,K⟩,-,-⟩:=ι p;clear h l p;go_enter func105,ntmps105;go_upto_region 1 with (fail)
 generalize å w (C #[IZ f,IZ t] 89)=s at *;go_wp2;go_loopw [9] (fun i wr=>∃ d:Nat,d<=n/\i=IZ (d:Int)/\wr=s) (fun i _=>n - (intOf i).toNat)
 case atStart=>exact⟨0,Ι _,rfl,rfl⟩
 case round =>
  obtain⟨d,m,rfl,rfl⟩:=hrel;by_cases B:d<n
  .obtain⟨b,off,rfl,k⟩:=mW r.o ϊ
   have o:d<L g:=ϊ;have c1:=k d (IZ g[d]) (by simp[τ,o]);obtain⟨u,v⟩:=q.o d o;generalize g[d]=x at *;have F:¬x<f:=ϊ;have G:¬t<=x:=ϊ;have z:(d:Int)<(n:Int):=ϊ;have H:(0:Int)<=(d:Int):=ϊ;clear k u v;go_wp2_with fail
   go_roundw;case rel=>exact⟨d+1,ϊ,ϕ,trivial⟩
   case measure=>simp[intOf];omega
  .obtain rfl:d=n:=ϊ
   have z:¬(d:Int)<(d:Int):=ϊ;go_wp2;go_ret;exact⟨rfl,j⟩
theorem GD (A I c:Nat) (x0 x1 x2:ε) (n:Option Addr) (d:Nat) (l:Option Addr) (m:Nat) (o:Option Addr) (p:Nat) (w:β) (f:w.heap[A]?=J (C #[x0,x1,x2,D n 1 d] 192 (0,0))) (g:w.heap[I]?=J (C #[IZ 0] 3 (0,0))) (i:w.heap[c]?=J (C #[D o 2 p] 143 (0,0))) (k:Rd w (D n 1 d) 1 1 [D l 2 m]) :
  Calls prog 102 #[þ (J ⟨A,0,O⟩),þ (J ⟨I,0,O⟩),þ (J ⟨c,0,O⟩)] w fun e w'=>e=ŗ (.bool true)/\BQ w w':=by
 obtain⟨b,off,rfl,j⟩:=mW k ϊ;have c0:=j 0 _ rfl;simp only[kW]at c0;obtain⟨⟨-,-,-,q⟩,-,-⟩:=Ϫ f;obtain⟨r,-,-⟩:=gm g;obtain⟨s,-,-⟩:=gm i;clear f g i k j;go_enter func102,ntmps102;go_upto_region 1 with (fail)
 have h:=(φ w.heap.size w).drew;go_region_held3 (fun a=>BQ w a/\a.cell? ⟨A,3,O⟩=J (D (J ⟨b,off,O⟩) 1 d)/\a.cell? ⟨I,0,O⟩=J (IZ 0)/\a.cell? ⟨b,off,O⟩=J (D l 2 m)/\a.cell? ⟨c,0,O⟩=J (D o 2 p)) (first|exact⟨h,q,r,c0,s⟩|assumption) (fail)
 go_wp2;go_ret;exact⟨rfl,by first|assumption|exact h⟩
def xh (F j:Nat) (f:Array ε) (b:List Int) (w:β) (e:Ending) (w':β):Prop:= ∃ a c,e=ŗ (.bool true)/\w'.heap[F]?=J (C (f.setIfInBounds j (D a (L b) c)) 23 (0,0))/\Η F w w'/\ς (· =F) w' (fun d=>Rd d (D a (L b) c) (L b) 1 (τ b))
theorem Bi (S aD A I aC ax F:Nat) (f au:Int) (R a3:γ) (x0 x1 x2:ε) (a1:Option Addr) (a2:Nat) (aZ:Option Addr) (a0:Nat) (j:Nat) (Y:List ε) (a4 a5 a6 av a7 a8:ε) (al:Array ε) (i:List Int) (w:β)
  (g:w.heap[S]?=J (C #[IZ f,IZ au,IZ 2,š (δ R)] 198 (0,0))) (d:w.heap[aD]?=J (C #[š (δ a3)] 9 (0,0))) (aL:w.heap[A]?=J (C #[x0,x1,x2,D a1 1 a2] 192 (0,0))) (aQ:w.heap[I]?=J (C #[IZ 0] 3 (0,0))) (aR:w.heap[aC]?=J (C #[IZ j] 3 (0,0))) (aO:w.heap[ax]?=J (C #[D (J ⟨F,0,O⟩) 2 2] 196 (0,0))) (hF:w.heap[F]?=J (C al 23 (0,0))) (br:j<2) (aT:al[j]?=J (D O 0 0))
  (aX:Rd w (D a1 1 a2) 1 1 [D aZ 2 a0]) (aW:Rd w (D aZ 2 a0) 2 6 Y) (aF:Y[j*6]?=J a4) (aG:Y[j*6+1]?=J a5) (aH:Y[j*6+2]?=J a6) (aI:Y[j*6+3]?=J av) (aJ:Y[j*6+4]?=J a7) (aK:Y[j*6+5]?=J a8)
  (aM:∀ h,BQ w h->Calls prog 104 #[š (δ R),IZ 2,š (δ a3),ā #[a4,a5,a6,av,a7,a8]] h (qY i h)) (aV:∀ x∈i,f<=x/\x<au) (bs:L i<=1000) :
  Calls prog 103 #[þ (J ⟨S,0,O⟩),þ (J ⟨aD,0,O⟩),þ (J ⟨A,0,O⟩),þ (J ⟨I,0,O⟩),þ (J ⟨aC,0,O⟩),þ (J ⟨ax,0,O⟩)] w (xh F j al i w):=by
 obtain⟨bw,bx,rfl,aY⟩:=mW aX ϊ;obtain⟨lb,bv,rfl,X⟩:=mW aW ϊ;have s:=aY 0 _ rfl;simp only[kW]at s;have Q:=X _ _ aF;have t:=X _ _ aG;have u:=X _ _ aH;have v:=X _ _ aI;have y:=X _ _ aJ;have z:=X _ _ aK;simp only[<-iW]at t u v y z;obtain⟨⟨bm,bn,G,M⟩,-,-⟩:=Ϫ g;obtain⟨N,-,-⟩:=gm d;obtain⟨⟨-,-,-,B⟩,-,-⟩:=Ϫ aL;obtain⟨E,-,-⟩:=gm aQ;obtain⟨r,-,-⟩:=gm aR;obtain⟨r0,-,-⟩:=gm aO;have bd:w.cell? ⟨F,j,O⟩=J (D O 0 0):=by rw[ν _ _ j _ _ _ hF];exact aT
 have ay:=Zx aM;have aB:=Zx (fun a c h (bg:Rd h (D a (L i) c) (L i) 1 (τ i))=>GJ a (L i) c i f au h rfl bg aV);have a9:=Zx hF;have bu:(j:Int)<2:=ϊ;have bt:(0:Int)<=(j:Int):=ϊ;have bq:=ο hF;obtain⟨bl,bf,bi,bj,bk⟩:=ϯ Co;clear g d aL aQ aR aO hF aT aX aW aF aG aH aI aJ aK aM aV aY X;go_enter func103,ntmps103;go_upto_region 1 with (fail)
 have g:=(φ w.heap.size w).drew;refine ϸ (fun ao=>BQ w ao) 13 ϋ ?_;refine Zf 0 g ?_;refine Zk 1 g ?_ (hy:=by intro h d;have k:=ζ d G;have l:=ζ d M;have m:=ζ d N;have T:=ζ d B;have U:=ζ d E;have V:=ζ d s;have W:=ζ d r;have Z:=ζ d Q;have aa:=ζ d t;have ab:=ζ d u;have ac:=ζ d v;have ad:=ζ d y;have ae:=ζ d z;go_simp;try with_reducible rfl);refine Zf 2 g ?_;refine Zk 3 g ?_ (hy:=by intro h d;have k:=ζ d G;have l:=ζ d M;have m:=ζ d N;have T:=ζ d B;have U:=ζ d E;have V:=ζ d s;have W:=ζ d r;have Z:=ζ d Q;have aa:=ζ d t;have ab:=ζ d u;have ac:=ζ d v;have ad:=ζ d y;have ae:=ζ d z;go_simp;try with_reducible rfl);refine Zk 4 g ?_ (hy:=by intro h d;have k:=ζ d G;have l:=ζ d M;have m:=ζ d N;have T:=ζ d B;have U:=ζ d E;have V:=ζ d s;have W:=ζ d r;have Z:=ζ d Q;have aa:=ζ d t;have ab:=ζ d u;have ac:=ζ d v;have ad:=ζ d y;have ae:=ζ d z;go_simp;try with_reducible rfl);refine Zf 5 g ?_;refine Zb 6 [8,9,11,12,13] g ?_ (hy:=by intro h d;have k:=ζ d G;have l:=ζ d M;have m:=ζ d N;have T:=ζ d B;have U:=ζ d E;have V:=ζ d s;have W:=ζ d r;have Z:=ζ d Q;have aa:=ζ d t;have ab:=ζ d u;have ac:=ζ d v;have ad:=ζ d y;have ae:=ζ d z;go_simp;try with_reducible rfl);refine Zb 7 [8,9,11,12,13] g ?_ (hy:=by intro h d;have k:=ζ d G;have l:=ζ d M;have m:=ζ d N;have T:=ζ d B;have U:=ζ d E;have V:=ζ d s;have W:=ζ d r;have Z:=ζ d Q;have aa:=ζ d t;have ab:=ζ d u;have ac:=ζ d v;have ad:=ζ d y;have ae:=ζ d z;go_simp;try with_reducible rfl);refine Zf 8 g ?_;refine Zb 9 [11,12,13] g ?_ (hy:=by intro h d;have k:=ζ d G;have l:=ζ d M;have m:=ζ d N;have T:=ζ d B;have U:=ζ d E;have V:=ζ d s;have W:=ζ d r;have Z:=ζ d Q;have aa:=ζ d t;have ab:=ζ d u;have ac:=ζ d v;have ad:=ζ d y;have ae:=ζ d z;go_simp;try with_reducible rfl);refine Zb 10 [11,12,13] g ?_ (hy:=by intro h d;have k:=ζ d G;have l:=ζ d M;have m:=ζ d N;have T:=ζ d B;have U:=ζ d E;have V:=ζ d s;have W:=ζ d r;have Z:=ζ d Q;have aa:=ζ d t;have ab:=ζ d u;have ac:=ζ d v;have ad:=ζ d y;have ae:=ζ d z;go_simp;try with_reducible rfl);refine Zf 11 g ?_;refine Zk 12 g ?_ (hy:=by intro h d;have k:=ζ d G;have l:=ζ d M;have m:=ζ d N;have T:=ζ d B;have U:=ζ d E;have V:=ζ d s;have W:=ζ d r;have Z:=ζ d Q;have aa:=ζ d t;have ab:=ζ d u;have ac:=ζ d v;have ad:=ζ d y;have ae:=ζ d z;go_simp;try with_reducible rfl);refine jp (fuel:=5) ϋ ϋ rfl ?_;intro K aj;go_simp;refine(ay.o _ g).mono ?_;rintro e bo ⟨aE,c1,rfl,ar,aS⟩;refine aj _ _ ?_;clear aj K;try simp only[Zp]
 have n:=g.trans aS;refine Zf 14 n ?_;refine Zf 15 n ?_;refine Zf 16 n ?_;refine Zf 17 n ?_;refine Zf 18 n ?_;refine Zd ?_;have az:=Zx (ar.mono (show w.heap.size<=_ from g.size));have an:=Zx n;have aA:=Zx (aB.o aE c1 bo ar.now);have k:=ζ n bm;have l:=ζ n bn;clear g n aS ar ay aB;go_wp2_with fail
 refine aA.o.mono ?_;rintro e af ⟨rfl,aq⟩;have o:=an.o.trans (aq.mono an.o.size);have bb:=Zx (az.o.below aq);have bp:=Zx o;clear k l aq az an aA;go_upto_region 4 with (fail)
 have g:=(φ af.heap.size af).drew;have ak:=ζ o r;have r2:=ζ o r0;have f2:=ζ o bd;refine ϸ (fun ao=>BQ af ao) 9 ϋ ?_;refine Zb 0 [8,9] g ?_ (hy:=by intro h d;have k:=ζ d ak;have l:=ζ d r2;have m:=ζ d f2;go_simp;try with_reducible rfl);refine Zb 1 [8,9] g ?_ (hy:=by intro h d;have k:=ζ d ak;have l:=ζ d r2;have m:=ζ d f2;go_simp;try with_reducible rfl);refine Zb 2 [4,5,7,9] g ?_ (hy:=by intro h d;have k:=ζ d ak;have l:=ζ d r2;have m:=ζ d f2;go_simp;try with_reducible rfl);refine Zb 3 [4,5,7,9] g ?_ (hy:=by intro h d;have k:=ζ d ak;have l:=ζ d r2;have m:=ζ d f2;go_simp;try with_reducible rfl);refine Zf 4 g ?_;refine Zb 5 [7,9] g ?_ (hy:=by intro h d;have k:=ζ d ak;have l:=ζ d r2;have m:=ζ d f2;go_simp;try with_reducible rfl);refine Zf 6 g ?_;have bc:=Zx ((bb.o.below g).now.src (P:=prog) (tx:=23) jm (tq _));have aP:=θ a9.o o;refine Ψ (fuel:=2) 7 ϋ rfl ?_;intro K aj;refine lx rfl (.tmp 40) (.tmp 41) 23 23 rfl af.heap.size 3 bl (IZ 0) 1 8 jm bf bi bj bk rfl (D O 0 0) 0 [] ϔ (hZ _ _ _ _) (D aE (L i) c1) (L i) _ ϔ bc.o ώ ϊ NZ ?_;intro av aw am aU bh;rw[jJ]at am;obtain⟨ah,ai,rfl⟩:=Θ am;have ag:BQ af aw:=((φ af.heap.size af).drew).grown aU NZ (fun q e=>by cases e);refine aj _ _ ag ?_;clear aj K;try simp only[Zp]
 refine Zf 8 ag ?_;have ap:=θ aP ag;have aN:(ŝ aw ⟨F,j,O⟩ (D ah (L i) ai)).heap[F]?=J (C (al.setIfInBounds j (D ah (L i) ai)) 23 (0,0)):=π _ F j _ _ _ ap;have ba:=Zx (Γ aN (Γ (((Η.refl F w).below (o.trans (ag.mono o.size))).set j (D ah (L i) ai)) (((Hi.own am).off (H:=(· =F)) (fun b _ e=>by have e:b=F:=e;have:=o.size;omega)).set (p:=⟨F,j,O⟩) rfl (D ah (L i) ai))));have f3:=ζ ag f2;have be:aw.frozen? ⟨F,j,O⟩=false:=ϥ _ _ j _ _ ap;refine Zl ?_;refine Zd ?_;clear g ag ap aN f3 be f2 aP o am aU bh;go_wp2;go_ret;exact⟨ah,ai,rfl,ba.o⟩
