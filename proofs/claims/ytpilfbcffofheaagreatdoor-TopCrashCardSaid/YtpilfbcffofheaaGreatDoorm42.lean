/- Part 42 of the proof. -/
import Derived.Test.YtpilfbcffofheaaGreatDoorm41
set_option linter.unusedVariables false
set_option linter.unusedSimpArgs false
set_option maxRecDepth 100000
set_option maxHeartbeats 4000000
namespace Go.Proofs.YtpilfbcffofheaaGreatDoor
open Go.Proofs.Tryz Go.RowKit Go.Sort
open Obj renaming cells->C
open Option renaming none->O,some->J
open Value renaming slice->D,string->š,pointer->þ,agg->ā
open Ending renaming returned->ŗ
open List renaming length->L
open World renaming alloc->å,setCell->ŝ
theorem Ga {c:β} {a:Nat} {x:ε} {T:TypeId} (h:c.heap[a]?=J (C #[x] T (0,0))):Below c.heap.size c (ŝ c ⟨a,0,O⟩ x):=by
 have f:(ŝ c ⟨a,0,O⟩ x).heap[a]?=J (C #[x] T (0,0)):=π _ a 0 _ _ _ h;have d:=(φ 0 c).setCell (p:=⟨a,0,O⟩) (Ι _) x;exact⟨d.os,d.tape,d.output,d.size,fun b _=>by
  by_cases e:b=a
  .subst e;exact f.trans h.symm
  .exact ψ _ _ _ _ e⟩
structure kI (D Q lo:Nat) (dv:ε) (w:β) (v:ε) (n:Nat) (xs:List ε) (X:β->Prop) (W:β):Prop where
 d:W.heap[D]?=J (C #[dv] 90 (0,0))
 q:W.heap[Q]?=J (C #[v] 181 (0,0))
 b:Below w.heap.size w W
 o:W.ownsRow lo 185 6 v n xs
 x:ς (kb lo v) W X
 z:lo<=W.heap.size/\Q<lo/\D<lo/\w.heap.size<=Q/\D≠Q
theorem kI.below {c Q lo:Nat} {e:ε} {w:β} {v:ε} {n:Nat} {xs:List ε} {X:β->Prop} {b d:β} (h:kI c Q lo e w v n xs X b) (a:Below b.heap.size b d):kI c Q lo e w v n xs X d:=
 ⟨θ h.d a,θ h.q a,h.b.trans (a.mono h.b.size),Υ h.o a,h.x.below a,⟨by have:=a.size;have:=h.z;omega,h.z.2⟩⟩
theorem kI.put {f Q lo:Nat} {i:ε} {w:β} {v c:ε} {n k:Nat} {xs ys:List ε} {X:β->Prop} {d a:β} (h:kI f Q lo i w v n xs X d) (l:a.ownsRow lo 185 6 c k ys) (hg:d.grownBy a v.ownBlock) (r:c.ownBlock=v.ownBlock\/c.ownBlock=J d.heap.size):a.heap[Q]?=J (C #[v] 181 (0,0))/\kI f Q lo i w c k ys X (a.setCell ⟨Q,0,O⟩ c):=by
 obtain⟨u,g,o,q,s⟩:=h.z;have j:∀ b,b<lo->a.heap[b]?=d.heap[b]?:=fun b t=>hg.block b ϊ (fun e=>by have:=(Ν h.o b e.symm).1;omega);have m:=(j Q g).trans h.q;exact⟨m,(ψ _ _ _ _ ϑ).trans ((j f o).trans h.d),π _ Q 0 _ _ _ m,(h.b.grown hg h.b.size (fun b e=>by have:=(Ν h.o b e).1;omega)).setCell q _,jT l (fun b e=>ψ _ _ _ _ (by have:=(Ν l b e).1;simp only;omega)),(h.x.grown hg r).set (p:=⟨Q,0,O⟩) (.inl g) _,⟨by have:=hg.size;simp;omega,g,o,q,s⟩⟩
theorem kI.add {c Q lo b:Nat} {d:ε} {w:β} {v:ε} {n:Nat} {xs:List ε} {X Y:β->Prop} {a:β} (h:kI c Q lo d w v n xs X a) (hy:Hi b a Y) (f:lo<=b) (g:∀ q,v.ownBlock=J q->q<b):kI c Q lo d w v n xs (fun e=>X e/\Y e) a:=
 ⟨h.d,h.q,h.b,h.o,h.x.and (hy.rowH f g),h.z⟩
def xn (f Q lo:Nat) (g:ε) (w:β) (h nx:γ) (l:List Int) (k:Nat) (ds:γ) (n:Nat) (xs:List ε) (X:β->Prop) (e:Ending) (w':β):Prop:= ∃ i j b pc c d,e=ŗ (.tuple #[])/\kI f Q lo g w (D i (n+1) j) (n+1) (xs++lu h nx (Ω l) (D b k pc) (D c (L ds) d)) (fun a=>X a/\Rd a (D b k pc) k 1 (σ (gx h l))/\Rd a (D c (L ds) d) (L ds) 1 (η ds)) w'
theorem Au (r Q j lo:Nat) (v:ε) (w:β) (h nx t:γ) (l:List Int) (K:Bool) (k:Nat) (ds:γ) (ac:Option Addr) (n ad:Nat) (xs:List ε) (X:β->Prop) (g:β) (p:kI r Q lo v w (D ac n ad) n xs X g) (M:g.heap[j]?=J (C #[IZ 0] 26 (0,0))) (az:j<w.heap.size) (aA:n<=10) (V:L (gx h l)=k) (S:(if K then gr l else[])=ds)
  (R:Calls prog 99 #[v,š (δ t)] g (qZ h nx l (if K then gr l else[]) g)) :
  Calls prog 98 #[š (δ t),þ (J ⟨r,0,O⟩),þ (J ⟨j,0,O⟩),þ (J ⟨Q,0,O⟩)] g (xn r Q lo v w h nx l k ds n xs X):=by
 have m:=Zx R;rw[S]at m;have s:=Zx p;have E:=Zx M;have af:=Zx V;obtain⟨aj,-,-⟩:=gm p.d;unfold xn;unfold qZ at m;generalize Ω l=f at *;generalize gx h l=aG at *;have ao:=p.z;obtain⟨au,am,ap,aq,ar⟩:=ϯ Cs;clear R p M V S;go_enter func98,ntmps98;go_wp2_with fail
 refine m.o.mono ?_;rintro e i ⟨b,a,pc,c,aH,d,rfl,W,rfl,U,y⟩;have an:a=k:=W.symm.trans af.o;subst an;have G:=Zx ((s.o.below y).add U ao.1 (fun q e=>(Ν s.o.o q e).2));have F:=Zx (θ E.o y);have Z:=χ i (C #[IZ 1,š (δ h),š (δ nx),š (δ f),D b a pc,D c (L ds) d] 185);have A:=(φ i.heap.size i).alloc NZ (C #[IZ 1,š (δ h),š (δ nx),š (δ f),D b a pc,D c (L ds) d] 185);have H:=Zx (G.o.below A);have x:=θ F.o A;clear aj U y W m s E;obtain⟨ak,al,aw⟩:=gm x;have z:=Ga x;have u:=Zx (H.o.below z);have aa:=θ Z z;go_upto_region 3 with (fail)
 generalize ŝ (å i (C #[IZ 1,š (δ h),š (δ nx),š (δ f),D b a pc,D c (L ds) d] 185)) ⟨j,0,O⟩ (IZ 0)=o at *;generalize i.heap.size=ax at *;clear ak al aw z x A Z F G H;obtain⟨⟨aC,p1,p2,aD,aE,aF⟩,-,-⟩:=fX aa;obtain⟨av,-,-⟩:=gm u.o.q;have I:=Zx (u.o.below ((φ o.heap.size o).alloc NZ (C #[IZ 1,š (δ h),š (δ nx),š (δ f),D b a pc,D c (L ds) d] 185)));have ag:=Zx (mZ (P:=prog) (tx:=181) (e:=185) sG o #[IZ 1,š (δ h),š (δ nx),š (δ f),D b a pc,D c (L ds) d] 6 1 1 o.heap.size rfl rfl ϗ);have aB:=u.o.z.1;clear aa;go_wp2_with (at_builtin;go_loud (refine gn rfl _ _ _ _ rfl lo 185 au _ 6 104 sG am ap aq ar rfl (D ac n ad) n xs (by rfl) I.o.o _ 1 _ (by rfl) ag.o ώ ϊ ό ?_;intro aI aJ B T ab _;obtain⟨ah,ai,rfl⟩:=Θ B;obtain⟨Y,N⟩:=I.o.put B T ab;obtain⟨av,ay,aK⟩:=gm Y))
 have ae:=Zx N;clear B T ab Y N
 go_returns
 exact⟨rfl,ah,ai,b,pc,c,d,ae.o⟩
def xw (h nx:γ) (l:List Int) (k:Nat) (d1 d2:γ) (w:β) (e:Ending) (w':β):Prop:= ∃ b c d g j n f i m o,e=ŗ (D b 2 c)/\Hi w.heap.size w' (fun a=>Rd a (D b 2 c) 2 6 (lu h nx (Ω l) (D d k g) (D j (L d1) n)++lu h nx (Ω l) (D f k i) (D m (L d2) o))/\(Rd a (D d k g) k 1 (σ (gx h l))/\Rd a (D j (L d1) n) (L d1) 1 (η d1))/\(Rd a (D f k i) k 1 (σ (gx h l))/\Rd a (D m (L d2) o) (L d2) 1 (η d2)))/\Below w.heap.size w w'
theorem FSq (H ad:Nat) (da:Option Addr) (b dc:Nat) (h nx N P:γ) (l:List Int) (f1 f2:Bool) (k:Nat) (av:Option Addr) (aw:Nat) (w:β) (K:w.heap[H]?=J (C #[IZ 0] 26 (0,0))) (aj:w.heap[ad]?=J (C #[D av 2 aw] 143 (0,0))) (ak:Rd w (D av 2 aw) 2 1 (σ [N,P])) (V:L (gx h l)=k)
  (ah:∀ a,Below w.heap.size w a->Calls prog 99 #[D da b dc,š (δ N)] a (qZ h nx l (if f1 then gr l else[]) a))
  (ai:∀ a,Below w.heap.size w a->Calls prog 99 #[D da b dc,š (δ P)] a (qZ h nx l (if f2 then gr l else[]) a)) :
  Calls prog 97 #[D da b dc,þ (J ⟨H,0,O⟩),þ (J ⟨ad,0,O⟩)] w (xw h nx l k (if f1 then gr l else[]) (if f2 then gr l else[]) w):=by
 obtain⟨ap,aq,aD,aE,al⟩:=fU (w:=w) (A:=C #[D da b dc] 90) (Z:=C #[D O 0 0] 181) RZ;obtain⟨d1,T⟩:∃ d,(if f1 then gr l else[])=d:=⟨_,rfl⟩;obtain⟨d2,U⟩:∃ d,(if f2 then gr l else[])=d:=⟨_,rfl⟩;have ag:=ο K;have v:=Zx (fun E n F G z a (c:kI w.heap.size (w.heap.size+1) (w.heap.size+2) (D da b dc) w (D E n F) n G z a) (W:n<=10)=>Au w.heap.size (w.heap.size+1) H (w.heap.size+2) (D da b dc) w h nx N l f1 k d1 E n F G z a c (θ K c.b) ag W V T (ah a c.b));have x:=Zx (fun E n F G z a (c:kI w.heap.size (w.heap.size+1) (w.heap.size+2) (D da b dc) w (D E n F) n G z a) (W:n<=10)=>Au w.heap.size (w.heap.size+1) H (w.heap.size+2) (D da b dc) w h nx P l f2 k d2 E n F G z a c (θ K c.b) ag W V U (ai a c.b));have R:=Zx (fun a (M:Below w.heap.size w a)=>Γ (θ aj M) (ak.below M));have I:Ϭ (kI w.heap.size (w.heap.size+1) (w.heap.size+2) (D da b dc) w (D O 0 0) 0 [] (fun _=>True) (å (å w (C #[D da b dc] 90)) (C #[D O 0 0] 181))):=⟨⟨ap,aq,al,hZ _ _ _ _,fun _ _=>trivial,⟨ύ,ϊ,ϊ,ϊ,ϊ⟩⟩⟩;rw[T,U];unfold xw;unfold xn at v x;generalize Ω l=S at *;generalize gx h l=X at *;clear K aj ak V ah ai ap aq T U al;have aA:∀ af a,(callFunc 98 af).run prog a=.ok (.enter 98 af) a:=iB func98 ϋ rfl;go_enter func97,ntmps97;go_upto_region 3 with (fail)
 generalize å (å w (C #[D da b dc] 90)) (C #[D O 0 0] 181)=ae at *;obtain⟨⟨c0,-,-⟩,ao⟩:=Γ (gm (R.o ae I.o.b).1) (R.o ae I.o.b).2;obtain⟨ar,au,rfl,ax⟩:=mW ao ϊ;have ac:=Zx (fun a (M:Below w.heap.size w a)=>show a.cell? ⟨ar,au,O⟩=J (š (δ N))/\a.cell? ⟨ar,au+1,O⟩=J (š (δ P))by
  obtain⟨az,aB,an,am⟩:=mW (R.o a M).2 ϊ
  simp only[Ο,Addr.mk.injEq,hR]at an
  obtain⟨rfl,rfl⟩:=an
  exact⟨am 0 _ rfl,am 1 _ rfl⟩)
 clear ao ax;go_wp2;go_loopw [12] (fun B wr=>(B=IZ 0/\Ϭ (kI w.heap.size (w.heap.size+1) (w.heap.size+2) (D da b dc) w (D O 0 0) 0 [] (fun _=>True) wr))\/(B=IZ 1/\∃ o p f g i j,Ϭ (kI w.heap.size (w.heap.size+1) (w.heap.size+2) (D da b dc) w (D o 1 p) 1 (lu h nx S (D f k g) (D i (L d1) j)) (fun q=>True/\Rd q (D f k g) k 1 (σ X)/\Rd q (D i (L d1) j) (L d1) 1 (η d1)) wr))\/(B=IZ 2/\∃ o p f g i j r s t u,Ϭ (kI w.heap.size (w.heap.size+1) (w.heap.size+2) (D da b dc) w (D o 2 p) 2 (lu h nx S (D f k g) (D i (L d1) j)++lu h nx S (D r k s) (D t (L d2) u)) (fun q=>(True/\Rd q (D f k g) k 1 (σ X)/\Rd q (D i (L d1) j) (L d1) 1 (η d1))/\Rd q (D r k s) k 1 (σ X)/\Rd q (D t (L d2) u) (L d2) 1 (η d2)) wr))) (fun B _=>2 - (intOf B).toNat)
 case atStart=>exact .inl ⟨rfl,I⟩
 case round =>
  clear I c0;rcases hrel with ⟨rfl,m⟩|⟨rfl,o,p,f,g,i,j,m⟩|⟨rfl,o,p,f,g,i,j,r,s,t,u,m⟩
  .obtain⟨Y,aa⟩:=ac.o wr m.o.b
   have y:=Zx (v.o _ _ _ _ _ wr m.o ϊ);clear v x;go_wp2_with fail
   refine y.o.mono ?_;rintro e ay ⟨o,p,f,g,i,j,rfl,c⟩;have Q:=Zx c;clear c y Y aa;go_wp2_with fail
   go_roundw;case rel=>exact .inr (.inl ⟨rfl,o,p,f,g,i,j,Q⟩)
   case measure=>simp[intOf]
  .obtain⟨Y,aa⟩:=ac.o wr m.o.b
   have y:=Zx (x.o _ _ _ _ _ wr m.o ϊ);clear v x;go_wp2_with fail
   refine y.o.mono ?_;rintro e ay ⟨o,p,r,s,t,u,rfl,c⟩;have Q:=Zx c;clear c y Y aa;go_wp2_with fail
   go_roundw;case rel=>exact .inr (.inr ⟨rfl,o,p,f,g,i,j,r,s,t,u,Q⟩)
   case measure=>simp[intOf]
  .obtain⟨aC,-,-⟩:=gm m.o.q
   have ab:=Zx (Γ ((m.o.x.rowHi m.o.o).mono (ϊ:w.heap.size<=w.heap.size+2)) m.o.b);clear v x;go_wp2;go_ret;exact⟨o,p,f,g,i,j,r,s,t,u,rfl,ab.o.1.imp fun q h=>⟨h.2,h.1.1.2,h.1.2⟩,ab.o.2⟩
theorem Mw {f t:Int} {d:List υ} (h:lH f t d=true):iq d=true:=by
 unfold lH at h;simp only[gs]at h;exact h.1.2
theorem Ld (ap:Option Addr) (aq:Nat) (xs:Option Addr) (ar:Nat) (docs:List (γ)) (p:Nat×Nat) (h nx Q R:γ) (l:List Int) (f1 f2:Bool) (x:List jc) (aI:ε) (w:β) (ao:Ϩ w) (aF:Ϡ w) (b5:Δ w (D ap (L docs) aq) docs) (bd:ϧ docs w (D xs 1 ar) [p]) (aH:ϵ docs [p] (L docs)) (a9:Α docs p=[(h,l)]) (aE:nx=[]) (bM:decide (h=Q)=f1) (bN:decide (h=R)=f2) (aD:L h<=64) (cy:L l<=1000) (b2:it Q=true) (b3:it R=true) (bR:L Q<=64) (bS:L R<=64) (bT:ltStr Q h=false) (bU:ltStr R h=false) (cz:L (gr l)<=4000)
  (ba:Rd w aI (L x) 2 (jv x)) (bb:L x<=100000) (bY:∀ s∈x,L s.2<=100000) (bW:∀ s∈x,-9223372036854775808<=s.1/\s.1<=9223372036854775807) (bX:lG x=true) (bZ:gd (iy x)=[Q,R]) :
  Calls prog 50 #[ā #[D ap (L docs) aq,D xs 1 ar],aI] w (lP (nM docs [p] (gA 1 h nx (Ω l) (gx h l) (if f1 then gr l else[])) (gA 1 h nx (Ω l) (gx h l) (if f2 then gr l else[]))) w):=by
 obtain⟨M,a5⟩:∃ M,L (gx h l)=M:=⟨_,rfl⟩;have cx:M<=64:=by have:=(yS h l).2;omega
 have a6:iq [(h,l)]=true:=by
  have:=(oL aH (ύ:0<L [p])).1;simp only[oq,a9]at this;exact Mw this
 have bm:=Zx (fun a (f:Below w.heap.size w a)=>rm ap aq xs ar docs [p] _ a (ao.below f) (aF.below f) (b5.below f) (bd.below f) aH rfl);have aQ:=Zx (fun a (f:Below w.heap.size w a)=>yZ aI x a (ao.below f) (ba.below f) bb bY bW);rw[bX]at aQ;have aR:=Zx (fun a (f:Below w.heap.size w a)=>za aI x a (ba.below f) bb);rw[bZ]at aR;have aS:=Zx (fun a (f:Below w.heap.size w a)=>show ∃ b off da dc,xs=J ⟨b,off,O⟩/\a.cell? ⟨b,off,O⟩=J (IZ p.1)/\a.cell? ⟨b,off+1,O⟩=J (IZ p.2)/\a.cell? ⟨b,off+2,O⟩=J (D da 1 dc)/\fY a (D da 1 dc) 1 [(h,l)]by
  obtain⟨cU,c,b4,-,T⟩:=rU (bd.below f)
  simp only[Ξ,qN,Ϯ]at b4
  obtain⟨rfl,rfl⟩:=b4
  obtain⟨b,off,da,dc,e,-,c0,c1,c2,an⟩:=T.o 0 ύ
  simp only[oq,a9,pL,kW,qN]at c0 c1 c2 an
  exact⟨b,off,da,dc,e,c0,c1,c2,an⟩)
 have au:=Zx (fun bg ax da dc W X a (f:Below w.heap.size w a) (an:fY a (D da 1 dc) 1 [(h,l)]) (ct:a.heap[bg]?=J (C #[IZ 0] 26 (0,0))) (az:a.heap[ax]?=J (C #[D W 2 X] 143 (0,0))) (cv:Rd a (D W 2 X) 2 1 (σ [Q,R]))=>FSq bg ax da 1 dc h nx Q R l f1 f2 M W X a ct az cv a5 (fun G V=>EC (D da 1 dc) h nx Q l f1 G aE bM ((ao.below f).below V) ((aF.below f).below V) (an.below V) a6 aD ϊ b2 bR bT) (fun G V=>EC (D da 1 dc) h nx R l f2 G aE bN ((ao.below f).below V) ((aF.below f).below V) (an.below V) a6 aD ϊ b3 bS bU));have aT:=Zx (fun sa sc g i m n r u y B t v z E a (aY:Rd a (D sa 1 sc) 1 4 (Ϸ docs [p])) (cu:oC a g i m n h nx (Ω l) (gx h l) M r u y (L (if f1 then gr l else[])) B (if f1 then gr l else[]) t v z (L (if f2 then gr l else[])) E (if f2 then gr l else[]))=>Oj sa sc docs [p] g i m n h nx (Ω l) (gx h l) M r u y _ B _ t v z _ E _ a rfl aY aH cu aD (by rw[aE];simp) (hO _) a5 cx (pA _ _ _ (kQ _)) rfl (by split<;>first|omega|simp) rfl (by split<;>first|omega|simp));have bl:L ([p]:List (Nat×Nat))=1:=rfl;rw[bl]at bm;obtain⟨af,bE⟩:∃ d,(if f1 then gr l else[])=d:=⟨_,rfl⟩;obtain⟨ag,bF⟩:∃ d,(if f2 then gr l else[])=d:=⟨_,rfl⟩;rw[bE,bF]at aT au ⊢;unfold xw at au;generalize nM docs [p] (gA 1 h nx (Ω l) (gx h l) af) (gA 1 h nx (Ω l) (gx h l) ag)=cQ at *;generalize Ϸ docs [p]=bz at *;generalize ϣ docs=aa at *;generalize (L docs)=N at *;generalize Ω l=bx at *;generalize gx h l=b6 at *;clear ao aF b5 bd aH a9 aE bM bN aD cy b2 b3 bR bS bT bU cz ba bb bY bW bX bZ a5 a6 bl bE bF;obtain⟨cE,cw,cB,cC,cD⟩:=ϯ Ct;have cV:∀ bB a,(callFunc 97 bB).run prog a=.ok (.enter 97 bB) a:=iB func97 ϋ rfl;obtain⟨bc,de,ad⟩:=Ϻ (w:=w) (A:=C #[D ap N aq,D xs 1 ar] 44) RZ;go_enter func50,ntmps50;go_upto_region 1 with (fail)
 generalize å w (C #[D ap N aq,D xs 1 ar] 44)=cT at *;obtain⟨⟨aK,aL⟩,-,-⟩:=ι bc;have bk:=Zx (bm.o _ ad);go_wp2_with fail
 refine bk.o.mono ?_;rintro e aJ ⟨o,c1,rfl,bP,ac⟩;clear bk aK aL;obtain⟨b1,b0,db,c8,aC⟩:=fU (w:=aJ) (A:=C #[IZ N,š (δ aa),D o 1 c1] 123) (Z:=C #[IZ 0] 26) RZ;have a4:=ad.trans ((ac.trans (aC.mono ac.size)).mono ad.size);have bv:=Zx (θ bc (ac.trans (aC.mono ac.size)));have bq:=Zx ((bP.below aC).mono ad.size);have cS:=Zx (show w.heap.size<=aJ.heap.size by have:=ac.size;have:=ad.size;omega);clear ac bP bc ad;go_upto_region 4 with (fail)
 generalize å (å aJ (C #[IZ N,š (δ aa),D o 1 c1] 123)) (C #[IZ 0] 26)=aU at *;have bp:=Zx b1;have bo:=Zx b0;have ak:=Zx a4;have T:=Zx (aQ.o aU a4);generalize aJ.heap.size=aM at *;clear b1 b0 a4 aC;go_wp2_with fail
 refine T.o.mono ?_;rintro e cO ⟨rfl,a0⟩;have aN:=Zx a0;have bi:=Zx (aR.o cO (ak.o.trans (a0.mono ak.o.size)));clear a0 T aQ aR;go_wp2_with fail
 refine bi.o.mono ?_;rintro e bf ⟨c3,rfl,a7,bI⟩;obtain⟨W,X,rfl⟩:=Θ a7;have bn:=Zx a7;have aO:=Zx (aN.o.trans (bI.mono aN.o.size));clear a7 bI bi aN;obtain⟨az,dd,a3⟩:=Ϻ (w:=bf) (A:=C #[D W 2 X] 143) RZ;have ai:=Zx (aO.o.trans (a3.mono aO.o.size));have bs:=Zx az;have bt:=Zx (Rd.below (Rd.of_own bn.o) a3);clear az a3 aO bn;go_upto_region 7 with (fail)
 generalize å bf (C #[D W 2 X] 143)=ay at *;generalize bf.heap.size=ax at *;obtain⟨⟨cr,aY,cs⟩,-,-⟩:=Β (θ bp.o ai.o);obtain⟨bD,c6,aB⟩:=Ϻ (w:=ay) (A:=C #[IZ N,š (δ aa),D o 1 c1,D O 0 0] 192) RZ;have aj:=Zx (ai.o.trans (aB.mono ai.o.size));have ce:=Zx (θ bs.o aB);have cf:=Zx (bt.o.below aB);have b7:=Zx bD;have bw:=Zx (show aU.heap.size<=ay.heap.size/\w.heap.size<=aU.heap.size from⟨ai.o.size,ak.o.size⟩);clear bD aB bs bt ai;go_upto_region 9 with (fail)
 generalize å ay (C #[IZ N,š (δ aa),D o 1 c1,D O 0 0] 192)=bA at *;generalize ay.heap.size=j at *;obtain⟨⟨aK,aL⟩,-,-⟩:=ι (θ bv.o aj.o);have av:=Zx (ak.o.trans (aj.o.mono ak.o.size));have b8:=Zx (θ bo.o aj.o);have cc:=Zx ((bq.o.off (H:=(· =j)) (fun b cW e=>by have e:b=j:=e;have:=bw.o;omega)).below aj.o);clear cr aY cs bp bo bv bq aj;go_wp2;go_loopw [31] (fun aG wr=>(aG=IZ 0/\Ϭ (Below bA.heap.size bA wr))\/(aG=IZ 1/\∃ g i m n r u y B t v z E,Ϭ (wr.heap[j]?=J (C #[IZ N,š (δ aa),D o 1 c1,D g 1 i] 192 (0,0))/\oC wr g i m n h nx bx b6 M r u y (L af) B af t v z (L ag) E ag/\Rd wr (D o 1 c1) 1 4 bz/\wr.heap[aM+1]?=J (C #[IZ 0] 26 (0,0))/\Below w.heap.size w wr))) (fun aG _=>1 - (intOf aG).toNat)
 case atStart=>exact .inl ⟨rfl,⟨φ _ _⟩⟩
 case round =>
  rcases hrel with ⟨rfl,ah⟩|⟨rfl,g,i,m,n,r,u,y,B,t,v,z,E,Y⟩
  .clear aK aL
   obtain⟨b,off,da,dc,rfl,co,cp,cq,bC⟩:=aS.o wr (av.o.trans (ah.o.mono av.o.size));obtain⟨bG,c9,a2⟩:=Ϻ (w:=wr) (A:=C #[IZ p.1,IZ p.2,D da 1 dc] 92) RZ;have S:=Zx (ah.o.trans (a2.mono ah.o.size));have cb:=Zx (bC.below a2);have ca:=Zx bG;have bh:=Zx (θ b7.o S.o);have bj:=Zx (θ b8.o S.o);have bu:=Zx (Γ (θ ce.o S.o) (cf.o.below S.o));have aw:=Zx (av.o.trans (S.o.mono av.o.size));have cd:=Zx (cc.o.below S.o);have cX:=ah.o.size;clear bC bG a2 ah S aS;go_upto_region 12 with (fail)
   generalize å wr (C #[IZ p.1,IZ p.2,D da 1 dc] 92)=G at *;generalize wr.heap.size=cR at *;obtain⟨⟨cI,cJ,be⟩,-,-⟩:=Β ca.o;obtain⟨⟨aV,aW,aX,al⟩,-,c7⟩:=Ϫ bh.o;clear co cp cq;have k:=(φ G.heap.size G).drew;refine ϸ (fun cg=>Below G.heap.size G cg) 7 ϋ ?_;refine Zf 0 k ?_;refine Zk 1 k ?_ (hy:=by intro a f;have cG:=ζ f al;have cH:=ζ f be;go_simp;try with_reducible rfl);refine Zf 2 k ?_;refine Zf 3 k ?_;refine Zb 4 [5,6,7] k ?_ (hy:=by intro a f;have cG:=ζ f al;have cH:=ζ f be;go_simp;try with_reducible rfl);refine Ψ (fuel:=4) 5 ϋ rfl ?_;intro K I;go_simp;refine(au.o (aM+1) ax da dc W X _ (aw.o.trans (k.mono aw.o.size)) (cb.o.below k) (θ bj.o k) (θ bu.o.1 k) (bu.o.2.below k)).mono ?_;rintro e F ⟨m,n,r,u,y,B,t,v,z,E,rfl,bQ,bJ⟩;have U:=k.trans bJ;refine I _ _ U ?_;clear I K;try simp only[Zp]
   have aA:=(φ F.heap.size F).alloc NZ (C #[D m 2 n] 181);have bH:=U.trans (aA.mono U.size);refine Ψ (fuel:=3) 6 ϋ rfl ?_;intro K I;go_simp;refine I _ _ bH ?_;clear I K;try simp only[Zp]
   have br:=Zx (mZ (P:=prog) (tx:=190) (e:=181) underlying190 F #[D m 2 n] 1 1 1 F.heap.size rfl rfl ϗ);refine jp (fuel:=2) ϋ ϋ rfl ?_;intro K I;refine lx rfl (.tmp 36) (.tmp 41) 190 190 rfl (F.heap.size+1) 181 cE (D O 0 0) 1 24 underlying190 cw cB cC cD rfl (D O 0 0) 0 [] ϔ (hZ _ _ _ _) (D (J ⟨F.heap.size,0,O⟩) 1 1) 1 _ ϔ br.o ώ ϊ ύ ?_;intro c4 ae a8 bO cA;obtain⟨g,i,rfl⟩:=Θ a8;refine I _ _ ?_;clear I K;try simp only[Zp]
   have bK:Below (å F (C #[D m 2 n] 181)).heap.size (å F (C #[D m 2 n] 181)) ae:=RZ.grown bO NZ (fun q e=>by cases e);have a1:=aA.trans (bK.mono aA.size);have ab:=U.trans (a1.mono U.size);refine Zf 8 ab ?_;have aZ:=θ bh.o ab;have cZ:j<F.heap.size:=by have:=U.size;omega
   have hF:Ϭ ((ŝ ae ⟨j,3,O⟩ (D g 1 i)).heap[j]?=J (C #[IZ N,š (δ aa),D o 1 c1,D g 1 i] 192 (0,0))/\oC (ŝ ae ⟨j,3,O⟩ (D g 1 i)) g i m n h nx bx b6 M r u y (L af) B af t v z (L ag) E ag/\Rd (ŝ ae ⟨j,3,O⟩ (D g 1 i)) (D o 1 c1) 1 4 bz/\(ŝ ae ⟨j,3,O⟩ (D g 1 i)).heap[aM+1]?=J (C #[IZ 0] 26 (0,0))/\Below w.heap.size w (ŝ ae ⟨j,3,O⟩ (D g 1 i))):=by
    have am:=((bQ.below a1).set (p:=⟨j,3,O⟩) (show j<_ by have:=k.size;omega) (D g 1 i)).now;have cY:=bw.o;exact⟨π _ j 3 _ _ _ aZ,⟨((Hi.own a8).set (p:=⟨j,3,O⟩) (ϊ:j<_) _).now,am.1,am.2.1.1,am.2.1.2,am.2.2.1,am.2.2.2⟩,((cd.o.below ab).set (p:=⟨j,3,O⟩) rfl _).now,(ψ _ _ _ _ ϑ).trans (θ bj.o ab),(aw.o.trans (ab.mono aw.o.size)).setCell ϑ _⟩
   obtain⟨⟨cK,cL,cM,cN⟩,⟨ck,cl,cm,cn⟩,cP⟩:=Ϫ aZ;refine Ze 9 ?_;refine Zd ?_;clear cI cJ be aV aW aX al cK cL cM cN ck cl cm cn cP aZ k U bH ab bJ aA bK a1 bQ a8 bO cA br;go_wp2_with fail
   go_roundw;case rel=>exact .inr ⟨rfl,g,i,m,n,r,u,y,B,t,v,z,E,hF⟩
   case measure=>simp[intOf]
  .obtain⟨⟨aV,aW,aX,al⟩,-,-⟩:=Ϫ Y.o.1
   obtain⟨cj,-,-⟩:=gm Y.o.2.2.2.1;have T:=Zx (aT.o o c1 g i m n r u y B t v z E wr Y.o.2.2.1 Y.o.2.1);have aP:=Zx Y.o.2.2.2.2;clear Y au aT aS aK aL;go_wp2_with fail
   refine T.o.mono ?_;rintro e c5 ⟨ch,cF,ci,rfl,bV,bL⟩;have b9:=Zx (Γ (bV.mono aP.o.size) (aP.o.trans (bL.mono aP.o.size)));clear bV bL T aV aW aX al cj;go_wp2;go_ret2;exact⟨ch,cF,ci,rfl,b9.o⟩
theorem IW:(prog.info? 23).map (fun i=>(i.zero,i.size,i.bytes))=J (J (D O 0 0),1,24):=ϋ
theorem IU:(prog.info? 24).map (fun i=>(i.zero,i.size,i.bytes))=J (J .nilFunc,1,8):=ϋ
def nL (F:Nat) (w:β) (r1 r2:List Int) (k:Nat) (b:β):Prop:=Η F w b/\∃ e f,b.heap[F]?=J (C #[e,f] 23 (0,0))/\(k<=2->e=D O 0 0)/\(k<=3->f=D O 0 0)/\(3<=k->∃ a c,e=D a (L r1) c/\ς (· =F) b (fun d=>Rd d (D a (L r1) c) (L r1) 1 (τ r1)))/\(4<=k->∃ a c,f=D a (L r2) c/\ς (· =F) b (fun d=>Rd d (D a (L r2) c) (L r2) 1 (τ r2)))
theorem nL.below {F:Nat} {w:β} {r1 r2:List Int} {k:Nat} {b a:β} (h:nL F w r1 r2 k b) (c:BQ b a) (n:k<=1):nL F w r1 r2 (k+1) a:=by
 obtain⟨d,i,j,e,f,g,l,m⟩:=h;exact⟨d.below c,i,j,θ e c,fun _=>f ϊ,fun _=>g ϊ,fun _=>ϊ,fun _=>ϊ⟩
theorem nL.two {F:Nat} {w:β} {r1 r2:List Int} {d b:β} {e:Ending} (h:nL F w r1 r2 2 d) (g:xh F 0 #[D O 0 0,D O 0 0] r1 d e b):e=ŗ (.bool true)/\nL F w r1 r2 3 b:=by
 obtain⟨f,-⟩:=h;obtain⟨a,c,j,l,i,k⟩:=g;exact⟨j,f.trans i,_,_,l,fun _=>ϊ,fun _=>rfl,fun _=>⟨a,c,rfl,k⟩,fun _=>ϊ⟩
theorem nL.three {F:Nat} {w:β} {r1 r2:List Int} {d b:β} {e:Ending} {f:Option Addr} {c1:Nat} (h:nL F w r1 r2 3 d) (m:ς (· =F) d (fun b=>Rd b (D f (L r1) c1) (L r1) 1 (τ r1))) (j:xh F 1 #[D f (L r1) c1,D O 0 0] r2 d e b):e=ŗ (.bool true)/\nL F w r1 r2 4 b:=by
 obtain⟨i,-⟩:=h;obtain⟨a,c,k,n,g,l⟩:=j;exact⟨k,i.trans g,_,_,n,fun _=>ϊ,fun _=>ϊ,fun _=>⟨f,c1,rfl,m.oneCh rfl g⟩,fun _=>⟨a,c,rfl,l⟩⟩
structure lA (lo:Nat) (w:β) (v:ε) (n:Nat) (fs:List ε) (X:β->Prop) (W:β):Prop where
 b:Below lo w W
 o:W.ownsRow lo 24 1 v n fs
 x:ς (kb lo v) W X
 z:lo<=W.heap.size
theorem lA.alloc {lo:Nat} {w:β} {v:ε} {n:Nat} {f:List ε} {X:β->Prop} {a:β} (h:lA lo w v n f X a) (b:Array ε) (T:TypeId):lA lo w v n f (fun c=>X c/\c.heap[a.heap.size]?=J (C b T (0,0))) (å a (C b T)):=by
 have d:=(φ a.heap.size a).alloc NZ (C b T);refine⟨h.b.trans (d.mono h.z),Υ h.o d,(h.x.below d).and fun c g=>?_,by have:=h.z;simp;omega⟩;refine(g a.heap.size ύ fun e=>?_).trans (χ a (C b T));rcases e with e|e
 .have:=h.z;omega
 .have:=(Ν h.o _ e).2;omega
theorem lA.below {lo:Nat} {w:β} {v:ε} {n:Nat} {d:List ε} {X:β->Prop} {c b:β} (h:lA lo w v n d X c) (a:BQ c b):lA lo w v n d X b:=
 ⟨h.b.trans (a.mono h.z),Υ h.o a,h.x.below a,by have:=a.size;have:=h.z;omega⟩
theorem lA.grown {lo:Nat} {w:β} {v a:ε} {n k:Nat} {g f:List ε} {X:β->Prop} {d c:β} (h:lA lo w v n g X d) (i:c.ownsRow lo 24 1 a k f) (hg:d.grownBy c v.ownBlock) (j:a.ownBlock=v.ownBlock\/a.ownBlock=J d.heap.size):lA lo w a k f X c:=
 ⟨h.b.grown hg h.z (fun b e=>(Ν h.o b e).1),i,h.x.grown hg j,by have:=hg.size;have:=h.z;omega⟩
