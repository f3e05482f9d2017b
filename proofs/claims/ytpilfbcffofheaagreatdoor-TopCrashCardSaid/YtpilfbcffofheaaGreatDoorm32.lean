/- Part 32 of the proof. -/
import Derived.Test.YtpilfbcffofheaaGreatDoorm30
import Derived.Test.YtpilfbcffofheaaGreatDoorm31
set_option linter.unusedVariables false
set_option linter.unusedSimpArgs false
set_option maxRecDepth 100000
set_option maxHeartbeats 4000000
namespace Go.Proofs.YtpilfbcffofheaaGreatDoor
open Go.Proofs.Tryz Go.RowKit Go.Sort
open Option renaming none->O,some->J
open Obj renaming cells->C
open Ending renaming returned->ŗ
open Value renaming pointer->þ,slice->D,int->ĭ,string->š,agg->ā
open List renaming length->L
open World renaming alloc->å,setCell->ŝ
def Η (g:Nat) (w w':β):Prop:=w.heap.size<=w'.heap.size/\(∀ b,b<w.heap.size->b≠g->w'.heap[b]?=w.heap[b]?)/\Below 0 w w'
theorem Η.refl (g:Nat) (w:β):Η g w w:=⟨NZ,fun _ _ _=>rfl,φ _ _⟩
theorem Η.below {g:Nat} {w w' d:β} (h:Η g w w') (a:BQ w' d):Η g w d:=
 ⟨gh h.1 a.size,fun b c e=>(a.block b (nj c h.1)).trans (h.2.1 b c e),h.2.2.trans (a.mono (Ι _))⟩
theorem Η.set {g:Nat} {w w':β} (h:Η g w w') (o:Nat) (x:ε):Η g w (ŝ w' ⟨g,o,O⟩ x):=
 ⟨by simpa using h.1,fun b c a=>(ψ _ _ _ _ a).trans (h.2.1 b c a),h.2.2.setCell (Ι _) x⟩
theorem Η.trans {g:Nat} {w w' e:β} (h:Η g w w') (a:Η g w' e):Η g w e:=
 ⟨gh h.1 a.1,fun b c d=>(a.2.1 b (nj c h.1) d).trans (h.2.1 b c d),h.2.2.trans a.2.2⟩
theorem Η.to {g a:Nat} {c w w':β} (h:Η g w w') (d:Below a c w) (e:a<=w.heap.size) (hg:a<=g):Below a c w':=by
 refine d.trans ?_;exact⟨h.2.2.os,h.2.2.tape,h.2.2.output,h.1,fun b f=>h.2.1 b ϊ ϊ⟩
theorem ς.oneCh {H:Nat->Prop} {g:Nat} {w w':β} {R:β->Prop} (h:ς H w R) (hg:H g) (a:Η g w w'):ς H w' R:=h.step a.1 (fun b c d=>a.2.1 b c fun e=>d (e ▸ hg)) fun _ _ g=>g
theorem Mf {w:β} {g:Nat} {T:TypeId} {a b c d e f i j:ε} (h:w.heap[g]?=J (C #[a,b,c,d,e,f,i,j] T (0,0))) (x y:ε):(ŝ (ŝ w ⟨g,6,O⟩ x) ⟨g,7,O⟩ y).heap[g]?=J (C #[a,b,c,d,e,f,x,y] T (0,0)):=by
 have k:(ŝ w ⟨g,6,O⟩ x).heap[g]?=J (C #[a,b,c,d,e,f,x,j] T (0,0)):=π _ g 6 _ _ x h;have l:(ŝ (ŝ w ⟨g,6,O⟩ x) ⟨g,7,O⟩ y).heap[g]?=J (C #[a,b,c,d,e,f,x,y] T (0,0)):=π _ g 7 _ _ y k;exact l
theorem zi {w:β} {g:Nat} {T:TypeId} {a b c d e f i j:ε} (h:w.heap[g]?=J (C #[a,b,c,d,e,f,i,j] T (0,0))) (x y:ε):(ŝ (ŝ w ⟨g,0,O⟩ x) ⟨g,1,O⟩ y).heap[g]?=J (C #[x,y,c,d,e,f,i,j] T (0,0)):=by
 have k:(ŝ w ⟨g,0,O⟩ x).heap[g]?=J (C #[x,b,c,d,e,f,i,j] T (0,0)):=π _ g 0 _ _ x h;have l:(ŝ (ŝ w ⟨g,0,O⟩ x) ⟨g,1,O⟩ y).heap[g]?=J (C #[x,y,c,d,e,f,i,j] T (0,0)):=π _ g 1 _ _ y k;exact l
theorem Mg {w:β} {g:Nat} {T:TypeId} {a b c d e f i j:ε} (h:w.heap[g]?=J (C #[a,b,c,d,e,f,i,j] T (0,0))) (y:ε):(ŝ w ⟨g,7,O⟩ y).heap[g]?=J (C #[a,b,c,d,e,f,i,y] T (0,0)):=π _ g 7 _ _ y h
theorem Me {w:β} {g:Nat} {T:TypeId} {a b c d e f i j:ε} (h:w.heap[g]?=J (C #[a,b,c,d,e,f,i,j] T (0,0))) (k l m n:ε):(ŝ (ŝ (ŝ (ŝ w ⟨g,2,O⟩ k) ⟨g,3,O⟩ l) ⟨g,4,O⟩ m) ⟨g,5,O⟩ n).heap[g]?=J (C #[a,b,k,l,m,n,i,j] T (0,0)):=by
 have o:(ŝ w ⟨g,2,O⟩ k).heap[g]?=J (C #[a,b,k,d,e,f,i,j] T (0,0)):=π _ g 2 _ _ k h;have p:(ŝ (ŝ w ⟨g,2,O⟩ k) ⟨g,3,O⟩ l).heap[g]?=J (C #[a,b,k,l,e,f,i,j] T (0,0)):=π _ g 3 _ _ l o;have q:(ŝ (ŝ (ŝ w ⟨g,2,O⟩ k) ⟨g,3,O⟩ l) ⟨g,4,O⟩ m).heap[g]?=J (C #[a,b,k,l,m,f,i,j] T (0,0)):=π _ g 4 _ _ m p;have r:(ŝ (ŝ (ŝ (ŝ w ⟨g,2,O⟩ k) ⟨g,3,O⟩ l) ⟨g,4,O⟩ m) ⟨g,5,O⟩ n).heap[g]?=J (C #[a,b,k,l,m,n,i,j] T (0,0)):=π _ g 5 _ _ n q;exact r
def Fy (g:Nat) (p:jL) (a:ϰ) (w:β) (e:Ending) (w':β):Prop:=e=ŗ (.tuple #[])/\w'.heap[g]?=J (C (gi p {a with up:=false,fuse:= -1}) 136 (0,0))/\Η g w w'
theorem CH (g:Nat) (p:jL) (c:ϰ) (w:β) (hg:w.heap[g]?=J (C (gi p c) 136 (0,0))) :
  Calls prog 62 #[þ (J ⟨g,0,O⟩)] w (Fy g p c w):=by
 have a:=hg;unfold gi at a;have d:=Zh (Mf a (.bool false) (IZ (-1)));obtain⟨⟨c0,c1,c2,e,f,h,i,j⟩,b,m⟩:=ϳ a;have k:=b 6;have l:=b 7;clear hg a b c0 c1 c2 e f h;go_enter func62,ntmps62;go_wp2
 go_returns
 exact⟨rfl,d.o,((Η.refl g w).set 6 _).set 7 _⟩
def kP (a:Int) (n:Nat):Nat:=if a<0 then n else a.toNat
def tK (a:ϰ) (d:Ε×fV) (b:Nat):ϰ:={a with bl:=d.1,ws:=d.2,fuse:=if a.fuse<0 then a.fuse else a.fuse - (b:Int)}
def xp (H:Nat->Prop) (g:Nat) (b:ϰ) (d:Ε×fV) (a n:Nat) (w:β) (e:Ending) (w':β):Prop:= ∃ c:jL,e=ŗ (.bool ((a:Int)==(n:Int)))/\w'.heap[g]?=J (C (gi c (tK b d a)) 136 (0,0))/\ς H w' (fun f=>ka f c (tK b d a))/\Η g w w'
theorem Jz (H:Nat->Prop) (g:Nat) (p:jL) (ab:Option Addr) (ac:Nat) (l:List gQ) (bl:Ε) (ws:fV) (sq ln a:Int) (x:Ix) (up:Bool) (w:β) (hg:w.heap[g]?=J (C (gi p ⟨bl,ws,sq,ln,x,up,a⟩) 136 (0,0)))
  (af:∀ b,H b->b<w.heap.size) (v:H g) (aa:ς H w (fun R=>ka R p ⟨bl,ws,sq,ln,x,up,a⟩)) (aj:ja bl ws) (ae:0<L bl) (ah:pW w (D ab (L l) ac) l) (ai:∀ c∈l,c.ok (L bl)) (am:L ws+L l<=900) (aw : -9223372036854775808<=a) (ax:a<=9223372036854775807) :
  Calls prog 91 #[þ (J ⟨g,0,O⟩),D ab (L l) ac] w (xp H g ⟨bl,ws,sq,ln,x,up,a⟩ (hM (bl,ws) (l.take (kP a (L l)))) (min (kP a (L l)) (L l)) (L l) w):=by
 have t:=Zh (Jl H (kP a (L l)) ab ac l p.ba p.bc p.wa p.wc bl ws w af (aa.imp fun R h=>⟨h.b,h.wt⟩) aj ah ai am ae);have ad:=Zh aa;unfold gi at hg;simp only at hg;have Q:=hg;obtain⟨⟨c0,c1,c2,F,G,I,K,M⟩,P,S⟩:=ϳ hg;have ap:min (kP a (L l)) (L l)<=L l:=Nat.min_le_right _ _;generalize hM (bl,ws) (l.take (kP a (L l)))=d at *;obtain⟨m,N⟩:∃ m,m=min (kP a (L l)) (L l):=⟨_,rfl⟩;rw[<-N]at t ap ⊢;have ak:Hid (a<0->m=L l):=fun h=>by rw[N];unfold kP;rw[μ h];simp
 have ag:Hid (¬a<0->(kP a (L l):Int)=a):=fun h=>by unfold kP;rw[κ h];omega
 have an:Hid (¬a<0->(m:Int)<=a):=fun h=>by have:=ag.o h;rw[N];omega
 clear aa aj ae ah ai N af;by_cases z:a<0
 .have ao:kP a (L l)=L l:=by unfold kP;rw[μ z]
  rw[ao]at t;have aq:¬(0:Int)<=a:=ϊ;go_enter func91,ntmps91;go_wp2_with fail
  refine t.o.mono ?_;rintro e q ⟨f,j,i,k,rfl,B,n⟩;have o:BQ w (å q (C #[D f (L d.1) j,D i (L d.2) k] 41)):=n.alloc n.size _;have A:=χ q (C #[D f (L d.1) j,D i (L d.2) k] 41);go_upto_region 5 with (fail)
  have E:=B.alloc (C #[D f (L d.1) j,D i (L d.2) k] 41);have ar:g≠q.heap.size:=by have:=n.size;omega
  generalize å q (C #[D f (L d.1) j,D i (L d.2) k] 41)=W at *;have r:=θ Q o;obtain⟨⟨al,d1⟩,-,-⟩:=ι A;have s:=zi r (D f (L d.1) j) (D i (L d.2) k);have y:=(((Η.refl g w).below o).set 0 (D f (L d.1) j)).set 1 (D i (L d.2) k);have V:=Zh (((E.and (ad.o.below o)).set (p:=⟨g,0,O⟩) v (D f (L d.1) j)).set (p:=⟨g,1,O⟩) v (D i (L d.2) k));obtain⟨⟨c0,c1,c2,F,G,I,K,M⟩,P,S⟩:=ϳ r;go_upto_region 6 with (fail)
  generalize ŝ (ŝ W ⟨g,0,O⟩ (D f (L d.1) j)) ⟨g,1,O⟩ (D i (L d.2) k)=X at *;have U:=Zh s;obtain⟨⟨c0,c1,c2,F,G,I,K,M⟩,P,S⟩:=ϳ s;have T:Hid (xp H g ⟨bl,ws,sq,ln,x,up,a⟩ d m (L l) w (ŗ (.bool ((m:Int)==(L l:Int)))) X):=by
   refine⟨⟨f,j,i,k,p.da,p.dc,p.sa,p.sc⟩,rfl,?_,?_,y⟩
   .unfold gi tK;simp only[μ z];exact U.o
   .exact V.o.imp fun R ⟨⟨Y,Z⟩,u⟩=>⟨Y,Z,u.d,u.s⟩
  have ay:min (L l) (L l)=m:=by rw[ak.o z];simp
  clear r s y B E n o A hg Q;go_wp2;go_ret;exact T.o
 .have aq:(0:Int)<=a:=ϊ
  rw[ag.o z]at t;have av:=an.o z;have au:IntKind.i64.wrap (a - (m:Int))=a - (m:Int):=Ϗ;go_enter func91,ntmps91;go_wp2_with fail
  refine t.o.mono ?_;rintro e q ⟨f,j,i,k,rfl,B,n⟩;have o:BQ w (å q (C #[D f (L d.1) j,D i (L d.2) k] 41)):=n.alloc n.size _;have A:=χ q (C #[D f (L d.1) j,D i (L d.2) k] 41);go_upto_region 5 with (fail)
  have E:=B.alloc (C #[D f (L d.1) j,D i (L d.2) k] 41);have ar:g≠q.heap.size:=by have:=n.size;omega
  generalize å q (C #[D f (L d.1) j,D i (L d.2) k] 41)=W at *;have r:=θ Q o;obtain⟨⟨al,d1⟩,-,-⟩:=ι A;have s:=zi r (D f (L d.1) j) (D i (L d.2) k);have y:=(((Η.refl g w).below o).set 0 (D f (L d.1) j)).set 1 (D i (L d.2) k);have V:=Zh (((E.and (ad.o.below o)).set (p:=⟨g,0,O⟩) v (D f (L d.1) j)).set (p:=⟨g,1,O⟩) v (D i (L d.2) k));obtain⟨⟨c0,c1,c2,F,G,I,K,M⟩,P,S⟩:=ϳ r;go_upto_region 6 with (fail)
  generalize ŝ (ŝ W ⟨g,0,O⟩ (D f (L d.1) j)) ⟨g,1,O⟩ (D i (L d.2) k)=X at *;obtain⟨⟨c0,c1,c2,F,G,I,K,M⟩,P,S⟩:=ϳ s;have U:=Zh (Mg s (IZ (a - (m:Int))));have T:Hid (xp H g ⟨bl,ws,sq,ln,x,up,a⟩ d m (L l) w (ŗ (.bool ((m:Int)==(L l:Int)))) (ŝ X ⟨g,7,O⟩ (IZ (a - (m:Int))))):=by
   refine⟨⟨f,j,i,k,p.da,p.dc,p.sa,p.sc⟩,rfl,?_,?_,y.set 7 _⟩
   .unfold gi tK;simp only[κ (ϊ:¬a<0)];exact U.o
   .exact(V.o.set (p:=⟨g,7,O⟩) v _).imp fun R ⟨⟨Y,Z⟩,u⟩=>⟨Y,Z,u.d,u.s⟩
  clear r s y B E n o A hg Q;go_wp2;go_ret;exact T.o
def WS (b g:Nat) (w:β) (l:γ):Prop:= ∃ a n c,w.heap[g]?=J (C #[D a n c,.bool false] 227 (0,0))/\Φ b w (D a n c) n l/\∀ q,(Value.slice a n c).ownBlock=J q->q≠g
theorem WS.below {a g:Nat} {w w':β} {l:γ} (h:WS a g w l) (b:BQ w w'):WS a g w' l:=by
 obtain⟨d,n,c,e,f,i⟩:=h;exact⟨d,n,c,θ e b,f.below b,i⟩
def sS (g:Nat) (w:β) (x:Nat):Prop:= ∀ a n c z,w.heap[g]?=J (C #[D a n c,z] 227 (0,0))->(Value.slice a n c).ownBlock≠J x
def lQ (g:Nat) (w w':β):Prop:= ∀ x,x<w.heap.size->x≠g->sS g w x->w'.heap[x]?=w.heap[x]?/\sS g w' x
theorem lQ.trans {g:Nat} {w w1 a:β} (d:lQ g w w1) (e:lQ g w1 a) (i:w.heap.size<=w1.heap.size):lQ g w a:=fun x h hg f=>by
 obtain⟨b,c⟩:=d x h hg f;obtain⟨b1,b2⟩:=e x ϊ hg c;exact⟨b1.trans b,b2⟩
theorem lQ.of_below {g:Nat} {w w':β} (a:BQ w w') (hg:g<w.heap.size):lQ g w w':=fun x e _ d=>⟨a.block x e,fun b n c z h=>d b n c z ((a.block g hg).symm.trans h)⟩
theorem zT {d g n k:Nat} {w w1:β} {a:Option Addr} {c:Nat} {l m:γ} {f:ε} (hg:w.heap[g]?=J (C #[D a n c,.bool false] 227 (0,0))) (E:d<=g) (t:Φ d w (D a n c) n l) (u:∀ q,(Value.slice a n c).ownBlock=J q->q≠g) (H:L m=k)
  (y:w1.ownsRow d 5 1 f (n+k) (η l++η m)) (o:w.grownBy w1 (Value.slice a n c).ownBlock) (A:f.ownBlock=(Value.slice a n c).ownBlock\/f.ownBlock=J w.heap.size) :
  w1.heap[g]?=J (C #[D a n c,.bool false] 227 (0,0))/\WS d g (ŝ w1 ⟨g,0,O⟩ f) (l++m)/\Below d w (ŝ w1 ⟨g,0,O⟩ f)/\lQ g w (ŝ w1 ⟨g,0,O⟩ f):=by
 have G:=ο hg;have r:w1.heap[g]?=J (C #[D a n c,.bool false] 227 (0,0)):=(o.block g G (fun e=>u g e.symm rfl)).trans hg;have F:Below d w w1:=RZ.grown o ϊ (fun q b=>(Ν t.2 q b).1);obtain⟨i,c2,rfl⟩:=Θ y;have v:∀ q,(Value.slice i (n+k) c2).ownBlock=J q->q≠g:=by
  intro q b e;rcases A with h|h
  .exact u q (h ▸ b) e
  .rw[h]at b;injection b with b;omega
 have p:(ŝ w1 ⟨g,0,O⟩ (D i (n+k) c2)).heap[g]?=J (C #[D i (n+k) c2,.bool false] 227 (0,0)):=π _ g 0 _ _ _ r;refine⟨r,⟨i,n+k,c2,p,⟨by simp[t.1,H],?_⟩,v⟩,F.setCell E _,?_⟩
 .rw[sV]
  exact jT y (fun q b=>ψ _ _ _ _ (v q b))
 .intro x K M I
  have s:=I a n c _ hg;refine⟨(ψ _ _ _ _ M).trans (o.block x K (fun e=>s e.symm)),fun N n3 P z B=>?_⟩;have e:=p.symm.trans B;simp only[Ο,Obj.cells.injEq,Array.mk.injEq,List.cons.injEq,Ξ]at e;obtain⟨⟨⟨rfl,rfl,rfl⟩,-⟩,-⟩:=e;intro j;rcases A with h|h
  .exact s (h ▸ j)
  .rw[h]at j;injection j with j;omega
def xA (a g:Nat) (l:γ) (w:β) (e:Ending) (w':β):Prop:=e=ŗ (.tuple #[])/\WS a g w' l/\Below a w w'/\lQ g w w'
def WP (a g:Nat) (l:γ) (w:β) (e:Ending) (w':β):Prop:=e=ŗ (.tuple #[])/\WS a g w' l/\Below a w w'
theorem zP (d g a:Nat) (l:γ) (w:β) (h:WS d g w l) (B:d<=g) (E:a<=4611686018427387904) (aa:L l<=10000000) :
  Calls prog 138 #[þ (J ⟨g,0,O⟩),IZ a] w (xA d g (l++ξ a) w):=by
 obtain⟨z,n,c,hg,i,q⟩:=h;have ac:=i.1;have G:=ο hg;obtain⟨N,hi,I,K,M⟩:=ϯ lF;have u:=Zh (tC a w E);have s:=Zx hg;have x:=Zx i;have v:=Zx q;clear hg i q;go_enter func138,ntmps138;go_wp2_with fail
 refine u.o.mono ?_;rintro e ae ⟨Y,Q,c1,rfl,j,b⟩;have f:=θ s.o b;have H:=j.1;have ab:=fQ 8 a ϊ;have o:=Zx (x.o.below b);have y:=Zx (j.rd.src (P:=prog) (tx:=31) gu (mp (ξ a)));have m:=Zx b;have t:=Zx f;obtain⟨⟨V,W⟩,⟨A,f1⟩,X⟩:=ι f;have F:=b.size;clear j b f;go_wp2_with (at_builtin;go_loud (refine gn rfl _ _ _ _ rfl d 5 N _ 1 1 gu hi I K M rfl (D z n c) n (η l) (by rfl) o.o.2 _ Q (η (ξ a)) (by rfl) y.o ώ ϊ ϊ ?_;intro ad af k p r _;obtain⟨Z,c2,rfl⟩:=Θ k;obtain⟨R,S,T,U⟩:=zT t.o B o.o v.o H k p r;obtain⟨⟨V,W⟩,⟨A,f1⟩,X⟩:=ι R;clear k p r))
 go_returns
 exact⟨rfl,S,(m.o.mono ϊ).trans T,(lQ.of_below m.o G).trans U F⟩
theorem EX (a g b:Nat) (l:γ) (w:β) (h:WS a g w l) (i:a<=g) (j:b<=4611686018427387904) (k:L l<=10000000) :
  Calls prog 138 #[þ (J ⟨g,0,O⟩),IZ b] w (WP a g (l++ξ b) w):=
 (zP a g b l w h i j k).mono fun e m ⟨c,d,f,_⟩=>⟨c,d,f⟩
theorem zQ (i g p:Nat) (I:Option Addr) (f M:Nat) (d l:γ) (w:β) (h:WS i g w l) (ab:i<=g) (x:L d=f) (A:Rd w (D I f M) f 1 (η d)) (ap:f<=p) (ar:p<=1000000) (ao:L l<=10000000) :
  Calls prog 139 #[þ (J ⟨g,0,O⟩),D I f M,IZ p] w (xA i g (l++Ζ d) w):=by
 obtain⟨Z,n,c,hg,q,z⟩:=h;have au:=q.1;have ad:=ο hg;have aq:¬(p:Int)<(f:Int):=ϊ;obtain⟨ai,hi,af,ag,ah⟩:=ϯ lF;have W:=Zx (fun m=>uU O 0 0 [] d m rfl ϊ (Rd.of_own (Φ.nil m 0).2) ϊ);have av:L (Ζ d)<=9+f:=by
  have:=fQ 8 (L d) ϊ;simp only[Ζ,ω];omega
 have N:=Zx hg;have S:=Zx q;have R:=Zx z;have v:=Zx A;obtain⟨⟨t,al⟩,⟨aa,f1⟩,am⟩:=ι hg;clear hg q z A;go_enter func139,ntmps139;go_upto_region 2 with (fail)
 have a:BQ w w.drew:=RZ.drew;refine ϸ (fun X=>BQ w X) 8 ϋ ?_;refine Zf 0 a ?_;refine Zf 1 a ?_;refine Zf 2 a ?_;refine Zf 3 a ?_;refine Zk 4 a ?_ (hy:=by intro m k;have aj:=ζ k t;have s:=ih x (v.o.below k);go_simp;try with_reducible rfl);refine Zf 5 a ?_;refine Zb 6 [7,8] a ?_ (hy:=by intro m k;have aj:=ζ k t;have s:=ih x (v.o.below k);go_simp;try with_reducible rfl);refine Ψ (fuel:=4) 7 ϋ rfl ?_;intro K j;go_simp;refine(W.o _).mono ?_;rintro e ak ⟨Y,E,c1,rfl,o,ac⟩;rw[jy]at o;have b:BQ w ak:=a.trans ac;refine j _ _ b ?_;clear j K;try simp only[Zp]
 have Q:=Zx (θ N.o b);have u:=Zx (S.o.below b);have ae:=o.1;have V:=Zx (o.rd.src (P:=prog) (tx:=31) gu (mp (Ζ d)));have aw:=b.size;refine jp (fuel:=3) ϋ ϋ rfl ?_;intro K j;refine lx rfl (.tmp 17) (.tmp 20) 31 31 rfl i 5 ai (ĭ .u8 0) 1 1 gu hi af ag ah rfl (D Z n c) n _ ϔ u.o.2 (D Y E c1) E (η (Ζ d)) ϔ V.o ώ ϊ ϊ ?_;intro ax ay r y B;obtain⟨an,c2,rfl⟩:=Θ r;obtain⟨s,F,G,H⟩:=zT Q.o ab u.o R.o ae r y B;refine j _ _ ?_;clear j K;try simp only[Zp]
 obtain⟨⟨t,al⟩,⟨aa,f1⟩,am⟩:=ι s;have T:=Zx F;have U:=Zx (Γ ((b.mono (ϊ:i<=w.heap.size)).trans G) ((lQ.of_below b ad).trans H b.size));clear r y B F G H o;refine Ze 9 ?_;try simp only[Zp]
 refine Ze 10 ?_;try simp only[Zp]
 refine Ze 11 ?_;refine Zd ?_;go_wp2
 go_returns
 exact⟨rfl,T.o,U.o⟩
theorem Fb (b g c:Nat) (f:Option Addr) (a i:Nat) (d l:γ) (w:β) (h:WS b g w l) (n:b<=g) (o:L d=a) (s:Rd w (D f a i) a 1 (η d)) (q:a<=c) (r:c<=1000000) (p:L l<=10000000) :
  Calls prog 139 #[þ (J ⟨g,0,O⟩),D f a i,IZ c] w (WP b g (l++Ζ d) w):=
 (zQ b g c f a i d l w h n o s q r p).mono fun e t ⟨j,k,m,_⟩=>⟨j,k,m⟩
theorem wJ (b g:Nat) (v:ε) (docs:List (γ)) (ps:List (Nat×Nat)) (l:γ) (w:β) (h:WS b g w l) (u:b<=g) (k:Rd w v (L ps) 4 (Ϸ docs ps)) (f:ϵ docs ps (L docs)) (x:L l<=10000000) :
  Calls prog 125 #[þ (J ⟨g,0,O⟩),ā #[IZ (L docs),š (δ (ϣ docs)),v]] w (WP b g (l++Ζ (ϲ docs ps)) w):=by
 obtain⟨m,R,a⟩:=Ϻ (w:=w) (A:=C #[IZ (L docs),š (δ (ϣ docs)),v] 123) RZ;have HW:=Zh (Ci v docs ps _ (k.below a) f);have K:=jP f;have iD:=Zx (h.below a);have I:g<w.heap.size:=by obtain⟨H,n,c,t,-,-⟩:=h;exact ο t
 generalize ϲ docs ps=o at *;generalize ϣ docs=r at *;clear k f h;go_enter func125,ntmps125;go_upto_region 1 with (fail)
 generalize å w (C #[IZ (L docs),š (δ r),v] 123)=G at *;obtain⟨⟨N,P,Q⟩,-,-⟩:=Β m;go_wp2_with fail
 refine HW.o.mono ?_;rintro e F ⟨s,z,c1,rfl,i,d⟩;have j:=a.trans (d.mono a.size);have y:=i.1;have q:=Zx (Fb b g 10000 s z c1 o l F (iD.o.below d) u y i.rd ϊ ϊ x);have p:=Zx j;clear i d m a j;go_wp2_with fail
 refine q.o.mono ?_;rintro e M ⟨rfl,B,E⟩;go_wp2
 go_returns
 exact⟨rfl,B,(p.o.mono ϊ).trans E⟩
def gq (l:List (γ)):γ:=ξ (L l)++l.flatten
theorem Na (w:β) (ys:γ) (m:Nat) (hy:L ys=m):Src prog 1 9 (š (δ ys)) m (η ys) w:=by
 have:=Src.ofString (P:=prog) w lK (δ ys);rw[jx,hy]at this;have e:(δ ys).data.toList.map (fun b:UInt8=>Value.int .u8 b.toNat)=η ys:=by rw[wA];rfl
 first|exact this|(rw[<-e];exact this)|(simpa[η,ch,wA,δ] using this)
theorem oJ:∀ {l:List (γ)},ϭ l->L l.flatten=L l*32
 |[],_=>rfl
 |a::l,h=>by
  have b:=h a ύ;have c:=oJ (l:=l) (fun d e=>h d (by simp[e]));simp only[oX,ω,Ϧ,b,c];omega
theorem EZ (f g:Nat) (P:Option Addr) (k pc:Nat) (path:List (γ)) (l:γ) (w:β) (h:WS f g w l) (F:f<=g) (q:L path=k) (ay:k<=64) (s:ϭ path) (M:∀ i,Below f w i->Rd i (D P k pc) k 1 (σ path)) (aE:L l<=1000000) :
  Calls prog 126 #[þ (J ⟨g,0,O⟩),D P k pc] w (xA f g (l++gq path) w):=by
 obtain⟨an,hi,ak,al,am⟩:=ϯ lF;have aD:¬(64:Int)<(k:Int):=ϊ;have aA:g<w.heap.size:=by obtain⟨r,n,c,j,-,-⟩:=h;exact ο j
 have Y:=Zh (zP f g k l w h F ϊ ϊ);have U:=Zx (fun i (ag:Below f w i) a p=>qL (M i ag) q a p);have T:=Zh (fun a (p:a<L path)=>s path[a] (Χ p));have B:=Zh q;have aF:=fQ 8 k ϊ;have W:=Zx (fun a=>show(L ((path.take a).flatten))<=64*32 by
  have j:=oJ (l:=path.take a) (fun d ah=>s d (ni ah))
  rw[j,gN];omega)
 have aa:Hid (l++gq path=(l++ξ k)++path.flatten):=by show _=_;unfold gq;rw[q,gM]
 clear h q s M;go_enter func126,ntmps126;go_wp2_with fail
 refine Y.o.mono ?_;rintro e ar ⟨rfl,z,G,aj⟩;have aB:g<ar.heap.size:=by obtain⟨r,n,c,j,-,-⟩:=z;exact ο j
 have ad:=Zx z;clear z;go_wp2;go_loopw [18] (fun A wr=>∃ (a:Nat),a<=k/\A=IZ (a:Int)/\Hid (WS f g wr ((l++ξ k)++(path.take a).flatten))/\Below f w wr/\Ϭ (w.heap.size<=wr.heap.size/\lQ g w wr)) (fun A _=>k - (intOf A).toNat)
 case atStart=>exact⟨0,Ι _,rfl,by show WS _ _ _ _;simpa using ad.o,G,⟨G.size,aj⟩⟩
 case round =>
  obtain⟨a,p,rfl,iD,t,m⟩:=hrel;by_cases aC:a<k
  .have u:a<L path:=by have:=B.o;omega
   obtain⟨b,off,rfl,az⟩:=U.o wr t a u;have o:=T.o a u;have ao:(a:Int)<(k:Int):=ϊ;have aH:(δ path[a]).size=32:=by rw[jx];exact o
   have ac:Hid ((path.take (a+1)).flatten=(path.take a).flatten++path[a]):=by
    show _=_;rw[kD u,wY];simp
   obtain⟨r,n,c,hg,v,I⟩:=iD.o;have K:=v.1;have ai:=W.o a;have aG:n<=1003000:=by simp only[ω]at K;omega
   obtain⟨⟨au,av⟩,⟨af,f1⟩,aw⟩:=ι hg;have X:=Zx hg;have E:=Zx v;have Z:=Zx I;have ab:=Zx (Na wr path[a] 32 o);have V:=Zx o;generalize path[a]=S at *;clear v I hg K ai o;go_wp2_with (at_builtin;go_loud (refine gn rfl _ _ _ _ rfl f 5 an _ 1 1 gu hi ak al am rfl (D r n c) n _ (by rfl) E.o.2 _ 32 (η S) (by rfl) ab.o ώ ϊ ϊ ?_;intro aI aJ x H N _;obtain⟨ax,c2,rfl⟩:=Θ x;obtain⟨ap,Q,R,aq⟩:=zT X.o F E.o Z.o V.o x H N;obtain⟨⟨au,av⟩,⟨af,f1⟩,aw⟩:=ι ap;clear x H N))
   rw[gM,<-ac.o]at Q;go_roundw;case rel=>exact⟨a+1,ϊ,ϕ,Q,t.trans R,⟨gh m.o.1 R.size,m.o.2.trans aq m.o.1⟩⟩
   case measure=>simp[intOf];omega
  .have ao:¬(a:Int)<(k:Int):=ϊ
   have y:=iD.o;rw[gW (by have:=B.o;omega),<-aa.o]at y;have ae:=Zx y;clear y;go_wp2
   go_returns
   exact⟨rfl,ae.o,t,m.o.2⟩
theorem EY (a g:Nat) (b:Option Addr) (k pc:Nat) (path:List (γ)) (l:γ) (w:β) (h:WS a g w l) (n:a<=g) (o:L path=k) (m:k<=64) (j:ϭ path) (q:∀ c,Below a w c->Rd c (D b k pc) k 1 (σ path)) (p:L l<=1000000) :
  Calls prog 126 #[þ (J ⟨g,0,O⟩),D b k pc] w (WP a g (l++gq path) w):=
 (EZ a g b k pc path l w h n o m j q p).mono fun e r ⟨d,f,i,_⟩=>⟨d,f,i⟩
theorem zO (d g:Nat) (l:γ) (w:β) (h:WS d g w l) (k:L l<=1048576) :
  Calls prog 127 #[þ (J ⟨g,0,O⟩)] w fun e w'=>∃ a n c,e=ŗ (.tuple #[D a n c,IZ 0])/\Φ d w (D a n c) n l/\w=w':=by
 obtain⟨a,n,c,hg,b,i⟩:=h;have m:=b.1;have o:¬(1048576:Int)<(n:Int):=ϊ;obtain⟨⟨p,q⟩,⟨j,f1⟩,r⟩:=ι hg;have f:=Zx b;clear b i hg;go_enter func127,ntmps127;go_wp2;go_ret2;exact⟨a,n,c,rfl,f.o,rfl⟩
theorem lY {w:β} {g:Nat} {a b c d e f i:ε} {T:TypeId} (h:w.heap[g]?=J (C #[a,b,c,d,e,f,i] T (0,0))):(w.cell? ⟨g,0,O⟩=J a/\w.cell? ⟨g,1,O⟩=J b/\w.cell? ⟨g,2,O⟩=J c/\w.cell? ⟨g,3,O⟩=J d/\w.cell? ⟨g,4,O⟩=J e/\w.cell? ⟨g,5,O⟩=J f/\w.cell? ⟨g,6,O⟩=J i)/\(∀ o,w.frozen? ⟨g,o,O⟩=false)/\g<w.heap.size:=
 ⟨⟨ν _ _ 0 _ _ _ h,ν _ _ 1 _ _ _ h,ν _ _ 2 _ _ _ h,ν _ _ 3 _ _ _ h,ν _ _ 4 _ _ _ h,ν _ _ 5 _ _ _ h,ν _ _ 6 _ _ _ h⟩,fun o=>ϥ _ _ o _ _ h,ο h⟩
theorem fX {w:β} {g:Nat} {a b c d e f:ε} {T:TypeId} (h:w.heap[g]?=J (C #[a,b,c,d,e,f] T (0,0))):(w.cell? ⟨g,0,O⟩=J a/\w.cell? ⟨g,1,O⟩=J b/\w.cell? ⟨g,2,O⟩=J c/\w.cell? ⟨g,3,O⟩=J d/\w.cell? ⟨g,4,O⟩=J e/\w.cell? ⟨g,5,O⟩=J f)/\(∀ o,w.frozen? ⟨g,o,O⟩=false)/\g<w.heap.size:=
 ⟨⟨ν _ _ 0 _ _ _ h,ν _ _ 1 _ _ _ h,ν _ _ 2 _ _ _ h,ν _ _ 3 _ _ _ h,ν _ _ 4 _ _ _ h,ν _ _ 5 _ _ _ h⟩,fun o=>ϥ _ _ o _ _ h,ο h⟩
theorem zV (w:β) (x:UInt8):WS w.heap.size (w.heap.size+1) (å (å w (C #[ĭ .u8 (x.toNat:Int)] 5)) (C #[D (J ⟨w.heap.size,0,O⟩) 1 1,.bool false] 227)) [x]:=by
 obtain⟨a,b,-,-,-⟩:=fU (w:=w) (A:=C #[ĭ .u8 (x.toNat:Int)] 5) (Z:=C #[D (J ⟨w.heap.size,0,O⟩) 1 1,.bool false] 227) RZ;refine⟨J ⟨w.heap.size,0,O⟩,1,1,b,⟨rfl,rfl,.inr ⟨w.heap.size,1,_,rfl,NZ,a,NZ,ώ,rfl,rfl⟩⟩,fun q c=>?_⟩;simp only[Value.ownBlock,Ο]at c;omega
def mC (d1:List (γ)) (p1:List (Nat×Nat)) (d2:List (γ)) (p2:List (Nat×Nat)) (path:List (γ)):γ:=[3]++Ζ (ϲ d1 p1)++Ζ (ϲ d2 p2)++gq path
theorem kV {l:γ} (h:L l<=1000000):L (Ζ l)<=9+L l:=by
 have:=fQ 8 (L l) ϊ;simp only[Ζ,ω];omega
theorem Om (r s:ε) (q:Option Addr) (k pc:Nat) (d1 d2:List (γ)) (p1 p2:List (Nat×Nat)) (path:List (γ)) (w:β) (K:Rd w r (L p1) 4 (Ϸ d1 p1)) (u:ϵ d1 p1 (L d1)) (t:Rd w s (L p2) 4 (Ϸ d2 p2)) (v:ϵ d2 p2 (L d2)) (S:L path=k) (ai:k<=64) (x:ϭ path) (U:Rd w (D q k pc) k 1 (σ path)) :
  Calls prog 71 #[ā #[IZ (L d1),š (δ (ϣ d1)),r,IZ (L d2),š (δ (ϣ d2)),s,D q k pc]] w (lP (mC d1 p1 d2 p2 path) w):=by
 obtain⟨am,aE,B⟩:=Ϻ (w:=w) (A:=C #[IZ (L d1),š (δ (ϣ d1)),r,IZ (L d2),š (δ (ϣ d2)),s,D q k pc] 149) RZ;have l1:=kV (l:=ϲ d1 p1) (by have:=jP u;omega);have l2:=kV (l:=ϲ d2 p2) (by have:=jP v;omega);have aA:=jP u;have aB:=jP v;have ak:=oJ x;have al:=fQ 8 (L path) ϊ;have aa:=Zx (fun a g l b (n:BQ w b) (d:WS a g b l) (m:a<=g) (p:L l<=10000000)=>wJ a g r d1 p1 l b d m (K.below n) u p);have ab:=Zx (fun a g l b (n:BQ w b) (d:WS a g b l) (m:a<=g) (p:L l<=10000000)=>wJ a g s d2 p2 l b d m (t.below n) v p);have ad:=Zx (fun a g l b (n:BQ w b) (an:w.heap.size<=a) (d:WS a g b l) (m:a<=g) (p:L l<=1000000)=>EY a g q k pc path l b d m S ai x (fun az t=>U.below (n.trans (t.mono an))) p);unfold mC;generalize Ζ (ϲ d1 p1)=ax at *;generalize Ζ (ϲ d2 p2)=ay at *;generalize ϣ d1=ae at *;generalize ϣ d2=af at *;generalize(L d1:Int)=ao at *;generalize(L d2:Int)=ap at *;have aC:L (gq path)<=9+64*32:=by unfold gq;simp only[ω];omega
 generalize gq path=aw at *;clear K t U S x ak al u v;go_enter func71,ntmps71;go_upto_region 1 with (fail)
 generalize å w (C #[IZ ao,š (δ ae),r,IZ ap,š (δ af),s,D q k pc] 149)=c at *;go_upto_region 2 with (fail)
 have d:WS c.heap.size (c.heap.size+1) (å (å c (C #[ĭ .u8 3] 5)) (C #[D (J ⟨c.heap.size,0,O⟩) 1 1,.bool false] 227)) [3]:=zV c 3;have M:BQ c (å (å c (C #[ĭ .u8 3] 5)) (C #[D (J ⟨c.heap.size,0,O⟩) 1 1,.bool false] 227)):=ġ.alloc ύ _;generalize(å (å c (C #[ĭ .u8 3] 5)) (C #[D (J ⟨c.heap.size,0,O⟩) 1 1,.bool false] 227))=ag at *;have o:=B.size;have E:=θ am M;have P:=B.trans (M.mono B.size);have G:=Zx (aa.o _ _ _ ag P d ϊ ύ);obtain⟨⟨c0,c1,c2,h,i,f,j⟩,-,-⟩:=lY E;clear d;go_wp2_with fail
 refine G.o.mono ?_;rintro e ar ⟨rfl,W,y⟩;have F:=(y.block _ ϊ).trans E;have Q:=P.trans (y.mono o);have H:=Zx (ab.o _ _ _ ar Q W ϊ ό);clear G c0 c1 c2 h i f j W y E;obtain⟨⟨c0,c1,c2,h,i,f,j⟩,-,-⟩:=lY F;go_wp2_with fail
 refine H.o.mono ?_;rintro e au ⟨rfl,X,z⟩;have V:=(z.block _ ϊ).trans F;have R:=Q.trans (z.mono o);have I:=Zx (ad.o _ _ _ au R o X ϊ ό);clear H c0 c1 c2 h i f j X z F;obtain⟨⟨c0,c1,c2,h,i,f,j⟩,-,-⟩:=lY V;go_wp2_with fail
 refine I.o.mono ?_;rintro e av ⟨rfl,Y,N⟩;have aj:=R.trans (N.mono o);have Z:=Zx (zO _ _ _ av Y ό);clear I c0 c1 c2 h i f j Y N V;go_wp2_with fail
 refine Z.o.mono ?_;rintro e aD ⟨ah,aq,f,rfl,T,rfl⟩;have ac:=Zx (T.mono o);clear T;go_wp2;go_ret2;exact⟨ah,aq,f,rfl,ac.o,aj⟩
def mA (ds:List (γ)) (ps:List (Nat×Nat)) (a:Nat) (d:γ) (path:List (γ)):γ:=[2]++Ζ (ϲ ds ps)++ξ a++Ζ d++gq path
theorem Ol (v:ε) (h:Nat) (t:Option Addr) (i u:Nat) (d:γ) (s:Option Addr) (k pc:Nat) (d1:List (γ)) (p1:List (Nat×Nat)) (path:List (γ)) (w:β) (Q:Rd w v (L p1) 4 (Ϸ d1 p1)) (x:ϵ d1 p1 (L d1)) (aN:h<=1000000) (av:L d=i) (aw:i<=2000) (W:Rd w (D t i u) i 1 (η d)) (X:L path=k) (aq:k<=64) (y:ϭ path) (Z:Rd w (D s k pc) k 1 (σ path)) :
  Calls prog 79 #[ā #[IZ (L d1),š (δ (ϣ d1)),v,IZ h,D t i u,D s k pc]] w (lP (mA d1 p1 h d path) w):=by
 obtain⟨az,aQ,F⟩:=Ϻ (w:=w) (A:=C #[IZ (L d1),š (δ (ϣ d1)),v,IZ h,D t i u,D s k pc] 158) RZ;have l1:=kV (l:=ϲ d1 p1) (by have:=jP x;omega);have l2:=kV (l:=d) ϊ;have l3:=fQ 8 h ϊ;have aM:=jP x;have ax:=oJ y;have ay:=fQ 8 (L path) ϊ;have ag:=Zx (fun a g l b (r:BQ w b) (f:WS a g b l) (o:a<=g) (p:L l<=10000000)=>wJ a g v d1 p1 l b f o (Q.below r) x p);have ai:=Zx (fun a g l b (f:WS a g b l) (o:a<=g) (p:L l<=10000000)=>EX a g h l b f o ϊ p);have ah:=Zx (fun a g l b (r:BQ w b) (f:WS a g b l) (o:a<=g) (p:L l<=10000000)=>Fb a g 2000 t i u d l b f o av (W.below r) aw ϊ p);have ak:=Zx (fun a g l b (r:BQ w b) (aA:w.heap.size<=a) (f:WS a g b l) (o:a<=g) (p:L l<=1000000)=>EY a g s k pc path l b f o X aq y (fun aL ap=>Z.below (r.trans (ap.mono aA))) p);unfold mA;generalize Ζ (ϲ d1 p1)=aJ at *;generalize Ζ d=aK at *;generalize ξ h=aH at *;generalize ϣ d1=al at *;generalize(L d1:Int)=aB at *;have aO:L (gq path)<=9+64*32:=by unfold gq;simp only[ω];omega
 generalize gq path=aI at *;clear Q Z X y ax ay x W;go_enter func79,ntmps79;go_upto_region 1 with (fail)
 generalize å w (C #[IZ aB,š (δ al),v,IZ h,D t i u,D s k pc] 158)=c at *;go_upto_region 2 with (fail)
 have f:WS c.heap.size (c.heap.size+1) (å (å c (C #[ĭ .u8 2] 5)) (C #[D (J ⟨c.heap.size,0,O⟩) 1 1,.bool false] 227)) [2]:=zV c 2;have R:BQ c (å (å c (C #[ĭ .u8 2] 5)) (C #[D (J ⟨c.heap.size,0,O⟩) 1 1,.bool false] 227)):=ġ.alloc ύ _;generalize(å (å c (C #[ĭ .u8 2] 5)) (C #[D (J ⟨c.heap.size,0,O⟩) 1 1,.bool false] 227))=am at *;have q:=F.size;have G:=θ az R;have T:=F.trans (R.mono F.size);have K:=Zx (ag.o _ _ _ am T f ϊ ύ);obtain⟨⟨c0,c1,c2,j,m,n⟩,-,-⟩:=fX G;clear f;go_wp2_with fail
 refine K.o.mono ?_;rintro e aD ⟨rfl,ab,z⟩;have H:=(z.block _ ϊ).trans G;have ar:=T.trans (z.mono q);have M:=Zx (ai.o _ _ _ aD ab ϊ ό);clear K c0 c1 c2 j m n ab z G;obtain⟨⟨c0,c1,c2,j,m,n⟩,-,-⟩:=fX H;go_wp2_with fail
 refine M.o.mono ?_;rintro e aE ⟨rfl,ac,B⟩;have I:=(B.block _ ϊ).trans H;have U:=ar.trans (B.mono q);have N:=Zx (ah.o _ _ _ aE U ac ϊ ό);clear M c0 c1 c2 j m n ac B H;obtain⟨⟨c0,c1,c2,j,m,n⟩,-,-⟩:=fX I;go_wp2_with fail
 refine N.o.mono ?_;rintro e aF ⟨rfl,ad,E⟩;have aa:=(E.block _ ϊ).trans I;have V:=U.trans (E.mono q);have P:=Zx (ak.o _ _ _ aF V q ad ϊ ό);clear N c0 c1 c2 j m n ad E I;obtain⟨⟨c0,c1,c2,j,m,n⟩,-,-⟩:=fX aa;go_wp2_with fail
 refine P.o.mono ?_;rintro e aG ⟨rfl,ae,S⟩;have au:=V.trans (S.mono q);have af:=Zx (zO _ _ _ aG ae ό);clear P c0 c1 c2 j m n ae S aa;go_wp2_with fail
 refine af.o.mono ?_;rintro e aP ⟨an,aC,ao,rfl,Y,rfl⟩;have aj:=Zx (Y.mono q);clear Y;go_wp2;go_ret2;exact⟨an,aC,ao,rfl,aj.o,au⟩
def RS (T:TypeId) (g:Nat) (w:β) (b:γ) (p:Nat):Prop:= ∃ a n c,w.heap[g]?=J (C #[D a n c,IZ (p:Int),IZ 0] T (0,0))/\L b=n/\ς (· =g) w (fun d=>Rd d (D a n c) n 1 (η b))
theorem RS.below {T:TypeId} {g p:Nat} {w w':β} {b:γ} (h:RS T g w b p) (d:BQ w w'):RS T g w' b p:=by
 obtain⟨a,n,c,e,f,i⟩:=h;exact⟨a,n,c,θ e d,f,i.below d⟩
theorem RS.stays {T:TypeId} {g p:Nat} {w w':β} {d:γ} (h:RS T g w d p) (k:w.heap.size<=w'.heap.size) (f:∀ b,b<w.heap.size->w'.heap[b]?=w.heap[b]?):RS T g w' d p:=by
 obtain⟨a,n,c,e,i,j⟩:=h;exact⟨a,n,c,(f g (ο e)).trans e,i,j.step k (fun b q _=>f b q) fun _ _ q=>q⟩
def gT (T:TypeId) (g lo:Nat) (w:β) (b:γ) (p:Nat):Prop:= ∃ a n c,w.heap[g]?=J (C #[D a n c,IZ (p:Int),IZ 0] T (0,0))/\L b=n/\Hi lo w (fun d=>Rd d (D a n c) n 1 (η b))
theorem gT.rs {T:TypeId} {g lo p:Nat} {w:β} {d:γ} (h:gT T g lo w d p) (hg:g<lo):RS T g w d p:=by
 obtain⟨a,n,c,e,f,i⟩:=h;exact⟨a,n,c,e,f,i.off (fun b _ h=>by have:b=g:=h;omega)⟩
theorem gT.stays {T:TypeId} {g lo p:Nat} {w w':β} {d:γ} (h:gT T g lo w d p) (k:w.heap.size<=w'.heap.size) (f:∀ b,b<w.heap.size->(b=g\/lo<=b)->w'.heap[b]?=w.heap[b]?):gT T g lo w' d p:=by
 obtain⟨a,n,c,e,i,j⟩:=h;exact⟨a,n,c,(f g (ο e) (.inl rfl)).trans e,i,j.step k fun b l m=>f b m (.inr l)⟩
theorem pE {T:TypeId} {g p n:Nat} {w w1:β} {x0 x1 x2:ε} {a:Option Addr} {c1:Nat} {c:γ} (hg:w.heap[g]?=J (C #[x0,x1,x2] T (0,0))) (d:BQ w w1) (j:L c=n) (i:Hi w.heap.size w1 (fun f=>Rd f (D a n c1) n 1 (η c))) :
  RS T g (ŝ (ŝ (ŝ w1 ⟨g,0,O⟩ (D a n c1)) ⟨g,1,O⟩ (IZ (p:Int))) ⟨g,2,O⟩ (IZ 0)) c p/\Η g w (ŝ (ŝ (ŝ w1 ⟨g,0,O⟩ (D a n c1)) ⟨g,1,O⟩ (IZ (p:Int))) ⟨g,2,O⟩ (IZ 0))/\gT T g w.heap.size (ŝ (ŝ (ŝ w1 ⟨g,0,O⟩ (D a n c1)) ⟨g,1,O⟩ (IZ (p:Int))) ⟨g,2,O⟩ (IZ 0)) c p:=by
 have e:=ο hg;refine⟨⟨a,n,c1,jg (θ hg d) _ _ _,j,?_⟩,((((Η.refl g w).below d).set 0 _).set 1 _).set 2 _,a,n,c1,jg (θ hg d) _ _ _,j,((i.set (p:=⟨g,0,O⟩) e _).set (p:=⟨g,1,O⟩) e _).set (p:=⟨g,2,O⟩) e _⟩;have k:ς (· =g) w1 (fun f=>Rd f (D a n c1) n 1 (η c)):=i.off (fun b _ h=>by have:b=g:=h;omega);exact((k.set (p:=⟨g,0,O⟩) rfl _).set (p:=⟨g,1,O⟩) rfl _).set (p:=⟨g,2,O⟩) rfl _
def RP (T:TypeId) (g:Nat) (a:γ) (p:Nat) (v:ε) (w:β) (e:Ending) (w':β):Prop:=e=ŗ v/\RS T g w' a p/\Η g w w'/\gT T g w.heap.size w' a p
theorem zb (g p:Nat) (b:Nat) (d pre post:γ) (w:β) (h:RS 238 g w d p) (l:d=pre++(ξ b++post)) (t:b<=4611686018427387904) (v:L pre=p) (u:L d<=1000000000) :
  Calls prog 140 #[þ (J ⟨g,0,O⟩)] w (RP 238 g d (p+L (ξ b)) (IZ b) w):=by
 obtain⟨a,n,c,hg,i,o⟩:=h;have q:=Zh (ql a n c p d pre post b w l t v i ϊ o.now);have j:=Zx hg;have r:=Zx i;obtain⟨⟨c0,c1,c2⟩,⟨s,f1,f2⟩,G⟩:=Β hg;clear hg o l i u;go_enter func140,ntmps140;go_wp2_with fail
 refine q.o.mono ?_;rintro e F ⟨x,E,rfl,m,f⟩;obtain⟨⟨y,d1,d2⟩,⟨z,A,B⟩,-⟩:=Β (θ j.o f);have k:=Zx (pE (p:=p+L (ξ b)) j.o f r.o m);clear m f c0 c1 c2 s f1 f2;go_wp2;go_ret;exact⟨rfl,k.o.1,k.o.2⟩
theorem vR (g p:Nat) (j:Nat) (d:γ) (b pre post:γ) (w:β) (h:RS 238 g w b p) (m:b=pre++(Ζ d++post)) (u:L d<=j) (x:L pre=p) (v:L b<=1000000000) :
  Calls prog 141 #[þ (J ⟨g,0,O⟩),IZ j] w (RP 238 g b (p+L (Ζ d)) (š (δ d)) w):=by
 obtain⟨a,n,c,hg,i,q⟩:=h;have r:=Zh (uS a n c p b pre post d j w m u x i ϊ q.now);have k:=Zx hg;have s:=Zx i;obtain⟨⟨c0,c1,c2⟩,⟨t,f1,f2⟩,H⟩:=Β hg;clear hg q m i v;go_enter func141,ntmps141;go_wp2_with fail
 refine r.o.mono ?_;rintro e G ⟨y,F,rfl,o,f⟩;obtain⟨⟨z,d1,d2⟩,⟨A,B,E⟩,-⟩:=Β (θ k.o f);have l:=Zx (pE (p:=p+L (Ζ d)) k.o f s.o o);clear o f c0 c1 c2 t f1 f2;go_wp2;go_ret;exact⟨rfl,l.o.1,l.o.2⟩
theorem vl (g p:Nat) (b:Nat) (d pre post:γ) (w:β) (h:RS 211 g w d p) (l:d=pre++(ξ b++post)) (t:b<=4611686018427387904) (v:L pre=p) (u:L d<=1000000000) :
  Calls prog 271 #[þ (J ⟨g,0,O⟩)] w (RP 211 g d (p+L (ξ b)) (IZ b) w):=by
 obtain⟨a,n,c,hg,i,o⟩:=h;have q:=Zh (ql a n c p d pre post b w l t v i ϊ o.now);have j:=Zx hg;have r:=Zx i;obtain⟨⟨c0,c1,c2⟩,⟨s,f1,f2⟩,G⟩:=Β hg;clear hg o l i u;go_enter func271,ntmps271;go_wp2_with fail
 refine q.o.mono ?_;rintro e F ⟨x,E,rfl,m,f⟩;obtain⟨⟨y,d1,d2⟩,⟨z,A,B⟩,-⟩:=Β (θ j.o f);have k:=Zx (pE (p:=p+L (ξ b)) j.o f r.o m);clear m f c0 c1 c2 s f1 f2;go_wp2;go_ret;exact⟨rfl,k.o.1,k.o.2⟩
theorem Cj (g p:Nat) (d:γ) (b pre post:γ) (w:β) (h:RS 211 g w b p) (l:b=pre++(d++post)) (t:L d=32) (v:L pre=p) (u:L b<=1000000000) :
  Calls prog 272 #[þ (J ⟨g,0,O⟩)] w (RP 211 g b (p+32) (š (δ d)) w):=by
 obtain⟨a,n,c,hg,i,o⟩:=h;have q:=Zh (xV a n c p b pre post d w l t v i ϊ o.now);have j:=Zx hg;have r:=Zx i;obtain⟨⟨c0,c1,c2⟩,⟨s,f1,f2⟩,G⟩:=Β hg;clear hg o l i u;go_enter func272,ntmps272;go_wp2_with fail
 refine q.o.mono ?_;rintro e F ⟨x,E,rfl,m,f⟩;obtain⟨⟨y,d1,d2⟩,⟨z,A,B⟩,-⟩:=Β (θ j.o f);have k:=Zx (pE (p:=p+32) j.o f r.o m);clear m f c0 c1 c2 s f1 f2;go_wp2;go_ret;exact⟨rfl,k.o.1,k.o.2⟩
