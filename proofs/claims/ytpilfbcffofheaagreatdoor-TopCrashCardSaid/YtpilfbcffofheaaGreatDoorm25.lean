/- Part 25 of the proof. -/
import Derived.Test.YtpilfbcffofheaaGreatDoorm21
import Derived.Test.YtpilfbcffofheaaGreatDoorm22
set_option linter.unusedVariables false
set_option linter.unusedSimpArgs false
set_option maxRecDepth 100000
set_option maxHeartbeats 8000000
namespace Go.Proofs.YtpilfbcffofheaaGreatDoor
open Go.Proofs.Tryz Go.RowKit Go.Sort
open Value renaming string->š,agg->ā,pointer->þ,slice->D,int->ĭ
open Option renaming some->J,none->O
open List renaming length->L
open Obj renaming cells->C
open Ending renaming returned->ŗ
open World renaming alloc->å,setCell->ŝ
structure PS where
 nx:Nat
 wd:Nat
 ops:List jc
def qx (a:List El) (n:Nat):Int:=match a[n]? with|some e=>e.kind|none => -2
def kB (a:List El) (n:Nat):γ:=match a[n]? with|some e=>e.term|none=>[]
def oM (a:List El) (n:Nat):Int:=match a[n]? with|some e=>e.pos|none=>0
def qM (a:List El) (s:PS):PS:=⟨s.nx+1,s.wd+1,s.ops++[(0,kB a s.nx)]⟩
def Ϣ:γ:=[104,97,121]
def nC:γ:=[111,120]
def sT:γ:=[104,97,121,32,124,32,111,120]
def kw:List jc:=[(0,Ϣ),(0,nC),(2,[])]
def ms:List El:=[⟨-1,0,Ϣ⟩,⟨124,4,[]⟩,⟨-1,6,nC⟩,⟨-2,8,[]⟩]
theorem Cr:(prog.info? 265).map (fun i=>(i.zero,i.size,i.bytes))=J (J (ā #[IZ 0,š ByteArray.empty]),2,24):=ϋ
structure iK (b0 B:Nat) (es:List El) (ev:ε) (w:β) (s:PS) (ov:ε):Prop where
 pm:PM w B ev s.nx s.wd ov
 own:w.ownsRow b0 265 2 ov (L s.ops) (jv s.ops)
 el:w.ownsRow b0 177 3 ev (L es) (kx es)
 le:b0<=B
theorem iK.below {b0 b:Nat} {c:List El} {d e:ε} {w w':β} {s:PS} (h:iK b0 b c d w s e) (a:BQ w w'):iK b0 b c d w' s e:=
 ⟨by have:=h.pm;unfold PM at this ⊢;rw[a.block _ (ο this)];exact this,Υ h.own a,Υ h.el a,h.le⟩
theorem iK.size {b0 a:Nat} {b:List El} {c d:ε} {w:β} {s:PS} (h:iK b0 a b c w s d):b0<=w.heap.size/\a<w.heap.size:=by
 have:=ο h.pm;have:=h.le;omega
theorem tE {w:β} {base c:Nat} {e t:TypeId} {i:Nat} {v:ε} {n:Nat} {xs:List ε} {ps:Array ε} {d:Nat×Nat} (b:w.heap[c]?=J (C ps t d)) (f:w.ownsRow base e i v n xs) (h:e≠t):v.ownBlock≠J c:=by
 intro a;rcases f.2 with ⟨rfl,_⟩|⟨g,j,cur,rfl,_,hg,_⟩
 .simp[Value.ownBlock]at a
 .simp only[Value.ownBlock,Ο]at a
  subst a;rw[hg]at b;simp only[Ο,Obj.cells.injEq]at b;exact h b.2.1
theorem tO {w:β} {base a:Nat} {e:TypeId} {g:Nat} {v c f:ε} {nx wd:Int} {n:Nat} {xs:List ε} (b:PM w a c nx wd f) (d:w.ownsRow base e g v n xs) (h:e≠174):v.ownBlock≠J a:=by
 unfold PM at b;exact tE b d h
theorem iK.setNx {b0 b:Nat} {c:List El} {d e:ε} {w:β} {s:PS} (h:iK b0 b c d w s e) (n:Nat):iK b0 b c d (ŝ w ⟨b,1,O⟩ (IZ n)) {s with nx:=n} e:=
 ⟨π w b 1 _ _ _ h.pm,mi h.own (a:=⟨b,1,O⟩) (tO h.pm h.own ϐ) _,mi h.el (a:=⟨b,1,O⟩) (tO h.pm h.el ϐ) _,h.le⟩
theorem iK.setWd {b0 b:Nat} {c:List El} {d e:ε} {w:β} {s:PS} (h:iK b0 b c d w s e) (n:Nat):iK b0 b c d (ŝ w ⟨b,2,O⟩ (IZ n)) {s with wd:=n} e:=
 ⟨π w b 2 _ _ _ h.pm,mi h.own (a:=⟨b,2,O⟩) (tO h.pm h.own ϐ) _,mi h.el (a:=⟨b,2,O⟩) (tO h.pm h.el ϐ) _,h.le⟩
theorem iK.grownOps {b0 b:Nat} {d:List El} {c f i:ε} {w w':β} {s:PS} {op:jc} (h:iK b0 b d c w s f) (l:w'.ownsRow b0 265 2 i (L s.ops+1) (jv s.ops++jv [op])) (hg:w.grownBy w' f.ownBlock) :
  PM w' b c s.nx s.wd f/\iK b0 b d c (ŝ w' ⟨b,3,O⟩ i) {s with ops:=s.ops++[op]} i:=by
 have e:w'.heap[b]?=J (C #[c,IZ s.nx,IZ s.wd,f] 174 (0,0)):=(hg.block b h.size.2 (tO h.pm h.own ϐ).symm).trans h.pm;have k:w'.ownsRow b0 177 3 c (L d) (kx d):=by
  obtain⟨q,p⟩:=h.el;refine⟨q,?_⟩;rcases p with n|⟨g,m,cur,t,o,j,r⟩
  .exact .inl n
  .exact .inr ⟨g,m,cur,t,o,(hg.block g (ο j) (tE j h.own ϐ).symm).trans j,r⟩
 refine⟨e,π w' b 3 _ _ _ e,?_,mi k (a:=⟨b,3,O⟩) (tE e k ϐ) _,h.le⟩;have:=mi l (a:=⟨b,3,O⟩) (tE e l ϐ) i;simp only[ω,Kk];exact this
def xu (b0 a:Nat) (b:List El) (c:ε) (s:PS) (w:β) (e:Ending) (w':β):Prop:=
 e=ŗ (IZ 0)/\∃ d,iK b0 a b c w' s d/\Below b0 w w'
theorem tJ {b0 b:Nat} {a:List El} {c f:ε} {w:β} {s:PS} (h:iK b0 b a c w s f) (g:L a<=20000) (d:s.nx<L a) :
  Calls prog 94 #[þ (J ⟨b,0,O⟩)] w fun e w'=>e=ŗ (ā #[IZ (qx a s.nx),IZ (oM a s.nx),š (δ (kB a s.nx))])/\BQ w w':=by
 have:=KD b c f a s.nx s.wd w h.pm ⟨Rd.of_own h.el,ϊ⟩ d;unfold qx oM kB;rw[Ρ d];exact this
theorem NJ (a:List El) (U:L a<=20000) (b0 b:Nat) (F m:ε) (s:PS) (w:β) (h:iK b0 b a F w s m) (X:s.nx<L a) (ah:L s.ops<=100) (ai:s.wd<16) (W:qx a s.nx = -1) :
  Calls prog 227 #[þ (J ⟨b,0,O⟩),IZ 0] w (xu b0 b a F (qM a s) w):=by
 obtain⟨ab,hi,Y,Z,aa⟩:=ϯ Cr;have y:=tJ h U X;rw[W]at y;have N:=Zh y;clear y;have af:¬16<=s.wd:=ϊ;go_enter func227,ntmps227;go_wp2_with (go_at_call 94;refine N.o.mono ?_;rintro e d ⟨rfl,k⟩;have o:=h.below (k.alloc k.size (C #[IZ (-1),IZ (oM a s.nx),š (δ (kB a s.nx))] 177));obtain⟨c0,c1,c2,P⟩:=o.pm.cells;have f2:=o.pm.free 2;have f1:=o.pm.free 1)
 have q:=(o.setWd (s.wd+1)).setNx (s.nx+1);rw[show((s.wd+1:Nat):Int)=(s.wd:Int)+1 from ϊ,show((s.nx+1:Nat):Int)=(s.nx:Int)+1 from ϊ]at q;have R:Below b0 w (ŝ (ŝ (å d (C #[IZ (-1),IZ (oM a s.nx),š (δ (kB a s.nx))] 177)) ⟨b,2,O⟩ (IZ ((s.wd:Int)+1))) ⟨b,1,O⟩ (IZ ((s.nx:Int)+1))):=(((k.alloc k.size _).mono h.size.1).setCell h.le _).setCell h.le _;have ag:b≠d.heap.size:=by have:=h.size;have:=k.size;omega
 have v:(ŝ (ŝ (å d (C #[IZ (-1),IZ (oM a s.nx),š (δ (kB a s.nx))] 177)) ⟨b,2,O⟩ (IZ ((s.wd:Int)+1))) ⟨b,1,O⟩ (IZ ((s.nx:Int)+1))).heap[d.heap.size]?=J (C #[IZ (-1),IZ (oM a s.nx),š (δ (kB a s.nx))] 177 (0,0)):=by
  rw[mI _ _ _ _ ϑ,mI _ _ _ _ ϑ];exact χ d _
 have M:(ŝ (ŝ (å d (C #[IZ (-1),IZ (oM a s.nx),š (δ (kB a s.nx))] 177)) ⟨b,2,O⟩ (IZ ((s.wd:Int)+1))) ⟨b,1,O⟩ (IZ ((s.nx:Int)+1))).cell? ⟨d.heap.size,2,O⟩=J (š (δ (kB a s.nx))):=by
  rw[ν _ d.heap.size 2 _ _ (0,0) v];rfl
 generalize(ŝ (ŝ (å d (C #[IZ (-1),IZ (oM a s.nx),š (δ (kB a s.nx))] 177)) ⟨b,2,O⟩ (IZ ((s.wd:Int)+1))) ⟨b,1,O⟩ (IZ ((s.nx:Int)+1)))=n at *;obtain⟨-,-,-,E⟩:=q.pm.cells;have G:∀ g,BQ n g->(fun g:β=>g.cell? ⟨b,3,O⟩=J m/\g.cell? ⟨d.heap.size,2,O⟩=J (š (δ (kB a s.nx)))) g:=
  fun g H=>⟨ζ H E,ζ H M⟩
 have f:=Zh G;clear G;clear c0 c1 c2 P f1 f2 E M;refine ϸ (fun g:β=>g.cell? ⟨b,3,O⟩=J m/\g.cell? ⟨d.heap.size,2,O⟩=J (š (δ (kB a s.nx)))) 12 ϋ ?_;refine gJ (fuel:=12) 0 (þ (J ⟨b,0,O⟩)) rfl ϋ ϋ ϋ ϋ (fun _ _ _ h=>h) (by rfl) ?_ (f.o _ RZ.drew) ?_
 .intro i
  go_simp
 refine gJ (fuel:=11) 1 (þ (J ⟨b,0,O⟩)) rfl ϋ ϋ ϋ ϋ (fun _ _ _ h=>h) (by rfl) ?_ (f.o _ RZ.drew) ?_
 .intro i
  go_simp
 refine gJ (fuel:=10) 2 (þ (J ⟨b,0,O⟩)) rfl ϋ ϋ ϋ ϋ (fun _ _ _ h=>h) (by rfl) ?_ (f.o _ RZ.drew) ?_
 .intro i
  go_simp
 refine gJ (fuel:=9) 3 (þ (J ⟨b,3,O⟩)) rfl ϋ ϋ ϋ ϋ (fun _ _ _ h=>h) (by rfl) ?_ (f.o _ RZ.drew) ?_
 .intro i
  go_simp
 refine lD (fuel:=8) 4 (m) rfl ϋ ϋ ϋ ϋ (fun _ _ _ h=>h) (by rfl) ?_ (f.o _ RZ.drew) ?_
 .rintro i ⟨ad,ae⟩
  go_simp
 refine gJ (fuel:=7) 5 (þ (J ⟨d.heap.size,2,O⟩)) rfl ϋ ϋ ϋ ϋ (fun _ _ _ h=>h) (by rfl) ?_ (f.o _ RZ.drew) ?_
 .intro i
  go_simp
 refine lD (fuel:=6) 6 (š (δ (kB a s.nx))) rfl ϋ ϋ ϋ ϋ (fun _ _ _ h=>h) (by rfl) ?_ (f.o _ RZ.drew) ?_
 .rintro i ⟨ad,ae⟩
  go_simp
 refine Ψ (fuel:=5) 7 ϋ rfl ?_;intro K c;go_simp;refine c _ _ (f.o _ RZ.drew) ?_;clear c K;refine Ψ (fuel:=4) 8 ϋ rfl ?_;intro K c;go_simp;refine c _ _ (f.o _ (RZ.drew.alloc NZ _)) ?_;clear c K;have t:=(φ n.heap.size n).drew.alloc NZ (C #[IZ 0,š (δ (kB a s.nx))] 265);have j:=q.below t;refine Ψ (fuel:=3) 9 ϋ rfl ?_;intro K c;refine lx (by rfl) (.tmp 36) (.tmp 40) _ _ (by rfl) b0 265 ab _ 2 24 underlying110 hi Y Z aa rfl m (L s.ops) _ (by rfl) j.own _ 1 [IZ 0,š (δ (kB a s.nx))] (by rfl) (ig underlying110 n.drew _ 2 1 1 rfl Ϛ) ώ ϊ j.size.1 ?_;intro ak z I r _;obtain⟨l,Q⟩:=j.grownOps (op:=(0,kB a s.nx)) I r;have S:Below b0 w z:=(R.trans (t.mono q.size.1)).grown r j.size.1 (fun ac V=>(j.own.lt ac V).1);have x:z.cell? ⟨d.heap.size,2,O⟩=J (š (δ (kB a s.nx))):=by
  have u:=(t.block _ (ο v)).trans v;rw[ν _ d.heap.size 2 _ _ (0,0) ((r.block _ (ο u) (tE u j.own ϐ).symm).trans u)];rfl
 obtain⟨A,B,rfl⟩:=Θ I;refine c _ _ ⟨l.cells.2.2.2,x⟩ ?_;clear c K r;refine Ψ (fuel:=2) 10 ϋ rfl ?_;intro K c;go_simp;refine c _ _ ⟨l.cells.2.2.2,x⟩ ?_;clear c K;refine Ψ (fuel:=1) 11 ϋ rfl ?_;intro K c;go_simp;refine c _ _ ⟨l.cells.2.2.2,x⟩ ?_;clear c K;have f1:=l.free 3;have aj:=l.cells.2.2.2;refine Zl ?_;refine Zd ?_;have T:=S.setCell h.le (D A (L s.ops+1) B) (p:=⟨b,3,O⟩);generalize ŝ z ⟨b,3,O⟩ (D A (L s.ops+1) B)=al at *;go_wp2;go_ret;exact⟨rfl,_,Q,T⟩
theorem vg (a b:Int) (c:ByteArray):∀ w:β,(Instr.field 177 (ā #[IZ a,IZ b,š c]) 0).run prog w=.ok (IZ a) w:=fun _=>ϋ
theorem Bk (a:List El) (g:L a<=20000) (b0 b:Nat) (c j:ε) (s:PS) (w:β) (h:iK b0 b a c w s j) (o:s.nx+1<L a) (n:L s.ops<=100) (p:s.wd<16) (i:qx a s.nx = -1) (t:(qx a (qM a s).nx==38)=false) (u:(qx a (qM a s).nx==33)=false) :
  Calls prog 166 #[þ (J ⟨b,0,O⟩),IZ 0] w (xu b0 b a c (qM a s) w):=by
 have l:=Zh (NJ a g b0 b c j s w h ϊ n p i);have r:=vg (qx a (qM a s).nx) (oM a (qM a s).nx) (δ (kB a (qM a s).nx));clear h i;go_enter func166,ntmps166;go_wp2_with (go_at_call 227;refine l.o.mono ?_;rintro e v ⟨rfl,q,d,m⟩;have k:=Zh (tJ d g o))
 refine wp_loop_rounds 1 ?_;rw[rounds_succ];go_wp2_with (go_at_call 94;refine k.o.mono ?_;rintro e x ⟨rfl,f⟩)
 go_ret;exact⟨rfl,q,d.below f,m.trans (f.mono d.size.1)⟩
theorem Lo (b0 a:Nat) (c j:ε) (w:β) (h:iK b0 a ms c w ⟨0,0,[]⟩ j):Calls prog 93 #[þ (J ⟨a,0,O⟩),IZ 0] w (xu b0 a ms c ⟨3,2,kw⟩ w):=by
 obtain⟨X,hi,U,V,W⟩:=ϯ Cr;have n:L ms<=20000:=ϐ;have M:=Zh (Bk ms n b0 a c j _ w h ϐ ϐ ϐ rfl rfl rfl);have N:=Zh (fun j s (g:iK b0 a ms c s (PS.mk 2 1 [(0,Ϣ)]) j)=>Bk ms n b0 a c j _ s g ϐ ϐ ϐ rfl rfl rfl);have ab:=vg 124 4 (δ []);have ac:=vg (-2) 8 (δ []);clear h;go_enter func93,ntmps93;go_wp2_with (go_at_call 166;refine M.o.mono ?_;rintro e B ⟨rfl,z,f,Q⟩;have f:iK b0 a ms c B ⟨1,1,[(0,Ϣ)]⟩ z:=f;have I:=Zh (tJ f n ϐ))
 refine wp_loop_rounds 2 ?_;rw[rounds_succ];go_wp2_with (first|(go_at_call 94;refine Calls.mono (R:=fun e q=>e=ŗ (ā #[IZ 124,IZ 4,š (δ [])])/\BQ B q) I.o ?_;rintro e E ⟨rfl,t⟩;have o:=f.below t;have c1:E.cell? ⟨a,1,O⟩=J (IZ 1):=o.pm.cells.2.1;have f1:=o.pm.free 1;have P:iK b0 a ms c (ŝ E ⟨a,1,O⟩ (IZ 2)) ⟨2,1,[(0,Ϣ)]⟩ z:=o.setNx 2)|(go_at_call 166;refine(N.o _ _ P).mono ?_;rintro e d ⟨rfl,A,b,S⟩;have b:iK b0 a ms c d ⟨3,2,[(0,Ϣ),(0,nC)]⟩ A:=b;have aa:=b.pm.cells.2.2.2;have F:Below b0 w d:=((Q.trans (t.mono f.size.1)).setCell f.le _).trans S)|(at_builtin;refine gn rfl _ _ _ _ rfl b0 265 X _ 2 24 underlying110 hi U V W rfl A 2 _ rfl (b.below ((φ d.heap.size d).alloc NZ (C #[IZ 2,š ByteArray.empty] 265))).own _ 1 [IZ 2,š ByteArray.empty] rfl (ig underlying110 d _ 2 1 1 rfl Ϛ) ώ ϊ (by have:=b.size;simp;omega) ?_;intro af r x v _ _;have m:=(φ d.heap.size d).alloc NZ (C #[IZ 2,š ByteArray.empty] 265);obtain⟨y,i⟩:=(b.below m).grownOps (op:=(2,[])) x v;have G:Below b0 w r:=(F.trans (m.mono b.size.1)).grown v (b.below m).size.1 (fun Y T=>((b.below m).own.lt Y T).1);obtain⟨k,l,rfl⟩:=Θ x;have ad:=y.cells.2.2.2;have ae:=y.free 3))
 have H:=G.setCell b.le (D k 3 l) (p:=⟨a,3,O⟩);have i:iK b0 a ms c (ŝ r ⟨a,3,O⟩ (D k 3 l)) ⟨3,2,kw⟩ (D k 3 l):=i;generalize ŝ r ⟨a,3,O⟩ (D k 3 l)=Z at *;have K:=Zh (tJ i n ϐ);rw[rounds_succ];go_wp2_with (go_at_call 94;refine Calls.mono (R:=fun e q=>e=ŗ (ā #[IZ (-2),IZ 8,š (δ [])])/\BQ Z q) K.o ?_;rintro e ag ⟨rfl,u⟩)
 go_ret;exact⟨rfl,_,i.below u,H.trans (u.mono i.size.1)⟩
theorem Li (c w:β) (b:ε) (a:List El) (d:c.heap.size<=w.heap.size) (e:w.ownsRow c.heap.size 177 3 b (L a) (kx a)) :
  iK c.heap.size w.heap.size a b (å w (C #[b,IZ 0,IZ 0,D O 0 0] 174)) ⟨0,0,[]⟩ (D O 0 0):=
 ⟨χ w _,⟨rfl,.inl ⟨rfl,rfl⟩⟩,e.alloc _,d⟩
def FC (w:β) (e:Ending) (w':β):Prop:=
 Below w.heap.size w w'/\∃ a,e=ŗ (.tuple #[a,IZ 0,IZ 0])/\w'.ownsRow w.heap.size 265 2 a 3 (jv kw)
theorem Kt (a:Option Addr) (c:Nat) (w:β) (l:Ϩ w) (h:Rd w (D a 8 c) 8 1 (η sT)) :
  Calls prog 49 #[D a 8 c] w (FC w):=by
 have j:tk sT=ms:=ϋ;have d:=HI (D a 8 c) sT w l h ϐ Ϟ;rw[j]at d;have m:=Zh d;have q:L ms<=20000:=ϐ;have A:=vg (-2) 8 (δ []);clear d j h l;go_enter func49,ntmps49;go_wp2_with (first|(go_at_call 92;refine m.o.mono ?_;rintro e t ⟨z,rfl,k,f⟩;obtain⟨x,y,rfl⟩:=Θ k;have o:=Li w t _ ms f.size k)|(go_at_call 93;refine(Lo _ _ _ _ _ o).mono ?_;rintro e u ⟨rfl,r,b,p⟩;have n:=Zh (tJ b q ϐ))|(go_at_call 94;refine Calls.mono (R:=fun e s=>e=ŗ (ā #[IZ (-2),IZ 8,š (δ [])])/\BQ u s) n.o ?_;rintro e B ⟨rfl,i⟩;have g:=b.below i;obtain⟨c0,c1,c2,v⟩:=g.pm.cells))
 go_ret3
 exact⟨((f.alloc f.size _).trans p).trans (i.mono b.size.1),r,rfl,g.own⟩
theorem Mm (q k:ε) (l:List jc) (a:List (List Int)) (w:β) (aj:Ϩ w) (K:pY w k a) (h:Rd w q (L l) 2 (jv l)) (M:L l<=100000) (ak:∀ s∈l,L s.2<=100000) (ae:∀ s∈l,-9223372036854775808<=s.1/\s.1<=9223372036854775807) (S:lG l=true) (ad:∀ s∈l,s.1≠1/\s.1≠3)
  (N:L a=L (gd (iy l))) (ac:a.all fT=true) :
  Calls prog 106 #[q,k] w (Fs w (vZ l a)):=by
 have A:BQ w (å w (C #[k] 196)):=ġ;have ah:=χ w (C #[k] 196);have c0:(å w (C #[k] 196)).cell? ⟨w.heap.size,0,O⟩=J k:=by rw[ν _ _ _ _ _ _ ah];rfl
 have G:=yZ q l (å w (C #[k] 196)) (aj.below A) (h.below A) M ak ae;rw[S]at G;have au:=Zh G;have av:=Zh (fun i (y:BQ w i)=>za q l i (h.below y) M);have aJ:=rV (iy l);have aK:=zI l;have ai:=rO (iy l);have B:∀ d∈a,fT d=true:=kp.1 ac;have aR:∀ (Y:Fn) (first X:Array ε) (w:β),(Instr.makeFunc Y first X).run prog w=.ok (.func Y first X) w:=fun _ _ _ _=>rfl;have aw:Hid (vZ l a=oI (fun g=>jM g (gd (iy l)) a) kR [] l):=rfl;generalize gd (iy l)=f at *;have aq:Hid (∀ (n:Nat) (v:ε) (i:β),BQ w i->Rd i v (L f) 1 (σ f)->i.cell? ⟨n,0,O⟩=J v->i.cell? ⟨w.heap.size,0,O⟩=J k ->
   Calls prog 183 #[q,ā #[.func (.func 181) #[] #[þ (J ⟨n,0,O⟩),þ (J ⟨w.heap.size,0,O⟩)],.func (.func 184) #[] #[],.func (.func 185) #[] #[],.func (.func 186) #[] #[]]] i (jZ i 3 1 (L (oI (fun g=>jM g f a) kR [] l)) (τ (oI (fun g=>jM g f a) kR [] l)))):=
  fun n v i y aI aD aE=>KF n w.heap.size q l (fun g=>jM g f a) i (h.below y) M S ad (fun g=>AC B)
   (fun g ay _ z=>Mi n w.heap.size v k f a g ay ai N ϊ (fun d aF=>by have:=yU (B d aF);omega) (aI.below z) ((K.below y).below z) (ζ z aD) (ζ z aE))
 obtain⟨aU,aV,rfl,-⟩:=vF h;obtain⟨aN,aO,rfl,aQ,al⟩:=Cv K;have W:=Zh A;have aS:((L a:Int) !=(L f:Int))=false:=by rw[N];simp
 have am:=Zh B;generalize oI (fun g=>jM g f a) kR [] l=r at *;clear G ad aj h ak ae S K A ah aK N aJ ai ac B;go_enter func106,ntmps106;go_wp2_with (first
  |(go_at_call 95;refine au.o.mono ?_;rintro e aX ⟨rfl,Z⟩;have F:=W.o.trans (Z.mono W.o.size);have c1:=ζ Z c0)
  |(go_at_call 96;refine(av.o _ F).mono ?_;rintro e o ⟨v,rfl,P,H⟩;obtain⟨t,u,rfl⟩:=Θ P;have U:=F.trans (H.mono F.size);have I:BQ o (å o (C #[D t (L f) u] 143)):=ġ;have aA:=ζ (H.trans (I.mono H.size)) c1;have ao:=Zh P;clear P))
 have ag:=χ o (C #[D t (L f) u] 143);have aB:(å o (C #[D t (L f) u] 143)).cell? ⟨o.heap.size,0,O⟩=J (D t (L f) u):=by rw[ν _ _ _ _ _ _ ag];rfl
 have p:=U.trans (I.mono U.size);have an:=Zh (mz ao.o I);generalize(å o (C #[D t (L f) u] 143))=az at *;generalize o.heap.size=n at *;clear ag;go_loopw [22] (fun T wr=>∃ c:Nat,c<=L a/\T=IZ c/\Hid (∀ j (E:j<L a),j<c->fT a[j]=true)/\BQ az wr) (fun T _=>L a - (intOf T).toNat)
 case atStart=>exact⟨0,Ι _,rfl,fun j E h=>ϊ,φ _ _⟩
 case round =>
  obtain⟨c,aG,rfl,V,m⟩:=hrel;by_cases af:c<L a
  .obtain⟨b,off,da,dc,rfl,aa,ab⟩:=al.o c af
   have aP:=ζ (p.trans (m.mono p.size)) aa;have aL:(c:Int)<(L a:Int):=ϊ;have aT:(0:Int)<=(c:Int):=ϊ;have R:=rJ (D da (L a[c]) dc) (L a[c]) a[c] wr rfl (ab.below (p.trans (m.mono p.size)));generalize (L a[c])=aM at *;have Q:fT a[c]=true:=am.o _ (Χ _);rw[Q]at R;have ar:=Zh R;have ax:Hid (∀ j (E:j<L a),j<c+1->fT a[j]=true):=fun j E h=>by
    by_cases e:j=c
    .subst e;exact Q
    .exact V.o j E ϊ
   clear R Q ab aa;go_wp2_with (go_at_call 180;refine ar.o.mono ?_;rintro e aY ⟨rfl,rfl⟩)
   go_roundw;case rel=>exact⟨c+1,ϊ,ϕ,ax.o,m⟩
   case measure=>simp[intOf];omega
  .have aL:¬(c:Int)<(L a:Int):=ϊ
   have x:=p.trans (m.mono p.size);have ap:=Zh (aq.o n _ wr x ((Rd.of_own an.o).below m) (ζ m aB) (ζ m aA));clear aG V af;go_wp2_with (go_at_call 183;refine ap.o.mono ?_;rintro e aZ ⟨aW,rfl,aH,aC⟩)
   go_ret2;exact⟨_,rfl,by rw[aw.o];exact ii aH x.size,x.trans (aC.mono x.size)⟩
theorem Az:it Ϣ=true/\it nC=true/\ltStr Ϣ Ϣ=false/\ltStr nC Ϣ=false/\ltStr Ϣ nC=true:=Ϟ
theorem xE:lG kw=true:=Ϟ
theorem uI:gd (iy kw)=[Ϣ,nC]:=by
 have h:iy kw=[Ϣ,nC]:=Ϟ;rw[h];exact(zo (List.Pairwise.cons (fun b a=>by rw[jW.1 a];exact Az.2.2.2.2) (List.pairwise_singleton _ _)) fun c=>Iff.rfl).symm
theorem DZ (t:γ):gd [t]=[t]:=(zo (List.pairwise_singleton _ _) fun _=>Iff.rfl).symm
theorem Ay:Α [Ϣ] (0,1)=[(Ϣ,[0])]:=by
 have h:Μ Ϣ=[Ϣ]:=Ϟ;have a:jr [Ϣ] 0 1=[Ϣ]:=by
  show(gd (Μ Ϣ)++[])=_;rw[h,DZ];rfl
 show(gd (jr [Ϣ] 0 1)).map _=_;rw[a,DZ];have b:gB [Ϣ] Ϣ 0 1=[0]:=by
  unfold gB;simp[h]
 simp[b]
theorem FW:vZ kw [[0],[]]=[0]:=by
 unfold vZ;rw[uI];decide+kernel
theorem xD:L (gr [0])<=4000:=Ϟ
theorem tZ {P:Program} {ops:Array Oper} {o:Oper} {a:Act} {w w':β} {v:ε} {K:Act->β->Prop} {Q:Exit->Act->β->Prop} {b:Prop} (hg:o.guard=O) (h:(execOp a.eval o).run P w=.ok (.value v) w') (c:K (a.put o.dst v) w') :
  if Region.wanted o (yielded ops a.tmps)=true then Oper.wp P o a w K Q else b:=by
 rw[μ (by simp[Region.wanted,hg])];unfold Oper.wp;rw[h];exact c
theorem se {P:Program} {ops:Array Oper} {o:Oper} {a:Act} {w w':β} {K:Act->β->Prop} {Q:Exit->Act->β->Prop} {b:Prop} (hg:o.guard=O) (d:o.dst=O) (h:(execOp a.eval o).run P w=.ok .skip w') (c:K a w') :
  if Region.wanted o (yielded ops a.tmps)=true then Oper.wp P o a w K Q else b:=by
 rw[μ (by simp[Region.wanted,hg])];unfold Oper.wp;rw[h,Oper.upon_skip,d];exact c
theorem wI {P:Program} {ops:Array Oper} {Q:Exit->Act->β->Prop} {id:Nat} {a:Act} {w:β} (A:P.follows .mixedOrders=true) (E:ops.size=4) {d o1 o2 o3:Oper}
  (z:ops[0]?=J d) (r:ops[1]?=J o1) (s:ops[2]?=J o2) (t:ops[3]?=J o3)
  (y:d.guard=O) (o:o1.guard=O) (p:o2.guard=O) (q:o3.guard=O) (d2:o2.dst=O) (n:o3.dst=O)
  (r0:Region.ready .any ops #[false,false,false,false]=[0,1]) (r1:Region.ready .any ops #[true,false,false,false]=[1,2]) (r2:Region.ready .any ops #[false,true,false,false]=[0])
  (r3:Region.ready .any ops #[true,true,false,false]=[2]) (r4:Region.ready .any ops #[true,false,true,false]=[1])
  (r6:Region.ready .any ops #[true,true,true,false]=[3]) (u:Region.ready .any ops #[true,true,true,true]=[])
  (e f:ε) (f2 f3:β->β) (g:β->Prop) (c:g w.drew) (j:∀ x,g x->g (f2 x))
  (v:∀ x,g x->(execOp a.eval d).run P x=.ok (.value e) x/\(execOp (a.put o1.dst f).eval d).run P x=.ok (.value e) x)
  (k:∀ x,g x->(execOp a.eval o1).run P x=.ok (.value f) x/\(execOp (a.put d.dst e).eval o1).run P x=.ok (.value f) x)
  (l:∀ x,g x->(execOp (a.put d.dst e).eval o2).run P x=.ok .skip (f2 x)/\(execOp ((a.put d.dst e).put o1.dst f).eval o2).run P x=.ok .skip (f2 x))
  (m:∀ x,g x->(execOp ((a.put d.dst e).put o1.dst f).eval o3).run P x=.ok .skip (f3 x))
  (B:(a.put o1.dst f).put d.dst e=(a.put d.dst e).put o1.dst f)
  (h:Q .normal ((a.put d.dst e).put o1.dst f) (f3 (f2 w.drew))):(Code.region id ops true).wp P Q a w:=by
 refine ϸ (fun _=>True) 4 A ?_;rw[E];show ϫ P .any ops Q (fun _=>True) 4 4 #[false,false,false,false] a w.drew;generalize w.drew=i at *;refine pZ (fuel:=3) 0 1 r0 z r ?_ ?_
 .intro K b
  refine tZ y (v i c).1 (b _ _ trivial ?_);show ϫ P .any ops Q (fun _=>True) 4 3 #[true,false,false,false] _ _;refine pZ (fuel:=2) 1 2 r1 r s ?_ ?_
  .intro K b
   refine tZ o (k i c).2 (b _ _ trivial ?_);show ϫ P .any ops Q (fun _=>True) 4 2 #[true,true,false,false] _ _;refine Ψ (fuel:=1) 2 r3 s ?_;intro K b;refine se p d2 (l i c).2 (b _ _ trivial ?_);show ϫ P .any ops Q (fun _=>True) 4 1 #[true,true,true,false] _ _;refine Ψ (fuel:=0) 3 r6 t ?_;intro K b;refine se q n (m _ (j _ c)) (b _ _ trivial ?_);exact uB u h 0
  .intro K b
   refine se p d2 (l i c).1 (b _ _ trivial ?_);show ϫ P .any ops Q (fun _=>True) 4 2 #[true,false,true,false] _ _;refine Ψ (fuel:=1) 1 r4 r ?_;intro K b;refine tZ o (k _ (j _ c)).2 (b _ _ trivial ?_);show ϫ P .any ops Q (fun _=>True) 4 1 #[true,true,true,false] _ _;refine Ψ (fuel:=0) 3 r6 t ?_;intro K b;refine se q n (m _ (j _ c)) (b _ _ trivial ?_);exact uB u h 0
 .intro K b
  refine tZ o (k i c).1 (b _ _ trivial ?_);show ϫ P .any ops Q (fun _=>True) 4 3 #[false,true,false,false] _ _;refine Ψ (fuel:=2) 0 r2 z ?_;intro K b;refine tZ y (v i c).2 (b _ _ trivial ?_);show ϫ P .any ops Q (fun _=>True) 4 2 #[true,true,false,false] _ _;rw[B];refine Ψ (fuel:=1) 2 r3 s ?_;intro K b;refine se p d2 (l i c).2 (b _ _ trivial ?_);show ϫ P .any ops Q (fun _=>True) 4 1 #[true,true,true,false] _ _;refine Ψ (fuel:=0) 3 r6 t ?_;intro K b;refine se q n (m _ (j _ c)) (b _ _ trivial ?_);exact uB u h 0
theorem vT {P:Program} {f:Func} {p q:Tmp} {ty ty':TypeId} (h:f.results=#[.cell p ty,.cell q ty']) (tmps:Array ε) (w:β) (g c:Nat) (t k:TypeId) (a b:Array ε) (i j:Nat×Nat) (d e:TypeDesc)
  (u:tmps.getD p undef=þ (J ⟨g,0,O⟩)) (hg:w.heap[g]?=J (C a t i))
  (x:P.underlying ty=J d) (n:(match d with|.struct _|.array _ _=>true|_=>false)=true) (hi:(P.info? ty).map (·.size)=J a.size)
  (v:tmps.getD q undef=þ (J ⟨c,0,O⟩)) (r:w.heap[c]?=J (C b k j))
  (y:P.underlying ty'=J e) (o:(match e with|.struct _|.array _ _=>true|_=>false)=true) (s:(P.info? ty').map (·.size)=J b.size) :
  (results f tmps).run P w=.ok (.tuple #[ā a,ā b]) w:=by
 have l:tmps[p]?.getD undef=þ (J ⟨g,0,O⟩):=by simpa using u
 have m:tmps[q]?.getD undef=þ (J ⟨c,0,O⟩):=by simpa using v
 simp[results,h,l,m,asAddr,uk w g t ty a i d hg x n hi,uk w c k ty' b j e r y o s]
def ϣ (docs:List (γ)):γ:=Τ (docs.map ϩ)
theorem rm (da:Option Addr) (dc:Nat) (sa:Option Addr) (sc:Nat) (docs:List (γ)) (ps:List (Nat×Nat)) (m:Nat) (w:β) (F:Ϩ w) (E:Ϡ w) (t:Δ w (D da (L docs) dc) docs) (B:ϧ docs w (D sa (L ps) sc) ps) (l:ϵ docs ps m) (ax:m=L docs) :
  Calls prog 55 #[ā #[D da (L docs) dc,D sa (L ps) sc]] w fun e w'=>∃ S c,e=ŗ (.tuple #[ā #[IZ (L docs),š (δ (ϣ docs)),D S (L ps) c],IZ 0])/\Hi w.heap.size w' (fun aA=>Rd aA (D S (L ps) c) (L ps) 4 (Ϸ docs ps))/\BQ w w':=by
 have aL:prog.follows .mixedOrders=true:=ϋ;subst ax;have a:BQ w (å (å w (C #[D da (L docs) dc,D sa (L ps) sc] 44)) (C #[IZ 0,š ⟨#[]⟩,D O 0 0] 123)):=ġ.alloc ύ _;obtain⟨i,y⟩:∃ i,i=(å (å w (C #[D da (L docs) dc,D sa (L ps) sc] 44)) (C #[IZ 0,š ⟨#[]⟩,D O 0 0] 123)):=⟨_,rfl⟩;have ay:=fU (w:=w) (w1:=i) (A:=C #[D da (L docs) dc,D sa (L ps) sc] 44) (Z:=C #[IZ 0,š ⟨#[]⟩,D O 0 0] 123) (by rw[y];exact φ _ _);obtain⟨Q,o,aP,aQ,-⟩:=ay;rw[<-y]at a;have ah:=Zh (fun f (b:BQ i f)=>(vL (D da (L docs) dc) (D sa (L ps) sc) docs ps _ f (F.below (a.trans (b.mono a.size))) (t.below (a.trans (b.mono a.size))) (B.below (a.trans (b.mono a.size))) l).mono (R':=fun e w'=>e=ŗ (.bool true)/\BQ i w') (fun e w' h=>⟨h.1,b.trans (h.2.mono b.size)⟩));have ac:=Zh (fun f (b:BQ i f)=>(Dm da (L docs) dc sa (L ps) sc docs ps _ f (F.below (a.trans (b.mono a.size))) (t.below (a.trans (b.mono a.size))) (B.below (a.trans (b.mono a.size))) l).mono (R':=fun e w'=>e=ŗ (IZ (L docs))/\BQ i w') (fun e w' h=>⟨h.1,b.trans (h.2.mono b.size)⟩));have ae:=Zh (fun f (b:BQ i f)=>ue (D da (L docs) dc) docs f (E.below (a.trans (b.mono a.size))) (t.below (a.trans (b.mono a.size))) (by have:=l.nd;omega) (fun d av=>by have:=l.ld d av;omega));have al:=Zh E;have ak:=Zh (fun f (b:BQ i f)=>KU da (L docs) dc sa sc docs ps _ f (F.below (a.trans (b.mono a.size))) (E.below (a.trans (b.mono a.size))) (t.below (a.trans (b.mono a.size))) (B.below (a.trans (b.mono a.size))) l);have aJ:=l.nd;have aD:=Zh Q;have ai:=Zh o;obtain⟨⟨G,H⟩,⟨aG,f1⟩,-⟩:=ι Q;have am:=Zh y.symm;have aM:((L docs:Int) !=(L docs:Int))=false:=ύ;clear t B l F E Q o y;go_enter func55,ntmps55;go_wp2_with fail
 rw[am.o];have aq:BQ i i.drew:=RZ.drew;go_region_held3 (fun f=>BQ i f/\f.cell? ⟨w.heap.size,0,O⟩=J (D da (L docs) dc)/\f.cell? ⟨w.heap.size,1,O⟩=J (D sa (L ps) sc))
  (first|exact⟨aq,G,H⟩|assumption|exact⟨Ϙ,ζ Ϙ G,ζ Ϙ H⟩)
  (first|(go_at_call 13;refine(ah.o _ Ϙ).mono ?_;rintro e aN ⟨rfl,ar⟩)|(go_at_call 17;refine(ac.o _ Ϙ).mono ?_;rintro e aO ⟨rfl,s⟩))
 have I:=ζ s G;have l1:=ζ s H;clear ar;go_wp2_with fail
 refine(ae.o _ s).mono ?_;rintro e aB ⟨an,az,ao,rfl,z,W⟩;have N:=s.trans (W.mono s.size);have R:=Zh (wD an az ao _ aB z.1 z.rd (kQ _) (by have T:=z.1;rw[io]at T;omega) (al.o.below (a.trans (N.mono a.size))));have af:Hid (Τ (docs.map ϩ)=ϣ docs):=rfl;rw[af.o]at R;clear z W I l1;go_wp2_with fail
 refine R.o.mono ?_;rintro e j ⟨rfl,X⟩;have k:=N.trans (X.mono N.size);have I:=ζ k G;have l1:=ζ k H;clear X;generalize V:δ (ϣ docs)=x at *;have ag:=Zh V;clear V;go_wp2_with fail
 refine ϸ (fun f=>BQ j f) 7 ϋ ?_;have n:BQ j j.drew:=RZ.drew;refine Zf 0 n ?_;refine Zk 1 n ?_ (hy:=by intro f b;have ap:=ζ b I;go_simp;try with_reducible rfl);refine Zf 2 n ?_;refine Zf 3 n ?_;refine Zk 4 n ?_ (hy:=by intro f b;have ap:=ζ b I;have aF:=ζ b l1;go_simp;try with_reducible rfl);refine Ψ (fuel:=3) 5 ϋ rfl ?_;intro K U;go_simp;have au:BQ i j.drew:=k.drew;refine(ak.o _ au).mono ?_;rintro e aC ⟨q,r,rfl,aa,Y⟩;have P:BQ j aC:=n.trans Y;refine U _ _ P ?_;clear U K;try simp only[Act.put]
 refine Zf 6 P ?_;have M:=k.trans (P.mono k.size);have o:=θ ai.o M;obtain⟨⟨aE,d1,d2⟩,⟨aH,T,aI⟩,-⟩:=Β o;have aK:=M.size;have aj:=Zh (jg o (IZ (L docs)) (š x) (D q (L ps) r));have ab:=Zh (kL (a.trans (M.mono a.size)) (go _ 1) (IZ (L docs)) (š x) (D q (L ps) r));have ad:=Zh (lr (Hi.own aa) (g:=w.heap.size+1) (by have:=k.size;show _<j.heap.size;omega) (IZ (L docs)) (š x) (D q (L ps) r));have aw:w.heap.size<=j.drew.heap.size:=by have:=k.size;show _<=j.heap.size;omega
 clear o aa Y;refine Ze 7 ?_;refine Ze 8 ?_;refine Zd ?_;go_wp2;refine ϟ (v:=.tuple #[ā #[IZ (L docs),š x,D q (L ps) r],IZ 0]) (gf (p:=2) (u:=3) (ty:=123) rfl _ _ (w.heap.size+1) 123 _ (0,0) _ rfl aj.o underlying123 rfl ϋ) rfl ⟨q,r,by rw[ag.o],ad.o.mono aw,ab.o⟩
structure HW (base E B:Nat) (w:β) (l:γ):Prop where
 err:w.heap[E]?=J (C #[ĭ .i64 0] 26 (0,0))
 buf:∃ ao n c,w.heap[B]?=J (C #[D ao n c] 31 (0,0))/\Φ base w (D ao n c) n l
theorem IC (base b a m:Nat) (l:γ) (w:β) (h:HW base b a w l) (t:b≠a) (Y:b<base) (X:a<base) (R:base<=w.heap.size) (Q:m<=4611686018427387904) (Z:L l<=1000000) :
  Calls prog 194 #[ĭ .i64 m,þ (J ⟨b,0,O⟩),þ (J ⟨a,0,O⟩)] w fun e w'=>e=ŗ (.tuple #[])/\HW base b a w' (l++ξ m)/\(∀ g,g<w.heap.size->g≠b->g≠a->w'.heap[g]?=w.heap[g]?)/\w.heap.size<=w'.heap.size/\w'.os=w.os/\w'.tape=w.tape/\w'.output=w.output:=by
 obtain⟨r,K,n,c,q,o⟩:=h;obtain⟨T,V,ac⟩:=gm r;obtain⟨U,W,aa⟩:=gm q;have S:=o.1;have H:=Zh (uR K n c l m w o.1 ϊ o.rd Q);have G:=Zh r;have F:=Zh q;clear r q o S;go_enter func194,ntmps194;go_wp2_with fail
 refine H.o.mono ?_;rintro e s ⟨d,f,c1,rfl,y,i⟩;have r0:=θ G.o i;have r1:=θ F.o i;obtain⟨T,V,ad⟩:=gm r0;obtain⟨U,W,ab⟩:=gm r1;have I:=Zh y;have A:=vW r1 (D d f c1);have z:=(my s a b t (D d f c1)).trans r0;have B:=vW z (ĭ .i64 0);have E:=(my (ŝ s ⟨a,0,O⟩ (D d f c1)) b a (fun e=>t e.symm) (ĭ .i64 0)).trans A;have v:=(I.o.mono R).set (p:=⟨a,0,O⟩) ϑ (D d f c1);have x:=v.set (p:=⟨b,0,O⟩) ϑ (ĭ .i64 0);have u:∀ g,g<w.heap.size->g≠b->g≠a->(ŝ (ŝ s ⟨a,0,O⟩ (D d f c1)) ⟨b,0,O⟩ (ĭ .i64 0)).heap[g]?=w.heap[g]?:=fun g M N P=>by
  rw[my _ b g N,my _ a g P];exact i.block g M
 have k:=Zh (Γ B (Γ E (Γ x u)));have j:=Zh i;clear r0 r1 z A B E v x u y i;go_wp2
 go_returns
 exact⟨rfl,⟨k.o.1,d,f,c1,k.o.2.1,k.o.2.2.1⟩,k.o.2.2.2,by have:=j.o.size;simpa using this,j.o.os,j.o.tape,j.o.output⟩
theorem IB (base b a:Nat) (l d:γ) (w:β) (h:HW base b a w l) (A:b≠a) (z:b<base) (y:a<base) (B:base<=w.heap.size) (m:L d=32) (F:L l<=1000000) :
  Calls prog 196 #[š (δ d),þ (J ⟨a,0,O⟩)] w fun e w'=>e=ŗ (.tuple #[])/\HW base b a w' (l++d)/\(∀ g,g<base->g≠b->g≠a->w'.heap[g]?=w.heap[g]?)/\w.heap.size<=w'.heap.size/\w'.os=w.os/\w'.tape=w.tape/\w'.output=w.output:=by
 obtain⟨o,N,n,c,j,k⟩:=h;obtain⟨R,T,V⟩:=gm j;have G:=k.1;have u:=Zh k;have t:=Zh o;have r:=Zh j;have s:=Zh m;have Q:n<=1000000:=ϊ;clear o j k G m F;go_enter func196,ntmps196;go_wp2_with (at_builtin;refine zN rfl (.tmp 3) (.tmp 4) rfl base _ n 32 l d rfl u.o rfl s.o ϊ B ?_;intro i c1 q I f;have r1:=(f.block a y).trans r.o;have r0:=(f.block b z).trans t.o;obtain⟨S,U,W⟩:=gm r1)
 have M:=vW r1 (D i (n+32) c1);have K:=(my q a b A (D i (n+32) c1)).trans r0;have H:=I.set (p:=⟨a,0,O⟩) ϑ (D i (n+32) c1);have E:∀ g,g<base->g≠b->g≠a->(ŝ q ⟨a,0,O⟩ (D i (n+32) c1)).heap[g]?=w.heap[g]?:=fun g v P x=>by
  rw[my _ a g x];exact f.block g v
 go_returns
 exact⟨rfl,⟨K,i,n+32,c1,M,H⟩,E,by have:=f.size;simpa using this,f.os,f.tape,f.output⟩
