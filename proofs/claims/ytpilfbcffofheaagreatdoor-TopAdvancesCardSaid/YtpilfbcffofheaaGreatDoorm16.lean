/- Part 16 of the proof. -/
import Derived.Test.YtpilfbcffofheaaGreatDoorm13
import Derived.Test.YtpilfbcffofheaaGreatDoorm14
set_option linter.all false
set_option maxRecDepth 100000
set_option maxHeartbeats 16000000
namespace Go.Proofs.YtpilfbcffofheaaGreatDoor
open Go.RowKit Go.Proofs.Tryz Go.Sort
open Value renaming slice->D,agg->ā,string->š,pointer->þ
open Option renaming none->O,some->J
open List renaming length->L
open Obj renaming cells->C
open Ending renaming returned->ŗ
open World renaming alloc->å,setCell->ŝ
section
def jG (b:Array MapEntry) (g:Int->Option ε):Prop:= ∀ z:Int,∃ a:Nat,Instr.findNow (.int .i64) (G z) b.toList 0=J ((g z).map fun c=>(a,c))
def jG.none:jG #[] (fun _=>O):=fun z=>⟨0,rfl⟩
def Dj (d) (k:ε) (e):∀ (l:List MapEntry) (i:Nat),Instr.findNow d k (l++[e]) i=match Instr.findNow d k l i with
  |some O=>Instr.findNow d k [e] (i+L l)
  |r=>r:=by
 intro l;induction l with
 |nil=>intro i;simp[Instr.findNow]
 |cons x l a =>
  intro i;simp only[jW];rw[Instr.findNow,Instr.findNow];cases h:Instr.sameNow d k x.key with
  |none=>rfl
  |some b =>
   cases b with
   |true=>rfl
   |false =>
    simp only[a,ϥ];rw[show i+1+L l=i+(L l+1)from U]
def jG.push {es g} (h:jG es g) {k} (d:g k=Option.none) (v:ε) (born):jG (es.push {key:=G k,val:=v,born:=born}) (fun z=>if z=k then J v else g z):=by
 intro z;obtain⟨e,a⟩:=h z;simp only[Array.toList_push];by_cases c:z=k
 .subst c
  rw[d]at a;refine⟨0+L es.toList,?_⟩;rw[Dj,a];simp[Instr.findNow,Instr.sameNow]
 .refine⟨e,?_⟩
  rw[Dj,a,κ c];cases hg:g z with
  |none =>
   simp only[Option.map_none];have:Instr.sameNow (.int .i64) (G z) (G k)=J false:=by simp[Instr.sameNow,c]
   simp[Instr.findNow,this]
  |some f=>simp
variable {P:Program} {w:β} {T K E:TypeId} {b:Nat} {es:Array MapEntry} {clock:Nat} {g:Int->Option ε}
def qU (f:P.underlying T=J (.map K E)) (d:P.underlying K=J (.int .i64)) (a:w.heap[b]?=J (.map es clock)) (e:jG es g) {k:Int} (i:g k=Option.none) (v:ε) :
  (Instr.mapUpdate T (.map (J b)) (G k) v).run P w=.ok () (Go.ChangeMaps.setBlock w b (.map (es.push {key:=G k,val:=v,born:=clock}) (clock+1))):=by
 obtain⟨h,c⟩:=e k;rw[i]at c;simp[Instr.mapUpdate,ri f,MapKept.run_getObj_map a,MapKept.run_checkKey d (show MapKept.IsKey (.int .i64) (G k)from rfl),MapKept.run_findKey d c,MapKept.run_setObj_map _ a,Go.ChangeMaps.setBlock]
def Fu (f:P.underlying T=J (.map K E)) (c:P.underlying K=J (.int .i64)) (d:w.heap[b]?=J (.map es clock)) (e:jG es g) {k:Int} {v:ε} (i:g k=J v) :
  (Instr.lookup T (.map (J b)) (G k) false).run P w=.ok v w:=by
 obtain⟨h,a⟩:=e k;rw[i]at a;simp[Instr.lookup,ri f,MapKept.run_getObj_map d,MapKept.run_checkKey c (show MapKept.IsKey (.int .i64) (G k)from rfl),MapKept.run_findKey c a]
def lj (m:Bool) (c:Nat) (d f e a:Bool):Array Bool:=
 #[m,true,d,true,true,true,decide (1<=c),f,true,true,true,decide (2<=c),e,true,true,true,decide (3<=c),a,false,false]
def Ac (m:Bool) (c:Nat) (d f e a:Bool) (i:Nat):Bool:=
 (i==0 && !m)||(i==6 && c==0)||(i==11 && c==1)||(i==16 && c==2)||(i==2 && m && !d)||(i==7 && m && !f && decide (1<=c))||(i==12 && m && !e && decide (2<=c))||(i==17 && m && !a && decide (3<=c))||(i==18 && m && c==3 && d && f && e && a)
def nY (m:Bool) (c:Nat) (d f e a:Bool):Nat:=(!m).toNat+(3 - c)+(!d).toNat+(!f).toNat+(!e).toNat+(!a).toNat
section
variable {ops:Array Oper} {Q:Exit->Act->β->Prop} {md:Region.Mode} {S:β->Prop}
def LH (I:Bool->Nat->Bool->Bool->Bool->Bool->Act->β->Prop) (H:∀ {m c b0 b1 b2 b3 a w},I m c b0 b1 b2 b3 a w->S w)
  (x:∀ (m b0 b1 b2 b3:Bool) (c:Fin 4),(!(Region.ready md ops (lj m c.val b0 b1 b2 b3)).isEmpty && (Region.ready md ops (lj m c.val b0 b1 b2 b3)).all (Ac m c.val b0 b1 b2 b3))=true)
  (W:∀ c b0 b1 b2 b3 a w,I false c b0 b1 b2 b3 a w->wpOp P ops Q 0 (I true c b0 b1 b2 b3) a w)
  (y:∀ m b0 b1 b2 b3 a w,I m 0 b0 b1 b2 b3 a w->wpOp P ops Q 6 (I m 1 b0 b1 b2 b3) a w)
  (z:∀ m b0 b1 b2 b3 a w,I m 1 b0 b1 b2 b3 a w->wpOp P ops Q 11 (I m 2 b0 b1 b2 b3) a w)
  (A:∀ m b0 b1 b2 b3 a w,I m 2 b0 b1 b2 b3 a w->wpOp P ops Q 16 (I m 3 b0 b1 b2 b3) a w)
  (X:∀ c b1 b2 b3 a w,I true c false b1 b2 b3 a w->wpOp P ops Q 2 (I true c true b1 b2 b3) a w)
  (Y:∀ c b0 b2 b3 a w,1<=c->I true c b0 false b2 b3 a w->wpOp P ops Q 7 (I true c b0 true b2 b3) a w)
  (Z:∀ c b0 b1 b3 a w,2<=c->I true c b0 b1 false b3 a w->wpOp P ops Q 12 (I true c b0 b1 true b3) a w)
  (aa:∀ c b0 b1 b2 a w,3<=c->I true c b0 b1 b2 false a w->wpOp P ops Q 17 (I true c b0 b1 b2 true) a w)
  (B:∀ a w,I true 3 true true true true a w->wpOp P ops Q 18 (fun d w'=>Ϥ P md ops Q S 18 1 ((lj true 3 true true true true).setIfInBounds 18 true) d w') a w) :
  ∀ n m c b0 b1 b2 b3 a w,c<=3->nY m c b0 b1 b2 b3=n->I m c b0 b1 b2 b3 a w->Ϥ P md ops Q S 18 (n+2) (lj m c b0 b1 b2 b3) a w:=by
 intro n;induction n with
 |zero =>
  intro m c b0 b1 b2 b3 a w j f i;have b:m=true/\c=3/\b0=true/\b1=true/\b2=true/\b3=true:=by
   unfold nY at f;cases m<;>cases b0<;>cases b1<;>cases b2<;>cases b3<;>simp at f ⊢ <;>omega
  obtain⟨rfl,rfl,rfl,rfl,rfl,rfl⟩:=b;have h:=x true true true true true ⟨3,U⟩;rw[gt]at h;refine⟨fun v=>?_,fun k hi=>?_⟩
  .simp only at h;rw[v]at h;simp at h
  .have p:=kT.1 h.2 k hi
   simp[Ac]at p;subst p;refine mZ (fun d w' F=>⟨fun N=>?_,F⟩) (B a w i);simp[lj]at N
 |succ n V =>
  intro m c b0 b1 b2 b3 a w j f i;have h:=x m b0 b1 b2 b3 ⟨c,U⟩;rw[gt]at h;refine⟨fun v=>?_,fun k hi=>?_⟩
  .simp only at h;rw[v]at h;simp at h
  .have p:=kT.1 h.2 k hi
   simp only[Ac,oo,gt,nm,Bool.not_eq_true',hP]at p;have next:∀ u l q r s t d w',l<=3->nY u l q r s t=n->(lj m c b0 b1 b2 b3).setIfInBounds k true=lj u l q r s t->I u l q r s t d w' ->
     ((((lj m c b0 b1 b2 b3).setIfInBounds k true).getD 18 true=false->S w')/\Ϥ P md ops Q S 18 (n+2) ((lj m c b0 b1 b2 b3).setIfInBounds k true) d w'):=by
    intro u l q r s t d w' M R g e;rw[g];exact⟨fun _=>H e,V _ _ _ _ _ _ _ _ M R e⟩
   rcases p with (((((((⟨rfl,rfl⟩|⟨rfl,rfl⟩)|⟨rfl,rfl⟩)|⟨rfl,rfl⟩)|⟨⟨rfl,rfl⟩,rfl⟩)|⟨⟨⟨rfl,rfl⟩,rfl⟩,o⟩)|⟨⟨⟨rfl,rfl⟩,rfl⟩,o⟩)|⟨⟨⟨rfl,rfl⟩,rfl⟩,o⟩)|⟨⟨⟨⟨⟨⟨rfl,rfl⟩,rfl⟩,rfl⟩,rfl⟩,rfl⟩,rfl⟩
   .exact mZ (fun d w' e=>next true c b0 b1 b2 b3 d w' j (by unfold nY at f ⊢;simp at f ⊢;omega) (by simp[lj]) e) (W c b0 b1 b2 b3 a w i)
   .exact mZ (fun d w' e=>next m 1 b0 b1 b2 b3 d w' U (by unfold nY at f ⊢;omega) (by simp[lj]) e) (y m b0 b1 b2 b3 a w i)
   .exact mZ (fun d w' e=>next m 2 b0 b1 b2 b3 d w' U (by unfold nY at f ⊢;omega) (by simp[lj]) e) (z m b0 b1 b2 b3 a w i)
   .exact mZ (fun d w' e=>next m 3 b0 b1 b2 b3 d w' U (by unfold nY at f ⊢;omega) (by simp[lj]) e) (A m b0 b1 b2 b3 a w i)
   .exact mZ (fun d w' e=>next true c true b1 b2 b3 d w' j (by unfold nY at f ⊢;simp at f ⊢;omega) (by simp[lj]) e) (X c b1 b2 b3 a w i)
   .exact mZ (fun d w' e=>next true c b0 true b2 b3 d w' j (by unfold nY at f ⊢;simp at f ⊢;omega) (by simp[lj]) e) (Y c b0 b2 b3 a w o i)
   .exact mZ (fun d w' e=>next true c b0 b1 true b3 d w' j (by unfold nY at f ⊢;simp at f ⊢;omega) (by simp[lj]) e) (Z c b0 b1 b3 a w o i)
   .exact mZ (fun d w' e=>next true c b0 b1 b2 true d w' j (by unfold nY at f ⊢;simp at f ⊢;omega) (by simp[lj]) e) (aa c b0 b1 b2 a w o i)
   .simp[nY]at f
end
end
def hC (d c h e:Bool) (a b f g:ε):Int->Option ε:=fun z =>
 if z=0/\d=true then J a else if z=1/\c=true then J b else if z=2/\h=true then J f else if z=3/\e=true then J g else O
def LF (v0 v1 v2 v3):hC false false false false v0 v1 v2 v3=fun _=>O:=by funext z;simp[hC]
def LA (b1 b2 b3 v0 v1 v2 v3):(fun z=>if z=0 then J v0 else hC false b1 b2 b3 v0 v1 v2 v3 z)=hC true b1 b2 b3 v0 v1 v2 v3:=by
 funext z;by_cases h:z=0<;>simp[hC]
def LB (b0 b2 b3 v0 v1 v2 v3):(fun z=>if z=1 then J v1 else hC b0 false b2 b3 v0 v1 v2 v3 z)=hC b0 true b2 b3 v0 v1 v2 v3:=by
 funext z;by_cases h:z=1<;>simp[hC,h]
def LC (b0 b1 b3 v0 v1 v2 v3):(fun z=>if z=2 then J v2 else hC b0 b1 false b3 v0 v1 v2 v3 z)=hC b0 b1 true b3 v0 v1 v2 v3:=by
 funext z;by_cases h:z=2<;>simp[hC,h]
def LD (b0 b1 b2 v0 v1 v2 v3):(fun z=>if z=3 then J v3 else hC b0 b1 b2 false v0 v1 v2 v3 z)=hC b0 b1 b2 true v0 v1 v2 v3:=by
 funext z;by_cases h:z=3<;>simp[hC,h]
section
variable (W0:β) (TF:TypeId) (F0:ε) (V:Nat->ε) (fn1 fn2 fn3:ε) (T:ε->ε->ε->ε->Array ε)
def ik (m:Bool) (c:Nat) (f e d b:Bool) (a:Act) (w:β):Prop:=
 ∃ mb es clock c1 c2 c3,Below W0.heap.size W0 w /\
  a={tmps:=T (if m=true then .map (J mb)else undef) (if 1<=c then V c1 else undef) (if 2<=c then V c2 else undef) (if 3<=c then V c3 else undef),defers:=[]} /\
  (m=true->W0.heap.size<=mb/\w.heap[mb]?=J (.map es clock)/\jG es (hC f e d b F0 (V c1) (V c2) (V c3))) /\
  (m=false->f=false/\e=false/\d=false/\b=false) /\
  (1<=c->W0.heap.size<=c1/\w.heap[c1]?=J (C #[fn1] TF (0,0)))/\(2<=c->W0.heap.size<=c2/\w.heap[c2]?=J (C #[fn2] TF (0,0)))/\(3<=c->W0.heap.size<=c3/\w.heap[c3]?=J (C #[fn3] TF (0,0))) /\
  (e=true->1<=c)/\(d=true->2<=c)/\(b=true->3<=c)
variable {W0 TF F0 V fn1 fn2 fn3 T} {m:Bool} {c:Nat} {b0 b1 b2 b3:Bool} {a:Act} {w:β}
def ik.bel (h:ik W0 TF F0 V fn1 fn2 fn3 T m c b0 b1 b2 b3 a w):BQ W0 w:=by obtain⟨_,_,_,_,_,_,h,_⟩:=h;exact h
def ik.start (d:BQ W0 w) (b:a={tmps:=T undef undef undef undef,defers:=[]}):ik W0 TF F0 V fn1 fn2 fn3 T false 0 false false false false a w:=
 ⟨0,#[],0,0,0,0,d,by rw[b];simp,ύ,ύ,ύ,ύ,ύ,ύ,ύ,ύ⟩
def ik.made (h:ik W0 TF F0 V fn1 fn2 fn3 T false c b0 b1 b2 b3 a w):∃ x1 x2 x3,a={tmps:=T undef x1 x2 x3,defers:=[]} /\
  ik W0 TF F0 V fn1 fn2 fn3 T true c b0 b1 b2 b3 {tmps:=T (.map (J w.heap.size)) x1 x2 x3,defers:=[]} (å w (.map #[] 0)):=by
 obtain⟨mb,es,ck,c1,c2,c3,hB,ha,-,h2,h3,h4,h5,h6,h7,h8⟩:=h;refine⟨_,_,_,by rw[ha];rfl,_,_,0,c1,c2,c3,hB.al _,ύ,fun _=>⟨hB.size,φ w _,?_⟩,ύ,fun h=>?_,fun h=>?_,fun h=>?_,h6,h7,h8⟩
 .obtain⟨rfl,rfl,rfl,rfl⟩:=h2 rfl
  rw[LF];exact jG.none
 .exact⟨(h3 h).1,by rw[hM w _ _ (ς (h3 h).2)];exact(h3 h).2⟩
 .exact⟨(h4 h).1,by rw[hM w _ _ (ς (h4 h).2)];exact(h4 h).2⟩
 .exact⟨(h5 h).1,by rw[hM w _ _ (ς (h5 h).2)];exact(h5 h).2⟩
def ik.call1 (h:ik W0 TF F0 V fn1 fn2 fn3 T m 0 b0 b1 b2 b3 a w):∃ x0,a={tmps:=T x0 undef undef undef,defers:=[]} /\
  ik W0 TF F0 V fn1 fn2 fn3 T m 1 b0 b1 b2 b3 {tmps:=T x0 (V w.heap.size) undef undef,defers:=[]} (å w (C #[fn1] TF)):=by
 obtain⟨mb,es,ck,c1,c2,c3,hB,ha,h1,h2,h3,h4,h5,h6,h7,h8⟩:=h;have e1:b1=false:=by cases b1 with|true=>have:=h6 rfl;omega|false=>rfl
 refine⟨_,by rw[ha];rfl,mb,es,ck,_,c2,c3,hB.al _,rfl,fun h=>⟨(h1 h).1,by rw[hM w _ _ (ς (h1 h).2.1)];exact(h1 h).2.1,?_⟩,h2,fun h=>⟨hB.size,φ w _⟩,U,U,fun _=>NZ,fun h=>ι (h7 h),fun h=>ι (h8 h)⟩;have:=(h1 h).2.2;subst e1;have he:hC b0 false b2 b3 F0 (V w.heap.size) (V c2) (V c3)=hC b0 false b2 b3 F0 (V c1) (V c2) (V c3):=by funext z;simp[hC]
 rw[he];exact this
def ik.call2 (h:ik W0 TF F0 V fn1 fn2 fn3 T m 1 b0 b1 b2 b3 a w):∃ x0 x1,a={tmps:=T x0 x1 undef undef,defers:=[]} /\
  ik W0 TF F0 V fn1 fn2 fn3 T m 2 b0 b1 b2 b3 {tmps:=T x0 x1 (V w.heap.size) undef,defers:=[]} (å w (C #[fn2] TF)):=by
 obtain⟨mb,es,ck,c1,c2,c3,hB,ha,h1,h2,h3,h4,h5,h6,h7,h8⟩:=h;have e1:b2=false:=by cases b2 with|true=>have:=h7 rfl;omega|false=>rfl
 refine⟨_,_,by rw[ha];rfl,mb,es,ck,c1,_,c3,hB.al _,rfl,fun h=>⟨(h1 h).1,by rw[hM w _ _ (ς (h1 h).2.1)];exact(h1 h).2.1,?_⟩,h2,fun _=>?_,fun h=>⟨hB.size,φ w _⟩,U,fun _=>U,fun _=>NZ,fun h=>ι (h8 h)⟩
 .have:=(h1 h).2.2
  subst e1;have he:hC b0 b1 false b3 F0 (V c1) (V w.heap.size) (V c3)=hC b0 b1 false b3 F0 (V c1) (V c2) (V c3):=by funext z;simp[hC]
  rw[he];exact this
 .have h:=h3 NZ
  exact⟨h.1,by rw[hM w _ _ (ς h.2)];exact h.2⟩
def ik.call3 (h:ik W0 TF F0 V fn1 fn2 fn3 T m 2 b0 b1 b2 b3 a w):∃ x0 x1 x2,a={tmps:=T x0 x1 x2 undef,defers:=[]} /\
  ik W0 TF F0 V fn1 fn2 fn3 T m 3 b0 b1 b2 b3 {tmps:=T x0 x1 x2 (V w.heap.size),defers:=[]} (å w (C #[fn3] TF)):=by
 obtain⟨mb,es,ck,c1,c2,c3,hB,ha,h1,h2,h3,h4,h5,h6,h7,h8⟩:=h;have e1:b3=false:=by cases b3 with|true=>have:=h8 rfl;omega|false=>rfl
 refine⟨_,_,_,by rw[ha];rfl,mb,es,ck,c1,c2,_,hB.al _,rfl,fun h=>⟨(h1 h).1,by rw[hM w _ _ (ς (h1 h).2.1)];exact(h1 h).2.1,?_⟩,h2,fun _=>?_,fun _=>?_,fun h=>⟨hB.size,φ w _⟩,fun _=>U,fun _=>U,fun _=>NZ⟩
 .have:=(h1 h).2.2
  subst e1;have he:hC b0 b1 b2 false F0 (V c1) (V c2) (V w.heap.size)=hC b0 b1 b2 false F0 (V c1) (V c2) (V c3):=by funext z;simp[hC]
  rw[he];exact this
 .have h:=h3 U
  exact⟨h.1,by rw[hM w _ _ (ς h.2)];exact h.2⟩
 .have h:=h4 U
  exact⟨h.1,by rw[hM w _ _ (ς h.2)];exact h.2⟩
def qb {w:β} {b o o'} (d:w.heap[b]?=J o):(Go.ChangeMaps.setBlock w b o').heap[b]?=J o'/\∀ b',b'≠b->(Go.ChangeMaps.setBlock w b o').heap[b']?=w.heap[b']?:=MapKept.heap_set d
def qy {B} {W w:β} (h:Below B W w) {b} (d:B<=b) (o):Below B W (Go.ChangeMaps.setBlock w b o):=
 ⟨h.os,h.tape,h.output,by have:=h.size;simpa[Go.ChangeMaps.setBlock] using this,fun k hk=>by
  rw[<-h.block k hk]
  simp[Go.ChangeMaps.setBlock,show b≠k from U]⟩
def nW {w:β} {f g:Nat} {es ck} {e:Array ε} {t o} (d:w.heap[f]?=J (.map es ck)) (b:w.heap[g]?=J (C e t (0,0))):(Go.ChangeMaps.setBlock w f o).heap[g]?=J (C e t (0,0)):=by
 rw[(qb d).2 g (by rintro rfl;rw[d]at b;cases b)];exact b
def ik.put0 (h:ik W0 TF F0 V fn1 fn2 fn3 T true c false b1 b2 b3 a w):∃ mb es clock x1 x2 x3 g,a={tmps:=T (.map (J mb)) x1 x2 x3,defers:=[]}/\w.heap[mb]?=J (.map es clock)/\jG es g/\g 0=O /\
  ik W0 TF F0 V fn1 fn2 fn3 T true c true b1 b2 b3 {tmps:=T (.map (J mb)) x1 x2 x3,defers:=[]} (Go.ChangeMaps.setBlock w mb (.map (es.push {key:=G 0,val:=F0,born:=clock}) (clock+1))):=by
 obtain⟨mb,es,ck,c1,c2,c3,hB,ha,h1,h2,h3,h4,h5,h6,h7,h8⟩:=h;obtain⟨g1,g2,g3⟩:=h1 rfl;refine⟨mb,es,ck,_,_,_,_,by rw[ha];rfl,g2,g3,by simp[hC],mb,_,_,c1,c2,c3,qy hB g1 _,rfl,fun _=>⟨g1,(qb g2).1,?_⟩,ύ,fun h=>⟨(h3 h).1,nW g2 (h3 h).2⟩,fun h=>⟨(h4 h).1,nW g2 (h4 h).2⟩,fun h=>⟨(h5 h).1,nW g2 (h5 h).2⟩,h6,h7,h8⟩;rw[<-LA];exact g3.push (by simp[hC]) _ _
def ik.put1 (b:1<=c) (h:ik W0 TF F0 V fn1 fn2 fn3 T true c b0 false b2 b3 a w):∃ mb es clock x1 x2 x3 g,a={tmps:=T (.map (J mb)) x1 x2 x3,defers:=[]}/\w.heap[mb]?=J (.map es clock)/\jG es g/\g 1=O /\
  ik W0 TF F0 V fn1 fn2 fn3 T true c b0 true b2 b3 {tmps:=T (.map (J mb)) x1 x2 x3,defers:=[]} (Go.ChangeMaps.setBlock w mb (.map (es.push {key:=G 1,val:=x1,born:=clock}) (clock+1))):=by
 obtain⟨mb,es,ck,c1,c2,c3,hB,ha,h1,h2,h3,h4,h5,h6,h7,h8⟩:=h;obtain⟨g1,g2,g3⟩:=h1 rfl;refine⟨mb,es,ck,_,_,_,_,by rw[ha,μ b];rfl,g2,g3,by simp[hC],mb,_,_,c1,c2,c3,qy hB g1 _,by rw[μ b];rfl,fun _=>⟨g1,(qb g2).1,?_⟩,ύ,fun h=>⟨(h3 h).1,nW g2 (h3 h).2⟩,fun h=>⟨(h4 h).1,nW g2 (h4 h).2⟩,fun h=>⟨(h5 h).1,nW g2 (h5 h).2⟩,fun _=>b,h7,h8⟩;rw[<-LB];exact g3.push (by simp[hC]) _ _
def ik.put2 (b:2<=c) (h:ik W0 TF F0 V fn1 fn2 fn3 T true c b0 b1 false b3 a w):∃ mb es clock x1 x2 x3 g,a={tmps:=T (.map (J mb)) x1 x2 x3,defers:=[]}/\w.heap[mb]?=J (.map es clock)/\jG es g/\g 2=O /\
  ik W0 TF F0 V fn1 fn2 fn3 T true c b0 b1 true b3 {tmps:=T (.map (J mb)) x1 x2 x3,defers:=[]} (Go.ChangeMaps.setBlock w mb (.map (es.push {key:=G 2,val:=x2,born:=clock}) (clock+1))):=by
 obtain⟨mb,es,ck,c1,c2,c3,hB,ha,h1,h2,h3,h4,h5,h6,h7,h8⟩:=h;obtain⟨g1,g2,g3⟩:=h1 rfl;refine⟨mb,es,ck,_,_,_,_,by rw[ha,μ b];rfl,g2,g3,by simp[hC],mb,_,_,c1,c2,c3,qy hB g1 _,by rw[μ b];rfl,fun _=>⟨g1,(qb g2).1,?_⟩,ύ,fun h=>⟨(h3 h).1,nW g2 (h3 h).2⟩,fun h=>⟨(h4 h).1,nW g2 (h4 h).2⟩,fun h=>⟨(h5 h).1,nW g2 (h5 h).2⟩,h6,fun _=>b,h8⟩;rw[<-LC];exact g3.push (by simp[hC]) _ _
def ik.put3 (b:3<=c) (h:ik W0 TF F0 V fn1 fn2 fn3 T true c b0 b1 b2 false a w):∃ mb es clock x1 x2 x3 g,a={tmps:=T (.map (J mb)) x1 x2 x3,defers:=[]}/\w.heap[mb]?=J (.map es clock)/\jG es g/\g 3=O /\
  ik W0 TF F0 V fn1 fn2 fn3 T true c b0 b1 b2 true {tmps:=T (.map (J mb)) x1 x2 x3,defers:=[]} (Go.ChangeMaps.setBlock w mb (.map (es.push {key:=G 3,val:=x3,born:=clock}) (clock+1))):=by
 obtain⟨mb,es,ck,c1,c2,c3,hB,ha,h1,h2,h3,h4,h5,h6,h7,h8⟩:=h;obtain⟨g1,g2,g3⟩:=h1 rfl;refine⟨mb,es,ck,_,_,_,_,by rw[ha,μ b];rfl,g2,g3,by simp[hC],mb,_,_,c1,c2,c3,qy hB g1 _,by rw[μ b];rfl,fun _=>⟨g1,(qb g2).1,?_⟩,ύ,fun h=>⟨(h3 h).1,nW g2 (h3 h).2⟩,fun h=>⟨(h4 h).1,nW g2 (h4 h).2⟩,fun h=>⟨(h5 h).1,nW g2 (h5 h).2⟩,h6,h7,fun _=>b⟩;rw[<-LD];exact g3.push (by simp[hC]) _ _
def ik.done (h:ik W0 TF F0 V fn1 fn2 fn3 T true 3 true true true true a w):∃ mb es clock c1 c2 c3,a={tmps:=T (.map (J mb)) (V c1) (V c2) (V c3),defers:=[]}/\W0.heap.size<=mb/\w.heap[mb]?=J (.map es clock)/\jG es (hC true true true true F0 (V c1) (V c2) (V c3)) /\
  (W0.heap.size<=c1/\w.heap[c1]?=J (C #[fn1] TF (0,0)))/\(W0.heap.size<=c2/\w.heap[c2]?=J (C #[fn2] TF (0,0)))/\(W0.heap.size<=c3/\w.heap[c3]?=J (C #[fn3] TF (0,0))):=by
 obtain⟨mb,es,ck,c1,c2,c3,hB,ha,h1,h2,h3,h4,h5,h6,h7,h8⟩:=h;obtain⟨g1,g2,g3⟩:=h1 rfl;exact⟨mb,es,ck,c1,c2,c3,by rw[ha];rfl,g1,g2,g3,h3 U,h4 U,h5 U⟩
end
section
variable {P:Program} {ops:Array Oper} {Q:Exit->Act->β->Prop} {md:Region.Mode} {S:β->Prop}
def HS {d c:Nat} {b listed':Array Bool} {a:Act} {w:β} (e:b=listed') (h:Ϥ P md ops Q S d c listed' a w):Ϥ P md ops Q S d c b a w:=by rw[e];exact h
def GD {w:β} {b:List Oper} {o:Oper} {a:Act} (c:o.guard=O) (m x:Operand) (t:TypeId) (f:o.op=.lookup t m x false) (d e:ε) (i:a.eval m=d) (g:a.eval x=e) (v:ε) (j:(Instr.lookup t d e false).run P w=.ok v w)
  (h:wpList P ops Q b (a.put o.dst v) w):wpList P ops Q (o::b) a w:=by
 refine wpList_plain c fun K hK=>?_;unfold Oper.wp execOp;simp only[f,i,g,Sem.run_bind,j,pH,Sem.run_pure];exact hK _ _ h
end
def tp (keep):∀ (f:Nat) (a b:List Int),∀ z∈iF keep f a b,z∈a\/z∈b:=by
 intro f;induction f with
 |zero=>intro a b z d;simp[iF]at d
 |succ f e =>
  intro a b z d;have one:∀ (c:Bool) (x:Int) (r:List Int),z∈(if c=true then[x]else[])++r->z=x\/z∈r:=by
   intro c x r h;rw[nj]at h;rcases h with h|h
   .split at h
    .exact .inl (by simpa using h)
    .cases h
   .exact .inr h
  match a,b with
  |[],[]=>simp[iF]at d
  |x::a,[] =>
   simp only[iF]at d;rcases one _ _ _ d with rfl|h
   .simp
   .rcases e _ _ _ h with h|h
    .simp[h]
    .cases h
  |[],y::b =>
   simp only[iF]at d;rcases one _ _ _ d with rfl|h
   .simp
   .rcases e _ _ _ h with h|h
    .simp at h
    .simp[h]
  |x::a,y::b =>
   simp only[iF]at d;split at d
   .rcases one _ _ _ d with rfl|h
    .simp
    .rcases e _ _ _ h with h|h
     .simp[h]
     .exact .inr h
   .split at d
    .rcases one _ _ _ d with rfl|h
     .simp
     .rcases e _ _ _ h with h|h
      .exact .inl h
      .simp[h]
    .rcases one _ _ _ d with rfl|h
     .simp
     .rcases e _ _ _ h with h|h<;>simp[h]
def MC (keep):∀ (f:Nat) (a b:List Int),a.Pairwise (· < ·)->b.Pairwise (· < ·)->(iF keep f a b).Pairwise (· < ·):=by
 intro f;induction f with
 |zero=>intro a b _ _;simp[iF]
 |succ f i =>
  intro a b j k;have one:∀ (c:Bool) (x:Int) (r:List Int),r.Pairwise (· < ·)->(∀ z∈r,x<z)->((if c=true then[x]else[])++r).Pairwise (· < ·):=by
   intro c x r l o;split
   .exact oT.2 ⟨o,l⟩
   .exact l
  match a,b with
  |[],[]=>simp[iF]
  |x::a,[] =>
   simp only[iF];have e:=oT.1 j;refine one _ _ _ (i a [] e.2 k) fun z d=>?_;rcases tp keep f a [] z d with h|h
   .exact e.1 z h
   .cases h
  |[],y::b =>
   simp only[iF];have g:=oT.1 k;refine one _ _ _ (i [] b j g.2) fun z d=>?_;rcases tp keep f [] b z d with h|h
   .cases h
   .exact g.1 z h
  |x::a,y::b =>
   have e:=oT.1 j;have g:=oT.1 k;simp only[iF];split
   .rename_i m
    refine one _ _ _ (i a (y::b) e.2 k) fun z d=>?_;rcases tp keep f a (y::b) z d with h|h
    .exact e.1 z h
    .rcases hH.1 h with rfl|h
     .exact m
     .have:=g.1 z h;omega
   .split
    .rename_i n m
     refine one _ _ _ (i (x::a) b j g.2) fun z d=>?_;rcases tp keep f (x::a) b z d with h|h
     .rcases hH.1 h with rfl|h
      .exact m
      .have:=e.1 z h;omega
     .exact g.1 z h
    .rename_i n l
     refine one _ _ _ (i a b e.2 g.2) fun z d=>?_;rcases tp keep f a b z d with h|h
     .have:=e.1 z h;omega
     .exact g.1 z h
def MJ (keep) {a b} (c:ge a=true) (d:ge b=true):ge (hD keep a b)=true:=by
 rw[xx]at c d ⊢;refine⟨MC keep _ a b c.1 d.1,fun z e=>?_⟩;rcases tp keep _ a b z e with h|h
 .exact c.2 z h
 .exact d.2 z h
def Rv:∀ (l:List Int) (p:Int),l.Pairwise (· < ·)->(∀ x∈l,p<=x/\x<1000)->(L l:Int)<=if p<1000 then 1000 - p else 0:=by
 intro l;induction l with
 |nil=>intro p _ _;simp;split<;>omega
 |cons x l e =>
  intro p d b;have a:=oT.1 d;have f:=b x ύ;have:=e (x+1) a.2 (fun z c=>⟨ι (a.1 z c),(b z (by simp[c])).2⟩);simp only[ϥ];split at this<;>split<;>omega
def lW (k:Int) (x y:List Int):List Int:=hD (if k=1 then KX else if k=2 then uX else KY) x y
def Mg (k) {x y} (a:ge x=true) (c:ge y=true):ge (lW k x y)=true:=MJ _ a c
def Bi (g b:Nat) (a:β):Calls prog 239 #[.func (.func g) #[] #[],þ (J ⟨b,0,O⟩)] a fun e w' =>
  e=ŗ (.func (.func 240) #[] #[þ (J ⟨b,0,O⟩),þ (J ⟨a.heap.size,0,O⟩)])/\w'=å a (C #[.func (.func g) #[] #[]] 288):=by
 go_enter func239,ntmps239;go_wp2;exact gH
def wj (b:Nat) (c:β) (d a:ε) (x:List Int):Prop:=c.ownsRow b 3 1 a (L x) (τ x)/\ge x=true/\∀ g,a.ownBlock=J g->d.ownBlock≠J g
def oq (a:Nat) (b:β) (c:ε):List ε->List (List Int)->Prop
 |[],[]=>True
 |v::vs,x::xs=>wj a b c v x/\oq a b c vs xs
 |_,_=>False
def wj.keep {B W W' sv sv' xv x} (h:wj B W sv xv x) (a:∀ g,B<=g->g<W.heap.size->sv.ownBlock≠J g->W'.heap[g]?=W.heap[g]?/\sv'.ownBlock≠J g):wj B W' sv' xv x:=
 ⟨jU h.1 fun g hg=>(a g (h.1.lt g hg).1 (h.1.lt g hg).2 (h.2.2 g hg)).1,h.2.1,fun g hg=>(a g (h.1.lt g hg).1 (h.1.lt g hg).2 (h.2.2 g hg)).2⟩
theorem oq.keep {B W W' sv sv'} (a:∀ g,B<=g->g<W.heap.size->sv.ownBlock≠J g->W'.heap[g]?=W.heap[g]?/\sv'.ownBlock≠J g):∀ {b:List ε} {c:List (List Int)},oq B W sv b c->oq B W' sv' b c
 |[],[],_=>trivial
 |_::_,_::_,h=>⟨h.1.keep a,oq.keep a h.2⟩
 |[],_::_,h=>h.elim
 |_::_,[],h=>h.elim
theorem oq.len {B W sv}:∀ {a:List ε} {c:List (List Int)},oq B W sv a c->L a=L c
 |[],[],_=>rfl
 |_::_,_::_,h=>by simp[oq.len h.2]
 |[],_::_,h=>h.elim
 |_::_,[],h=>h.elim
structure jY (W1 W:β) (sb:Nat) (sv:ε) (n:Nat) (st:List (List Int)):Prop where
 var:W.heap[sb]?=J (C #[sv] 196 (0,0))
 ex:∃ vs,W.ownsRow W1.heap.size 23 1 sv n vs.reverse/\oq W1.heap.size W sv vs st
 len:L st=n
 keep:∀ b,b<W1.heap.size->b≠sb->W.heap[b]?=W1.heap[b]?
 size:W1.heap.size<=W.heap.size
 lt:sb<W1.heap.size
 bel:Below sb W1 W
def jY.own {W1 W sb sv n st} (h:jY W1 W sb sv n st):W.ownsRow W1.heap.size 23 1 sv n (Classical.choose h.ex).reverse:=(Classical.choose_spec h.ex).1
def jY.cell_keep {W1 W sb sv n st} (h:jY W1 W sb sv n st) (b o) (a:b<W1.heap.size) (c:b≠sb):W.cell? ⟨b,o,O⟩=W1.cell? ⟨b,o,O⟩:=by
 have:=h.keep b a c;simp only[World.cell?,this]
def jY.start {W sb} (a:W.heap[sb]?=J (C #[D O 0 0] 196 (0,0))):jY W W sb (D O 0 0) 0 []:=
 ⟨a,⟨[],gQ _ _ _ _,trivial⟩,rfl,fun _ _ _=>rfl,NZ,ς a,ρ _ _⟩
def zY:(prog.info? 23).map (fun i=>(i.zero,i.size,i.bytes))=J (J (D O 0 0),1,24):=ϋ
def jY.B {W1 W W' sb sv n st} (h:jY W1 W sb sv n st) (a:BQ W W'):jY W1 W' sb sv n st:=by
 obtain⟨j,i,f⟩:=h.ex;exact⟨by rw[a.block _ (gw h.size h.lt)];exact h.var,⟨j,ψ i a,f.keep fun g _ c e=>⟨a.block g c,e⟩⟩,h.len,fun b d c=>by rw[a.block b (ι h.size)];exact h.keep b d c,gw h.size a.size,h.lt,h.bel.trans (a.M (gw h.size h.lt))⟩
def jY.next {k j l a:β} {sb} {r f u:ε} {n n' st st' vs' x} (h:jY k j sb r n st) (i:BQ j l) {t:ε} (d:t.ownBlock=r.ownBlock) (S:l.grownBy a t.ownBlock)
  (hv:f.ownBlock=t.ownBlock\/f.ownBlock=J l.heap.size) (E:oq k.heap.size j r vs' st') (p:l.ownsRow j.heap.size 3 1 u (L x) (τ x)) (K:ge x=true)
  (A:a.ownsRow k.heap.size 23 1 f n' (vs'.reverse++[u])) (R:L st'+1=n') :
  jY k (ŝ a ⟨sb,0,O⟩ f) sb f n' (x::st'):=by
 have Q:=i.size;have P:=h.size;have F:=h.lt;have N:=S.size;have s:=fun g S=>(h.own.lt g S).1;have B:=fun g S=>(h.own.lt g S).2;have I:a.heap[sb]?=J (C #[r] 196 (0,0)):=by
  rw[S.block sb U (by rw[d];intro e;have:=s sb e.symm;omega),i.block sb U];exact h.var
 have H:=υ a sb 0 _ _ f I;have o:∀ g,g≠sb->(ŝ a ⟨sb,0,O⟩ f).heap[g]?=a.heap[g]?:=fun g S=>Γ _ _ _ _ (by simpa using S);refine⟨by rw[H];rfl,⟨u::vs',by rw[List.reverse_cons];exact jU A fun g c=>o g (ι (A.lt g c).1),⟨?_,K,?_⟩,E.keep fun g v m w=>⟨?_,?_⟩⟩,by simpa using R,fun b v m=>?_,?_,F,?_⟩
 .refine jU (gX p U |> fun q=>jU q (w':=a) fun g c=>?_) fun g c=>o g (ι (p.lt g c).1)
  have z:=p.lt g c;exact S.block g z.2 (by rw[d];intro e;have:=B g e.symm;omega)
 .intro g c
  have z:=p.lt g c;rcases hv with hv|hv
  .rw[hv,d];intro e;have:=B g e;omega
  .rw[hv];intro e;simp only[Φ]at e;omega
 .rw[o g U,S.block g U (by rw[d];exact fun e=>w e.symm),i.block g m]
 .rcases hv with hv|hv
  .rw[hv,d];exact w
  .rw[hv];intro e;simp only[Φ]at e;omega
 .rw[o b m,S.block b U (by rw[d];intro e;have:=s b e.symm;omega),i.block b U]
  exact h.keep b v m
 .rw[nc];omega
 .exact((h.bel.trans (i.M U)).grown S U (fun M y=>by rw[d]at y;have:=s M y;omega)).S NZ _
def jY.var7 {f a c b:β} {sb sv n st} (h:jY f a sb sv n st) (d:BQ a c) (i:c.grownBy b sv.ownBlock):b.heap[sb]?=J (C #[sv] 196 (0,0)):=by
 have:=d.size;have:=h.size;have:=h.lt;rw[i.block sb U (by intro e;have:=(h.own.lt sb e.symm).1;omega),d.block sb U];exact h.var
def jY.turned {e a b c:β} {sb sv n st} (h:jY e a sb sv n st) (d:BQ a b) (k:b.grownBy c sv.ownBlock) (v:ε):Below sb a (ŝ c ⟨sb,0,O⟩ v):=by
 have:=d.size;have:=h.size;have:=h.lt;have f:Below sb a b:=d.M U;have g:=f.grown k U (fun j i=>ι (h.own.lt j i).1);exact g.S NZ _
def BM (d c:β) (b:Nat) (n:Nat) (h:List (List Int)) (e:Ending) (a:β):Prop:=e=ŗ (.tuple #[])/\∃ f,jY d a b f n h/\Below b c a
def Nj (l a:β) (sb rb p p2) (ab:ε) (n st) (t:γ) (r) (h:jY l a sb ab n st) (af:n<=100000) (e:ge r=true)
  (c1:a.cell? ⟨rb,0,O⟩=J (.func (.func 181) #[] #[þ (J ⟨p,0,O⟩),þ (J ⟨p2,0,O⟩)]))
  (R:∀ f,BQ a f->Calls prog 181 #[š (δ t),þ (J ⟨p,0,O⟩),þ (J ⟨p2,0,O⟩)] f (iJ f 3 1 (L r) (τ r))) :
  Calls prog 241 #[š (δ t),þ (J ⟨sb,0,O⟩),þ (J ⟨rb,0,O⟩)] a (BM l a sb (n+1) (r::st)):=by
 obtain⟨Z,hi,W,X,Y⟩:=Ϩ zY;obtain⟨sa,sc,rfl⟩:=Η h.own;obtain⟨aj,S,Q⟩:=h.ex;have⟨E,a1⟩:=π S Q;have c0:a.cell? ⟨sb,0,O⟩=J (D sa n sc):=by rw[ξ _ _ _ _ _ _ h.var];rfl
 have⟨d,B,A⟩:=ϲ h R e;go_enter func241,ntmps241;go_wp2_with fail
 refine ϯ (fun f=>BQ a f) 6 ϋ ?_;have b:BQ a a.drew:=RZ.drew;refine mI (fuel:=7) 0 [6] (D sa n sc) rfl ϋ ϋ ϋ ϋ (fun _ _ _ h=>h) ϒ ?_ b ?_
 .intro a i
  have ag:=ζ i c0;have aa:=ζ i c1;go_simp
 refine gq  1 (þ (J ⟨rb,0,O⟩)) rfl ϋ ϋ ϋ ϋ (fun _ _ _ h=>h) ϒ ?_ b ?_
 .intro a
  go_simp
 refine mI  2 [6,4] (.func (.func 181) #[] #[þ (J ⟨p,0,O⟩),þ (J ⟨p2,0,O⟩)]) rfl ϋ ϋ ϋ ϋ (fun _ _ _ h=>h) ϒ ?_ b ?_
 .intro a i
  have aa:=ζ i c1;go_simp
 refine gq  3 (š (δ t)) rfl ϋ ϋ ϋ ϋ (fun _ _ _ h=>h) ϒ ?_ b ?_
 .intro a
  go_simp
 refine Κ  4 ϋ rfl ?_;intro K g;go_simp;refine(B.o _ b).M ?_;rintro a0 j ⟨y,rfl,q,N⟩;obtain⟨w,x,s⟩:=Η q;have ad:Hid (y.oneCell'=true):=by show _=_;rw[s];rfl
 have F:Hid (j.ownsRow a.heap.size 3 1 y (L r) (τ r)):=gX q b.size;have m:BQ a j:=b.t N;subst s;go_simp;refine g _ _ m ?_;have c:BQ a (å j (C #[D w (L r) x] 23)):=m.al _;refine Κ  5 ϋ rfl ?_;intro K g;go_simp;refine g _ _ c ?_;have T:=ψ E.o c;refine rC  6 ϋ rfl ϋ ?_;intro K g;refine lD (by rfl) _ _ _ _ (by rfl) _ 23 Z _ 1 _ underlying196 hi W X Y rfl _ n _ (by rfl) T _ 1 [D w _ x] (by rfl) (gh underlying196 j _ 1 1 1 rfl (by intro ah u;simp at u;subst u;rfl)) ώ U (gj d.o.size c.size) ?_;intro ai ac o k V;obtain⟨H,I,rfl⟩:=Η o;have M:=Zh (d.o.next c  rfl k V a1.o (ψ F.o (ġ)) A.o o (by simp[d.o.len]));have v:=d.o.var7 c k;have P:Below sb a (ŝ ac ⟨sb,0,O⟩ (D H (n+1) I)):=d.o.turned c k _;have ae:=ξ _ _ 0 _ _ _ v;have d1:=ϧ _ _ 0 _ _ v;refine g _ _ ?_;have z:=Zh P;refine Ze 7 ?_;refine Zd ?_;go_wp2
 go_end0
 exact⟨rfl,_,M.o,z.o⟩
def IW (A a:β) (sb cb) (ao:ε) (n x y s) (h:jY A a sb ao n (y::x::s)) (aB:n<=100000)
  (c1:a.cell? ⟨cb,0,O⟩=J (.func (.func 185) #[] #[])) :
  Calls prog 240 #[š (δ []),þ (J ⟨sb,0,O⟩),þ (J ⟨cb,0,O⟩)] a (BM A a sb (n - 2+1) (lW 2 x y::s)):=by
 obtain⟨an,hi,ak,al,am⟩:=Ϩ zY;have V:=h.len;simp only[ϥ]at V;obtain⟨g,j,rfl⟩:=kO h.own U;obtain⟨p1,p2,aL,aM⟩:=oH h.own;obtain⟨m,l,f⟩:=h.ex
 match m,f,l with
 |[],f,_=>exact f.elim
 |[_],f,_=>exact f.2.elim
 |yv::xv::m,f,l =>
  obtain⟨q,p,F⟩:=f;have aj:=oq.len F;have c0:a.cell? ⟨sb,0,O⟩=J (D (J ⟨g,0,O⟩) n j):=by rw[ξ _ _ _ _ _ _ h.var];rfl
  have ah:(yv::xv::m).reverse=m.reverse++[xv]++[yv]:=ύ;rw[ah]at l;have t:L m.reverse=L s:=by rw[qn,aj]
  have c2:a.cell? ⟨g,n - 2,O⟩=J xv:=by
   have:=l.cellAt (n - 2) U;rw[je (by rw[σ,t];simp;omega),hL U,t,show n - 2 - L s=0 from U]at this;exact this
  have i:a.cell? ⟨g,n - 1,O⟩=J yv:=by
   have:=l.cellAt (n - 1) U;rw[hL (by rw[σ,t];simp;omega)]at this;simp only[σ,t,qr,show n - 1 - (L s+1)=0 from U]at this;exact this
  have N:=Ap l (U:n - 2<=n);rw[show(n - 2)*1=L m.reverse from by rw[t];omega,gP,tT]at N;have W:Hid (∀ d,BQ a d->Calls prog 185 #[xv,yv] d (iJ d 3 1 (L (lW 2 x y)) (τ (lW 2 x y)))):=fun d E =>
   JE xv yv _ _ x y d rfl rfl ((Rd.of_own p.1).B E) ((Rd.of_own q.1).B E) p.2.1 q.2.1 (gw (sh p.2.1) (sh q.2.1))
  have Z:Hid (ge (lW 2 x y)=true):=Mg 2 p.2.1 q.2.1;obtain⟨aq,ar,rfl⟩:=Η p.1;obtain⟨av,aw,rfl⟩:=Η q.1;generalize lW 2 x y=r at *;generalize (L x)=au at *;generalize (L y)=ax at *;have⟨aa,X,v,ay⟩:=hV N F h V;have aC:(n:Int) - 1 - 1<=(j:Int):=U;have aD:(n:Int) - 1<(n:Int):=U;have aE:(n:Int) - 1 - 1<(n:Int):=U;have aF:((n:Int) - 1).toNat=n - 1:=U;have aG:((n:Int) - 1 - 1).toNat=n - 2:=U;have aH:IntKind.i64.wrap ((n:Int) - 1)=(n:Int) - 1:=Ϗ;have aI:IntKind.i64.wrap ((n:Int) - 1 - 1)=(n:Int) - 1 - 1:=by rw[kD];unfold maxLen at p2;omega
  have aJ:(1:Int)<=(n:Int):=U;have aK:(1:Int)<=(n:Int) - 1:=U;go_enter func240,ntmps240;go_wp2_with fail
  refine ϯ (fun d=>BQ a d) 16 ϋ ?_;have b:BQ a a.drew:=RZ.drew;refine mI (fuel:=17) 0 [16,3] (D (J ⟨g,0,O⟩) n j) rfl ϋ ϋ ϋ ϋ (fun _ _ _ h=>h) ϒ ?_ b ?_
  .intro a c
   have R:=ζ c c0;have u:=ζ c i;go_simp
  refine gq  1 (G (n - 1)) rfl ϋ ϋ ϋ ϋ (fun _ _ _ h=>h) ϒ ?_ b ?_
  .intro a
   go_simp
  refine gq  2 (G (n - 1 - 1)) rfl ϋ ϋ ϋ ϋ (fun _ _ _ h=>h) ϒ ?_ b ?_
  .intro a
   go_simp
  refine gq  3 (D (J ⟨g,0,O⟩) (n - 2) j) rfl ϋ ϋ ϋ ϋ (fun _ _ _ h=>h) ϒ ?_ b ?_
  .intro a
   go_simp
  refine mI  4 [16,14] (.func (.func 185) #[] #[]) rfl ϋ ϋ ϋ ϋ (fun _ _ _ h=>h) ϒ ?_ b ?_
  .intro a c
   have aN:=ζ c c1;have u:=ζ c i;go_simp
  refine mI  5 [16,14,9,8] (D (J ⟨g,0,O⟩) n j) rfl ϋ ϋ ϋ ϋ (fun _ _ _ h=>h) ϒ ?_ b ?_
  .intro a c
   have R:=ζ c c0;have u:=ζ c i;go_simp
  refine gq  6 (G (n - 1)) rfl ϋ ϋ ϋ ϋ (fun _ _ _ h=>h) ϒ ?_ b ?_
  .intro a
   go_simp
  refine gq  7 (G (n - 1 - 1)) rfl ϋ ϋ ϋ ϋ (fun _ _ _ h=>h) ϒ ?_ b ?_
  .intro a
   go_simp
  refine gq  8 (þ (J ⟨g,n - 2,O⟩)) rfl ϋ ϋ ϋ ϋ (fun _ _ _ h=>h) ϒ ?_ b ?_
  .intro a
   go_simp
  refine mI  9 [16,14] (D aq au ar) rfl ϋ ϋ ϋ ϋ (fun _ _ _ h=>h) ϒ ?_ b ?_
  .intro a c
   have aO:=ζ c c2;have u:=ζ c i;go_simp
  refine mI  10 [16,14,13,12] (D (J ⟨g,0,O⟩) n j) rfl ϋ ϋ ϋ ϋ (fun _ _ _ h=>h) ϒ ?_ b ?_
  .intro a c
   have R:=ζ c c0;have u:=ζ c i;go_simp
  refine gq  11 (G (n - 1)) rfl ϋ ϋ ϋ ϋ (fun _ _ _ h=>h) ϒ ?_ b ?_
  .intro a
   go_simp
  refine gq  12 (þ (J ⟨g,n - 1,O⟩)) rfl ϋ ϋ ϋ ϋ (fun _ _ _ h=>h) ϒ ?_ b ?_
  .intro a
   go_simp
  refine mI  13 [16,14] (D av ax aw) rfl ϋ ϋ ϋ ϋ (fun _ _ _ h=>h) ϒ ?_ b ?_
  .intro a c
   have u:=ζ c i;go_simp
  refine Κ  14 ϋ rfl ?_;intro K o;go_simp;refine(W.o _ b).M ?_;rintro a0 w ⟨e,rfl,I,ae⟩;obtain⟨S,T,M⟩:=Η I;have az:Hid (e.oneCell'=true):=by show _=_;rw[M];rfl
  have Y:Hid (w.ownsRow a.heap.size 3 1 e (L r) (τ r)):=gX I b.size;have B:BQ a w:=b.t ae;subst M;go_simp;refine o _ _ B ?_;have k:BQ a (å w (C #[D S (L r) T] 23)):=B.al _;refine Κ  15 ϋ rfl ?_;intro K o;go_simp;refine o _ _ k ?_;have ag:=ψ aa.o k;refine rC  16 ϋ rfl ϋ ?_;intro K o;refine lD (by rfl) _ _ _ _ (by rfl) _ 23 an _ 1 _ underlying196 hi ak al am rfl _ _ _ (by rfl) ag _ 1 [D S _ T] (by rfl) (gh underlying196 w _ 1 1 1 rfl (by intro aP P;simp at P;subst P;rfl)) ώ U (gj v.o.size k.size) ?_;intro aQ ap H z ai;obtain⟨ab,ac,rfl⟩:=Η H;have ad:=Zh (v.o.next k  rfl z ai X.o (ψ Y.o (ġ)) Z.o H (by simp;omega));have Q:=v.o.var7 k z;have af:Below sb a (ŝ ap ⟨sb,0,O⟩ (D ab ((n - 2)+1) ac)):=v.o.turned k z _;have aA:=ξ _ _ 0 _ _ _ Q;have d1:=ϧ _ _ 0 _ _ Q;refine o _ _ ?_;have a1:=Zh af;refine Ze 17 ?_;refine Zd ?_;go_wp2
  go_end0
  exact⟨rfl,_,ad.o,a1.o⟩
abbrev kP (p a:Nat) (w:β):β:=å (å w (C #[.func (.func 181) #[] #[þ (J ⟨p,0,O⟩),þ (J ⟨a,0,O⟩)],.func (.func 184) #[] #[],.func (.func 185) #[] #[],.func (.func 186) #[] #[]] 290)) (C #[D O 0 0] 196)
abbrev vq (w:β) (c:Nat):ε:=.func (.func 240) #[] #[þ (J ⟨w.heap.size+1,0,O⟩),þ (J ⟨c,0,O⟩)]
abbrev Ar (w:β):ε:=.func (.func 241) #[] #[þ (J ⟨w.heap.size+1,0,O⟩),þ (J ⟨w.heap.size,0,O⟩)]
abbrev Mz (p e:Nat) (v:ε) (w:β):ε->ε->ε->ε->Array ε:=fun a b c d=>#[v,ā #[.func (.func 181) #[] #[þ (J ⟨p,0,O⟩),þ (J ⟨e,0,O⟩)],.func (.func 184) #[] #[],.func (.func 185) #[] #[],.func (.func 186) #[] #[]],undef,þ (J ⟨w.heap.size,0,O⟩),D O 0 0,þ (J ⟨w.heap.size+1,0,O⟩),.func (.func 239) #[] #[þ (J ⟨w.heap.size+1,0,O⟩)],undef,undef,undef,.func (.func 239) #[] #[þ (J ⟨w.heap.size+1,0,O⟩)],a,.func (.func 241) #[] #[þ (J ⟨w.heap.size+1,0,O⟩),þ (J ⟨w.heap.size,0,O⟩)],.func (.func 239) #[] #[þ (J ⟨w.heap.size+1,0,O⟩)],þ (J ⟨w.heap.size,1,O⟩),.func (.func 184) #[] #[],b,.func (.func 239) #[] #[þ (J ⟨w.heap.size+1,0,O⟩)],þ (J ⟨w.heap.size,2,O⟩),.func (.func 185) #[] #[],c,.func (.func 239) #[] #[þ (J ⟨w.heap.size+1,0,O⟩)],þ (J ⟨w.heap.size,3,O⟩),.func (.func 186) #[] #[],d,undef,undef,undef,undef,undef,undef,undef,undef,undef,undef,undef,undef,undef,undef,undef,undef,undef,undef]
structure Ez (p p2:Nat) (w W:β) (mb:Nat) (es:Array MapEntry) (ck c1 c2 c3:Nat):Prop where
 bel:Below (kP p p2 w).heap.size (kP p p2 w) W
 mbl:(kP p p2 w).heap.size<=mb
 map:W.heap[mb]?=J (.map es ck)
 is:jG es (hC true true true true (Ar w) (vq w c1) (vq w c2) (vq w c3))
 l1:(kP p p2 w).heap.size<=c1
 l2:(kP p p2 w).heap.size<=c2
 l3:(kP p p2 w).heap.size<=c3
 f1:W.heap[c1]?=J (C #[.func (.func 184) #[] #[]] 288 (0,0))
 f2:W.heap[c2]?=J (C #[.func (.func 185) #[] #[]] 288 (0,0))
 f3:W.heap[c3]?=J (C #[.func (.func 186) #[] #[]] 288 (0,0))
def MA (p p2) (v:ε) (l) (f:γ->List Int) (w:β) (h:Rd w v (L l) 2 (kz l)) (bF:L l<=100000) (ay:mW l=true) (bo:∀ s∈l,s.1≠1/\s.1≠3) (bm:∀ t,ge (f t)=true)
  (bk:∀ (t:γ) (d:β),iT t=true->BQ w d->Calls prog 181 #[š (δ t),þ (J ⟨p,0,O⟩),þ (J ⟨p2,0,O⟩)] d (iJ d 3 1 (L (f t)) (τ (f t)))) :
  Calls prog 183 #[v,ā #[.func (.func 181) #[] #[þ (J ⟨p,0,O⟩),þ (J ⟨p2,0,O⟩)],.func (.func 184) #[] #[],.func (.func 185) #[] #[],.func (.func 186) #[] #[]]] w (iJ w 3 1 (L (pQ f lW [] l)) (τ (pQ f lW [] l))):=by
 obtain⟨a3,c,rfl,M,bj⟩:=xq h;have⟨aR,aV,aZ,aX⟩:=hV bj bk bo bm;have a1:Hid (lX 0 0 l=true):=ay;unfold maxLen at M;have bG:= @run_makeMap prog;have ad:=φ w (C #[.func (.func 181) #[] #[þ (J ⟨p,0,O⟩),þ (J ⟨p2,0,O⟩)],.func (.func 184) #[] #[],.func (.func 185) #[] #[],.func (.func 186) #[] #[]] 290);have ae:Below (å w (C #[.func (.func 181) #[] #[þ (J ⟨p,0,O⟩),þ (J ⟨p2,0,O⟩)],.func (.func 184) #[] #[],.func (.func 185) #[] #[],.func (.func 186) #[] #[]] 290)).heap.size (å w (C #[.func (.func 181) #[] #[þ (J ⟨p,0,O⟩),þ (J ⟨p2,0,O⟩)],.func (.func 184) #[] #[],.func (.func 185) #[] #[],.func (.func 186) #[] #[]] 290)) (kP p p2 w):=ġ;have c0:(kP p p2 w).cell? ⟨w.heap.size,0,O⟩=J (.func (.func 181) #[] #[þ (J ⟨p,0,O⟩),þ (J ⟨p2,0,O⟩)]):=ζ ae (by rw[ξ _ _ _ _ _ _ ad];rfl);have c1:(kP p p2 w).cell? ⟨w.heap.size,1,O⟩=J (.func (.func 184) #[] #[]):=ζ ae (by rw[ξ _ _ _ _ _ _ ad];rfl);have c2:(kP p p2 w).cell? ⟨w.heap.size,2,O⟩=J (.func (.func 185) #[] #[]):=ζ ae (by rw[ξ _ _ _ _ _ _ ad];rfl);have a4:(kP p p2 w).cell? ⟨w.heap.size,3,O⟩=J (.func (.func 186) #[] #[]):=ζ ae (by rw[ξ _ _ _ _ _ _ ad];rfl);go_enter func183,ntmps183;go_wp2_with fail
 go_cut [7]from 8 (fun bA wc=>∃ (k:Nat) (z:Array MapEntry) (u d1 d2 b:Nat),bA=.map (J k)/\Ez p p2 w wc k z u d1 d2 b)
 case first =>
  refine ϯ (fun d=>Below (kP p p2 w).heap.size (kP p p2 w) d) 18 ϋ ?_;have A:Below (kP p p2 w).heap.size (kP p p2 w) (kP p p2 w).drew:=RZ.drew;refine gq (fuel:=19) 1 (.func (.func 241) #[] #[þ (J ⟨w.heap.size+1,0,O⟩),þ (J ⟨w.heap.size,0,O⟩)]) rfl ϋ ϋ ϋ ϋ (fun _ _ _ h=>h) ϒ ?_ A ?_
  .intro d
   go_simp
  refine gq  3 (.func (.func 239) #[] #[þ (J ⟨w.heap.size+1,0,O⟩)]) rfl ϋ ϋ ϋ ϋ (fun _ _ _ h=>h) ϒ ?_ A ?_
  .intro d
   go_simp
  refine gq  4 (þ (J ⟨w.heap.size,1,O⟩)) rfl ϋ ϋ ϋ ϋ (fun _ _ _ h=>h) ϒ ?_ A ?_
  .intro d
   go_simp
  refine mI  5 [18] (.func (.func 184) #[] #[]) rfl ϋ ϋ ϋ ϋ (fun _ _ _ h=>h) ϒ ?_ A ?_
  .intro d H
   have bL:=ζ H c1;go_simp
  refine gq  8 (.func (.func 239) #[] #[þ (J ⟨w.heap.size+1,0,O⟩)]) rfl ϋ ϋ ϋ ϋ (fun _ _ _ h=>h) ϒ ?_ A ?_
  .intro d
   go_simp
  refine gq  9 (þ (J ⟨w.heap.size,2,O⟩)) rfl ϋ ϋ ϋ ϋ (fun _ _ _ h=>h) ϒ ?_ A ?_
  .intro d
   go_simp
  refine mI  10 [18] (.func (.func 185) #[] #[]) rfl ϋ ϋ ϋ ϋ (fun _ _ _ h=>h) ϒ ?_ A ?_
  .intro d H
   have bM:=ζ H c2;go_simp
  refine gq  13 (.func (.func 239) #[] #[þ (J ⟨w.heap.size+1,0,O⟩)]) rfl ϋ ϋ ϋ ϋ (fun _ _ _ h=>h) ϒ ?_ A ?_
  .intro d
   go_simp
  refine gq  14 (þ (J ⟨w.heap.size,3,O⟩)) rfl ϋ ϋ ϋ ϋ (fun _ _ _ h=>h) ϒ ?_ A ?_
  .intro d
   go_simp
  refine mI  15 [18] (.func (.func 186) #[] #[]) rfl ϋ ϋ ϋ ϋ (fun _ _ _ h=>h) ϒ ?_ A ?_
  .intro d H
   have bN:=ζ H a4;go_simp
  refine HS (listed':=lj false 0 false false false false) ϋ ?_;refine LH (I:=ik (kP p p2 w) 288 (Ar w) (vq w) (.func (.func 184) #[] #[]) (.func (.func 185) #[] #[]) (.func (.func 186) #[] #[]) (Mz p p2 (D a3 (L l) c) w)) ?A ?ay ?bu ?a5 ?a6 ?a7 ?bv ?bw ?bx ?bz ?a9 8 false 0 false false false false _ _ U rfl ?start;case A=>exact fun i=>i.bel
  case ay=>decide+kernel
  case start =>
   refine ik.start A ?_;kernel_rfl
  case bu =>
   intro c b0 b1 b2 b3 a d i;obtain⟨S,aa,ai,rfl,o⟩:=i.made;refine lH rfl (fun K m=>?_);go_simp;exact m _ _ o
  case a5 =>
   intro aP b0 b1 b2 b3 a d i;obtain⟨aQ,rfl,o⟩:=i.call1;refine lH rfl (fun K m=>?_);go_simp;refine(Bi _ _ _).M ?_;rintro e ac ⟨rfl,rfl⟩;go_simp;exact m _ _ o
  case a6 =>
   intro aP b0 b1 b2 b3 a d i;obtain⟨aQ,S,rfl,o⟩:=i.call2;refine lH rfl (fun K m=>?_);go_simp;refine(Bi _ _ _).M ?_;rintro e ac ⟨rfl,rfl⟩;go_simp;exact m _ _ o
  case a7 =>
   intro aP b0 b1 b2 b3 a d i;obtain⟨aQ,S,aa,rfl,o⟩:=i.call3;refine lH rfl (fun K m=>?_);go_simp;refine(Bi _ _ _).M ?_;rintro e ac ⟨rfl,rfl⟩;go_simp;exact m _ _ o
  case bv =>
   intro c b1 b2 b3 a d i;obtain⟨k,z,u,S,aa,ai,g,rfl,Q,M,hg,o⟩:=i.put0;have ar:=fun v=>qU   uf nl Q M hg v;refine lH rfl (fun K m=>?_);go_simp;exact m _ _ o
  case bw =>
   intro c b0 b2 b3 a d X i;obtain⟨k,z,u,S,aa,ai,g,rfl,Q,M,hg,o⟩:=i.put1 X;have ar:=fun v=>qU   uf nl Q M hg v;refine lH rfl (fun K m=>?_);go_simp;exact m _ _ o
  case bx =>
   intro c b0 b1 b3 a d X i;obtain⟨k,z,u,S,aa,ai,g,rfl,Q,M,hg,o⟩:=i.put2 X;have ar:=fun v=>qU   uf nl Q M hg v;refine lH rfl (fun K m=>?_);go_simp;exact m _ _ o
  case bz =>
   intro c b0 b1 b2 a d X i;obtain⟨k,z,u,S,aa,ai,g,rfl,Q,M,hg,o⟩:=i.put3 X;have ar:=fun v=>qU   uf nl Q M hg v;refine lH rfl (fun K m=>?_);go_simp;exact m _ _ o
  case a9 =>
   intro a d i;have bf:=i.bel;obtain⟨k,z,u,d1,d2,b,rfl,ba,bb,bc,aG,aH,aI⟩:=i.done;refine lH rfl (fun K m=>?_);go_simp;refine m _ _ ?_;refine Ze 19 ?_;refine Zd ?_;have aY:Hid (Ez p p2 w d k z u d1 d2 b):=⟨bf,ba,bb,bc,aG.1,aH.1,aI.1,aG.2,aH.2,aI.2⟩;go_wp2;go_meet;case rel=>exact⟨k,z,u,d1,d2,b,rfl,aY.o⟩
 case rest =>
  obtain⟨k,z,u,d1,d2,b,rfl,af⟩:=hcut;have av:=φ (å w (C #[.func (.func 181) #[] #[þ (J ⟨p,0,O⟩),þ (J ⟨p2,0,O⟩)],.func (.func 184) #[] #[],.func (.func 185) #[] #[],.func (.func 186) #[] #[]] 290)) (C #[D O 0 0] 196);rw[show(å w (C #[.func (.func 181) #[] #[þ (J ⟨p,0,O⟩),þ (J ⟨p2,0,O⟩)],.func (.func 184) #[] #[],.func (.func 185) #[] #[],.func (.func 186) #[] #[]] 290)).heap.size=w.heap.size+1 from ύ]at av;have aN:w.heap.size+1<(kP p p2 w).heap.size:=ς av;have bs:=(af.bel.block _ aN).trans av;have bq:=jY.start bs;have bi:BQ w (kP p p2 w):=((ρ _ w).A NZ _).A ύ _;have bh:BQ w wc:=bi.trans (af.bel.M U);have bl:=ζ af.bel c0;have⟨F,aE,aB,aW,ao⟩:=kW af bq bh bl aN;go_wp2_with fail
  go_loopw [28] (fun az wr=>∃ (E n:Nat) (st:List (List Int)) (ah:ε) (q:Int),E<=L l/\az=G E/\n<=E/\Hid (jY wc wr (w.heap.size+1) ah n st)/\Hid (lX n q (l.drop E)=true)/\Hid (rV f lW [] l=rV f lW st (l.drop E))/\Hid (BQ w wr)) (fun az _=>L l - (intOf az).toNat)
  .exact⟨0,0,_,_,0,Ζ _,rfl,NZ,aE.o,a1.o,rfl,aB.o⟩
  obtain⟨E,n,st,ah,q,bE,rfl,bI,y,aC,aD,T⟩:=hrel;by_cases au:E<L l
  .obtain⟨b4,off,rfl,bd,be⟩:=aR.o E au
   have aq:=ζ T.o bd;have aF:=ζ T.o be;have aJ:=lL au;obtain⟨⟨Z,N⟩,bt⟩:∃ s,s=l[E]:=⟨_,rfl⟩;have aw:=aZ.o _ (Ψ au);rw[<-bt]at aJ aq aF aw;simp only at aq aF aw;have a0:=Zh aw;have j:=aC.o;have r:=aD.o;rw[aJ]at j r;have bK:(E:Int)<(L l:Int):=U;have bJ:(0:Int)<=(E:Int):=U;simp only[lX,rV]at j r;by_cases aK:Z=0
   .subst aK
    rw[μ rfl]at j r;have aM:iT N=true:=by
     cases h:iT N with
     |true=>rfl
     |false=>rw[κ (by simp[h])]at j;exact j
    rw[μ aM]at j;have⟨aj,am⟩:=π j r;have ak:Hid (∀ d:β,d.heap[k]?=J (.map z u)->(Instr.lookup 344 (.map (J k)) (G 0) false).run prog d=.ok (Ar w) d):=fun d H=>Fu uf nl H F.o.is (by simp[hC]);have V:BQ wr (å wr (C #[G 0,š (δ N)] 265)):=ġ;have⟨P,ab⟩:=π (y.o.B V) (T.o.t V);have al:Hid ((å wr (C #[G 0,š (δ N)] 265)).heap[k]?=J (.map z u)):=by show _=_;rw[P.o.keep k (ς F.o.map) (gw F.o.mbl ao.o)];exact F.o.map
    have aT:=Zh (Nj wc _ _ _ p p2 ah n st N _ P.o U (aX.o N) (by rw[P.o.cell_keep w.heap.size 0 (ι aE.o.lt) U];exact aW.o) (fun ac bg=>aV.o N ac aM (ab.o.t bg)));go_wp2_with (first
     |(at_lookup;refine GD rfl _ _ _ rfl _ _ (by rfl) (by rfl) _ (ak.o _ al.o) ?_)
     |(go_at_call 241;refine aT.o.M ?_;rintro e bC ⟨rfl,aA,Y,W⟩;have an:=Zh Y;have ap:=Zh (ab.o.trans (W.M U));clear Y W))
    go_roundw
    .exact⟨ _,_,_,aA,_,U,ϕ,U,an.o,by have:=aj.o;rw[show((n+1:Nat):Int)=(n:Int)+1 from U];exact this,am.o,ap.o⟩
    exact ω
   .rw[κ aK]at j r
    by_cases aL:Z=1\/Z=2\/Z=3
    .rw[μ aL]at j
     by_cases ag:N≠[]\/(n:Int)<2
     .rw[μ ag]at j;simp at j
     .rw[κ ag]at j
      have br:=GU fun e=>ag (.inl e);have bH:¬(n:Int)<2:=fun e=>ag (.inr e);subst br;have B:=y.o.len
      match st,B,y,r with
      |[],B,_,_=>simp at B;omega
      |[_],B,_,_=>simp at B;omega
      |b5::x::s,B,y,r =>
       have⟨aj,am⟩:=π j r;obtain rfl:Z=2:=ι a0.o;have ak:Hid (∀ d:β,d.heap[k]?=J (.map z u)->(Instr.lookup 344 (.map (J k)) (G 2) false).run prog d=.ok (vq w d2) d):=fun d H=>Fu uf nl H F.o.is (by simp[hC]);have V:BQ wr (å wr (C #[G 2,š (δ [])] 265)):=ġ;have⟨P,ab⟩:=π (y.o.B V) (T.o.t V);have al:Hid ((å wr (C #[G 2,š (δ [])] 265)).heap[k]?=J (.map z u)):=by show _=_;rw[P.o.keep k (ς F.o.map) (gw F.o.mbl ao.o)];exact F.o.map
       have aS:=Zh (IW wc _ _ d2 ah n x b5 s P.o U (by rw[P.o.cell_keep d2 0 (ς F.o.f2) (gw F.o.l2 ao.o),ξ _ _ _ _ _ _ F.o.f2];rfl));go_wp2_with (first
        |(at_lookup;refine GD rfl _ _ _ rfl _ _ (by rfl) (by rfl) _ (ak.o _ al.o) ?_)
        |(go_at_call 240;refine aS.o.M ?_;rintro e bC ⟨rfl,aA,Y,W⟩;have an:=Zh Y;have ap:=Zh (ab.o.trans (W.M U));clear Y W))
       go_roundw
       .exact⟨ _,_,_,aA,q,U,ϕ,U,an.o,by have:=aj.o;rw[show((n - 2+1:Nat):Int)=(n:Int) - 1 from U];exact this,am.o,ap.o⟩
       exact ω
    .rw[κ aL]at j;simp at j
  .have bn:E=L l:=U
   subst bn;have j:=aC.o;have r:=aD.o;rw[List.drop_length]at j r;simp only[lX,rV,gt,hP]at j r;have bp:n=1:=U;subst bp;have B:=y.o.len
   match st,B,y,r with
   |[],B,_,_=>simp at B
   |_::_::_,B,_,_=>simp at B
   |[x],B,y,r =>
    have aU:Hid (pQ f lW [] l=x):=by show _=_;unfold pQ;rw[r];rfl
    obtain⟨g,a8,rfl⟩:=kO y.o.own U;have bD:wr.cell? ⟨w.heap.size+1,0,O⟩=J (D (J ⟨g,0,O⟩) 1 a8):=by rw[ξ _ _ _ _ _ _ y.o.var];rfl
    obtain⟨bB,ax,R⟩:=y.o.ex
    match bB,R,ax with
    |[],R,_=>exact R.elim
    |_::_::_,R,_=>exact R.2.elim
    |[xv],R,ax =>
     have aq:wr.cell? ⟨g,0,O⟩=J xv:=by
      have:=ax.cellAt 0 U;exact this
     have aO:=R.1.1;obtain⟨bO,bP,rfl⟩:=Η aO;have a2:=Zh aO;go_wp2;go_ret;exact⟨_,rfl,by rw[aU.o];exact gX a2.o aB.o.size,T.o⟩
def ko (t:γ):List (γ)->List (List Int)->List Int
 |x::xs,d::ds=>if x=t then d else ko t xs ds
 |_,_=>[]
theorem BZ {t}:∀ {a:List (γ)} {ds:List (List Int)},t∉a->ko t a ds=[]
 |[],_,_=>by simp[ko]
 |x::a,[],_=>by simp[ko]
 |x::a,d::ds,h=>by
  simp only[hH,not_or]at h;simp only[ko];rw[κ (fun e=>h.1 e.symm),BZ h.2]
theorem BY {t}:∀ {e:List (γ)} {ds:List (List Int)} (i:Nat) (f:i<L e) (a:i<L ds),mJ ltStr e->e[i]=t->ko t e ds=ds[i]
 |[],_,i,f,_,_,_=>by simp at f
 |_::_,[],i,_,a,_,_=>by simp at a
 |x::e,d::ds,i,f,a,hr,h=>by
  have b:=oT.1 hr;simp only[ko];cases i with
  |zero=>rw[μ (by simpa using h)];rfl
  |succ i =>
   simp only[rn]at h ⊢;have c:=b.1 t (by rw[<-h];exact Ψ _);rw[κ (by rintro rfl;simp[swo_ltStr.irrefl]at c)];exact BY i (by simpa using f) (by simpa using a) b.2 h
theorem Ca {t}:∀ {e:List (γ)} {c:List (List Int)},(∀ d∈c,ge d=true)->ge (ko t e c)=true
 |[],_,_=>by simp[ko,ge,nD]
 |_::_,[],_=>by simp[ko,ge,nD]
 |x::e,d::c,h=>by
  simp only[ko];split
  .exact h d ύ
  .exact Ca (fun a b=>h a (by simp[b]))
def xL (l:List nt) (a:List (List Int)):List Int:=pQ (fun b=>ko b (fW (iU l)) a) lW [] l
def rB (w:β) (v:ε) (a:List (List Int)):Prop:= ∃ d:List ε,Rd w v (L a) 1 d/\∀ b (hi:b<L a),∃ c,d[b]?=J c/\Rd w c (L a[b]) 1 (τ a[b])
def rB.B {w w' v found} (h:rB w v found) (a:BQ w w'):rB w' v found:=by
 obtain⟨i,e,f⟩:=h;refine⟨i,e.B a,fun g hi=>?_⟩;obtain⟨b,c,d⟩:=f g hi;exact⟨b,c,d.B a⟩
def DJ {w v found} (h:rB w v found):∃ a c,v=D a (L found) c/\L found<=9223372036854775807 /\
  Hid (∀ i (r:i<L found),∃ b off da dc,a=J ⟨b,off,O⟩/\w.cell? ⟨b,off+i,O⟩=J (D da (L found[i]) dc)/\Rd w (D da (L found[i]) dc) (L found[i]) 1 (τ found[i])):=by
 obtain⟨q,⟨o,l,k⟩,g⟩:=h;unfold maxLen at l;rcases k with ⟨a,c,rfl,e⟩|⟨b,off,c,rfl,e,p,n,j⟩
 .exact⟨a,c,by rw[e],U,fun i r=>U⟩
 .refine⟨_,c,rfl,U,fun i r=>?_⟩
  obtain⟨m,f,d⟩:=g i r;obtain⟨da,dc,rfl,-⟩:=ku rfl d;exact⟨b,off,da,dc,rfl,j _ _ f,d⟩
def Cd {B} {w:β} (n):Below B w (w.drewN n):=⟨rfl,rfl,rfl,NZ,fun _ _=>rfl⟩
def Ij {Θ:List (γ)} {t} (h:t∉Θ) (I) (a:Nat->ByteArray) (d:∀ j (e:j<L Θ),a j=δ Θ[j]):decide (I<L Θ/\a I=δ t)=false:=by
 rw[rt];rintro⟨c,b⟩;rw[d I c]at b;have:=jp ByteArray.toList b;rw[hN,hN]at this;exact h (this ▸ Ψ _)
def Ik {Θ:List (γ)} {t} (g:mJ ltStr Θ) (i) (m:i<L Θ) (h:Θ[i]=t) (a:Nat->ByteArray) (b:∀ j (c:j<L Θ),a j=δ Θ[j]) (l:∀ j,L Θ<=j->a j=δ t) :
  Lib.bsGo (fun j=>Op.bytesLess (a j).toList (δ t).toList) (L Θ) 0 (L Θ)=i/\a i=δ t:=by
 refine⟨Lib.bsGo_spec _ i (fun j c=>?_) (fun j c=>?_) _ _ _ U U U,by rw[b i m,h]⟩
 .rw[b j U,nX,<-h]
  exact rp.1 g j i U m c
 .by_cases f:j<L Θ
  .rw[b j f,nX]
   by_cases e:j=i
   .subst e;rw[h];exact swo_ltStr.irrefl t
   .have d:=rp.1 g i j m f U
    rw[h]at d;cases k:ltStr Θ[j] t with
    |false=>rfl
    |true=>have:=swo_ltStr.trans _ _ _ d k;rw[swo_ltStr.irrefl]at this;cases this
  .rw[l j U,nX];exact swo_ltStr.irrefl t
def Pb (p p2:Nat) (aa S:ε) (Θ:List (γ)) (c:List (List Int)) (t:γ) (g:β) (w:mJ ltStr Θ) (X:L c=L Θ) (al:L Θ<=100000) (H:∀ a0∈c,L a0<=100000)
  (M:Rd g aa (L Θ) 1 (χ Θ)) (I:rB g S c) (c1:g.cell? ⟨p,0,O⟩=J aa) (c2:g.cell? ⟨p2,0,O⟩=J S) :
  Calls prog 181 #[š (δ t),þ (J ⟨p,0,O⟩),þ (J ⟨p2,0,O⟩)] g (iJ g 3 1 (L (ko t Θ c)) (τ (ko t Θ c))):=by
 obtain⟨Z,x,rfl,-,l⟩:=AX M;obtain⟨ah,ai,rfl,-,A⟩:=DJ I;by_cases s:t∈Θ
 .obtain⟨f,hi,K⟩:=wh.1 s
  have o:=BY (ds:=c) f hi U w K;obtain⟨b,off,rfl,-⟩:=l.o f hi;obtain⟨b2,ao,da,dc,rfl,F,W⟩:=A.o f U;have n:∀ a (i:a<L Θ),(fun a=>if h:a<L Θ then δ Θ[a]else δ t) a=δ Θ[a]:=fun a i=>by simp[i]
  obtain⟨T,d⟩:=Ik w f hi K (fun a=>if h:a<L Θ then δ Θ[a]else δ t) n (fun a i=>by simp[Nat.not_lt.2 i]);have j:=Tryz.slices_BinarySearch_string b off (L Θ) x (fun a=>if h:a<L Θ then δ Θ[a]else δ t) (δ t) g U (fun a i=>by
   obtain⟨ad,ag,r,E⟩:=l.o a i
   simp only[Φ,Addr.mk.injEq,it]at r
   obtain⟨rfl,rfl⟩:=r
   rw[E,dif_pos i];rfl)
  rw[T,kU (show f<L Θ/\_ from⟨hi,d⟩)]at j;have z:=Zh j;have V:Hid (∀ k,BQ g k->Calls prog 59 #[D da (L c[f]) dc] k (iJ k 3 1 (L c[f]) (τ c[f]))):=fun k v=>uM _ (L c[f]) (τ c[f]) k (W.B v) (sW _) (ι (H _ (Ψ (U:f<L c))));have y:Hid (ko t Θ c=c[f]):=o;generalize c[f]=R at *;obtain⟨B,Q⟩:∃ B,B=L R:=⟨_,rfl⟩;rw[<-Q]at V F;have ac:Hid (L R=B):=Q.symm;have an:(f:Int)<(L c:Int):=U;have am:(0:Int)<=(f:Int):=U;have ab:=Zh (fun k (v:BQ g k)=>Ν (ζ v c2) (ζ v F));clear Q s K o n T d j W w X H M I l A F hi;go_enter func181,ntmps181;go_wp2_with (first
   |(go_at_call 182;refine z.o.M ?_;rintro e P ⟨rfl,q,Y⟩;have m:BQ g P:=(by rw[Y];exact Cd q);obtain⟨aj,ak⟩:=ab.o P m;clear Y)
   |(go_at_call 59;refine(V.o _ m).M ?_;rintro e aq ⟨ap,rfl,af,ae⟩))
  go_ret;rw[y.o,ac.o];exact⟨_,rfl,gX af m.size,m.t ae⟩
 .have o:=BZ (ds:=c) s
  have j:∃ a1:Nat,Calls prog 182 #[D Z (L Θ) x,š (δ t)] g fun e N=>e=ŗ (.tuple #[G a1,.bool false])/\BQ g N:=by
   rcases nK (L Θ) with h0|h0
   .refine⟨0,?_⟩
    rw[h0];refine(Tryz.slices_BinarySearch_string_empty Z x (δ t) g).M ?_;rintro e N ⟨rfl,rfl⟩;exact⟨rfl,ρ _ _⟩
   .obtain⟨b,off,rfl,-⟩:=l.o 0 h0
    obtain⟨u,n⟩:∃ u:Nat->ByteArray,∀ a (i:a<L Θ),u a=δ Θ[a]:=⟨fun a=>if h:a<L Θ then δ Θ[a]else δ t,fun a i=>by simp[i]⟩;have j:=Tryz.slices_BinarySearch_string b off (L Θ) x u (δ t) g U (fun a i=>by
     obtain⟨ad,ag,r,E⟩:=l.o a i
     simp only[Φ,Addr.mk.injEq,it]at r
     obtain⟨rfl,rfl⟩:=r
     rw[E,n a i];rfl)
    refine⟨Lib.bsGo (fun q=>Op.bytesLess (u q).toList (δ t).toList) (L Θ) 0 (L Θ),j.M ?_⟩;rintro e N ⟨rfl,q,rfl⟩;exact⟨by rw[Ij s _ _ n],Cd q⟩
  obtain⟨a1,j⟩:=j;have⟨z,y⟩:=π j o;clear s o j w X H M I l A;go_enter func181,ntmps181;go_wp2_with (go_at_call 182;refine z.o.M ?_;rintro e P ⟨rfl,m⟩)
  go_ret;rw[y.o];exact⟨_,rfl,gQ _ _ _ _,m⟩
def Pf (p k:ε) (l:List nt) (a:List (List Int)) (w:β) (ah:ϭ w) (H:rB w k a) (h:Rd w p (L l) 2 (kz l)) (I:L l<=100000) (ai:∀ s∈l,L s.2<=100000) (ac:∀ s∈l,-9223372036854775808<=s.1/\s.1<=9223372036854775807) (Q:mW l=true) (ab:∀ s∈l,s.1≠1/\s.1≠3)
  (K:L a=L (fW (iU l))) (aa:a.all ge=true) :
  Calls prog 106 #[p,k] w (Hc w (xL l a)):=by
 have y:BQ w (å w (C #[k] 196)):=ġ;have af:=φ w (C #[k] 196);have c0:(å w (C #[k] 196)).cell? ⟨w.heap.size,0,O⟩=J k:=by rw[ξ _ _ _ _ _ _ af];rfl
 have F:=Ay p l (å w (C #[k] 196)) (ah.B y) (h.B y) I ai ac;rw[Q]at F;have au:=Zh F;have av:=Zh (fun i (v:BQ w i)=>Az p l i (h.B v) I);have aJ:=qY (iU l);have aK:=Bj l;have ag:=tC (iU l);have z:∀ d∈a,ge d=true:=kT.1 aa;have aR:∀ (V:Fn) (first b:Array ε) (w:β),(Instr.makeFunc V first b).run prog w=.ok (.func V first b) w:=fun _ _ _ _=>rfl;have aw:Hid (xL l a=pQ (fun g=>ko g (fW (iU l)) a) lW [] l):=rfl;generalize fW (iU l)=f at *;have aq:Hid (∀ (n:Nat) (u:ε) (i:β),BQ w i->Rd i u (L f) 1 (χ f)->i.cell? ⟨n,0,O⟩=J u->i.cell? ⟨w.heap.size,0,O⟩=J k ->
   Calls prog 183 #[p,ā #[.func (.func 181) #[] #[þ (J ⟨n,0,O⟩),þ (J ⟨w.heap.size,0,O⟩)],.func (.func 184) #[] #[],.func (.func 185) #[] #[],.func (.func 186) #[] #[]]] i (iJ i 3 1 (L (pQ (fun g=>ko g f a) lW [] l)) (τ (pQ (fun g=>ko g f a) lW [] l)))):=
  fun n u i v aI aD aE=>MA n w.heap.size p l (fun g=>ko g f a) i (h.B v) I Q ab (fun g=>Ca z)
   (fun g ay _ x=>Pb n w.heap.size u k f a g ay ag K U (fun d aF=>ι (sh (z d aF))) (aI.B x) ((H.B v).B x) (ζ x aD) (ζ x aE))
 obtain⟨aU,aV,rfl,-⟩:=xq h;obtain⟨aN,aO,rfl,aQ,al⟩:=DJ H;have ak:=Zh y;have aS:((L a:Int) !=(L f:Int))=false:=by rw[K];simp
 have am:=Zh z;generalize pQ (fun g=>ko g f a) lW [] l=a1 at *;clear F ab ah h ai ac Q H y af aK K aJ ag aa z;go_enter func106,ntmps106;go_wp2_with (first
  |(go_at_call 95;refine au.o.M ?_;rintro e aX ⟨rfl,W⟩;have S:=ak.o.t W;have c1:=ζ W c0)
  |(go_at_call 96;refine(av.o _ S).M ?_;rintro e o ⟨u,rfl,M,X⟩;obtain⟨q,t,rfl⟩:=Η M;have aj:=S.t X;have r:BQ o (å o (C #[D q (L f) t] 143)):=ġ;have aA:=ζ (X.t r) c1;have ao:=Zh M;clear M))
 have ae:=φ o (C #[D q (L f) t] 143);have aB:(å o (C #[D q (L f) t] 143)).cell? ⟨o.heap.size,0,O⟩=J (D q (L f) t):=by rw[ξ _ _ _ _ _ _ ae];rfl
 have B:=aj.t r;have an:=Zh (ψ ao.o r);generalize(å o (C #[D q (L f) t] 143))=az at *;generalize o.heap.size=n at *;clear ae;go_loopw [22] (fun R wr=>∃ c:Nat,c<=L a/\R=G c/\Hid (∀ j (A:j<L a),j<c->ge a[j]=true)/\BQ az wr) (fun R _=>L a - (intOf R).toNat)
 .exact⟨0,Ζ _,rfl,fun j A h=>U,ρ _ _⟩
 obtain⟨c,aG,rfl,T,m⟩:=hrel;by_cases ad:c<L a
 .obtain⟨a0,off,da,dc,rfl,Y,Z⟩:=al.o c ad
  have aP:=ζ (B.t m) Y;have aL:(c:Int)<(L a:Int):=U;have aT:(0:Int)<=(c:Int):=U;have P:=tr (D da (L a[c]) dc) (L a[c]) a[c] wr rfl (Z.B (B.t m));generalize (L a[c])=aM at *;have N:ge a[c]=true:=am.o _ (Ψ _);rw[N]at P;have ar:=Zh P;have ax:Hid (∀ j (A:j<L a),j<c+1->ge a[j]=true):=fun j A h=>by
   by_cases e:j=c
   .subst e;exact N
   .exact T.o j A U
  clear P N Z Y;go_wp2_with (go_at_call 180;refine ar.o.M ?_;rintro e aY ⟨rfl,rfl⟩)
  go_roundw
  .exact⟨c+1,U,ϕ,ax.o,m⟩
  exact ω
 .have aL:¬(c:Int)<(L a:Int):=U
  have E:=B.t m;have ap:=Zh (aq.o n _ wr E ((Rd.of_own an.o).B m) (ζ m aB) (ζ m aA));clear aG T ad;go_wp2_with (go_at_call 183;refine ap.o.M ?_;rintro e aZ ⟨aW,rfl,aH,aC⟩)
  go_ret2;exact⟨_,rfl,by rw[aw.o];exact gX aH E.size,E.t aC⟩
