/- Part 4 of the proof. -/
import Derived.Test.YtpilfbcffofheaaGreatDoorm02
set_option linter.unusedVariables false
set_option linter.unusedSimpArgs false
set_option maxRecDepth 100000
set_option maxHeartbeats 2000000
namespace Go.Proofs.YtpilfbcffofheaaGreatDoor
open Go.RowKit Go.Proofs.Tryz
open List renaming length->L
open Option renaming some->J,none->O
open Value renaming slice->D,int->ĭ,agg->ā
open Obj renaming cells->C
open Ending renaming returned->ŗ
open World renaming alloc->å
def mB (p:Int):List Int->Bool
 |[]=>true
 |n::r=>if n<=p\/1000<=n then false else mB n r
def fT (l:List Int):Bool:=mB (-1) l
theorem Do (p n:Int) (r:List Int):mB p (n::r)=(decide (p<n) && decide (n<1000) && mB n r):=by
 simp only[mB];by_cases a:n<=p
 .rw[μ (.inl a),iC ϊ];rfl
 .by_cases b:1000<=n
  .rw[μ (.inr b),iC (ϊ:¬n<1000)];simp
  .rw[κ ϊ,kr (ϊ:p<n),kr (ϊ:n<1000)];rfl
theorem KW (l:List Int):∀ p,mB p l=true↔(l.Pairwise (· < ·)/\∀ x∈l,p<x/\x<1000):=by
 induction l with
 |nil=>intro p;simp[mB]
 |cons n r f =>
  intro p;rw[Do];simp only[gs,ia,f,nK,gP];constructor
  .rintro⟨⟨b,c⟩,a,d⟩
   refine⟨⟨fun x hx=>(d x hx).1,a⟩,?_⟩;rintro x (rfl|hx)
   .exact⟨b,c⟩
   .have:=d x hx;omega
  .rintro⟨⟨b,c⟩,a⟩
   have e:=a n (.inl rfl);exact⟨⟨e.1,e.2⟩,c,fun x hx=>⟨b x hx,(a x (.inr hx)).2⟩⟩
theorem tP (l:List Int):fT l=true↔(l.Pairwise (· < ·)/\∀ x∈l,0<=x/\x<1000):=by
 unfold fT;rw[KW];constructor
 .rintro⟨a,b⟩;exact⟨a,fun x c=>by have:=b x c;omega⟩
 .rintro⟨a,b⟩;exact⟨a,fun x c=>by have:=b x c;omega⟩
def hY (keep:Int->Bool->Bool->Bool):Nat->List Int->List Int->List Int
 |0,_,_=>[]
 |_+1,[],[]=>[]
 |f+1,x::a,[]=>(if keep x true false then[x]else[])++hY keep f a []
 |f+1,[],y::b=>(if keep y false true then[y]else[])++hY keep f [] b
 |f+1,x::a,y::b =>
  if x<y then(if keep x true false then[x]else[])++hY keep f a (y::b)
  else if y<x then(if keep y false true then[y]else[])++hY keep f (x::a) b
  else(if keep y true true then[y]else[])++hY keep f a b
theorem tM (keep:Int->Bool->Bool->Bool):∀ (f g:Nat) (a b:List Int),L a+L b<=f->L a+L b<=g->hY keep f a b=hY keep g a b:=by
 intro f;induction f with
 |zero =>
  intro g a b d e;have h:a=[]:=lM.1 ϊ;have i:b=[]:=lM.1 ϊ;subst h;subst i;cases g<;>rfl
 |succ f c =>
  intro g a b d e;cases g with
  |zero =>
   have h:a=[]:=lM.1 ϊ;have i:b=[]:=lM.1 ϊ;subst h;subst i;rfl
  |succ g =>
   cases a with
   |nil =>
    cases b with
    |nil=>rfl
    |cons y b =>
     simp only[hY];rw[c g [] b (by simp at d ⊢;omega) (by simp at e ⊢;omega)]
   |cons x a =>
    cases b with
    |nil =>
     simp only[hY];rw[c g a [] (by simp at d ⊢;omega) (by simp at e ⊢;omega)]
    |cons y b =>
     simp only[hY,Ϧ]at d e ⊢;rw[c g a (y::b) ό ό,c g (x::a) b ό ό,c g a b ϊ ϊ]
def iH (keep:Int->Bool->Bool->Bool) (a b:List Int):List Int:=hY keep (L a+L b) a b
theorem KN (keep:Int->Bool->Bool->Bool):iH keep [] []=[]:=rfl
theorem KI (keep:Int->Bool->Bool->Bool) (x:Int) (a:List Int):iH keep (x::a) []=(if keep x true false then[x]else[])++iH keep a []:=by
 unfold iH;rw[show(L (x::a))+L ([]:List Int)=L a+1 from ύ];simp only[hY];rw[tM keep (L a) (L a+L ([]:List Int)) a [] ύ ύ]
theorem KJ (keep:Int->Bool->Bool->Bool) (y:Int) (b:List Int):iH keep [] (y::b)=(if keep y false true then[y]else[])++iH keep [] b:=by
 unfold iH;rw[show(L ([]:List Int))+L (y::b)=L b+1 from ύ];simp only[hY];rw[tM keep (L b) (L ([]:List Int)+L b) [] b ύ ύ]
theorem KM (keep:Int->Bool->Bool->Bool) {x y:Int} (a b:List Int) (h:x<y):iH keep (x::a) (y::b)=(if keep x true false then[x]else[])++iH keep a (y::b):=by
 unfold iH;rw[show(L (x::a))+L (y::b)=(L a+L b+1)+1 from ό];simp only[hY];rw[μ h,tM keep (L a+L b+1) (L a+L (y::b)) a (y::b) ό ύ]
theorem KL (keep:Int->Bool->Bool->Bool) {x y:Int} (a b:List Int) (h:y<x):iH keep (x::a) (y::b)=(if keep y false true then[y]else[])++iH keep (x::a) b:=by
 unfold iH;rw[show(L (x::a))+L (y::b)=(L a+L b+1)+1 from ό];simp only[hY];rw[κ ϊ,μ h,tM keep (L a+L b+1) (L (x::a)+L b) (x::a) b ό ύ]
theorem KK (keep:Int->Bool->Bool->Bool) (x:Int) (a b:List Int):iH keep (x::a) (x::b)=(if keep x true true then[x]else[])++iH keep a b:=by
 unfold iH;rw[show(L (x::a))+L (x::b)=(L a+L b+1)+1 from ό];simp only[hY];rw[κ ϊ,κ ϊ,tM keep (L a+L b+1) (L a+L b) a b ϊ ϊ]
theorem KG (keep:Int->Bool->Bool->Bool) (a:List Int):∀ f,L a<=f->hY keep f a []=a.filter fun x=>keep x true false:=by
 induction a with
 |nil=>intro f _;cases f<;>rfl
 |cons x a c =>
  intro f b;cases f with
  |zero=>simp at b
  |succ f =>
   simp only[hY];rw[c f (by simpa using b),List.filter_cons];split<;>simp
def iG (f t:Int) (n:Int):Bool:=decide (f<=n) && decide (n<t)
theorem KP (f t:Int) (l:List Int):iH (fun n _ _=>iG f t n) l []=l.filter (iG f t):=KG _ _ _ ύ
section
variable {P:Program} {ops:Array Oper} {Q:Exit->Act->β->Prop} {md:Region.Mode} {S:β->Prop}
def ϫ (P:Program) (md:Region.Mode) (ops:Array Oper) (Q:Exit->Act->β->Prop) (S:β->Prop) (c:Nat):Nat->Array Bool->Act->β->Prop
 |0,listed,a,w=>Region.ready md ops listed=[]/\Q .normal a w
 |fuel+1,listed,a,w =>
  (Region.ready md ops listed=[]->Q .normal a w) /\
  ∀ b∈Region.ready md ops listed,wpOp P ops Q b (fun e d=>((listed.setIfInBounds b true).getD c true=false->S d)/\ϫ P md ops Q S c fuel (listed.setIfInBounds b true) e d) a w
theorem Aw {f:Nat}:∀ (fuel:Nat) (b:Array Bool) (a:Act) (w:β),ϫ P md ops Q S f fuel b a w->wpAny P md ops Q fuel b a w
 |0,_,_,_,h=>h
 |fuel+1,_,_,_,h=>⟨h.1,fun e hi=>mE (fun c g d=>Aw fuel _ c g d.2) (h.2 e hi)⟩
def oT (md:Region.Mode) (ops:Array Oper) (a i:Nat):Bool:=match ops[a]? with|some o=>o.after.any fun e=>Region.binds md e && e.on==i|none=>false
theorem yO {e i:Nat} {d:Array Bool} (b:oT md ops e i=true) (hi:d.getD i true=false):e∉Region.ready md ops d:=by
 intro h;obtain⟨-,o,g,f⟩:=mem_ready.1 h;unfold oT at b;rw[g]at b;simp only[Array.any_eq_true]at b;obtain⟨j,k,c⟩:=b;simp only[gs,mH]at c;have a:=f o.after[j] (Array.getElem_mem _) c.1;rw[c.2]at a;rcases ot i d.size with h'|h'
 .simp[h']at hi a;rw[hi]at a;cases a
 .simp[wR h']at a
theorem oK {a:Array Bool} {i l:Nat} (h:i≠l):(a.setIfInBounds i true).getD l true=a.getD l true:=getD_set_ne true h
theorem FT {k i:Nat} {oi:Oper} {v:ε} (hi:ops[i]?=J oi) (Z:i≠k) (ae:oT md ops k i=true) (K:∀ (j:Nat) (o:Oper) p b,ops[j]?=J o->o.op≠.select p b)
  (T:∀ c a w,Q (.panic c) (a.put oi.dst v) w->Q (.panic c) a w) :
  ∀ (fuel:Nat) (d:Array Bool) (a:Act) (w:β),
   (∀ j l,ops[j]?=J l->j≠i->d.getD j true=false->(∀ e∈l.after,Region.binds md e=true->e.on≠i)->oi.apart ops l=true) ->
   i∈Region.ready md ops d->YieldsIf P ops S oi v a->d.getD k true=false->S w ->
   ϫ P md ops Q S k fuel (d.setIfInBounds i true) (a.put oi.dst v) w->ϫ P md ops Q S k (fuel+1) d a w:=by
 intro fuel;induction fuel with
 |zero =>
  intro d a w _ g u x r n;refine⟨fun h=>(by rw[h]at g;cases g),fun j s=>?_⟩;by_cases f:j=i
  .subst f;exact u.wpOp hi r ⟨fun _=>r,n⟩
  .have I:=pg s f
   rw[n.1]at I;cases I
 |succ fuel af =>
  intro d a w B g u x r n;refine⟨fun h=>(by rw[h]at g;cases g),fun j s=>?_⟩;by_cases f:j=i
  .subst f;exact u.wpOp hi r ⟨fun _=>r,n⟩
  .have z:=(mem_ready.1 g).1
   have F:j≠k:=fun e=>yO ae z (e ▸ s);have R:=n.2 j (pg s f);obtain⟨G,l,y,U⟩:=mem_ready.1 s;have ad:∀ e∈l.after,Region.binds md e=true->e.on≠i:=fun e W V X=>by
    have q:=U e W V;rw[X]at q;rcases ot i d.size with h'|h'
    .simp[h']at z q;rw[z]at q;cases q
    .simp[wR h']at q
   have N:=wpOp_putIf y (B j l y f G ad) (fun p b=>K i oi p b hi) (fun p b=>K j l p b y) T u R;have Y:∀ m ok,ops[m]?=J ok->m≠i->(d.setIfInBounds j true).getD m true=false ->
     (∀ e∈ok.after,Region.binds md e=true->e.on≠i)->oi.apart ops ok=true:=fun m ok aa ab H ac=>by
    refine B m ok aa ab ?_ ac;by_cases E:j=m
    .subst E;exact G
    .rw[getD_set_ne true E]at H;exact H
   have A:((d.setIfInBounds i true).setIfInBounds j true).getD k true=false:=by rw[oK F,oK Z];exact x
   refine mE (fun M ag t=>⟨fun _=>t.2.1 A,af (d.setIfInBounds j true) M ag Y (pg g (Ne.symm f)) t.1 (by rw[oK F];exact x) (t.2.1 A) ?_⟩) N;rw[wS _ _ f];exact t.2.2
theorem Av {m i:Nat} {oi:Oper} {v:ε} (hi:ops[i]?=J oi) (x:i≠m) (H:∀ (j:Nat) (o:Oper) p b,ops[j]?=J o->o.op≠.select p b)
  (R:∀ c a w,Q (.panic c) (a.put oi.dst v) w->Q (.panic c) a w) :
  ∀ (fuel:Nat) (d:Array Bool) (a:Act) (w:β),
   (∀ j k,ops[j]?=J k->j≠i->d.getD j true=false->(∀ e∈k.after,Region.binds md e=true->e.on≠i)->oi.apart ops k=true) ->
   i∈Region.ready md ops d->YieldsIf P ops (fun _=>True) oi v a->(d.getD m true=false->S w) ->
   ϫ P md ops Q S m fuel (d.setIfInBounds i true) (a.put oi.dst v) w->ϫ P md ops Q S m (fuel+1) d a w:=by
 intro fuel;induction fuel with
 |zero =>
  intro d a w _ g t u n;refine⟨fun h=>(by rw[h]at g;cases g),fun j s=>?_⟩;by_cases f:j=i
  .subst f;exact t.wpOp hi trivial ⟨fun h=>u (by rw[oK x]at h;exact h),n⟩
  .have G:=pg s f
   rw[n.1]at G;cases G
 |succ fuel ac =>
  intro d a w A g t u n;refine⟨fun h=>(by rw[h]at g;cases g),fun j s=>?_⟩;by_cases f:j=i
  .subst f;exact t.wpOp hi trivial ⟨fun h=>u (by rw[oK x]at h;exact h),n⟩
  .have I:=(mem_ready.1 g).1
   have N:=n.2 j (pg s f);obtain⟨E,k,y,T⟩:=mem_ready.1 s;have ab:∀ e∈k.after,Region.binds md e=true->e.on≠i:=fun e V U W=>by
    have q:=T e V U;rw[W]at q;rcases ot i d.size with h'|h'
    .simp[h']at I q;rw[I]at q;cases q
    .simp[wR h']at q
   have M:=wpOp_putIf y (A j k y f E ab) (fun p b=>H i oi p b hi) (fun p b=>H j k p b y) R t N;have X:∀ l ok,ops[l]?=J ok->l≠i->(d.setIfInBounds j true).getD l true=false ->
     (∀ e∈ok.after,Region.binds md e=true->e.on≠i)->oi.apart ops ok=true:=fun l ok Y Z F aa=>by
    refine A l ok Y Z ?_ aa;by_cases B:j=l
    .subst B;exact E
    .rw[getD_set_ne true B]at F;exact F
   have z:(d.setIfInBounds j true).getD m true=false->((d.setIfInBounds i true).setIfInBounds j true).getD m true=false:=fun h=>by
    rw[wS _ _ (Ne.symm f),oK x];exact h
   refine mE (fun K ad r=>⟨fun h=>r.2.1 (z h),ac (d.setIfInBounds j true) K ad X (pg g (Ne.symm f)) r.1 (fun h=>r.2.1 (z h)) ?_⟩) M;rw[wS _ _ f];exact r.2.2
theorem lD {d:Nat} (i:Nat) (v:ε) {oi:Oper} {fuel:Nat} {b:Array Bool} {a:Act} {w:β} (hi:ops[i]?=J oi) (e:(oT md ops d i && (i !=d) && !b.getD d true)=true)
  (l:Region.noSelect ops=true) (j:Region.free md ops b i=true) (k:(Region.ready md ops b).contains i=true)
  (f:∀ c a w,Q (.panic c) (a.put oi.dst v) w->Q (.panic c) a w) (m:Region.wanted oi (yielded ops a.tmps)=true) (hy:∀ w,S w->(execOp a.eval oi).run P w=.ok (.value v) w) (g:S w)
  (h:ϫ P md ops Q S d fuel (b.setIfInBounds i true) (a.put oi.dst v) w):ϫ P md ops Q S d (fuel+1) b a w:=by
 simp only[gs,bne_iff_ne,Bool.not_eq_true']at e;exact FT hi e.1.2 e.1.1 (wT l) f fuel b a w (Region.free_spec hi j) (by simpa using k) (.inl ⟨m,hy⟩) e.2 g h
theorem gJ {d:Nat} (i:Nat) (v:ε) {oi:Oper} {fuel:Nat} {b:Array Bool} {a:Act} {w:β} (hi:ops[i]?=J oi) (j:(i !=d)=true)
  (l:Region.noSelect ops=true) (g:Region.free md ops b i=true) (k:(Region.ready md ops b).contains i=true)
  (e:∀ c a w,Q (.panic c) (a.put oi.dst v) w->Q (.panic c) a w) (m:Region.wanted oi (yielded ops a.tmps)=true) (hy:∀ w,(execOp a.eval oi).run P w=.ok (.value v) w) (f:S w)
  (h:ϫ P md ops Q S d fuel (b.setIfInBounds i true) (a.put oi.dst v) w):ϫ P md ops Q S d (fuel+1) b a w:=
 Av hi (by simpa using j) (wT l) e fuel b a w (Region.free_spec hi g) (by simpa using k) (.inl ⟨m,fun w _=>hy w⟩) (fun _=>f) h
theorem Ψ {f:Nat} (i:Nat) {o:Oper} {fuel:Nat} {d:Array Bool} {a:Act} {w:β} (c:Region.ready md ops d=[i]) (n:ops[i]?=J o)
  (h:∀ K:Act->β->Prop,(∀ b w',S w'->ϫ P md ops Q S f fuel (d.setIfInBounds i true) b w'->K b w')->if Region.wanted o (yielded ops a.tmps)=true then Oper.wp P o a w K Q else K (a.put o.dst undef) w) :
  ϫ P md ops Q S f (fuel+1) d a w:=by
 refine⟨fun j=>?_,fun p e=>?_⟩
 .rw[j]at c;cases c
 .rw[c]at e
  obtain rfl:=jW.1 e;exact li n (fun g m=>h g (fun b w' k l=>m b w' ⟨fun _=>k,l⟩))
theorem jp {b:Nat} {o:Oper} {fuel:Nat} {d:Array Bool} {a:Act} {w:β} (e:Region.ready md ops d=[b]) (m:(decide (b<d.size))=true) (n:ops[b]?=J o)
  (h:∀ K:Act->β->Prop,(∀ c w',ϫ P md ops Q S b fuel (d.setIfInBounds b true) c w'->K c w')->if Region.wanted o (yielded ops a.tmps)=true then Oper.wp P o a w K Q else K (a.put o.dst undef) w) :
  ϫ P md ops Q S b (fuel+1) d a w:=by
 refine⟨fun i=>?_,fun p f=>?_⟩
 .rw[i]at e;cases e
 .rw[e]at f
  obtain rfl:=jW.1 f;have l:=of_decide_eq_true m;exact li n (fun g k=>h g (fun c w' j=>k c w' ⟨fun h=>by simp[l]at h,j⟩))
theorem uB {d:Nat} {c:Array Bool} {a:Act} {w:β} (b:Region.ready md ops c=[]) (h:Q .normal a w):∀ fuel,ϫ P md ops Q S d fuel c a w
 |0=>⟨b,h⟩
 |_+1=>⟨fun _=>h,by rw[b];simp⟩
theorem ϸ (S:β->Prop) (c:Nat) {id:Nat} {a:Act} {w:β} (b:P.follows .mixedOrders=true)
  (h:ϫ P .any ops Q S c ops.size (Array.replicate ops.size false) a w.drew):(Code.region id ops true).wp P Q a w:=
 wp_region_any b (Aw _ _ _ _ h)
end
section
variable {P:Program} {ops:Array Oper} {Q:Exit->Act->β->Prop} {md:Region.Mode} {S:β->Prop}
theorem Fw {d:Nat} (i:Nat) {oi:Oper} {fuel:Nat} {b:Array Bool} {a:Act} {w:β} (hi:ops[i]?=J oi) (j:(i !=d)=true)
  (l:Region.noSelect ops=true) (g:Region.free md ops b i=true) (k:(Region.ready md ops b).contains i=true)
  (e:∀ c a w,Q (.panic c) (a.put oi.dst undef) w->Q (.panic c) a w) (m:Region.wanted oi (yielded ops a.tmps)=false) (f:S w)
  (h:ϫ P md ops Q S d fuel (b.setIfInBounds i true) (a.put oi.dst undef) w):ϫ P md ops Q S d (fuel+1) b a w:=
 Av hi (by simpa using j) (wT l) e fuel b a w (Region.free_spec hi g) (by simpa using k) (.inr ⟨m,rfl⟩) (fun _=>f) h
theorem qU {e:Nat} (i:Nat) {o:Oper} {fuel:Nat} {c:Array Bool} {a:Act} {w:β} (d:Region.ready md ops c=[i]) (p:ops[i]?=J o) (n:(c.setIfInBounds i true).getD e true=true)
  (h:∀ K:Act->β->Prop,(∀ b w',ϫ P md ops Q S e fuel (c.setIfInBounds i true) b w'->K b w')->if Region.wanted o (yielded ops a.tmps)=true then Oper.wp P o a w K Q else K (a.put o.dst undef) w) :
  ϫ P md ops Q S e (fuel+1) c a w:=by
 refine⟨fun l=>?_,fun q g=>?_⟩
 .rw[l]at d;cases d
 .rw[d]at g
  obtain rfl:=jW.1 g;exact li p (fun j m=>h j (fun b w' k=>m b w' ⟨fun f=>(by rw[n]at f;cases f),k⟩))
end
section
variable {P:Program} {ops:Array Oper} {Q:Exit->Act->β->Prop} {md:Region.Mode} {S:β->Prop}
def ta (md:Region.Mode) (ops:Array Oper) (c i:Nat) (a:List Nat) (e:Array Bool):Bool:=
 a.contains c && !a.contains i && a.all fun b=>(!e.getD b true) && (i::a).any fun d=>oT md ops b d
theorem Gf {f i:Nat} {a:List Nat} {g:Array Bool} (h:ta md ops f i a g=true):f∈a/\i∉a/\∀ b∈a,g.getD b true=false/\∃ d∈i::a,oT md ops b d=true:=by
 unfold ta at h;simp only[gs,List.contains_iff_mem,Bool.not_eq_true',kp,List.any_eq_true]at h;refine⟨h.1.1,?_,fun b c=>⟨(h.2 b c).1,?_⟩⟩
 .have:=h.1.2
  intro e;rw[<-List.contains_iff_mem]at e;rw[e]at this;cases this
 .obtain⟨d,j,k⟩:=(h.2 b c).2
  exact⟨d,j,k⟩
theorem FU {l i:Nat} {oi:Oper} {v:ε} (n:List Nat) (hi:ops[i]?=J oi) (B:l∈n) (ad:i∉n) (ak:∀ b∈n,∃ d∈i::n,oT md ops b d=true) (T:∀ (j:Nat) (o:Oper) t b,ops[j]?=J o->o.op≠.select t b)
  (Y:∀ c a w,Q (.panic c) (a.put oi.dst v) w->Q (.panic c) a w) :
  ∀ (fuel:Nat) (f:Array Bool) (a:Act) (w:β),
   (∀ j m,ops[j]?=J m->j≠i->f.getD j true=false->(∀ e∈m.after,Region.binds md e=true->e.on≠i)->oi.apart ops m=true) ->
   i∈Region.ready md ops f->YieldsIf P ops S oi v a->(∀ b∈n,f.getD b true=false)->S w ->
   ϫ P md ops Q S l fuel (f.setIfInBounds i true) (a.put oi.dst v) w->ϫ P md ops Q S l (fuel+1) f a w:=by
 have ae:i≠l:=fun e=>ad (e ▸ B);intro fuel;induction fuel with
 |zero =>
  intro f a w _ k A z x s;refine⟨fun h=>(by rw[h]at k;cases k),fun j q=>?_⟩;by_cases g:j=i
  .subst g;exact A.wpOp hi x ⟨fun _=>x,s⟩
  .have R:=pg q g
   rw[s.1]at R;cases R
 |succ fuel al =>
  intro f a w H k A z x s;refine⟨fun h=>(by rw[h]at k;cases k),fun j q=>?_⟩;by_cases g:j=i
  .subst g;exact A.wpOp hi x ⟨fun _=>x,s⟩
  .have F:=(mem_ready.1 k).1
   have I:j∉n:=fun p=>by
    obtain⟨d,hd,U⟩:=ak j p;rcases gP.1 hd with rfl|hd
    .exact yO U F q
    .exact yO U (z d hd) q
   have af:j≠l:=fun e=>I (e ▸ B);have X:=s.2 j (pg q g);obtain⟨M,m,E,Z⟩:=mem_ready.1 q;have aj:∀ e∈m.after,Region.binds md e=true->e.on≠i:=fun e aa p ab=>by
    have u:=Z e aa p;rw[ab]at u;rcases ot i f.size with h'|h'
    .simp[h']at F u;rw[F]at u;cases u
    .simp[wR h']at u
   have W:=wpOp_putIf E (H j m E g M aj) (fun t b=>T i oi t b hi) (fun t b=>T j m t b E) Y A X;have ac:∀ r ok,ops[r]?=J ok->r≠i->(f.setIfInBounds j true).getD r true=false ->
     (∀ e∈ok.after,Region.binds md e=true->e.on≠i)->oi.apart ops ok=true:=fun r ok ag ah N ai=>by
    refine H r ok ag ah ?_ ai;by_cases K:j=r
    .subst K;exact M
    .rw[getD_set_ne true K]at N;exact N
   have G:((f.setIfInBounds i true).setIfInBounds j true).getD l true=false:=by rw[oK af,oK ae];exact z l B
   refine mE (fun V am y=>⟨fun _=>y.2.1 G,al (f.setIfInBounds j true) V am ac (pg k (Ne.symm g)) y.1 (fun b p=>by rw[oK (fun e=>I (by rw[e];exact p))];exact z b p) (y.2.1 G) ?_⟩) W;rw[wS _ _ g];exact y.2.2
theorem mn {f:Nat} (i:Nat) (g:List Nat) (v:ε) {oi:Oper} {fuel:Nat} {d:Array Bool} {a:Act} {w:β} (hi:ops[i]?=J oi) (s:ta md ops f i g d=true)
  (q:Region.noSelect ops=true) (o:Region.free md ops d i=true) (p:(Region.ready md ops d).contains i=true)
  (m:∀ c a w,Q (.panic c) (a.put oi.dst v) w->Q (.panic c) a w) (r:Region.wanted oi (yielded ops a.tmps)=true) (hy:∀ w,S w->(execOp a.eval oi).run P w=.ok (.value v) w) (n:S w)
  (h:ϫ P md ops Q S f fuel (d.setIfInBounds i true) (a.put oi.dst v) w):ϫ P md ops Q S f (fuel+1) d a w:=by
 obtain⟨k,l,j⟩:=Gf s;exact FU g hi k l (fun b e=>(j b e).2) (wT q) m fuel d a w (Region.free_spec hi o) (by simpa using p) (.inl ⟨r,hy⟩) (fun b e=>(j b e).1) n h
end
section
variable {P:Program} {ops:Array Oper} {Q:Exit->Act->β->Prop} {md:Region.Mode} {S:β->Prop} {last fuel:Nat} {listed:Array Bool} {a a':Act} {w w':β} {v:ε} {oi:Oper}
theorem Zf (i:Nat) (hS:S w) (h:ϫ P md ops Q S last fuel (listed.setIfInBounds i true) a' w) (hi:ops[i]?=J oi:=by rfl)
  (hy:∀ w,(execOp a.eval oi).run P w=.ok (.value v) w:=by intro W;go_simp;try with_reducible rfl)
  (ha:a.put oi.dst v=a':=by simp only[Act.put,xa,ur,us];rfl) (hil:(i !=last)=true:=by kernel_rfl)
  (hs:Region.noSelect ops=true:=by kernel_rfl) (hf:Region.free md ops listed i=true:=by kernel_rfl) (hr:(Region.ready md ops listed).contains i=true:=by kernel_rfl)
  (hQ:∀ c a w,Q (.panic c) (a.put oi.dst v) w->Q (.panic c) a w:=by exact fun _ _ _ h=>h) (hwn:Region.wanted oi (yielded ops a.tmps)=true:=by kernel_rfl):ϫ P md ops Q S last (fuel+1) listed a w:=
 gJ i v hi hil hs hf hr hQ hwn hy hS (ha ▸ h)
theorem Zk (i:Nat) (hS:S w) (h:ϫ P md ops Q S last fuel (listed.setIfInBounds i true) a' w) (hi:ops[i]?=J oi:=by rfl)
  (hy:∀ w,S w->(execOp a.eval oi).run P w=.ok (.value v) w:=by intro W hW;subst hW;go_simp;try with_reducible rfl)
  (ha:a.put oi.dst v=a':=by simp only[Act.put,xa,ur,us];rfl) (hwt:(oT md ops last i && (i !=last) && !listed.getD last true)=true:=by kernel_rfl)
  (hs:Region.noSelect ops=true:=by kernel_rfl) (hf:Region.free md ops listed i=true:=by kernel_rfl) (hr:(Region.ready md ops listed).contains i=true:=by kernel_rfl)
  (hQ:∀ c a w,Q (.panic c) (a.put oi.dst v) w->Q (.panic c) a w:=by exact fun _ _ _ h=>h) (hwn:Region.wanted oi (yielded ops a.tmps)=true:=by kernel_rfl):ϫ P md ops Q S last (fuel+1) listed a w:=
 lD i v hi hwt hs hf hr hQ hwn hy hS (ha ▸ h)
theorem Zb (i:Nat) (blk:List Nat) (hS:S w) (h:ϫ P md ops Q S last fuel (listed.setIfInBounds i true) a' w) (hi:ops[i]?=J oi:=by rfl)
  (hy:∀ w,S w->(execOp a.eval oi).run P w=.ok (.value v) w:=by intro W hW;subst hW;go_simp;try with_reducible rfl)
  (ha:a.put oi.dst v=a':=by simp only[Act.put,xa,ur,us];rfl) (hwt:ta md ops last i blk listed=true:=by kernel_rfl)
  (hs:Region.noSelect ops=true:=by kernel_rfl) (hf:Region.free md ops listed i=true:=by kernel_rfl) (hr:(Region.ready md ops listed).contains i=true:=by kernel_rfl)
  (hQ:∀ c a w,Q (.panic c) (a.put oi.dst v) w->Q (.panic c) a w:=by exact fun _ _ _ h=>h) (hwn:Region.wanted oi (yielded ops a.tmps)=true:=by kernel_rfl):ϫ P md ops Q S last (fuel+1) listed a w:=
 mn i blk v hi hwt hs hf hr hQ hwn hy hS (ha ▸ h)
theorem Zs (i:Nat) (hS:S w) (h:ϫ P md ops Q S last fuel (listed.setIfInBounds i true) a' w) (hi:ops[i]?=J oi:=by rfl)
  (ha:a.put oi.dst undef=a':=by simp only[Act.put,xa,ur,us];rfl) (hil:(i !=last)=true:=by kernel_rfl)
  (hs:Region.noSelect ops=true:=by kernel_rfl) (hf:Region.free md ops listed i=true:=by kernel_rfl) (hr:(Region.ready md ops listed).contains i=true:=by kernel_rfl)
  (hQ:∀ c a w,Q (.panic c) (a.put oi.dst undef) w->Q (.panic c) a w:=by exact fun _ _ _ h=>h) (hwn:Region.wanted oi (yielded ops a.tmps)=false:=by kernel_rfl):ϫ P md ops Q S last (fuel+1) listed a w:=
 Fw i hi hil hs hf hr hQ hwn hS (ha ▸ h)
theorem Ox (i:Nat) (hi:ops[i]?=J oi) (hS:S w) (h:ϫ P md ops Q S last fuel (listed.setIfInBounds i true) (a.put oi.dst v) w)
  (hy:∀ w,(execOp a.eval oi).run P w=.ok (.value v) w:=by intro W;go_simp;try with_reducible rfl) (hil:(i !=last)=true:=by kernel_rfl)
  (hs:Region.noSelect ops=true:=by kernel_rfl) (hf:Region.free md ops listed i=true:=by kernel_rfl) (hr:(Region.ready md ops listed).contains i=true:=by kernel_rfl)
  (hQ:∀ c a w,Q (.panic c) (a.put oi.dst v) w->Q (.panic c) a w:=by exact fun _ _ _ h=>h) (hwn:Region.wanted oi (yielded ops a.tmps)=true:=by kernel_rfl):ϫ P md ops Q S last (fuel+1) listed a w:=
 gJ i v hi hil hs hf hr hQ hwn hy hS h
theorem OA (i:Nat) (hi:ops[i]?=J oi) (hS:S w) (h:ϫ P md ops Q S last fuel (listed.setIfInBounds i true) (a.put oi.dst v) w)
  (hy:∀ w,S w->(execOp a.eval oi).run P w=.ok (.value v) w:=by intro W hW;subst hW;go_simp;try with_reducible rfl) (hwt:(oT md ops last i && (i !=last) && !listed.getD last true)=true:=by kernel_rfl)
  (hs:Region.noSelect ops=true:=by kernel_rfl) (hf:Region.free md ops listed i=true:=by kernel_rfl) (hr:(Region.ready md ops listed).contains i=true:=by kernel_rfl)
  (hQ:∀ c a w,Q (.panic c) (a.put oi.dst v) w->Q (.panic c) a w:=by exact fun _ _ _ h=>h) (hwn:Region.wanted oi (yielded ops a.tmps)=true:=by kernel_rfl):ϫ P md ops Q S last (fuel+1) listed a w:=
 lD i v hi hwt hs hf hr hQ hwn hy hS h
theorem Oz (i:Nat) (blk:List Nat) (hi:ops[i]?=J oi) (hS:S w) (h:ϫ P md ops Q S last fuel (listed.setIfInBounds i true) (a.put oi.dst v) w)
  (hy:∀ w,S w->(execOp a.eval oi).run P w=.ok (.value v) w:=by intro W hW;subst hW;go_simp;try with_reducible rfl) (hwt:ta md ops last i blk listed=true:=by kernel_rfl)
  (hs:Region.noSelect ops=true:=by kernel_rfl) (hf:Region.free md ops listed i=true:=by kernel_rfl) (hr:(Region.ready md ops listed).contains i=true:=by kernel_rfl)
  (hQ:∀ c a w,Q (.panic c) (a.put oi.dst v) w->Q (.panic c) a w:=by exact fun _ _ _ h=>h) (hwn:Region.wanted oi (yielded ops a.tmps)=true:=by kernel_rfl):ϫ P md ops Q S last (fuel+1) listed a w:=
 mn i blk v hi hwt hs hf hr hQ hwn hy hS h
theorem Oy (i:Nat) (hi:ops[i]?=J oi) (hS:S w) (h:ϫ P md ops Q S last fuel (listed.setIfInBounds i true) (a.put oi.dst undef) w) (hil:(i !=last)=true:=by kernel_rfl)
  (hs:Region.noSelect ops=true:=by kernel_rfl) (hf:Region.free md ops listed i=true:=by kernel_rfl) (hr:(Region.ready md ops listed).contains i=true:=by kernel_rfl)
  (hQ:∀ c a w,Q (.panic c) (a.put oi.dst undef) w->Q (.panic c) a w:=by exact fun _ _ _ h=>h) (hwn:Region.wanted oi (yielded ops a.tmps)=false:=by kernel_rfl):ϫ P md ops Q S last (fuel+1) listed a w:=
 Fw i hi hil hs hf hr hQ hwn hS h
theorem Zl {o:Oper} (h:ϫ P md ops Q S last fuel (listed.setIfInBounds last true) a' w') (ho:ops[last]?=J o:=by rfl)
  (hw:∀ K:Act->β->Prop,K a' w'->if Region.wanted o (yielded ops a.tmps)=true then Oper.wp P o a w K Q else K (a.put o.dst undef) w:=by intro K hK;go_simp;exact hK)
  (hr:Region.ready md ops listed=[last]:=by kernel_rfl) (hlt:(decide (last<listed.size))=true:=by kernel_rfl):ϫ P md ops Q S last (fuel+1) listed a w:=
 jp hr hlt ho (fun K hK=>hw K (hK _ _ h))
theorem Ze {o:Oper} (i:Nat) (h:ϫ P md ops Q S last fuel (listed.setIfInBounds i true) a' w') (ho:ops[i]?=J o:=by rfl)
  (hw:∀ K:Act->β->Prop,K a' w'->if Region.wanted o (yielded ops a.tmps)=true then Oper.wp P o a w K Q else K (a.put o.dst undef) w:=by intro K hK;go_simp;exact hK)
  (hr:Region.ready md ops listed=[i]:=by kernel_rfl) (hl:(listed.setIfInBounds i true).getD last true=true:=by kernel_rfl):ϫ P md ops Q S last (fuel+1) listed a w:=
 qU i hr ho hl (fun K hK=>hw K (hK _ _ h))
theorem Zd (h:Q .normal a w) (hr:Region.ready md ops listed=[]:=by kernel_rfl):ϫ P md ops Q S last fuel listed a w:=uB hr h fuel
end
theorem Ed (a b c d e f g h:Int) (j:Option Addr) (r k:Nat) (n:Nat) (w:β) (o:n<=1099511627776) (i:r=n % 64) :
  Calls prog 277 #[ā #[ĭ .u32 a,ĭ .u32 b,ĭ .u32 c,ĭ .u32 d,ĭ .u32 e,ĭ .u32 f,ĭ .u32 g,ĭ .u32 h,D j r k,IZ n]] w fun e w'=>e=ŗ (.bool true)/\BQ w w':=by
 have s:(n:Int)<=1099511627776:=ϊ;have q:(0:Int)<=(n:Int):=ϊ;have p:((r:Int)==(n:Int) % 64)=true:=by rw[i];simp
 have l:BQ w (å w (C #[ĭ .u32 a,ĭ .u32 b,ĭ .u32 c,ĭ .u32 d,ĭ .u32 e,ĭ .u32 f,ĭ .u32 g,ĭ .u32 h,D j r k,IZ n] 317)):=ġ;have m:=Zh i;clear i;go_enter func277,ntmps277;go_wp2;go_ret;exact⟨rfl,l⟩
def wk:Array ε:= #[ĭ .u32 1779033703,ĭ .u32 3144134277,ĭ .u32 1013904242,ĭ .u32 2773480762,ĭ .u32 1359893119,ĭ .u32 2600822924,ĭ .u32 528734635,ĭ .u32 1541459225]
def rR:List Int:=[1116352408,1899447441,3049323471,3921009573,961987163,1508970993,2453635748,2870763221,3624381080,310598401,607225278,1426881987,1925078388,2162078206,2614888103,3248222580,3835390401,4022224774,264347078,604807628,770255983,1249150122,1555081692,1996064986,2554220882,2821834349,2952996808,3210313671,3336571891,3584528711,113926993,338241895,666307205,773529912,1294757372,1396182291,1695183700,1986661051,2177026350,2456956037,2730485921,2820302411,3259730800,3345764771,3516065817,3600352804,4094571909,275423344,430227734,506948616,659060556,883997877,958139571,1322822218,1537002063,1747873779,1955562222,2024104815,2227730452,2361852424,2428436474,2756734187,3204031479,3329325298]
def wl:Array ε:=(rR.map (Value.int .u32)).toArray
def qG (i:Nat):Int:=rR.getD i 0
structure Ϡ (w:β):Prop where
 beg:∃ t fr,w.heap[1]?=J (C wk t fr)
 rds:∃ t fr,w.heap[4]?=J (C wl t fr)
theorem Ϡ.below {w w':β} (h:Ϡ w) (c:BQ w w'):Ϡ w':=by
 obtain⟨⟨f,d,a⟩,⟨g,e,b⟩⟩:=h;exact⟨⟨f,d,by rw[c.block _ (ο a)];exact a⟩,⟨g,e,by rw[c.block _ (ο b)];exact b⟩⟩
theorem Ϡ.rcell {w:β} (h:Ϡ w) {i:Nat} (hi:i<64):w.cell? ⟨4,i,O⟩=J (ĭ .u32 (qG i)):=by
 obtain⟨-,d,b,a⟩:=h;have c:L rR=64:=ϐ;rw[ν w _ i _ _ _ a];unfold wl qG;rw[fR,mj,jK,Ρ ϊ];rfl
theorem Mh (i:Nat):kc (qG i):=by
 unfold qG;rw[fR];rcases ot i (L rR) with h|h
 .rw[Ρ h]
  have:∀ x∈rR,0<=x/\x<4294967296:=ϐ;exact this _ (Χ h)
 .rw[kZ h];exact⟨ϐ,ϐ⟩
theorem MJ (w:β) (j:Ϡ w) :
  Calls prog 213 #[] w fun e w'=>e=ŗ (ā #[ĭ .u32 1779033703,ĭ .u32 3144134277,ĭ .u32 1013904242,ĭ .u32 2773480762,ĭ .u32 1359893119,ĭ .u32 2600822924,ĭ .u32 528734635,ĭ .u32 1541459225,D O 0 0,IZ 0])/\BQ w w':=by
 obtain⟨⟨m,k,a⟩,-⟩:=j;have c0:=ν w _ 0 _ _ _ a;have c1:=ν w _ 1 _ _ _ a;have c2:=ν w _ 2 _ _ _ a;have b:=ν w _ 3 _ _ _ a;have c:=ν w _ 4 _ _ _ a;have d:=ν w _ 5 _ _ _ a;have f:=ν w _ 6 _ _ _ a;have g:=ν w _ 7 _ _ _ a;simp only[wk]at c0 c1 c2 b c d f g;have l:=ο a;clear a;go_enter func213,ntmps213;go_wp2;have h:=χ w (C #[ĭ .u32 1779033703,ĭ .u32 3144134277,ĭ .u32 1013904242,ĭ .u32 2773480762,ĭ .u32 1359893119,ĭ .u32 2600822924,ĭ .u32 528734635,ĭ .u32 1541459225,D O 0 0,IZ 0] 317);have i:BQ w (å w (C #[ĭ .u32 1779033703,ĭ .u32 3144134277,ĭ .u32 1013904242,ĭ .u32 2773480762,ĭ .u32 1359893119,ĭ .u32 2600822924,ĭ .u32 528734635,ĭ .u32 1541459225,D O 0 0,IZ 0] 317)):=ġ;exact ϟ (v:=ā #[ĭ .u32 1779033703,ĭ .u32 3144134277,ĭ .u32 1013904242,ĭ .u32 2773480762,ĭ .u32 1359893119,ĭ .u32 2600822924,ĭ .u32 528734635,ĭ .u32 1541459225,D O 0 0,IZ 0]) (jX (p:=0) (ty:=317) rfl _ _ w.heap.size 317 _ (0,0) _ rfl h underlying317 rfl ϋ) rfl ⟨rfl,i⟩
section
variable {P:Program} {ops:Array Oper} {Q:Exit->Act->β->Prop} {md:Region.Mode} {S:β->Prop}
theorem F1 {last:Nat} {fuel:Nat} {listed:Array Bool} {a:Act} {w:β} {oi:Oper} (i:Nat) (v:ε) (hi:ops[i]?=J oi) (hy:∀ w,(execOp a.eval oi).run P w=.ok (.value v) w) (hS:S w)
  (h:ϫ P md ops Q S last fuel (listed.setIfInBounds i true) (a.put oi.dst v) w) (hil:(i !=last)=true:=by kernel_rfl)
  (hs:Region.noSelect ops=true:=by kernel_rfl) (hf:Region.free md ops listed i=true:=by kernel_rfl) (hr:(Region.ready md ops listed).contains i=true:=by kernel_rfl)
  (hQ:∀ c a w,Q (.panic c) (a.put oi.dst v) w->Q (.panic c) a w:=by exact fun _ _ _ h=>h) (hwn:Region.wanted oi (yielded ops a.tmps)=true:=by kernel_rfl):ϫ P md ops Q S last (fuel+1) listed a w:=
 gJ i v hi hil hs hf hr hQ hwn hy hS h
theorem K1 {last:Nat} {fuel:Nat} {listed:Array Bool} {a:Act} {w:β} {oi:Oper} (i:Nat) (v:ε) (hi:ops[i]?=J oi) (hy:∀ w,S w->(execOp a.eval oi).run P w=.ok (.value v) w) (hS:S w)
  (h:ϫ P md ops Q S last fuel (listed.setIfInBounds i true) (a.put oi.dst v) w) (hwt:(oT md ops last i && (i !=last) && !listed.getD last true)=true:=by kernel_rfl)
  (hs:Region.noSelect ops=true:=by kernel_rfl) (hf:Region.free md ops listed i=true:=by kernel_rfl) (hr:(Region.ready md ops listed).contains i=true:=by kernel_rfl)
  (hQ:∀ c a w,Q (.panic c) (a.put oi.dst v) w->Q (.panic c) a w:=by exact fun _ _ _ h=>h) (hwn:Region.wanted oi (yielded ops a.tmps)=true:=by kernel_rfl):ϫ P md ops Q S last (fuel+1) listed a w:=
 lD i v hi hwt hs hf hr hQ hwn hy hS h
theorem KB {last:Nat} {fuel:Nat} {listed:Array Bool} {a:Act} {w:β} {oi:Oper} (i:Nat) (blk:List Nat) (v:ε) (hi:ops[i]?=J oi) (hy:∀ w,S w->(execOp a.eval oi).run P w=.ok (.value v) w) (hS:S w)
  (h:ϫ P md ops Q S last fuel (listed.setIfInBounds i true) (a.put oi.dst v) w) (hwt:ta md ops last i blk listed=true:=by kernel_rfl)
  (hs:Region.noSelect ops=true:=by kernel_rfl) (hf:Region.free md ops listed i=true:=by kernel_rfl) (hr:(Region.ready md ops listed).contains i=true:=by kernel_rfl)
  (hQ:∀ c a w,Q (.panic c) (a.put oi.dst v) w->Q (.panic c) a w:=by exact fun _ _ _ h=>h) (hwn:Region.wanted oi (yielded ops a.tmps)=true:=by kernel_rfl):ϫ P md ops Q S last (fuel+1) listed a w:=
 mn i blk v hi hwt hs hf hr hQ hwn hy hS h
end
