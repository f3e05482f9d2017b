/- Part 2 of the proof. -/
import Derived.Test.YtpilfbcffofheaaGreatDoorm00
set_option linter.all false
set_option maxRecDepth 100000
set_option maxHeartbeats 16000000
namespace Go.Proofs.YtpilfbcffofheaaGreatDoor
open Go.RowKit Go.Proofs.Tryz Go.Sort
open Value renaming slice->D,int->ĭ,string->š
open Option renaming none->O,some->J
open List renaming length->L
open Obj renaming cells->C
open Ending renaming returned->ŗ
open World renaming alloc->å,setCell->ŝ
def Μ (a:Nat) (w:β) (v:ε) (n:Nat) (l:γ):Prop:=L l=n/\w.ownsRow a 5 1 v n (η l)
def Μ.B {base w w' v n l} (h:Μ base w v n l) (a:BQ w w'):Μ base w' v n l:=⟨h.1,ψ h.2 a⟩
def Μ.M {base base' w v n l} (h:Μ base w v n l) (a:base'<=base):Μ base' w v n l:=⟨h.1,gX h.2 a⟩
def Μ.A {base w v n l} (h:Μ base w v n l) (o):Μ base (å w o) v n l:=h.B (ġ)
def Μ.set {base w v n l} (h:Μ base w v n l) {p} (a:p.block<base) (x:ε):Μ base (ŝ w p x) v n l:=⟨h.1,hR h.2 a x⟩
def Μ.nil (w base):Μ base w (D O 0 0) 0 []:=⟨rfl,gQ w base _ 1⟩
def Μ.rd {base w v n l} (h:Μ base w v n l):Rd w v n 1 (η l):=Rd.of_own h.2
def Μ.hi {base w v n l} (h:Μ base w v n l):Hi base w (fun a=>Rd a v n 1 (η l)):=Hi.own h.2
def Μ.le {base w v n l} (h:Μ base w v n l):n<=9223372036854775807:=by
 have:=h.rd.2.1;unfold maxLen at this;omega
def jl (w:β) (a:Array ε) (e m) (l:γ) (b:L l=m) (h:a.toList=η l) (c:m<=maxLen):Rd (å w (C a e)) (D (J ⟨w.heap.size,0,O⟩) m m) m 1 (η l):=by
 by_cases d:m=0
 .subst d
  have:l=[]:=kS b;subst this;exact⟨rfl,c,.inl ⟨_,_,rfl,rfl⟩⟩
 .rw[<-h]
  refine AA w a e 1 m ?_ c U;rw[<-sw,h];simp[η,b]
def qx (a b:γ):η (a++b)=η a++η b:=by simp[η]
def oA (a:γ):L (η a)=L a:=by simp[η]
theorem mM (a:γ):∀ u∈η a,u.oneCell'=true:=by
 intro u c;simp only[η,ih]at c;obtain⟨b,-,rfl⟩:=c;rfl
def lh:(prog.info? 5).map (fun i=>(i.zero,i.size,i.bytes))=J (J (ĭ .u8 0),1,1):=ϋ
def hG {ops rest o} {a:Act} {Q:Exit->Act->β->Prop} {w} (l:o.guard=O) (s x)
  (p:o.op=.call {callee:=.builtin .append,args:= #[s,x],argTypes:= #[31,31]})
  (base) (v e:ε) (n m) (N M:γ) (r:a.eval s=v) (d:Μ base w v n N) (t:a.eval x=e) (P:L M=m) (q:Rd w e m 1 (η M))
  (K:n+m<=70368744177664) (i:base<=w.heap.size)
  (h:∀ b c w',Μ base w' (D b (n+m) c) (n+m) (N++M)->Below base w w'->wpList prog ops Q rest (a.put o.dst (D b (n+m) c)) w'):wpList prog ops Q (o::rest) a w:=by
 obtain⟨A,hi,u,y,z⟩:=Ϩ lh;refine ϻ l s x _ _ p base 5 A _ 1 1 gv hi u y z rfl v n _ r d.2 e m _ t (q.src gv (mM M)) ώ U i ?_;intro I w' f k E F;obtain⟨b,c,rfl⟩:=Η f;refine h b c w' ⟨by simp[d.1,P],by rw[qx];exact f⟩ ?_;refine RZ.grown k i fun H j=>?_;rcases d.2.2 with ⟨rfl,-⟩|⟨g,B,cur,rfl,hg,-⟩
 .simp[Value.ownBlock]at j
 .simp[Value.ownBlock]at j;omega
def xT {ops o} {a:Act} {w} {K:Act->β->Prop} {Q:Exit->Act->β->Prop} {E} (V:o.guard=O) (s x)
  (l:o.op=.call {callee:=.builtin .append,args:= #[s,x],argTypes:= #[31,31]})
  (base) (v e:ε) (n m) (T S:γ) (r:a.eval s=v) (d:Μ base w v n T) (u:a.eval x=e) (W:L S=m) (p:Rd w e m 1 (η S))
  (M:n+m<=70368744177664) (i:base<=w.heap.size)
  (h:∀ b c w',Μ base w' (D b (n+m) c) (n+m) (T++S)->Below base w w'->K (a.put o.dst (D b (n+m) c)) w') :
  if Region.wanted o (yielded ops a.tmps)=true then Oper.wp prog o a w K Q else E:=by
 have t:Region.wanted o (yielded ops a.tmps)=true:=by simp[Region.wanted,V]
 rw[μ t];obtain⟨B,hi,y,z,A⟩:=Ϩ lh;obtain⟨P,w',q,f,k,R,H⟩:=tD  w base 31 31 o.type 5 B _ 1 1 gv hi y z A rfl v n _ d.2 e m _ (p.src gv (mM S)) ώ U i;unfold Oper.wp execOp;simp only[l,resolve,invoke,builtin,Sem.run_bind,Sem.run_pure,pH,qs,ij,jQ,r,u,q];obtain⟨b,c,rfl⟩:=Η f;refine h b c w' ⟨by simp[d.1,W],by rw[qx];exact f⟩ ?_;refine RZ.grown k i fun N j=>?_;rcases d.2.2 with ⟨rfl,-⟩|⟨g,F,cur,rfl,I,-⟩
 .simp[Value.ownBlock]at j
 .simp[Value.ownBlock]at j;omega
def GG {ops rest o} {a:Act} {Q:Exit->Act->β->Prop} {w} (g:o.guard=O) (l c) (k:o.op=Op.makeSlice 31 l c)
  (n:Nat) (C) (j:a.eval l=G 0) (f:a.eval c=G C) (e:C=(n:Int)) (s:n<=70368744177664)
  (h:∀ w',Μ w.heap.size w' (D (J ⟨w.heap.size,0,O⟩) 0 n) 0 []->BQ w w'->wpList prog ops Q rest (a.put o.dst (D (J ⟨w.heap.size,0,O⟩) 0 n)) w'):wpList prog ops Q (o::rest) a w:=by
 obtain⟨r,hi,m,p,q⟩:=Ϩ lh;refine wpList_make_own w g l c _ k _ 5 r _ 1 gv hi m p _ _ C n j f e (by rw[q];omega) ώ NZ ?_;intro w' b d;exact h w' ⟨rfl,b⟩ (RZ.grown d NZ (fun t i=>by cases i))
def nD (p:Int):List Int->Bool
 |[]=>true
 |n::r=>if n<=p\/1000<=n then false else nD n r
def ge (l:List Int):Bool:=nD (-1) l
theorem EE (p n r):nD p (n::r)=(decide (p<n) && decide (n<1000) && nD n r):=by
 simp only[nD];by_cases a:n<=p
 .rw[μ (.inl a),kE U];rfl
 .by_cases b:1000<=n
  .rw[μ (.inr b),kE (U:¬n<1000)];simp
  .rw[κ U,kU (U:p<n),kU (U:n<1000)];rfl
def MU (l):∀ p,nD p l=true↔(l.Pairwise (· < ·)/\∀ x∈l,p<x/\x<1000):=by
 induction l with
 |nil=>intro p;simp[nD]
 |cons n r f =>
  intro p;rw[EE];simp only[gt,hP,f,oT,hH];constructor
  .rintro⟨⟨b,c⟩,a,d⟩
   refine⟨⟨fun x hx=>(d x hx).1,a⟩,?_⟩;rintro x (rfl|hx)
   .exact⟨b,c⟩
   .have:=d x hx;omega
  .rintro⟨⟨b,c⟩,a⟩
   have e:=a n (.inl rfl);exact⟨⟨e.1,e.2⟩,c,fun x hx=>⟨b x hx,(a x (.inr hx)).2⟩⟩
def xx (l):ge l=true↔(l.Pairwise (· < ·)/\∀ x∈l,0<=x/\x<1000):=by
 unfold ge;rw[MU];constructor
 .rintro⟨a,b⟩;exact⟨a,fun x c=>ι (b x c)⟩
 .rintro⟨a,b⟩;exact⟨a,fun x c=>ι (b x c)⟩
def iF (c:Int->Bool->Bool->Bool):Nat->List Int->List Int->List Int
 |0,_,_=>[]
 |_+1,[],[]=>[]
 |f+1,x::a,[]=>(if c x true false then[x]else[])++iF c f a []
 |f+1,[],y::b=>(if c y false true then[y]else[])++iF c f [] b
 |f+1,x::a,y::b =>
  if x<y then(if c x true false then[x]else[])++iF c f a (y::b)
  else if y<x then(if c y false true then[y]else[])++iF c f (x::a) b
  else(if c y true true then[y]else[])++iF c f a b
def vr (keep):∀ (f g:Nat) (a b:List Int),L a+L b<=f->L a+L b<=g->iF keep f a b=iF keep g a b:=by
 intro f;induction f with
 |zero =>
  intro g a b d e;have h:a=[]:=lJ.1 U;have i:b=[]:=lJ.1 U;subst h;subst i;cases g<;>rfl
 |succ f c =>
  intro g a b d e;cases g with
  |zero =>
   have h:a=[]:=lJ.1 U;have i:b=[]:=lJ.1 U;subst h;subst i;rfl
  |succ g =>
   cases a with
   |nil =>
    cases b with
    |nil=>rfl
    |cons y b =>
     simp only[iF];rw[c g [] b (by simp at d ⊢;omega) (by simp at e ⊢;omega)]
   |cons x a =>
    cases b with
    |nil =>
     simp only[iF];rw[c g a [] (by simp at d ⊢;omega) (by simp at e ⊢;omega)]
    |cons y b =>
     simp only[iF,ϥ]at d e ⊢;rw[c g a (y::b) ό ό,c g (x::a) b ό ό,c g a b U U]
def hD (c:Int->Bool->Bool->Bool) (a b:List Int):List Int:=iF c (L a+L b) a b
theorem MI (keep):hD keep [] []=[]:=rfl
def MD (keep x a):hD keep (x::a) []=(if keep x true false then[x]else[])++hD keep a []:=by
 unfold hD;rw[show(L (x::a))+L ([]:List Int)=L a+1 from ύ];simp only[iF];rw[vr keep (L a) (L a+L ([]:List Int)) a [] ύ ύ]
def ME (keep y b):hD keep [] (y::b)=(if keep y false true then[y]else[])++hD keep [] b:=by
 unfold hD;rw[show(L ([]:List Int))+L (y::b)=L b+1 from ύ];simp only[iF];rw[vr keep (L b) (L ([]:List Int)+L b) [] b ύ ύ]
def MH (keep) {x y} (a b) (h:x<y):hD keep (x::a) (y::b)=(if keep x true false then[x]else[])++hD keep a (y::b):=by
 unfold hD;rw[show(L (x::a))+L (y::b)=(L a+L b+1)+1 from ό];simp only[iF];rw[μ h,vr keep (L a+L b+1) (L a+L (y::b)) a (y::b) ό ύ]
def MG (keep) {x y} (a b) (h:y<x):hD keep (x::a) (y::b)=(if keep y false true then[y]else[])++hD keep (x::a) b:=by
 unfold hD;rw[show(L (x::a))+L (y::b)=(L a+L b+1)+1 from ό];simp only[iF];rw[κ U,μ h,vr keep (L a+L b+1) (L (x::a)+L b) (x::a) b ό ύ]
def MF (keep x a b):hD keep (x::a) (x::b)=(if keep x true true then[x]else[])++hD keep a b:=by
 unfold hD;rw[show(L (x::a))+L (x::b)=(L a+L b+1)+1 from ό];simp only[iF];rw[κ U,κ U,vr keep (L a+L b+1) (L a+L b) a b U U]
def MB (keep a):∀ f,L a<=f->iF keep f a []=a.filter fun x=>keep x true false:=by
 induction a with
 |nil=>intro f _;cases f<;>rfl
 |cons x a c =>
  intro f b;cases f with
  |zero=>simp at b
  |succ f =>
   simp only[iF];rw[c f (by simpa using b),List.filter_cons];split<;>simp
def jd (f t:Int) (n:Int):Bool:=decide (f<=n) && decide (n<t)
def MK (f t l):hD (fun n _ _=>jd f t n) l []=l.filter (jd f t):=MB _ _ _ ύ
def JZ (b:γ):fR (first b).1=true:=by
 rcases b with _|⟨b0,_|⟨b1,_|⟨b2,_|⟨b3,r⟩⟩⟩⟩
 .exact ϐ
 all_goals
  have a:=nT b0;simp only[first,qD,qE,qF,jS]
  (repeat' split)<;>first
   |(exact ϐ)
   |(simp only[fR,gt,oo,hP];omega)
   |(rename_i h;simp only[gt,oo,fR,hP,gW]at h ⊢;omega)
def zy (b:γ):∀ c∈gg b,fR c=true:=by
 generalize e:L b=n;induction n using Nat.strongRecOn generalizing b with
 |ind n a =>
  intro c hc;by_cases h:b=[]
  .subst h;simp[rT]at hc
  .have d:=pR b h
   rw[rU b h]at hc;rcases hH.1 hc with rfl|hc
   .exact JZ b
   .exact a _ (by rw[fT];omega) _ rfl c hc
def vN (cur c r) (h:gm c=true):iP cur (c::r)=iP (cur++[c]) r:=by
 simp only[iP];rw[μ h]
def yi (c r) (h:gm c=false):iP [] (c::r)=iP [] r:=by
 simp only[iP];rw[κ (by simp[h]),μ trivial]
def yh (cur c r) (h:gm c=false) (a:cur≠[]):iP cur (c::r)=cur::iP [] r:=by
 simp only[iP];rw[κ (by simp[h]),κ a]
theorem rg (cur):iP cur []=if cur=[]then[]else[cur]:=rfl
def QN (a):∀ cur,L (iP cur a)<=L a+(if cur=[]then 0 else 1):=by
 induction a with
 |nil=>intro cur;rw[rg];split<;>simp
 |cons c a d =>
  intro cur;cases h:gm c with
  |true =>
   rw[vN _ _ _ h];have:=d (cur++[c]);simp at this ⊢;split<;>omega
  |false =>
   by_cases b:cur=[]
   .subst b
    rw[yi _ _ h];have:=d [];simp at this ⊢;omega
   .rw[yh _ _ _ h b]
    have:=d [];simp[b]at this ⊢;omega
def tN (b:γ):L (Θ b)<=L b:=by
 unfold Θ nI;rw[hU];have a:=QN (gg b) [];have c:=wR b;simp at a;omega
def Gf (t:γ) (l) (h:L t<=64):L (lp t l)<=64:=by
 induction l generalizing t with
 |nil=>exact h
 |cons c l a =>
  simp only[lp];split
  .exact h
  .exact a _ ό
def xX (b:γ):∀ t∈Θ b,L t<=64:=by
 intro t a;unfold Θ at a;obtain⟨c,_,rfl⟩:=ih.1 a;exact Gf _ c ύ
section
variable {α:Type} [Inhabited α] [DecidableEq α] {lt:α->α->Bool}
def mJ (lt:α->α->Bool) (l:List α):Prop:=l.Pairwise fun x y=>lt x y=true
omit [Inhabited α]in
def Fj (c:SWO lt):∀ {a b:List α},mJ lt a->mJ lt b->(∀ x,x∈a↔x∈b)->a=b:=by
 intro a;induction a with
 |nil =>
  intro b _ _ h;cases b with
  |nil=>rfl
  |cons y b=>exact absurd ((h y).2 ύ) ύ
 |cons x a r =>
  intro b o p h;cases b with
  |nil=>exact absurd ((h x).1 ύ) ύ
  |cons y b =>
   obtain⟨f,m⟩:=oT.1 o;obtain⟨i,n⟩:=oT.1 p;have q:x=y:=by
    by_cases e:x=y
    .exact e
    .have k:x∈b:=by have:=(h x).1 ύ;simpa[e] using this
     have l:y∈a:=by have:=(h y).2 ύ;simpa[Ne.symm e] using this
     have s:=i x k;have j:=f y l;rw[c.asymmA s]at j;cases j
   subst q
   congr 1
   refine r m n fun z=>?_;have d:=h z;simp only[hH]at d;constructor
   .intro g
    rcases d.1 (.inr g)with rfl|g'
    .have:=f z g;rw[c.irrefl]at this;cases this
    .exact g'
   .intro g
    rcases d.2 (.inr g)with rfl|g'
    .have:=i z g;rw[c.irrefl]at this;cases this
    .exact g'
def pt (lt:α->α->Bool) (l:List α):List α:=Lib.compact (l.mergeSort fun x y=>!lt y x)
def Ed (l:List α) (x:α):x∈pt lt l↔x∈l:=by
 unfold pt;generalize h:(l.mergeSort _)=s;have g:x∈l↔x∈s:=by rw[<-h];exact(List.mem_mergeSort).symm
 rw[g];unfold Lib.compact Lib.compactUpTo;simp only[ih,ud,rm];constructor
 .rintro⟨b,⟨c,_⟩,rfl⟩
  simp[c]
 .intro i
  obtain⟨a,hi,rfl⟩:=wh.1 i;have k:∀ a,a<L s->∃ b,b<=a/\Lib.keeps s.toArray b=true/\s.toArray[b]! =s.toArray[a]! :=by
   intro a;induction a with
   |zero=>intro _;exact⟨0,NZ,Lib.keeps_lt_one _ 0 ϐ,rfl⟩
   |succ a j =>
    intro hi;cases f:Lib.keeps s.toArray (a+1)with
    |true=>exact⟨_,NZ,f,rfl⟩
    |false =>
     obtain⟨b,c,d,e⟩:=j U;refine⟨b,U,d,?_⟩;have:s.toArray[a+1]! =s.toArray[a]! :=by
      simp only[Lib.keeps,rt,not_or,qo]at f;exact Classical.not_not.1 f.2
     rw[e,this]
  obtain⟨b,c,d,e⟩:=k a hi;exact⟨b,⟨U,d⟩,by rw[e];simp[hi]⟩
def Oy (j:SWO lt) (q:∀ x y,lt x y=false->lt y x=false->x=y) (l:List α):mJ lt (pt lt l):=by
 unfold pt;generalize w:(l.mergeSort _)=s;have u:s.Pairwise fun x y=>lt y x=false:=by
  have:=List.pairwise_mergeSort (le:=fun x y=>!lt y x) (fun a b c i g=>by
   simp only[Bool.not_eq_true']at i g ⊢
   exact j.ntrans c b a g i) (fun a b=>by
   cases h:lt b a with
   |false=>simp
   |true=>simp[j.asymmA h]) l
  rw[w]at this;exact this.imp fun h=>by simpa using h
 have hg:∀ f d,f<d->d<L s->lt s.toArray[d]! s.toArray[f]! =false:=by
  intro f d i g;have:=rp.1 u f d U g i;simpa[getElem!_pos,g,show f<L s by omega] using this
 unfold mJ Lib.compact Lib.compactUpTo;refine List.Pairwise.map _ (R:=fun f d=>f<d/\d<L s/\Lib.keeps s.toArray d=true) ?_ ?_
 .rintro f d ⟨i,g,m⟩
  have t:s.toArray[d]!≠s.toArray[d - 1]! :=by
   simp only[Lib.keeps,hP]at m;rcases m with h|h
   .omega
   .exact h
  have k:lt s.toArray[d - 1]! s.toArray[d]! =true:=by
   cases h:lt s.toArray[d - 1]! s.toArray[d]! with
   |true=>rfl
   |false=>exact absurd (q _ _ (hg _ d U g) h) t
  by_cases e:f=d - 1
  .rw[e];exact k
  .have p:=hg f (d - 1) U U
   cases h:lt s.toArray[f]! s.toArray[d]! with
   |true=>rfl
   |false=>rw[j.ntrans _ _ _ p h]at k;cases k
 .rw[rp]
  intro f d hi n r;have o:=ud.1 (Ψ n);refine⟨?_,rm.1 o.1,o.2⟩;have v:((List.range (L s)).filter (Lib.keeps s.toArray)).Pairwise (· < ·):=List.Pairwise.filter _ List.pairwise_lt_range;exact rp.1 v f d hi n r
end
def rf (x y:γ) (a:ltStr x y=false) (b:ltStr y x=false):x=y:=by
 simp only[ltStr,rt,List.not_lt]at a b;exact List.le_antisymm b a
def fW (l:List (γ)):List (γ):=pt ltStr l
def nZ {l t}:t∈fW l↔t∈l:=Ed l t
def tC (l):mJ ltStr (fW l):=Oy swo_ltStr rf l
def AO {l r:List (γ)} (a:mJ ltStr r) (h:∀ t,t∈r↔t∈l):r=fW l:=
 Fj swo_ltStr a (tC l) fun t=>(h t).trans nZ.symm
def jI (k:Nat) (t:γ):List (γ)->List Int
 |[]=>[]
 |x::r=>if x=t then(k:Int)::jI (k+1) t r else jI (k+1) t r
def ML (t a b):∀ k,jI k t (a++b)=jI k t a++jI (k+L a) t b:=by
 induction a with
 |nil=>intro k;rfl
 |cons x a c =>
  intro k;simp only[jW,jI,c,ϥ,iX,Nat.add_comm 1];split<;>simp
def MM (t l):∀ k,L (jI k t l)<=L l:=by
 induction l with
 |nil=>intro k;simp[jI]
 |cons x l a=>intro k;simp only[jI];split<;>simp<;>have:=a (k+1)<;>omega
def mP (a b):τ (a++b)=τ a++τ b:=by simp[τ]
theorem sW (a):∀ u∈τ a,u.oneCell'=true:=by
 intro u c;simp only[τ,ih]at c;obtain⟨b,_,rfl⟩:=c;rfl
def zU (a):L (τ a)=L a:=by simp[τ]
def zH (c):1<=L (enc c)/\L (enc c)<=4:=by
 unfold enc;(repeat' split)<;>simp
def FK {c} (h:fR c=true):fR (gE c)=true:=by
 have e:=qH h;unfold gE;split
 .rename_i s b
  have d:=List.find?_some b;have a:=List.mem_of_find?_eq_some b;simp only[shifts,hH,List.not_mem_nil,or_false]at a;simp only[gt,hP]at d;rcases a with rfl|rfl|rfl|rfl|rfl|rfl|rfl<;>exact DK (by simp only at *;omega) (by simp only at *;omega)
 .exact h
def yY (l:γ) (w:β) (e:Ending) (a:β):Prop:=e=ŗ (š (δ l))/\Below w.heap.size w a
def Ge (v:ε) (l) (w:β) (ad:ϭ w) (h:Rd w v (L l) 1 (τ l)) (V:∀ c∈l,fR c=true) (ar:L l<=100000) :
  Calls prog 268 #[v] w (yY (term l) w):=by
 obtain⟨ah,hi,ae,af,ag⟩:=Ϩ lh;obtain⟨j,c,rfl,au,a1⟩:∃ j c,v=D j (L l) c/\(L l<=9223372036854775807)/\Hid (∀ f (hi:f<L l),∃ b off,j=J ⟨b,off,O⟩/\w.cell? ⟨b,off+f,O⟩=J (G l[f])):=by
  obtain⟨-,-,⟨j,c,rfl,Q⟩|⟨b,off,c,rfl,-,-,-,R⟩⟩:=h
  .exact⟨j,c,by rw[Q],U,fun f hi=>U⟩
  .exact⟨_,c,rfl,U,fun f hi=>⟨b,off,rfl,R f _ (by simp[τ])⟩⟩
 have a0:=Zh V;go_enter func268,ntmps268;go_wp2;go_loopw [3,10] (fun o f wr=>∃ (d:Nat) (a:γ),d<=L l/\f=G d/\L a<=64/\Hid (term l=lp a (l.drop d))/\wr.ownsRow w.heap.size 5 1 o (L a) (η a)/\BQ w wr) (fun _ f _=>L l - (intOf f).toNat)
 .exact⟨0,_,Ζ _,rfl,ύ,rfl,gQ _ _ _ _,ρ _ _⟩
 obtain⟨d,a,aq,rfl,aw,r,p,i⟩:=hrel;have K:=i.size;obtain⟨ak,al,rfl⟩:=Η p;by_cases F:d<L l
 .obtain⟨b,off,rfl,B⟩:=a1.o d F
  have ao:=(i.cell (ii w _ B)).trans B;have E:fR l[d]=true:=a0.o _ (Ψ _);have an:=qH E;have X:=lL F;have A:=PQ l[d] wr (ad.B (i.M NZ)) U U;have z:=fun(u:β)=>zI _ u (FK E);have ap:=zH (gE l[d]);have I:Hid (lp a (l.drop d)=if 64<L a+L (enc (gE l[d])) then a else lp (a++enc (gE l[d])) (l.drop (d+1))):=by
   show _=_;rw[X];rfl
  generalize Y:enc _=g at *;clear Y;have y:=Zh A;clear A;have x:=Zh z;clear z;have am:L a+L g<=68:=U;by_cases N:64<L a+L g
  .have av:(64:Int)<(L a:Int)+(L g:Int):=U
   have n:Hid (term l=a):=by
    show _=_;rw[r.o,I.o,μ N]
   go_wp2_with (first|(go_at_call 310;refine y.o.M ?_;rintro e u ⟨rfl,s⟩)|(go_at_call 165;refine(x.o _).M ?_;rintro e M ⟨aj,rfl,q,t⟩;obtain⟨P,c2,rfl⟩:=Η q;have m:=s.t t;have k:=i.trans (m.M K);have ac:=(Rd.of_own p).B m;have W:=oM  M 31 9 5 gv mA kH _ a ac))
   go_ret;exact⟨by rw[n.o];rfl,k⟩
  .have T:L (a++g)<=64:=ό
   have n:Hid (term l=lp (a++g) (l.drop (d+1))):=by
    show _=_;rw[r.o,I.o,κ N]
   go_wp2_with (first|(go_at_call 310;refine y.o.M ?_;rintro e u ⟨rfl,s⟩)|(go_at_call 165;refine(x.o _).M ?_;rintro e M ⟨aj,rfl,q,t⟩;obtain⟨P,c2,rfl⟩:=Η q;have m:=s.t t;have k:=i.trans (m.M K);have H:=ψ p m)|(at_builtin;refine ϻ rfl _ _ _ _ rfl _ 5 ah _ 1 1 gv hi ae af ag rfl _ _ _ rfl H _ _ _ rfl ((Rd.of_own q).src gv (mM g)) ώ U k.size ?_;intro ax ay ab Z _ _;have S:=k.grown Z k.size (fun ai aa=>(H.lt ai aa).1)))
   go_roundw
   .refine⟨ _,_,U,ϕ,T,n,?_,S⟩
    rw[σ,qx];exact ab
   exact ω
 .have n:Hid (term l=a):=by
   show _=_;rw[r.o,mg U];rfl
  have W:=oM  wr 31 9 5 gv mA kH _ a (Rd.of_own p);go_wp2;go_ret;exact⟨by rw[n.o];rfl,i⟩
def pU:(prog.info? 9).map (fun i=>(i.zero,i.size,i.bytes))=J (J (š ByteArray.empty),1,16):=ϋ
def χ (a:List (γ)):List ε:=a.map Ϫ
def Pl (a):L (χ a)=L a:=by simp[χ]
def nE (a b):χ (a++b)=χ a++χ b:=by simp[χ]
theorem tE (a):∀ u∈χ a,u.oneCell'=true:=by
 intro u c;simp only[χ,ih]at c;obtain⟨b,_,rfl⟩:=c;rfl
def own_ne {w:β} {b b' e e' s s'} {v d:ε} {n n'} {p j:List ε} (h:w.ownsRow b e s v n p) (f:w.ownsRow b' e' s' d n' j) (i:e≠e'):v.ownBlock=O\/v.ownBlock≠d.ownBlock:=by
 rcases h.2 with ⟨rfl,_⟩|⟨g,k,cur,rfl,_,hg,_⟩
 .exact .inl rfl
 .right
  rcases f.2 with ⟨rfl,_⟩|⟨o,l,m,rfl,_,a,_⟩
  .simp[Value.ownBlock]
  .intro c
   simp only[Value.ownBlock,Φ]at c;subst c;rw[hg]at a;simp at a;exact i a.2
def Ba (v:ε) (l:γ) (w:β) (aU:ϭ w) (h:Rd w v (L l) 1 (η l)) (aT:L l<=100000) :
  Calls prog 199 #[v] w (iJ w 9 1 (L (Θ l)) (χ (Θ l))):=by
 obtain⟨aE,hi,aB,aC,aD⟩:=Ϩ oB;obtain⟨aF,t,ay,az,aA⟩:=Ϩ pU;have ap:=CQ v l w h aT;have ao:=zy l;have a1:=wR l;have ax:Θ l=(nI (gg l)).map term:=rfl;generalize gg l=j at *;have ah:=Zh ax;clear ax;have aJ:=Zh ao;clear ao;have aK:=Zh ap;clear ap;go_enter func199,ntmps199;go_wp2_with (go_at_call 162;refine aK.o.M ?_;rintro e m ⟨a3,rfl,av,T⟩;obtain⟨aL,c1,rfl⟩:=Η av)
 have aO:Hid (∀ d (ad:d<L j),∃ b off,aL=J ⟨b,off,O⟩/\m.cell? ⟨b,off+d,O⟩=J (G j[d])):=by
  obtain⟨-,-,⟨aW,c,ae,aX⟩|⟨b,off,c,ae,-,-,-,aM⟩⟩:=Rd.of_own av
  .intro d ad;omega
  .simp only[Χ]at ae
   exact fun d ad=>⟨b,off,ae.1,aM d _ (by simp[τ])⟩
 have aw:=aU.B T;go_loopw [3,4,10] (fun a4 p af wr=>∃ (d:Nat) (g:List (List Int)) (cur:List Int),d<=L j/\af=G d/\Hid (nI j=g++iP cur (j.drop d))/\L g<=d/\L cur<=d/\Hid (∀ c∈cur,fR c=true)/\wr.ownsRow m.heap.size 9 1 a4 (L g) (χ (g.map term))/\wr.ownsRow m.heap.size 3 1 p (L cur) (τ cur)/\BQ m wr) (fun _ _ af _=>L j - (intOf af).toNat)
 .exact⟨0,[],_,Ζ _,rfl,rfl,NZ,NZ,fun _ h=>by simp at h,gQ _ _ _ _,gQ _ _ _ _,ρ _ _⟩
 obtain⟨d,g,cur,ad,rfl,HW,a0,aY,a5,F,u,q⟩:=hrel;have o:=q.size;have V:=T.size;obtain⟨ai,aj,rfl⟩:=Η u;by_cases au:d<L j
 .obtain⟨b,off,rfl,al⟩:=aO.o d au
  have aZ:=(q.cell (ii m _ al)).trans al;have am:fR j[d]=true:=aJ.o _ (Ψ _);have aq:=lL au;have W:=aw.B q;have A:=DW j[d] wr W;have M:=fun(i:β)=>CW j[d] i;generalize a2:j[d]=x at *;have ak:∀ p∈[G x],p.oneCell'=true:=by intro p y;simp at y;subst y;rfl
  have ag:=Zh ak;clear ak;have Y:=Zh aq;clear aq;have aI:=Zh am;clear am;by_cases I:gm x=true
  .have r:Hid (∀ (i f:β) (k:ε),BQ wr i->f.ownsRow m.heap.size 3 1 k (L cur+1) (τ cur++[G x])->(å i (C #[G x] 3)).grownBy f (Value.slice ai (L cur) aj).ownBlock ->
     f.ownsRow m.heap.size 3 1 k (L (cur++[x])) (τ (cur++[x]))/\f.ownsRow m.heap.size 9 1 u3 (L g) (χ (g.map term))/\BQ m f):=by
    intro i f k a ab R;have aG:=(ψ F a).A (C #[G x] 3);have aV:=(ψ u a).A (C #[G x] 3);refine⟨by rw[σ,mP];exact ab,aG.kept R (own_ne aG aV ϐ),((q.trans (a.M o)).A (ι a.size) _).grown R (by have:=a.size;simp;omega) (fun P t=>(u.lt P t).1)⟩
   have K:Hid (nI j=g++iP (cur++[x]) (j.drop (d+1))):=by
    show _=_;rw[HW.o,Y.o,vN _ _ _ I]
   have an:Hid (∀ c∈cur++[x],fR c=true):=by
    intro c hc;rcases nj.1 hc with hc|hc
    .exact a5.o c hc
    .simp at hc;subst hc;exact aI.o
   cases S:li x with
   |true =>
    rw[S]at A;have H:=Zh A;clear A S I M;go_wp2_with (first|(go_at_call 163;refine H.o.M ?_;rintro e i ⟨rfl,a⟩)|(at_builtin;refine ϻ rfl _ _ _ _ rfl _ 3 aE _ 1 8 gl hi aB aC aD rfl _ _ _ rfl ((ψ u a).A _) _ 1 [G x] rfl (gh gl i _ 1 1 1 rfl ag.o) ώ U (by have:=a.size;simp;omega) ?_;intro k f X E _ _))
    obtain⟨f1,f2,f3⟩:=r.o i f k a X E;go_wp2;go_roundw
    .exact⟨ _,g,_,U,ϕ,K,U,ό,an,f2,f1,f3⟩
    exact ω
   |false =>
    have aQ:oC x=true:=by unfold gm at I;rw[S]at I;simpa using I
    rw[S]at A;rw[aQ]at M;have⟨H,Q⟩:=π A M;go_wp2_with (first|(go_at_call 163;refine H.o.M ?_;rintro e i ⟨rfl,a⟩)|(go_at_call 164;refine(Q.o _).M ?_;rintro e aH ⟨rfl,rfl⟩)|(at_builtin;refine ϻ rfl _ _ _ _ rfl _ 3 aE _ 1 8 gl hi aB aC aD rfl _ _ _ rfl ((ψ u a).A _) _ 1 [G x] rfl (gh gl i _ 1 1 1 rfl ag.o) ώ U (by have:=a.size;simp;omega) ?_;intro k f X E _ _))
    obtain⟨f1,f2,f3⟩:=r.o i f k a X E;go_wp2;go_roundw
    .exact⟨ _,g,_,U,ϕ,K,U,ό,an,f2,f1,f3⟩
    exact ω
  .have s:gm x=false:=by simpa using I
   have aS:li x=false:=by unfold gm at s;simp at s;exact s.1
   have aR:oC x=false:=by unfold gm at s;simp at s;exact s.2
   rw[aS]at A;rw[aR]at M;have⟨H,Q⟩:=π A M;by_cases B:cur=[]
   .subst B
    have K:Hid (nI j=g++iP [] (j.drop (d+1))):=by
     show _=_;rw[HW.o,Y.o,yi _ _ s]
    go_wp2_with (first|(go_at_call 163;refine H.o.M ?_;rintro e i ⟨rfl,a⟩)|(go_at_call 164;refine(Q.o _).M ?_;rintro e aH ⟨rfl,rfl⟩))
    go_roundw
    .exact⟨ _,g,_,U,ϕ,K,U,ύ,fun c h=>by simp at h,ψ F a,ψ u a,q.trans (a.M o)⟩
    exact ω
   .have aP:=pA.2 B
    have K:Hid (nI j=(g++[cur])++iP [] (j.drop (d+1))):=by
     show _=_;rw[HW.o,Y.o,yh _ _ _ s B];simp
    have aa:Hid (∀ i,BQ wr i->Calls prog 268 #[D ai (L cur) aj] i (yY (term cur) i)):=by
     intro i a;exact Ge _ cur i (W.B a) (Rd.of_own (ψ u a)) a5.o U
    have N:∀ p∈[Value.string (δ (term cur))],p.oneCell'=true:=by intro p y;simp at y;subst y;rfl
    have Z:=Zh N;clear N;have r:Hid (∀ (z f:β) (k:ε),BQ wr z->f.ownsRow m.heap.size 9 1 k (L g+1) (χ (g.map term)++[Value.string (δ (term cur))])->(å z (C #[Value.string (δ (term cur))] 9)).grownBy f u3.ownBlock ->
      f.ownsRow m.heap.size 9 1 k (L (g++[cur])) (χ ((g++[cur]).map term))/\BQ m f):=by
     intro z f k n ab R;refine⟨?_,((q.trans (n.M o)).A (ι n.size) _).grown R (by have:=n.size;simp;omega) (fun P t=>(F.lt P t).1)⟩;rw[σ,ng,nE];exact ab
    go_wp2_with (first|(go_at_call 163;refine H.o.M ?_;rintro e i ⟨rfl,a⟩)|(go_at_call 164;refine(Q.o _).M ?_;rintro e aH ⟨rfl,rfl⟩)|(go_at_call 268;refine(aa.o _ a).M ?_;rintro e z ⟨rfl,n⟩;have ac:=a.t n)|(at_builtin;refine ϻ rfl _ _ _ _ rfl _ 9 aF _ 1 _ ju t ay az aA rfl _ _ _ rfl ((ψ F ac).A _) _ 1 [Value.string _] rfl (gh ju z _ 1 1 1 rfl Z.o) ώ U (by have:=ac.size;simp;omega) ?_;intro k f X E _ _))
    obtain⟨f1,f2⟩:=r.o z f k ac X E;go_wp2;go_roundw
    .exact⟨ _,_,_,U,ϕ,K,ό,ύ,fun c h=>by simp at h,f1,gQ _ _ _ _,f2⟩
    exact ω
 .have ar:j.drop d=[]:=mg U
  have W:=aw.B q;by_cases B:cur=[]
  .subst B
   have r:Hid (Θ l=g.map term):=by
    show _=_;rw[ah.o,HW.o,ar,rg];simp
   go_wp2;go_ret;rw[r.o];exact⟨_,rfl,by rw[hU];exact gX F V,T.trans (q.M V)⟩
  .have aP:=pA.2 B
   have r:Hid (Θ l=(g++[cur]).map term):=by
    show _=_;rw[ah.o,HW.o,ar,rg,κ B]
   have aa:=Zh (Ge _ cur wr W (Rd.of_own u) a5.o U);have N:∀ p∈[Value.string (δ (term cur))],p.oneCell'=true:=by intro p y;simp at y;subst y;rfl
   have Z:=Zh N;clear N;go_wp2_with (first|(go_at_call 268;refine aa.o.M ?_;rintro e z ⟨rfl,n⟩)|(at_builtin;refine ϻ rfl _ _ _ _ rfl _ 9 aF _ 1 _ ju t ay az aA rfl _ _ _ rfl ((ψ F n).A _) _ 1 [Value.string _] rfl (gh ju z _ 1 1 1 rfl Z.o) ώ U (by have:=n.size;simp;omega) ?_;intro k f X E _ _))
   have aN:BQ m f:=((q.trans (n.M o)).A (ι n.size) _).grown E (by have:=n.size;simp;omega) (fun P t=>(F.lt P t).1);go_wp2;go_ret;rw[r.o];refine⟨_,rfl,?_,T.trans (aN.M V)⟩;rw[hU,σ,ng,nE];exact gX X V
def Ns (w:β) (l:γ) (e) (d:L l<=maxLen):Rd (å w.drew (C (bytesRow (δ l) (grownCap w (δ l).size 0 e)) e ((bytesRow (δ l) (grownCap w (δ l).size 0 e)).size,(bytesRow (δ l) (grownCap w (δ l).size 0 e)).size+1))) (D (J ⟨w.heap.size,0,O⟩) (δ l).size (grownCap w (δ l).size 0 e)) (L l) 1 (η l):=by
 have c:=iG l;have i:=grownCap_ge w (δ l).size 0 e;have h:=wb w (δ l).size 0 e (by rw[c];exact d);generalize grownCap w _ 0 e=a at *;refine⟨by rw[oA];omega,d,?_⟩;rcases nK (L l) with h0|h0
 .exact .inl ⟨_,a,by rw[c,h0],h0⟩
 .refine .inr ⟨w.heap.size,0,a,by rw[c],h0,U,h,fun b j f=>?_⟩
  have g:(å w.drew (C (bytesRow (δ l) a) e ((bytesRow (δ l) a).size,(bytesRow (δ l) a).size+1))).heap[w.heap.size]?=J (C (bytesRow (δ l) a) e ((bytesRow (δ l) a).size,(bytesRow (δ l) a).size+1)):=φ _ _;rw[show 0+b=b from U,ξ _ w.heap.size b _ e _ g];have hi:b<L l:=by rw[<-oA];exact(lK.1 f).1
  unfold bytesRow;rw[Array.getElem?_append_left (by simp[δ];exact hi)];rw[<-f];simp[δ,η,ch]
def hN (l:γ):(δ l).toList=l:=by rw[Bv];simp[δ]
def iT (l:γ):Bool:=Θ l==[l]
def Ow {t} (h:iT t=true):L t<=64:=by
 have a:=eq_of_beq h;exact xX t t (by rw[a];simp)
theorem xZ (l:γ) (w:β) (r:ϭ w) (o:L l<=100000) :
  Calls prog 167 #[š (δ l)] w fun e w'=>e=ŗ (.bool (iT l))/\BQ w w':=by
 have z:=run_bytes_of_string  w 9 31 5 (δ l) kH gv mA;have q:=Ns w l 5 ώ;generalize m:(å w.drew _)=i at *;have d:BQ w i:=by rw[<-m];exact(RZ.drew).A NZ _
 generalize(Value.slice _ _ _)=s at *;have k:=Ba s l i (r.B d) q o;have A:L (Θ l)<=100000:=ι (tN l);have p:iT l=(Θ l==[l]):=rfl;generalize Θ l=j at *;have⟨g,f⟩:=π k p;by_cases b:L j=1
 .obtain⟨B,rfl⟩:=List.length_eq_one_iff.1 b
  go_enter func167,ntmps167;go_wp2_with (go_at_call 199;refine g.o.M ?_;rintro e u ⟨t,rfl,a,c⟩;obtain⟨x,c1,rfl⟩:=kO a ύ;have n:=a.cellAt 0 ύ;simp[χ,Ϫ]at n)
  go_ret;refine⟨jm ?_,d.t c⟩;rw[f.o];simp[hN]
 .have y:((L j:Int)==1)=false:=fU.2 U
  go_enter func167,ntmps167;go_wp2_with (go_at_call 199;refine g.o.M ?_;rintro e u ⟨t,rfl,a,c⟩;obtain⟨v,c1,rfl⟩:=Η a)
  go_ret;refine⟨jm ?_,d.t c⟩;rw[f.o];symm;rw[nf];intro h;have:=eq_of_beq h;rw[this]at b;exact b rfl
abbrev ϰ:=γ×List Int
def lA (e:ϰ):Bool:=!e.2.isEmpty && ge e.2 && iT e.1
def tA:List ϰ->Bool
 |[]=>true
 |[_]=>true
 |a::b::r=>ltStr a.1 b.1 && tA (b::r)
def iC (d:List ϰ):Bool:=d.all lA && tA d
def AG:∀ d:List ϰ,tA d=true↔∀ i (h:i+1<L d),ltStr (d[i]' U).1 d[i+1].1=true
 |[]=>by simp[tA]
 |[a]=>by simp[tA]
 |a::b::r=>by
  rw[tA,gt,AG (b::r)];constructor
  .rintro⟨c,e⟩ i hi
   cases i with
   |zero=>exact c
   |succ i=>exact e i (by simpa using hi)
  .intro h
   exact⟨h 0 ύ,fun i hi=>h (i+1) (by simpa using hi)⟩
def CS {d} (a:∀ i (f:i<L d),lA d[i]=true) (b:∀ i (h:i+1<L d),ltStr (d[i]' U).1 d[i+1].1=true):iC d=true:=by
 unfold iC;rw[gt,kT,AG];refine⟨fun e c=>?_,b⟩;obtain⟨i,f,rfl⟩:=wh.1 c;exact a i f
def Jr {d} (i) (b:i<L d) (h:lA d[i]=false):iC d=false:=by
 rw[nf];intro a;unfold iC at a;rw[gt,kT]at a;rw[a.1 _ (Ψ b)]at h;cases h
def Js {d} (i hi) (h:ltStr (d[i]' U).1 d[i+1].1=false):iC d=false:=by
 rw[nf];intro a;unfold iC at a;rw[gt,AG]at a;rw[a.2 i hi]at h;cases h
def Jq {d} (h:iC d=true) (i) (a:i<L d):lA d[i]=true:=by
 unfold iC at h;rw[gt,kT]at h;exact h.1 _ (Ψ a)
def zJ (e):lA e=true↔e.2≠[]/\ge e.2=true/\iT e.1=true:=by
 unfold lA;simp[and_assoc]
def me (f t:Int):Bool:=decide (0<=f) && decide (f<t) && decide (t<=1000)
def lZ (f t:Int) (d:List ϰ):Bool:=me f t && iC d && d.all fun e=>e.2.all (jd f t)
def JT (p) (l:List Int):(L (l.filter p)=L l)↔l.all p=true:=by
 rw[kT];constructor
 .intro h
  exact List.length_filter_eq_length_iff.1 h
 .intro h
  exact List.length_filter_eq_length_iff.2 h
def kw:List (List ϰ)->Option (γ)
 |[]=>O
 |[]::r=>kw r
 |(e::_)::r=>match kw r with
  |none=>J e.1
  |some a=>J (if ltStr a e.1 then a else e.1)
def kM (t:γ):List (List ϰ)->List Int
 |[]=>[]
 |[]::r=>kM t r
 |(e::_)::r=>if e.1=t then e.2++kM t r else kM t r
def kt (t:γ):List ϰ->List ϰ
 |[]=>[]
 |e::d=>if e.1=t then d else e::d
def jM:Nat->List (List ϰ)->List ϰ
 |0,_=>[]
 |f+1,ds=>match kw ds with
  |none=>[]
  |some a=>(a,kM a ds)::jM f (ds.map (kt a))
section
open Go.RowKit Go.Sort Go.Maps
open Go.ChangeShapes (lits)
def gb (b:List (γ)) (t:γ) (c n:Nat):List Int:=((List.range' c n).filter fun a:Nat=>decide (t∈Θ (b.getD a []))).map fun a:Nat=>(a:Int)
def qY (a:List (γ)):L (fW a)<=L a:=by
 have h:fW a=Lib.compactUpTo (a.mergeSort fun x y=>!ltStr y x).toArray (L (a.mergeSort fun x y=>!ltStr y x)):=rfl;rw[h,Lib.compactUpTo,hU];refine gj (List.length_filter_le _ _) ?_;rw[List.length_range,ub];exact NZ
def gI (b:List (γ)) (c n:Nat):List (γ):=(List.range' c n).flatMap fun a=>fW (Θ (b.getD a []))
def iw (b:List (γ)) (c n:Nat):List ϰ:=(fW (gI b c n)).map fun a=>(a,gb b a c n)
theorem uz (docs B) (a:∀ d∈docs,L d<=B):∀ (n i:Nat),L (gI docs i n)<=n*B
 |0,i=>by simp[gI]
 |n+1,i=>by
  have g:=uz docs B a n (i+1);have b:gI docs i (n+1)=fW (Θ (docs.getD i []))++gI docs (i+1) n:=by
   unfold gI;rw[List.range'_succ,lF]
  have c:L (docs.getD i [])<=B:=by
   rw[fX];rcases pC i (L docs) with h|h
   .rw[Ρ h];exact a _ (Ψ h)
   .rw[ls h];exact Ζ _
  have e:=qY (Θ (docs.getD i []));have f:=tN (docs.getD i []);rw[b,σ,Nat.succ_mul];omega
theorem DC (docs t lo n):gb docs t lo (n+1)=gb docs t lo n++(if t∈Θ (docs.getD (lo+n) [])then[((lo+n:Nat):Int)]else[]):=by
 unfold gb;rw[List.range'_concat,List.filter_append,ng,pF]
 congr 1
 by_cases h:t∈Θ (docs.getD (lo+n) [])
 .rw[μ h,List.filter_cons_of_pos (by simpa using h)];rfl
 .rw[κ h,List.filter_cons_of_neg (by simpa using h)];rfl
def zW {docs t lo n z}:z∈gb docs t lo n↔∃ i:Nat,z=(i:Int)/\lo<=i/\i<lo+n/\t∈Θ (docs.getD i []):=by
 unfold gb;simp only[ih,ud,List.mem_range'_1,hP];constructor
 .rintro⟨i,⟨⟨a,b⟩,c⟩,rfl⟩;exact⟨i,rfl,a,b,c⟩
 .rintro⟨i,rfl,a,b,c⟩;exact⟨i,⟨⟨a,b⟩,c⟩,rfl⟩
def Ai {docs t lo n}:t∈gI docs lo n↔gb docs t lo n≠[]:=by
 rw[show(gb docs t lo n≠[])=∃ z,z∈gb docs t lo n from propext ⟨fun h=>List.exists_mem_of_ne_nil _ h,fun⟨z,a⟩ e=>by rw[e]at a;cases a⟩];unfold gI;simp only[List.mem_flatMap,List.mem_range'_1,nZ];constructor
 .rintro⟨b,⟨c,d⟩,f⟩;exact⟨ b,zW.2 ⟨b,rfl,c,d,f⟩⟩
 .rintro⟨z,a⟩
  obtain⟨b,-,c,d,f⟩:=zW.1 a;exact⟨b,⟨c,d⟩,f⟩
def DB (docs t lo n):L (gb docs t lo n)<=n:=by
 unfold gb;rw[hU];exact gj (List.length_filter_le _ _) ύ
def xl (a:List Int):DataW Unit:=if a=[]then .nil else .slice (lits .i64 a) []
def lu (b:DataW Unit) (c:γ->List Int):Prop:=IsMap b/\∀ a,b.atKey (.string a) .nil=xl (c a)/\Maps.has b (.string a)=decide (c a≠[])
def lu.start:lu (.map []) (fun _=>[]):=⟨isMap_empty,fun a=>⟨rfl,by simp[Maps.has]⟩⟩
def lu.congr {D F a} (h:lu D F) (b:∀ t,F t=a t):lu D a:=by
 obtain rfl:F=a:=funext b;exact h
def lu.put {D F} (h:lu D F) (s:γ) (x):lu (D.put (.string s) (.slice (lits .i64 (F s++[x])) [])) (fun t=>if t=s then F s++[x]else F t):=by
 have a:∀ c:γ,WideAt.IsKeyLit (.string c):=fun _=>trivial;refine⟨h.1.put _ _,fun t=>?_⟩;by_cases e:t=s
 .subst e
  simp only[if_true];refine⟨?_,?_⟩
  .rw[atKey_put_same h.1 (a _)]
   unfold xl;rw[κ ύ]
  .rw[has_put_same h.1 (a _)];simp
 .have b:Lit.string t≠Lit.string s:=fun h=>e (by cases h;rfl)
  simp only[κ e];exact⟨by rw[atKey_put_other b];exact(h.2 t).1,by rw[has_put_other b];exact(h.2 t).2⟩
def oa (a:List (γ)) (b n j:Nat) (t:γ):List Int:=gb a t b n++(if t∈(fW (Θ (a.getD (b+n) []))).take j then[((b+n:Nat):Int)]else[])
def LW (docs lo n t):oa docs lo n 0 t=gb docs t lo n:=by simp[oa]
def LU (docs lo n j) (a:L (fW (Θ (docs.getD (lo+n) [])))<=j) (t):oa docs lo n j t=gb docs t lo (n+1):=by
 unfold oa;rw[DC,gF a];simp only[nZ]
def Fi {l:List (γ)} (h:mJ ltStr l):l.Nodup:=by
 refine h.imp ?_;rintro a b c rfl;simp[swo_ltStr.irrefl]at c
def LV (docs lo n j) (s:γ) (d:j<L (fW (Θ (docs.getD (lo+n) [])))) (h:(fW (Θ (docs.getD (lo+n) [])))[j]=s) :
  oa docs lo n j s=gb docs s lo n/\∀ t,(if t=s then oa docs lo n j s++[((lo+n:Nat):Int)]else oa docs lo n j t)=oa docs lo n (j+1) t:=by
 have g:=Fi (tC (Θ (docs.getD (lo+n) [])));unfold oa;generalize fW _=l at *;have c:l.take (j+1)=l.take j++[s]:=by rw[jt d,h]
 have b:s∉l.take j:=by
  intro f;have a:(l.take (j+1)).Nodup:=g.sublist (List.take_sublist _ _);rw[c]at a;exact(List.nodup_append.1 a).2.2 s f s ύ rfl
 refine⟨by rw[κ b,iy],fun t=>?_⟩;rw[c];by_cases e:t=s
 .subst e
  rw[μ rfl,κ b,iy,μ ύ]
 .rw[κ e]
  congr 1
  simp[e]
def Ll {D F} (h:lu D F) (i:∃ c,D=.map c/\c.Pairwise (fun p q=>p.1≠q.1)/\∀ p∈c,∃ x,p.1=.string x) {l d:List (γ)} (j:∀ t,t∈l↔F t≠[]) (k:d.Perm (strKeys D)) :
  d.mergeSort (fun x y=>decide (x<=y))=fW l:=by
 obtain⟨c,rfl,e,f⟩:=i;have m:=perm_strKeys e f (Fi (tC l)) fun x=>by rw[nZ,j,(h.2 x).2,hP]
 rw[mergeSort_of_perm (k.trans m.symm)];refine List.mergeSort_of_pairwise ((tC l).imp ?_);intro a b g;simp only[hP];exact List.le_of_lt (by simpa[ltStr] using g)
end
def Ag {a b:γ} (h:ltStr a b=false) (c:a≠b):ltStr b a=true:=by
 cases d:ltStr b a with
 |true=>rfl
 |false=>exact absurd (rf _ _ h d) c
def vf:∀ {a:List (List ϰ)},kw a=O↔∀ d∈a,d=[]
 |[]=>by simp[kw]
 |[]::r=>by
  rw[kw,vf];simp
 |(e::d)::r=>by
  rw[kw];constructor
  .intro h;split at h<;>cases h
  .intro h;exact absurd (h _ (pE ..)) ύ
def vg:∀ {m:List (List ϰ)} {t:γ},kw m=J t->(∃ e r,(e::r)∈m/\e.1=t)/\∀ e r,(e::r)∈m->ltStr e.1 t=false
 |[],t,h=>by simp[kw]at h
 |[]::q,t,h=>by
  rw[kw]at h;obtain⟨⟨e,r,i,j⟩,c⟩:=vg h;refine⟨⟨e,r,oQ _ i,j⟩,fun a b hm=>?_⟩;rcases hH.1 hm with hm|hm
  .cases hm
  .exact c a b hm
 |(e::d)::q,t,h=>by
  rw[kw]at h;cases g:kw q with
  |none =>
   rw[g]at h;simp only[Φ]at h;subst h;refine⟨⟨e,d,pE ..,rfl⟩,fun a b hm=>?_⟩;rcases hH.1 hm with hm|hm
   .obtain⟨rfl,rfl⟩:=List.cons.inj hm
    exact swo_ltStr.irrefl _
   .have:=vf.1 g _ hm
    cases this
  |some l =>
   rw[g]at h;simp only[Φ]at h;obtain⟨⟨k,r1,i,j⟩,c⟩:=vg g;cases f:ltStr l e.1 with
   |true =>
    rw[f,μ rfl]at h;subst h;refine⟨⟨k,r1,oQ _ i,j⟩,fun a b hm=>?_⟩;rcases hH.1 hm with hm|hm
    .obtain⟨rfl,rfl⟩:=List.cons.inj hm
     exact swo_ltStr.asymmA f
    .exact c a b hm
   |false =>
    rw[f,κ ϐ]at h;subst h;refine⟨⟨e,d,pE ..,rfl⟩,fun a b hm=>?_⟩;rcases hH.1 hm with hm|hm
    .obtain⟨rfl,rfl⟩:=List.cons.inj hm
     exact swo_ltStr.irrefl _
    .exact swo_ltStr.ntrans _ _ _ (c a b hm) f
def LX {o:List (List ϰ)} {t:γ} (c:∃ e r,(e::r)∈o/\e.1=t) (i:∀ e r,(e::r)∈o->ltStr e.1 t=false):kw o=J t:=by
 cases h:kw o with
 |none =>
  obtain⟨e,r,j,-⟩:=c;have:=vf.1 h _ j;cases this
 |some n =>
  obtain⟨⟨e,r,d,f⟩,g⟩:=vg h;obtain⟨m,r1,k,l⟩:=c;have a:=g _ _ k;have b:=i _ _ d;rw[l]at a;rw[f]at b;rw[rf _ _ a b]
def kf (d:List ϰ) (t:γ):List Int:=match d with
 |[]=>[]
 |e::r=>if e.1=t then e.2++kf r t else kf r t
def lm (d:List ϰ):Prop:=mJ ltStr (d.map (·.1))
def xm {d:List ϰ} {t:γ} (h:∀ e∈d,e.1≠t):kf d t=[]:=by
 induction d with
 |nil=>rfl
 |cons e r b=>rw[kf,κ (h e (pE ..)),b fun x a=>h x (oQ _ a)]
def tB {e d}:lm (e::d)↔(∀ x∈d,ltStr e.1 x.1=true)/\lm d:=by
 unfold lm mJ;rw[ij,oT];simp
def xp {a b:γ} (h:ltStr a b=true):b≠a:=by
 rintro rfl;rw[swo_ltStr.irrefl]at h;cases h
def Ad {e d} (h:lm (e::d)):kf (e::d) e.1=e.2:=by
 rw[kf,μ rfl,xm fun x a=>xp ((tB.1 h).1 x a),iy]
def DY {d} (h:lm d):∀ e∈d,kf d e.1=e.2:=by
 induction d with
 |nil=>intro e he;cases he
 |cons x r f =>
  intro e he;obtain⟨b,c⟩:=tB.1 h;rcases hH.1 he with rfl|he
  .exact Ad h
  .rw[kf,κ (fun a=>xp (b e he) a.symm),f c e he]
def DZ {d} (b:∀ e∈d,e.2≠[]) (t):kf d t≠[]↔t∈d.map (·.1):=by
 induction d with
 |nil=>simp[kf]
 |cons e r a =>
  have a:=a fun x c=>b x (oQ _ c);rw[kf,ij,hH];by_cases h:e.1=t
  .rw[μ h]
   have:=b e (pE ..);simp[h,this]
  .rw[κ h,a]
   simp[Ne.symm h]
def JO {a b} (c:lm a) (f:lm b) (l:∀ e∈a,e.2≠[]) (m:∀ e∈b,e.2≠[]) (h:∀ t,kf a t=kf b t):a=b:=by
 have g:∀ {d:List ϰ},lm d->d=(d.map (·.1)).map fun t=>(t,kf d t):=by
  intro d i;rw[List.map_map]
  conv=>lhs;rw[<-List.map_id d]
  refine vW fun e j=>?_;simp only[id,Function.comp,DY i e j]
 have k:=Fj swo_ltStr c f fun t=>by rw[<-DZ l,<-DZ m,h]
 rw[g c,g f,k];refine vW fun t _=>by rw[h]
def looks (a:List (List ϰ)) (t:γ):List Int:=a.flatMap fun d=>kf d t
theorem sT (t:γ) (x r):kt t (x::r)=if x.1=t then r else x::r:=rfl
def De {t:γ} {d e} (h:e∈kt t d):e∈d:=by
 cases d with
 |nil=>cases h
 |cons x r =>
  rw[sT]at h;split at h
  .exact oQ _ h
  .exact h
def JB {t:γ} {d} (h:lm d):lm (kt t d):=by
 cases d with
 |nil=>exact h
 |cons x r =>
  rw[sT];split
  .exact(tB.1 h).2
  .exact h
def JA {t:γ} {d} (h:lm d) (f:∀ e r,d=e::r->ltStr e.1 t=false):∀ e∈kt t d,ltStr t e.1=true:=by
 cases d with
 |nil=>intro e he;cases he
 |cons x r =>
  obtain⟨b,i⟩:=tB.1 h;have g:=f x r rfl;intro e he;rw[sT]at he;split at he
  .rename_i a
   rw[<-a];exact b e he
  .rename_i a
   have c:=Ag g a;rcases hH.1 he with rfl|he
   .exact c
   .exact swo_ltStr.trans _ _ _ c (b e he)
theorem zB {t:γ}:∀ {i:List (List ϰ)},(∀ d∈i,lm d)->(∀ e r,(e::r)∈i->ltStr e.1 t=false)->kM t i=looks i t
 |[],_,_=>rfl
 |[]::q,h1,h2=>by
  rw[kM,zB (fun d b=>h1 d (oQ _ b)) (fun e r c=>h2 e r (oQ _ c))];rfl
 |(e::d)::q,h1,h2=>by
  have g:=zB   (fun d b=>h1 d (oQ _ b)) (fun e r c=>h2 e r (oQ _ c));have f:=h1 _ (pE ..);unfold looks at g ⊢;rw[kM,g,lF];split
  .rename_i a
   rw[<-a,Ad f]
  .rename_i a
   rw[xm (d:=e::d) fun x hx=>?_]
   .rfl
   .have h:=Ag (h2 _ _ (pE ..)) a
    rcases hH.1 hx with rfl|hx
    .exact a
    .exact xp (swo_ltStr.trans _ _ _ h ((tB.1 f).1 x hx))
theorem LI {t u:γ} (a:u≠t) (d):kf (kt t d) u=kf d u:=by
 cases d with
 |nil=>rfl
 |cons x r =>
  rw[sT];split
  .rename_i b
   rw[kf,κ (fun e=>a (e.symm.trans b))]
  .rfl
def Dd (t:γ) (d):L (kt t d)<=L d:=by
 cases d with
 |nil=>exact NZ
 |cons x r=>rw[sT];split<;>simp
def jL (a:List (List ϰ)):Nat:=(a.map List.length).sum
theorem DT {d}:∀ {a:List (List ϰ)},d∈a->L d<=jL a
 |[],h=>by cases h
 |x::q,h=>by
  unfold jL;simp only[ij,List.sum_cons];rcases hH.1 h with rfl|h
  .omega
  .have:=DT h
   unfold jL at this;omega
theorem zM {d c:Type} {f g:d->List c}:∀ {l:List d},(∀ x∈l,f x=g x)->l.flatMap f=l.flatMap g
 |[],_=>rfl
 |a::l,h=>by rw[lF,lF,h a (pE ..),zM fun x b=>h x (oQ _ b)]
def Gp:∀ (f:Nat) (a:List (List ϰ)),L (jM f a)<=f
 |0,_=>NZ
 |f+1,a=>by
  rw[jM];split
  .exact Ζ _
  .exact Nat.succ_le_succ (Gp f _)
theorem Gj (t:γ):∀ ds:List (List ϰ),jL (ds.map (kt t))<=jL ds
 |[]=>NZ
 |d::q=>by
  have:=Gj t q;have:=Dd t d;unfold jL at *;simp only[ij,List.sum_cons];omega
theorem Bd {t:γ}:∀ {c:List (List ϰ)},(∃ e r,(e::r)∈c/\e.1=t)->jL (c.map (kt t))<jL c
 |[],h=>by obtain⟨e,r,hm,-⟩:=h;cases hm
 |d::q,h=>by
  obtain⟨e,r,hm,a⟩:=h;rcases hH.1 hm with hm|hm
  .have:=Gj t q
   subst hm;have b:kt t (e::r)=r:=by rw[sT,μ a]
   unfold jL at *;simp only[ij,List.sum_cons,b,ϥ];omega
  .have:=Bd ⟨e,r,hm,a⟩
   have:=Dd t d;unfold jL at *;simp only[ij,List.sum_cons];omega
def Gq:∀ (f:Nat) (H:List (List ϰ)),jL H<=f->(∀ d∈H,lm d)->(∀ d∈H,∀ e∈d,e.2≠[]) ->
  lm (jM f H)/\(∀ e∈jM f H,e.2≠[]/\∃ d∈H,∃ i∈d,i.1=e.1)/\∀ u,kf (jM f H) u=looks H u
 |0,H,hf,hr,hn=>by
  have q:∀ d∈H,d=[]:=by
   intro d b;have j:=DT b;exact kS U
  refine⟨List.Pairwise.nil,fun e he=>(by cases he),fun u=>?_⟩;have h:looks H u=[]:=by
   unfold looks;rw[List.flatMap_eq_nil_iff];intro d b;rw[q d b];rfl
  rw[h];rfl
 |f+1,H,hf,hr,hn=>by
  cases k:kw H with
  |none =>
   have q:=vf.1 k;have l:jM (f+1) H=[]:=by rw[jM,k]
   rw[l];refine⟨List.Pairwise.nil,fun e he=>(by cases he),fun u=>?_⟩;have h:looks H u=[]:=by
    unfold looks;rw[List.flatMap_eq_nil_iff];intro d b;rw[q d b];rfl
   rw[h];rfl
  |some g =>
   obtain⟨w,t⟩:=vg k;have l:jM (f+1) H=(g,kM g H)::jM f (H.map (kt g)):=by rw[jM,k]
   have F:=Bd w;obtain⟨B,z,E⟩:=Gq f (H.map (kt g)) U (fun d b=>by
    obtain⟨c,a,rfl⟩:=ih.1 b
    exact JB (hr c a)) (fun d b e he=>by
    obtain⟨c,a,rfl⟩:=ih.1 b
    exact hn c a e (De he))
   have v:=zB hr t;have y:∀ e∈jM f (H.map (kt g)),ltStr g e.1=true:=fun e he=>by
    obtain⟨-,d,b,i,m,n⟩:=z e he;obtain⟨c,a,rfl⟩:=ih.1 b;rw[<-n];exact JA (hr c a) (fun x r p=>t x r (p ▸ a)) i m
   rw[l];refine⟨tB.2 ⟨y,B⟩,fun e he=>?_,fun u=>?_⟩
   .rcases hH.1 he with rfl|he
    .obtain⟨s,r0,a,j⟩:=w
     refine⟨?_,_,a,s,pE ..,j⟩;rw[v];unfold looks;intro A;have h:=(List.flatMap_eq_nil_iff.1 A) _ a;rw[<-j,Ad (hr _ a)]at h;exact hn _ a s (pE ..) h
    .obtain⟨a,d,b,i,m,n⟩:=z e he
     obtain⟨c,j,rfl⟩:=ih.1 b;exact⟨a,c,j,i,De m,n⟩
   .rw[kf]
    by_cases o:g=u
    .subst o
     rw[μ rfl,xm fun x p=>xp (y x p),iy,v]
    .rw[κ o,E]
     unfold looks;rw[List.flatMap_map];refine zM fun d _=>LI (fun e=>o e.symm) d
def xo (b:List (γ)) (lo n):lm (iw b lo n):=by
 unfold lm iw;rw[List.map_map];rw[show((fun e:ϰ=>e.1) ∘ fun a=>(a,gb b a lo n))=id from rfl,List.map_id];exact tC _
def Ah (d:List (γ)) (lo n):∀ e∈iw d lo n,e.2≠[]:=by
 intro e a;unfold iw at a;obtain⟨c,b,rfl⟩:=ih.1 a;exact Ai.1 (nZ.1 b)
def Ec (k:List (γ)) (lo n t):kf (iw k lo n) t=gb k t lo n:=by
 by_cases h:t∈fW (gI k lo n)
 .have g:(t,gb k t lo n)∈iw k lo n:=ih.2 ⟨t,h,rfl⟩
  exact DY (xo k lo n) _ g
 .have d:gb k t lo n=[]:=by
   cases f:gb k t lo n with
   |nil=>rfl
   |cons a b=>exact absurd (nZ.2 (Ai.2 (by rw[f];simp))) h
  rw[d];refine xm fun e c=>?_;unfold iw at c;obtain⟨j,i,rfl⟩:=ih.1 c;rintro rfl;exact h i
def KH (c:List (γ)) (t:γ) (lo a b):gb c t lo (a+b)=gb c t lo a++gb c t (lo+a) b:=by
 unfold gb;rw[<-ng,<-List.filter_append]
 congr 2
 have:=List.range'_append (s:=lo) (m:=a) (n:=b) (step:=1);rw[pF]at this;exact this.symm
def il:Nat->List (Nat×Nat)->Nat->Prop
 |lo,[],hi=>lo=hi
 |lo,p::r,hi=>p.1=lo/\p.1<p.2/\il p.2 r hi
def Δ (a:List (γ)) (p:Nat×Nat):List ϰ:=iw a p.1 (p.2 - p.1)
def rJ:∀ {f:List (Nat×Nat)} {e d:Nat},il e f d->e<=d
 |[],e,d,h=>Nat.le_of_eq h
 |p::r,e,d,h=>by
  obtain⟨b,c,a⟩:=h;have:=rJ a;omega
theorem CA (docs t):∀ {g:List (Nat×Nat)} {f e:Nat},il f g e->looks (g.map (Δ docs)) t=gb docs t f (e - f)
 |[],f,e,h=>by
  obtain rfl:f=e:=h;rw[kj];rfl
 |p::r,f,e,h=>by
  obtain⟨rfl,c,a⟩:=h;have d:=rJ a;have b:=CA docs t a;unfold looks at *;rw[ij,lF,b];unfold Δ;rw[Ec,show e - p.1=(p.2 - p.1)+(e - p.2)by omega,KH,show p.1+(p.2 - p.1)=p.2 by omega]
def QB (docs) {ps lo hi} (h:il lo ps hi) (f) (j:jL (ps.map (Δ docs))<=f):jM f (ps.map (Δ docs))=iw docs lo (hi - lo):=by
 obtain⟨b,c,g⟩:=Gq f _ j (fun d a=>by
  obtain⟨k,-,rfl⟩:=ih.1 a
  exact xo _ _ _) (fun d a=>by
  obtain⟨k,-,rfl⟩:=ih.1 a
  exact Ah _ _ _)
 refine JO b (xo _ _ _) (fun e i=>(c e i).1) (Ah _ _ _) fun l=>?_;rw[g,Ec,CA docs l h]
def hz (a:Nat->List ϰ) (p:Nat->Nat) (i:Nat):ϰ:=(a i).getD (p i) ([],[])
def iS (b:Nat->List ϰ) (p:Nat->Nat) (m:Nat):List (List ϰ):=(List.range m).map fun a=>(b a).drop (p a)
def uB (a:Nat->List ϰ) (p:Nat->Nat) (t:γ) (i:Nat):Prop:=p i<L (a i)/\(hz a p i).1=t
instance (D:Nat->List ϰ) (p:Nat->Nat) (t:γ) (i:Nat):Decidable (uB D p t i):=inferInstanceAs (Decidable (_/\_))
def rI (a:Nat->List ϰ) (p:Nat->Nat) (t:γ) (i:Nat):Nat:=if uB a p t i then p i+1 else p i
def jZ (a:Nat->List ϰ) (p:Nat->Nat) (t:γ) (j i:Nat):Nat:=if i<j then rI a p t i else p i
theorem uQ {D p i} (h:p i<L (D i)):(D i).drop (p i)=hz D p i::(D i).drop (p i+1):=by
 rw[lL h];unfold hz;rw[fX,Ρ h];rfl
def wW {a:Nat->List ϰ} {p:Nat->Nat} {i} (h:¬p i<L (a i)):(a i).drop (p i)=[]:=sx U
theorem JC (a:Nat->List ϰ) (p t i):(a i).drop (rI a p t i)=kt t ((a i).drop (p i)):=by
 unfold rI;by_cases h:p i<L (a i)
 .rw[uQ h]
  by_cases b:(hz a p i).1=t
  .rw[μ ⟨h,b⟩,kt,μ b]
  .rw[κ (fun g=>b g.2),kt,κ b,uQ h]
 .rw[κ (fun g=>h g.1),wW h];rfl
def Of (D p t m):iS D (rI D p t) m=(iS D p m).map (kt t):=by
 unfold iS;rw[List.map_map];exact vW fun a _=>JC D p t a
def Fc {D p m e r}:(e::r)∈iS D p m↔∃ i,i<m/\p i<L (D i)/\e=hz D p i/\r=(D i).drop (p i+1):=by
 unfold iS;simp only[ih,rm];constructor
 .rintro⟨i,b,a⟩
  by_cases h:p i<L (D i)
  .rw[uQ h]at a
   obtain⟨c,d⟩:=List.cons.inj a;exact⟨i,b,h,c.symm,d.symm⟩
  .rw[wW h]at a;cases a
 .rintro⟨i,b,a,rfl,rfl⟩
  exact⟨i,b,uQ a⟩
def Og {D p q m} (h:∀ i,i<m->p i=q i):iS D p m=iS D q m:=by
 unfold iS;exact vW fun i hi=>by rw[h i (rm.1 hi)]
def jh (b:Nat->List ϰ) (p:Nat->Nat) (j:Nat) (x:Int):Prop:=
 (x = -1/\∀ a,a<j->¬p a<L (b a))\/∃ c:Nat,x=(c:Int)/\c<j/\p c<L (b c)/\∀ a,a<j->p a<L (b a)->ltStr (hz b p a).1 (hz b p c).1=false
def jh.zero (D p):jh D p 0 (-1):=.inl ⟨rfl,fun a hi=>U⟩
def jh.skip {D p j x} (h:jh D p j x) (d:¬p j<L (D j)):jh D p (j+1) x:=by
 rcases h with ⟨b,c⟩|⟨k,b,c,g,i⟩
 .refine .inl ⟨b,fun a hi=>?_⟩
  by_cases e:a=j
  .subst e;exact d
  .exact c a U
 .refine .inr ⟨k,b,U,g,fun a hi f=>?_⟩
  by_cases e:a=j
  .subst e;exact absurd f d
  .exact i a U f
def jh.first {D p j} (h:jh D p j (-1)) (d:p j<L (D j)):jh D p (j+1) (j:Int):=by
 rcases h with ⟨b,c⟩|⟨g,b,-,-,-⟩
 .refine .inr ⟨j,rfl,U,d,fun a hi f=>?_⟩
  by_cases e:a=j
  .subst e;exact swo_ltStr.irrefl _
  .exact absurd f (c a U)
 .omega
def jh.less {D p} {j a:Nat} (h:jh D p j (a:Int)) (f:p j<L (D j)) (g:ltStr (hz D p j).1 (hz D p a).1=true):jh D p (j+1) (j:Int):=by
 rcases h with ⟨c,-⟩|⟨k,c,l,m,d⟩
 .omega
 .obtain rfl:a=k:=U
  refine .inr ⟨j,rfl,U,f,fun b hi i=>?_⟩;by_cases e:b=j
  .subst e;exact swo_ltStr.irrefl _
  .exact swo_ltStr.ntrans _ _ _ (d b U i) (swo_ltStr.asymmA g)
def jh.stay {D p} {j a:Nat} (h:jh D p j (a:Int)) (g:ltStr (hz D p j).1 (hz D p a).1=false):jh D p (j+1) (a:Int):=by
 rcases h with ⟨c,-⟩|⟨k,c,l,d,f⟩
 .omega
 .obtain rfl:a=k:=U
  refine .inr ⟨a,rfl,U,d,fun b hi i=>?_⟩;by_cases e:b=j
  .subst e;exact g
  .exact f b U i
def jh.form {D p j x} (h:jh D p j x):x = -1\/∃ a:Nat,x=(a:Int)/\a<j/\p a<L (D a):=by
 rcases h with ⟨b,-⟩|⟨a,b,c,d,-⟩
 .exact .inl b
 .exact .inr ⟨a,b,c,d⟩
def jh.none {D p m} (h:jh D p m (-1)):kw (iS D p m)=O:=by
 rcases h with ⟨-,b⟩|⟨f,e,-,-,-⟩
 .rw[vf]
  intro d a;unfold iS at a;obtain⟨c,hi,rfl⟩:=ih.1 a;exact wW (b c (rm.1 hi))
 .omega
def jh.some {D p} {m a:Nat} (h:jh D p m (a:Int)):kw (iS D p m)=J (hz D p a).1:=by
 rcases h with ⟨d,-⟩|⟨l,d,f,g,i⟩
 .omega
 .obtain rfl:a=l:=U
  refine LX ⟨_,_,Fc.2 ⟨a,f,g,rfl,rfl⟩,rfl⟩ fun e r j=>?_;obtain⟨k,b,c,rfl,-⟩:=Fc.1 j;exact i k b c
def jT (a:Nat->List ϰ) (p:Nat->Nat) (t:γ) (j:Nat):List Int:=kM t (iS a p j)
theorem zA (t:γ):∀ a b:List (List ϰ),kM t (a++b)=kM t a++kM t b
 |[],b=>rfl
 |[]::a,b=>by rw[jW,kM,kM,zA t a b]
 |(e::d)::a,b=>by
  rw[jW,kM,kM,zA t a b];split<;>simp
theorem Jz (D p t):jT D p t 0=[]:=rfl
theorem Dc (D p t j):jT D p t (j+1)=jT D p t j++(if uB D p t j then(hz D p j).2 else[]):=by
 unfold jT iS;rw[List.range_succ,ng,zA,ij,jQ]
 congr 1
 by_cases h:p j<L (D j)
 .rw[uQ h,kM]
  by_cases a:(hz D p j).1=t
  .rw[μ a,μ ⟨h,a⟩];simp[kM]
  .rw[κ a,κ (fun g=>a g.2)];rfl
 .rw[wW h,κ (fun g=>h g.1)];rfl
def zD {D p} {t:γ} {j} (h:p j<L (D j)) (a:(hz D p j).1=t):jT D p t (j+1)=jT D p t j++(hz D p j).2:=by rw[Dc,μ ⟨h,a⟩]
def zC {D p} {t:γ} {j} (h:¬(p j<L (D j)/\(hz D p j).1=t)):jT D p t (j+1)=jT D p t j:=by rw[Dc,κ (show ¬uB D p t j from h),iy]
theorem Db (D p t B) (a:∀ i,∀ e∈D i,L e.2<=B):∀ j,L (jT D p t j)<=j*B
 |0=>by simp[Jz]
 |j+1=>by
  have b:=Db D p t B a j;rw[Nat.succ_mul];by_cases h:p j<L (D j)/\(hz D p j).1=t
  .rw[zD h.1 h.2,σ]
   have:L (hz D p j).2<=B:=by
    refine a j _ ?_;unfold hz;rw[fX,Ρ h.1];exact Ψ _
   omega
  .rw[zC h];omega
def Il (D p t i):jZ D p t 0 i=p i:=by simp[jZ]
def Cn (D p t j):jZ D p t j j=p j:=by simp[jZ]
def Cp {D p} {t:γ} {j} (h:p j<L (D j)) (b:(hz D p j).1=t) (i):jZ D p t (j+1) i=if i=j then p j+1 else jZ D p t j i:=by
 unfold jZ;by_cases e:i=j
 .subst e
  rw[μ rfl,μ U];unfold rI;rw[μ ⟨h,b⟩]
 .rw[κ e]
  by_cases a:i<j
  .rw[μ a,μ U]
  .rw[κ a,κ U]
def Co {D p} {t:γ} {j} (h:¬(p j<L (D j)/\(hz D p j).1=t)) (i):jZ D p t (j+1) i=jZ D p t j i:=by
 unfold jZ;by_cases e:i=j
 .subst e
  rw[μ U,κ U];unfold rI;rw[κ (show ¬uB D p t i from h)]
 .by_cases a:i<j
  .rw[μ a,μ U]
  .rw[κ a,κ U]
def Fb (D p t m):iS D (jZ D p t m) m=(iS D p m).map (kt t):=by
 rw[<-Of];exact Og fun a hi=>by unfold jZ;rw[μ hi]
def Qy {f ds} (h:kw ds=O):jM f ds=[]:=by
 cases f with
 |zero=>rfl
 |succ f=>rw[jM,h]
def Qz {f ds} {t:γ} (h:kw ds=J t):jM (f+1) ds=(t,kM t ds)::jM f (ds.map (kt t)):=by rw[jM,h]
def LY {ds} {t:γ} (h:kw ds=J t):jL (ds.map (kt t))<jL ds:=Bd (vg h).1
def Kb (b:γ) (h:b≠[]) (a:(first b).1≠65533):(first b).2=L (enc (first b).1):=by
 rcases b with _|⟨b0,_|⟨b1,_|⟨b2,_|⟨b3,r⟩⟩⟩⟩
 .exact absurd rfl h
 all_goals
  revert a;simp only[first,qD,qE,qF,jS]
  (repeat' split)<;>intro a<;>first
   |exact absurd rfl a
   |(unfold enc;rw[μ U];rfl)
   |(rename_i h;simp only[gt,hP,gW]at h;unfold enc;rw[κ U,μ U];rfl)
   |(rename_i h;simp only[gt,oo,fR,hP,gW]at h;unfold enc;rw[κ U,κ U,μ U];rfl)
   |(rename_i h;simp only[gt,oo,fR,hP,gW]at h;unfold enc;rw[κ U,κ U,κ U];rfl)
def Cb:gm 65533=false:=ϐ
def Jo {b:γ} {c r} (h:gg b=c::r) (f:c≠65533):L (enc c)<=L b/\r=gg (b.drop (L (enc c))):=by
 by_cases d:b=[]
 .subst d;simp[rT]at h
 .have a:=rU b d
  rw[h]at a;simp only[List.cons.injEq]at a;have e:=Kb b d (by rw[<-a.1];exact f);have g:=pR b d;rw[<-a.1]at e;exact⟨U,by rw[a.2,e]⟩
