/- Part 0 of the proof. -/
import Derived.Test.YtpilfbcffofheaaGreatDoorm
set_option linter.all false
set_option maxRecDepth 100000
set_option maxHeartbeats 16000000
namespace Go.Proofs.YtpilfbcffofheaaGreatDoor
open Go.RowKit Go.Proofs.Tryz Go.Sort
open Value renaming slice->D,int->ĭ,agg->ā,string->š
open Option renaming none->O,some->J
open List renaming length->L
open Obj renaming cells->C
open Ending renaming returned->ŗ
open World renaming alloc->å,setCell->ŝ
def Rd (w:β) (v:ε) (n g:Nat) (a:List ε):Prop:=
 L a=n*g/\n<=maxLen/\((∃ f c,v=D f 0 c/\n=0)\/∃ b off c,v=D (J ⟨b,off,O⟩) n c/\0<n/\n<=c/\c<=maxLen/\∀ d e,a[d]?=J e->w.cell? ⟨b,off+d,O⟩=J e)
def Rd.B {w q:β} {v:ε} {n sz} {d:List ε} (h:Rd w v n sz d) (k:BQ w q):Rd q v n sz d:=by
 obtain⟨e,l,a⟩:=h;refine⟨e,l,?_⟩;rcases a with a|⟨b,off,c,m,f,g,i,j⟩
 .exact .inl a
 .refine .inr ⟨b,off,c,m,f,g,i,fun o p hi=>?_⟩
  have:=j o p hi;rw[k.cell (ii w _ this)];exact this
def Rd.of_own {w:β} {base e size} {v:ε} {n} {q:List ε} (h:w.ownsRow base e size v n q):Rd w v n size q:=by
 have d:=h.1;rcases h.2 with ⟨a,c⟩|⟨g,f,cur,a,hg,m,k,i,l,o⟩
 .subst c;exact⟨d,U,.inl ⟨O,0,a,rfl⟩⟩
 .refine⟨d,U,?_⟩
  by_cases c:n=0
  .subst c;exact .inl ⟨_,_,a,rfl⟩
  .refine .inr ⟨g,0,f,a,U,k,i,fun b p hi=>?_⟩
   subst a;have j:b<n*size:=by rw[<-d];exact(lK.1 hi).1
   have:=h.cellAt b j;rw[show(0+b)=b from U,this,hi]
def Rd.src {P} {w:β} {v:ε} {n sz} {d:List ε} {tx e'} (e:P.underlying tx=J (.slice e')) (h:Rd w v n sz d) (j:∀ u∈d,u.oneCell'=true):Src P sz tx v n d w:=by
 obtain⟨g,r,⟨i,c,rfl,rfl⟩|⟨b,off,c,rfl,p,s,q,l⟩⟩:=h
 .have o:d=[]:=kS (by simpa using g)
  subst o;cases i with
  |none=>exact⟨.inl ⟨e',e⟩,fun _=>rfl,yw w sz 0 0 c,yw w.drew sz 0 0 c,ύ,fun _ h=>by cases h⟩
  |some a=>exact Src.ofSlice w e a 0 c [] ύ ύ ύ
 .refine Src.ofSlice w e ⟨b,off,O⟩ n c d g (fun f u m=>?_) j
  have k:(⟨b,off,O⟩:Addr).add f=⟨b,off+f,O⟩:=by unfold Addr.add;split<;>simp_all
  rw[k];exact l f u m
def gh {P tx e' e} (h:P.underlying tx=J (.slice e')) (w:β) (a:Array ε) (sz m c) (i:a.size=m*sz) (d:∀ u∈a.toList,u.oneCell'=true):Src P sz tx (D (J ⟨w.heap.size,0,O⟩) m c) m a.toList (å w (C a e)):=by
 refine Src.ofSlice _ h ⟨w.heap.size,0,O⟩ m c a.toList (by simpa using i) (fun b u j=>?_) d;have g:(å w (C a e)).heap[w.heap.size]?=J (C a e (0,0)):=φ w _;have f:(⟨w.heap.size,0,O⟩:Addr).add b=⟨w.heap.size,b,O⟩:=by unfold Addr.add;split<;>simp_all
 rw[f,ξ _ w.heap.size b a e (0,0) g];simpa using j
def AA (w:β) (a:Array ε) (e sz m) (g:a.size=m*sz) (c:m<=maxLen) (d:0<m):Rd (å w (C a e)) (D (J ⟨w.heap.size,0,O⟩) m m) m sz a.toList:=by
 refine⟨by simpa using g,c,.inr ⟨w.heap.size,0,m,rfl,d,NZ,c,fun b i h=>?_⟩⟩;have f:(å w (C a e)).heap[w.heap.size]?=J (C a e (0,0)):=φ w _;rw[show 0+b=b from U,ξ _ w.heap.size b a e (0,0) f];simpa using h
def tD {P} (w:β) (base t tx ty e) (i:TypeInfo) (z:ε) (size bytes) (o:P.underlying t=J (.slice e)) (hi:P.info? e=J i) (F:i.zero=J z)
  (V:i.size=size) (N:i.bytes=bytes) (Y:z.cells.size=size)
  (v:ε) (n) (xs:List ε) (k:w.ownsRow base e size v n xs)
  (x:ε) (m) (a:List ε) (b:Src P size tx x m a w)
  (y:n+m<=maxLen) (A:(n+m)*bytes<=140737488355328) (K:base<=w.heap.size) :
  ∃ l w',(Builtin.append_ #[t,tx] ty #[v,x]).run P w=.ok l w'/\w'.ownsRow base e size l (n+m) (xs++a)/\w.grownBy w' v.ownBlock /\
   (l.ownBlock=v.ownBlock\/l.ownBlock=J w.heap.size)/\(l=D O 0 0↔v=D O 0 0/\m=0):=by
 subst V;subst N;have q:=b.newsLen;have ab:n+m<=9223372036854775807:=by simp only[maxLen]at y;omega
 have j:L (xs++a)=(n+m)*i.size:=by rw[σ,k.1,q,lr]
 have u:∀ (d:Nat),d<n+m->∀ (row:Option Nat),
   (å w.drew (C ((xs++a).toArray++Builtin.zeroCells z.cells (grownCap w (n+m) d e - (n+m))) e)).ownsRow base e i.size
    (D (J ⟨w.heap.size,0,O⟩) (n+m) (grownCap w (n+m) d e)) (n+m) (xs++a) /\
   w.grownBy (å w.drew (C ((xs++a).toArray++Builtin.zeroCells z.cells (grownCap w (n+m) d e - (n+m))) e)) row:=by
  intro d aa row;have S:=grownCap_ge w (n+m) d e;have p:grownCap w (n+m) d e<=maxLen:=wb w (n+m) d e y;refine⟨⟨j,.inr ⟨w.heap.size,_,_,rfl,K,Go.heap_alloc_new w.drew _,S,p,?_,?_⟩⟩,⟨rfl,rfl,rfl,ύ,fun s hk _=>hM w.drew _ s hk⟩⟩
  .rw[Array.size_append,qk,size_zeroCells,Y,j,<-lr]
   congr 1
   omega
  .rw[Array.toList_append,<-j]
   exact tT
 rcases k.2 with ⟨rfl,rfl⟩|⟨g,c,cur,rfl,M,hg,a0,p,Q,W⟩
 .have X:xs=[]:=kS (by simpa using k.1)
  subst X;by_cases B:m=0
  .subst B
   have T:a=[]:=kS (by simpa using q);subst T;refine⟨D O 0 0,w,?_,gQ w base e i.size,⟨rfl,rfl,rfl,NZ,fun _ _ _=>rfl⟩,.inl rfl,ύ⟩;rcases b.kind with ⟨a1,hk⟩|hk <;>
    simp[Builtin.append_,ri o,ri hk,sizeOf,typeInfo,hi,b.len,b.cells]
  .have h:=run_append_grow_src (P:=P) w t tx ty e i z o hi F O 0 0 [] (yw w.drew i.size 0 0 0) x m a b U U (growslice_fits U A)
   have f:=u 0 U (Value.ownBlock (D O 0 0));simp only[iI,js]at f h ⊢;exact⟨_,_,h,f.1,f.2,.inr rfl,by simp[B]⟩
 .by_cases r:n+m<=c
  .have R:n*i.size+L a<=cur.size:=by rw[q,Q,<-lr];exact qp _ r
   have E:=run_storeCells_at P g (n*i.size) e a 0 cur w hg (by simpa using R) b.one;simp only[kG]at E;have h:(Builtin.append_ #[t,tx] ty #[D (J ⟨g,0,O⟩) n c,x]).run P w =
     .ok (D (J ⟨g,0,O⟩) (n+m) c) (w.setRow g (cur.toList.take (n*i.size)++a++cur.toList.drop (n*i.size+L a)).toArray):=by
    rcases b.kind with ⟨a1,hk⟩|hk <;>
     simp[Builtin.append_,ri o,ri hk,sizeOf,typeInfo,hi,b.len,r,b.cells,Addr.add_lit,E]
   refine⟨_,_,h,⟨j,.inr ⟨g,c,_,rfl,M,setRow_heap w g cur _ e _ hg,r,p,?_,?_⟩⟩,⟨rfl,rfl,rfl,ύ,fun s _ hk=>tY w g s _ (fun e=>hk (by simp[Value.ownBlock,e]))⟩,.inl rfl,ύ⟩
   .simp only[qk,σ,gp,fT,sw]
    omega
   .rw[W,<-j]
    exact tT
  .have Z:∀ I H,xs[I]?=J H->w.drew.cell? ((⟨g,0,O⟩:Addr).add I)=J H:=k.drew.cells (g:=g) rfl
   have h:=run_append_grow_src (P:=P) w t tx ty e i z o hi F (J ⟨g,0,O⟩) n c xs (run_firstCells_some w.drew i.size n ⟨g,0,O⟩ n c xs k.1 Z) x m a b U U (growslice_fits U A);have f:=u c U (Value.ownBlock (D (J ⟨g,0,O⟩) n c));exact⟨_,_,h,f.1,f.2,.inr rfl,ύ⟩
def ϻ {P} {w:β} {ops rest o} {a:Act} {Q:Exit->Act->β->Prop} (y:o.guard=O) (s x t tx)
  (A:o.op=.call {callee:=.builtin .append,args:= #[s,x],argTypes:= #[t,tx]})
  (base) (e) (i:TypeInfo) (z:ε) (size bytes) (I:P.underlying t=J (.slice e)) (V:P.info? e=J i) (N:i.zero=J z)
  (S:i.size=size) (r:i.bytes=bytes) (R:z.cells.size=size)
  (v:ε) (n) (T:List ε) (F:a.eval s=v) (B:w.ownsRow base e size v n T)
  (d:ε) (m) (c:List ε) (M:a.eval x=d) (H:Src P size tx d m c w)
  (l:n+m<=maxLen) (u:(n+m)*bytes<=140737488355328) (q:base<=w.heap.size)
  (h:∀ b w',w'.ownsRow base e size b (n+m) (T++c)->w.grownBy w' v.ownBlock->(b.ownBlock=v.ownBlock\/b.ownBlock=J w.heap.size)->(b=D O 0 0↔v=D O 0 0/\m=0)->wpList P ops Q rest (a.put o.dst b) w'):wpList P ops Q (o::rest) a w:=by
 refine wpList_plain y fun K p=>?_;obtain⟨b,w',E,f,g,j,k⟩:=tD (P:=P) w base t tx o.type e i z size bytes I V N S r R v n T B d m c H l u q;unfold Oper.wp execOp;simp only[A,resolve,invoke,builtin,Sem.run_bind,Sem.run_pure,pH,qs,ij,jQ,F,M,E];exact p _ _ (h b w' f g j k)
def gn:ε->Nat|D _ n _=>n|_=>0
def Η {w:β} {base e size} {v:ε} {n} {c:List ε} (h:w.ownsRow base e size v n c):∃ b a,v=D b n a:=by
 rcases h.2 with ⟨rfl,rfl⟩|⟨g,a,cur,rfl,_⟩
 .exact⟨O,0,rfl⟩
 .exact⟨_,a,rfl⟩
def ψ {w w' base e size} {v:ε} {n} {k:List ε} (h:w.ownsRow base e size v n k) (b:BQ w w'):w'.ownsRow base e size v n k:=by
 obtain⟨f,d⟩:=h;refine⟨f,?_⟩;rcases d with h|⟨g,a,cur,j,c,hg,i⟩
 .exact .inl h
 .exact .inr ⟨g,a,cur,j,c,by rw[b.block g (ς hg)];exact hg,i⟩
def gX {w:β} {base base' e size} {v:ε} {n} {k:List ε} (h:w.ownsRow base e size v n k) (b:base'<=base):w.ownsRow base' e size v n k:=by
 obtain⟨f,d⟩:=h;refine⟨f,?_⟩;rcases d with h|⟨g,a,cur,j,c,i⟩
 .exact .inl h
 .exact .inr ⟨g,a,cur,j,gj b c,i⟩
def iJ (w:β) (b:TypeId) (d n:Nat) (c:List ε) (e:Ending) (f:β):Prop:= ∃ a,e=ŗ a/\f.ownsRow w.heap.size b d a n c/\Below w.heap.size w f
def Ap {w:β} {base e size g n k cap} {q:List ε} (h:w.ownsRow base e size (D (J ⟨g,0,O⟩) n cap) n q) (f:k<=n) :
  w.ownsRow base e size (D (J ⟨g,0,O⟩) k cap) k (q.take (k*size)):=by
 obtain⟨i,d⟩:=h;have o:k*size<=n*size:=qp _ f;rcases d with ⟨h,_⟩|⟨m,l,cur,h,a,hg,p,b,c,j⟩
 .simp at h
 .simp only[Χ,Φ,Addr.mk.injEq,it,ϵ]at h
  obtain⟨rfl,rfl⟩:=h;refine⟨by rw[gp,i];omega,.inr ⟨g,cap,cur,rfl,a,hg,U,b,c,?_⟩⟩;rw[<-j,tU]
  congr 1
  omega
def oH {w:β} {base e size g n cap} {l:List ε} (h:w.ownsRow base e size (D (J ⟨g,0,O⟩) n cap) n l):n<=cap/\cap<=maxLen/\base<=g/\g<w.heap.size:=by
 have a:=h.lt g rfl;rcases h.2 with ⟨h,_⟩|⟨f,d,cur,h,i,hg,c,b,j,k⟩
 .simp at h
 .simp only[Χ,Φ,Addr.mk.injEq,it,ϵ]at h
  obtain⟨rfl,rfl⟩:=h;exact⟨c,b,a.1,a.2⟩
def kO {w:β} {base e size} {v:ε} {n} {f:List ε} (h:w.ownsRow base e size v n f) (d:0<n):∃ g a,v=D (J ⟨g,0,O⟩) n a:=by
 rcases h.2 with ⟨_,c⟩|⟨g,a,cur,b,_⟩
 .omega
 .exact⟨g,a,b⟩
def oj {P tx e' e} (f:P.underlying tx=J (.slice e')) (w:β) (a:Array ε) (sz m c H) (d:w.heap.size=H) (g:a.size=m*sz) (b:∀ u∈a.toList,u.oneCell'=true):Src P sz tx (D (J ⟨H,0,O⟩) m c) m a.toList (å w (C a e)):=by
 subst d;exact gh f w a sz m c g b
def Hi (c:Nat) (w:β) (R:β->Prop):Prop:= ∀ a:β,(∀ b,c<=b->b<w.heap.size->a.heap[b]?=w.heap[b]?)->R a
theorem Hi.now {lo w R} (h:Hi lo w R):R w:=h w fun _ _ _=>rfl
def Hi.step {lo w w' R} (h:Hi lo w R) (g:w.heap.size<=w'.heap.size) (e:∀ b,lo<=b->b<w.heap.size->w'.heap[b]?=w.heap[b]?):Hi lo w' R:=
 fun f d=>h f fun b a c=>(d b a U).trans (e b a c)
def Hi.B {lo w w' R} (h:Hi lo w R) (a:BQ w w'):Hi lo w' R:=h.step a.size fun b _ g=>a.block b g
def Hi.M {lo lo' w R} (h:Hi lo w R) (f:lo'<=lo):Hi lo' w R:=fun d c=>h d fun b e a=>c b U a
def Hi.set {lo w R} (h:Hi lo w R) {p} (c:p.block<lo) (x:ε):Hi lo (ŝ w p x) R:=
 h.step ύ fun b a _=>Γ _ _ _ _ U
def Hi.A {lo w R} (h:Hi lo w R) (o):Hi lo (å w o) R:=h.step ύ fun b _ g=>hM w o b g
def Hi.drew {lo w R} (h:Hi lo w R):Hi lo w.drew R:=h
def Hi.imp {lo w R Q} (h:Hi lo w R) (f:∀ a,R a->Q a):Hi lo w Q:=fun a b=>f a (h a b)
def Hi.and {lo w R Q} (h:Hi lo w R) (c:Hi lo w Q):Hi lo w (fun a=>R a/\Q a):=fun a b=>⟨h a b,c a b⟩
def Hi.own {lo w e size} {v:ε} {n} {j:List ε} (h:w.ownsRow lo e size v n j):Hi lo w (fun b=>Rd b v n size j):=by
 intro b d;refine Rd.of_own (base:=lo) (e:=e) ⟨h.1,?_⟩;rcases h.2 with g|⟨g,c,cur,i,a,hg,f⟩
 .exact .inl g
 .exact .inr ⟨g,c,cur,i,a,by rw[d g a (ς hg)];exact hg,f⟩
def gC {w:β} {g} {a:ε} {T} (h:w.heap[g]?=J (C #[a] T (0,0))):w.cell? ⟨g,0,O⟩=J a/\w.frozen? ⟨g,0,O⟩=false/\g<w.heap.size:=
 ⟨ξ _ _ 0 _ _ _ h,ϧ _ _ 0 _ _ h,ς h⟩
def ν {w:β} {g} {a b:ε} {T} (h:w.heap[g]?=J (C #[a,b] T (0,0))):(w.cell? ⟨g,0,O⟩=J a/\w.cell? ⟨g,1,O⟩=J b)/\(w.frozen? ⟨g,0,O⟩=false/\w.frozen? ⟨g,1,O⟩=false)/\g<w.heap.size:=
 ⟨⟨ξ _ _ 0 _ _ _ h,ξ _ _ 1 _ _ _ h⟩,⟨ϧ _ _ 0 _ _ h,ϧ _ _ 1 _ _ h⟩,ς h⟩
def Β {w:β} {g} {a b c:ε} {T} (h:w.heap[g]?=J (C #[a,b,c] T (0,0))):(w.cell? ⟨g,0,O⟩=J a/\w.cell? ⟨g,1,O⟩=J b/\w.cell? ⟨g,2,O⟩=J c)/\(w.frozen? ⟨g,0,O⟩=false/\w.frozen? ⟨g,1,O⟩=false/\w.frozen? ⟨g,2,O⟩=false)/\g<w.heap.size:=
 ⟨⟨ξ _ _ 0 _ _ _ h,ξ _ _ 1 _ _ _ h,ξ _ _ 2 _ _ _ h⟩,⟨ϧ _ _ 0 _ _ h,ϧ _ _ 1 _ _ h,ϧ _ _ 2 _ _ h⟩,ς h⟩
def ϩ {w:β} {g} {a b c d:ε} {T} (h:w.heap[g]?=J (C #[a,b,c,d] T (0,0))):(w.cell? ⟨g,0,O⟩=J a/\w.cell? ⟨g,1,O⟩=J b/\w.cell? ⟨g,2,O⟩=J c/\w.cell? ⟨g,3,O⟩=J d)/\(w.frozen? ⟨g,0,O⟩=false/\w.frozen? ⟨g,1,O⟩=false/\w.frozen? ⟨g,2,O⟩=false/\w.frozen? ⟨g,3,O⟩=false)/\g<w.heap.size:=
 ⟨⟨ξ _ _ 0 _ _ _ h,ξ _ _ 1 _ _ _ h,ξ _ _ 2 _ _ _ h,ξ _ _ 3 _ _ _ h⟩,⟨ϧ _ _ 0 _ _ h,ϧ _ _ 1 _ _ h,ϧ _ _ 2 _ _ h,ϧ _ _ 3 _ _ h⟩,ς h⟩
def oz {W w1} (a:BQ W w1):(∀ b o,b<W.heap.size->w1.cell? ⟨b,o,O⟩=W.cell? ⟨b,o,O⟩)/\(∀ b o,b<W.heap.size->w1.frozen? ⟨b,o,O⟩=W.frozen? ⟨b,o,O⟩):=
 ⟨fun b o h=>a.cell (p:=⟨b,o,O⟩) h,fun b o h=>a.frozen (p:=⟨b,o,O⟩) h⟩
def xI {w:β} {g T} {b:ε} (h:w.heap[g]?=J (C #[b] T (0,0))) (a:ε):(ŝ w ⟨g,0,O⟩ a).heap[g]?=J (C #[a] T (0,0)):=υ _ g 0 _ _ _ h
def nA (w:β) (g k) (a:k≠g) (b:ε):(ŝ w ⟨g,0,O⟩ b).heap[k]?=w.heap[k]?:=by repeat rw[Γ _ _ _ _ a]
def fS {w:β} {g T} {c d:ε} (h:w.heap[g]?=J (C #[c,d] T (0,0))) (a b:ε):(ŝ (ŝ w ⟨g,0,O⟩ a) ⟨g,1,O⟩ b).heap[g]?=J (C #[a,b] T (0,0)):=υ _ g 1 _ _ _ (υ _ g 0 _ _ _ h)
def ga {B} {a w:β} {g} (h:Below B a w) (d:B<=g) (b c:ε):Below B a (ŝ (ŝ w ⟨g,0,O⟩ b) ⟨g,1,O⟩ c):=(h.S d b).S d c
def jH (w:β) (g k) (a:k≠g) (b c:ε):(ŝ (ŝ w ⟨g,0,O⟩ b) ⟨g,1,O⟩ c).heap[k]?=w.heap[k]?:=by repeat rw[Γ _ _ _ _ a]
def jz {w:β} {g T} {d e f:ε} (h:w.heap[g]?=J (C #[d,e,f] T (0,0))) (a b c:ε):(ŝ (ŝ (ŝ w ⟨g,0,O⟩ a) ⟨g,1,O⟩ b) ⟨g,2,O⟩ c).heap[g]?=J (C #[a,b,c] T (0,0)):=υ _ g 2 _ _ _ (υ _ g 1 _ _ _ (υ _ g 0 _ _ _ h))
def kY {B} {a w:β} {g} (h:Below B a w) (e:B<=g) (b c d:ε):Below B a (ŝ (ŝ (ŝ w ⟨g,0,O⟩ b) ⟨g,1,O⟩ c) ⟨g,2,O⟩ d):=((h.S e b).S e c).S e d
def kN (w:β) (g k) (a:k≠g) (b c d:ε):(ŝ (ŝ (ŝ w ⟨g,0,O⟩ b) ⟨g,1,O⟩ c) ⟨g,2,O⟩ d).heap[k]?=w.heap[k]?:=by repeat rw[Γ _ _ _ _ a]
def oh {w:β} {g T} {e f i j:ε} (h:w.heap[g]?=J (C #[e,f,i,j] T (0,0))) (a b c d:ε):(ŝ (ŝ (ŝ (ŝ w ⟨g,0,O⟩ a) ⟨g,1,O⟩ b) ⟨g,2,O⟩ c) ⟨g,3,O⟩ d).heap[g]?=J (C #[a,b,c,d] T (0,0)):=υ _ g 3 _ _ _ (υ _ g 2 _ _ _ (υ _ g 1 _ _ _ (υ _ g 0 _ _ _ h)))
def pd {B} {a w:β} {g} (h:Below B a w) (f:B<=g) (b c d e:ε):Below B a (ŝ (ŝ (ŝ (ŝ w ⟨g,0,O⟩ b) ⟨g,1,O⟩ c) ⟨g,2,O⟩ d) ⟨g,3,O⟩ e):=(((h.S f b).S f c).S f d).S f e
def po (w:β) (g k) (a:k≠g) (b c d e:ε):(ŝ (ŝ (ŝ (ŝ w ⟨g,0,O⟩ b) ⟨g,1,O⟩ c) ⟨g,2,O⟩ d) ⟨g,3,O⟩ e).heap[k]?=w.heap[k]?:=by repeat rw[Γ _ _ _ _ a]
def Fo {w:β} {g T} {i j k l m n:ε} (h:w.heap[g]?=J (C #[i,j,k,l,m,n] T (0,0))) (a b c d e f:ε):(ŝ (ŝ (ŝ (ŝ (ŝ (ŝ w ⟨g,0,O⟩ a) ⟨g,1,O⟩ b) ⟨g,2,O⟩ c) ⟨g,3,O⟩ d) ⟨g,4,O⟩ e) ⟨g,5,O⟩ f).heap[g]?=J (C #[a,b,c,d,e,f] T (0,0)):=υ _ g 5 _ _ _ (υ _ g 4 _ _ _ (υ _ g 3 _ _ _ (υ _ g 2 _ _ _ (υ _ g 1 _ _ _ (υ _ g 0 _ _ _ h)))))
def Cf {B} {a w:β} {g} (h:Below B a w) (j:B<=g) (b c d e f i:ε):Below B a (ŝ (ŝ (ŝ (ŝ (ŝ (ŝ w ⟨g,0,O⟩ b) ⟨g,1,O⟩ c) ⟨g,2,O⟩ d) ⟨g,3,O⟩ e) ⟨g,4,O⟩ f) ⟨g,5,O⟩ i):=(((((h.S j b).S j c).S j d).S j e).S j f).S j i
def oK {w:β} {g T} {o p q r e f i j:ε} (h:w.heap[g]?=J (C #[o,p,q,r,e,f,i,j] T (0,0))) (a b c d k l m n:ε):(ŝ (ŝ (ŝ (ŝ (ŝ (ŝ (ŝ (ŝ w ⟨g,0,O⟩ a) ⟨g,1,O⟩ b) ⟨g,2,O⟩ c) ⟨g,3,O⟩ d) ⟨g,4,O⟩ k) ⟨g,5,O⟩ l) ⟨g,6,O⟩ m) ⟨g,7,O⟩ n).heap[g]?=J (C #[a,b,c,d,k,l,m,n] T (0,0)):=υ _ g 7 _ _ _ (υ _ g 6 _ _ _ (υ _ g 5 _ _ _ (υ _ g 4 _ _ _ (show(ŝ (ŝ (ŝ (ŝ w ⟨g,0,O⟩ a) ⟨g,1,O⟩ b) ⟨g,2,O⟩ c) ⟨g,3,O⟩ d).heap[g]?=J (C #[a,b,c,d,e,f,i,j] T (0,0))from υ _ g 3 _ _ _ (υ _ g 2 _ _ _ (υ _ g 1 _ _ _ (υ _ g 0 _ _ _ h)))))))
def OQ {w:β} {g T} {r s t u v f i j k l:ε} (h:w.heap[g]?=J (C #[r,s,t,u,v,f,i,j,k,l] T (0,0))) (a b c d e m n o p q:ε):(ŝ (ŝ (ŝ (ŝ (ŝ (ŝ (ŝ (ŝ (ŝ (ŝ w ⟨g,0,O⟩ a) ⟨g,1,O⟩ b) ⟨g,2,O⟩ c) ⟨g,3,O⟩ d) ⟨g,4,O⟩ e) ⟨g,5,O⟩ m) ⟨g,6,O⟩ n) ⟨g,7,O⟩ o) ⟨g,8,O⟩ p) ⟨g,9,O⟩ q).heap[g]?=J (C #[a,b,c,d,e,m,n,o,p,q] T (0,0)):=υ _ g 9 _ _ _ (υ _ g 8 _ _ _ (υ _ g 7 _ _ _ (υ _ g 6 _ _ _ (υ _ g 5 _ _ _ (show(ŝ (ŝ (ŝ (ŝ (ŝ w ⟨g,0,O⟩ a) ⟨g,1,O⟩ b) ⟨g,2,O⟩ c) ⟨g,3,O⟩ d) ⟨g,4,O⟩ e).heap[g]?=J (C #[a,b,c,d,e,f,i,j,k,l] T (0,0))from υ _ g 4 _ _ _ (υ _ g 3 _ _ _ (υ _ g 2 _ _ _ (υ _ g 1 _ _ _ (υ _ g 0 _ _ _ h)))))))))
def Ie {B} {a w:β} {g} (h:Below B a w) (n:B<=g) (b c d e f i j k l m:ε):Below B a (ŝ (ŝ (ŝ (ŝ (ŝ (ŝ (ŝ (ŝ (ŝ (ŝ w ⟨g,0,O⟩ b) ⟨g,1,O⟩ c) ⟨g,2,O⟩ d) ⟨g,3,O⟩ e) ⟨g,4,O⟩ f) ⟨g,5,O⟩ i) ⟨g,6,O⟩ j) ⟨g,7,O⟩ k) ⟨g,8,O⟩ l) ⟨g,9,O⟩ m):=(((((((((h.S n b).S n c).S n d).S n e).S n f).S n i).S n j).S n k).S n l).S n m
def Mk (w:β) (g k) (a:k≠g) (b c d e f h i j l m:ε):(ŝ (ŝ (ŝ (ŝ (ŝ (ŝ (ŝ (ŝ (ŝ (ŝ w ⟨g,0,O⟩ b) ⟨g,1,O⟩ c) ⟨g,2,O⟩ d) ⟨g,3,O⟩ e) ⟨g,4,O⟩ f) ⟨g,5,O⟩ h) ⟨g,6,O⟩ i) ⟨g,7,O⟩ j) ⟨g,8,O⟩ l) ⟨g,9,O⟩ m).heap[k]?=w.heap[k]?:=by repeat rw[Γ _ _ _ _ a]
def sl:List (Int×Int):=[(65,90),(97,122),(192,214),(216,246),(248,255),(913,929),(931,937),(945,969),(1024,1119)]
def shifts:List (Int×Int×Int):=[(65,90,32),(192,214,32),(216,222,32),(913,929,32),(931,937,32),(1024,1039,80),(1040,1071,32)]
def li (c:Int):Bool:=sl.any fun s=>decide (s.1<=c) && decide (c<=s.2)
def oC (c:Int):Bool:=decide (48<=c) && decide (c<=57)
def gm (c:Int):Bool:=li c||oC c
def gE (c:Int):Int:=match shifts.find? fun s=>decide (s.1<=c) && decide (c<=s.2.1)with|some s=>c+s.2.2|none=>c
def fR (c:Int):Bool:=decide (0<=c) && decide (c<=1114111) && (decide (c<55296)||decide (57343<c))
def ka (c:Int):Int:=if c<128 then 1 else if c<2048 then 2 else if c<65536 then 3 else 4
def u8 (x:Int):UInt8:=UInt8.ofNat x.toNat
def enc (c:Int):γ:=
 if c<128 then[u8 c]
 else if c<2048 then[u8 (192+c / 64),u8 (128+c % 64)]
 else if c<65536 then[u8 (224+c / 4096),u8 (128+c / 64 % 64),u8 (128+c % 64)]
 else[u8 (240+c / 262144),u8 (128+c / 4096 % 64),u8 (128+c / 64 % 64),u8 (128+c % 64)]
def ch (b:UInt8):Int:=b.toNat
def gW (b:UInt8):Bool:=decide (128<=ch b) && decide (ch b<192)
def jS:Int×Nat:=(65533,1)
def qD (x:Int):γ->Int×Nat
 |[]=>jS
 |b1::_=>if gW b1 && decide (128<=x*64+(ch b1 - 128))then(x*64+(ch b1 - 128),2)else jS
def qE (x:Int):γ->Int×Nat
 |[]=>jS
 |[_]=>jS
 |b1::b2::_=>if gW b1 && gW b2 && fR ((x*64+(ch b1 - 128))*64+(ch b2 - 128)) && decide (2048<=(x*64+(ch b1 - 128))*64+(ch b2 - 128))then((x*64+(ch b1 - 128))*64+(ch b2 - 128),3)else jS
def qF (x:Int):γ->Int×Nat
 |[]=>jS
 |[_]=>jS
 |[_,_]=>jS
 |b1::b2::b3::_=>if gW b1 && gW b2 && gW b3 && fR (((x*64+(ch b1 - 128))*64+(ch b2 - 128))*64+(ch b3 - 128)) && decide (65536<=((x*64+(ch b1 - 128))*64+(ch b2 - 128))*64+(ch b3 - 128))then(((x*64+(ch b1 - 128))*64+(ch b2 - 128))*64+(ch b3 - 128),4)else jS
def first:γ->Int×Nat
 |[]=>jS
 |b0::r =>
  if ch b0<128 then(ch b0,1)
  else if ch b0<192 then jS
  else if ch b0<224 then qD (ch b0 - 192) r
  else if ch b0<240 then qE (ch b0 - 224) r
  else if ch b0<248 then qF (ch b0 - 240) r
  else jS
def rR:Nat->γ->List Int
 |0,_=>[]
 |f+1,b=>if b=[]then[]else(first b).1::rR f (b.drop (first b).2)
def gg (b:γ):List Int:=rR (L b) b
def lp (t:γ):List Int->γ
 |[]=>t
 |c::r=>if 64<L t+L (enc (gE c)) then t else lp (t++enc (gE c)) r
def term (l:List Int):γ:=lp [] l
def iP (a:List Int):List Int->List (List Int)
 |[]=>if a=[]then[]else[a]
 |c::r=>if gm c then iP (a++[c]) r else if a=[]then iP [] r else a::iP [] r
def nI (l:List Int):List (List Int):=iP [] l
def Θ (b:γ):List (γ):=(nI (gg b)).map term
def uZ:Array ε:= #[G 65,G 90,G 97,G 122,G 192,G 214,G 216,G 246,G 248,G 255,G 913,G 929,G 931,G 937,G 945,G 969,G 1024,G 1119]
def vG:Array ε:= #[G 65,G 90,G 32,G 192,G 214,G 32,G 216,G 222,G 32,G 913,G 929,G 32,G 931,G 937,G 32,G 1024,G 1039,G 80,G 1040,G 1071,G 32]
structure ϭ (w:β):Prop where
 letters:∃ t fr,w.heap[0]?=J (C uZ t fr)
 shifts:∃ t fr,w.heap[3]?=J (C vG t fr)
def ϭ.B {w w'} (h:ϭ w) (c:BQ w w'):ϭ w':=by
 obtain⟨⟨f,d,a⟩,⟨g,e,b⟩⟩:=h;exact⟨⟨f,d,by rw[c.block _ (ς a)];exact a⟩,⟨g,e,by rw[c.block _ (ς b)];exact b⟩⟩
def jm {a b} (h:a=b):Ending.returned (.bool a)=ŗ (.bool b):=by rw[h]
def tz {k a b} (h:a=b):Ending.returned (ĭ k a)=ŗ (ĭ k b):=by rw[h]
def CW (c) (w:β):Calls prog 164 #[G c] w fun e w'=>e=ŗ (.bool (oC c))/\w=w':=by
 have d:(c<48/\oC c=false)\/(48<=c/\57<c/\oC c=false)\/(48<=c/\c<=57/\oC c=true):=by
  simp only[oC,gt,hP,Bool.and_eq_false_iff,rt];omega
 rcases d with ⟨b,a⟩|⟨f,b,a⟩|⟨f,b,a⟩;all_goals
  rw[a];go_enter func164,ntmps164;go_wp2;go_ret;first|exact⟨rfl,rfl⟩|exact⟨jm (kE U),rfl⟩|exact⟨jm (kU U),rfl⟩
def vC (c) (w:β):Calls prog 224 #[G c] w fun e w'=>e=ŗ (.bool (fR c))/\w=w':=by
 have g:(c<0/\fR c=false)\/(0<=c/\1114111<c/\fR c=false)\/(0<=c/\c<=1114111/\c<55296/\fR c=true)\/(0<=c/\c<=1114111/\55296<=c/\c<=57343/\fR c=false)\/(0<=c/\c<=1114111/\55296<=c/\57343<c/\fR c=true):=by
  simp only[fR,gt,oo,hP,Bool.and_eq_false_iff,Bool.or_eq_false_iff,rt];omega
 rcases g with ⟨b,a⟩|⟨d,b,a⟩|⟨d,b,f,a⟩|⟨d,b,f,h,a⟩|⟨d,b,f,h,a⟩;all_goals
  rw[a];go_enter func224,ntmps224;go_wp2;go_ret;refine⟨jm ?_,rfl⟩;simp;try omega
def vH (c) (w:β):Calls prog 225 #[G c] w fun e w'=>e=ŗ (G (ka c))/\w=w':=by
 have f:(c<128/\ka c=1)\/(128<=c/\c<2048/\ka c=2)\/(128<=c/\2048<=c/\c<65536/\ka c=3)\/(128<=c/\2048<=c/\65536<=c/\ka c=4):=by
  unfold ka;split
  .left;omega
  .split
   .right;left;omega
   .split
    .right;right;left;omega
    .right;right;right;omega
 rcases f with ⟨b,a⟩|⟨d,b,a⟩|⟨d,b,g,a⟩|⟨d,b,g,a⟩;all_goals
  rw[a];go_enter func225,ntmps225;go_wp2;exact gH
def tj (k:Nat) (c:Int):Bool:=(sl.take k).all fun s=>!(decide (s.1<=c) && decide (c<=s.2))
def se (k:Nat) (c:Int):Bool:=(shifts.take k).all fun s=>!(decide (s.1<=c) && decide (c<=s.2.1))
def Lx {c a b} (k:Nat) (f:sl[k]?=J (a,b)) (d:a<=c) (e:c<=b):li c=true:=by
 unfold li;rw[List.any_eq_true];exact⟨ _,List.mem_of_getElem? f,by simp[d,e]⟩
def Ly {c a b} (k) (e:sl[k]?=J (a,b)) (d:tj k c=true) (h:¬(a<=c/\c<=b)):tj (k+1) c=true:=by
 unfold tj at d ⊢;rw[List.take_add_one,e,List.all_append,d];simp;omega
def Lz {c} (a:tj 9 c=true):li c=false:=by
 unfold tj at a;unfold li;rw[kT]at a;rw[nf];intro h;obtain⟨s,d,b⟩:=List.any_eq_true.1 h;have:=a s d;rw[b]at this;simp at this
def JW {d:Type} (p):∀ (l:List d) (k:Nat) (x:d),l[k]?=J x->(l.take k).all (fun s=>!p s)=true->p x=true->l.find? p=J x:=by
 intro l;induction l with
 |nil=>intro k x h;simp at h
 |cons y l c =>
  intro k x h a b;cases k with
  |zero=>simp at h;subst h;simp[b]
  |succ k =>
   simp at h a;rw[List.find?_cons,a.1];exact c k x h (by simp;exact a.2) b
def PT {c a b d} (k) (g:shifts[k]?=J (a,b,d)) (h:se k c=true) (e:a<=c) (f:c<=b):gE c=c+d:=by
 unfold gE;rw[JW _ shifts k (a,b,d) g h (by simp[e,f])]
def PV {c a b d} (k) (f:shifts[k]?=J (a,b,d)) (e:se k c=true) (h:¬(a<=c/\c<=b)):se (k+1) c=true:=by
 unfold se at e ⊢;rw[List.take_add_one,f,List.all_append,e];simp;omega
def PW {c} (a:se 7 c=true):gE c=c:=by
 unfold se at a;rw[kT]at a;unfold gE;rw[List.find?_eq_none.2];intro s b h;have:=a s b;rw[h]at this;simp at this
def DW (c w) (s:ϭ w):Calls prog 163 #[G c] w fun e w'=>e=ŗ (.bool (li c))/\BQ w w':=by
 obtain⟨t,o,hg⟩:=s.letters;go_enter func163,ntmps163;go_wp2_with (refine wpList_load_row rfl _ _ rfl 0 rfl t uZ o _ hg underlying334 rfl ϋ ?_)
 go_loopw [6] (fun j wr=>∃ d:Nat,d<=9/\j=G d/\tj d c=true/\BQ w wr) (fun j _=>9 - (intOf j).toNat)
 .exact⟨0,U,rfl,rfl,ρ _ _⟩
 obtain⟨d,u,rfl,r,f⟩:=hrel;have l:=Zh r;have g:=f.size;by_cases v:d<9
 .obtain⟨a,b,m,hi⟩:∃ a b:Int,sl[d]?=J (a,b)/\∀ w,(Instr.index 334 (ā uZ) (G d)).run prog w=.ok (ā #[G a,G b]) w:=by
   have h:d=0\/d=1\/d=2\/d=3\/d=4\/d=5\/d=6\/d=7\/d=8:=U;rcases h with rfl|rfl|rfl|rfl|rfl|rfl|rfl|rfl|rfl<;>exact⟨_,_,rfl,fun _=>ϋ⟩
  have⟨k,n⟩:=π (Ly d m l.o) (Lx (c:=c) d m);have x:(d:Int)<9:=U;by_cases p:a<=c
  .by_cases q:c<=b
   .have i:=Zh (n.o p q)
    go_wp2;go_ret;exact⟨jm i.o.symm,by first|exact f.A g _|(repeat (first|exact f.A g _|refine ug ?_ ό _))⟩
   .go_wp2
    go_roundw
    .exact⟨ _,U,ϕ,k.o U,by first|exact f.A g _|(repeat (first|exact f.A g _|refine ug ?_ ό _))⟩
    exact ω
  .go_wp2
   go_roundw
   .exact⟨ _,U,ϕ,k.o U,by first|exact f.A g _|(repeat (first|exact f.A g _|refine ug ?_ ό _))⟩
   exact ω
 .obtain rfl:d=9:=U
  have i:=Zh (Lz l.o);go_wp2;go_ret;exact⟨jm i.o.symm,f⟩
def PQ (c w) (t:ϭ w) (z : -9223372036854775808<=c) (x:c<=9223372036854775807):Calls prog 310 #[G c] w fun e w'=>e=ŗ (G (gE c))/\BQ w w':=by
 obtain⟨u,p,hg⟩:=t.shifts;go_enter func310,ntmps310;go_wp2_with (refine wpList_load_row rfl _ _ rfl 3 rfl u vG p _ hg underlying417 rfl ϋ ?_)
 go_loopw [6] (fun l wr=>∃ f:Nat,f<=7/\l=G f/\se f c=true/\BQ w wr) (fun l _=>7 - (intOf l).toNat)
 .exact⟨0,U,rfl,rfl,ρ _ _⟩
 obtain⟨f,y,rfl,s,g⟩:=hrel;have j:=Zh s;have i:=g.size;by_cases A:f<7
 .obtain⟨a,b,d,n,v,hi⟩:∃ a b d:Int,shifts[f]?=J (a,b,d)/\(0<=d/\d<=100/\b<=100000)/\∀ w,(Instr.index 417 (ā vG) (G f)).run prog w=.ok (ā #[G a,G b,G d]) w:=by
   have h:f=0\/f=1\/f=2\/f=3\/f=4\/f=5\/f=6:=U;rcases h with rfl|rfl|rfl|rfl|rfl|rfl|rfl<;>exact⟨_,_,_,rfl,ϐ,fun _=>ϋ⟩
  have⟨m,o⟩:=π (PV f n j.o) (PT  f n j.o);have E:(f:Int)<7:=U;by_cases q:a<=c
  .by_cases r:c<=b
   .have k:=Zh (o.o q r)
    have B:IntKind.i64.wrap (c+d)=c+d:=Ϗ;go_wp2;go_ret;exact⟨tz k.o.symm,by first|exact g.A i _|(repeat (first|exact g.A i _|refine ug ?_ ό _))⟩
   .go_wp2
    go_roundw
    .exact⟨ _,U,ϕ,m.o U,by first|exact g.A i _|(repeat (first|exact g.A i _|refine ug ?_ ό _))⟩
    exact ω
  .go_wp2
   go_roundw
   .exact⟨ _,U,ϕ,m.o U,by first|exact g.A i _|(repeat (first|exact g.A i _|refine ug ?_ ό _))⟩
   exact ω
 .obtain rfl:f=7:=U
  have k:=Zh (PW j.o);go_wp2;go_ret;exact⟨tz k.o.symm,g⟩
def η (l:γ):List ε:=l.map fun b=>ĭ .u8 (ch b)
def nT (b):0<=ch b/\ch b<=255:=by unfold ch;have:=b.toNat_lt;omega
def vQ (n) (a:0<=n) (b:n<2 ^ 62):IntKind.i64.wrap n=n:=Ϗ
def KC (x) (a:0<=x) (b:x<1000000):bits .and .i64 x 31=x % 32:=bits_mask .i64 62 ϐ vQ 5 U x a U
def KA (x) (a:0<=x) (b:x<1000000):bits .and .i64 x 15=x % 16:=bits_mask .i64 62 ϐ vQ 4 U x a U
def KE (x) (a:0<=x) (b:x<1000000):bits .and .i64 x 7=x % 8:=bits_mask .i64 62 ϐ vQ 3 U x a U
def KD (x) (a:0<=x) (b:x<10000000):bits .and .i64 x 63=x % 64:=bits_mask .i64 62 ϐ vQ 6 U x a U
def KF (x y) (d:0<=x) (c:x % 64=0) (e:x<100000000) (a:0<=y) (b:y<64):bits .or .i64 x y=x+y:=
 bits_join .i64 62 ϐ vQ 6 x y d c U a b U
def ul (c:Int) (n:Int) (w:β) (e:Ending) (a:β):Prop:=e=ŗ (.tuple #[G c,G n])/\w=a
def JY (b off c n) (w:β) (d:0<n) (f:n<=9223372036854775807) (e:n<=c) (z) (a:w.cell? ⟨b,off,O⟩=J (ĭ .u8 z)) (h:0<=z) (g:z<128) :
  Calls prog 223 #[D (J ⟨b,off,O⟩) n c] w (ul z 1 w):=by
 go_enter func223,ntmps223;go_wp2;go_ret2;exact⟨rfl,rfl⟩
def Dm (b off c n) (w:β) (g:0<n) (i:n<=9223372036854775807) (h:n<=c) (z) (f:w.cell? ⟨b,off,O⟩=J (ĭ .u8 z)) (j:128<=z/\z<192\/248<=z/\z<=255) :
  Calls prog 223 #[D (J ⟨b,off,O⟩) n c] w (ul 65533 1 w):=by
 have a:(z / 32==6)=false:=fU.2 U;have d:(z / 16==14)=false:=fU.2 U;have e:(z / 8==30)=false:=fU.2 U;have k:128<=z:=U;have l:z<=255:=U;go_enter func223,ntmps223;go_wp2;go_ret2;exact⟨rfl,rfl⟩
def ph:Int->γ->Option Int
 |x,[]=>J x
 |x,b::r=>if gW b then ph (x*64+(ch b - 128)) r else O
def pi (m:Nat) (x:Int) (r:γ):Int×Nat:=
 if L r+1<m then jS else match ph x (r.take (m - 1))with
  |none=>jS
  |some c=>if fR c && ka c==(m:Int)then(c,m)else jS
def Jk {b} (h:gW b=false):ch b<128\/192<=ch b:=by
 simp only[gW,Bool.and_eq_false_iff,rt]at h;omega
def rN {b} (h:gW b=true):128<=ch b/\ch b<192:=by
 simp only[gW,gt,hP]at h;exact h
def zL (b ď c n m:Nat) (r:γ) (w:β) (ak:L r+1=n) (ay:n<=9223372036854775807) (ax:n<=c) (Q:∀ i (hi:i<L r),w.cell? ⟨b,ď+1+i,O⟩=J (ĭ .u8 (ch r[i]))) (z x:Int) (au:w.cell? ⟨b,ď,O⟩=J (ĭ .u8 z)) (al:(m=2/\192<=z/\z<224/\x=z - 192)\/(m=3/\224<=z/\z<240/\x=z - 224)\/(m=4/\240<=z/\z<248/\x=z - 240)) :
  Calls prog 223 #[D (J ⟨b,ď,O⟩) n c] w (ul (pi m x r).1 (pi m x r).2 w):=by
 have aw:0<n:=U;have a0:=Zh Q;obtain⟨j,F⟩:∃ j:Int,j=m:=⟨_,rfl⟩;have t:Hid (pi m x r=if n<m then jS else match ph x (r.take (m - 1))with
  |none=>jS
  |some c=>if fR c && ka c==j then(c,m)else jS):=by show _=_;rw[<-ak,F];rfl
 generalize pi m x r=ao at *;clear Q;rcases al with ⟨l,W,X,A⟩|⟨l,W,X,A⟩|⟨l,W,X,A⟩;all_goals
  by_cases v:n<m
  .have f:=t.o
   rw[μ v]at f;subst f;first
    |have o:(z / 32==6)=true:=nm.2 U
     have p:(n:Int)<2:=U
    |have o:(z / 32==6)=false:=fU.2 U
     have B:(z / 16==14)=true:=nm.2 U;have p:(n:Int)<3:=U
    |have o:(z / 32==6)=false:=fU.2 U
     have B:(z / 16==14)=false:=fU.2 U;have af:(z / 8==30)=true:=nm.2 U;have p:(n:Int)<4:=U
   clear F A v t;go_enter func223,ntmps223;go_wp2;go_ret2;exact⟨rfl,rfl⟩
  .have f:=t.o
   rw[κ v]at f;have H:=Zh f;first
    |have o:(z / 32==6)=true:=nm.2 U
     have M:bits BinOp.and IntKind.i64 z 31=x:=by rw[KC z U U];omega
     have p:(2:Int)<=(n:Int):=U;have V:2<=c:=U;have g:Hid (j=2/\m=2):=⟨U,l⟩
    |have o:(z / 32==6)=false:=fU.2 U
     have B:(z / 16==14)=true:=nm.2 U;have M:bits BinOp.and IntKind.i64 z 15=x:=by rw[KA z U U];omega
     have p:(3:Int)<=(n:Int):=U;have V:3<=c:=U;have g:Hid (j=3/\m=3):=⟨U,l⟩
    |have o:(z / 32==6)=false:=fU.2 U
     have B:(z / 16==14)=false:=fU.2 U;have af:(z / 8==30)=true:=nm.2 U;have M:bits BinOp.and IntKind.i64 z 7=x:=by rw[KE z U U];omega
     have p:(4:Int)<=(n:Int):=U;have V:4<=c:=U;have g:Hid (j=4/\m=4):=⟨U,l⟩
   have I:Hid (0<=x/\x<32):=⟨U,U⟩;have az:m<=n:=U;clear f F A v t l;go_enter func223,ntmps223;go_wp2;go_loopw [4,42] (fun ag Z wr=>∃ (a:Nat) (y:Int),a+1<=m/\ag=G y/\Z=G a/\wr=w/\Hid (ph x (r.take (m - 1))=ph y ((r.take (m - 1)).drop a))/\0<=y/\(a=0/\y<32\/a=1/\y<2048\/a=2/\y<131072\/a=3)) (fun _ Z _=>m - 1 - (intOf Z).toNat)
   .exact⟨0,x,ι g.o,rfl,rfl,rfl,rfl,I.o.1,.inl ⟨rfl,I.o.2⟩⟩
   obtain⟨a,y,ai,rfl,rfl,rfl,K,aA,u⟩:=hrel;by_cases S:a+1<m
   .have aj:a<L r:=U
    have av:=a0.o a aj;have E:(r.take (m - 1)).drop a=r[a]::(r.take (m - 1)).drop (a+1):=by
     rw[lL Ϝ,rh]
    have h:=K.o;rw[E]at h;simp only[ph]at h;have aC:=nT r[a];have aB:y<131072:=ι g.o;have ab:=Zh S;first
     |have s:(a:Int)<1:=ι g.o
     |have s:(a:Int)<2:=ι g.o
     |have s:(a:Int)<3:=ι g.o
    have aa:=Zh u;cases k:gW r[a]with
    |false =>
     have ah:=Jk k;rw[k,κ ϐ]at h;have f:=H.o;rw[h]at f;subst f;generalize ch r[a]=d at *;have b1:(d / 64 !=2)=true:=by rw[bne_iff_ne];omega
     clear k h E ah u;go_wp2;go_ret2;exact⟨rfl,rfl⟩
    |true =>
     obtain⟨ap,ar⟩:=rN k;rw[k,μ rfl]at h;have ae:=Zh h;generalize ch r[a]=d at *;have b1:(d / 64 !=2)=false:=ϖ;have f1:bits BinOp.and IntKind.u8 d 63=d - 128:=by rw[u8_and63 d U U];omega
     have aq:bits BinOp.or IntKind.i64 (y*64) (d - 128)=y*64+(d - 128):=KF _ _ U U U U U;clear k h E u;go_wp2;go_roundw
     .exact⟨a+1,_,U,rfl,ϕ,trivial,ae.o,U,gw aa.o g.o⟩
     have:=ab.o;simp[intOf];omega
   .have R:(r.take (m - 1)).drop a=[]:=mg Ϝ
    have h:=K.o;rw[R]at h;simp only[ph]at h;have f:=H.o;rw[h]at f;simp only at f;first
     |have s:¬(a:Int)<3:=ι g.o
     |have s:¬(a:Int)<2:=ι g.o
     |have s:¬(a:Int)<1:=ι g.o
    have N:=vC y wr;have P:=vH y wr;obtain⟨q,T⟩:∃ q,(ka y !=j)=q:=⟨_,rfl⟩;have Y:(ka y==j)=!q:=by rw[<-T,bne,Bool.not_not]
    rw[Y]at f;rw[g.o.1]at T;generalize fR y=am at *;have⟨ac,ad,a1⟩:=ϲ N P f;clear N P f h R Y u ai S;cases am<;>cases q;all_goals
     go_wp2_with (first|(go_at_call 224;with_reducible refine ac.o.M ?_;rintro e an ⟨rfl,rfl⟩)|(go_at_call 225;with_reducible refine ad.o.M ?_;rintro e an ⟨rfl,rfl⟩))
     go_ret2;rw[a1.o];first|exact⟨rfl,rfl⟩|(rw[g.o.2];exact⟨rfl,rfl⟩)
def pR (b:γ) (h:b≠[]):1<=(first b).2/\(first b).2<=L b:=by
 rcases b with _|⟨b0,_|⟨b1,_|⟨b2,_|⟨b3,r⟩⟩⟩⟩
 .exact absurd rfl h
 all_goals
  simp only[first,qD,qE,qF,jS]
  (repeat' split)<;>(simp only[ϥ];omega)
def Jn:∀ (f:Nat) (b:γ),L b<=f->rR f b=rR (L b) b:=by
 intro f;induction f using Nat.strongRecOn with
 |ind f c =>
  intro b h;cases f with
  |zero=>have:b=[]:=lJ.1 U;subst this;rfl
  |succ f =>
   by_cases a:b=[]
   .subst a;simp[rR]
   .obtain⟨n,e⟩:∃ n,L b=n+1:=⟨L b - 1,ι (pA.2 a)⟩
    have g:=pR b a;rw[e];simp only[rR];rw[κ a,κ a]
    congr 1
    have d:L (b.drop (first b).2)<=n:=by rw[fT];omega
    rw[c f U _ U,c n U _ d]
theorem rT:gg []=[]:=rfl
def rU (b:γ) (h:b≠[]):gg b=(first b).1::gg (b.drop (first b).2):=by
 obtain⟨n,a⟩:∃ n,L b=n+1:=⟨L b - 1,ι (pA.2 h)⟩;unfold gg;rw[a];simp only[rR];rw[κ h]
 congr 1
 have c:=pR b h;exact Jn n _ (by rw[fT];omega)
def wR (b:γ):L (gg b)<=L b:=by
 generalize d:L b=n;induction n using Nat.strongRecOn generalizing b with
 |ind n a =>
  by_cases h:b=[]
  .subst h;simp[rT]
  .have c:=pR b h
   rw[rU b h];have:=a (L (b.drop (first b).2)) (by rw[fT];omega) _ rfl;rw[fT]at this;simp only[ϥ];omega
def DK {c} (a:0<=c) (b:c<55296):fR c=true:=by
 simp only[fR,gt,oo,hP];omega
def zx {c lo hi} {m:Nat} (h:m=2/\lo=128/\hi=2048\/m=3/\lo=2048/\hi=65536\/m=4/\lo=65536/\hi=9999999) (b:c<hi):(ka c==(m:Int))=decide (lo<=c):=by
 have e:ka c=(m:Int)↔lo<=c:=by
  unfold ka;split
  .omega
  .split
   .omega
   .split<;>omega
 by_cases a:lo<=c
 .rw[kU a,nm];exact e.2 a
 .rw[kE a,fU];exact fun q=>a (e.1 q)
def zK (x) (d:0<=x) (r:γ):(x<32->pi 2 x r=qD x r)/\(x<16->pi 3 x r=qE x r)/\(x<8->pi 4 x r=qF x r):=by
 refine⟨fun h=>?_,fun h=>?_,fun h=>?_⟩
 .match r with
  |[]=>rfl
  |b1::r =>
   unfold pi qD;rw[κ ύ];simp only[ph,yo,rq];cases a:gW b1
   .rfl
   .have:=rN a
    simp only[if_true,nh];rw[DK U U,zx (.inl ⟨rfl,rfl,rfl⟩) U];rfl
 .match r with
  |[]=>rfl
  |[_]=>rfl
  |b1::b2::r =>
   unfold pi qE;rw[κ ύ];simp only[ph,yo,rq];cases a:gW b1
   .rfl
   .cases b:gW b2
    .rfl
    .have:=rN a
     have:=rN b;simp only[if_true,nh];rw[zx (.inr (.inl ⟨rfl,rfl,rfl⟩)) U]
 .match r with
  |[]=>rfl
  |[_]=>rfl
  |[_,_]=>rfl
  |b1::b2::b3::r =>
   unfold pi qF;rw[κ ύ];simp only[ph,yo,rq];cases a:gW b1
   .rfl
   .cases b:gW b2
    .rfl
    .cases c:gW b3
     .rfl
     .have:=rN a
      have:=rN b;have:=rN c;simp only[if_true,nh];rw[zx (.inr (.inr ⟨rfl,rfl,rfl⟩)) U]
def JX (l:γ) (b off c) (w:β) (o:∀ i (s:i<L l),w.cell? ⟨b,off+i,O⟩=J (ĭ .u8 (ch l[i]))) (p:0<L l) (a:L l<=c) (d:L l<=9223372036854775807) :
  Calls prog 223 #[D (J ⟨b,off,O⟩) (L l) c] w (ul (first l).1 (first l).2 w):=by
 match l,p with
 |b0::r,_ =>
  have c0:w.cell? ⟨b,off,O⟩=J (ĭ .u8 (ch b0)):=o 0 ύ;have q:=nT b0;obtain⟨n,e⟩:∃ n,L r+1=n:=⟨_,rfl⟩;rw[ϥ,e]at a d ⊢;have k:∀ i (s:i<L r),w.cell? ⟨b,off+1+i,O⟩=J (ĭ .u8 (ch r[i])):=fun i s=>by
   have:=o (i+1) (by simpa using s);rwa [show off+(i+1)=off+1+i by omega]at this
  simp only[first];by_cases f:ch b0<128
  .rw[μ f];exact JY b off c n w U d a _ c0 q.1 f
  rw[κ f];by_cases m:ch b0<192
  .rw[μ m];exact Dm b off c n w U d a _ c0 (.inl U)
  rw[κ m];by_cases g:ch b0<224
  .rw[μ g,<-(zK _ U r).1 U]
   exact zL b off c n 2 r w e d a k _ _ c0 (.inl ⟨rfl,U,g,rfl⟩)
  rw[κ g];by_cases h:ch b0<240
  .rw[μ h,<-(zK _ U r).2.1 U]
   exact zL b off c n 3 r w e d a k _ _ c0 (.inr (.inl ⟨rfl,U,h,rfl⟩))
  rw[κ h];by_cases j:ch b0<248
  .rw[μ j,<-(zK _ U r).2.2 U]
   exact zL b off c n 4 r w e d a k _ _ c0 (.inr (.inr ⟨rfl,U,j,rfl⟩))
  rw[κ j];exact Dm b off c n w U d a _ c0 (.inr U)
def oB:(prog.info? 3).map (fun i=>(i.zero,i.size,i.bytes))=J (J (G 0),1,8):=ϋ
def τ (l:List Int):List ε:=l.map (Value.int .i64)
def uG {w:β} {v:ε} {l:γ} (h:Rd w v (L l) 1 (η l)) (g:0<L l):∃ b off c,v=D (J ⟨b,off,O⟩) (L l) c/\L l<=c/\c<=maxLen/\∀ i (k:i<L l),w.cell? ⟨b,off+i,O⟩=J (ĭ .u8 (ch l[i])):=by
 obtain⟨-,-,⟨f,c,-,j⟩|⟨b,off,c,rfl,_,a,d,e⟩⟩:=h
 .omega
 .exact⟨b,off,c,rfl,a,d,fun i k=>e i _ (by simp[η,k])⟩
def CQ (v:ε) (l:γ) (w:β) (h:Rd w v (L l) 1 (η l)) (aC:L l<=100000) :
  Calls prog 162 #[v] w (iJ w 3 1 (L (gg l)) (τ (gg l))):=by
 obtain⟨Y,hi,V,W,X⟩:=Ϩ oB;rcases nK (L l) with h0|h0
 .have E:l=[]:=lJ.1 h0
  subst E;obtain⟨-,-,⟨au,c,rfl,-⟩|⟨b,off,c,-,m,-⟩⟩:=h
  .go_enter func162,ntmps162
   go_wp2;refine wp_loop_rounds 1 ?_;rw[rounds_succ];go_wp2;go_ret;exact⟨_,rfl,gQ _ _ _ _,ρ _ _⟩
  .simp at m
 .obtain⟨b,off,c,rfl,aj,ad,N⟩:=uG h h0
  have ab:=Zh N;clear N h;unfold maxLen at ad;go_enter func162,ntmps162;go_wp2;go_loopw [0,3] (fun s a0 wr=>∃ (a q r d:Nat) (j:List Int),Hid (r+a=L l)/\r<=d/\d<=9223372036854775807/\(0<r->q=off+a)/\s=D (J ⟨b,q,O⟩) r d/\Hid (gg l=j++gg (l.drop a))/\L j<=a/\wr.ownsRow w.heap.size 3 1 a0 (L j) (τ j)/\BQ w wr) (fun s _ _=>gn s)
  .exact⟨0,off,_,c,[],rfl,aj,U,fun _=>rfl,rfl,rfl,NZ,gQ _ _ _ _,ρ _ _⟩
  obtain⟨a,q,r,d,j,y,aD,ax,al,rfl,a1,aw,B,A⟩:=hrel;have ao:=A.size;by_cases ai:0<r
  .obtain rfl:=al ai
   have n:Hid (∃ (g:Nat) (i:Int),1<=g/\g<=r/\gg (l.drop a)=i::gg (l.drop (a+g))/\Calls prog 223 #[D (J ⟨b,off+a,O⟩) r d] wr (ul i g wr)):=by
    have aE:=y.o;have R:l.drop a≠[]:=by intro e;have:=jp List.length e;simp at this;omega
    have Q:=pR _ R;rw[fT]at Q;have x:=rU _ R;have n:=JX (l.drop a) b _ d wr (fun ap hi=>by
     rw[fT]at hi
     have m:=ab.o (a+ap) U
     rw[iX,A.cell (ii w _ m),m,List.getElem_drop]) (by rw[fT];omega) (by rw[fT];omega) (by rw[fT];omega)
    rw[fT,show L l - a=r from U]at n;rw[qt]at x;exact⟨_,_,Q.1,U,x,n⟩
   obtain⟨g,i,aA,aB,x,n⟩:=n;have ac:=Zh x;clear x;have I:=Zh n;clear n;have av:L j<100001:=ι y.o;have ay:(0:Int)<=(g:Int):=U;have az:(g:Int)<=(r:Int):=U;have S:∀ aa∈[G i],aa.oneCell'=true:=by intro aa o;simp at o;subst o;rfl
   have K:=Zh S;clear S;have M:Hid (∀ (k:ε) (f:β),f.ownsRow w.heap.size 3 1 k (L j+1) (τ j++[G i])->(å wr (C #[G i] 3)).grownBy f u3.ownBlock->f.ownsRow w.heap.size 3 1 k (L (j++[i])) (τ (j++[i]))/\BQ w f):=by
    intro k f m H;refine⟨by simpa[τ] using m,(A.A ao _).grown H ό (fun aq ah=>(B.lt aq ah).1)⟩
   have T:Hid (∀ F p,(0<r - g->F=off+a+g)->r - g<=p->p<=9223372036854775807->∀ (k:ε) (f:β),f.ownsRow w.heap.size 3 1 k (L (j++[i])) (τ (j++[i]))->BQ w f->∃ (p1 Z r1 d1:Nat) (z:List Int),Hid (r1+p1=L l)/\r1<=d1/\d1<=9223372036854775807/\(0<r1->Z=off+p1)/\Value.slice (J ⟨b,F,O⟩) (r - g) p=D (J ⟨b,Z,O⟩) r1 d1/\Hid (gg l=z++gg (l.drop p1))/\L z<=p1/\f.ownsRow w.heap.size 3 1 k (L z) (τ z)/\BQ w f):=by
    intro F p am af ag k f m H;refine⟨a+g,F,_,p,_,by have:=y.o;show _=_;omega,af,ag,fun h=>by rw[am h];omega,rfl,?_,ό,m,H⟩;show _=_;rw[a1.o,ac.o];simp
   by_cases ae:d=g
   .subst ae
    go_wp2_with (first|(go_at_call 223;refine I.o.M ?_;rintro e ar ⟨rfl,rfl⟩)|(at_builtin;refine ϻ rfl _ _ _ _ rfl _ 3 Y _ 1 8 gl hi V W X rfl _ _ _ rfl (B.A _) _ 1 [G i] rfl (gh gl wr _ 1 1 1 rfl K.o) ώ U ό ?_;intro k f u t _ _;obtain⟨f1,f2⟩:=M.o k f u t;clear u t))
    go_roundw
    .have E:=T.o (off+a) 0 (fun h=>U) U U _ _ f1 f2
     rw[show r - d=0 from U]at E;exact E
    simp[gn];omega
   .go_wp2_with (first|(go_at_call 223;refine I.o.M ?_;rintro e ar ⟨rfl,rfl⟩)|(at_builtin;refine ϻ rfl _ _ _ _ rfl _ 3 Y _ 1 8 gl hi V W X rfl _ _ _ rfl (B.A _) _ 1 [G i] rfl (gh gl wr _ 1 1 1 rfl K.o) ώ U ό ?_;intro k f u t _ _;obtain⟨f1,f2⟩:=M.o k f u t;clear u t))
    go_roundw
    .exact T.o _ _ (fun h=>by first|rfl|omega) U U _ _ f1 f2
    simp[gn];omega
  .have an:r=0:=U
   subst an;go_wp2;go_ret;have ak:l.drop a=[]:=mg (ι y.o);have P:=a1.o;rw[ak,rT,iy]at P;rw[P];exact⟨_,rfl,B,A⟩
def my (x) (a:0<=x) (b:x<256):IntKind.u8.wrap x=x:=by rw[IntKind.wrap_u8];omega
def tg (c) (w:β) (a:0<=c) (b:c<10000000):Calls prog 226 #[G c] w fun e w'=>e=ŗ (ĭ .u8 (128+c % 64))/\w=w':=by
 have d:=KD c a b;have f:bits BinOp.or IntKind.u8 128 (c % 64)=128+c % 64:=u8_or128 _ U U;have g:IntKind.u8.wrap (c % 64)=c % 64:=my _ U U;go_enter func226,ntmps226;go_wp2;exact gH
def um (w:β) (l:γ) (e:Ending) (b:β):Prop:= ∃ a,e=ŗ (.tuple #[a,G 0])/\b.ownsRow w.heap.size 5 1 a (L l) (η l)/\Below w.heap.size w b
def gs (x) (a:0<=x) (b:x<256):ch (u8 x)=x:=by
 unfold ch u8;rw[yn];omega
def qH {c} (h:fR c=true):0<=c/\c<=1114111:=by
 simp only[fR,gt,hP]at h;exact h.1
def mT (w:β) (a:Array ε) (e sz n) (b:a.size=n*sz) (c:n<=maxLen):(å w (C a e)).ownsRow w.heap.size e sz (D (J ⟨w.heap.size,0,O⟩) n n) n a.toList:=
 ⟨by simpa using b,.inr ⟨w.heap.size,n,a,rfl,NZ,φ w _,NZ,c,b,gF (by rw[sw,b];exact NZ)⟩⟩
def JK (c) (w:β) (h:fR c=true) (a:c<128):Calls prog 165 #[G c] w (um w (enc c)):=by
 have o:=qH h;have b:=vC c w;rw[h]at b;have d:=vH c w;rw[show ka c=1 from by unfold ka;rw[μ a]]at d;have⟨i,j⟩:=π b d;have k:η (enc c)=[ĭ .u8 (c)]:=by
  unfold enc;rw[μ a];simp only[η,ij,jQ];rw[gs (c) U U]
 have l:L (enc c)=1:=by unfold enc;rw[μ a];rfl
 have⟨f,g⟩:=π k l;have n:IntKind.u8.wrap c=c:=my _ U U;go_enter func165,ntmps165;go_wp2_with (first|(go_at_call 224;refine i.o.M ?_;rintro e m ⟨rfl,rfl⟩)|(go_at_call 225;refine j.o.M ?_;rintro e m ⟨rfl,rfl⟩))
 go_ret2;refine⟨_,rfl,?_,ġ⟩;rw[f.o,g.o];exact mT _ _ _ 1 1 rfl ϐ
def JL (c) (w:β) (h:fR c=true) (q:128<=c) (a:c<2048):Calls prog 165 #[G c] w (um w (enc c)):=by
 have b:=vC c w;rw[h]at b;have d:=vH c w;rw[show ka c=2 from by unfold ka;rw[κ U];rw[μ a]]at d;have⟨j,k⟩:=π b d;have m:η (enc c)=[ĭ .u8 (192+c / 64),ĭ .u8 (128+c % 64)]:=by
  unfold enc;rw[κ U];rw[μ a];simp only[η,ij,jQ];rw[gs (192+c / 64) U U,gs (128+c % 64) U U]
 have n:L (enc c)=2:=by unfold enc;rw[κ U];rw[μ a];rfl
 have⟨g,i⟩:=π m n;have o:IntKind.u8.wrap (c / 64)=c / 64:=my _ U U;have p:bits BinOp.or IntKind.u8 192 (c / 64)=192+c / 64:=u8_or192 _ U U;have l:=Zh (tg (c) w U U);go_enter func165,ntmps165;go_wp2_with (first|(go_at_call 224;refine j.o.M ?_;rintro e f ⟨rfl,rfl⟩)|(go_at_call 225;refine k.o.M ?_;rintro e f ⟨rfl,rfl⟩)|(go_at_call 226;with_reducible refine l.o.M ?_;rintro e f ⟨rfl,rfl⟩))
 go_ret2;refine⟨_,rfl,?_,ġ⟩;rw[g.o,i.o];exact mT _ _ _ 1 2 rfl ϐ
def JM (c) (w:β) (h:fR c=true) (r:2048<=c) (a:c<65536):Calls prog 165 #[G c] w (um w (enc c)):=by
 have d:=vC c w;rw[h]at d;have f:=vH c w;rw[show ka c=3 from by unfold ka;rw[κ U];rw[κ U];rw[μ a]]at f;have⟨j,k⟩:=π d f;have n:η (enc c)=[ĭ .u8 (224+c / 4096),ĭ .u8 (128+c / 64 % 64),ĭ .u8 (128+c % 64)]:=by
  unfold enc;rw[κ U];rw[κ U];rw[μ a];simp only[η,ij,jQ];rw[gs (224+c / 4096) U U,gs (128+c / 64 % 64) U U,gs (128+c % 64) U U]
 have o:L (enc c)=3:=by unfold enc;rw[κ U];rw[κ U];rw[μ a];rfl
 have⟨g,i⟩:=π n o;have p:IntKind.u8.wrap (c / 4096)=c / 4096:=my _ U U;have q:bits BinOp.or IntKind.u8 224 (c / 4096)=224+c / 4096:=u8_or224 _ U U;have⟨l,m⟩:=π (tg (c / 64) w U U) (tg (c) w U U);go_enter func165,ntmps165;go_wp2_with (first|(go_at_call 224;refine j.o.M ?_;rintro e b ⟨rfl,rfl⟩)|(go_at_call 225;refine k.o.M ?_;rintro e b ⟨rfl,rfl⟩)|(go_at_call 226;with_reducible refine l.o.M ?_;rintro e b ⟨rfl,rfl⟩)|(go_at_call 226;with_reducible refine m.o.M ?_;rintro e b ⟨rfl,rfl⟩))
 go_ret2;refine⟨_,rfl,?_,ġ⟩;rw[g.o,i.o];exact mT _ _ _ 1 3 rfl ϐ
def JN (c) (w:β) (h:fR c=true) (r:65536<=c):Calls prog 165 #[G c] w (um w (enc c)):=by
 have s:=qH h;have b:=vC c w;rw[h]at b;have d:=vH c w;rw[show ka c=4 from by unfold ka;rw[κ U];rw[κ U];rw[κ U]]at d;have⟨i,j⟩:=π b d;have n:η (enc c)=[ĭ .u8 (240+c / 262144),ĭ .u8 (128+c / 4096 % 64),ĭ .u8 (128+c / 64 % 64),ĭ .u8 (128+c % 64)]:=by
  unfold enc;rw[κ U];rw[κ U];rw[κ U];simp only[η,ij,jQ];rw[gs (240+c / 262144) U U,gs (128+c / 4096 % 64) U U,gs (128+c / 64 % 64) U U,gs (128+c % 64) U U]
 have o:L (enc c)=4:=by unfold enc;rw[κ U];rw[κ U];rw[κ U];rfl
 have⟨f,g⟩:=π n o;have p:IntKind.u8.wrap (c / 262144)=c / 262144:=my _ U U;have q:bits BinOp.or IntKind.u8 240 (c / 262144)=240+c / 262144:=u8_or240 _ U U;have⟨k,l,m⟩:=ϲ (tg (c / 4096) w U U) (tg (c / 64) w U U) (tg (c) w U U);go_enter func165,ntmps165;go_wp2_with (first|(go_at_call 224;refine i.o.M ?_;rintro e a ⟨rfl,rfl⟩)|(go_at_call 225;refine j.o.M ?_;rintro e a ⟨rfl,rfl⟩)|(go_at_call 226;with_reducible refine k.o.M ?_;rintro e a ⟨rfl,rfl⟩)|(go_at_call 226;with_reducible refine l.o.M ?_;rintro e a ⟨rfl,rfl⟩)|(go_at_call 226;with_reducible refine m.o.M ?_;rintro e a ⟨rfl,rfl⟩))
 go_ret2;refine⟨_,rfl,?_,ġ⟩;rw[f.o,g.o];exact mT _ _ _ 1 4 rfl ϐ
def zI (c) (w:β) (h:fR c=true):Calls prog 165 #[G c] w (um w (enc c)):=by
 by_cases a:c<128
 .exact JK c w h a
 by_cases b:c<2048
 .exact JL c w h U b
 by_cases d:c<65536
 .exact JM c w h U d
 .exact JN c w h U
def δ (l:γ):ByteArray:=⟨l.toArray⟩
def Ϫ (l:γ):ε:=š (δ l)
def Ki (l:γ):∀ s:ByteArray,(l.map ch).foldl (fun r n=>r.push (UInt8.ofNat n.toNat)) s=⟨s.data++l.toArray⟩:=by
 induction l with
 |nil=>intro s;simp
 |cons b l a =>
  intro s;simp only[ij,List.foldl_cons,a];have:UInt8.ofNat (ch b).toNat=b:=by simp[ch]
  rw[this]
  congr 1
  apply Array.ext';simp[ByteArray.push]
def oM {P} (w:β) (src dst e) (k:P.underlying src=J (.slice e)) (i:P.underlying e=J (.int .u8)) (g:P.underlying dst=J .string)
  (v:ε) (l:γ) (h:Rd w v (L l) 1 (η l)):(convert src dst v).run P w=.ok (š (δ l)) w:=by
 have m:∀ (a:Addr) (c:Nat),(∀ d f,(η l)[d]?=J f->w.cell? (a.add d)=J f)->(convert src dst (D (J a) (L l) c)).run P w=.ok (š (δ l)) w:=by
  intro a c s;rw[run_convert_bytes_string w src dst e _ _ _ k i g];have r:η l=(l.map ch).map (Value.int .u8):=by simp[η]
  have j:=run_loadCells_list (P:=P) w a _ s;rw[show(L (η l))=L l from by simp[η],r]at j;rw[run_bytesToString w a (L l) c (l.map ch) j,Ki];simp[δ]
 obtain⟨-,-,⟨n,c,rfl,o⟩|⟨b,off,c,rfl,-,-,-,p⟩⟩:=h
 .have u:l=[]:=lJ.1 o
  subst u;cases n with
  |some a=>exact m a c (by simp[η])
  |none =>
   rw[run_convert_bytes_string w src dst e _ _ _ k i g];simp[Conv.bytesToString,δ];rfl
 .refine m ⟨b,off,O⟩ c (fun d f t=>?_)
  have q:(⟨b,off,O⟩:Addr).add d=⟨b,off+d,O⟩:=by unfold Addr.add;split<;>simp_all
  rw[q];exact p d f t
def iG (l):(δ l).size=L l:=by simp[δ,ByteArray.size]
def tO (l):(δ l).data.toList=l:=by simp[δ]
def Cl (a b):δ a++δ b=δ (a++b):=by
 unfold δ;apply ByteArray.ext;simp
section
variable {P:Program} {ops:Array Oper} {Q:Exit->Act->β->Prop} {md:Region.Mode} {S:β->Prop}
def Ϥ (P:Program) (md:Region.Mode) (ops:Array Oper) (Q:Exit->Act->β->Prop) (S:β->Prop) (c:Nat):Nat->Array Bool->Act->β->Prop
 |0,listed,a,w=>Region.ready md ops listed=[]/\Q .normal a w
 |fuel+1,listed,a,w =>
  (Region.ready md ops listed=[]->Q .normal a w) /\
  ∀ b∈Region.ready md ops listed,wpOp P ops Q b (fun e d=>((listed.setIfInBounds b true).getD c true=false->S d)/\Ϥ P md ops Q S c fuel (listed.setIfInBounds b true) e d) a w
theorem BU {f:Nat}:∀ (fuel:Nat) (b:Array Bool) (a:Act) (w:β),Ϥ P md ops Q S f fuel b a w->wpAny P md ops Q fuel b a w
 |0,_,_,_,h=>h
 |fuel+1,_,_,_,h=>⟨h.1,fun e hi=>mZ (fun c g d=>BU fuel _ c g d.2) (h.2 e hi)⟩
def py (md:Region.Mode) (ops:Array Oper) (a i:Nat):Bool:=match ops[a]? with|some o=>o.after.any fun e=>Region.binds md e && e.on==i|none=>false
def Am {e i:Nat} {d:Array Bool} (b:py md ops e i=true) (l:d.getD i true=false):e∉Region.ready md ops d:=by
 intro h;obtain⟨-,o,g,f⟩:=mem_ready.1 h;unfold py at b;rw[g]at b;simp only[Array.any_eq_true]at b;obtain⟨j,k,c⟩:=b;simp only[gt,nm]at c;have a:=f o.after[j] (Array.getElem_mem _) c.1;rw[c.2]at a;rcases pC i d.size with h'|h'
 .simp[h']at l a;rw[l]at a;cases a
 .simp[yq h']at a
def pT {a:Array Bool} {i l} (h:i≠l):(a.setIfInBounds i true).getD l true=a.getD l true:=getD_set_ne true h
def HQ {k i:Nat} {oi:Oper} {v:ε} (hi:ops[i]?=J oi) (Z:i≠k) (ae:py md ops k i=true) (K:∀ (j:Nat) (o:Oper) p b,ops[j]?=J o->o.op≠.select p b)
  (T:∀ c a w,Q (.panic c) (a.put oi.dst v) w->Q (.panic c) a w) :
  ∀ (ď:Nat) (d:Array Bool) (a:Act) (w:β),
   (∀ j l,ops[j]?=J l->j≠i->d.getD j true=false->(∀ e∈l.after,Region.binds md e=true->e.on≠i)->oi.apart ops l=true) ->
   i∈Region.ready md ops d->YieldsIf P ops S oi v a->d.getD k true=false->S w ->
   Ϥ P md ops Q S k ď (d.setIfInBounds i true) (a.put oi.dst v) w->Ϥ P md ops Q S k (ď+1) d a w:=by
 intro ď;induction ď with
 |zero =>
  intro d a w _ g u x r n;refine⟨fun h=>(by rw[h]at g;cases g),fun j s=>?_⟩;by_cases f:j=i
  .subst f;exact u.wpOp hi r ⟨fun _=>r,n⟩
  .have I:=ql s f
   rw[n.1]at I;cases I
 |succ ď af =>
  intro d a w B g u x r n;refine⟨fun h=>(by rw[h]at g;cases g),fun j s=>?_⟩;by_cases f:j=i
  .subst f;exact u.wpOp hi r ⟨fun _=>r,n⟩
  .have z:=(mem_ready.1 g).1
   have F:j≠k:=fun e=>Am ae z (e ▸ s);have R:=n.2 j (ql s f);obtain⟨M,l,y,a1⟩:=mem_ready.1 s;have ad:∀ e∈l.after,Region.binds md e=true->e.on≠i:=fun e W V X=>by
    have q:=a1 e W V;rw[X]at q;rcases pC i d.size with h'|h'
    .simp[h']at z q;rw[z]at q;cases q
    .simp[yq h']at q
   have N:=wpOp_putIf y (B j l y f M ad) (fun p b=>K i oi p b hi) (fun p b=>K j l p b y) T u R;have Y:∀ m ok,ops[m]?=J ok->m≠i->(d.setIfInBounds j true).getD m true=false ->
     (∀ e∈ok.after,Region.binds md e=true->e.on≠i)->oi.apart ops ok=true:=fun m ok aa ab H ac=>by
    refine B m ok aa ab ?_ ac;by_cases E:j=m
    .subst E;exact M
    .rw[getD_set_ne true E]at H;exact H
   have A:((d.setIfInBounds i true).setIfInBounds j true).getD k true=false:=by rw[pT F,pT Z];exact x
   refine mZ (fun a0 ag t=>⟨fun _=>t.2.1 A,af (d.setIfInBounds j true) a0 ag Y (ql g (Ne.symm f)) t.1 (by rw[pT F];exact x) (t.2.1 A) ?_⟩) N;rw[yr _ _ f];exact t.2.2
def BS {m i:Nat} {oi:Oper} {v:ε} (hi:ops[i]?=J oi) (x:i≠m) (H:∀ (j:Nat) (o:Oper) p b,ops[j]?=J o->o.op≠.select p b)
  (R:∀ c a w,Q (.panic c) (a.put oi.dst v) w->Q (.panic c) a w) :
  ∀ (ď:Nat) (d:Array Bool) (a:Act) (w:β),
   (∀ j k,ops[j]?=J k->j≠i->d.getD j true=false->(∀ e∈k.after,Region.binds md e=true->e.on≠i)->oi.apart ops k=true) ->
   i∈Region.ready md ops d->YieldsIf P ops (fun _=>True) oi v a->(d.getD m true=false->S w) ->
   Ϥ P md ops Q S m ď (d.setIfInBounds i true) (a.put oi.dst v) w->Ϥ P md ops Q S m (ď+1) d a w:=by
 intro ď;induction ď with
 |zero =>
  intro d a w _ g t u n;refine⟨fun h=>(by rw[h]at g;cases g),fun j s=>?_⟩;by_cases f:j=i
  .subst f;exact t.wpOp hi trivial ⟨fun h=>u (by rw[pT x]at h;exact h),n⟩
  .have K:=ql s f
   rw[n.1]at K;cases K
 |succ ď ac =>
  intro d a w A g t u n;refine⟨fun h=>(by rw[h]at g;cases g),fun j s=>?_⟩;by_cases f:j=i
  .subst f;exact t.wpOp hi trivial ⟨fun h=>u (by rw[pT x]at h;exact h),n⟩
  .have I:=(mem_ready.1 g).1
   have N:=n.2 j (ql s f);obtain⟨E,k,y,T⟩:=mem_ready.1 s;have ab:∀ e∈k.after,Region.binds md e=true->e.on≠i:=fun e V a1 W=>by
    have q:=T e V a1;rw[W]at q;rcases pC i d.size with h'|h'
    .simp[h']at I q;rw[I]at q;cases q
    .simp[yq h']at q
   have M:=wpOp_putIf y (A j k y f E ab) (fun p b=>H i oi p b hi) (fun p b=>H j k p b y) R t N;have X:∀ l ok,ops[l]?=J ok->l≠i->(d.setIfInBounds j true).getD l true=false ->
     (∀ e∈ok.after,Region.binds md e=true->e.on≠i)->oi.apart ops ok=true:=fun l ok Y Z F aa=>by
    refine A l ok Y Z ?_ aa;by_cases B:j=l
    .subst B;exact E
    .rw[getD_set_ne true B]at F;exact F
   have z:(d.setIfInBounds j true).getD m true=false->((d.setIfInBounds i true).setIfInBounds j true).getD m true=false:=fun h=>by
    rw[yr _ _ (Ne.symm f),pT x];exact h
   refine mZ (fun a0 ad r=>⟨fun h=>r.2.1 (z h),ac (d.setIfInBounds j true) a0 ad X (ql g (Ne.symm f)) r.1 (fun h=>r.2.1 (z h)) ?_⟩) M;rw[yr _ _ f];exact r.2.2
def km {d:Nat} (i:Nat) (v:ε) {n:Oper} {fuel:Nat} {b:Array Bool} {a:Act} {w:β} (o:ops[i]?=J n) (e:(py md ops d i && (i !=d) && !b.getD d true)=true)
  (l:Region.noSelect ops=true) (j:Region.free md ops b i=true) (k:(Region.ready md ops b).contains i=true)
  (f:∀ c a w,Q (.panic c) (a.put n.dst v) w->Q (.panic c) a w) (m:Region.wanted n (yielded ops a.tmps)=true) (p:∀ w,S w->(execOp a.eval n).run P w=.ok (.value v) w) (g:S w)
  (h:Ϥ P md ops Q S d fuel (b.setIfInBounds i true) (a.put n.dst v) w):Ϥ P md ops Q S d (fuel+1) b a w:=by
 simp only[gt,bne_iff_ne,Bool.not_eq_true']at e;exact HQ o e.1.2 e.1.1 (yt l) f fuel b a w (Region.free_spec o j) (by simpa using k) (.inl ⟨m,p⟩) e.2 g h
def gq {d:Nat} (i:Nat) (v:ε) {n:Oper} {fuel:Nat} {b:Array Bool} {a:Act} {w:β} (o:ops[i]?=J n) (j:(i !=d)=true)
  (l:Region.noSelect ops=true) (g:Region.free md ops b i=true) (k:(Region.ready md ops b).contains i=true)
  (e:∀ c a w,Q (.panic c) (a.put n.dst v) w->Q (.panic c) a w) (m:Region.wanted n (yielded ops a.tmps)=true) (p:∀ w,(execOp a.eval n).run P w=.ok (.value v) w) (f:S w)
  (h:Ϥ P md ops Q S d fuel (b.setIfInBounds i true) (a.put n.dst v) w):Ϥ P md ops Q S d (fuel+1) b a w:=
 BS o (by simpa using j) (yt l) e fuel b a w (Region.free_spec o g) (by simpa using k) (.inl ⟨m,fun w _=>p w⟩) (fun _=>f) h
def Κ {f:Nat} (i:Nat) {o:Oper} {fuel:Nat} {d:Array Bool} {a:Act} {w:β} (c:Region.ready md ops d=[i]) (n:ops[i]?=J o)
  (h:∀ K:Act->β->Prop,(∀ b w',S w'->Ϥ P md ops Q S f fuel (d.setIfInBounds i true) b w'->K b w')->if Region.wanted o (yielded ops a.tmps)=true then Oper.wp P o a w K Q else K (a.put o.dst undef) w) :
  Ϥ P md ops Q S f (fuel+1) d a w:=by
 refine⟨fun j=>?_,fun p e=>?_⟩
 .rw[j]at c;cases c
 .rw[c]at e
  obtain rfl:=kF.1 e;exact lH n (fun g m=>h g (fun b w' k l=>m b w' ⟨fun _=>k,l⟩))
def jF {b:Nat} {o:Oper} {fuel:Nat} {d:Array Bool} {a:Act} {w:β} (e:Region.ready md ops d=[b]) (m:(decide (b<d.size))=true) (n:ops[b]?=J o)
  (h:∀ K:Act->β->Prop,(∀ c w',Ϥ P md ops Q S b fuel (d.setIfInBounds b true) c w'->K c w')->if Region.wanted o (yielded ops a.tmps)=true then Oper.wp P o a w K Q else K (a.put o.dst undef) w) :
  Ϥ P md ops Q S b (fuel+1) d a w:=by
 refine⟨fun i=>?_,fun p f=>?_⟩
 .rw[i]at e;cases e
 .rw[e]at f
  obtain rfl:=kF.1 f;have l:=of_decide_eq_true m;exact lH n (fun g k=>h g (fun c w' j=>k c w' ⟨fun h=>by simp[l]at h,j⟩))
def wm {d:Nat} {c:Array Bool} {a:Act} {w:β} (b:Region.ready md ops c=[]) (h:Q .normal a w):∀ fuel,Ϥ P md ops Q S d fuel c a w
 |0=>⟨b,h⟩
 |_+1=>⟨fun _=>h,by rw[b];simp⟩
def ϯ (S:β->Prop) (c:Nat) {d:Nat} {a:Act} {w:β} (b:P.follows .mixedOrders=true)
  (h:Ϥ P .any ops Q S c ops.size (Array.replicate ops.size false) a w.drew):(Code.region d ops true).wp P Q a w:=
 wp_region_any b (BU _ _ _ _ h)
end
section
variable {P:Program} {ops:Array Oper} {Q:Exit->Act->β->Prop} {md:Region.Mode} {S:β->Prop}
def BG {d:Nat} (i:Nat) {o:Oper} {n:Nat} {b:Array Bool} {a:Act} {w:β} (p:ops[i]?=J o) (j:(i !=d)=true)
  (l:Region.noSelect ops=true) (g:Region.free md ops b i=true) (k:(Region.ready md ops b).contains i=true)
  (e:∀ c a w,Q (.panic c) (a.put o.dst undef) w->Q (.panic c) a w) (m:Region.wanted o (yielded ops a.tmps)=false) (f:S w)
  (h:Ϥ P md ops Q S d n (b.setIfInBounds i true) (a.put o.dst undef) w):Ϥ P md ops Q S d (n+1) b a w:=
 BS p (by simpa using j) (yt l) e n b a w (Region.free_spec p g) (by simpa using k) (.inr ⟨m,rfl⟩) (fun _=>f) h
def rC {e:Nat} (i:Nat) {o:Oper} {r:Nat} {c:Array Bool} {a:Act} {w:β} (d:Region.ready md ops c=[i]) (p:ops[i]?=J o) (n:(c.setIfInBounds i true).getD e true=true)
  (h:∀ K:Act->β->Prop,(∀ b w',Ϥ P md ops Q S e r (c.setIfInBounds i true) b w'->K b w')->if Region.wanted o (yielded ops a.tmps)=true then Oper.wp P o a w K Q else K (a.put o.dst undef) w) :
  Ϥ P md ops Q S e (r+1) c a w:=by
 refine⟨fun l=>?_,fun q g=>?_⟩
 .rw[l]at d;cases d
 .rw[d]at g
  obtain rfl:=kF.1 g;exact lH p (fun j m=>h j (fun b w' k=>m b w' ⟨fun f=>(by rw[n]at f;cases f),k⟩))
end
section
variable {P:Program} {ops:Array Oper} {Q:Exit->Act->β->Prop} {md:Region.Mode} {S:β->Prop}
def sJ (md:Region.Mode) (ops:Array Oper) (c i:Nat) (a:List Nat) (e:Array Bool):Bool:=
 a.contains c && !a.contains i && a.all fun b=>(!e.getD b true) && (i::a).any fun d=>py md ops b d
def Ii {f i:Nat} {a:List Nat} {g:Array Bool} (h:sJ md ops f i a g=true):f∈a/\i∉a/\∀ b∈a,g.getD b true=false/\∃ d∈i::a,py md ops b d=true:=by
 unfold sJ at h;simp only[gt,List.contains_iff_mem,Bool.not_eq_true',kT,List.any_eq_true]at h;refine⟨h.1.1,?_,fun b c=>⟨(h.2 b c).1,?_⟩⟩
 .have:=h.1.2
  intro e;rw[<-List.contains_iff_mem]at e;rw[e]at this;cases this
 .obtain⟨d,j,k⟩:=(h.2 b c).2
  exact⟨d,j,k⟩
def HR {l i:Nat} {oi:Oper} {v:ε} (n:List Nat) (hi:ops[i]?=J oi) (B:l∈n) (ad:i∉n) (ak:∀ b∈n,∃ d∈i::n,py md ops b d=true) (T:∀ (j:Nat) (o:Oper) t b,ops[j]?=J o->o.op≠.select t b)
  (Y:∀ c a w,Q (.panic c) (a.put oi.dst v) w->Q (.panic c) a w) :
  ∀ (ď:Nat) (f:Array Bool) (a:Act) (w:β),
   (∀ j m,ops[j]?=J m->j≠i->f.getD j true=false->(∀ e∈m.after,Region.binds md e=true->e.on≠i)->oi.apart ops m=true) ->
   i∈Region.ready md ops f->YieldsIf P ops S oi v a->(∀ b∈n,f.getD b true=false)->S w ->
   Ϥ P md ops Q S l ď (f.setIfInBounds i true) (a.put oi.dst v) w->Ϥ P md ops Q S l (ď+1) f a w:=by
 have ae:i≠l:=fun e=>ad (e ▸ B);intro ď;induction ď with
 |zero =>
  intro f a w _ k A z x s;refine⟨fun h=>(by rw[h]at k;cases k),fun j q=>?_⟩;by_cases g:j=i
  .subst g;exact A.wpOp hi x ⟨fun _=>x,s⟩
  .have R:=ql q g
   rw[s.1]at R;cases R
 |succ ď al =>
  intro f a w H k A z x s;refine⟨fun h=>(by rw[h]at k;cases k),fun j q=>?_⟩;by_cases g:j=i
  .subst g;exact A.wpOp hi x ⟨fun _=>x,s⟩
  .have F:=(mem_ready.1 k).1
   have I:j∉n:=fun p=>by
    obtain⟨d,hd,V⟩:=ak j p;rcases hH.1 hd with rfl|hd
    .exact Am V F q
    .exact Am V (z d hd) q
   have af:j≠l:=fun e=>I (e ▸ B);have X:=s.2 j (ql q g);obtain⟨M,m,E,Z⟩:=mem_ready.1 q;have aj:∀ e∈m.after,Region.binds md e=true->e.on≠i:=fun e aa p ab=>by
    have u:=Z e aa p;rw[ab]at u;rcases pC i f.size with h'|h'
    .simp[h']at F u;rw[F]at u;cases u
    .simp[yq h']at u
   have a1:=wpOp_putIf E (H j m E g M aj) (fun t b=>T i oi t b hi) (fun t b=>T j m t b E) Y A X;have ac:∀ r ok,ops[r]?=J ok->r≠i->(f.setIfInBounds j true).getD r true=false ->
     (∀ e∈ok.after,Region.binds md e=true->e.on≠i)->oi.apart ops ok=true:=fun r ok ag ah N ai=>by
    refine H r ok ag ah ?_ ai;by_cases K:j=r
    .subst K;exact M
    .rw[getD_set_ne true K]at N;exact N
   have W:((f.setIfInBounds i true).setIfInBounds j true).getD l true=false:=by rw[pT af,pT ae];exact z l B
   refine mZ (fun a0 am y=>⟨fun _=>y.2.1 W,al (f.setIfInBounds j true) a0 am ac (ql k (Ne.symm g)) y.1 (fun b p=>by rw[pT (fun e=>I (by rw[e];exact p))];exact z b p) (y.2.1 W) ?_⟩) a1;rw[yr _ _ g];exact y.2.2
def mI {f:Nat} (i:Nat) (g:List Nat) (v:ε) {t:Oper} {fuel:Nat} {d:Array Bool} {a:Act} {w:β} (u:ops[i]?=J t) (s:sJ md ops f i g d=true)
  (q:Region.noSelect ops=true) (o:Region.free md ops d i=true) (p:(Region.ready md ops d).contains i=true)
  (m:∀ c a w,Q (.panic c) (a.put t.dst v) w->Q (.panic c) a w) (r:Region.wanted t (yielded ops a.tmps)=true) (x:∀ w,S w->(execOp a.eval t).run P w=.ok (.value v) w) (n:S w)
  (h:Ϥ P md ops Q S f fuel (d.setIfInBounds i true) (a.put t.dst v) w):Ϥ P md ops Q S f (fuel+1) d a w:=by
 obtain⟨k,l,j⟩:=Ii s;exact HR g u k l (fun b e=>(j b e).2) (yt q) m fuel d a w (Region.free_spec u o) (by simpa using p) (.inl ⟨r,x⟩) (fun b e=>(j b e).1) n h
end
section
variable {P:Program} {ops:Array Oper} {Q:Exit->Act->β->Prop} {md:Region.Mode} {S:β->Prop} {last fuel:Nat} {listed:Array Bool} {a a':Act} {w w':β} {v:ε} {oi:Oper}
def Zf (i:Nat) (f:S w) (h:Ϥ P md ops Q S last fuel (listed.setIfInBounds i true) a' w) (k:ops[i]?=J oi:=by rfl)
  (hy:∀ w,(execOp a.eval oi).run P w=.ok (.value v) w:=by intro W;go_simp;try with_reducible rfl)
  (e:a.put oi.dst v=a':=by simp only[Act.put,uh,vX,vY];rfl) (d:(i !=last)=true:=by kernel_rfl)
  (l:Region.noSelect ops=true:=by kernel_rfl) (j:Region.free md ops listed i=true:=by kernel_rfl) (m:(Region.ready md ops listed).contains i=true:=by kernel_rfl)
  (g:∀ c a w,Q (.panic c) (a.put oi.dst v) w->Q (.panic c) a w:=by exact fun _ _ _ h=>h) (b:Region.wanted oi (yielded ops a.tmps)=true:=by kernel_rfl):Ϥ P md ops Q S last (fuel+1) listed a w:=
 gq i v k d l j m g b hy f (e ▸ h)
def Zk (i:Nat) (f:S w) (h:Ϥ P md ops Q S last fuel (listed.setIfInBounds i true) a' w) (k:ops[i]?=J oi:=by rfl)
  (hy:∀ w,S w->(execOp a.eval oi).run P w=.ok (.value v) w:=by intro W hW;subst hW;go_simp;try with_reducible rfl)
  (e:a.put oi.dst v=a':=by simp only[Act.put,uh,vX,vY];rfl) (b:(py md ops last i && (i !=last) && !listed.getD last true)=true:=by kernel_rfl)
  (l:Region.noSelect ops=true:=by kernel_rfl) (j:Region.free md ops listed i=true:=by kernel_rfl) (m:(Region.ready md ops listed).contains i=true:=by kernel_rfl)
  (g:∀ c a w,Q (.panic c) (a.put oi.dst v) w->Q (.panic c) a w:=by exact fun _ _ _ h=>h) (d:Region.wanted oi (yielded ops a.tmps)=true:=by kernel_rfl):Ϥ P md ops Q S last (fuel+1) listed a w:=
 km i v k b l j m g d hy f (e ▸ h)
def Zb (i:Nat) (b:List Nat) (g:S w) (h:Ϥ P md ops Q S last fuel (listed.setIfInBounds i true) a' w) (l:ops[i]?=J oi:=by rfl)
  (hy:∀ w,S w->(execOp a.eval oi).run P w=.ok (.value v) w:=by intro W hW;subst hW;go_simp;try with_reducible rfl)
  (f:a.put oi.dst v=a':=by simp only[Act.put,uh,vX,vY];rfl) (d:sJ md ops last i b listed=true:=by kernel_rfl)
  (m:Region.noSelect ops=true:=by kernel_rfl) (k:Region.free md ops listed i=true:=by kernel_rfl) (n:(Region.ready md ops listed).contains i=true:=by kernel_rfl)
  (j:∀ c a w,Q (.panic c) (a.put oi.dst v) w->Q (.panic c) a w:=by exact fun _ _ _ h=>h) (e:Region.wanted oi (yielded ops a.tmps)=true:=by kernel_rfl):Ϥ P md ops Q S last (fuel+1) listed a w:=
 mI i b v l d m k n j e hy g (f ▸ h)
def Zs (i:Nat) (f:S w) (h:Ϥ P md ops Q S last fuel (listed.setIfInBounds i true) a' w) (k:ops[i]?=J oi:=by rfl)
  (e:a.put oi.dst undef=a':=by simp only[Act.put,uh,vX,vY];rfl) (d:(i !=last)=true:=by kernel_rfl)
  (l:Region.noSelect ops=true:=by kernel_rfl) (j:Region.free md ops listed i=true:=by kernel_rfl) (m:(Region.ready md ops listed).contains i=true:=by kernel_rfl)
  (g:∀ c a w,Q (.panic c) (a.put oi.dst undef) w->Q (.panic c) a w:=by exact fun _ _ _ h=>h) (b:Region.wanted oi (yielded ops a.tmps)=false:=by kernel_rfl):Ϥ P md ops Q S last (fuel+1) listed a w:=
 BG i k d l j m g b f (e ▸ h)
def iO (i:Nat) (j:ops[i]?=J oi) (e:S w) (h:Ϥ P md ops Q S last fuel (listed.setIfInBounds i true) (a.put oi.dst v) w)
  (l:∀ w,(execOp a.eval oi).run P w=.ok (.value v) w:=by intro W;go_simp;try with_reducible rfl) (d:(i !=last)=true:=by kernel_rfl)
  (k:Region.noSelect ops=true:=by kernel_rfl) (g:Region.free md ops listed i=true:=by kernel_rfl) (m:(Region.ready md ops listed).contains i=true:=by kernel_rfl)
  (f:∀ c a w,Q (.panic c) (a.put oi.dst v) w->Q (.panic c) a w:=by exact fun _ _ _ h=>h) (b:Region.wanted oi (yielded ops a.tmps)=true:=by kernel_rfl):Ϥ P md ops Q S last (fuel+1) listed a w:=
 gq i v j d k g m f b l e h
def Rr (i:Nat) (j:ops[i]?=J oi) (e:S w) (h:Ϥ P md ops Q S last fuel (listed.setIfInBounds i true) (a.put oi.dst v) w)
  (l:∀ w,S w->(execOp a.eval oi).run P w=.ok (.value v) w:=by intro W hW;subst hW;go_simp;try with_reducible rfl) (b:(py md ops last i && (i !=last) && !listed.getD last true)=true:=by kernel_rfl)
  (k:Region.noSelect ops=true:=by kernel_rfl) (g:Region.free md ops listed i=true:=by kernel_rfl) (m:(Region.ready md ops listed).contains i=true:=by kernel_rfl)
  (f:∀ c a w,Q (.panic c) (a.put oi.dst v) w->Q (.panic c) a w:=by exact fun _ _ _ h=>h) (d:Region.wanted oi (yielded ops a.tmps)=true:=by kernel_rfl):Ϥ P md ops Q S last (fuel+1) listed a w:=
 km i v j b k g m f d l e h
def pN (i:Nat) (b:List Nat) (k:ops[i]?=J oi) (f:S w) (h:Ϥ P md ops Q S last fuel (listed.setIfInBounds i true) (a.put oi.dst v) w)
  (hy:∀ w,S w->(execOp a.eval oi).run P w=.ok (.value v) w:=by intro W hW;subst hW;go_simp;try with_reducible rfl) (d:sJ md ops last i b listed=true:=by kernel_rfl)
  (l:Region.noSelect ops=true:=by kernel_rfl) (j:Region.free md ops listed i=true:=by kernel_rfl) (m:(Region.ready md ops listed).contains i=true:=by kernel_rfl)
  (g:∀ c a w,Q (.panic c) (a.put oi.dst v) w->Q (.panic c) a w:=by exact fun _ _ _ h=>h) (e:Region.wanted oi (yielded ops a.tmps)=true:=by kernel_rfl):Ϥ P md ops Q S last (fuel+1) listed a w:=
 mI i b v k d l j m g e hy f h
def Rs (i:Nat) (j:ops[i]?=J oi) (e:S w) (h:Ϥ P md ops Q S last fuel (listed.setIfInBounds i true) (a.put oi.dst undef) w) (d:(i !=last)=true:=by kernel_rfl)
  (k:Region.noSelect ops=true:=by kernel_rfl) (g:Region.free md ops listed i=true:=by kernel_rfl) (l:(Region.ready md ops listed).contains i=true:=by kernel_rfl)
  (f:∀ c a w,Q (.panic c) (a.put oi.dst undef) w->Q (.panic c) a w:=by exact fun _ _ _ h=>h) (b:Region.wanted oi (yielded ops a.tmps)=false:=by kernel_rfl):Ϥ P md ops Q S last (fuel+1) listed a w:=
 BG i j d k g l f b e h
def Zl {o:Oper} (h:Ϥ P md ops Q S last fuel (listed.setIfInBounds last true) a' w') (d:ops[last]?=J o:=by rfl)
  (e:∀ K:Act->β->Prop,K a' w'->if Region.wanted o (yielded ops a.tmps)=true then Oper.wp P o a w K Q else K (a.put o.dst undef) w:=by intro K hK;go_simp;exact hK)
  (c:Region.ready md ops listed=[last]:=by kernel_rfl) (b:(decide (last<listed.size))=true:=by kernel_rfl):Ϥ P md ops Q S last (fuel+1) listed a w:=
 jF c b d (fun K hK=>e K (hK _ _ h))
def Ze {o:Oper} (i:Nat) (h:Ϥ P md ops Q S last fuel (listed.setIfInBounds i true) a' w') (d:ops[i]?=J o:=by rfl)
  (e:∀ K:Act->β->Prop,K a' w'->if Region.wanted o (yielded ops a.tmps)=true then Oper.wp P o a w K Q else K (a.put o.dst undef) w:=by intro K hK;go_simp;exact hK)
  (b:Region.ready md ops listed=[i]:=by kernel_rfl) (c:(listed.setIfInBounds i true).getD last true=true:=by kernel_rfl):Ϥ P md ops Q S last (fuel+1) listed a w:=
 rC i b d c (fun K hK=>e K (hK _ _ h))
def Zd (h:Q .normal a w) (b:Region.ready md ops listed=[]:=by kernel_rfl):Ϥ P md ops Q S last fuel listed a w:=wm b h fuel
end
def ο (v:Nat):γ:=if v<=127 then[UInt8.ofNat v]else UInt8.ofNat (v % 128+128)::ο (v / 128)
 termination_by v
 decreasing_by omega
def tk {v} (h:v<=127):ο v=[UInt8.ofNat v]:=by rw[ο,μ h]
def vi {v} (h:127<v):ο v=UInt8.ofNat (v % 128+128)::ο (v / 128):=by rw[ο,κ U]
def vj (v):0<L (ο v):=by
 rw[ο];split<;>simp
def Ϸ:∀ (n v:Nat),v<128 ^ (n+1)->L (ο v)<=n+1
 |0,v,h=>by rw[tk U];simp
 |n+1,v,h=>by
  by_cases a:v<=127
  .rw[tk a];simp
  .rw[vi U,ϥ]
   have:=Ϸ n (v / 128) (by rw[Nat.div_lt_iff_lt_mul ϐ];rw[jq]at h;omega);omega
def Ξ (s:γ):γ:=ο (L s)++s
def uU:Nat->Nat->γ->Int ⊕ (Nat×Nat)
 |n,v,[]=>if n=9 then .inl 2 else .inl 4
 |n,v,c::r =>
  if n=9 then .inl 2
  else if c.toNat<128 then
   if(0<n/\c=0)\/4611686018427387904<v+c.toNat*128 ^ n then .inl 2 else .inr (v+c.toNat*128 ^ n,n+1)
  else uU (n+1) (v+(c.toNat - 128)*128 ^ n) r
def zP (b:γ):Int ⊕ (Nat×Nat):=uU 0 0 b
def Ko:∀ (v n a:Nat) (r:γ),n+L (ο v)<=9->(0<n->0<v)->a+v*128 ^ n<=4611686018427387904 ->
  uU n a (ο v++r)=.inr (a+v*128 ^ n,n+L (ο v)):=by
 intro v;induction v using Nat.strongRecOn with
 |_ v k =>
  intro n a r c h j;by_cases i:v<=127
  .rw[tk i]at c ⊢
   simp only[qr]at c;have b:(UInt8.ofNat v).toNat=v:=ό;rw[List.singleton_append,uU,κ U,b,μ U,κ]
   .rfl
   .rintro(⟨e,f⟩|g)
    .have:=h e
     rw[f]at b;simp at b;omega
    .omega
  .rw[vi U]at c ⊢
   simp only[ϥ]at c;have b:(UInt8.ofNat (v % 128+128)).toNat=v % 128+128:=ό;have l:=vj (v / 128);have d:v*128 ^ n=(v % 128)*128 ^ n+(v / 128)*128 ^ (n+1):=by
    rw[jq];have:=(Nat.mod_add_div v 128).symm
    conv=>lhs;rw[this]
    rw[lr]
    congr 1
    rw[ki 128 (v / 128),pz,ki 128]
   rw[jW,uU,κ U,b,κ U,qo];rw[k (v / 128) U (n+1) (a+v % 128*128 ^ n) r U (fun _=>U) (by rw[iX,<-d];exact j)];rw[iX,<-d,ϥ]
   congr 2
   omega
structure jX where
 b:γ
 pos:Nat
 err:Int
def jX.start (r:jX):jX:={r with err:=if r.err=0/\L r.b<r.pos then 1 else r.err}
def zQ (b:γ) (a c:Nat):Int ⊕ (γ×Nat):=
 match zP (b.drop a)with
 |.inl e=>.inl e
 |.inr (n,k)=>if c<n then .inl 2 else if L b - (a+k)<n then .inl 4 else .inr ((b.drop (a+k)).take n,a+k+n)
def jX.text (r:jX) (a:Nat):jX×γ:=
 if r.start.err≠0 then(r.start,[])
 else match zQ r.b r.pos a with
  |.inl e=>({r.start with err:=e},[])
  |.inr (s,q)=>({r.start with pos:=q},s)
def jX.done (r:jX):Int:=if r.err≠0 then r.err else if L r.b<r.pos then 1 else if r.pos<L r.b then 2 else 0
def jX.At (r:jX) (a c:γ):Prop:=r.b=a++c/\r.pos=L a/\r.err=0
def jX.At.start {r:jX} {a c} (h:r.At a c):r.start=r:=by
 obtain⟨b,d,e⟩:=h;cases r;simp only at b d e;subst b d e;simp[jX.start]
def jX.At.drop {r:jX} {a c} (h:r.At a c):r.b.drop r.pos=c:=by
 rw[h.1,h.2.1];simp
def Kp (v r) (h:v<=4611686018427387904):zP (ο v++r)=.inr (v,L (ο v)):=by
 have a:L (ο v)<=9:=Ϸ 8 v U;have:=Ko v 0 0 r U (fun h=>U) (by simpa using h);simpa[zP] using this
def jX.At.text {r:jX} {a c s most} (h:r.At a (Ξ s++c)) (j:L s<=most) (i:most<=4611686018427387904):(r.text most).2=s/\(r.text most).1.At (a++Ξ s) c:=by
 have g:=h.start;have b:=h.drop;have d:zQ r.b r.pos most=.inr (s,r.pos+L (ο (L s))+L s):=by
  unfold zQ;unfold Ξ at b;rw[gP]at b;rw[b,Kp (L s) (s++c) U];simp only;have f:L r.b=L a+(L (ο (L s))+L s+L c):=by
   rw[h.1];unfold Ξ;simp;omega
  have e:r.b.drop (r.pos+L (ο (L s)))=s++c:=by
   rw[<-qt,b];simp
  rw[κ U,κ (by rw[f,h.2.1];omega),e];simp
 unfold jX.text;rw[g,κ (by simp[h.2.2]),d];refine⟨rfl,by simp[h.1],?_,h.2.2⟩;simp only[h.2.1];unfold Ξ;simp;omega
def jX.At.done {r:jX} {a} (h:r.At a []):r.done=0:=by
 unfold jX.done;rw[κ (by simp[h.2.2]),κ (by rw[h.1,h.2.1];simp),κ (by rw[h.1,h.2.1];simp)]
abbrev ϸ:=List (γ)
abbrev ht:=List (Nat×γ)
def fM:Nat->Nat->γ->Nat
 |0,v,_=>v
 |k+1,v,[]=>v
 |k+1,v,c::r=>fM k (v*256+c.toNat) r
def gV (v i:Nat):UInt8:=UInt8.ofNat (v / 256 ^ (7 - i) % 256)
def th (v:Nat):γ:=(List.range 8).map (gV v)
def ny (s u:Nat):γ:=th s++(th u++List.replicate 16 0)
def iN (s u:Nat):γ:=ny s u++ny s u
def rZ (v):L (th v)=8:=by simp[th]
def rW (s u):L (ny s u)=32:=by simp[ny,rZ]
def qd (s u):L (iN s u)=64:=by simp[iN,rW]
def wD:Nat->Nat->γ
 |0,_=>[]
 |k+1,v=>UInt8.ofNat (v / 256 ^ k % 256)::wD k v
theorem Mc (v):th v=wD 8 v:=rfl
def Eg:∀ (k a v:Nat) (r:γ),fM k a (wD k v++r)=a*256 ^ k+v % 256 ^ k
 |0,a,v,r=>by simp[fM,Nat.mod_one]
 |k+1,a,v,r=>by
  have b:(UInt8.ofNat (v / 256 ^ k % 256)).toNat=v / 256 ^ k % 256:=by
   rw[yn];exact Nat.mod_eq_of_lt (lI _ ϐ)
  simp only[wD,jW,fM,b];rw[Eg k,show(256:Nat) ^ (k+1)=256 ^ k*256 from jq ..,Nat.mod_mul,lr,pz,ki 256 (256 ^ k),ki (v / 256 ^ k % 256)];generalize 256 ^ k*(v / 256 ^ k % 256)=c;generalize a*(256 ^ k*256)=d;omega
def Ej (v) (h:v<256 ^ 8) (r):fM 8 0 (th v++r)=v:=by
 rw[Mc,Eg,Nat.mod_eq_of_lt h];simp
def Eh:∀ (k v:Nat) (l:γ),L l=k->v*256 ^ k<=fM k v l
 |0,v,l,h=>by simp[fM]
 |k+1,v,[],h=>by simp at h
 |k+1,v,c::r,h=>by
  have:=Eh k (v*256+c.toNat) r (by simpa using h);rw[fM];refine gj ?_ this;rw[jq,lr,show v*(256 ^ k*256)=v*256*256 ^ k from by rw[pz,ki (256 ^ k)]];exact gu _ _
def Ek:∀ (k v:Nat) (l r:γ),L l=k->fM k v (l++r)=fM k v l
 |0,v,l,r,h=>by simp[fM]
 |k+1,v,[],r,h=>by simp at h
 |k+1,v,c::l,r,h=>by simp only[jW,fM];exact Ek k _ l r (by simpa using h)
def iM (b:γ) (a:Nat):Option (Nat×Nat):=
 if fM 8 0 b<=4611686018427387904/\fM 8 0 (b.drop 8)<=4611686018427387904/\fM 8 0 (b.drop 8)<=a/\b=iN (fM 8 0 b) (fM 8 0 (b.drop 8))then J (fM 8 0 b,fM 8 0 (b.drop 8))else O
def ES (s u room) (d:s<=4611686018427387904) (e:u<=room) (c:room<=4611686018427387904):iM (iN s u) room=J (s,u):=by
 have a:fM 8 0 (iN s u)=s:=by
  unfold iN ny;rw[gP,Ej s U]
 have b:fM 8 0 ((iN s u).drop 8)=u:=by
  unfold iN ny;rw[gP,List.drop_append,rZ,mg (by rw[rZ];omega),kj,List.drop_zero,js,gP,Ej u U]
 unfold iM;rw[a,b,μ ⟨U,U,U,rfl⟩]
def ER {b room s u} (h:iM b room=J (s,u)):s<=4611686018427387904/\u<=room/\b=iN s u:=by
 unfold iM at h;split at h
 .rename_i a
  simp only[Φ,Prod.mk.injEq]at h;obtain⟨rfl,rfl⟩:=h;exact⟨a.1,a.2.2.1,a.2.2.2⟩
 .cases h
def jn (n:Nat) (a b:γ):γ:=a.take n++b.drop n
def xW {n new old} (a:L new=64) (b:L old=64):L (jn n new old)=64:=by simp[jn];omega
def Qk (new old):jn 0 new old=old:=by simp[jn]
def Qj {n new old} (a:L new<=n) (b:L old<=n):jn n new old=new:=by
 unfold jn;rw[gF a,mg b,iy]
def Gc {n new old} (b:L new=64) (c:L old=64) (o):(jn n new old).getD o 0=if o<n then new.getD o 0 else old.getD o 0:=by
 unfold jn;simp only[fX,List.getElem?_append,gp,iH,jr];by_cases a:o<n
 .by_cases d:o<64
  .rw[μ U,μ a,μ a]
  .rw[κ U,μ a,ls U,ls U]
 .rw[κ U,κ a]
  by_cases e:n<=64
  .rw[show n+(o - min n (L new))=o from U]
  .rw[ls U,ls U]
def ms:γ:=List.replicate 64 255
def Nx {b:γ} {room} {r:γ} (h:b=255::r) (e:L b=64):iM b room=O:=by
 unfold iM;rw[κ];rintro⟨a,-⟩;subst h;simp only[ϥ]at e;have c:fM 8 0 (255::r)=fM 7 255 r:=by simp[fM]
 have d:fM 7 255 r=fM 7 255 (r.take 7):=by
  have:=Ek 7 255 (r.take 7) (r.drop 7) ό;rwa [pG]at this
 have f:=Eh 7 255 (r.take 7) ό;rw[c,d]at a;omega
def Nz (n old room) (a:L old=64):jn n ms old=old\/iM (jn n ms old) room=O:=by
 cases n with
 |zero=>exact .inl (Qk _ _)
 |succ n =>
  right;refine Nx (r:=(List.replicate 63 255).take n++old.drop (n+1)) ?_ (xW (by simp[ms]) a);unfold jn ms;rw[show List.replicate 64 (255:UInt8)=255::List.replicate 63 255 from rfl,yo,jW]
def PL (s u):(iN s u).getD 63 0=0:=by
 unfold iN ny;simp only[fX];rw[hL (by simp[rZ]),hL (by simp[rZ]),hL (by simp[rZ])];simp[rZ]
def NA (n new room) (e:n<64) (c:L new=64):iM (jn n new ms) room=O:=by
 cases h:iM (jn n new ms) room with
 |none=>rfl
 |some d =>
  obtain⟨s,f⟩:=d;obtain⟨-,-,b⟩:=ER h;have a:=Gc (n:=n) (old:=ms) c (by simp[ms]) 63;rw[b,PL,κ U]at a;exact absurd a ϐ
def lb (a:ϸ) (p:Nat):UInt8:=(a.getD (2+p / 64) []).getD (p % 64) 0
def Ϯ (a:ϸ):Nat:=(L a - 2)*64
def nu (a:ϸ) (n:Nat):γ:=(List.range n).map (lb a)
def rP (c:ϸ):Option (Nat×Nat):=
 match iM (c.getD 0 []) (Ϯ c),iM (c.getD 1 []) (Ϯ c)with
 |none,r=>r
 |some a,O=>J a
 |some a,J b=>if a.1<b.1 then J b else J a
structure gr (bl:ϸ) (seq:Nat) (L:γ):Prop where
 n3:3<=bl.length
 nb:bl.length<=4096
 l64:∀ b∈bl,b.length=64
 cur:iM (bl.getD (seq % 2) []) (Ϯ bl)=J (seq,L.length)
 oth:∀ m,iM (bl.getD ((seq+1) % 2) []) (Ϯ bl)=J m->m.1<seq\/m=(seq,L.length)
 le:L.length<=Ϯ bl
 log:∀ p,p<L.length->lb bl p=L.getD p 0
 sq:seq<=4611686018427387904
def gr.current {bl seq L} (h:gr bl seq L):rP bl=J (seq,L.length):=by
 have a:=h.cur;have c:=h.oth;unfold rP;rcases ym seq with he|he
 .have d:(seq+1) % 2=1:=U
  rw[he]at a;rw[d]at c;rw[a];cases e:iM (bl.getD 1 []) (Ϯ bl)with
  |none=>rfl
  |some b =>
   have:=c b e;simp only;rw[κ];rcases this with h|h
   .show ¬seq<b.1
    omega
   .rw[h];simp
 .have d:(seq+1) % 2=0:=U
  rw[he]at a;rw[d]at c;rw[a];cases e:iM (bl.getD 0 []) (Ϯ bl)with
  |none=>rfl
  |some b =>
   have:=c b e;simp only;rcases this with h|h
   .rw[μ (by simpa using h)]
   .rw[h,κ ύ]
theorem gr.logIs {bl seq L} (h:gr bl seq L):nu bl L.length=L:=by
 apply List.ext_getElem
 .simp[nu]
 .intro b c a
  simp only[nu,vV,yp];rw[h.log b a,fX,Ρ a];rfl
def mR {a:Type} (l:List a) (i j x d) (h:i≠j):(l.set i x).getD j d=l.getD j d:=by
 simp[gi h]
def td {a:Type} (l:List a) (i x d) (h:i<L l):(l.set i x).getD i d=x:=by
 simp[h]
def qI {a:Type} (l:List a) (i d) (h:i<L l):l.getD i d∈l:=by
 rw[fX,Ρ h];exact Ψ h
def og (bl i x):Ϯ (bl.set i x)=Ϯ bl:=by simp[Ϯ]
def tf {d:ϸ} {i x} (h:∀ b∈d,L b=64) (c:L x=64):∀ b∈d.set i x,L b=64:=by
 intro b a;rcases List.mem_or_eq_of_mem_set a with h1|h1
 .exact h b h1
 .rw[h1];exact c
def gr.at64 {bl seq L} (h:gr bl seq L) {i} (a:i<bl.length):(bl.getD i []).length=64:=h.l64 _ (qI _ _ _ a)
def gr.ff {bl seq L} (h:gr bl seq L) (n):gr (bl.set ((seq+1) % 2) (jn n ms (bl.getD ((seq+1) % 2) []))) seq L:=by
 have c:=h.n3;have k:(seq+1) % 2<2:=lI _ ϐ;have b:=h.at64 (i:=(seq+1) % 2) U;have d:(seq+1) % 2≠seq % 2:=U;refine⟨by simpa using c,by simpa using h.nb,tf h.l64 (xW (by simp[ms]) b),?_,?_,by rw[og];exact h.le,?_,h.sq⟩
 .rw[mR _ _ _ _ _ d,og];exact h.cur
 .intro f a
  rw[td _ _ _ _ U,og]at a;rcases Nz n _ (Ϯ bl) b with g|g
  .rw[g]at a;exact h.oth f a
  .rw[g]at a;cases a
 .intro j e
  unfold lb;rw[mR _ _ _ _ _ U];exact h.log j e
def Bx (L:γ) (q:Nat) (c:γ):Prop:=c.length=64/\∀ o,o<64->(q - 2)*64+o<L.length->c.getD o 0=L.getD ((q - 2)*64+o) 0
def gr.wr {bl seq L} (h:gr bl seq L) (n q c) (m:2<=q) (e:q<bl.length) (b:Bx L q c):gr (bl.set q (jn n c (bl.getD q []))) seq L:=by
 have j:=h.n3;have k:(seq+1) % 2<2:=lI _ ϐ;have l:seq % 2<2:=lI _ ϐ;have f:=h.at64  e;refine⟨by simpa using j,by simpa using h.nb,tf h.l64 (xW b.1 f),?_,?_,by rw[og];exact h.le,?_,h.sq⟩
 .rw[mR _ _ _ _ _ U,og];exact h.cur
 .rw[mR _ _ _ _ _ U,og];exact h.oth
 .intro a g
  by_cases d:2+a / 64=q
  .unfold lb
   rw[d,td _ _ _ _ e,Gc b.1 f];have i:(q - 2)*64+a % 64=a:=U;split
   .rw[b.2 _ U U,i]
   .have:=h.log a g
    unfold lb at this;rw[d]at this;exact this
  .unfold lb
   rw[mR _ _ _ _ _ U];exact h.log a g
structure uk (bl:ϸ) (seq:Nat) (L L2:γ):Prop where
 inv:gr bl seq L
 blank:bl.getD ((seq+1) % 2) []=ms
 le2:L2.length<=Ϯ bl
 log2:∀ p,p<L2.length->lb bl p=L2.getD p 0
def uk.torn {bl seq L L2} (h:uk bl seq L L2) (n) (d:n<64) (x) (b:x.length=64):gr (bl.set ((seq+1) % 2) (jn n x (bl.getD ((seq+1) % 2) []))) seq L:=by
 have c:=h.inv.n3;have j:(seq+1) % 2<2:=lI _ ϐ;have e:=h.inv.at64 (i:=(seq+1) % 2) U;refine⟨by simpa using c,by simpa using h.inv.nb,tf h.inv.l64 (xW b e),?_,?_,by rw[og];exact h.inv.le,?_,h.inv.sq⟩
 .rw[mR _ _ _ _ _ U,og];exact h.inv.cur
 .intro k a
  rw[td _ _ _ _ U,og,h.blank,NA n x _ d b]at a;cases a
 .intro g f
  unfold lb;rw[mR _ _ _ _ _ U];exact h.inv.log g f
def uk.done {bl seq L L2} (h:uk bl seq L L2) (b:seq+1<=4611686018427387904):gr (bl.set ((seq+1) % 2) (iN (seq+1) L2.length)) (seq+1) L2:=by
 have c:=h.inv.n3;have d:=h.inv.nb;have i:(seq+1) % 2<2:=lI _ ϐ;have f:Ϯ bl<=4611686018427387904:=by unfold Ϯ;omega
 refine⟨by simpa using c,by simpa using d,tf h.inv.l64 (qd _ _),?_,?_,by rw[og];exact h.le2,?_,b⟩
 .rw[td _ _ _ _ U,og]
  exact ES _ _ _ b h.le2 f
 .intro j a
  rw[show(seq+1+1) % 2=seq % 2 from U,mR _ _ _ _ _ U,og,h.inv.cur]at a;injection a with a;left;rw[<-a];simp
 .intro g e
  unfold lb;rw[mR _ _ _ _ _ U];exact h.log2 g e
def ig (a:ϸ):Nat->Nat->γ->ht
 |0,from_,b=>[]
 |f+1,from_,b=>if b=[]then[]else
  let q:=2+from_ / 64;let o:=from_ % 64;let n:=min (64 - o) (L b)
  (q,(a.getD q []).take o++(b.take n++(a.getD q []).drop (o+n)))::ig a f (from_+n) (b.drop n)
def FM {c b:γ} {o n} (e:L c=64) (f:n<=L b) (g:o+n<=64) (x):(c.take o++(b.take n++c.drop (o+n))).getD x 0=if x<o then c.getD x 0 else if x<o+n then b.getD (x - o) 0 else c.getD x 0:=by
 simp only[fX,List.getElem?_append,gp,iH,jr];by_cases a:x<o
 .rw[μ U,μ a,μ a]
 .rw[κ U,κ a]
  by_cases d:x<o+n
  .rw[μ U,μ d,μ U,show x - min o (L c)=x - o from U]
  .rw[κ U,κ d,show o+n+(x - min o (L c) - min n (L b))=x from U]
theorem GN (bl):∀ (f a:Nat) (b:γ),L (ig bl f a b)<=f
 |0,_,_=>by simp[ig]
 |f+1,a,b=>by
  unfold ig;split
  .simp
  .simp only[ϥ]
   have:=GN bl f (a+min (64 - a % 64) (L b)) (b.drop (min (64 - a % 64) (L b)));omega
theorem Br {bl} (c:∀ b∈bl,L b=64) (L0) (d:∀ p,p<L L0->lb bl p=L0.getD p 0):∀ (f a:Nat) (b:γ),L L0<=a->a+L b<=Ϯ bl->∀ x∈ig bl f a b,2<=x.1/\x.1<L bl/\Bx L0 x.1 x.2
 |0,a,b,h1,h2,x,hx=>by simp[ig]at hx
 |f+1,a,b,h1,h2,x,hx=>by
  unfold ig at hx;split at hx
  .simp at hx
  .rename_i h
   have j:=pA.2 h;simp only[hH]at hx;unfold Ϯ at h2;have g:2+a / 64<L bl:=U;have i:=c _ (qI bl _ [] g);rcases hx with rfl|hx
   .refine⟨ϑ,g,?_,?_⟩
    .simp only[σ,gp,fT];omega
    .intro o k e
     simp only at e ⊢;rw[FM i U U,μ U];have:=d _ e;rw[<-this];unfold lb;rw[show 2+((2+a / 64 - 2)*64+o) / 64=2+a / 64 from U,show((2+a / 64 - 2)*64+o) % 64=o from U]
   .refine Br c L0 d f _ _ U ?_ x hx
    unfold Ϯ;simp only[fT];omega
def kh (b:ϸ) (a:ht):Nat->ϸ
 |0=>b
 |k+1=>match a[k]? with
  |some x=>(kh b a k).set x.1 x.2
  |none=>kh b a k
def gB (b:ϸ) (a:ht):ϸ:=kh b a (L a)
def jb (a:List Int) (k:Nat):Nat:=match a[k]? with|some x=>min x.toNat 64|none=>0
def kZ (c:List Int) (a:ϸ) (b:ht):Nat->ϸ
 |0=>a
 |k+1=>match b[k]? with
  |some x=>(kZ c a b k).set x.1 (jn (jb c k) x.2 ((kZ c a b k).getD x.1 []))
  |none=>kZ c a b k
def iB (c:List Int) (b:ϸ) (a:ht):ϸ:=kZ c b a (L a)
theorem tM (bl ws):∀ k,L (kh bl ws k)=L bl
 |0=>rfl
 |k+1=>by
  unfold kh;split
  .simp[tM bl ws k]
  .exact tM bl ws k
theorem zw (ks bl ws):∀ k,L (kZ ks bl ws k)=L bl
 |0=>rfl
 |k+1=>by
  unfold kZ;split
  .simp[zw ks bl ws k]
  .exact zw ks bl ws k
theorem zv {P:ϸ->Prop} (ks bl ws) (a:P bl) (c:∀ x∈ws,∀ n b,P b->P (b.set x.1 (jn n x.2 (b.getD x.1 [])))):∀ k,P (kZ ks bl ws k)
 |0=>a
 |k+1=>by
  unfold kZ;split
  .rename_i x d
   exact c x (List.mem_of_getElem? d) _ _ (zv ks bl ws a c k)
  .exact zv ks bl ws a c k
theorem vL {P:ϸ->Prop} (bl ws) (a:P bl) (c:∀ x∈ws,∀ b,P b->P (b.set x.1 x.2)):∀ k,P (kh bl ws k)
 |0=>a
 |k+1=>by
  unfold kh;split
  .rename_i x d
   exact c x (List.mem_of_getElem? d) _ (vL bl ws a c k)
  .exact vL bl ws a c k
theorem Ga (bl x) (a:ht):∀ k,kh bl (x::a) (k+1)=kh (bl.set x.1 x.2) a k
 |0=>rfl
 |k+1=>by
  rw[kh,Ga bl x a k];simp only[ol];rw[kh]
def AY (bl x) (a:ht):gB bl (x::a)=gB (bl.set x.1 x.2) a:=Ga bl x a (L a)
theorem Qd (bl):gB bl []=bl:=rfl
theorem Gb {bl} (m:∀ b∈bl,L b=64):∀ (f a:Nat) (b:γ) (E:ϸ),L b<f->a+L b<=Ϯ bl->L E=L bl->(∀ q,2+a / 64<=q->E.getD q []=bl.getD q []) ->
  (∀ p,p<a->lb (gB E (ig bl f a b)) p=lb E p)/\(∀ p,a<=p->p<a+L b->lb (gB E (ig bl f a b)) p=b.getD (p - a) 0)
 |0,a,b,E,hf,h2,hl,hq=>U
 |f+1,a,b,E,hf,h2,hl,hq=>by
  unfold ig;split
  .rename_i j
   subst j;refine⟨fun p g=>rfl,fun p l i=>by simp at i;omega⟩
  .rename_i j
   have y:=pA.2 j;have v:2+a / 64<L bl:=by unfold Ϯ at h2;omega
   have s:=m _ (qI bl _ [] v);simp only;rw[AY];generalize A:min _ (L b)=n at *;generalize r:(bl.getD _ _).take _++(b.take n++(bl.getD _ _).drop _)=c at *;have e:∀ x,c.getD x 0=if x<a % 64 then(bl.getD (2+a / 64) []).getD x 0 else if x<a % 64+n then b.getD (x - a % 64) 0 else(bl.getD (2+a / 64) []).getD x 0:=by
    intro x;rw[<-r];exact FM s U U x
   have h:∀ p,lb (E.set (2+a / 64) c) p=if p / 64=a / 64 then c.getD (p % 64) 0 else lb E p:=by
    intro p;unfold lb;by_cases d:p / 64=a / 64
    .rw[μ d,d,td _ _ _ _ U]
    .rw[κ d,mR _ _ _ _ _ U]
   by_cases u:n=L b
   .
    have t:b.drop n=[]:=by rw[u];simp
    have w:ig bl f (a+n) (b.drop n)=[]:=by
     rw[t];cases f<;>simp[ig]
    rw[w,Qd];refine⟨fun p g=>?_,fun p l i=>?_⟩
    .rw[h]
     split
     .rename_i d
      rw[e,μ U,<-hq _ NZ];unfold lb;rw[d]
     .rfl
    .rw[h,μ U,e,κ U,μ U,show p % 64 - a % 64=p - a from U]
   .have z:n=64 - a % 64:=U
    obtain⟨k,o⟩:=Gb m f (a+n) (b.drop n) (E.set (2+a / 64) c) ό ό (by simpa using hl) (fun q B=>by rw[mR _ _ _ _ _ U];exact hq q U);refine⟨fun p g=>?_,fun p l i=>?_⟩
    .rw[k p U,h]
     split
     .rename_i d
      rw[e,μ U,<-hq _ NZ];unfold lb;rw[d]
     .rfl
    .by_cases g:p<a+n
     .rw[k p g,h,μ U,e,κ U,μ U,show p % 64 - a % 64=p - a from U]
     .rw[o p U ό]
      simp only[fX,jr];rw[show n+(p - (a+n))=p - a from U]
def Pc {P} (w:β) (base t ty e) (z:ε) (size) (I:P.underlying t=J (.slice e)) (M:∀ w,(zeroValue e).run P w=.ok z w)
  (l:z.cells.size=size) (p:∀ u∈z.cells.toList,u.oneCell'=true) (H:0<size)
  (g n cap) (T:List ε) (h:w.ownsRow base e size (D (J ⟨g,0,O⟩) n cap) n T) (k m c) (f:n<=k) (B:k+m<=cap) (R:0<m) :
  ∃ w',(Builtin.clear_ #[t] ty #[D (J ⟨g,k*size,O⟩) m c]).run P w=.ok (.tuple #[]) w'/\w'.ownsRow base e size (D (J ⟨g,0,O⟩) n cap) n T/\w.grownBy w' (J g):=by
 obtain⟨A,x⟩:=h;rcases x with ⟨h,_⟩|⟨Q,N,cur,h,r,hg,F,s,v,K⟩
 .simp at h
 .simp only[Χ,Φ,Addr.mk.injEq,it,ϵ]at h
  obtain⟨rfl,rfl⟩:=h;have o:L (Builtin.zeroCells z.cells m).toList=m*size:=by rw[sw,size_zeroCells,l]
  have q:∀ u∈(Builtin.zeroCells z.cells m).toList,u.oneCell'=true:=by
   intro u j;simp only[Builtin.zeroCells,Array.toList_map,ih,Array.toList_range,rm]at j;obtain⟨b,d,rfl⟩:=j;have E:b % z.cells.size<z.cells.size:=lI _ (by rw[l];exact H);apply p;rw[getElem!_pos z.cells _ E];simp
  have y:k*size+m*size<=cap*size:=by rw[<-lr];exact qp _ B
  have i:=run_storeCells_at P g _ e _ 0 cur w hg (by rw[o,v];simpa using y) q;simp only[kG]at i;obtain⟨a,rfl⟩:∃ a,m=a+1:=⟨m - 1,U⟩;have S:(Builtin.clear_ #[t] ty #[D (J ⟨g,k*size,O⟩) (a+1) c]).run P w=.ok (.tuple #[]) (w.setRow g (cur.toList.take (k*size)++(Builtin.zeroCells z.cells (a+1)).toList++cur.toList.drop (k*size+L (Builtin.zeroCells z.cells (a+1)).toList)).toArray):=by
   simp[Builtin.clear_,ri I,M,i]
  refine⟨_,S,⟨A,.inr ⟨g,cap,_,rfl,r,setRow_heap w g cur _ e _ hg,F,s,?_,?_⟩⟩,⟨rfl,rfl,rfl,ύ,fun b _ d=>tY w g b _ (fun e=>d (by simp[e]))⟩⟩
  .simp only[qk,σ,gp,fT,sw]at o ⊢
   omega
  .simp only
   rw[gP,Bw,tU,<-K]
   .congr 1
    have:=qp size f;omega
   .have:=qp size f
    rw[gp,sw];omega
def Rf {P} {w:β} {ops rest o a} {Q:Exit->Act->β->Prop} (j:o.guard=O) (s t)
  (r:o.op=.call {callee:=.builtin .clear,args:= #[s],argTypes:= #[t]})
  (base) (e) (z:ε) (size) (B:P.underlying t=J (.slice e)) (E:∀ w,(zeroValue e).run P w=.ok z w)
  (F:z.cells.size=size) (b:∀ u∈z.cells.toList,u.oneCell'=true) (A:0<size)
  (g n cap) (H:List ε) (v:w.ownsRow base e size (D (J ⟨g,0,O⟩) n cap) n H) (k m c) (y:a.eval s=D (J ⟨g,k*size,O⟩) m c) (l:n<=k) (p:k+m<=cap) (q:0<m)
  (h:∀ w',w'.ownsRow base e size (D (J ⟨g,0,O⟩) n cap) n H->w.grownBy w' (J g)->wpList P ops Q rest (a.put o.dst (.tuple #[])) w'):wpList P ops Q (o::rest) a w:=by
 refine wpList_plain j fun K i=>?_;obtain⟨w',x,d,f⟩:=Pc  w base t o.type e z size B E F b A g n cap H v k m c l p q;unfold Oper.wp execOp;simp only[r,resolve,invoke,builtin,Sem.run_bind,Sem.run_pure,pH,qs,ij,jQ,y,x];exact i _ _ (h w' d f)
