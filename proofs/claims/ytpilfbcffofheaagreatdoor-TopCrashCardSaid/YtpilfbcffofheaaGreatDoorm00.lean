/- Part 0 of the proof. -/
import Derived.Test.YtpilfbcffofheaaGreatDoorm
set_option linter.unusedVariables false
set_option linter.unusedSimpArgs false
namespace Go.Proofs.YtpilfbcffofheaaGreatDoor
open Go.RowKit
open List renaming length->L
open Value renaming slice->D
open Option renaming none->O,some->J
open Obj renaming cells->C
open Ending renaming returned->ŗ
open World renaming alloc->å,setCell->ŝ
def rX:List (Int×Int):=[(65,90),(97,122),(192,214),(216,246),(248,255),(913,929),(931,937),(945,969),(1024,1119)]
def shifts:List (Int×Int×Int):=[(65,90,32),(192,214,32),(216,222,32),(913,929,32),(931,937,32),(1024,1039,80),(1040,1071,32)]
def mu (c:Int):Bool:=rX.any fun s=>decide (s.1<=c) && decide (c<=s.2)
def nV (c:Int):Bool:=decide (48<=c) && decide (c<=57)
def gK (c:Int):Bool:=mu c||nV c
def ik (c:Int):Int:=match shifts.find? fun s=>decide (s.1<=c) && decide (c<=s.2.1)with|some s=>c+s.2.2|none=>c
def gt (c:Int):Bool:=decide (0<=c) && decide (c<=1114111) && (decide (c<55296)||decide (57343<c))
def jD (c:Int):Int:=if c<128 then 1 else if c<2048 then 2 else if c<65536 then 3 else 4
def u8 (x:Int):UInt8:=UInt8.ofNat x.toNat
def enc (c:Int):γ:=
 if c<128 then[u8 c]
 else if c<2048 then[u8 (192+c / 64),u8 (128+c % 64)]
 else if c<65536 then[u8 (224+c / 4096),u8 (128+c / 64 % 64),u8 (128+c % 64)]
 else[u8 (240+c / 262144),u8 (128+c / 4096 % 64),u8 (128+c / 64 % 64),u8 (128+c % 64)]
def ch (b:UInt8):Int:=b.toNat
def ip (b:UInt8):Bool:=decide (128<=ch b) && decide (ch b<192)
def js:Int×Nat:=(65533,1)
def pu (x:Int):γ->Int×Nat
 |[]=>js
 |b1::_=>if ip b1 && decide (128<=x*64+(ch b1 - 128))then(x*64+(ch b1 - 128),2)else js
def qs (x:Int):γ->Int×Nat
 |[]=>js
 |[_]=>js
 |b1::b2::_=>if ip b1 && ip b2 && gt ((x*64+(ch b1 - 128))*64+(ch b2 - 128)) && decide (2048<=(x*64+(ch b1 - 128))*64+(ch b2 - 128))then((x*64+(ch b1 - 128))*64+(ch b2 - 128),3)else js
def qt (x:Int):γ->Int×Nat
 |[]=>js
 |[_]=>js
 |[_,_]=>js
 |b1::b2::b3::_=>if ip b1 && ip b2 && ip b3 && gt (((x*64+(ch b1 - 128))*64+(ch b2 - 128))*64+(ch b3 - 128)) && decide (65536<=((x*64+(ch b1 - 128))*64+(ch b2 - 128))*64+(ch b3 - 128))then(((x*64+(ch b1 - 128))*64+(ch b2 - 128))*64+(ch b3 - 128),4)else js
def first:γ->Int×Nat
 |[]=>js
 |b0::r =>
  if ch b0<128 then(ch b0,1)
  else if ch b0<192 then js
  else if ch b0<224 then pu (ch b0 - 192) r
  else if ch b0<240 then qs (ch b0 - 224) r
  else if ch b0<248 then qt (ch b0 - 240) r
  else js
def qo:Nat->γ->List Int
 |0,_=>[]
 |f+1,b=>if b=[]then[]else(first b).1::qo f (b.drop (first b).2)
def gc (b:γ):List Int:=qo (L b) b
def ma (t:γ):List Int->γ
 |[]=>t
 |c::r=>if 64<L t+L (enc (ik c)) then t else ma (t++enc (ik c)) r
def term (l:List Int):γ:=ma [] l
def jI (cur:List Int):List Int->List (List Int)
 |[]=>if cur=[]then[]else[cur]
 |c::r=>if gK c then jI (cur++[c]) r else if cur=[]then jI [] r else cur::jI [] r
def oU (l:List Int):List (List Int):=jI [] l
def Μ (b:γ):List (γ):=(oU (gc b)).map term
def Rd (w:β) (v:ε) (n g:Nat) (a:List ε):Prop:=
 L a=n*g/\n<=maxLen/\((∃ f c,v=D f 0 c/\n=0)\/∃ b off c,v=D (J ⟨b,off,O⟩) n c/\0<n/\n<=c/\c<=maxLen/\∀ d e,a[d]?=J e->w.cell? ⟨b,off+d,O⟩=J e)
theorem Rd.below {w w':β} {v:ε} {n e:Nat} {d:List ε} (h:Rd w v n e d) (l:BQ w w'):Rd w' v n e d:=by
 obtain⟨f,m,a⟩:=h;refine⟨f,m,?_⟩;rcases a with a|⟨b,off,c,o,g,i,j,k⟩
 .exact .inl a
 .refine .inr ⟨b,off,c,o,g,i,j,fun p q hi=>?_⟩
  have:=k p q hi;rw[l.cell (ib w _ this)];exact this
theorem Rd.of_own {w:β} {base:Nat} {e:TypeId} {size:Nat} {v:ε} {n:Nat} {xs:List ε} (h:w.ownsRow base e size v n xs):Rd w v n size xs:=by
 have d:=h.1;rcases h.2 with ⟨a,c⟩|⟨g,f,cur,a,hg,m,k,i,l,o⟩
 .subst c;exact⟨d,ϊ,.inl ⟨O,0,a,rfl⟩⟩
 .refine⟨d,ϊ,?_⟩
  by_cases c:n=0
  .subst c;exact .inl ⟨_,_,a,rfl⟩
  .refine .inr ⟨g,0,f,a,ϊ,k,i,fun b p hi=>?_⟩
   subst a;have j:b<n*size:=by rw[<-d];exact(lN.1 hi).1
   have:=h.cellAt b j;rw[show(0+b)=b from ϊ,this,hi]
theorem Rd.src {P:Program} {w:β} {v:ε} {n e:Nat} {d:List ε} {tx i:TypeId} (f:P.underlying tx=J (.slice i)) (h:Rd w v n e d) (l:∀ u∈d,u.oneCell'=true):Src P e tx v n d w:=by
 obtain⟨j,t,⟨k,c,rfl,rfl⟩|⟨b,off,c,rfl,r,x,s,o⟩⟩:=h
 .have q:d=[]:=ko (by simpa using j)
  subst q;cases k with
  |none=>exact⟨.inl ⟨i,f⟩,fun _=>rfl,wV w e 0 0 c,wV w.drew e 0 0 c,ύ,fun _ h=>by cases h⟩
  |some a=>exact Src.ofSlice w f a 0 c [] ύ ύ ύ
 .refine Src.ofSlice w f ⟨b,off,O⟩ n c d j (fun g u p=>?_) l
  have m:(⟨b,off,O⟩:Addr).add g=⟨b,off+g,O⟩:=by unfold Addr.add;split<;>simp_all
  rw[m];exact o g u p
theorem ig {P:Program} {tx f e:TypeId} (j:P.underlying tx=J (.slice f)) (w:β) (a:Array ε) (d m c:Nat) (k:a.size=m*d) (g:∀ u∈a.toList,u.oneCell'=true):Src P d tx (D (J ⟨w.heap.size,0,O⟩) m c) m a.toList (å w (C a e)):=by
 refine Src.ofSlice _ j ⟨w.heap.size,0,O⟩ m c a.toList (by simpa using k) (fun b u l=>?_) g;have i:(å w (C a e)).heap[w.heap.size]?=J (C a e (0,0)):=χ w _;have h:(⟨w.heap.size,0,O⟩:Addr).add b=⟨w.heap.size,b,O⟩:=by unfold Addr.add;split<;>simp_all
 rw[h,ν _ w.heap.size b a e (0,0) i];simpa using l
theorem tR (w:β) (a:Array ε) (e:TypeId) (d m:Nat) (h:a.size=m*d) (c:m<=maxLen) (f:0<m):Rd (å w (C a e)) (D (J ⟨w.heap.size,0,O⟩) m m) m d a.toList:=by
 refine⟨by simpa using h,c,.inr ⟨w.heap.size,0,m,rfl,f,NZ,c,fun b j i=>?_⟩⟩;have g:(å w (C a e)).heap[w.heap.size]?=J (C a e (0,0)):=χ w _;rw[show 0+b=b from ϊ,ν _ w.heap.size b a e (0,0) g];simpa using i
theorem wb {P:Program} (w:β) (base:Nat) (t tx ty e:TypeId) (i:TypeInfo) (z:ε) (size bytes:Nat) (o:P.underlying t=J (.slice e)) (hi:P.info? e=J i) (F:i.zero=J z)
  (V:i.size=size) (N:i.bytes=bytes) (Y:z.cells.size=size)
  (v:ε) (n:Nat) (xs:List ε) (k:w.ownsRow base e size v n xs)
  (x:ε) (m:Nat) (a:List ε) (b:Src P size tx x m a w)
  (y:n+m<=maxLen) (A:(n+m)*bytes<=140737488355328) (K:base<=w.heap.size) :
  ∃ l w',(Builtin.append_ #[t,tx] ty #[v,x]).run P w=.ok l w'/\w'.ownsRow base e size l (n+m) (xs++a)/\w.grownBy w' v.ownBlock /\
   (l.ownBlock=v.ownBlock\/l.ownBlock=J w.heap.size)/\(l=D O 0 0↔v=D O 0 0/\m=0):=by
 subst V;subst N;have q:=b.newsLen;have ab:n+m<=9223372036854775807:=by simp only[maxLen]at y;omega
 have j:L (xs++a)=(n+m)*i.size:=by rw[ω,k.1,q,kX]
 have u:∀ (d:Nat),d<n+m->∀ (row:Option Nat),
   (å w.drew (C ((xs++a).toArray++Builtin.zeroCells z.cells (grownCap w (n+m) d e - (n+m))) e)).ownsRow base e i.size
    (D (J ⟨w.heap.size,0,O⟩) (n+m) (grownCap w (n+m) d e)) (n+m) (xs++a) /\
   w.grownBy (å w.drew (C ((xs++a).toArray++Builtin.zeroCells z.cells (grownCap w (n+m) d e - (n+m))) e)) row:=by
  intro d aa row;have S:=grownCap_ge w (n+m) d e;have p:grownCap w (n+m) d e<=maxLen:=uu w (n+m) d e y;refine⟨⟨j,.inr ⟨w.heap.size,_,_,rfl,K,Go.heap_alloc_new w.drew _,S,p,?_,?_⟩⟩,⟨rfl,rfl,rfl,ύ,fun s hk _=>gX w.drew _ s hk⟩⟩
  .rw[Array.size_append,pe,size_zeroCells,Y,j,<-kX]
   congr 1
   omega
  .rw[Array.toList_append,<-j]
   exact sr
 rcases k.2 with ⟨rfl,rfl⟩|⟨g,c,cur,rfl,M,hg,Z,p,Q,W⟩
 .have X:xs=[]:=ko (by simpa using k.1)
  subst X;by_cases B:m=0
  .subst B
   have T:a=[]:=ko (by simpa using q);subst T;refine⟨D O 0 0,w,?_,hZ w base e i.size,⟨rfl,rfl,rfl,NZ,fun _ _ _=>rfl⟩,.inl rfl,ύ⟩;rcases b.kind with ⟨I,hk⟩|hk <;>
    simp[Builtin.append_,pf o,pf hk,sizeOf,typeInfo,hi,b.len,b.cells]
  .have h:=run_append_grow_src (P:=P) w t tx ty e i z o hi F O 0 0 [] (wV w.drew i.size 0 0 0) x m a b ϊ ϊ (growslice_fits ϊ A)
   have f:=u 0 ϊ (Value.ownBlock (D O 0 0));simp only[jJ,jy]at f h ⊢;exact⟨_,_,h,f.1,f.2,.inr rfl,by simp[B]⟩
 .by_cases r:n+m<=c
  .have R:n*i.size+L a<=cur.size:=by rw[q,Q,<-kX];exact pQ _ r
   have E:=run_storeCells_at P g (n*i.size) e a 0 cur w hg (by simpa using R) b.one;simp only[kW]at E;have h:(Builtin.append_ #[t,tx] ty #[D (J ⟨g,0,O⟩) n c,x]).run P w =
     .ok (D (J ⟨g,0,O⟩) (n+m) c) (w.setRow g (cur.toList.take (n*i.size)++a++cur.toList.drop (n*i.size+L a)).toArray):=by
    rcases b.kind with ⟨I,hk⟩|hk <;>
     simp[Builtin.append_,pf o,pf hk,sizeOf,typeInfo,hi,b.len,r,b.cells,Addr.add_lit,E]
   refine⟨_,_,h,⟨j,.inr ⟨g,c,_,rfl,M,setRow_heap w g cur _ e _ hg,r,p,?_,?_⟩⟩,⟨rfl,rfl,rfl,ύ,fun s _ hk=>sC w g s _ (fun e=>hk (by simp[Value.ownBlock,e]))⟩,.inl rfl,ύ⟩
   .simp only[pe,ω,gN,gb,qO]
    omega
   .rw[W,<-j]
    exact sr
  .have U:∀ G H,xs[G]?=J H->w.drew.cell? ((⟨g,0,O⟩:Addr).add G)=J H:=k.drew.cells (g:=g) rfl
   have h:=run_append_grow_src (P:=P) w t tx ty e i z o hi F (J ⟨g,0,O⟩) n c xs (run_firstCells_some w.drew i.size n ⟨g,0,O⟩ n c xs k.1 U) x m a b ϊ ϊ (growslice_fits ϊ A);have f:=u c ϊ (Value.ownBlock (D (J ⟨g,0,O⟩) n c));exact⟨_,_,h,f.1,f.2,.inr rfl,ύ⟩
theorem gn {P:Program} {w:β} {ops:Array Oper} {f:List Oper} {o:Oper} {a:Act} {Q:Exit->Act->β->Prop} (A:o.guard=O) (s x:Operand) (t tx:TypeId)
  (B:o.op=.call {callee:=.builtin .append,args:= #[s,x],argTypes:= #[t,tx]})
  (base:Nat) (e:TypeId) (i:TypeInfo) (z:ε) (size bytes:Nat) (M:P.underlying t=J (.slice e)) (hi:P.info? e=J i) (R:i.zero=J z)
  (H:i.size=size) (u:i.bytes=bytes) (S:z.cells.size=size)
  (v:ε) (n:Nat) (xs:List ε) (G:a.eval s=v) (E:w.ownsRow base e size v n xs)
  (d:ε) (m:Nat) (c:List ε) (N:a.eval x=d) (I:Src P size tx d m c w)
  (p:n+m<=maxLen) (y:(n+m)*bytes<=140737488355328) (r:base<=w.heap.size)
  (h:∀ b w',w'.ownsRow base e size b (n+m) (xs++c)->w.grownBy w' v.ownBlock->(b.ownBlock=v.ownBlock\/b.ownBlock=J w.heap.size)->(b=D O 0 0↔v=D O 0 0/\m=0)->wpList P ops Q f (a.put o.dst b) w'):wpList P ops Q (o::f) a w:=by
 refine wpList_plain A fun K q=>?_;obtain⟨b,w',F,g,j,k,l⟩:=wb (P:=P) w base t tx o.type e i z size bytes M hi R H u S v n xs E d m c I p y r;unfold Oper.wp execOp;simp only[B,resolve,invoke,builtin,Sem.run_bind,Sem.run_pure,pN,qP,iA,lf,G,N,F];exact q _ _ (h b w' g j k l)
def ju:ε->Nat|D _ n _=>n|_=>0
theorem Θ {w:β} {base:Nat} {e:TypeId} {size:Nat} {v:ε} {n:Nat} {xs:List ε} (h:w.ownsRow base e size v n xs):∃ b a,v=D b n a:=by
 rcases h.2 with ⟨rfl,rfl⟩|⟨g,a,cur,rfl,_⟩
 .exact⟨O,0,rfl⟩
 .exact⟨_,a,rfl⟩
theorem Υ {w w':β} {base:Nat} {e:TypeId} {size:Nat} {v:ε} {n:Nat} {xs:List ε} (h:w.ownsRow base e size v n xs) (b:BQ w w'):w'.ownsRow base e size v n xs:=by
 obtain⟨f,d⟩:=h;refine⟨f,?_⟩;rcases d with h|⟨g,a,cur,j,c,hg,i⟩
 .exact .inl h
 .exact .inr ⟨g,a,cur,j,c,by rw[b.block g (ο hg)];exact hg,i⟩
theorem ii {w:β} {base base':Nat} {e:TypeId} {size:Nat} {v:ε} {n:Nat} {xs:List ε} (h:w.ownsRow base e size v n xs) (b:base'<=base):w.ownsRow base' e size v n xs:=by
 obtain⟨f,d⟩:=h;refine⟨f,?_⟩;rcases d with h|⟨g,a,cur,j,c,i⟩
 .exact .inl h
 .exact .inr ⟨g,a,cur,j,gh b c,i⟩
def jZ (w:β) (b:TypeId) (d n:Nat) (c:List ε) (e:Ending) (w':β):Prop:= ∃ a,e=ŗ a/\w'.ownsRow w.heap.size b d a n c/\Below w.heap.size w w'
theorem yR {w:β} {base:Nat} {e:TypeId} {size g n k a:Nat} {xs:List ε} (h:w.ownsRow base e size (D (J ⟨g,0,O⟩) n a) n xs) (i:k<=n) :
  w.ownsRow base e size (D (J ⟨g,0,O⟩) k a) k (xs.take (k*size)):=by
 obtain⟨j,f⟩:=h;have p:k*size<=n*size:=pQ _ i;rcases f with ⟨h,_⟩|⟨o,m,cur,h,b,hg,q,c,d,l⟩
 .simp at h
 .simp only[Ξ,Ο,Addr.mk.injEq,hR,Ϯ]at h
  obtain⟨rfl,rfl⟩:=h;refine⟨by rw[gN,j];omega,.inr ⟨g,a,cur,rfl,b,hg,ϊ,c,d,?_⟩⟩;rw[<-l,sx]
  congr 1
  omega
theorem kk {w:β} {base:Nat} {e:TypeId} {size g n a:Nat} {xs:List ε} (h:w.ownsRow base e size (D (J ⟨g,0,O⟩) n a) n xs):n<=a/\a<=maxLen/\base<=g/\g<w.heap.size:=by
 have b:=h.lt g rfl;rcases h.2 with ⟨h,_⟩|⟨i,f,cur,h,j,hg,d,c,k,l⟩
 .simp at h
 .simp only[Ξ,Ο,Addr.mk.injEq,hR,Ϯ]at h
  obtain⟨rfl,rfl⟩:=h;exact⟨d,c,b.1,b.2⟩
theorem kz {w:β} {base:Nat} {e:TypeId} {size:Nat} {v:ε} {n:Nat} {xs:List ε} (h:w.ownsRow base e size v n xs) (d:0<n):∃ g a,v=D (J ⟨g,0,O⟩) n a:=by
 rcases h.2 with ⟨_,c⟩|⟨g,a,cur,b,_⟩
 .omega
 .exact⟨g,a,b⟩
theorem mz {w w':β} {base:Nat} {e:TypeId} {size:Nat} {v:ε} {n:Nat} {xs:List ε} (h:w.ownsRow base e size v n xs) (b:BQ w w'):w'.ownsRow base e size v n xs:=by
 obtain⟨f,d⟩:=h;refine⟨f,?_⟩;rcases d with h|⟨g,a,cur,j,c,hg,i⟩
 .exact .inl h
 .exact .inr ⟨g,a,cur,j,c,by rw[b.block g (ο hg)];exact hg,i⟩
theorem mZ {P:Program} {tx d e:TypeId} (h:P.underlying tx=J (.slice d)) (w:β) (a:Array ε) (b m c:Nat) (H:Nat) (g:w.heap.size=H) (i:a.size=m*b) (f:∀ u∈a.toList,u.oneCell'=true):Src P b tx (D (J ⟨H,0,O⟩) m c) m a.toList (å w (C a e)):=by
 subst g;exact ig h w a b m c i f
def Hi (lo:Nat) (w:β) (R:β->Prop):Prop:= ∀ a:β,(∀ b,lo<=b->b<w.heap.size->a.heap[b]?=w.heap[b]?)->R a
theorem Hi.now {lo:Nat} {w:β} {R:β->Prop} (h:Hi lo w R):R w:=h w fun _ _ _=>rfl
theorem Hi.step {lo:Nat} {w w':β} {R:β->Prop} (h:Hi lo w R) (g:w.heap.size<=w'.heap.size) (e:∀ b,lo<=b->b<w.heap.size->w'.heap[b]?=w.heap[b]?):Hi lo w' R:=
 fun f d=>h f fun b a c=>(d b a ϊ).trans (e b a c)
theorem Hi.below {lo:Nat} {w w':β} {R:β->Prop} (h:Hi lo w R) (a:BQ w w'):Hi lo w' R:=h.step a.size fun b _ g=>a.block b g
theorem Hi.mono {lo lo':Nat} {w:β} {R:β->Prop} (h:Hi lo w R) (f:lo'<=lo):Hi lo' w R:=fun d c=>h d fun b e a=>c b ϊ a
theorem Hi.set {lo:Nat} {w:β} {R:β->Prop} (h:Hi lo w R) {p:Addr} (c:p.block<lo) (x:ε):Hi lo (ŝ w p x) R:=
 h.step ύ fun b a _=>ψ _ _ _ _ ϊ
theorem Hi.alloc {lo:Nat} {w:β} {R:β->Prop} (h:Hi lo w R) (o:Obj):Hi lo (å w o) R:=h.step ύ fun b _ g=>gX w o b g
theorem Hi.drew {lo:Nat} {w:β} {R:β->Prop} (h:Hi lo w R):Hi lo w.drew R:=h
theorem Hi.imp {lo:Nat} {w:β} {R Q:β->Prop} (h:Hi lo w R) (f:∀ a,R a->Q a):Hi lo w Q:=fun a b=>f a (h a b)
theorem Hi.and {lo:Nat} {w:β} {R Q:β->Prop} (h:Hi lo w R) (c:Hi lo w Q):Hi lo w (fun a=>R a/\Q a):=fun a b=>⟨h a b,c a b⟩
theorem Hi.own {lo:Nat} {w:β} {e:TypeId} {size:Nat} {v:ε} {n:Nat} {xs:List ε} (h:w.ownsRow lo e size v n xs):Hi lo w (fun b=>Rd b v n size xs):=by
 intro b d;refine Rd.of_own (base:=lo) (e:=e) ⟨h.1,?_⟩;rcases h.2 with g|⟨g,c,cur,i,a,hg,f⟩
 .exact .inl g
 .exact .inr ⟨g,c,cur,i,a,by rw[d g a (ο hg)];exact hg,f⟩
theorem gm {w:β} {g:Nat} {a:ε} {T:TypeId} (h:w.heap[g]?=J (C #[a] T (0,0))):w.cell? ⟨g,0,O⟩=J a/\w.frozen? ⟨g,0,O⟩=false/\g<w.heap.size:=
 ⟨ν _ _ 0 _ _ _ h,ϥ _ _ 0 _ _ h,ο h⟩
theorem ι {w:β} {g:Nat} {a b:ε} {T:TypeId} (h:w.heap[g]?=J (C #[a,b] T (0,0))):(w.cell? ⟨g,0,O⟩=J a/\w.cell? ⟨g,1,O⟩=J b)/\(w.frozen? ⟨g,0,O⟩=false/\w.frozen? ⟨g,1,O⟩=false)/\g<w.heap.size:=
 ⟨⟨ν _ _ 0 _ _ _ h,ν _ _ 1 _ _ _ h⟩,⟨ϥ _ _ 0 _ _ h,ϥ _ _ 1 _ _ h⟩,ο h⟩
theorem Β {w:β} {g:Nat} {a b c:ε} {T:TypeId} (h:w.heap[g]?=J (C #[a,b,c] T (0,0))):(w.cell? ⟨g,0,O⟩=J a/\w.cell? ⟨g,1,O⟩=J b/\w.cell? ⟨g,2,O⟩=J c)/\(w.frozen? ⟨g,0,O⟩=false/\w.frozen? ⟨g,1,O⟩=false/\w.frozen? ⟨g,2,O⟩=false)/\g<w.heap.size:=
 ⟨⟨ν _ _ 0 _ _ _ h,ν _ _ 1 _ _ _ h,ν _ _ 2 _ _ _ h⟩,⟨ϥ _ _ 0 _ _ h,ϥ _ _ 1 _ _ h,ϥ _ _ 2 _ _ h⟩,ο h⟩
theorem Ϫ {w:β} {g:Nat} {a b c d:ε} {T:TypeId} (h:w.heap[g]?=J (C #[a,b,c,d] T (0,0))):(w.cell? ⟨g,0,O⟩=J a/\w.cell? ⟨g,1,O⟩=J b/\w.cell? ⟨g,2,O⟩=J c/\w.cell? ⟨g,3,O⟩=J d)/\(w.frozen? ⟨g,0,O⟩=false/\w.frozen? ⟨g,1,O⟩=false/\w.frozen? ⟨g,2,O⟩=false/\w.frozen? ⟨g,3,O⟩=false)/\g<w.heap.size:=
 ⟨⟨ν _ _ 0 _ _ _ h,ν _ _ 1 _ _ _ h,ν _ _ 2 _ _ _ h,ν _ _ 3 _ _ _ h⟩,⟨ϥ _ _ 0 _ _ h,ϥ _ _ 1 _ _ h,ϥ _ _ 2 _ _ h,ϥ _ _ 3 _ _ h⟩,ο h⟩
theorem nt {a w1:β} (c:BQ a w1):(∀ b o,b<a.heap.size->w1.cell? ⟨b,o,O⟩=a.cell? ⟨b,o,O⟩)/\(∀ b o,b<a.heap.size->w1.frozen? ⟨b,o,O⟩=a.frozen? ⟨b,o,O⟩):=
 ⟨fun b o h=>c.cell (p:=⟨b,o,O⟩) h,fun b o h=>c.frozen (p:=⟨b,o,O⟩) h⟩
theorem vW {w:β} {g:Nat} {T:TypeId} {b:ε} (h:w.heap[g]?=J (C #[b] T (0,0))) (a:ε):(ŝ w ⟨g,0,O⟩ a).heap[g]?=J (C #[a] T (0,0)):=π _ g 0 _ _ _ h
theorem my (w:β) (g k:Nat) (a:k≠g) (b:ε):(ŝ w ⟨g,0,O⟩ b).heap[k]?=w.heap[k]?:=by repeat rw[ψ _ _ _ _ a]
theorem Ϲ {w:β} {g:Nat} {T:TypeId} {c d:ε} (h:w.heap[g]?=J (C #[c,d] T (0,0))) (a b:ε):(ŝ (ŝ w ⟨g,0,O⟩ a) ⟨g,1,O⟩ b).heap[g]?=J (C #[a,b] T (0,0)):=π _ g 1 _ _ _ (π _ g 0 _ _ _ h)
theorem fS {b:Nat} {a w:β} {g:Nat} (h:Below b a w) (hg:b<=g) (c d:ε):Below b a (ŝ (ŝ w ⟨g,0,O⟩ c) ⟨g,1,O⟩ d):=(h.setCell hg c).setCell hg d
theorem jf (w:β) (g k:Nat) (a:k≠g) (b c:ε):(ŝ (ŝ w ⟨g,0,O⟩ b) ⟨g,1,O⟩ c).heap[k]?=w.heap[k]?:=by repeat rw[ψ _ _ _ _ a]
theorem jg {w:β} {g:Nat} {T:TypeId} {d e f:ε} (h:w.heap[g]?=J (C #[d,e,f] T (0,0))) (a b c:ε):(ŝ (ŝ (ŝ w ⟨g,0,O⟩ a) ⟨g,1,O⟩ b) ⟨g,2,O⟩ c).heap[g]?=J (C #[a,b,c] T (0,0)):=π _ g 2 _ _ _ (π _ g 1 _ _ _ (π _ g 0 _ _ _ h))
theorem kL {b:Nat} {a w:β} {g:Nat} (h:Below b a w) (hg:b<=g) (c d e:ε):Below b a (ŝ (ŝ (ŝ w ⟨g,0,O⟩ c) ⟨g,1,O⟩ d) ⟨g,2,O⟩ e):=((h.setCell hg c).setCell hg d).setCell hg e
theorem kj (w:β) (g k:Nat) (a:k≠g) (b c d:ε):(ŝ (ŝ (ŝ w ⟨g,0,O⟩ b) ⟨g,1,O⟩ c) ⟨g,2,O⟩ d).heap[k]?=w.heap[k]?:=by repeat rw[ψ _ _ _ _ a]
theorem nD {w:β} {g:Nat} {T:TypeId} {e f i j:ε} (h:w.heap[g]?=J (C #[e,f,i,j] T (0,0))) (a b c d:ε):(ŝ (ŝ (ŝ (ŝ w ⟨g,0,O⟩ a) ⟨g,1,O⟩ b) ⟨g,2,O⟩ c) ⟨g,3,O⟩ d).heap[g]?=J (C #[a,b,c,d] T (0,0)):=π _ g 3 _ _ _ (π _ g 2 _ _ _ (π _ g 1 _ _ _ (π _ g 0 _ _ _ h)))
theorem oF {b:Nat} {a w:β} {g:Nat} (h:Below b a w) (hg:b<=g) (c d e f:ε):Below b a (ŝ (ŝ (ŝ (ŝ w ⟨g,0,O⟩ c) ⟨g,1,O⟩ d) ⟨g,2,O⟩ e) ⟨g,3,O⟩ f):=(((h.setCell hg c).setCell hg d).setCell hg e).setCell hg f
theorem nY (w:β) (g k:Nat) (a:k≠g) (b c d e:ε):(ŝ (ŝ (ŝ (ŝ w ⟨g,0,O⟩ b) ⟨g,1,O⟩ c) ⟨g,2,O⟩ d) ⟨g,3,O⟩ e).heap[k]?=w.heap[k]?:=by repeat rw[ψ _ _ _ _ a]
theorem DO {w:β} {g:Nat} {T:TypeId} {i j k l m n:ε} (h:w.heap[g]?=J (C #[i,j,k,l,m,n] T (0,0))) (a b c d e f:ε):(ŝ (ŝ (ŝ (ŝ (ŝ (ŝ w ⟨g,0,O⟩ a) ⟨g,1,O⟩ b) ⟨g,2,O⟩ c) ⟨g,3,O⟩ d) ⟨g,4,O⟩ e) ⟨g,5,O⟩ f).heap[g]?=J (C #[a,b,c,d,e,f] T (0,0)):=π _ g 5 _ _ _ (π _ g 4 _ _ _ (π _ g 3 _ _ _ (π _ g 2 _ _ _ (π _ g 1 _ _ _ (π _ g 0 _ _ _ h)))))
theorem AI {b:Nat} {a w:β} {g:Nat} (h:Below b a w) (hg:b<=g) (c d e f i j:ε):Below b a (ŝ (ŝ (ŝ (ŝ (ŝ (ŝ w ⟨g,0,O⟩ c) ⟨g,1,O⟩ d) ⟨g,2,O⟩ e) ⟨g,3,O⟩ f) ⟨g,4,O⟩ i) ⟨g,5,O⟩ j):=(((((h.setCell hg c).setCell hg d).setCell hg e).setCell hg f).setCell hg i).setCell hg j
theorem ob {w:β} {g:Nat} {T:TypeId} {o p q r e f i j:ε} (h:w.heap[g]?=J (C #[o,p,q,r,e,f,i,j] T (0,0))) (a b c d k l m n:ε):(ŝ (ŝ (ŝ (ŝ (ŝ (ŝ (ŝ (ŝ w ⟨g,0,O⟩ a) ⟨g,1,O⟩ b) ⟨g,2,O⟩ c) ⟨g,3,O⟩ d) ⟨g,4,O⟩ k) ⟨g,5,O⟩ l) ⟨g,6,O⟩ m) ⟨g,7,O⟩ n).heap[g]?=J (C #[a,b,c,d,k,l,m,n] T (0,0)):=π _ g 7 _ _ _ (π _ g 6 _ _ _ (π _ g 5 _ _ _ (π _ g 4 _ _ _ (show(ŝ (ŝ (ŝ (ŝ w ⟨g,0,O⟩ a) ⟨g,1,O⟩ b) ⟨g,2,O⟩ c) ⟨g,3,O⟩ d).heap[g]?=J (C #[a,b,c,d,e,f,i,j] T (0,0))from π _ g 3 _ _ _ (π _ g 2 _ _ _ (π _ g 1 _ _ _ (π _ g 0 _ _ _ h)))))))
theorem Mb {w:β} {g:Nat} {T:TypeId} {r s t u v f i j k l:ε} (h:w.heap[g]?=J (C #[r,s,t,u,v,f,i,j,k,l] T (0,0))) (a b c d e m n o p q:ε):(ŝ (ŝ (ŝ (ŝ (ŝ (ŝ (ŝ (ŝ (ŝ (ŝ w ⟨g,0,O⟩ a) ⟨g,1,O⟩ b) ⟨g,2,O⟩ c) ⟨g,3,O⟩ d) ⟨g,4,O⟩ e) ⟨g,5,O⟩ m) ⟨g,6,O⟩ n) ⟨g,7,O⟩ o) ⟨g,8,O⟩ p) ⟨g,9,O⟩ q).heap[g]?=J (C #[a,b,c,d,e,m,n,o,p,q] T (0,0)):=π _ g 9 _ _ _ (π _ g 8 _ _ _ (π _ g 7 _ _ _ (π _ g 6 _ _ _ (π _ g 5 _ _ _ (show(ŝ (ŝ (ŝ (ŝ (ŝ w ⟨g,0,O⟩ a) ⟨g,1,O⟩ b) ⟨g,2,O⟩ c) ⟨g,3,O⟩ d) ⟨g,4,O⟩ e).heap[g]?=J (C #[a,b,c,d,e,f,i,j,k,l] T (0,0))from π _ g 4 _ _ _ (π _ g 3 _ _ _ (π _ g 2 _ _ _ (π _ g 1 _ _ _ (π _ g 0 _ _ _ h)))))))))
theorem Gb {b:Nat} {a w:β} {g:Nat} (h:Below b a w) (hg:b<=g) (c d e f i j k l m n:ε):Below b a (ŝ (ŝ (ŝ (ŝ (ŝ (ŝ (ŝ (ŝ (ŝ (ŝ w ⟨g,0,O⟩ c) ⟨g,1,O⟩ d) ⟨g,2,O⟩ e) ⟨g,3,O⟩ f) ⟨g,4,O⟩ i) ⟨g,5,O⟩ j) ⟨g,6,O⟩ k) ⟨g,7,O⟩ l) ⟨g,8,O⟩ m) ⟨g,9,O⟩ n):=(((((((((h.setCell hg c).setCell hg d).setCell hg e).setCell hg f).setCell hg i).setCell hg j).setCell hg k).setCell hg l).setCell hg m).setCell hg n
theorem Kp (w:β) (g k:Nat) (a:k≠g) (b c d e f h i j l m:ε):(ŝ (ŝ (ŝ (ŝ (ŝ (ŝ (ŝ (ŝ (ŝ (ŝ w ⟨g,0,O⟩ b) ⟨g,1,O⟩ c) ⟨g,2,O⟩ d) ⟨g,3,O⟩ e) ⟨g,4,O⟩ f) ⟨g,5,O⟩ h) ⟨g,6,O⟩ i) ⟨g,7,O⟩ j) ⟨g,8,O⟩ l) ⟨g,9,O⟩ m).heap[k]?=w.heap[k]?:=by repeat rw[ψ _ _ _ _ a]
theorem Ϻ {w w1:β} {A:Obj} (a:Below (å w A).heap.size (å w A) w1):w1.heap[w.heap.size]?=J A/\w.heap.size<w1.heap.size/\BQ w w1:=by
 have b:=a.size;simp only[lz]at b;exact⟨(a.block _ ϓ).trans (χ w A),ϊ,ġ.trans (a.mono ϓ)⟩
theorem fU {w w1:β} {A Z:Obj} (a:Below (å (å w A) Z).heap.size (å (å w A) Z) w1):w1.heap[w.heap.size]?=J A/\w1.heap[w.heap.size+1]?=J Z/\w.heap.size<w1.heap.size/\w.heap.size+1<w1.heap.size/\BQ w w1:=by
 obtain⟨b,c,e⟩:=Ϻ a;have d:=a.size;simp only[lz]at d b c;refine⟨(a.block _ ϓ).trans ((gX _ _ _ ϓ).trans (χ w A)),b,ϊ,ϊ,?_⟩;exact(ġ.alloc ύ _).trans (a.mono ϓ)
theorem of {w w1:β} {A Z Y:Obj} (a:Below (å (å (å w A) Z) Y).heap.size (å (å (å w A) Z) Y) w1):w1.heap[w.heap.size]?=J A/\w1.heap[w.heap.size+1]?=J Z/\w1.heap[w.heap.size+1+1]?=J Y/\w.heap.size<w1.heap.size/\w.heap.size+1<w1.heap.size/\w.heap.size+1+1<w1.heap.size/\BQ w w1:=by
 obtain⟨b,c,d,e,g⟩:=fU a;have f:=a.size;simp only[lz]at f b c d e;refine⟨(a.block _ ϓ).trans ((gX _ _ _ ϓ).trans ((gX _ _ _ ϓ).trans (χ w A))),b,c,ϊ,ϊ,ϊ,?_⟩;exact((ġ.alloc ύ _).alloc ϓ _).trans (a.mono ϓ)
theorem θ {w w1:β} {g:Nat} {o:Obj} (h:w.heap[g]?=J o) (a:BQ w w1):w1.heap[g]?=J o:=(a.block _ (ο h)).trans h
def ς (H:Nat->Prop) (w:β) (R:β->Prop):Prop:= ∀ a:β,(∀ b,b<w.heap.size->¬H b->a.heap[b]?=w.heap[b]?)->R a
theorem ς.now {H:Nat->Prop} {w:β} {R:β->Prop} (h:ς H w R):R w:=h w fun _ _ _=>rfl
theorem ς.step {H H':Nat->Prop} {w w':β} {R:β->Prop} (h:ς H w R) (j:w.heap.size<=w'.heap.size) (f:∀ b,b<w.heap.size->¬H b->w'.heap[b]?=w.heap[b]?) (e:∀ b,b<w.heap.size->H' b->H b):ς H' w' R:=
 fun i d=>h i fun b a c=>(d b ϊ (fun g=>c (e b a g))).trans (f b a c)
theorem ς.below {H:Nat->Prop} {w w':β} {R:β->Prop} (h:ς H w R) (a:BQ w w'):ς H w' R:=h.step a.size (fun b g _=>a.block b g) fun _ _ g=>g
theorem ς.alloc {H:Nat->Prop} {w:β} {R:β->Prop} (h:ς H w R) (o:Obj):ς H (å w o) R:=h.step ύ (fun b g _=>gX w o b g) fun _ _ g=>g
theorem ς.set {H:Nat->Prop} {w:β} {R:β->Prop} (h:ς H w R) {p:Addr} (a:H p.block) (x:ε):ς H (ŝ w p x) R:=
 h.step ύ (fun b _ g=>ψ _ _ _ _ (by rintro rfl;exact g a)) fun _ _ g=>g
theorem ς.drew {H:Nat->Prop} {w:β} {R:β->Prop} (h:ς H w R):ς H w.drew R:=h
theorem ς.imp {H:Nat->Prop} {w:β} {R Q:β->Prop} (h:ς H w R) (f:∀ a,R a->Q a):ς H w Q:=fun a b=>f a (h a b)
theorem ς.and {H:Nat->Prop} {w:β} {R Q:β->Prop} (h:ς H w R) (c:ς H w Q):ς H w (fun a=>R a/\Q a):=fun a b=>⟨h a b,c a b⟩
theorem ς.sub {H H':Nat->Prop} {w:β} {R:β->Prop} (h:ς H w R) (a:∀ b,b<w.heap.size->H' b->H b):ς H' w R:=h.step NZ (fun _ _ _=>rfl) a
theorem Hi.off {lo:Nat} {w:β} {R:β->Prop} (h:Hi lo w R) {H:Nat->Prop} (d:∀ b,b<w.heap.size->H b->b<lo):ς H w R:=
 fun e c=>h e fun b f a=>c b a fun g=>by have:=d b a g;omega
theorem ς.hi {lo:Nat} {w:β} {R:β->Prop} (h:ς (· <lo) w R):Hi lo w R:=fun e d=>h e fun b a c=>d b (by simpa using c) a
def kb (base:Nat) (v:ε) (b:Nat):Prop:=b<base\/v.ownBlock=J b
theorem ς.grown {base:Nat} {v a:ε} {w w':β} {R:β->Prop} (h:ς (kb base v) w R) (hg:w.grownBy w' v.ownBlock) (hv:a.ownBlock=v.ownBlock\/a.ownBlock=J w.heap.size):ς (kb base a) w' R:=by
 refine h.step hg.size (fun b c g2=>hg.block b c fun e=>g2 (.inr e.symm)) fun b c g2=>?_;rcases g2 with g2|g2
 .exact .inl g2
 .rcases hv with hv|hv
  .rw[hv]at g2;exact .inr g2
  .rw[hv]at g2;injection g2 with g2;omega
theorem Hi.rowH {lo base:Nat} {v:ε} {w:β} {R:β->Prop} (h:Hi lo w R) (a:base<=lo) (c:∀ g,v.ownBlock=J g->g<lo):ς (kb base v) w R:=
 h.off fun b _ g=>by rcases g with g|g;exact nj g a;exact c b g
theorem Ν {w:β} {base:Nat} {e:TypeId} {size:Nat} {v:ε} {n:Nat} {xs:List ε} (h:w.ownsRow base e size v n xs):∀ g,v.ownBlock=J g->base<=g/\g<w.heap.size:=by
 intro g hg;rcases h.2 with ⟨rfl,-⟩|⟨d,c,cur,rfl,a,b,-⟩
 .cases hg
 .simp only[Value.ownBlock,Ο]at hg
  subst hg;exact⟨a,ο b⟩
theorem ς.rowHi {base:Nat} {v:ε} {w:β} {R:β->Prop} {e:TypeId} {size n:Nat} {xs:List ε} (h:ς (kb base v) w R) (i:w.ownsRow base e size v n xs):Hi base w (fun a=>R a/\Rd a v n size xs):=by
 intro a c;have j:=Hi.own i;refine⟨h a fun b d f=>c b ?_ d,j a c⟩;exact Nat.le_of_not_lt fun g=>f (.inl g)
theorem rB {w:β} {base:Nat} {e:TypeId} {g n:Nat} {xs:List ε} (h:w.ownsRow base e 1 (D (J ⟨g,0,O⟩) n n) n xs):w.heap[g]?=J (C xs.toArray e (0,0)):=by
 obtain⟨k,a⟩:=h;rcases a with ⟨h,_⟩|⟨d,c,cur,h,f,hg,l,i,j,b⟩
 .simp at h
 .simp only[Ξ,Ο,Addr.mk.injEq,hR,Ϯ]at h
  obtain⟨rfl,rfl⟩:=h;rw[hg];have:cur.toList=xs:=by rw[<-b,gW (by rw[qO];omega)]
  rw[<-this]
def pH (n:Nat):Nat->Nat->Nat
 |0,k=>k
 |f+1,k=>if 2*k<n then pH n f (2*k)else k
def Κ (n:Nat):Nat:=pH n n 1
theorem Ek (n:Nat):∀ (f a:Nat),2 ^ a<n->n<=2 ^ (a+f)->∃ h,pH n f (2 ^ a)=2 ^ h/\2 ^ h<n/\n<=2 ^ (h+1)
 |0,a,h1,h2=>by simp at h2;omega
 |f+1,a,h1,h2=>by
  rw[pH];split
  .rename_i b
   rw[show 2*2 ^ a=2 ^ (a+1)from by rw[jn];omega]at b ⊢;exact Ek n f (a+1) b (by rw[show a+1+f=a+(f+1)from ϊ];exact h2)
  .rename_i b
   exact⟨a,rfl,h1,by rw[jn];omega⟩
theorem qK {n:Nat} (h:2<=n):∃ h,Κ n=2 ^ h/\2 ^ h<n/\n<=2 ^ (h+1):=by
 have:=Ek n n 0 ό (by simp;exact mc Nat.lt_two_pow_self);simpa[Κ] using this
theorem tY {n:Nat} (h:2<=n):0<Κ n/\Κ n<n/\n<=2*Κ n:=by
 obtain⟨a,e,b,c⟩:=qK h;rw[e];refine⟨ku ϐ,b,by rw[jn]at c;omega⟩
theorem La {a b n:Nat} (c:2 ^ a<n) (d:n<=2 ^ (a+1)) (e:2 ^ b<n) (f:n<=2 ^ (b+1)):a=b:=by
 have g:a<b+1:=(um ϐ).1 (nj c f);have h:b<a+1:=(um ϐ).1 (nj e d);omega
theorem Ej {n h:Nat} (d:2 ^ h<n) (f:n<=2 ^ (h+1)):Κ n=2 ^ h:=by
 have g:0<2 ^ h:=ku ϐ;obtain⟨a,e,b,c⟩:=qK (n:=n) ϊ;rw[e,La b c d f]
section
variable {α:Type} (T:List α->α) (nd:α->α->α)
def gE:Nat->List α->Nat->Bool->List α
 |0,_,_,_=>[]
 |f+1,l,m,p =>
  if m=L l then(if p=true then[T l]else[])
  else if m<=Κ (L l) then gE f (l.take (Κ (L l))) m p++[T (l.drop (Κ (L l)))]
  else gE f (l.drop (Κ (L l))) (m - Κ (L l)) true++[T (l.take (Κ (L l)))]
theorem oO (f:Nat) (l:List α) (m:Nat) (p:Bool):gE T (f+1) l m p=if m=L l then(if p=true then[T l]else[])else if m<=Κ (L l) then gE T f (l.take (Κ (L l))) m p++[T (l.drop (Κ (L l)))]else gE T f (l.drop (Κ (L l))) (m - Κ (L l)) true++[T (l.take (Κ (L l)))]:=rfl
theorem tQ:∀ (f:Nat) (l:List α) (m:Nat) (p:Bool),L (gE T f l m p)<=f
 |0,l,m,p=>by simp[gE]
 |f+1,l,m,p=>by
  unfold gE;split
  .split<;>simp
  .split
   .have:=tQ f (l.take (Κ (L l))) m p;simp;omega
   .have:=tQ f (l.drop (Κ (L l))) (m - Κ (L l)) true;simp;omega
def jV:Nat->Nat->Nat->Nat×Nat
 |0,i,j=>(i,j)
 |f+1,i,j=>if i % 2=1 then jV f (i / 2) (j / 2)else(i,j)
def iT:Nat->Nat->Nat->Nat×Nat
 |0,i,j=>(i,j)
 |f+1,i,j=>if i % 2=0/\i≠0 then iT f (i / 2) (j / 2)else(i,j)
def jN:List α->Nat->Nat->α->α->Option (Nat×Nat×α×α)
 |[],i,j,a,b=>J (i,j,a,b)
 |d::r,i,j,a,b =>
  if j=0 then O
  else if i % 2=0/\i≠j then jN r (i / 2) (j / 2) a (nd b d)
  else jN r ((iT i i j).1 / 2) ((iT i i j).2 / 2) (nd d a) (nd d b)
theorem rf:∀ (x:List α) (d:α) (i j:Nat) (a b:α),jN nd (x++[d]) i j a b=(jN nd x i j a b).bind fun s=>jN nd [d] s.1 s.2.1 s.2.2.1 s.2.2.2
 |[],d,i,j,a,b=>rfl
 |e::r,d,i,j,a,b=>by
  simp only[kq,jN];split
  .rfl
  .split
   .exact rf r d _ _ _ _
   .exact rf r d _ _ _ _
def tf (i j:Nat):List α->Option (Nat×Nat×α×α)
 |[]=>O
 |s::t=>jN nd t (jV i i j).1 (jV i i j).2 s s
theorem ua {i:Nat} (f j:Nat) (h:i % 2≠1):jV f i j=(i,j):=by cases f<;>simp[jV,h]
theorem Es:∀ (h f X a:Nat),X % 2=0->X*2 ^ h+(2 ^ h - 1)<=f->jV f (X*2 ^ h+(2 ^ h - 1)) a=(X,a / 2 ^ h)
 |0,f,X,a,hX,hf=>by simp;exact ua f a ϊ
 |h+1,f,X,a,hX,hf=>by
  have b:0<2 ^ h:=ku ϐ;have e:X*2 ^ (h+1)+(2 ^ (h+1) - 1)=2*(X*2 ^ h+(2 ^ h - 1))+1:=by
   rw[jn,show X*(2 ^ h*2)=2*(X*2 ^ h)from by rw[<-oh,kt]];omega
  rw[e]at hf ⊢;obtain⟨g,rfl⟩:∃ g,f=g+1:=⟨f - 1,ϊ⟩;rw[jV,μ ϊ,show(2*(X*2 ^ h+(2 ^ h - 1))+1) / 2=X*2 ^ h+(2 ^ h - 1)from ϊ,Es h g X (a / 2) hX ϊ,Nat.div_div_eq_div_mul,jn,kt 2]
theorem zw:∀ (f i j:Nat),i<=f->jV f i j=jV i i j
 |0,i,j,h=>by
  obtain rfl:i=0:=ϊ;rfl
 |f+1,i,j,h=>by
  by_cases a:i % 2=1
  .obtain⟨g,rfl⟩:∃ g,i=g+1:=⟨i - 1,ϊ⟩
   rw[jV,μ a,jV,μ a,zw f _ _ ϊ,zw g _ _ ϊ]
  .rw[ua _ _ a,ua _ _ a]
theorem Eo {i:Nat} (f j:Nat) (h:i % 2=1):iT f i j=(i,j):=by
 cases f with
 |zero=>rfl
 |succ f=>rw[iT,κ ϊ]
theorem Ep:∀ (s f c:Nat),c % 2=1->c*2 ^ s<=f->iT f (c*2 ^ s) (c*2 ^ s)=(c,c)
 |0,f,c,hc,hf=>by simp;exact Eo f c hc
 |s+1,f,c,hc,hf=>by
  have a:0<2 ^ s:=ku ϐ;have b:0<c*2 ^ s:=Nat.mul_pos ϊ a;have e:c*2 ^ (s+1)=2*(c*2 ^ s):=by rw[jn,<-oh,kt]
  rw[e]at hf ⊢;obtain⟨g,rfl⟩:∃ g,f=g+1:=⟨f - 1,ϊ⟩;rw[iT,μ ϊ,show 2*(c*2 ^ s) / 2=c*2 ^ s from ϊ];exact Ep s g c hc ϊ
variable (hT:∀ l:List α,2<=L l->T l=nd (T (l.take (Κ (L l)))) (T (l.drop (Κ (L l)))))
include hT
theorem xz {l:List α} (h:2<=L l):nd (T (l.take (Κ (L l)))) (T (l.drop (Κ (L l))))=T l:=(hT l h).symm
theorem Ao {l:List α} (h:2<=L l) {m:Nat} (b:Κ (L l)<m) (i:m<=L l):nd (T (l.take (Κ (L l)))) (T ((l.drop (Κ (L l))).take (m - Κ (L l))))=T (l.take m):=by
 obtain⟨a,e,f,g⟩:=qK h;have j:0<2 ^ a:=ku ϐ;have c:L (l.take m)=m:=Ϝ;have d:Κ m=Κ (L l):=by rw[e]at b ⊢;exact Ej b ϊ
 rw[hT (l.take m) (by rw[c];omega),c,d,sx,me ϊ,List.drop_take]
theorem GM:∀ (h:Nat) (l:List α) (m X a f:Nat),L l=2 ^ h->1<=m->m<=2 ^ h->(m<2 ^ h\/X % 2=0)->X<a / 2 ^ h->L l<=f ->
  ∃ s t,gE T f l m true=s::t/\jN nd t (jV (X*2 ^ h+(m - 1)) (X*2 ^ h+(m - 1)) a).1 (jV (X*2 ^ h+(m - 1)) (X*2 ^ h+(m - 1)) a).2 s s=J (X,a / 2 ^ h,T (l.take m),T l):=by
 intro h;induction h with
 |zero =>
  intro l m X a f j o p h3 w y;simp at j p;obtain rfl:m=1:=ϊ;obtain⟨g,rfl⟩:∃ g,f=g+1:=⟨f - 1,ϊ⟩;refine⟨T l,[],by rw[gE,μ ϊ,μ rfl],?_⟩;rcases h3 with h3|h3
  .simp at h3
  .simp only[Nat.pow_zero,nJ,kE,kW,kG]
   rw[ua _ _ ϊ,jN,gW ϊ]
 |succ h r =>
  intro l m X a f j o p h3 w y;have A:0<2 ^ h:=ku ϐ;have n:2 ^ (h+1)=2 ^ h*2:=jn ..;obtain⟨g,rfl⟩:∃ g,f=g+1:=⟨f - 1,ϊ⟩;have c:Κ (L l)=2 ^ h:=by rw[j];exact Ej ϊ NZ
  have i:2<=L l:=ϊ;have q:a / 2 ^ h / 2=a / 2 ^ (h+1):=by rw[Nat.div_div_eq_div_mul,n]
  by_cases z:m=2 ^ (h+1)
  .have x:X % 2=0:=ϊ
   refine⟨T l,[],by rw[gE,μ ϊ,μ rfl],?_⟩;rw[z,Es (h+1) _ X a x NZ,jN,gW ϊ]
  .by_cases b:m<=2 ^ h
   .have k:L (l.take (2 ^ h))=2 ^ h:=Ϝ
    obtain⟨s,t,d,e⟩:=r (l.take (2 ^ h)) m (2*X) a g k o b (.inr ϊ) ϊ ϊ;refine⟨s,t++[T (l.drop (2 ^ h))],by rw[gE,κ ϊ,c,μ b,d];rfl,?_⟩;rw[show X*2 ^ (h+1)=2*X*2 ^ h from by rw[n,kt 2 X,oh,kt 2],rf,e,sy];simp only[jN];rw[κ ϊ,μ ϊ,q,show 2*X / 2=X from ϊ,sx,me b];have:=xz T nd hT i;rw[c]at this;rw[this]
   .have k:L (l.drop (2 ^ h))=2 ^ h:=by rw[gb];omega
    obtain⟨s,t,d,e⟩:=r (l.drop (2 ^ h)) (m - 2 ^ h) (2*X+1) a g k ϊ ϊ (.inl ϊ) ϊ ϊ;refine⟨s,t++[T (l.take (2 ^ h))],by rw[gE,κ ϊ,c,κ b,d];rfl,?_⟩;rw[show X*2 ^ (h+1)+(m - 1)=(2*X+1)*2 ^ h+(m - 2 ^ h - 1)from by rw[n,kX,oZ,show X*(2 ^ h*2)=2*X*2 ^ h from by rw[kt 2 X,oh,kt 2]];omega,rf,e,sy];simp only[jN];rw[κ ϊ,κ ϊ,Eo _ _ ϊ];simp only;have u:=xz T nd hT i;have v:=Ao T nd hT i (m:=m) ϊ ϊ;rw[c]at u v;rw[u,v,q,show(2*X+1) / 2=X from ϊ]
theorem GL:∀ (n:Nat) (l:List α) (m c H f:Nat),L l=n->1<=m->m<n->n<=2 ^ H->n<=f ->
  ∃ s t k,gE T f l m true=s::t/\k<=H/\jN nd t (jV (c*2 ^ H+(m - 1)) (c*2 ^ H+(m - 1)) (c*2 ^ H+(n - 1))).1 (jV (c*2 ^ H+(m - 1)) (c*2 ^ H+(m - 1)) (c*2 ^ H+(n - 1))).2 s s=J (c*2 ^ k,c*2 ^ k,T (l.take m),T l):=by
 intro n;induction n using Nat.strongRecOn with
 |_ n E =>
  intro l m c H f N v P G I;have o:2<=L l:=ϊ;obtain⟨g,rfl⟩:∃ g,f=g+1:=⟨f - 1,ϊ⟩;obtain⟨h,e,F,R⟩:=qK o;have A:0<2 ^ h:=ku ϐ;have B:2 ^ (h+1)=2 ^ h*2:=jn ..;have K:h<H:=(um ϐ).1 (nj F ϊ);obtain⟨d,rfl⟩:∃ d,H=h+1+d:=⟨H - (h+1),ϊ⟩;have p:c*2 ^ (h+1+d)=2*(c*2 ^ d)*2 ^ h:=by
   rw[Nat.pow_add,B,kt 2 (c*2 ^ d),oh (c*2 ^ d),kt 2,oh c,kt (2 ^ d)]
  generalize r:c*2 ^ d=a at p;have x:(2*a*2 ^ h+(n - 1)) / 2 ^ h=2*a+1:=by
   have w:(n - 1) / 2 ^ h=1:=Nat.div_eq_of_lt_le (by rw[oZ];omega) (by show n - 1<2*2 ^ h;omega);rw[Nat.add_comm,Nat.add_mul_div_right _ _ A,w,Nat.add_comm]
  have z:L (l.take (2 ^ h))=2 ^ h:=Ϝ;have y:L (l.drop (2 ^ h))=n - 2 ^ h:=by rw[gb];omega
  have q:=xz T nd hT o;rw[e]at q;by_cases b:m<=2 ^ h
  .obtain⟨s,t,i,j⟩:=GM T nd hT h (l.take (2 ^ h)) m (2*a) (2*a*2 ^ h+(n - 1)) g z v b (.inr ϊ) ϊ ϊ
   refine⟨s,t++[T (l.drop (2 ^ h))],d,by rw[gE,κ ϊ,e,μ b,i];rfl,ϊ,?_⟩;rw[p,rf,j,sy];simp only[jN];rw[κ ϊ,μ ϊ,q,x,sx,me b,r,show 2*a / 2=a from ϊ,show(2*a+1) / 2=a from ϊ]
  .obtain⟨s,t,k,i,M,j⟩:=E (n - 2 ^ h) ϊ (l.drop (2 ^ h)) (m - 2 ^ h) (2*a+1) h g y ϊ ϊ ϊ ϊ
   refine⟨s,t++[T (l.take (2 ^ h))],d,by rw[gE,κ ϊ,e,κ b,i];rfl,ϊ,?_⟩;rw[p,show 2*a*2 ^ h+(m - 1)=(2*a+1)*2 ^ h+(m - 2 ^ h - 1)from by rw[kX,oZ];omega,show 2*a*2 ^ h+(n - 1)=(2*a+1)*2 ^ h+(n - 2 ^ h - 1)from by rw[kX,oZ];omega,rf,j,sy];have Q:0<(2*a+1)*2 ^ k:=Nat.mul_pos ϊ (ku ϐ);simp only[jN];rw[κ ϊ,κ ύ,Ep k _ (2*a+1) ϊ NZ];simp only;have u:=Ao T nd hT o (m:=m) ϊ ϊ;rw[e]at u;rw[q,u,r,show(2*a+1) / 2=a from ϊ]
theorem GN {l:List α} {m f:Nat} (c:1<=m) (d:m<L l) (e:L l<=f):tf nd (m - 1) (L l - 1) (gE T f l m true)=J (0,0,T (l.take m),T l):=by
 obtain⟨s,h,g,b,-,a⟩:=GL T nd hT (L l) l m 0 (L l) f rfl c d (mc Nat.lt_two_pow_self) e;rw[b];simp only[pL,jJ]at a;exact a
omit hT
theorem Lb:∀ (h f:Nat) (l:List α),2 ^ h<L l->L l<=f->gE T f l (2 ^ h) true=T (l.take (2 ^ h))::gE T f l (2 ^ h) false:=by
 intro h f;have q:0<2 ^ h:=ku ϐ;induction f with
 |zero=>intro l d j;omega
 |succ f m =>
  intro l d j;have p:0<2 ^ h:=ku ϐ;obtain⟨a,k,r,o⟩:=qK (n:=L l) ϊ;have c:2 ^ h<=2 ^ a:=by
   have:h<a+1:=(um ϐ).1 (nj d o);exact wM ϐ ϊ
  have e:L (l.take (2 ^ a))=2 ^ a:=Ϝ;have i:¬2 ^ h=L l:=ϊ;rw[oO T f l _ true,oO T f l _ false,κ i,κ i,k,μ c,μ c];by_cases b:2 ^ h=2 ^ a
  .obtain⟨g,rfl⟩:∃ g,f=g+1:=⟨f - 1,ϊ⟩
   rw[oO T g _ _ true,oO T g _ _ false,μ (b.trans e.symm),μ rfl,μ (b.trans e.symm),κ ϐ,b];rfl
  .rw[m (l.take (2 ^ a)) ϊ ϊ,sx,me c];rfl
theorem Lc:∀ (f:Nat) (l:List α) (m:Nat),1<=m->m<L l->L l<=f->(∀ h,m≠2 ^ h)->gE T f l m true=gE T f l m false:=by
 intro f;induction f with
 |zero=>intro l m d g i c;omega
 |succ f k =>
  intro l m d g i c;obtain⟨a,j,p,q⟩:=qK (n:=L l) ϊ;have o:L (l.take (2 ^ a))=2 ^ a:=Ϝ;have e:¬m=L l:=ϊ;rw[oO T f l _ true,oO T f l _ false,κ e,κ e,j];by_cases b:m<=2 ^ a
  .have:=c a
   rw[μ b,μ b,k (l.take (2 ^ a)) m d ϊ ϊ c]
  .rw[κ b,κ b]
end
