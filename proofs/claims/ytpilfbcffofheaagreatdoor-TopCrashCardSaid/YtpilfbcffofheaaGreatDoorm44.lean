/- Part 44 of the proof. -/
import Derived.Test.YtpilfbcffofheaaGreatDoorm40
set_option linter.unusedVariables false
set_option linter.unusedSimpArgs false
set_option maxRecDepth 100000
set_option maxHeartbeats 1000000
namespace Go.Proofs.YtpilfbcffofheaaGreatDoor
open Go.Proofs.Tryz Go.RowKit Go.Sort
open Value renaming slice->D,agg->ā
open List renaming length->L
open Ending renaming returned->ŗ
open Option renaming none->O,some->J
open World renaming setCell->ŝ
theorem HB {w:β} {ba:Option Addr} {f bc a:Nat} {b:List (γ)} (n:L b=f) (h:Δ w (D ba f bc) b) (z:a<=f):Δ w (D ba a bc) (b.take a):=by
 subst n;obtain⟨v,⟨y,A,q⟩,m⟩:=h;have s:L (b.take a)=a:=Ϝ;refine⟨v.take a,?_,fun e hi=>?_⟩
 .rw[s]
  refine⟨Ϝ,ϊ,?_⟩;rcases q with ⟨x,c,d,l⟩|⟨t,off,c,d,l,B,p,o⟩
  .simp only[Ξ]at d
   obtain⟨rfl,-,rfl⟩:=d;exact .inl ⟨ba,bc,by rw[show a=0 by omega],ϊ⟩
  .simp only[Ξ,Ϯ]at d
   obtain⟨rfl,rfl⟩:=d;by_cases g:a=0
   .exact .inl ⟨_,_,by rw[g],g⟩
   .exact .inr ⟨t,off,_,rfl,ϊ,ϊ,p,fun e u hi=>o e u (by
     rw[hP]at hi
     split at hi
     .exact hi
     .cases hi)⟩
 .have r:e<L b:=ϊ
  obtain⟨i,j,k⟩:=m e r;refine⟨i,by rw[ul ϊ];exact j,?_⟩;rw[oV];exact k
theorem Jt (k:Option Addr) (d l:Nat) (ba:Option Addr) (f bc:Nat) (a b:List (γ)) (w:β) (n:L a=d) (p:L b=f) (m:Δ w (D k d l) a) (i:Δ w (D ba f bc) b) (y:d<=f) :
  Calls prog 14 #[D k d l,D ba f bc] w fun e w'=>e=ŗ (.bool (decide (a=b.take d)))/\BQ w w':=by
 have j:=Zx (we k d l ba d bc a (b.take d) w n Ϝ m (HB p i y));have v:(∃ h o,ba=J ⟨h,o,O⟩/\f<=bc/\bc<=9223372036854775807)\/f=0:=by
  obtain⟨I,⟨-,-,x⟩,-⟩:=i;rcases x with ⟨B,c,q,u⟩|⟨h,off,c,q,u,F,r,-⟩
  .exact .inr ϊ
  .simp only[Ξ]at q
   obtain⟨rfl,-,rfl⟩:=q;unfold maxLen at r;exact .inl ⟨h,off,rfl,ϊ,ϊ⟩
 generalize decide (a=b.take d)=A at *;rcases v with ⟨h,o,rfl,E,r⟩|hz
 .skip
  have z:(d:Int)<=(f:Int):=ϊ;have G:(d:Int)<=(bc:Int):=ϊ;have H:(0:Int)<=(d:Int):=ϊ;clear m i n p;go_enter func14,ntmps14;go_wp2_with fail
  refine j.o.mono ?_;rintro e t ⟨rfl,g⟩;go_wp2;go_ret;exact⟨rfl,g⟩
 .subst hz
  obtain rfl:d=0:=ϊ;have z:((0:Nat):Int)<=((0:Nat):Int):=ϊ;clear m i n p;rcases ba with _|⟨h,o,s⟩
  .go_enter func14,ntmps14
   go_wp2_with fail
   refine j.o.mono ?_;rintro e t ⟨rfl,g⟩;go_wp2;go_ret;exact⟨rfl,g⟩
  .go_enter func14,ntmps14
   go_wp2_with fail
   refine j.o.mono ?_;rintro e t ⟨rfl,g⟩;go_wp2;go_ret;exact⟨rfl,g⟩
structure oy where
 K:Int
 AK:Int
 N:Int
 kd:Int
 ei:Int
 em:Int
 d:γ
 so:List Int
def pV (w:β) (v:ε) (b:List oy):Prop:= ∃ c,Rd w v (L b) 8 c/\∀ a (f:a<L b),c[a*8]?=J (IZ b[a].K)/\c[a*8+1]?=J (IZ b[a].AK)/\c[a*8+2]?=J (IZ b[a].N)/\c[a*8+3]?=J (IZ b[a].kd)/\c[a*8+4]?=J (IZ b[a].ei)/\c[a*8+5]?=J (IZ b[a].em)/\(∃ e,c[a*8+6]?=J e/\Rd w e (L b[a].d) 1 (η b[a].d))/\∃ e,c[a*8+7]?=J e/\Rd w e (L b[a].so) 1 (τ b[a].so)
theorem FL {w:β} {o:Option Addr} {ln j:Nat} {a:List oy} (h:pV w (D o ln j) a) (M:L a=ln) (k:Nat) (F:k<L a):∃ b off e f sa sc,o=J ⟨b,off,O⟩/\ln<=j/\j<=9223372036854775807/\b<w.heap.size /\
  w.cell? ⟨b,off+k*8,O⟩=J (IZ a[k].K)/\w.cell? ⟨b,off+k*8+1,O⟩=J (IZ a[k].AK)/\w.cell? ⟨b,off+k*8+2,O⟩=J (IZ a[k].N)/\w.cell? ⟨b,off+k*8+3,O⟩=J (IZ a[k].kd)/\w.cell? ⟨b,off+k*8+4,O⟩=J (IZ a[k].ei)/\w.cell? ⟨b,off+k*8+5,O⟩=J (IZ a[k].em)/\w.cell? ⟨b,off+k*8+6,O⟩=J (D e (L a[k].d) f)/\w.cell? ⟨b,off+k*8+7,O⟩=J (D sa (L a[k].so) sc)/\Rd w (D e (L a[k].d) f) (L a[k].d) 1 (η a[k].d)/\Rd w (D sa (L a[k].so) sc) (L a[k].so) 1 (τ a[k].so):=by
 obtain⟨r,⟨H,I,E⟩,B⟩:=h;rcases E with ⟨G,q,i,A⟩|⟨b,off,q,i,A,P,m,g⟩
 .omega
 .simp only[Ξ]at i
  obtain⟨rfl,-,rfl⟩:=i;obtain⟨l,s,t,u,v,x,⟨Q,y,r6⟩,R,z,r7⟩:=B k F;obtain⟨e,f,rfl⟩:=ra r6;obtain⟨sa,sc,rfl,-⟩:=jQ rfl r7;have c:=fun n p (h:r[k*8+n]?=J p)=>g (k*8+n) p h;simp only[<-iW]at c;unfold maxLen at m;exact⟨b,off,e,f,sa,sc,rfl,ϊ,m,ib w _ (g _ _ l),g _ _ l,c 1 _ s,c 2 _ t,c 3 _ u,c 4 _ v,c 5 _ x,c 6 _ y,c 7 _ z,r6,r7⟩
def Hv (g:Nat) (v:ε):Nat->Prop:=fun b=>b=g\/v.ownBlock=J b
structure kK (g base:Nat) (v:ε) (n:Nat) (vs:List ε) (docs:List (γ)) (W:β):Prop where
 row:W.ownsRow base 31 1 v n vs
 len:L docs=n
 el:ς (Hv g v) W (lj docs vs n)
 own:∀ b,v.ownBlock=J b->b≠g
theorem kK.oneCh {g base:Nat} {v:ε} {n:Nat} {e:List ε} {docs:List (γ)} {a b:β} (h:kK g base v n e docs a) (c:Η g a b):kK g base v n e docs b:=
 ⟨jT h.row fun q d=>c.2.1 q (Ν h.row q d).2 (h.own q d),h.len,h.el.oneCh (.inl rfl) c,h.own⟩
theorem kK.below {g base:Nat} {v:ε} {n:Nat} {d:List ε} {docs:List (γ)} {a b:β} (h:kK g base v n d docs a) (c:BQ a b):kK g base v n d docs b:=⟨Υ h.row c,h.len,h.el.below c,h.own⟩
theorem kK.rd {g base:Nat} {v:ε} {n:Nat} {b:List ε} {docs:List (γ)} {a:β} (h:kK g base v n b docs a):Δ a v docs:=
 ⟨b,by rw[h.len];exact Rd.of_own h.row,fun c hi=>h.el.now c hi (by have:=h.len;omega)⟩
theorem kK.push {g base:Nat} {v f:ε} {n:Nat} {i:List ε} {docs:List (γ)} {a j:β} {u:ε} {d:γ} (h:kK g base v n i docs a) (hg:g<a.heap.size) (y:j.ownsRow base 31 1 f (n+1) (i++[u])) (m:a.grownBy j v.ownBlock) (o:f.ownBlock=v.ownBlock\/f.ownBlock=J a.heap.size) (z:ς (Hv g v) a (fun p=>Rd p u (L d) 1 (η d))):kK g base f (n+1) (i++[u]) (docs++[d]) j:=by
 have A:L i=n:=by have:=h.row.1;omega
 refine⟨y,by simp[h.len],?_,?_⟩
 .refine((h.el.and z).step m.size (fun b l h2=>m.block b l (fun e=>h2 (.inr e.symm))) (fun b l h2=>?_)).imp fun p ⟨t,w⟩ k hi B=>?_
  .rcases h2 with h2|h2
   .exact .inl h2
   .rcases o with e|e
    .exact .inr (e ▸ h2)
    .rw[e]at h2;injection h2 with h2;omega
  .rw[ω]at hi
   by_cases hid:k<L docs
   .obtain⟨q,r,s⟩:=t k hid (by have:=h.len;omega)
    refine⟨q,by rw[iX (by have:=h.len;omega)];exact r,?_⟩;rw[ph hid];exact s
   .have x:k=L docs:=by simp at hi;omega
    subst x;refine⟨u,by rw[gO (by have:=h.len;omega)];simp[A,h.len],?_⟩;rw[zX NZ];simpa using w
 .intro b c
  rcases o with e|e
  .exact h.own b (e ▸ c)
  .rw[e]at c;injection c with c;omega
theorem kK.nil (g base:Nat) (a:β):kK g base (D O 0 0) 0 [] [] a:=⟨hZ a _ _ 1,rfl,fun _ _ d hi=>by simp at hi,fun b c=>by simp[Value.ownBlock]at c⟩
theorem ht.step {H H':Nat->Prop} {g:Nat} {d:ϰ} {ix:Ix} {a c:β} (h:ht H g d ix a) (i:a.heap.size<=c.heap.size) (f:∀ b,b<a.heap.size->¬H b->c.heap[b]?=a.heap[b]?) (hg:c.heap[g]?=a.heap[g]?) (e:∀ b,b<a.heap.size->H' b->H b) (j:H' g):ht H' g d ix c:=by
 obtain⟨k,q,h⟩:=h;exact⟨k,q,hg.trans h.row,h.led.step i f e,h.ix.step i f e,j⟩
theorem ht.grown {g:Nat} {v d:ε} {f:ϰ} {ix:Ix} {a i:β} (h:ht (Hv g v) g f ix a) (hg:g<a.heap.size) (c:a.grownBy i v.ownBlock) (k:∀ b,v.ownBlock=J b->b≠g) (l:d.ownBlock=v.ownBlock\/d.ownBlock=J a.heap.size):ht (Hv g d) g f ix i:=
 h.step c.size (fun b j h2=>c.block b j (fun e=>h2 (.inr e.symm))) (c.block g hg (fun e=>k g e.symm rfl)) (fun b j h2=>by
  rcases h2 with h2|h2
  .exact .inl h2
  .rcases l with e|e
   .exact .inr (e ▸ h2)
   .rw[e]at h2;injection h2 with h2;omega) (.inl rfl)
theorem ht.lt {H:Nat->Prop} {g:Nat} {b:ϰ} {ix:Ix} {a:β} (h:ht H g b ix a):g<a.heap.size:=by
 obtain⟨c,q,h⟩:=h;exact ο h.row
structure mo (g base:Nat) (w:β) (k:Nat) (v:ε) (W:β):Prop where
 ex:∃ (n:Nat) (vs:List ε) (L:ϰ) (es:List Ev) (ix:Ix),kK g base v n vs L.x.1 W/\ht (Hv g v) g L ix W/\lC L es/\es.length<=k/\3<=L.bl.length/\ϵ ix.1 ix.2 ix.1.length/\ix.1=L.x.1.take ix.1.length/\ix.1.length<=L.x.1.length
 b:BQ w W
theorem mo.below {g base k:Nat} {w b c:β} {v:ε} (h:mo g base w k v b) (a:BQ b c):mo g base w k v c:=by
 obtain⟨⟨n,p,e,f,ix,i,j,l,m,o⟩,d⟩:=h;exact⟨⟨n,p,e,f,ix,i.below a,j.below a,l,m,o⟩,d.trans (a.mono d.size)⟩
theorem mo.next {g base k:Nat} {w a:β} {v:ε} (h:mo g base w k v a):mo g base w (k+1) v a:=by
 obtain⟨⟨n,l,b,c,ix,d,e,f,m,i⟩,j⟩:=h;exact⟨⟨n,l,b,c,ix,d,e,f,ϊ,i⟩,j⟩
theorem Lr {w a:β} {g:Nat} {v u:ε} {n:Nat} {j:List ε} {c:List ε} {m e:Nat} (h:Rd w u m e c) (d:BQ w a) (hg:w.heap.size<=g) (f:a.ownsRow w.heap.size 31 1 v n j):ς (Hv g v) a (fun k=>Rd k u m e c):=
 (zc h).step d.size (fun b q _=>d.block b q) fun b l i=>by
  rcases i with q|q
  .omega
  .have:=(Ν f b q).1;omega
theorem uG {w a:β} {b p:Nat} {x0 x1 x2 x3 d e f g:ε} (h:w.cell? ⟨b,p,O⟩=J x0/\w.cell? ⟨b,p+1,O⟩=J x1/\w.cell? ⟨b,p+2,O⟩=J x2/\w.cell? ⟨b,p+3,O⟩=J x3/\w.cell? ⟨b,p+4,O⟩=J d/\w.cell? ⟨b,p+5,O⟩=J e/\w.cell? ⟨b,p+6,O⟩=J f/\w.cell? ⟨b,p+7,O⟩=J g) (c:BQ w a):a.cell? ⟨b,p,O⟩=J x0/\a.cell? ⟨b,p+1,O⟩=J x1/\a.cell? ⟨b,p+2,O⟩=J x2/\a.cell? ⟨b,p+3,O⟩=J x3/\a.cell? ⟨b,p+4,O⟩=J d/\a.cell? ⟨b,p+5,O⟩=J e/\a.cell? ⟨b,p+6,O⟩=J f/\a.cell? ⟨b,p+7,O⟩=J g:=
 ⟨ζ c h.1,ζ c h.2.1,ζ c h.2.2.1,ζ c h.2.2.2.1,ζ c h.2.2.2.2.1,ζ c h.2.2.2.2.2.1,ζ c h.2.2.2.2.2.2.1,ζ c h.2.2.2.2.2.2.2⟩
structure Fp (g base:Nat) (w:β) (k:Nat) (K AK kd:Int) (D:γ) (v:ε) (W:β):Prop where
 ex:∃ (n:Nat) (vs:List ε) (docs:List (γ)) (L:ϰ) (ix:Ix),kK g base v n vs docs W/\ht (Hv g v) g L ix W/\L.up=false/\qb L/\3<=L.bl.length/\ϵ ix.1 ix.2 ix.1.length/\ix.1=docs.take ix.1.length/\ix.1.length<=docs.length /\
  ∀ ks,∃ (es:List Ev) (x:Ix),ga (gU ks L.bl L.ws) es.length (ϡ es)/\(∀ e∈es,e.ok)/\gH ([],[]) es=J x/\es.length<=k+1/\(x.1=docs\/(x.1=docs++[D]/\K≠4/\AK=0/\kd=0))
 b:BQ w W
def zZ (g base:Nat) (w:β) (k:Nat) (K AK kd:Int) (b:γ) (v:ε) (a:β):Prop:=mo g base w (k+1) v a\/Fp g base w k K AK kd b v a
theorem FO {g base k:Nat} {w P H:β} {v:ε} {n:Nat} {j:List ε} {b:ϰ} {f:List Ev} {ix V:Ix} {r:Option Ev} {K AK G kd:Int} {ks:List Int} {l:ϰ} {c:Int} {N:γ} (ac:kK g base v n j b.x.1 P) (a:lC b f) (ae:L f<=k) (B:3<=L b.bl) (A:ϵ ix.1 ix.2 (L ix.1)) (z:ix.1=b.x.1.take (L ix.1)) (x:L ix.1<=L b.x.1) (T:r=O\/(kd=0/\r=J (.doc N))\/(kd≠0/\∃ m,r=J m/\qq m=[]))
  (ab:pk b f ix r K AK G ks l V c) (q:ht (Hv g v) g l V H) (Y:Η g P H) (o:BQ w H) (aa:¬(K≠4/\AK=0/\kd=0/\c=0)) (S : -9223372036854775808<=G/\G<=9223372036854775807):zZ g base w k K AK kd N v H:=by
 have p:=ac.oneCh Y;cases ab with
 |follow s t =>
  have F:=a.dok.x;rw[jA,t]at F;exact .inl ⟨⟨n,j,b,f,b.x,p,q,a,ϊ,B,F,by rw[pa],NZ⟩,o⟩
 |stay s=>exact .inl ⟨⟨n,j,b,f,ix,p,q,a,ϊ,B,A,z,x⟩,o⟩
 |same s t=>exact .inl ⟨⟨n,j,b,f,ix,p,q,a,ϊ,B,A,z,x⟩,o⟩
 |fuse s t R d=>exact .inl ⟨⟨n,j,{b with fuse:=G},f,ix,p,q,⟨a.up,a.ws,a.inv,a.sq,a.ln,a.ok,a.x,S.1,S.2⟩,ϊ,B,A,z,x⟩,o⟩
 |crash s t =>
  have M:gU ks b.bl b.ws=b.bl:=by rw[a.ws];rfl
  refine .inr ⟨⟨n,j,b.x.1,_,ix,p,q,rfl,⟨⟨?_,ύ,?_,ύ⟩,a.dok.x⟩,by simp only;rw[M];exact B,A,z,x,fun W=>⟨f,b.x,?_,a.ok,a.x,ϊ,.inl rfl⟩⟩,o⟩
  .simp only;rw[M];exact a.dok.dk.nb
  .simp only;rw[M];exact a.dok.dk.lb
  .simp only;rw[M];exact a.inv
 |put l c s t R =>
  cases R with
  |no c d I=>exact .inl ⟨⟨n,j,b,f,ix,p,q,a,ϊ,B,A,z,x⟩,o⟩
  |yes m l d I i _ =>
   have Z:kd≠0:=fun e=>aa ⟨s,t,e,rfl⟩;rcases T with h|⟨h,-⟩|⟨-,Q,h7,E⟩
   .rw[h]at d;cases d
   .exact absurd h Z
   .rw[h7]at d
    injection d with d;subst d;have U:=I.x;rw[rI,a.x]at U;have u:=tn U;rw[E,im]at u;exact .inl ⟨⟨n,j,l,f++[Q],ix,by rw[u];exact p,q,I,ό,ϊ,A,by rw[u];exact z,by rw[u];exact x⟩,o⟩
  |lost m y l d I i =>
   have F:l.x=b.x:=by
    have:=i.x;rw[a.x]at this;exact(kF this).symm
   refine .inr ⟨⟨n,j,b.x.1,l,ix,p,q,i.up,i.ok,i.len,A,z,x,fun W=>?_⟩,o⟩;rcases i.inv W with h7|h7
   .exact⟨f,b.x,h7,a.ok,a.x,ϊ,.inl rfl⟩
   .have ad:gH ([],[]) (f++[m])=J y:=by rw[rI,a.x];show ge b.x m=J y;rw[<-F];exact i.y
    have u:y.1=b.x.1++qq m:=by rw[<-F];exact tn i.y
    refine⟨f++[m],y,by simpa using h7,fun e he=>?_,ad,ό,?_⟩
    .rcases mg.1 he with he|he
     .exact a.ok e he
     .rw[jW.1 he];exact i.evok
    .rcases T with h|⟨h,E⟩|⟨-,Q,E,X⟩
     .rw[h]at d;cases d
     .rw[E]at d;injection d with d;subst d
      exact .inr ⟨by rw[u];rfl,s,t,h⟩
     .rw[E]at d;injection d with d;subst d
      exact .inl (by rw[u,X,im])
theorem Iw {lo:Nat} {w:β} {a:Option Addr} {n c:Nat} {docs:List (γ)} (h:Hi lo w (fun f=>Δ f (D a n c) docs)) (j:L docs=n) (k:Nat) (i:k<L docs):∃ b off da dc,a=J ⟨b,off,O⟩/\n<=c/\c<=maxLen/\w.cell? ⟨b,off+k,O⟩=J (D da (L docs[k]) dc)/\Hi lo w (fun f=>Rd f (D da (L docs[k]) dc) (L docs[k]) 1 (η docs[k])):=by
 obtain⟨b,off,da,dc,rfl,r,s,g,A⟩:=nS h.now j k i;have u:lo<=b:=by
  apply zY;intro z;have x:=h (ŝ w ⟨b,off+k,O⟩ (IZ 0)) (fun q B E=>ψ _ _ _ _ ϑ);obtain⟨m,y,o,p,e,-,-,d,-⟩:=nS x j k i;simp only[Ο,Addr.mk.injEq,hR]at e;obtain⟨rfl,rfl⟩:=e;rw[World.cell?_setCell_same w ⟨b,off+k,O⟩ _ g]at d;simp at d
 refine⟨b,off,da,dc,rfl,r,s,g,fun f l=>?_⟩;obtain⟨m,y,o,p,e,-,-,d,v⟩:=nS (h f l) j k i;simp only[Ο,Addr.mk.injEq,hR]at e;obtain⟨rfl,rfl⟩:=e;have t:f.cell? ⟨b,off+k,O⟩=w.cell? ⟨b,off+k,O⟩:=sA (w:=w) (a:=⟨b,off+k,O⟩) (l b u (ib w _ g));rw[t,g]at d;simp only[Ο,Ξ,Ϯ]at d;obtain⟨rfl,rfl⟩:=d;exact v
theorem vh (a:β) (x0 x1 x2 x3 c d b e:ε):(Instr.field 48 (ā #[x0,x1,x2,x3,c,d,b,e]) 2).run prog a=.ok b a:=ϋ
theorem BX (a:β) (x0 x1 x2 x3 b c d e:ε):(Instr.field 48 (ā #[x0,x1,x2,x3,b,c,d,e]) 1).run prog a=.ok (ā #[x2,x3,b,c]) a:=ϋ
theorem BY (a:β) (x0 x1 x2 x3:ε):(Instr.field 46 (ā #[x0,x1,x2,x3]) 2).run prog a=.ok (ā #[x2,x3]) a:=ϋ
theorem BW (a:β) (x0 x1:ε):(Instr.field 44 (ā #[x0,x1]) 0).run prog a=.ok x0 a:=ϋ
