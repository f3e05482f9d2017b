/- Part 26 of the proof. -/
import Derived.Test.YtpilfbcffofheaaGreatDoorm24
import Derived.Test.YtpilfbcffofheaaGreatDoorm25
set_option linter.unusedVariables false
set_option linter.unusedSimpArgs false
set_option maxRecDepth 100000
set_option maxHeartbeats 4000000
namespace Go.Proofs.YtpilfbcffofheaaGreatDoor
open Go.Proofs.Tryz Go.RowKit Go.Sort
open Value renaming slice->D,agg->ā
open Ending renaming returned->ŗ
open Option renaming none->O,some->J
open Obj renaming cells->C
open List renaming length->L
open World renaming alloc->å,setCell->ŝ
abbrev iL (kd ei em:Int) (a:Option Addr) (c b:Nat):Array ε:= #[IZ kd,IZ ei,IZ em,D a c b]
def xc (w:β) (e:Ending) (w':β):Prop:=e=ŗ (.tuple #[D O 0 0,IZ 1])/\Below w.heap.size w w'
theorem tC (a:Nat) (b:β) (c:a<=4611686018427387904):Calls prog 195 #[D O 0 0,IZ a] b (lP (ξ a) b):=by
 have h:=uR O 0 0 [] a b rfl ϊ (Rd.of_own (Φ.nil b 0).2) c;simpa using h
theorem Jg (ei em:Int) (g:Option Addr) (a h:Nat) (d:γ) (w:β) (j:L d=a) (n:Rd w (D g a h) a 1 (η d)) (I:a<=2000) :
  Calls prog 154 #[ā (iL 0 ei em g a h)] w (lP (ξ 0++Ζ d) w):=by
 have K:(a:Int)<=2000:=ϊ;have o:=Zh (fun f=>tC 0 f ϊ);have r:=Zh (fun f (v:BQ w f)=>n.below v);have i:=Zh j;have M:BQ w (å w (C (iL 0 ei em g a h) 33)):=ġ;clear j n;go_enter func154,ntmps154;go_wp2_with fail
 refine(o.o _).mono ?_;rintro e A ⟨s,y,c1,rfl,c,k⟩;obtain⟨m,Q,b⟩:=Ϻ k;obtain⟨⟨B,E,F,G⟩,⟨H,f1,f2,f3⟩,-⟩:=Ϫ m;have N:=ih i.o (r.o _ b);have q:=Zh (uU s y c1 (ξ 0) d A c.1 (by have:=c.1;have:=fQ 8 0 ϐ;omega) c.rd (by have:=i.o;omega));clear c m k;go_wp2_with fail
 refine q.o.mono ?_;rintro e P ⟨t,z,c2,rfl,l,x⟩;have u:=b.trans (x.mono b.size);have p:=Zh (l.mono b.size);clear l;go_wp2;go_ret2;exact⟨t,z,c2,rfl,p.o,u⟩
theorem Cy (kd:Nat) (ei em:Int) (a:Option Addr) (c b:Nat) (w:β) (v:kd=1\/kd=3) :
  Calls prog 154 #[ā (iL kd ei em a c b)] w (lP (ξ kd) w):=by
 have h:=Zh (fun j=>tC kd j ϊ);have u:BQ w (å w (C (iL kd ei em a c b) 33)):=ġ;have x:¬(kd:Int)<0:=ϊ;have y:(kd:Int)<=3:=ϊ;have l:¬(kd:Int)=0:=ϊ;have m:¬(kd:Int)=2:=ϊ;have p:¬kd=0:=ϊ;have r:¬kd=2:=ϊ;go_enter func154,ntmps154;go_wp2_with fail
 refine(h.o _).mono ?_;rintro e z ⟨k,o,c1,rfl,f,d⟩;obtain⟨g,A,n⟩:=Ϻ d;obtain⟨⟨l,q,m,s⟩,⟨t,f1,f2,f3⟩,-⟩:=Ϫ g;have i:=Zh (f.mono (ϓ:w.heap.size<=(å w (C (iL kd ei em a c b) 33)).heap.size));clear f g d;go_wp2;go_ret2;exact⟨k,o,c1,rfl,i.o,n⟩
def mT (z:Int):Prop:=0<=z/\z<=4611686018427387904
instance (z:Int):Decidable (mT z):=inferInstanceAs (Decidable (_/\_))
def mV (ei em:Int) (k:Nat):Int:=if k=0 then ei else em
def mf (ei em:Int):Nat->Option (γ)
 |0=>J (ξ 2)
 |k+1=>match mf ei em k with
  |none=>O
  |some l=>if mT (mV ei em k)then J (l++ξ (mV ei em k).toNat)else O
theorem tz (ei em:Int) (k:Nat):mf ei em (k+1)=match mf ei em k with
  |none=>O
  |some l=>if mT (mV ei em k)then J (l++ξ (mV ei em k).toNat)else O:=rfl
theorem CS (ei em:Int):∀ (k:Nat) (l:γ),mf ei em k=J l->L l<=9*(k+1)
 |0,l,h=>by simp only[mf,Ο]at h;subst h;have:=fQ 8 2 ϐ;omega
 |k+1,l,h=>by
  rw[tz]at h;cases a:mf ei em k with
  |none=>rw[a]at h;simp at h
  |some q =>
   rw[a]at h;simp only at h;split at h
   .rename_i b
    have c:=CS ei em k q a;have d:=fQ 8 (mV ei em k).toNat (by have:=b.2;omega);simp only[Ο]at h;subst h;rw[ω];omega
   .simp at h
def qk:Option (γ)->Int
 |none=>1
 |some _=>0
def sQ (base:Nat) (w:β) (v:ε):Option (γ)->Prop
 |none=>v=D O 0 0
 |some l=>∃ a n c,v=D a n c/\Φ base w v n l
def Ft (r:Option (γ)) (w:β) (e:Ending) (w':β):Prop:= ∃ a,e=ŗ (.tuple #[a,IZ (qk r)])/\sQ w.heap.size w' a r/\Below w.heap.size w w'
theorem sQ.below {base:Nat} {w w':β} {v:ε} {r:Option (γ)} (h:sQ base w v r) (b:BQ w w'):sQ base w' v r:=by
 cases r with
 |none=>exact h
 |some l=>obtain⟨a,n,c,rfl,d⟩:=h;exact⟨a,n,c,rfl,d.below b⟩
theorem Cz (ei em:Int) (z:Option Addr) (B A:Nat) (w:β) :
  Calls prog 154 #[ā (iL 2 ei em z B A)] w (Ft (mf ei em 2) w):=by
 have W:=Zh (fun aa=>tC 2 aa ϊ);have aj:BQ w (å w (C (iL 2 ei em z B A) 33)):=ġ;go_enter func154,ntmps154;go_wp2_with fail
 refine(W.o _).mono ?_;rintro e s ⟨ab,ah,c1,rfl,T,P⟩;obtain⟨V,ap,S⟩:=Ϻ P;obtain⟨⟨F,G,H,I⟩,⟨K,f1,f2,f3⟩,-⟩:=Ϫ V;have X:=Zh (T.mono (ϓ:w.heap.size<=(å w (C (iL 2 ei em z B A) 33)).heap.size));clear T V P;go_wp2;have R:BQ s (å s (C #[IZ ei,IZ em] 3)):=ġ;go_loopw [4,5,7,43] (fun b c ao y wr=>∃ (a:Nat) (o:ε),a<=2/\y=IZ (a:Int)/\c=IZ (qk (mf ei em a))/\o=b/\Hid (sQ w.heap.size wr o (mf ei em a))/\Hid (wr.heap[s.heap.size]?=J (C #[IZ ei,IZ em] 3 (0,0)))/\BQ w wr) (fun _ _ _ y _=>2 - (intOf y).toNat)
 case atStart=>exact⟨0,_,Ι _,rfl,rfl,rfl,⟨ab,ah,c1,rfl,X.o.below R⟩,χ _ _,S.trans (R.mono S.size)⟩
 case round =>
  obtain⟨a,o,ak,rfl,rfl,rfl,i,q,j⟩:=hrel;obtain⟨⟨v,x⟩,-,aq⟩:=ι q.o;by_cases al:a<2
  .have an:(a:Int)<2:=ϊ
   have ae:wr.cell? ⟨s.heap.size,a,O⟩=J (IZ (mV ei em a)):=by
    rcases(ϊ:a=0\/a=1)with rfl|rfl
    .exact v
    .exact x
   have f:=tz ei em a;have r:=CS ei em a;clear v x F G H I K f1 f2 f3;cases d:mf ei em a with
   |none =>
    rw[d]at f i;obtain rfl:o=D O 0 0:=i.o;have g:=Zh f;clear f d r;simp only[qk];go_wp2;go_roundw;case rel=>exact⟨a+1,_,ϊ,ϕ,by rw[g.o]<;>rfl,rfl,by rw[g.o];exact rfl,q.o,j⟩
    case measure=>simp[intOf];omega
   |some l =>
    rw[d]at f i;obtain⟨n,p,c2,rfl,h⟩:=i.o;have am:=r l d;have E:=Zh h;by_cases k:mT (mV ei em a)
    .simp only[μ k]at f
     have g:=Zh f;obtain⟨m,M⟩:∃ m:Nat,mV ei em a=(m:Int):=⟨(mV ei em a).toNat,by have:=k.1;omega⟩;have af:m<=4611686018427387904:=by have:=k.2;omega
     have N:(mV ei em a).toNat=m:=ϊ;rw[M]at ae;rw[N]at g;have u:=Zh (uR n p c2 l m wr h.1 (by have:=h.1;omega) h.rd af);clear f d r h k M N;simp only[qk];go_wp2_with fail
     refine u.o.mono ?_;rintro e ai ⟨ac,n3,ad,rfl,U,Q⟩;have ag:=j.trans (Q.mono j.size);have Z:=Zh (θ q.o Q);have Y:=Zh (U.mono j.size);clear U;go_wp2;go_roundw;case rel=>exact⟨a+1,_,ϊ,ϕ,by rw[g.o]<;>rfl,rfl,by rw[g.o];exact⟨ac,n3,ad,rfl,Y.o⟩,Z.o,ag⟩
     case measure=>simp[intOf];omega
    .simp only[κ k]at f
     have g:=Zh f;have u:=Zh (GR (D n p c2) (mV ei em a) wr (by unfold mT at k;omega));clear f d r h k;simp only[qk];go_wp2_with fail
     refine u.o.mono ?_;rintro e ai ⟨rfl,rfl⟩;go_wp2;go_roundw;case rel=>exact⟨a+1,_,ϊ,ϕ,by rw[g.o]<;>rfl,rfl,by rw[g.o];exact rfl,q.o,j⟩
     case measure=>simp[intOf];omega
  .obtain rfl:a=2:=ϊ
   clear v x F G H I K f1 f2 f3;cases d:mf ei em 2 with
   |none =>
    rw[d]at i;obtain rfl:o=D O 0 0:=i.o;simp only[qk];have t:=Zh d;clear d;go_wp2;go_ret2;rw[t.o];exact⟨D O 0 0,rfl,rfl,j⟩
   |some l =>
    rw[d]at i;obtain⟨n,p,c2,rfl,h⟩:=i.o;have E:=Zh h;have t:=Zh d;clear h d;simp only[qk];go_wp2;go_ret2;rw[t.o];exact⟨D n p c2,rfl,⟨n,p,c2,rfl,E.o⟩,j⟩
theorem Ji (kd ei em:Int) (b:Option Addr) (d c:Nat) (w:β) (hk:kd<0\/3<kd) :
  Calls prog 154 #[ā (iL kd ei em b d c)] w (xc w):=by
 have a:BQ w (å w (C (iL kd ei em b d c) 33)):=ġ;rcases hk with hk|hk
 .go_enter func154,ntmps154
  go_wp2;go_ret2;exact⟨rfl,a⟩
 .have e:¬kd<0:=ϊ
  go_enter func154,ntmps154;go_wp2;go_ret2;exact⟨rfl,a⟩
theorem Jh (ei em:Int) (d:Option Addr) (a f:Nat) (w:β) (q:2000<a) :
  Calls prog 154 #[ā (iL 0 ei em d a f)] w (xc w):=by
 have r:(2000:Int)<(a:Int):=ϊ;have g:=Zh (fun h=>tC 0 h ϊ);have s:BQ w (å w (C (iL 0 ei em d a f) 33)):=ġ;go_enter func154,ntmps154;go_wp2_with fail
 refine(g.o _).mono ?_;rintro e u ⟨k,t,c1,rfl,j,b⟩;obtain⟨c,v,i⟩:=Ϻ b;obtain⟨⟨l,m,n,o⟩,⟨p,f1,f2,f3⟩,-⟩:=Ϫ c;clear j c b;go_wp2;go_ret2;exact⟨rfl,i⟩
structure RE0 (w W:β) (n p:Nat) (B:γ) (a:Option Addr) (c:Nat) (x0 x1 x2 x3:ε):Prop where
 r0:W.heap[w.heap.size]?=J (C #[D a n c,IZ (p:Int),IZ 0] 211 (0,0))
 r1:W.heap[w.heap.size+1]?=J (C #[D O 0 0,IZ 0,IZ 0] 211 (0,0))
 r2:W.heap[w.heap.size+1+1]?=J (C #[IZ 0,IZ 0,IZ 0,D O 0 0] 33 (0,0))
 r3:W.heap[w.heap.size+1+1+1]?=J (C #[x0,x1,x2,x3] 33 (0,0))
 bel:BQ w W
structure RE (w W:β) (n p:Nat) (B:γ) (a:Option Addr) (c:Nat) (x0 x1 x2 x3:ε):Prop extends RE0 w W n p B a c x0 x1 x2 x3 where
 hi:Hi (w.heap.size+1+1+1+1) W (fun w2=>Rd w2 (D a n c) n 1 (η B))
theorem RE.later {w e f:β} {n p:Nat} {d:γ} {a:Option Addr} {c:Nat} {x0 x1 x2 x3:ε} (h:RE w e n p d a c x0 x1 x2 x3) (b:BQ e f):RE w f n p d a c x0 x1 x2 x3:=
 ⟨⟨θ h.r0 b,θ h.r1 b,θ h.r2 b,θ h.r3 b,h.bel.trans (b.mono h.bel.size)⟩,h.hi.below b⟩
theorem RE0.later {w e f:β} {n p:Nat} {d:γ} {a:Option Addr} {c:Nat} {x0 x1 x2 x3:ε} (h:RE0 w e n p d a c x0 x1 x2 x3) (b:BQ e f):RE0 w f n p d a c x0 x1 x2 x3:=
 ⟨θ h.r0 b,θ h.r1 b,θ h.r2 b,θ h.r3 b,h.bel.trans (b.mono h.bel.size)⟩
theorem Cb {w:β} {A Z Y X:Obj}:(å (å (å (å w A) Z) Y) X).heap[w.heap.size]?=J A/\(å (å (å (å w A) Z) Y) X).heap[w.heap.size+1]?=J Z/\(å (å (å (å w A) Z) Y) X).heap[w.heap.size+1+1]?=J Y/\(å (å (å (å w A) Z) Y) X).heap[w.heap.size+1+1+1]?=J X/\BQ w (å (å (å (å w A) Z) Y) X):=by
 obtain⟨d,e,f,g,h,i,b⟩:=of (w:=w) (A:=A) (Z:=Z) (Y:=Y) RZ;have a:Below (å (å (å w A) Z) Y).heap.size (å (å (å w A) Z) Y) (å (å (å (å w A) Z) Y) X):=ġ;have c:=χ (å (å (å w A) Z) Y) X;simp only[lz]at c;exact⟨θ d a,θ e a,θ f a,c,b.trans (a.mono b.size)⟩
theorem RE0.rdr {w d:β} {n p:Nat} {b:γ} {a:Option Addr} {c:Nat} {x0 x1 x2 x3:ε} (h:RE0 w d n p b a c x0 x1 x2 x3) {e:Option Addr} {f p':Nat} (g:Hi (w.heap.size+1+1+1+1) d (fun i=>Rd i (D e n f) n 1 (η b))) :
  RE w (ŝ (ŝ (ŝ d ⟨w.heap.size,0,O⟩ (D e n f)) ⟨w.heap.size,1,O⟩ (IZ (p':Int))) ⟨w.heap.size,2,O⟩ (IZ 0)) n p' b e f x0 x1 x2 x3:=
 ⟨⟨jg h.r0 _ _ _,(kj _ _ _ ϊ _ _ _).trans h.r1,(kj _ _ _ ϊ _ _ _).trans h.r2,(kj _ _ _ ϊ _ _ _).trans h.r3,kL h.bel NZ _ _ _⟩,lr g ϊ _ _ _⟩
theorem RE.ev0 {w d:β} {n p:Nat} {b:γ} {a:Option Addr} {c:Nat} {x0 x1 x2 x3:ε} (h:RE w d n p b a c x0 x1 x2 x3) (y:ε):RE w (ŝ d ⟨w.heap.size+1+1+1,0,O⟩ y) n p b a c y x1 x2 x3:=
 ⟨⟨(my _ _ _ ϊ _).trans h.r0,(my _ _ _ ϊ _).trans h.r1,(my _ _ _ ϊ _).trans h.r2,π _ _ 0 _ _ _ h.r3,h.bel.setCell ϑ _⟩,h.hi.set ϑ _⟩
theorem RE.ev1 {w d:β} {n p:Nat} {b:γ} {a:Option Addr} {c:Nat} {x0 x1 x2 x3:ε} (h:RE w d n p b a c x0 x1 x2 x3) (y:ε):RE w (ŝ d ⟨w.heap.size+1+1+1,1,O⟩ y) n p b a c x0 y x2 x3:=
 ⟨⟨(ψ _ _ _ _ ϝ).trans h.r0,(ψ _ _ _ _ ϝ).trans h.r1,(ψ _ _ _ _ ϝ).trans h.r2,π _ _ 1 _ _ _ h.r3,h.bel.setCell ϑ _⟩,h.hi.set ϑ _⟩
theorem RE.ev2 {w d:β} {n p:Nat} {b:γ} {a:Option Addr} {c:Nat} {x0 x1 x2 x3:ε} (h:RE w d n p b a c x0 x1 x2 x3) (y:ε):RE w (ŝ d ⟨w.heap.size+1+1+1,2,O⟩ y) n p b a c x0 x1 y x3:=
 ⟨⟨(ψ _ _ _ _ ϝ).trans h.r0,(ψ _ _ _ _ ϝ).trans h.r1,(ψ _ _ _ _ ϝ).trans h.r2,π _ _ 2 _ _ _ h.r3,h.bel.setCell ϑ _⟩,h.hi.set ϑ _⟩
theorem RE.ev3 {w d:β} {n p:Nat} {b:γ} {a:Option Addr} {c:Nat} {x0 x1 x2 x3:ε} (h:RE w d n p b a c x0 x1 x2 x3) (y:ε):RE w (ŝ d ⟨w.heap.size+1+1+1,3,O⟩ y) n p b a c x0 x1 x2 y:=
 ⟨⟨(ψ _ _ _ _ ϝ).trans h.r0,(ψ _ _ _ _ ϝ).trans h.r1,(ψ _ _ _ _ ϝ).trans h.r2,π _ _ 3 _ _ _ h.r3,h.bel.setCell ϑ _⟩,h.hi.set ϑ _⟩
def nr (w:β) (n p:Nat) (a:Option Addr) (c:Nat) (x0 x1 x2 x3:ε) (x:β):Prop:=
 x.heap[w.heap.size]?=J (C #[D a n c,IZ (p:Int),IZ 0] 211 (0,0))/\x.heap[w.heap.size+1+1+1]?=J (C #[x0,x1,x2,x3] 33 (0,0))/\(∃ b d e,x.heap[w.heap.size+1]?=J (C #[b,d,e] 211 (0,0)))/\(∃ b d e f,x.heap[w.heap.size+1+1]?=J (C #[b,d,e,f] 33 (0,0)))
abbrev set3 (g:Nat) (x y z:ε) (a:β):β:=ŝ (ŝ (ŝ a ⟨g,0,O⟩ x) ⟨g,1,O⟩ y) ⟨g,2,O⟩ z
abbrev oc (g:Nat) (x y z u:ε) (a:β):β:=ŝ (ŝ (ŝ (ŝ a ⟨g,0,O⟩ x) ⟨g,1,O⟩ y) ⟨g,2,O⟩ z) ⟨g,3,O⟩ u
theorem nr.set1 {w:β} {n p:Nat} {a:Option Addr} {c:Nat} {x0 x1 x2 x3:ε} {x:β} (h:nr w n p a c x0 x1 x2 x3 x) (g i j:ε):nr w n p a c x0 x1 x2 x3 (set3 (w.heap.size+1) g i j x):=by
 obtain⟨b,d,⟨_,_,_,e⟩,⟨_,_,_,_,f⟩⟩:=h;exact⟨(kj _ _ _ ϊ _ _ _).trans b,(kj _ _ _ ϊ _ _ _).trans d,⟨_,_,_,jg e _ _ _⟩,⟨_,_,_,_,(kj _ _ _ ϊ _ _ _).trans f⟩⟩
theorem nr.set2 {w:β} {n p:Nat} {a:Option Addr} {c:Nat} {x0 x1 x2 x3:ε} {x:β} (h:nr w n p a c x0 x1 x2 x3 x) (g i j k:ε):nr w n p a c x0 x1 x2 x3 (oc (w.heap.size+1+1) g i j k x):=by
 obtain⟨b,d,⟨_,_,_,e⟩,⟨_,_,_,_,f⟩⟩:=h;exact⟨(nY _ _ _ ϊ _ _ _ _).trans b,(nY _ _ _ ϊ _ _ _ _).trans d,⟨_,_,_,(nY _ _ _ ϊ _ _ _ _).trans e⟩,⟨_,_,_,_,nD f _ _ _ _⟩⟩
theorem RE.rew {w b:β} {n p:Nat} {d:γ} {a:Option Addr} {c:Nat} {x0 x1 x2 x3:ε} (h:RE w b n p d a c x0 x1 x2 x3):nr w n p a c x0 x1 x2 x3 b.drew:=⟨h.r0,h.r3,⟨_,_,_,h.r1⟩,⟨_,_,_,_,h.r2⟩⟩
def FE (w:β) (n p:Nat) (b:γ) (a:Option Addr) (c:Nat) (x0 x1 x2 x3:ε) (X:β):Prop:=
 X.heap[w.heap.size+1]?=J (C #[D a n c,IZ (p:Int),IZ 0] 211 (0,0))/\X.heap[w.heap.size+1+1]?=J (C #[x0,x1,x2,x3] 33 (0,0))/\Below w.heap.size w X/\Hi (w.heap.size+1+1+1+1) X (fun d=>Rd d (D a n c) n 1 (η b))
theorem vk {lo:Nat} {w:β} {R:β->Prop} (h:Hi lo w R) {g:Nat} (hg:g<lo) (x y z u:ε):Hi lo (oc g x y z u w) R:=(lr h hg x y z).set hg u
abbrev BP (w b:β) (n p:Nat) (a:Option Addr) (c:Nat) (x0 x1 x2 x3:ε):β:=oc (w.heap.size+1+1) x0 x1 x2 x3 (set3 (w.heap.size+1) (D a n c) (IZ (p:Int)) (IZ 0) b.drew)
theorem RE.fin {w b:β} {n p:Nat} {d:γ} {a:Option Addr} {c:Nat} {x0 x1 x2 x3:ε} (h:RE w b n p d a c x0 x1 x2 x3):FE w n p d a c x0 x1 x2 x3 (BP w b n p a c x0 x1 x2 x3):=
 ⟨(nY _ _ _ ϊ _ _ _ _).trans (jg (show b.drew.heap[_]?=_ from h.r1) _ _ _),nD ((kj _ _ _ ϊ _ _ _).trans (show b.drew.heap[_]?=_ from h.r2)) _ _ _ _,oF (kL h.bel.drew ϊ _ _ _) ϊ _ _ _ _,vk (lr h.hi.drew ϊ _ _ _) ϊ _ _ _ _⟩
theorem Iy {w b:β} {R:β->Prop} {n p:Nat} {a:Option Addr} {c:Nat} {x0 x1 x2 x3:ε} (h:Hi (w.heap.size+1+1+1+1) b R):Hi (w.heap.size+1+1+1+1) (BP w b n p a c x0 x1 x2 x3) R:=
 vk (lr h.drew ϊ _ _ _) ϊ _ _ _ _
def nA:Ev->Nat
 |.doc _=>0
 |.flush=>1
 |.merge _ _=>2
 |.settle=>3
def zf:Ev->γ
 |.doc d=>Ζ d
 |.flush=>[]
 |.merge i m=>ξ i++ξ m
 |.settle=>[]
theorem Gl (e:Ev):e.bytes=ξ (nA e)++zf e:=by cases e<;>simp[Ev.bytes,nA,zf]
theorem Js (e:Ev):nA e<=3:=by cases e<;>simp[nA]
def FG (n p:Nat) (h:γ) (i:Ev) (w:β) (e:Ending) (w':β):Prop:=
 ∃ (a:Option Addr) (c:Nat) (kd ei em:Int) (b:Option Addr) (f d:Nat),e=ŗ (.tuple #[ā #[D a n c,IZ (p:Int),IZ 0],ā (iL kd ei em b f d)])/\Hi w.heap.size w' (fun g=>Rd g (D a n c) n 1 (η h)/\nm g kd ei em b f d i)/\Below w.heap.size w w'
theorem Jo (y:Ev) (al:y.ok) (aa:Option Addr) (n ad p:Nat) (z pre post:γ) (w:β) (ax:z=pre++(y.bytes++post)) (aD:L pre=p) (aC:L z=n) (am:n<=1000000000) (aX:Rd w (D aa n ad) n 1 (η z)) :
  Calls prog 112 #[ā #[D aa n ad,IZ p,IZ 0]] w (FG n (p+L y.bytes) z y w):=by
 have bb:=Js y;have a0:=Zh (fun aT (a5:BQ w aT)=>ql aa n ad p z pre (zf y++post) (nA y) aT (by rw[ax,Gl,gM]) ϊ aD aC am (aX.below a5));have ao:=Zh ax;have ap:=Zh aC;have aq:=Zh aD;clear aX aC ax aD;go_enter func112,ntmps112;go_upto_region 2 with (fail)
 have ae:=Cb (w:=w) (A:=C #[D aa n ad,IZ p,IZ 0] 211) (Z:=C #[D O 0 0,IZ 0,IZ 0] 211) (Y:=C #[IZ 0,IZ 0,IZ 0,D O 0 0] 33) (X:=C #[IZ 0,IZ 0,IZ 0,D O 0 0] 33);generalize å (å (å (å w (C #[D aa n ad,IZ p,IZ 0] 211)) (C #[D O 0 0,IZ 0,IZ 0] 211)) (C #[IZ 0,IZ 0,IZ 0,D O 0 0] 33)) (C #[IZ 0,IZ 0,IZ 0,D O 0 0] 33)=a3 at *;have ag:RE0 w a3 n p z aa ad (IZ 0) (IZ 0) (IZ 0) (D O 0 0):=⟨ae.1,ae.2.1,ae.2.2.1,ae.2.2.2.1,ae.2.2.2.2⟩;clear ae;obtain⟨⟨M,N,P⟩,-,bf⟩:=Β ag.r0;have a2:=Zh ag;have a6:=ag.bel;have bd:=ο ag.r3;clear ag;go_wp2_with fail
 refine(a0.o _ a6).mono ?_;rintro e an ⟨b1,c1,rfl,aU,a7⟩;have ak:=a2.o.later a7;obtain⟨⟨M,N,P⟩,⟨aF,aG,aH⟩,-⟩:=Β ak.r0;obtain⟨⟨aI,aJ,aK,aL⟩,⟨aO,aP,aQ,aR⟩,-⟩:=Ϫ ak.r3;obtain⟨f,ay⟩:∃ I:Nat,I=p+L (ξ (nA y)):=⟨_,rfl⟩;rw[<-ay];have B:=Zh ((ak.rdr (p':=f) (aU.mono ϊ)).ev0 (IZ (nA y:Int)));have H:=Zh ay;clear ak aU ay;cases y with
 |flush =>
  simp only[nA]at *;go_upto_region 11 with (fail)
  have g:=Zh B.o;generalize(ŝ (ŝ (ŝ (ŝ an ⟨w.heap.size,0,O⟩ (D b1 n c1)) ⟨w.heap.size,1,O⟩ (IZ (f:Int))) ⟨w.heap.size,2,O⟩ (IZ 0)) ⟨w.heap.size+1+1+1,0,O⟩ (IZ 1))=aw at *;refine wI ϋ rfl rfl rfl rfl rfl rfl rfl rfl rfl rfl rfl ϋ ϋ ϋ ϋ ϋ ϋ ϋ (ā #[D b1 n c1,IZ (f:Nat),IZ 0]) (ā #[IZ 1,IZ 0,IZ 0,D O 0 0]) (set3 (w.heap.size+1) (D b1 n c1) (IZ (f:Nat)) (IZ 0)) (oc (w.heap.size+1+1) (IZ 1) (IZ 0) (IZ 0) (D O 0 0))
   (nr w n f b1 c1 (IZ 1) (IZ 0) (IZ 0) (D O 0 0)) g.o.rew (fun x h=>h.set1 _ _ _) ?_ ?_ ?_ ?_ rfl ?_
  .intro x h;obtain⟨⟨j,k,l⟩,-,-⟩:=Β h.1;constructor<;>go_simp
  .intro x h;obtain⟨⟨j,k,l,U⟩,-,-⟩:=Ϫ h.2.1;constructor<;>go_simp
  .intro x h;obtain⟨_,_,_,i⟩:=h.2.2.1;obtain⟨⟨j,k,l⟩,⟨R,S,T⟩,-⟩:=Β i;constructor<;>go_simp
  .intro x h;obtain⟨_,_,_,_,i⟩:=h.2.2.2;obtain⟨⟨j,k,l,U⟩,⟨R,S,T,aE⟩,-⟩:=Ϫ i;go_simp
  have b:=Zh (g.o.fin);clear g;go_wp2;refine ϟ (v:=.tuple #[ā #[D b1 n c1,IZ (f:Nat),IZ 0],ā #[IZ 1,IZ 0,IZ 0,D O 0 0]]) (vT (p:=2) (q:=3) (ty:=211) (ty':=33) rfl _ _ (w.heap.size+1) (w.heap.size+1+1) 211 33 _ _ (0,0) (0,0) _ _ rfl b.o.1 pb rfl ϋ rfl b.o.2.1 underlying33 rfl ϋ) rfl ?_;refine⟨b1,c1,1,0,0,O,0,0,by rw[H.o];rfl,(b.o.2.2.2.mono ϊ).imp fun aM r=>⟨r,rfl⟩,b.o.2.2.1⟩
 |settle =>
  simp only[nA]at *;go_upto_region 11 with (fail)
  have g:=Zh B.o;generalize(ŝ (ŝ (ŝ (ŝ an ⟨w.heap.size,0,O⟩ (D b1 n c1)) ⟨w.heap.size,1,O⟩ (IZ (f:Int))) ⟨w.heap.size,2,O⟩ (IZ 0)) ⟨w.heap.size+1+1+1,0,O⟩ (IZ 3))=aw at *;refine wI ϋ rfl rfl rfl rfl rfl rfl rfl rfl rfl rfl rfl ϋ ϋ ϋ ϋ ϋ ϋ ϋ (ā #[D b1 n c1,IZ (f:Nat),IZ 0]) (ā #[IZ 3,IZ 0,IZ 0,D O 0 0]) (set3 (w.heap.size+1) (D b1 n c1) (IZ (f:Nat)) (IZ 0)) (oc (w.heap.size+1+1) (IZ 3) (IZ 0) (IZ 0) (D O 0 0))
   (nr w n f b1 c1 (IZ 3) (IZ 0) (IZ 0) (D O 0 0)) g.o.rew (fun x h=>h.set1 _ _ _) ?_ ?_ ?_ ?_ rfl ?_
  .intro x h;obtain⟨⟨j,k,l⟩,-,-⟩:=Β h.1;constructor<;>go_simp
  .intro x h;obtain⟨⟨j,k,l,U⟩,-,-⟩:=Ϫ h.2.1;constructor<;>go_simp
  .intro x h;obtain⟨_,_,_,i⟩:=h.2.2.1;obtain⟨⟨j,k,l⟩,⟨R,S,T⟩,-⟩:=Β i;constructor<;>go_simp
  .intro x h;obtain⟨_,_,_,_,i⟩:=h.2.2.2;obtain⟨⟨j,k,l,U⟩,⟨R,S,T,aE⟩,-⟩:=Ϫ i;go_simp
  have b:=Zh (g.o.fin);clear g;go_wp2;refine ϟ (v:=.tuple #[ā #[D b1 n c1,IZ (f:Nat),IZ 0],ā #[IZ 3,IZ 0,IZ 0,D O 0 0]]) (vT (p:=2) (q:=3) (ty:=211) (ty':=33) rfl _ _ (w.heap.size+1) (w.heap.size+1+1) 211 33 _ _ (0,0) (0,0) _ _ rfl b.o.1 pb rfl ϋ rfl b.o.2.1 underlying33 rfl ϋ) rfl ?_;refine⟨b1,c1,3,0,0,O,0,0,by rw[H.o];rfl,(b.o.2.2.2.mono ϊ).imp fun aM r=>⟨r,rfl⟩,b.o.2.2.1⟩
 |doc d =>
  simp only[nA]at *;go_upto_region 5 with (fail)
  generalize(ŝ (ŝ (ŝ (ŝ an ⟨w.heap.size,0,O⟩ (D b1 n c1)) ⟨w.heap.size,1,O⟩ (IZ (f:Int))) ⟨w.heap.size,2,O⟩ (IZ 0)) ⟨w.heap.size+1+1+1,0,O⟩ (IZ 0))=av at *;have K:=B.o;obtain⟨⟨M,N,P⟩,-,-⟩:=Β K.r0;have af:=Zh (uS b1 n c1 f z (pre++ξ 0) post d 2000 av (by rw[ao.o];simp[Ev.bytes]) al (by rw[H.o,ω,aq.o]) ap.o am K.hi.now);clear K;obtain⟨m,Q⟩:∃ I:Nat,I=f+L (Ζ d):=⟨_,rfl⟩;rw[<-Q]at af;have aj:=Zh Q;clear Q;go_wp2_with fail
  refine af.o.mono ?_;rintro e aN ⟨b3,u,rfl,ah,aA⟩;have E:=B.o.later aA;have G:=B.o.r3;have a8:=ο G;obtain⟨⟨M,N,P⟩,⟨aF,aG,aH⟩,-⟩:=Β E.r0;have V:=Zh (E.toRE0.rdr (p':=m) (ah.mono ϊ));clear E ah G;go_upto_region 7 with (fail)
  generalize(ŝ (ŝ (ŝ aN ⟨w.heap.size,0,O⟩ (D b3 n u)) ⟨w.heap.size,1,O⟩ (IZ (m:Int))) ⟨w.heap.size,2,O⟩ (IZ 0))=o at *;obtain⟨dc,a4,bc,aB,ai,be⟩:=qH o d (L d) rfl (by simp only[Ev.ok]at al;omega);have F:=V.o.later aB;obtain⟨⟨aI,aJ,aK,aL⟩,⟨aO,aP,aQ,aR⟩,-⟩:=Ϫ F.r3;have a9:=ο V.o.r3;have ar:=Zh (F.ev3 (D (J ⟨o.heap.size,0,O⟩) (L d) dc));have aY:=Zh ((ai.mono (ϊ:w.heap.size+1+1+1+1<=o.heap.size)).set (p:=⟨w.heap.size+1+1+1,3,O⟩) ϝ (D (J ⟨o.heap.size,0,O⟩) (L d) dc));clear F ai;go_upto_region 11 with (fail)
  have g:=Zh ar.o;generalize(ŝ a4 ⟨w.heap.size+1+1+1,3,O⟩ (D (J ⟨o.heap.size,0,O⟩) (L d) dc))=aw at *;refine wI ϋ rfl rfl rfl rfl rfl rfl rfl rfl rfl rfl rfl ϋ ϋ ϋ ϋ ϋ ϋ ϋ (ā #[D b3 n u,IZ (m:Nat),IZ 0]) (ā #[IZ 0,IZ 0,IZ 0,D (J ⟨o.heap.size,0,O⟩) (L d) dc]) (set3 (w.heap.size+1) (D b3 n u) (IZ (m:Nat)) (IZ 0)) (oc (w.heap.size+1+1) (IZ 0) (IZ 0) (IZ 0) (D (J ⟨o.heap.size,0,O⟩) (L d) dc))
   (nr w n m b3 u (IZ 0) (IZ 0) (IZ 0) (D (J ⟨o.heap.size,0,O⟩) (L d) dc)) g.o.rew (fun x h=>h.set1 _ _ _) ?_ ?_ ?_ ?_ rfl ?_
  .intro x h;obtain⟨⟨j,k,l⟩,-,-⟩:=Β h.1;constructor<;>go_simp
  .intro x h;obtain⟨⟨j,k,l,U⟩,-,-⟩:=Ϫ h.2.1;constructor<;>go_simp
  .intro x h;obtain⟨_,_,_,i⟩:=h.2.2.1;obtain⟨⟨j,k,l⟩,⟨R,S,T⟩,-⟩:=Β i;constructor<;>go_simp
  .intro x h;obtain⟨_,_,_,_,i⟩:=h.2.2.2;obtain⟨⟨j,k,l,U⟩,⟨R,S,T,aE⟩,-⟩:=Ϫ i;go_simp
  have b:=Zh (g.o.fin);have aZ:=Zh (Iy (n:=n) (p:=m) (a:=b3) (c:=u) (x0:=IZ 0) (x1:=IZ 0) (x2:=IZ 0) (x3:=D (J ⟨o.heap.size,0,O⟩) (L d) dc) aY.o);clear g;go_wp2;refine ϟ (v:=.tuple #[ā #[D b3 n u,IZ (m:Nat),IZ 0],ā #[IZ 0,IZ 0,IZ 0,D (J ⟨o.heap.size,0,O⟩) (L d) dc]]) (vT (p:=2) (q:=3) (ty:=211) (ty':=33) rfl _ _ (w.heap.size+1) (w.heap.size+1+1) 211 33 _ _ (0,0) (0,0) _ _ rfl b.o.1 pb rfl ϋ rfl b.o.2.1 underlying33 rfl ϋ) rfl ?_;refine⟨b3,u,0,0,0,_,L d,dc,by rw[aj.o,H.o];simp[Ev.bytes,iW],((b.o.2.2.2.and aZ.o).mono ϊ).imp fun aM r=>⟨r.1,rfl,rfl,r.2⟩,b.o.2.2.1⟩
 |merge s t =>
  simp only[nA]at *;have aV:s<=4611686018427387904:=al.1;have aW:t<=4611686018427387904:=al.2;go_upto_region 9 with (fail)
  generalize(ŝ (ŝ (ŝ (ŝ an ⟨w.heap.size,0,O⟩ (D b1 n c1)) ⟨w.heap.size,1,O⟩ (IZ (f:Int))) ⟨w.heap.size,2,O⟩ (IZ 0)) ⟨w.heap.size+1+1+1,0,O⟩ (IZ 2))=av at *;have K:=B.o;obtain⟨⟨M,N,P⟩,-,-⟩:=Β K.r0;have af:=Zh (ql b1 n c1 f z (pre++ξ 2) (ξ t++post) s av (by rw[ao.o];simp[Ev.bytes]) aV (by rw[H.o,ω,aq.o]) ap.o am K.hi.now);clear K;obtain⟨m,Q⟩:∃ I:Nat,I=f+L (ξ s):=⟨_,rfl⟩;rw[<-Q]at af;have aj:=Zh Q;clear Q;go_wp2_with fail
  refine af.o.mono ?_;rintro e aN ⟨b3,u,rfl,ah,aA⟩;have E:=B.o.later aA;have G:=B.o.r3;have a8:=ο G;obtain⟨⟨M,N,P⟩,⟨aF,aG,aH⟩,-⟩:=Β E.r0;obtain⟨⟨aI,aJ,aK,aL⟩,⟨aO,aP,aQ,aR⟩,-⟩:=Ϫ E.r3;have V:=Zh ((E.toRE0.rdr (p':=m) (ah.mono ϊ)).ev1 (IZ (s:Int)));clear E ah G;go_upto_region 10 with (fail)
  generalize(ŝ (ŝ (ŝ (ŝ aN ⟨w.heap.size,0,O⟩ (D b3 n u)) ⟨w.heap.size,1,O⟩ (IZ (m:Int))) ⟨w.heap.size,2,O⟩ (IZ 0)) ⟨w.heap.size+1+1+1,1,O⟩ (IZ (s:Int)))=o at *;have au:=V.o;obtain⟨⟨M,N,P⟩,-,-⟩:=Β au.r0;have aS:=Zh (ql b3 n u m z (pre++(ξ 2++ξ s)) post t o (by rw[ao.o];simp[Ev.bytes]) aW (by rw[aj.o,H.o,ω,aq.o,ω,iW]) ap.o am au.hi.now);clear au;obtain⟨W,az⟩:∃ I:Nat,I=m+L (ξ t):=⟨_,rfl⟩;rw[<-az]at aS;have a1:=Zh az;clear az;go_wp2_with fail
  refine aS.o.mono ?_;rintro e ba ⟨ab,ac,rfl,ai,aB⟩;have F:=V.o.later aB;have G:=V.o.r3;have a9:=ο G;obtain⟨⟨M,N,P⟩,⟨aF,aG,aH⟩,-⟩:=Β F.r0;obtain⟨⟨aI,aJ,aK,aL⟩,⟨aO,aP,aQ,aR⟩,-⟩:=Ϫ F.r3;have ar:=Zh ((F.toRE0.rdr (p':=W) (ai.mono ϊ)).ev2 (IZ (t:Int)));clear F ai G;go_upto_region 11 with (fail)
  have g:=Zh ar.o;generalize(ŝ (ŝ (ŝ (ŝ ba ⟨w.heap.size,0,O⟩ (D ab n ac)) ⟨w.heap.size,1,O⟩ (IZ (W:Int))) ⟨w.heap.size,2,O⟩ (IZ 0)) ⟨w.heap.size+1+1+1,2,O⟩ (IZ (t:Int)))=aw at *;refine wI ϋ rfl rfl rfl rfl rfl rfl rfl rfl rfl rfl rfl ϋ ϋ ϋ ϋ ϋ ϋ ϋ (ā #[D ab n ac,IZ (W:Nat),IZ 0]) (ā #[IZ 2,IZ (s:Int),IZ (t:Int),D O 0 0]) (set3 (w.heap.size+1) (D ab n ac) (IZ (W:Nat)) (IZ 0)) (oc (w.heap.size+1+1) (IZ 2) (IZ (s:Int)) (IZ (t:Int)) (D O 0 0))
   (nr w n W ab ac (IZ 2) (IZ (s:Int)) (IZ (t:Int)) (D O 0 0)) g.o.rew (fun x h=>h.set1 _ _ _) ?_ ?_ ?_ ?_ rfl ?_
  .intro x h;obtain⟨⟨j,k,l⟩,-,-⟩:=Β h.1;constructor<;>go_simp
  .intro x h;obtain⟨⟨j,k,l,U⟩,-,-⟩:=Ϫ h.2.1;constructor<;>go_simp
  .intro x h;obtain⟨_,_,_,i⟩:=h.2.2.1;obtain⟨⟨j,k,l⟩,⟨R,S,T⟩,-⟩:=Β i;constructor<;>go_simp
  .intro x h;obtain⟨_,_,_,_,i⟩:=h.2.2.2;obtain⟨⟨j,k,l,U⟩,⟨R,S,T,aE⟩,-⟩:=Ϫ i;go_simp
  have b:=Zh (g.o.fin);clear g;go_wp2;refine ϟ (v:=.tuple #[ā #[D ab n ac,IZ (W:Nat),IZ 0],ā #[IZ 2,IZ (s:Int),IZ (t:Int),D O 0 0]]) (vT (p:=2) (q:=3) (ty:=211) (ty':=33) rfl _ _ (w.heap.size+1) (w.heap.size+1+1) 211 33 _ _ (0,0) (0,0) _ _ rfl b.o.1 pb rfl ϋ rfl b.o.2.1 underlying33 rfl ϋ) rfl ?_;refine⟨ab,ac,2,s,t,O,0,0,by rw[a1.o,aj.o,H.o];simp[Ev.bytes,iW],(b.o.2.2.2.mono ϊ).imp fun aM r=>⟨r,rfl,rfl,rfl,aV,aW⟩,b.o.2.2.1⟩
