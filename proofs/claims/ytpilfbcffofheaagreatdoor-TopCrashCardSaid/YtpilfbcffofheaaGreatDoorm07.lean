/- Part 7 of the proof. -/
import Derived.Test.YtpilfbcffofheaaGreatDoorm03
import Derived.Test.YtpilfbcffofheaaGreatDoorm04
set_option linter.unusedVariables false
set_option linter.unusedSimpArgs false
set_option maxRecDepth 100000
set_option maxHeartbeats 4000000
namespace Go.Proofs.YtpilfbcffofheaaGreatDoor
open Go.Proofs.Tryz Go.RowKit
open Value renaming int->ĭ,slice->D,agg->ā
open Obj renaming cells->C
open Option renaming some->J,none->O
open List renaming length->L
open Ending renaming returned->ŗ
open World renaming alloc->å,setCell->ŝ
def mM (w:β) (g m:Nat) (T:TypeId) (f:Nat->Int):Prop:= ∃ a:Array ε,w.heap[g]?=J (C a T (0,0))/\a.size=m/\∀ b,b<m->a[b]?=J (ĭ .u32 (f b))
theorem mM.cell {w:β} {g m:Nat} {T:TypeId} {f:Nat->Int} (h:mM w g m T f) {i:Nat} (hi:i<m):w.cell? ⟨g,i,O⟩=J (ĭ .u32 (f i))/\w.frozen? ⟨g,i,O⟩=false/\g<w.heap.size:=by
 obtain⟨c,a,d,b⟩:=h;exact⟨by rw[ν _ _ _ _ _ _ a];exact b i hi,ϥ _ _ _ _ _ a,ο a⟩
theorem mM.same {w w':β} {g m:Nat} {T:TypeId} {f:Nat->Int} (h:mM w g m T f) (e:w'.heap[g]?=w.heap[g]?):mM w' g m T f:=by
 obtain⟨a,b,c,d⟩:=h;exact⟨a,by rw[e];exact b,c,d⟩
theorem mM.set {w:β} {g m:Nat} {T:TypeId} {f q:Nat->Int} (h:mM w g m T f) (j:Nat) (x:Int) (n:x=q j) (l:∀ i,i<m->i≠j->f i=q i):mM (ŝ w ⟨g,j,O⟩ (ĭ .u32 x)) g m T q:=by
 obtain⟨b,d,a,k⟩:=h;refine⟨_,π w g j b _ _ d,by simpa using a,fun i hi=>?_⟩;by_cases e:i=j
 .subst e
  simp[a,hi,n]
 .rw[Array.getElem?_setIfInBounds_ne (fun c=>e c.symm),<-l i hi e]
  exact k i hi
theorem CD {w:β} {b o a:Nat} {x y:ε} (h:w.cell? ⟨b,a,O⟩=J y) (c:o≠a):(ŝ w ⟨b,o,O⟩ x).cell? ⟨b,a,O⟩=J y:=
 (World.cell?_setCell_other w _ _ x (fun e=>c (by injection e))).trans h
def sh (a b c d:Int):Int:=bits BinOp.or IntKind.u32 (bits BinOp.or IntKind.u32 (bits BinOp.or IntKind.u32 (a*16777216) (b*65536)) (c*256)) d
def JO (x:Int):Int:=bits BinOp.xor IntKind.u32 (bits BinOp.xor IntKind.u32 (gI 33554432 128 x) (gI 16384 262144 x)) (x / 8)
def Iz (x:Int):Int:=bits BinOp.xor IntKind.u32 (bits BinOp.xor IntKind.u32 (gI 32768 131072 x) (gI 8192 524288 x)) (x / 1024)
def vB (a b c d:Int):Int:=(a+JO b+c+Iz d) % 4294967296
structure S8 where
 (a b c d e f g h:Int)
def zx (e:Int):Int:=bits BinOp.xor IntKind.u32 (bits BinOp.xor IntKind.u32 (gI 67108864 64 e) (gI 2097152 2048 e)) (gI 128 33554432 e)
def xM (e f g:Int):Int:=bits BinOp.xor IntKind.u32 (bits BinOp.and IntKind.u32 e f) (bits BinOp.and IntKind.u32 (bits BinOp.xor IntKind.u32 IntKind.u32.max e) g)
def Nh (a:Int):Int:=bits BinOp.xor IntKind.u32 (bits BinOp.xor IntKind.u32 (gI 1073741824 4 a) (gI 524288 8192 a)) (gI 1024 4194304 a)
def JR (a b c:Int):Int:=bits BinOp.xor IntKind.u32 (bits BinOp.xor IntKind.u32 (bits BinOp.and IntKind.u32 a b) (bits BinOp.and IntKind.u32 a c)) (bits BinOp.and IntKind.u32 b c)
def vE (k w:Int) (s:S8):Int:=(s.h+zx s.e+xM s.e s.f s.g+k+w) % 4294967296
def rP (k w:Int) (s:S8):S8:=⟨(vE k w s+(Nh s.a+JR s.a s.b s.c) % 4294967296) % 4294967296,s.a,s.b,s.c,(s.d+vE k w s) % 4294967296,s.e,s.f,s.g⟩
structure S8.ok (s:S8):Prop where
 a:kc s.a
 b:kc s.b
 c:kc s.c
 d:kc s.d
 e:kc s.e
 f:kc s.f
 g:kc s.g
 h:kc s.h
theorem nG (x:Int):kc (x % 4294967296):=by unfold kc;omega
theorem S8.ok.rnd {s:S8} (h:s.ok) (k w:Int):(rP k w s).ok:=⟨nG _,h.a,h.b,h.c,nG _,h.e,h.f,h.g⟩
def kM (p:γ) (j:Nat):Int:=((p.getD j 0).toNat:Int)
def nc (p:γ) (k i:Nat):Int:=if i<k then sh (kM p (4*i)) (kM p (4*i+1)) (kM p (4*i+2)) (kM p (4*i+3))else 0
def iu (p:γ):Nat->Nat->Int
 |0,i=>nc p 16 i
 |n+1,i=>if i=n+16 then vB (iu p n n) (iu p n (n+1)) (iu p n (n+9)) (iu p n (n+14))else iu p n i
theorem Ki (a b c d:Int):kc (vB a b c d):=by unfold vB kc;omega
theorem NO (p:γ) (k i:Nat):kc (nc p k i):=by
 unfold nc;split
 .exact sX _ _ _ (.inr (.inl rfl))
 .unfold kc;omega
theorem rT (p:γ):∀ n i,kc (iu p n i)
 |0,i=>NO p 16 i
 |n+1,i=>by
  unfold iu;split
  .exact Ki _ _ _ _
  .exact rT p n i
def rZ (s:S8) (p:γ):Nat->S8
 |0=>s
 |n+1=>rP (qG n) (iu p 48 n) (rZ s p n)
theorem S8.ok.st {s:S8} (h:s.ok) (p:γ):∀ n,(rZ s p n).ok
 |0=>h
 |n+1=>(h.st p n).rnd _ _
def xB (s r:S8):S8:=⟨(s.a+r.a) % 4294967296,(s.b+r.b) % 4294967296,(s.c+r.c) % 4294967296,(s.d+r.d) % 4294967296,(s.e+r.e) % 4294967296,(s.f+r.f) % 4294967296,(s.g+r.g) % 4294967296,(s.h+r.h) % 4294967296⟩
theorem Ar (s r:S8):(xB s r).ok:=⟨nG _,nG _,nG _,nG _,nG _,nG _,nG _,nG _⟩
def oG (s:S8) (p:γ):S8:=xB s (rZ s p 64)
def S8.cells (s:S8):Array ε:= #[ĭ .u32 s.a,ĭ .u32 s.b,ĭ .u32 s.c,ĭ .u32 s.d,ĭ .u32 s.e,ĭ .u32 s.f,ĭ .u32 s.g,ĭ .u32 s.h]
theorem uM (p:γ) (j:Nat):0<=kM p j/\kM p j<=255:=by
 have h:=(p.getD j 0).toNat_lt;unfold kM;omega
theorem Gj {w:β} {c off e:Nat} {p:γ} (o:L p=64) (h:Rd w (D (J ⟨c,off,O⟩) 64 e) 64 1 (η p)) (j:Nat) (m:j<64):w.cell? ⟨c,off+j,O⟩=J (ĭ .u8 (kM p j)):=by
 obtain⟨-,-,⟨i,d,a,f⟩|⟨k,q,d,a,f,n,l,g⟩⟩:=h
 .omega
 .simp only[Ξ,Ο,Addr.mk.injEq,hR,Ϯ]at a
  obtain⟨⟨rfl,rfl⟩,rfl⟩:=a;refine g j _ ?_;unfold kM;have b:j<L p:=ϊ;rw[fR,Ρ b];simp[η,b,ch]
theorem Ov (w:β) (T:TypeId) (a:Array ε) (h:a=Array.replicate 64 (Value.int .u32 0)):mM (å w (C a T)) w.heap.size 64 T (fun _=>0):=by
 subst h;exact⟨_,χ w _,ύ,fun b hi=>by simp[hi]⟩
theorem MH (r t u x y z A B:Int) (am:(S8.mk r t u x y z A B).ok) (ad off a8:Nat) (p:γ) (w:β) (bj:L p=64) (bk:Rd w (D (J ⟨ad,off,O⟩) 64 a8) 64 1 (η p)) (aW:Ϡ w) :
  Calls prog 311 #[ā #[ĭ .u32 r,ĭ .u32 t,ĭ .u32 u,ĭ .u32 x,ĭ .u32 y,ĭ .u32 z,ĭ .u32 A,ĭ .u32 B],D (J ⟨ad,off,O⟩) 64 a8] w fun e w'=>e=ŗ (ā (oG ⟨r,t,u,x,y,z,A,B⟩ p).cells)/\BQ w w':=by
 have da:prog.follows .mixedOrders=true:=ϋ;have ao:=Zh (fun m bf=>Gj bj bk m bf);have bQ:=Zh (fun k (hi:k<64)=>aW.rcell hi);have cC:4<w.heap.size:=ib w _ (aW.rcell (i:=0) ϊ);have bL:=Zh (am.st p);have bK:=Zh am;clear bj bk aW am;go_enter func311,ntmps311;go_wp2_with fail
 have aS:BQ w (å w (C #[ĭ .u32 r,ĭ .u32 t,ĭ .u32 u,ĭ .u32 x,ĭ .u32 y,ĭ .u32 z,ĭ .u32 A,ĭ .u32 B] 315)):=ġ;have bh:=χ w (C #[ĭ .u32 r,ĭ .u32 t,ĭ .u32 u,ĭ .u32 x,ĭ .u32 y,ĭ .u32 z,ĭ .u32 A,ĭ .u32 B] 315);have aV:(å w (C #[ĭ .u32 r,ĭ .u32 t,ĭ .u32 u,ĭ .u32 x,ĭ .u32 y,ĭ .u32 z,ĭ .u32 A,ĭ .u32 B] 315)).heap.size=w.heap.size+1:=ύ;generalize(å w (C #[ĭ .u32 r,ĭ .u32 t,ĭ .u32 u,ĭ .u32 x,ĭ .u32 y,ĭ .u32 z,ĭ .u32 A,ĭ .u32 B] 315))=ap at *;have aT:BQ ap (å ap (C #[ĭ .u32 0,ĭ .u32 0,ĭ .u32 0,ĭ .u32 0,ĭ .u32 0,ĭ .u32 0,ĭ .u32 0,ĭ .u32 0] 315)):=ġ;have bl:(å ap (C #[ĭ .u32 0,ĭ .u32 0,ĭ .u32 0,ĭ .u32 0,ĭ .u32 0,ĭ .u32 0,ĭ .u32 0,ĭ .u32 0] 315)).heap.size=w.heap.size+1+1:=by simp[aV]
 have bi:=χ ap (C #[ĭ .u32 0,ĭ .u32 0,ĭ .u32 0,ĭ .u32 0,ĭ .u32 0,ĭ .u32 0,ĭ .u32 0,ĭ .u32 0] 315);generalize(å ap (C #[ĭ .u32 0,ĭ .u32 0,ĭ .u32 0,ĭ .u32 0,ĭ .u32 0,ĭ .u32 0,ĭ .u32 0,ĭ .u32 0] 315))=aq at *;have aR:=Ov aq 418 _ rfl;simp only[Array.replicate_succ,Array.replicate_zero,List.push_toArray,jy,kq]at aR;have aA:BQ aq (å aq (C #[ĭ .u32 0,ĭ .u32 0,ĭ .u32 0,ĭ .u32 0,ĭ .u32 0,ĭ .u32 0,ĭ .u32 0,ĭ .u32 0,ĭ .u32 0,ĭ .u32 0,ĭ .u32 0,ĭ .u32 0,ĭ .u32 0,ĭ .u32 0,ĭ .u32 0,ĭ .u32 0,ĭ .u32 0,ĭ .u32 0,ĭ .u32 0,ĭ .u32 0,ĭ .u32 0,ĭ .u32 0,ĭ .u32 0,ĭ .u32 0,ĭ .u32 0,ĭ .u32 0,ĭ .u32 0,ĭ .u32 0,ĭ .u32 0,ĭ .u32 0,ĭ .u32 0,ĭ .u32 0,ĭ .u32 0,ĭ .u32 0,ĭ .u32 0,ĭ .u32 0,ĭ .u32 0,ĭ .u32 0,ĭ .u32 0,ĭ .u32 0,ĭ .u32 0,ĭ .u32 0,ĭ .u32 0,ĭ .u32 0,ĭ .u32 0,ĭ .u32 0,ĭ .u32 0,ĭ .u32 0,ĭ .u32 0,ĭ .u32 0,ĭ .u32 0,ĭ .u32 0,ĭ .u32 0,ĭ .u32 0,ĭ .u32 0,ĭ .u32 0,ĭ .u32 0,ĭ .u32 0,ĭ .u32 0,ĭ .u32 0,ĭ .u32 0,ĭ .u32 0,ĭ .u32 0,ĭ .u32 0] 418)):=ġ;generalize(å aq (C #[ĭ .u32 0,ĭ .u32 0,ĭ .u32 0,ĭ .u32 0,ĭ .u32 0,ĭ .u32 0,ĭ .u32 0,ĭ .u32 0,ĭ .u32 0,ĭ .u32 0,ĭ .u32 0,ĭ .u32 0,ĭ .u32 0,ĭ .u32 0,ĭ .u32 0,ĭ .u32 0,ĭ .u32 0,ĭ .u32 0,ĭ .u32 0,ĭ .u32 0,ĭ .u32 0,ĭ .u32 0,ĭ .u32 0,ĭ .u32 0,ĭ .u32 0,ĭ .u32 0,ĭ .u32 0,ĭ .u32 0,ĭ .u32 0,ĭ .u32 0,ĭ .u32 0,ĭ .u32 0,ĭ .u32 0,ĭ .u32 0,ĭ .u32 0,ĭ .u32 0,ĭ .u32 0,ĭ .u32 0,ĭ .u32 0,ĭ .u32 0,ĭ .u32 0,ĭ .u32 0,ĭ .u32 0,ĭ .u32 0,ĭ .u32 0,ĭ .u32 0,ĭ .u32 0,ĭ .u32 0,ĭ .u32 0,ĭ .u32 0,ĭ .u32 0,ĭ .u32 0,ĭ .u32 0,ĭ .u32 0,ĭ .u32 0,ĭ .u32 0,ĭ .u32 0,ĭ .u32 0,ĭ .u32 0,ĭ .u32 0,ĭ .u32 0,ĭ .u32 0,ĭ .u32 0,ĭ .u32 0] 418))=X at *;have bS:Hid (mM X (w.heap.size+1+1) 64 418 (nc p 0)):=by
  obtain⟨bT,aE,a2,a3⟩:=aR;rw[bl]at aE;exact⟨bT,aE,a2,fun k hi=>by rw[a3 k hi];simp[nc]⟩
 have aQ:=aS.trans (aT.mono aS.size);have bW:=aQ.trans (aA.mono aQ.size);have b4:w.heap.size+1<aq.heap.size:=ϊ;have bJ:Hid (X.heap[w.heap.size+1]?=J (C #[ĭ .u32 0,ĭ .u32 0,ĭ .u32 0,ĭ .u32 0,ĭ .u32 0,ĭ .u32 0,ĭ .u32 0,ĭ .u32 0] 315 (0,0))):=by
  show _=_;rw[aA.block _ ϊ,<-aV];exact bi
 have bI:Hid (X.heap[w.heap.size]?=J (C #[ĭ .u32 r,ĭ .u32 t,ĭ .u32 u,ĭ .u32 x,ĭ .u32 y,ĭ .u32 z,ĭ .u32 A,ĭ .u32 B] 315 (0,0))):=by
  show _=_;rw[aA.block _ ϊ,aT.block _ ϊ];exact bh
 clear aR bi aT aS bh aV bl aQ aA b4;go_loopw [26] (fun k wr=>∃ j:Nat,j<=16/\k=IZ j/\Hid (mM wr (w.heap.size+1+1) 64 418 (nc p j))/\BQ w wr/\Below (w.heap.size+1+1) X wr) (fun k _=>16 - (intOf k).toNat)
 case atStart=>exact⟨0,ϊ,rfl,bS.o,bW,φ _ _⟩
 case round =>
  obtain⟨j,bY,rfl,HW,I,W⟩:=hrel;by_cases aU:j<16
  .have b7:(j:Int)<16:=ϊ
   have c8:(0:Int)<=(j:Int):=ϊ;have b0:=ζ I (ao.o (4*j) ϊ);have b1:=ζ I (ao.o (4*j+1) ϊ);have b2:=ζ I (ao.o (4*j+2) ϊ);have b3:=ζ I (ao.o (4*j+3) ϊ);obtain⟨aL,cZ,c4⟩:=HW.o.cell (i:=j) ϊ;have bm:(0:Int)<=4*(j:Int):=ϊ;have bn:4*(j:Int)<64:=ϊ;have bo:4*(j:Int)+1<64:=ϊ;have bp:4*(j:Int)+2<64:=ϊ;have bq:4*(j:Int)+3<64:=ϊ;have br:(0:Int)<=4*(j:Int)+1:=ϊ;have bs:(0:Int)<=4*(j:Int)+2:=ϊ;have bt:(0:Int)<=4*(j:Int)+3:=ϊ;have c9:(j:Int)<64:=ϊ;have bu:(4*(j:Int)).toNat=4*j:=ϊ;have cb:(4*(j:Int)+1).toNat=4*j+1:=ϊ;have cc:(4*(j:Int)+2).toNat=4*j+2:=ϊ;have n3:(4*(j:Int)+3).toNat=4*j+3:=ϊ;have aX:IntKind.i64.wrap (4*(j:Int))=4*(j:Int):=Ϗ;have aY:IntKind.i64.wrap (4*(j:Int)+1)=4*(j:Int)+1:=Ϗ;have aZ:IntKind.i64.wrap (4*(j:Int)+2)=4*(j:Int)+2:=Ϗ;have a0:IntKind.i64.wrap (4*(j:Int)+3)=4*(j:Int)+3:=Ϗ;have bR:Hid (sh (kM p (4*j)) (kM p (4*j+1)) (kM p (4*j+2)) (kM p (4*j+3))=nc p (j+1) j):=by show _=_;simp[nc]
   have aH:Hid (∀ k,k<64->k≠j->nc p j k=nc p (j+1) k):=fun k _ hi=>by unfold nc;by_cases h:k<j<;>simp[h,show k<j+1↔k<j from ϊ]
   have aM:=uM p (4*j);have aN:=uM p (4*j+1);have aO:=uM p (4*j+2);have aP:=uM p (4*j+3);generalize kM p (4*j)=ai at *;generalize kM p (4*j+1)=aj at *;generalize kM p (4*j+2)=ak at *;generalize kM p (4*j+3)=al at *;generalize nc p j j=bA at *;obtain⟨aM,cL⟩:=aM;obtain⟨aN,cM⟩:=aN;obtain⟨aO,cN⟩:=aO;obtain⟨aP,cO⟩:=aP;go_wp2_with fail
   have c6:w.heap.size+1+1≠ad:=by have:=ib w _ (ao.o 0 ϊ);simp only at this;omega
   clear aX aY aZ a0 bm bn bo bp bq br bs bt;have aX:IntKind.i64.wrap (4*(j:Int))=4*(j:Int):=Ϗ;have aY:IntKind.i64.wrap (4*(j:Int)+1)=4*(j:Int)+1:=Ϗ;have aZ:IntKind.i64.wrap (4*(j:Int)+2)=4*(j:Int)+2:=Ϗ;have a0:IntKind.i64.wrap (4*(j:Int)+3)=4*(j:Int)+3:=Ϗ;have bm:(0:Int)<=4*(j:Int):=ϊ;have bn:4*(j:Int)<64:=ϊ;have bo:4*(j:Int)+1<64:=ϊ;have bp:4*(j:Int)+2<64:=ϊ;have bq:4*(j:Int)+3<64:=ϊ;have br:(0:Int)<=4*(j:Int)+1:=ϊ;have bs:(0:Int)<=4*(j:Int)+2:=ϊ;have bt:(0:Int)<=4*(j:Int)+3:=ϊ;go_region_held3 (fun l=>l.cell? ⟨ad,off+4*j,O⟩=J (ĭ .u8 ai)/\l.cell? ⟨ad,off+(4*j+1),O⟩=J (ĭ .u8 aj)/\l.cell? ⟨ad,off+(4*j+2),O⟩=J (ĭ .u8 ak)/\l.cell? ⟨ad,off+(4*j+3),O⟩=J (ĭ .u8 al)) (first|exact⟨b0,b1,b2,b3⟩|assumption|go_keep) (fail)
   clear aX aY aZ a0 b0 b1 b2 b3 bu cb cc n3;have av:=Zh (HW.o.set j (sh ai aj ak al) bR.o aH.o);have ar:BQ w (ŝ wr.drew ⟨w.heap.size+1+1,j,O⟩ (ĭ .u32 (sh ai aj ak al))):=I.drew.setCell ό _;have au:Below (w.heap.size+1+1) X (ŝ wr.drew ⟨w.heap.size+1+1,j,O⟩ (ĭ .u32 (sh ai aj ak al))):=W.drew.setCell ύ _;unfold sh at av ar au;go_wp2;go_roundw;case rel=>exact⟨j+1,ϊ,ϕ,av.o,ar,au⟩
   case measure=>simp[intOf];omega
  .have bZ:j=16:=ϊ
   have b7:¬(j:Int)<16:=ϊ;subst bZ;clear aU bY;go_wp2_with fail
   go_loopw [7] (fun k wr=>∃ n:Nat,n<=48/\k=IZ ((n:Int)+16)/\Hid (mM wr (w.heap.size+1+1) 64 418 (iu p n))/\BQ w wr/\Below (w.heap.size+1+1) X wr) (fun k _=>64 - (intOf k).toNat)
   case atStart=>exact⟨0,ϊ,rfl,HW,I,W⟩
   case round =>
    clear HW I W;obtain⟨n,b6,rfl,HW,I,W⟩:=hrel;by_cases aU:n<48
    .have b9:(n:Int)+16<64:=ϊ
     have bu:(0:Int)<=(n:Int):=ϊ;have aJ:=(HW.o.cell (i:=n) ϊ).1;have a6:=(HW.o.cell (i:=n+1) ϊ).1;have aK:=(HW.o.cell (i:=n+9) ϊ).1;have a7:=(HW.o.cell (i:=n+14) ϊ).1;obtain⟨cE,cY,c3⟩:=HW.o.cell (i:=n+16) ϊ;obtain⟨dh,di⟩:=rT p n n;obtain⟨bB,bC⟩:=rT p n (n+1);obtain⟨dj,dk⟩:=rT p n (n+9);obtain⟨bD,bE⟩:=rT p n (n+14);have a5:Hid (vB (iu p n n) (iu p n (n+1)) (iu p n (n+9)) (iu p n (n+14))=iu p (n+1) (n+16)):=by show _=_;simp[iu]
     have aH:Hid (∀ k,k<64->k≠n+16->iu p n k=iu p (n+1) k):=fun k _ hi=>by simp[iu,hi]
     generalize iu p n n=K at *;generalize iu p n (n+1)=P at *;generalize iu p n (n+9)=V at *;generalize iu p n (n+14)=Q at *;generalize iu p n (n+16)=dg at *;have bv:IntKind.i64.wrap ((n:Int)+16 - 15)=(n:Int)+1:=Ϗ;have bw:IntKind.i64.wrap ((n:Int)+16 - 2)=(n:Int)+14:=Ϗ;have cr:IntKind.i64.wrap ((n:Int)+16 - 16)=(n:Int):=Ϗ;have cs:IntKind.i64.wrap ((n:Int)+16 - 7)=(n:Int)+9:=Ϗ;have bx:((n:Int)+1).toNat=n+1:=ϊ;have bz:((n:Int)+14).toNat=n+14:=ϊ;have cu:((n:Int)+9).toNat=n+9:=ϊ;have cv:((n:Int)+16).toNat=n+16:=ϊ;have ai:(0:Int)<=(n:Int)+1:=ϊ;have aj:(0:Int)<=(n:Int)+14:=ϊ;have ak:(0:Int)<=(n:Int)+9:=ϊ;have al:(0:Int)<=(n:Int)+16:=ϊ;have dc:(n:Int)+1<64:=ϊ;have dd:(n:Int)+14<64:=ϊ;have de:(n:Int)+9<64:=ϊ;have df:(n:Int)<64:=ϊ;go_wp2_with fail
     go_region_held3 (fun l=>l.cell? ⟨w.heap.size+1+1,n+1,O⟩=J (ĭ .u32 P)/\l.cell? ⟨w.heap.size+1+1,n+14,O⟩=J (ĭ .u32 Q)) (first|exact⟨a6,a7⟩|assumption|go_keep) (fail)
     go_wp2_with (first
      |(go_at_call 332;(with_reducible refine(Ma _ _ bB bC).mono ?_);rintro e w' ⟨rfl,rfl⟩)
      |(go_at_call 332;(with_reducible refine(LU _ _ bB bC).mono ?_);rintro e w' ⟨rfl,rfl⟩)
      |(go_at_call 332;(with_reducible refine(LS _ _ bD bE).mono ?_);rintro e w' ⟨rfl,rfl⟩)
      |(go_at_call 332;(with_reducible refine(LV _ _ bD bE).mono ?_);rintro e w' ⟨rfl,rfl⟩))
     obtain⟨ca,l1⟩:=sX .xor (bits BinOp.xor IntKind.u32 (gI 33554432 128 P) (gI 16384 262144 P)) (P / 8) (.inr (.inr (.inl rfl)));obtain⟨aw,ax⟩:=sX .xor (bits BinOp.xor IntKind.u32 (gI 32768 131072 Q) (gI 8192 524288 Q)) (Q / 1024) (.inr (.inr (.inl rfl)));change Hid ((K+bits BinOp.xor IntKind.u32 (bits BinOp.xor IntKind.u32 (gI 33554432 128 P) (gI 16384 262144 P)) (P / 8)+V+bits BinOp.xor IntKind.u32 (bits BinOp.xor IntKind.u32 (gI 32768 131072 Q) (gI 8192 524288 Q)) (Q / 1024)) % 4294967296=iu p (n+1) (n+16))at a5;generalize bits BinOp.xor IntKind.u32 (bits BinOp.xor IntKind.u32 (gI 33554432 128 P) (gI 16384 262144 P)) (P / 8)=R at *;generalize bits BinOp.xor IntKind.u32 (bits BinOp.xor IntKind.u32 (gI 32768 131072 Q) (gI 8192 524288 Q)) (Q / 1024)=an at *;have av:=Zh (HW.o.set (n+16) ((K+R+V+an) % 4294967296) a5.o aH.o);have ar:BQ w (ŝ wr ⟨w.heap.size+1+1,n+16,O⟩ (ĭ .u32 ((K+R+V+an) % 4294967296))):=I.setCell ό _;have ct:IntKind.i64.wrap (n:Int)=(n:Int):=Ϗ;have au:Below (w.heap.size+1+1) X (ŝ wr ⟨w.heap.size+1+1,n+16,O⟩ (ĭ .u32 ((K+R+V+an) % 4294967296))):=W.setCell ύ _;have r1:IntKind.u32.wrap (K+R)=(K+R) % 4294967296:=by rw[pU]
     have r2:IntKind.u32.wrap ((K+R) % 4294967296+V)=(K+R+V) % 4294967296:=by rw[pU];omega
     have r3:IntKind.u32.wrap ((K+R+V) % 4294967296+an)=(K+R+V+an) % 4294967296:=by rw[pU];omega
     go_region_held3 (fun l=>l.cell? ⟨w.heap.size+1+1,n,O⟩=J (ĭ .u32 K)/\l.cell? ⟨w.heap.size+1+1,n+9,O⟩=J (ĭ .u32 V)) (first|exact⟨aJ,aK⟩|assumption|exact⟨CD aJ ϊ,CD aK ϊ⟩) (fail)
     clear r1 r2 r3 ct bv bw cr cs bx bz cu cv aJ a6 aK a7;go_wp2;go_roundw;case rel=>exact⟨n+1,ϊ,ϕ,av.o,ar.drew.drew,au.drew.drew⟩
     case measure=>simp[intOf];omega
    .obtain rfl:n=48:=ϊ
     have b9:¬((48:Nat):Int)+16<64:=ϊ;clear aU b6;go_wp2_with fail
     have bN:Hid (∀ k,k<64->wr.cell? ⟨w.heap.size+1+1,k,O⟩=J (ĭ .u32 (iu p 48 k))):=fun k hi=>(HW.o.cell hi).1;have o:=(W.block (w.heap.size+1) ϊ).trans bJ.o;have b5:=ο o;obtain⟨-,-,c5⟩:=HW.o.cell (i:=0) ϊ;have bM:=Zh o;clear HW o;obtain⟨a1,rfl⟩:∃ a1:β,a1=wr:=⟨_,rfl⟩;have S:=(W.block w.heap.size ϊ).trans bI.o;have c0:=ν _ _ 0 _ _ _ S;have c1:=ν _ _ 1 _ _ _ S;have c2:=ν _ _ 2 _ _ _ S;have Y:=ν _ _ 3 _ _ _ S;have Z:=ν _ _ 4 _ _ _ S;have aa:=ν _ _ 5 _ _ _ S;have ab:=ν _ _ 6 _ _ _ S;have ac:=ν _ _ 7 _ _ _ S;simp only[mj,oo,nh]at c0 c1 c2 Y Z aa ab ac;clear S;go_region_held3 (fun l=>l.cell? ⟨w.heap.size,0,O⟩=J (ĭ .u32 r)/\l.cell? ⟨w.heap.size,1,O⟩=J (ĭ .u32 t)/\l.cell? ⟨w.heap.size,2,O⟩=J (ĭ .u32 u)/\l.cell? ⟨w.heap.size,3,O⟩=J (ĭ .u32 x)) (first|exact⟨c0,c1,c2,Y⟩|assumption) (fail)
     go_wp2_with fail
     go_region_held3 (fun l=>l.cell? ⟨w.heap.size,4,O⟩=J (ĭ .u32 y)/\l.cell? ⟨w.heap.size,5,O⟩=J (ĭ .u32 z)/\l.cell? ⟨w.heap.size,6,O⟩=J (ĭ .u32 A)/\l.cell? ⟨w.heap.size,7,O⟩=J (ĭ .u32 B)) (first|exact⟨Z,aa,ab,ac⟩|assumption) (fail)
     go_wp2_with fail
     have aG:=Zh I;have bH:=Zh (Γ c0 (Γ c1 (Γ c2 (Γ Y (Γ Z (Γ aa (Γ ab ac)))))));clear c0 c1 c2 Y Z aa ab ac I W;go_loopw [12,13,14,15,16,17,18,19,124] (fun a b c d e f g h k N=>∃ (m:Nat) (s:S8),m<=64/\k=IZ (m:Int)/\a=ĭ .u32 s.a/\b=ĭ .u32 s.b/\c=ĭ .u32 s.c/\d=ĭ .u32 s.d/\e=ĭ .u32 s.e/\f=ĭ .u32 s.f/\g=ĭ .u32 s.g/\h=ĭ .u32 s.h/\Hid (rZ ⟨r,t,u,x,y,z,A,B⟩ p m=s)/\BQ a1 N) (fun _ _ _ _ _ _ _ _ k _=>64 - (intOf k).toNat)
     case atStart=>exact⟨0,⟨r,t,u,x,y,z,A,B⟩,ϊ,rfl,rfl,rfl,rfl,rfl,rfl,rfl,rfl,rfl,rfl,RZ.drew.drew⟩
     case round =>
      obtain⟨m,⟨ae,af,ag,ah,E,T,U,q⟩,bf,rfl,rfl,rfl,rfl,rfl,rfl,rfl,rfl,rfl,aI,G⟩:=hrel;have am:=bL.o m;rw[aI.o]at am;obtain⟨⟨aD,aB⟩,⟨aE,cl⟩,⟨a2,cm⟩,⟨a3,cn⟩,⟨aF,aC⟩,⟨cz,co⟩,⟨cA,cp⟩,⟨cB,cq⟩⟩:=am;dsimp only at aD aB aE cl a2 cm a3 cn aF aC cz co cA cp cB cq;by_cases bg:m<64
      .have b8:(m:Int)<64:=ϊ
       have c7:(0:Int)<=(m:Int):=ϊ;have aL:=ζ G (bN.o m bg);have a9:=ζ G (ζ (aG.o) (bQ.o m bg));obtain⟨bx,bz⟩:=Mh m;obtain⟨bv,bw⟩:=rT p 48 m;have bP:Hid (rZ ⟨r,t,u,x,y,z,A,B⟩ p (m+1)=rP (qG m) (iu p 48 m) ⟨ae,af,ag,ah,E,T,U,q⟩):=by show _=_;unfold rZ;rw[aI.o]
       generalize qG m=M at *;generalize iu p 48 m=N at *;go_wp2_with (first
        |(go_at_call 332;(with_reducible refine(LZ _ _ aF aC).mono ?_);rintro e w' ⟨rfl,rfl⟩)
        |(go_at_call 332;(with_reducible refine(LQ _ _ aF aC).mono ?_);rintro e w' ⟨rfl,rfl⟩)
        |(go_at_call 332;(with_reducible refine(LY _ _ aF aC).mono ?_);rintro e w' ⟨rfl,rfl⟩))
       obtain⟨ca,l1⟩:=sX .xor (bits BinOp.xor IntKind.u32 (gI 67108864 64 E) (gI 2097152 2048 E)) (gI 128 33554432 E) (.inr (.inr (.inl rfl)));obtain⟨aw,ax⟩:=sX .xor (bits BinOp.and IntKind.u32 E T) (bits BinOp.and IntKind.u32 (bits BinOp.xor IntKind.u32 IntKind.u32.max E) U) (.inr (.inr (.inl rfl)));obtain⟨F,az⟩:∃ F,F=zx E:=⟨_,rfl⟩;obtain⟨H,ay⟩:∃ H,H=xM E T U:=⟨_,rfl⟩;have bO:=Zh az;have bG:=Zh ay;unfold zx at az;unfold xM at ay;rw[<-az]at *;rw[<-ay]at *;clear az ay;have r1:IntKind.u32.wrap (q+F)=(q+F) % 4294967296:=by rw[pU]
       have r2:IntKind.u32.wrap ((q+F) % 4294967296+H)=(q+F+H) % 4294967296:=by rw[pU];omega
       have r3:IntKind.u32.wrap ((q+F+H) % 4294967296+M)=(q+F+H+M) % 4294967296:=by rw[pU];omega
       have r4:IntKind.u32.wrap ((q+F+H+M) % 4294967296+N)=(q+F+H+M+N) % 4294967296:=by rw[pU];omega
       go_region_held3 (fun l=>l.cell? ⟨w.heap.size+1+1,m,O⟩=J (ĭ .u32 N)/\l.cell? ⟨4,m,O⟩=J (ĭ .u32 M)) (first|exact⟨aL,a9⟩|assumption) (fail)
       clear r1 r2 r3 r4 aL a9;have a4:Hid (vE M N ⟨ae,af,ag,ah,E,T,U,q⟩=(q+F+H+M+N) % 4294967296):=by
        show _=_;unfold vE;rw[<-bO.o,<-bG.o]
       obtain⟨db,o1⟩:=nG (q+F+H+M+N);generalize(q+F+H+M+N) % 4294967296=cD at *;go_wp2_with (first
        |(go_at_call 332;(with_reducible refine(LW _ _ aD aB).mono ?_);rintro e w' ⟨rfl,rfl⟩)
        |(go_at_call 332;(with_reducible refine(LR _ _ aD aB).mono ?_);rintro e w' ⟨rfl,rfl⟩)
        |(go_at_call 332;(with_reducible refine(LX _ _ aD aB).mono ?_);rintro e w' ⟨rfl,rfl⟩))
       go_roundw;case rel =>
        refine⟨m+1,rP M N ⟨ae,af,ag,ah,E,T,U,q⟩,ϊ,ϕ,?_,rfl,rfl,rfl,?_,rfl,rfl,rfl,bP.o,G.drew⟩
        .exact iY (Value.int .u32) (by simp only[rP,a4.o];rfl)
        .exact iY (Value.int .u32) (by simp only[rP,a4.o])
       case measure=>simp[intOf];omega
      .obtain rfl:m=64:=ϊ
       have b8:¬((64:Nat):Int)<64:=ϊ;obtain⟨c0,c1,c2,Y,Z,aa,ab,ac⟩:=bH.o;have cF:=ζ G c0;have d1:=ζ G c1;have d2:=ζ G c2;have cG:=ζ G Y;have cH:=ζ G Z;have cI:=ζ G aa;have cJ:=ζ G ab;have cK:=ζ G ac;clear c0 c1 c2 Y Z aa ab ac;have o:=(G.block _ b5).trans bM.o;have aM:=ν _ _ 0 _ _ _ o;have aN:=ν _ _ 1 _ _ _ o;have aO:=ν _ _ 2 _ _ _ o;have aP:=ν _ _ 3 _ _ _ o;have cP:=ν _ _ 4 _ _ _ o;have cQ:=ν _ _ 5 _ _ _ o;have cR:=ν _ _ 6 _ _ _ o;have cS:=ν _ _ 7 _ _ _ o;have cT:=ϥ _ _ 0 _ _ o;have f1:=ϥ _ _ 1 _ _ o;have f2:=ϥ _ _ 2 _ _ o;have f3:=ϥ _ _ 3 _ _ o;have cU:=ϥ _ _ 4 _ _ o;have cV:=ϥ _ _ 5 _ _ o;have cW:=ϥ _ _ 6 _ _ o;have cX:=ϥ _ _ 7 _ _ o;have bV:=aG.o.trans (G.mono aG.o.size);have bF:Hid (oG ⟨r,t,u,x,y,z,A,B⟩ p=xB ⟨r,t,u,x,y,z,A,B⟩ ⟨ae,af,ag,ah,E,T,U,q⟩):=by
        show _=_;unfold oG;rw[aI.o]
       have aw:=π wr (w.heap.size+1) 0 _ _ (ĭ .u32 ((r+ae) % 4294967296)) o;have ax:=π _ (w.heap.size+1) 1 _ _ (ĭ .u32 ((t+af) % 4294967296)) aw;have ba:=π _ (w.heap.size+1) 2 _ _ (ĭ .u32 ((u+ag) % 4294967296)) ax;have bb:=π _ (w.heap.size+1) 3 _ _ (ĭ .u32 ((x+ah) % 4294967296)) ba;have bc:=π _ (w.heap.size+1) 4 _ _ (ĭ .u32 ((y+E) % 4294967296)) bb;have bd:=π _ (w.heap.size+1) 5 _ _ (ĭ .u32 ((z+T) % 4294967296)) bc;have be:=π _ (w.heap.size+1) 6 _ _ (ĭ .u32 ((A+U) % 4294967296)) bd;have bU:=Zh (π _ (w.heap.size+1) 7 _ _ (ĭ .u32 ((B+q) % 4294967296)) be);have bX:=Zh ((((((((bV.setCell (p:=⟨w.heap.size+1,0,O⟩) ύ (ĭ .u32 ((r+ae) % 4294967296))).setCell (p:=⟨w.heap.size+1,1,O⟩) ύ (ĭ .u32 ((t+af) % 4294967296))).setCell (p:=⟨w.heap.size+1,2,O⟩) ύ (ĭ .u32 ((u+ag) % 4294967296))).setCell (p:=⟨w.heap.size+1,3,O⟩) ύ (ĭ .u32 ((x+ah) % 4294967296))).setCell (p:=⟨w.heap.size+1,4,O⟩) ύ (ĭ .u32 ((y+E) % 4294967296))).setCell (p:=⟨w.heap.size+1,5,O⟩) ύ (ĭ .u32 ((z+T) % 4294967296))).setCell (p:=⟨w.heap.size+1,6,O⟩) ύ (ĭ .u32 ((A+U) % 4294967296))).setCell (p:=⟨w.heap.size+1,7,O⟩) ύ (ĭ .u32 ((B+q) % 4294967296)));clear o aw ax ba bb bc bd be;obtain⟨⟨ai,cd⟩,⟨aj,ce⟩,⟨ak,cf⟩,⟨al,cg⟩,⟨bA,ch⟩,⟨cw,ci⟩,⟨cx,cj⟩,⟨cy,ck⟩⟩:=bK.o;dsimp only at ai cd aj ce ak cf al cg bA ch cw ci cx cj cy ck;go_wp2;refine ϟ (v:=ā #[ĭ .u32 ((r+ae) % 4294967296),ĭ .u32 ((t+af) % 4294967296),ĭ .u32 ((u+ag) % 4294967296),ĭ .u32 ((x+ah) % 4294967296),ĭ .u32 ((y+E) % 4294967296),ĭ .u32 ((z+T) % 4294967296),ĭ .u32 ((A+U) % 4294967296),ĭ .u32 ((B+q) % 4294967296)]) (jX (p:=4) (ty:=315) rfl _ _ (w.heap.size+1) 315 _ (0,0) _ rfl bU.o underlying315 rfl ϋ) rfl ⟨?_,bX.o⟩;rw[bF.o];rfl
