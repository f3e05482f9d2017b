/- Part 1 of the proof. -/
import Derived.Test.YtpilfbcffofheaaGreatDoorm00
set_option linter.all false
set_option maxRecDepth 100000
set_option maxHeartbeats 16000000
namespace Go.Proofs.YtpilfbcffofheaaGreatDoor
open Go.RowKit Go.Proofs.Tryz Go.Sort
open Value renaming slice->D,int->ĭ,agg->ā,string->š
open Option renaming none->O,some->J
open List renaming length->L
open Obj renaming cells->C
open Ending renaming returned->ŗ
open World renaming alloc->å,setCell->ŝ
def fO {w c:β} {A} (a:Below (å w A).heap.size (å w A) c):c.heap[w.heap.size]?=J A/\w.heap.size<c.heap.size/\BQ w c:=by
 have b:=a.size;simp only[mh]at b;exact⟨(a.block _ ϓ).trans (φ w A),U,ġ.trans (a.M ϓ)⟩
def fZ {w w1:β} {A Z} (a:Below (å (å w A) Z).heap.size (å (å w A) Z) w1):w1.heap[w.heap.size]?=J A/\w1.heap[w.heap.size+1]?=J Z/\w.heap.size<w1.heap.size/\w.heap.size+1<w1.heap.size/\BQ w w1:=by
 obtain⟨b,c,e⟩:=fO a;have d:=a.size;simp only[mh]at d b c;refine⟨(a.block _ ϓ).trans ((hM _ _ _ ϓ).trans (φ w A)),b,U,U,?_⟩;exact(ġ.A ύ _).trans (a.M ϓ)
def oO {w w1:β} {A Z Y} (a:Below (å (å (å w A) Z) Y).heap.size (å (å (å w A) Z) Y) w1):w1.heap[w.heap.size]?=J A/\w1.heap[w.heap.size+1]?=J Z/\w1.heap[w.heap.size+1+1]?=J Y/\w.heap.size<w1.heap.size/\w.heap.size+1<w1.heap.size/\w.heap.size+1+1<w1.heap.size/\BQ w w1:=by
 obtain⟨b,c,d,e,g⟩:=fZ a;have f:=a.size;simp only[mh]at f b c d e;refine⟨(a.block _ ϓ).trans ((hM _ _ _ ϓ).trans ((hM _ _ _ ϓ).trans (φ w A))),b,c,U,U,U,?_⟩;exact((ġ.A ύ _).A ϓ _).trans (a.M ϓ)
def θ {w w1} {g:Nat} {o} (h:w.heap[g]?=J o) (a:BQ w w1):w1.heap[g]?=J o:=(a.block _ (ς h)).trans h
def Α (H:Nat->Prop) (w:β) (R:β->Prop):Prop:= ∀ a:β,(∀ b,b<w.heap.size->¬H b->a.heap[b]?=w.heap[b]?)->R a
theorem Α.now {H w R} (h:Α H w R):R w:=h w fun _ _ _=>rfl
def Α.step {H H' w w' R} (h:Α H w R) (j:w.heap.size<=w'.heap.size) (f:∀ b,b<w.heap.size->¬H b->w'.heap[b]?=w.heap[b]?) (e:∀ b,b<w.heap.size->H' b->H b):Α H' w' R:=
 fun i d=>h i fun b a c=>(d b U (fun g=>c (e b a g))).trans (f b a c)
def Α.B {H w w' R} (h:Α H w R) (a:BQ w w'):Α H w' R:=h.step a.size (fun b g _=>a.block b g) fun _ _ g=>g
def Α.A {H w R} (h:Α H w R) (o):Α H (å w o) R:=h.step ύ (fun b g _=>hM w o b g) fun _ _ g=>g
def Α.set {H w R} (h:Α H w R) {p} (a:H p.block) (x:ε):Α H (ŝ w p x) R:=
 h.step ύ (fun b _ g=>Γ _ _ _ _ (by rintro rfl;exact g a)) fun _ _ g=>g
def Α.drew {H w R} (h:Α H w R):Α H w.drew R:=h
def Α.imp {H w R Q} (h:Α H w R) (f:∀ a,R a->Q a):Α H w Q:=fun a b=>f a (h a b)
def Α.and {H w R Q} (h:Α H w R) (c:Α H w Q):Α H w (fun a=>R a/\Q a):=fun a b=>⟨h a b,c a b⟩
def Α.sub {H H' w R} (h:Α H w R) (a:∀ b,b<w.heap.size->H' b->H b):Α H' w R:=h.step NZ (fun _ _ _=>rfl) a
def Hi.off {lo} {w:β} {R:β->Prop} (h:Hi lo w R) {H} (d:∀ b,b<w.heap.size->H b->b<lo):Α H w R:=
 fun e c=>h e fun b f a=>c b a fun g=>ι (d b a g)
def Α.hi {lo w R} (h:Α (· <lo) w R):Hi lo w R:=fun e d=>h e fun b a c=>d b (by simpa using c) a
def kJ (a:Nat) (v:ε) (b:Nat):Prop:=b<a\/v.ownBlock=J b
def Α.grown {base v v'} {w c:β} {R} (h:Α (kJ base v) w R) (d:w.grownBy c v.ownBlock) (hv:v'.ownBlock=v.ownBlock\/v'.ownBlock=J w.heap.size):Α (kJ base v') c R:=by
 refine h.step d.size (fun b a g2=>d.block b a fun e=>g2 (.inr e.symm)) fun b a g2=>?_;rcases g2 with g2|g2
 .exact .inl g2
 .rcases hv with hv|hv
  .rw[hv]at g2;exact .inr g2
  .rw[hv]at g2;injection g2 with g2;omega
def Hi.rowH {lo base v} {w:β} {R:β->Prop} (h:Hi lo w R) (a:base<=lo) (c:∀ g,v.ownBlock=J g->g<lo):Α (kJ base v) w R:=
 h.off fun b _ g=>by rcases g with g|g;exact om g a;exact c b g
def Ϡ {w:β} {base e size} {v:ε} {n} {f:List ε} (h:w.ownsRow base e size v n f):∀ g,v.ownBlock=J g->base<=g/\g<w.heap.size:=by
 intro g hg;rcases h.2 with ⟨rfl,-⟩|⟨d,c,cur,rfl,a,b,-⟩
 .cases hg
 .simp only[Value.ownBlock,Φ]at hg
  subst hg;exact⟨a,ς b⟩
def Α.rowHi {base v w R e size n} {k:List ε} (h:Α (kJ base v) w R) (i:w.ownsRow base e size v n k):Hi base w (fun a=>R a/\Rd a v n size k):=by
 intro a c;have j:=Hi.own i;refine⟨h a fun b d f=>c b ?_ d,j a c⟩;exact Nat.le_of_not_lt fun g=>f (.inl g)
def tm {w:β} {base e g n} {m:List ε} (h:w.ownsRow base e 1 (D (J ⟨g,0,O⟩) n n) n m):w.heap[g]?=J (C m.toArray e (0,0)):=by
 obtain⟨k,a⟩:=h;rcases a with ⟨h,_⟩|⟨d,c,cur,h,f,hg,l,i,j,b⟩
 .simp at h
 .simp only[Χ,Φ,Addr.mk.injEq,it,ϵ]at h
  obtain⟨rfl,rfl⟩:=h;rw[hg];have:cur.toList=m:=by rw[<-b,gF (by rw[sw];omega)]
  rw[<-this]
def sN {T E} {z:ε} {sz b} (f:prog.underlying T=J (.slice E)) (j:(prog.info? E).map (fun i=>(i.zero,i.size,i.bytes))=J (J z,sz,b)) {v:ε} {n} {e:List ε} {w:β} (h:Rd w v n sz e) (g:∀ u∈e,u.oneCell'=true) :
  ∃ a,prog.info? E=J a/\a.zero=J z/\a.size=sz/\a.bytes=b/\Hid (∀ w',BQ w w'->Src prog sz T v n e w')/\(∀ w' d n c,(binOp .eql T (D d n c) (D O 0 0)).run prog w'=.ok (.bool d.isNone) w'):=by
 obtain⟨a,hi,l,m,o⟩:=Ϩ j;exact⟨a,hi,l,m,o,fun w' k=>(h.B k).src f g,fun w' d n c=>Lib.run_eql_slice_nil w' T E d n c 0 0 f⟩
def uW:(prog.info? 31).map (fun i=>(i.zero,i.size,i.bytes))=J (J (D O 0 0),1,24):=ϋ
def nQ (f:FuncId) (g:TypeId) (d b:Nat):Prop:= ∀ (e:ε) (n:Nat) (a:List ε) (c:β) (h:Rd c e n d a) (j:∀ i∈a,i.oneCell'=true) (k:n*b<=140737488355328),Calls prog f #[e] c (iJ c g d n a)
def sP:nQ 33 5 1 1/\nQ 59 3 1 8/\nQ 118 31 1 24/\nQ 32 84 2 32/\nQ 57 92 3 40/\nQ 58 130 2 40:=by
 refine⟨?_,?_,?_,?_,?_,?_⟩;all_goals
  intro A n p q h f H;obtain⟨e,o,c,y,v,w⟩:∃ e o c,A=D e o c/\n=o/\(e=O->n=0/\p=[]):=by
   obtain⟨u,-,⟨e,c,rfl,rfl⟩|⟨b,off,c,rfl,F,-,-,-⟩⟩:=h
   .exact⟨e,0,c,rfl,rfl,fun _=>⟨rfl,kS (by simpa using u)⟩⟩
   .exact⟨_,n,c,rfl,rfl,fun h=>by cases h⟩
  subst y v;have r:=Zh h.2.1;first
   |show Calls _ 33 _ _ _
    go_enter func33,ntmps33;have d:=Zh gv;obtain⟨l,hi,i,j,k,g,m⟩:=sN (z:=ĭ .u8 0) (b:=1) gv ϋ h f
   |show Calls _ 59 _ _ _
    go_enter func59,ntmps59;have d:=Zh gl;obtain⟨l,hi,i,j,k,g,m⟩:=sN (z:=G 0) (b:=8) gl ϋ h f
   |show Calls _ 118 _ _ _
    go_enter func118,ntmps118;have d:=Zh nM;obtain⟨l,hi,i,j,k,g,m⟩:=sN (z:=D O 0 0) (b:=24) nM ϋ h f
   |show Calls _ 32 _ _ _
    go_enter func32,ntmps32;have d:=Zh tR;obtain⟨l,hi,i,j,k,g,m⟩:=sN (z:=ā #[G 0,D O 0 0]) (b:=32) tR ϋ h f
   |show Calls _ 57 _ _ _
    go_enter func57,ntmps57;have d:=Zh nN;obtain⟨l,hi,i,j,k,g,m⟩:=sN (z:=ā #[G 0,G 0,D O 0 0]) (b:=40) nN ϋ h f
   |show Calls _ 58 _ _ _
    go_enter func58,ntmps58;have d:=Zh rr;obtain⟨l,hi,i,j,k,g,m⟩:=sN (z:=ā #[š ⟨#[]⟩,D O 0 0]) (b:=40) rr ϋ h f
  cases e with
  |none =>
   obtain⟨rfl,rfl⟩:=w rfl;go_wp2;go_ret;exact⟨_,rfl,gQ _ _ _ _,ρ _ _⟩
  |some a =>
   go_wp2_with (at_builtin;refine ϻ rfl _ _ _ _ rfl _ _ l _ _ _ d.o hi i j k rfl _ 0 _ rfl (World.ownsRow_made q _ 0 NZ (Ζ _) rfl) _ n p rfl (g.o _ (ġ)) (ι r.o) U ύ ?_)
   intro B E x t _ _;have s:BQ q E:=ġ.grown t ύ ϛ;go_wp2;go_ret;exact⟨B,rfl,x,s⟩
def rK:nQ 33 5 1 1:=sP.1
def uM:nQ 59 3 1 8:=sP.2.1
def CF:nQ 118 31 1 24:=sP.2.2.1
def CH:nQ 32 84 2 32:=sP.2.2.2.1
def CG:nQ 57 92 3 40:=sP.2.2.2.2.1
def zo:nQ 58 130 2 40:=sP.2.2.2.2.2
def gN (a b x:Int):Int:=bits BinOp.or IntKind.u32 (x*a % 4294967296) (x / b)
def jj (x:Int):Prop:=0<=x/\x<4294967296
def uD (op x y) (h:op=.and\/op=.or\/op=.xor\/op=.andNot):jj (bits op IntKind.u32 x y):=by
 have a:∀ n:Int,jj (IntKind.u32.wrap n):=fun n=>by
  rw[iV];unfold jj;omega
 rcases h with rfl|rfl|rfl|rfl<;>exact a _
def OK (x) (w:β) (c:0<=x) (d:x<4294967296) :
  Calls prog 332 #[ĭ .u32 x,G (-2)] w fun e w'=>e=ŗ (ĭ .u32 (gN 1073741824 4 x))/\w=w':=by
 have a:IntKind.u64.wrap (-2)=18446744073709551614:=ϐ;have b:bits BinOp.and IntKind.u64 18446744073709551614 31=30:=ϐ;go_enter func332,pD;go_wp2;exact gH
def OO (x) (w:β) (c:0<=x) (d:x<4294967296) :
  Calls prog 332 #[ĭ .u32 x,G (-6)] w fun e w'=>e=ŗ (ĭ .u32 (gN 67108864 64 x))/\w=w':=by
 have a:IntKind.u64.wrap (-6)=18446744073709551610:=ϐ;have b:bits BinOp.and IntKind.u64 18446744073709551610 31=26:=ϐ;go_enter func332,pD;go_wp2;exact gH
def OP (x) (w:β) (c:0<=x) (d:x<4294967296) :
  Calls prog 332 #[ĭ .u32 x,G (-7)] w fun e w'=>e=ŗ (ĭ .u32 (gN 33554432 128 x))/\w=w':=by
 have a:IntKind.u64.wrap (-7)=18446744073709551609:=ϐ;have b:bits BinOp.and IntKind.u64 18446744073709551609 31=25:=ϐ;go_enter func332,pD;go_wp2;exact gH
def OF (x) (w:β) (c:0<=x) (d:x<4294967296) :
  Calls prog 332 #[ĭ .u32 x,G (-11)] w fun e w'=>e=ŗ (ĭ .u32 (gN 2097152 2048 x))/\w=w':=by
 have a:IntKind.u64.wrap (-11)=18446744073709551605:=ϐ;have b:bits BinOp.and IntKind.u64 18446744073709551605 31=21:=ϐ;go_enter func332,pD;go_wp2;exact gH
def OG (x) (w:β) (c:0<=x) (d:x<4294967296) :
  Calls prog 332 #[ĭ .u32 x,G (-13)] w fun e w'=>e=ŗ (ĭ .u32 (gN 524288 8192 x))/\w=w':=by
 have a:IntKind.u64.wrap (-13)=18446744073709551603:=ϐ;have b:bits BinOp.and IntKind.u64 18446744073709551603 31=19:=ϐ;go_enter func332,pD;go_wp2;exact gH
def OH (x) (w:β) (c:0<=x) (d:x<4294967296) :
  Calls prog 332 #[ĭ .u32 x,G (-17)] w fun e w'=>e=ŗ (ĭ .u32 (gN 32768 131072 x))/\w=w':=by
 have a:IntKind.u64.wrap (-17)=18446744073709551599:=ϐ;have b:bits BinOp.and IntKind.u64 18446744073709551599 31=15:=ϐ;go_enter func332,pD;go_wp2;exact gH
def OI (x) (w:β) (c:0<=x) (d:x<4294967296) :
  Calls prog 332 #[ĭ .u32 x,G (-18)] w fun e w'=>e=ŗ (ĭ .u32 (gN 16384 262144 x))/\w=w':=by
 have a:IntKind.u64.wrap (-18)=18446744073709551598:=ϐ;have b:bits BinOp.and IntKind.u64 18446744073709551598 31=14:=ϐ;go_enter func332,pD;go_wp2;exact gH
def OJ (x) (w:β) (c:0<=x) (d:x<4294967296) :
  Calls prog 332 #[ĭ .u32 x,G (-19)] w fun e w'=>e=ŗ (ĭ .u32 (gN 8192 524288 x))/\w=w':=by
 have a:IntKind.u64.wrap (-19)=18446744073709551597:=ϐ;have b:bits BinOp.and IntKind.u64 18446744073709551597 31=13:=ϐ;go_enter func332,pD;go_wp2;exact gH
def OM (x) (w:β) (c:0<=x) (d:x<4294967296) :
  Calls prog 332 #[ĭ .u32 x,G (-22)] w fun e w'=>e=ŗ (ĭ .u32 (gN 1024 4194304 x))/\w=w':=by
 have a:IntKind.u64.wrap (-22)=18446744073709551594:=ϐ;have b:bits BinOp.and IntKind.u64 18446744073709551594 31=10:=ϐ;go_enter func332,pD;go_wp2;exact gH
def ON (x) (w:β) (c:0<=x) (d:x<4294967296) :
  Calls prog 332 #[ĭ .u32 x,G (-25)] w fun e w'=>e=ŗ (ĭ .u32 (gN 128 33554432 x))/\w=w':=by
 have a:IntKind.u64.wrap (-25)=18446744073709551591:=ϐ;have b:bits BinOp.and IntKind.u64 18446744073709551591 31=7:=ϐ;go_enter func332,pD;go_wp2;exact gH
def FJ (a b c d e f g h ao r cp) (n:Nat) (w:β) (k:n<=1099511627776) (i:r=n % 64) :
  Calls prog 277 #[ā #[ĭ .u32 a,ĭ .u32 b,ĭ .u32 c,ĭ .u32 d,ĭ .u32 e,ĭ .u32 f,ĭ .u32 g,ĭ .u32 h,D ao r cp,G n]] w fun e w'=>e=ŗ (.bool true)/\BQ w w':=by
 have o:(n:Int)<=1099511627776:=U;have m:(0:Int)<=(n:Int):=U;have l:((r:Int)==(n:Int) % 64)=true:=by rw[i];simp
 have j:BQ w (å w (C #[ĭ .u32 a,ĭ .u32 b,ĭ .u32 c,ĭ .u32 d,ĭ .u32 e,ĭ .u32 f,ĭ .u32 g,ĭ .u32 h,D ao r cp,G n] 317)):=ġ;clear i;go_enter func277,ntmps277;go_wp2;go_ret;exact⟨rfl,j⟩
def xR:Array ε:= #[ĭ .u32 1779033703,ĭ .u32 3144134277,ĭ .u32 1013904242,ĭ .u32 2773480762,ĭ .u32 1359893119,ĭ .u32 2600822924,ĭ .u32 528734635,ĭ .u32 1541459225]
def sj:List Int:=[1116352408,1899447441,3049323471,3921009573,961987163,1508970993,2453635748,2870763221,3624381080,310598401,607225278,1426881987,1925078388,2162078206,2614888103,3248222580,3835390401,4022224774,264347078,604807628,770255983,1249150122,1555081692,1996064986,2554220882,2821834349,2952996808,3210313671,3336571891,3584528711,113926993,338241895,666307205,773529912,1294757372,1396182291,1695183700,1986661051,2177026350,2456956037,2730485921,2820302411,3259730800,3345764771,3516065817,3600352804,4094571909,275423344,430227734,506948616,659060556,883997877,958139571,1322822218,1537002063,1747873779,1955562222,2024104815,2227730452,2361852424,2428436474,2756734187,3204031479,3329325298]
def pv:Array ε:=(sj.map (Value.int .u32)).toArray
def oL (i:Nat):Int:=sj.getD i 0
structure Ϭ (w:β):Prop where
 beg:∃ t fr,w.heap[1]?=J (C xR t fr)
 rds:∃ t fr,w.heap[4]?=J (C pv t fr)
def Ϭ.B {w w'} (h:Ϭ w) (c:BQ w w'):Ϭ w':=by
 obtain⟨⟨f,d,a⟩,⟨g,e,b⟩⟩:=h;exact⟨⟨f,d,by rw[c.block _ (ς a)];exact a⟩,⟨g,e,by rw[c.block _ (ς b)];exact b⟩⟩
theorem Ϭ.rcell {w} (h:Ϭ w) {i} (e:i<64):w.cell? ⟨4,i,O⟩=J (ĭ .u32 (oL i)):=by
 obtain⟨-,d,b,a⟩:=h;have c:L sj=64:=ϐ;rw[ξ w _ i _ _ _ a];unfold pv oL;rw[fX,mD,jP,Ρ U];rfl
def Pa (i):jj (oL i):=by
 unfold oL;rw[fX];rcases pC i (L sj) with h|h
 .rw[Ρ h]
  have:∀ x∈sj,0<=x/\x<4294967296:=ϐ;exact this _ (Ψ h)
 .rw[ls h];exact⟨ϐ,ϐ⟩
def PF (w) (j:Ϭ w) :
  Calls prog 213 #[] w fun e w'=>e=ŗ (ā #[ĭ .u32 1779033703,ĭ .u32 3144134277,ĭ .u32 1013904242,ĭ .u32 2773480762,ĭ .u32 1359893119,ĭ .u32 2600822924,ĭ .u32 528734635,ĭ .u32 1541459225,D O 0 0,G 0])/\BQ w w':=by
 obtain⟨⟨m,k,a⟩,-⟩:=j;have c0:=ξ w _ 0 _ _ _ a;have c1:=ξ w _ 1 _ _ _ a;have c2:=ξ w _ 2 _ _ _ a;have b:=ξ w _ 3 _ _ _ a;have c:=ξ w _ 4 _ _ _ a;have d:=ξ w _ 5 _ _ _ a;have f:=ξ w _ 6 _ _ _ a;have g:=ξ w _ 7 _ _ _ a;simp only[xR]at c0 c1 c2 b c d f g;have l:=ς a;go_enter func213,ntmps213;go_wp2;have h:=φ w (C #[ĭ .u32 1779033703,ĭ .u32 3144134277,ĭ .u32 1013904242,ĭ .u32 2773480762,ĭ .u32 1359893119,ĭ .u32 2600822924,ĭ .u32 528734635,ĭ .u32 1541459225,D O 0 0,G 0] 317);have i:BQ w (å w (C #[ĭ .u32 1779033703,ĭ .u32 3144134277,ĭ .u32 1013904242,ĭ .u32 2773480762,ĭ .u32 1359893119,ĭ .u32 2600822924,ĭ .u32 528734635,ĭ .u32 1541459225,D O 0 0,G 0] 317)):=ġ;exact Ω  (jf   rfl _ _ _ _ _ _ _ rfl h underlying317 rfl ϋ) rfl ⟨rfl,i⟩
def nR (w:β) (g m:Nat) (c:TypeId) (f:Nat->Int):Prop:= ∃ a:Array ε,w.heap[g]?=J (C a c (0,0))/\a.size=m/\∀ b,b<m->a[b]?=J (ĭ .u32 (f b))
def nR.cell {w g m T f} (h:nR w g m T f) {i} (e:i<m):w.cell? ⟨g,i,O⟩=J (ĭ .u32 (f i))/\w.frozen? ⟨g,i,O⟩=false/\g<w.heap.size:=by
 obtain⟨c,a,d,b⟩:=h;exact⟨by rw[ξ _ _ _ _ _ _ a];exact b i e,ϧ _ _ _ _ _ a,ς a⟩
def nR.same {w w' g m T f} (h:nR w g m T f) (e:w'.heap[g]?=w.heap[g]?):nR w' g m T f:=by
 obtain⟨a,b,c,d⟩:=h;exact⟨a,by rw[e];exact b,c,d⟩
def nR.set {w g m T f q} (h:nR w g m T f) (j x) (n:x=q j) (l:∀ i,i<m->i≠j->f i=q i):nR (ŝ w ⟨g,j,O⟩ (ĭ .u32 x)) g m T q:=by
 obtain⟨b,d,a,k⟩:=h;refine⟨_,υ w g j b _ _ d,by simpa using a,fun i hi=>?_⟩;by_cases e:i=j
 .subst e
  simp[a,hi,n]
 .rw[Array.getElem?_setIfInBounds_ne (fun c=>e c.symm),<-l i hi e]
  exact k i hi
def DR {w:β} {b o o'} {x y:ε} (h:w.cell? ⟨b,o',O⟩=J y) (a:o≠o'):(ŝ w ⟨b,o,O⟩ x).cell? ⟨b,o',O⟩=J y:=
 (World.cell?_setCell_other w _ _ x (fun e=>a (by injection e))).trans h
def qg (a b c d:Int):Int:=bits BinOp.or IntKind.u32 (bits BinOp.or IntKind.u32 (bits BinOp.or IntKind.u32 (a*16777216) (b*65536)) (c*256)) d
def Ae (x:Int):Int:=bits BinOp.xor IntKind.u32 (bits BinOp.xor IntKind.u32 (gN 33554432 128 x) (gN 16384 262144 x)) (x / 8)
def zT (x:Int):Int:=bits BinOp.xor IntKind.u32 (bits BinOp.xor IntKind.u32 (gN 32768 131072 x) (gN 8192 524288 x)) (x / 1024)
def sd (a b c d:Int):Int:=(a+Ae b+c+zT d) % 4294967296
structure S8 where
 (a b c d e f g h:Int)
def vK (e:Int):Int:=bits BinOp.xor IntKind.u32 (bits BinOp.xor IntKind.u32 (gN 67108864 64 e) (gN 2097152 2048 e)) (gN 128 33554432 e)
def uI (e f g:Int):Int:=bits BinOp.xor IntKind.u32 (bits BinOp.and IntKind.u32 e f) (bits BinOp.and IntKind.u32 (bits BinOp.xor IntKind.u32 IntKind.u32.max e) g)
def FZ (a:Int):Int:=bits BinOp.xor IntKind.u32 (bits BinOp.xor IntKind.u32 (gN 1073741824 4 a) (gN 524288 8192 a)) (gN 1024 4194304 a)
def Ea (a b c:Int):Int:=bits BinOp.xor IntKind.u32 (bits BinOp.xor IntKind.u32 (bits BinOp.and IntKind.u32 a b) (bits BinOp.and IntKind.u32 a c)) (bits BinOp.and IntKind.u32 b c)
def tl (k w:Int) (s:S8):Int:=(s.h+vK s.e+uI s.e s.f s.g+k+w) % 4294967296
def pY (k w:Int) (s:S8):S8:=⟨(tl k w s+(FZ s.a+Ea s.a s.b s.c) % 4294967296) % 4294967296,s.a,s.b,s.c,(s.d+tl k w s) % 4294967296,s.e,s.f,s.g⟩
structure S8.ok (s:S8):Prop where
 a:jj s.a
 b:jj s.b
 c:jj s.c
 d:jj s.d
 e:jj s.e
 f:jj s.f
 g:jj s.g
 h:jj s.h
def oP (x):jj (x % 4294967296):=by unfold jj;omega
def S8.ok.rnd {s} (h:s.ok) (k w):(pY k w s).ok:=⟨oP _,h.a,h.b,h.c,oP _,h.e,h.f,h.g⟩
def iL (p:γ) (j:Nat):Int:=((p.getD j 0).toNat:Int)
def nH (p:γ) (k i:Nat):Int:=if i<k then qg (iL p (4*i)) (iL p (4*i+1)) (iL p (4*i+2)) (iL p (4*i+3))else 0
def gd (p:γ):Nat->Nat->Int
 |0,i=>nH p 16 i
 |n+1,i=>if i=n+16 then sd (gd p n n) (gd p n (n+1)) (gd p n (n+9)) (gd p n (n+14))else gd p n i
def Md (a b c d):jj (sd a b c d):=by unfold sd jj;omega
def QH (p k i):jj (nH p k i):=by
 unfold nH;split
 .exact uD _ _ _ (.inr (.inl rfl))
 .unfold jj;omega
theorem qW (p):∀ n i,jj (gd p n i)
 |0,i=>QH p 16 i
 |n+1,i=>by
  unfold gd;split
  .exact Md _ _ _ _
  .exact qW p n i
def qe (s:S8) (p:γ):Nat->S8
 |0=>s
 |n+1=>pY (oL n) (gd p 48 n) (qe s p n)
def S8.ok.st {s} (h:s.ok) (p):∀ n,(qe s p n).ok
 |0=>h
 |n+1=>(h.st p n).rnd _ _
def uy (s r:S8):S8:=⟨(s.a+r.a) % 4294967296,(s.b+r.b) % 4294967296,(s.c+r.c) % 4294967296,(s.d+r.d) % 4294967296,(s.e+r.e) % 4294967296,(s.f+r.f) % 4294967296,(s.g+r.g) % 4294967296,(s.h+r.h) % 4294967296⟩
def zb (s r):(uy s r).ok:=⟨oP _,oP _,oP _,oP _,oP _,oP _,oP _,oP _⟩
def lR (s:S8) (p:γ):S8:=uy s (qe s p 64)
def S8.cells (s:S8):Array ε:= #[ĭ .u32 s.a,ĭ .u32 s.b,ĭ .u32 s.c,ĭ .u32 s.d,ĭ .u32 s.e,ĭ .u32 s.f,ĭ .u32 s.g,ĭ .u32 s.h]
def qz (p j):0<=iL p j/\iL p j<=255:=by
 have h:=(p.getD j 0).toNat_lt;unfold iL;omega
def Cq {w:β} {pb off cp} {p:γ} (m:L p=64) (f:Rd w (D (J ⟨pb,off,O⟩) 64 cp) 64 1 (η p)) (j) (k:j<64):w.cell? ⟨pb,off+j,O⟩=J (ĭ .u8 (iL p j)):=by
 obtain⟨-,-,⟨g,c,a,d⟩|⟨h,n,c,a,d,l,i,e⟩⟩:=f
 .omega
 .simp only[Χ,Φ,Addr.mk.injEq,it,ϵ]at a
  obtain⟨⟨rfl,rfl⟩,rfl⟩:=a;refine e j _ ?_;unfold iL;have b:j<L p:=U;rw[fX,Ρ b];simp[η,b,ch]
def Rq (w:β) (T) (a:Array ε) (h:a=Array.replicate 64 (Value.int .u32 0)):nR (å w (C a T)) w.heap.size 64 T (fun _=>0):=by
 subst h;exact⟨_,φ w _,ύ,fun b hi=>by simp[hi]⟩
theorem PD (r t u x y z A B:Int) (al:(S8.mk r t u x y z A B).ok) (ac ď a4:Nat) (p:γ) (w:β) (bh:L p=64) (bi:Rd w (D (J ⟨ac,ď,O⟩) 64 a4) 64 1 (η p)) (bk:Ϭ w) :
  Calls prog 311 #[ā #[ĭ .u32 r,ĭ .u32 t,ĭ .u32 u,ĭ .u32 x,ĭ .u32 y,ĭ .u32 z,ĭ .u32 A,ĭ .u32 B],D (J ⟨ac,ď,O⟩) 64 a4] w fun e w'=>e=ŗ (ā (lR ⟨r,t,u,x,y,z,A,B⟩ p).cells)/\BQ w w':=by
 have an:=Zh (fun m bd=>Cq bh bi m bd);have bP:=Zh (fun k (hi:k<64)=>bk.rcell hi);obtain⟨bK,bJ⟩:=π (al.st p) al;clear bh bi bk al;go_enter func311,ntmps311;go_wp2_with fail
 have bc:BQ w (å w (C #[ĭ .u32 r,ĭ .u32 t,ĭ .u32 u,ĭ .u32 x,ĭ .u32 y,ĭ .u32 z,ĭ .u32 A,ĭ .u32 B] 315)):=ġ;have bf:=φ w (C #[ĭ .u32 r,ĭ .u32 t,ĭ .u32 u,ĭ .u32 x,ĭ .u32 y,ĭ .u32 z,ĭ .u32 A,ĭ .u32 B] 315);have aR:(å w (C #[ĭ .u32 r,ĭ .u32 t,ĭ .u32 u,ĭ .u32 x,ĭ .u32 y,ĭ .u32 z,ĭ .u32 A,ĭ .u32 B] 315)).heap.size=w.heap.size+1:=ύ;generalize(å w (C #[ĭ .u32 r,ĭ .u32 t,ĭ .u32 u,ĭ .u32 x,ĭ .u32 y,ĭ .u32 z,ĭ .u32 A,ĭ .u32 B] 315))=ao at *;have aP:BQ ao (å ao (C #[ĭ .u32 0,ĭ .u32 0,ĭ .u32 0,ĭ .u32 0,ĭ .u32 0,ĭ .u32 0,ĭ .u32 0,ĭ .u32 0] 315)):=ġ;have bj:(å ao (C #[ĭ .u32 0,ĭ .u32 0,ĭ .u32 0,ĭ .u32 0,ĭ .u32 0,ĭ .u32 0,ĭ .u32 0,ĭ .u32 0] 315)).heap.size=w.heap.size+1+1:=by simp[aR]
 have bg:=φ ao (C #[ĭ .u32 0,ĭ .u32 0,ĭ .u32 0,ĭ .u32 0,ĭ .u32 0,ĭ .u32 0,ĭ .u32 0,ĭ .u32 0] 315);generalize(å ao (C #[ĭ .u32 0,ĭ .u32 0,ĭ .u32 0,ĭ .u32 0,ĭ .u32 0,ĭ .u32 0,ĭ .u32 0,ĭ .u32 0] 315))=ap at *;have aO:=Rq ap 418 _ rfl;simp only[Array.replicate_succ,Array.replicate_zero,List.push_toArray,js,jW]at aO;have az:BQ ap (å ap (C #[ĭ .u32 0,ĭ .u32 0,ĭ .u32 0,ĭ .u32 0,ĭ .u32 0,ĭ .u32 0,ĭ .u32 0,ĭ .u32 0,ĭ .u32 0,ĭ .u32 0,ĭ .u32 0,ĭ .u32 0,ĭ .u32 0,ĭ .u32 0,ĭ .u32 0,ĭ .u32 0,ĭ .u32 0,ĭ .u32 0,ĭ .u32 0,ĭ .u32 0,ĭ .u32 0,ĭ .u32 0,ĭ .u32 0,ĭ .u32 0,ĭ .u32 0,ĭ .u32 0,ĭ .u32 0,ĭ .u32 0,ĭ .u32 0,ĭ .u32 0,ĭ .u32 0,ĭ .u32 0,ĭ .u32 0,ĭ .u32 0,ĭ .u32 0,ĭ .u32 0,ĭ .u32 0,ĭ .u32 0,ĭ .u32 0,ĭ .u32 0,ĭ .u32 0,ĭ .u32 0,ĭ .u32 0,ĭ .u32 0,ĭ .u32 0,ĭ .u32 0,ĭ .u32 0,ĭ .u32 0,ĭ .u32 0,ĭ .u32 0,ĭ .u32 0,ĭ .u32 0,ĭ .u32 0,ĭ .u32 0,ĭ .u32 0,ĭ .u32 0,ĭ .u32 0,ĭ .u32 0,ĭ .u32 0,ĭ .u32 0,ĭ .u32 0,ĭ .u32 0,ĭ .u32 0,ĭ .u32 0] 418)):=ġ;generalize(å ap (C #[ĭ .u32 0,ĭ .u32 0,ĭ .u32 0,ĭ .u32 0,ĭ .u32 0,ĭ .u32 0,ĭ .u32 0,ĭ .u32 0,ĭ .u32 0,ĭ .u32 0,ĭ .u32 0,ĭ .u32 0,ĭ .u32 0,ĭ .u32 0,ĭ .u32 0,ĭ .u32 0,ĭ .u32 0,ĭ .u32 0,ĭ .u32 0,ĭ .u32 0,ĭ .u32 0,ĭ .u32 0,ĭ .u32 0,ĭ .u32 0,ĭ .u32 0,ĭ .u32 0,ĭ .u32 0,ĭ .u32 0,ĭ .u32 0,ĭ .u32 0,ĭ .u32 0,ĭ .u32 0,ĭ .u32 0,ĭ .u32 0,ĭ .u32 0,ĭ .u32 0,ĭ .u32 0,ĭ .u32 0,ĭ .u32 0,ĭ .u32 0,ĭ .u32 0,ĭ .u32 0,ĭ .u32 0,ĭ .u32 0,ĭ .u32 0,ĭ .u32 0,ĭ .u32 0,ĭ .u32 0,ĭ .u32 0,ĭ .u32 0,ĭ .u32 0,ĭ .u32 0,ĭ .u32 0,ĭ .u32 0,ĭ .u32 0,ĭ .u32 0,ĭ .u32 0,ĭ .u32 0,ĭ .u32 0,ĭ .u32 0,ĭ .u32 0,ĭ .u32 0,ĭ .u32 0,ĭ .u32 0] 418))=W at *;have bR:Hid (nR W (w.heap.size+1+1) 64 418 (nH p 0)):=by
  obtain⟨bS,aD,aX,aY⟩:=aO;rw[bj]at aD;exact⟨bS,aD,aX,fun k hi=>by rw[aY k hi];simp[nH]⟩
 have bb:=bc.t aP;have bV:=bb.t az;have bZ:w.heap.size+1<ap.heap.size:=U;have bI:Hid (W.heap[w.heap.size+1]?=J (C #[ĭ .u32 0,ĭ .u32 0,ĭ .u32 0,ĭ .u32 0,ĭ .u32 0,ĭ .u32 0,ĭ .u32 0,ĭ .u32 0] 315 (0,0))):=by
  show _=_;rw[az.block _ U,<-aR];exact bg
 have bH:Hid (W.heap[w.heap.size]?=J (C #[ĭ .u32 r,ĭ .u32 t,ĭ .u32 u,ĭ .u32 x,ĭ .u32 y,ĭ .u32 z,ĭ .u32 A,ĭ .u32 B] 315 (0,0))):=by
  show _=_;rw[az.block _ U,aP.block _ U];exact bf
 clear aO bg aP bc bf aR bj bb az bZ;go_loopw [26] (fun k wr=>∃ j:Nat,j<=16/\k=G j/\Hid (nR wr (w.heap.size+1+1) 64 418 (nH p j))/\BQ w wr/\Below (w.heap.size+1+1) W wr) (fun k _=>16 - (intOf k).toNat)
 .exact⟨0,U,rfl,bR.o,bV,ρ _ _⟩
 obtain⟨j,bX,rfl,HW,I,V⟩:=hrel;by_cases aQ:j<16
 .have b6:(j:Int)<16:=U
  have c4:(0:Int)<=(j:Int):=U;have b0:=ζ I (an.o (4*j) U);have b1:=ζ I (an.o (4*j+1) U);have b2:=ζ I (an.o (4*j+2) U);have b3:=ζ I (an.o (4*j+3) U);obtain⟨aJ,cV,cX⟩:=HW.o.cell (i:=j) U;have bl:(0:Int)<=4*(j:Int):=U;have bm:4*(j:Int)<64:=U;have bn:4*(j:Int)+1<64:=U;have bo:4*(j:Int)+2<64:=U;have bp:4*(j:Int)+3<64:=U;have bq:(0:Int)<=4*(j:Int)+1:=U;have br:(0:Int)<=4*(j:Int)+2:=U;have bs:(0:Int)<=4*(j:Int)+3:=U;have c5:(j:Int)<64:=U;have bt:(4*(j:Int)).toNat=4*j:=U;have b8:(4*(j:Int)+1).toNat=4*j+1:=U;have b9:(4*(j:Int)+2).toNat=4*j+2:=U;have n3:(4*(j:Int)+3).toNat=4*j+3:=U;have aS:IntKind.i64.wrap (4*(j:Int))=4*(j:Int):=Ϗ;have aT:IntKind.i64.wrap (4*(j:Int)+1)=4*(j:Int)+1:=Ϗ;have aU:IntKind.i64.wrap (4*(j:Int)+2)=4*(j:Int)+2:=Ϗ;have aV:IntKind.i64.wrap (4*(j:Int)+3)=4*(j:Int)+3:=Ϗ;have bQ:Hid (qg (iL p (4*j)) (iL p (4*j+1)) (iL p (4*j+2)) (iL p (4*j+3))=nH p (j+1) j):=by show _=_;simp[nH]
  have aF:Hid (∀ k,k<64->k≠j->nH p j k=nH p (j+1) k):=fun k _ hi=>by unfold nH;by_cases h:k<j<;>simp[h,show k<j+1↔k<j from U]
  have aK:=qz p (4*j);have aL:=qz p (4*j+1);have aM:=qz p (4*j+2);have aN:=qz p (4*j+3);generalize iL p (4*j)=ah at *;generalize iL p (4*j+1)=ai at *;generalize iL p (4*j+2)=aj at *;generalize iL p (4*j+3)=ak at *;generalize nH p j j=bz at *;obtain⟨aK,cH⟩:=aK;obtain⟨aL,cI⟩:=aL;obtain⟨aM,cJ⟩:=aM;obtain⟨aN,cK⟩:=aN;go_wp2_with fail
  have cZ:w.heap.size+1+1≠ac:=by have:=ii w _ (an.o 0 U);simp only at this;omega
  clear aS aT aU aV bl bm bn bo bp bq br bs;have aS:IntKind.i64.wrap (4*(j:Int))=4*(j:Int):=Ϗ;have aT:IntKind.i64.wrap (4*(j:Int)+1)=4*(j:Int)+1:=Ϗ;have aU:IntKind.i64.wrap (4*(j:Int)+2)=4*(j:Int)+2:=Ϗ;have aV:IntKind.i64.wrap (4*(j:Int)+3)=4*(j:Int)+3:=Ϗ;have bl:(0:Int)<=4*(j:Int):=U;have bm:4*(j:Int)<64:=U;have bn:4*(j:Int)+1<64:=U;have bo:4*(j:Int)+2<64:=U;have bp:4*(j:Int)+3<64:=U;have bq:(0:Int)<=4*(j:Int)+1:=U;have br:(0:Int)<=4*(j:Int)+2:=U;have bs:(0:Int)<=4*(j:Int)+3:=U;go_region_held3 (fun l=>l.cell? ⟨ac,ď+4*j,O⟩=J (ĭ .u8 ah)/\l.cell? ⟨ac,ď+(4*j+1),O⟩=J (ĭ .u8 ai)/\l.cell? ⟨ac,ď+(4*j+2),O⟩=J (ĭ .u8 aj)/\l.cell? ⟨ac,ď+(4*j+3),O⟩=J (ĭ .u8 ak)) (first|exact⟨b0,b1,b2,b3⟩|assumption|go_keep) (fail)
  clear aS aT aU aV b0 b1 b2 b3 bt b8 b9 n3;have au:=Zh (HW.o.set j (qg ah ai aj ak) bQ.o aF.o);have aq:BQ w (ŝ wr.drew ⟨w.heap.size+1+1,j,O⟩ (ĭ .u32 (qg ah ai aj ak))):=I.drew.S ό _;have ar:Below (w.heap.size+1+1) W (ŝ wr.drew ⟨w.heap.size+1+1,j,O⟩ (ĭ .u32 (qg ah ai aj ak))):=V.drew.S ύ _;unfold qg at au aq ar;go_wp2;go_roundw
  .exact⟨j+1,U,ϕ,au.o,aq,ar⟩
  exact ω
 .have bY:j=16:=U
  have b6:¬(j:Int)<16:=U;subst bY;clear aQ bX;go_wp2_with fail
  go_loopw [7] (fun k wr=>∃ n:Nat,n<=48/\k=G ((n:Int)+16)/\Hid (nR wr (w.heap.size+1+1) 64 418 (gd p n))/\BQ w wr/\Below (w.heap.size+1+1) W wr) (fun k _=>64 - (intOf k).toNat)
  .exact⟨0,U,rfl,HW,I,V⟩
  clear HW I V;obtain⟨n,b5,rfl,HW,I,V⟩:=hrel;by_cases aQ:n<48
  .have c7:(n:Int)+16<64:=U
   have bt:(0:Int)<=(n:Int):=U;have aH:=(HW.o.cell (i:=n) U).1;have a2:=(HW.o.cell (i:=n+1) U).1;have aI:=(HW.o.cell (i:=n+9) U).1;have a3:=(HW.o.cell (i:=n+14) U).1;obtain⟨cA,cU,cW⟩:=HW.o.cell (i:=n+16) U;obtain⟨de,df⟩:=qW p n n;obtain⟨bA,bB⟩:=qW p n (n+1);obtain⟨dg,dh⟩:=qW p n (n+9);obtain⟨bC,bD⟩:=qW p n (n+14);have a1:Hid (sd (gd p n n) (gd p n (n+1)) (gd p n (n+9)) (gd p n (n+14))=gd p (n+1) (n+16)):=by show _=_;simp[gd]
   have aF:Hid (∀ k,k<64->k≠n+16->gd p n k=gd p (n+1) k):=fun k _ hi=>by simp[gd,hi]
   generalize gd p n n=K at *;generalize gd p n (n+1)=N at *;generalize gd p n (n+9)=a at *;generalize gd p n (n+14)=P at *;generalize gd p n (n+16)=dd at *;have bu:IntKind.i64.wrap ((n:Int)+16 - 15)=(n:Int)+1:=Ϗ;have bv:IntKind.i64.wrap ((n:Int)+16 - 2)=(n:Int)+14:=Ϗ;have co:IntKind.i64.wrap ((n:Int)+16 - 16)=(n:Int):=Ϗ;have cp:IntKind.i64.wrap ((n:Int)+16 - 7)=(n:Int)+9:=Ϗ;have bw:((n:Int)+1).toNat=n+1:=U;have bx:((n:Int)+14).toNat=n+14:=U;have cr:((n:Int)+9).toNat=n+9:=U;have cs:((n:Int)+16).toNat=n+16:=U;have ah:(0:Int)<=(n:Int)+1:=U;have ai:(0:Int)<=(n:Int)+14:=U;have aj:(0:Int)<=(n:Int)+9:=U;have ak:(0:Int)<=(n:Int)+16:=U;have c9:(n:Int)+1<64:=U;have da:(n:Int)+14<64:=U;have db:(n:Int)+9<64:=U;have dc:(n:Int)<64:=U;go_wp2_with fail
   go_region_held3 (fun l=>l.cell? ⟨w.heap.size+1+1,n+1,O⟩=J (ĭ .u32 N)/\l.cell? ⟨w.heap.size+1+1,n+14,O⟩=J (ĭ .u32 P)) (first|exact⟨a2,a3⟩|assumption|go_keep) (fail)
   go_wp2_with (first
    |(go_at_call 332;(with_reducible refine(OP _ _ bA bB).M ?_);rintro e w' ⟨rfl,rfl⟩)
    |(go_at_call 332;(with_reducible refine(OI _ _ bA bB).M ?_);rintro e w' ⟨rfl,rfl⟩)
    |(go_at_call 332;(with_reducible refine(OH _ _ bC bD).M ?_);rintro e w' ⟨rfl,rfl⟩)
    |(go_at_call 332;(with_reducible refine(OJ _ _ bC bD).M ?_);rintro e w' ⟨rfl,rfl⟩))
   obtain⟨b7,l1⟩:=uD .xor (bits BinOp.xor IntKind.u32 (gN 33554432 128 N) (gN 16384 262144 N)) (N / 8) (.inr (.inr (.inl rfl)));obtain⟨av,aw⟩:=uD .xor (bits BinOp.xor IntKind.u32 (gN 32768 131072 P) (gN 8192 524288 P)) (P / 1024) (.inr (.inr (.inl rfl)));change Hid ((K+bits BinOp.xor IntKind.u32 (bits BinOp.xor IntKind.u32 (gN 33554432 128 N) (gN 16384 262144 N)) (N / 8)+a+bits BinOp.xor IntKind.u32 (bits BinOp.xor IntKind.u32 (gN 32768 131072 P) (gN 8192 524288 P)) (P / 1024)) % 4294967296=gd p (n+1) (n+16))at a1;generalize bits BinOp.xor IntKind.u32 (bits BinOp.xor IntKind.u32 (gN 33554432 128 N) (gN 16384 262144 N)) (N / 8)=Q at *;generalize bits BinOp.xor IntKind.u32 (bits BinOp.xor IntKind.u32 (gN 32768 131072 P) (gN 8192 524288 P)) (P / 1024)=am at *;have au:=Zh (HW.o.set (n+16) ((K+Q+a+am) % 4294967296) a1.o aF.o);have aq:BQ w (ŝ wr ⟨w.heap.size+1+1,n+16,O⟩ (ĭ .u32 ((K+Q+a+am) % 4294967296))):=I.S ό _;have cq:IntKind.i64.wrap (n:Int)=(n:Int):=Ϗ;have ar:Below (w.heap.size+1+1) W (ŝ wr ⟨w.heap.size+1+1,n+16,O⟩ (ĭ .u32 ((K+Q+a+am) % 4294967296))):=V.S ύ _;have r1:IntKind.u32.wrap (K+Q)=(K+Q) % 4294967296:=by rw[iV]
   have r2:IntKind.u32.wrap ((K+Q) % 4294967296+a)=(K+Q+a) % 4294967296:=by rw[iV];omega
   have r3:IntKind.u32.wrap ((K+Q+a) % 4294967296+am)=(K+Q+a+am) % 4294967296:=by rw[iV];omega
   go_region_held3 (fun l=>l.cell? ⟨w.heap.size+1+1,n,O⟩=J (ĭ .u32 K)/\l.cell? ⟨w.heap.size+1+1,n+9,O⟩=J (ĭ .u32 a)) (first|exact⟨aH,aI⟩|assumption|exact⟨DR aH U,DR aI U⟩) (fail)
   clear r1 r2 r3 cq bu bv co cp bw bx cr cs aH a2 aI a3;go_wp2;go_roundw
   .exact⟨n+1,U,ϕ,au.o,aq.drew.drew,ar.drew.drew⟩
   exact ω
  .obtain rfl:n=48:=U
   have kn:¬((48:Nat):Int)+16<64:=U;clear aQ b5;go_wp2_with fail
   have bM:Hid (∀ k,k<64->wr.cell? ⟨w.heap.size+1+1,k,O⟩=J (ĭ .u32 (gd p 48 k))):=fun k hi=>(HW.o.cell hi).1;have o:=(V.block (w.heap.size+1) U).trans bI.o;have b4:=ς o;obtain⟨-,-,cY⟩:=HW.o.cell (i:=0) U;have bL:=Zh o;clear HW o;obtain⟨aW,rfl⟩:∃ aW:β,aW=wr:=⟨_,rfl⟩;have R:=(V.block w.heap.size U).trans bH.o;have c0:=ξ _ _ 0 _ _ _ R;have c1:=ξ _ _ 1 _ _ _ R;have c2:=ξ _ _ 2 _ _ _ R;have X:=ξ _ _ 3 _ _ _ R;have Y:=ξ _ _ 4 _ _ _ R;have Z:=ξ _ _ 5 _ _ _ R;have aa:=ξ _ _ 6 _ _ _ R;have ab:=ξ _ _ 7 _ _ _ R;simp only[mD,pB,ol]at c0 c1 c2 X Y Z aa ab;clear R;go_region_held3 (fun l=>l.cell? ⟨w.heap.size,0,O⟩=J (ĭ .u32 r)/\l.cell? ⟨w.heap.size,1,O⟩=J (ĭ .u32 t)/\l.cell? ⟨w.heap.size,2,O⟩=J (ĭ .u32 u)/\l.cell? ⟨w.heap.size,3,O⟩=J (ĭ .u32 x)) (first|exact⟨c0,c1,c2,X⟩|assumption) (fail)
   go_wp2_with fail
   go_region_held3 (fun l=>l.cell? ⟨w.heap.size,4,O⟩=J (ĭ .u32 y)/\l.cell? ⟨w.heap.size,5,O⟩=J (ĭ .u32 z)/\l.cell? ⟨w.heap.size,6,O⟩=J (ĭ .u32 A)/\l.cell? ⟨w.heap.size,7,O⟩=J (ĭ .u32 B)) (first|exact⟨Y,Z,aa,ab⟩|assumption) (fail)
   go_wp2_with fail
   obtain⟨aZ,bG⟩:=π I (Ν c0 (Ν c1 (Ν c2 (Ν X (Ν Y (Ν Z (Ν aa ab)))))));clear c0 c1 c2 X Y Z aa ab I V;go_loopw [12,13,14,15,16,17,18,19,124] (fun d0 d3 c d e f g h k M=>∃ (m:Nat) (s:S8),m<=64/\k=G (m:Int)/\d0=ĭ .u32 s.a/\d3=ĭ .u32 s.b/\c=ĭ .u32 s.c/\d=ĭ .u32 s.d/\e=ĭ .u32 s.e/\f=ĭ .u32 s.f/\g=ĭ .u32 s.g/\h=ĭ .u32 s.h/\Hid (qe ⟨r,t,u,x,y,z,A,B⟩ p m=s)/\BQ aW M) (fun _ _ _ _ _ _ _ _ k _=>64 - (intOf k).toNat)
   .exact⟨0,⟨r,t,u,x,y,z,A,B⟩,U,rfl,rfl,rfl,rfl,rfl,rfl,rfl,rfl,rfl,rfl,RZ.drew.drew⟩
   obtain⟨m,⟨ad,ae,af,ag,E,S,T,q⟩,bd,rfl,rfl,rfl,rfl,rfl,rfl,rfl,rfl,rfl,aG,b⟩:=hrel;have al:=bK.o m;rw[aG.o]at al;obtain⟨⟨aC,aA⟩,⟨aD,ci⟩,⟨aX,cj⟩,⟨aY,ck⟩,⟨aE,aB⟩,⟨cw,cl⟩,⟨cx,cm⟩,⟨cy,cn⟩⟩:=al;dsimp only at aC aA aD ci aX cj aY ck aE aB cw cl cx cm cy cn;by_cases be:m<64
   .have c6:(m:Int)<64:=U
    have c3:(0:Int)<=(m:Int):=U;have aJ:=ζ b (bM.o m be);have a5:=ζ b (ζ (aZ.o) (bP.o m be));obtain⟨bw,bx⟩:=Pa m;obtain⟨bu,bv⟩:=qW p 48 m;have bO:Hid (qe ⟨r,t,u,x,y,z,A,B⟩ p (m+1)=pY (oL m) (gd p 48 m) ⟨ad,ae,af,ag,E,S,T,q⟩):=by show _=_;unfold qe;rw[aG.o]
    generalize oL m=kx at *;generalize gd p 48 m=M at *;go_wp2_with (first
     |(go_at_call 332;(with_reducible refine(OO _ _ aE aB).M ?_);rintro e w' ⟨rfl,rfl⟩)
     |(go_at_call 332;(with_reducible refine(OF _ _ aE aB).M ?_);rintro e w' ⟨rfl,rfl⟩)
     |(go_at_call 332;(with_reducible refine(ON _ _ aE aB).M ?_);rintro e w' ⟨rfl,rfl⟩))
    obtain⟨b7,l1⟩:=uD .xor (bits BinOp.xor IntKind.u32 (gN 67108864 64 E) (gN 2097152 2048 E)) (gN 128 33554432 E) (.inr (.inr (.inl rfl)));obtain⟨av,aw⟩:=uD .xor (bits BinOp.and IntKind.u32 E S) (bits BinOp.and IntKind.u32 (bits BinOp.xor IntKind.u32 IntKind.u32.max E) T) (.inr (.inr (.inl rfl)));obtain⟨F,ay⟩:∃ F,F=vK E:=⟨_,rfl⟩;obtain⟨H,ax⟩:∃ H,H=uI E S T:=⟨_,rfl⟩;obtain⟨bN,bF⟩:=π ay ax;unfold vK at ay;unfold uI at ax;rw[<-ay]at *;rw[<-ax]at *;clear ay ax;have r1:IntKind.u32.wrap (q+F)=(q+F) % 4294967296:=by rw[iV]
    have r2:IntKind.u32.wrap ((q+F) % 4294967296+H)=(q+F+H) % 4294967296:=by rw[iV];omega
    have r3:IntKind.u32.wrap ((q+F+H) % 4294967296+kx)=(q+F+H+kx) % 4294967296:=by rw[iV];omega
    have r4:IntKind.u32.wrap ((q+F+H+kx) % 4294967296+M)=(q+F+H+kx+M) % 4294967296:=by rw[iV];omega
    go_region_held3 (fun l=>l.cell? ⟨w.heap.size+1+1,m,O⟩=J (ĭ .u32 M)/\l.cell? ⟨4,m,O⟩=J (ĭ .u32 kx)) (first|exact⟨aJ,a5⟩|assumption) (fail)
    clear r1 r2 r3 r4 aJ a5;have a0:Hid (tl kx M ⟨ad,ae,af,ag,E,S,T,q⟩=(q+F+H+kx+M) % 4294967296):=by
     show _=_;unfold tl;rw[<-bN.o,<-bF.o]
    obtain⟨c8,o1⟩:=oP (q+F+H+kx+M);generalize(q+F+H+kx+M) % 4294967296=cz at *;go_wp2_with (first
     |(go_at_call 332;(with_reducible refine(OK _ _ aC aA).M ?_);rintro e w' ⟨rfl,rfl⟩)
     |(go_at_call 332;(with_reducible refine(OG _ _ aC aA).M ?_);rintro e w' ⟨rfl,rfl⟩)
     |(go_at_call 332;(with_reducible refine(OM _ _ aC aA).M ?_);rintro e w' ⟨rfl,rfl⟩))
    go_roundw
    .refine⟨m+1,pY kx M ⟨ad,ae,af,ag,E,S,T,q⟩,U,ϕ,?_,rfl,rfl,rfl,?_,rfl,rfl,rfl,bO.o,b.drew⟩
     .exact jp (Value.int .u32) (by simp only[pY,a0.o];rfl)
     .exact jp (Value.int .u32) (by simp only[pY,a0.o])
    exact ω
   .obtain rfl:m=64:=U
    obtain⟨c0,c1,c2,X,Y,Z,aa,ab⟩:=bG.o;have cB:=ζ b c0;have d1:=ζ b c1;have d2:=ζ b c2;have cC:=ζ b X;have cD:=ζ b Y;have cE:=ζ b Z;have cF:=ζ b aa;have cG:=ζ b ab;clear c0 c1 c2 X Y Z aa ab;have o:=(b.block _ b4).trans bL.o;have aK:=ξ _ _ 0 _ _ _ o;have aL:=ξ _ _ 1 _ _ _ o;have aM:=ξ _ _ 2 _ _ _ o;have aN:=ξ _ _ 3 _ _ _ o;have cL:=ξ _ _ 4 _ _ _ o;have cM:=ξ _ _ 5 _ _ _ o;have cN:=ξ _ _ 6 _ _ _ o;have cO:=ξ _ _ 7 _ _ _ o;have cP:=ϧ _ _ 0 _ _ o;have f1:=ϧ _ _ 1 _ _ o;have f2:=ϧ _ _ 2 _ _ o;have f3:=ϧ _ _ 3 _ _ o;have cQ:=ϧ _ _ 4 _ _ o;have cR:=ϧ _ _ 5 _ _ o;have cS:=ϧ _ _ 6 _ _ o;have cT:=ϧ _ _ 7 _ _ o;have bU:=aZ.o.t b;have bE:Hid (lR ⟨r,t,u,x,y,z,A,B⟩ p=uy ⟨r,t,u,x,y,z,A,B⟩ ⟨ad,ae,af,ag,E,S,T,q⟩):=by
     show _=_;unfold lR;rw[aG.o]
    have av:=υ wr (w.heap.size+1) 0 _ _ (ĭ .u32 ((r+ad) % 4294967296)) o;have aw:=υ _ (w.heap.size+1) 1 _ _ (ĭ .u32 ((t+ae) % 4294967296)) av;have a6:=υ _ (w.heap.size+1) 2 _ _ (ĭ .u32 ((u+af) % 4294967296)) aw;have a7:=υ _ (w.heap.size+1) 3 _ _ (ĭ .u32 ((x+ag) % 4294967296)) a6;have a8:=υ _ (w.heap.size+1) 4 _ _ (ĭ .u32 ((y+E) % 4294967296)) a7;have a9:=υ _ (w.heap.size+1) 5 _ _ (ĭ .u32 ((z+S) % 4294967296)) a8;have ba:=υ _ (w.heap.size+1) 6 _ _ (ĭ .u32 ((A+T) % 4294967296)) a9;obtain⟨bT,bW⟩:=π (υ _ (w.heap.size+1) 7 _ _ (ĭ .u32 ((B+q) % 4294967296)) ba) ((((((((bU.S (p:=⟨w.heap.size+1,0,O⟩) ύ (ĭ .u32 ((r+ad) % 4294967296))).S (p:=⟨w.heap.size+1,1,O⟩) ύ (ĭ .u32 ((t+ae) % 4294967296))).S (p:=⟨w.heap.size+1,2,O⟩) ύ (ĭ .u32 ((u+af) % 4294967296))).S (p:=⟨w.heap.size+1,3,O⟩) ύ (ĭ .u32 ((x+ag) % 4294967296))).S (p:=⟨w.heap.size+1,4,O⟩) ύ (ĭ .u32 ((y+E) % 4294967296))).S (p:=⟨w.heap.size+1,5,O⟩) ύ (ĭ .u32 ((z+S) % 4294967296))).S (p:=⟨w.heap.size+1,6,O⟩) ύ (ĭ .u32 ((A+T) % 4294967296))).S (p:=⟨w.heap.size+1,7,O⟩) ύ (ĭ .u32 ((B+q) % 4294967296)));clear o av aw a6 a7 a8 a9 ba;obtain⟨⟨ah,ca⟩,⟨ai,cb⟩,⟨aj,cc⟩,⟨ak,cd⟩,⟨bz,ce⟩,⟨ct,cf⟩,⟨cu,cg⟩,⟨cv,ch⟩⟩:=bJ.o;dsimp only at ah ca ai cb aj cc ak cd bz ce ct cf cu cg cv ch;go_wp2;refine Ω (v:=ā #[ĭ .u32 ((r+ad) % 4294967296),ĭ .u32 ((t+ae) % 4294967296),ĭ .u32 ((u+af) % 4294967296),ĭ .u32 ((x+ag) % 4294967296),ĭ .u32 ((y+E) % 4294967296),ĭ .u32 ((z+S) % 4294967296),ĭ .u32 ((A+T) % 4294967296),ĭ .u32 ((B+q) % 4294967296)]) (jf (p:=4) (ty:=315) rfl _ _ (w.heap.size+1) 315 _ (0,0) _ rfl bT.o underlying315 rfl ϋ) rfl ⟨?_,bW.o⟩;rw[bE.o];rfl
