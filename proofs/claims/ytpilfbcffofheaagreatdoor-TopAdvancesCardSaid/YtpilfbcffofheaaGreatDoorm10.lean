/- Part 10 of the proof. -/
import Derived.Test.YtpilfbcffofheaaGreatDoorm08
import Derived.Test.YtpilfbcffofheaaGreatDoorm09
set_option linter.all false
set_option maxRecDepth 100000
set_option maxHeartbeats 16000000
namespace Go.Proofs.YtpilfbcffofheaaGreatDoor
open Go.RowKit Go.Proofs.Tryz Go.Sort
open Value renaming slice->D,int->ĭ,agg->ā,string->š
open Option renaming none->O,some->J
open List renaming length->L
open Obj renaming cells->C
open Ending renaming returned->ŗ
open World renaming alloc->å,setCell->ŝ
def KS:(prog.info? 84).map (fun i=>(i.zero,i.size,i.bytes))=J (J (ā #[G 0,D O 0 0]),2,32):=ϋ
def Ih (i) (v:ε) (b:γ) (ba bc wa wn) (bl:ϸ) (ws:ht) (w:β) (az:Ε w (D ba (L bl) bc) bl) (aL:iu w (D wa (L ws) wn) ws) (S:jg bl ws) (hi:i<L bl) (T:Rd w v 64 1 (η b)) (bH:L ws<1000) :
  Calls prog 222 #[ā #[D ba (L bl) bc,D wa (L ws) wn],G i,v] w fun e w'=>∃ l aw c1,e=ŗ (.tuple #[ā #[D (J ⟨l,0,O⟩) (L bl) (L bl),D aw (L ws+1) c1],G 0])/\Hi w.heap.size w' (fun A=>Ε A (D (J ⟨l,0,O⟩) (L bl) (L bl)) bl/\iu A (D aw (L ws+1) c1) (ws++[(i,b)]))/\BQ w w':=by
 obtain⟨aS,aJ,aN,aO,aP⟩:=Ϩ KS;have aB:L b=64:=by have:=T.1;simpa[η] using this
 obtain⟨bO,bP,rfl⟩:=sK (show Rd w v _ 1 _ by rw[aB];exact T);rw[aB]at T ⊢;have a7:=Zh (fun d (f:BQ w d)=>uF ba _ bc wa _ wn bl ws d (az.B f) (aL.B f) S);have a4:=Zh (fun d (f:BQ w d)=>zh ba bc (D wa (L ws) wn) bl d (az.B f) U S.nb S.lb);have aX:=Zh (fun d (f:BQ w d)=>zf _ b d (T.B f));obtain⟨bQ,bR,aK,HW⟩:=yg aL;simp only[Χ,ϵ]at aK;obtain⟨rfl,rfl⟩:=aK;have a0:=Zh (fun a aC=>S.lw ws[a] (Ψ aC));have bI:¬(i:Int)<0:=U;have bf:BQ w (å (å w (C #[D ba (L bl) bc,D wa (L ws) wn] 41)) (C #[D O 0 0,D O 0 0] 41)):=ġ.A ύ _;go_enter func222,ntmps222;go_wp2_with fail
 refine(a7.o _ bf).M ?_;rintro e aT ⟨rfl,bg⟩;obtain⟨aE,bp,bS,bT,bm⟩:=fZ bg;obtain⟨⟨aQ,aR⟩,⟨ay,f1⟩,-⟩:=ν aE;have aF:=fS aE (D ba (L bl) bc) (D wa (L ws) wn);have aG:=(jH aT w.heap.size _ U (D ba (L bl) bc) (D wa (L ws) wn)).trans bp;have aA:=ga bm NZ (D ba (L bl) bc) (D wa (L ws) wn);go_upto_region 2 with fail
 generalize ŝ (ŝ aT _ _) _ _=av at *;obtain⟨⟨aQ,aR⟩,⟨ay,f1⟩,bX⟩:=ν aF;obtain⟨-,-,bY⟩:=ν aG;go_wp2_with fail
 refine(a4.o av aA).M ?_;rintro e c ⟨bG,l,rfl,hF,aj⟩;have bo:=θ aF aj;obtain⟨⟨aQ,aR⟩,⟨ay,f1⟩,bZ⟩:=ν bo;have bj:BQ c (å c (C #[D (J ⟨l,0,O⟩) (L bl) (L bl),D O 0 0] 41)):=ġ;have bh:=aA.t aj;have br:=φ c (C #[D (J ⟨l,0,O⟩) (L bl) (L bl),D O 0 0] 41);have bu:=bj;obtain⟨au,a1,aY⟩:=ϲ bh (θ aG aj) hF;go_wp2;go_loopw [38] (fun i wr=>∃ (a:Nat) (V:ε),a<=L ws/\i=G (a:Int)/\Hid (wr.heap[c.heap.size]?=J (C #[D (J ⟨l,0,O⟩) (L bl) (L bl),V] 41 (0,0)))/\Hid (kK (c.heap.size+1) wr V (ws.take a))/\BQ c wr) (fun i _=>L ws - (intOf i).toNat)
 .exact⟨0,_,Ζ _,rfl,br,kK.nil _ _,bu⟩
 obtain⟨a,V,aC,rfl,ad,ae,am⟩:=hrel;obtain⟨⟨c0,c1⟩,⟨W,X⟩,aU⟩:=ν ad.o;have R:=au.o.t am;have bt:∃ af ag,V=D af a ag:=by
  obtain⟨P,Z,-⟩:=ae.o;obtain⟨af,ag,be⟩:=Η Z;exact⟨af,ag,by rw[be];congr 1;simp;omega⟩
 obtain⟨y,z,rfl⟩:=bt;by_cases ao:a<L ws
 .obtain⟨bL,off,da,dc,rfl,bA,bB,aI⟩:=HW.o a ao
  obtain⟨p1,p2⟩:=a0.o a ao;have bv:(a:Int)<(L ws:Int):=U;have bJ:(0:Int)<=(a:Int):=U;have bK:=ζ R bA;have l1:=ζ R bB;rw[p2]at l1 aI;have aW:=Zh (fun d (f:BQ w d)=>zf _ ws[a].2 d (aI.B f));have a5:Hid (ws.take (a+1)=ws.take a++[(ws[a].1,ws[a].2)]):=by show _=_;rw[jt ao]
  have a6:Hid (L (ws.take a)=a):=by show _=_;simp;omega
  have bC:=Zh p2;generalize ws[a].1=F at *;generalize ws[a].2=ax at *;have Q:BQ wr (å wr (C #[G F,D da 64 dc] 84)):=ġ;have bk:=R.t Q;have bi:=am.t Q;have B:=Zh (ae.o.B Q);have bq:=φ wr (C #[G F,D da 64 dc] 84);have N:=Zh (θ ad.o Q);go_wp2_with fail
  generalize(å wr _)=E at *;obtain⟨⟨bw,bx⟩,-,-⟩:=ν bq;obtain⟨⟨c0,c1⟩,⟨W,X⟩,aU⟩:=ν N.o;have k:BQ E E.drew:=RZ.drew;refine ϯ (fun d=>BQ E d) 9 ϋ ?_;refine Zf 0 k ?_;refine Zk 1 k ?_ (hy:=by intro d f;have bd:=ζ f c1;go_simp;try with_reducible rfl);refine Zf 2 k ?_;refine Zb 3 [7,8,9] k ?_ (hy:=by intro d f;have bE:=ζ f bw;go_simp;try with_reducible rfl);refine Zf 4 k ?_;refine Zb 5 [6,7,8,9] k ?_ (hy:=by intro d f;have bF:=ζ f bx;go_simp;try with_reducible rfl);refine Κ (fuel:=5) 6 ϋ rfl ?_;intro K n;go_simp;refine(aW.o _ (bk.t k)).M ?_;rintro e u ⟨s,rfl,ar,al⟩;have q:BQ E u:=k.trans al;refine n _ _ q ?_;try simp only[Act.put]
  refine Zf 7 q ?_;refine Κ  8 ϋ rfl ?_;intro K n;go_simp;refine n _ _ (q.al _) ?_;have m:=Zh (q.al (C #[G F,D (J ⟨s,0,O⟩) 64 64] 84));obtain⟨P,aq,ai,ah⟩:=B.o.B m.o;have an:Α (kJ (c.heap.size+1) (D y a z)) (å u (C #[G F,D (J ⟨s,0,O⟩) 64 64] 84)) (fun A=>Rd A (D (J ⟨s,0,O⟩) 64 64) (L ax) 1 (η ax)):=by
   have ap:∀ g,(Value.slice y a z).ownBlock=J g->g<E.drew.heap.size:=by
    obtain⟨bb,Z,-⟩:=B.o;exact fun g hg=>(Ϡ Z g hg).2
   exact Α.of_ownB (ar.A _) (by simp only[World.drew];omega) ap
  obtain⟨r,b0,aa,b1⟩:=hV aq ai ah an;have aD:=a6.o;refine jF  ϋ ϋ rfl ?_;intro K n;refine lD rfl _ _ _ _ rfl _ 84 aS _ 2 _ tR aJ aN aO aP rfl _ _ P ϔ r.o _ 1 [G F,D _ _ _] ϔ (gh tR u _ 2 1 1 rfl ϗ) ώ U (ι m.o.size) ?_;intro bz o x t Y;refine n _ _ ?_;obtain⟨h,j,rfl⟩:=Η x;rw[aD]at x Y;refine Ze 10 ?_;have ab:Hid (kK (c.heap.size+1) o (D h (a+1) j) (ws.take (a+1))):=by
   show kK _ _ _ _;rw[a5.o];exact kK.snoc r.o b0.o aa.o b1.o (by rw[aD];exact x) t Y
  have M:=fun g hg=>(Ϡ r.o g hg).1;have I:o.heap[c.heap.size]?=J (C #[D (J ⟨l,0,O⟩) (L bl) (L bl),D y a z] 41 (0,0)):=by
   rw[t.block _ (ι m.o.size) (fun e=>ι (M _ e.symm))];exact θ N.o m.o
  have ak:BQ c o:=(bi.t m.o).grown t (ι m.o.size) (fun g hg=>ι (M g hg));obtain⟨⟨c0,c1⟩,⟨W,X⟩,aU⟩:=ν I;refine Ze 11 ?_;refine Zd ?_;have a2:Hid ((ŝ o ⟨c.heap.size,1,O⟩ (D h (a+1) j)).heap[c.heap.size]?=J (C #[D (J ⟨l,0,O⟩) (L bl) (L bl),D h (a+1) j] 41 (0,0))):=υ _ _ 1 _ _ _ I;have ac:=Zh (ab.o.set (p:=⟨c.heap.size,1,O⟩) ύ (D h (a+1) j));have H:=ak.S (p:=⟨c.heap.size,1,O⟩) NZ (D h (a+1) j);go_wp2_with fail
  go_roundw
  .exact⟨ _,_,U,ϕ,a2.o,ac.o,H⟩
  exact ω
 .have bv:¬(a:Int)<(L ws:Int):=U
  obtain rfl:a=L ws:=U;have aM:=ae.o;rw[nL]at aM;have B:=Zh aM;have N:=ad;go_wp2_with fail
  have k:BQ wr wr.drew:=RZ.drew;refine ϯ (fun d=>BQ wr d) 7 ϋ ?_;refine Zf 0 k ?_;refine Zk 1 k ?_ (hy:=by intro d f;have bd:=ζ f c1;go_simp;try with_reducible rfl);refine Zf 2 k ?_;refine Zf 3 k ?_;refine Κ (fuel:=5) 4 ϋ rfl ?_;intro K n;go_simp;refine(aX.o _ (R.t k)).M ?_;rintro e u ⟨s,rfl,ar,al⟩;have q:BQ wr u:=k.trans al;refine n _ _ q ?_;try simp only[Act.put]
  refine Zf 5 q ?_;refine Κ  6 ϋ rfl ?_;intro K n;go_simp;refine n _ _ (q.al _) ?_;have m:=Zh (q.al (C #[G i,D (J ⟨s,0,O⟩) 64 64] 84));obtain⟨P,aq,ai,ah⟩:=B.o.B m.o;have an:Α (kJ (c.heap.size+1) (D y (L ws) z)) (å u (C #[G i,D (J ⟨s,0,O⟩) 64 64] 84)) (fun A=>Rd A (D (J ⟨s,0,O⟩) 64 64) (L b) 1 (η b)):=by
   have ap:∀ g,(Value.slice y (L ws) z).ownBlock=J g->g<wr.drew.heap.size:=by
    obtain⟨bb,Z,-⟩:=B.o;exact fun g hg=>(Ϡ Z g hg).2
   exact Α.of_ownB (ar.A _) (by simp only[World.drew];omega) ap
  obtain⟨r,b0,aa,b1⟩:=hV aq ai ah an;refine jF  ϋ ϋ rfl ?_;intro K n;refine lD rfl _ _ _ _ rfl _ 84 aS _ 2 _ tR aJ aN aO aP rfl _ _ P ϔ r.o _ 1 [G i,D _ _ _] ϔ (gh tR u _ 2 1 1 rfl ϗ) ώ U (ι m.o.size) ?_;intro bz o x t Y;refine n _ _ ?_;obtain⟨h,j,rfl⟩:=Η x;refine Ze 8 ?_;have ab:Hid (kK (c.heap.size+1) o (D h (L ws+1) j) (ws++[(i,b)])):=kK.snoc r.o b0.o aa.o b1.o x t Y;have M:=fun g hg=>(Ϡ r.o g hg).1;have I:o.heap[c.heap.size]?=J (C #[D (J ⟨l,0,O⟩) (L bl) (L bl),D y (L ws) z] 41 (0,0)):=by
   rw[t.block _ (ι m.o.size) (fun e=>ι (M _ e.symm))];exact θ N.o m.o
  have ak:BQ c o:=(am.t m.o).grown t (ι m.o.size) (fun g hg=>ι (M g hg));obtain⟨⟨c0,c1⟩,⟨W,X⟩,bU⟩:=ν I;refine Ze 9 ?_;refine Zd ?_;have bs:=υ o _ 1 _ _ (D h (L ws+1) j) I;have H:=ak.S (p:=⟨c.heap.size,1,O⟩) NZ (D h (L ws+1) j);have ac:=Zh (ab.o.set (p:=⟨c.heap.size,1,O⟩) ύ (D h (L ws+1) j));generalize ŝ o _ _=a9 at *;obtain⟨⟨c0,c1⟩,⟨W,X⟩,bV⟩:=ν (show a9.heap[c.heap.size]?=J _ from bs);have aH:=θ a1.o H;obtain⟨⟨bD,d1⟩,⟨bM,bN⟩,bW⟩:=ν aH;have bn:=au.o.t H;obtain⟨a3,aV,aZ,a8⟩:=hV (fS aH (D (J ⟨l,0,O⟩) (L bl) (L bl)) (D h (L ws+1) j)) (ga bn (gu _ 1) (D (J ⟨l,0,O⟩) (L bl) (L bl)) (D h (L ws+1) j)) ((((aY.o.B H).set (p:=⟨ _,0,O⟩) ϑ (D (J ⟨l,0,O⟩) (L bl) (L bl))).set (p:=⟨ _,1,O⟩) ϑ (D h (L ws+1) j)).hi.M (U:w.heap.size<=av.heap.size)) (((ac.o.set (p:=⟨w.heap.size+1,0,O⟩) ϑ (D (J ⟨l,0,O⟩) (L bl) (L bl))).set (p:=⟨w.heap.size+1,1,O⟩) ϑ (D h (L ws+1) j)).hi.M (U:w.heap.size<=c.heap.size+1));go_wp2;exact Ω  (gz    rfl _ _ _ _ _ _ _ rfl a3.o qh rfl ϋ) rfl ⟨l,h,j,rfl,aZ.o.and a8.o,aV.o⟩
def DQ (ba bc wa wn) (p:ϸ) (q:ht) (w:β) (g:Ε w (D ba (L p) bc) p) (j:iu w (D wa (L q) wn) q) (d:jg p q) (m:2<=L p) :
  Calls prog 155 #[ā #[D ba (L p) bc,D wa (L q) wn]] w fun e w'=>e=ŗ (G ((Ϯ p:Nat):Int))/\BQ w w':=by
 have n:=d.nb;have f:=Zh (fun a (b:BQ w a)=>Ci ba bc wa wn p q a (g.B b) (j.B b) d);have c:BQ w (å w (C #[D ba (L p) bc,D wa (L q) wn] 41)):=ġ;have k:IntKind.i64.wrap ((L p:Int) - 2)=(L p:Int) - 2:=Ϗ;have l:IntKind.i64.wrap (((L p:Int) - 2)*64)=((Ϯ p:Nat):Int):=by unfold Ϯ;rw[kD];omega
 go_enter func155,ntmps155;go_wp2_with fail
 refine(f.o _ c).M ?_;rintro e o ⟨rfl,h⟩;have i:=c.t h;go_wp2;go_ret;exact⟨rfl,i⟩
def Bq (n) (a:0<=n) (b:n<2 ^ 64):IntKind.u64.wrap n=n:=by rw[IntKind.wrap_u64];omega
def An:∀ (k v:Nat) (l:γ),k<L l->fM (k+1) v l=fM k v l*256+(l.getD k 0).toNat
 |0,v,[],h=>by simp at h
 |0,v,c::r,h=>by simp[fM]
 |k+1,v,[],h=>by simp at h
 |k+1,v,c::r,h=>by
  rw[fM,An k _ r (by simpa using h),fM];simp
def Ei:∀ (k:Nat) (l:γ),k<=L l->fM k 0 l<256 ^ k
 |0,l,h=>by simp[fM]
 |k+1,l,h=>by
  have:=Ei k l U;rw[An k 0 l U,jq];have:=(l.getD k 0).toNat_lt;omega
def DP (ao n c) (d:γ) (w:β) (F:8<=n) (h:Rd w (D ao n c) n 1 (η d)) :
  Calls prog 247 #[D ao n c] w fun e w'=>e=ŗ (.tuple (if fM 8 0 d<=4611686018427387904 then #[G ((fM 8 0 d:Nat):Int),.bool true]else #[G 0,.bool false]))/\w=w':=by
 have z:L d=n:=by have:=h.1;simpa[η] using this
 obtain⟨-,-,⟨u,m,f,o⟩|⟨b,off,m,f,o,K,B,p⟩⟩:=h
 .omega
 simp only[Χ,ϵ]at f;obtain⟨rfl,rfl⟩:=f;have k:Hid (∀ a (i:a<8),w.cell? ⟨b,off+a,O⟩=J (ĭ .u8 ((d.getD a 0).toNat:Int))):=fun a i=>by
  refine p a _ ?_;simp only[η,jP,fX];rw[Ρ U];rfl
 have v:8<=c:=U;go_enter func247,ntmps247;go_wp2;go_loop [4,10] (fun j g=>∃ a:Nat,a<=8/\g=G (a:Int)/\j=ĭ .u64 ((fM a 0 d:Nat):Int)) (fun j g=>8 - (intOf g).toNat)
 .exact⟨0,Ζ _,rfl,by simp[fM]⟩
 obtain⟨a,i,rfl,rfl⟩:=hrel;by_cases q:a<8
 .have t:(a:Int)<8:=U
  have A:=k.o a q;have s:=An a 0 d U;have I:=(d.getD a 0).toNat_lt;have f:fM a 0 d<256 ^ 7:=om (Ei a d U) (wg ϐ U);have l:=Zh s;generalize(d.getD a 0).toNat=x at *;generalize fM a 0 d=y at *;have H:=bits_join _ _ ϐ Bq 8 (y*256) x U U U U U U;go_wp2
  go_round
  .exact⟨a+1,U,ϕ,by rw[l.o];go_num⟩
  exact ω
 .have t:¬(a:Int)<8:=U
  obtain rfl:a=8:=U;by_cases E:fM 8 0 d<=4611686018427387904
  .have r:¬(4611686018427387904:Int)<((fM 8 0 d:Nat):Int):=U
   go_wp2;go_ret2;exact⟨rfl,rfl⟩
  .have r:(4611686018427387904:Int)<((fM 8 0 d:Nat):Int):=U
   go_wp2;go_ret2;exact⟨rfl,rfl⟩
def lS (s k):(gV s k).toNat=s / 256 ^ (7 - k) % 256:=by
 unfold gV;rw[yn];exact Nat.mod_eq_of_lt (lI _ ϐ)
def qZ (s u:Nat):Nat->γ
 |0=>List.replicate 64 0
 |k+1=>((qZ s u k).set k (gV s k)).set (8+k) (gV u k)
theorem AR (s u):∀ k,L (qZ s u k)=64
 |0=>by simp[qZ]
 |k+1=>by simp[qZ,AR s u k]
theorem PN (s u):qZ s u 8=ny s u++List.replicate 32 0:=rfl
def Fk {w:β} {g k} {L:γ} {T} (h:w.heap[g]?=J (C (η L).toArray T (0,0))) (a:k<L.length):∃ v,w.cell? ⟨g,k,O⟩=J v:=by
 rw[ξ _ _ _ _ _ _ h];refine⟨ĭ .u8 (ch L[k]),?_⟩;simp[η,a]
def lY {w:β} {g k} {L:γ} {T} (h:w.heap[g]?=J (C (η L).toArray T (0,0))) (x):(ŝ w ⟨g,k,O⟩ (ĭ .u8 (x.toNat:Int))).heap[g]?=J (C (η (L.set k x)).toArray T (0,0)):=by
 have:=υ w g k _ T (ĭ .u8 x.toNat) h;rw[this]
 congr 2
 simp[η,ch]
def DS (s u:Nat) (w:β) (ac:s<=4611686018427387904) (ad:u<=4611686018427387904) :
  Calls prog 158 #[ā #[G s,G u]] w fun e w'=>∃ g,e=ŗ (D (J ⟨g,0,O⟩) 64 64)/\Μ w.heap.size w' (D (J ⟨g,0,O⟩) 64 64) 64 (iN s u)/\BQ w w':=by
 obtain⟨T,hi,Q,R,S⟩:=Ϩ lh;have F:BQ w (å w (C #[G s,G u] 206)):=ġ;have n:=φ w (C #[G s,G u] 206);go_enter func158,ntmps158;go_upto_region 1 with fail
 have t:(å w (C #[G s,G u] 206)).heap.size=w.heap.size+1:=ύ;have a0:=Zh t;clear t;generalize(å w _)=l at *;go_wp2_with (at_make;refine tQ l rfl _ _ _ rfl _ 5 T _ 1 gv hi Q R _ _ _ _ 64 rfl rfl ύ ύ (by rw[S];omega) ώ NZ ?_;intro x N K;have W:BQ l x:=RZ.grown K NZ (fun b q=>by cases q))
 have z:Hid (x.heap[l.heap.size]?=J (C (η (qZ s u 0)).toArray 5 (0,0))):=by
  have h:=N;rw[show(Value.int IntKind.u8 0).cells=#[ĭ .u8 0]from rfl,te]at h;have:=tm h;simpa[Hid,η,qZ,show ch 0=0 from rfl] using this
 have B:=Zh n;have aa:=ς n;clear n;go_loopw [10] (fun m wr=>∃ b:Nat,b<=8/\m=G (b:Int)/\Hid (wr.heap[l.heap.size]?=J (C (η (qZ s u b)).toArray 5 (0,0)))/\BQ l wr) (fun m _=>8 - (intOf m).toNat)
 .exact⟨0,Ζ _,rfl,z.o,W⟩
 obtain⟨b,q,rfl,i,j⟩:=hrel;by_cases Z:b<8
 .have V:(b:Int)<8:=U
  obtain⟨⟨ai,aj⟩,-,ae⟩:=ν (θ B.o j);have f1:=ϧ wr _ b _ _ i.o;have f2:=ϧ wr _ (8+b) _ _ i.o;obtain⟨ag,c1⟩:=Fk (k:=b) i.o (by rw[AR];omega);obtain⟨ah,c2⟩:=Fk (k:=8+b) i.o (by rw[AR];omega);have a1:IntKind.u64.wrap (s:Int)=(s:Int):=Bq _ U U;have X:IntKind.u64.wrap (u:Int)=(u:Int):=Bq _ U U;rcases(U:b=0\/b=1\/b=2\/b=3\/b=4\/b=5\/b=6\/b=7)with rfl|rfl|rfl|rfl|rfl|rfl|rfl|rfl
  .have d:((gV s 0).toNat:Int)=(s:Int) / 72057594037927936:=by rw[lS];simp only[Nat.reducePow,Nat.reduceSub];omega
   have f:((gV u 0).toNat:Int)=(u:Int) / 72057594037927936:=by rw[lS];simp only[Nat.reducePow,Nat.reduceSub];omega
   have a:=lY (k:=8+0) (lY (k:=0) i.o (gV s 0)) (gV u 0);rw[d,f]at a;have c:=Zh a;clear a;go_wp2;go_roundw
   .exact⟨1,U,rfl,c.o,(j.S NZ _).S NZ _⟩
   exact gG
  .have d:((gV s 1).toNat:Int)=(s:Int) / 281474976710656 % 256:=by rw[lS];simp only[Nat.reducePow,Nat.reduceSub];omega
   have f:((gV u 1).toNat:Int)=(u:Int) / 281474976710656 % 256:=by rw[lS];simp only[Nat.reducePow,Nat.reduceSub];omega
   have a:=lY (k:=8+1) (lY (k:=1) i.o (gV s 1)) (gV u 1);rw[d,f]at a;have c:=Zh a;clear a;go_wp2;go_roundw
   .exact⟨2,U,rfl,c.o,(j.S NZ _).S NZ _⟩
   exact gG
  .have d:((gV s 2).toNat:Int)=(s:Int) / 1099511627776 % 256:=by rw[lS];simp only[Nat.reducePow,Nat.reduceSub];omega
   have f:((gV u 2).toNat:Int)=(u:Int) / 1099511627776 % 256:=by rw[lS];simp only[Nat.reducePow,Nat.reduceSub];omega
   have a:=lY (k:=8+2) (lY (k:=2) i.o (gV s 2)) (gV u 2);rw[d,f]at a;have c:=Zh a;clear a;go_wp2;go_roundw
   .exact⟨3,U,rfl,c.o,(j.S NZ _).S NZ _⟩
   exact gG
  .have d:((gV s 3).toNat:Int)=(s:Int) / 4294967296 % 256:=by rw[lS];simp only[Nat.reducePow,Nat.reduceSub];omega
   have f:((gV u 3).toNat:Int)=(u:Int) / 4294967296 % 256:=by rw[lS];simp only[Nat.reducePow,Nat.reduceSub];omega
   have a:=lY (k:=8+3) (lY (k:=3) i.o (gV s 3)) (gV u 3);rw[d,f]at a;have c:=Zh a;clear a;go_wp2;go_roundw
   .exact⟨4,U,rfl,c.o,(j.S NZ _).S NZ _⟩
   exact gG
  .have d:((gV s 4).toNat:Int)=(s:Int) / 16777216 % 256:=by rw[lS];simp only[Nat.reducePow,Nat.reduceSub];omega
   have f:((gV u 4).toNat:Int)=(u:Int) / 16777216 % 256:=by rw[lS];simp only[Nat.reducePow,Nat.reduceSub];omega
   have a:=lY (k:=8+4) (lY (k:=4) i.o (gV s 4)) (gV u 4);rw[d,f]at a;have c:=Zh a;clear a;go_wp2;go_roundw
   .exact⟨5,U,rfl,c.o,(j.S NZ _).S NZ _⟩
   exact gG
  .have d:((gV s 5).toNat:Int)=(s:Int) / 65536 % 256:=by rw[lS];simp only[Nat.reducePow,Nat.reduceSub];omega
   have f:((gV u 5).toNat:Int)=(u:Int) / 65536 % 256:=by rw[lS];simp only[Nat.reducePow,Nat.reduceSub];omega
   have a:=lY (k:=8+5) (lY (k:=5) i.o (gV s 5)) (gV u 5);rw[d,f]at a;have c:=Zh a;clear a;go_wp2;go_roundw
   .exact⟨6,U,rfl,c.o,(j.S NZ _).S NZ _⟩
   exact gG
  .have d:((gV s 6).toNat:Int)=(s:Int) / 256 % 256:=by rw[lS];simp only[Nat.reducePow,Nat.reduceSub];omega
   have f:((gV u 6).toNat:Int)=(u:Int) / 256 % 256:=by rw[lS];simp only[Nat.reducePow,Nat.reduceSub];omega
   have a:=lY (k:=8+6) (lY (k:=6) i.o (gV s 6)) (gV u 6);rw[d,f]at a;have c:=Zh a;clear a;go_wp2;go_roundw
   .exact⟨7,U,rfl,c.o,(j.S NZ _).S NZ _⟩
   exact gG
  .have d:((gV s 7).toNat:Int)=(s:Int) % 256:=by rw[lS];simp only[Nat.reducePow,Nat.reduceSub,yA];omega
   have f:((gV u 7).toNat:Int)=(u:Int) % 256:=by rw[lS];simp only[Nat.reducePow,Nat.reduceSub,yA];omega
   have a:=lY (k:=8+7) (lY (k:=7) i.o (gV s 7)) (gV u 7);rw[d,f]at a;have c:=Zh a;clear a;go_wp2;go_roundw
   .exact⟨8,U,rfl,c.o,(j.S NZ _).S NZ _⟩
   exact gG
 .have V:¬(b:Int)<8:=U
  obtain rfl:b=8:=U;have o:=i.o;rw[PN]at o;have E:Rd wr (D (J ⟨l.heap.size,0,O⟩) 32 64) 32 1 (η (ny s u)):=by
   refine⟨by simp[η,rW],ώ,.inr ⟨l.heap.size,0,64,rfl,U,U,ώ,fun m af v=>?_⟩⟩;rw[ξ _ _ _ _ _ _ o,iI];have Y:m<32:=by have:=(lK.1 v).1;simpa[η,rW] using this
   rw[qx,mD,je (by simp[η,rW];omega)];exact v
  obtain⟨y,ab,M,H,-,-⟩:=AL _ 32 32 32 (ny s u++List.replicate _ 0) o _ _ _ E U (by simp[rW]);have P:(ny s u++List.replicate 32 (0:UInt8)).take 32++(ny s u++(ny s u++List.replicate 32 (0:UInt8)).drop (32+32))=iN s u:=by
   rw[List.take_left' (rW s u),mg (by simp[rW]),iy];rfl
  have p:=M.o;rw[P]at p;have r:w.heap.size<=l.heap.size:=U;have A:Hid (Μ w.heap.size y (D (J ⟨l.heap.size,0,O⟩) 64 64) 64 (iN s u)):=by
   refine⟨qd s u,by simp[η,qd],.inr ⟨ _,_,_,rfl,r,p,NZ,ώ,?_,?_⟩⟩
   .simp[η,qd]
   .show List.take 64 (η (iN s u))=_
    exact gF (by simp[η,qd])
  have I:BQ w y:=F.trans ((j.trans H).M r);go_wp2;go_ret;exact⟨ _,rfl,A.o,I⟩
def rO {w:β} {v:ε} {n} {l:γ} (a:L l=n) (h:Rd w v n 1 (η l)):(convert 31 9 v).run prog w=.ok (š (δ l)) w:=by
 subst a;exact oM w _ 9 5 gv ϋ kH v l h
def Cr (c d:ε) (n m) (a b:γ) (w:β) (i:L a=n) (j:L b=m) (f:Rd w c n 1 (η a)) (g:Rd w d m 1 (η b)) :
  Calls prog 68 #[c,d] w fun e w'=>e=ŗ (.bool (decide (a=b)))/\w=w':=by
 have c1:=rO i f;have c2:=rO j g;go_enter func68,ntmps68;go_wp2;go_ret;refine⟨?_,rfl⟩;show Ending.returned (.bool _)=Ending.returned (.bool _);rw[hN,hN]
 congr 2
 by_cases h:a=b<;>simp[h]
def Eo (x:Nat):∃ (n:Nat) (k:Bool),(if x<=4611686018427387904 then #[G (x:Int),.bool true]else #[G 0,.bool false])=#[G (n:Int),.bool k]/\((k=true/\n=x/\x<=4611686018427387904)\/(k=false/\n=0/\4611686018427387904<x)):=by
 by_cases h:x<=4611686018427387904
 .exact⟨x,true,μ h,.inl ⟨rfl,rfl,h⟩⟩
 .exact⟨0,false,κ h,.inr ⟨rfl,rfl,U⟩⟩
def AQ:Option (Nat×Nat)->ε
 |some a=>.tuple #[ā #[G a.1,G a.2],.bool true]
 |none=>.tuple #[ā #[G 0,G 0],.bool false]
def Lj (ao) (c d:Nat) (b:γ) (w:β) (h:Rd w (D ao 64 c) 64 1 (η b)) :
  Calls prog 188 #[D ao 64 c,G d] w fun e w'=>e=ŗ (AQ (iM b d))/\BQ w w':=by
 have ai:L b=64:=by have:=h.1;simpa[η] using this
 obtain⟨q,off,rfl,aI⟩:∃ q off,ao=J ⟨q,off,O⟩/\64<=c:=by
  obtain⟨-,-,⟨aC,ae,z,ah⟩|⟨q,off,ae,z,ah,ak,-⟩⟩:=h
  .omega
  .simp only[Χ,ϵ]at z
   obtain⟨rfl,rfl⟩:=z;exact⟨q,off,rfl,ak⟩
 have A:=Zh (fun a (m:BQ w a)=>DP _ _ c b a U (h.B m));have B:=Zh (fun a (m:BQ w a)=>DP _ 56 _ _ a U (vz (h.B m) (k:=8) U));have W:=Zh h;have t:BQ w (å w (C #[G 0,G 0] 206)):=ġ;have an:=φ w (C #[G 0,G 0] 206);obtain⟨n,o,af,a1⟩:=Eo (fM 8 0 b);obtain⟨i,r,ag,V⟩:=Eo (fM 8 0 (b.drop 8));rw[af]at A;rw[ag]at B;have aK:n<=4611686018427387904:=U;have aL:i<=4611686018427387904:=U;have I:BQ w (å (å w (C #[G 0,G 0] 206)) (C #[G n,G i] 206)):=t.A ύ _;have K:=φ (å w (C #[G 0,G 0] 206)) (C #[G n,G i] 206);have x:=(hM _ (C #[G n,G i] 206) _ ύ).trans an;have⟨P,H⟩:=π a1 V;have ap:(å w (C #[G 0,G 0] 206)).heap.size=w.heap.size+1:=ύ;rw[ap]at K;go_enter func188,ntmps188;go_wp2_with fail
 refine(A.o _ t).M ?_;rintro e av ⟨rfl,rfl⟩;go_wp2_with fail
 refine(B.o _ t).M ?_;rintro e av ⟨rfl,rfl⟩;go_upto_region 6 with fail
 generalize å (å w _) _=ad at *;obtain⟨⟨aq,ar⟩,⟨aD,aE⟩,aS⟩:=ν K;obtain⟨⟨az,aA⟩,⟨ax,ay⟩,aB⟩:=ν x;have⟨aa,a0,X⟩:=ϲ (fS x (G 0) (G 0)) (ga I NZ (G 0) (G 0)) x;by_cases hbad:o=false\/r=false\/d<i
 .have s:Hid (iM b d=O):=by
   show _=_;unfold iM;rw[κ];rintro⟨p1,p2,aO,aP⟩;have E:=P.o;have F:=H.o;rcases E with ⟨rfl,rfl,-⟩|⟨-,-,E⟩
   .rcases F with ⟨rfl,rfl,-⟩|⟨-,-,F⟩
    .simp only[reduceCtorEq,false_or]at hbad;omega
    .omega
   .omega
  go_cut [38,46] (fun aQ au wc=>au=.bool true/\wc=ad)
  case first =>
   rcases hbad with rfl|hbad
   .go_wp2
    go_meet;case rel=>exact⟨rfl,rfl⟩
   .rcases hbad with rfl|hbad
    .cases o
     .go_wp2
      go_meet;case rel=>exact⟨rfl,rfl⟩
     .go_wp2
      go_meet;case rel=>exact⟨rfl,rfl⟩
    .have aH:(d:Int)<(i:Int):=U
     cases o
     .go_wp2
      go_meet;case rel=>exact⟨rfl,rfl⟩
     .cases r
      .go_wp2
       go_meet;case rel=>exact⟨rfl,rfl⟩
      .go_wp2
       go_meet;case rel=>exact⟨rfl,rfl⟩
  case rest =>
   obtain⟨rfl,rfl⟩:=hcut;go_wp2;exact Ω  (gz    rfl _ _ _ _ _ _ _ rfl aa.o underlying206 rfl ϋ) rfl ⟨by rw[s.o];rfl,a0.o⟩
 .obtain⟨rfl,rfl,aj⟩:o=true/\r=true/\i<=d:=by
   cases o<;>cases r<;>simp_all
  obtain⟨rfl,M⟩:n=fM 8 0 b/\fM 8 0 b<=4611686018427387904:=by have:=P.o;simpa using this
  obtain⟨rfl,N⟩:i=fM 8 0 (b.drop 8)/\fM 8 0 (b.drop 8)<=4611686018427387904:=by have:=H.o;simpa using this
  have aJ:¬(d:Int)<((fM 8 0 (b.drop 8):Nat):Int):=U;have Y:=Zh (fun a=>DS _ _ a M N);have Z:Hid (b=iN (fM 8 0 b) (fM 8 0 (b.drop 8))->iM b d=J (fM 8 0 b,fM 8 0 (b.drop 8))):=fun f=>by
   unfold iM;rw[μ ⟨M,N,aj,f⟩]
  have s:Hid (¬b=iN (fM 8 0 b) (fM 8 0 (b.drop 8))->iM b d=O):=fun f=>by
   unfold iM;rw[κ];exact fun h=>f h.2.2.2
  have S:=Zh (fun a g (m:BQ w a) (al:Rd a (D (J ⟨g,0,O⟩) 64 64) _ 1 (η (iN (fM 8 0 b) (fM 8 0 (b.drop 8)))))=>Cr _ _ _ _ b _ a ai (qd _ _) (W.o.B m) al);generalize aF:fM 8 0 b=j at *;generalize aG:fM 8 0 _=l at *;go_wp2_with fail
  refine(Y.o _).M ?_;rintro e aw ⟨g,rfl,am,p⟩;have u:=I.t p;have T:=Zh (S.o aw g u am.rd);have aM:=ζ p aq;have aN:=ζ p ar;have y:=θ X.o p;obtain⟨⟨az,aA⟩,⟨ax,ay⟩,aB⟩:=ν y;have⟨ab,Q,ac,R⟩:=hV (fS y (G 0) (G 0)) (ga u NZ (G 0) (G 0)) (fS y (G j) (G l)) (ga u NZ (G j) (G l));go_wp2_with fail
  refine T.o.M ?_;rintro e aR ⟨rfl,rfl⟩;by_cases f:b=iN j l
  .have v:decide (b=iN j l)=true:=by simpa using f
   rw[v];go_wp2;exact Ω  (gz    rfl _ _ _ _ _ _ _ rfl ac.o underlying206 rfl ϋ) rfl ⟨by rw[Z.o f];rfl,R.o⟩
  .have v:decide (b=iN j l)=false:=by simpa using f
   rw[v];go_wp2;exact Ω  (gz    rfl _ _ _ _ _ _ _ rfl ab.o underlying206 rfl ϋ) rfl ⟨by rw[s.o f];rfl,Q.o⟩
def kL (c:ϸ):Nat->Option (Nat×Nat)
 |0=>O
 |k+1=>match kL c k,iM (c.getD k []) (Ϯ c)with
  |none,r=>r
  |some a,O=>J a
  |some a,J b=>if a.1<b.1 then J b else J a
theorem wQ (bl k):kL bl (k+1)=match kL bl k,iM (bl.getD k []) (Ϯ bl)with
  |none,r=>r
  |some a,O=>J a
  |some a,J b=>if a.1<b.1 then J b else J a:=rfl
theorem Jm (bl):kL bl 2=rP bl:=by
 simp only[kL,rP];cases iM (bl.getD 0 []) (Ϯ bl)<;>cases iM (bl.getD 1 []) (Ϯ bl)<;>rfl
def qL (a:β) (wa wn):iu a (D wa 0 wn) []:=⟨[],⟨rfl,Ζ _,.inl ⟨_,_,rfl,rfl⟩⟩,fun c b=>by simp at b⟩
def nz:Option (Nat×Nat)->Nat×Nat
 |some a=>a
 |none=>(0,0)
def Ny {b:γ} {room m} (h:iM b room=J m):m.1<=4611686018427387904/\m.2<=room:=by
 obtain⟨s,d⟩:=m;obtain⟨a,c,-⟩:=ER h;exact⟨a,c⟩
def Le (ba bc wa wn) (bl:ϸ) (w:β) (af:Ε w (D ba (L bl) bc) bl) (al:L bl<=4096) (ae:∀ b∈bl,L b=64) (az:2<=L bl) :
  Calls prog 110 #[ā #[D ba (L bl) bc,D wa 0 wn]] w fun e w'=>e=ŗ (.tuple #[ā #[G (nz (rP bl)).1,G (nz (rP bl)).2],.bool (rP bl).isSome])/\BQ w w':=by
 have aG:jg bl []:=⟨al,ύ,ae,ύ⟩;have au:=Zh (fun c (aD:c<2) q (P:BQ w q)=>zg c ba bc wa wn bl q U (af.B P) al ae);have av:=Zh (fun q (P:BQ w q)=>DQ ba bc wa wn bl _ q (af.B P) (qL q wa wn) aG az);rw[<-Jm];go_enter func110,ntmps110;go_wp2;have aC:=oO     (w1:=å (å (å w (C #[D ba (L bl) bc,D wa 0 wn] 41)) (C #[G 0,G 0] 206)) (C #[G 0,G 0] 206)) RZ;obtain⟨aH,aK,aJ,aV,aX,aW,aB⟩:=aC;generalize å (å (å w _) _) _=aS at *;go_loopw [5,11] (fun f V wr=>∃ c:Nat,c<=2/\V=G (c:Int)/\f=.bool (kL bl c).isSome/\Hid (wr.heap[w.heap.size]?=J (C #[D ba (L bl) bc,D wa 0 wn] 41 (0,0)))/\Hid (wr.heap[w.heap.size+1]?=J (C #[G 0,G 0] 206 (0,0)))/\Hid (wr.heap[w.heap.size+1+1]?=J (C #[G (nz (kL bl c)).1,G (nz (kL bl c)).2] 206 (0,0)))/\BQ w wr) (fun _ V _=>2 - (intOf V).toNat)
 .exact⟨0,Ζ _,rfl,rfl,aH,aK,aJ,aB⟩
 obtain⟨c,aD,rfl,rfl,E,K,Z,S⟩:=hrel;obtain⟨⟨ay,d1⟩,-,aR⟩:=ν E.o;by_cases aE:c<2
 .have aM:(c:Int)<2:=U
  go_wp2_with fail
  refine(au.o c aE wr S).M ?_;rintro e aP ⟨a0,rfl,am,Q⟩;have ah:=S.t Q;have aI:=θ E.o Q;obtain⟨⟨ay,d1⟩,-,aR⟩:=ν aI;have ar:=Zh am;clear am;go_wp2_with fail
  refine(av.o aP ah).M ?_;rintro e aQ ⟨rfl,R⟩;have aA:=ah.t R;have ax:=Zh (Lj _ _ (Ϯ bl) _ aQ (ar.o.rd.B R));go_wp2_with fail
  refine ax.o.M ?_;rintro e p ⟨rfl,ag⟩;have ai:=aA.t ag;have T:∀ W o,wr.heap[W]?=J o->p.heap[W]?=J o:=fun W o h=>θ (θ (θ h Q) R) ag;have⟨Y,aa,a⟩:=ϲ (T _ _ E.o) (T _ _ K.o) (T _ _ Z.o);cases y:iM (bl.getD c []) (Ϯ bl)with
  |none =>
   have k:kL bl (c+1)=kL bl c:=by
    rw[wQ,y];cases kL bl c<;>rfl
   have j:=Zh k;clear k;simp only[AQ];have n:BQ p (å p (C #[G 0,G 0] 206)):=ġ;have⟨t,x,H⟩:=ϲ (θ Y.o n) (θ aa.o n) (θ a.o n);have z:=ai.t n;go_wp2;go_roundw
   .exact⟨c+1,U,ϕ,by rw[j.o],t.o,x.o,by rw[j.o];exact H.o,z⟩
   exact ω
  |some aN =>
   obtain⟨d,i⟩:=aN;have aL:=Ny y;simp only at aL;simp only[AQ];go_upto_region 9 with fail
   have n:BQ p (å p (C #[G d,G i] 206)):=ġ;have g:=φ p (C #[G d,G i] 206);have⟨t,x⟩:=π (θ Y.o n) (θ aa.o n);have m:=θ a.o n;have z:=ai.t n;have aT:=ς a.o;cases l:kL bl c with
   |none =>
    have k:kL bl (c+1)=J (d,i):=by rw[wQ,y,l]
    have⟨j,ap⟩:=π k l;rw[l]at m;have⟨I,F,M,B⟩:=hV (fS m (G d) (G i)) ((jH _ (w.heap.size+1+1) _ U (G d) (G i)).trans t.o) ((jH _ (w.heap.size+1+1) _ U (G d) (G i)).trans x.o) (ga z (U:w.heap.size<=w.heap.size+1+1) (G d) (G i));obtain⟨⟨r,s⟩,⟨N,f1⟩,X⟩:=ν m;obtain⟨⟨ac,ad⟩,⟨b0,b1⟩,an⟩:=ν g;clear k l;simp only[nz]at r s;generalize å p _=ab at *;simp only[Option.isSome_none];go_wp2;go_roundw
    .exact⟨c+1,U,ϕ,by rw[j.o];rfl,F.o,M.o,by rw[j.o];exact I.o,B.o⟩
    exact ω
   |some a1 =>
    obtain⟨A,aO⟩:=a1;have ap:=Zh l;rw[l]at m;by_cases aj:A<d
    .have k:kL bl (c+1)=J (d,i):=by rw[wQ,y,l];simp only;rw[μ aj]
     have j:=Zh k;have aF:(A:Int)<(d:Int):=U;have⟨I,F,M,B⟩:=hV (fS m (G d) (G i)) ((jH _ (w.heap.size+1+1) _ U (G d) (G i)).trans t.o) ((jH _ (w.heap.size+1+1) _ U (G d) (G i)).trans x.o) (ga z (U:w.heap.size<=w.heap.size+1+1) (G d) (G i));obtain⟨⟨r,s⟩,⟨N,f1⟩,X⟩:=ν m;obtain⟨⟨ac,ad⟩,⟨b0,b1⟩,an⟩:=ν g;clear k l;simp only[nz]at r s;generalize å p _=ab at *;simp only[Option.isSome_some];go_wp2;go_roundw
     .exact⟨c+1,U,ϕ,by rw[j.o];rfl,F.o,M.o,by rw[j.o];exact I.o,B.o⟩
     exact ω
    .have k:kL bl (c+1)=J (A,aO):=by rw[wQ,y,l];simp only;rw[κ aj]
     have j:=Zh k;have aF:¬(A:Int)<(d:Int):=U;have H:=Zh m;obtain⟨⟨r,s⟩,⟨N,f1⟩,X⟩:=ν m;obtain⟨⟨ac,ad⟩,⟨b0,b1⟩,an⟩:=ν g;clear k l m;simp only[nz]at r s;generalize å p _=ab at *;simp only[Option.isSome_some];go_wp2;go_roundw
     .exact⟨c+1,U,ϕ,by rw[j.o];rfl,t.o,x.o,by rw[j.o];exact H.o,z⟩
     exact ω
 .have aM:¬(c:Int)<2:=U
  obtain rfl:c=2:=U;obtain⟨⟨r,s⟩,-,X⟩:=ν Z.o;obtain⟨⟨r0,r1⟩,⟨N,f1⟩,aY⟩:=ν K.o;have⟨aw,ao⟩:=π (fS K.o (G (nz (kL bl 2)).1) (G (nz (kL bl 2)).2)) (ga S (gu _ 1) (G (nz (kL bl 2)).1) (G (nz (kL bl 2)).2));generalize ak:nz _=aU at *;have aq:=Zh ak;clear ak;go_wp2;exact Ω (v:=.tuple #[ā _,.bool _]) (gz  (u:=3)  rfl _ _ _ _ _ _ _ rfl aw.o underlying206 rfl ϋ) rfl ⟨by rw[aq.o],ao.o⟩
theorem Jw (bl n) (d:∀ b∈bl,L b=64) (f:2+n<L bl):nu bl ((n+1)*64)=nu bl (n*64)++bl.getD (2+n) []:=by
 have e:=d _ (qI bl _ [] f);unfold nu;rw[lr,List.range_add,ng]
 congr 1
 apply List.ext_getElem
 .rw[hU,hU,List.length_range,e]
 .intro a c g
  simp only[hU,List.length_range]at c;simp only[vV,yp];unfold lb;rw[show 2+(n*64+a) / 64=2+n from U,show(n*64+a) % 64=a from U,fX,Ρ U];rfl
def Jx (bl n m) (h:n<=m):(nu bl m).take n=nu bl n:=by
 unfold nu;rw[<-List.map_take,List.take_range,mi h]
def Lh (n:Nat) (ba:Option Addr) (bc:Nat) (wa:Option Addr) (m:Nat) (bl:ϸ) (w:β) (Z:Ε w (D ba (L bl) bc) bl) (af:L bl<=4096) (o:∀ b∈bl,L b=64) (ah:n<=Ϯ bl) (al:3<=L bl) :
  Calls prog 111 #[ā #[D ba (L bl) bc,D wa 0 m],G n] w fun e w'=>∃ v c,e=ŗ (D v n c)/\Hi w.heap.size w' (fun f=>Rd f (D v n c) n 1 (η (nu bl n)))/\BQ w w':=by
 have R:=Zh (fun a (ad:a<L bl) t (Y:BQ w t)=>zg a ba bc wa m bl t ad (Z.B Y) af o);have s:=Zh o;have aa:BQ w (å w (C #[D ba (L bl) bc,D wa 0 m] 41)):=ġ;have I:=φ w (C #[D ba (L bl) bc,D wa 0 m] 41);unfold Ϯ at ah;clear o;go_enter func111,ntmps111;go_wp2;generalize(å w (C #[D ba (L bl) bc,D wa 0 m] 41))=i at *;have ao:w.heap.size<i.heap.size:=ς I;go_loopw [5,6] (fun aj r wr=>∃ (a d:Nat) (j:Option Addr) (c1:Nat),d=a*64/\d<n+64/\r=G ((2+a:Nat):Int)/\aj=D j d c1/\Hid (Μ i.heap.size wr (D j d c1) d (nu bl d))/\BQ i wr) (fun _ r _=>L bl+2 - (intOf r).toNat)
 .exact⟨0,0,O,0,rfl,U,rfl,rfl,Μ.nil _ _,ρ _ _⟩
 obtain⟨a,d,j,c1,q,ap,rfl,rfl,h,p⟩:=hrel;have K:=Zh q;obtain⟨⟨ak,d1⟩,-,au⟩:=ν (θ I p);have B:=aa.t p;by_cases an:d<n
 .have ai:(d:Int)<(n:Int):=U
  have⟨a0,S⟩:=π (Jw bl a s.o U) (R.o (2+a) U wr B);have ae:d+64<=70368744177664:=U;have am:2+a<L bl:=U;generalize y:2+a=a1 at *;have P:=Zh y;clear q y;go_wp2_with fail
  refine S.o.M ?_;rintro e ar ⟨g,rfl,F,z⟩;have A:=p.t z;have⟨N,Q⟩:=π (h.o.B z) F.rd;have ac:=A.size;clear F;go_wp2_with (at_builtin;refine hG rfl (.tmp 24) (.tmp 25) rfl i.heap.size _ _ d 64 _ _ rfl N.o rfl (s.o _ (qI bl a1 [] U)) Q.o ae ac ?_;intro u c2 f ag ab;have X:=A.trans ab)
  obtain rfl:=K.o;have E:=ag;rw[<-a0.o]at E;have M:Hid (Μ i.heap.size f (D u (a*64+64) c2) (a*64+64) (nu bl (a*64+64))):=by
   have:=E;rw[lr,pF]at this;exact this
  go_roundw
  .exact⟨a+1,a*64+64,u,c2,U,U,by rw[<-P.o];go_num,rfl,M.o,X⟩
  exact ω
 .have ai:¬(d:Int)<(n:Int):=U
  have aq:n<=c1:=by
   by_cases x:d=0
   .omega
   .obtain⟨g,V,l⟩:=kO h.o.2 U
    rw[l]at h;have:=oH h.o.2;simp only[Χ]at l;omega
  have T:Hid (Hi w.heap.size wr (fun f=>Rd f (D j n c1) n 1 (η (nu bl n)))):=by
   intro f W;by_cases x:n=0
   .subst x
    exact⟨rfl,Ζ _,.inl ⟨_,_,rfl,rfl⟩⟩
   .have:=(h.o.hi.M (U:w.heap.size<=i.heap.size)) f W
    obtain⟨g,V,l⟩:=kO h.o.2 U;simp only[Χ,ϵ]at l;obtain⟨rfl,rfl⟩:=l;have H:=vA this (k:=n) U;rw[Jx bl n d U]at H;exact H
  clear q;go_wp2;go_ret;exact⟨j,c1,rfl,T.o,B⟩
