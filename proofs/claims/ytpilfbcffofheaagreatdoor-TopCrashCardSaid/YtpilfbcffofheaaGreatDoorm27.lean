/- Part 27 of the proof. -/
import Derived.Test.YtpilfbcffofheaaGreatDoorm26
set_option linter.unusedVariables false
set_option linter.unusedSimpArgs false
set_option maxRecDepth 100000
set_option maxHeartbeats 8000000
namespace Go.Proofs.YtpilfbcffofheaaGreatDoor
open Go.Proofs.Tryz Go.RowKit Go.Sort
open Value renaming slice->D,agg->ā
open Obj renaming cells->C
open Option renaming none->O,some->J
open List renaming length->L
open Ending renaming returned->ŗ
open World renaming alloc->å,setCell->ŝ
structure OL (w wr:β) (g4 g6 g7:Nat) (seq used p:Nat) (B:γ) (y:Ix) (a1:Option Addr) (c1:Nat) (a2:Option Addr) (c2:Nat) (a:Option Addr) (c:Nat):Prop where
 r1:wr.heap[w.heap.size+1]?=J (C #[IZ 0,IZ 0,D O 0 0,D O 0 0] 46 (0,0))
 r4:wr.heap[g4]?=J (C #[IZ (seq:Int),IZ (used:Int)] 206 (0,0))
 r6:wr.heap[g6]?=J (C #[D a1 (L y.1) c1,D a2 (L y.2) c2] 44 (0,0))
 r7:wr.heap[g7]?=J (C #[D a (L B) c,IZ (p:Int),IZ 0] 211 (0,0))
 o1:w.heap.size+1<g4
 o2:g4<g6
 o3:g6<g7
 bel:BQ w wr
 o4:g7<wr.heap.size
 rb:ς (fun b=>b<=g6\/b=g7) wr (fun w2=>Rd w2 (D a (L B) c) (L B) 1 (η B))
 rx:ς (fun b=>b<=g6\/b=g7) wr (fun w2=>Δ w2 (D a1 (L y.1) c1) y.1/\ϧ y.1 w2 (D a2 (L y.2) c2) y.2)
theorem vd (b:β) (a:Option Addr) (c:Nat):Δ b (D a 0 c) []:=⟨[],⟨rfl,Ι _,.inl ⟨_,_,rfl,rfl⟩⟩,fun e d=>by simp at d⟩
theorem wh (b:β) (docs:List (γ)) (a:Option Addr) (c:Nat):ϧ docs b (D a 0 c) []:=⟨[],⟨rfl,Ι _,.inl ⟨_,_,rfl,rfl⟩⟩,fun e d=>by simp at d⟩
def FA (seq d:Nat) (y:Ix) (w:β) (e:Ending) (w':β):Prop:= ∃ a c1 b c2,e=ŗ (.tuple #[ā #[IZ (seq:Int),IZ (d:Int),D a (L y.1) c1,D b (L y.2) c2],IZ 0])/\Hi w.heap.size w' (fun c=>Δ c (D a (L y.1) c1) y.1/\ϧ y.1 c (D b (L y.2) c2) y.2)/\Below w.heap.size w w'
theorem yD (seq:Nat) (m:List Ev) (x:Ix) (ba:Option Addr) (bc:Nat) (wa:Option Addr) (ad:Nat) (bl:Ε) (w:β) (aK:Ϩ w) (an:Δ w (D ba (L bl) bc) bl) (F:ga bl seq (ϡ m)) (ca:∀ e∈m,e.ok) (aL:gH ([],[]) m=J x) (cy:L x.1<=40) :
  Calls prog 54 #[ā #[D ba (L bl) bc,D wa 0 ad]] w (FA seq (L (ϡ m)) x w):=by
 have aZ:ja bl []:=⟨F.nb,ύ,F.l64,ύ⟩;have bU:=Zh (fun n (U:BQ w n)=>AN (D ba (L bl) bc) (D wa 0 ad) bl [] n (an.below U) (py n wa ad) aZ);have bR:=Zh (fun n (U:BQ w n)=>AM ba bc wa ad bl [] n (an.below U) (py n wa ad) aZ);have ar:=Zh (fun n (U:BQ w n)=>Jk ba bc wa ad bl n (an.below U) F.nb F.l64 (by have:=F.n3;omega));rw[F.current]at ar;simp only[mx,Option.isSome_some]at ar;obtain⟨d,am⟩:∃ d:Nat,L (ϡ m)=d:=⟨_,rfl⟩;have a3:=Zh (fun n (U:BQ w n)=>Jn d ba bc wa ad bl n (an.below U) F.nb F.l64 (by rw[<-am];exact F.le) F.n3);have aY:=F.logIs;rw[am]at aY ar;rw[aY]at a3;have n3:¬(L bl:Int)<=2:=by have:=F.n3;omega
 have bY:=Zh aK;have ak:=Zh am;have b6:d<=1000000000:=by have:=F.le;have:=F.nb;unfold Ϥ at *;omega
 rw[am];clear an F aZ aY aK am;go_enter func54,ntmps54;go_wp2_with fail
 have bn:BQ w (å (å w (C #[D ba (L bl) bc,D wa 0 ad] 41)) (C #[IZ 0,IZ 0,D O 0 0,D O 0 0] 46)):=ġ.alloc ύ _;refine(bU.o _ bn).mono ?_;rintro e cJ ⟨rfl,bo⟩;obtain⟨aa,W,cK,cL,aF⟩:=fU bo;obtain⟨⟨av,d1⟩,-,-⟩:=ι aa;clear bo bn;go_wp2_with fail
 refine(bR.o _ aF).mono ?_;rintro e ac ⟨rfl,aC⟩;have aa:=θ aa aC;have W:=θ W aC;obtain⟨⟨av,d1⟩,-,-⟩:=ι aa;have aG:=aF.trans (aC.mono aF.size);clear aC aF;go_upto_region 3 with (fail)
 go_wp2_with fail
 refine(ar.o _ aG).mono ?_;rintro e i ⟨rfl,aD⟩;have aa:=θ aa aD;have W:=θ W aD;have aH:=aG.trans (aD.mono aG.size);clear aD aG av d1;have cN:=ο W;have G:BQ i (å (å i (C #[IZ (seq:Int),IZ (d:Int)] 206)) (C #[D O 0 0,D O 0 0] 44)):=ġ.alloc ύ _;have bz:=θ aa G;have aI:=aH.trans (G.mono aH.size);have cu:=aH.size;obtain⟨⟨av,d1⟩,-,-⟩:=ι bz;obtain⟨bB,cc,co,cq,-⟩:=fU (w:=i) (A:=C #[IZ (seq:Int),IZ (d:Int)] 206) (Z:=C #[D O 0 0,D O 0 0] 44) RZ;obtain⟨⟨ck,cl⟩,-,-⟩:=ι bB;go_upto_region 7 with (fail)
 go_wp2_with fail
 refine(a3.o _ aI).mono ?_;rintro e f ⟨ah,ag,rfl,bs,aE⟩;have W:=θ (θ W G) aE;obtain⟨bA,bD,cn,cp,-⟩:=fU aE;have aW:=aI.trans (aE.mono aI.size);clear av d1 ck cl aa bz bB cc co cq aI G aH aE;have ao:BQ f (å f (C #[D ah d ag,IZ 0,IZ 0] 211)):=ġ;have bC:=χ f (C #[D ah d ag,IZ 0,IZ 0] 211);have a5:OL w (å f (C #[D ah d ag,IZ 0,IZ 0] 211)) i.heap.size (i.heap.size+1) f.heap.size seq d 0 (ϡ m) ([],[]) O 0 O 0 ah ag:=by
  have b5:ς (fun b=>b<=i.heap.size+1\/b=f.heap.size) f (fun ac=>Rd ac (D ah (L (ϡ m)) ag) (L (ϡ m)) 1 (η (ϡ m))):=by
   rw[ak.o];exact bs.off fun b ax ay=>ϓ
  exact⟨θ W ao,θ bA ao,θ bD ao,by rw[ak.o];exact bC,ϊ,ϊ,ϊ,aW.trans (ao.mono aW.size),ϓ,b5.alloc _,fun ac _=>⟨vd _ _ _,wh _ _ _ _⟩⟩
 have bX:=Zh a5;obtain⟨ct,cv⟩:∃ g,g=i.heap.size:=⟨_,rfl⟩;clear W bA bD cn cp aW ao bC bs a5;go_wp2;go_loopw [9] (fun cs wr=>∃ (t aw:List Ev) (y:Ix) (X:Option Addr) (c1:Nat) (Y:Option Addr) (c2:Nat) (a:Option Addr) (c:Nat),m=t++aw/\gH ([],[]) t=J y/\Hid (OL w wr i.heap.size (i.heap.size+1) f.heap.size seq d (L (ϡ t)) (ϡ m) y X c1 Y c2 a c)) (fun _ wr=>d - (intOf ((wr.cell? ⟨f.heap.size,1,O⟩).getD undef)).toNat)
 case atStart=>exact⟨[],m,([],[]),O,0,O,0,ah,ag,rfl,rfl,bX.o⟩
 case round =>
  obtain⟨t,aw,y,X,c1,Y,c2,a,c,ab,ae,k⟩:=hrel;obtain⟨⟨aM,p1,p2⟩,-,-⟩:=Β k.o.r7;have al:L (ϡ m)=d:=ak.o;have aJ:L (ϡ t)+L (ϡ aw)=d:=by rw[<-al,ab];simp[ϡ]
  rw[al]at aM;cases aw with
  |nil =>
   have bw:L (ϡ t)=d:=by simpa[ϡ] using aJ
   rw[bw]at p1 k;have cw:¬(d:Int)<(d:Int):=ϊ;obtain rfl:t=m:=by rw[ab,im]
   obtain rfl:y=x:=by rw[aL]at ae;injection ae with h;exact h.symm
   obtain⟨⟨cD,cE⟩,-,-⟩:=ι k.o.r4;obtain⟨⟨bK,bL⟩,-,-⟩:=ι k.o.r6;obtain⟨⟨cF,cG,cH,cI⟩,⟨aV,f1,f2,f3⟩,-⟩:=Ϫ k.o.r1;have bV:=Zh (nD k.o.r1 (IZ (seq:Int)) (IZ (d:Int)) (D X (L y.1) c1) (D Y (L y.2) c2));have bM:=Zh (oF k.o.bel (go _ 1) (IZ (seq:Int)) (IZ (d:Int)) (D X (L y.1) c1) (D Y (L y.2) c2));clear aL ae ab aJ al bw;have bP:=Zh (vk ((k.o.rx.sub (H':=(· <w.heap.size+1+1)) (fun b _ (g:b<w.heap.size+1+1)=>Or.inl (by have:=k.o.o1;omega))).hi) (g:=w.heap.size+1) ϊ (IZ (seq:Int)) (IZ (d:Int)) (D X (L y.1) c1) (D Y (L y.2) c2));go_wp2;refine ϟ (v:=.tuple #[ā #[IZ (seq:Int),IZ (d:Int),D X (L y.1) c1,D Y (L y.2) c2],IZ 0]) (gf (p:=2) (u:=3) (ty:=46) rfl _ _ (w.heap.size+1) 46 _ (0,0) _ rfl bV.o underlying46 rfl ϋ) rfl ?_;exact⟨X,c1,Y,c2,rfl,bP.o.mono ϊ,bM.o⟩
  |cons B T =>
   have br:B.ok:=ca B (by rw[ab];simp);have cx:=B.bytes_pos;have aX:L (ϡ t)+L B.bytes+L (ϡ T)=d:=by
    have:ϡ (B::T)=B.bytes++ϡ T:=by simp[ϡ]
    rw[this,ω]at aJ;omega
   have cb:(L (ϡ t):Int)<(d:Int):=ϊ;have aq:gH y (B::T)=J x:=by
    have:∀ (l:List Ev) (z y:Ix),gH z l=J y->gH z (l++(B::T))=gH y (B::T):=by
     intro l;induction l with
     |nil=>intro z y h;simp only[gH,Ο]at h;rw[h];rfl
     |cons q l a1 =>
      intro z y h;simp only[kq,gH]at h ⊢;cases ai:ge z q with
      |none=>rw[ai]at h;cases h
      |some af=>rw[ai]at h;exact a1 af y h
    rw[<-this t _ _ ae,<-ab];exact aL
   cases ap:ge y B with
   |none=>simp only[gH,ap]at aq;cases aq
   |some j =>
    have bE:gH j T=J x:=by simpa only[gH,ap] using aq
    have bx:gH ([],[]) (t++[B])=J j:=by rw[rI,ae];exact ap
    have bv:∀ (l:List Ev) (z af:Ix),gH z l=J af->L z.1<=L af.1:=by
     intro l;induction l with
     |nil=>intro z af h;simp only[gH,Ο]at h;rw[h];exact NZ
     |cons q l a1 =>
      intro z af h;simp only[gH]at h;cases ai:ge z q with
      |none=>rw[ai]at h;cases h
      |some cm =>
       rw[ai]at h;have ax:=a1 cm af h;have ay:=tn ai;rw[ay,ω]at ax;omega
    have ce:L y.1<=40:=by
     have:=bv _ _ _ aq;omega
    have bF:jA y:=tN jA.start ae;have bi:ϡ m=ϡ t++(B.bytes++ϡ T):=by rw[ab];simp[ϡ]
    have au:=Zh (fun n (U:Rd n (D a d c) d 1 (η (ϡ m)))=>Jo B br a d c (L (ϡ t)) (ϡ m) (ϡ t) (ϡ T) n bi rfl al b6 U);obtain⟨E,aA⟩:∃ aP:Nat,aP=L (ϡ t)+L B.bytes:=⟨_,rfl⟩;rw[<-aA]at au;obtain⟨cr,az⟩:∃ aP:Nat,aP=L (ϡ t):=⟨_,rfl⟩;rw[<-az]at au k p1 cb;have a4:=Zh aA;have bT:=Zh az;have a2:=Zh (fun(kd ei em:Int) I M K n aK b8 cd b9=>CA B (L y.1) (L y.2) X c1 Y c2 y.1 y.2 (nv y.2) kd ei em I M K n rfl rfl aK b8 cd bF ce b9);rw[show ge (y.1,y.2) B=J j from ap]at a2;have cC:=k.o.o4;have b7:BQ wr (å wr (C #[IZ 0,IZ 0,IZ 0,D O 0 0] 33)):=ġ;have bm:Rd (å wr (C #[IZ 0,IZ 0,IZ 0,D O 0 0] 33)) (D a d c) d 1 (η (ϡ m)):=by have:=(k.o.rb.alloc (C #[IZ 0,IZ 0,IZ 0,D O 0 0] 33)).now;rw[al]at this;exact this
    have bO:=Zh (au.o _ bm);have bZ:=Zh (Γ bx bE);have bW:=Zh ab;have bQ:=Zh aX;clear aA az au bm bi aL ae ab aJ aX aq bE bx bv ap br bF;go_wp2_with fail
    refine bO.o.mono ?_;rintro e N ⟨o,s,kd,ei,em,I,M,K,rfl,bt,bp⟩;obtain⟨a0,cM,V⟩:=Ϻ bp;have a9:=θ k.o.r1 V;have bb:=θ k.o.r4 V;have bd:=θ k.o.r6 V;have aS:=θ k.o.r7 V;obtain⟨⟨aM,p1,p2⟩,⟨aV,f1,f2⟩,-⟩:=Β aS;obtain⟨⟨bG,bH,bI,bJ⟩,⟨cg,ch,ci,cj⟩,-⟩:=Ϫ a0;go_upto_region 11 with (fail)
    have o1:=k.o.o1;have o2:=k.o.o2;have o3:=k.o.o3;have a6:=(nY (set3 f.heap.size (D o d s) (IZ (E:Int)) (IZ 0) N) wr.heap.size (w.heap.size+1) ϊ (IZ kd) (IZ ei) (IZ em) (D I M K)).trans ((kj N f.heap.size (w.heap.size+1) ϊ (D o d s) (IZ (E:Int)) (IZ 0)).trans a9);have a7:=(nY (set3 f.heap.size (D o d s) (IZ (E:Int)) (IZ 0) N) wr.heap.size i.heap.size ϊ (IZ kd) (IZ ei) (IZ em) (D I M K)).trans ((kj N f.heap.size i.heap.size ϊ (D o d s) (IZ (E:Int)) (IZ 0)).trans bb);have aQ:=(nY (set3 f.heap.size (D o d s) (IZ (E:Int)) (IZ 0) N) wr.heap.size (i.heap.size+1) ϊ (IZ kd) (IZ ei) (IZ em) (D I M K)).trans ((kj N f.heap.size (i.heap.size+1) ϊ (D o d s) (IZ (E:Int)) (IZ 0)).trans bd);have aR:=(nY (set3 f.heap.size (D o d s) (IZ (E:Int)) (IZ 0) N) wr.heap.size f.heap.size ϊ (IZ kd) (IZ ei) (IZ em) (D I M K)).trans (jg aS (D o d s) (IZ (E:Int)) (IZ 0));have a8:=nD ((kj N f.heap.size wr.heap.size ϊ (D o d s) (IZ (E:Int)) (IZ 0)).trans a0) (IZ kd) (IZ ei) (IZ em) (D I M K);have aB:=oF (kL (k.o.bel.trans (V.mono k.o.bel.size)) (ϊ:w.heap.size<=f.heap.size) (D o d s) (IZ (E:Int)) (IZ 0)) (show w.heap.size<=wr.heap.size by have:=k.o.bel.size;omega) (IZ kd) (IZ ei) (IZ em) (D I M K);have aN:=Zh (vk (lr bt (g:=f.heap.size) ϓ (D o d s) (IZ (E:Int)) (IZ 0)) (g:=wr.heap.size) ϓ (IZ kd) (IZ ei) (IZ em) (D I M K));have aO:=Zh ((k.o.rx.step (w':=oc wr.heap.size (IZ kd) (IZ ei) (IZ em) (D I M K) (set3 f.heap.size (D o d s) (IZ (E:Int)) (IZ 0) N)) (H':=fun b=>b<=i.heap.size+1\/b=f.heap.size) (by have:=V.size;simpa using this) (fun b b3 b4=>(nY _ _ _ ϊ _ _ _ _).trans ((kj _ _ _ (fun e=>b4 (.inr e)) _ _ _).trans (V.block b b3))) (fun _ _ g=>g)));clear a9 bb bd aS a0 aM p1 p2 aV f1 f2 bG bH bI bJ cg ch ci cj bt;have cf:(oc wr.heap.size (IZ kd) (IZ ei) (IZ em) (D I M K) (set3 f.heap.size (D o d s) (IZ (E:Int)) (IZ 0) N)).heap.size=N.heap.size:=ύ;have cB:=k.o.bel.size;have cA:=V.size;clear bp V b7;simp only[set3,oc]at a6 a7 aQ aR a8 aB aN aO cf;generalize(ŝ (ŝ (ŝ (ŝ (ŝ (ŝ (ŝ N ⟨f.heap.size,0,O⟩ (D o d s)) ⟨f.heap.size,1,O⟩ (IZ (E:Int))) ⟨f.heap.size,2,O⟩ (IZ 0)) ⟨wr.heap.size,0,O⟩ (IZ kd)) ⟨wr.heap.size,1,O⟩ (IZ ei)) ⟨wr.heap.size,2,O⟩ (IZ em)) ⟨wr.heap.size,3,O⟩ (D I M K))=b2 at *;obtain⟨⟨aM,p1,p2⟩,-,-⟩:=Β aR;obtain⟨⟨bK,bL⟩,-,-⟩:=ι aQ;obtain⟨⟨bG,bH,bI,bJ⟩,-,-⟩:=Ϫ a8;have bN:=Zh (a2.o kd ei em I M K b2 (bY.o.below aB) aO.o.now.1 aO.o.now.2 aN.o.now.2);go_wp2_with fail
    refine bN.o.mono ?_;rintro e aj ⟨P,R,Q,S,rfl,bu,G⟩;have aT:=θ aQ G;obtain⟨⟨bK,bL⟩,⟨aV,f1⟩,-⟩:=ι aT;have bg:=Ϲ aT (D P (L j.1) R) (D Q (L j.2) S);have cz:=G.size;have be:=(jf aj (i.heap.size+1) (w.heap.size+1) ϊ (D P (L j.1) R) (D Q (L j.2) S)).trans (θ a6 G);have bf:=(jf aj (i.heap.size+1) i.heap.size ϊ (D P (L j.1) R) (D Q (L j.2) S)).trans (θ a7 G);have aU:=(jf aj (i.heap.size+1) f.heap.size ϊ (D P (L j.1) R) (D Q (L j.2) S)).trans (θ aR G);have bq:=fS (aB.trans (G.mono aB.size)) (ϊ:w.heap.size<=i.heap.size+1) (D P (L j.1) R) (D Q (L j.2) S);have bj:ς (fun b=>b<=i.heap.size+1\/b=f.heap.size) (ŝ (ŝ aj ⟨i.heap.size+1,0,O⟩ (D P (L j.1) R)) ⟨i.heap.size+1,1,O⟩ (D Q (L j.2) S)) (fun ac=>Rd ac (D o d s) d 1 (η (ϡ m))):=
     ((((aN.o.imp fun _ r=>r.1).off (H:=fun b=>b<=i.heap.size+1\/b=f.heap.size) (fun b ax ay=>ϓ)).below G).set (.inl NZ) _).set (.inl NZ) _
    have bk:ς (fun b=>b<=i.heap.size+1\/b=f.heap.size) (ŝ (ŝ aj ⟨i.heap.size+1,0,O⟩ (D P (L j.1) R)) ⟨i.heap.size+1,1,O⟩ (D Q (L j.2) S)) (fun ac=>Δ ac (D P (L j.1) R) j.1/\ϧ j.1 ac (D Q (L j.2) S) j.2):=
     ((bu.off (H:=fun b=>b<=i.heap.size+1\/b=f.heap.size) (fun b ax ay=>ϊ)).set (.inl NZ) _).set (.inl NZ) _
    have bS:=Zh (show OL w (ŝ (ŝ aj ⟨i.heap.size+1,0,O⟩ (D P (L j.1) R)) ⟨i.heap.size+1,1,O⟩ (D Q (L j.2) S)) i.heap.size (i.heap.size+1) f.heap.size seq d E (ϡ m) j P R Q S o s from
     ⟨be,bf,bg,by rw[ak.o];exact aU,o1,o2,o3,bq,ό,by rw[ak.o];exact bj,bk⟩)
    have b0:=(Β aU).1.2.1;have bh:=k.o.r7;have b1:=(Β bh).1.2.1;clear bh;have aX:=bQ.o;have aA:=a4.o;have az:=bT.o;clear aT bg be bf aU bq bj bk bu G;go_wp2;go_roundw;case rel=>exact⟨t++[B],T,j,P,R,Q,S,o,s,by rw[bW.o,gM];rfl,bZ.o.1,by rw[vf,ω,<-a4.o];exact bS.o⟩
    case measure =>
     rw[b0,b1];simp only[Option.getD_some,intOf,ut];omega
inductive gQ where
 |sync
 |put (at':Nat) (b:γ)
def gQ.ok (nb:Nat):gQ->Prop
 |.sync=>True
 |.put a b=>a<nb/\L b=64
def lO (w:β) (c:List ε) (k:Nat):gQ->Prop
 |.sync=>c[k*3]?=J (.bool true)/\c[k*3+1]?=J (IZ 0)/\c[k*3+2]?=J (D O 0 0)
 |.put a b=>c[k*3]?=J (.bool false)/\c[k*3+1]?=J (IZ (a:Int))/\∃ d,c[k*3+2]?=J d/\Rd w d (L b) 1 (η b)
def pW (w:β) (v:ε) (l:List gQ):Prop:= ∃ b,Rd w v (L l) 3 b/\∀ a (c:a<L l),lO w b a l[a]
theorem lO.below {w w':β} {d:List ε} {k:Nat} {c:gQ} (h:lO w d k c) (j:BQ w w'):lO w' d k c:=by
 cases c with
 |sync=>exact h
 |put a b=>obtain⟨e,f,l,g,i⟩:=h;exact⟨e,f,l,g,i.below j⟩
theorem pW.below {w w':β} {v:ε} {l:List gQ} (h:pW w v l) (a:BQ w w'):pW w' v l:=by
 obtain⟨b,c,d⟩:=h;exact⟨b,c.below a,fun f e=>(d f e).below a⟩
def sd (d:Ε×fV):gQ->Ε×fV
 |.sync=>(gg d.1 d.2,[])
 |.put a b=>(d.1,d.2++[(a,b)])
def hM (d:Ε×fV) (l:List gQ):Ε×fV:=l.foldl sd d
theorem HA (d:Ε×fV) (l:List gQ) (k:Nat) (a:k<L l):hM d (l.take (k+1))=sd (hM d (l.take k)) l[k]:=by
 unfold hM;rw[<-List.take_append_getElem a,List.foldl_append];rfl
theorem Nj {bl:Ε} {ws:fV} (h:ja bl ws):ja (gg bl ws) []/\L (gg bl ws)=L bl:=by
 have a:=uc bl ws (L ws);refine⟨⟨by unfold gg;rw[a];exact h.nb,ύ,?_,ύ⟩,a⟩;exact ub (P:=fun b=>∀ x∈b,L x=64) bl ws h.lb (fun x d b c=>rt c (h.lw x d).2) (L ws)
theorem BF {bl:Ε} {ws:fV} (h:ja bl ws):∀ {l:List gQ},(∀ c∈l,c.ok (L bl))->L ws+L l<=1000->ja (hM (bl,ws) l).1 (hM (bl,ws) l).2/\L (hM (bl,ws) l).1=L bl/\L (hM (bl,ws) l).2<=L ws+L l:=by
 intro l;induction l generalizing bl ws with
 |nil=>intro _ _;exact⟨h,rfl,NZ⟩
 |cons c l m =>
  intro i o;simp only[Ϧ]at o;cases c with
  |sync =>
   obtain⟨g,k⟩:=Nj h;obtain⟨e,f,d⟩:=m g (fun c j=>by rw[k];exact i c (by simp[j])) ό;refine⟨e,f.trans k,?_⟩;simp only[hM,List.foldl_cons,sd]at d ⊢;simp only[gF,Ϧ]at d ⊢;omega
  |put a b =>
   have n:a<L bl/\L b=64:=i (.put a b) ύ;have g:ja bl (ws++[(a,b)]):=⟨h.nb,ό,h.lb,fun x hx=>by
    rcases mg.1 hx with hx|hx
    .exact h.lw x hx
    .simp at hx;rw[hx];exact n⟩
   obtain⟨e,f,d⟩:=m g (fun c j=>i c (by simp[j])) ό;refine⟨e,f,?_⟩;simp only[hM,List.foldl_cons,sd]at d ⊢;simp only[ω,Ϧ,gF]at d ⊢;omega
def Fo (H:Nat->Prop) (d:Ε×fV) (f:Nat) (w:β) (e:Ending) (w':β):Prop:= ∃ a c1 b c2,e=ŗ (.tuple #[ā #[D a (L d.1) c1,D b (L d.2) c2],IZ (f:Int)])/\ς H w' (fun c=>Δ c (D a (L d.1) c1) d.1/\hL c (D b (L d.2) c2) d.2)/\Below w.heap.size w w'
theorem Jl (H:Nat->Prop) (F:Nat) (bb:Option Addr) (bd:Nat) (l:List gQ) (ba:Option Addr) (bc:Nat) (wa:Option Addr) (wc:Nat) (bl:Ε) (ws:fV) (w:β) (aT:∀ b,H b->b<w.heap.size) (aW:ς H w (fun j=>Δ j (D ba (L bl) bc) bl/\hL j (D wa (L ws) wc) ws)) (bs:ja bl ws) (bp:pW w (D bb (L l) bd) l) (aG:∀ c∈l,c.ok (L bl)) (bG:L ws+L l<=900) (bn:0<L bl) :
  Calls prog 159 #[ā #[D ba (L bl) bc,D wa (L ws) wc],D bb (L l) bd,IZ F] w (Fo H (hM (bl,ws) (l.take F)) (min F (L l)) w):=by
 obtain⟨n,am⟩:∃ n,L l=n:=⟨_,rfl⟩;rw[am];obtain⟨az,ag,aN⟩:=bp;rw[am]at ag;have bh:=Zh ag;have aO:=Zh (fun a=>BF bs (l:=l.take a) (fun c ak=>aG c (ni ak)) Ϝ);have bg:=Zh (fun a (a3:a<L l)=>aG l[a] (Χ a3));have be:=Zh aN;have aU:ς (fun b=>H b\/b=w.heap.size\/b=w.heap.size+1) (å (å w (C #[D ba (L bl) bc,D wa (L ws) wc] 41)) (C #[D O 0 0,D O 0 0] 41)) (fun j=>Δ j (D ba (L bl) bc) bl/\hL j (D wa (L ws) wc) ws):=
  aW.step ό (fun b aS _=>(((φ w.heap.size w).alloc NZ (C #[D ba (L bl) bc,D wa (L ws) wc] 41)).alloc ύ _).block b aS) (fun b aS h2=>by rcases h2 with h2|h2|h2<;>first|exact h2|omega)
 obtain⟨a6,a8,bB,bC,aX⟩:=fU (w:=w) (A:=C #[D ba (L bl) bc,D wa (L ws) wc] 41) (Z:=C #[D O 0 0,D O 0 0] 41) RZ;clear aW aG ag aN;go_enter func159,ntmps159;go_wp2;generalize(å (å w (C #[D ba (L bl) bc,D wa (L ws) wc] 41)) (C #[D O 0 0,D O 0 0] 41))=bD at *;go_loopw [14] (fun aK wr=>∃ (a:Nat) (d:Ε×fV) (f:Option Addr) (c1:Nat) (i:Option Addr) (c2:Nat),a<=n/\a<=F/\aK=IZ (a:Int)/\d=hM (bl,ws) (l.take a)/\Hid (wr.heap[w.heap.size]?=J (C #[D f (L d.1) c1,D i (L d.2) c2] 41 (0,0)))/\Hid (wr.heap[w.heap.size+1]?=J (C #[D O 0 0,D O 0 0] 41 (0,0)))/\BQ w wr/\Hid (ς (fun b=>H b\/b=w.heap.size\/b=w.heap.size+1) wr (fun j=>Δ j (D f (L d.1) c1) d.1/\hL j (D i (L d.2) c2) d.2))) (fun aK _=>n - (intOf aK).toNat)
 case atStart=>exact⟨0,(bl,ws),ba,bc,wa,wc,Ι _,Ι _,rfl,rfl,a6,a8,aX,aU⟩
 case round =>
  obtain⟨a,d,f,c1,i,c2,a3,bI,rfl,B,ap,ah,R,au⟩:=hrel;obtain⟨⟨U,d1⟩,⟨aP,f1⟩,bO⟩:=ι ap.o;obtain⟨⟨r0,r1⟩,⟨aQ,aR⟩,bP⟩:=ι ah.o;have ae:=Zh (Ϲ ah.o (D f (L d.1) c1) (D i (L d.2) c2));have Y:=Zh (fS R (go _ 1) (D f (L d.1) c1) (D i (L d.2) c2));have ab:=Zh (((au.o.set (p:=⟨w.heap.size+1,0,O⟩) (.inr (.inr rfl)) (D f (L d.1) c1)).set (p:=⟨w.heap.size+1,1,O⟩) (.inr (.inr rfl)) (D i (L d.2) c2)).sub (H':=H) (fun b _ g=>.inl g));clear a6 a8 bB bC aX aU;by_cases bJ:a<n
  .have bw:(a:Int)<(n:Int):=ϊ
   have aF:a<L l:=ϊ;have ag:=bh.o;obtain⟨-,-,⟨bE,bi,aJ,bq⟩|⟨q,off,bi,aJ,bq,bK,bH,K⟩⟩:=ag
   .omega
   simp only[Ξ,Ϯ]at aJ;obtain⟨rfl,rfl⟩:=aJ;have m:=be.o a aF;have aH:hM (bl,ws) (l.take (a+1))=sd d l[a]:=by rw[HA _ _ _ aF,<-B]
   have aE:=aO.o a;have S:=aO.o (a+1);rw[aH]at S;rw[<-B]at aE;have al:=bg.o a aF;have ai:=Zh aH;have aa:=Zh aE;clear aH aE;cases ak:l[a]with
   |sync =>
    rw[ak]at m S ai al;have bf:=Zh S;clear S;have aC:q<w.heap.size:=ib w _ (K _ _ m.1);have M:∀ (o:Nat) (x:ε),w.cell? ⟨q,o,O⟩=J x->wr.cell? ⟨q,o,O⟩=J x:=fun o x h=>(R.cell (p:=⟨q,o,O⟩) aC).trans h;have bj:=M _ _ (K _ _ m.1);have bk:wr.cell? ⟨q,off+a*3+1,O⟩=J (IZ 0):=M _ _ (K _ _ m.2.1);have bm:wr.cell? ⟨q,off+a*3+2,O⟩=J (D O 0 0):=M _ _ (K _ _ m.2.2);have z:BQ wr (å wr (C #[.bool true,IZ 0,D O 0 0] 256)):=ġ;have s:=au.o.alloc (C #[.bool true,IZ 0,D O 0 0] 256);have W:=R.trans (z.mono R.size);have T:=χ wr (C #[.bool true,IZ 0,D O 0 0] 256);have r:=θ ap.o z;have t:=θ ah.o z;have bt:wr.heap.size<(å wr (C #[.bool true,IZ 0,D O 0 0] 256)).heap.size:=ύ;clear K M m;go_upto_region 4 with (fail)
    generalize å wr (C #[.bool true,IZ 0,D O 0 0] 256)=aM at *;by_cases bo:F<=a
    .obtain rfl:a=F:=ϊ
     have aL:(a:Int)<=(a:Int):=Int.le_refl _;have ac:=Zh (ϊ:min a n=a);have N:=Zh B;have ae:=Zh (Ϲ t (D f (L d.1) c1) (D i (L d.2) c2));have Y:=Zh (fS W (go _ 1) (D f (L d.1) c1) (D i (L d.2) c2));have ab:=Zh (((s.set (p:=⟨w.heap.size+1,0,O⟩) (.inr (.inr rfl)) (D f (L d.1) c1)).set (p:=⟨w.heap.size+1,1,O⟩) (.inr (.inr rfl)) (D i (L d.2) c2)).sub (H':=H) (fun b _ g=>.inl g));obtain⟨⟨U,d1⟩,-,-⟩:=ι r;obtain⟨⟨r0,r1⟩,⟨aQ,aR⟩,-⟩:=ι t;clear B z s T r t;go_wp2;refine ϟ (v:=.tuple #[ā #[D f (L d.1) c1,D i (L d.2) c2],IZ (a:Int)]) (gf (p:=6) (u:=7) (ty:=41) rfl _ _ (w.heap.size+1) 41 _ (0,0) _ rfl ae.o oW rfl ϋ) rfl ?_;first|rw[ac.o,<-N.o]|rw[<-N.o]
     exact⟨f,c1,i,c2,rfl,ab.o,Y.o⟩
    .have aL:¬(F:Int)<=(a:Int):=ϊ
     obtain⟨⟨U,d1⟩,-,-⟩:=ι r;obtain⟨⟨bx,bz,bA⟩,-,-⟩:=Β T;have br:L l=n:=am;have ax:=Zh (AO f c1 i c2 d.1 d.2 aM s.now.1 s.now.2 aa.o.1 (by rw[aa.o.2.1];exact bn));have aq:=Zh r;have ad:=Zh t;have X:=Zh W;clear B z s T r t;go_wp2_with fail
     refine ax.o.mono ?_;rintro e j ⟨bF,k,rfl,a0,y⟩;have V:=θ aq.o y;have af:=θ ad.o y;obtain⟨⟨U,d1⟩,⟨aP,f1⟩,-⟩:=ι V;have bu:=y.size;have bv:=ο ad.o;have ar:=Zh (Ϲ V (D (J ⟨k,0,O⟩) (L (gg d.1 d.2)) (L (gg d.1 d.2))) (D O 0 0));have aw:=Zh ((jf j w.heap.size (w.heap.size+1) ϊ (D (J ⟨k,0,O⟩) (L (gg d.1 d.2)) (L (gg d.1 d.2))) (D O 0 0)).trans af);have ao:=Zh (fS (X.o.trans (y.mono X.o.size)) NZ (D (J ⟨k,0,O⟩) (L (gg d.1 d.2)) (L (gg d.1 d.2))) (D O 0 0));have av:=Zh ((((a0.hi.off (H:=fun b=>H b\/b=w.heap.size\/b=w.heap.size+1) (fun b _ g=>by
      rcases g with g|g|g
      .have:=aT b g;omega
      .omega
      .omega)).and (fun an _=>py an O 0)).set (p:=⟨w.heap.size,0,O⟩) (.inr (.inl rfl)) (D (J ⟨k,0,O⟩) (L (gg d.1 d.2)) (L (gg d.1 d.2)))).set (p:=⟨w.heap.size,1,O⟩) (.inr (.inl rfl)) (D O 0 0))
     clear a0 y V af;go_wp2;go_roundw;case rel=>exact⟨a+1,(gg d.1 d.2,[]),J ⟨k,0,O⟩,L (gg d.1 d.2),O,0,ϊ,ϊ,ϕ,ai.o.symm,ar.o,aw.o,ao.o,av.o⟩
     case measure=>simp[intOf];omega
   |put G ay =>
    rw[ak]at m S ai al;have bf:=Zh S;clear S;obtain⟨aY,aZ,bN,aD,aI⟩:=m;obtain⟨P,Q,rfl⟩:=ra aI;rw[al.2]at aI aD;have m:az[a*3]?=J (.bool false)/\az[a*3+1]?=J (IZ (G:Int))/\az[a*3+2]?=J (D P 64 Q):=⟨aY,aZ,aD⟩;clear aY aZ aD;have aC:q<w.heap.size:=ib w _ (K _ _ m.1);have M:∀ (o:Nat) (x:ε),w.cell? ⟨q,o,O⟩=J x->wr.cell? ⟨q,o,O⟩=J x:=fun o x h=>(R.cell (p:=⟨q,o,O⟩) aC).trans h;have bj:=M _ _ (K _ _ m.1);have bk:wr.cell? ⟨q,off+a*3+1,O⟩=J (IZ (G:Int)):=M _ _ (K _ _ m.2.1);have bm:wr.cell? ⟨q,off+a*3+2,O⟩=J (D P 64 Q):=M _ _ (K _ _ m.2.2);have z:BQ wr (å wr (C #[.bool false,IZ (G:Int),D P 64 Q] 256)):=ġ;have s:=au.o.alloc (C #[.bool false,IZ (G:Int),D P 64 Q] 256);have W:=R.trans (z.mono R.size);have T:=χ wr (C #[.bool false,IZ (G:Int),D P 64 Q] 256);have r:=θ ap.o z;have t:=θ ah.o z;have bt:wr.heap.size<(å wr (C #[.bool false,IZ (G:Int),D P 64 Q] 256)).heap.size:=ύ;clear K M m;go_upto_region 4 with (fail)
    generalize å wr (C #[.bool false,IZ (G:Int),D P 64 Q] 256)=aM at *;by_cases bo:F<=a
    .obtain rfl:a=F:=ϊ
     have aL:(a:Int)<=(a:Int):=Int.le_refl _;have ac:=Zh (ϊ:min a n=a);have N:=Zh B;have ae:=Zh (Ϲ t (D f (L d.1) c1) (D i (L d.2) c2));have Y:=Zh (fS W (go _ 1) (D f (L d.1) c1) (D i (L d.2) c2));have ab:=Zh (((s.set (p:=⟨w.heap.size+1,0,O⟩) (.inr (.inr rfl)) (D f (L d.1) c1)).set (p:=⟨w.heap.size+1,1,O⟩) (.inr (.inr rfl)) (D i (L d.2) c2)).sub (H':=H) (fun b _ g=>.inl g));obtain⟨⟨U,d1⟩,-,-⟩:=ι r;obtain⟨⟨r0,r1⟩,⟨aQ,aR⟩,-⟩:=ι t;clear B z s T r t;go_wp2;refine ϟ (v:=.tuple #[ā #[D f (L d.1) c1,D i (L d.2) c2],IZ (a:Int)]) (gf (p:=6) (u:=7) (ty:=41) rfl _ _ (w.heap.size+1) 41 _ (0,0) _ rfl ae.o oW rfl ϋ) rfl ?_;first|rw[ac.o,<-N.o]|rw[<-N.o]
     exact⟨f,c1,i,c2,rfl,ab.o,Y.o⟩
    .have aL:¬(F:Int)<=(a:Int):=ϊ
     obtain⟨⟨U,d1⟩,-,-⟩:=ι r;obtain⟨⟨bx,bz,bA⟩,-,-⟩:=Β T;have br:L l=n:=am;have ax:=Zh (Ge G (D P 64 Q) ay f c1 i c2 d.1 d.2 aM s.now.1 s.now.2 aa.o.1 (by rw[aa.o.2.1];exact al.1) (aI.below W) (by have:=aa.o.2.2;rw[gN]at this;omega));have aq:=Zh r;have ad:=Zh t;have X:=Zh W;clear B z s T r t;go_wp2_with fail
     refine ax.o.mono ?_;rintro e j ⟨k,E,I,rfl,a2,y⟩;have V:=θ aq.o y;have af:=θ ad.o y;have bu:=y.size;have bv:=ο ad.o;have aj:BQ j (å j (C #[D (J ⟨k,0,O⟩) (L d.1) (L d.1),D E (L d.2+1) I] 41)):=ġ;have aA:=θ V aj;have aV:=θ af aj;have a7:=χ j (C #[D (J ⟨k,0,O⟩) (L d.1) (L d.1),D E (L d.2+1) I] 41);have a1:=a2.alloc (C #[D (J ⟨k,0,O⟩) (L d.1) (L d.1),D E (L d.2+1) I] 41);go_upto_region 9 with (fail)
     generalize å j (C #[D (J ⟨k,0,O⟩) (L d.1) (L d.1),D E (L d.2+1) I] 41)=an at *;obtain⟨⟨U,d1⟩,⟨aP,f1⟩,-⟩:=ι aA;obtain⟨⟨bL,bM⟩,-,-⟩:=ι a7;have aB:=(X.o.trans (y.mono X.o.size));have ar:=Zh (Ϲ aA (D (J ⟨k,0,O⟩) (L d.1) (L d.1)) (D E (L d.2+1) I));have aw:=Zh ((jf an w.heap.size (w.heap.size+1) ϊ (D (J ⟨k,0,O⟩) (L d.1) (L d.1)) (D E (L d.2+1) I)).trans aV);have ao:=Zh (fS (aB.trans (aj.mono aB.size)) NZ (D (J ⟨k,0,O⟩) (L d.1) (L d.1)) (D E (L d.2+1) I));have a5:ς (fun b=>H b\/b=w.heap.size\/b=w.heap.size+1) (ŝ (ŝ an ⟨w.heap.size,0,O⟩ (D (J ⟨k,0,O⟩) (L d.1) (L d.1))) ⟨w.heap.size,1,O⟩ (D E (L d.2+1) I)) (fun j=>Δ j (D (J ⟨k,0,O⟩) (L d.1) (L d.1)) d.1/\hL j (D E (L d.2+1) I) (d.2++[(G,ay)])):=
      ((a1.off (H:=fun b=>H b\/b=w.heap.size\/b=w.heap.size+1) (fun b _ g=>by
       rcases g with g|g|g
       .have:=aT b g;omega
       .omega
       .omega)).set (p:=⟨w.heap.size,0,O⟩) (.inr (.inl rfl)) _).set (p:=⟨w.heap.size,1,O⟩) (.inr (.inl rfl)) _
     have av:=Zh a5;clear a2 y V af aj aA aV a7 a1 aB a5;go_wp2;go_roundw;case rel =>
      refine⟨a+1,(d.1,d.2++[(G,ay)]),J ⟨k,0,O⟩,L d.1,E,I,ϊ,ϊ,ϕ,ai.o.symm,?_,aw.o,ao.o,?_⟩
      .simp only[ω,Ϧ,gF];exact ar.o
      .simp only[ω,Ϧ,gF];exact av.o
     case measure=>simp[intOf];omega
  .obtain rfl:a=n:=ϊ
   have bw:¬(a:Int)<(a:Int):=ϊ;have a9:l.take a=l.take F:=by rw[gW ϊ,gW ϊ]
   have a4:min F a=a:=ϊ;rw[a9]at B;have ac:=Zh a4;have N:=Zh B;clear B a9 a4;go_wp2;refine ϟ (v:=.tuple #[ā #[D f (L d.1) c1,D i (L d.2) c2],IZ (a:Int)]) (gf (p:=6) (u:=7) (ty:=41) rfl _ _ (w.heap.size+1) 41 _ (0,0) _ rfl ae.o oW rfl ϋ) rfl ?_;first|rw[ac.o,<-N.o]|rw[<-N.o]
   exact⟨f,c1,i,c2,rfl,ab.o,Y.o⟩
