/- Part 43 of the proof. -/
import Derived.Test.YtpilfbcffofheaaGreatDoorm42
set_option linter.unusedVariables false
set_option linter.unusedSimpArgs false
set_option maxRecDepth 100000
set_option maxHeartbeats 8000000
namespace Go.Proofs.YtpilfbcffofheaaGreatDoor
open Go.Proofs.Tryz Go.RowKit Go.Sort
open Option renaming some->J,none->O
open Ending renaming returned->ŗ
open List renaming length->L
open Value renaming slice->D,string->š,pointer->þ,agg->ā
open Obj renaming cells->C
open World renaming alloc->å
theorem rz {w:β} {a b:Nat} {o1 o2:Obj} (c:w.heap[a]?=J o1) (d:w.heap[b]?=J o2) (h:o1≠o2):a≠b:=fun e=>by
 subst e;exact h (kF (c.symm.trans d))
def Ad (a:List Int) (w:β) (e:Ending) (w':β):Prop:= ∃ b,e=ŗ (.tuple #[b,IZ 0])/\Hi w.heap.size w' (fun c=>Rd c b (L a) 1 (τ a))/\Below w.heap.size w w'
theorem GH (aE:ε) (V:List jc) (ba:Option Addr) (aw bc:Nat) (docs:List (γ)) (p:Nat×Nat) (h nx Q W:γ) (l r1 r2 c4:List Int) (I K:γ) (k:Nat) (w:β) (cT:Ϩ w) (cS:Ϡ w) (bF:ϵ docs [p] (L docs)) (cH:Α docs p=[(h,l)]) (aV:L (gx h l)=k) (cF:nx=[]) (az:L h<=64) (cy:L I<=4000) (cz:L K<=4000)
  (bx:Rd w aE (L V) 2 (jv V)) (bz:L V<=100000) (cK:∀ s∈V,L s.2<=100000) (cI:∀ s∈V,-9223372036854775808<=s.1/\s.1<=9223372036854775807) (cJ:lG V=true) (cL:gd (iy V)=[Q,W])
  (cw:L (nM docs [p] (gA 1 h nx (Ω l) (gx h l) I) (gA 1 h nx (Ω l) (gx h l) K))=aw) (ct:Rd w (D ba aw bc) aw 1 (η (nM docs [p] (gA 1 h nx (Ω l) (gx h l) I) (gA 1 h nx (Ω l) (gx h l) K))))
  (co:∀ a aD pc aF aG,Below w.heap.size w a->Rd a (D aD k pc) k 1 (σ (gx h l))->Rd a (D aF (L I) aG) (L I) 1 (η I)->Calls prog 104 #[š (δ (hV [(h,l)])),IZ 2,š (δ Q),ā #[IZ 1,š (δ h),š (δ nx),š (δ (Ω l)),D aD k pc,D aF (L I) aG]] a (qY r1 a))
  (cp:∀ a aD pc aF aG,Below w.heap.size w a->Rd a (D aD k pc) k 1 (σ (gx h l))->Rd a (D aF (L K) aG) (L K) 1 (η K)->Calls prog 104 #[š (δ (hV [(h,l)])),IZ 2,š (δ W),ā #[IZ 1,š (δ h),š (δ nx),š (δ (Ω l)),D aD k pc,D aF (L K) aG]] a (qY r2 a))
  (cC:∀ x∈r1,(p.1:Int)<=x/\x<(p.2:Int)) (cD:∀ x∈r2,(p.1:Int)<=x/\x<(p.2:Int)) (cN:L r1<=1000) (cO:L r2<=1000)
  (cP:∀ a F aQ c1 aR c2,Below w.heap.size w a->a.heap[F]?=J (C #[D aQ (L r1) c1,D aR (L r2) c2] 23 (0,0))->Rd a (D aQ (L r1) c1) (L r1) 1 (τ r1)->Rd a (D aR (L r2) c2) (L r2) 1 (τ r2)->Calls prog 106 #[aE,D (J ⟨F,0,O⟩) 2 2] a (Ad c4 a)) :
  Calls prog 52 #[š (δ (iI docs [p])),aE,D ba aw bc] w (Ad c4 w):=by
 have dF:(δ (iI docs [p])).size=32:=by rw[jx,zh]
 have be:=Zx (yZ aE V w cT bx bz cK cI);rw[cJ]at be;have bf:=Zx (fun a (U:Below w.heap.size w a)=>za aE V a (bx.below U) bz);rw[cL,show(L ([Q,W]:List (γ)))=2 from rfl]at bf;have aM:=Zx (fun a (U:Below w.heap.size w a)=>Lx ba aw bc docs [p] h nx (Ω l) (gx h l) k I K a rfl cw (ct.below U) bF az (by rw[cF];simp) (hO _) aV (by have:=(yS h l).2;omega) (pA _ _ _ (kQ _)) cy cz);unfold xb at aM;have cQ:Ϸ docs [p]=[IZ p.1,IZ p.2,IZ 2,š (δ (hV [(h,l)]))]:=by simp[Ϸ,lZ,cH]
 have bb:=Zx (fun dl dt bP a (U:Below w.heap.size w a) ad S dA=>xH dl dt bP docs [p] a (cS.below U) ad S dA bF);rw[cQ]at aM bb;have b6:=Zx co;have b7:=Zx cp;have aL:=Zx (Γ cC (Γ cD (Γ cN cO)));have dq:=Zx cP;obtain⟨dK,dD,dG,dH,dI⟩:=ϯ IW;obtain⟨bE,bt,bB,bC,bD⟩:=ϯ IU;generalize iI docs [p]=ca at *;generalize hV [(h,l)]=ab at *;generalize ϣ docs=aN at *;generalize(L docs:Int)=aZ at *;generalize Ω l=aO at *;generalize gx h l=dS at *;clear cT cS bF cH aV cF az cy cz bx bz cK cI cJ cL cw ct co cp cC cD cN cO cP cQ;have cc:∀ ac a,(callFunc 132 ac).run prog a=.ok (.enter 132 ac) a:=iB func132 ϋ rfl;have cd:∀ ac a,(callFunc 102 ac).run prog a=.ok (.enter 102 ac) a:=iB func102 ϋ rfl;have ce:∀ ac a,(callFunc 103 ac).run prog a=.ok (.enter 103 ac) a:=iB func103 ϋ rfl;have aK:=Zx (Γ cc (Γ cd ce));clear cc cd ce;go_enter func52,ntmps52;go_wp2_with fail
 refine be.o.mono ?_;rintro e dM ⟨rfl,bm⟩;have X:=Zx (aM.o dM bm);have aI:=Zx bm;clear bm aM be dF;go_wp2_with fail
 refine X.o.mono ?_;rintro e bR ⟨sa,sc,a1,a2,cV,cW,bH,bJ,bL,bN,bI,bK,bM,bO,rfl,cR,cs,bn⟩;obtain⟨ch,ar,aU⟩:=Ϻ (w:=bR) (A:=C #[IZ aZ,š (δ aN),D sa 1 sc,D a1 1 a2] 192) RZ;have aJ:=Zx ((aI.o.trans (bn.mono aI.o.size)).trans (aU.mono (by have:=aI.o.size;have:=bn.size;omega)));have b5:=Zx (cR.below aU);have dr:=Zx (cs.below aU);have a8:=Zx ch;clear ch aU cR cs bn X aI;go_upto_region 6 with (fail)
 generalize å bR (C #[IZ aZ,š (δ aN),D sa 1 sc,D a1 1 a2] 192)=aP at *;generalize bR.heap.size=j at *;have X:=Zx (bf.o aP aJ.o);clear bf;go_wp2_with fail
 refine X.o.mono ?_;rintro e bS ⟨dU,rfl,bv,bo⟩;obtain⟨c7,c8,rfl⟩:=Θ bv;obtain⟨cq,dk,bs⟩:=Ϻ (w:=bS) (A:=C #[D c7 2 c8] 143) RZ;have ak:=Zx (bo.trans (bs.mono bo.size));have bg:=Zx cq;have b9:=Zx (Rd.below (Rd.of_own bv) bs);clear cq bs bo bv X;go_upto_region 7 with (fail)
 generalize å bS (C #[D c7 2 c8] 143)=v at *;generalize bS.heap.size=R at *;obtain⟨c0,-,-⟩:=gm bg.o;go_upto_region 8 with (at_make;refine si v rfl (.tmp 37) (.tmp 37) _ rfl v.heap.size 23 dK _ 1 underlying196 dD dG dH .i64 .i64 _ _ 2 rfl rfl ύ ύ (by rw[dI];omega) ώ NZ ?_;intro aq bw cB;have bq:Below v.heap.size v aq:=RZ.grown cB NZ (fun _ h=>by cases h))
 have cE:(madeCells (Value.slice O 0 0).cells (2*1)).toList=[D O 0 0,D O 0 0]:=rr (D O 0 0) 2;rw[cE]at bw;have bk:aq.heap[v.heap.size]?=J (C #[D O 0 0,D O 0 0] 23 (0,0)):=rB bw;obtain⟨ck,di,br⟩:=Ϻ (w:=aq) (A:=C #[D (J ⟨v.heap.size,0,O⟩) 2 2] 196) RZ;have bZ:=Zx (bq.trans (br.mono bq.size));have dm:=Zx (θ bk br);have dp:=Zx ck;have ds:=Zx (show v.heap.size<aq.heap.size from ο bk);clear cE bk ck br bq cB bw c0;generalize å aq (C #[D (J ⟨v.heap.size,0,O⟩) 2 2] 196)=bi at *;generalize aq.heap.size=u at *;obtain⟨⟨du,aQ,aR,-⟩,-,-⟩:=Ϫ (θ (θ a8.o ak.o) bZ.o);go_wp2_with fail
 refine(xQ _ _ _ _ _).mono ?_;rintro e dW ⟨rfl,rfl⟩;obtain⟨cl,cn,a5,a6,ao⟩:=fU (w:=bi) (A:=C #[IZ aZ,š (δ aN),D sa 1 sc] 123) (Z:=C #[š (δ ca)] 9) RZ;replace ao:Below _ _ _:=ao;generalize dC:å (å bi (C #[IZ aZ,š (δ aN),D sa 1 sc] 123)) (C #[š (δ ca)] 9)=z at *;clear dC;generalize bl:bi.heap.size=f at *;go_upto_region 9 with (fail)
 obtain⟨ci,dO,cv⟩:=Ϻ (w:=z) (A:=C #[.func (.func 132) #[] #[þ (J ⟨f,0,O⟩),þ (J ⟨f+1,0,O⟩)]] 24) RZ;obtain⟨g,aT⟩:∃ g,g=z.heap.size:=⟨_,rfl⟩;have b0:Ϭ (lA g z (D (J ⟨g,0,O⟩) 1 1) 1 [.func (.func 132) #[] #[þ (J ⟨f,0,O⟩),þ (J ⟨f+1,0,O⟩)]] (fun _=>True) (å z (C #[.func (.func 132) #[] #[þ (J ⟨f,0,O⟩),þ (J ⟨f+1,0,O⟩)]] 24))):=⟨⟨by rw[aT];exact cv,⟨rfl,.inr ⟨g,1,_,rfl,NZ,by rw[aT];exact ci,NZ,ώ,rfl,rfl⟩⟩,fun _ _=>trivial,by rw[aT];simp⟩⟩;have bh:=Zx (show v.heap.size<u/\u<f/\f+1<g/\j<v.heap.size/\R<v.heap.size from⟨ds.o,di,ϊ,by have:=ο (θ a8.o ak.o);omega,dk⟩);rw[<-aT]at *;generalize hF:v.heap.size=F at *;have bd:=Zx (bZ.o.trans (ao.mono (by have:=bh.o;omega)));have b4:=Zx (Γ (θ (θ a8.o ak.o) (hF ▸ bd.o)) (Γ (θ bg.o (hF ▸ bd.o)) (Γ (θ dm.o (bl ▸ ao)) (Γ (θ dp.o (bl ▸ ao)) (Γ cl cn)))));obtain⟨⟨-,-,dv,-⟩,-,-⟩:=Ϫ (θ b4.o.1 ((φ z.heap.size z).alloc NZ (C #[.func (.func 132) #[] #[þ (J ⟨f,0,O⟩),þ (J ⟨f+1,0,O⟩)]] 24)));clear du aQ aR dO a5 a6 ao cl cn cv ci di dk ar bl;generalize å z (C #[.func (.func 132) #[] #[þ (J ⟨f,0,O⟩),þ (J ⟨f+1,0,O⟩)]] 24)=dP at *;have au:=Zx (fun a (U:Below g z a)=>show Below aP.heap.size aP a/\Below w.heap.size w a/\Below v.heap.size v a by
  have ad:=bd.o.trans (U.mono (by have:=bh.o;omega))
  have cg:Below v.heap.size v a:=hF ▸ ad
  have S:=ak.o.trans (cg.mono ak.o.size)
  exact⟨S,aJ.o.trans (S.mono aJ.o.size),cg⟩)
 go_wp2;go_loopw [12,48] (fun am N wr=>(N=IZ 0/\am=D (J ⟨g,0,O⟩) 1 1/\Ϭ (lA g z (D (J ⟨g,0,O⟩) 1 1) 1 [.func (.func 132) #[] #[þ (J ⟨f,0,O⟩),þ (J ⟨f+1,0,O⟩)]] (fun _=>True) wr))\/(N=IZ 1/\∃ o q c n m y t M,am=D o 4 q/\Ϭ (lA g z (D o 4 q) 4 [.func (.func 132) #[] #[þ (J ⟨f,0,O⟩),þ (J ⟨f+1,0,O⟩)],.func (.func 102) #[] #[þ (J ⟨j,0,O⟩),þ (J ⟨c,0,O⟩),þ (J ⟨R,0,O⟩)],.func (.func 103) #[] #[þ (J ⟨n,0,O⟩),þ (J ⟨y,0,O⟩),þ (J ⟨j,0,O⟩),þ (J ⟨c,0,O⟩),þ (J ⟨m,0,O⟩),þ (J ⟨u,0,O⟩)],.func (.func 103) #[] #[þ (J ⟨n,0,O⟩),þ (J ⟨M,0,O⟩),þ (J ⟨j,0,O⟩),þ (J ⟨c,0,O⟩),þ (J ⟨t,0,O⟩),þ (J ⟨u,0,O⟩)]] (fun i=>((((((True/\i.heap[c]?=J (C #[IZ 0] 3 (0,0)))/\i.heap[n]?=J (C #[IZ p.1,IZ p.2,IZ 2,š (δ ab)] 198 (0,0)))/\i.heap[m]?=J (C #[IZ 0] 3 (0,0)))/\i.heap[y]?=J (C #[š (δ Q)] 9 (0,0)))/\i.heap[t]?=J (C #[IZ 1] 3 (0,0)))/\i.heap[M]?=J (C #[š (δ W)] 9 (0,0)))) wr))) (fun _ N _=>1 - (intOf N).toNat)
 case atStart=>exact .inl ⟨rfl,rfl,b0⟩
 case round =>
  clear b0 dv;rcases hrel with ⟨rfl,rfl,r⟩|⟨rfl,o,q,c,n,m,y,t,M,rfl,r⟩
  .obtain⟨an,ap,bp⟩:=au.o wr r.o.b
   obtain⟨dT,so,rfl,aA⟩:=mW (b5.o.below an) ϊ;have cf:=aA 0 _ rfl;have dx:=aA 1 _ rfl;have dy:=aA 2 _ rfl;have dz:=aA 3 _ rfl;simp only[kW]at cf;have B:=Zx ((r.o.alloc #[IZ 0] 3).alloc #[IZ p.1,IZ p.2,IZ 2,š (δ ab)] 198);have ag:(å wr (C #[IZ 0] 3)).heap.size=wr.heap.size+1:=ύ;rw[ag]at B;clear aA an ap bp r ag;go_upto_region 12 with (fail)
   generalize å (å wr (C #[IZ 0] 3)) (C #[IZ p.1,IZ p.2,IZ 2,š (δ ab)] 198)=wa at *;generalize wr.heap.size=c at *;clear cf dx dy dz;have E:=Zx (B.o.below ((φ (wa).heap.size (wa)).alloc NZ (C #[.func (.func 102) #[] #[þ (J ⟨j,0,O⟩),þ (J ⟨c,0,O⟩),þ (J ⟨R,0,O⟩)]] 24)));have aa:=Zx (mZ (P:=prog) (tx:=155) (e:=24) sk (wa) #[.func (.func 102) #[] #[þ (J ⟨j,0,O⟩),þ (J ⟨c,0,O⟩),þ (J ⟨R,0,O⟩)]] 1 1 1 (wa).heap.size rfl rfl ϗ);have aC:=B.o.z;go_upto_region 13 with (at_builtin;go_loud (refine gn rfl _ _ _ _ rfl g 24 bE _ 1 8 sk bt bB bC bD rfl (D (J ⟨g,0,O⟩) 1 1) 1 _ (by rfl) E.o.o _ 1 _ (by rfl) aa.o ώ ϊ ό ?_;intro db a3 G af ah _;obtain⟨av,ax,rfl⟩:=Θ G))
   have Y:=Zx (E.o.grown G af ah);clear G af ah E aa aC;generalize dB:c+1=n at *;clear dB B;have cr:=θ bg.o (au.o a3 Y.o.b).2.2;obtain⟨⟨dL,-,-⟩,cM⟩:=Γ (gm cr) (b9.o.below (au.o a3 Y.o.b).2.2);clear cr;obtain⟨c5,c6,rfl,-⟩:=mW cM ϊ;have b8:=Zx (fun a (U:Below g z a)=>show a.cell? ⟨c5,c6,O⟩=J (š (δ Q))/\a.cell? ⟨c5,c6+1,O⟩=J (š (δ W))by
    obtain⟨dQ,dR,cA,cx⟩:=mW (b9.o.below (au.o a U).2.2) ϊ
    simp only[Ο,Addr.mk.injEq,hR]at cA
    obtain⟨rfl,rfl⟩:=cA
    exact⟨cx 0 _ rfl,cx 1 _ rfl⟩)
   clear cM;go_wp2;go_loopw [12,59] (fun am N wr=>(N=IZ 0/\∃ o q,am=D o 2 q/\Ϭ (lA g z (D o 2 q) 2 [.func (.func 132) #[] #[þ (J ⟨f,0,O⟩),þ (J ⟨f+1,0,O⟩)],.func (.func 102) #[] #[þ (J ⟨j,0,O⟩),þ (J ⟨c,0,O⟩),þ (J ⟨R,0,O⟩)]] (fun i=>((True/\i.heap[c]?=J (C #[IZ 0] 3 (0,0)))/\i.heap[n]?=J (C #[IZ p.1,IZ p.2,IZ 2,š (δ ab)] 198 (0,0)))) wr))\/(N=IZ 1/\∃ o q m y,am=D o 3 q/\Ϭ (lA g z (D o 3 q) 3 [.func (.func 132) #[] #[þ (J ⟨f,0,O⟩),þ (J ⟨f+1,0,O⟩)],.func (.func 102) #[] #[þ (J ⟨j,0,O⟩),þ (J ⟨c,0,O⟩),þ (J ⟨R,0,O⟩)],.func (.func 103) #[] #[þ (J ⟨n,0,O⟩),þ (J ⟨y,0,O⟩),þ (J ⟨j,0,O⟩),þ (J ⟨c,0,O⟩),þ (J ⟨m,0,O⟩),þ (J ⟨u,0,O⟩)]] (fun i=>((((True/\i.heap[c]?=J (C #[IZ 0] 3 (0,0)))/\i.heap[n]?=J (C #[IZ p.1,IZ p.2,IZ 2,š (δ ab)] 198 (0,0)))/\i.heap[m]?=J (C #[IZ 0] 3 (0,0)))/\i.heap[y]?=J (C #[š (δ Q)] 9 (0,0)))) wr))\/(N=IZ 2/\∃ o q m y t M,am=D o 4 q/\Ϭ (lA g z (D o 4 q) 4 [.func (.func 132) #[] #[þ (J ⟨f,0,O⟩),þ (J ⟨f+1,0,O⟩)],.func (.func 102) #[] #[þ (J ⟨j,0,O⟩),þ (J ⟨c,0,O⟩),þ (J ⟨R,0,O⟩)],.func (.func 103) #[] #[þ (J ⟨n,0,O⟩),þ (J ⟨y,0,O⟩),þ (J ⟨j,0,O⟩),þ (J ⟨c,0,O⟩),þ (J ⟨m,0,O⟩),þ (J ⟨u,0,O⟩)],.func (.func 103) #[] #[þ (J ⟨n,0,O⟩),þ (J ⟨M,0,O⟩),þ (J ⟨j,0,O⟩),þ (J ⟨c,0,O⟩),þ (J ⟨t,0,O⟩),þ (J ⟨u,0,O⟩)]] (fun i=>((((((True/\i.heap[c]?=J (C #[IZ 0] 3 (0,0)))/\i.heap[n]?=J (C #[IZ p.1,IZ p.2,IZ 2,š (δ ab)] 198 (0,0)))/\i.heap[m]?=J (C #[IZ 0] 3 (0,0)))/\i.heap[y]?=J (C #[š (δ Q)] 9 (0,0)))/\i.heap[t]?=J (C #[IZ 1] 3 (0,0)))/\i.heap[M]?=J (C #[š (δ W)] 9 (0,0)))) wr))) (fun _ N _=>2 - (intOf N).toNat)
   case atStart=>exact .inl ⟨rfl,av,ax,rfl,Y⟩
   case round =>
    clear Y dL;rcases hrel with ⟨rfl,o,q,rfl,r⟩|⟨rfl,o,q,m,y,rfl,r⟩|⟨rfl,o,q,m,y,t,M,rfl,r⟩
    .obtain⟨bT,bU⟩:=b8.o wr r.o.b
     have B:=Zx ((r.o.alloc #[IZ 0] 3).alloc #[š (δ Q)] 9);have ag:(å wr (C #[IZ 0] 3)).heap.size=wr.heap.size+1:=ύ;rw[ag]at B;clear r ag;go_upto_region 16 with (fail)
     generalize å (å wr (C #[IZ 0] 3)) (C #[š (δ Q)] 9)=wa at *;generalize wr.heap.size=m at *;clear bT bU;have E:=Zx (B.o.below ((φ (wa).heap.size (wa)).alloc NZ (C #[.func (.func 103) #[] #[þ (J ⟨n,0,O⟩),þ (J ⟨(m+1),0,O⟩),þ (J ⟨j,0,O⟩),þ (J ⟨c,0,O⟩),þ (J ⟨m,0,O⟩),þ (J ⟨u,0,O⟩)]] 24)));have aa:=Zx (mZ (P:=prog) (tx:=155) (e:=24) sk (wa) #[.func (.func 103) #[] #[þ (J ⟨n,0,O⟩),þ (J ⟨(m+1),0,O⟩),þ (J ⟨j,0,O⟩),þ (J ⟨c,0,O⟩),þ (J ⟨m,0,O⟩),þ (J ⟨u,0,O⟩)]] 1 1 1 (wa).heap.size rfl rfl ϗ);have aC:=B.o.z;go_wp2_with (at_builtin;go_loud (refine gn rfl _ _ _ _ rfl g 24 bE _ 1 8 sk bt bB bC bD rfl (D o 2 q) 2 _ (by rfl) E.o.o _ 1 _ (by rfl) aa.o ώ ϊ ό ?_;intro db a3 G af ah _;obtain⟨av,ax,rfl⟩:=Θ G))
     have Y:=Zx (E.o.grown G af ah);clear G af ah E aa aC;go_wp2_with fail
     go_roundw;case rel=>exact .inr (.inl ⟨rfl,av,ax,m,m+1,rfl,Y⟩)
     case measure=>simp[intOf]
    .obtain⟨bT,bU⟩:=b8.o wr r.o.b
     have B:=Zx ((r.o.alloc #[IZ 1] 3).alloc #[š (δ W)] 9);have ag:(å wr (C #[IZ 1] 3)).heap.size=wr.heap.size+1:=ύ;rw[ag]at B;clear r ag;go_upto_region 16 with (fail)
     generalize å (å wr (C #[IZ 1] 3)) (C #[š (δ W)] 9)=wa at *;generalize wr.heap.size=t at *;clear bT bU;have E:=Zx (B.o.below ((φ (wa).heap.size (wa)).alloc NZ (C #[.func (.func 103) #[] #[þ (J ⟨n,0,O⟩),þ (J ⟨(t+1),0,O⟩),þ (J ⟨j,0,O⟩),þ (J ⟨c,0,O⟩),þ (J ⟨t,0,O⟩),þ (J ⟨u,0,O⟩)]] 24)));have aa:=Zx (mZ (P:=prog) (tx:=155) (e:=24) sk (wa) #[.func (.func 103) #[] #[þ (J ⟨n,0,O⟩),þ (J ⟨(t+1),0,O⟩),þ (J ⟨j,0,O⟩),þ (J ⟨c,0,O⟩),þ (J ⟨t,0,O⟩),þ (J ⟨u,0,O⟩)]] 1 1 1 (wa).heap.size rfl rfl ϗ);have aC:=B.o.z;go_wp2_with (at_builtin;go_loud (refine gn rfl _ _ _ _ rfl g 24 bE _ 1 8 sk bt bB bC bD rfl (D o 3 q) 3 _ (by rfl) E.o.o _ 1 _ (by rfl) aa.o ώ ϊ ό ?_;intro db a3 G af ah _;obtain⟨av,ax,rfl⟩:=Θ G))
     have Y:=Zx (E.o.grown G af ah);clear G af ah E aa aC;go_wp2_with fail
     go_roundw;case rel=>exact .inr (.inr ⟨rfl,av,ax,m,y,t,t+1,rfl,Y⟩)
     case measure=>simp[intOf]
    .go_wp2_with fail
     go_roundw;case rel=>exact .inr ⟨rfl,o,q,c,n,m,y,t,M,rfl,r⟩
     case measure=>simp[intOf]
  .have ae:=r.o.b
   obtain⟨an,ap,bp⟩:=au.o wr ae;obtain⟨⟨⟨⟨⟨⟨-,aH⟩,a4⟩,bV⟩,bX⟩,bW⟩,bY⟩:=r.o.x.now;have dJ:=bh.o;obtain⟨dc,dh,dd,dg,de,df⟩:=b4.o;have ar:=(ae.block _ (ϊ:j<g)).trans dc;have dj:=(ae.block _ (ϊ:R<g)).trans dh;have ai:=(ae.block _ (ϊ:F<g)).trans dd;have a7:=(ae.block _ (ϊ:u<g)).trans dg;have a5:=(ae.block _ (ϊ:f<g)).trans de;have a6:=(ae.block _ (ϊ:f+1<g)).trans df;have a0:=rz aH ai ύ;have bG:=rz a4 ai ύ;have cX:=rz bV ai ύ;have cZ:=rz bX ai ύ;have cY:=rz bW ai ύ;have c3:=rz bY ai ύ;have aX:w.heap.size<=F/\aP.heap.size<=F:=by
    have ad:=aJ.o.size;have S:=ak.o.size;omega
   have cm:=(Hi.own r.o.o).off (H:=(· =F)) (fun b _ e=>by have e:b=F:=e;omega);have b3:=Zx (xR [(132,#[þ (J ⟨f,0,O⟩),þ (J ⟨f+1,0,O⟩)]),(102,#[þ (J ⟨j,0,O⟩),þ (J ⟨c,0,O⟩),þ (J ⟨R,0,O⟩)]),(103,#[þ (J ⟨n,0,O⟩),þ (J ⟨y,0,O⟩),þ (J ⟨j,0,O⟩),þ (J ⟨c,0,O⟩),þ (J ⟨m,0,O⟩),þ (J ⟨u,0,O⟩)]),(103,#[þ (J ⟨n,0,O⟩),þ (J ⟨M,0,O⟩),þ (J ⟨j,0,O⟩),þ (J ⟨c,0,O⟩),þ (J ⟨t,0,O⟩),þ (J ⟨u,0,O⟩)])] (nL F wr r1 r2) o 4 q wr rfl ⟨Η.refl _ _,_,_,ai,fun _=>rfl,fun _=>rfl,fun h=>ϊ,fun h=>ϊ⟩
    (fun k a h=>(cm.oneCh rfl h.1).now)
    (fun k aV=>by
     have:k=0\/k=1\/k=2\/k=3:=by simp at aV;omega
     rcases this with rfl|rfl|rfl|rfl
     .exact aK.o.1
     .exact aK.o.2.1
     .exact aK.o.2.2
     .exact aK.o.2.2)
    (fun aY dE a d=>by
     have aB:=d.1.to ap ap.size aX.1
     have cU:=d.1.to an an.size aX.2
     have T:=dr.o.below cU
     have this:aY=0\/aY=1\/aY=2\/aY=3:=by simp at dE;omega
     rcases this with rfl|rfl|rfl|rfl
     .exact(bb.o _ _ _ a aB (d.1.row ϊ a5) (d.1.row ϊ a6) (b5.o.below cU)).mono fun e bQ ⟨ad,S⟩=>⟨ad,d.below S ϊ⟩
     .exact(GD _ _ _ _ _ _ _ _ _ _ _ _ a (d.1.row ϊ ar) (d.1.row a0 aH) (d.1.row ϊ dj) T.q).mono fun e bQ ⟨ad,S⟩=>⟨ad,d.below S ϊ⟩
     .obtain⟨-,c9,da,ay,dw,bj,-,-⟩:=id d
      rw[dw ϊ,bj ϊ]at ay
      exact(Bi n y j c m u F p.1 p.2 ab Q _ _ _ a1 a2 cV cW 0 (lu h nx aO (D bH k bJ) (D bL (L I) bN)++lu h nx aO (D bI k bK) (D bM (L K) bO)) _ _ _ _ _ _ _ r1 a (d.1.row bG a4) (d.1.row cZ bX) (d.1.row ϊ ar) (d.1.row a0 aH) (d.1.row cX bV) (d.1.row ϊ a7) ay ϊ rfl T.q T.l rfl rfl rfl rfl rfl rfl (fun i aj=>b6.o i bH bJ bL bN (aB.trans (aj.mono aB.size)) (T.p1.below aj) (T.d1.below aj)) aL.o.1 aL.o.2.2.1).mono fun e bQ h=>d.two h
     .obtain⟨-,c9,da,ay,-,bj,aS,-⟩:=id d
      obtain⟨b1,d1,rfl,aW⟩:=aS ϊ
      rw[bj ϊ]at ay
      exact(Bi n M j c t u F p.1 p.2 ab W _ _ _ a1 a2 cV cW 1 (lu h nx aO (D bH k bJ) (D bL (L I) bN)++lu h nx aO (D bI k bK) (D bM (L K) bO)) _ _ _ _ _ _ _ r2 a (d.1.row bG a4) (d.1.row c3 bY) (d.1.row ϊ ar) (d.1.row a0 aH) (d.1.row cY bW) (d.1.row ϊ a7) ay ϊ rfl T.q T.l rfl rfl rfl rfl rfl rfl (fun i aj=>b7.o i bI bK bM bO (aB.trans (aj.mono aB.size)) (T.p2.below aj) (T.d2.below aj)) aL.o.2.1 aL.o.2.2.2).mono fun e bQ h=>d.three aW h))
   have al:=Zx (Γ ap (Γ a7 (Γ aX.1 dJ)));clear ae an ap bp aH a4 bV bX bW bY dc dh dd dg de df ar dj ai a7 a5 a6 a0 bG cX cZ cY c3 aX cm r b6 b7 bb;go_wp2_with fail
   refine b3.o.mono ?_;rintro e dN ⟨rfl,d⟩;obtain⟨bu,c9,da,cj,-,-,aS,cb⟩:=d;obtain⟨b1,d1,rfl,aW⟩:=aS ϊ;obtain⟨b2,d2,rfl,cG⟩:=cb ϊ;have bA:=bu.to al.o.1 al.o.1.size al.o.2.2.1;have X:=Zx (dq.o dN F b1 d1 b2 d2 bA cj aW.now cG.now);obtain⟨r0,-,-⟩:=gm (bu.row (by have:=al.o;omega) al.o.2.1);have a9:=Zx bA;clear bu cj aW cG aS cb bA b3 al;go_wp2_with fail
   refine X.o.mono ?_;rintro e dV ⟨bP,rfl,az,cu⟩;have dn:=Zx (Γ (az.mono a9.o.size) (a9.o.trans (cu.mono a9.o.size)));clear az cu X r0;go_wp2;go_ret2;exact⟨bP,rfl,dn.o⟩
