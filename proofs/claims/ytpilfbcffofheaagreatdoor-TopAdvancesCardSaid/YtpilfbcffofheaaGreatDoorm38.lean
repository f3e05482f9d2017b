/- Part 38 of the proof. -/
import Derived.Test.YtpilfbcffofheaaGreatDoorm37
set_option linter.all false
set_option maxRecDepth 100000
set_option maxHeartbeats 16000000
namespace Go.Proofs.YtpilfbcffofheaaGreatDoor
open Go.RowKit Go.Proofs.Tryz Go.Sort
open Value renaming slice->D,int->ĭ,agg->ā,string->š,pointer->þ
open Option renaming none->O,some->J
open List renaming length->L
open Obj renaming cells->C
open Ending renaming returned->ŗ
open World renaming alloc->å
def ti {w:β} {a b:Nat} {o1 o2} (c:w.heap[a]?=J o1) (d:w.heap[b]?=J o2) (h:o1≠o2):a≠b:=fun e=>by
 subst e;exact h (lq (c.symm.trans d))
def BA (a:List Int) (w:β) (e:Ending) (d:β):Prop:= ∃ b,e=ŗ (.tuple #[b,G 0])/\Hi w.heap.size d (fun c=>Rd c b (L a) 1 (τ a))/\Below w.heap.size w d
def II (aD:ε) (V:List nt) (ba:Option Addr) (aw bc:Nat) (ď:List (γ)) (p:Nat×Nat) (h nx Q W:γ) (l r1 r2 c4:List Int) (I K:γ) (k:Nat) (w:β) (cT:ϭ w) (cS:Ϭ w) (bC:Ϻ ď [p] (L ď)) (cH:Δ ď p=[(h,l)]) (aS:L (gU h l)=k) (cF:nx=[]) (az:L h<=64) (cy:L I<=4000) (cz:L K<=4000)
  (bt:Rd w aD (L V) 2 (kz V)) (bu:L V<=100000) (cK:∀ d3∈V,L d3.2<=100000) (cI:∀ d3∈V,-9223372036854775808<=d3.1/\d3.1<=9223372036854775807) (cJ:mW V=true) (cL:fW (iU V)=[Q,W])
  (cw:L (oZ ď [p] (hJ 1 h nx (Ϣ l) (gU h l) I) (hJ 1 h nx (Ϣ l) (gU h l) K))=aw) (cr:Rd w (D ba aw bc) aw 1 (η (oZ ď [p] (hJ 1 h nx (Ϣ l) (gU h l) I) (hJ 1 h nx (Ϣ l) (gU h l) K))))
  (cm:∀ a aC pc aE aF,Below w.heap.size w a->Rd a (D aC k pc) k 1 (χ (gU h l))->Rd a (D aE (L I) aF) (L I) 1 (η I)->Calls prog 104 #[š (δ (ib [(h,l)])),G 2,š (δ Q),ā #[G 1,š (δ h),š (δ nx),š (δ (Ϣ l)),D aC k pc,D aE (L I) aF]] a (sG r1 a))
  (cn:∀ a aC pc aE aF,Below w.heap.size w a->Rd a (D aC k pc) k 1 (χ (gU h l))->Rd a (D aE (L K) aF) (L K) 1 (η K)->Calls prog 104 #[š (δ (ib [(h,l)])),G 2,š (δ W),ā #[G 1,š (δ h),š (δ nx),š (δ (Ϣ l)),D aC k pc,D aE (L K) aF]] a (sG r2 a))
  (cC:∀ x∈r1,(p.1:Int)<=x/\x<(p.2:Int)) (cD:∀ x∈r2,(p.1:Int)<=x/\x<(p.2:Int)) (cN:L r1<=1000) (cO:L r2<=1000)
  (cP:∀ a B aN c1 aO c2,Below w.heap.size w a->a.heap[B]?=J (C #[D aN (L r1) c1,D aO (L r2) c2] 23 (0,0))->Rd a (D aN (L r1) c1) (L r1) 1 (τ r1)->Rd a (D aO (L r2) c2) (L r2) 1 (τ r2)->Calls prog 106 #[aD,D (J ⟨B,0,O⟩) 2 2] a (BA c4 a)) :
  Calls prog 52 #[š (δ (hh ď [p])),aD,D ba aw bc] w (BA c4 w):=by
 have dF:(δ (hh ď [p])).size=32:=by rw[iG,AH]
 have bb:=Zx (Ay aD V w cT bt bu cK cI);rw[cJ]at bb;have bd:=Zx (fun a (b:Below w.heap.size w a)=>Az aD V a (bt.B b) bu);rw[cL,show(L ([Q,W]:List (γ)))=2 from rfl]at bd;have aJ:=Zx (fun a (b:Below w.heap.size w a)=>NB ba aw bc ď [p] h nx (Ϣ l) (gU h l) k I K a rfl cw (cr.B b) bC az (by rw[cF];simp) (iq _) aS (ι (Aq h l).2) (qN _ _ _ (kv _)) cy cz);unfold yB at aJ;have cQ:fP ď [p]=[G p.1,G p.2,G 2,š (δ (ib [(h,l)]))]:=by simp[fP,ma,cH]
 have a8:=Zx (fun dl dt bM a (b:Below w.heap.size w a) ad S dA=>ze dl dt bM ď [p] a (cS.B b) ad S dA bC);rw[cQ]at aJ a8;have⟨b4,b5,aI,dq⟩:=kX cm cn (Ν cC (Ν cD (Ν cN cO))) cP;obtain⟨dK,dD,dG,dH,dI⟩:=Ϩ zY;obtain⟨bB,bp,bx,bz,bA⟩:=Ϩ KN;generalize hh ď [p]=b8 at *;generalize ib [(h,l)]=ab at *;generalize ϡ ď=aK at *;generalize(L ď:Int)=aW at *;generalize Ϣ l=aL at *;generalize gU h l=dS at *;clear cT cS bC cH aS cF az cy cz bt bu cK cI cJ cL cw cr cm cn cC cD cN cO cP cQ;have ca:∀ ac a,(callFunc 132 ac).run prog a=.ok (.enter 132 ac) a:=iW func132 ϋ rfl;have cb:∀ ac a,(callFunc 102 ac).run prog a=.ok (.enter 102 ac) a:=iW func102 ϋ rfl;have cc:∀ ac a,(callFunc 103 ac).run prog a=.ok (.enter 103 ac) a:=iW func103 ϋ rfl;have aH:=Zx (Ν ca (Ν cb cc));clear ca cb cc;go_enter func52,ntmps52;go_wp2_with fail
 refine bb.o.M ?_;rintro e dM ⟨rfl,bk⟩;have⟨X,a6⟩:=ϟ (aJ.o dM bk) bk;clear bk aJ bb dF;go_wp2_with fail
 refine X.o.M ?_;rintro e bO ⟨sa,sc,aY,aZ,cV,cW,bE,bG,bI,bK,bF,bH,bJ,bL,rfl,cR,cq,bl⟩;obtain⟨cf,aq,aR⟩:=fO (w:=bO) (A:=C #[G aW,š (δ aK),D sa 1 sc,D aY 1 aZ] 192) RZ;have⟨a7,b3,dr,a5⟩:=kX ((a6.o.t bl).trans (aR.M (gw a6.o.size bl.size))) (cR.B aR) (cq.B aR) cf;clear cf aR cR cq bl X a6;go_upto_region 6 with fail
 generalize å bO (C #[G aW,š (δ aK),D sa 1 sc,D aY 1 aZ] 192)=aM at *;generalize bO.heap.size=j at *;have X:=Zx (bd.o aM a7.o);clear bd;go_wp2_with fail
 refine X.o.M ?_;rintro e bP ⟨dU,rfl,br,ct⟩;obtain⟨c7,c8,rfl⟩:=Η br;obtain⟨co,dk,bo⟩:=fO (w:=bP) (A:=C #[D c7 2 c8] 143) RZ;have⟨ar,be,b7⟩:=iQ (ct.t bo) co (Rd.B (Rd.of_own br) bo);clear co bo ct br X;go_upto_region 7 with fail
 generalize å bP (C #[D c7 2 c8] 143)=v at *;generalize bP.heap.size=R at *;obtain⟨c0,-,-⟩:=gC be.o;go_upto_region 8 with (at_make;refine tQ v rfl (.tmp 37) (.tmp 37) _ rfl v.heap.size 23 dK _ 1 underlying196 dD dG dH .i64 .i64 _ _ 2 rfl rfl ύ ύ (by rw[dI];omega) ώ NZ ?_;intro ap bs cB;have cu:Below v.heap.size v ap:=RZ.grown cB NZ (fun _ h=>by cases h))
 have cE:(madeCells (Value.slice O 0 0).cells (2*1)).toList=[D O 0 0,D O 0 0]:=te (D O 0 0) 2;rw[cE]at bs;have bi:ap.heap[v.heap.size]?=J (C #[D O 0 0,D O 0 0] 23 (0,0)):=tm bs;obtain⟨ci,di,bn⟩:=fO (w:=ap) (A:=C #[D (J ⟨v.heap.size,0,O⟩) 2 2] 196) RZ;have⟨bW,dm,dp,ds⟩:=kX (cu.t bn) (θ bi bn) ci (show v.heap.size<ap.heap.size from ς bi);clear cE bi ci bn cu cB bs c0;generalize å ap (C #[D (J ⟨v.heap.size,0,O⟩) 2 2] 196)=bg at *;generalize ap.heap.size=u at *;obtain⟨⟨du,aN,aO,-⟩,-,-⟩:=ϩ (θ (θ a5.o ar.o) bW.o);go_wp2_with fail
 refine(zl _ _ _ _ _).M ?_;rintro e dW ⟨rfl,rfl⟩;obtain⟨cj,cl,a2,a3,an⟩:=fZ (w:=bg) (A:=C #[G aW,š (δ aK),D sa 1 sc] 123) (Z:=C #[š (δ b8)] 9) RZ;replace an:Below _ _ _:=an;generalize dC:å (å bg (C #[G aW,š (δ aK),D sa 1 sc] 123)) (C #[š (δ b8)] 9)=z at *;clear dC;generalize bj:bg.heap.size=f at *;go_upto_region 9 with fail
 obtain⟨cg,dO,cv⟩:=fO (w:=z) (A:=C #[.func (.func 132) #[] #[þ (J ⟨f,0,O⟩),þ (J ⟨f+1,0,O⟩)]] 24) RZ;obtain⟨g,aQ⟩:∃ g,g=z.heap.size:=⟨_,rfl⟩;have bY:ϫ (mj g z (D (J ⟨g,0,O⟩) 1 1) 1 [.func (.func 132) #[] #[þ (J ⟨f,0,O⟩),þ (J ⟨f+1,0,O⟩)]] (fun _=>True) (å z (C #[.func (.func 132) #[] #[þ (J ⟨f,0,O⟩),þ (J ⟨f+1,0,O⟩)]] 24))):=⟨⟨by rw[aQ];exact cv,⟨rfl,.inr ⟨g,1,_,rfl,NZ,by rw[aQ];exact cg,NZ,ώ,rfl,rfl⟩⟩,fun _ _=>trivial,by rw[aQ];simp⟩⟩;have bf:=Zx (show v.heap.size<u/\u<f/\f+1<g/\j<v.heap.size/\R<v.heap.size from⟨ds.o,di,U,ι (ς (θ a5.o ar.o)),dk⟩);rw[<-aQ]at *;generalize hF:v.heap.size=B at *;have a9:=Zx (bW.o.trans (an.M (ι bf.o)));have b0:=Zx (Ν (θ (θ a5.o ar.o) (hF ▸ a9.o)) (Ν (θ be.o (hF ▸ a9.o)) (Ν (θ dm.o (bj ▸ an)) (Ν (θ dp.o (bj ▸ an)) (Ν cj cl)))));obtain⟨⟨-,-,dv,-⟩,-,-⟩:=ϩ (θ b0.o.1 ((ρ z.heap.size z).A NZ (C #[.func (.func 132) #[] #[þ (J ⟨f,0,O⟩),þ (J ⟨f+1,0,O⟩)]] 24)));clear du aN aO dO a2 a3 an cj cl cv cg di dk aq bj;generalize å z (C #[.func (.func 132) #[] #[þ (J ⟨f,0,O⟩),þ (J ⟨f+1,0,O⟩)]] 24)=dP at *;have au:=Zx (fun a (b:Below g z a)=>show Below aM.heap.size aM a/\Below w.heap.size w a/\Below v.heap.size v a by
  have ad:=a9.o.trans (b.M (ι bf.o))
  have ce:Below v.heap.size v a:=hF ▸ ad
  have S:=ar.o.t ce
  exact⟨S,a7.o.t S,ce⟩)
 go_wp2;go_loopw [12,48] (fun al N wr=>(N=G 0/\al=D (J ⟨g,0,O⟩) 1 1/\ϫ (mj g z (D (J ⟨g,0,O⟩) 1 1) 1 [.func (.func 132) #[] #[þ (J ⟨f,0,O⟩),þ (J ⟨f+1,0,O⟩)]] (fun _=>True) wr))\/(N=G 1/\∃ o q c n m y t M,al=D o 4 q/\ϫ (mj g z (D o 4 q) 4 [.func (.func 132) #[] #[þ (J ⟨f,0,O⟩),þ (J ⟨f+1,0,O⟩)],.func (.func 102) #[] #[þ (J ⟨j,0,O⟩),þ (J ⟨c,0,O⟩),þ (J ⟨R,0,O⟩)],.func (.func 103) #[] #[þ (J ⟨n,0,O⟩),þ (J ⟨y,0,O⟩),þ (J ⟨j,0,O⟩),þ (J ⟨c,0,O⟩),þ (J ⟨m,0,O⟩),þ (J ⟨u,0,O⟩)],.func (.func 103) #[] #[þ (J ⟨n,0,O⟩),þ (J ⟨M,0,O⟩),þ (J ⟨j,0,O⟩),þ (J ⟨c,0,O⟩),þ (J ⟨t,0,O⟩),þ (J ⟨u,0,O⟩)]] (fun i=>((((((True/\i.heap[c]?=J (C #[G 0] 3 (0,0)))/\i.heap[n]?=J (C #[G p.1,G p.2,G 2,š (δ ab)] 198 (0,0)))/\i.heap[m]?=J (C #[G 0] 3 (0,0)))/\i.heap[y]?=J (C #[š (δ Q)] 9 (0,0)))/\i.heap[t]?=J (C #[G 1] 3 (0,0)))/\i.heap[M]?=J (C #[š (δ W)] 9 (0,0)))) wr))) (fun _ N _=>1 - (intOf N).toNat)
 .exact .inl ⟨rfl,rfl,bY⟩
 clear bY dv;rcases hrel with ⟨rfl,rfl,r⟩|⟨rfl,o,q,c,n,m,y,t,M,rfl,r⟩
 .obtain⟨am,ao,bm⟩:=au.o wr r.o.b
  obtain⟨dT,so,rfl,aA⟩:=of (b3.o.B am) U;have cd:=aA 0 _ rfl;have dx:=aA 1 _ rfl;have dy:=aA 2 _ rfl;have dz:=aA 3 _ rfl;simp only[kG]at cd;have E:=Zx ((r.o.A #[G 0] 3).A #[G p.1,G p.2,G 2,š (δ ab)] 198);have ag:(å wr (C #[G 0] 3)).heap.size=wr.heap.size+1:=ύ;rw[ag]at E;clear aA am ao bm r ag;go_upto_region 12 with fail
  generalize å (å wr (C #[G 0] 3)) (C #[G p.1,G p.2,G 2,š (δ ab)] 198)=wa at *;generalize wr.heap.size=c at *;clear cd dx dy dz;have⟨F,aa⟩:=ϟ (E.o.B ((ρ (wa).heap.size (wa)).A NZ (C #[.func (.func 102) #[] #[þ (J ⟨j,0,O⟩),þ (J ⟨c,0,O⟩),þ (J ⟨R,0,O⟩)]] 24))) (oj (P:=prog) (tx:=155) (e:=24) tS (wa) #[.func (.func 102) #[] #[þ (J ⟨j,0,O⟩),þ (J ⟨c,0,O⟩),þ (J ⟨R,0,O⟩)]] 1 1 1 (wa).heap.size rfl rfl ϗ);have aB:=E.o.z;go_upto_region 13 with (at_builtin;go_loud (refine ϻ rfl _ _ _ _ rfl g 24 bB _ 1 8 tS bp bx bz bA rfl (D (J ⟨g,0,O⟩) 1 1) 1 _ (by rfl) F.o.o _ 1 _ (by rfl) aa.o ώ U ό ?_;intro db a0 s af ah _;obtain⟨av,ax,rfl⟩:=Η s))
  have Y:=Zx (F.o.grown s af ah);clear s af ah F aa aB;generalize dB:c+1=n at *;clear dB E;have cp:=θ be.o (au.o a0 Y.o.b).2.2;obtain⟨⟨dL,-,-⟩,cM⟩:=Ν (gC cp) (b7.o.B (au.o a0 Y.o.b).2.2);clear cp;obtain⟨c5,c6,rfl,-⟩:=of cM U;have b6:=Zx (fun a (b:Below g z a)=>show a.cell? ⟨c5,c6,O⟩=J (š (δ Q))/\a.cell? ⟨c5,c6+1,O⟩=J (š (δ W))by
   obtain⟨dQ,dR,cA,cx⟩:=of (b7.o.B (au.o a b).2.2) U
   simp only[Φ,Addr.mk.injEq,it]at cA
   obtain⟨rfl,rfl⟩:=cA
   exact⟨cx 0 _ rfl,cx 1 _ rfl⟩)
  clear cM;go_wp2;go_loopw [12,59] (fun al N wr=>(N=G 0/\∃ o q,al=D o 2 q/\ϫ (mj g z (D o 2 q) 2 [.func (.func 132) #[] #[þ (J ⟨f,0,O⟩),þ (J ⟨f+1,0,O⟩)],.func (.func 102) #[] #[þ (J ⟨j,0,O⟩),þ (J ⟨c,0,O⟩),þ (J ⟨R,0,O⟩)]] (fun i=>((True/\i.heap[c]?=J (C #[G 0] 3 (0,0)))/\i.heap[n]?=J (C #[G p.1,G p.2,G 2,š (δ ab)] 198 (0,0)))) wr))\/(N=G 1/\∃ o q m y,al=D o 3 q/\ϫ (mj g z (D o 3 q) 3 [.func (.func 132) #[] #[þ (J ⟨f,0,O⟩),þ (J ⟨f+1,0,O⟩)],.func (.func 102) #[] #[þ (J ⟨j,0,O⟩),þ (J ⟨c,0,O⟩),þ (J ⟨R,0,O⟩)],.func (.func 103) #[] #[þ (J ⟨n,0,O⟩),þ (J ⟨y,0,O⟩),þ (J ⟨j,0,O⟩),þ (J ⟨c,0,O⟩),þ (J ⟨m,0,O⟩),þ (J ⟨u,0,O⟩)]] (fun i=>((((True/\i.heap[c]?=J (C #[G 0] 3 (0,0)))/\i.heap[n]?=J (C #[G p.1,G p.2,G 2,š (δ ab)] 198 (0,0)))/\i.heap[m]?=J (C #[G 0] 3 (0,0)))/\i.heap[y]?=J (C #[š (δ Q)] 9 (0,0)))) wr))\/(N=G 2/\∃ o q m y t M,al=D o 4 q/\ϫ (mj g z (D o 4 q) 4 [.func (.func 132) #[] #[þ (J ⟨f,0,O⟩),þ (J ⟨f+1,0,O⟩)],.func (.func 102) #[] #[þ (J ⟨j,0,O⟩),þ (J ⟨c,0,O⟩),þ (J ⟨R,0,O⟩)],.func (.func 103) #[] #[þ (J ⟨n,0,O⟩),þ (J ⟨y,0,O⟩),þ (J ⟨j,0,O⟩),þ (J ⟨c,0,O⟩),þ (J ⟨m,0,O⟩),þ (J ⟨u,0,O⟩)],.func (.func 103) #[] #[þ (J ⟨n,0,O⟩),þ (J ⟨M,0,O⟩),þ (J ⟨j,0,O⟩),þ (J ⟨c,0,O⟩),þ (J ⟨t,0,O⟩),þ (J ⟨u,0,O⟩)]] (fun i=>((((((True/\i.heap[c]?=J (C #[G 0] 3 (0,0)))/\i.heap[n]?=J (C #[G p.1,G p.2,G 2,š (δ ab)] 198 (0,0)))/\i.heap[m]?=J (C #[G 0] 3 (0,0)))/\i.heap[y]?=J (C #[š (δ Q)] 9 (0,0)))/\i.heap[t]?=J (C #[G 1] 3 (0,0)))/\i.heap[M]?=J (C #[š (δ W)] 9 (0,0)))) wr))) (fun _ N _=>2 - (intOf N).toNat)
  .exact .inl ⟨rfl,av,ax,rfl,Y⟩
  clear Y dL;rcases hrel with ⟨rfl,o,q,rfl,r⟩|⟨rfl,o,q,m,y,rfl,r⟩|⟨rfl,o,q,m,y,t,M,rfl,r⟩
  .obtain⟨bQ,bR⟩:=b6.o wr r.o.b
   have E:=Zx ((r.o.A #[G 0] 3).A #[š (δ Q)] 9);have ag:(å wr (C #[G 0] 3)).heap.size=wr.heap.size+1:=ύ;rw[ag]at E;clear r ag;go_upto_region 16 with fail
   generalize å (å wr (C #[G 0] 3)) (C #[š (δ Q)] 9)=wa at *;generalize wr.heap.size=m at *;clear bQ bR;have⟨F,aa⟩:=ϟ (E.o.B ((ρ (wa).heap.size (wa)).A NZ (C #[.func (.func 103) #[] #[þ (J ⟨n,0,O⟩),þ (J ⟨(m+1),0,O⟩),þ (J ⟨j,0,O⟩),þ (J ⟨c,0,O⟩),þ (J ⟨m,0,O⟩),þ (J ⟨u,0,O⟩)]] 24))) (oj (P:=prog) (tx:=155) (e:=24) tS (wa) #[.func (.func 103) #[] #[þ (J ⟨n,0,O⟩),þ (J ⟨(m+1),0,O⟩),þ (J ⟨j,0,O⟩),þ (J ⟨c,0,O⟩),þ (J ⟨m,0,O⟩),þ (J ⟨u,0,O⟩)]] 1 1 1 (wa).heap.size rfl rfl ϗ);have aB:=E.o.z;go_wp2_with (at_builtin;go_loud (refine ϻ rfl _ _ _ _ rfl g 24 bB _ 1 8 tS bp bx bz bA rfl (D o 2 q) 2 _ (by rfl) F.o.o _ 1 _ (by rfl) aa.o ώ U ό ?_;intro db a0 s af ah _;obtain⟨av,ax,rfl⟩:=Η s))
   have Y:=Zx (F.o.grown s af ah);clear s af ah F aa aB;go_wp2_with fail
   go_roundw
   .exact .inr (.inl ⟨rfl,av,ax,m,m+1,rfl,Y⟩)
   exact gG
  .obtain⟨bQ,bR⟩:=b6.o wr r.o.b
   have E:=Zx ((r.o.A #[G 1] 3).A #[š (δ W)] 9);have ag:(å wr (C #[G 1] 3)).heap.size=wr.heap.size+1:=ύ;rw[ag]at E;clear r ag;go_upto_region 16 with fail
   generalize å (å wr (C #[G 1] 3)) (C #[š (δ W)] 9)=wa at *;generalize wr.heap.size=t at *;clear bQ bR;have⟨F,aa⟩:=ϟ (E.o.B ((ρ (wa).heap.size (wa)).A NZ (C #[.func (.func 103) #[] #[þ (J ⟨n,0,O⟩),þ (J ⟨(t+1),0,O⟩),þ (J ⟨j,0,O⟩),þ (J ⟨c,0,O⟩),þ (J ⟨t,0,O⟩),þ (J ⟨u,0,O⟩)]] 24))) (oj (P:=prog) (tx:=155) (e:=24) tS (wa) #[.func (.func 103) #[] #[þ (J ⟨n,0,O⟩),þ (J ⟨(t+1),0,O⟩),þ (J ⟨j,0,O⟩),þ (J ⟨c,0,O⟩),þ (J ⟨t,0,O⟩),þ (J ⟨u,0,O⟩)]] 1 1 1 (wa).heap.size rfl rfl ϗ);have aB:=E.o.z;go_wp2_with (at_builtin;go_loud (refine ϻ rfl _ _ _ _ rfl g 24 bB _ 1 8 tS bp bx bz bA rfl (D o 3 q) 3 _ (by rfl) F.o.o _ 1 _ (by rfl) aa.o ώ U ό ?_;intro db a0 s af ah _;obtain⟨av,ax,rfl⟩:=Η s))
   have Y:=Zx (F.o.grown s af ah);clear s af ah F aa aB;go_wp2_with fail
   go_roundw
   .exact .inr (.inr ⟨rfl,av,ax,m,y,t,t+1,rfl,Y⟩)
   exact gG
  .go_wp2_with fail
   go_roundw
   .exact .inr ⟨rfl,o,q,c,n,m,y,t,M,rfl,r⟩
   exact gG
 .have ae:=r.o.b
  obtain⟨am,ao,bm⟩:=au.o wr ae;obtain⟨⟨⟨⟨⟨⟨-,aG⟩,a1⟩,bS⟩,bU⟩,bT⟩,bV⟩:=r.o.x.now;have dJ:=bf.o;obtain⟨dc,dh,dd,dg,de,df⟩:=b0.o;have aq:=(ae.block _ (U:j<g)).trans dc;have dj:=(ae.block _ (U:R<g)).trans dh;have ai:=(ae.block _ (U:B<g)).trans dd;have a4:=(ae.block _ (U:u<g)).trans dg;have a2:=(ae.block _ (U:f<g)).trans de;have a3:=(ae.block _ (U:f+1<g)).trans df;have aX:=ti aG ai ύ;have bD:=ti a1 ai ύ;have cX:=ti bS ai ύ;have cZ:=ti bU ai ύ;have cY:=ti bT ai ύ;have c3:=ti bV ai ύ;have aU:w.heap.size<=B/\aM.heap.size<=B:=by
   have ad:=a7.o.size;have S:=ar.o.size;omega
  have ck:=(Hi.own r.o.o).off (H:=(· =B)) (fun d0 _ e=>by have e:d0=B:=e;omega);have bZ:=Zx (zm [(132,#[þ (J ⟨f,0,O⟩),þ (J ⟨f+1,0,O⟩)]),(102,#[þ (J ⟨j,0,O⟩),þ (J ⟨c,0,O⟩),þ (J ⟨R,0,O⟩)]),(103,#[þ (J ⟨n,0,O⟩),þ (J ⟨y,0,O⟩),þ (J ⟨j,0,O⟩),þ (J ⟨c,0,O⟩),þ (J ⟨m,0,O⟩),þ (J ⟨u,0,O⟩)]),(103,#[þ (J ⟨n,0,O⟩),þ (J ⟨M,0,O⟩),þ (J ⟨j,0,O⟩),þ (J ⟨c,0,O⟩),þ (J ⟨t,0,O⟩),þ (J ⟨u,0,O⟩)])] (oW B wr r1 r2) o 4 q wr rfl ⟨Ο.refl _ _,_,_,ai,fun _=>rfl,fun _=>rfl,fun h=>U,fun h=>U⟩
   (fun k a h=>(ck.oneCh rfl h.1).now)
   (fun k aS=>by
    have:k=0\/k=1\/k=2\/k=3:=by simp at aS;omega
    rcases this with rfl|rfl|rfl|rfl
    .exact aH.o.1
    .exact aH.o.2.1
    .exact aH.o.2.2
    .exact aH.o.2.2)
   (fun aV dE a d=>by
    have bv:=d.1.to ao ao.size aU.1
    have cU:=d.1.to am am.size aU.2
    have T:=dr.o.B cU
    have this:aV=0\/aV=1\/aV=2\/aV=3:=by simp at dE;omega
    rcases this with rfl|rfl|rfl|rfl
    .exact(a8.o _ _ _ a bv (d.1.row U a2) (d.1.row U a3) (b3.o.B cU)).M fun e bN ⟨ad,S⟩=>⟨ad,d.B S U⟩
    .exact(IF _ _ _ _ _ _ _ _ _ _ _ _ a (d.1.row U aq) (d.1.row aX aG) (d.1.row U dj) T.q).M fun e bN ⟨ad,S⟩=>⟨ad,d.B S U⟩
    .obtain⟨-,c9,da,ay,dw,bh,-,-⟩:=id d
     rw[dw U,bh U]at ay
     exact(CC n y j c m u B p.1 p.2 ab Q _ _ _ aY aZ cV cW 0 (mu h nx aL (D bE k bG) (D bI (L I) bK)++mu h nx aL (D bF k bH) (D bJ (L K) bL)) _ _ _ _ _ _ _ r1 a (d.1.row bD a1) (d.1.row cZ bU) (d.1.row U aq) (d.1.row aX aG) (d.1.row cX bS) (d.1.row U a4) ay U rfl T.q T.l rfl rfl rfl rfl rfl rfl (fun i aj=>b4.o i bE bG bI bK (bv.t aj) (T.p1.B aj) (T.d1.B aj)) aI.o.1 aI.o.2.2.1).M fun e bN h=>d.two h
    .obtain⟨-,c9,da,ay,-,bh,aP,-⟩:=id d
     obtain⟨b1,d1,rfl,aT⟩:=aP U
     rw[bh U]at ay
     exact(CC n M j c t u B p.1 p.2 ab W _ _ _ aY aZ cV cW 1 (mu h nx aL (D bE k bG) (D bI (L I) bK)++mu h nx aL (D bF k bH) (D bJ (L K) bL)) _ _ _ _ _ _ _ r2 a (d.1.row bD a1) (d.1.row c3 bV) (d.1.row U aq) (d.1.row aX aG) (d.1.row cY bT) (d.1.row U a4) ay U rfl T.q T.l rfl rfl rfl rfl rfl rfl (fun i aj=>b5.o i bF bH bJ bL (bv.t aj) (T.p2.B aj) (T.d2.B aj)) aI.o.2.1 aI.o.2.2.2).M fun e bN h=>d.three aT h))
  have ak:=Zx (Ν ao (Ν a4 (Ν aU.1 dJ)));clear ae am ao bm aG a1 bS bU bT bV dc dh dd dg de df aq dj ai a4 a2 a3 aX bD cX cZ cY c3 aU ck r b4 b5 a8;go_wp2_with fail
  refine bZ.o.M ?_;rintro e dN ⟨rfl,d⟩;obtain⟨bq,c9,da,ch,-,-,aP,b9⟩:=d;obtain⟨b1,d1,rfl,aT⟩:=aP U;obtain⟨b2,d2,rfl,cG⟩:=b9 U;have bw:=bq.to ak.o.1 ak.o.1.size ak.o.2.2.1;have X:=Zx (dq.o dN B b1 d1 b2 d2 bw ch aT.now cG.now);obtain⟨r0,-,-⟩:=gC (bq.row (ι ak.o) ak.o.2.1);have bX:=Zx bw;clear bq ch aT cG aP b9 bw bZ ak;go_wp2_with fail
  refine X.o.M ?_;rintro e dV ⟨bM,rfl,az,cs⟩;have dn:=Zx (Ν (az.M bX.o.size) (bX.o.t cs));clear az cs X r0;go_wp2;go_ret2;exact⟨bM,rfl,dn.o⟩
def Oq (v:ε) (w:β):Calls prog 51 #[v,G 0] w fun e w'=>e=ŗ (.tuple #[v,G 0])/\w=w':=by
 go_enter func51,ntmps51;go_wp2;go_ret2;exact⟨rfl,rfl⟩
def KV {w:β} {F a1 a2 c1 c2 r1 r2} (h:w.heap[F]?=J (C #[D a1 (L r1) c1,D a2 (L r2) c2] 23 (0,0))) (b:Rd w (D a1 (L r1) c1) (L r1) 1 (τ r1)) (c:Rd w (D a2 (L r2) c2) (L r2) 1 (τ r2)):rB w (D (J ⟨F,0,O⟩) 2 2) [r1,r2]:=by
 refine⟨_,xB h rfl U ώ,fun a hi=>?_⟩;have d:a=0\/a=1:=by simp at hi;omega
 rcases d with rfl|rfl
 .exact⟨_,rfl,b⟩
 .exact⟨_,rfl,c⟩
def GX (w:β) (e:Ending) (c:β):Prop:= ∃ a,e=ŗ (.tuple #[a,G 0,G 0])/\Hi w.heap.size c (fun b=>Rd b a 1 1 (τ [0]))/\Below w.heap.size w c
def BV (d:β) (u:ϭ d) (r:Ϭ d) (t:γ) (fb k) (p:L (gU ϳ [0])=k) (o:decide (ϳ=t)=fb) (s:iT t=true) (v:L t<=64) (q:fb=false->ltStr ϳ t=true) (W pa pc ta tc) (j:BQ d W) (m:Rd W (D pa k pc) k 1 (χ (gU ϳ [0]))) (h:Rd W (D ta (L (if fb then gM [0]else[])) tc) (L (if fb then gM [0]else[])) 1 (η (if fb then gM [0]else[]))) :
  Calls prog 104 #[š (δ (ib [(ϳ,[0])])),G 2,š (δ t),ā #[G 1,š (δ ϳ),š (δ []),š (δ (Ϣ [0])),D pa k pc,D ta (L (if fb then gM [0]else[])) tc]] W (sG (if fb then[0]else[]) W):=by
 refine Qn ϳ [] t [0] fb pa k pc ta _ tc _ W rfl o (u.B j) (r.B j) ϐ s v (fun e=>⟨q e,by rw[e];rfl⟩) (fun e=>by rw[e];rfl) p rfl (by have:=zc;cases fb<;>simp;exact this) m h fun b n=>?_;have i:=h.B n;cases fb with
 |true=>exact(MX ta _ tc b rfl i).M fun e w ⟨a,c,f,g,l⟩=>⟨a,c,f,g,l⟩
 |false=>exact(MW ta tc b i).M fun e w ⟨f,g⟩=>⟨O,0,f,fun b _=>sZ b,g⟩
def QR (H g L c f) (w:β) (j:ϭ w) (t:Ϭ w) (h:ia H g L ([ϳ],[(0,1)]) w) (T:Ϻ [ϳ] [(0,1)] 1) (an:Rd w (D c 8 f) 8 1 (η uA)) :
  Calls prog 23 #[þ (J ⟨g,0,O⟩),D c 8 f] w (GX w):=by
 obtain⟨aB,a0,h⟩:=h;have aa:=Zx (Mp c f w j an);obtain⟨n,y⟩:∃ n,(gU ϳ [0]).length=n:=⟨_,rfl⟩;obtain⟨P,Q,ac,ad,ae⟩:=BX;have A:∀ s∈mL,s.2.length<=100000:=ϐ;have z:∀ s∈mL,-9223372036854775808<=s.1/\s.1<=9223372036854775807:=ϐ;have I:=Zx (fun u b (a:BQ w b) p=>Nc _ _ _ _ [ϳ] _ ϳ _ ϳ oI _ true false mL u b (j.B a) (t.B a) ((h.ix.B a).now.d) ((h.ix.B a).now.s) T BW rfl rfl rfl ϐ ϐ P Q ϐ ϐ ac ad zc p ϐ A z zd wA);have K:=Zx (fun u ba ab bc b (a:BQ w b) p aj ah=>II u mL ba ab bc _ _ ϳ _ ϳ oI _ _ _ _ _ [] n b (j.B a) (t.B a) T BW y rfl ϐ zc ύ p ϐ A z zd wA aj ah
  (fun k F pc c f i l m=>BV b (j.B a) (t.B a) ϳ true n y rfl P ϐ (fun e=>by cases e) k F pc c f i l m)
  (fun k F pc c f i l m=>BV b (j.B a) (t.B a) oI false n y rfl Q ϐ (fun _=>ae) k F pc c f i l m)
  ϐ ϐ ϐ ϐ
  (fun k av ax c1 N c2 i af l m=>(Pf u _ mL [[0],[]] k ((j.B a).B i) (KV af l m) (p.B i) ϐ A z zd ϐ (by rw[wA];rfl) ϐ).M fun e aC ⟨q,ap,d,aq⟩=>by
   rw[HV]at d
   exact⟨q,ap,Hi.own d,aq⟩))
 have B:=h.row;simp only[qr]at B;obtain⟨aw,ag⟩:∃ r,hh [ϳ] [(0,1)]=r:=⟨_,rfl⟩;rw[ag]at B K;have v:=Zx B;have al:([ϳ]:List (γ)).length=1:=rfl;rw[al]at I;obtain⟨⟨-,-,-,-,-,-,-,-,-,-,-,-⟩,-,aF⟩:=jJ v.o;go_enter func23,ntmps23;go_wp2_with fail
 refine aa.o.M ?_;rintro e V ⟨x,E,rfl,am⟩;have⟨M,W⟩:=ϟ (show Rd V E mL.length 2 (kz mL)from Rd.of_own am) x;have X:=Zx (I.o E V x M.o);obtain⟨⟨-,-,-,-,-,-,-,-,-,-,ay,az⟩,-,aG⟩:=jJ (θ v.o x);go_wp2_with fail
 refine X.o.M ?_;rintro e au ⟨N,ar,ao,rfl,S,R⟩;have o:=Zx (W.o.t R);have Y:=Zx (K.o E N ar ao au o.o (M.o.B R) S.1 S.rd);obtain⟨⟨-,-,-,-,-,-,-,-,aA,-,-,-⟩,-,aH⟩:=jJ (θ v.o o.o);go_wp2_with fail
 refine Y.o.M ?_;rintro e aD ⟨q,rfl,ak,ai⟩;have Z:=Zx (Ν (ak.M o.o.size) (o.o.t ai));go_wp2_with fail
 refine(Oq _ _).M ?_;rintro e aE ⟨rfl,rfl⟩;go_wp2
 go_ret3
 exact⟨q,rfl,Z.o⟩
def QD:mn (oF 20) []:=⟨rfl,rfl,gr.start U U,rfl,rfl,ύ,rfl,by show(-9223372036854775808:Int) <= -1;omega,by show(-1:Int)<=9223372036854775807;omega⟩
def QP {L1 c} (h:pK (oF 20) [] (J (.doc ϳ)) L1 c):mn L1 [.doc ϳ]/\L L1.bl=20/\L1.fuse<0/\L1.x=([ϳ],[]):=by
 have l:(oF 20).x=([],[]):=rfl;have f:(oF 20).fuse = -1:=rfl;have g:L (oF 20).bl=20:=by simp[oF]
 have k:gA ([],[]) (.doc ϳ)=J ([ϳ],[]):=Ϟ;cases h with
 |no c b a =>
  rcases a with a|⟨d,a,h3⟩
  .cases a
  .injection a with a
   subst a;rcases h3 with h3|h3
   .rw[l,k]at h3;cases h3
   .have n:Ϯ (oF 20).bl=1152:=by unfold Ϯ;rw[g]
    have m:L (fQ [])+L (Ev.doc ϳ).bytes<=1152:=Ϟ;omega
 |yes d i b a h3 j =>
  injection b with b;subst b;refine⟨a,h3.trans g,j (by rw[f];omega),?_⟩;have:=a.x;have e:hO ([],[]) ([]++[Ev.doc ϳ])=J ([ϳ],[]):=Ϟ;rw[e]at this;exact(lq this).symm
 |lost d y i b a h3=>rw[f]at a;omega
def QQ {L1 L2 c} (o:mn L1 [.doc ϳ]) (f:L L1.bl=20) (m:L1.fuse<0) (j:L1.x=([ϳ],[])) (h:pK L1 [.doc ϳ] (J .flush) L2 c):mn L2 [.doc ϳ,.flush]/\L2.x=([ϳ],[(0,1)])/\L L2.bl=20:=by
 have i:gA ([ϳ],[]) .flush=J ([ϳ],[(0,1)]):=Ϟ;cases h with
 |no c b a =>
  rcases a with a|⟨d,a,h3⟩
  .cases a
  .injection a with a
   subst a;rcases h3 with h3|h3
   .rw[j,i]at h3;cases h3
   .have n:Ϯ L1.bl=1152:=by unfold Ϯ;rw[f]
    have l:L (fQ [Ev.doc ϳ])+L (Ev.flush).bytes<=1152:=Ϟ;omega
 |yes d g b a h3 k =>
  injection b with b;subst b;refine⟨a,?_,h3.trans f⟩;have:=a.x;have e:hO ([],[]) ([Ev.doc ϳ]++[Ev.flush])=J ([ϳ],[(0,1)]):=Ϟ;rw[e]at this;exact(lq this).symm
 |lost d y g b a h3=>omega
def EK (w:β) (l:γ) (b:Array ε) (n fr) (g:L l=n) (e:b.toList=η l) (c:n<=maxLen) (d:0<n):Rd (å w (C b 5 fr)) (D (J ⟨w.heap.size,0,O⟩) n n) n 1 (η l):=by
 refine⟨by rw[oA];omega,c,.inr ⟨w.heap.size,0,n,rfl,d,NZ,c,fun a h f=>?_⟩⟩;rw[show 0+a=a from U,ξ _ w.heap.size a _ _ fr (φ w _),<-Array.getElem?_toList,e];exact f
def Gv (w:β) (R:ϭ w) (Q:Ϭ w) :
  Calls prog 5 #[] w fun e w'=>e=ŗ (.bool true)/\BQ w w':=by
 have E:=Zx (Gz 20 w R Q U U);have aq:((20:Nat):Int)=20:=U;rw[aq]at E;have f:=Zx (Ν R Q);have aT:∀ a:β,Sem.run prog (convert 31 31 (D (J ⟨a.heap.size,0,O⟩) 3 3)) (å a (C #[ĭ .u8 104,ĭ .u8 97,ĭ .u8 121] 5))=.ok (D (J ⟨a.heap.size,0,O⟩) 3 3) (å a (C #[ĭ .u8 104,ĭ .u8 97,ĭ .u8 121] 5 (3,3+1))):=fun a=>Lib.run_convert_bytes_const a _ 5 _ 3 3 gv mA;have aU:∀ a:β,Sem.run prog (convert 31 31 (D (J ⟨a.heap.size,0,O⟩) 8 8)) (å a (C #[ĭ .u8 104,ĭ .u8 97,ĭ .u8 121,ĭ .u8 32,ĭ .u8 124,ĭ .u8 32,ĭ .u8 111,ĭ .u8 120] 5))=.ok (D (J ⟨a.heap.size,0,O⟩) 8 8) (å a (C #[ĭ .u8 104,ĭ .u8 97,ĭ .u8 121,ĭ .u8 32,ĭ .u8 124,ĭ .u8 32,ĭ .u8 111,ĭ .u8 120] 5 (8,8+1))):=fun a=>Lib.run_convert_bytes_const a _ 5 _ 8 8 gv mA;go_enter func5,ntmps5;go_wp2_with fail
 refine E.o.M ?_;rintro e X ⟨g,rfl,aD,aV,aL,ar⟩;have h:=Zx (aL (· =g) rfl (fun b a4=>.inr a4));have⟨ad,j⟩:=ϟ ar aD;have c:=(ρ _ X).A NZ (C #[ĭ .u8 104,ĭ .u8 97,ĭ .u8 121] 5 (3,4));have K:=ad.o.t c;have ak:=Zx (show Calls prog _ #[.pointer _,ā #[G 0,G 0,G 0,D _ 3 3]] _ _ from Bm _ g _ _ _ (J (.doc ϳ)) 0 0 0 _ 3 3 _ (f.o.1.B K) (fun b d=>by have d:=d;rw[d];exact(h.o.B c).lt) (h.o.B c) QD ϐ ⟨⟨rfl,rfl,EK X ϳ _ 3 _ rfl rfl ώ U⟩,by simp only[Ev.ok];decide⟩);have t:=Zx K;go_wp2_with fail
 refine ak.o.M ?_;rintro e Y ⟨ap,c1,rfl,aH,T,aw⟩;obtain⟨S,aG,aC,aM⟩:=QP aH;have aX:=T.lt;have M:=aw.to t.o t.o.size j.o;have al:=Zx (show Calls prog _ #[.pointer _,ā #[G 1,G 0,G 0,D O 0 0]] Y _ from Bm _ g ap _ _ (J .flush) 1 0 0 O 0 0 Y (f.o.1.B M) (fun b d=>by have d:=d;omega) T S ϐ ⟨rfl,by first|trivial|(simp only[Ev.ok])⟩);have u:=Zx M;go_wp2_with fail
 refine al.o.M ?_;rintro e Z ⟨k,c2,rfl,aI,x,ax⟩;obtain⟨q,aN,aW⟩:=QQ S aG aC aM aI;have aY:=x.lt;have au:=ax.to u.o u.o.size j.o;have aB:iB [] k.bl k.ws=k.bl:=by rw[q.ws];rfl
 have B:=Zx (Gx _ g k _ _ _ Z (fun b d=>by have d:=d;omega) x q.dok U (sZ Z));rw[aB]at B;have⟨v,i⟩:=ϟ au (Ν q aN);go_wp2_with fail
 refine B.o.M ?_;rintro e aP ⟨rfl,V,ay⟩;have aZ:=V.lt;have N:=ay.to v.o v.o.size j.o;have r:=i.o.1.x;rw[i.o.2]at r;have P:=i.o.1.dok.dk;rw[i.o.1.ws]at P;have am:=Zx (GC _ g _ _ 2 _ _ aP (f.o.1.B N) (fun b d=>by omega) V P rfl i.o.1.inv i.o.1.ok r ϐ);have⟨y,l⟩:=ϟ N (show Ϻ [ϳ] [(0,1)] 1 from vt kk.start r);go_wp2_with fail
 refine am.o.M ?_;rintro e aQ ⟨rfl,aK,az⟩;have n:=az.to y.o y.o.size j.o;have⟨ah,z⟩:=ϟ (Bk _ g _ _ aQ (f.o.1.B n) (f.o.2.B n) aK rfl zV l.o rfl (Ζ _) (ϐ:(1:Nat)<=64)) n;go_wp2_with fail
 refine ah.o.M ?_;rintro e aa ⟨rfl,W,aA⟩;have av:=aA.to z.o z.o.size j.o;have c:=(ρ _ aa).A NZ (C #[ĭ .u8 104,ĭ .u8 97,ĭ .u8 121,ĭ .u8 32,ĭ .u8 124,ĭ .u8 32,ĭ .u8 111,ĭ .u8 120] 5 (8,9));have o:=av.t c;have⟨ac,ae,ao⟩:=iQ (QR _ g _ _ 8 _ (f.o.1.B o) (f.o.2.B o) (W.B c) l.o (EK aa uA _ 8 _ rfl rfl ώ U)) o (W.B c);go_wp2_with fail
 refine ac.o.M ?_;rintro e s ⟨aO,rfl,aE,I⟩;have p:=ae.o.t I;have⟨F,ai,A⟩:=iQ (show Calls prog _ #[.pointer _,G 0] s (ry ϳ s)from GB _ g _ _ 0 s (f.o.1.B p) (f.o.2.B p) (ao.o.B I) ϐ ϐ l.o) aE p;unfold ry at F;go_wp2_with fail
 refine F.o.M ?_;rintro e ab ⟨aR,aS,rfl,aF,m⟩;have c:=(ρ _ ab).A NZ (C #[G 0] 3);have aJ:=φ ab (C #[G 0] 3);have⟨an,aj,af⟩:=iQ (Fv aO _ 1 1 _ [0] _ rfl rfl ((ai.o.B m).B c).now (xB aJ rfl U ώ)) (aF.B c) ((A.o.t m).trans (c.M (gw A.o.size m.size)));go_wp2_with fail
 refine an.o.M ?_;rintro e a2 ⟨rfl,H⟩;have a0:=rO  rfl (aj.o.B H).now;have b1:=hN ϳ;have a1:(ByteArray.mk #[104,97,121]).toList=ϳ:=by rw[Bv];rfl
 have ag:=Zx (af.o.t H);go_wp2;go_ret;exact⟨rfl,ag.o⟩
