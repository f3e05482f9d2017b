/- Part 27 of the proof. -/
import Derived.Test.YtpilfbcffofheaaGreatDoorm24
set_option linter.all false
set_option maxRecDepth 100000
set_option maxHeartbeats 16000000
namespace Go.Proofs.YtpilfbcffofheaaGreatDoor
open Go.RowKit Go.Proofs.Tryz Go.Sort
open Value renaming slice->D,agg->ā,string->š
open Option renaming none->O,some->J
open List renaming length->L
open Obj renaming cells->C
open Ending renaming returned->ŗ
open World renaming alloc->å,setCell->ŝ
def sA (x:Ix) (w:β) (e:Ending) (b:β):Prop:= ∃ da dc sa sc,e=ŗ (ā #[D da (L x.1) dc,D sa (L x.2) sc])/\Hi w.heap.size b (fun a=>Ε a (D da (L x.1) dc) x.1/\ϣ x.1 a (D sa (L x.2) sc) x.2)/\Below w.heap.size w b
def Gw (nd f:Nat) (da:Option Addr) (dc:Nat) (sa:Option Addr) (sc:Nat) (ď:List (γ)) (ps:List (Nat×Nat)) (w:β) (ap:L ď=nd) (aq:L ps=f) (bK:Ε w (D da nd dc) ď) (bX:ϣ ď w (D sa f sc) ps) (aw:kk (ď,ps)) :
  Calls prog 30 #[ā #[D da nd dc,D sa f sc]] w (sA (ď,ps) w):=by
 obtain⟨bI,bJ,-⟩:=tb aw;have bi:=Zh (fun d (aZ:d<L ps)=>bJ ps[d] (Ψ aZ));have bS:=aw.nd;have bT:=aw.np;simp only at bS bT bi;rw[ap]at bS;rw[aq]at bT;have bj:=Zh (fun ae (aS:BQ w ae)=>Gy da nd dc ď ae ap (bK.B aS) (fun d aZ=>ι (bI ď[d] (Ψ aZ))) U);have⟨bl,ad⟩:=π ap aq;obtain⟨a9,rS,b1,bh⟩:=FB aq bX;have bd:=Zh (fun ae (aS:BQ w ae)=>CG (D sa f sc) f a9 ae (rS.B aS) b1 U);clear bK bX ap aq rS b1 aw bI bJ;obtain⟨a2,bW,c7,dI,aU⟩:=fZ (w:=w) (A:=C #[D da nd dc,D sa f sc] 44) (Z:=C #[D O 0 0,D O 0 0] 44) RZ;go_enter func30,ntmps30;go_upto_region 1 with fail
 generalize å (å w (C #[D da nd dc,D sa f sc] 44)) (C #[D O 0 0,D O 0 0] 44)=cs at *;obtain⟨⟨c0,c1⟩,⟨W,f1⟩,ak⟩:=ν a2;have bk:=Zh (bj.o _ aU);clear bj;go_upto_region 2 with
  (refine bk.o.M ?_
   rintro e aA ⟨l,rfl,bO,ag⟩
   have a3:=θ a2 ag
   obtain⟨⟨c0,c1⟩,⟨W,f1⟩,ak⟩:=ν a3)
 have aQ:(ŝ aA ⟨w.heap.size,0,O⟩ (D (J ⟨l,0,O⟩) nd nd)).heap[w.heap.size]?=J (C #[D (J ⟨l,0,O⟩) nd nd,D sa f sc] 44 (0,0)):=υ _ _ 0 _ _ _ a3;have bE:(ŝ aA ⟨w.heap.size,0,O⟩ (D (J ⟨l,0,O⟩) nd nd)).heap[w.heap.size+1]?=J (C #[D O 0 0,D O 0 0] 44 (0,0)):=(Γ _ _ _ _ ύ).trans (θ bW ag);have af:=(bO.set (p:=⟨w.heap.size,0,O⟩) c7 (D (J ⟨l,0,O⟩) nd nd));have aB:=(aU.t ag).S (p:=⟨w.heap.size,0,O⟩) NZ (D (J ⟨l,0,O⟩) nd nd);have dw:cs.heap.size<=(ŝ aA ⟨w.heap.size,0,O⟩ (D (J ⟨l,0,O⟩) nd nd)).heap.size:=by have:=ag.size;simpa using this
 clear c0 c1 W f1 a2 a3 bW ag bO aU bk;generalize ŝ aA ⟨w.heap.size,0,O⟩ (D (J ⟨l,0,O⟩) nd nd)=F at *;obtain⟨⟨c0,c1⟩,⟨W,f1⟩,bb⟩:=ν aQ;go_upto_region 3 with
  (refine(bd.o _ aB).M ?_
   rintro e j ⟨dA,rfl,a5,ah⟩
   obtain⟨n,m,rfl⟩:=Η a5
   have a4:=θ aQ ah
   obtain⟨⟨c0,c1⟩,⟨W,f1⟩,ak⟩:=ν a4)
 have bx:(ŝ j ⟨w.heap.size,1,O⟩ (D n f m)).heap[w.heap.size]?=J (C #[D (J ⟨l,0,O⟩) nd nd,D n f m] 44 (0,0)):=υ _ _ 1 _ _ _ a4;have b2:=hR a5 (a:=⟨w.heap.size,1,O⟩) bb (D n f m);have bF:=(ah.M (mC bb)).S (p:=⟨w.heap.size,1,O⟩) NZ (D n f m);have dx:F.heap.size<=(ŝ j ⟨w.heap.size,1,O⟩ (D n f m)).heap.size:=by have:=ah.size;simpa using this
 have bM:∀ b,b<F.heap.size->b≠w.heap.size->(ŝ j ⟨w.heap.size,1,O⟩ (D n f m)).heap[b]?=F.heap[b]?:=fun b t y=>by rw[Γ _ _ _ _ y];exact ah.block b t
 clear a4 a5 ah c0 c1 W f1;generalize(ŝ j ⟨w.heap.size,1,O⟩ (D n f m))=s at *;have⟨al,aG,aD,aF,cn⟩:=kW bx b2 bM af bE;have aO:=aB.trans (bF.M NZ);clear bx b2 bM aQ af bE;obtain⟨⟨c0,c1⟩,bN,ak⟩:=ν al.o;go_wp2_with fail
 go_loopw [19] (fun i wr=>∃ (d:Nat) (P:List ε),d<=f/\i=G (d:Int)/\Hid (wr.ownsRow F.heap.size 92 3 (D n f m) f P)/\Hid (∀ c,d*3<=c->P[c]?=a9[c]?)/\Hid (Hi s.heap.size wr (lx ď ps P d))/\Hid (∀ b,b<s.heap.size->(∀ g,(Value.slice n f m).ownBlock=J g->b≠g)->wr.heap[b]?=s.heap[b]?)/\Below F.heap.size s wr/\s.heap.size<=wr.heap.size) (fun i _=>f - (intOf i).toNat)
 .exact⟨0,_,Ζ _,rfl,aG.o,fun _ _=>rfl,(fun j _ i hi d0=>U),fun _ _ _=>rfl,ρ _ _,NZ⟩
 obtain⟨M,cO⟩:∃ d1:β,d1=wr:=⟨wr,rfl⟩;subst cO;obtain⟨d,P,dp,rfl,z,V,aC,h,av,dv⟩:=hrel;have cA:BQ w M:=aO.trans (av.M U);by_cases dq:d<f
 .skip
  have bR:d<L ps:=ι ad.o;obtain⟨ar,au,aV,aW,bH,aX⟩:=bh.o d bR;obtain⟨B,db,bY⟩:=kO z.o U;simp only[Χ,ϵ]at bY;obtain⟨rfl,rfl⟩:=bY;have cE:=Ϡ z.o B rfl;have bA:=(h.o (w.heap.size) U (fun g hg=>ι (Ϡ z.o g hg).1)).trans al.o;have cR:(d:Int)<(f:Int):=U;have dy:(0:Int)<=(d:Int):=U;obtain⟨aL,de,-,dg⟩:=im z.o (d*3) U;obtain⟨aM,df,-,-⟩:=im z.o (d*3+1) U;obtain⟨X,bt,-,-⟩:=im z.o (d*3+2) U;rw[V.o (d*3) U,aV]at aL;rw[V.o (d*3+1) U,aW]at aM;rw[V.o (d*3+2) U,bH]at X;have⟨bp,bq,bn⟩:=ϲ aV aW (bi.o d bR);have cG:=aX;generalize bD:ps[d]=b3 at *;have aH:=Zh bD;generalize bv:Δ ď b3=u at *;have b7:=Zh bv;generalize bB:L u=ln at *;have ac:=Zh bB;obtain⟨a6,a7⟩:=b3;simp only at aL aM bp bq;obtain⟨aJ,bL,bU,b8⟩:=CV ac.o aX;have T:BQ M (å M (C #[G (a6:Int),G (a7:Int),D ar ln au] 92)):=ġ;have bV:=φ M (C #[G (a6:Int),G (a7:Int),D ar ln au] 92);have dr:ln<=2000000:=bn.o.1;clear aX cG aV aW bH bD bv bB;go_upto_region 6 with fail
  generalize å M (C #[G (a6:Int),G (a7:Int),D ar ln au] 92)=N at *;have bG:=cA.t T;have⟨aE,bo,b5⟩:=ϲ (θ bA T) (ψ z.o T) (zo (D ar ln au) ln aJ N (bL.B bG) bU U);obtain⟨⟨cY,a8,az⟩,-,dF⟩:=Β bV;have cL:=T.size;clear bL bU bV bA aL aM X;go_wp2_with fail
  refine b5.o.M ?_;rintro e E ⟨dB,rfl,a0,Y⟩;obtain⟨r,o,rfl⟩:=Η a0;have⟨c8,c9,bm⟩:=ϲ (θ aE.o Y) (ψ bo.o Y) a0;have cJ:=Y.size;have cB:=bG.t Y;have bc:=Zh Y;clear a0 Y cY a8 az;go_wp2_with fail
  go_loopw [29] (fun i k=>∃ (c:Nat) (R:List ε),c<=ln/\i=G (c:Int)/\Hid (k.ownsRow N.heap.size 130 2 (D r ln o) ln R)/\Hid (∀ q,c*2<=q->R[q]?=aJ[q]?)/\Hid (Hi E.heap.size k (wk u R c))/\Hid (∀ b,b<E.heap.size->(∀ g,(Value.slice r ln o).ownBlock=J g->b≠g)->k.heap[b]?=E.heap[b]?)/\Below N.heap.size E k/\E.heap.size<=k.heap.size) (fun i _=>ln - (intOf i).toNat)
  .exact⟨0,_,Ζ _,rfl,bm.o,fun _ _=>rfl,(fun j _ i hi d0=>U),fun _ _ _=>rfl,ρ _ _,NZ⟩
  obtain⟨k,cP⟩:∃ d1:β,d1=wr:=⟨wr,rfl⟩;subst cP;obtain⟨c,R,dm,rfl,Q,an,be,bg,aT,du⟩:=hrel;have cy:BQ w k:=cB.trans (aT.M U);by_cases dn:c<ln
  .skip
   have bQ:c<L u:=ι ac.o;obtain⟨ax,ay,aK,bs,bP⟩:=b8.o c bQ;obtain⟨K,dd,bZ⟩:=kO Q.o U;simp only[Χ,ϵ]at bZ;obtain⟨rfl,rfl⟩:=bZ;have cC:=Ϡ Q.o K rfl;have cS:(c:Int)<(ln:Int):=U;have dz:(0:Int)<=(c:Int):=U;obtain⟨b0,cT,-,-⟩:=im Q.o (c*2) U;obtain⟨l1,cU,-,-⟩:=im Q.o (c*2+1) U;rw[an.o (c*2) U,aK]at b0;rw[an.o (c*2+1) U,bs]at l1;have⟨b9,ca,ci,ch⟩:=hV (show L u[c].2<=1000 from bn.o.2 _ (Ψ bQ)) aK bP (show L u[c].2=L u[c].2 from rfl);generalize aP:Ϫ u[c].1=cZ at *;have cI:∃ cr,cZ=š cr:=⟨_,aP.symm⟩;obtain⟨aI,rfl⟩:=cI;have cb:=Zh aP;generalize af:L u[c].2=el at *;have aF:=Zh af;have ab:BQ k (å k (C #[š aI,D ax el ay] 130)):=ġ;have cH:=φ k (C #[š aI,D ax el ay] 130);clear aP af ch aK bs bP;go_upto_region 10 with fail
   generalize å k (C #[š aI,D ax el ay] 130)=br at *;have cw:=cy.t ab;have⟨cl,b6⟩:=π (ψ Q.o ab) (uM (D ax el ay) el (τ u[c].2) br (ci.o.B cw) (sW _) (ι b9.o));obtain⟨⟨cV,cW⟩,-,dG⟩:=ν cH;have cM:=ab.size;clear b0 l1 cT cU;go_wp2_with fail
   refine b6.o.M ?_;rintro e ba ⟨dC,rfl,a1,aa⟩;obtain⟨x,I,rfl⟩:=Η a1;have am:=Zh (ψ cl.o aa);obtain⟨X,bt,-,dh⟩:=im am.o (c*2+1) U;rw[Ρ (ι am.o.1)]at X;have dt:=aa.size;have ck:=Zh (mU am.o (c*2+1) U (D x el I));have cm:Hid (∀ q,(c+1)*2<=q->(R.set (c*2+1) (D x el I))[q]?=aJ[q]?):=fun q ds=>by rw[gi U];exact an.o q U
   have cc:Hid (Hi E.heap.size (ŝ ba ⟨K,c*2+1,O⟩ (D x el I)) (wk u (R.set (c*2+1) (D x el I)) (c+1))):=by
    have S:=((be.o.B ab).B aa).and ((Hi.own a1).M (U:E.heap.size<=br.heap.size));refine(S.set (p:=⟨K,c*2+1,O⟩) (Ϡ bm.o K rfl).2 (D x el I)).imp fun j ⟨t,y⟩ i hi cF=>?_;by_cases aY:i=c
    .subst aY
     refine⟨?_,D x el I,by rw[mB (ι am.o.1)],?_⟩
     .rw[gi U,an.o (i*2) U,cb.o];exact ca.o
     .rw[aF.o];exact y
    .obtain⟨cX,ct,p1,p2⟩:=t i hi U
     exact⟨by rw[gi U];exact cX,ct,by rw[gi U];exact p1,p2⟩
   have ce:Hid (∀ b,b<E.heap.size->(∀ g,(Value.slice (J ⟨K,0,O⟩) ln o).ownBlock=J g->b≠g)->(ŝ ba ⟨K,c*2+1,O⟩ (D x el I)).heap[b]?=E.heap[b]?):=fun b p1 p2=>by
    rw[Γ _ _ _ _ (p2 K rfl),aa.block b U,ab.block b U];exact bg.o b p1 p2
   have cx:=(aT.trans ((ab.trans (aa.M cM)).M (U:N.heap.size<=k.heap.size))).S (p:=⟨K,c*2+1,O⟩) cC.1 (D x el I);have cN:E.heap.size<=(ŝ ba ⟨K,c*2+1,O⟩ (D x el I)).heap.size:=by simp only[nc];omega
   clear a1 aa cV cW;go_wp2_with fail
   go_roundw
   .exact⟨c+1,_,U,ϕ,ck.o,cm.o,cc.o,ce.o,cx,cN⟩
   exact ω
  .skip
   have cS:¬(c:Int)<(ln:Int):=U;obtain rfl:ln=c:=U;have cD:=Ϡ Q.o;have ai:∀ b,b<N.heap.size->k.heap[b]?=N.heap[b]?:=fun b t=>by
    rw[bg.o b U (fun g hg=>ι (cD g hg).1)];exact bc.o.block b t
   have cv:k.heap[w.heap.size]?=_:=(ai _ (ς aE.o)).trans aE.o;obtain⟨⟨dD,dE⟩,dk,dJ⟩:=ν cv;have ao:=Zh (kA bo.o (w':=k) (fun g hg=>by simp only[Value.ownBlock,Φ]at hg;subst hg;exact ai _ U));obtain⟨X,bt,-,di⟩:=im ao.o (d*3+2) U;rw[Ρ (ι ao.o.1)]at X;have cj:Hid (Hi N.heap.size k (fun j=>fN j (D r ln o) ln u)):=by
    refine((Hi.own Q.o).and (be.o.M cJ)).imp fun j ⟨p1,p2⟩=>⟨ac.o,R,p1,fun i hi=>p2 i hi (ι ac.o)⟩
   have co:=Zh (mU ao.o (d*3+2) U (D r ln o));have cq:Hid (∀ c,(d+1)*3<=c->(P.set (d*3+2) (D r ln o))[c]?=a9[c]?):=fun c dl=>by rw[gi U];exact V.o c U
   have cd:Hid (Hi s.heap.size (ŝ k ⟨B,d*3+2,O⟩ (D r ln o)) (lx ď ps (P.set (d*3+2) (D r ln o)) (d+1))):=by
    have aN:Hi s.heap.size k (lx ď ps P d):=aC.o.step U fun b t y=>(ai b U).trans (T.block b y);have S:=aN.and (cj.o.M (U:s.heap.size<=N.heap.size));refine(S.set (p:=⟨B,d*3+2,O⟩) (Ϡ aG.o B rfl).2 (D r ln o)).imp fun j ⟨t,y⟩ i hi cF=>?_;have dj:=ao.o.1;by_cases aY:i=d
    .subst aY
     refine⟨?_,?_,D r ln o,?_,?_⟩
     .rw[gi U,V.o (i*3) U,aH.o];exact bp.o
     .rw[gi U,V.o (i*3+1) U,aH.o];exact bq.o
     .rw[mB U]
     .rw[aH.o,b7.o,ac.o];exact y
    .obtain⟨c2,c3,c6,c4,c5⟩:=t i hi U
     exact⟨by rw[gi U];exact c2,by rw[gi U];exact c3,c6,by rw[gi U];exact c4,c5⟩
   have cf:Hid (∀ b,b<s.heap.size->(∀ g,(Value.slice (J ⟨B,0,O⟩) f m).ownBlock=J g->b≠g)->(ŝ k ⟨B,d*3+2,O⟩ (D r ln o)).heap[b]?=s.heap[b]?):=fun b a8 az=>by
    rw[Γ _ _ _ _ (az B rfl),ai b U,T.block b U];exact h.o b a8 az
   have cz:Below F.heap.size s (ŝ k ⟨B,d*3+2,O⟩ (D r ln o)):=((av.trans (((T.trans (bc.o.M cL)).trans (aT.M U)).M U))).S (p:=⟨B,d*3+2,O⟩) cE.1 (D r ln o);have cK:s.heap.size<=(ŝ k ⟨B,d*3+2,O⟩ (D r ln o)).heap.size:=by simp only[nc];omega
   clear ai;go_wp2_with fail
   go_roundw
   .exact⟨d+1,_,U,ϕ,co.o,cq.o,cd.o,cf.o,cz,cK⟩
   exact ω
 .skip
  have cR:¬(d:Int)<(f:Int):=U;obtain rfl:f=d:=U;rename_i bw;have bf:=Zh bw;clear bw;have aj:=Ϡ z.o;have cQ:w.heap.size<F.heap.size/\w.heap.size+1<F.heap.size:=⟨U,U⟩;have bz:=(h.o w.heap.size U (fun g hg=>ι (aj g hg).1)).trans al.o;have aR:M.heap[w.heap.size+1]?=J (C #[D O 0 0,D O 0 0] 44 (0,0)):=(h.o (w.heap.size+1) U (fun g hg=>ι (aj g hg).1)).trans ((aD.o _ cQ.2 U).trans cn.o);have bC:Α (· <w.heap.size+2) M (fun j=>Ε j (D (J ⟨l,0,O⟩) nd nd) ď/\ϣ ď j (D n f m) ps):=by
   have aN:Α (· <w.heap.size+2) F (fun j=>Ε j (D (J ⟨l,0,O⟩) nd nd) ď):=aF.o.off (fun b _ g=>by omega);have S:Α (· <w.heap.size+2) M (fun j=>Ε j (D (J ⟨l,0,O⟩) nd nd) ď):=aN.step U (fun b t y=>(h.o b U (fun g hg=>ι (aj g hg).1)).trans (aD.o b t (fun e=>y (by show b<w.heap.size+2;omega)))) (fun b _ g=>g);refine(S.and ((aC.o.off (fun b _ g=>by omega)).and (Α.own z.o (H:=(· <w.heap.size+2)) (fun g hg e=>by have:=(aj g hg).1;omega)))).imp fun j ⟨t,y,cu⟩=>⟨t,?_⟩;exact⟨P,by rw[ad.o];exact cu,fun i hi=>y i hi (ι ad.o)⟩
  have bu:=aO.trans (av.M U);have⟨cp,b4⟩:=π (fS aR (D (J ⟨l,0,O⟩) nd nd) (D n f m)) (ga bu (gu _ 1) (D (J ⟨l,0,O⟩) nd nd) (D n f m));have cg:Hid (Hi w.heap.size (ŝ (ŝ M ⟨w.heap.size+1,0,O⟩ (D (J ⟨l,0,O⟩) nd nd)) ⟨w.heap.size+1,1,O⟩ (D n f m)) (fun j=>Ε j (D (J ⟨l,0,O⟩) nd nd) ď/\ϣ ď j (D n f m) ps)):=by
   have S:=((bC.set (p:=⟨w.heap.size+1,0,O⟩) (by show w.heap.size+1<w.heap.size+2;omega) (D (J ⟨l,0,O⟩) nd nd)).set (p:=⟨w.heap.size+1,1,O⟩) (by show w.heap.size+1<w.heap.size+2;omega) (D n f m)).hi;exact S.M U
  clear z aC h al aG aD aO av aj ak bb c0 c1 bN bF aB bd bh;obtain⟨⟨c0,c1⟩,bN,ak⟩:=ν bz;obtain⟨⟨r0,r1⟩,⟨W,f1⟩,dH⟩:=ν aR;clear bz aR bC bu;go_wp2_with fail
  refine bf.o _ _ ?_;clear bf;go_wp2;refine Ω (v:=ā #[D (J ⟨l,0,O⟩) nd nd,D n f m]) (jf (p:=2) (ty:=44) rfl _ _ (w.heap.size+1) 44 _ (0,0) _ rfl cp.o lG rfl ϋ) rfl ?_;exact⟨_,_,_,_,by rw[bl.o,ad.o],by rw[bl.o,ad.o];exact cg.o,b4.o⟩
def QS (da dc sa sc x) (w:β) (a:Ε w (D da (L x.1) dc) x.1) (b:ϣ x.1 w (D sa (L x.2) sc) x.2) (c:kk x) :
  Calls prog 30 #[ā #[D da (L x.1) dc,D sa (L x.2) sc]] w (sA x w):=Gw _ _ da dc sa sc x.1 x.2 w rfl rfl a b c
