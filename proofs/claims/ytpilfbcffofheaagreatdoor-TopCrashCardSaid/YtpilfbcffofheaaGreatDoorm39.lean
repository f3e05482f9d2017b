/- Part 39 of the proof. -/
import Derived.Test.YtpilfbcffofheaaGreatDoorm34
import Derived.Test.YtpilfbcffofheaaGreatDoorm38
set_option linter.unusedVariables false
set_option linter.unusedSimpArgs false
set_option maxRecDepth 100000
set_option maxHeartbeats 16000000
namespace Go.Proofs.YtpilfbcffofheaaGreatDoor
open Go.Proofs.Tryz Go.RowKit Go.Sort
open Value renaming slice->D,pointer->þ,agg->ā,string->š
open Obj renaming cells->C
open Option renaming none->O,some->J
open List renaming length->L
open World renaming alloc->å,setCell->ŝ
open Ending renaming returned->ŗ
theorem Ob (H:Nat->Prop) (g:Nat) (u:ϰ) (ix:Ix) (w:β) (h:ht H g u ix w) (n:jA ix) :
  Calls prog 15 #[þ (J ⟨g,0,O⟩)] w (sJ ix w):=by
 obtain⟨F,q,h⟩:=h;obtain⟨m,o,a⟩:=Ϻ (w:=w) (A:=C #[D O 0 0,D O 0 0] 44) RZ;have k:=Zx (NX q.da q.dc q.sa q.sc ix _ (h.ix.now.d.below a) (h.ix.now.s.below a) n);unfold sJ at k ⊢;obtain⟨⟨-,-,-,-,-,-,-,-,-,-,x,y⟩,-,I⟩:=jH (θ h.row a);clear h n;go_enter func15,ntmps15;go_upto_region 3 with (fail)
 generalize å w (C #[D O 0 0,D O 0 0] 44)=z at *;go_wp2_with fail
 refine k.o.mono ?_;rintro e G ⟨b,d,c,f,rfl,l,i⟩;have j:=θ m i;have t:=Zx (Ϲ j (D b (L ix.1) d) (D c (L ix.2) f));have r:=Zx (fS (a.trans (i.mono a.size)) NZ (D b (L ix.1) d) (D c (L ix.2) f));have s:=Zx (((l.set (p:=⟨w.heap.size,0,O⟩) o (D b (L ix.1) d)).set (p:=⟨w.heap.size,1,O⟩) o (D c (L ix.2) f)).mono a.size);obtain⟨⟨B,d1⟩,⟨E,f1⟩,-⟩:=ι j;clear x y m j l i a;go_wp2;refine ϟ (v:=ā #[D b (L ix.1) d,D c (L ix.2) f]) (jX (p:=2) (ty:=44) rfl _ _ w.heap.size 44 _ (0,0) _ rfl t.o lh rfl ϋ) rfl ?_;exact⟨b,d,c,f,rfl,s.o,r.o⟩
theorem Oc (g nb nw nd f:Nat) (ba:Option Addr) (bc:Nat) (wa:Option Addr) (wc:Nat) (da:Option Addr) (dc:Nat) (sa:Option Addr) (sc:Nat) (sq ln I:Int) (up:Bool) (cC cD cA cB:ε) (bl:Ε) (ws:fV) (docs:List (γ)) (ps:List (Nat×Nat)) (w:β)
  (au:L bl=nb) (ax:L ws=nw) (av:L docs=nd) (aw:L ps=f) (bo:Δ w (D ba nb bc) bl) (bJ:hL w (D wa nw wc) ws) (bu:Δ w (D da nd dc) docs) (bG:ϧ docs w (D sa f sc) ps) (al:ja bl ws) (bK:jA (docs,ps))
  (hg:w.heap[g]?=J (C #[D ba nb bc,D wa nw wc,IZ sq,IZ ln,D da nd dc,D sa f sc,.bool up,IZ I,cC,cD,cA,cB] 77 (0,0))) :
  Calls prog 9 #[þ (J ⟨g,0,O⟩)] w (oA ⟨bl,ws,sq,ln,(docs,ps),up,I⟩ w):=by
 have bY:=Zh (fun c (aP:c<L ws)=>show L ws[c].2<=100000 by have:=(al.lw _ (Χ aP)).2;omega);have cr:=al.nb;have cs:=al.nw;rw[au]at cr;rw[ax]at cs;have an:=Zh (fun N (E:BQ w N)=>EQ nd f da dc sa sc docs ps N av aw (bu.below E) (bG.below E) bK);have a4:=Zh (fun N (E:BQ w N)=>ES ba nb bc bl N au (bo.below E) (fun c aP=>by have:=al.lb _ (Χ aP);omega) ϊ);have a6:=Zh au;have ah:=Zh ax;have a7:=Zh av;have a8:=Zh aw;obtain⟨aW,bO,bM,a3⟩:=EL ax bJ;have a0:=Zh (fun N (E:BQ w N)=>Bn (D wa nw wc) nw aW N (bO.below E) bM ϊ);unfold sJ at an;simp only[av,aw]at an;clear bo bJ bu bG au ax av aw bO bM al bK;obtain⟨bD,aR,dd,aY,az⟩:=fU (w:=w) (A:=C #[D O 0 0,D O 0 0,IZ 0,IZ 0,D O 0 0,D O 0 0,.bool false,IZ 0] 48) (Z:=C #[D ba nb bc,D wa nw wc,IZ sq,IZ ln,D da nd dc,D sa f sc,.bool up,IZ I] 48) RZ;obtain⟨⟨c0,c1,c2,n,o,d,r,s,-,-,-,-⟩,-,bQ⟩:=jH hg;obtain⟨⟨b6,b7,b8,b9,ca,cb,cc,cd,-,-,-,-⟩,-,cE⟩:=jH (w:=å w (C #[D O 0 0,D O 0 0,IZ 0,IZ 0,D O 0 0,D O 0 0,.bool false,IZ 0] 48)) ((gX w _ g bQ).trans hg);go_enter func9,ntmps9;go_upto_region 4 with (fail)
 generalize å (å w (C #[D O 0 0,D O 0 0,IZ 0,IZ 0,D O 0 0,D O 0 0,.bool false,IZ 0] 48)) (C #[D ba nb bc,D wa nw wc,IZ sq,IZ ln,D da nd dc,D sa f sc,.bool up,IZ I] 48)=bb at *;clear c0 c1 c2 n o d r s b6 b7 b8 b9 ca cb cc cd bQ cE hg;obtain⟨⟨c0,c1,c2,n,o,d,r,s⟩,z,B⟩:=ϳ aR;have aZ:=Zh (an.o _ az);go_wp2_with fail
 refine aZ.o.mono ?_;rintro e i ⟨j,l,k,m,rfl,bx,M⟩;clear an aZ;have aa:=θ aR M;have bE:=θ bD M;have ae:(ŝ (ŝ i ⟨w.heap.size+1,4,O⟩ (D j nd l)) ⟨w.heap.size+1,5,O⟩ (D k f m)).heap[w.heap.size+1]?=J (C #[D ba nb bc,D wa nw wc,IZ sq,IZ ln,D j nd l,D k f m,.bool up,IZ I] 48 (0,0)):=π _ _ 5 _ _ _ (π _ _ 4 _ _ _ aa);have bk:(ŝ (ŝ i ⟨w.heap.size+1,4,O⟩ (D j nd l)) ⟨w.heap.size+1,5,O⟩ (D k f m)).heap[w.heap.size]?=J (C #[D O 0 0,D O 0 0,IZ 0,IZ 0,D O 0 0,D O 0 0,.bool false,IZ 0] 48 (0,0)):=(ψ _ _ _ _ ύ).trans ((ψ _ _ _ _ ύ).trans bE);have bz:=(bx.set (p:=⟨w.heap.size+1,4,O⟩) aY (D j nd l)).set (p:=⟨w.heap.size+1,5,O⟩) aY (D k f m);have aA:=((az.trans (M.mono az.size)).setCell (p:=⟨w.heap.size+1,4,O⟩) (go _ 1) (D j nd l)).setCell (p:=⟨w.heap.size+1,5,O⟩) (go _ 1) (D k f m);have aT:bb.heap.size<=(ŝ (ŝ i ⟨w.heap.size+1,4,O⟩ (D j nd l)) ⟨w.heap.size+1,5,O⟩ (D k f m)).heap.size:=by have:=M.size;simpa using this
 clear c0 c1 c2 n o d r s z aR bD M bx az bE;obtain⟨⟨c0,c1,c2,n,o,d,r,s⟩,z,B⟩:=ϳ aa;go_upto_region 5 with (fail)
 generalize ŝ (ŝ i ⟨w.heap.size+1,4,O⟩ (D j nd l)) ⟨w.heap.size+1,5,O⟩ (D k f m)=cG at *;clear c0 c1 c2 n o d r s z B aa;obtain⟨⟨c0,c1,c2,n,o,d,r,s⟩,z,B⟩:=ϳ ae;have a5:=Zh (a4.o _ aA);go_wp2_with fail
 refine a5.o.mono ?_;rintro e aD ⟨t,rfl,bA,af⟩;clear a4 a5;have aS:=θ ae af;have bm:(ŝ aD ⟨w.heap.size+1,0,O⟩ (D (J ⟨t,0,O⟩) nb nb)).heap[w.heap.size]?=J (C #[D O 0 0,D O 0 0,IZ 0,IZ 0,D O 0 0,D O 0 0,.bool false,IZ 0] 48 (0,0)):=(ψ _ _ _ _ ύ).trans (θ bk af);have bg:(ŝ aD ⟨w.heap.size+1,0,O⟩ (D (J ⟨t,0,O⟩) nb nb)).heap[w.heap.size+1]?=J (C #[D (J ⟨t,0,O⟩) nb nb,D wa nw wc,IZ sq,IZ ln,D j nd l,D k f m,.bool up,IZ I] 48 (0,0)):=π _ _ 0 _ _ _ aS;have bB:=((bz.below af).and (bA.mono aT)).set (p:=⟨w.heap.size+1,0,O⟩) aY (D (J ⟨t,0,O⟩) nb nb);have bs:=(aA.trans (af.mono aA.size)).setCell (p:=⟨w.heap.size+1,0,O⟩) (go _ 1) (D (J ⟨t,0,O⟩) nb nb);have cx:bb.heap.size<=(ŝ aD ⟨w.heap.size+1,0,O⟩ (D (J ⟨t,0,O⟩) nb nb)).heap.size:=by have:=af.size;simp;omega
 clear c0 c1 c2 n o d r s z B ae bk bz bA af aA aT;obtain⟨⟨c0,c1,c2,n,o,d,r,s⟩,z,B⟩:=ϳ aS;go_upto_region 6 with (fail)
 generalize ŝ aD ⟨w.heap.size+1,0,O⟩ (D (J ⟨t,0,O⟩) nb nb)=ac at *;clear c0 c1 c2 n o d r s z B aS;have a9:Hid (ς (· <w.heap.size+2) ac (fun i=>(Δ i (D j nd l) docs/\ϧ docs i (D k f m) ps)/\Δ i (D (J ⟨t,0,O⟩) nb nb) bl)):=bB.off (fun b _ q=>by have:b<w.heap.size+2:=q;omega);have bZ:=Zh bm;have aI:=Zh bg;have aF:=bs;have cT:w.heap.size+2<=ac.heap.size:=ϊ;clear bB bm bg bs cx;obtain⟨⟨c0,c1,c2,n,o,d,r,s⟩,z,B⟩:=ϳ aI.o;have aX:=B;have a1:=Zh (a0.o _ aF);go_wp2_with fail
 refine a1.o.mono ?_;rintro e aC ⟨cX,rfl,aU,M⟩;obtain⟨y,u,rfl⟩:=Θ aU;have aa:=θ aI.o M;clear c0 c1 c2 n o d r s z B a1;obtain⟨⟨c0,c1,c2,n,o,d,r,s⟩,z,B⟩:=ϳ aa;go_upto_region 7 with (fail)
 have ae:(ŝ aC ⟨w.heap.size+1,1,O⟩ (D y nw u)).heap[w.heap.size+1]?=J (C #[D (J ⟨t,0,O⟩) nb nb,D y nw u,IZ sq,IZ ln,D j nd l,D k f m,.bool up,IZ I] 48 (0,0)):=π _ _ 1 _ _ _ aa;have bN:=il aU (a:=⟨w.heap.size+1,1,O⟩) aX (D y nw u);have bp:=(M.mono (mc aX)).setCell (p:=⟨w.heap.size+1,1,O⟩) NZ (D y nw u);have aT:ac.heap.size<=(ŝ aC ⟨w.heap.size+1,1,O⟩ (D y nw u)).heap.size:=by have:=M.size;simpa using this
 have bw:∀ b,b<ac.heap.size->b≠w.heap.size+1->(ŝ aC ⟨w.heap.size+1,1,O⟩ (D y nw u)).heap[b]?=ac.heap[b]?:=fun b T U=>by rw[ψ _ _ _ _ U];exact M.block b T
 clear aa aU M;generalize(ŝ aC ⟨w.heap.size+1,1,O⟩ (D y nw u))=G at *;have ao:=Zh ae;have aJ:=Zh bN;have aH:=Zh bw;have aM:=aF.trans (bp.mono (ϊ:w.heap.size<=w.heap.size+1));clear ae bN bw c0 c1 c2 n o d r s z;obtain⟨⟨c0,c1,c2,n,o,d,r,s⟩,z,B⟩:=ϳ ao.o;go_wp2_with fail
 go_loopw [35] (fun R wr=>∃ (c:Nat) (ab:List ε),c<=nw/\R=IZ (c:Int)/\Hid (wr.ownsRow ac.heap.size 84 2 (D y nw u) nw ab)/\Hid (∀ V,c*2<=V->ab[V]?=aW[V]?)/\Hid (Hi G.heap.size wr (uF ws ab c))/\Hid (∀ b,b<G.heap.size->(∀ g,(Value.slice y nw u).ownBlock=J g->b≠g)->wr.heap[b]?=G.heap[b]?)/\Below ac.heap.size G wr/\G.heap.size<=wr.heap.size) (fun R _=>nw - (intOf R).toNat)
 case atStart=>exact⟨0,_,Ι _,rfl,aJ.o,fun _ _=>rfl,(fun i _ R hi h=>ϊ),fun _ _ _=>rfl,φ _ _,NZ⟩
 case round =>
  obtain⟨X,cw⟩:∃ x:β,x=wr:=⟨wr,rfl⟩;subst cw;obtain⟨c,ab,cR,rfl,F,aq,aG,ad,ay,cv⟩:=hrel;have br:BQ w X:=aM.trans (ay.mono ϊ);by_cases cS:c<nw
  .skip
   have bC:c<L ws:=by have:=ah.o;omega
   obtain⟨aj,ak,aO,bt,bF⟩:=a3.o c bC;obtain⟨Q,cH,bI⟩:=kz F.o ϊ;simp only[Ξ,Ϯ]at bI;obtain⟨rfl,rfl⟩:=bI;have co:=Ν F.o Q rfl;have cM:=(kk F.o).1;have cm:=(ad.o (w.heap.size+1) ϊ (fun g hg=>by have:=(Ν F.o g hg).1;omega)).trans ao.o;have cy:(c:Int)<(nw:Int):=ϊ;have cU:(0:Int)<=(c:Int):=ϊ;obtain⟨ci,cJ,-,cK⟩:=hG F.o (c*2) ϊ;obtain⟨cj,cI,-,-⟩:=hG F.o (c*2+1) ϊ;rw[aq.o (c*2) ϊ,aO]at ci;rw[aq.o (c*2+1) ϊ,bt]at cj;have b4:=Zh aO;generalize bn:ws[c].1=ar at *;have bR:=Zh bn;have ag:BQ X (å X (C #[IZ (ar:Int),D aj (L ws[c].2) ak] 84)):=ġ;have ct:=χ X (C #[IZ (ar:Int),D aj (L ws[c].2) ak] 84);have cF:=F.o.1;have bT:=Zh (qj (D aj (L ws[c].2) ak) (L ws[c].2) (η ws[c].2) (å X (C #[IZ (ar:Int),D aj (L ws[c].2) ak] 84)).drew (bF.below (br.alloc br.size _).drew) (mp _) (by have:=bY.o c bC;omega));generalize bv:L ws[c].2=P at *;have bU:=Zh bv;clear bF bv aO bt bn;go_upto_region 10 with (fail)
   generalize å X (C #[IZ (ar:Int),D aj P ak] 84)=ai at *;have cl:=θ cm ag;obtain⟨⟨cZ,bP,c3,c4,c5,c6,c7,c8⟩,cO,de⟩:=ϳ cl;obtain⟨⟨cV,bL⟩,-,c9⟩:=ι ct;have b1:=Zh (Υ F.o ag);have Y:BQ ai ai.drew:=RZ.drew;refine ϸ (fun b5=>BQ ai b5) 9 ϋ ?_;refine Zf 0 Y ?_;refine Zf 1 Y ?_;refine Zb 2 [7,8,9] Y ?_ (hy:=by intro N E;have cf:=ζ E bP;have cg:=ζ E bL;go_simp;try with_reducible rfl);refine Zf 3 Y ?_;refine Zf 4 Y ?_;refine Zb 5 [6,9] Y ?_ (hy:=by intro N E;have cf:=ζ E bP;have cg:=ζ E bL;go_simp;try with_reducible rfl);refine Ψ (fuel:=3) 6 ϋ rfl ?_;intro K bi;go_simp;refine bT.o.mono ?_;rintro e aE ⟨cY,rfl,aQ,bq⟩;obtain⟨S,d,rfl⟩:=Θ aQ;have W:BQ ai aE:=Y.trans bq;refine bi _ _ W ?_;clear bi K;try simp only[Act.put]
   refine Zf 7 W ?_;refine Zf 8 W ?_;have ap:=Zh (Υ b1.o W);obtain⟨bd,ck,-,cL⟩:=hG ap.o (c*2+1) ϊ;rw[Ρ (by have:=ap.o.1;omega)]at bd;refine Zl ?_;refine Zd ?_;have bH:=ag.size;have b0:=Zh (lW ap.o (c*2+1) ϊ (D S P d));have b3:Hid (∀ V,(c+1)*2<=V->(ab.set (c*2+1) (D S P d))[V]?=aW[V]?):=fun V cQ=>by rw[fW ϊ];exact aq.o V ϊ
   have bV:Hid (Hi G.heap.size (ŝ aE ⟨Q,c*2+1,O⟩ (D S P d)) (uF ws (ab.set (c*2+1) (D S P d)) (c+1))):=by
    have aL:=((aG.o.below ag).below W).and ((Hi.own aQ).mono (show G.heap.size<=ai.drew.heap.size from gh cv bH));have cq:Q<G.heap.size:=(Ν aJ.o Q rfl).2;refine(aL.set (p:=⟨Q,c*2+1,O⟩) cq (D S P d)).imp fun i ⟨T,U⟩ R hi cP=>?_;by_cases cp:R=c
    .subst cp
     refine⟨?_,D S P d,by rw[lI (by have:=ap.o.1;omega)],?_⟩
     .rw[fW ϊ,aq.o (R*2) ϊ,bR.o];exact b4.o
     .rw[bU.o];exact U
    .obtain⟨cz,ce,aV,aB⟩:=T R hi ϊ
     exact⟨by rw[fW ϊ];exact cz,ce,by rw[fW ϊ];exact aV,aB⟩
   have bW:Hid (∀ b,b<G.heap.size->(∀ g,(Value.slice (J ⟨Q,0,O⟩) nw u).ownBlock=J g->b≠g)->(ŝ aE ⟨Q,c*2+1,O⟩ (D S P d)).heap[b]?=G.heap[b]?):=fun b aV aB=>by
    rw[ψ _ _ _ _ (aB Q rfl),W.block b ϊ,ag.block b ϊ];exact ad.o b aV aB
   have cn:=(ay.trans ((ag.trans (W.mono bH)).mono ϊ)).setCell (p:=⟨Q,c*2+1,O⟩) co.1 (D S P d);have cu:G.heap.size<=(ŝ aE ⟨Q,c*2+1,O⟩ (D S P d)).heap.size:=by
    have:=W.size;simp only[nf];omega
   clear aQ bq bd ck;go_wp2_with fail
   go_roundw;case rel=>exact⟨c+1,_,ϊ,ϕ,b0.o,b3.o,bV.o,bW.o,cn,cu⟩
   case measure=>simp[intOf];omega
  .skip
   have cy:¬(c:Int)<(nw:Int):=ϊ;obtain rfl:nw=c:=ϊ;rename_i bf;have a2:=Zh bf;clear bf;have am:=Ν F.o;have bh:=(ad.o (w.heap.size+1) ϊ (fun g hg=>by have:=(am g hg).1;omega)).trans ao.o;have aN:=(ad.o w.heap.size ϊ (fun g hg=>by have:=(am g hg).1;omega)).trans ((aH.o _ ϊ ϊ).trans bZ.o);have bj:ς (· <w.heap.size+2) X (fun i=>((Δ i (D j nd l) docs/\ϧ docs i (D k f m) ps)/\Δ i (D (J ⟨t,0,O⟩) nb nb) bl)/\hL i (D y nw u) ws):=by
    have aL:ς (· <w.heap.size+2) X (fun i=>(Δ i (D j nd l) docs/\ϧ docs i (D k f m) ps)/\Δ i (D (J ⟨t,0,O⟩) nb nb) bl):=a9.o.step ϊ (fun b T U=>(ad.o b ϊ (fun g hg=>by have:=(am g hg).1;omega)).trans (aH.o b T (fun e=>U (by show b<w.heap.size+2;omega)))) (fun b _ g=>g);refine(aL.and ((aG.o.off (fun b _ g=>by have:b<w.heap.size+2:=g;omega)).and (ς.own F.o (H:=(· <w.heap.size+2)) (fun g hg e=>by have:=(am g hg).1;have:g<w.heap.size+2:=e;omega)))).imp fun i ⟨T,U,aK⟩=>⟨T,?_⟩;exact⟨ab,by rw[ah.o];exact aK,fun R hi=>U R hi (by have:=ah.o;omega)⟩
   have be:=aM.trans (ay.mono ϊ);have b2:=Zh (ob aN (D (J ⟨t,0,O⟩) nb nb) (D y nw u) (IZ sq) (IZ ln) (D j nd l) (D k f m) (.bool up) (IZ I));have bS:=Zh (((((((((be.setCell (p:=⟨w.heap.size,0,O⟩) NZ (D (J ⟨t,0,O⟩) nb nb)).setCell (p:=⟨w.heap.size,1,O⟩) NZ (D y nw u)).setCell (p:=⟨w.heap.size,2,O⟩) NZ (IZ sq)).setCell (p:=⟨w.heap.size,3,O⟩) NZ (IZ ln)).setCell (p:=⟨w.heap.size,4,O⟩) NZ (D j nd l)).setCell (p:=⟨w.heap.size,5,O⟩) NZ (D k f m)).setCell (p:=⟨w.heap.size,6,O⟩) NZ (.bool up)).setCell (p:=⟨w.heap.size,7,O⟩) NZ (IZ I)));have bX:=Zh ((((((((((bj.set (p:=⟨w.heap.size,0,O⟩) (by show w.heap.size<w.heap.size+2;omega) (D (J ⟨t,0,O⟩) nb nb)).set (p:=⟨w.heap.size,1,O⟩) (by show w.heap.size<w.heap.size+2;omega) (D y nw u)).set (p:=⟨w.heap.size,2,O⟩) (by show w.heap.size<w.heap.size+2;omega) (IZ sq)).set (p:=⟨w.heap.size,3,O⟩) (by show w.heap.size<w.heap.size+2;omega) (IZ ln)).set (p:=⟨w.heap.size,4,O⟩) (by show w.heap.size<w.heap.size+2;omega) (D j nd l)).set (p:=⟨w.heap.size,5,O⟩) (by show w.heap.size<w.heap.size+2;omega) (D k f m)).set (p:=⟨w.heap.size,6,O⟩) (by show w.heap.size<w.heap.size+2;omega) (.bool up)).set (p:=⟨w.heap.size,7,O⟩) (by show w.heap.size<w.heap.size+2;omega) (IZ I))).hi.mono (ϊ:w.heap.size<=w.heap.size+2));clear F aG ad ao aJ aH aI a9 aF aM ay am B aX c0 c1 c2 n o d r s z bp a0 a3;obtain⟨⟨c0,c1,c2,n,o,d,r,s⟩,z,B⟩:=ϳ bh;obtain⟨⟨r0,r1,r2,r3,r4,cW,r6,r7⟩,cN,db⟩:=ϳ aN;clear bh aN bj be;go_wp2_with fail
   refine a2.o _ _ ?_;clear a2;go_wp2;refine ϟ (v:=ā #[D (J ⟨t,0,O⟩) nb nb,D y nw u,IZ sq,IZ ln,D j nd l,D k f m,.bool up,IZ I]) (jX (p:=2) (ty:=48) rfl _ _ w.heap.size 48 _ (0,0) _ rfl b2.o pR rfl ϋ) rfl ?_;refine⟨⟨J ⟨t,0,O⟩,nb,y,u,j,l,k,m⟩,by simp only[gi];rw[a6.o,ah.o,a7.o,a8.o],?_,bS.o⟩;refine bX.o.imp fun i ⟨⟨⟨T,U⟩,aK⟩,ch⟩=>⟨?_,?_,?_,?_⟩
   .simp only;rw[a6.o];exact aK
   .simp only;rw[ah.o];exact ch
   .simp only;rw[a7.o];exact T
   .simp only;rw[a8.o];exact U
theorem ug (H:Nat->Prop) (g:Nat) (a:ϰ) (ix:Ix) (w:β) (h:ht H g a ix w) (c:qb a):Calls prog 9 #[þ (J ⟨g,0,O⟩)] w (oA a w):=by
 obtain⟨b,q,h⟩:=h;exact Oc g _ _ _ _ b.ba b.bc b.wa b.wc b.da b.dc b.sa b.sc a.seq a.len a.fuse a.up _ _ _ _ a.bl a.ws a.x.1 a.x.2 w rfl rfl rfl rfl h.led.now.b h.led.now.wt h.led.now.d h.led.now.s c.dk c.x h.row
theorem yz:ϵ [] [] 0:=⟨ύ,ύ,ύ,rfl,ύ⟩
def mO (n:Nat):ϰ:=⟨List.replicate n iV,[],0,0,([],[]),true,-1⟩
def Aq (n:Nat) (w:β) (e:Ending) (w':β):Prop:= ∃ g,e=ŗ (.tuple #[þ (J ⟨g,0,O⟩),IZ 0])/\w.heap.size<=g/\g<w'.heap.size/\(∀ a:Nat->Prop,a g->(∀ b,a b->b<w.heap.size\/b=g)->ht a g (mO n) ([],[]) w')/\Below w.heap.size w w'
theorem Oe (a:Addr) (w:β):Calls prog 27 #[þ (J a),IZ 0] w fun e w'=>e=ŗ (.tuple #[þ (J a),IZ 0])/\w=w':=by
 go_enter func27,ntmps27;go_wp2;go_ret2;exact⟨rfl,rfl⟩
theorem ET (n:Nat) (w:β) (v:Ϩ w) (K:Ϡ w) (A:3<=n) (F:n<=4096) :
  Calls prog 6 #[IZ n] w (Aq n w):=by
 have g:=Zx (Jy n w v A F);have i:=Zx (fun j (B:BQ w j)=>Lf O 0 O 0 [] [] j (v.below B) (K.below B) (vd j O 0) (wh j [] O 0) yz);unfold sP at g;simp only[gi,gF,List.length_replicate]at g i;obtain⟨o,p⟩:∃ r,iI [] []=r:=⟨_,rfl⟩;rw[p]at i;have S:=Zx p;clear v K A F p;go_enter func6,ntmps6;go_wp2_with fail
 refine g.o.mono ?_;rintro e f ⟨a,rfl,E,m⟩;have Q:=Zx E;have G:=χ f (C #[D a.ba n a.bc,D a.wa 0 a.wc,IZ 0,IZ 0,D a.da 0 a.dc,D a.sa 0 a.sc,.bool true,IZ (-1)] 48);have s:=(φ f.heap.size f).alloc NZ (C #[D a.ba n a.bc,D a.wa 0 a.wc,IZ 0,IZ 0,D a.da 0 a.dc,D a.sa 0 a.sc,.bool true,IZ (-1)] 48);have u:=m.trans (s.mono m.size);clear E g;go_upto_region 4 with (fail)
 generalize å f (C #[D a.ba n a.bc,D a.wa 0 a.wc,IZ 0,IZ 0,D a.da 0 a.dc,D a.sa 0 a.sc,.bool true,IZ (-1)] 48)=T at *;have z:=Zx (i.o T u);have R:=Zx G;have x:=Zx u;have y:=Zx s;have ad:=m.size;clear G u m s i;go_wp2_with fail
 refine z.o.mono ?_;rintro e c ⟨rfl,d⟩;obtain⟨⟨c0,c1,c2,U,V,W,X,Y⟩,-,-⟩:=ϳ (θ R.o d);have N:=Zx d;clear d z;go_wp2_with fail
 refine(Oe _ _).mono ?_;rintro e ae ⟨rfl,rfl⟩;have I:=χ c (C #[D a.ba n a.bc,D a.wa 0 a.wc,IZ 0,IZ 0,D a.da 0 a.dc,D a.sa 0 a.sc,.bool true,IZ (-1),š (δ o),IZ 0,D O 0 0,D O 0 0] 77);have t:=(φ c.heap.size c).alloc NZ (C #[D a.ba n a.bc,D a.wa 0 a.wc,IZ 0,IZ 0,D a.da 0 a.dc,D a.sa 0 a.sc,.bool true,IZ (-1),š (δ o),IZ 0,D O 0 0,D O 0 0] 77);have d:=N.o;have aa:=d.size;have ab:=x.o.size;have ac:=y.o.size;have q:=(y.o.trans (d.mono ac)).trans (t.mono ϊ);have P:Ϭ (Aq n w (ŗ (.tuple #[þ (J ⟨c.heap.size,0,O⟩),IZ 0])) (å c (C #[D a.ba n a.bc,D a.wa 0 a.wc,IZ 0,IZ 0,D a.da 0 a.dc,D a.sa 0 a.sc,.bool true,IZ (-1),š (δ o),IZ 0,D O 0 0,D O 0 0] 77))):=by
  refine⟨⟨c.heap.size,rfl,ϊ,ύ,fun M hg Z=>⟨a,⟨O,0,O,0⟩,?_,?_,?_,hg⟩,x.o.trans ((d.trans (t.mono aa)).mono ab)⟩⟩
  .simp only[mO,List.length_replicate,gF];rw[S.o];exact I
  .refine(Q.o.off (H:=fun b=>M b/\b<f.heap.size) (fun b k l=>by rcases Z b l.1 with h|h<;>omega)).step q.size (fun b k l=>q.block b k) (fun b k l=>⟨l,k⟩)
  .exact fun c _=>⟨vd c O 0,wh c [] O 0⟩
 clear c0 c1 c2 U V W X Y I t q d;go_wp2;go_ret2;exact P.o
