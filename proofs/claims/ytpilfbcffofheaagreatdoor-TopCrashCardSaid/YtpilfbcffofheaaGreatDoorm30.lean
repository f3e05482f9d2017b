/- Part 30 of the proof. -/
import Derived.Test.YtpilfbcffofheaaGreatDoorm29
set_option linter.unusedVariables false
set_option linter.unusedSimpArgs false
set_option maxRecDepth 100000
set_option maxHeartbeats 16000000
namespace Go.Proofs.YtpilfbcffofheaaGreatDoor
open Go.Proofs.Tryz Go.RowKit Go.Sort
open Value renaming pointer->þ,slice->D,string->š,agg->ā
open Obj renaming cells->C
open Ending renaming returned->ŗ
open Option renaming none->O,some->J
open List renaming length->L
open World renaming alloc->å,setCell->ŝ
def xd (a:ϰ) (w:β) (e:Ending) (w':β):Prop:= ∃ (g:Nat) (c:jL),e=ŗ (þ (J ⟨g,0,O⟩))/\w'.heap[g]?=J (C (gi c a) 136 (0,0))/\w.heap.size<=g/\ς (fun b=>b<w.heap.size\/b=g) w' (fun d=>ka d c a)/\Below w.heap.size w w'
theorem Jw (nb nw nd t:Nat) (ba:Option Addr) (bc:Nat) (wa:Option Addr) (wc:Nat) (da:Option Addr) (dc:Nat) (sa:Option Addr) (sc:Nat) (sq ln aM:Int) (up:Bool) (bl:Ε) (ws:fV) (docs:List (γ)) (ps:List (Nat×Nat)) (w:β)
  (bR:L bl=nb) (bU:L ws=nw) (bS:L docs=nd) (bT:L ps=t) (c7:Δ w (D ba nb bc) bl) (dr:hL w (D wa nw wc) ws) (df:Δ w (D da nd dc) docs) (dp:ϧ docs w (D sa t sc) ps) (bF:ja bl ws) (bX:jA (docs,ps)) :
  Calls prog 60 #[ā #[D ba nb bc,D wa nw wc,IZ sq,IZ ln,D da nd dc,D sa t sc,.bool up,IZ aM]] w (xd ⟨bl,ws,sq,ln,(docs,ps),up,aM⟩ w):=by
 obtain⟨dd,de,-⟩:=rp bX;have dP:=Zh (fun c (bm:c<L bl)=>show L bl[c]<=100000 by have:=bF.lb _ (Χ bm);omega);have dR:=Zh (fun c (bm:c<L ws)=>show L ws[c].2<=100000 by have:=(bF.lw _ (Χ bm)).2;omega);have dQ:=Zh (fun c (bm:c<L docs)=>dd docs[c] (Χ bm));have cU:=Zh (fun c (bm:c<L ps)=>de ps[c] (Χ bm));have d9:=bF.nb;have ea:=bF.nw;have dj:=bX.nd;have dk:=bX.np;simp only at dj dk cU;rw[bR]at d9;rw[bU]at ea;rw[bS]at dj;rw[bT]at dk;clear bF bX dd de;have bx:=Zh bR;have bB:=Zh bU;have bz:=Zh bS;have bA:=Zh bT;obtain⟨cy,dz,du,cQ⟩:=BG bR c7;obtain⟨cB,dA,dx,cT⟩:=EL bU dr;obtain⟨cz,rD,dv,cR⟩:=BG bS df;obtain⟨cA,rS,dw,cS⟩:=DV bT dp;have cK:=Zh (fun E (ae:BQ w E)=>Bl (D ba nb bc) nb cy E (dz.below ae) du ϊ);have cN:=Zh (fun E (ae:BQ w E)=>Bn (D wa nw wc) nw cB E (dA.below ae) dx ϊ);have cL:=Zh (fun E (ae:BQ w E)=>Bl (D da nd dc) nd cz E (rD.below ae) dv ϊ);have cM:=Zh (fun E (ae:BQ w E)=>Bm (D sa t sc) t cA E (rS.below ae) dw ϊ);clear c7 dr df dp bR bU bS bT dz dA rD rS du dx dv dw;obtain⟨-,dn,-,M,c9⟩:=fU (w:=w) (A:=C #[D ba nb bc,D wa nw wc,IZ sq,IZ ln,D da nd dc,D sa t sc,.bool up,IZ aM] 48) (Z:=C #[D ba nb bc,D wa nw wc,IZ sq,IZ ln,D da nd dc,D sa t sc,.bool up,IZ aM] 136) RZ;go_enter func60,ntmps60;go_upto_region 2 with (fail)
 generalize å (å w (C #[D ba nb bc,D wa nw wc,IZ sq,IZ ln,D da nd dc,D sa t sc,.bool up,IZ aM] 48)) (C #[D ba nb bc,D wa nw wc,IZ sq,IZ ln,D da nd dc,D sa t sc,.bool up,IZ aM] 136)=bq at *;have aa:=Zh dn;have ay:Hid (ς (fun b=>b<w.heap.size\/b=w.heap.size+1) bq (fun m=>True)):=fun _ _=>trivial;have Y:=c9;clear dn c9;obtain⟨⟨c0,c1,c2,P,Q,f,R,S⟩,U,M⟩:=ϳ aa.o;have ar:=M;go_wp2_with fail
 refine(cK.o _ Y).mono ?_;rintro e b1 ⟨cw,rfl,ao,B⟩;obtain⟨I,F,rfl⟩:=Θ ao;have am:=θ aa.o B;obtain⟨⟨c0,c1,c2,P,Q,f,R,S⟩,U,M⟩:=ϳ am;go_upto_region 3 with (fail)
 have aO:(ŝ b1 ⟨w.heap.size+1,0,O⟩ (D I nb F)).heap[w.heap.size+1]?=J (C #[D I nb F,D wa nw wc,IZ sq,IZ ln,D da nd dc,D sa t sc,.bool up,IZ aM] 136 (0,0)):=π _ _ 0 _ _ _ am;have aT:=il ao (a:=⟨w.heap.size+1,0,O⟩) ar (D I nb F);have aP:=(B.mono (mc ar)).setCell (p:=⟨w.heap.size+1,0,O⟩) NZ (D I nb F);have cr:bq.heap.size<=(ŝ b1 ⟨w.heap.size+1,0,O⟩ (D I nb F)).heap.size:=by have:=B.size;simpa using this
 have aQ:∀ b,b<bq.heap.size->b≠w.heap.size+1->(ŝ b1 ⟨w.heap.size+1,0,O⟩ (D I nb F)).heap[b]?=bq.heap[b]?:=fun b n o=>by rw[ψ _ _ _ _ o];exact B.block b n
 clear am ao B;generalize(ŝ b1 ⟨w.heap.size+1,0,O⟩ (D I nb F))=aH at *;have N:=Zh aO;have ah:=Zh aT;have aE:=Zh aQ;have aj:=Y.trans (aP.mono (ϊ:w.heap.size<=w.heap.size+1));clear aO aT aQ c0 c1 c2 P Q f R S U;obtain⟨⟨c0,c1,c2,P,Q,f,R,S⟩,U,M⟩:=ϳ N.o;go_wp2;go_loopw [30] (fun i wr=>∃ (c:Nat) (r:List ε),c<=nb/\i=IZ (c:Int)/\Hid (wr.ownsRow bq.heap.size 31 1 (D I nb F) nb r)/\Hid (∀ d,c*1<=d->r[d]?=cy[d]?)/\Hid (Hi aH.heap.size wr (lj bl r c))/\Hid (∀ b,b<aH.heap.size->(∀ g,(Value.slice I nb F).ownBlock=J g->b≠g)->wr.heap[b]?=aH.heap[b]?)/\Below bq.heap.size aH wr/\aH.heap.size<=wr.heap.size) (fun i _=>nb - (intOf i).toNat)
 case atStart=>exact⟨0,_,Ι _,rfl,ah.o,fun _ _=>rfl,(fun m _ i hi h=>ϊ),fun _ _ _=>rfl,φ _ _,NZ⟩
 case round =>
  obtain⟨aq,bo⟩:∃ x:β,x=wr:=⟨wr,rfl⟩;subst bo;obtain⟨c,r,cn,rfl,j,ab,ag,z,T,bt⟩:=hrel;have aY:BQ w aq:=aj.trans (T.mono ϊ);by_cases co:c<nb
  .skip
   have aR:c<L bl:=by have:=bx.o;omega
   obtain⟨av,aw,aA,a8⟩:=cQ.o c aR;obtain⟨l,cb,aS⟩:=kz j.o ϊ;simp only[Ξ,Ϯ]at aS;obtain⟨rfl,rfl⟩:=aS;have bk:=Ν j.o l rfl;have cj:=(kk j.o).1;have a5:=(z.o (w.heap.size+1) ϊ (fun g hg=>by have:=(Ν j.o g hg).1;omega)).trans N.o;obtain⟨⟨b5,bK,cD,cE,b6,cF,cG,cH⟩,cl,cI⟩:=ϳ a5;have bp:(c:Int)<(nb:Int):=ϊ;have cs:(0:Int)<=(c:Int):=ϊ;obtain⟨aC,bD,-,ce⟩:=hG j.o c ϊ;rw[ab.o c ϊ,aA]at aC;have bu:=Zh (qj (D av (L bl[c]) aw) (L bl[c]) (η bl[c]) aq.drew (a8.below aY.drew) (mp _) (by have:=dP.o c aR;omega));generalize a7:L bl[c]=s at *;have bv:=Zh a7;clear a8 a7 aA;go_wp2_with fail
   have u:BQ aq aq.drew:=RZ.drew;refine ϸ (fun E=>BQ aq E) 8 ϋ ?_;refine Zf 0 u ?_;refine Zf 1 u ?_;refine Zf 2 u ?_;refine Zb 3 [7,8] u ?_ (hy:=by intro E ae;have bh:=ζ ae b5;go_simp;try with_reducible rfl);refine Zf 4 u ?_;refine Zf 5 u ?_;refine Ψ (fuel:=2) 6 ϋ rfl ?_;intro K a6;go_simp;refine bu.o.mono ?_;rintro e v ⟨cx,rfl,al,ak⟩;obtain⟨k,f,rfl⟩:=Θ al;have y:BQ aq v:=u.trans ak;refine a6 _ _ y ?_;clear a6 K;try simp only[Act.put]
   refine Zf 7 y ?_;have ai:=Zh (Υ j.o y);obtain⟨a4,bE,-,cY⟩:=hG ai.o c ϊ;obtain⟨ej,bI⟩:∃ bJ,r[c]?=J bJ:=⟨_,Ρ (by have:=ai.o.1;omega)⟩;rw[bI]at a4;refine Zl ?_;refine Zd ?_;have bd:=Zh (lW ai.o c ϊ (D k s f));have be:Hid (∀ d,(c+1)*1<=d->(r.set c (D k s f))[d]?=cy[d]?):=fun d cm=>by rw[fW ϊ];exact ab.o d ϊ
   have a9:Hid (Hi aH.heap.size (ŝ v ⟨l,c,O⟩ (D k s f)) (lj bl (r.set c (D k s f)) (c+1))):=by
    have ad:=(ag.o.below y).and ((Hi.own al).mono (show aH.heap.size<=aq.drew.heap.size from bt));have bH:l<aH.heap.size:=(Ν ah.o l rfl).2;refine(ad.set (p:=⟨l,c,O⟩) bH (D k s f)).imp fun m ⟨n,o⟩ i hi bV=>?_;by_cases aZ:i=c
    .subst aZ
     refine⟨D k s f,by rw[lI (by have:=ai.o.1;omega)],?_⟩;rw[bv.o];exact o
    .obtain⟨bg,ap,W⟩:=n i hi ϊ
     exact⟨bg,by rw[fW ϊ];exact ap,W⟩
   have bb:Hid (∀ b,b<aH.heap.size->(∀ g,(Value.slice (J ⟨l,0,O⟩) nb F).ownBlock=J g->b≠g)->(ŝ v ⟨l,c,O⟩ (D k s f)).heap[b]?=aH.heap[b]?):=fun b ap W=>by
    rw[ψ _ _ _ _ (W l rfl),y.block b ϊ];exact z.o b ap W
   have bj:=(T.trans (y.mono ϊ)).setCell (p:=⟨l,c,O⟩) bk.1 (D k s f);have bn:aH.heap.size<=(ŝ v ⟨l,c,O⟩ (D k s f)).heap.size:=by
    have:=y.size;simp only[nf];omega
   clear al ak bI a4 bE;go_wp2_with fail
   go_roundw;case rel=>exact⟨c+1,_,ϊ,ϕ,bd.o,be.o,a9.o,bb.o,bj,bn⟩
   case measure=>simp[intOf];omega
  .skip
   have bp:¬(c:Int)<(nb:Int):=ϊ;obtain rfl:nb=c:=ϊ;have V:=Ν j.o;have aF:=Zh ((z.o (w.heap.size+1) ϊ (fun g hg=>by have:=(V g hg).1;omega)).trans N.o);have aG:Hid (ς (fun b=>b<w.heap.size\/b=w.heap.size+1) aq (fun m=>(True)/\Δ m (D I nb F) bl)):=by
    have ad:ς (fun b=>b<w.heap.size\/b=w.heap.size+1) aq (fun m=>True):=ay.o.step ϊ (fun b n o=>(z.o b ϊ (fun g hg=>by have:=(V g hg).1;omega)).trans (aE.o b n (fun e=>o (.inr e)))) (fun b _ g=>g);refine(ad.and ((ag.o.off (fun b _ g=>by rcases g with g|g<;>omega)).and (ς.own j.o (H:=(fun b=>b<w.heap.size\/b=w.heap.size+1)) (fun g hg e=>by have:=(V g hg).1;rcases e with e|e<;>omega)))).imp fun m ⟨n,o,aW⟩=>⟨n,?_⟩;exact⟨r,by rw[bx.o];exact aW,fun i hi=>o i hi (by have:=bx.o;omega)⟩
   have aN:=aj.trans (T.mono ϊ);have cg:w.heap.size+1<aq.heap.size:=ϊ;clear j ag z N ah aE aa ay Y aj T V M ar c0 c1 c2 P Q f R S U aP;have aa:=aF;have ay:=aG;have Y:=aN;clear aF aG aN;obtain⟨⟨c0,c1,c2,P,Q,f,R,S⟩,U,M⟩:=ϳ aa.o;have ar:=M;go_wp2_with fail
   refine(cN.o _ Y).mono ?_;rintro e b4 ⟨cw,rfl,ao,B⟩;obtain⟨ac,X,rfl⟩:=Θ ao;have am:=θ aa.o B;obtain⟨⟨c0,c1,c2,P,Q,f,R,S⟩,U,M⟩:=ϳ am;go_upto_region 9 with (fail)
   have aO:(ŝ b4 ⟨w.heap.size+1,1,O⟩ (D ac nw X)).heap[w.heap.size+1]?=J (C #[D I nb F,D ac nw X,IZ sq,IZ ln,D da nd dc,D sa t sc,.bool up,IZ aM] 136 (0,0)):=π _ _ 1 _ _ _ am;have aT:=il ao (a:=⟨w.heap.size+1,1,O⟩) ar (D ac nw X);have aP:=(B.mono (mc ar)).setCell (p:=⟨w.heap.size+1,1,O⟩) NZ (D ac nw X);have cr:aq.heap.size<=(ŝ b4 ⟨w.heap.size+1,1,O⟩ (D ac nw X)).heap.size:=by have:=B.size;simpa using this
   have aQ:∀ b,b<aq.heap.size->b≠w.heap.size+1->(ŝ b4 ⟨w.heap.size+1,1,O⟩ (D ac nw X)).heap[b]?=aq.heap[b]?:=fun b n o=>by rw[ψ _ _ _ _ o];exact B.block b n
   clear am ao B;generalize(ŝ b4 ⟨w.heap.size+1,1,O⟩ (D ac nw X))=aJ at *;have N:=Zh aO;have ah:=Zh aT;have aE:=Zh aQ;have aj:=Y.trans (aP.mono (ϊ:w.heap.size<=w.heap.size+1));clear aO aT aQ c0 c1 c2 P Q f R S U;obtain⟨⟨c0,c1,c2,P,Q,f,R,S⟩,U,M⟩:=ϳ N.o;go_wp2;go_loopw [57] (fun i wr=>∃ (c:Nat) (r:List ε),c<=nw/\i=IZ (c:Int)/\Hid (wr.ownsRow aq.heap.size 84 2 (D ac nw X) nw r)/\Hid (∀ d,c*2<=d->r[d]?=cB[d]?)/\Hid (Hi aJ.heap.size wr (uF ws r c))/\Hid (∀ b,b<aJ.heap.size->(∀ g,(Value.slice ac nw X).ownBlock=J g->b≠g)->wr.heap[b]?=aJ.heap[b]?)/\Below aq.heap.size aJ wr/\aJ.heap.size<=wr.heap.size) (fun i _=>nw - (intOf i).toNat)
   case atStart=>exact⟨0,_,Ι _,rfl,ah.o,fun _ _=>rfl,(fun m _ i hi h=>ϊ),fun _ _ _=>rfl,φ _ _,NZ⟩
   case round =>
    obtain⟨ax,bo⟩:∃ x:β,x=wr:=⟨wr,rfl⟩;subst bo;obtain⟨c,r,cn,rfl,j,ab,ag,z,T,bt⟩:=hrel;have aY:BQ w ax:=aj.trans (T.mono ϊ);by_cases co:c<nw
    .skip
     have aR:c<L ws:=by have:=bB.o;omega
     obtain⟨av,aw,aA,bs,a8⟩:=cT.o c aR;obtain⟨l,cb,aS⟩:=kz j.o ϊ;simp only[Ξ,Ϯ]at aS;obtain⟨rfl,rfl⟩:=aS;have bk:=Ν j.o l rfl;have cj:=(kk j.o).1;have a5:=(z.o (w.heap.size+1) ϊ (fun g hg=>by have:=(Ν j.o g hg).1;omega)).trans N.o;have bp:(c:Int)<(nw:Int):=ϊ;have cs:(0:Int)<=(c:Int):=ϊ;obtain⟨bC,dZ,-,ce⟩:=hG j.o (c*2) ϊ;obtain⟨aC,bD,-,-⟩:=hG j.o (c*2+1) ϊ;rw[ab.o (c*2) ϊ,aA]at bC;rw[ab.o (c*2+1) ϊ,bs]at aC;have bO:=Zh aA;generalize c6:ws[c].1=bP at *;have dB:=Zh c6;have az:BQ ax (å ax (C #[IZ (bP:Int),D av (L ws[c].2) aw] 84)):=ġ;have cq:=χ ax (C #[IZ (bP:Int),D av (L ws[c].2) aw] 84);have et:=j.o.1;have bu:=Zh (qj (D av (L ws[c].2) aw) (L ws[c].2) (η ws[c].2) (å ax (C #[IZ (bP:Int),D av (L ws[c].2) aw] 84)).drew (a8.below (aY.alloc aY.size _).drew) (mp _) (by have:=dR.o c aR;omega));generalize a7:L ws[c].2=s at *;have bv:=Zh a7;clear a8 a7 aA bs c6;go_upto_region 12 with (fail)
     generalize å ax (C #[IZ (bP:Int),D av s aw] 84)=a3 at *;have d1:=θ a5 az;obtain⟨⟨b5,bK,cD,cE,b6,cF,cG,cH⟩,cl,cI⟩:=ϳ d1;obtain⟨⟨dt,b0⟩,-,er⟩:=ι cq;have dW:=Zh (Υ j.o az);have u:BQ a3 a3.drew:=RZ.drew;refine ϸ (fun E=>BQ a3 E) 10 ϋ ?_;refine Zf 0 u ?_;refine Zf 1 u ?_;refine Zf 2 u ?_;refine Zb 3 [8,9,10] u ?_ (hy:=by intro E ae;have bh:=ζ ae bK;have bQ:=ζ ae b0;go_simp;try with_reducible rfl);refine Zf 4 u ?_;refine Zf 5 u ?_;refine Zb 6 [7,10] u ?_ (hy:=by intro E ae;have bh:=ζ ae bK;have bQ:=ζ ae b0;go_simp;try with_reducible rfl);refine Ψ (fuel:=3) 7 ϋ rfl ?_;intro K a6;go_simp;refine bu.o.mono ?_;rintro e v ⟨cx,rfl,al,ak⟩;obtain⟨k,f,rfl⟩:=Θ al;have y:BQ a3 v:=u.trans ak;refine a6 _ _ y ?_;clear a6 K;try simp only[Act.put]
     refine Zf 8 y ?_;refine Zf 9 y ?_;have ai:=Zh (Υ dW.o y);obtain⟨a4,bE,-,cY⟩:=hG ai.o (c*2+1) ϊ;rw[Ρ (by have:=ai.o.1;omega)]at a4;refine Zl ?_;refine Zd ?_;have bW:=az.size;have bd:=Zh (lW ai.o (c*2+1) ϊ (D k s f));have be:Hid (∀ d,(c+1)*2<=d->(r.set (c*2+1) (D k s f))[d]?=cB[d]?):=fun d cm=>by rw[fW ϊ];exact ab.o d ϊ
     have a9:Hid (Hi aJ.heap.size (ŝ v ⟨l,c*2+1,O⟩ (D k s f)) (uF ws (r.set (c*2+1) (D k s f)) (c+1))):=by
      have ad:=((ag.o.below az).below y).and ((Hi.own al).mono (show aJ.heap.size<=a3.drew.heap.size from gh bt bW));have bH:l<aJ.heap.size:=(Ν ah.o l rfl).2;refine(ad.set (p:=⟨l,c*2+1,O⟩) bH (D k s f)).imp fun m ⟨n,o⟩ i hi bV=>?_;by_cases aZ:i=c
      .subst aZ
       refine⟨?_,D k s f,by rw[lI (by have:=ai.o.1;omega)],?_⟩
       .rw[fW ϊ,ab.o (i*2) ϊ,dB.o];exact bO.o
       .rw[bv.o];exact o
      .obtain⟨cv,bg,ap,W⟩:=n i hi ϊ
       exact⟨by rw[fW ϊ];exact cv,bg,by rw[fW ϊ];exact ap,W⟩
     have bb:Hid (∀ b,b<aJ.heap.size->(∀ g,(Value.slice (J ⟨l,0,O⟩) nw X).ownBlock=J g->b≠g)->(ŝ v ⟨l,c*2+1,O⟩ (D k s f)).heap[b]?=aJ.heap[b]?):=fun b ap W=>by
      rw[ψ _ _ _ _ (W l rfl),y.block b ϊ,az.block b ϊ];exact z.o b ap W
     have bj:=(T.trans ((az.trans (y.mono bW)).mono ϊ)).setCell (p:=⟨l,c*2+1,O⟩) bk.1 (D k s f);have bn:aJ.heap.size<=(ŝ v ⟨l,c*2+1,O⟩ (D k s f)).heap.size:=by
      have:=y.size;simp only[nf];omega
     clear al ak a4 bE;go_wp2_with fail
     go_roundw;case rel=>exact⟨c+1,_,ϊ,ϕ,bd.o,be.o,a9.o,bb.o,bj,bn⟩
     case measure=>simp[intOf];omega
    .skip
     have bp:¬(c:Int)<(nw:Int):=ϊ;obtain rfl:nw=c:=ϊ;have V:=Ν j.o;have aF:=Zh ((z.o (w.heap.size+1) ϊ (fun g hg=>by have:=(V g hg).1;omega)).trans N.o);have aG:Hid (ς (fun b=>b<w.heap.size\/b=w.heap.size+1) ax (fun m=>((True)/\Δ m (D I nb F) bl)/\hL m (D ac nw X) ws)):=by
      have ad:ς (fun b=>b<w.heap.size\/b=w.heap.size+1) ax (fun m=>(True)/\Δ m (D I nb F) bl):=ay.o.step ϊ (fun b n o=>(z.o b ϊ (fun g hg=>by have:=(V g hg).1;omega)).trans (aE.o b n (fun e=>o (.inr e)))) (fun b _ g=>g);refine(ad.and ((ag.o.off (fun b _ g=>by rcases g with g|g<;>omega)).and (ς.own j.o (H:=(fun b=>b<w.heap.size\/b=w.heap.size+1)) (fun g hg e=>by have:=(V g hg).1;rcases e with e|e<;>omega)))).imp fun m ⟨n,o,aW⟩=>⟨n,?_⟩;exact⟨r,by rw[bB.o];exact aW,fun i hi=>o i hi (by have:=bB.o;omega)⟩
     have aN:=aj.trans (T.mono ϊ);have cg:w.heap.size+1<ax.heap.size:=ϊ;clear j ag z N ah aE aa ay Y aj T V M ar c0 c1 c2 P Q f R S U aP;have aa:=aF;have ay:=aG;have Y:=aN;clear aF aG aN;obtain⟨⟨c0,c1,c2,P,Q,f,R,S⟩,U,M⟩:=ϳ aa.o;have ar:=M;go_wp2_with fail
     refine(cL.o _ Y).mono ?_;rintro e b2 ⟨cw,rfl,ao,B⟩;obtain⟨au,an,rfl⟩:=Θ ao;have am:=θ aa.o B;obtain⟨⟨c0,c1,c2,P,Q,f,R,S⟩,U,M⟩:=ϳ am;go_upto_region 15 with (fail)
     have aO:(ŝ b2 ⟨w.heap.size+1,4,O⟩ (D au nd an)).heap[w.heap.size+1]?=J (C #[D I nb F,D ac nw X,IZ sq,IZ ln,D au nd an,D sa t sc,.bool up,IZ aM] 136 (0,0)):=π _ _ 4 _ _ _ am;have aT:=il ao (a:=⟨w.heap.size+1,4,O⟩) ar (D au nd an);have aP:=(B.mono (mc ar)).setCell (p:=⟨w.heap.size+1,4,O⟩) NZ (D au nd an);have cr:ax.heap.size<=(ŝ b2 ⟨w.heap.size+1,4,O⟩ (D au nd an)).heap.size:=by have:=B.size;simpa using this
     have aQ:∀ b,b<ax.heap.size->b≠w.heap.size+1->(ŝ b2 ⟨w.heap.size+1,4,O⟩ (D au nd an)).heap[b]?=ax.heap[b]?:=fun b n o=>by rw[ψ _ _ _ _ o];exact B.block b n
     clear am ao B;generalize(ŝ b2 ⟨w.heap.size+1,4,O⟩ (D au nd an))=aI at *;have N:=Zh aO;have ah:=Zh aT;have aE:=Zh aQ;have aj:=Y.trans (aP.mono (ϊ:w.heap.size<=w.heap.size+1));clear aO aT aQ c0 c1 c2 P Q f R S U;obtain⟨⟨c0,c1,c2,P,Q,f,R,S⟩,U,M⟩:=ϳ N.o;go_wp2;go_loopw [89] (fun i wr=>∃ (c:Nat) (r:List ε),c<=nd/\i=IZ (c:Int)/\Hid (wr.ownsRow ax.heap.size 31 1 (D au nd an) nd r)/\Hid (∀ d,c*1<=d->r[d]?=cz[d]?)/\Hid (Hi aI.heap.size wr (lj docs r c))/\Hid (∀ b,b<aI.heap.size->(∀ g,(Value.slice au nd an).ownBlock=J g->b≠g)->wr.heap[b]?=aI.heap[b]?)/\Below ax.heap.size aI wr/\aI.heap.size<=wr.heap.size) (fun i _=>nd - (intOf i).toNat)
     case atStart=>exact⟨0,_,Ι _,rfl,ah.o,fun _ _=>rfl,(fun m _ i hi h=>ϊ),fun _ _ _=>rfl,φ _ _,NZ⟩
     case round =>
      obtain⟨af,bo⟩:∃ x:β,x=wr:=⟨wr,rfl⟩;subst bo;obtain⟨c,r,cn,rfl,j,ab,ag,z,T,bt⟩:=hrel;have aY:BQ w af:=aj.trans (T.mono ϊ);by_cases co:c<nd
      .skip
       have aR:c<L docs:=by have:=bz.o;omega
       obtain⟨av,aw,aA,a8⟩:=cR.o c aR;obtain⟨l,cb,aS⟩:=kz j.o ϊ;simp only[Ξ,Ϯ]at aS;obtain⟨rfl,rfl⟩:=aS;have bk:=Ν j.o l rfl;have cj:=(kk j.o).1;have a5:=(z.o (w.heap.size+1) ϊ (fun g hg=>by have:=(Ν j.o g hg).1;omega)).trans N.o;obtain⟨⟨b5,bK,cD,cE,b6,cF,cG,cH⟩,cl,cI⟩:=ϳ a5;have bp:(c:Int)<(nd:Int):=ϊ;have cs:(0:Int)<=(c:Int):=ϊ;obtain⟨aC,bD,-,ce⟩:=hG j.o c ϊ;rw[ab.o c ϊ,aA]at aC;have bu:=Zh (qj (D av (L docs[c]) aw) (L docs[c]) (η docs[c]) af.drew (a8.below aY.drew) (mp _) (by have:=dQ.o c aR;omega));generalize a7:L docs[c]=s at *;have bv:=Zh a7;clear a8 a7 aA;go_wp2_with fail
       have u:BQ af af.drew:=RZ.drew;refine ϸ (fun E=>BQ af E) 9 ϋ ?_;refine Zf 0 u ?_;refine Zf 1 u ?_;refine Zf 2 u ?_;refine Zf 3 u ?_;refine Zb 4 [8,9] u ?_ (hy:=by intro E ae;have bh:=ζ ae b6;go_simp;try with_reducible rfl);refine Zf 5 u ?_;refine Zf 6 u ?_;refine Ψ (fuel:=2) 7 ϋ rfl ?_;intro K a6;go_simp;refine bu.o.mono ?_;rintro e v ⟨cx,rfl,al,ak⟩;obtain⟨k,f,rfl⟩:=Θ al;have y:BQ af v:=u.trans ak;refine a6 _ _ y ?_;clear a6 K;try simp only[Act.put]
       refine Zf 8 y ?_;have ai:=Zh (Υ j.o y);obtain⟨a4,bE,-,cY⟩:=hG ai.o c ϊ;obtain⟨ej,bI⟩:∃ bJ,r[c]?=J bJ:=⟨_,Ρ (by have:=ai.o.1;omega)⟩;rw[bI]at a4;refine Zl ?_;refine Zd ?_;have bd:=Zh (lW ai.o c ϊ (D k s f));have be:Hid (∀ d,(c+1)*1<=d->(r.set c (D k s f))[d]?=cz[d]?):=fun d cm=>by rw[fW ϊ];exact ab.o d ϊ
       have a9:Hid (Hi aI.heap.size (ŝ v ⟨l,c,O⟩ (D k s f)) (lj docs (r.set c (D k s f)) (c+1))):=by
        have ad:=(ag.o.below y).and ((Hi.own al).mono (show aI.heap.size<=af.drew.heap.size from bt));have bH:l<aI.heap.size:=(Ν ah.o l rfl).2;refine(ad.set (p:=⟨l,c,O⟩) bH (D k s f)).imp fun m ⟨n,o⟩ i hi bV=>?_;by_cases aZ:i=c
        .subst aZ
         refine⟨D k s f,by rw[lI (by have:=ai.o.1;omega)],?_⟩;rw[bv.o];exact o
        .obtain⟨bg,ap,W⟩:=n i hi ϊ
         exact⟨bg,by rw[fW ϊ];exact ap,W⟩
       have bb:Hid (∀ b,b<aI.heap.size->(∀ g,(Value.slice (J ⟨l,0,O⟩) nd an).ownBlock=J g->b≠g)->(ŝ v ⟨l,c,O⟩ (D k s f)).heap[b]?=aI.heap[b]?):=fun b ap W=>by
        rw[ψ _ _ _ _ (W l rfl),y.block b ϊ];exact z.o b ap W
       have bj:=(T.trans (y.mono ϊ)).setCell (p:=⟨l,c,O⟩) bk.1 (D k s f);have bn:aI.heap.size<=(ŝ v ⟨l,c,O⟩ (D k s f)).heap.size:=by
        have:=y.size;simp only[nf];omega
       clear al ak bI a4 bE;go_wp2_with fail
       go_roundw;case rel=>exact⟨c+1,_,ϊ,ϕ,bd.o,be.o,a9.o,bb.o,bj,bn⟩
       case measure=>simp[intOf];omega
      .skip
       have bp:¬(c:Int)<(nd:Int):=ϊ;obtain rfl:nd=c:=ϊ;have V:=Ν j.o;have aF:=Zh ((z.o (w.heap.size+1) ϊ (fun g hg=>by have:=(V g hg).1;omega)).trans N.o);have aG:Hid (ς (fun b=>b<w.heap.size\/b=w.heap.size+1) af (fun m=>(((True)/\Δ m (D I nb F) bl)/\hL m (D ac nw X) ws)/\Δ m (D au nd an) docs)):=by
        have ad:ς (fun b=>b<w.heap.size\/b=w.heap.size+1) af (fun m=>((True)/\Δ m (D I nb F) bl)/\hL m (D ac nw X) ws):=ay.o.step ϊ (fun b n o=>(z.o b ϊ (fun g hg=>by have:=(V g hg).1;omega)).trans (aE.o b n (fun e=>o (.inr e)))) (fun b _ g=>g);refine(ad.and ((ag.o.off (fun b _ g=>by rcases g with g|g<;>omega)).and (ς.own j.o (H:=(fun b=>b<w.heap.size\/b=w.heap.size+1)) (fun g hg e=>by have:=(V g hg).1;rcases e with e|e<;>omega)))).imp fun m ⟨n,o,aW⟩=>⟨n,?_⟩;exact⟨r,by rw[bz.o];exact aW,fun i hi=>o i hi (by have:=bz.o;omega)⟩
       have aN:=aj.trans (T.mono ϊ);have cg:w.heap.size+1<af.heap.size:=ϊ;clear j ag z N ah aE aa ay Y aj T V M ar c0 c1 c2 P Q f R S U aP;have aa:=aF;have ay:=aG;have Y:=aN;clear aF aG aN;obtain⟨⟨c0,c1,c2,P,Q,f,R,S⟩,U,M⟩:=ϳ aa.o;have ar:=M;go_wp2_with fail
       refine(cM.o _ Y).mono ?_;rintro e b3 ⟨cw,rfl,ao,B⟩;obtain⟨aK,aD,rfl⟩:=Θ ao;have am:=θ aa.o B;obtain⟨⟨c0,c1,c2,P,Q,f,R,S⟩,U,M⟩:=ϳ am;go_upto_region 21 with (fail)
       have aO:(ŝ b3 ⟨w.heap.size+1,5,O⟩ (D aK t aD)).heap[w.heap.size+1]?=J (C #[D I nb F,D ac nw X,IZ sq,IZ ln,D au nd an,D aK t aD,.bool up,IZ aM] 136 (0,0)):=π _ _ 5 _ _ _ am;have aT:=il ao (a:=⟨w.heap.size+1,5,O⟩) ar (D aK t aD);have aP:=(B.mono (mc ar)).setCell (p:=⟨w.heap.size+1,5,O⟩) NZ (D aK t aD);have cr:af.heap.size<=(ŝ b3 ⟨w.heap.size+1,5,O⟩ (D aK t aD)).heap.size:=by have:=B.size;simpa using this
       have aQ:∀ b,b<af.heap.size->b≠w.heap.size+1->(ŝ b3 ⟨w.heap.size+1,5,O⟩ (D aK t aD)).heap[b]?=af.heap[b]?:=fun b n o=>by rw[ψ _ _ _ _ o];exact B.block b n
       clear am ao B;generalize(ŝ b3 ⟨w.heap.size+1,5,O⟩ (D aK t aD))=aB at *;have N:=Zh aO;have ah:=Zh aT;have aE:=Zh aQ;have aj:=Y.trans (aP.mono (ϊ:w.heap.size<=w.heap.size+1));clear aO aT aQ c0 c1 c2 P Q f R S U;obtain⟨⟨c0,c1,c2,P,Q,f,R,S⟩,U,M⟩:=ϳ N.o;go_wp2;go_loopw [120] (fun i wr=>∃ (c:Nat) (r:List ε),c<=t/\i=IZ (c:Int)/\Hid (wr.ownsRow af.heap.size 92 3 (D aK t aD) t r)/\Hid (∀ d,c*3<=d->r[d]?=cA[d]?)/\Hid (Hi aB.heap.size wr (kv docs ps r c))/\Hid (∀ b,b<aB.heap.size->(∀ g,(Value.slice aK t aD).ownBlock=J g->b≠g)->wr.heap[b]?=aB.heap[b]?)/\Below af.heap.size aB wr/\aB.heap.size<=wr.heap.size) (fun i _=>t - (intOf i).toNat)
       case atStart=>exact⟨0,_,Ι _,rfl,ah.o,fun _ _=>rfl,(fun m _ i hi h=>ϊ),fun _ _ _=>rfl,φ _ _,NZ⟩
       case round =>
        obtain⟨a0,bo⟩:∃ x:β,x=wr:=⟨wr,rfl⟩;subst bo;obtain⟨c,r,cn,rfl,j,ab,ag,z,T,bt⟩:=hrel;have aY:BQ w a0:=aj.trans (T.mono ϊ);by_cases co:c<t
        .skip
         have aR:c<L ps:=by have:=bA.o;omega
         obtain⟨av,aw,aA,bs,db,ck⟩:=cS.o c aR;obtain⟨l,cb,aS⟩:=kz j.o ϊ;simp only[Ξ,Ϯ]at aS;obtain⟨rfl,rfl⟩:=aS;have bk:=Ν j.o l rfl;have cj:=(kk j.o).1;have a5:=(z.o (w.heap.size+1) ϊ (fun g hg=>by have:=(Ν j.o g hg).1;omega)).trans N.o;have bp:(c:Int)<(t:Int):=ϊ;have cs:(0:Int)<=(c:Int):=ϊ;obtain⟨bC,dZ,-,ce⟩:=hG j.o (c*3) ϊ;obtain⟨cd,ew,-,-⟩:=hG j.o (c*3+1) ϊ;obtain⟨aC,bD,-,-⟩:=hG j.o (c*3+2) ϊ;rw[ab.o (c*3) ϊ,aA]at bC;rw[ab.o (c*3+1) ϊ,bs]at cd;rw[ab.o (c*3+2) ϊ,db]at aC;have bO:=Zh aA;have cX:=Zh bs;have cV:=Zh (cU.o c aR);have d8:=ck;generalize c5:ps[c]=dy at *;have b9:=Zh c5;generalize cZ:Α docs dy=aL at *;have dE:=Zh cZ;generalize c4:L aL=ln at *;have bw:=Zh c4;obtain⟨ct,cu⟩:=dy;simp only at bC cd bO cX;obtain⟨cc,dg,dl,dF⟩:=BB bw.o ck;have bi:BQ a0 (å a0 (C #[IZ (ct:Int),IZ (cu:Int),D av ln aw] 92)):=ġ;have dm:=χ a0 (C #[IZ (ct:Int),IZ (cu:Int),D av ln aw] 92);have eD:ln<=2000000:=cV.o.1;clear ck d8 aA bs db c5 cZ c4;go_upto_region 24 with (fail)
         generalize å a0 (C #[IZ (ct:Int),IZ (cu:Int),D av ln aw] 92)=a2 at *;have ch:=aY.trans (bi.mono aY.size);have b7:=Zh (θ a5 bi);have cW:=Zh (Υ j.o bi);have dC:=Zh (xT (D av ln aw) ln cc a2 (dg.below ch) dl ϊ);obtain⟨⟨cv,ap,W⟩,-,eJ⟩:=Β dm;have ed:=bi.size;clear dg dl dm a5 bC cd aC;go_wp2_with fail
         refine dC.o.mono ?_;rintro e v ⟨cx,rfl,al,ak⟩;obtain⟨k,f,rfl⟩:=Θ al;have es:=Zh (θ b7.o ak);have ai:=Zh (Υ cW.o ak);have b8:=Zh al;have ec:=ak.size;have d5:=ch.trans (ak.mono ch.size);have cJ:=Zh ak;clear al ak cv ap W;go_wp2_with fail
         go_loopw [130] (fun i G=>∃ (d:Nat) (bf:List ε),d<=ln/\i=IZ (d:Int)/\Hid (G.ownsRow a2.heap.size 130 2 (D k ln f) ln bf)/\Hid (∀ q,d*2<=q->bf[q]?=cc[q]?)/\Hid (Hi v.heap.size G (ux aL bf d))/\Hid (∀ b,b<v.heap.size->(∀ g,(Value.slice k ln f).ownBlock=J g->b≠g)->G.heap[b]?=v.heap[b]?)/\Below a2.heap.size v G/\v.heap.size<=G.heap.size) (fun i _=>ln - (intOf i).toNat)
         case atStart=>exact⟨0,_,Ι _,rfl,b8.o,fun _ _=>rfl,(fun m _ i hi h=>ϊ),fun _ _ _=>rfl,φ _ _,NZ⟩
         case round =>
          obtain⟨G,ef⟩:∃ x:β,x=wr:=⟨wr,rfl⟩;subst ef;obtain⟨d,bf,eB,rfl,a1,bM,cO,cP,ci,eG⟩:=hrel;have c8:BQ w G:=d5.trans (ci.mono ϊ);by_cases eC:d<ln
          .skip
           have di:d<L aL:=by have:=bw.o;omega
           obtain⟨bY,bZ,bh,bQ,dh⟩:=dF.o d di;obtain⟨aX,ev,dq⟩:=kz a1.o ϊ;simp only[Ξ,Ϯ]at dq;obtain⟨rfl,rfl⟩:=dq;have d6:=Ν a1.o aX rfl;have eu:=(kk a1.o).1;have eg:(d:Int)<(ln:Int):=ϊ;have eH:(0:Int)<=(d:Int):=ϊ;obtain⟨ds,eh,-,-⟩:=hG a1.o (d*2) ϊ;obtain⟨l1,ei,-,-⟩:=hG a1.o (d*2+1) ϊ;rw[bM.o (d*2) ϊ,bh]at ds;rw[bM.o (d*2+1) ϊ,bQ]at l1;have dG:=Zh (show L aL[d].2<=1000 from cV.o.2 _ (Χ di));have dH:=Zh bh;have dN:=Zh dh;have dM:=Zh (show L aL[d].2=L aL[d].2 from rfl);generalize cf:ϴ aL[d].1=em at *;have eb:∃ dX,em=š dX:=⟨_,cf.symm⟩;obtain⟨ca,rfl⟩:=eb;have dI:=Zh cf;generalize c3:L aL[d].2=el at *;have dO:=Zh c3;have az:BQ G (å G (C #[š ca,D bY el bZ] 130)):=ġ;have cq:=χ G (C #[š ca,D bY el bZ] 130);clear cf c3 dM bh bQ dh;go_upto_region 28 with (fail)
           generalize å G (C #[š ca,D bY el bZ] 130)=a3 at *;have d3:=c8.trans (az.mono c8.size);have dU:=Zh (Υ a1.o az);have dD:=Zh (uQ (D bY el bZ) el (τ aL[d].2) a3 (dN.o.below d3) (tq _) (by have:=dG.o;omega));obtain⟨⟨dt,b0⟩,-,er⟩:=ι cq;have bW:=az.size;clear ds l1 eh ei;go_wp2_with fail
           refine dD.o.mono ?_;rintro e cC ⟨eI,rfl,cp,br⟩;obtain⟨aU,aV,rfl⟩:=Θ cp;have bL:=Zh (Υ dU.o br);obtain⟨aC,bD,-,ex⟩:=hG bL.o (d*2+1) ϊ;rw[Ρ (by have:=bL.o.1;omega)]at aC;have eF:=br.size;have dT:=Zh (lW bL.o (d*2+1) ϊ (D aU el aV));have dV:Hid (∀ q,(d+1)*2<=q->(bf.set (d*2+1) (D aU el aV))[q]?=cc[q]?):=fun q eE=>by rw[fW ϊ];exact bM.o q ϊ
           have dJ:Hid (Hi v.heap.size (ŝ cC ⟨aX,d*2+1,O⟩ (D aU el aV)) (ux aL (bf.set (d*2+1) (D aU el aV)) (d+1))):=by
            have ad:=((cO.o.below az).below br).and ((Hi.own cp).mono (ϊ:v.heap.size<=a3.heap.size));refine(ad.set (p:=⟨aX,d*2+1,O⟩) (Ν b8.o aX rfl).2 (D aU el aV)).imp fun m ⟨n,o⟩ i hi bV=>?_;by_cases aZ:i=d
            .subst aZ
             refine⟨?_,D aU el aV,by rw[lI (by have:=bL.o.1;omega)],?_⟩
             .rw[fW ϊ,bM.o (i*2) ϊ,dI.o];exact dH.o
             .rw[dO.o];exact o
            .obtain⟨ek,bg,p1,p2⟩:=n i hi ϊ
             exact⟨by rw[fW ϊ];exact ek,bg,by rw[fW ϊ];exact p1,p2⟩
           have dK:Hid (∀ b,b<v.heap.size->(∀ g,(Value.slice (J ⟨aX,0,O⟩) ln f).ownBlock=J g->b≠g)->(ŝ cC ⟨aX,d*2+1,O⟩ (D aU el aV)).heap[b]?=v.heap[b]?):=fun b p1 p2=>by
            rw[ψ _ _ _ _ (p2 aX rfl),br.block b ϊ,az.block b ϊ];exact cP.o b p1 p2
           have d4:=(ci.trans ((az.trans (br.mono bW)).mono (ϊ:a2.heap.size<=G.heap.size))).setCell (p:=⟨aX,d*2+1,O⟩) d6.1 (D aU el aV);have ee:v.heap.size<=(ŝ cC ⟨aX,d*2+1,O⟩ (D aU el aV)).heap.size:=by simp only[nf];omega
           clear cp br dt b0;go_wp2_with fail
           go_roundw;case rel=>exact⟨d+1,_,ϊ,ϕ,dT.o,dV.o,dJ.o,dK.o,d4,ee⟩
           case measure=>simp[intOf];omega
          .skip
           have eg:¬(d:Int)<(ln:Int):=ϊ;obtain rfl:ln=d:=ϊ;have d7:=Ν a1.o;have eA:=Ν b8.o;have bG:∀ b,b<a2.heap.size->G.heap[b]?=a2.heap[b]?:=fun b n=>by
            rw[cP.o b ϊ (fun g hg=>by have:=(d7 g hg).1;omega)];exact cJ.o.block b n
           have d2:G.heap[w.heap.size+1]?=_:=(bG _ (ο b7.o)).trans b7.o;obtain⟨⟨b5,bK,cD,cE,b6,cF,cG,cH⟩,cl,cI⟩:=ϳ d2;have bN:=Zh (jT cW.o (w':=G) (fun g hg=>by simp only[Value.ownBlock,Ο]at hg;subst hg;exact bG _ ϊ));obtain⟨aC,bD,-,ey⟩:=hG bN.o (c*3+2) ϊ;rw[Ρ (by have:=bN.o.1;omega)]at aC;have dS:Hid (Hi a2.heap.size G (fun m=>fY m (D k ln f) ln aL)):=by
            refine((Hi.own a1.o).and (cO.o.mono ec)).imp fun m ⟨p1,p2⟩=>⟨bw.o,bf,p1,fun i hi=>p2 i hi (by have:=bw.o;omega)⟩
           have bd:=Zh (lW bN.o (c*3+2) ϊ (D k ln f));have be:Hid (∀ d,(c+1)*3<=d->(r.set (c*3+2) (D k ln f))[d]?=cA[d]?):=fun d cm=>by rw[fW ϊ];exact ab.o d ϊ
           have a9:Hid (Hi aB.heap.size (ŝ G ⟨l,c*3+2,O⟩ (D k ln f)) (kv docs ps (r.set (c*3+2) (D k ln f)) (c+1))):=by
            have d0:Hi aB.heap.size G (kv docs ps r c):=ag.o.step ϊ fun b n o=>(bG b ϊ).trans (bi.block b o);have ad:=d0.and (dS.o.mono (ϊ:aB.heap.size<=a2.heap.size));refine(ad.set (p:=⟨l,c*3+2,O⟩) (Ν ah.o l rfl).2 (D k ln f)).imp fun m ⟨n,o⟩ i hi bV=>?_;have ez:=bN.o.1;by_cases aZ:i=c
            .subst aZ
             refine⟨?_,?_,D k ln f,?_,?_⟩
             .rw[fW ϊ,ab.o (i*3) ϊ,b9.o];exact bO.o
             .rw[fW ϊ,ab.o (i*3+1) ϊ,b9.o];exact cX.o
             .rw[lI ϊ]
             .rw[b9.o,dE.o,bw.o];exact o
            .obtain⟨en,eo,bJ,ep,eq⟩:=n i hi ϊ
             exact⟨by rw[fW ϊ];exact en,by rw[fW ϊ];exact eo,bJ,by rw[fW ϊ];exact ep,eq⟩
           have bb:Hid (∀ b,b<aB.heap.size->(∀ g,(Value.slice (J ⟨l,0,O⟩) t aD).ownBlock=J g->b≠g)->(ŝ G ⟨l,c*3+2,O⟩ (D k ln f)).heap[b]?=aB.heap[b]?):=fun b ap W=>by
            rw[ψ _ _ _ _ (W l rfl),bG b ϊ,bi.block b ϊ];exact z.o b ap W
           have bj:Below af.heap.size aB (ŝ G ⟨l,c*3+2,O⟩ (D k ln f)):=((T.trans (((bi.trans (cJ.o.mono ed)).trans (ci.mono ϊ)).mono ϊ))).setCell (p:=⟨l,c*3+2,O⟩) bk.1 (D k ln f);have bn:aB.heap.size<=(ŝ G ⟨l,c*3+2,O⟩ (D k ln f)).heap.size:=by simp only[nf];omega
           clear bG;go_wp2_with fail
           go_roundw;case rel=>exact⟨c+1,_,ϊ,ϕ,bd.o,be.o,a9.o,bb.o,bj,bn⟩
           case measure=>simp[intOf];omega
        .skip
         have bp:¬(c:Int)<(t:Int):=ϊ;obtain rfl:t=c:=ϊ;have V:=Ν j.o;have aF:=Zh ((z.o (w.heap.size+1) ϊ (fun g hg=>by have:=(V g hg).1;omega)).trans N.o);have aG:Hid (ς (fun b=>b<w.heap.size\/b=w.heap.size+1) a0 (fun m=>((((True)/\Δ m (D I nb F) bl)/\hL m (D ac nw X) ws)/\Δ m (D au nd an) docs)/\ϧ docs m (D aK t aD) ps)):=by
          have ad:ς (fun b=>b<w.heap.size\/b=w.heap.size+1) a0 (fun m=>(((True)/\Δ m (D I nb F) bl)/\hL m (D ac nw X) ws)/\Δ m (D au nd an) docs):=ay.o.step ϊ (fun b n o=>(z.o b ϊ (fun g hg=>by have:=(V g hg).1;omega)).trans (aE.o b n (fun e=>o (.inr e)))) (fun b _ g=>g);refine(ad.and ((ag.o.off (fun b _ g=>by rcases g with g|g<;>omega)).and (ς.own j.o (H:=(fun b=>b<w.heap.size\/b=w.heap.size+1)) (fun g hg e=>by have:=(V g hg).1;rcases e with e|e<;>omega)))).imp fun m ⟨n,o,aW⟩=>⟨n,?_⟩;exact⟨r,by rw[bA.o];exact aW,fun i hi=>o i hi (by have:=bA.o;omega)⟩
         have aN:=aj.trans (T.mono ϊ);have cg:w.heap.size+1<a0.heap.size:=ϊ;clear j ag z N ah aE aa ay Y aj T V M ar c0 c1 c2 P Q f R S U aP;have aa:=aF;have ay:=aG;have Y:=aN;clear aF aG aN;clear cK cN cL cM cQ cT cR cS;have dL:Hid (xd ⟨bl,ws,sq,ln,(docs,ps),up,aM⟩ w (ŗ (þ (J ⟨w.heap.size+1,0,O⟩))) a0):=by
          refine⟨w.heap.size+1,⟨I,F,ac,X,au,an,aK,aD⟩,rfl,?_,ϊ,?_,Y⟩
          .simp only[gi];rw[bx.o,bB.o,bz.o,bA.o];exact aa.o
          .refine ay.o.imp fun m ⟨⟨⟨⟨_,n⟩,o⟩,aW⟩,dY⟩=>⟨?_,?_,?_,?_⟩
           .simp only;rw[bx.o];exact n
           .simp only;rw[bB.o];exact o
           .simp only;rw[bz.o];exact aW
           .simp only;rw[bA.o];exact dY
         go_wp2;go_ret;exact dL.o
theorem CG (p:jL) (a:ϰ) (w:β) (h:ka w p a) (b:qb a):Calls prog 60 #[ā (gi p a)] w (xd a w):=
 Jw _ _ _ _ p.ba p.bc p.wa p.wc p.da p.dc p.sa p.sc a.seq a.len a.fuse a.up a.bl a.ws a.x.1 a.x.2 w rfl rfl rfl rfl h.b h.wt h.d h.s b.dk b.x
