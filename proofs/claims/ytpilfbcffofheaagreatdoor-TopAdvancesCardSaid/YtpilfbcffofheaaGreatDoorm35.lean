/- Part 35 of the proof. -/
import Derived.Test.YtpilfbcffofheaaGreatDoorm30
import Derived.Test.YtpilfbcffofheaaGreatDoorm34
set_option linter.all false
set_option maxRecDepth 100000
set_option maxHeartbeats 16000000
namespace Go.Proofs.YtpilfbcffofheaaGreatDoor
open Go.RowKit Go.Proofs.Tryz Go.Sort
open Value renaming slice->D,agg->ā,string->š
open Option renaming none->O,some->J
open List renaming length->L
open Obj renaming cells->C
open Ending renaming returned->ŗ
open World renaming alloc->å
def HI (N:Nat) (la ln lc acts) (w:β) (bi:ϭ w) (bh:Ϭ w) (a4:3<=N) (de:N<=150) (a7:wi w (D la ln lc) acts) (cc:L acts=ln) (bW:∀ k (dh:k<L acts),-9223372036854775808<=acts[k].N/\acts[k].N<=9223372036854775807)
  (HW:∀ i,BQ w i->Calls prog 5 #[] i (fun e w'=>e=ŗ (.bool true)/\BQ i w')) :
  Calls prog 4 #[G N,D la ln lc] w fun e w'=>e=ŗ (.bool true)/\BQ w w':=by
 have⟨bK,p,aE,aJ,aS⟩:=lM (Gz N w bi bh a4 U) (Ν bi bh) a7 cc HW;have aL:=Zx bW;have cF:ln<=9223372036854775807:=by obtain⟨c7,⟨-,cH,-⟩,-⟩:=a7;unfold maxLen at cH;omega
 have dk:¬(N:Int)<3:=U;have dl:¬(150:Int)<(N:Int):=U;clear bi bh a7 cc HW bW;go_enter func4,ntmps4;go_wp2_with fail
 refine bK.o.M ?_;rintro e cU ⟨g,rfl,b7,cD,ch,b0⟩;have bj:mn (oF N) []:=⟨rfl,rfl,gr.start a4 U,rfl,rfl,ύ,rfl,by show(-9223372036854775808:Int) <= -1;omega,by show(-1:Int)<=9223372036854775807;omega⟩;have bF:ϫ (jv g 0 w cU):=⟨⟨⟨ _,_,ch _ rfl (fun b cA=>.inr cA),⟨by simp[oF];exact a4,zV,bj.dok,.inl ⟨ _,bj,NZ,rfl,NZ⟩⟩⟩,b0,b7⟩⟩;clear ch b0 bK b7 cD bj;go_wp2_with fail
 go_loopw [7] (fun I wr=>∃ k:Nat,I=G k/\k<=40/\ϫ (jv g k w wr)) (fun I _=>40 - (intOf I).toNat)
 .exact⟨0,rfl,U,bF⟩
 clear bF;obtain⟨k,rfl,cE,R⟩:=hrel;rename_i ac;have z:=Zx ac;clear ac;by_cases cG:k<ln/\k<40
 .have ci:(k:Int)<(ln:Int):=U
  have cL:(k:Int)<40:=U;have cJ:(0:Int)<=(k:Int):=U;have cb:k<L acts:=ι aJ.o;obtain⟨b,off,cR,cS,sa,sc,rfl,dm,dn,df,c0,c1,c2,T,x,V,o,W,r6,r7⟩:=HB aE.o aJ.o k cb;have⟨ai,aV,aW,aK⟩:=kX (Ν c0 (Ν c1 (Ν c2 (Ν T (Ν x (Ν V (Ν o W))))))) r6 r7 (aL.o k cb);clear c0 c1 c2 T x V o W r6 r7;generalize acts[k]=cm at *;obtain⟨d1,AK,cq,kd,ei,em,aa,cr⟩:=cm;simp only at ai aV aW aK;obtain⟨c0,c1,c2,T,x,V,o,W⟩:=BO ai.o R.o.b;go_wp2_with fail
  refine(PP _ _ _ _ _ _ _ _ _ _ _ _).M ?_;rintro e y ⟨rfl,ad⟩;have F:=Zx (R.o.B ad);clear c0 c1 c2 T x V o W ad R;by_cases ax:L aa<=2500/\L cr<=300
  .have cC:=kU ax
   have aG:=Zx (HF p.o.1 p.o.2 F.o cE d1 AK cq kd ei em cR _ cS sa _ sc rfl (aV.o.B F.o.b) rfl (aW.o.B F.o.b) aK.o);unfold sy at aG;obtain⟨c0,c1,c2,T,x,V,o,W⟩:=BO ai.o F.o.b;clear ax;go_wp2_with fail
   refine aG.o.M ?_;rintro e cV ⟨c,rfl,a2⟩;clear aG c0 c1 c2 T x V o W F ai aV aW aK;obtain⟨a,ix,bl,bg⟩:=a2.ex;have⟨bG,al,aP,B⟩:=kX a2 (QY _ g a ix cV bl bg.ok) bl bg;clear a2 bl bg;unfold ut at al;simp only[gy]at al;go_wp2_with fail
   refine al.o.M ?_;rintro e ah ⟨f,rfl,b9,a9⟩;have H:=(ρ _ ah).A NZ (C #[D f.ba (L a.bl) f.bc,D f.wa (L a.ws) f.wc,G a.seq,G a.len,D f.da (L a.x.1) f.dc,D f.sa (L a.x.2) f.sc,.bool a.up,G a.fuse] 48);have af:=φ ah (C #[D f.ba (L a.bl) f.bc,D f.wa (L a.ws) f.wc,G a.seq,G a.len,D f.da (L a.x.1) f.dc,D f.sa (L a.x.2) f.sc,.bool a.up,G a.fuse] 48);have ba:=a9.t H;have bC:=Zx ((b9.imp (Q:=fun y=>Ε y _ _/\ϣ _ y _ _) fun y h=>⟨h.d,h.s⟩).B H);go_upto_region 12 with fail
   generalize å ah _=ct at *;have⟨bH,aQ⟩:=ϟ (bG.o.B ba) (aP.o.B ba);have P:=Zx (Bl _ g a ix ct aQ.o);have dg:g<ah.heap.size:=gw aP.o.lt a9.size;generalize ah.heap.size=bT at *;clear b9 a9 H ba al bG aP;obtain⟨c4,bX⟩:∃ r,hh ix.1 ix.2=r:=⟨_,rfl⟩;rw[bX]at P;clear bX;go_wp2_with fail
   refine P.o.M ?_;rintro e aA ⟨rfl,ae⟩;have⟨aj,aR,ab⟩:=iQ (bH.o.B ae) (aQ.o.B ae) (bC.o.B ae);have au:=θ af ae;clear ae bH aQ bC af P;obtain⟨⟨j,l,bp,bq,aB,aC,aD,br⟩,-,-⟩:=Ϲ au;go_upto_region 13 with fail
   go_cut [81] (fun cQ wc=>cQ=.bool (decide (a.up=true/\lT a.x.2=L a.x.1))/\ϫ (BQ aA wc))
   case first =>
    have bS:ϫ (∀ d os,Calls prog 17 #[ā #[D f.da (L a.x.1) f.dc,D f.sa (L a.x.2) f.sc]] (grow (redrawn aA d) os) fun e cT=>e=ŗ (G (lT a.x.2))/\∃ cj:Regrown,cT=grow (redrawn aA cj.d) cj.os):=⟨by
     intro d os
     have a3:=oV aA d os
     exact Calls.regrown_of (As _ _ _ _ _ _ _ _ _ _ (p.o.1.B (aj.o.b.t a3)) (ab.o.B a3).now.1 (ab.o.B a3).now.2 B.o.ok.x)⟩
    have aX:=bS.o;have r6:=Ι aD;have r4:=Ι aB;have dq:=Ι aC;clear z aj aR ab B bS j l bp bq aB aC aD br au p aE aS aL;by_cases Y:a.up=true
    .have b4:decide (a.up=true/\lT a.x.2=L a.x.1)=((lT a.x.2:Int)==(L a.x.1:Int)):=by
      rw[Bool.eq_iff_iff];simp[Y];omega
     have aF:=Zx b4;rw[Y]at r6;generalize lT _=c8 at *;generalize (L a.x.1)=nd at *;clear b4 Y;refine fY ?_;repeat (go_big_quiet_step ((go_at_call 17;with_reducible exact aX _ _)))
     refine gc fun aY t=>?_;clear aX;go_wp2_with fail
     go_meet;case rel=>exact⟨by rw[aF.o],⟨t⟩⟩
    .have aF:=Zx (show decide (a.up=true/\lT a.x.2=L a.x.1)=false from kE fun h=>Y h.1)
     rw[nf.2 Y]at r6;clear Y aX;refine fY ?_;repeat (go_big_quiet_step (fail))
     refine gc fun aY t=>?_;go_wp2_with fail
     go_meet;case rel=>exact⟨by rw[aF.o],⟨t⟩⟩
   case rest =>
    obtain⟨rfl,t⟩:=hcut;have⟨A,aT,bE⟩:=iQ (aj.o.B t.o) (aR.o.B t.o) (ab.o.B t.o);have bf:=θ au t.o;clear j l bp bq aB aC aD br au t aj aR ab;by_cases E:a.up=true/\lT a.x.2=L a.x.1
    .have cZ:=Zx E
     have be:=kU E;obtain⟨X,an,cz,ao,a1⟩:∃ X,mn a X/\L X<=k+1/\ix.1=a.x.1.take (L ix.1)/\L ix.1<=L a.x.1:=by
      rcases B.o.st with h|h
      .exact h
      .rw[E.1]at h;cases h.1
     have bV:=sf an.x;simp only[gO,iI]at bV;have ay:=an.dok.x;rw[kk,E.2]at ay;have bB:=Zx (Bk _ g a ix wc (p.o.1.B A.o.b) (p.o.2.B A.o.b) aT.o E.1 B.o.kx ay ao a1 U);have bJ:ϫ (∀ i,ia (fun b=>b=g) g a a.x i->Ο g wc i->jv g (k+1) w i):=⟨fun i cO bo=>⟨⟨a,_,cO,⟨B.o.n3,ay,B.o.ok,.inl ⟨X,an,U,by rw[nL],NZ⟩⟩⟩,bo.to A.o.b A.o.b.size A.o.lo,A.o.lo⟩⟩;clear E an cz ao ay bV aT bE B A;rw[be];go_wp2_with fail
     refine bB.o.M ?_;rintro e Z ⟨rfl,bm,bd⟩;have av:=(bd.2.1 bT (ς bf) U).trans bf;have⟨bI,aI⟩:=ϟ (bJ.o Z bm bd) (Bl _ g a _ Z bm);obtain⟨c5,bY⟩:∃ r,hh a.x.1 a.x.2=r:=⟨_,rfl⟩;rw[bY]at aI;clear bm bd bB bJ bf bY;go_wp2_with fail
     refine aI.o.M ?_;rintro e ck ⟨rfl,s⟩;have cn:=Zx (bI.o.B s);obtain⟨⟨j,l,bp,bq,aB,aC,aD,br⟩,-,-⟩:=Ϲ (θ av s);have c9:¬(L a.x.1:Int)<(L ix.1:Int):=U;generalize (L a.x.1)=nd at *;clear s bI aI av;go_wp2_with fail
     go_roundw
     .exact⟨ _,ϕ,U,cn⟩
     exact ω
    .have be:=kE E
     rw[be];clear E aT bE B;go_wp2_with fail
     go_roundw
     .exact⟨ _,ϕ,U,A⟩
     exact ω
  .have cC:=kE ax
   have co:=Zx F.o.next;clear ax F;go_wp2_with fail
   go_roundw
   .exact⟨ _,ϕ,U,co⟩
   exact ω
 .go_upto_region 7 with fail
  go_cut [45] (fun cP wc=>cP=.bool false/\wc=wr)
  case first =>
   clear z;by_cases di:k<ln
   .have ci:(k:Int)<(ln:Int):=U
    have cL:¬(k:Int)<40:=U;go_wp2_with fail
    go_meet;case rel=>exact⟨ύ,rfl⟩
   .have ci:¬(k:Int)<(ln:Int):=U
    go_wp2_with fail
    go_meet;case rel=>exact⟨rfl,rfl⟩
  case rest =>
   obtain⟨rfl,rfl⟩:=hcut;go_wp2_with fail
   refine z.o _ _ ?_;clear z;obtain⟨a,ix,bk,aw⟩:=R.o.ex;have cx:L ix.1<=40:=by
    rcases aw.st with ⟨X,a0,am,-,bU⟩|⟨-,am⟩
    .have:=sf a0.x;simp at this;omega
    .obtain⟨X,d0,-,-,cw,db,-,dd⟩:=am []
     have:=sf cw;simp at this;omega
   have aU:=Zx (QX _ g a ix wc bk (by have h:=aw.kx;rw[kk,uK h.ch];exact h));have⟨bP,ak,bt⟩:=iQ bk aw.kx R.o.b;unfold sA at aU;clear bk aw aE aJ aL cG cF R;go_wp2_with fail
   refine aU.o.M ?_;rintro e y ⟨S,M,aZ,bn,rfl,b8,ad⟩;have H:=(ρ _ y).A NZ (C #[D S (L ix.1) M,D aZ (L ix.2) bn] 44);have af:=φ y (C #[D S (L ix.1) M,D aZ (L ix.2) bn] 44);go_upto_region 19 with fail
   generalize å y _=aY at *;have a8:=ad.t H;have⟨aH,bu,aO⟩:=iQ (b8.B H) (bt.o.t a8) (bP.o.B a8);generalize y.heap.size=bT at *;clear b8 ad H a8 aU bP bt;go_wp2_with fail
   obtain⟨cl,rfl⟩:∃ cl:β,cl=wc:=⟨_,rfl⟩;go_loopw [15] (fun I cY=>∃ q:Nat,q<=L ix.1/\I=G (q:Int)/\BQ aY cY) (fun I _=>L ix.1 - (intOf I).toNat)
   .exact⟨0,Ζ _,rfl,ρ _ _⟩
   obtain⟨q,dj,rfl,u⟩:=hrel;rename_i ac;have z:=Zx ac;clear ac;have aq:=bu.o.t u;have ag:=θ af u;obtain⟨⟨j,l⟩,-,-⟩:=ν ag;by_cases cd:q<L ix.1
   .have cM:(q:Int)<(L ix.1:Int):=U
    have cJ:(0:Int)<=(q:Int):=U;have aM:=Zx (GB _ g a ix q wr (p.o.1.B aq) (p.o.2.B aq) (aO.o.B u) cd U ak.o);obtain⟨b,off,da,dc,rfl,-,-,b2,ce⟩:=sS (aH.o.now.1) rfl q cd;have⟨b3,bN⟩:=ϟ (ζ u b2) (ce.B u);unfold ry at aM;generalize ix.1[q]=aa at *;clear b2 ce z;go_wp2_with fail
    refine aM.o.M ?_;rintro e Z ⟨c6,dp,rfl,ca,ap⟩;have⟨bL,bO⟩:=ϟ ca.now (bN.o.B ap);have o:=ζ ap b3.o;have cB:=u.t ap;have av:=θ ag ap;clear ca aM bN b3 ag j l;obtain⟨⟨j,l⟩,-,-⟩:=ν av;go_upto_region 23 with fail
    have m:BQ Z Z.drew:=RZ.drew;have cp:∃ n,L aa=n:=⟨_,rfl⟩;obtain⟨cv,ar⟩:=cp;have bA:=Zx ar;rw[ar]at bL bO o;rw[ar];clear ar;refine ϯ (fun cs=>BQ Z cs) 12 ϋ ?_;refine Zf (oi:=⟨ _,_,_,_,_,_⟩) 0 m ?_;refine Zf (oi:=⟨ _,_,_,_,_,_⟩) 1 m ?_;refine Zf (oi:=⟨ _,_,_,_,_,_⟩) 2 m ?_;refine Zf (oi:=⟨ _,_,_,_,_,_⟩) 3 m ?_;refine Zb (oi:=⟨J 124,_,_,_,_,_⟩) 4 [11,12] m ?_ (v:=š (δ aa)) (hy:=?bU);case bU=>intro i K;have bo:=rO bA.o (bL.o.B K);exact gx
    refine Zf (oi:=⟨ _,_,_,_,_,_⟩) 5 m ?_;refine Zb (oi:=⟨J 126,_,_,_,_,_⟩) 6 [8,9,10,11,12] m ?_ (v:=D (J ⟨b,off,O⟩) (L ix.1) M) (hy:=?cy);case cy=>intro i K;have cN:=ζ K j;exact gx
    refine Zf (oi:=⟨ _,_,_,_,_,_⟩) 7 m ?_;refine Zf (oi:=⟨ _,_,_,_,_,_⟩) 8 m ?_;refine Zb (oi:=⟨J 129,_,_,_,_,_⟩) 9 [10,11,12] m ?_ (v:=D da cv dc) (hy:=?ao);case ao=>intro i K;have cN:=ζ K o;exact gx
    refine Zb (oi:=⟨J 130,_,_,_,_,_⟩) 10 [11,12] m ?_ (v:=š (δ aa)) (hy:=?a1);case a1=>intro i K;have bo:=rO bA.o (bO.o.B K);exact gx
    refine Zf (oi:=⟨ _,_,_,_,_,_⟩) 11 m ?_ ;refine Zl ?_;refine Zd ?_;clear j l o;go_wp2_with fail
    go_roundw
    .exact⟨q+1,U,ϕ,cB.drew⟩
    exact ω
   .obtain rfl:q=L ix.1:=U
    have cM:¬(L ix.1:Int)<(L ix.1:Int):=U;go_wp2_with fail
    refine z.o _ _ ?_;clear z;have⟨P,bz⟩:=ϟ (Bl _ g a ix wr (aO.o.B u)) aq;have bD:=Zx (aH.o.B u).now;have bR:=Zx ag;have cI:=ak.o.np;have aN:ϫ (∀ az c i,Ε i (D S (L ix.1) M) ix.1->ϣ ix.1 i (D az (L ix.2) c) ix.2->Calls prog 20 #[ā #[D S (L ix.1) M,D az (L ix.2) c]] i (iK (hh ix.1 ix.2) i)):=⟨fun az c i a0 am=>NY S M az c _ _ _ i a0 am ak.o cx⟩;unfold iK at aN;generalize hh _ _=c3 at *;clear j l ag aq u aH aO bu ak p af;go_wp2_with fail
    refine P.o.M ?_;rintro e ck ⟨rfl,s⟩;obtain⟨b5,cf⟩:=bD.o;have⟨bs,bv⟩:=ϟ (Ln S _ M aZ bn _ _ ck (b5.B s) (cf.B s) cI) (bz.o.t s);have a5:=θ bR.o s;obtain⟨⟨j,l⟩,-,-⟩:=ν a5;clear b5 cf s P bD bR bz;go_wp2_with fail
    refine bs.o.M ?_;rintro e cW ⟨cu,cK,rfl,b6,cg,bb⟩;have⟨bM,bw⟩:=ϟ (aN.o cu cK cW b6 cg) (bv.o.t bb);have a6:=θ a5 bb;clear j l b6 cg bb a5 bs aN bv;obtain⟨⟨j,l⟩,-,-⟩:=ν a6;go_wp2_with fail
    refine bM.o.M ?_;rintro e cX ⟨rfl,bc⟩;have bx:=Zx (bw.o.t bc);have bQ:=Zx (aS.o cX bx.o);have bZ:=θ a6 bc;clear j l a6 bc bM bw;obtain⟨⟨j,l⟩,-,-⟩:=ν bZ;go_wp2_with fail
    refine bQ.o.M ?_;rintro e dr ⟨rfl,b1⟩;have hF:=bx.o.t b1;clear j l bZ b1 bQ aS;go_wp2;go_ret;exact⟨rfl,hF⟩
