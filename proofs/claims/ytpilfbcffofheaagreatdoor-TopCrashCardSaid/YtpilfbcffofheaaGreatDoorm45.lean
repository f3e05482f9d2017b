/- Part 45 of the proof. -/
import Derived.Test.YtpilfbcffofheaaGreatDoorm44
set_option linter.unusedVariables false
set_option linter.unusedSimpArgs false
set_option maxRecDepth 100000
set_option maxHeartbeats 8000000
namespace Go.Proofs.YtpilfbcffofheaaGreatDoor
open Go.Proofs.Tryz Go.RowKit Go.Sort
open Value renaming slice->D,agg->ā
open Obj renaming cells->C
open Ending renaming returned->ŗ
open Option renaming none->O,some->J
open List renaming length->L
open World renaming alloc->å
theorem pV.below {w w':β} {v:ε} {b:List oy} (h:pV w v b) (a:Below w.heap.size w w'):pV w' v b:=by
 obtain⟨c,o,m⟩:=h;refine⟨c,o.below a,fun p n=>?_⟩;obtain⟨d,e,f,g,i,j,⟨q,k,r6⟩,r,l,r7⟩:=m p n;exact⟨d,e,f,g,i,j,⟨q,k,r6.below a⟩,r,l,r7.below a⟩
theorem Hn (N:Nat) (dG:Option Addr) (ln dH:Nat) (aD:List oy) (bN:Option Addr) (bs bO:Nat) (ks:List Int) (w:β) (cr:Ϩ w) (cq:Ϡ w) (cd:3<=N) (ez:N<=150) (eH:bs<=300) (cf:pV w (D dG ln dH) aD) (du:L aD=ln) (dr:Rd w (D bN bs bO) bs 1 (τ ks)) (dq:L ks=bs) (c8:∀ k (dm:k<L aD),-9223372036854775808<=aD[k].N/\aD[k].N<=9223372036854775807)
  (HW:∀ i,Below w.heap.size w i->Calls prog 5 #[] i (fun e w'=>e=ŗ (.bool true)/\Below i.heap.size i w')) :
  Calls prog 3 #[IZ N,D dG ln dH,D bN bs bO] w fun e w'=>e=ŗ (.bool true)/\Below w.heap.size w w':=by
 subst dq;have cR:=Zx (ET N w cr cq cd ϊ);have bi:=Zx (Γ cr cq);have dL:=Zx cf;have cP:=Zx du;have cN:=Zx dr;have dS:=Zx HW;have dQ:=Zx c8;have eI:ln<=9223372036854775807:=by obtain⟨eu,⟨-,ec,-⟩,-⟩:=cf;unfold maxLen at ec;omega
 have eM:¬(N:Int)<3:=ϊ;have eN:¬(150:Int)<(N:Int):=ϊ;have eO:¬(300:Int)<(L ks:Int):=ϊ;clear cr cq cf du dr HW c8;go_enter func3,ntmps3;go_wp2_with fail
 refine cR.o.mono ?_;rintro e eo ⟨g,rfl,di,d9,dA,c9⟩;have cM:Ϭ (mo g w.heap.size w 0 (D O 0 0) eo):=⟨⟨⟨0,[],mO N,[],([],[]),kK.nil _ _ _,dA _ (.inl rfl) (fun b W=>by
  rcases W with h|h
  .exact .inr h
  .simp[Value.ownBlock]at h),⟨rfl,rfl,ga.start cd ϊ,rfl,rfl,ύ,rfl,by show(-9223372036854775808:Int) <= -1;omega,by show(-1:Int)<=9223372036854775807;omega⟩,NZ,by simp[mO];exact cd,yz,rfl,NZ⟩,c9⟩⟩
 have aR:=Zx (show w.heap.size<=g from di);clear dA c9 cR di d9;go_wp2_with fail
 go_loopw [9,10] (fun el cC wr=>∃ k:Nat,cC=IZ k/\k<=40/\Ϭ (mo g w.heap.size w k el wr)) (fun _ cC _=>40 - (intOf cC).toNat)
 case atStart=>exact⟨0,rfl,ϊ,cM⟩
 case round =>
  clear cM;obtain⟨k,rfl,eG,T⟩:=hrel;rename_i c3;have cJ:=Zx c3;clear c3;by_cases eJ:k<ln/\k<40
  .have dE:(k:Int)<(ln:Int):=ϊ
   have ee:(k:Int)<40:=ϊ;have cE:(0:Int)<=(k:Int):=ϊ;have dp:k<L aD:=by have:=cP.o;omega
   obtain⟨b,off,a4,a5,sa,sc,rfl,eR,eS,cg,c0,c1,c2,s,u,U,t,af,r6,r7⟩:=FL dL.o cP.o k dp;have a8:=Zx (Γ c0 (Γ c1 (Γ c2 (Γ s (Γ u (Γ U (Γ t af)))))));have ad:=Zx r6;have cV:=Zx r7;have cQ:=Zx (dQ.o k dp);clear c0 c1 c2 s u U t af r6 r7;generalize aD[k]=dK at *;obtain⟨K,AK,dU,kd,ei,em,j,bl⟩:=dK;simp only at a8 ad cV cQ;obtain⟨c0,c1,c2,s,u,U,t,af⟩:=uG a8.o T.o.b;go_wp2_with fail
   refine(MQ _ _ _ _ _ _ _ _ _ _ _ _).mono ?_;rintro e E ⟨rfl,aw⟩;by_cases bM:L j<=2500/\L bl<=300
   .have cl:decide (L j<=2500/\L bl<=300)=true:=kr bM
    obtain⟨n,dJ,f,B,ix,ay,aO,aq,aV,ce,aY,aX,aW⟩:=T.o.ex;have aG:=T.o.b.trans (aw.mono T.o.b.size);obtain⟨r,dh,bK⟩:=HR kd ei em a4 (L j) a5 j E rfl (ad.o.below aG);have bo:∀ b,Hv g u9 b->b<E.heap.size:=fun b W=>by
     rcases W with h|h
     .have:=aO.lt;have:=aw.size;omega
     .have:=(Ν ay.row b h).2;have:=aw.size;omega
    have ba:=Zx (Ju (Hv g u9) g f ix B r K AK dU kd ei em a4 (L j) a5 sa (L bl) sc bl E (bi.o.1.below aG) (bi.o.2.below aG) bo (aO.below aw) aq ϊ ϊ dh (cV.o.below aG) rfl aY aX aW);clear c0 c1 c2 s u U t af;obtain⟨c0,c1,c2,s,u,U,t,af⟩:=uG a8.o aG;have am:=Zx (ay.below aw);have x:=Zx aq;have al:=Zx (Γ aY (Γ aX aW));have bg:=Zx bK;have az:=Zx aG;clear ay aO aq aY aX aW dh bK aG bo aw bM T;go_wp2_with fail
    refine ba.o.mono ?_;rintro e R ⟨aT,cD,c,rfl,aj,P,aH⟩;have be:=Zx aj;have G:=Zx P;have a9:=Zx aH;have aa:=Zx (aH.to az.o az.o.size aR.o);clear aj P aH ba c0 c1 c2 s u U t af;obtain⟨c0,c1,c2,s,u,U,t,af⟩:=uG a8.o aa.o;go_upto_region 12 with (fail)
    go_cut [89] (fun ej wc=>∃ aU:Bool,ej=.bool aU/\Ϭ (aU=true↔(K≠4/\AK=0/\kd=0/\c=0))/\R=wc)
    case first =>
     clear am x al bg be G a9 aa;by_cases bG:K=4
     .as_aux_lemma =>
       subst bG;go_wp2_with fail
       go_meet;case rel=>exact⟨false,rfl,⟨ύ⟩,rfl⟩
     .by_cases bF:AK=0
      .subst bF
       by_cases dn:kd=0
       .subst dn
        by_cases db:c=0
        .as_aux_lemma =>
          subst db;have bd:=Zx bG;go_wp2_with fail
          go_meet;case rel=>exact⟨_,rfl,⟨ύ⟩,rfl⟩
        .as_aux_lemma =>
          have bd:=Zx db;go_wp2_with fail
          go_meet;case rel=>exact⟨_,rfl,⟨ύ⟩,rfl⟩
       .as_aux_lemma =>
         have bd:=Zx dn;go_wp2_with fail
         go_meet;case rel=>exact⟨false,rfl,⟨by simp;intro _ h;exact absurd h bd.o⟩,rfl⟩
      .as_aux_lemma =>
        have bd:=Zx bF;go_wp2_with fail
        go_meet;case rel=>exact⟨false,rfl,⟨by simp;intro _ h;exact absurd h bd.o⟩,rfl⟩
    case rest =>
     obtain⟨aU,rfl,bw,rfl⟩:=hcut;by_cases bn:K≠4/\AK=0/\kd=0/\c=0
     .as_aux_lemma =>
       obtain rfl:aU=true:=bw.o.2 bn;obtain⟨aE,rfl,rfl,rfl⟩:=bn;obtain⟨bk,bL,ct,ds,ea,d1⟩:∃ bk:ϰ,r=J (.doc j)/\lC bk (B++[.doc j])/\3<=L bk.bl/\cD=ix/\aT=bk:=by
        have aj:=be.o;have bK:=bg.o;generalize eE:(0:Int)=es at aj;generalize eF:(0:Int)=eq at aj;cases aj with
        |follow h=>exact absurd h aE
        |stay h=>exact absurd h aE
        |crash v aF=>omega
        |same v aF=>omega
        |fuse v aF cY ao=>omega
        |put bk c2 v aF cY =>
         cases cY with
         |no U ao cb=>omega
         |lost dY y z ao cb dZ=>omega
         |yes dY z ao cb dZ _ =>
          have bL:r=J (.doc j):=by
           rcases bK with h|⟨-,h⟩|⟨h,-⟩
           .rw[h]at ao;cases ao
           .exact h
           .exact absurd rfl h
          rw[bL]at ao;injection ao with ao;subst ao;exact⟨_,bL,cb,ϊ,rfl,rfl⟩
       subst d1;subst ea;have bI:aT.x.1=f.x.1++[j]:=by
        have v:=ct.x;rw[rI,x.o.x]at v;exact tn (show ge f.x (.doc j)=J aT.x from v)
       have eL:n<=40:=by
        have v:=rG x.o.x;have aF:=am.o.len;simp at v;omega
       obtain⟨cB,cn,cy,cz,cA⟩:=ϯ yB;have ap:=am.o.oneCh a9.o;obtain⟨ae,ag,rfl⟩:=Θ ap.row;have Y:=(φ R.heap.size R).alloc NZ (C #[D a4 (L j) a5] 31);have an:=Zx (ap.below Y);have aS:=Zx (G.o.below Y);have ax:=aa.o.trans (Y.mono aa.o.size);have bj:=Zx (Lr ad.o ax aR.o an.o.row);have aA:=Zx ax;have b6:=Zx ct;have bX:=Zx bI;have cL:=Zx (Γ aV ds);clear ap Y ax ct bI bL be bg bw aV ds ce a9 G am x;go_wp2_with (at_builtin;go_loud (refine gn rfl _ _ _ _ rfl w.heap.size 31 cB _ 1 24 kY cn cy cz cA rfl (D ae n ag) n dJ (by rfl) an.o.row _ 1 [D a4 (L j) a5] (by rfl) ((tR R #[D a4 (L j) a5] 31 1 1 rfl ώ ϊ).src kY ϗ) ώ ϊ (by have:=aa.o.size;simp;omega) ?_;intro en S aL ai aN _;obtain⟨bm,u,rfl⟩:=Θ aL))
       have aI:g<(å R (C #[D a4 (L j) a5] 31)).heap.size:=aS.o.lt;have ac:=Zx (an.o.push aI aL ai aN bj.o);have av:=Zx (aS.o.grown aI ai an.o.own aN);have F:=Zx (aA.o.grown ai aA.o.size (fun q aj=>(Ν an.o.row q aj).1));have b0:Ϭ (mo g w.heap.size w (k+1) (D bm (n+1) u) S):=⟨⟨⟨n+1,_,aT,B++[.doc j],cD,by rw[bX.o];exact ac.o,av.o,b6.o,by simp;exact cL.o.1,cL.o.2,al.o.1,by rw[bX.o,zW al.o.2.2];exact al.o.2.1,by rw[bX.o,ω];have:=al.o.2.2;omega⟩,F.o⟩⟩;clear aL ai aN an aS aA bj ac F aI;have p:=Zx (ug (Hv g (D bm (n+1) u)) g aT cD S av.o b6.o.dok);have cc:aT.up=true:=b6.o.up;unfold oA at p;simp only[gi]at p;go_wp2_with fail
       refine p.o.mono ?_;rintro e bu ⟨dI,rfl,-,X⟩;have bZ:=Zx (b0.o.below X);clear p X;have cm:=vh;go_wp2_with fail
       go_roundw;case rel=>exact⟨k+1,ϕ,ϊ,bZ⟩
       case measure=>simp[intOf];omega
     .obtain rfl:aU=false:=by
       cases aU with
       |false=>rfl
       |true=>exact absurd (bw.o.1 rfl) bn
      have bQ:Ϭ (zZ g w.heap.size w k K AK kd j u9 R):=⟨FO am.o x.o aV ce al.o.1 al.o.2.1 al.o.2.2 bg.o be.o G.o a9.o aa.o bn cQ.o⟩;clear am x al bg be G a9 bw bn aV ce;rcases bQ.o with d4|hD
      .as_aux_lemma =>
        obtain⟨⟨n3,bP,z,dX,ak,ap,P,aM,df,aJ,dB⟩,bq⟩:=d4;have b0:Ϭ (mo g w.heap.size w (k+1) u9 R):=⟨⟨⟨n3,bP,z,dX,ak,ap,P,aM,df,aJ,dB⟩,bq⟩⟩;clear bQ ap df aJ dB bq;have p:=Zx (ug (Hv g u9) g z ak R P aM.dok);have cc:z.up=true:=aM.up;unfold oA at p;simp only[gi]at p;go_wp2_with fail
        refine p.o.mono ?_;rintro e bu ⟨dI,rfl,-,X⟩;have bZ:=Zx (b0.o.below X);clear p X;have cm:=vh;go_wp2_with fail
        go_roundw;case rel=>exact⟨k+1,ϕ,ϊ,bZ⟩
        case measure=>simp[intOf];omega
      .as_aux_lemma =>
        clear bQ;obtain⟨⟨n3,bP,M,z,ak,ap,P,de,cp,aJ,dF,dw,dt,dl⟩,bq⟩:=hD;obtain⟨V,ar,cZ,dv,dC,dg,dd⟩:=dl ks;have p:=Zx (ug (Hv g u9) g z ak R P cp);have cc:z.up=false:=de;unfold oA at p;simp only[gi]at p;have aB:=Zx ap;have G:=Zx P;have cS:=Zx cp;have I:=Zx (Γ dF (Γ dw dt));have aQ:=Zx cZ;have b2:=Zx dv;have b9:=Zx dC;have bx:=Zx dd;have bz:=Zx dg;have cI:=Zx bq;have cO:=Zx aJ;clear ap P de cp aJ dF dw dt dl bq cZ dv dC dd dg;have cm:=vh;have d7:=BX;have d8:=BY;have d6:=BW;go_wp2_with fail
        refine p.o.mono ?_;rintro e bu ⟨dI,rfl,-,X⟩;have c6:∀ b,Hv g u9 b->b<bu.heap.size:=fun b W=>by
         have:=X.size;rcases W with h|h
         .have:=G.o.lt;omega
         .have:=(Ν aB.o.row b h).2;omega
        have ch:=cI.o.trans (X.mono cI.o.size);have aP:=Zx (wG (Hv g u9) g z ak (D bN (L ks) bO) ks bu c6 (G.o.below X) cS.o (by have:=cO.o;omega) (cN.o.below ch));have cT:=Zx (aB.o.below X);have bU:=Zx ch;clear p X ch c6 aB G;go_wp2_with fail
        refine aP.o.mono ?_;rintro e cH ⟨rfl,cx,ck⟩;have b4:=Zx (cT.o.oneCh ck);have bv:=Zx (ck.to bU.o bU.o.size aR.o);have c7:∀ b,Hv g u9 b->b<cH.heap.size:=fun b W=>by
         rcases W with h|h
         .have:=cx.lt;omega
         .have:=(Ν b4.o.row b h).2;omega
        have bE:L ar.1<=40:=by have v:=rG b9.o;have:=bz.o;simp at v;omega
        have bf:=Zx (zM (Hv g u9) g _ ak (L V) V ar cH (bi.o.1.below bv.o) c7 cx ⟨aQ.o.nb,ύ,aQ.o.l64,ύ⟩ rfl aQ.o b2.o b9.o bE);clear aP cx ck c7 cT bU cO cS;go_wp2_with fail
        refine bf.o.mono ?_;rintro e cG ⟨rfl,dz,ci⟩;have cu:ht (Hv g u9) g ⟨gU ks z.bl z.ws,[],(L V:Int),(L (ϡ V):Int),ar,true,-1⟩ ak cG:=dz;have cs:lC ⟨gU ks z.bl z.ws,[],(L V:Int),(L (ϡ V):Int),ar,true,-1⟩ V:=⟨rfl,rfl,aQ.o,rfl,rfl,b2.o,b9.o,by show(-9223372036854775808:Int) <= -1;omega,by show(-1:Int)<=9223372036854775807;omega⟩;have bA:=Zx (ug (Hv g u9) g _ ak cG cu cs.dok);have b5:=Zx cs;have b7:=Zx cu;have bB:=Zx (b4.o.oneCh ci);have bS:=Zx (ci.to bv.o bv.o.size aR.o);have b1:=Zx aQ.o.n3;unfold oA at bA;simp only[gi,gF]at bA;clear dz cu ci cs bf b4 bv aQ b2 cc;generalize gU ks z.bl z.ws=er at *;generalize ed:(L V:Int)=ek at *;generalize eb:(L (ϡ V):Int)=ef at *;clear ed eb;go_wp2_with fail
        refine bA.o.mono ?_;rintro e A ⟨bt,rfl,dj,bH⟩;have au:=Zx (dj.imp (Q:=fun E=>Δ E (D bt.da (L ar.1) bt.dc) ar.1) fun E h=>h.d);have ab:=Zx (bB.o.below bH);have bC:=Zx (b7.o.below bH);have o:=Zx (bS.o.trans (bH.mono bS.o.size));have bD:=Zx (fun b (h:Hv g u9 b)=>show b<cG.heap.size by
         rcases h with h|h
         .have:=b7.o.lt;omega
         .exact(Ν bB.o.row b h).2)
        have eK:n3<=41:=by
         have aE:=bB.o.len;have aF:L M<=L ar.1:=by
          rcases bx.o with h|h
          .rw[h];exact NZ
          .rw[h.1];simp
         omega
        clear dj bH bA bB b7 bS;go_upto_region 19 with (fail)
        obtain⟨ae,ag,rfl⟩:=Θ ab.o.row;rcases bx.o with Z|⟨Z,bG,bF,dm⟩
        .as_aux_lemma =>
          have aK:L ar.1=n3:=by rw[Z];exact ab.o.len
          have cX:IntKind.i64.wrap ((n3:Int)+1)=(n3:Int)+1:=Ϗ;have ex:((n3:Int)==(n3:Int)+1)=false:=gl.2 ϊ;have ey:¬(n3:Int)=(n3:Int)+1:=ϊ;have bc:Ϭ (mo g w.heap.size w (k+1) (D ae n3 ag) A):=⟨⟨⟨n3,bP,_,V,ak,by rw[Z];exact ab.o,bC.o,b5.o,bz.o,b1.o,I.o.1,by rw[Z];exact I.o.2.1,by rw[Z];exact I.o.2.2⟩,o.o⟩⟩;rw[aK,Z]at au;rw[aK];have aC:=Zx (fun i (d:Below A.heap.size A i)=>we bt.da n3 bt.dc ae n3 ag M M i ab.o.len ab.o.len ((au.o.below d).now) (ab.o.below d).rd);clear ab bC o au b5 bz I bx Z aK bD b1 bE;have a:Below A.heap.size A A.drew:=RZ.drew;refine ϸ (fun ca=>Below A.heap.size A ca) 49 ϋ ?_;refine Ox (oi:=⟨J 114,_,_,_,_,_⟩) 0 rfl a ?_;simp only[Zp];refine Ox (oi:=⟨J 115,_,_,_,_,_⟩) 1 rfl a ?_;simp only[Zp];refine Ox (oi:=⟨J 116,_,_,_,_,_⟩) 2 rfl a ?_;simp only[Zp];refine Ox (oi:=⟨J 117,_,_,_,_,_⟩) 3 rfl a ?_;simp only[Zp];refine Ox (oi:=⟨J 118,_,_,_,_,_⟩) 4 rfl a ?_;simp only[Zp];refine Ox (oi:=⟨J 119,_,_,_,_,_⟩) 5 rfl a ?_;simp only[Zp];refine Ox (oi:=⟨J 120,_,_,_,_,_⟩) 6 rfl a ?_;simp only[Zp];refine Oy (oi:=⟨J 121,_,_,_,_,_⟩) 7 rfl a ?_;simp only[Zp];refine Oy (oi:=⟨J 122,_,_,_,_,_⟩) 8 rfl a ?_;simp only[Zp];refine Oy (oi:=⟨J 123,_,_,_,_,_⟩) 9 rfl a ?_;simp only[Zp];refine Oy (oi:=⟨J 124,_,_,_,_,_⟩) 10 rfl a ?_;simp only[Zp];refine Oy (oi:=⟨J 125,_,_,_,_,_⟩) 11 rfl a ?_;simp only[Zp];refine Oy (oi:=⟨J 126,_,_,_,_,_⟩) 12 rfl a ?_;simp only[Zp];refine Ox (oi:=⟨J 127,_,_,_,_,_⟩) 13 rfl a ?_;simp only[Zp];refine Ox (oi:=⟨J 128,_,_,_,_,_⟩) 14 rfl a ?_;simp only[Zp];refine Oy (oi:=⟨J 129,_,_,_,_,_⟩) 15 rfl a ?_;simp only[Zp];refine Oy (oi:=⟨J 130,_,_,_,_,_⟩) 16 rfl a ?_;simp only[Zp];refine Oy (oi:=⟨J 131,_,_,_,_,_⟩) 17 rfl a ?_;simp only[Zp];refine Oy (oi:=⟨J 132,_,_,_,_,_⟩) 18 rfl a ?_;simp only[Zp];refine Oy (oi:=⟨J 133,_,_,_,_,_⟩) 19 rfl a ?_;simp only[Zp];refine Oy (oi:=⟨J 134,_,_,_,_,_⟩) 20 rfl a ?_;simp only[Zp];refine Oy (oi:=⟨J 135,_,_,_,_,_⟩) 21 rfl a ?_;simp only[Zp];refine Ox (oi:=⟨J 136,_,_,_,_,_⟩) 22 rfl a ?_;simp only[Zp];refine Ox (oi:=⟨J 137,_,_,_,_,_⟩) 23 rfl a ?_;simp only[Zp];refine Oy (oi:=⟨J 138,_,_,_,_,_⟩) 24 rfl a ?_;simp only[Zp];refine Oy (oi:=⟨J 139,_,_,_,_,_⟩) 25 rfl a ?_;simp only[Zp];refine Oy (oi:=⟨J 140,_,_,_,_,_⟩) 26 rfl a ?_;simp only[Zp];refine Oy (oi:=⟨J 141,_,_,_,_,_⟩) 27 rfl a ?_;simp only[Zp];refine Oy (oi:=⟨J 142,_,_,_,_,_⟩) 28 rfl a ?_;simp only[Zp];refine Oy (oi:=⟨J 143,_,_,_,_,_⟩) 29 rfl a ?_;simp only[Zp];refine Oy (oi:=⟨J 144,_,_,_,_,_⟩) 30 rfl a ?_;simp only[Zp];refine Oy (oi:=⟨J 145,_,_,_,_,_⟩) 31 rfl a ?_;simp only[Zp];refine Ox (oi:=⟨J 146,_,_,_,_,_⟩) 32 rfl a ?_;simp only[Zp];refine Ox (oi:=⟨J 147,_,_,_,_,_⟩) 33 rfl a ?_;simp only[Zp];refine Oy (oi:=⟨J 148,_,_,_,_,_⟩) 34 rfl a ?_;simp only[Zp];refine Oy (oi:=⟨J 149,_,_,_,_,_⟩) 35 rfl a ?_;simp only[Zp];refine Oy (oi:=⟨J 150,_,_,_,_,_⟩) 36 rfl a ?_;simp only[Zp];refine Oy (oi:=⟨J 151,_,_,_,_,_⟩) 37 rfl a ?_;simp only[Zp];refine Oy (oi:=⟨J 152,_,_,_,_,_⟩) 38 rfl a ?_;simp only[Zp];refine Oy (oi:=⟨J 153,_,_,_,_,_⟩) 39 rfl a ?_;simp only[Zp];refine Oy (oi:=⟨J 154,_,_,_,_,_⟩) 40 rfl a ?_;simp only[Zp];refine Oy (oi:=⟨J 155,_,_,_,_,_⟩) 41 rfl a ?_;simp only[Zp];refine Oy (oi:=⟨J 156,_,_,_,_,_⟩) 42 rfl a ?_;simp only[Zp];refine Oy (oi:=⟨J 157,_,_,_,_,_⟩) 43 rfl a ?_;simp only[Zp];refine Oy (oi:=⟨J 158,_,_,_,_,_⟩) 44 rfl a ?_;simp only[Zp];refine Oy (oi:=⟨J 159,_,_,_,_,_⟩) 45 rfl a ?_;simp only[Zp];refine Oy (oi:=⟨J 160,_,_,_,_,_⟩) 46 rfl a ?_;simp only[Zp];refine Oy (oi:=⟨J 161,_,_,_,_,_⟩) 47 rfl a ?_;simp only[Zp];refine Oy (oi:=⟨J 162,_,_,_,_,_⟩) 48 rfl a ?_;simp only[Zp];refine Zl ?_;refine Zd ?_;go_wp2_with fail
          refine(aC.o _ a).mono ?_;rintro e ep ⟨rfl,bp⟩;have cl:decide (M=M)=true:=kr rfl;have bY:=Zx (bc.o.below (a.trans (bp.mono a.size)));clear bp a aC bc;go_wp2_with fail
          go_roundw;case rel=>exact⟨k+1,ϕ,ϊ,bY⟩
          case measure=>simp[intOf];omega
        .as_aux_lemma =>
          subst bF;subst dm;have bJ:L M=n3:=ab.o.len;have aK:L ar.1=n3+1:=by rw[Z];simp[bJ]
          have co:L (M++[j])=n3+1:=by simp[bJ]
          rw[aK,Z]at au;obtain⟨dV,eg,da,dc,dx,eT,eh,ah,cF⟩:=Iw au.o co n3 ϊ;have c4:(M++[j])[n3]' ϊ=j:=by rw[zX ϊ];simp[bJ]
          rw[c4]at ah cF;have RE:=Zx cF;have cX:IntKind.i64.wrap ((n3:Int)+1)=(n3:Int)+1:=Ϗ;have d0:(K !=4)=true:=by simpa using bG
          have dW:((δ j).toList==(δ j).toList)=true:=ύ;have eQ:(n3:Int)<(n3:Int)+1:=ϊ;have eP:(0:Int)<=(n3:Int):=ϊ;have dN:=Zx co;have bW:=Zx Z;unfold maxLen at eh;rw[aK];rw[dx]at au ⊢;clear cF c4 co bJ aK Z dx bx;obtain⟨c0,c1,c2,s,u,U,t,af⟩:=uG a8.o o.o;have a:Below A.heap.size A A.drew:=RZ.drew;refine ϸ (fun ca=>Below A.heap.size A ca) 49 ϋ ?_;refine Ox (oi:=⟨J 114,_,_,_,_,_⟩) 0 rfl a ?_;simp only[Zp];refine Ox (oi:=⟨J 115,_,_,_,_,_⟩) 1 rfl a ?_;simp only[Zp];refine Ox (oi:=⟨J 116,_,_,_,_,_⟩) 2 rfl a ?_;simp only[Zp];refine Ox (oi:=⟨J 117,_,_,_,_,_⟩) 3 rfl a ?_;simp only[Zp];refine Ox (oi:=⟨J 118,_,_,_,_,_⟩) 4 rfl a ?_;simp only[Zp];refine Ox (oi:=⟨J 119,_,_,_,_,_⟩) 5 rfl a ?_;simp only[Zp];refine Ox (oi:=⟨J 120,_,_,_,_,_⟩) 6 rfl a ?_;simp only[Zp];refine Ox (oi:=⟨J 121,_,_,_,_,_⟩) 7 rfl a ?_;simp only[Zp];refine Ox (oi:=⟨J 122,_,_,_,_,_⟩) 8 rfl a ?_;simp only[Zp];refine Ox (oi:=⟨J 123,_,_,_,_,_⟩) 9 rfl a ?_;simp only[Zp];refine Ox (oi:=⟨J 124,_,_,_,_,_⟩) 10 rfl a ?_;simp only[Zp];refine Oz (oi:=⟨J 125,_,_,_,_,_⟩) 11 [12,13,14,22,23,32,33,49] rfl a ?_ (hy:=by intro i d;have aZ:=ζ d c0;have a0:=ζ d c1;have a1:=ζ d s;have a2:=ζ d t;have a3:=ζ d ah;have a6:=ih rfl (RE.o.below d).now;have a7:=ih rfl (ad.o.below (o.o.trans (d.mono o.o.size)));go_simp;try with_reducible rfl);simp only[Zp];refine Ox (oi:=⟨J 126,_,_,_,_,_⟩) 12 rfl a ?_;simp only[Zp];refine Ox (oi:=⟨J 127,_,_,_,_,_⟩) 13 rfl a ?_;simp only[Zp];refine Ox (oi:=⟨J 128,_,_,_,_,_⟩) 14 rfl a ?_;simp only[Zp];refine Ox (oi:=⟨J 129,_,_,_,_,_⟩) 15 rfl a ?_;simp only[Zp];refine Ox (oi:=⟨J 130,_,_,_,_,_⟩) 16 rfl a ?_;simp only[Zp];refine Ox (oi:=⟨J 131,_,_,_,_,_⟩) 17 rfl a ?_;simp only[Zp];refine Ox (oi:=⟨J 132,_,_,_,_,_⟩) 18 rfl a ?_;simp only[Zp];refine Ox (oi:=⟨J 133,_,_,_,_,_⟩) 19 rfl a ?_;simp only[Zp];refine Oz (oi:=⟨J 134,_,_,_,_,_⟩) 20 [21,22,23,32,33,49] rfl a ?_ (hy:=by intro i d;have aZ:=ζ d c0;have a0:=ζ d c1;have a1:=ζ d s;have a2:=ζ d t;have a3:=ζ d ah;have a6:=ih rfl (RE.o.below d).now;have a7:=ih rfl (ad.o.below (o.o.trans (d.mono o.o.size)));go_simp;try with_reducible rfl);simp only[Zp];refine Ox (oi:=⟨J 135,_,_,_,_,_⟩) 21 rfl a ?_;simp only[Zp];refine Ox (oi:=⟨J 136,_,_,_,_,_⟩) 22 rfl a ?_;simp only[Zp];refine Ox (oi:=⟨J 137,_,_,_,_,_⟩) 23 rfl a ?_;simp only[Zp];refine Ox (oi:=⟨J 138,_,_,_,_,_⟩) 24 rfl a ?_;simp only[Zp];refine Ox (oi:=⟨J 139,_,_,_,_,_⟩) 25 rfl a ?_;simp only[Zp];refine Ox (oi:=⟨J 140,_,_,_,_,_⟩) 26 rfl a ?_;simp only[Zp];refine Ox (oi:=⟨J 141,_,_,_,_,_⟩) 27 rfl a ?_;simp only[Zp];refine Ox (oi:=⟨J 142,_,_,_,_,_⟩) 28 rfl a ?_;simp only[Zp];refine Ox (oi:=⟨J 143,_,_,_,_,_⟩) 29 rfl a ?_;simp only[Zp];refine Oz (oi:=⟨J 144,_,_,_,_,_⟩) 30 [31,32,33,49] rfl a ?_ (hy:=by intro i d;have aZ:=ζ d c0;have a0:=ζ d c1;have a1:=ζ d s;have a2:=ζ d t;have a3:=ζ d ah;have a6:=ih rfl (RE.o.below d).now;have a7:=ih rfl (ad.o.below (o.o.trans (d.mono o.o.size)));go_simp;try with_reducible rfl);simp only[Zp];refine Ox (oi:=⟨J 145,_,_,_,_,_⟩) 31 rfl a ?_;simp only[Zp];refine Ox (oi:=⟨J 146,_,_,_,_,_⟩) 32 rfl a ?_;simp only[Zp];refine Ox (oi:=⟨J 147,_,_,_,_,_⟩) 33 rfl a ?_;simp only[Zp];refine Ox (oi:=⟨J 148,_,_,_,_,_⟩) 34 rfl a ?_;simp only[Zp];refine Ox (oi:=⟨J 149,_,_,_,_,_⟩) 35 rfl a ?_;simp only[Zp];refine Ox (oi:=⟨J 150,_,_,_,_,_⟩) 36 rfl a ?_;simp only[Zp];refine Ox (oi:=⟨J 151,_,_,_,_,_⟩) 37 rfl a ?_;simp only[Zp];refine Oz (oi:=⟨J 152,_,_,_,_,_⟩) 38 [39,48,49] rfl a ?_ (hy:=by intro i d;have aZ:=ζ d c0;have a0:=ζ d c1;have a1:=ζ d s;have a2:=ζ d t;have a3:=ζ d ah;have a6:=ih rfl (RE.o.below d).now;have a7:=ih rfl (ad.o.below (o.o.trans (d.mono o.o.size)));go_simp;try with_reducible rfl);simp only[Zp];refine Oz (oi:=⟨J 153,_,_,_,_,_⟩) 39 [48,49] rfl a ?_ (hy:=by intro i d;have aZ:=ζ d c0;have a0:=ζ d c1;have a1:=ζ d s;have a2:=ζ d t;have a3:=ζ d ah;have a6:=ih rfl (RE.o.below d).now;have a7:=ih rfl (ad.o.below (o.o.trans (d.mono o.o.size)));go_simp;try with_reducible rfl);simp only[Zp];refine Ox (oi:=⟨J 154,_,_,_,_,_⟩) 40 rfl a ?_;simp only[Zp];refine Ox (oi:=⟨J 155,_,_,_,_,_⟩) 41 rfl a ?_;simp only[Zp];refine Ox (oi:=⟨J 156,_,_,_,_,_⟩) 42 rfl a ?_;simp only[Zp];refine Ox (oi:=⟨J 157,_,_,_,_,_⟩) 43 rfl a ?_;simp only[Zp];refine Ox (oi:=⟨J 158,_,_,_,_,_⟩) 44 rfl a ?_;simp only[Zp];refine Ox (oi:=⟨J 159,_,_,_,_,_⟩) 45 rfl a ?_;simp only[Zp];refine Oz (oi:=⟨J 160,_,_,_,_,_⟩) 46 [47,48,49] rfl a ?_ (hy:=by intro i d;have aZ:=ζ d c0;have a0:=ζ d c1;have a1:=ζ d s;have a2:=ζ d t;have a3:=ζ d ah;have a6:=ih rfl (RE.o.below d).now;have a7:=ih rfl (ad.o.below (o.o.trans (d.mono o.o.size)));go_simp;try with_reducible rfl);simp only[Zp];refine Oz (oi:=⟨J 161,_,_,_,_,_⟩) 47 [48,49] rfl a ?_ (hy:=by intro i d;have aZ:=ζ d c0;have a0:=ζ d c1;have a1:=ζ d s;have a2:=ζ d t;have a3:=ζ d ah;have a6:=ih rfl (RE.o.below d).now;have a7:=ih rfl (ad.o.below (o.o.trans (d.mono o.o.size)));go_simp;try with_reducible rfl);simp only[Zp];refine Ox (oi:=⟨J 162,_,_,_,_,_⟩) 48 rfl a ?_;simp only[Zp];refine Zl ?_;refine Zd ?_;have et:=ζ a ah;clear c0 c1 c2 s u U t af ah cX d0 dW;generalize A.drew=wd at *;obtain⟨cB,cn,cy,cz,cA⟩:=ϯ yB;have Y:=(φ wd.heap.size wd).alloc NZ (C #[D da (L j) dc] 31);have bh:=Zx ((ab.o.below a).below Y);have b8:=Zx ((bC.o.below a).below Y);have bj:=Zx (((RE.o.below a).below Y).off (H:=Hv g (D ae n3 ag)) (fun b _ h=>bD.o b h));have ba:=Zx (((au.o.below a).below Y).off (H:=Hv g (D ae n3 ag)) (fun b _ h=>bD.o b h));have bV:=Zx (o.o.trans (a.mono o.o.size));have bT:=Zx (bV.o.trans (Y.mono bV.o.size));clear Y a ab bC RE au o bD;go_wp2_with (at_builtin;go_loud (refine gn rfl _ _ _ _ rfl w.heap.size 31 cB _ 1 24 kY cn cy cz cA rfl (D ae n3 ag) n3 bP (by rfl) bh.o.row _ 1 [D da (L j) dc] (by rfl) ((tR wd #[D da (L j) dc] 31 1 1 rfl ώ ϊ).src kY ϗ) ώ ϊ (by have:=bV.o.size;simp;omega) ?_;intro en S aL ai aN _;obtain⟨bm,u,rfl⟩:=Θ aL))
          have aI:g<(å wd (C #[D da (L j) dc] 31)).heap.size:=b8.o.lt;have ac:=Zx (bh.o.push aI aL ai aN bj.o);have av:=Zx (b8.o.grown aI ai bh.o.own aN);have F:=Zx (bT.o.grown ai bT.o.size (fun q aj=>(Ν bh.o.row q aj).1));have bc:Ϭ (mo g w.heap.size w (k+1) (D bm (n3+1) u) S):=⟨⟨⟨n3+1,_,_,V,ak,by rw[bW.o];exact ac.o,av.o,b5.o,bz.o,b1.o,I.o.1,by rw[bW.o,zW I.o.2.2];exact I.o.2.1,by rw[bW.o,ω];have:=I.o.2.2;omega⟩,F.o⟩⟩;have aC:=Zx (we (J ⟨dV,eg,O⟩) (n3+1) bt.dc bm (n3+1) u (M++[j]) (M++[j]) S dN.o ac.o.len (ba.o S (fun q aE v=>ai.block q aE (fun e=>v (.inr e.symm)))) ac.o.rd);clear aL ai aN bh b8 bj ba bT ac av F aI;refine aC.o.mono ?_;rintro e ep ⟨rfl,bp⟩;have cl:decide (M++[j]=M++[j])=true:=kr rfl;have bY:=Zx (bc.o.below bp);clear bp aC bc;go_wp2_with fail
          go_roundw;case rel=>exact⟨k+1,ϕ,ϊ,bY⟩
          case measure=>simp[intOf];omega
   .as_aux_lemma =>
     have cl:decide (L j<=2500/\L bl<=300)=false:=iC bM;have dO:=Zx ((T.o.below aw).next);clear c0 c1 c2 s u U t af aw bM T;go_wp2_with fail
     go_roundw;case rel=>exact⟨k+1,ϕ,ϊ,dO⟩
     case measure=>simp[intOf];omega
  .by_cases dq:k<ln
   all_goals
    as_aux_lemma =>
     first
      |have dE:(k:Int)<(ln:Int):=ϊ
       have ee:¬(k:Int)<40:=ϊ
      |have dE:¬(k:Int)<(ln:Int):=ϊ
     go_wp2_with fail
     refine cJ.o _ _ ?_;clear cJ;obtain⟨n,dJ,f,B,ix,ay,aO,aq,aV,aJ,aY,aX,aW⟩:=T.o.ex;obtain rfl:L f.x.1=n:=ay.len;have bo:∀ b,Hv g u9 b->b<wr.heap.size:=fun b W=>by
      rcases W with h|h
      .exact h ▸ aO.lt
      .exact(Ν ay.row b h).2
     have cg:gU ks f.bl f.ws=f.bl:=by rw[aq.ws];rfl
     have bE:L f.x.1<=40:=by have v:=rG aq.x;simp at v;omega
     have aP:=Zx (wG (Hv g u9) g f ix (D bN (L ks) bO) ks wr bo aO aq.dok ϊ (cN.o.below T.o.b));rw[cg]at aP;have am:=Zx ay;have x:=Zx aq;have I:=Zx (Γ aY (Γ aX aW));have bR:=Zx T.o.b;clear ay aO aq aV aJ aY aX aW cg bo T;have cm:=vh;have d7:=BX;have d8:=BY;have d6:=BW;go_wp2_with fail
     refine aP.o.mono ?_;rintro e E ⟨rfl,cv,cj⟩;have b3:=Zx (am.o.oneCh cj);have az:=Zx (cj.to bR.o bR.o.size aR.o);have c5:∀ b,Hv g u9 b->b<E.heap.size:=fun b W=>by
      rcases W with h|h
      .exact h ▸ cv.lt
      .exact(Ν b3.o.row b h).2
     have bf:=Zx (zM (Hv g u9) g _ ix (L B) B f.x E (bi.o.1.below az.o) c5 cv ⟨x.o.inv.nb,ύ,x.o.inv.l64,ύ⟩ rfl x.o.inv x.o.ok x.o.x bE);clear aP cv cj c5 am bR;go_wp2_with fail
     refine bf.o.mono ?_;rintro e R ⟨rfl,P,aH⟩;have cw:ht (Hv g u9) g ⟨f.bl,[],(L B:Int),(L (ϡ B):Int),f.x,true,-1⟩ ix R:=P;have aM:lC ⟨f.bl,[],(L B:Int),(L (ϡ B):Int),f.x,true,-1⟩ B:=⟨rfl,rfl,x.o.inv,rfl,rfl,x.o.ok,x.o.x,by show(-9223372036854775808:Int) <= -1;omega,by show(-1:Int)<=9223372036854775807;omega⟩;have p:=Zx (ug (Hv g u9) g _ ix R cw aM.dok);have G:=Zx cw;have aB:=Zx (b3.o.oneCh aH);have aa:=Zx (aH.to az.o az.o.size aR.o);have cU:=Zx aM.dok.x;unfold oA at p;simp only[gi,gF]at p;clear P cw aH aM bf b3 az;generalize(L B:Int)=ek at *;generalize(L (ϡ B):Int)=ef at *;obtain⟨ae,ag,rfl⟩:=Θ aB.o.row;go_wp2_with fail
     refine p.o.mono ?_;rintro e S ⟨l,rfl,dk,ax⟩;have cK:=Zx (dk.imp (Q:=fun E=>Δ E (D l.da (L f.x.1) l.dc) f.x.1/\ϧ f.x.1 E (D l.sa (L f.x.2) l.sc) f.x.2) fun E h=>⟨h.d,h.s⟩);have an:=Zx (aB.o.below ax);have aS:=Zx (G.o.below ax);have aA:=Zx (aa.o.trans (ax.mono aa.o.size));clear dk ax p aB G aa;go_upto_region 26 with (fail)
     have dy:=χ S (C #[D l.da (L f.x.1) l.dc,D l.sa (L f.x.2) l.sc] 44);have br:=(φ S.heap.size S).alloc NZ (C #[D l.da (L f.x.1) l.dc,D l.sa (L f.x.2) l.sc] 44);generalize å S (C #[D l.da (L f.x.1) l.dc,D l.sa (L f.x.2) l.sc] 44)=m at *;have F:=Zx (aA.o.trans (br.mono aA.o.size));have bb:=Zx (cK.o.below br);have ac:=Zx (an.o.below br);have av:=Zx (aS.o.below br);generalize S.heap.size=cW at *;obtain⟨⟨cE,dD⟩,-,-⟩:=ι dy;have aC:=Zx (fun i (d:Below m.heap.size m i)=>(we l.da (L f.x.1) l.dc ae (L f.x.1) ag f.x.1 f.x.1 i rfl rfl (bb.o.below d).now.1 (ac.o.below d).rd).mono (R':=fun e w'=>e=ŗ (.bool true)/\Below m.heap.size m w') (fun e w' h=>⟨by rw[h.1,kr rfl],d.trans (h.2.mono d.size)⟩));have dR:=Zx (fun i (d:Below m.heap.size m i)=>(vL (D l.da (L f.x.1) l.dc) (D l.sa (L f.x.2) l.sc) f.x.1 f.x.2 _ i (bi.o.1.below (F.o.trans (d.mono F.o.size))) (bb.o.below d).now.1 (bb.o.below d).now.2 cU.o).mono (R':=fun e w'=>e=ŗ (.bool true)/\Below m.heap.size m w') (fun e w' h=>⟨h.1,d.trans (h.2.mono d.size)⟩));have dP:=Zx (fun i (d:Below m.heap.size m i)=>(Ob (Hv g (D ae (L f.x.1) ag)) g _ ix i (av.o.below d) (by have h:=I.o.1;rw[jA,te h.ch];exact h)).mono (R':=fun e w'=>∃ da dc sa sc,e=ŗ (ā #[D da (L ix.1) dc,D sa (L ix.2) sc])/\Δ w' (D da (L ix.1) dc) ix.1/\Below m.heap.size m w') (fun e w' ⟨da,dc,sa,sc,aE,v,aF⟩=>⟨da,dc,sa,sc,aE,v.now.1,d.trans (aF.mono d.size)⟩));have dM:=Zx (fun da dc i (d:Below m.heap.size m i) (bI:Δ i (D da (L ix.1) dc) ix.1)=>(Jt da (L ix.1) dc l.da (L f.x.1) l.dc ix.1 f.x.1 i rfl rfl bI (bb.o.below d).now.1 I.o.2.2).mono (R':=fun e w'=>e=ŗ (.bool true)/\Below m.heap.size m w') (fun e w' h=>⟨by rw[h.1,kr I.o.2.1],d.trans (h.2.mono d.size)⟩));have dT:=Zx (fun i (d:Below m.heap.size m i)=>(dS.o i (F.o.trans (d.mono F.o.size))).mono (R':=fun e w'=>e=ŗ (.bool true)/\Below m.heap.size m w') (fun e w' h=>⟨h.1,d.trans (h.2.mono d.size)⟩));clear dy br cK an aS aA bb ac av cU;have d2:Below m.heap.size m m.drew:=RZ.drew;go_region_held3 (fun i=>Below m.heap.size m i/\i.cell? ⟨cW,0,O⟩=J (D l.da (L f.x.1) l.dc)/\i.cell? ⟨cW,1,O⟩=J (D l.sa (L f.x.2) l.sc))
      (first|exact⟨d2,cE,dD⟩|assumption|exact⟨Ϙ,ζ Ϙ cE,ζ Ϙ dD⟩)
      (first|(go_at_call 12;refine(aC.o _ Ϙ).mono ?_;rintro e eW ⟨rfl,eA⟩)|(go_at_call 13;refine(dR.o _ Ϙ).mono ?_;rintro e eX ⟨rfl,eB⟩)|(go_at_call 15;refine(dP.o _ Ϙ).mono ?_;rintro e eY ⟨ev,ew,eU,eV,rfl,d5,eC⟩)|(go_at_call 14;refine(dM.o _ _ _ Ϙ d5).mono ?_;rintro e bu ⟨rfl,eD⟩)|(go_at_call 5;refine(dT.o _ Ϙ).mono ?_;rintro e cH ⟨rfl,d3⟩))
     go_wp2;go_ret;exact⟨rfl,F.o.trans (d3.mono F.o.size)⟩
