/- Part 16 of the proof. -/
import Derived.Test.YtpilfbcffofheaaGreatDoorm06
import Derived.Test.YtpilfbcffofheaaGreatDoorm14
set_option linter.unusedVariables false
set_option linter.unusedSimpArgs false
set_option maxRecDepth 100000
set_option maxHeartbeats 8000000
namespace Go.Proofs.YtpilfbcffofheaaGreatDoor
open Go.Proofs.Tryz Go.RowKit Go.Sort
open List renaming length->L
open Value renaming slice->D,agg->ā
open Obj renaming cells->C
open Option renaming none->O,some->J
open World renaming alloc->å,setCell->ŝ
open Ending renaming returned->ŗ
theorem Nk {bl:Ε} {ws:fV} {k:Nat} (a:k<L ws):kn bl ws (k+1)=(kn bl ws k).set ws[k].1 ws[k].2:=by
 rw[kn,Ρ a]
theorem Hm {ks:List Int} {bl:Ε} {ws:fV} {k:Nat} (a:k<L ws):kO ks bl ws (k+1)=(kO ks bl ws k).set ws[k].1 (iO (iR ks k) ws[k].2 ((kO ks bl ws k).getD ws[k].1 [])):=by
 rw[kO,Ρ a]
theorem AO (ba:Option Addr) (bc:Nat) (wa:Option Addr) (wc:Nat) (bl:Ε) (ws:fV) (w:β) (B:Δ w (D ba (L bl) bc) bl) (T:hL w (D wa (L ws) wc) ws) (m:ja bl ws) (aH:0<L bl) :
  Calls prog 63 #[ā #[D ba (L bl) bc,D wa (L ws) wc]] w (xi (gg bl ws) w):=by
 have aF:=Zh (fun k (r:BQ w k)=>sZ ba (L bl) bc wa (L ws) wc bl ws k (B.below r) (T.below r) m);have aD:=Zh (fun k (r:BQ w k)=>xK ba bc (D wa (L ws) wc) bl k (B.below r) aH m.nb m.lb);obtain⟨a3,a4,ai,HW⟩:=wE T;simp only[Ξ,Ϯ]at ai;obtain⟨rfl,rfl⟩:=ai;have ay:=Zh (fun a (ae:a<L ws)=>m.lw ws[a] (Χ ae));have aT:=m.nw;have Y:BQ w (å (å w (C #[D ba (L bl) bc,D wa (L ws) wc] 41)) (C #[D O 0 0,D O 0 0] 41)):=ġ.alloc ύ _;clear B T m;go_enter func63,ntmps63;go_wp2_with fail
 refine(aF.o _ Y).mono ?_;rintro e al ⟨rfl,Z⟩;obtain⟨I,ag,a7,a8,ab⟩:=fU Z;obtain⟨⟨aj,ak⟩,⟨W,f1⟩,-⟩:=ι I;have M:=Ϲ I (D ba (L bl) bc) (D wa (L ws) wc);have P:=(jf al w.heap.size (w.heap.size+1) ϊ (D ba (L bl) bc) (D wa (L ws) wc)).trans ag;have s:=fS ab NZ (D ba (L bl) bc) (D wa (L ws) wc);clear Y Z I ag ab;go_upto_region 2 with (fail)
 generalize ŝ (ŝ al ⟨w.heap.size,0,O⟩ (D ba (L bl) bc)) ⟨w.heap.size,1,O⟩ (D wa (L ws) wc)=q at *;obtain⟨⟨aj,ak⟩,⟨W,f1⟩,bd⟩:=ι M;obtain⟨-,-,be⟩:=ι P;go_wp2_with fail
 refine(aD.o q s).mono ?_;rintro e f ⟨h,d,rfl,hF,o⟩;have aR:=hF.b1;have aS:h<f.heap.size:=ο hF.arr;have N:=θ M o;obtain⟨⟨aj,ak⟩,⟨W,f1⟩,bf⟩:=ι N;have aV:=o.size;have aq:Hid (gR q.heap.size (å f (C #[D (J ⟨d,0,O⟩) (L bl) (L bl),D O 0 0] 41)) h d (kn bl ws 0)):=hF.alloc _;have aa:BQ f (å f (C #[D (J ⟨d,0,O⟩) (L bl) (L bl),D O 0 0] 41)):=ġ;have E:=s.trans (o.mono s.size);have ao:=Zh (E.trans (aa.mono E.size));have aO:=Zh N;have aA:=Zh (θ P o);clear hF o s E aa M P N;go_wp2;go_loopw [13] (fun U wr=>∃ a:Nat,a<=L ws/\U=IZ (a:Int)/\Hid (gR q.heap.size wr h d (kn bl ws a))/\Hid (∀ c,c<f.heap.size+1->c≠h->wr.heap[c]?=(å f (C #[D (J ⟨d,0,O⟩) (L bl) (L bl),D O 0 0] 41)).heap[c]?)/\BQ w wr) (fun U _=>L ws - (intOf U).toNat)
 case atStart=>exact⟨0,Ι _,rfl,aq.o,fun _ _ _=>rfl,ao.o⟩
 case round =>
  obtain⟨a,ae,rfl,V,x,l⟩:=hrel;have Q:=(x.o f.heap.size ϊ ϊ).trans (χ f _);obtain⟨⟨c0,c1⟩,⟨a5,a6⟩,a9⟩:=ι Q;have af:=uc bl ws a;by_cases G:a<L ws
  .obtain⟨b,off,da,dc,rfl,am,an,ah⟩:=HW.o a G
   obtain⟨p1,p2⟩:=ay.o a G;have aM:(a:Int)<(L ws:Int):=ϊ;have aY:(0:Int)<=(a:Int):=ϊ;have aZ:=ζ l am;have l1:=ζ l an;have S:=ah.below l;rw[p2]at l1 S;have aB:=Zh (S.below ((φ wr.heap.size wr).alloc NZ (C #[IZ ws[a].1,D da 64 dc] 84)));have aE:=Zh (Nk (bl:=bl) G);have az:=Zh p2;generalize ws[a].1=g at *;generalize ws[a].2=z at *;have F:BQ wr (å wr (C #[IZ g,D da 64 dc] 84)):=ġ;have n:=Zh (V.o.alloc (C #[IZ g,D da 64 dc] 84));have aK:=l.trans (F.mono l.size);have aG:=n.o.cell g ϊ;have aW:(0:Int)<=(g:Int):=ϊ;have aX:(g:Int)<(L bl:Int):=ϊ;have aQ:=yq n.o.l64;have aw:Hid (∀ c,c<f.heap.size+1->c≠h->(å wr (C #[IZ g,D da 64 dc] 84)).heap[c]?=(å f (C #[D (J ⟨d,0,O⟩) (L bl) (L bl),D O 0 0] 41)).heap[c]?):=fun c t u=>(F.block c ϊ).trans (x.o c t u);have aP:=ζ F c0;clear am an ah S p2 Q c1;go_wp2_with fail
   have aL:=χ wr (C #[IZ g,D da 64 dc] 84);generalize(å wr (C #[IZ g,D da 64 dc] 84))=y at *;obtain⟨⟨a0,t⟩,-,-⟩:=ι aL;have j:y.drew=y.drew:=rfl;refine ϸ (fun k=>k=y.drew) 8 ϋ ?_;refine Zf 0 j ?_;refine Zb 1 [4,5,8] j ?_;refine Zf 2 j ?_;refine Zb 3 [4,5,8] j ?_;refine Zf 4 j ?_;refine Zk 5 j ?_;refine Zf 6 j ?_;refine Zk 7 j ?_;refine jp (fuel:=0) ϋ ϋ rfl ?_;intro K X;refine zt rfl (.tmp 22) (.tmp 24) rfl h (g*64) 64 64 (kn bl ws a).flatten n.o.arr ϔ _ 64 z ϔ aB.o ϊ ϊ ?_;intro aN ad aI H aU;refine X _ _ ?_;clear X K;refine Zd ?_;have A:=n.o.copied (i:=g) ϊ az.o ϊ ad.o H;rw[show z++((kn bl ws a).getD g []).drop 64=z from by rw[ng (by rw[n.o.l64 _ (pw _ _ _ ϊ)];exact NZ),im],<-aE.o]at A;have ar:=Zh A;have av:Hid (∀ c,c<f.heap.size+1->c≠h->aN.heap[c]?=(å f (C #[D (J ⟨d,0,O⟩) (L bl) (L bl),D O 0 0] 41)).heap[c]?):=fun c t u=>(H c u).trans (aw.o c t u);have aJ:=aK.drew.trans (aI.mono (ϊ:w.heap.size<=h));clear A ad H;go_wp2_with fail
   go_roundw;case rel=>exact⟨a+1,ϊ,ϕ,ar.o,av.o,aJ⟩
   case measure=>simp[intOf];omega
  .have aM:¬(a:Int)<(L ws:Int):=ϊ
   obtain rfl:a=L ws:=ϊ;have ac:=V.o;have R:=(x.o (w.heap.size+1) ϊ ϊ).trans ((gX _ _ _ ϊ).trans aA.o);obtain⟨⟨aG,d1⟩,⟨a1,a2⟩,bb⟩:=ι R;have aC:=Zh (Ϲ R (D (J ⟨d,0,O⟩) (L bl) (L bl)) (D O 0 0));have ap:=Zh (fS l (go _ 1) (D (J ⟨d,0,O⟩) (L bl) (L bl)) (D O 0 0));have au:=Zh (((ac.set (p:=⟨w.heap.size+1,0,O⟩) ϑ (D (J ⟨d,0,O⟩) (L bl) (L bl))).set (p:=⟨w.heap.size+1,1,O⟩) ϑ (D O 0 0)).mono (ϊ:w.heap.size<=q.heap.size));have ax:=Zh af;clear ac R Q af;go_wp2;exact ϟ (v:=ā #[D (J ⟨d,0,O⟩) (L bl) (L bl),D O 0 0]) (jX (p:=2) (ty:=41) rfl _ _ (w.heap.size+1) 41 _ (0,0) _ rfl aC.o oW rfl ϋ) rfl ⟨h,d,by rw[show(L (gg bl ws))=L bl from ax.o],au.o,ap.o⟩
theorem Gc (ax:ε) (ks:List Int) (ba:Option Addr) (bc:Nat) (wa:Option Addr) (wc:Nat) (bl:Ε) (ws:fV) (w:β) (Q:Δ w (D ba (L bl) bc) bl) (ac:hL w (D wa (L ws) wc) ws) (s:ja bl ws) (N:0<L bl) (ap:Rd w ax (L ks) 1 (τ ks)) :
  Calls prog 61 #[ā #[D ba (L bl) bc,D wa (L ws) wc],ax] w (xi (gU ks bl ws) w):=by
 have aV:=Zh (fun q (B:BQ w q)=>sZ ba (L bl) bc wa (L ws) wc bl ws q (Q.below B) (ac.below B) s);have aR:=Zh (fun q (B:BQ w q)=>xK ba bc (D wa (L ws) wc) bl q (Q.below B) N s.nb s.lb);obtain⟨bx,bz,l,HW⟩:=wE ac;simp only[Ξ,Ϯ]at l;obtain⟨rfl,rfl⟩:=l;have aN:=Zh (fun a (an:a<L ws)=>s.lw ws[a] (Χ an));have bk:=s.nw;have ag:BQ w (å (å w (C #[D ba (L bl) bc,D wa (L ws) wc] 41)) (C #[D O 0 0,D O 0 0] 41)):=ġ.alloc ύ _;obtain⟨a5,bq,rfl,bi,aK⟩:=jQ rfl ap;clear Q ac s ap;go_enter func61,ntmps61;go_wp2_with fail
 refine(aV.o _ ag).mono ?_;rintro e az ⟨rfl,ah⟩;obtain⟨V,ar,bC,bD,ak⟩:=fU ah;obtain⟨⟨av,aw⟩,⟨ae,f1⟩,-⟩:=ι V;have W:=Ϲ V (D ba (L bl) bc) (D wa (L ws) wc);have Y:=(jf az w.heap.size (w.heap.size+1) ϊ (D ba (L bl) bc) (D wa (L ws) wc)).trans ar;have E:=fS ak NZ (D ba (L bl) bc) (D wa (L ws) wc);clear ag ah V ar ak;go_upto_region 2 with (fail)
 generalize ŝ (ŝ az ⟨w.heap.size,0,O⟩ (D ba (L bl) bc)) ⟨w.heap.size,1,O⟩ (D wa (L ws) wc)=A at *;obtain⟨⟨av,aw⟩,⟨ae,f1⟩,bG⟩:=ι W;obtain⟨-,-,bH⟩:=ι Y;go_wp2_with fail
 refine(aR.o A E).mono ?_;rintro e k ⟨m,j,rfl,hF,u⟩;have bg:=hF.b1;have bh:m<k.heap.size:=ο hF.arr;have X:=θ W u;obtain⟨⟨av,aw⟩,⟨ae,f1⟩,bI⟩:=ι X;have bn:=u.size;have aF:Hid (gR A.heap.size (å k (C #[D (J ⟨j,0,O⟩) (L bl) (L bl),D O 0 0] 41)) m j (kO ks bl ws 0)):=hF.alloc _;have ai:BQ k (å k (C #[D (J ⟨j,0,O⟩) (L bl) (L bl),D O 0 0] 41)):=ġ;have R:=E.trans (u.mono E.size);have aC:=Zh (R.trans (ai.mono R.size));have bb:=Zh X;have aP:=Zh (θ Y u);clear hF u E R ai W Y X;go_wp2;go_loopw [16] (fun o wr=>∃ a:Nat,a<=L ws/\o=IZ (a:Int)/\Hid (gR A.heap.size wr m j (kO ks bl ws a))/\Hid (∀ d,d<k.heap.size+1->d≠m->wr.heap[d]?=(å k (C #[D (J ⟨j,0,O⟩) (L bl) (L bl),D O 0 0] 41)).heap[d]?)/\BQ w wr) (fun o _=>L ws - (intOf o).toNat)
 case atStart=>exact⟨0,Ι _,rfl,aF.o,fun _ _ _=>rfl,aC.o⟩
 case round =>
  obtain⟨a,an,rfl,ad,I,r⟩:=hrel;have Z:=(I.o k.heap.size ϊ ϊ).trans (χ k _);obtain⟨⟨c0,c1⟩,⟨bA,bB⟩,bE⟩:=ι Z;have aq:=xZ ks bl ws a;by_cases T:a<L ws
  .obtain⟨b,off,da,dc,rfl,aA,aB,au⟩:=HW.o a T
   obtain⟨p1,p2⟩:=aN.o a T;have a6:(a:Int)<(L ws:Int):=ϊ;have br:(0:Int)<=(a:Int):=ϊ;have bt:=ζ r aA;have l1:=ζ r aB;have ab:=au.below r;rw[p2]at l1 ab;have M:=Zh (ab.below ((φ wr.heap.size wr).alloc NZ (C #[IZ ws[a].1,D da 64 dc] 84)));have aS:=Zh (Hm (ks:=ks) (bl:=bl) T);have aO:=Zh p2;generalize ws[a].1=f at *;generalize ws[a].2=t at *;have S:BQ wr (å wr (C #[IZ f,D da 64 dc] 84)):=ġ;have z:=Zh (ad.o.alloc (C #[IZ f,D da 64 dc] 84));have aj:=r.trans (S.mono r.size);have aY:=z.o.cell f ϊ;have bo:(0:Int)<=(f:Int):=ϊ;have bp:(f:Int)<(L bl:Int):=ϊ;have bf:=yq z.o.l64;have aJ:Hid (∀ d,d<k.heap.size+1->d≠m->(å wr (C #[IZ f,D da 64 dc] 84)).heap[d]?=(å k (C #[D (J ⟨j,0,O⟩) (L bl) (L bl),D O 0 0] 41)).heap[d]?):=fun d F G=>(S.block d ϊ).trans (I.o d F G);have bd:=ζ S c0;clear aA aB au ab p2 Z c1
   go_upto_if 24 with (fail)
   have a4:=χ wr (C #[IZ f,D da 64 dc] 84);have aL:Hid (∀ o (hi:o<L ks),∃ b off,a5=J ⟨b,off,O⟩/\(å wr (C #[IZ f,D da 64 dc] 84)).cell? ⟨b,off+o,O⟩=J (IZ ks[o])):=fun o hi=>by
    obtain⟨b2,ay,rfl,g⟩:=aK.o o hi;exact⟨b2,ay,rfl,ζ aj g⟩
   generalize(å wr (C #[IZ f,D da 64 dc] 84))=aW at *;obtain⟨⟨bu,F⟩,-,-⟩:=ι a4;go_cut [8] (fun a8 wc=>a8=IZ ((iR ks a:Nat):Int)/\wc=aW)
   case first =>
    by_cases ao:a<L ks
    .obtain⟨b2,ay,rfl,g⟩:=aL.o a ao
     have a7:(a:Int)<(L ks:Int):=ϊ;have x:((iR ks a:Nat):Int)=min (max ks[a] 0) 64:=by
      unfold iR;rw[Ρ ao];simp only;omega
     have H:=Zh x;clear x;generalize ks[a]=bs at *;go_wp2;go_meet;case rel=>exact⟨by rw[H.o],rfl⟩
    .have a7:¬(a:Int)<(L ks:Int):=ϊ
     have x:((iR ks a:Nat):Int)=0:=by
      unfold iR;rw[kZ ϊ];rfl
     have H:=Zh x;clear x;go_wp2;go_meet;case rel=>exact⟨by rw[H.o],rfl⟩
   case rest =>
   obtain⟨rfl,rfl⟩:=hcut;have a3:iR ks a<=64:=by
    unfold iR;split<;>omega
   have aU:Hid (Rd wc (D da (iR ks a) dc) (iR ks a) 1 (η (t.take (iR ks a)))):=by
    have h:=M.o;obtain⟨-,-,⟨aX,c,l,N⟩|⟨b3,y,c,l,-,-⟩⟩:=h
    .omega
    .simp only[Ξ,Ϯ]at l
     obtain⟨rfl,rfl⟩:=l;exact vQ M.o a3
   have a1:∃ b3 y,da=J ⟨b3,y,O⟩/\64<=dc:=by
    obtain⟨-,-,⟨aX,c,l,N⟩|⟨b3,y,c,l,-,a2,-⟩⟩:=M.o
    .omega
    .simp only[Ξ,Ϯ]at l
     obtain⟨rfl,rfl⟩:=l;exact⟨b3,y,rfl,a2⟩
   obtain⟨b3,y,rfl,be⟩:=a1;have aE:Hid (L (t.take (iR ks a))=iR ks a):=by show _=_;have:=aO.o;simp;omega
   have aT:Hid (t.take (iR ks a)++((kO ks bl ws a).getD f []).drop (iR ks a)=iO (iR ks a) t ((kO ks bl ws a).getD f [])):=rfl;generalize iR ks a=n at *;have bj:n<=dc:=ϊ;go_wp2_with fail
   refine ϸ (fun q=>q=wc.drew) 10 ϋ ?_;refine Zf 0 rfl ?_;refine Zb 1 [4,5,10] rfl ?_;refine Zf 2 rfl ?_;refine Zb 3 [4,5,10] rfl ?_;refine Zf 4 rfl ?_;refine Zk 5 rfl ?_;refine Zf 6 rfl ?_;refine Zb 7 [9,10] rfl ?_;refine Zf 8 rfl ?_;refine Zf 9 rfl ?_;refine jp (fuel:=0) ϋ ϋ rfl ?_;intro K af;refine zt rfl (.tmp 36) (.tmp 40) rfl m (f*64) 64 64 (kO ks bl ws a).flatten z.o.arr ϔ _ n (t.take n) ϔ aU.o ϊ ϊ ?_;intro a9 am aZ U bm;refine af _ _ ?_;clear af K;refine Zd ?_;have P:=z.o.copied (i:=f) ϊ aE.o ϊ am.o U;rw[aT.o,<-aS.o]at P;have aG:=Zh P;have aI:Hid (∀ d,d<k.heap.size+1->d≠m->a9.heap[d]?=(å k (C #[D (J ⟨j,0,O⟩) (L bl) (L bl),D O 0 0] 41)).heap[d]?):=fun d F G=>(U d G).trans (aJ.o d F G);have a0:=aj.drew.trans (aZ.mono (ϊ:w.heap.size<=m));clear P am U;go_wp2_with fail
   go_roundw;case rel=>exact⟨a+1,ϊ,ϕ,aG.o,aI.o,a0⟩
   case measure=>simp[intOf];omega
  .have a6:¬(a:Int)<(L ws:Int):=ϊ
   obtain rfl:a=L ws:=ϊ;have al:=ad.o;have aa:=(I.o (w.heap.size+1) ϊ ϊ).trans ((gX _ _ _ ϊ).trans aP.o);obtain⟨⟨aY,d1⟩,⟨bv,bw⟩,bF⟩:=ι aa;have aQ:=Zh (Ϲ aa (D (J ⟨j,0,O⟩) (L bl) (L bl)) (D O 0 0));have aD:=Zh (fS r (go _ 1) (D (J ⟨j,0,O⟩) (L bl) (L bl)) (D O 0 0));have aH:=Zh (((al.set (p:=⟨w.heap.size+1,0,O⟩) ϑ (D (J ⟨j,0,O⟩) (L bl) (L bl))).set (p:=⟨w.heap.size+1,1,O⟩) ϑ (D O 0 0)).mono (ϊ:w.heap.size<=A.heap.size));have aM:=Zh aq;clear al aa Z aq;go_wp2;exact ϟ (v:=ā #[D (J ⟨j,0,O⟩) (L bl) (L bl),D O 0 0]) (jX (p:=4) (ty:=41) rfl _ _ (w.heap.size+1) 41 _ (0,0) _ rfl aQ.o oW rfl ϋ) rfl ⟨m,j,by rw[show(L (gU ks bl ws))=L bl from aM.o],aH.o,aD.o⟩
theorem ς.of_ownB {base lo:Nat} {v a:ε} {w:β} {n:Nat} {l:γ} (h:Φ lo w a n l) (b:base<=lo) (c:∀ g,v.ownBlock=J g->g<lo):ς (kb base v) w (fun d=>Rd d a (L l) 1 (η l)):=by
 rw[h.1];exact h.hi.rowH b c
def ke (base:Nat) (w:β) (v:ε) (ws:fV):Prop:= ∃ b,w.ownsRow base 84 2 v (L ws) b/\(∀ a (d:a<L ws),b[a*2]?=J (IZ ws[a].1)) /\
 ς (kb base v) w (fun e=>∀ a (d:a<L ws),∃ c,b[a*2+1]?=J c/\Rd e c (L ws[a].2) 1 (η ws[a].2))
theorem ke.nil (w:β) (base:Nat):ke base w (D O 0 0) []:=⟨[],hZ w base _ 2,fun b a=>by simp at a,fun _ _ b a=>by simp at a⟩
theorem ke.hi {base:Nat} {w:β} {v:ε} {ws:fV} (h:ke base w v ws):Hi base w (fun c=>hL c v ws):=by
 obtain⟨d,e,f,i⟩:=h;refine(i.rowHi e).imp fun c g=>⟨d,g.2,fun b a=>⟨f b a,g.1 b a⟩⟩
theorem ke.below {base:Nat} {w w':β} {v:ε} {ws:fV} (h:ke base w v ws) (a:BQ w w'):ke base w' v ws:=by
 obtain⟨b,c,d,e⟩:=h;exact⟨b,Υ c a,d,e.below a⟩
theorem ke.set {base:Nat} {w:β} {v:ε} {ws:fV} (h:ke base w v ws) {p:Addr} (a:p.block<base) (x:ε):ke base (ŝ w p x) v ws:=by
 obtain⟨b,c,d,e⟩:=h;exact⟨b,il c a x,d,e.set (.inl a) x⟩
theorem ke.snoc {base:Nat} {w w':β} {v f e:ε} {ws:fV} {a:List ε} {h:Nat} {b:γ} (p:w.ownsRow base 84 2 v (L ws) a) (n:∀ k (c:k<L ws),a[k*2]?=J (IZ ws[k].1))
  (m:ς (kb base v) w (fun g=>∀ k (c:k<L ws),∃ u,a[k*2+1]?=J u/\Rd g u (L ws[k].2) 1 (η ws[k].2)))
  (o:ς (kb base v) w (fun g=>Rd g e (L b) 1 (η b))) (q:w'.ownsRow base 84 2 f (L ws+1) (a++[IZ h,e])) (hg:w.grownBy w' v.ownBlock) (r:f.ownBlock=v.ownBlock\/f.ownBlock=J w.heap.size):ke base w' f (ws++[(h,b)]):=by
 have i:=p.1;refine⟨a++[IZ h,e],by simpa using q,fun k c=>?_,((m.and o).grown hg r).imp fun g ⟨j,l⟩ k c=>?_⟩
 .by_cases d:k<L ws
  .rw[iX ϊ,ph d];exact n k d
  .have:k=L ws:=by simp at c;omega
   subst this;rw[gO ϊ,i,kE];simp
 .by_cases d:k<L ws
  .rw[iX ϊ]
   simp only[ph d];exact j k d
  .have:k=L ws:=by simp at c;omega
   subst this;refine⟨e,?_,by simpa using l⟩;rw[gO ϊ,i,show L ws*2+1 - L ws*2=1 from ϊ];rfl
theorem IY:(prog.info? 84).map (fun i=>(i.zero,i.size,i.bytes))=J (J (ā #[IZ 0,D O 0 0]),2,32):=ϋ
theorem Ge (i:Nat) (v:ε) (b:γ) (ba:Option Addr) (bc:Nat) (wa:Option Addr) (y:Nat) (bl:Ε) (ws:fV) (w:β) (aw:Δ w (D ba (L bl) bc) bl) (aG:hL w (D wa (L ws) y) ws) (I:ja bl ws) (hi:i<L bl) (Z:Rd w v 64 1 (η b)) (bS:L ws<1000) :
  Calls prog 222 #[ā #[D ba (L bl) bc,D wa (L ws) y],IZ i,v] w fun e w'=>∃ k aM c1,e=ŗ (.tuple #[ā #[D (J ⟨k,0,O⟩) (L bl) (L bl),D aM (L ws+1) c1],IZ 0])/\Hi w.heap.size w' (fun P=>Δ P (D (J ⟨k,0,O⟩) (L bl) (L bl)) bl/\hL P (D aM (L ws+1) c1) (ws++[(i,b)]))/\BQ w w':=by
 obtain⟨be,a5,a7,a8,a9⟩:=ϯ IY;have aW:L b=64:=by have:=Z.1;simpa[η] using this
 obtain⟨bH,bI,rfl⟩:=ra (show Rd w v (L b) 1 (η b)by rw[aW];exact Z);rw[aW]at Z ⊢;have bu:=Zh (fun f (d:BQ w f)=>sZ ba (L bl) bc wa (L ws) y bl ws f (aw.below d) (aG.below d) I);have br:=Zh (fun f (d:BQ w f)=>xK ba bc (D wa (L ws) y) bl f (aw.below d) ϊ I.nb I.lb);have bk:=Zh (fun f (d:BQ w f)=>xI (D bH 64 bI) b f (Z.below d));obtain⟨b2,b3,a6,HW⟩:=wE aG;simp only[Ξ,Ϯ]at a6;obtain⟨rfl,rfl⟩:=a6;have aK:=Zh (fun a (a0:a<L ws)=>I.lw ws[a] (Χ a0));have bQ:=I.nb;have bU:¬(i:Int)<0:=ϊ;have bV:¬(L bl:Int)<=(i:Int):=ϊ;have bW:¬(1000:Int)<=(L ws:Int):=ϊ;have aR:BQ w (å (å w (C #[D ba (L bl) bc,D wa (L ws) y] 41)) (C #[D O 0 0,D O 0 0] 41)):=ġ.alloc ύ _;clear aw aG I Z;go_enter func222,ntmps222;go_wp2_with fail
 refine(bu.o _ aR).mono ?_;rintro e bf ⟨rfl,aS⟩;obtain⟨aB,a3,b4,b5,aY⟩:=fU aS;obtain⟨⟨bb,bd⟩,⟨aQ,f1⟩,-⟩:=ι aB;have aC:=Ϲ aB (D ba (L bl) bc) (D wa (L ws) y);have aD:=(jf bf w.heap.size (w.heap.size+1) ϊ (D ba (L bl) bc) (D wa (L ws) y)).trans a3;have ag:=fS aY NZ (D ba (L bl) bc) (D wa (L ws) y);clear aR aS aB a3 aY;go_upto_region 2 with (fail)
 generalize ŝ (ŝ bf ⟨w.heap.size,0,O⟩ (D ba (L bl) bc)) ⟨w.heap.size,1,O⟩ (D wa (L ws) y)=aL at *;obtain⟨⟨bb,bd⟩,⟨aQ,f1⟩,b9⟩:=ι aC;obtain⟨-,-,ca⟩:=ι aD;go_wp2_with fail
 refine(br.o aL ag).mono ?_;rintro e c ⟨bz,k,rfl,hF,V⟩;have bL:=hF.b1;have bN:=hF.b2;have bM:bz<c.heap.size:=ο hF.arr;have bO:k<c.heap.size:=ο hF.row;have a2:=θ aC V;obtain⟨⟨bb,bd⟩,⟨aQ,f1⟩,cb⟩:=ι a2;have bT:=V.size;have aV:BQ c (å c (C #[D (J ⟨k,0,O⟩) (L bl) (L bl),D O 0 0] 41)):=ġ;have aT:=ag.trans (V.mono ag.size);have bC:=χ c (C #[D (J ⟨k,0,O⟩) (L bl) (L bl),D O 0 0] 41);have bE:BQ c (å c (C #[D (J ⟨k,0,O⟩) (L bl) (L bl),D O 0 0] 41)):=aV;have ab:=Zh aT;have bo:=Zh (θ aD V);have bm:=Zh hF;clear hF V ag aT aV aC aD a2;go_wp2;go_loopw [38] (fun i wr=>∃ (a:Nat) (ai:ε),a<=L ws/\i=IZ (a:Int)/\Hid (wr.heap[c.heap.size]?=J (C #[D (J ⟨k,0,O⟩) (L bl) (L bl),ai] 41 (0,0)))/\Hid (ke (c.heap.size+1) wr ai (ws.take a))/\BQ c wr) (fun i _=>L ws - (intOf i).toNat)
 case atStart=>exact⟨0,D O 0 0,Ι _,rfl,bC,ke.nil _ _,bE⟩
 case round =>
  obtain⟨a,ai,a0,rfl,ac,ae,X⟩:=hrel;obtain⟨⟨c0,c1⟩,⟨aj,ak⟩,al⟩:=ι ac.o;have H:=ab.o.trans (X.mono ab.o.size);have bD:∃ ar au,ai=D ar a au:=by
   obtain⟨af,S,-⟩:=ae.o;obtain⟨ar,au,bA⟩:=Θ S;exact⟨ar,au,by rw[bA];congr 1;simp;omega⟩
  obtain⟨r,s,rfl⟩:=bD;by_cases ay:a<L ws
  .obtain⟨bZ,off,da,dc,rfl,bg,bh,aF⟩:=HW.o a ay
   obtain⟨p1,p2⟩:=aK.o a ay;have bF:(a:Int)<(L ws:Int):=ϊ;have bX:(0:Int)<=(a:Int):=ϊ;have bY:=ζ H bg;have l1:=ζ H bh;rw[p2]at l1 aF;have bj:=Zh (fun f (d:BQ w f)=>xI (D da 64 dc) ws[a].2 f (aF.below d));have bs:Hid (ws.take (a+1)=ws.take a++[(ws[a].1,ws[a].2)]):=by show _=_;rw[kD ay]
   have bt:Hid (L (ws.take a)=a):=by show _=_;simp;omega
   have bJ:=Zh p2;generalize ws[a].1=B at *;generalize ws[a].2=aN at *;have ah:BQ wr (å wr (C #[IZ B,D da 64 dc] 84)):=ġ;have aX:=H.trans (ah.mono H.size);have aU:=X.trans (ah.mono X.size);have Q:=Zh (ae.o.below ah);have bB:=χ wr (C #[IZ B,D da 64 dc] 84);have ad:=Zh (θ ac.o ah);clear bg bh aF p2;go_wp2_with fail
   generalize(å wr (C #[IZ B,D da 64 dc] 84))=R at *;obtain⟨⟨aI,aJ⟩,-,-⟩:=ι bB;obtain⟨⟨c0,c1⟩,⟨aj,ak⟩,al⟩:=ι ad.o;have m:BQ R R.drew:=RZ.drew;refine ϸ (fun f=>BQ R f) 9 ϋ ?_;refine Zf 0 m ?_;refine Zk 1 m ?_ (hy:=by intro f d;have av:=ζ d c1;have aO:=ζ d aI;have aP:=ζ d aJ;go_simp;try with_reducible rfl);refine Zf 2 m ?_;refine Zb 3 [7,8,9] m ?_ (hy:=by intro f d;have av:=ζ d c1;have aO:=ζ d aI;have aP:=ζ d aJ;go_simp;try with_reducible rfl);refine Zf 4 m ?_;refine Zb 5 [6,7,8,9] m ?_ (hy:=by intro f d;have av:=ζ d c1;have aO:=ζ d aI;have aP:=ζ d aJ;go_simp;try with_reducible rfl);refine Ψ (fuel:=5) 6 ϋ rfl ?_;intro K l;go_simp;refine(bj.o _ (aX.trans (m.mono aX.size))).mono ?_;rintro e F ⟨q,rfl,aA,ax⟩;have o:BQ R F:=m.trans ax;refine l _ _ o ?_;clear l K;try simp only[Act.put]
   refine Zf 7 o ?_;refine Ψ (fuel:=3) 8 ϋ rfl ?_;intro K l;go_simp;refine l _ _ (o.alloc o.size _) ?_;clear l K;have n:=Zh (o.alloc o.size (C #[IZ B,D (J ⟨q,0,O⟩) 64 64] 84));obtain⟨af,M,U,T⟩:=Q.o.below n.o;have bP:=Ν M;have Y:ς (kb (c.heap.size+1) (D r a s)) (å F (C #[IZ B,D (J ⟨q,0,O⟩) 64 64] 84)) (fun P=>Rd P (D (J ⟨q,0,O⟩) 64 64) (L aN) 1 (η aN)):=by
    have az:∀ g,(Value.slice r a s).ownBlock=J g->g<R.drew.heap.size:=by
     obtain⟨bx,S,-⟩:=Q.o;exact fun g hg=>(Ν S g hg).2
    exact ς.of_ownB (aA.alloc _) (by have:=al;simp only[World.drew];omega) az
   have A:=Zh M;have am:=Zh U;have ao:=Zh T;have an:=Zh Y;clear M U T Y;have a1:L (ws.take a)=a:=bt.o;refine jp (fuel:=2) ϋ ϋ rfl ?_;intro K l;refine lx rfl (.tmp 43) (.tmp 50) 39 39 rfl (c.heap.size+1) 84 be _ 2 32 sj a5 a7 a8 a9 rfl (D r a s) (L (ws.take a)) af ϔ A.o _ 1 [IZ B,D (J ⟨q,0,O⟩) 64 64] ϔ (ig sj F #[IZ B,D (J ⟨q,0,O⟩) 64 64] 2 1 1 rfl ϗ) ώ ϊ (by have:=n.o.size;omega) ?_;intro bG t z x N;refine l _ _ ?_;clear l K;obtain⟨h,j,rfl⟩:=Θ z;rw[a1]at z N;refine Ze 10 ?_;have ap:Hid (ke (c.heap.size+1) t (D h (a+1) j) (ws.take (a+1))):=by
    show ke _ _ _ _;rw[bs.o];exact ke.snoc A.o am.o ao.o an.o (by rw[a1];exact z) x N
   have aa:∀ g,(Value.slice r a s).ownBlock=J g->c.heap.size+1<=g:=fun g hg=>(Ν A.o g hg).1;have E:t.heap[c.heap.size]?=J (C #[D (J ⟨k,0,O⟩) (L bl) (L bl),D r a s] 41 (0,0)):=by
    rw[x.block _ (by have:=n.o.size;omega) (fun e=>by have:=aa _ e.symm;omega)];exact θ ad.o n.o
   have W:BQ c t:=(aU.trans (n.o.mono aU.size)).grown x (by have:=n.o.size;omega) (fun g hg=>by have:=aa g hg;omega);obtain⟨⟨c0,c1⟩,⟨aj,ak⟩,al⟩:=ι E;refine Ze 11 ?_;refine Zd ?_;have bp:Hid ((ŝ t ⟨c.heap.size,1,O⟩ (D h (a+1) j)).heap[c.heap.size]?=J (C #[D (J ⟨k,0,O⟩) (L bl) (L bl),D h (a+1) j] 41 (0,0))):=π _ _ 1 _ _ _ E;have aq:=Zh (ap.o.set (p:=⟨c.heap.size,1,O⟩) ύ (D h (a+1) j));have G:=W.setCell (p:=⟨c.heap.size,1,O⟩) NZ (D h (a+1) j);clear E W z x N;go_wp2_with fail
   go_roundw;case rel=>exact⟨a+1,D h (a+1) j,ϊ,ϕ,bp.o,aq.o,G⟩
   case measure=>simp[intOf];omega
  .have bF:¬(a:Int)<(L ws:Int):=ϊ
   obtain rfl:a=L ws:=ϊ;have aH:=ae.o;rw[pa]at aH;have Q:=Zh aH;have ad:=ac;have bR:BQ wr wr:=φ _ _;clear aH ae ac HW aK;go_wp2_with fail
   have m:BQ wr wr.drew:=RZ.drew;refine ϸ (fun f=>BQ wr f) 7 ϋ ?_;refine Zf 0 m ?_;refine Zk 1 m ?_ (hy:=by intro f d;have av:=ζ d c1;go_simp;try with_reducible rfl);refine Zf 2 m ?_;refine Zf 3 m ?_;refine Ψ (fuel:=5) 4 ϋ rfl ?_;intro K l;go_simp;refine(bk.o _ (H.trans (m.mono H.size))).mono ?_;rintro e F ⟨q,rfl,aA,ax⟩;have o:BQ wr F:=m.trans ax;refine l _ _ o ?_;clear l K;try simp only[Act.put]
   refine Zf 5 o ?_;refine Ψ (fuel:=3) 6 ϋ rfl ?_;intro K l;go_simp;refine l _ _ (o.alloc o.size _) ?_;clear l K;have n:=Zh (o.alloc o.size (C #[IZ i,D (J ⟨q,0,O⟩) 64 64] 84));obtain⟨af,M,U,T⟩:=Q.o.below n.o;have Y:ς (kb (c.heap.size+1) (D r (L ws) s)) (å F (C #[IZ i,D (J ⟨q,0,O⟩) 64 64] 84)) (fun P=>Rd P (D (J ⟨q,0,O⟩) 64 64) (L b) 1 (η b)):=by
    have az:∀ g,(Value.slice r (L ws) s).ownBlock=J g->g<wr.drew.heap.size:=by
     obtain⟨bx,S,-⟩:=Q.o;exact fun g hg=>(Ν S g hg).2
    exact ς.of_ownB (aA.alloc _) (by have:=al;simp only[World.drew];omega) az
   have A:=Zh M;have am:=Zh U;have ao:=Zh T;have an:=Zh Y;clear M U T Y;refine jp (fuel:=2) ϋ ϋ rfl ?_;intro K l;refine lx rfl (.tmp 55) (.tmp 60) 39 39 rfl (c.heap.size+1) 84 be _ 2 32 sj a5 a7 a8 a9 rfl (D r (L ws) s) (L ws) af ϔ A.o _ 1 [IZ i,D (J ⟨q,0,O⟩) 64 64] ϔ (ig sj F #[IZ i,D (J ⟨q,0,O⟩) 64 64] 2 1 1 rfl ϗ) ώ ϊ (by have:=n.o.size;omega) ?_;intro bG t z x N;refine l _ _ ?_;clear l K;obtain⟨h,j,rfl⟩:=Θ z;refine Ze 8 ?_;have ap:Hid (ke (c.heap.size+1) t (D h (L ws+1) j) (ws++[(i,b)])):=ke.snoc A.o am.o ao.o an.o z x N;have aa:∀ g,(Value.slice r (L ws) s).ownBlock=J g->c.heap.size+1<=g:=fun g hg=>(Ν A.o g hg).1;have E:t.heap[c.heap.size]?=J (C #[D (J ⟨k,0,O⟩) (L bl) (L bl),D r (L ws) s] 41 (0,0)):=by
    rw[x.block _ (by have:=n.o.size;omega) (fun e=>by have:=aa _ e.symm;omega)];exact θ ad.o n.o
   have W:BQ c t:=(X.trans (n.o.mono X.size)).grown x (by have:=n.o.size;omega) (fun g hg=>by have:=aa g hg;omega);obtain⟨⟨c0,c1⟩,⟨aj,ak⟩,b6⟩:=ι E;refine Ze 9 ?_;refine Zd ?_;have a4:=π t c.heap.size 1 _ _ (D h (L ws+1) j) E;have G:=W.setCell (p:=⟨c.heap.size,1,O⟩) NZ (D h (L ws+1) j);have aq:=Zh (ap.o.set (p:=⟨c.heap.size,1,O⟩) ύ (D h (L ws+1) j));clear E W z x N;generalize ŝ t ⟨c.heap.size,1,O⟩ (D h (L ws+1) j)=bw at *;obtain⟨⟨c0,c1⟩,⟨aj,ak⟩,b7⟩:=ι (show bw.heap[c.heap.size]?=J (C #[D (J ⟨k,0,O⟩) (L bl) (L bl),D h (L ws+1) j] 41 (0,0))from a4);have aE:=θ bo.o G;obtain⟨⟨bK,d1⟩,⟨b0,b1⟩,b8⟩:=ι aE;have aZ:=ab.o.trans (G.mono ab.o.size);have bq:=Zh (Ϲ aE (D (J ⟨k,0,O⟩) (L bl) (L bl)) (D h (L ws+1) j));have bi:=Zh (fS aZ (go _ 1) (D (J ⟨k,0,O⟩) (L bl) (L bl)) (D h (L ws+1) j));have bn:=Zh ((((bm.o.below G).set (p:=⟨w.heap.size+1,0,O⟩) ϑ (D (J ⟨k,0,O⟩) (L bl) (L bl))).set (p:=⟨w.heap.size+1,1,O⟩) ϑ (D h (L ws+1) j)).hi.mono (ϊ:w.heap.size<=aL.heap.size));have bv:=Zh (((aq.o.set (p:=⟨w.heap.size+1,0,O⟩) ϑ (D (J ⟨k,0,O⟩) (L bl) (L bl))).set (p:=⟨w.heap.size+1,1,O⟩) ϑ (D h (L ws+1) j)).hi.mono (ϊ:w.heap.size<=c.heap.size+1));clear aE a4 G aZ;go_wp2;exact ϟ (v:=.tuple #[ā #[D (J ⟨k,0,O⟩) (L bl) (L bl),D h (L ws+1) j],IZ 0]) (gf (p:=6) (u:=7) (ty:=41) rfl _ _ (w.heap.size+1) 41 _ (0,0) _ rfl bq.o oW rfl ϋ) rfl ⟨k,h,j,rfl,bn.o.and bv.o,bi.o⟩
