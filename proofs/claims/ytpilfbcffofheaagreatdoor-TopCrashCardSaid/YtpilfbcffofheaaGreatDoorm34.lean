/- Part 34 of the proof. -/
import Derived.Test.YtpilfbcffofheaaGreatDoorm29
set_option linter.unusedVariables false
set_option linter.unusedSimpArgs false
set_option maxRecDepth 100000
set_option maxHeartbeats 16000000
namespace Go.Proofs.YtpilfbcffofheaaGreatDoor
open Go.Proofs.Tryz Go.RowKit Go.Sort
open Value renaming slice->D,agg->ā,string->š
open Option renaming none->O,some->J
open List renaming length->L
open Ending renaming returned->ŗ
open World renaming setCell->ŝ,alloc->å
open Obj renaming cells->C
theorem nS {w:β} {a:Option Addr} {n c:Nat} {docs:List (γ)} (h:Δ w (D a n c) docs) (u:L docs=n) (k:Nat) (p:k<L docs):∃ b off da dc,a=J ⟨b,off,O⟩/\n<=c/\c<=maxLen/\w.cell? ⟨b,off+k,O⟩=J (D da (L docs[k]) dc)/\Rd w (D da (L docs[k]) dc) (L docs[k]) 1 (η docs[k]):=by
 obtain⟨x,⟨s,t,o⟩,j⟩:=h;rcases o with ⟨q,f,d,i⟩|⟨b,off,f,d,i,v,m,l⟩
 .omega
 .simp only[Ξ]at d
  obtain⟨rfl,-,rfl⟩:=d;obtain⟨r,g,e⟩:=j k p;obtain⟨da,dc,rfl⟩:=ra e;exact⟨b,off,da,dc,rfl,ϊ,m,l _ _ g,e⟩
structure mJ (p:Prop):Prop where
 o:p
def Ai (docs:List (γ)) (n:Nat) (w:β) (e:Ending) (w':β):Prop:= ∃ g,e=ŗ (D (J ⟨g,0,O⟩) n n)/\Hi w.heap.size w' (fun a=>Δ a (D (J ⟨g,0,O⟩) n n) docs)/\Below w.heap.size w w'
theorem ES (da:Option Addr) (n dc:Nat) (docs:List (γ)) (w:β) (I:L docs=n) (B:Δ w (D da n dc) docs) (H:∀ k (ak:k<L docs),L docs[k]<=100000) (ay:n<=5000) :
  Calls prog 31 #[D da n dc] w (Ai docs n w):=by
 have Q:=mJ.mk (fun Y (af:BQ w Y)=>B.below af);have V:=mJ.mk H;have l:=mJ.mk I;obtain⟨ar,aj,am,an,ao⟩:=ϯ yB;clear B H I;go_enter func31,ntmps31;go_wp2_with (at_make;refine si w rfl (.tmp 7) (.tmp 7) _ rfl w.heap.size 31 ar _ 1 kY aj am an .i64 .i64 _ _ n rfl rfl ύ ύ (by rw[ao];omega) ώ NZ ?_;intro g u E;have ag:BQ w g:=RZ.grown E NZ (fun _ h=>by cases h))
 have W:=mJ.mk u;have ai:=(Ν u w.heap.size rfl).2;clear E u;go_loopw [11] (fun c wr=>∃ (k:Nat) (i:List ε),k<=n/\c=IZ k/\mJ (wr.ownsRow w.heap.size 31 1 (D (J ⟨w.heap.size,0,O⟩) n n) n i)/\mJ (Hi g.heap.size wr (lj docs i k))/\BQ w wr/\g.heap.size<=wr.heap.size) (fun c _=>n - (intOf c).toNat)
 case atStart=>exact⟨0,_,Ι _,rfl,W,⟨fun N _ c hi h=>ϊ⟩,ag,NZ⟩
 case round =>
  obtain⟨k,i,ak,rfl,z,y,o,al⟩:=hrel;by_cases aA:k<n
  .have G:k<L docs:=by have:=l.o;omega
   have au:(k:Int)<(n:Int):=ϊ;have aC:(0:Int)<=(k:Int):=ϊ;obtain⟨b,off,ac,ad,rfl,aB,aq,c1,M⟩:=nS (Q.o wr o) l.o k G;have x:=mJ.mk (qj (D ac (L docs[k]) ad) (L docs[k]) (η docs[k]) wr M (mp _) (by have:=V.o k G;omega));have S:∃ a,L docs[k]=a:=⟨_,rfl⟩;obtain⟨a,t⟩:=S;rw[t]at x c1;have R:=mJ.mk t;unfold maxLen at aq;clear M t;go_wp2_with fail
   refine x.o.mono ?_;rintro e P ⟨aE,rfl,v,j⟩;obtain⟨d,f,rfl⟩:=Θ v;have A:=o.trans (j.mono o.size);have m:=mJ.mk (Υ z.o j);obtain⟨ae,aw,-,ax⟩:=hG m.o k ϊ;obtain⟨aD,K⟩:∃ av,i[k]?=J av:=⟨_,Ρ (by have:=m.o.1;omega)⟩;rw[K]at ae;have X:=mJ.mk (lW m.o k ϊ (D d a f));have T:mJ (Hi g.heap.size (ŝ P ⟨w.heap.size,k,O⟩ (D d a f)) (lj docs (i.set k (D d a f)) (k+1))):=⟨by
    have s:=(y.o.below j).and ((Hi.own v).mono (show g.heap.size<=wr.heap.size from al))
    refine(s.set (p:=⟨w.heap.size,k,O⟩) ai (D d a f)).imp fun N ⟨q,r⟩ c hi az=>?_
    by_cases F:c=k
    .subst F
     refine⟨D d a f,by rw[lI (by have:=m.o.1;omega)],?_⟩
     rw[R.o];exact r
    .obtain⟨Z,aa,ab⟩:=q c hi ϊ
     exact⟨Z,by rw[fW (Ne.symm F)];exact aa,ab⟩⟩
   have ah:=A.setCell (p:=⟨w.heap.size,k,O⟩) NZ (D d a f);have ap:g.heap.size<=(ŝ P ⟨w.heap.size,k,O⟩ (D d a f)).heap.size:=by have:=j.size;simp;omega
   clear v j A K c1;go_wp2_with fail
   go_roundw;case rel=>exact⟨k+1,_,ϊ,ϕ,X,T,ah,ap⟩
   case measure=>simp[intOf];omega
  .obtain rfl:k=n:=ϊ
   have au:¬(k:Int)<(k:Int):=ϊ;have U:mJ (Ai docs k w (ŗ (D (J ⟨w.heap.size,0,O⟩) k k)) wr):=⟨⟨w.heap.size,rfl,by
    have s:=((y.o.mono (ϊ:w.heap.size<=g.heap.size)).and (Hi.own z.o))
    refine s.imp fun N ⟨q,r⟩=>⟨i,by rw[l.o];exact r,fun c hi=>q c hi (by have:=l.o;omega)⟩,o⟩⟩
   go_wp2;go_ret;exact U.o
theorem Ir (c:Option Addr) (d:Nat) (w:β):Calls prog 249 #[D c 0 d,IZ 0] w fun e w'=>e=ŗ (.tuple #[IZ 0,IZ 0,IZ 4])/\w=w':=by
 go_enter func249,ntmps249;go_wp2
 go_step3
 go_wp2
 go_step3
 go_wp2;go_loop [7,8] (fun a b=>a=IZ 0/\b=IZ 0) (fun _ _=>0)
 case atStart=>exact⟨rfl,rfl⟩
 case round =>
  obtain⟨rfl,rfl⟩:=hrel;go_wp2
  go_ret3
  exact⟨rfl,rfl⟩
theorem LA (c:Option Addr) (d:Nat) (w:β) (r:Rd w (D c 0 d) 0 1 []) :
  Calls prog 189 #[ā #[D c 0 d,IZ 0,IZ 0]] w fun e w'=>∃ a c1,e=ŗ (.tuple #[ā #[D a 0 c1,IZ 0,IZ 4],IZ 0])/\BQ w w':=by
 have E:=Zh (fun j (F:BQ w j)=>uT c 0 d 0 [] j NZ rfl ϊ (r.below F));clear r;go_enter func189,ntmps189;go_wp2_with fail
 have k:BQ w (å (å w (C #[D c 0 d,IZ 0,IZ 0] 211)) (C #[D O 0 0,IZ 0,IZ 0] 211)):=ġ.alloc ύ _;refine(E.o _ k).mono ?_;rintro e y ⟨_,rfl,⟨a,c1,rfl,q⟩,l⟩;obtain⟨f,s,G,H,o⟩:=fU l;obtain⟨⟨U,V,W⟩,⟨Q,f1,f2⟩,-⟩:=Β f;have t:=jg f (D a 0 c1) (IZ 0) (IZ 0);have x:=(kj y w.heap.size (w.heap.size+1) ϊ (D a 0 c1) (IZ 0) (IZ 0)).trans s;have m:=kL o NZ (D a 0 c1) (IZ 0) (IZ 0);have I:=Zh (lr q (g:=w.heap.size) ϓ (D a 0 c1) (IZ 0) (IZ 0));have h:=Zh t;have i:=Zh x;have z:=Zh m;clear q f s l k o G H t x m;go_wp2_with fail
 generalize ŝ (ŝ (ŝ y ⟨w.heap.size,0,O⟩ (D a 0 c1)) ⟨w.heap.size,1,O⟩ (IZ 0)) ⟨w.heap.size,2,O⟩ (IZ 0)=b at *;refine(Ir a c1 b).mono ?_;rintro e w' ⟨rfl,rfl⟩;obtain⟨⟨X,l1,l2⟩,⟨R,S,T⟩,-⟩:=Β h.o;obtain⟨⟨K,d1,d2⟩,⟨M,N,P⟩,-⟩:=Β i.o;have r0:(ŝ b ⟨w.heap.size,2,O⟩ (IZ 4)).heap[w.heap.size]?=J (C #[D a 0 c1,IZ 0,IZ 4] 211 (0,0)):=π _ _ 2 _ _ _ h.o;have r1:=(ψ b ⟨w.heap.size,2,O⟩ (w.heap.size+1) (IZ 4) ύ).trans i.o;have n:BQ w (ŝ b ⟨w.heap.size,2,O⟩ (IZ 4)):=z.o.setCell NZ _;have B:=Zh (jg r1 (D a 0 c1) (IZ 0) (IZ 4));have A:=Zh (kL n (go _ 1) (D a 0 c1) (IZ 0) (IZ 4));clear r0 r1 n;go_wp2;refine ϟ (v:=.tuple #[ā #[D a 0 c1,IZ 0,IZ 4],IZ 0]) (gf (p:=2) (u:=3) (ty:=211) rfl _ _ (w.heap.size+1) 211 _ (0,0) _ rfl B.o pb rfl ϋ) rfl ⟨a,c1,rfl,A.o⟩
theorem KY (d:Option Addr) (f:Nat) (w:β) (h:Rd w (D d 0 f) 0 1 []) :
  Calls prog 233 #[D d 0 f] w fun e w'=>e=ŗ (.tuple #[D O 0 0,IZ 4])/\BQ w w':=by
 have i:=Zh (fun b (j:BQ w b)=>LA d f b (h.below j));clear h;go_enter func233,ntmps233;go_wp2_with fail
 refine(i.o _ ?k).mono ?_;case k=>first|exact φ _ _|exact ġ
 rintro e a ⟨c,c1,rfl,g⟩;go_wp2_with fail
 have m:(å a (C #[D c 0 c1,IZ 0,IZ 4] 211)).cell? ⟨a.heap.size,2,O⟩=J (IZ 4):=by
  have n:(å a (C #[D c 0 c1,IZ 0,IZ 4] 211)).heap[a.heap.size]?=J (C #[D c 0 c1,IZ 0,IZ 4] 211):=by
   show(a.heap.push _)[a.heap.size]?=_;exact Array.getElem?_push_size
  exact(Β n).1.2.2
 have l:BQ w (å a (C #[D c 0 c1,IZ 0,IZ 4] 211)):=g.alloc g.size _;generalize å a (C #[D c 0 c1,IZ 0,IZ 4] 211)=o at *;go_wp2;go_region_held3 (fun b=>BQ w b/\b.cell? ⟨a.heap.size,2,O⟩=J (IZ 4)) (first|exact⟨l.drew,m⟩|assumption) (fail)
 go_wp2;go_ret2;exact⟨rfl,by first|assumption|exact(‹BQ w _/\_›).1⟩
def sJ (x:Ix) (w:β) (e:Ending) (w':β):Prop:= ∃ da dc sa sc,e=ŗ (ā #[D da (L x.1) dc,D sa (L x.2) sc])/\Hi w.heap.size w' (fun a=>Δ a (D da (L x.1) dc) x.1/\ϧ x.1 a (D sa (L x.2) sc) x.2)/\Below w.heap.size w w'
theorem EQ (nd f:Nat) (da:Option Addr) (dc:Nat) (sa:Option Addr) (sc:Nat) (docs:List (γ)) (ps:List (Nat×Nat)) (w:β) (ap:L docs=nd) (aq:L ps=f) (bM:Δ w (D da nd dc) docs) (bZ:ϧ docs w (D sa f sc) ps) (ax:jA (docs,ps)) :
  Calls prog 30 #[ā #[D da nd dc,D sa f sc]] w (sJ (docs,ps) w):=by
 obtain⟨bK,bL,-⟩:=rp ax;have bk:=Zh (fun d (a1:d<L ps)=>bL ps[d] (Χ a1));have bU:=ax.nd;have bV:=ax.np;simp only at bU bV bk;rw[ap]at bU;rw[aq]at bV;have bl:=Zh (fun ae (aU:BQ w ae)=>ES da nd dc docs ae ap (bM.below aU) (fun d a1=>by have:=bK docs[d] (Χ a1);omega) ϊ);have bn:=Zh ap;have ad:=Zh aq;obtain⟨bb,rS,b3,bj⟩:=DV aq bZ;have bf:=Zh (fun ae (aU:BQ w ae)=>Bm (D sa f sc) f bb ae (rS.below aU) b3 ϊ);clear bM bZ ap aq rS b3 ax bK bL;obtain⟨a4,bY,c7,dL,aw⟩:=fU (w:=w) (A:=C #[D da nd dc,D sa f sc] 44) (Z:=C #[D O 0 0,D O 0 0] 44) RZ;go_enter func30,ntmps30;go_upto_region 1 with (fail)
 generalize å (å w (C #[D da nd dc,D sa f sc] 44)) (C #[D O 0 0,D O 0 0] 44)=cu at *;obtain⟨⟨c0,c1⟩,⟨W,f1⟩,ak⟩:=ι a4;have bm:=Zh (bl.o _ aw);clear bl;go_upto_region 2 with
  (refine bm.o.mono ?_
   rintro e aB ⟨l,rfl,bQ,ag⟩
   have a5:=θ a4 ag
   obtain⟨⟨c0,c1⟩,⟨W,f1⟩,ak⟩:=ι a5)
 have aS:(ŝ aB ⟨w.heap.size,0,O⟩ (D (J ⟨l,0,O⟩) nd nd)).heap[w.heap.size]?=J (C #[D (J ⟨l,0,O⟩) nd nd,D sa f sc] 44 (0,0)):=π _ _ 0 _ _ _ a5;have bF:(ŝ aB ⟨w.heap.size,0,O⟩ (D (J ⟨l,0,O⟩) nd nd)).heap[w.heap.size+1]?=J (C #[D O 0 0,D O 0 0] 44 (0,0)):=(ψ _ _ _ _ ύ).trans (θ bY ag);have af:=(bQ.set (p:=⟨w.heap.size,0,O⟩) c7 (D (J ⟨l,0,O⟩) nd nd));have aC:=(aw.trans (ag.mono aw.size)).setCell (p:=⟨w.heap.size,0,O⟩) NZ (D (J ⟨l,0,O⟩) nd nd);have dz:cu.heap.size<=(ŝ aB ⟨w.heap.size,0,O⟩ (D (J ⟨l,0,O⟩) nd nd)).heap.size:=by have:=ag.size;simpa using this
 clear c0 c1 W f1 a4 a5 bY ag bQ aw bm;generalize ŝ aB ⟨w.heap.size,0,O⟩ (D (J ⟨l,0,O⟩) nd nd)=F at *;obtain⟨⟨c0,c1⟩,⟨W,f1⟩,bd⟩:=ι aS;go_upto_region 3 with
  (refine(bf.o _ aC).mono ?_
   rintro e j ⟨dD,rfl,a7,ah⟩
   obtain⟨n,m,rfl⟩:=Θ a7
   have a6:=θ aS ah
   obtain⟨⟨c0,c1⟩,⟨W,f1⟩,ak⟩:=ι a6)
 have bz:(ŝ j ⟨w.heap.size,1,O⟩ (D n f m)).heap[w.heap.size]?=J (C #[D (J ⟨l,0,O⟩) nd nd,D n f m] 44 (0,0)):=π _ _ 1 _ _ _ a6;have b4:=il a7 (a:=⟨w.heap.size,1,O⟩) bd (D n f m);have bG:=(ah.mono (mc bd)).setCell (p:=⟨w.heap.size,1,O⟩) NZ (D n f m);have dA:F.heap.size<=(ŝ j ⟨w.heap.size,1,O⟩ (D n f m)).heap.size:=by have:=ah.size;simpa using this
 have bO:∀ b,b<F.heap.size->b≠w.heap.size->(ŝ j ⟨w.heap.size,1,O⟩ (D n f m)).heap[b]?=F.heap[b]?:=fun b t z=>by rw[ψ _ _ _ _ z];exact ah.block b t
 clear a6 a7 ah c0 c1 W f1;generalize(ŝ j ⟨w.heap.size,1,O⟩ (D n f m))=s at *;have al:=Zh bz;have aH:=Zh b4;have aE:=Zh bO;have aG:=Zh af;have cp:=Zh bF;have aQ:=aC.trans (bG.mono NZ);clear bz b4 bO aS af bF;obtain⟨⟨c0,c1⟩,bP,ak⟩:=ι al.o;go_wp2_with fail
 go_loopw [19] (fun i wr=>∃ (d:Nat) (Q:List ε),d<=f/\i=IZ (d:Int)/\Hid (wr.ownsRow F.heap.size 92 3 (D n f m) f Q)/\Hid (∀ c,d*3<=c->Q[c]?=bb[c]?)/\Hid (Hi s.heap.size wr (kv docs ps Q d))/\Hid (∀ b,b<s.heap.size->(∀ g,(Value.slice n f m).ownBlock=J g->b≠g)->wr.heap[b]?=s.heap[b]?)/\Below F.heap.size s wr/\s.heap.size<=wr.heap.size) (fun i _=>f - (intOf i).toNat)
 case atStart=>exact⟨0,_,Ι _,rfl,aH.o,fun _ _=>rfl,(fun j _ i hi h=>ϊ),fun _ _ _=>rfl,φ _ _,NZ⟩
 case round =>
  obtain⟨M,cO⟩:∃ x:β,x=wr:=⟨wr,rfl⟩;subst cO;obtain⟨d,Q,ds,rfl,u,V,aD,U,av,dy⟩:=hrel;have bI:BQ w M:=aQ.trans (av.mono ϊ);by_cases dt:d<f
  .skip
   have bT:d<L ps:=by have:=ad.o;omega
   obtain⟨ar,au,aX,aY,bJ,aZ⟩:=bj.o d bT;obtain⟨B,dd,b0⟩:=kz u.o ϊ;simp only[Ξ,Ϯ]at b0;obtain⟨rfl,rfl⟩:=b0;have cE:=Ν u.o B rfl;have dk:=(kk u.o).1;have bB:=(U.o (w.heap.size) ϊ (fun g hg=>by have:=(Ν u.o g hg).1;omega)).trans al.o;have cR:(d:Int)<(f:Int):=ϊ;have dB:(0:Int)<=(d:Int):=ϊ;obtain⟨aN,df,-,dh⟩:=hG u.o (d*3) ϊ;obtain⟨aO,dg,-,-⟩:=hG u.o (d*3+1) ϊ;obtain⟨X,bu,-,-⟩:=hG u.o (d*3+2) ϊ;rw[V.o (d*3) ϊ,aX]at aN;rw[V.o (d*3+1) ϊ,aY]at aO;rw[V.o (d*3+2) ϊ,bJ]at X;have bq:=Zh aX;have br:=Zh aY;have bo:=Zh (bk.o d bT);have cG:=aZ;generalize bE:ps[d]=b5 at *;have aJ:=Zh bE;generalize bw:Α docs b5=y at *;have b9:=Zh bw;generalize bC:L y=ln at *;have ac:=Zh bC;obtain⟨a8,a9⟩:=b5;simp only at aN aO bq br;obtain⟨aL,bN,bW,ca⟩:=BB ac.o aZ;have T:BQ M (å M (C #[IZ (a8:Int),IZ (a9:Int),D ar ln au] 92)):=ġ;have bX:=χ M (C #[IZ (a8:Int),IZ (a9:Int),D ar ln au] 92);have du:ln<=2000000:=bo.o.1;clear aZ cG aX aY bJ bE bw bC;go_upto_region 6 with (fail)
   generalize å M (C #[IZ (a8:Int),IZ (a9:Int),D ar ln au] 92)=P at *;have aV:=bI.trans (T.mono bI.size);have aF:=Zh (θ bB T);have bp:=Zh (Υ u.o T);have b7:=Zh (xT (D ar ln au) ln aL P (bN.below aV) bW ϊ);obtain⟨⟨cY,ba,aA⟩,-,dI⟩:=Β bX;have cL:=T.size;clear bN bW bX bB aN aO X;go_wp2_with fail
   refine b7.o.mono ?_;rintro e E ⟨dE,rfl,a2,Y⟩;obtain⟨r,o,rfl⟩:=Θ a2;have c8:=Zh (θ aF.o Y);have c9:=Zh (Υ bp.o Y);have aI:=Zh a2;have cJ:=Y.size;have cB:=aV.trans (Y.mono aV.size);have be:=Zh Y;clear a2 Y cY ba aA;go_wp2_with fail
   go_loopw [29] (fun i k=>∃ (c:Nat) (R:List ε),c<=ln/\i=IZ (c:Int)/\Hid (k.ownsRow P.heap.size 130 2 (D r ln o) ln R)/\Hid (∀ q,c*2<=q->R[q]?=aL[q]?)/\Hid (Hi E.heap.size k (ux y R c))/\Hid (∀ b,b<E.heap.size->(∀ g,(Value.slice r ln o).ownBlock=J g->b≠g)->k.heap[b]?=E.heap[b]?)/\Below P.heap.size E k/\E.heap.size<=k.heap.size) (fun i _=>ln - (intOf i).toNat)
   case atStart=>exact⟨0,_,Ι _,rfl,aI.o,fun _ _=>rfl,(fun j _ i hi h=>ϊ),fun _ _ _=>rfl,φ _ _,NZ⟩
   case round =>
    obtain⟨k,cP⟩:∃ x:β,x=wr:=⟨wr,rfl⟩;subst cP;obtain⟨c,R,dq,rfl,N,an,bg,bi,aW,dx⟩:=hrel;have bH:BQ w k:=cB.trans (aW.mono ϊ);by_cases dr:c<ln
    .skip
     have bS:c<L y:=by have:=ac.o;omega
     obtain⟨ay,az,aM,bt,bR⟩:=ca.o c bS;obtain⟨K,de,b1⟩:=kz N.o ϊ;simp only[Ξ,Ϯ]at b1;obtain⟨rfl,rfl⟩:=b1;have cC:=Ν N.o K rfl;have db:=(kk N.o).1;have cS:(c:Int)<(ln:Int):=ϊ;have dC:(0:Int)<=(c:Int):=ϊ;obtain⟨b2,cT,-,-⟩:=hG N.o (c*2) ϊ;obtain⟨l1,cU,-,-⟩:=hG N.o (c*2+1) ϊ;rw[an.o (c*2) ϊ,aM]at b2;rw[an.o (c*2+1) ϊ,bt]at l1;have cb:=Zh (show L y[c].2<=1000 from bo.o.2 _ (Χ bS));have cc:=Zh aM;have ck:=Zh bR;have cj:=Zh (show L y[c].2=L y[c].2 from rfl);generalize aR:ϴ y[c].1=cZ at *;have cI:∃ ct,cZ=š ct:=⟨_,aR.symm⟩;obtain⟨aK,rfl⟩:=cI;have cd:=Zh aR;generalize af:L y[c].2=el at *;have aG:=Zh af;have ab:BQ k (å k (C #[š aK,D ay el az] 130)):=ġ;have cH:=χ k (C #[š aK,D ay el az] 130);clear aR af cj aM bt bR;go_upto_region 10 with (fail)
     generalize å k (C #[š aK,D ay el az] 130)=bs at *;have cy:=bH.trans (ab.mono bH.size);have cn:=Zh (Υ N.o ab);have b8:=Zh (uQ (D ay el az) el (τ y[c].2) bs (ck.o.below cy) (tq _) (by have:=cb.o;omega));obtain⟨⟨cV,cW⟩,-,dJ⟩:=ι cH;have cM:=ab.size;clear b2 l1 cT cU;go_wp2_with fail
     refine b8.o.mono ?_;rintro e bc ⟨dF,rfl,a3,aa⟩;obtain⟨G,I,rfl⟩:=Θ a3;have am:=Zh (Υ cn.o aa);obtain⟨X,bu,-,di⟩:=hG am.o (c*2+1) ϊ;rw[Ρ (by have:=am.o.1;omega)]at X;have dw:=aa.size;have cm:=Zh (lW am.o (c*2+1) ϊ (D G el I));have co:Hid (∀ q,(c+1)*2<=q->(R.set (c*2+1) (D G el I))[q]?=aL[q]?):=fun q dv=>by rw[fW ϊ];exact an.o q ϊ
     have ce:Hid (Hi E.heap.size (ŝ bc ⟨K,c*2+1,O⟩ (D G el I)) (ux y (R.set (c*2+1) (D G el I)) (c+1))):=by
      have S:=((bg.o.below ab).below aa).and ((Hi.own a3).mono (ϊ:E.heap.size<=bs.heap.size));refine(S.set (p:=⟨K,c*2+1,O⟩) (Ν aI.o K rfl).2 (D G el I)).imp fun j ⟨t,z⟩ i hi cF=>?_;by_cases a0:i=c
      .subst a0
       refine⟨?_,D G el I,by rw[lI (by have:=am.o.1;omega)],?_⟩
       .rw[fW ϊ,an.o (i*2) ϊ,cd.o];exact cc.o
       .rw[aG.o];exact z
      .obtain⟨cX,cv,p1,p2⟩:=t i hi ϊ
       exact⟨by rw[fW ϊ];exact cX,cv,by rw[fW ϊ];exact p1,p2⟩
     have cg:Hid (∀ b,b<E.heap.size->(∀ g,(Value.slice (J ⟨K,0,O⟩) ln o).ownBlock=J g->b≠g)->(ŝ bc ⟨K,c*2+1,O⟩ (D G el I)).heap[b]?=E.heap[b]?):=fun b p1 p2=>by
      rw[ψ _ _ _ _ (p2 K rfl),aa.block b ϊ,ab.block b ϊ];exact bi.o b p1 p2
     have cz:=(aW.trans ((ab.trans (aa.mono cM)).mono (ϊ:P.heap.size<=k.heap.size))).setCell (p:=⟨K,c*2+1,O⟩) cC.1 (D G el I);have cN:E.heap.size<=(ŝ bc ⟨K,c*2+1,O⟩ (D G el I)).heap.size:=by simp only[nf];omega
     clear a3 aa cV cW;go_wp2_with fail
     go_roundw;case rel=>exact⟨c+1,_,ϊ,ϕ,cm.o,co.o,ce.o,cg.o,cz,cN⟩
     case measure=>simp[intOf];omega
    .skip
     have cS:¬(c:Int)<(ln:Int):=ϊ;obtain rfl:ln=c:=ϊ;have cD:=Ν N.o;have dn:=Ν aI.o;have ai:∀ b,b<P.heap.size->k.heap[b]?=P.heap[b]?:=fun b t=>by
      rw[bi.o b ϊ (fun g hg=>by have:=(cD g hg).1;omega)];exact be.o.block b t
     have cx:k.heap[w.heap.size]?=_:=(ai _ (ο aF.o)).trans aF.o;obtain⟨⟨dG,dH⟩,dm,dM⟩:=ι cx;have ao:=Zh (jT bp.o (w':=k) (fun g hg=>by simp only[Value.ownBlock,Ο]at hg;subst hg;exact ai _ ϊ));obtain⟨X,bu,-,dj⟩:=hG ao.o (d*3+2) ϊ;rw[Ρ (by have:=ao.o.1;omega)]at X;have cl:Hid (Hi P.heap.size k (fun j=>fY j (D r ln o) ln y)):=by
      refine((Hi.own N.o).and (bg.o.mono cJ)).imp fun j ⟨p1,p2⟩=>⟨ac.o,R,p1,fun i hi=>p2 i hi (by have:=ac.o;omega)⟩
     have cq:=Zh (lW ao.o (d*3+2) ϊ (D r ln o));have cs:Hid (∀ c,(d+1)*3<=c->(Q.set (d*3+2) (D r ln o))[c]?=bb[c]?):=fun c dp=>by rw[fW ϊ];exact V.o c ϊ
     have cf:Hid (Hi s.heap.size (ŝ k ⟨B,d*3+2,O⟩ (D r ln o)) (kv docs ps (Q.set (d*3+2) (D r ln o)) (d+1))):=by
      have aP:Hi s.heap.size k (kv docs ps Q d):=aD.o.step ϊ fun b t z=>(ai b ϊ).trans (T.block b z);have S:=aP.and (cl.o.mono (ϊ:s.heap.size<=P.heap.size));refine(S.set (p:=⟨B,d*3+2,O⟩) (Ν aH.o B rfl).2 (D r ln o)).imp fun j ⟨t,z⟩ i hi cF=>?_;have dl:=ao.o.1;by_cases a0:i=d
      .subst a0
       refine⟨?_,?_,D r ln o,?_,?_⟩
       .rw[fW ϊ,V.o (i*3) ϊ,aJ.o];exact bq.o
       .rw[fW ϊ,V.o (i*3+1) ϊ,aJ.o];exact br.o
       .rw[lI ϊ]
       .rw[aJ.o,b9.o,ac.o];exact z
      .obtain⟨c2,c3,c6,c4,c5⟩:=t i hi ϊ
       exact⟨by rw[fW ϊ];exact c2,by rw[fW ϊ];exact c3,c6,by rw[fW ϊ];exact c4,c5⟩
     have ch:Hid (∀ b,b<s.heap.size->(∀ g,(Value.slice (J ⟨B,0,O⟩) f m).ownBlock=J g->b≠g)->(ŝ k ⟨B,d*3+2,O⟩ (D r ln o)).heap[b]?=s.heap[b]?):=fun b ba aA=>by
      rw[ψ _ _ _ _ (aA B rfl),ai b ϊ,T.block b ϊ];exact U.o b ba aA
     have cA:Below F.heap.size s (ŝ k ⟨B,d*3+2,O⟩ (D r ln o)):=((av.trans (((T.trans (be.o.mono cL)).trans (aW.mono ϊ)).mono ϊ))).setCell (p:=⟨B,d*3+2,O⟩) cE.1 (D r ln o);have cK:s.heap.size<=(ŝ k ⟨B,d*3+2,O⟩ (D r ln o)).heap.size:=by simp only[nf];omega
     clear ai;go_wp2_with fail
     go_roundw;case rel=>exact⟨d+1,_,ϊ,ϕ,cq.o,cs.o,cf.o,ch.o,cA,cK⟩
     case measure=>simp[intOf];omega
  .skip
   have cR:¬(d:Int)<(f:Int):=ϊ;obtain rfl:f=d:=ϊ;rename_i bx;have bh:=Zh bx;clear bx;have aj:=Ν u.o;have cQ:w.heap.size<F.heap.size/\w.heap.size+1<F.heap.size:=⟨ϊ,ϊ⟩;have bA:=(U.o w.heap.size ϊ (fun g hg=>by have:=(aj g hg).1;omega)).trans al.o;have aT:M.heap[w.heap.size+1]?=J (C #[D O 0 0,D O 0 0] 44 (0,0)):=(U.o (w.heap.size+1) ϊ (fun g hg=>by have:=(aj g hg).1;omega)).trans ((aE.o _ cQ.2 ϊ).trans cp.o);have bD:ς (· <w.heap.size+2) M (fun j=>Δ j (D (J ⟨l,0,O⟩) nd nd) docs/\ϧ docs j (D n f m) ps):=by
    have aP:ς (· <w.heap.size+2) F (fun j=>Δ j (D (J ⟨l,0,O⟩) nd nd) docs):=aG.o.off (fun b _ g=>by have:b<w.heap.size+2:=g;omega);have S:ς (· <w.heap.size+2) M (fun j=>Δ j (D (J ⟨l,0,O⟩) nd nd) docs):=aP.step ϊ (fun b t z=>(U.o b ϊ (fun g hg=>by have:=(aj g hg).1;omega)).trans (aE.o b t (fun e=>z (by show b<w.heap.size+2;omega)))) (fun b _ g=>g);refine(S.and ((aD.o.off (fun b _ g=>by have:b<w.heap.size+2:=g;omega)).and (ς.own u.o (H:=(· <w.heap.size+2)) (fun g hg e=>by have:=(aj g hg).1;have:g<w.heap.size+2:=e;omega)))).imp fun j ⟨t,z,cw⟩=>⟨t,?_⟩;exact⟨Q,by rw[ad.o];exact cw,fun i hi=>z i hi (by have:=ad.o;omega)⟩
   have bv:=aQ.trans (av.mono ϊ);have cr:=Zh (Ϲ aT (D (J ⟨l,0,O⟩) nd nd) (D n f m));have b6:=Zh (fS bv (go _ 1) (D (J ⟨l,0,O⟩) nd nd) (D n f m));have ci:Hid (Hi w.heap.size (ŝ (ŝ M ⟨w.heap.size+1,0,O⟩ (D (J ⟨l,0,O⟩) nd nd)) ⟨w.heap.size+1,1,O⟩ (D n f m)) (fun j=>Δ j (D (J ⟨l,0,O⟩) nd nd) docs/\ϧ docs j (D n f m) ps)):=by
    have S:=((bD.set (p:=⟨w.heap.size+1,0,O⟩) (by show w.heap.size+1<w.heap.size+2;omega) (D (J ⟨l,0,O⟩) nd nd)).set (p:=⟨w.heap.size+1,1,O⟩) (by show w.heap.size+1<w.heap.size+2;omega) (D n f m)).hi;exact S.mono ϊ
   clear u aD U al aH aE aQ av aj ak bd c0 c1 bP bG aC bf bj;obtain⟨⟨c0,c1⟩,bP,ak⟩:=ι bA;obtain⟨⟨r0,r1⟩,⟨W,f1⟩,dK⟩:=ι aT;clear bA aT bD bv;go_wp2_with fail
   refine bh.o _ _ ?_;clear bh;go_wp2;refine ϟ (v:=ā #[D (J ⟨l,0,O⟩) nd nd,D n f m]) (jX (p:=2) (ty:=44) rfl _ _ (w.heap.size+1) 44 _ (0,0) _ rfl cr.o lh rfl ϋ) rfl ?_;exact⟨_,_,_,_,by rw[bn.o,ad.o],by rw[bn.o,ad.o];exact ci.o,b6.o⟩
theorem NX (da:Option Addr) (dc:Nat) (sa:Option Addr) (sc:Nat) (x:Ix) (w:β) (a:Δ w (D da (L x.1) dc) x.1) (b:ϧ x.1 w (D sa (L x.2) sc) x.2) (c:jA x) :
  Calls prog 30 #[ā #[D da (L x.1) dc,D sa (L x.2) sc]] w (sJ x w):=EQ _ _ da dc sa sc x.1 x.2 w rfl rfl a b c
