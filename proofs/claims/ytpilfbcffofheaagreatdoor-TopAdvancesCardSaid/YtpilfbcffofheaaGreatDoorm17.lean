/- Part 17 of the proof. -/
import Derived.Test.YtpilfbcffofheaaGreatDoorm15
import Derived.Test.YtpilfbcffofheaaGreatDoorm16
set_option linter.all false
set_option maxRecDepth 100000
set_option maxHeartbeats 16000000
namespace Go.Proofs.YtpilfbcffofheaaGreatDoor
open Go.RowKit Go.Proofs.Tryz Go.Sort
open Value renaming slice->D,agg->ā
open Option renaming none->O,some->J
open List renaming length->L
open Obj renaming cells->C
open Ending renaming returned->ŗ
open World renaming alloc->å,setCell->ŝ
def Α.toHi {H base} {w:β} {R:β->Prop} (h:Α H w R) (e:∀ b,¬H b->base<=b):Hi base w R:=fun f d=>h f fun b a c=>d b (e b c) a
def Px {n:List (γ)} {w:β} {v:ε} {ps} (h:ϣ n w v ps) (d:γ) (l:∀ p∈ps,p.1<=p.2/\p.2<=L n):ϣ (n++[d]) w v ps:=by
 obtain⟨c,j,k⟩:=h;refine⟨c,j,fun b a=>?_⟩;obtain⟨e,f,m,g,i⟩:=k b a;obtain⟨p1,p2⟩:=l _ (Ψ a);exact⟨e,f,m,g,by rw[Mt n d ps[b] p1 p2];exact i⟩
def nr (w:β) (r:Option Ix) (e:Ending) (h:β):Prop:=match r with
 |some y=>∃ a c1 b c2,e=ŗ (.tuple #[ā #[D a (L y.1) c1,D b (L y.2) c2],G 0])/\Hi w.heap.size h (fun d=>Ε d (D a (L y.1) c1) y.1/\ϣ y.1 d (D b (L y.2) c2) y.2)/\Below w.heap.size w h
 |none=>∃ a f c1 b g c2 c,0<c/\c<10/\e=ŗ (.tuple #[ā #[D a f c1,D b g c2],G ((c:Nat):Int)])/\Below w.heap.size w h
def tb {n:List (γ)} {ps m} (a:Ϻ n ps m):(∀ d∈n,L d<=100000)/\(∀ p∈ps,L (Δ n p)<=2000000/\∀ e∈Δ n p,L e.2<=1000)/\(∀ p∈ps,p.1<=p.2/\p.2<=L n):=by
 refine⟨fun d g=>ι (a.ld d g),fun p b=>?_,fun p b=>?_⟩
 .obtain⟨l,i,rfl⟩:=rk b
  obtain⟨-,c,f⟩:=nC a i;exact⟨f,fun e h=>(c e h).2⟩
 .have j:=sM a.ch p b
  have k:=a.le;omega
def MO (n k da dc sa sc) (ď:List (γ)) (ps b1 va c vc) (d:γ) (w:β) (Y:L ď=n) (q:L ps=k) (aw:L d=c) (bu:ϭ w) (ay:Ε w (D da n dc) ď) (aI:ϣ ď w (D sa k sc) ps) (ac:Ϻ ď ps b1) (bw:Rd w (D va c vc) c 1 (η d)) (bR:c<=9223372036854775807) :
  Calls prog 252 #[ā #[D da n dc,D sa k sc],D va c vc] w (nr w (gA (ď,ps) (.doc d))):=by
 obtain⟨bH,bv,bA,bB,bC⟩:=Ϩ uW;have ag:=Zh (fun s (x:BQ w s)=>tq da n dc sa k sc ď ps b1 s (bu.B x) (ay.B x) (aI.B x) ac);obtain⟨o1,o2,o3⟩:=tb ac;have aA:=ac.nd;have bf:=ac.np;rw[Y]at aA;rw[q]at bf;have aQ:=Zh (fun s (x:BQ w s)=>xw n k da dc sa sc ď ps s Y q (ay.B x) (aI.B x) aA U o1 o2);have⟨aV,aT⟩:=π bw o3;have hF:gA (ď,ps) (.doc d)=if c<=2000/\n<1000 then J (ď++[d],ps)else O:=by
  simp only[gA,aw,Y]
 rw[hF];have⟨I,aq,aW⟩:=ϲ Y q aw;have ak:BQ w (å (å w (C #[D da n dc,D sa k sc] 44)) (C #[D O 0 0,D O 0 0] 44)):=ġ.A ύ _;by_cases bg:c<=2000
 .by_cases bh:n<1000
  .rw[μ ⟨bg,bh⟩]
   go_enter func252,ntmps252;go_wp2_with fail
   refine(ag.o _ ak).M ?_;rintro e A ⟨rfl,Q⟩;obtain⟨y,K,aL,aM,S⟩:=fZ Q;obtain⟨⟨V,W⟩,⟨P,f1⟩,-⟩:=ν y;have T:=fS y (D da n dc) (D sa k sc);have z:=(jH A w.heap.size _ U (D da n dc) (D sa k sc)).trans K;have H:=ga S NZ (D da n dc) (D sa k sc);go_upto_region 2 with fail
   generalize ŝ (ŝ A _ _) _ _=M at *;obtain⟨⟨V,W⟩,⟨P,f1⟩,aO⟩:=ν T;obtain⟨⟨r0,r1⟩,⟨ah,ai⟩,ap⟩:=ν z;go_wp2_with fail
   refine(aQ.o M H).M ?_;rintro e f ⟨o,l,ad,av,lo,rfl,t,al⟩;have a9:=H.t al;have bk:=θ z al;have bS:=al.size;have R:BQ f (å f (C #[D (J ⟨o,0,O⟩) n n,D (J ⟨l,0,O⟩) k k] 44)):=ġ;have aG:=φ f (C #[D (J ⟨o,0,O⟩) n n,D (J ⟨l,0,O⟩) k k] 44);have a0:Α (fun b=>(b<lo/\b<f.heap.size)\/b=f.heap.size) f (fun B=>ml ď ad (L ď) B/\lx ď ps av (L ps) B):=t.el.off (fun b aY aZ=>U);have bL:=t.l1 o rfl;have bM:=(Ϡ t.rD o rfl);have bN:=(Ϡ t.rS l rfl);have bP:=t.bl;have aE:=t.rD;have bo:=t.rS;rw[I.o]at aE;have bi:o≠l:=fun e=>t.ne o rfl (by rw[e];rfl);go_upto_region 7 with fail
   have a1:=a0.B R;have bn:=ψ aE R;have bp:=ψ bo R;have bl:=θ bk R;have ax:=a9.t R;have bt:(å f (C #[D (J ⟨o,0,O⟩) n n,D (J ⟨l,0,O⟩) k k] 44)).heap.size=f.heap.size+1:=ύ;have⟨aR,ar⟩:=π (rK _ c _ _ (aV.o.B ax.drew) (mM d) U) bt;generalize(å f _)=N at *;obtain⟨⟨c0,c1⟩,⟨aJ,aK⟩,aN⟩:=ν aG;have Z:BQ N N.drew:=RZ.drew;refine ϯ (fun s=>BQ N s) 5 ϋ ?_;refine Zf 0 Z ?_;refine Zk 1 Z ?_ (hy:=by intro s x;have bK:=ζ x c0;go_simp;try with_reducible rfl);refine Zf 2 Z ?_;refine Κ (fuel:=4) 3 ϋ rfl ?_;intro b0 q;go_simp;refine aR.o.M ?_;rintro e X ⟨bU,rfl,aB,ba⟩;obtain⟨E,F,rfl⟩:=Η aB;have aj:BQ N X:=Z.trans ba;refine q _ _ aj ?_;try simp only[Act.put]
   refine Κ  4 ϋ rfl ?_;intro b0 q;go_simp;refine q _ _ (aj.al _) ?_;have r:=Zh (aj.al (C #[D E c F] 31));have aF:=ψ bn r.o;have a5:Hi N.heap.size (å X (C #[D E c F] 31)) (fun B=>Rd B (D E c F) c 1 (η d)):=(Hi.own aB).A _;have a2:=(a1.B r.o).and (a5.off  (fun b aY aZ=>ι ar.o));refine jF  ϋ ϋ rfl ?_;intro b0 q;refine lD rfl _ _ _ _ rfl _ 31 bH _ 1 _ nM bv bA bB bC rfl _ n ad ϔ aF _ 1 [D E c F] ϔ (gh nM X _ 1 1 1 rfl ϗ) ώ U (gw r.o.size ar.o) ?_;intro bV m aC am hv6;refine q _ _ ?_;obtain⟨i,j,rfl⟩:=Η aC;refine Ze 6 ?_;have bD:=am.size;have bT:=r.o.size;have ab:∀ b,b<(å X (C #[D E c F] 31)).heap.size->b≠o->m.heap[b]?=(å X (C #[D E c F] 31)).heap[b]?:=fun b p1 p2=>am.block b p1 (fun e=>p2 (by simpa[Value.ownBlock] using e));have aH:=(ab _ U U).trans (θ aG r.o);have bm:=(ab _ U U).trans (θ bl r.o);have bq:=kA (ψ bp r.o) (fun g hg=>by simp only[Value.ownBlock,Φ]at hg;subst hg;exact ab _ U (fun e=>bi e.symm));have a3:=a2.step bD (fun b p1 p2=>ab b p1 (fun e=>p2 (.inl U))) (fun b _ h=>h);have bb:BQ w m:=(ax.t r.o).grown am U (fun g hg=>by simp only[Value.ownBlock,Φ]at hg;omega);have bx:∀ g,(Value.slice i (n+1) j).ownBlock=J g->g=o\/f.heap.size<g:=by
    intro g hg;rcases hv6 with hv6|hv6
    .rw[hv6]at hg;simp only[Value.ownBlock,Φ]at hg;exact .inl hg.symm
    .rw[hv6]at hg;injection hg with hg;right;omega
   obtain⟨⟨c0,c1⟩,⟨aJ,aK⟩,aN⟩:=ν aH;refine Ze 7 ?_;refine Zd ?_;have bs:=υ m _ 0 _ _ (D i (n+1) j) aH;have aD:=(Γ m ⟨f.heap.size,0,O⟩ _ (D i (n+1) j) ϑ).trans bm;have bc:=bb.S (p:=⟨f.heap.size,0,O⟩) ϑ (D i (n+1) j);have a4:=a3.set (p:=⟨f.heap.size,0,O⟩) (.inr rfl) (D i (n+1) j);have bj:=kA aC (w':=ŝ m ⟨f.heap.size,0,O⟩ (D i (n+1) j)) (fun g hg=>Γ _ _ _ _ (by rcases bx g hg with h|h<;>simp only<;>omega));have br:=kA bq (w':=ŝ m ⟨f.heap.size,0,O⟩ (D i (n+1) j)) (fun g hg=>Γ _ _ _ _ (by simp only[Value.ownBlock,Φ]at hg;simp only;omega));generalize ŝ m _ _=au at *;obtain⟨⟨c0,c1⟩,⟨aJ,aK⟩,aN⟩:=ν (show au.heap[f.heap.size]?=J _ from bs);obtain⟨⟨r0,r1⟩,⟨ah,ai⟩,bW⟩:=ν aD;have⟨aU,aP⟩:=π (fS aD (D i (n+1) j) (D (J ⟨l,0,O⟩) k k)) (ga bc (gu _ 1) (D i (n+1) j) (D (J ⟨l,0,O⟩) k k));have aa:=ap;have a6:=gX (hR (hR bj (a:=⟨ _,0,O⟩) aa (D i (n+1) j)) (a:=⟨ _,1,O⟩) aa (D (J ⟨l,0,O⟩) k k)) (U:w.heap.size<=M.heap.size);have a8:=gX (hR (hR br (a:=⟨ _,0,O⟩) aa (D i (n+1) j)) (a:=⟨ _,1,O⟩) aa (D (J ⟨l,0,O⟩) k k)) (U:w.heap.size<=M.heap.size);have a7:=((a4.set (p:=⟨w.heap.size+1,0,O⟩) (.inl ϑ) (D i (n+1) j)).set (p:=⟨w.heap.size+1,1,O⟩) (.inl ϑ) (D (J ⟨l,0,O⟩) k k)).toHi (base:=w.heap.size) (fun b h=>U);have aS:Hid (Hi w.heap.size (ŝ (ŝ au ⟨w.heap.size+1,0,O⟩ (D i (n+1) j)) ⟨w.heap.size+1,1,O⟩ (D (J ⟨l,0,O⟩) k k)) (fun B=>Ε B (D i (n+1) j) (ď++[d])/\ϣ (ď++[d]) B (D (J ⟨l,0,O⟩) k k) ps)):=by
    refine(a7.and ((Hi.own a6).and (Hi.own a8))).imp fun B ⟨⟨⟨p1,p2⟩,bE⟩,bF,bG⟩=>⟨⟨ad++[D E c F],by simpa[I.o] using bF,fun ao hi=>?_⟩,Px ⟨av,bG,fun k az=>p2 k az az⟩ d aT.o⟩;have bz:L ad=L ď:=by have:=aF.1;rw[I.o];omega
    by_cases an:ao<L ď
    .obtain⟨aX,bI,bJ⟩:=p1 ao an an
     refine⟨aX,by rw[je U];exact bI,?_⟩;rw[qm an];exact bJ
    .have be:ao=L ď:=by simp at hi;omega
     subst be;refine⟨ _,by rw[hL U,bz,kj];rfl,?_⟩;have bd:(ď++[d])[L ď]=d:=ύ;rw[bd,aW.o];exact bE
   go_wp2;exact Ω (v:=.tuple #[ā _,G 0]) (gz  (u:=5)  rfl _ _ _ _ _ _ _ rfl aU.o lG rfl ϋ) rfl ⟨i,j,J ⟨l,0,O⟩,k,by simp only[σ,ϥ,gO,I.o,aq.o],by simp only[σ,ϥ,gO,I.o,aq.o];exact aS.o,aP.o⟩
  .have bQ:(1000:Int)<=(n:Int):=U
   rw[κ U];go_enter func252,ntmps252;go_wp2_with fail
   refine(ag.o _ ak).M ?_;rintro e A ⟨rfl,Q⟩;obtain⟨y,K,aL,aM,S⟩:=fZ Q;obtain⟨⟨V,W⟩,⟨P,f1⟩,-⟩:=ν y;have T:=fS y (D da n dc) (D sa k sc);have z:=(jH A w.heap.size _ U (D da n dc) (D sa k sc)).trans K;have H:=ga S NZ (D da n dc) (D sa k sc);go_upto_region 2 with fail
   generalize ŝ (ŝ A _ _) _ _=M at *;obtain⟨⟨V,W⟩,⟨P,f1⟩,aO⟩:=ν T;obtain⟨⟨r0,r1⟩,⟨ah,ai⟩,ap⟩:=ν z;have⟨af,ae⟩:=π (fS z (D da n dc) (D sa k sc)) (ga H (gu _ 1) (D da n dc) (D sa k sc));go_wp2;exact Ω  (gz    rfl _ _ _ _ _ _ _ rfl af.o lG rfl ϋ) rfl ⟨da,n,dc,sa,k,sc,3,U,U,rfl,ae.o⟩
 .have bO:(2000:Int)<(c:Int):=U
  rw[κ U];go_enter func252,ntmps252;go_wp2_with fail
  refine(ag.o _ ak).M ?_;rintro e A ⟨rfl,Q⟩;obtain⟨y,K,aL,aM,S⟩:=fZ Q;obtain⟨⟨V,W⟩,⟨P,f1⟩,-⟩:=ν y;have T:=fS y (D da n dc) (D sa k sc);have z:=(jH A w.heap.size _ U (D da n dc) (D sa k sc)).trans K;have H:=ga S NZ (D da n dc) (D sa k sc);go_upto_region 2 with fail
  generalize ŝ (ŝ A _ _) _ _=M at *;obtain⟨⟨V,W⟩,⟨P,f1⟩,aO⟩:=ν T;obtain⟨⟨r0,r1⟩,⟨ah,ai⟩,ap⟩:=ν z;have⟨af,ae⟩:=π (fS z (D da n dc) (D sa k sc)) (ga H (gu _ 1) (D da n dc) (D sa k sc));go_wp2;exact Ω  (gz    rfl _ _ _ _ _ _ _ rfl af.o lG rfl ϋ) rfl ⟨da,n,dc,sa,k,sc,1,U,U,rfl,ae.o⟩
def MP (n k da dc sa sc) (ď:List (γ)) (ps m) (w:β) (aa:L ď=n) (aj:L ps=k) (aQ:ϭ w) (aA:Ε w (D da n dc) ď) (aE:ϣ ď w (D sa k sc) ps) (x:Ϻ ď ps m) :
  Calls prog 254 #[ā #[D da n dc,D sa k sc]] w (nr w (gA (ď,ps) .flush)):=by
 obtain⟨bW,bM,bO,bP,bQ⟩:=Ϩ xh;have av:=Zh (fun j (l:BQ w j)=>tq da n dc sa k sc ď ps m j (aQ.B l) (aA.B l) (aE.B l) x);obtain⟨o1,o2,o3⟩:=tb x;have aK:=x.nd;have bl:=x.np;have bn:=x.le;rw[aa]at aK bn;rw[aj]at bl;have aX:=Zh (fun j (l:BQ w j)=>xw n k da dc sa sc ď ps j aa aj (aA.B l) (aE.B l) aK U o1 o2);have aq:=Zh (fun j (l:BQ w j)=>EC (D da n dc) _ ď ps m j (aE.B l) x.ch);have aV:=Zh (fun j (l:BQ w j) h=>Cm _ ď m n j (aQ.B l) (aA.B l) x.nd x.ld h (by rw[aa];exact NZ));have hF:gA (ď,ps) .flush=if m=n\/64<=k then O else J (ď,ps++[(m,n)]):=by
  simp only[gA,uK x.ch,aa,aj]
 rw[hF];have⟨ar,c3⟩:=π aa aj;have ay:BQ w (å (å w (C #[D da n dc,D sa k sc] 44)) (C #[D O 0 0,D O 0 0] 44)):=ġ.A ύ _;by_cases bm:m=n
 .rw[μ (.inl bm)]
  go_enter func254,ntmps254;go_wp2_with fail
  refine(av.o _ ay).M ?_;rintro e M ⟨rfl,ab⟩;obtain⟨X,ag,aR,aS,ad⟩:=fZ ab;obtain⟨⟨y,z⟩,⟨t,f1⟩,-⟩:=ν X;have I:=fS X (D da n dc) (D sa k sc);have ah:=(jH M w.heap.size _ U (D da n dc) (D sa k sc)).trans ag;have F:=ga ad NZ (D da n dc) (D sa k sc);go_upto_region 2 with fail
  generalize ŝ (ŝ M _ _) _ _=Y at *;obtain⟨⟨y,z⟩,⟨t,f1⟩,W⟩:=ν I;go_wp2_with fail
  refine(aq.o Y F).M ?_;rintro e V ⟨rfl,o⟩;have S:=F.t o;have q:=θ I o;have K:=θ ah o;obtain⟨⟨y,z⟩,⟨t,f1⟩,W⟩:=ν q;obtain⟨⟨r0,r1⟩,⟨aw,ax⟩,aT⟩:=ν K;have⟨au,ap⟩:=π (fS K (D da n dc) (D sa k sc)) (ga S (gu _ 1) (D da n dc) (D sa k sc));go_wp2;exact Ω  (gz    rfl _ _ _ _ _ _ _ rfl au.o lG rfl ϋ) rfl ⟨da,n,dc,sa,k,sc,5,U,U,rfl,ap.o⟩
 .have cc:((m:Int)==(n:Int))=false:=by simp only[fU,ne_eq];omega
  have cd:¬(m:Int)=(n:Int):=U;by_cases cf:k<64
  .rw[κ U]
   go_enter func254,ntmps254;go_wp2_with fail
   refine(av.o _ ay).M ?_;rintro e M ⟨rfl,ab⟩;obtain⟨X,ag,aR,aS,ad⟩:=fZ ab;obtain⟨⟨y,z⟩,⟨t,f1⟩,-⟩:=ν X;have I:=fS X (D da n dc) (D sa k sc);have ah:=(jH M w.heap.size _ U (D da n dc) (D sa k sc)).trans ag;have F:=ga ad NZ (D da n dc) (D sa k sc);go_upto_region 2 with fail
   generalize ŝ (ŝ M _ _) _ _=Y at *;obtain⟨⟨y,z⟩,⟨t,f1⟩,W⟩:=ν I;go_wp2_with fail
   refine(aq.o Y F).M ?_;rintro e V ⟨rfl,o⟩;have S:=F.t o;have q:=θ I o;have K:=θ ah o;obtain⟨⟨y,z⟩,⟨t,f1⟩,W⟩:=ν q;obtain⟨⟨r0,r1⟩,⟨aw,ax⟩,aT⟩:=ν K;go_wp2_with fail
   refine(aV.o V S U).M ?_;rintro e P ⟨ck,rfl,aI,al⟩;obtain⟨r,s,rfl,-,-⟩:=ic (aI P (fun _ _ _=>rfl));have a2:Hid (Hi V.heap.size P (fun N=>fN N (D r (L (Δ ď (m,n))) s) (L (Δ ď (m,n))) (Δ ď (m,n)))):=aI;have b6:=Zh (show(L (Δ ď _))=L (Δ ď (m,n)) from rfl);generalize bf:L (Δ ď _)=A at *;have a3:=Zh bf;have bg:=S.t al;have bs:=θ q al;have bu:=θ K al;have an:BQ P (å P (C #[G m,G n,D r A s] 92)):=ġ;have bH:=φ P (C #[G m,G n,D r A s] 92);have aJ:=bg.t an;have bt:=θ bs an;have bv:=θ bu an;have ch:=al.size;go_upto_region 8 with fail
   have bK:(å P (C #[G m,G n,D r A s] 92)).heap.size=P.heap.size+1:=ύ;have b5:=Zh bK;generalize(å P _)=R at *;obtain⟨⟨y,z⟩,⟨t,f1⟩,W⟩:=ν bt;have aY:=Zh (aX.o R aJ);go_wp2_with fail
   refine aY.o.M ?_;rintro e c ⟨i,B,aF,ai,lo,rfl,E,ac⟩;have bh:=aJ.t ac;have bw:=θ bv ac;have bI:=θ bH ac;have ci:=ac.size;have T:BQ c (å c (C #[D (J ⟨i,0,O⟩) n n,D (J ⟨B,0,O⟩) k k] 44)):=ġ;have aP:=φ c (C #[D (J ⟨i,0,O⟩) n n,D (J ⟨B,0,O⟩) k k] 44);have ce:=E.bl;have a7:Α (fun b=>(R.heap.size<=b/\b<lo/\b<c.heap.size)\/b=c.heap.size\/b<V.heap.size) c (fun N=>ml ď aF (L ď) N/\lx ď ps ai (L ps) N):=E.el.off (fun b a4 a5=>U);have bb:=((a2.o.off (H:=fun b=>(R.heap.size<=b/\b<lo/\b<c.heap.size)\/b=c.heap.size\/b<V.heap.size) (fun b a4 a5=>U)).B an).B ac;have ca:=E.l2 B rfl;have b9:=(Ϡ E.rD i rfl);have cb:=(Ϡ E.rS B rfl);have bA:=E.rD;have aN:=E.rS;rw[c3.o]at aN;have bo:i≠B:=fun e=>E.ne i rfl (by rw[e];rfl);go_upto_region 11 with fail
   have a9:=(a7.and bb).B T;have bC:=ψ bA T;have aO:=ψ aN T;have bx:=θ bw T;have bJ:=θ bI T;have bj:=bh.t T;have bL:(å c (C #[D (J ⟨i,0,O⟩) n n,D (J ⟨B,0,O⟩) k k] 44)).heap.size=c.heap.size+1:=ύ;have a1:=Zh bL;generalize(å c _)=Z at *;obtain⟨⟨c0,c1⟩,⟨b2,b3⟩,b4⟩:=ν aP;obtain⟨⟨cm,cn,co⟩,-,cs⟩:=Β bJ;have am:BQ Z (å Z (C #[G m,G n,D r A s] 92)):=ġ;have bE:=ψ aO am;have bG:=θ aP am;have⟨aG,aU⟩:=π bG am;have a6:=a1.o;have cj:=am.size;go_upto_region 12 with (at_builtin;(refine ϻ rfl _ _ _ _ rfl _ 92 bW _ 3 _ nN bM bO bP bQ rfl _ k ai (by rfl) bE _ 1 [G m,G n,D r A s] rfl (oj nN Z _ 3 1 1 _ a6 rfl ϗ) ώ U U ?_);intro cl Q aL aC hv9 _;go_loud (obtain⟨d,f,rfl⟩:=Η aL;have ae:∀ b,b<(å Z (C #[G m,G n,D r A s] 92)).heap.size->b≠B->Q.heap[b]?=(å Z (C #[G m,G n,D r A s] 92)).heap[b]?:=fun b p1 p2=>aC.block b p1 (fun e=>p2 (by simpa[Value.ownBlock] using e));have aD:=(ae _ U U).trans aG.o;obtain⟨⟨b7,b8⟩,⟨cp,cq⟩,cr⟩:=ν aD))
   have ao:=aU.o;have bz:=(ae _ U U).trans (θ bx ao);have bD:Q.ownsRow R.heap.size 31 1 (D (J ⟨i,0,O⟩) n n) (L ď) aF:=kA (ψ bC ao) (fun g hg=>by simp only[Value.ownBlock,Φ]at hg;subst hg;exact ae _ U bo);have bR:=aC.size;have ba:=(a9.B ao).step  bR (fun b p1 p2=>ae b p1 (fun e=>p2 (.inl U))) (fun b _ h=>h);have bk:BQ w Q:=(bj.t ao).grown aC U (fun g hg=>by simp only[Value.ownBlock,Φ]at hg;omega);have bN:∀ g,(Value.slice d (k+1) f).ownBlock=J g->g=B\/c.heap.size<g:=by
    intro g hg;rcases hv9 with hv9|hv9
    .rw[hv9]at hg;simp only[Value.ownBlock,Φ]at hg;exact .inl hg.symm
    .rw[hv9]at hg;injection hg with hg;right;omega
   have aD:=(ae _ U U).trans aG.o;have bF:=υ Q _ 1 _ _ (D d (k+1) f) aD;have aM:=(Γ Q ⟨c.heap.size,1,O⟩ _ (D d (k+1) f) ϑ).trans bz;have bi:=bk.S (p:=⟨c.heap.size,1,O⟩) ϑ (D d (k+1) f);have a8:=ba.set (p:=⟨c.heap.size,1,O⟩) (.inr (.inl rfl)) (D d (k+1) f);have bp:=kA aL (w':=ŝ Q ⟨c.heap.size,1,O⟩ (D d (k+1) f)) (fun g hg=>Γ _ _ _ _ (by rcases bN g hg with h|h<;>simp only<;>omega));have bB:=kA bD (w':=ŝ Q ⟨c.heap.size,1,O⟩ (D d (k+1) f)) (fun g hg=>Γ _ _ _ _ (by simp only[Value.ownBlock,Φ]at hg;simp only;omega));generalize ŝ Q _ _=aH at *;obtain⟨⟨c0,c1⟩,⟨b2,b3⟩,b4⟩:=ν (show aH.heap[c.heap.size]?=J _ from bF);obtain⟨⟨r0,r1⟩,⟨aw,ax⟩,ct⟩:=ν aM;have⟨a0,aW⟩:=π (fS aM (D (J ⟨i,0,O⟩) n n) (D d (k+1) f)) (ga bi (gu _ 1) (D (J ⟨i,0,O⟩) n n) (D d (k+1) f));have ak:w.heap.size+1<R.heap.size:=U;have bc:=gX (hR (hR bB (a:=⟨ _,0,O⟩) ak (D (J ⟨i,0,O⟩) n n)) (a:=⟨ _,1,O⟩) ak (D d (k+1) f)) (U:w.heap.size<=R.heap.size);have be:=gX (hR (hR bp (a:=⟨ _,0,O⟩) ak (D (J ⟨i,0,O⟩) n n)) (a:=⟨ _,1,O⟩) ak (D d (k+1) f)) (U:w.heap.size<=R.heap.size);have bd:=((a8.set (p:=⟨ _,0,O⟩) (.inr (.inr ϑ)) (D (J ⟨i,0,O⟩) n n)).set (p:=⟨ _,1,O⟩) (.inr (.inr ϑ)) (D d (k+1) f)).toHi (base:=w.heap.size) (fun b h=>U);have aZ:Hid (Hi w.heap.size (ŝ (ŝ aH ⟨w.heap.size+1,0,O⟩ (D (J ⟨i,0,O⟩) n n)) ⟨w.heap.size+1,1,O⟩ (D d (k+1) f)) (fun N=>Ε N (D (J ⟨i,0,O⟩) n n) ď/\ϣ ď N (D d (k+1) f) (ps++[(m,n)]))):=by
    have az:L ai=L ps*3:=by have:=aO.1;rw[c3.o];omega
    refine(bd.and ((Hi.own bc).and (Hi.own be))).imp fun N ⟨⟨⟨p1,p2⟩,bT⟩,bU,bV⟩=>⟨⟨aF,by simpa[ar.o] using bU,fun bS hi=>p1 bS hi hi⟩,ai++[G m,G n,D r A s],by simpa[c3.o] using bV,fun c2 bq=>?_⟩;by_cases af:c2<L ps
    .obtain⟨bX,bY,b1,bZ,b0⟩:=p2 c2 af af
     refine⟨?_,?_,b1,?_,?_⟩
     .rw[je U,qm af];exact bX
     .rw[je U,qm af];exact bY
     .rw[je U];exact bZ
     .rw[qm af];exact b0
    .have br:c2=L ps:=by simp at bq;omega
     subst br;have aB:(ps++[(m,n)])[L ps]=(m,n):=ύ;refine⟨?_,?_,D r A s,?_,?_⟩
     .rw[hL U,az,kj,aB];rfl
     .rw[hL U,az,show L ps*3+1 - L ps*3=1 from U,aB];rfl
     .rw[hL U,az,show L ps*3+2 - L ps*3=2 from U];rfl
     .rw[aB,a3.o];exact bT
   go_wp2;exact Ω (v:=.tuple #[ā _,G 0]) (gz  (u:=3)  rfl _ _ _ _ _ _ _ rfl a0.o lG rfl ϋ) rfl ⟨J ⟨i,0,O⟩,n,d,f,by simp only[σ,ϥ,gO,ar.o,c3.o],by simp only[σ,ϥ,gO,ar.o,c3.o];exact aZ.o,aW.o⟩
  .have cg:(64:Int)<=(k:Int):=U
   rw[μ (.inr U)];go_enter func254,ntmps254;go_wp2_with fail
   refine(av.o _ ay).M ?_;rintro e M ⟨rfl,ab⟩;obtain⟨X,ag,aR,aS,ad⟩:=fZ ab;obtain⟨⟨y,z⟩,⟨t,f1⟩,-⟩:=ν X;have I:=fS X (D da n dc) (D sa k sc);have ah:=(jH M w.heap.size _ U (D da n dc) (D sa k sc)).trans ag;have F:=ga ad NZ (D da n dc) (D sa k sc);go_upto_region 2 with fail
   generalize ŝ (ŝ M _ _) _ _=Y at *;obtain⟨⟨y,z⟩,⟨t,f1⟩,W⟩:=ν I;go_wp2_with fail
   refine(aq.o Y F).M ?_;rintro e V ⟨rfl,o⟩;have S:=F.t o;have q:=θ I o;have K:=θ ah o;obtain⟨⟨y,z⟩,⟨t,f1⟩,W⟩:=ν q;obtain⟨⟨r0,r1⟩,⟨aw,ax⟩,aT⟩:=ν K;have⟨au,ap⟩:=π (fS K (D da n dc) (D sa k sc)) (ga S (gu _ 1) (D da n dc) (D sa k sc));go_wp2;exact Ω  (gz    rfl _ _ _ _ _ _ _ rfl au.o lG rfl ϋ) rfl ⟨da,n,dc,sa,k,sc,3,U,U,rfl,ap.o⟩
def Qb {P ops o} {a:Act} {w:β} {K:Act->β->Prop} {Q:Exit->Act->β->Prop} {E} (M:o.guard=O) (s x t tx)
  (a1:o.op=.call {callee:=.builtin .append,args:= #[s,x],argTypes:= #[t,tx]})
  (base) (e) (i:TypeInfo) (z:ε) (size bytes) (aa:P.underlying t=J (.slice e)) (hi:P.info? e=J i) (ae:i.zero=J z)
  (Z:i.size=size) (A:i.bytes=bytes) (af:z.cells.size=size)
  (ao) (n) (xs:List ε) (Y:a.eval s=D ao n n) (X:Rd w (D ao n n) n size xs)
  (l:ε) (m) (f:List ε) (ac:a.eval x=l) (u:Src P size tx l m f w) (ai:0<m)
  (q:n+m<=maxLen) (H:(n+m)*bytes<=140737488355328) (F:base<=w.heap.size)
  (h:∀ k w',w'.ownsRow base e size k (n+m) (xs++f)->w.grownBy w' O->k.ownBlock=J w.heap.size->K (a.put o.dst k) w') :
  if Region.wanted o (yielded ops a.tmps)=true then Oper.wp P o a w K Q else E:=by
 have ab:Region.wanted o (yielded ops a.tmps)=true:=by simp[Region.wanted,M]
 rw[μ ab];subst Z;subst A;have T:=u.newsLen;obtain⟨j,aj,R⟩:=X;have V:(Builtin.firstCells i.size n (D ao n n)).run P w.drew=.ok xs.toArray w.drew:=by
  rcases R with ⟨ah,a0,c,p⟩|⟨b,off,a0,c,p,ak,r,I⟩
  .simp only[Χ]at c
   obtain⟨rfl,-,-⟩:=c;subst p;have ad:=kS (by simpa using j);subst ad;cases ao with
   |none=>exact yw _ _ 0 0 0
   |some y=>exact run_firstCells_some _ _ 0 y 0 0 _ ύ (fun d v c=>by simp at c)
  .simp only[Χ]at c
   obtain⟨rfl,-,-⟩:=c;refine run_firstCells_some (w.drew) i.size n ⟨b,off,O⟩ n n xs j fun d v c=>?_;have B:(⟨b,off,O⟩:Addr).add d=⟨b,off+d,O⟩:=by unfold Addr.add;split<;>simp_all
   rw[B];exact I d v c
 have W:=run_append_grow_src  w t tx o.type e i z aa hi ae ao n n xs V l m f u U (by unfold maxLen at q;omega) (growslice_fits U H);have N:=grownCap_ge w (n+m) n e;have r:=wb w _ n e q;have g:L (xs++f)=(n+m)*i.size:=by rw[σ,j,T,lr]
 unfold Oper.wp execOp;simp only[a1,resolve,invoke,builtin,Sem.run_bind,Sem.run_pure,pH,qs,ij,jQ,Y,ac,W];refine h _ _ ⟨g,.inr ⟨ _,_,_,rfl,F,Go.heap_alloc_new _ _,N,r,?_,?_⟩⟩ ⟨rfl,rfl,rfl,ύ,fun ag S _=>hM _ _ ag S⟩ rfl
 .rw[Array.size_append,qk,size_zeroCells,af,g,<-lr]
  congr 1
  omega
 .rw[Array.toList_append,<-g]
  exact tT
def KQ:(prog.info? 89).map (fun i=>(i.zero,i.size,i.bytes))=J (J (ā #[G 0,G 0]),2,16):=ϋ
def AD {w:β} {b off c n sz i j} {e:List ε} (h:Rd w (D (J ⟨b,off,O⟩) n c) n sz e) (r:i+j<=n) (c') (l:j<=c') (o:c'<=maxLen):Rd w (D (J ⟨b,off+i*sz,O⟩) j c') j sz ((e.drop (i*sz)).take (j*sz)):=by
 obtain⟨v,y,p⟩:=h;have s:(i+j)*sz<=n*sz:=qp _ r;rw[lr]at s;refine⟨ό,U,?_⟩;by_cases f:j=0
 .exact .inl ⟨_,c',by rw[f],f⟩
 .rcases p with ⟨t,g,d,k⟩|⟨u,A,g,d,k,z,x,m⟩
  .omega
  .simp only[Χ,Φ,Addr.mk.injEq,it,ϵ]at d
   obtain⟨⟨rfl,rfl⟩,rfl⟩:=d;refine .inr ⟨b,off+i*sz,c',rfl,U,l,o,fun q B a=>?_⟩;rw[iH]at a;split at a
   .rw[jr]at a
    have:=m _ _ a;rw[<-iX]at this;exact this
   .cases a
def ED (b off c k i a) (f t:Nat) (ua un uc) (n:List ε) (w:β) (h:Rd w (D (J ⟨b,off,O⟩) k c) k 3 n) (aa:∀ u∈n,u.oneCell'=true) (aA:i+a<=k) (aB:k<=1000) (ay:1<=a) :
  Calls prog 303 #[D (J ⟨b,off,O⟩) k c,G i,G a,ā #[G f,G t,D ua un uc]] w fun e w'=>∃ z A,e=ŗ (D z (i+1+(k - (i+a))) A)/\w'.ownsRow w.heap.size 92 3 (D z (i+1+(k - (i+a))) A) (i+1+(k - (i+a))) (n.take (i*3)++([G f,G t,D ua un uc]++n.drop ((i+a)*3)))/\BQ w w':=by
 obtain⟨M,F,P,H,I⟩:=Ϩ xh;have ag:k<=c/\c<=maxLen:=by
  obtain⟨-,-,⟨aq,X,y,Z⟩|⟨ar,aJ,X,y,Z,ah,s,-⟩⟩:=h
  .omega
  .simp only[Χ]at y
   obtain⟨-,-,rfl⟩:=y;exact⟨ah,s⟩
 have s:=ag.2;unfold maxLen at s;have E:BQ w (å w (C #[G f,G t,D ua un uc] 92)):=ġ;have ai:=φ w (C #[G f,G t,D ua un uc] 92);have S:=Zh (fun d (m:BQ w d)=>AD (i:=0)  (h.B m) U i NZ ώ);have a1:=Zh (fun d (m:BQ w d)=>AD (i:=i+a) (j:=k - (i+a)) (h.B m) U (c - (i+a)) U ώ);have ac:=h.1;have Q:=Zh aa;have aI:IntKind.i64.wrap ((i:Int)+(a:Int))=(i:Int)+(a:Int):=Ϗ;have aE:((i:Int)+(a:Int)).toNat=i+a:=U;have aF:(0:Int)<=(i:Int)+(a:Int):=U;have aG:(i:Int)+(a:Int)<=(k:Int):=U;have aH:i<=c:=U;go_enter func303,ntmps303;go_upto_region 1 with fail
 generalize(å w _)=o at *;obtain⟨⟨al,am,an⟩,-,aM⟩:=Β ai;have l:BQ o o.drew:=RZ.drew;refine ϯ (fun d=>BQ o d) 12 ϋ ?_;refine Zf 0 l ?_;refine Zf 1 l ?_;refine Zf 2 l ?_;refine Zf 3 l ?_;refine Zb 4 [5,6,12] l ?_ (hy:=by intro d m;have av:=ζ m al;have aw:=ζ m am;have ax:=ζ m an;go_simp;try with_reducible rfl);refine Zf 7 l ?_;refine Zf 8 l ?_;refine Zf 9 l ?_;refine Zf 10 l ?_;refine Zf 11 l ?_;have V:Hid (∀ d,BQ w d->Rd d (D (if c=i+a then J ⟨b,off,O⟩else J ⟨b,off+(i+a)*3,O⟩) (k - (i+a)) (c - (i+a))) (k - (i+a)) 3 (n.drop ((i+a)*3))):=by
  intro d m;have h:=a1.o d m;rw[gF (by rw[fT,ac,Nat.sub_mul];exact NZ)]at h;split
  .have af:k - (i+a)=0:=U
   rw[af]at h ⊢;exact⟨h.1,h.2.1,.inl ⟨_,_,rfl,rfl⟩⟩
  .exact h
 have T:Hid (∀ d,BQ w d->Rd d (D (J ⟨b,off,O⟩) i i) i 3 (n.take (i*3))):=by
  intro d m;have h:=S.o d m;simpa using h
 have a0:Hid (∀ u∈n.drop ((i+a)*3),u.oneCell'=true):=fun u aj=>Q.o u (qu aj);generalize az:(if c=i+a then J (⟨b,off,O⟩:Addr)else J ⟨b,off+(i+a)*3,O⟩)=ao at *;refine Κ (fuel:=3) 5 ϋ rfl ?_;intro K p;go_simp;have q:=l.al (C #[G f,G t,D ua un uc] 92);refine p _ _ q ?_;refine Κ  6 ϋ rfl ?_;intro K p;refine Qb rfl _ _ _ _ rfl w.heap.size 92 M _ 3 _ nN F P H I rfl _ i (n.take _) ϔ (T.o _ (E.t q)) _ 1 [G f,G t,D ua un uc] ϔ (gh nN o.drew _ 3 1 1 rfl ϗ) U ώ U (by simp;omega) ?_;intro aK N v ad aC;have B:BQ o N:=q.grown ad (ι q.size) (fun g hg=>by cases hg);refine p _ _ B ?_;obtain⟨ap,au,rfl⟩:=Η v;have r:=E.t B;refine jF  ϋ ϋ rfl ?_;intro K p;refine lD rfl _ _ _ _ rfl _ 92 M _ 3 _ nN F P H I rfl _ _ _ ϔ v _ _ _ ϔ ((V.o N r).src nN a0.o) ώ U r.size ?_;intro aL ak x ae aD;refine p _ _ ?_;obtain⟨W,Y,rfl⟩:=Η x;refine Ze 13 ?_;refine Zd ?_;have ab:BQ w ak:=r.grown ae r.size (fun g hg=>(Ϡ v g hg).1);rw[gP]at x;have R:=Zh x;go_wp2;go_ret;exact⟨W,Y,rfl,R.o,ab⟩
def LR (k) (r:ε) (ď:List (γ)) (ps) (w:β) (n:L ps=k) (E:ϣ ď w r ps) (a1:k<=1000) :
  Calls prog 305 #[r] w fun e w'=>∃ m c,e=ŗ (D m k c)/\Rd w' (D m k c) k 2 (oN (jB ps))/\BQ w w':=by
 obtain⟨sa,sc,rfl,-,s⟩:=qX E;rw[n];obtain⟨N,F,T,H,I⟩:=Ϩ KQ;have j:=Zh n;go_enter func305,ntmps305;go_wp2;go_loopw [3,8] (fun P i wr=>∃ (q:Nat) (g:Option Addr) (c1:Nat),q<=k/\i=G (q:Int)/\P=D g q c1/\Hid (wr.ownsRow w.heap.size 89 2 (D g q c1) q (oN (jB (ps.take q))))/\BQ w wr) (fun _ i _=>k - (intOf i).toNat)
 .exact⟨0,O,0,Ζ _,rfl,rfl,gQ _ _ _ _,ρ _ _⟩
 obtain⟨q,g,c1,V,rfl,rfl,l,a⟩:=hrel;by_cases W:q<k
 .have p:q<L ps:=ι j.o
  obtain⟨Y,off,da,dc,rfl,-,Q,R,S,-⟩:=s.o q p;have M:(q:Int)<(k:Int):=U;have X:=ζ a Q;have l1:=ζ a R;have l2:=ζ a S;have u:Hid (oN (jB (ps.take (q+1)))=oN (jB (ps.take q))++[G ps[q].1,G ps[q].2]):=by
   show _=_;unfold jB oN;rw[jt p,ng,pI];simp only[ij,jQ,lF,List.flatMap_nil,iy]
  generalize(L (Δ ď _))=ln at *;generalize ps[q].1=f at *;generalize ps[q].2=b at *;have z:=(a.al (C #[G f,G b,D da ln dc] 92)).A (by have:=a.size;simp;omega) (C #[G f,G b] 89);have d:=Zh (ψ (ψ l.o ((ρ _ wr).A NZ (C #[G f,G b,D da ln dc] 92))) (RZ.A NZ (C #[G f,G b] 89)));have a0:=a.size;go_wp2_with (at_builtin;refine ϻ rfl _ _ _ _ rfl _ 89 N _ 2 _ underlying392 F T H I rfl _ q _ (by rfl) d.o _ 1 [G f,G b] (by rfl) (oj underlying392 _ _ 2 1 1 _ ύ rfl ϗ) ώ U ό ?_;intro Z aa h A _ _;have y:=z.grown A ό (fun K B=>(Ϡ d.o K B).1))
  obtain⟨v,x,rfl⟩:=Η h;rw[<-u.o]at h;have t:=Zh h;go_roundw
  .exact⟨ _,v,x,U,ϕ,rfl,t.o,y⟩
  exact ω
 .obtain rfl:q=k:=U
  have M:¬(q:Int)<(q:Int):=U;have o:=l.o;rw[gF (ι j.o)]at o;have d:=Zh (Rd.of_own o);go_wp2;go_ret;exact⟨g,c1,rfl,d.o,a⟩
def FC {H:List (γ)} {w:β} {b off k c i many ps} (t:L ps=k) (h:ϣ H w (D (J ⟨b,off,O⟩) k c) ps) (v:i+many<=k) (A:k<=c) (f:0<k):ϣ H w (D (J ⟨b,off+i*3,O⟩) many (c - i)) ((ps.drop i).take many):=by
 obtain⟨m,a,s⟩:=h;have d:L ((ps.drop i).take many)=many:=ό;have g:c<=maxLen:=by
  obtain⟨-,B,⟨y,l,e,f⟩|⟨z,F,l,e,f,E,g,-⟩⟩:=a
  .omega
  .simp only[Χ]at e
   obtain⟨-,-,rfl⟩:=e;exact g
 rw[t]at a;refine⟨(m.drop (i*3)).take (many*3),by rw[d];exact AD a v _ U U,fun q j=>?_⟩;rw[d]at j;obtain⟨n,o,x,p,r⟩:=s (i+q) U;have u:((ps.drop i).take many)[q]'(by rw[d];exact j)=ps[i+q]' U:=ύ;rw[u];refine⟨?_,?_,x,?_,r⟩
 .rw[iH,μ U,jr,show i*3+q*3=(i+q)*3 from U];exact n
 .rw[iH,μ U,jr,show i*3+(q*3+1)=(i+q)*3+1 from U];exact o
 .rw[iH,μ U,jr,show i*3+(q*3+2)=(i+q)*3+2 from U];exact p
theorem FD {m:List (γ)} {ps} {e:List ε} {w:β} (h:lx m ps e (L ps) w) (l:L e=L ps*3):∀ u∈e,u.oneCell'=true:=by
 intro u g;obtain⟨a,hi,rfl⟩:=rk g;obtain⟨b,c,x,d,f⟩:=h (a / 3) U U;rcases(U:a % 3=0\/a % 3=1\/a % 3=2)with hm|hm|hm
 .rw[show a / 3*3=a from U,Ρ hi]at b
  injection b with b;rw[b];rfl
 .rw[show a / 3*3+1=a from U,Ρ hi]at c
  injection c with c;rw[c];rfl
 .rw[show a / 3*3+2=a from U,Ρ hi]at d
  injection d with d;rw[d];obtain⟨j,k,i,-⟩:=ic f;rw[i];rfl
theorem Aj (ps i many) (d:i+many<=L ps) (q):(iE ps i many)[q]?=if q<i then ps[q]? else if q=i then J ((ps.getD i (0,0)).1,(ps.getD (i+many - 1) (0,0)).2)else ps[i+many+(q - i - 1)]?:=by
 unfold iE;by_cases a:q<i
 .rw[je ό,iH,μ a,μ a]
 .rw[hL ό,κ a,gp,mi U]
  by_cases b:q=i
  .subst b
   rw[kj,μ rfl];rfl
  .obtain⟨r,c⟩:∃ r,q - i=r+1:=⟨q - i - 1,U⟩
   rw[κ b,c,ol,jr];rfl
def Ak {ps i many q x} (a:q<L (iE ps i many)) (h:(iE ps i many)[q]?=J x):(iE ps i many)[q]=x:=by
 rw[Ρ a]at h;exact lq h
def FA {y:List (γ)} {ps} {b:List ε} {w:β} {i many lo hi} {u:ε} (m:lx y ps b (L ps) w) (t:L b=L ps*3) (j:i+many<=L ps) (o:lo=(ps.getD i (0,0)).1) (n:hi=(ps.getD (i+many - 1) (0,0)).2)
  (s:fN w u (L (Δ y (lo,hi))) (Δ y (lo,hi))):lx y (iE ps i many) (b.take (i*3)++([G lo,G hi,u]++b.drop ((i+many)*3))) (L (iE ps i many)) w:=by
 subst o;subst n;intro q k _;have a:L (b.take (i*3))=i*3:=ό;have v:L (iE ps i many)=i+1+(L ps - (i+many)):=by simp only[iE,σ,ϥ,gp,fT];omega
 by_cases h:q<i
 .have c:(iE ps i many)[q]=ps[q]' U:=Ak k (by rw[Aj ps i many j,μ h,Ρ U])
  rw[c];obtain⟨d,e,x,f,g⟩:=m q U U;refine⟨?_,?_,x,?_,g⟩
  .rw[je U,iH,μ U];exact d
  .rw[je U,iH,μ U];exact e
  .rw[je U,iH,μ U];exact f
 .by_cases l:q=i
  .subst l
   have c:(iE ps q many)[q]=((ps.getD q (0,0)).1,(ps.getD (q+many - 1) (0,0)).2):=Ak k (by rw[Aj ps q many j,κ h,μ rfl]);rw[c];refine⟨?_,?_,u,?_,s⟩
   .rw[hL U,a,kj];rfl
   .rw[hL U,a,show q*3+1 - q*3=1 from U];rfl
   .rw[hL U,a,show q*3+2 - q*3=2 from U];rfl
  .obtain⟨r,p⟩:∃ r,q=i+1+r:=⟨q - i - 1,U⟩
   subst p;have c:(iE ps i many)[i+1+r]=ps[i+many+r]' U:=Ak k (by rw[Aj ps i many j,κ h,κ l,show i+1+r - i - 1=r from U,Ρ U]);rw[c];obtain⟨d,e,x,f,g⟩:=m (i+many+r) U U;refine⟨?_,?_,x,?_,g⟩
   .rw[hL U,a,show(i+1+r)*3 - i*3=3+r*3 from U,hL ύ,jr]
    rw[show(i+many)*3+(3+r*3 - L [G ((ps.getD i (0,0)).1:Int),G ((ps.getD (i+many - 1) (0,0)).2:Int),u])=(i+many+r)*3 from by simp only[ϥ,gO];omega];exact d
   .rw[hL U,a,show(i+1+r)*3+1 - i*3=3+r*3+1 from U,hL ό,jr]
    rw[show(i+many)*3+(3+r*3+1 - L [G ((ps.getD i (0,0)).1:Int),G ((ps.getD (i+many - 1) (0,0)).2:Int),u])=(i+many+r)*3+1 from by simp only[ϥ,gO];omega];exact e
   .rw[hL U,a,show(i+1+r)*3+2 - i*3=3+r*3+2 from U,hL ό,jr]
    rw[show(i+many)*3+(3+r*3+2 - L [G ((ps.getD i (0,0)).1:Int),G ((ps.getD (i+many - 1) (0,0)).2:Int),u])=(i+many+r)*3+2 from by simp only[ϥ,gO];omega];exact f
def MQ (i c:Nat) (n k:Nat) (da:Option Addr) (dc:Nat) (sa:Option Addr) (sc:Nat) (ď:List (γ)) (ps:List (Nat×Nat)) (m:Nat) (w:β) (af:L ď=n) (ae:L ps=k) (az:ϭ w) (ar:Ε w (D da n dc) ď) (au:ϣ ď w (D sa k sc) ps) (P:Ϻ ď ps m) (ci:n<=40) (hi:i<=4611686018427387904) (cg:c<=4611686018427387904) :
  Calls prog 256 #[ā #[D da n dc,D sa k sc],G i,G c] w (nr w (gA (ď,ps) (.merge i c))):=by
 obtain⟨cy,ck,cl,cm,cn⟩:=Ϩ xh;have aj:=Zh (fun ac (Y:BQ w ac)=>tq da n dc sa k sc ď ps m ac (az.B Y) (ar.B Y) (au.B Y) P);obtain⟨o1,o2,o3⟩:=tb P;have bD:=P.np;have bK:=P.le;rw[af]at bK;rw[ae]at bD;have a2:=Zh (fun ac (Y:BQ w ac)=>xw n k da dc sa sc ď ps ac af ae (ar.B Y) (au.B Y) U U o1 o2);have hF:gA (ď,ps) (.merge i c)=if c<2\/k<c\/k - c<i then O else J (ď,iE ps i c):=by
  simp only[gA,af,ae]
 rw[hF];have⟨aw,y,aF,be⟩:=hV af ae au az;have a7:=Zh (fun(c4:γ) (ar:c4∈ď)=>show L c4<=2500 by have:=P.ld c4 ar;omega);have a4:=Zh P.ch;have ao:BQ w (å (å w (C #[D da n dc,D sa k sc] 44)) (C #[D O 0 0,D O 0 0] 44)):=ġ.A ύ _;have cv:IntKind.i64.wrap ((k:Int) - (c:Int))=(k:Int) - (c:Int):=Ϗ;have cu:¬(i:Int)<0:=U;clear au P af ae az;by_cases bF:c<2
 .have bG:(c:Int)<2:=U
  rw[μ (.inl bF)];go_enter func256,ntmps256;go_wp2_with fail
  refine(aj.o _ ao).M ?_;rintro e x ⟨rfl,M⟩;obtain⟨s,Q,aB,aC,N⟩:=fZ M;obtain⟨⟨d,I⟩,⟨E,f1⟩,-⟩:=ν s;have F:=fS s (D da n dc) (D sa k sc);have t:=(jH x w.heap.size (w.heap.size+1) U (D da n dc) (D sa k sc)).trans Q;have A:=ga N NZ (D da n dc) (D sa k sc);go_upto_region 2 with fail
  generalize ŝ (ŝ x ⟨w.heap.size,0,O⟩ (D da n dc)) ⟨w.heap.size,1,O⟩ (D sa k sc)=B at *;obtain⟨⟨d,I⟩,⟨E,f1⟩,av⟩:=ν F;obtain⟨⟨r0,r1⟩,⟨am,an⟩,aD⟩:=ν t;have⟨ab,aa⟩:=π (fS t (D da n dc) (D sa k sc)) (ga A (gu _ 1) (D da n dc) (D sa k sc));go_wp2;exact Ω (v:=.tuple #[ā #[D da n dc,D sa k sc],G 1]) (gz (p:=6) (u:=7) (ty:=44) rfl _ _ (w.heap.size+1) 44 _ (0,0) _ rfl ab.o lG rfl ϋ) rfl ⟨da,n,dc,sa,k,sc,1,U,U,rfl,aa.o⟩
 .have bG:¬(c:Int)<2:=U
  by_cases bH:k<c
  .have cc:(k:Int)<(c:Int):=U
   rw[μ (.inr (.inl bH))];go_enter func256,ntmps256;go_wp2_with fail
   refine(aj.o _ ao).M ?_;rintro e x ⟨rfl,M⟩;obtain⟨s,Q,aB,aC,N⟩:=fZ M;obtain⟨⟨d,I⟩,⟨E,f1⟩,-⟩:=ν s;have F:=fS s (D da n dc) (D sa k sc);have t:=(jH x w.heap.size (w.heap.size+1) U (D da n dc) (D sa k sc)).trans Q;have A:=ga N NZ (D da n dc) (D sa k sc);go_upto_region 2 with fail
   generalize ŝ (ŝ x ⟨w.heap.size,0,O⟩ (D da n dc)) ⟨w.heap.size,1,O⟩ (D sa k sc)=B at *;obtain⟨⟨d,I⟩,⟨E,f1⟩,av⟩:=ν F;obtain⟨⟨r0,r1⟩,⟨am,an⟩,aD⟩:=ν t;have⟨ab,aa⟩:=π (fS t (D da n dc) (D sa k sc)) (ga A (gu _ 1) (D da n dc) (D sa k sc));go_wp2;exact Ω (v:=.tuple #[ā #[D da n dc,D sa k sc],G 1]) (gz (p:=6) (u:=7) (ty:=44) rfl _ _ (w.heap.size+1) 44 _ (0,0) _ rfl ab.o lG rfl ϋ) rfl ⟨da,n,dc,sa,k,sc,1,U,U,rfl,aa.o⟩
  .by_cases bI:k - c<i
   .have bJ:(k:Int) - (c:Int)<(i:Int):=U
    rw[μ (.inr (.inr bI))];go_enter func256,ntmps256;go_wp2_with fail
    refine(aj.o _ ao).M ?_;rintro e x ⟨rfl,M⟩;obtain⟨s,Q,aB,aC,N⟩:=fZ M;obtain⟨⟨d,I⟩,⟨E,f1⟩,-⟩:=ν s;have F:=fS s (D da n dc) (D sa k sc);have t:=(jH x w.heap.size (w.heap.size+1) U (D da n dc) (D sa k sc)).trans Q;have A:=ga N NZ (D da n dc) (D sa k sc);go_upto_region 2 with fail
    generalize ŝ (ŝ x ⟨w.heap.size,0,O⟩ (D da n dc)) ⟨w.heap.size,1,O⟩ (D sa k sc)=B at *;obtain⟨⟨d,I⟩,⟨E,f1⟩,av⟩:=ν F;obtain⟨⟨r0,r1⟩,⟨am,an⟩,aD⟩:=ν t;have⟨ab,aa⟩:=π (fS t (D da n dc) (D sa k sc)) (ga A (gu _ 1) (D da n dc) (D sa k sc));go_wp2;exact Ω (v:=.tuple #[ā #[D da n dc,D sa k sc],G 1]) (gz (p:=6) (u:=7) (ty:=44) rfl _ _ (w.heap.size+1) 44 _ (0,0) _ rfl ab.o lG rfl ϋ) rfl ⟨da,n,dc,sa,k,sc,1,U,U,rfl,aa.o⟩
   .have bJ:¬(k:Int) - (c:Int)<(i:Int):=U
    rw[κ U];obtain⟨R,S,rfl,bE⟩:∃ R S,sa=J ⟨R,S,O⟩/\k<=sc:=by
     obtain⟨al,⟨-,-,⟨b6,bh,aA,bj⟩|⟨b7,cx,bh,aA,bj,cj,-⟩⟩,-⟩:=aF.o
     .have:=y.o;omega
     .simp only[Χ]at aA
      obtain⟨rfl,-,rfl⟩:=aA;exact⟨_,_,rfl,ι y.o⟩
    have ca:¬sc=i:=U;have ce:i+c - i=c:=U;have cq:((i:Int)+(c:Int)).toNat=i+c:=U;have cr:(0:Int)<=(i:Int)+(c:Int):=U;have cs:(i:Int)+(c:Int)<=(sc:Int):=U;have ct:(i:Int)<=(i:Int)+(c:Int):=U;have cw:IntKind.i64.wrap ((i:Int)+(c:Int))=(i:Int)+(c:Int):=Ϗ;obtain⟨lo,r,c1,c2,bi,aP,aN,cd⟩:=zj a4.o (i:=i) (m:=c) (by rw[y.o];omega) U;go_enter func256,ntmps256;go_wp2_with fail
    refine(aj.o _ ao).M ?_;rintro e x ⟨rfl,M⟩;obtain⟨s,Q,aB,aC,N⟩:=fZ M;obtain⟨⟨d,I⟩,⟨E,f1⟩,-⟩:=ν s;have F:=fS s (D da n dc) (D (J ⟨R,S,O⟩) k sc);have t:=(jH x w.heap.size (w.heap.size+1) U (D da n dc) (D (J ⟨R,S,O⟩) k sc)).trans Q;have A:=ga N NZ (D da n dc) (D (J ⟨R,S,O⟩) k sc);go_upto_region 2 with fail
    generalize ŝ (ŝ x ⟨w.heap.size,0,O⟩ (D da n dc)) ⟨w.heap.size,1,O⟩ (D (J ⟨R,S,O⟩) k sc)=B at *;obtain⟨⟨d,I⟩,⟨E,f1⟩,av⟩:=ν F;obtain⟨⟨r0,r1⟩,⟨am,an⟩,aD⟩:=ν t;go_wp2_with fail
    have ch:L ((ps.drop i).take c)=c:=by have:=y.o;simp;omega
    have bC:r<=40:=ι (rJ bi);refine(BP ď (D (J ⟨R,S+i*3,O⟩) c (sc - i)) ((ps.drop i).take c) lo r B (be.o.B A) (FC y.o (aF.o.B A) U bE U) c2 U U bC a7.o).M ?_;rintro e K ⟨cz,rfl,aH,ap⟩;obtain⟨T,h,rfl,-,-⟩:=ic (aH K (fun _ _ _=>rfl));have bf:Hid (Hi B.heap.size K (fun z=>fN z (D T (L (Δ ď (lo,r))) h) (L (Δ ď (lo,r))) (Δ ď (lo,r)))):=aH;generalize aJ:L (Δ ď (lo,r))=V at *;have bg:=Zh aJ;clear aJ;have⟨a8,a6⟩:=π aP aN;have bv:=A.t ap;have bM:=θ F ap;have bO:=θ t ap;have aq:BQ K (å K (C #[G lo,G r,D T V h] 92)):=ġ;have bY:=φ K (C #[G lo,G r,D T V h] 92);have aM:=bv.t aq;have bN:=θ bM aq;have bP:=θ bO aq;have co:=ap.size;clear aP aN;go_upto_region 5 with fail
    have aV:(å K (C #[G lo,G r,D T V h] 92)).heap.size=K.heap.size+1:=ύ;have bc:=Zh aV;clear aV;generalize(å K (C #[G lo,G r,D T V h] 92))=W at *;obtain⟨⟨d,I⟩,⟨E,f1⟩,av⟩:=ν bN;have a3:=Zh (a2.o W aM);go_wp2_with fail
    refine a3.o.M ?_;rintro e f ⟨o,ad,aX,al,lw,rfl,X,ag⟩;have bw:=aM.t ag;have bQ:=θ bP ag;have bZ:=θ bY ag;have cp:=ag.size;have Z:BQ f (å f (C #[D (J ⟨o,0,O⟩) n n,D (J ⟨ad,0,O⟩) k k] 44)):=ġ;have aT:=φ f (C #[D (J ⟨o,0,O⟩) n n,D (J ⟨ad,0,O⟩) k k] 44);have b9:=bc.o;have cf:=X.bl;have bm:Α (fun b=>(W.heap.size<=b/\b<lw/\b<f.heap.size)\/b=f.heap.size\/b<B.heap.size) f (fun z=>ml ď aX (L ď) z/\lx ď ps al (L ps) z):=X.el.off (fun b bk bl=>U);have bq:Α (fun b=>(W.heap.size<=b/\b<lw/\b<f.heap.size)\/b=f.heap.size\/b<B.heap.size) f (fun z=>fN z (D T V h) V (Δ ď (lo,r))):=((bf.o.off (H:=fun b=>(W.heap.size<=b/\b<lw/\b<f.heap.size)\/b=f.heap.size\/b<B.heap.size) (fun b bk bl=>U)).B aq).B ag;have cb:=(Ϡ X.rD o rfl);have bT:=X.rD;have ay:=X.rS;rw[y.o]at ay;have bt:=FD X.el.now.2 (by have:=ay.1;rw[y.o];omega);go_upto_region 8 with fail
    have bo:=(bm.and bq).B Z;have bV:=ψ bT Z;have aS:=ψ ay Z;have bR:=θ bQ Z;have b0:=θ bZ Z;have bz:=bw.t Z;have aW:(å f (C #[D (J ⟨o,0,O⟩) n n,D (J ⟨ad,0,O⟩) k k] 44)).heap.size=f.heap.size+1:=ύ;have bd:=Zh aW;clear aW;generalize(å f (C #[D (J ⟨o,0,O⟩) n n,D (J ⟨ad,0,O⟩) k k] 44))=ak at *;obtain⟨⟨c0,c1⟩,⟨aY,aZ⟩,a0⟩:=ν aT;obtain⟨⟨cA,cB,cC⟩,-,cD⟩:=Β b0;have bb:=Zh (ED ad 0 k k i c lo r T V h al ak (Rd.of_own aS) bt U U U);have b8:=bd.o;go_wp2_with fail
    refine bb.o.M ?_;rintro e ai ⟨j,l,rfl,aQ,ah⟩;generalize aI:i+1+(k - (i+c))=q at *;have a9:=Zh aI;clear aI;have aU:=θ aT ah;have bS:=θ bR ah;have bA:=bz.t ah;have bp:=bo.B ah;have bW:=ψ bV ah;have b1:∀ g,(Value.slice j q l).ownBlock=J g->ak.heap.size<=g:=fun g hg=>(Ϡ aQ g hg).1;obtain⟨⟨c0,c1⟩,⟨aY,aZ⟩,a0⟩:=ν aU;go_upto_region 9 with fail
    have bX:=υ ai f.heap.size 1 _ _ (D j q l) aU;have aR:=(Γ ai ⟨f.heap.size,1,O⟩ (w.heap.size+1) (D j q l) ϑ).trans bS;have bx:=bA.S (p:=⟨f.heap.size,1,O⟩) ϑ (D j q l);have bn:=bp.set (p:=⟨f.heap.size,1,O⟩) (.inr (.inl rfl)) (D j q l);have bL:=kA aQ (w':=ŝ ai ⟨f.heap.size,1,O⟩ (D j q l)) (fun g hg=>Γ _ _ _ _ (by have:=b1 g hg;simp only;omega));have bU:=kA bW (w':=ŝ ai ⟨f.heap.size,1,O⟩ (D j q l)) (fun g hg=>Γ _ _ _ _ (by simp only[Value.ownBlock,Φ]at hg;simp only;omega));generalize ŝ ai ⟨f.heap.size,1,O⟩ (D j q l)=aG at *;obtain⟨⟨c0,c1⟩,⟨aY,aZ⟩,a0⟩:=ν (show aG.heap[f.heap.size]?=J (C #[D (J ⟨o,0,O⟩) n n,D j q l] 44 (0,0))from bX);obtain⟨⟨r0,r1⟩,⟨am,an⟩,cE⟩:=ν aR;have⟨ba,a1⟩:=π (fS aR (D (J ⟨o,0,O⟩) n n) (D j q l)) (ga bx (gu _ 1) (D (J ⟨o,0,O⟩) n n) (D j q l));have aK:w.heap.size+1<W.heap.size:=U;have br:=gX (hR (hR bU (a:=⟨w.heap.size+1,0,O⟩) aK (D (J ⟨o,0,O⟩) n n)) (a:=⟨w.heap.size+1,1,O⟩) aK (D j q l)) (U:w.heap.size<=W.heap.size);have aL:w.heap.size+1<ak.heap.size:=U;have bu:=gX (hR (hR bL (a:=⟨w.heap.size+1,0,O⟩) aL (D (J ⟨o,0,O⟩) n n)) (a:=⟨w.heap.size+1,1,O⟩) aL (D j q l)) (U:w.heap.size<=ak.heap.size);have bs:=((bn.set (p:=⟨w.heap.size+1,0,O⟩) (.inr (.inr ϑ)) (D (J ⟨o,0,O⟩) n n)).set (p:=⟨w.heap.size+1,1,O⟩) (.inr (.inr ϑ)) (D j q l)).toHi (base:=w.heap.size) (fun b c3=>U);have ax:L (iE ps i c)=q:=by
     have:=y.o;have:=a9.o;simp only[iE,σ,ϥ,gp,fT];omega
    have a5:Hid (Hi w.heap.size (ŝ (ŝ aG ⟨w.heap.size+1,0,O⟩ (D (J ⟨o,0,O⟩) n n)) ⟨w.heap.size+1,1,O⟩ (D j q l)) (fun z=>Ε z (D (J ⟨o,0,O⟩) n n) ď/\ϣ ď z (D j q l) (iE ps i c))):=by
     have bB:L al=L ps*3:=by have:=aS.1;rw[y.o];omega
     refine(bs.and ((Hi.own br).and (Hi.own bu))).imp fun z ⟨⟨⟨p1,p2⟩,b3⟩,b4,b5⟩=>⟨⟨aX,by simpa[aw.o] using b4,fun i hi=>p1 i hi hi⟩,_,by rw[ax];exact b5,fun b2 aO=>?_⟩;exact FA p2 bB (by rw[y.o];omega) a8.o a6.o (by rw[bg.o];exact b3) b2 aO aO
    have aE:=Zh ax;clear ax;go_wp2;exact Ω (v:=.tuple #[ā #[D (J ⟨o,0,O⟩) n n,D j q l],G 0]) (gz (p:=6) (u:=7) (ty:=44) rfl _ _ (w.heap.size+1) 44 _ (0,0) _ rfl ba.o lG rfl ϋ) rfl ⟨J ⟨o,0,O⟩,n,j,l,by simp only[aw.o,aE.o],by simp only[aw.o,aE.o];exact a5.o,a1.o⟩
def PA {ps} (h:(ky (jB ps)).2=true):kB (L ps) ps=kB (L (iE ps (ky (jB ps)).1.toNat 2)) (iE ps (ky (jB ps)).1.toNat 2):=by
 have d:=Al h;obtain⟨a,b⟩:∃ a,L ps=a+1:=⟨L ps - 1,U⟩;have c:L (iE ps (ky (jB ps)).1.toNat 2)=a:=by
  simp only[iE,σ,ϥ,gp,fT];omega
 rw[c,b,kB,μ h]
def Pz {ps} (h:(ky (jB ps)).2=false):kB (L ps) ps=ps:=by
 cases b:L ps with
 |zero=>rfl
 |succ a=>rw[kB,κ (by rw[h];simp)]
def uY (w:β) (a:Nat):Nat:=match w.cell? ⟨a,1,O⟩with|some (D _ n _)=>n|_=>0
structure yW (H:Nat->Prop) (docs:List (γ)) (T:Nat) (vD:ε) (wr:β) (a:Option Addr) (c:Nat) (pc:List (Nat×Nat)) (cells:List ε):Prop where
 row:wr.heap[T]?=J (C #[vD,D a (L pc) c] 44 (0,0))
 el:Α H wr (fun w2=>Ε w2 vD docs/\Rd w2 (D a (L pc) c) (L pc) 3 cells/\lx docs pc cells (L pc) w2)
def MR (n k da dc sa sc) (ď:List (γ)) (ps m) (w:β) (aI:L ď=n) (ad:L ps=k) (aT:ϭ w) (V:Ε w (D da n dc) ď) (K:ϣ ď w (D sa k sc) ps) (B:Ϻ ď ps m) (cA:n<=40) :
  Calls prog 258 #[ā #[D da n dc,D sa k sc]] w fun e w'=>∃ aD c1 aE c2,e=ŗ (ā #[D aD n c1,D aE (L (kB k ps)) c2])/\Hi w.heap.size w' (fun j=>Ε j (D aD n c1) ď/\ϣ ď j (D aE (L (kB k ps)) c2) (kB k ps))/\BQ w w':=by
 have bp:=Zh (fun s (A:BQ w s)=>tq da n dc sa k sc ď ps m s (aT.B A) (V.B A) (K.B A) B);obtain⟨o1,o2,o3⟩:=tb B;have bV:=B.np;have bZ:=B.le;rw[aI]at bZ;rw[ad]at bV;have aY:=Zh (fun s (A:BQ w s)=>xw n k da dc sa sc ď ps s aI ad (V.B A) (K.B A) U U o1 o2);have⟨Z,bm⟩:=π ad aT;have a6:=Zh (fun d (V:d∈ď)=>show L d<=2500 by have:=B.ld d V;omega);have aZ:=Zh B.ch;have bH:BQ w (å (å w (C #[D da n dc,D sa k sc] 44)) (C #[D O 0 0,D O 0 0] 44)):=ġ.A ύ _;clear V K B o1 o2 o3 aI ad aT;go_enter func258,ntmps258;go_wp2_with fail
 refine(bp.o _ bH).M ?_;rintro e aU ⟨rfl,bI⟩;obtain⟨aP,aj,cP,cQ,bP⟩:=fZ bI;obtain⟨⟨cb,cc⟩,⟨bw,f1⟩,-⟩:=ν aP;have b4:=fS aP (D da n dc) (D sa k sc);have aQ:=(jH aU w.heap.size _ U (D da n dc) (D sa k sc)).trans aj;have aJ:=ga bP NZ (D da n dc) (D sa k sc);clear bH bI aP aj bP;go_upto_region 2 with fail
 generalize ŝ (ŝ aU _ _) _ _=bs at *;obtain⟨⟨cb,cc⟩,⟨bw,f1⟩,cT⟩:=ν b4;go_wp2_with fail
 refine(aY.o bs aJ).M ?_;rintro e l ⟨o,z,ch,Q,lo,rfl,S,af⟩;have bJ:=aJ.t af;have b5:=θ aQ af;have cD:=af.size;have cC:=ς aQ;have ag:BQ l (å l (C #[D (J ⟨o,0,O⟩) n n,D (J ⟨z,0,O⟩) k k] 44)):=ġ;have b8:=φ l (C #[D (J ⟨o,0,O⟩) n n,D (J ⟨z,0,O⟩) k k] 44);have bC:Α (fun b=>b=l.heap.size\/b<w.heap.size+2) l (fun j=>Ε j (D (J ⟨o,0,O⟩) n n) ď/\Rd j (D (J ⟨z,0,O⟩) k k) (L ps) 3 Q/\lx ď ps Q (L ps) j):=by
  have r:=(S.el.M S.bl).and ((Hi.own S.rD).and (Hi.own S.rS));refine(r.off  (fun b r aF=>U)).imp fun j ⟨⟨R,ab⟩,ac,bx⟩=>⟨⟨ch,ac,fun f hi=>R f hi hi⟩,bx,ab⟩
 have bQ:=bJ.t ag;have b6:=θ b5 ag;have aH:=bC.B ag;have bf:Hid (yW (fun b=>b=l.heap.size\/b<w.heap.size+2) ď l.heap.size (D (J ⟨o,0,O⟩) n n) (å l (C #[D (J ⟨o,0,O⟩) n n,D (J ⟨z,0,O⟩) k k] 44)) (J ⟨z,0,O⟩) k ps Q):=by
  have aN:=Z.o;exact⟨by rw[aN];exact b8,by rw[aN]at aH ⊢;exact aH⟩
 clear bC aH S b8
 go_upto_region 3 with fail
 have ca:(å l (C #[D (J ⟨o,0,O⟩) n n,D (J ⟨z,0,O⟩) k k] 44)).heap.size=l.heap.size+1:=ύ;have bl:=Zh ca;have cv:w.heap.size+2<=l.heap.size:=U;clear ca;generalize(å l _)=ck at *;have⟨bc,aW⟩:=π b6 bQ;generalize cs:l.heap.size=g at *;clear b6 bQ bJ b5 ag af cs;go_loopw [5] (fun cK wr=>∃ (pc:List (Nat×Nat)) (y:List ε) (a:Option Addr) (c:Nat),Hid (kB (L pc) pc=kB k ps)/\Hid (il 0 pc m)/\L pc<=k/\Hid (yW (fun b=>b=g\/b<w.heap.size+2) ď g (D (J ⟨o,0,O⟩) n n) wr a c pc y)/\Hid (wr.heap[w.heap.size+1]?=J (C #[D O 0 0,D O 0 0] 44 (0,0)))/\BQ w wr/\g<wr.heap.size) (fun _ wr=>uY wr g)
 .exact⟨ps,Q,_,_,by show _=_;rw[Z.o],aZ.o,by rw[Z.o];exact NZ,bf.o,bc.o,aW.o,ι bl.o⟩
 obtain⟨pc,y,a,c,az,X,cB,F,bq,bM,cw⟩:=hrel;obtain⟨⟨ap,aq⟩,⟨au,av⟩,-⟩:=ν F.o.row;obtain⟨cy,aj,bR⟩:=F.o.el.now;have aS:ϣ ď wr (D a (L pc) c) pc:=⟨y,aj,fun q I=>bR q I I⟩;have⟨bh,bi,cj⟩:=ϲ (LR _ _ ď pc wr rfl aS U) aS (show L pc=L pc from rfl);clear cy aj bR aS;go_wp2_with fail
 refine bh.o.M ?_;rintro e ci ⟨cm,co,rfl,b7,aK⟩;have bN:=bM.t aK;have bX:∀ c3∈jB pc,c3.2<=9223372036854775807:=by
  intro c3 K;simp only[jB,ih]at K;obtain⟨cd,b2,rfl⟩:=K;have:=sM X.o cd b2;simp only;omega
 have bb:=Zh (Me _ _ ci (by rw[Bc];exact b7) bX);clear bX b7;go_wp2_with fail
 refine bb.o.M ?_;rintro e ar ⟨rfl,aL⟩;have ah:=bN.t aL;have T:=aK.t aL;have⟨aA,aw,aB,ay⟩:=hV (θ F.o.row T) (F.o.el.B T) (θ bq.o T) (bi.o.B T);obtain⟨⟨ap,aq⟩,⟨au,av⟩,ct⟩:=ν aA.o;clear aK aL T bN;cases ai:(ky (jB pc)).2 with
 |false =>
  have a3:=Zh (Pz ai);have aR:=aB.o;obtain⟨⟨r0,r1⟩,⟨cq,R⟩,cS⟩:=ν aR;have⟨bd,aX⟩:=π (fS aR (D (J ⟨o,0,O⟩) n n) (D a (L pc) c)) (ga ah (gu _ 1) (D (J ⟨o,0,O⟩) n n) (D a (L pc) c));have a2:Hid (Hi w.heap.size (ŝ (ŝ ar ⟨w.heap.size+1,0,O⟩ (D (J ⟨o,0,O⟩) n n)) ⟨w.heap.size+1,1,O⟩ (D a (L pc) c)) (fun j=>Ε j (D (J ⟨o,0,O⟩) n n) ď/\ϣ ď j (D a (L pc) c) pc)):=by
   refine(((aw.o.set  (.inr ϑ) _).set  (.inr ϑ) _).toHi  (fun b c0=>U)).imp fun j ⟨R,ab,ac⟩=>⟨R,y,ab,fun q I=>ac q I I⟩
  have ax:Hid (kB k ps=pc):=by show _=_;rw[<-az.o,a3.o]
  clear aR ai
  go_wp2;exact Ω  (jf   rfl _ _ _ _ _ _ _ rfl bd.o lG rfl ϋ) rfl ⟨ _,n,a,c,by rw[ax.o],by rw[ax.o];exact a2.o,aX.o⟩
 |true =>
  have aO:=Al ai;obtain⟨f,hi⟩:∃ f:Nat,(ky (jB pc)).1=(f:Int):=⟨(ky (jB pc)).1.toNat,U⟩;have bj:=Zh (PA ai);rw[hi]at aO;simp only[vZ]at aO;have a5:=Zh hi;rw[hi];obtain⟨an,ao,rfl,bW⟩:∃ an ao,a=J ⟨an,ao,O⟩/\L pc<=c:=by
   obtain⟨cp,⟨-,-,⟨cl,bu,am,bz⟩|⟨cn,cJ,bu,am,bz,b0,-⟩⟩,-⟩:=ay.o
   .omega
   .simp only[Χ]at am
    obtain⟨rfl,-,rfl⟩:=am;exact⟨_,_,rfl,b0⟩
  have cx:¬c=f:=U;have cI:IntKind.i64.wrap ((f:Int)+2)=(f:Int)+2:=Ϗ;have cF:((f:Int)+2).toNat=f+2:=U;have cG:(f:Int)+2<=(c:Int):=U;have cH:(f:Int)<=(f:Int)+2:=U;obtain⟨x,v,c1,c2,bv,bY,bT,cz⟩:=zj X.o (i:=f) (m:=2) U U;have bU:v<=40:=ι (rJ bv);have⟨aV,a7,a4⟩:=ϲ (BP ď _ _ x v ar (bm.o.B ah) (FC rfl ay.o U bW U) c2 ό ό bU a6.o) bY bT;clear bY bT c1 c2 bv hi ai;go_wp2_with fail
  refine aV.o.M ?_;rintro e E ⟨cL,rfl,aG,bK⟩;obtain⟨M,N,rfl,-,-⟩:=ic (aG E (fun _ _ _=>rfl));have bn:Hid (Hi ar.heap.size E (fun j=>fN j (D M (L (Δ ď (x,v))) N) (L (Δ ď (x,v))) (Δ ď (x,v)))):=aG;generalize bF:L (Δ ď _)=W at *;have bo:=Zh bF;clear aG bF;have aM:BQ E (å E (C #[G x,G v,D M W N] 92)):=ġ;have b9:=φ E (C #[G x,G v,D M W N] 92);have H:=bK.t aM;have⟨aa,aC⟩:=π (θ aA.o H) (θ aB.o H);have bB:=(aw.o.B H).and ((bn.o.off  (fun b r aF=>by omega)).B aM);have Y:=Zh bB;have bO:=ah.t H;have cE:=H.size;go_upto_region 7 with fail
  clear bB H bK aM
  generalize(å E _)=bt at *;obtain⟨⟨ap,aq⟩,⟨au,av⟩,cu⟩:=ν aa.o;obtain⟨⟨cM,cN,cO⟩,-,cR⟩:=Β b9;have al:=Y.o.now.1.2.1;have bS:=Y.o.now.1.2.2;have⟨be,a0⟩:=π (ED an ao c _ f 2 x v M W N y bt al (FD bS al.1) U U U) al.1;clear al bS;go_wp2_with fail
  refine be.o.M ?_;rintro e P ⟨t,u,rfl,b1,h⟩;have ae:L (iE pc f 2)=f+1+(L pc - (f+2)):=by
   simp only[iE,σ,ϥ,gp,fT];omega
  generalize cr:f+1+(L pc - (f+2))=q at *;have ak:=θ aa.o h;obtain⟨⟨ap,aq⟩,⟨au,av⟩,bD⟩:=ν ak;have bA:=(Y.o.B h).and ((Hi.own b1).off  (fun b r aF=>by omega));have bG:w.heap.size+1≠g:=by
   intro e;have r:=aC.o;rw[e,aa.o]at r;simp at r
  have bg:Hid (yW (fun b=>b=g\/b<w.heap.size+2) ď g (D (J ⟨o,0,O⟩) n n) (ŝ P ⟨g,1,O⟩ (D t q u)) t u (iE pc f 2) (y.take (f*3)++([G x,G v,D M W N]++y.drop ((f+2)*3)))):=by
   refine⟨?_,?_⟩
   .rw[ae];exact υ _ _ 1 _ _ _ ak
   .refine(bA.set (p:=⟨g,1,O⟩) (.inl rfl) (D t q u)).imp fun j ⟨⟨⟨p1,p2,ce⟩,cf⟩,cg⟩=>⟨p1,by rw[ae];exact cg,?_⟩
    exact FA ce a0.o U a7.o a4.o (by rw[bo.o];exact cf)
  have br:=Zh ((Γ P ⟨g,1,O⟩ _ (D t q u) bG).trans (θ aC.o h));have bL:=(bO.t h).S (p:=⟨g,1,O⟩) (show w.heap.size<=g by omega) (D t q u);have bk:Hid (kB (L (iE pc f 2)) (iE pc f 2)=kB k ps):=by
   show _=_;have r:=bj.o;rw[a5.o]at r;simp only[vZ]at r;rw[<-r];exact az.o
  have a1:=Zh (zi X.o (i:=f) (m:=2) U U);have bE:g<(ŝ P ⟨g,1,O⟩ (D t q u)).heap.size:=by simp only[nc];exact bD
  have a9:Hid (uY (ŝ P ⟨g,1,O⟩ (D t q u)) g=q):=by
   show _=_;unfold uY;rw[ξ _ _ _ _ _ _ (υ P g 1 _ _ (D t q u) ak)];rfl
  have a8:Hid (uY wr g=L pc):=by
   show _=_;unfold uY;rw[ξ _ _ _ _ _ _ F.o.row];rfl
  have ba:=Zh ae;have b3:q<L pc:=U;clear bA ak b1 h ae;go_wp2_with fail
  go_roundw
  .exact⟨ _,_,t,u,bk.o,a1.o,by rw[ba.o];omega,bg.o,br.o,bL,bE⟩
  rw[a9.o,a8.o];exact b3
def ou (w:β) (g i h:Int) (e:Option Addr) (c f:Nat):Ev->Prop
 |.doc d=>g=0/\L d=c/\Rd w (D e c f) c 1 (η d)
 |.flush=>g=1
 |.merge a b=>g=2/\i=(a:Int)/\h=(b:Int)/\a<=4611686018427387904/\b<=4611686018427387904
 |.settle=>g=3
def ou.B {w w' kd ei em va vn vc e} (h:ou w kd ei em va vn vc e) (c:BQ w w'):ou w' kd ei em va vn vc e:=by
 cases e with
 |doc d=>exact⟨h.1,h.2.1,h.2.2.B c⟩
 |flush=>exact h
 |merge a b=>exact h
 |settle=>exact h
def nr.wrap {w j t:β} {r e} (h:nr j r e t) (l:BQ w j) {p} (k:w.heap.size<=p) (m:p<j.heap.size) (T) (n:j.heap[p]?=J (C #[D O 0 0,D O 0 0] T (0,0))) :
  ∃ a c c1 b d c2 f,e=ŗ (.tuple #[ā #[D a c c1,D b d c2],G f])/\BQ w t/\t.heap[p]?=J (C #[D O 0 0,D O 0 0] T (0,0)) /\
   nr w r (ŗ (.tuple #[ā #[D a c c1,D b d c2],G f])) (ŝ (ŝ t ⟨p,0,O⟩ (D a c c1)) ⟨p,1,O⟩ (D b d c2)):=by
 cases r with
 |some y =>
  obtain⟨a,c1,b,c2,rfl,o,g⟩:=h;have i:=l.t g;refine⟨a,_,c1,b,_,c2,0,rfl,i,θ n g,a,c1,b,c2,rfl,?_,(i.S  k _).S  k _⟩;exact((o.set  m _).set  m _).M l.size
 |none =>
  obtain⟨a,c,c1,b,d,c2,f,q,s,rfl,g⟩:=h;have i:=l.t g;exact⟨a,c,c1,b,d,c2,f,rfl,i,θ n g,a,c,c1,b,d,c2,f,q,s,rfl,(i.S  k _).S  k _⟩
def Dg:Ev->FuncId
 |.doc _=>251
 |.flush=>253
 |.merge _ _=>255
 |.settle=>257
def xi (n k:Nat) (da:Option Addr) (dc:Nat) (sa:Option Addr) (sc:Nat) (ď:List (γ)) (ps:List (Nat×Nat)) (m:Nat) (kd ei em:Int) (o:Option Addr) (l q:Nat) (z:Ev) (w:β) (f:L ď=n) (c:L ps=k) (j:ϭ w) (g:Ε w (D da n dc) ď) (i:ϣ ď w (D sa k sc) ps) (h:Ϻ ď ps m) (V:n<=40) (B:ou w kd ei em o l q z) :
  Calls prog (Dg z) #[ā #[D da n dc,D sa k sc],ā #[G kd,G ei,G em,D o l q]] w (nr w (gA (ď,ps) z)):=by
 have H:BQ w (å (å (å w (C #[D da n dc,D sa k sc] 44)) (C #[G kd,G ei,G em,D o l q] 33)) (C #[D O 0 0,D O 0 0] 44)):=(ġ.A ύ _).A ό _;have ak:=oO (w:=w) (A:=C #[D da n dc,D sa k sc] 44) (Z:=C #[G kd,G ei,G em,D o l q] 33) (Y:=C #[D O 0 0,D O 0 0] 44) (w1:=å (å (å w (C #[D da n dc,D sa k sc] 44)) (C #[G kd,G ei,G em,D o l q] 33)) (C #[D O 0 0,D O 0 0] 44)) RZ;rcases z with a0|_|⟨ab,ac⟩|_;all_goals
  dsimp only[Dg];first
   |show Calls _ 251 _ _ _
    obtain⟨-,T,K⟩:=B;have al:l<=9223372036854775807:=by have:=K.2.1;unfold maxLen at this;omega
    have x:=Zh (fun a (b:BQ w a)=>MO n k da dc sa sc ď ps m o l q a0 a f c T (j.B b) (g.B b) (i.B b) h (K.B b) al);clear g i h f c j T K;go_enter func251,ntmps251
   |show Calls _ 255 _ _ _
    obtain⟨-,Q,R,E,d⟩:=B;have x:Hid (∀ a,BQ w a->Calls prog 256 #[ā #[D da n dc,D sa k sc],G ei,G em] a (nr a (gA (ď,ps) (.merge ab ac)))):=fun a b=>by
     rw[Q,R];exact MQ ab ac n k da dc sa sc ď ps m a f c (j.B b) (g.B b) (i.B b) h V E d
    clear g i h f c j E d Q R;go_enter func255,ntmps255
   |show Calls _ 253 _ _ _
    go_enter func253,ntmps253;have x:=Zh (fun a (b:BQ w a)=>MP n k da dc sa sc ď ps m a f c (j.B b) (g.B b) (i.B b) h);clear g i h f c j B
   |show Calls _ 257 _ _ _
    go_enter func257,ntmps257;have x:=Zh (fun a (b:BQ w a)=>MR n k da dc sa sc ď ps m a f c (j.B b) (g.B b) (i.B b) h V);have y:=Zh (Ν f c);clear g i h f c j B
  go_upto_region 1 with fail
  generalize å (å (å w (C #[D da n dc,D sa k sc] 44)) (C #[G kd,G ei,G em,D o l q] 33)) (C #[D O 0 0,D O 0 0] 44)=a at *;obtain⟨X,W,aa,aF,aE,ad,-⟩:=ak;obtain⟨⟨aA,aB⟩,-,-⟩:=ν X;obtain⟨⟨aq,ar,au,av⟩,-,-⟩:=ϩ W;have⟨ae,a1⟩:=π (x.o a H) aa;clear X W aa;go_wp2_with fail
  refine ae.o.M ?_;intro e az F;first
   |obtain⟨s,M,c1,t,N,c2,ah,rfl,aj,P,I⟩:=nr.wrap F H (U:w.heap.size<=w.heap.size+1+1) ad _ a1.o
   |obtain⟨s,c1,t,c2,rfl,E,ai⟩:=F
    obtain⟨am,ax,ao,an,ay,ap,ah,S,aj,P,I⟩:=nr.wrap (r:=gA (ď,ps) .settle) (e:=ŗ (.tuple #[ā #[D s n c1,D t (L (kB k ps)) c2],G 0])) ⟨s,c1,t,c2,by simp only[y.o.1,y.o.2],by simp only[y.o.1,y.o.2];exact E,ai⟩ H (U:w.heap.size<=w.heap.size+1+1) ad _ a1.o;simp only[Ending.returned.injEq,Value.tuple.injEq,Array.mk.injEq,List.cons.injEq,Value.agg.injEq,Χ,it,Value.int.injEq,ϵ]at S;obtain⟨⟨⟨rfl,rfl,rfl⟩,rfl,rfl,rfl⟩,rfl⟩:=S;have F:=trivial;generalize(L (kB k ps))=N at *;generalize n=M at *
  obtain⟨⟨aC,aD⟩,⟨aw,f1⟩,aG⟩:=ν P;have⟨ag,af⟩:=π (fS P (D s M c1) (D t N c2)) I;clear F I P;go_wp2;refine Ω (v:=.tuple #[ā #[D s M c1,D t N c2],G _]) (gz (p:=4) (u:=5) (ty:=44) rfl _ _ (w.heap.size+1+1) 44 _ (0,0) _ rfl ag.o lG rfl ϋ) rfl ?_;with_reducible exact af.o
def zE (z:Int):Option ε:=if z=3 then J (.func (.func 257) #[] #[])else if z=2 then J (.func (.func 255) #[] #[])else if z=1 then J (.func (.func 253) #[] #[])else if z=0 then J (.func (.func 251) #[] #[])else O
def Lg (w:β):Calls prog 191 #[] w fun e w'=>∃ n d p,e=ŗ (.map (J n))/\w'.heap[n]?=J (.map d p)/\jG d zE/\BQ w w':=by
 have b:=underlying298;have a:prog.underlying 3=J (.int .i64):=ϋ;have y:=run_makeMap (P:=prog) 298 w;have f:=φ w (.map #[] 0);have j:=jG.none;have b0:BQ w (å w (.map #[] 0)):=ġ;have t:(Instr.mapUpdate 298 (.map (J w.heap.size)) (G 0) (.func (.func 251) #[] #[])).run prog (å w (.map #[] 0))=.ok () (Go.ChangeMaps.setBlock (å w (.map #[] 0)) w.heap.size (.map #[{key:=G 0,val:=.func (.func 251) #[] #[],born:=0}] 1)):=qU  b a f j  ύ _;have g:((Go.ChangeMaps.setBlock (å w (.map #[] 0)) w.heap.size (.map #[{key:=G 0,val:=.func (.func 251) #[] #[],born:=0}] 1))).heap[w.heap.size]?=J (.map #[{key:=G 0,val:=.func (.func 251) #[] #[],born:=0}] 1):=(qb f).1;have k:jG #[{key:=G 0,val:=.func (.func 251) #[] #[],born:=0}] (fun z=>if z=0 then J (.func (.func 251) #[] #[])else O):=j.push  ύ _ 0;have b1:BQ w (Go.ChangeMaps.setBlock (å w (.map #[] 0)) w.heap.size (.map #[{key:=G 0,val:=.func (.func 251) #[] #[],born:=0}] 1)):=qy b0 NZ _;have u:(Instr.mapUpdate 298 (.map (J w.heap.size)) (G 1) (.func (.func 253) #[] #[])).run prog (Go.ChangeMaps.setBlock (å w (.map #[] 0)) w.heap.size (.map #[{key:=G 0,val:=.func (.func 251) #[] #[],born:=0}] 1))=.ok () (Go.ChangeMaps.setBlock (Go.ChangeMaps.setBlock (å w (.map #[] 0)) w.heap.size (.map #[{key:=G 0,val:=.func (.func 251) #[] #[],born:=0}] 1)) w.heap.size (.map #[{key:=G 0,val:=.func (.func 251) #[] #[],born:=0},{key:=G 1,val:=.func (.func 253) #[] #[],born:=1}] 2)):=qU  b a g k  ύ _;have h:((Go.ChangeMaps.setBlock (Go.ChangeMaps.setBlock (å w (.map #[] 0)) w.heap.size (.map #[{key:=G 0,val:=.func (.func 251) #[] #[],born:=0}] 1)) w.heap.size (.map #[{key:=G 0,val:=.func (.func 251) #[] #[],born:=0},{key:=G 1,val:=.func (.func 253) #[] #[],born:=1}] 2))).heap[w.heap.size]?=J (.map #[{key:=G 0,val:=.func (.func 251) #[] #[],born:=0},{key:=G 1,val:=.func (.func 253) #[] #[],born:=1}] 2):=(qb g).1;have l:jG #[{key:=G 0,val:=.func (.func 251) #[] #[],born:=0},{key:=G 1,val:=.func (.func 253) #[] #[],born:=1}] (fun z=>if z=1 then J (.func (.func 253) #[] #[])else if z=0 then J (.func (.func 251) #[] #[])else O):=k.push  ύ _ 1;have b2:BQ w (Go.ChangeMaps.setBlock (Go.ChangeMaps.setBlock (å w (.map #[] 0)) w.heap.size (.map #[{key:=G 0,val:=.func (.func 251) #[] #[],born:=0}] 1)) w.heap.size (.map #[{key:=G 0,val:=.func (.func 251) #[] #[],born:=0},{key:=G 1,val:=.func (.func 253) #[] #[],born:=1}] 2)):=qy b1 NZ _;have v:(Instr.mapUpdate 298 (.map (J w.heap.size)) (G 2) (.func (.func 255) #[] #[])).run prog (Go.ChangeMaps.setBlock (Go.ChangeMaps.setBlock (å w (.map #[] 0)) w.heap.size (.map #[{key:=G 0,val:=.func (.func 251) #[] #[],born:=0}] 1)) w.heap.size (.map #[{key:=G 0,val:=.func (.func 251) #[] #[],born:=0},{key:=G 1,val:=.func (.func 253) #[] #[],born:=1}] 2))=.ok () (Go.ChangeMaps.setBlock (Go.ChangeMaps.setBlock (Go.ChangeMaps.setBlock (å w (.map #[] 0)) w.heap.size (.map #[{key:=G 0,val:=.func (.func 251) #[] #[],born:=0}] 1)) w.heap.size (.map #[{key:=G 0,val:=.func (.func 251) #[] #[],born:=0},{key:=G 1,val:=.func (.func 253) #[] #[],born:=1}] 2)) w.heap.size (.map #[{key:=G 0,val:=.func (.func 251) #[] #[],born:=0},{key:=G 1,val:=.func (.func 253) #[] #[],born:=1},{key:=G 2,val:=.func (.func 255) #[] #[],born:=2}] 3)):=qU  b a h l  ύ _;have i:((Go.ChangeMaps.setBlock (Go.ChangeMaps.setBlock (Go.ChangeMaps.setBlock (å w (.map #[] 0)) w.heap.size (.map #[{key:=G 0,val:=.func (.func 251) #[] #[],born:=0}] 1)) w.heap.size (.map #[{key:=G 0,val:=.func (.func 251) #[] #[],born:=0},{key:=G 1,val:=.func (.func 253) #[] #[],born:=1}] 2)) w.heap.size (.map #[{key:=G 0,val:=.func (.func 251) #[] #[],born:=0},{key:=G 1,val:=.func (.func 253) #[] #[],born:=1},{key:=G 2,val:=.func (.func 255) #[] #[],born:=2}] 3))).heap[w.heap.size]?=J (.map #[{key:=G 0,val:=.func (.func 251) #[] #[],born:=0},{key:=G 1,val:=.func (.func 253) #[] #[],born:=1},{key:=G 2,val:=.func (.func 255) #[] #[],born:=2}] 3):=(qb h).1;have m:jG #[{key:=G 0,val:=.func (.func 251) #[] #[],born:=0},{key:=G 1,val:=.func (.func 253) #[] #[],born:=1},{key:=G 2,val:=.func (.func 255) #[] #[],born:=2}] (fun z=>if z=2 then J (.func (.func 255) #[] #[])else if z=1 then J (.func (.func 253) #[] #[])else if z=0 then J (.func (.func 251) #[] #[])else O):=l.push  ύ _ 2;have b3:BQ w (Go.ChangeMaps.setBlock (Go.ChangeMaps.setBlock (Go.ChangeMaps.setBlock (å w (.map #[] 0)) w.heap.size (.map #[{key:=G 0,val:=.func (.func 251) #[] #[],born:=0}] 1)) w.heap.size (.map #[{key:=G 0,val:=.func (.func 251) #[] #[],born:=0},{key:=G 1,val:=.func (.func 253) #[] #[],born:=1}] 2)) w.heap.size (.map #[{key:=G 0,val:=.func (.func 251) #[] #[],born:=0},{key:=G 1,val:=.func (.func 253) #[] #[],born:=1},{key:=G 2,val:=.func (.func 255) #[] #[],born:=2}] 3)):=qy b2 NZ _;have x:(Instr.mapUpdate 298 (.map (J w.heap.size)) (G 3) (.func (.func 257) #[] #[])).run prog (Go.ChangeMaps.setBlock (Go.ChangeMaps.setBlock (Go.ChangeMaps.setBlock (å w (.map #[] 0)) w.heap.size (.map #[{key:=G 0,val:=.func (.func 251) #[] #[],born:=0}] 1)) w.heap.size (.map #[{key:=G 0,val:=.func (.func 251) #[] #[],born:=0},{key:=G 1,val:=.func (.func 253) #[] #[],born:=1}] 2)) w.heap.size (.map #[{key:=G 0,val:=.func (.func 251) #[] #[],born:=0},{key:=G 1,val:=.func (.func 253) #[] #[],born:=1},{key:=G 2,val:=.func (.func 255) #[] #[],born:=2}] 3))=.ok () (Go.ChangeMaps.setBlock (Go.ChangeMaps.setBlock (Go.ChangeMaps.setBlock (Go.ChangeMaps.setBlock (å w (.map #[] 0)) w.heap.size (.map #[{key:=G 0,val:=.func (.func 251) #[] #[],born:=0}] 1)) w.heap.size (.map #[{key:=G 0,val:=.func (.func 251) #[] #[],born:=0},{key:=G 1,val:=.func (.func 253) #[] #[],born:=1}] 2)) w.heap.size (.map #[{key:=G 0,val:=.func (.func 251) #[] #[],born:=0},{key:=G 1,val:=.func (.func 253) #[] #[],born:=1},{key:=G 2,val:=.func (.func 255) #[] #[],born:=2}] 3)) w.heap.size (.map #[{key:=G 0,val:=.func (.func 251) #[] #[],born:=0},{key:=G 1,val:=.func (.func 253) #[] #[],born:=1},{key:=G 2,val:=.func (.func 255) #[] #[],born:=2},{key:=G 3,val:=.func (.func 257) #[] #[],born:=3}] 4)):=qU  b a i m  ύ _;have q:((Go.ChangeMaps.setBlock (Go.ChangeMaps.setBlock (Go.ChangeMaps.setBlock (Go.ChangeMaps.setBlock (å w (.map #[] 0)) w.heap.size (.map #[{key:=G 0,val:=.func (.func 251) #[] #[],born:=0}] 1)) w.heap.size (.map #[{key:=G 0,val:=.func (.func 251) #[] #[],born:=0},{key:=G 1,val:=.func (.func 253) #[] #[],born:=1}] 2)) w.heap.size (.map #[{key:=G 0,val:=.func (.func 251) #[] #[],born:=0},{key:=G 1,val:=.func (.func 253) #[] #[],born:=1},{key:=G 2,val:=.func (.func 255) #[] #[],born:=2}] 3)) w.heap.size (.map #[{key:=G 0,val:=.func (.func 251) #[] #[],born:=0},{key:=G 1,val:=.func (.func 253) #[] #[],born:=1},{key:=G 2,val:=.func (.func 255) #[] #[],born:=2},{key:=G 3,val:=.func (.func 257) #[] #[],born:=3}] 4))).heap[w.heap.size]?=J (.map #[{key:=G 0,val:=.func (.func 251) #[] #[],born:=0},{key:=G 1,val:=.func (.func 253) #[] #[],born:=1},{key:=G 2,val:=.func (.func 255) #[] #[],born:=2},{key:=G 3,val:=.func (.func 257) #[] #[],born:=3}] 4):=(qb i).1;have s:jG #[{key:=G 0,val:=.func (.func 251) #[] #[],born:=0},{key:=G 1,val:=.func (.func 253) #[] #[],born:=1},{key:=G 2,val:=.func (.func 255) #[] #[],born:=2},{key:=G 3,val:=.func (.func 257) #[] #[],born:=3}] (fun z=>if z=3 then J (.func (.func 257) #[] #[])else if z=2 then J (.func (.func 255) #[] #[])else if z=1 then J (.func (.func 253) #[] #[])else if z=0 then J (.func (.func 251) #[] #[])else O):=m.push  ύ _ 3;have o:BQ w (Go.ChangeMaps.setBlock (Go.ChangeMaps.setBlock (Go.ChangeMaps.setBlock (Go.ChangeMaps.setBlock (å w (.map #[] 0)) w.heap.size (.map #[{key:=G 0,val:=.func (.func 251) #[] #[],born:=0}] 1)) w.heap.size (.map #[{key:=G 0,val:=.func (.func 251) #[] #[],born:=0},{key:=G 1,val:=.func (.func 253) #[] #[],born:=1}] 2)) w.heap.size (.map #[{key:=G 0,val:=.func (.func 251) #[] #[],born:=0},{key:=G 1,val:=.func (.func 253) #[] #[],born:=1},{key:=G 2,val:=.func (.func 255) #[] #[],born:=2}] 3)) w.heap.size (.map #[{key:=G 0,val:=.func (.func 251) #[] #[],born:=0},{key:=G 1,val:=.func (.func 253) #[] #[],born:=1},{key:=G 2,val:=.func (.func 255) #[] #[],born:=2},{key:=G 3,val:=.func (.func 257) #[] #[],born:=3}] 4)):=qy b3 NZ _;have r:jG #[{key:=G 0,val:=.func (.func 251) #[] #[],born:=0},{key:=G 1,val:=.func (.func 253) #[] #[],born:=1},{key:=G 2,val:=.func (.func 255) #[] #[],born:=2},{key:=G 3,val:=.func (.func 257) #[] #[],born:=3}] zE:=s;have c:=Zh (Ν q (Ν r o));go_enter func191,ntmps191;go_wp2;go_ret;exact⟨ _,_,_,rfl,c.o.1,c.o.2.1,c.o.2.2⟩
