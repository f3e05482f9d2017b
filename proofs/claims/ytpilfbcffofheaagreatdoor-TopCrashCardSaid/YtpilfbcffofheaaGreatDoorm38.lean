/- Part 38 of the proof. -/
import Derived.Test.YtpilfbcffofheaaGreatDoorm32
set_option linter.unusedVariables false
set_option linter.unusedSimpArgs false
set_option maxRecDepth 100000
set_option maxHeartbeats 8000000
namespace Go.Proofs.YtpilfbcffofheaaGreatDoor
open Go.Proofs.Tryz Go.RowKit Go.Sort
open Value renaming agg->ā,slice->D,string->š,pointer->þ
open Ending renaming returned->ŗ
open Option renaming none->O,some->J
open Obj renaming cells->C
open List renaming length->L
open World renaming alloc->å,setCell->ŝ
def oA (a:ϰ) (w:β) (e:Ending) (w':β):Prop:= ∃ b:jL,e=ŗ (ā (gi b a))/\Hi w.heap.size w' (fun c=>ka c b a)/\Below w.heap.size w w'
def sP (a:ϰ) (c:Int) (w:β) (e:Ending) (w':β):Prop:= ∃ b:jL,e=ŗ (.tuple #[ā (gi b a),IZ c])/\Hi w.heap.size w' (fun d=>ka d b a)/\Below w.heap.size w w'
theorem Η.set8 (g:Nat) (w:β) (a b c d e f h i:ε):Η g w (ŝ (ŝ (ŝ (ŝ (ŝ (ŝ (ŝ (ŝ w ⟨g,0,O⟩ a) ⟨g,1,O⟩ b) ⟨g,2,O⟩ c) ⟨g,3,O⟩ d) ⟨g,4,O⟩ e) ⟨g,5,O⟩ f) ⟨g,6,O⟩ h) ⟨g,7,O⟩ i):=
 ((((((((Η.refl g w).set 0 a).set 1 b).set 2 c).set 3 d).set 4 e).set 5 f).set 6 h).set 7 i
theorem Jx (p:jL) (a:ϰ) (ab:ε) (ks:List Int) (w:β) (h:ka w p a) (U:qb a) (ak:0<L a.bl) (an:Rd w ab (L ks) 1 (τ ks)) :
  Calls prog 34 #[ā (gi p a),ab] w (oA {a with bl:=gU ks a.bl a.ws,ws:=[],up:=false,fuse:= -1} w):=by
 have ac:=Zh (fun d (K:BQ w d)=>CG p a d (h.below K) U);have ad:=Zh (fun o c1 ai c2 d (K:BQ w d) (I:Δ d (D o (L a.bl) c1) a.bl) (aE:hL d (D ai (L a.ws) c2) a.ws)=>Gc ab ks o c1 ai c2 a.bl a.ws d I aE U.dk ak (an.below K));obtain⟨aa,V,aJ,ap,y⟩:=fU (w:=w) (A:=C (gi p a) 48) (Z:=C #[D O 0 0,D O 0 0,IZ 0,IZ 0,D O 0 0,D O 0 0,.bool false,IZ 0] 48) RZ;clear h U ak an;obtain⟨bl,ws,sq,ln,x,up,aj⟩:=a;obtain⟨ba,bc,wa,wc,da,dc,sa,sc⟩:=p;simp only[gi]at aa y V aJ ap ac ad ⊢;go_enter func34,ntmps34;go_upto_region 1 with (fail)
 generalize(å (å w (C #[D ba (L bl) bc,D wa (L ws) wc,IZ sq,IZ ln,D da (L x.1) dc,D sa (L x.2) sc,.bool up,IZ aj] 48)) (C #[D O 0 0,D O 0 0,IZ 0,IZ 0,D O 0 0,D O 0 0,.bool false,IZ 0] 48))=az at *;obtain⟨⟨c0,c1,c2,f,i,j,k,l⟩,n,aQ⟩:=ϳ aa;go_wp2_with fail
 refine(ac.o _ y).mono ?_;rintro e aF ⟨g,p1,rfl,R,aM,F,u⟩;obtain⟨aC,aD,aH,aI,q,r,s,t⟩:=p1;simp only[gi]at R;have ao:=θ V u;have z:=y.trans (u.mono y.size);have ae:=Zh R;have av:=Zh F;have ar:=Zh (ad.o aC aD aH aI aF z F.now.b F.now.wt);have aN:=u.size;clear c0 c1 c2 f i j k l n aa V u R F;obtain⟨⟨c0,c1,c2,f,i,j,k,l⟩,n,aR⟩:=ϳ ae.o;go_wp2_with fail
 refine ar.o.mono ?_;rintro e G ⟨aK,c,rfl,al,m⟩;have S:=θ ae.o m;have aw:=Zh (av.o.below m);have au:=Zh al.hi;have W:=θ ao m;have M:=z.trans (m.mono z.size);have aO:=m.size;clear c0 c1 c2 f i j k l n m al ao z;obtain⟨⟨c0,c1,c2,f,i,j,k,l⟩,n,-⟩:=ϳ S;go_upto_region 3 with (fail)
 have am:=zi S (D (J ⟨c,0,O⟩) (L (gU ks bl ws)) (L (gU ks bl ws))) (D O 0 0);have B:=((Η.refl g G).set 0 (D (J ⟨c,0,O⟩) (L (gU ks bl ws)) (L (gU ks bl ws)))).set 1 (D O 0 0);have ag:=Zh ((aw.o.and (au.o.off (H:=fun b=>b<az.heap.size\/b=g) (fun b _ h=>by rcases h with h|h<;>omega))).oneCh (g:=g) (.inr rfl) B);generalize ŝ (ŝ G ⟨g,0,O⟩ (D (J ⟨c,0,O⟩) (L (gU ks bl ws)) (L (gU ks bl ws)))) ⟨g,1,O⟩ (D O 0 0)=aA at *;have X:=(B.2.1 _ (ο W) ϊ).trans W;have N:=B.to M M.size ϊ;have af:=Zh (CH g ⟨J ⟨c,0,O⟩,L (gU ks bl ws),O,0,q,r,s,t⟩ ⟨gU ks bl ws,[],sq,ln,x,up,aj⟩ aA am);clear c0 c1 c2 f i j k l n B S am W M;go_wp2_with fail
 refine af.o.mono ?_;rintro e aG ⟨rfl,T,E⟩;simp only[gi]at T;have Y:=(E.2.1 _ (ο X) ϊ).trans X;have P:=E.to N N.size ϊ;have ah:=Zh (ag.o.oneCh (g:=g) (.inr rfl) E);clear E X N ag af;obtain⟨⟨c0,c1,c2,f,i,j,k,l⟩,n,-⟩:=ϳ T;obtain⟨⟨r0,r1,r2,r3,r4,aP,r6,r7⟩,aL,-⟩:=ϳ Y;have ay:=Zh (ob Y (D (J ⟨c,0,O⟩) (L (gU ks bl ws)) (L (gU ks bl ws))) (D O 0 0) (IZ sq) (IZ ln) (D q (L x.1) r) (D s (L x.2) t) (.bool false) (IZ (-1)));have Q:=Η.set8 (w.heap.size+1) aG (D (J ⟨c,0,O⟩) (L (gU ks bl ws)) (L (gU ks bl ws))) (D O 0 0) (IZ sq) (IZ ln) (D q (L x.1) r) (D s (L x.2) t) (.bool false) (IZ (-1));have aq:=Zh (Q.to P P.size (go _ 1));have ax:=Zh (ah.o.oneCh (g:=w.heap.size+1) (.inl ap) Q);clear Q P ah Y T;go_wp2;refine ϟ (v:=ā #[D (J ⟨c,0,O⟩) (L (gU ks bl ws)) (L (gU ks bl ws)),D O 0 0,IZ sq,IZ ln,D q (L x.1) r,D s (L x.2) t,.bool false,IZ (-1)]) (jX (p:=4) (ty:=48) rfl _ _ (w.heap.size+1) 48 _ (0,0) _ rfl ay.o pR rfl ϋ) rfl ?_;refine⟨⟨J ⟨c,0,O⟩,L (gU ks bl ws),O,0,q,r,s,t⟩,rfl,?_,aq.o⟩;have I:=(ax.o.sub (H':=(· <w.heap.size)) fun b _ h=>.inl (by have:b<w.heap.size:=h;omega)).hi;exact I.imp fun G ⟨o,aB⟩=>⟨aB,py G O 0,o.d,o.s⟩
theorem JB (p:jL) (a:ϰ) (seq:Nat) (n:List Ev) (x:Ix) (w:β) (ai:Ϩ w) (h:ka w p a) (ae:ja a.bl a.ws) (aj:a.up=false) (G:ga (gg a.bl a.ws) seq (ϡ n)) (aa:∀ e∈n,e.ok) (ak:gH ([],[]) n=J x) (al:L x.1<=40) :
  Calls prog 35 #[ā (gi p a)] w (sP ⟨gg a.bl a.ws,[],seq,L (ϡ n),x,true,-1⟩ 0 w):=by
 have X:0<L a.bl:=by have:=G.n3;rw[wu]at this;omega
 have U:=Zh (fun m (q:BQ w m)=>AO p.ba p.bc p.wa p.wc a.bl a.ws m (h.b.below q) (h.wt.below q) ae X);have B:=Zh (fun d m (q:BQ w m) (F:Δ m (D (J ⟨d,0,O⟩) (L (gg a.bl a.ws)) (L (gg a.bl a.ws))) (gg a.bl a.ws))=>yD seq n x (J ⟨d,0,O⟩) (L (gg a.bl a.ws)) O 0 (gg a.bl a.ws) m (ai.below q) F G aa ak al);obtain⟨S,Q,aD,an,s⟩:=fU (w:=w) (A:=C (gi p a) 48) (Z:=C #[D O 0 0,D O 0 0,IZ 0,IZ 0,D O 0 0,D O 0 0,.bool false,IZ 0] 48) RZ;clear h ae X G aa ak al ai;obtain⟨bl,ws,sq,ln,ix,up,aB⟩:=a;obtain⟨ba,bc,wa,wc,da,dc,sa,sc⟩:=p;simp only at aj;subst aj;simp only[gi]at S s Q aD an U B ⊢;obtain⟨f,Y⟩:∃ f:Nat,L (ϡ n)=f:=⟨_,rfl⟩;rw[Y]at B ⊢;clear Y;go_enter func35,ntmps35;go_upto_region 1 with (fail)
 generalize(å (å w (C #[D ba (L bl) bc,D wa (L ws) wc,IZ sq,IZ ln,D da (L ix.1) dc,D sa (L ix.2) sc,.bool false,IZ aB] 48)) (C #[D O 0 0,D O 0 0,IZ 0,IZ 0,D O 0 0,D O 0 0,.bool false,IZ 0] 48))=E at *;obtain⟨⟨c0,c1,c2,aw,ax,ay,az,aA⟩,aC,aN⟩:=ϳ S;go_wp2_with fail
 refine(U.o _ s).mono ?_;rintro e am ⟨aE,d,rfl,ab,r⟩;generalize gg bl ws=c at *;have I:=r.alloc r.size (C #[D (J ⟨d,0,O⟩) (L c) (L c),D O 0 0] 41);have y:=χ am (C #[D (J ⟨d,0,O⟩) (L c) (L c),D O 0 0] 41);have P:=ab.hi.alloc (C #[D (J ⟨d,0,O⟩) (L c) (L c),D O 0 0] 41);go_upto_region 4 with (fail)
 have aG:=r.size;generalize å am (C #[D (J ⟨d,0,O⟩) (L c) (L c),D O 0 0] 41)=V at *;have ag:=θ Q I;have t:=s.trans (I.mono s.size);obtain⟨⟨W,d1⟩,-,-⟩:=ι y;have ap:=Zh P;have aq:=Zh (B.o d V t P.now);have aH:=ο y;clear c0 c1 c2 aw ax ay az aA aC S Q r I ab P;go_wp2_with fail
 refine aq.o.mono ?_;rintro e z ⟨i,k,j,l,rfl,ac,K⟩;have o:=K.alloc K.size (C #[IZ (seq:Int),IZ (f:Int),D i (L x.1) k,D j (L x.2) l] 46);have ah:=χ z (C #[IZ (seq:Int),IZ (f:Int),D i (L x.1) k,D j (L x.2) l] 46);have ad:=ac.alloc (C #[IZ (seq:Int),IZ (f:Int),D i (L x.1) k,D j (L x.2) l] 46);go_upto_region 5 with (fail)
 generalize å z (C #[IZ (seq:Int),IZ (f:Int),D i (L x.1) k,D j (L x.2) l] 46)=av at *;have R:=θ ag o;have af:=θ y o;have M:=t.trans (o.mono t.size);have T:=Zh ((ad.mono (ϊ:E.heap.size<=V.heap.size)).and (ap.o.below o));clear W d1 y ag t ac ad K o;obtain⟨⟨W,d1⟩,-,-⟩:=ι af;obtain⟨⟨aJ,aK,aL,aM⟩,-,-⟩:=Ϫ ah;obtain⟨⟨r0,r1,r2,r3,r4,aI,r6,r7⟩,aF,-⟩:=ϳ R;have au:=Zh (ob R (D (J ⟨d,0,O⟩) (L c) (L c)) (D O 0 0) (IZ (seq:Int)) (IZ (f:Int)) (D i (L x.1) k) (D j (L x.2) l) (.bool true) (IZ (-1)));have N:=Η.set8 (w.heap.size+1) av (D (J ⟨d,0,O⟩) (L c) (L c)) (D O 0 0) (IZ (seq:Int)) (IZ (f:Int)) (D i (L x.1) k) (D j (L x.2) l) (.bool true) (IZ (-1));have ao:=Zh (N.to M M.size (go _ 1));have ar:=Zh ((T.o.off (H:=(· <E.heap.size)) (fun b _ h=>h)).oneCh (g:=w.heap.size+1) an N);clear N M T R ah af;go_wp2;refine ϟ (v:=.tuple #[ā #[D (J ⟨d,0,O⟩) (L c) (L c),D O 0 0,IZ (seq:Int),IZ (f:Int),D i (L x.1) k,D j (L x.2) l,.bool true,IZ (-1)],IZ 0]) (gf (p:=2) (u:=3) (ty:=48) rfl _ _ (w.heap.size+1) 48 _ (0,0) _ rfl au.o pR rfl ϋ) rfl ?_;refine⟨⟨J ⟨d,0,O⟩,L c,O,0,i,k,j,l⟩,rfl,?_,ao.o⟩;have F:=(ar.o.sub (H':=(· <w.heap.size)) fun b _ h=>by have:b<w.heap.size:=h;show b<E.heap.size;omega).hi;exact F.imp fun z ⟨⟨b1,b2⟩,b3⟩=>⟨b3,py z O 0,b1,b2⟩
theorem JC (p:jL) (a:ϰ) (w:β) (h:a.up=true) :
  Calls prog 35 #[ā (gi p a)] w fun e w'=>e=ŗ (.tuple #[ā (gi p a),IZ 0])/\BQ w w':=by
 obtain⟨f,d,m,l,c⟩:=fU (w:=w) (A:=C (gi p a) 48) (Z:=C #[D O 0 0,D O 0 0,IZ 0,IZ 0,D O 0 0,D O 0 0,.bool false,IZ 0] 48) RZ;obtain⟨bl,ws,sq,ln,ix,up,b⟩:=a;obtain⟨ba,bc,wa,wc,da,dc,sa,sc⟩:=p;simp only at h;subst h;simp only[gi]at f c d m l ⊢;go_enter func35,ntmps35;go_upto_region 1 with (fail)
 generalize(å (å w (C #[D ba (L bl) bc,D wa (L ws) wc,IZ sq,IZ ln,D da (L ix.1) dc,D sa (L ix.2) sc,.bool true,IZ b] 48)) (C #[D O 0 0,D O 0 0,IZ 0,IZ 0,D O 0 0,D O 0 0,.bool false,IZ 0] 48))=k at *;obtain⟨⟨c0,c1,c2,n,o,q,r,s⟩,t,z⟩:=ϳ f;obtain⟨⟨r0,r1,r2,r3,r4,y,r6,r7⟩,x,-⟩:=ϳ d;have j:=Zh (ob d (D ba (L bl) bc) (D wa (L ws) wc) (IZ sq) (IZ ln) (D da (L ix.1) dc) (D sa (L ix.2) sc) (.bool true) (IZ b));have g:=Η.set8 (w.heap.size+1) k (D ba (L bl) bc) (D wa (L ws) wc) (IZ sq) (IZ ln) (D da (L ix.1) dc) (D sa (L ix.2) sc) (.bool true) (IZ b);have i:=Zh (g.to c c.size (go _ 1));clear g c d f;go_wp2;refine ϟ (v:=.tuple #[ā #[D ba (L bl) bc,D wa (L ws) wc,IZ sq,IZ ln,D da (L ix.1) dc,D sa (L ix.2) sc,.bool true,IZ b],IZ 0]) (gf (p:=2) (u:=3) (ty:=48) rfl _ _ (w.heap.size+1) 48 _ (0,0) _ rfl j.o pR rfl ϋ) rfl ?_;exact⟨rfl,i.o⟩
theorem Ou:iV=ie 0 0:=ϐ
theorem ga.start {n:Nat} (f:3<=n) (h:n<=4096):ga (List.replicate n iV) 0 []:=by
 have hg:∀ c,c<n->(List.replicate n iV).getD c []=iV:=fun c hi=>by simp[fR,hi]
 have j:Ϥ (List.replicate n iV)=(n - 2)*64:=by simp[Ϥ]
 have d:ic iV (Ϥ (List.replicate n iV))=J (0,0):=by
  have e:=DB 0 0 (Ϥ (List.replicate n iV)) ϊ (Ι _) (by rw[j];omega);rwa [<-Ou]at e
 refine⟨by simpa using f,by simpa using h,fun b g=>?_,?_,fun k a=>?_,ύ,fun l i=>by simp at i,ϊ⟩
 .rw[List.eq_of_mem_replicate g];rfl
 .rw[hg _ ϊ];exact d
 .rw[hg _ ϊ,d]at a
  injection a with a;exact .inr a.symm
theorem Jy (n:Nat) (w:β) (ah:Ϩ w) (ae:3<=n) (Q:n<=4096) :
  Calls prog 25 #[IZ n] w (sP ⟨List.replicate n iV,[],0,0,([],[]),true,-1⟩ 0 w):=by
 have Y:=Zh (fun j=>Gd n j ϊ Q);have I:=Zh (fun a j (af:BQ w j) (t:Δ j (D (J ⟨a,0,O⟩) (L (List.replicate n iV)) (L (List.replicate n iV))) (List.replicate n iV))=>show Calls prog 54 #[ā #[D (J ⟨a,0,O⟩) (L (List.replicate n iV)) (L (List.replicate n iV)),D O 0 0]] j (fun e U=>∃ c f d i,e=ŗ (.tuple #[ā #[IZ 0,IZ 0,D c 0 f,D d 0 i],IZ 0])/\BQ j U)from(yD 0 [] ([],[]) (J ⟨a,0,O⟩) (L (List.replicate n iV)) O 0 (List.replicate n iV) j (ah.below af) t (ga.start ae Q) ύ rfl ύ).mono (by rintro e U ⟨c,f,d,i,h,-,ag⟩;exact⟨c,f,d,i,h,ag⟩));have o:L (List.replicate n iV)=n:=ύ;unfold sP gi;simp only;generalize List.replicate n iV=bl at *;have N:=(φ w.heap.size w).alloc NZ (C #[D O 0 0,D O 0 0,IZ 0,IZ 0,D O 0 0,D O 0 0,.bool false,IZ 0] 48);have B:=χ w (C #[D O 0 0,D O 0 0,IZ 0,IZ 0,D O 0 0,D O 0 0,.bool false,IZ 0] 48);rw[o]at I;go_enter func25,ntmps25;go_upto_region 1 with (fail)
 generalize(å w (C #[D O 0 0,D O 0 0,IZ 0,IZ 0,D O 0 0,D O 0 0,.bool false,IZ 0] 48))=K at *;have ai:=ο B;go_wp2_with fail
 refine(Y.o _).mono ?_;rintro e V ⟨aj,a,rfl,P,m⟩;have x:=m.alloc m.size (C #[D (J ⟨a,0,O⟩) n n,D O 0 0] 41);have s:=χ V (C #[D (J ⟨a,0,O⟩) n n,D O 0 0] 41);have r:=P.hi.alloc (C #[D (J ⟨a,0,O⟩) n n,D O 0 0] 41);rw[o]at r;go_upto_region 4 with (fail)
 have al:=m.size;generalize å V (C #[D (J ⟨a,0,O⟩) n n,D O 0 0] 41)=ac at *;have S:=θ B x;have q:=N.trans (x.mono N.size);obtain⟨⟨M,d1⟩,-,-⟩:=ι s;have X:=Zh r;have Z:=Zh (I.o a ac q r.now);have am:=ο s;clear B m x P r;go_wp2_with fail
 refine Z.o.mono ?_;rintro e k ⟨c,f,d,i,rfl,y⟩;have l:=y.alloc y.size (C #[IZ 0,IZ 0,D c 0 f,D d 0 i] 46);have T:=χ k (C #[IZ 0,IZ 0,D c 0 f,D d 0 i] 46);go_upto_region 5 with (fail)
 generalize å k (C #[IZ 0,IZ 0,D c 0 f,D d 0 i] 46)=ad at *;have E:=θ S l;have R:=θ s l;have z:=q.trans (l.mono q.size);have F:=Zh (X.o.below l);clear M d1 s S q y l;obtain⟨⟨M,d1⟩,-,-⟩:=ι R;obtain⟨⟨ao,ap,aq,ar⟩,-,-⟩:=Ϫ T;obtain⟨⟨r0,r1,r2,r3,r4,an,r6,r7⟩,ak,-⟩:=ϳ E;have ab:=Zh (ob E (D (J ⟨a,0,O⟩) n n) (D O 0 0) (IZ 0) (IZ 0) (D c 0 f) (D d 0 i) (.bool true) (IZ (-1)));have A:=Η.set8 w.heap.size ad (D (J ⟨a,0,O⟩) n n) (D O 0 0) (IZ 0) (IZ 0) (D c 0 f) (D d 0 i) (.bool true) (IZ (-1));have W:=Zh (A.to z z.size NZ);have aa:=Zh ((F.o.off (H:=(· <K.heap.size)) (fun b _ h=>h)).oneCh (g:=w.heap.size) ai A);have G:=Zh o;clear A z F E T R o;go_wp2;refine ϟ (v:=.tuple #[ā #[D (J ⟨a,0,O⟩) n n,D O 0 0,IZ 0,IZ 0,D c 0 f,D d 0 i,.bool true,IZ (-1)],IZ 0]) (gf (p:=2) (u:=3) (ty:=48) rfl _ _ w.heap.size 48 _ (0,0) _ rfl ab.o pR rfl ϋ) rfl ?_;refine⟨⟨J ⟨a,0,O⟩,n,O,0,c,f,d,i⟩,by rw[G.o],?_,W.o⟩;have t:=(aa.o.sub (H':=(· <w.heap.size)) fun b _ h=>by have:b<w.heap.size:=h;show b<K.heap.size;omega).hi;exact t.imp fun k b3=>⟨by simp only;rw[G.o];exact b3,py k O 0,vd k c f,wh k [] d i⟩
structure lC (L:ϰ) (es:List Ev):Prop where
 up:L.up=true
 ws:L.ws=[]
 inv:ga L.bl es.length (ϡ es)
 sq:L.seq=(es.length:Int)
 ln:L.len=((ϡ es).length:Int)
 ok:∀ e∈es,e.ok
 x:gH ([],[]) es=J L.x
 f1 : -9223372036854775808<=L.fuse
 f2:L.fuse<=9223372036854775807
theorem lC.dok {a:ϰ} {b:List Ev} (h:lC a b):qb a:=⟨⟨h.inv.nb,by rw[h.ws];simp,h.inv.l64,by rw[h.ws];simp⟩,tN jA.start h.x⟩
structure Fv (L:ϰ) (es:List Ev) (ev:Ev) (y:Ix):Prop where
 up:L.up=false
 ok:qb L
 len:3<=L.bl.length
 inv:∀ ks,ga (gU ks L.bl L.ws) es.length (ϡ es)\/ga (gU ks L.bl L.ws) (es.length+1) (ϡ (es++[ev]))
 evok:ev.ok
 y:ge L.x ev=J y
 x:gH ([],[]) es=J L.x
inductive oB (L:ϰ) (es:List Ev) (r:Option Ev):ϰ->Int->Prop where
 |no (c:Nat):0<c->(r=O\/∃ ev,r=J ev/\(ge L.x ev=O\/Ϥ L.bl<(ϡ es).length+ev.bytes.length))->oB L es r L (c:Int)
 |yes (ev:Ev) (L':ϰ):r=J ev->lC L' (es++[ev])->L'.bl.length=L.bl.length->(L.fuse<0->L'.fuse<0)->oB L es r L' 0
 |lost (ev:Ev) (y:Ix) (L':ϰ):r=J ev->0<=L.fuse->Fv L' es ev y->oB L es r L' 7
def Al (H:Nat->Prop) (d:ϰ) (f:List Ev) (r:Option Ev) (w:β) (e:Ending) (w':β):Prop:= ∃ (c:jL) (a:ϰ) (b:Int),e=ŗ (.tuple #[ā (gi c a),IZ b])/\oB d f r a b/\ς H w' (fun g=>ka g c a)/\Below w.heap.size w w'
theorem xg.cases {bl:Ε} {seq b:Nat} {x:Ix} {r:Option Ev} {w w':β} {e:Ending} (h:xg bl seq b x r w e w'):(xe w e w'/\(r=O\/∃ a,r=J a/\(ge x a=O\/Ϥ bl<b+L a.bytes)))\/∃ a y,r=J a/\ge x a=J y/\b+L a.bytes<=Ϥ bl/\xf bl seq b a.bytes y w e w':=by
 cases r with
 |none=>exact .inl ⟨h,.inl rfl⟩
 |some a =>
  rcases h with ⟨y,c,d,f⟩|⟨c,d⟩
  .exact .inr ⟨a,y,rfl,c,d,f⟩
  .exact .inl ⟨d,.inr ⟨a,rfl,c⟩⟩
theorem JA (H:Nat->Prop) (p:jL) (bl:Ε) (x:Ix) (i:Int) (m:List Ev) (r:Option Ev) (kd ei em:Int) (Q:Option Addr) (S R:Nat) (w:β) (bN:Ϩ w) (bE:∀ b,H b->b<w.heap.size) (az:ς H w (fun aQ=>ka aQ p ⟨bl,[],L m,L (ϡ m),x,true,i⟩)) (ao:lC ⟨bl,[],L m,L (ϡ m),x,true,i⟩ m) (cO:L m<=40) (al:mL w kd ei em Q S R r) :
  Calls prog 48 #[ā (gi p ⟨bl,[],L m,L (ϡ m),x,true,i⟩),ā (iL kd ei em Q S R)] w (Al H ⟨bl,[],L m,L (ϡ m),x,true,i⟩ m r w):=by
 have be:=ao.inv;simp only at be;have cm:L x.1<=40:=by have:=rG ao.x;simp at this;omega
 have bi:=ao.dok;have aS:=Zh (fun aH (P:BQ w aH)=>Jj (L m) m x r p.ba p.bc p.wa p.wc bl p.da p.dc p.sa p.sc kd ei em Q S R aH (bN.below P) (az.now.b.below P) be ao.ok ao.x cm (az.now.d.below P) (az.now.s.below P) ϊ (by
  cases r with
  |none=>exact fun b3 ce=>al b3 (P.trans (ce.mono P.size))
  |some a=>exact⟨al.1.below P,al.2⟩))
 have a2:=Zh (fun aH (P:BQ w aH)=>CG p _ aH (az.now.below P) bi);have k:=Zh ao;have aT:=Zh al;have bB:=Zh bE;have bD:=Zh az;have bA:=Zh bi;obtain⟨f,aX⟩:∃ f:Nat,L (ϡ m)=f:=⟨_,rfl⟩;have F:=Zh aX;obtain⟨N,aW⟩:∃ N:Nat,L m=N:=⟨_,rfl⟩;have E:=Zh aW;rw[aX,aW]at aS a2 bD k bA;simp only[aX,aW];obtain⟨ba,bc,wa,wc,da,dc,sa,sc⟩:=p;simp only[gi,gF]at aS a2 ⊢;obtain⟨aA,a1,aN,cy,cx,bx,au⟩:=of (w:=w) (A:=C #[D ba (L bl) bc,D wa 0 wc,IZ (N:Int),IZ (f:Int),D da (L x.1) dc,D sa (L x.2) sc,.bool true,IZ i] 48) (Z:=C (iL kd ei em Q S R) 33) (Y:=C #[D O 0 0,D O 0 0,IZ 0,IZ 0,D O 0 0,D O 0 0,.bool false,IZ 0] 48) RZ;clear bN az ao al be aX aW bi bE;unfold iL at a1 cy cx bx au aA aN aS ⊢;go_enter func48,ntmps48;go_upto_region 1 with (fail)
 generalize(å (å (å w (C #[D ba (L bl) bc,D wa 0 wc,IZ (N:Int),IZ (f:Int),D da (L x.1) dc,D sa (L x.2) sc,.bool true,IZ i] 48)) (C #[IZ kd,IZ ei,IZ em,D Q S R] 33)) (C #[D O 0 0,D O 0 0,IZ 0,IZ 0,D O 0 0,D O 0 0,.bool false,IZ 0] 48))=bb at *;obtain⟨⟨c0,c1,c2,V,W,X,aa,ab⟩,I,bV⟩:=ϳ aA;obtain⟨⟨bR,bS,bT,bU⟩,-,-⟩:=Ϫ a1;go_wp2_with fail
 refine(aS.o _ au).mono ?_;intro e bv bn;rcases bn.cases with ⟨⟨aV,cg,cM,rfl,ag⟩,bK⟩|⟨a,y,bM,bP,aL,b7,b8,q,t,s,B,rfl,bG,ag⟩
 .clear bn
  have b0:=Zh bK;have G:=ag.alloc ag.size (C #[IZ 0,IZ 0,D O 0 0,D O 0 0] 46);have cN:¬(aV:Int)=0:=ϊ;clear bK;go_upto_region 4 with (fail)
  generalize å bv (C #[IZ 0,IZ 0,D O 0 0,D O 0 0] 46)=bd at *;have aM:=θ aA G;have aB:=θ aN G;have ac:=au.trans (G.mono au.size);clear c0 c1 c2 V W X aa ab I bR bS bT bU aA a1 aN ag G;obtain⟨⟨c0,c1,c2,V,W,X,aa,ab⟩,I,-⟩:=ϳ aM;obtain⟨⟨r0,r1,r2,r3,r4,bQ,r6,r7⟩,bF,-⟩:=ϳ aB;have aG:=Zx (ob aB (D ba (L bl) bc) (D wa 0 wc) (IZ (N:Int)) (IZ (f:Int)) (D da (L x.1) dc) (D sa (L x.2) sc) (.bool true) (IZ i));have ap:=Zh ((Η.set8 (w.heap.size+1+1) bd (D ba (L bl) bc) (D wa 0 wc) (IZ (N:Int)) (IZ (f:Int)) (D da (L x.1) dc) (D sa (L x.2) sc) (.bool true) (IZ i)).to ac ac.size ϊ);clear aM aB ac;go_wp2;refine ϟ (v:=.tuple #[ā #[D ba (L bl) bc,D wa 0 wc,IZ (N:Int),IZ (f:Int),D da (L x.1) dc,D sa (L x.2) sc,.bool true,IZ i],IZ (aV:Int)]) (gf (p:=4) (u:=5) (ty:=48) rfl _ _ (w.heap.size+1+1) 48 _ (0,0) _ rfl aG.o pR rfl ϋ) rfl ?_;refine⟨⟨ba,bc,wa,wc,da,dc,sa,sc⟩,⟨bl,[],(N:Int),(f:Int),x,true,i⟩,(aV:Int),rfl,.no aV cg ?_,bD.o.below ap.o,ap.o⟩;rcases b0.o with h|⟨a,j,h2⟩
  .exact .inl h
  .exact .inr ⟨a,j,by rw[F.o];exact h2⟩
 clear bn;have G:=ag.alloc ag.size (C #[IZ ((N+1:Nat):Int),IZ ((f+L a.bytes:Nat):Int),D q (L y.1) t,D s (L y.2) B] 46);have bp:=χ bv (C #[IZ ((N+1:Nat):Int),IZ ((f+L a.bytes:Nat):Int),D q (L y.1) t,D s (L y.2) B] 46);have bH:=bG.alloc (C #[IZ ((N+1:Nat):Int),IZ ((f+L a.bytes:Nat):Int),D q (L y.1) t,D s (L y.2) B] 46);have o:=Zh (Γ bM (Γ bP aL));generalize bJ:((N+1:Nat):Int)=ae at *;generalize bO:((f+L a.bytes:Nat):Int)=ad at *;have b2:=Zh bJ;have bY:=Zh bO;clear bJ bO bM bP aL;go_upto_region 4 with (fail)
 generalize å bv (C #[IZ ae,IZ ad,D q (L y.1) t,D s (L y.2) B] 46)=bd at *;have aM:=θ aA G;have aB:=θ aN G;have ac:=au.trans (G.mono au.size);have cS:=G.size;have cV:=ο bp;have bX:=Zx bH;clear c0 c1 c2 V W X aa ab I bR bS bT bU aA a1 aN ag G bG bH bV;obtain⟨⟨c0,c1,c2,V,W,X,aa,ab⟩,I,-⟩:=ϳ aM;go_wp2_with fail
 refine(a2.o _ ac).mono ?_;rintro e aQ ⟨g,p2,rfl,aZ,cQ,bs,ah⟩;obtain⟨b5,b6,cv,cw,b9,ca,cs,ct⟩:=p2;have bq:=θ bp ah;have bo:=θ aB ah;have bf:=ac.trans (ah.mono ac.size);have bV:=ο aZ;have cT:=ah.size;have bW:=Zx aZ;have b1:=Zx bs;have a5:=Zx ((bX.o.off (H:=(· <bb.heap.size)) (fun b _ h=>h)).step (H':=fun b=>b<bb.heap.size\/b=g) ah.size (fun b h _=>ah.block b h) (fun b j h2=>by rcases h2 with h2|h2;exact h2;omega));have cl:=(xP bl N f a.bytes);have cj:=a.bytes_len ((show r=J a->mL w kd ei em Q S R r->a.ok from fun j h2=>by subst j;exact h2.2) o.o.1 aT.o);have bC:=Zx (Jz (fun b=>b<bd.heap.size\/b=g) g ⟨b5,b6,cv,cw,b9,ca,cs,ct⟩ b7 b8 (iQ bl N f a.bytes) bl [] (N:Int) (f:Int) i x true aQ aZ (fun b h=>by rcases h with h|h<;>omega) (.inr rfl) bs bA.o.dk (by have:=k.o.inv.n3;simp only at this;omega) a5.o.now.1 (by have:=Bj k.o.inv (b:=a.bytes) (by rw[F.o];exact o.o.2.2);rw[F.o,E.o]at this;exact this) (by simp only[gF];omega) k.o.f1 k.o.f2);clear c0 c1 c2 V W X aa ab I aM bp aB ac aZ bs ah cl cj;go_wp2_with fail
 have a7:=Zx (show(L (iQ bl N f a.bytes))<=900 by have j:=xP bl N f a.bytes;have h2:=a.bytes_len ((show r=J a->mL w kd ei em Q S R r->a.ok from fun j h2=>by subst j;exact h2.2) o.o.1 aT.o);omega);refine bC.o.mono ?_;clear bC;obtain⟨n,a0⟩:∃ n,L (iQ bl N f a.bytes)=n:=⟨_,rfl⟩;obtain⟨aq,bh⟩:∃ aq,min (kP i n) n=aq:=⟨_,rfl⟩;obtain⟨d,bg⟩:∃ d,hM (bl,[]) ((iQ bl N f a.bytes).take (kP i n))=d:=⟨_,rfl⟩;rw[a0,bg,bh];rw[a0]at a7;have a8:=Zx a0;have bz:=Zx bh;have a3:=Zx bg;clear a0 bh bg;rintro e bw ⟨cn,rfl,am,bL,aw⟩;obtain⟨K,M,T,U,aI,aJ,aO,aP⟩:=cn;simp only[gi,tK]at am;obtain⟨ar,bk⟩:∃ z,(if i<0 then i else i - (aq:Int))=z:=⟨_,rfl⟩;rw[bk]at am;have a4:=Zx bk;have br:=(aw.2.1 _ (ο bq) ϊ).trans bq;have aC:=(aw.2.1 _ (ο bo) ϊ).trans bo;have av:=aw.to bf bf.size ϊ;have cU:=aw.1;have aU:=Zx (bL.sub (H':=fun b=>b<bb.heap.size\/b=g) (fun b _ h=>by rcases h with h|h;exact .inl ϊ;exact .inr h));have a6:=Zx (a5.o.oneCh (g:=g) (.inr rfl) aw);clear bq bo bf aw bL b1 a5 bW bk;by_cases aK:aq=n
 .have cL:((aq:Int)==(n:Int))=true:=by rw[aK];simp
  obtain⟨⟨co,cp,cq,cr⟩,-,-⟩:=Ϫ br;obtain⟨⟨c0,c1,c2,V,W,X,aa,ab⟩,I,-⟩:=ϳ am;have ax:=Me am (IZ ae) (IZ ad) (D q (L y.1) t) (D s (L y.2) B);have aj:=((((Η.refl g bw).set 2 (IZ ae)).set 3 (IZ ad)).set 4 (D q (L y.1) t)).set 5 (D s (L y.2) B);have aE:=Zx ax;have aD:=Zx aj;have aR:=Zx aK;clear ax aj am aK;go_upto_region 11 with (fail)
  generalize(ŝ (ŝ (ŝ (ŝ bw ⟨g,2,O⟩ (IZ ae)) ⟨g,3,O⟩ (IZ ad)) ⟨g,4,O⟩ (D q (L y.1) t)) ⟨g,5,O⟩ (D s (L y.2) B))=b4 at *;have an:=(aD.o.2.1 _ (ο aC) ϊ).trans aC;have ai:=aD.o.to av av.size ϊ;have aF:=Zx ((aU.o.oneCh (g:=g) (.inr rfl) aD.o).and (a6.o.oneCh (g:=g) (.inr rfl) aD.o));obtain⟨⟨r0,r1,r2,r3,r4,bQ,r6,r7⟩,bF,-⟩:=ϳ an;obtain⟨⟨cz,cA,cB,cC,cD,cE,cF,cG⟩,cP,-⟩:=ϳ aE.o;have aG:=Zx (ob an (D K (L d.1) M) (D T (L d.2) U) (IZ ae) (IZ ad) (D q (L y.1) t) (D s (L y.2) B) (.bool true) (IZ ar));have ak:=Η.set8 (w.heap.size+1+1) b4 (D K (L d.1) M) (D T (L d.2) U) (IZ ae) (IZ ad) (D q (L y.1) t) (D s (L y.2) B) (.bool true) (IZ ar);have ap:=Zx (ak.to ai ai.size ϊ);have a9:=Zx (aF.o.oneCh (g:=w.heap.size+1+1) (.inl bx) ak);clear ak ai aF an aD aE c0 c1 c2 V W X aa ab I co cp cq cr aC br av aU a6;go_wp2;refine ϟ (v:=.tuple #[ā #[D K (L d.1) M,D T (L d.2) U,IZ ae,IZ ad,D q (L y.1) t,D s (L y.2) B,.bool true,IZ ar],IZ 0]) (gf (p:=4) (u:=5) (ty:=48) rfl _ _ (w.heap.size+1+1) 48 _ (0,0) _ rfl aG.o pR rfl ϋ) rfl ?_;have bt:=a9.o.sub (H':=H) fun b _ h=>.inl (by have:=bB.o b h;omega);have ay:=Lk k.o.inv (b:=a.bytes) (by rw[F.o];exact o.o.2.2) (by have:=E.o;omega);have ci:d=hM (bl,[]) (iQ bl N f a.bytes):=by
   have j:=bz.o;rw[<-a3.o,gW (by rw[a8.o];rw[aR.o]at j;omega)]
  rw[F.o,E.o]at ay;simp only at ay;rw[<-ci]at ay;have bj:a.ok:=(show r=J a->mL w kd ei em Q S R r->a.ok from fun j h2=>by subst j;exact h2.2) o.o.1 aT.o;refine⟨⟨K,M,T,U,q,t,s,B⟩,⟨d.1,d.2,ae,ad,y,true,ar⟩,0,rfl,.yes a _ o.o.1 ⟨rfl,ay.1,?_,?_,?_,?_,?_,?_,?_⟩ ay.2.1 (show i<0->ar<0 from fun I=>by have cd:=a4.o;rw[μ I]at cd;omega),bt.imp fun aQ ⟨af,cH,cb,cc⟩=>⟨af.b,af.wt,cb,cc⟩,ap.o⟩
  .rw[vf,ω,qN,E.o];exact ay.2.2
  .rw[ω,qN,E.o];exact b2.o.symm
  .rw[vf,ω,F.o];exact bY.o.symm
  .intro e al
   rcases mg.1 al with h|h
   .exact k.o.ok e h
   .rw[jW.1 h];exact bj
  .rw[rI,k.o.x];exact o.o.2.1
  .have j:=a4.o
   have h2:=k.o.f1;have cI:=a7.o;have cJ:=aR.o;simp only at h2 ⊢;split at j<;>omega
  .have j:=a4.o
   have h2:=k.o.f2;simp only at h2 ⊢;split at j<;>omega
 .have cK:((aq:Int)==(n:Int))=false:=gl.2 ϊ
  have bZ:=Zx (CH g ⟨K,M,T,U,aI,aJ,aO,aP⟩ ⟨d.1,d.2,(N:Int),(f:Int),x,true,ar⟩ bw am);have aR:=Zx aK;clear am aK br;go_wp2_with fail
  refine bZ.o.mono ?_;rintro e cu ⟨rfl,ax,aj⟩;simp only[gi]at ax;have an:=(aj.2.1 _ (ο aC) ϊ).trans aC;have ai:=aj.to av av.size ϊ;have aF:=Zx (aU.o.oneCh (g:=g) (.inr rfl) aj);have aE:=Zx ax;clear aj ax;obtain⟨⟨c0,c1,c2,V,W,X,aa,ab⟩,I,-⟩:=ϳ aE.o;obtain⟨⟨r0,r1,r2,r3,r4,bQ,r6,r7⟩,bF,-⟩:=ϳ an;have aG:=Zx (ob an (D K (L d.1) M) (D T (L d.2) U) (IZ (N:Int)) (IZ (f:Int)) (D aI (L x.1) aJ) (D aO (L x.2) aP) (.bool false) (IZ (-1)));have ak:=Η.set8 (w.heap.size+1+1) cu (D K (L d.1) M) (D T (L d.2) U) (IZ (N:Int)) (IZ (f:Int)) (D aI (L x.1) aJ) (D aO (L x.2) aP) (.bool false) (IZ (-1));have ap:=Zx (ak.to ai ai.size ϊ);have a9:=Zx (aF.o.oneCh (g:=w.heap.size+1+1) (.inl bx) ak);clear ak ai aF an aE aC av aU a6;go_wp2;refine ϟ (v:=.tuple #[ā #[D K (L d.1) M,D T (L d.2) U,IZ (N:Int),IZ (f:Int),D aI (L x.1) aJ,D aO (L x.2) aP,.bool false,IZ (-1)],IZ 7]) (gf (p:=4) (u:=5) (ty:=48) rfl _ _ (w.heap.size+1+1) 48 _ (0,0) _ rfl aG.o pR rfl ϋ) rfl ?_;have bt:=a9.o.sub (H':=H) fun b _ h=>.inl (by have:=bB.o b h;omega);have aL:L (ϡ m)+L a.bytes<=Ϥ bl:=by rw[F.o];exact o.o.2.2
  have hF:kP i n<n:=by have:=bz.o;have:=aR.o;omega
  have ck:0<=i:=by
   by_cases h:i<0
   .unfold kP at hF;rw[μ h]at hF;omega
   .omega
  have bm:=fun bu=>Ll k.o.inv aL (by have:=E.o;omega) (kP i n) (by rw[F.o,E.o,a8.o];exact hF) bu;have bj:a.ok:=(show r=J a->mL w kd ei em Q S R r->a.ok from fun j h2=>by subst j;exact h2.2) o.o.1 aT.o;have ch:=Bj k.o.inv (b:=a.bytes) aL;have aY:=BF (l:=(iQ bl N f a.bytes).take (kP i n)) k.o.dok.dk (fun c cf=>by
   have j:=ni cf
   rw[<-E.o,<-F.o]at j
   exact ch c j) (by simp only[gF,gN];have:=a7.o;rw[a8.o];omega)
  have cR:=(k.o.dok).dk.nw;simp only[F.o,E.o]at bm;simp only at aY;rw[a3.o]at aY;simp only[a3.o]at bm;have bI:=k.o.inv.n3;simp only at bI;refine⟨⟨K,M,T,U,aI,aJ,aO,aP⟩,⟨d.1,d.2,(N:Int),(f:Int),x,false,-1⟩,7,rfl,.lost a y _ o.o.1 ck ⟨rfl,⟨aY.1,k.o.dok.x⟩,?_,?_,bj,o.o.2.1,k.o.x⟩,bt.imp fun aQ af=>⟨af.b,af.wt,af.d,af.s⟩,ap.o⟩
  .simp only;rw[aY.2.1];exact bI
  .intro bu
   rw[vf,E.o];exact bm bu
theorem jH {w:β} {g:Nat} {a b c d e f i j k l m n:ε} {T:TypeId} (h:w.heap[g]?=J (C #[a,b,c,d,e,f,i,j,k,l,m,n] T (0,0))):(w.cell? ⟨g,0,O⟩=J a/\w.cell? ⟨g,1,O⟩=J b/\w.cell? ⟨g,2,O⟩=J c/\w.cell? ⟨g,3,O⟩=J d/\w.cell? ⟨g,4,O⟩=J e/\w.cell? ⟨g,5,O⟩=J f/\w.cell? ⟨g,6,O⟩=J i/\w.cell? ⟨g,7,O⟩=J j/\w.cell? ⟨g,8,O⟩=J k/\w.cell? ⟨g,9,O⟩=J l/\w.cell? ⟨g,10,O⟩=J m/\w.cell? ⟨g,11,O⟩=J n)/\(∀ o,w.frozen? ⟨g,o,O⟩=false)/\g<w.heap.size:=
 ⟨⟨ν _ _ 0 _ _ _ h,ν _ _ 1 _ _ _ h,ν _ _ 2 _ _ _ h,ν _ _ 3 _ _ _ h,ν _ _ 4 _ _ _ h,ν _ _ 5 _ _ _ h,ν _ _ 6 _ _ _ h,ν _ _ 7 _ _ _ h,ν _ _ 8 _ _ _ h,ν _ _ 9 _ _ _ h,ν _ _ 10 _ _ _ h,ν _ _ 11 _ _ _ h⟩,fun o=>ϥ _ _ o _ _ h,ο h⟩
theorem vX {w:β} {g:Nat} {T:TypeId} {a b c d e f i j k l m n:ε} (G:w.heap[g]?=J (C #[a,b,c,d,e,f,i,j,k,l,m,n] T (0,0))) (h o p q r s t u:ε):(ŝ (ŝ (ŝ (ŝ (ŝ (ŝ (ŝ (ŝ w ⟨g,0,O⟩ h) ⟨g,1,O⟩ o) ⟨g,2,O⟩ p) ⟨g,3,O⟩ q) ⟨g,4,O⟩ r) ⟨g,5,O⟩ s) ⟨g,6,O⟩ t) ⟨g,7,O⟩ u).heap[g]?=J (C #[h,o,p,q,r,s,t,u,k,l,m,n] T (0,0)):=by
 have v:(ŝ w ⟨g,0,O⟩ h).heap[g]?=J (C #[h,b,c,d,e,f,i,j,k,l,m,n] T (0,0)):=π _ g 0 _ _ _ G;have x:(ŝ (ŝ w ⟨g,0,O⟩ h) ⟨g,1,O⟩ o).heap[g]?=J (C #[h,o,c,d,e,f,i,j,k,l,m,n] T (0,0)):=π _ g 1 _ _ _ v;have y:(ŝ (ŝ (ŝ w ⟨g,0,O⟩ h) ⟨g,1,O⟩ o) ⟨g,2,O⟩ p).heap[g]?=J (C #[h,o,p,d,e,f,i,j,k,l,m,n] T (0,0)):=π _ g 2 _ _ _ x;have z:(ŝ (ŝ (ŝ (ŝ w ⟨g,0,O⟩ h) ⟨g,1,O⟩ o) ⟨g,2,O⟩ p) ⟨g,3,O⟩ q).heap[g]?=J (C #[h,o,p,q,e,f,i,j,k,l,m,n] T (0,0)):=π _ g 3 _ _ _ y;have A:(ŝ (ŝ (ŝ (ŝ (ŝ w ⟨g,0,O⟩ h) ⟨g,1,O⟩ o) ⟨g,2,O⟩ p) ⟨g,3,O⟩ q) ⟨g,4,O⟩ r).heap[g]?=J (C #[h,o,p,q,r,f,i,j,k,l,m,n] T (0,0)):=π _ g 4 _ _ _ z;have B:(ŝ (ŝ (ŝ (ŝ (ŝ (ŝ w ⟨g,0,O⟩ h) ⟨g,1,O⟩ o) ⟨g,2,O⟩ p) ⟨g,3,O⟩ q) ⟨g,4,O⟩ r) ⟨g,5,O⟩ s).heap[g]?=J (C #[h,o,p,q,r,s,i,j,k,l,m,n] T (0,0)):=π _ g 5 _ _ _ A;have E:(ŝ (ŝ (ŝ (ŝ (ŝ (ŝ (ŝ w ⟨g,0,O⟩ h) ⟨g,1,O⟩ o) ⟨g,2,O⟩ p) ⟨g,3,O⟩ q) ⟨g,4,O⟩ r) ⟨g,5,O⟩ s) ⟨g,6,O⟩ t).heap[g]?=J (C #[h,o,p,q,r,s,t,j,k,l,m,n] T (0,0)):=π _ g 6 _ _ _ B;have F:(ŝ (ŝ (ŝ (ŝ (ŝ (ŝ (ŝ (ŝ w ⟨g,0,O⟩ h) ⟨g,1,O⟩ o) ⟨g,2,O⟩ p) ⟨g,3,O⟩ q) ⟨g,4,O⟩ r) ⟨g,5,O⟩ s) ⟨g,6,O⟩ t) ⟨g,7,O⟩ u).heap[g]?=J (C #[h,o,p,q,r,s,t,u,k,l,m,n] T (0,0)):=π _ g 7 _ _ _ E;exact F
theorem Mc {w:β} {g:Nat} {T:TypeId} {a b c d e f i j k l m n:ε} (p:w.heap[g]?=J (C #[a,b,c,d,e,f,i,j,k,l,m,n] T (0,0))) (h:ε):(ŝ w ⟨g,7,O⟩ h).heap[g]?=J (C #[a,b,c,d,e,f,i,h,k,l,m,n] T (0,0)):=by
 have o:(ŝ w ⟨g,7,O⟩ h).heap[g]?=J (C #[a,b,c,d,e,f,i,h,k,l,m,n] T (0,0)):=π _ g 7 _ _ _ p;exact o
theorem Md {w:β} {g:Nat} {T:TypeId} {a b c d e f i j k l m n:ε} (v:w.heap[g]?=J (C #[a,b,c,d,e,f,i,j,k,l,m,n] T (0,0))) (h o p q:ε):(ŝ (ŝ (ŝ (ŝ w ⟨g,8,O⟩ h) ⟨g,9,O⟩ o) ⟨g,10,O⟩ p) ⟨g,11,O⟩ q).heap[g]?=J (C #[a,b,c,d,e,f,i,j,h,o,p,q] T (0,0)):=by
 have r:(ŝ w ⟨g,8,O⟩ h).heap[g]?=J (C #[a,b,c,d,e,f,i,j,h,l,m,n] T (0,0)):=π _ g 8 _ _ _ v;have s:(ŝ (ŝ w ⟨g,8,O⟩ h) ⟨g,9,O⟩ o).heap[g]?=J (C #[a,b,c,d,e,f,i,j,h,o,m,n] T (0,0)):=π _ g 9 _ _ _ r;have t:(ŝ (ŝ (ŝ w ⟨g,8,O⟩ h) ⟨g,9,O⟩ o) ⟨g,10,O⟩ p).heap[g]?=J (C #[a,b,c,d,e,f,i,j,h,o,p,n] T (0,0)):=π _ g 10 _ _ _ s;have u:(ŝ (ŝ (ŝ (ŝ w ⟨g,8,O⟩ h) ⟨g,9,O⟩ o) ⟨g,10,O⟩ p) ⟨g,11,O⟩ q).heap[g]?=J (C #[a,b,c,d,e,f,i,j,h,o,p,q] T (0,0)):=π _ g 11 _ _ _ t;exact u
theorem Η.setL {g:Nat} {w w':β} (h:Η g w w') (a b c d e f i j:ε):Η g w (ŝ (ŝ (ŝ (ŝ (ŝ (ŝ (ŝ (ŝ w' ⟨g,0,O⟩ a) ⟨g,1,O⟩ b) ⟨g,2,O⟩ c) ⟨g,3,O⟩ d) ⟨g,4,O⟩ e) ⟨g,5,O⟩ f) ⟨g,6,O⟩ i) ⟨g,7,O⟩ j):=
 (((((((h.set 0 a).set 1 b).set 2 c).set 3 d).set 4 e).set 5 f).set 6 i).set 7 j
theorem ς.setL {H:Nat->Prop} {g:Nat} {w:β} {R:β->Prop} (h:ς H w R) (hg:H g) (a b c d e f i j:ε):ς H (ŝ (ŝ (ŝ (ŝ (ŝ (ŝ (ŝ (ŝ w ⟨g,0,O⟩ a) ⟨g,1,O⟩ b) ⟨g,2,O⟩ c) ⟨g,3,O⟩ d) ⟨g,4,O⟩ e) ⟨g,5,O⟩ f) ⟨g,6,O⟩ i) ⟨g,7,O⟩ j) R:=
 (((((((h.set (p:=⟨g,0,O⟩) hg a).set (p:=⟨g,1,O⟩) hg b).set (p:=⟨g,2,O⟩) hg c).set (p:=⟨g,3,O⟩) hg d).set (p:=⟨g,4,O⟩) hg e).set (p:=⟨g,5,O⟩) hg f).set (p:=⟨g,6,O⟩) hg i).set (p:=⟨g,7,O⟩) hg j
structure uA where
 da:Option Addr
 dc:Nat
 sa:Option Addr
 sc:Nat
structure sO (w:β) (q:uA) (ix:Ix):Prop where
 d:Δ w (D q.da (L ix.1) q.dc) ix.1
 s:ϧ ix.1 w (D q.sa (L ix.2) q.sc) ix.2
theorem sO.below {w w':β} {q:uA} {ix:Ix} (h:sO w q ix) (a:BQ w w'):sO w' q ix:=⟨h.d.below a,h.s.below a⟩
structure uE (H:Nat->Prop) (g:Nat) (p:jL) (L:ϰ) (q:uA) (ix:Ix) (w:β):Prop where
 row:w.heap[g]?=J (C #[D p.ba L.bl.length p.bc,D p.wa L.ws.length p.wc,IZ L.seq,IZ L.len,D p.da L.x.1.length p.dc,D p.sa L.x.2.length p.sc,.bool L.up,IZ L.fuse,š (δ (iI ix.1 ix.2)),IZ (ix.1.length:Int),D q.da ix.1.length q.dc,D q.sa ix.2.length q.sc] 77 (0,0))
 led:ς H w (fun w2=>ka w2 p L)
 ix:ς H w (fun w2=>sO w2 q ix)
 hg:H g
theorem uE.below {H:Nat->Prop} {g:Nat} {p:jL} {b:ϰ} {q:uA} {ix:Ix} {w w':β} (h:uE H g p b q ix w) (a:BQ w w'):uE H g p b q ix w':=⟨θ h.row a,h.led.below a,h.ix.below a,h.hg⟩
def ht (H:Nat->Prop) (g:Nat) (a:ϰ) (ix:Ix) (w:β):Prop:= ∃ b q,uE H g b a q ix w
theorem ht.below {H:Nat->Prop} {g:Nat} {a:ϰ} {ix:Ix} {w w':β} (h:ht H g a ix w) (b:BQ w w'):ht H g a ix w':=by
 obtain⟨c,q,h⟩:=h;exact⟨c,q,h.below b⟩
def ns (H:Nat->Prop) (g:Nat) (a:ϰ) (ix:Ix) (v:ε) (w:β) (e:Ending) (w':β):Prop:=e=ŗ v/\ht H g a ix w'/\Η g w w'
theorem wG (H:Nat->Prop) (g:Nat) (a:ϰ) (ix:Ix) (l:ε) (ks:List Int) (w:β) (t:∀ b,H b->b<w.heap.size) (h:ht H g a ix w) (y:qb a) (s:0<L a.bl) (x:Rd w l (L ks) 1 (τ ks)) :
  Calls prog 10 #[þ (J ⟨g,0,O⟩),l] w (ns H g {a with bl:=gU ks a.bl a.ws,ws:=[],up:=false,fuse:= -1} ix (.tuple #[]) w):=by
 obtain⟨N,q,h⟩:=h;have f:=Zx (Jx N a l ks w h.led.now y s x);have j:=h.row;have F:=Zx h.ix;have B:=Zx t;have i:=h.hg;obtain⟨⟨c0,c1,c2,m,n,o,p,r,-,-,-,-⟩,u,z⟩:=jH j;have I:=Zx j;unfold oA at f;simp only[gi,gF]at f;clear j h y s x t;unfold ns;generalize gU ks a.bl a.ws=c at *;go_enter func10,ntmps10;go_wp2_with fail
 refine f.o.mono ?_;rintro e P ⟨p1,rfl,v,d⟩;have k:=θ I.o d;have K:=Zx (vX k (D p1.ba (L c) p1.bc) (D p1.wa 0 p1.wc) (IZ a.seq) (IZ a.len) (D p1.da (L a.x.1) p1.dc) (D p1.sa (L a.x.2) p1.sc) (.bool false) (IZ (-1)));have G:=Zx ((v.off (H:=H) (fun b _ M=>B.o b M)).setL i (D p1.ba (L c) p1.bc) (D p1.wa 0 p1.wc) (IZ a.seq) (IZ a.len) (D p1.da (L a.x.1) p1.dc) (D p1.sa (L a.x.2) p1.sc) (.bool false) (IZ (-1)));have E:=Zx ((F.o.below d).setL i (D p1.ba (L c) p1.bc) (D p1.wa 0 p1.wc) (IZ a.seq) (IZ a.len) (D p1.da (L a.x.1) p1.dc) (D p1.sa (L a.x.2) p1.sc) (.bool false) (IZ (-1)));have A:=Zx (((Η.refl g w).below d).setL (D p1.ba (L c) p1.bc) (D p1.wa 0 p1.wc) (IZ a.seq) (IZ a.len) (D p1.da (L a.x.1) p1.dc) (D p1.sa (L a.x.2) p1.sc) (.bool false) (IZ (-1)));clear c0 c1 c2 m n o p r u z;obtain⟨⟨c0,c1,c2,m,n,o,p,r,-,-,-,-⟩,u,z⟩:=jH k;clear k v d;go_wp2
 go_returns
 exact⟨rfl,⟨p1,q,K.o,G.o,E.o,i⟩,A.o⟩
theorem zM (H:Nat->Prop) (g:Nat) (a:ϰ) (ix:Ix) (seq:Nat) (f:List Ev) (x:Ix) (w:β) (I:Ϩ w) (y:∀ b,H b->b<w.heap.size) (h:ht H g a ix w) (F:ja a.bl a.ws) (K:a.up=false) (v:ga (gg a.bl a.ws) seq (ϡ f)) (z:∀ e∈f,e.ok) (M:gH ([],[]) f=J x) (N:L x.1<=40) :
  Calls prog 11 #[þ (J ⟨g,0,O⟩)] w (ns H g ⟨gg a.bl a.ws,[],seq,L (ϡ f),x,true,-1⟩ ix (IZ 0) w):=by
 obtain⟨Z,q,h⟩:=h;have k:=Zx (JB Z a seq f x w I h.led.now F K v z M N);have m:=h.row;have U:=Zx h.ix;have S:=Zx y;have l:=h.hg;obtain⟨⟨c0,c1,c2,p,r,s,t,u,-,-,-,-⟩,A,Q⟩:=jH m;have o:=Zx m;unfold sP at k;simp only[gi,gF]at k;clear m h F v z M N y I K;unfold ns;generalize gg a.bl a.ws=d at *;generalize(L (ϡ f))=c at *;go_enter func11,ntmps11;go_wp2_with fail
 refine k.o.mono ?_;rintro e P ⟨p1,rfl,B,i⟩;have Y:=θ o.o i;have j:=i.alloc i.size (C #[D p1.ba (L d) p1.bc,D p1.wa 0 p1.wc,IZ (seq:Int),IZ (c:Int),D p1.da (L x.1) p1.dc,D p1.sa (L x.2) p1.sc,.bool true,IZ (-1)] 48);have G:=χ P (C #[D p1.ba (L d) p1.bc,D p1.wa 0 p1.wc,IZ (seq:Int),IZ (c:Int),D p1.da (L x.1) p1.dc,D p1.sa (L x.2) p1.sc,.bool true,IZ (-1)] 48);have E:=(B.alloc (C #[D p1.ba (L d) p1.bc,D p1.wa 0 p1.wc,IZ (seq:Int),IZ (c:Int),D p1.da (L x.1) p1.dc,D p1.sa (L x.2) p1.sc,.bool true,IZ (-1)] 48)).off (H:=H) (fun b _ X=>S.o b X);go_upto_region 4 with (fail)
 generalize å P (C #[D p1.ba (L d) p1.bc,D p1.wa 0 p1.wc,IZ (seq:Int),IZ (c:Int),D p1.da (L x.1) p1.dc,D p1.sa (L x.2) p1.sc,.bool true,IZ (-1)] 48)=aa at *;have n:=θ o.o j;have W:=Zx (vX n (D p1.ba (L d) p1.bc) (D p1.wa 0 p1.wc) (IZ (seq:Int)) (IZ (c:Int)) (D p1.da (L x.1) p1.dc) (D p1.sa (L x.2) p1.sc) (.bool true) (IZ (-1)));have V:=Zx (E.setL l (D p1.ba (L d) p1.bc) (D p1.wa 0 p1.wc) (IZ (seq:Int)) (IZ (c:Int)) (D p1.da (L x.1) p1.dc) (D p1.sa (L x.2) p1.sc) (.bool true) (IZ (-1)));have T:=Zx ((U.o.below j).setL l (D p1.ba (L d) p1.bc) (D p1.wa 0 p1.wc) (IZ (seq:Int)) (IZ (c:Int)) (D p1.da (L x.1) p1.dc) (D p1.sa (L x.2) p1.sc) (.bool true) (IZ (-1)));have R:=Zx (((Η.refl g w).below j).setL (D p1.ba (L d) p1.bc) (D p1.wa 0 p1.wc) (IZ (seq:Int)) (IZ (c:Int)) (D p1.da (L x.1) p1.dc) (D p1.sa (L x.2) p1.sc) (.bool true) (IZ (-1)));clear c0 c1 c2 p r s t u A Q;obtain⟨⟨c0,c1,c2,p,r,s,t,u,-,-,-,-⟩,A,Q⟩:=jH n;obtain⟨⟨ab,d1,d2,ac,ad,ae,af,ag⟩,-,-⟩:=ϳ G;clear Y n G B E i j;go_wp2;go_ret;exact⟨rfl,⟨p1,q,W.o,V.o,T.o,l⟩,R.o⟩
theorem Of (H:Nat->Prop) (g:Nat) (a:ϰ) (ix:Ix) (w:β) (h:ht H g a ix w) (t:a.up=true) :
  Calls prog 11 #[þ (J ⟨g,0,O⟩)] w (ns H g a ix (IZ 0) w):=by
 obtain⟨b,q,h⟩:=h;have k:=Zx (JC b a w t);have i:=h.row;have z:=Zx h.ix;have A:=Zx h.led;have d:=h.hg;obtain⟨⟨c0,c1,c2,l,m,n,o,p,-,-,-,-⟩,r,v⟩:=jH i;have E:=Zx i;simp only[gi]at k;clear i h t;unfold ns;go_enter func11,ntmps11;go_wp2_with fail
 refine k.o.mono ?_;rintro e u ⟨rfl,f⟩;have c:=f.alloc f.size (C #[D b.ba (L a.bl) b.bc,D b.wa (L a.ws) b.wc,IZ a.seq,IZ a.len,D b.da (L a.x.1) b.dc,D b.sa (L a.x.2) b.sc,.bool a.up,IZ a.fuse] 48);have s:=χ u (C #[D b.ba (L a.bl) b.bc,D b.wa (L a.ws) b.wc,IZ a.seq,IZ a.len,D b.da (L a.x.1) b.dc,D b.sa (L a.x.2) b.sc,.bool a.up,IZ a.fuse] 48);go_upto_region 4 with (fail)
 generalize å u (C #[D b.ba (L a.bl) b.bc,D b.wa (L a.ws) b.wc,IZ a.seq,IZ a.len,D b.da (L a.x.1) b.dc,D b.sa (L a.x.2) b.sc,.bool a.up,IZ a.fuse] 48)=G at *;have j:=θ E.o c;have F:=Zx (vX j (D b.ba (L a.bl) b.bc) (D b.wa (L a.ws) b.wc) (IZ a.seq) (IZ a.len) (D b.da (L a.x.1) b.dc) (D b.sa (L a.x.2) b.sc) (.bool a.up) (IZ a.fuse));have B:=Zx ((A.o.below c).setL d (D b.ba (L a.bl) b.bc) (D b.wa (L a.ws) b.wc) (IZ a.seq) (IZ a.len) (D b.da (L a.x.1) b.dc) (D b.sa (L a.x.2) b.sc) (.bool a.up) (IZ a.fuse));have y:=Zx ((z.o.below c).setL d (D b.ba (L a.bl) b.bc) (D b.wa (L a.ws) b.wc) (IZ a.seq) (IZ a.len) (D b.da (L a.x.1) b.dc) (D b.sa (L a.x.2) b.sc) (.bool a.up) (IZ a.fuse));have x:=Zx (((Η.refl g w).below c).setL (D b.ba (L a.bl) b.bc) (D b.wa (L a.ws) b.wc) (IZ a.seq) (IZ a.len) (D b.da (L a.x.1) b.dc) (D b.sa (L a.x.2) b.sc) (.bool a.up) (IZ a.fuse));clear c0 c1 c2 l m n o p r v;obtain⟨⟨c0,c1,c2,l,m,n,o,p,-,-,-,-⟩,r,v⟩:=jH j;obtain⟨⟨I,d1,d2,K,M,N,P,Q⟩,-,-⟩:=ϳ s;clear j s f c;go_wp2;go_ret;exact⟨rfl,⟨b,q,F.o,B.o,y.o,d⟩,x.o⟩
theorem Oa (H:Nat->Prop) (g:Nat) (a:ϰ) (ix:Ix) (N:Int) (w:β) (h:ht H g a ix w) :
  Calls prog 29 #[þ (J ⟨g,0,O⟩),IZ N] w (ns H g {a with fuse:=N} ix (.tuple #[]) w):=by
 obtain⟨e,q,h⟩:=h;have c:=h.row;have b:=h.hg;have k:=Zx (Mc c (IZ N));have j:=Zx (((h.led).set (p:=⟨g,7,O⟩) b (IZ N)).imp (Q:=fun f=>ka f e {a with fuse:=N}) fun f ⟨l,m,n,o⟩=>⟨l,m,n,o⟩);have i:=Zx ((h.ix).set (p:=⟨g,7,O⟩) b (IZ N));obtain⟨⟨c0,c1,c2,r,s,t,u,v,-,-,-,-⟩,d,y⟩:=jH c;have x:=d 7;clear c h d;go_enter func29,ntmps29;go_wp2
 go_returns
 exact⟨rfl,⟨e,q,k.o,j.o,i.o,b⟩,(Η.refl g w).set 7 _⟩
theorem mL.below {w w':β} {kd ei em:Int} {a:Option Addr} {c b:Nat}:∀ {r:Option Ev},mL w kd ei em a c b r->BQ w w'->mL w' kd ei em a c b r
 |none,h,hb=>fun d e=>h d (hb.trans (e.mono hb.size))
 |some _,h,hb=>⟨h.1.below hb,h.2⟩
structure xr (H:Nat->Prop) (L:ϰ) (es:List Ev) (r:Option Ev) (w:β) (gL:Nat) (p':jL) (L':ϰ) (code:Int) (W:β):Prop where
 row:W.heap[gL]?=J (C #[D p'.ba L'.bl.length p'.bc,D p'.wa L'.ws.length p'.wc,IZ L'.seq,IZ L'.len,D p'.da L'.x.1.length p'.dc,D p'.sa L'.x.2.length p'.sc,.bool L'.up,IZ L'.fuse] 48 (0,0))
 q:oB L es r L' code
 off:ς H W (fun w2=>ka w2 p' L')
 b:BQ w W
def Ak (H:Nat->Prop) (g:Nat) (c:ϰ) (d:List Ev) (r:Option Ev) (ix:Ix) (w:β) (e:Ending) (w':β):Prop:= ∃ a b,e=ŗ (IZ b)/\oB c d r a b/\ht H g a ix w'/\Η g w w'
theorem zL (H:Nat->Prop) (g:Nat) (ab:ϰ) (ix:Ix) (i:List Ev) (r:Option Ev) (kd ei em:Int) (W:Option Addr) (Y X:Nat) (w:β) (aF:Ϩ w) (aB:∀ b,H b->b<w.heap.size) (h:ht H g ab ix w) (N:lC ab i) (aV:L i<=40) (aD:mL w kd ei em W Y X r) :
  Calls prog 22 #[þ (J ⟨g,0,O⟩),ā (iL kd ei em W Y X)] w (Ak H g ab i r ix w):=by
 obtain⟨aw,q,h⟩:=h;obtain⟨bl,ws,sq,ln,x,up,ac⟩:=ab;obtain rfl:up=true:=N.up;obtain rfl:ws=[]:=N.ws;obtain rfl:sq=(L i:Int):=N.sq;obtain rfl:ln=(L (ϡ i):Int):=N.ln;have Z:=Zx (fun(ai:Nat->Prop) v (d:BQ w v) (aU:∀ b,ai b->b<v.heap.size) (aY:ς ai v (fun o=>ka o aw ⟨bl,[],L i,L (ϡ i),x,true,ac⟩))=>JA ai aw bl x ac i r kd ei em W Y X v (aF.below d) aU aY N aV (aD.below d));unfold Al at Z;have aa:=Zx h.row;have ao:=h.hg;have ay:=Zx h.led;have aP:=Zx h.ix;have ax:=Zx aB;unfold Ak;simp only[gi,gF,iL]at Z;simp only[gF]at aa;clear h N aD aF aB;unfold iL;generalize(L i:Int)=sq at *;generalize(L (ϡ i):Int)=ln at *;obtain⟨bf,ap⟩:∃ r,iI ix.1 ix.2=r:=⟨_,rfl⟩;rw[ap]at aa;have aR:=Zx ap;clear ap;obtain⟨af,bh,n⟩:=Ϻ (w:=w) (A:=C #[IZ kd,IZ ei,IZ em,D W Y X] 33) RZ;have ag:=θ aa.o n;obtain⟨⟨c0,c1,c2,y,z,B,E,F,-,-,-,-⟩,ae,ah⟩:=jH ag;obtain⟨⟨S,T,U,V⟩,-,-⟩:=Ϫ af;go_enter func22,ntmps22;go_upto_region 3 with (fail)
 generalize å w (C #[IZ kd,IZ ei,IZ em,D W Y X] 33)=p at *;go_cut [5,6] (fun a8 a9 wc=>∃ (am:Nat) (c:jL) (a:ϰ) (s:Int),a8=þ (J ⟨am,0,O⟩)/\a9=IZ s/\Ϭ (xr H ⟨bl,[],sq,ln,x,true,ac⟩ i r w am c a s wc))
 case first =>
  refine ϸ (fun aT=>BQ p aT) 10 ϋ ?_;have m:BQ p p.drew:=RZ.drew;have Q:BQ w p.drew:=n.drew;generalize aZ:p.drew=wd at *;clear aZ;refine Zf 0 m ?_;refine Zf 1 m ?_;refine Zf 2 m ?_;refine Zb 3 [5,6,7,10] m ?_ (hy:=by intro v d;have a0:=ζ d c0;have a1:=ζ d c1;have a2:=ζ d c2;have a3:=ζ d y;have a4:=ζ d z;have a5:=ζ d B;have a6:=ζ d E;have a7:=ζ d F;have ba:=ζ d S;have bb:=ζ d T;have bc:=ζ d U;have bd:=ζ d V;go_simp;try with_reducible rfl);refine Zb 4 [5,6,7,10] m ?_ (hy:=by intro v d;have a0:=ζ d c0;have a1:=ζ d c1;have a2:=ζ d c2;have a3:=ζ d y;have a4:=ζ d z;have a5:=ζ d B;have a6:=ζ d E;have a7:=ζ d F;have ba:=ζ d S;have bb:=ζ d T;have bc:=ζ d U;have bd:=ζ d V;go_simp;try with_reducible rfl);refine pZ (fuel:=6) 5 9 ϋ rfl rfl ?_ ?_
  .skip
   intro K k;go_simp;refine(Z.o H wd Q (fun b aq=>nj (ax.o b aq) Q.size) (ay.o.below Q)).mono ?_;rintro e l ⟨c,a,s,rfl,I,R,ad⟩;have f:BQ p l:=m.trans (ad.mono m.size);refine k _ _ f ?_;clear k K;try simp only[Zp]
   refine Zf 6 f ?_;refine Zf 7 f ?_;refine Zf 8 f ?_;have M:=χ l (C #[D O 0 0,D O 0 0,IZ 0,IZ 0,D O 0 0,D O 0 0,.bool false,IZ 0] 48);have u:=(φ l.heap.size l).alloc NZ (C #[D O 0 0,D O 0 0,IZ 0,IZ 0,D O 0 0,D O 0 0,.bool false,IZ 0] 48);have G:=f.trans (u.mono f.size);refine Ψ (fuel:=2) 9 ϋ rfl ?_;intro K k;go_simp;refine k _ _ G ?_;clear k K;generalize å l (C #[D O 0 0,D O 0 0,IZ 0,IZ 0,D O 0 0,D O 0 0,.bool false,IZ 0] 48)=o at *;try simp only[Zp]
   have P:=Zx (ob M (D c.ba (L a.bl) c.bc) (D c.wa (L a.ws) c.wc) (IZ a.seq) (IZ a.len) (D c.da (L a.x.1) c.dc) (D c.sa (L a.x.2) c.sc) (.bool a.up) (IZ a.fuse));have ar:=((Η.set8 l.heap.size o (D c.ba (L a.bl) c.bc) (D c.wa (L a.ws) c.wc) (IZ a.seq) (IZ a.len) (D c.da (L a.x.1) c.dc) (D c.sa (L a.x.2) c.sc) (.bool a.up) (IZ a.fuse)).to u u.size NZ);have al:=Zx (R.below ar);have aj:=Zx (n.trans ((f.trans (ar.mono f.size)).mono n.size));have az:=Zx I;have ak:=Zx (xr.mk P.o I al.o aj.o);obtain⟨⟨aG,aH,aI,aJ,aK,aL,aM,aN⟩,aW,be⟩:=ϳ M;clear ar M u R I c0 c1 c2 y z B E F ae ah S T U V ag af;refine Zl ?_;try simp only[Zp]
   refine Ze 11 ?_;refine Zd ?_;go_wp2_with fail
   go_meet;case rel=>exact⟨_,c,a,s,rfl,rfl,ak⟩
  .skip
   intro K k;go_simp;have M:=χ wd (C #[D O 0 0,D O 0 0,IZ 0,IZ 0,D O 0 0,D O 0 0,.bool false,IZ 0] 48);have u:=(φ wd.heap.size wd).alloc NZ (C #[D O 0 0,D O 0 0,IZ 0,IZ 0,D O 0 0,D O 0 0,.bool false,IZ 0] 48);have G:BQ p (å wd (C #[D O 0 0,D O 0 0,IZ 0,IZ 0,D O 0 0,D O 0 0,.bool false,IZ 0] 48)):=m.trans (u.mono m.size);refine k _ _ G ?_;clear k K;have bg:wd.heap.size<(å wd (C #[D O 0 0,D O 0 0,IZ 0,IZ 0,D O 0 0,D O 0 0,.bool false,IZ 0] 48)).heap.size:=ύ;have aE:ς (fun b=>H b\/b=wd.heap.size) (å wd (C #[D O 0 0,D O 0 0,IZ 0,IZ 0,D O 0 0,D O 0 0,.bool false,IZ 0] 48)) (fun o=>ka o aw ⟨bl,[],sq,ln,x,true,ac⟩):=(ay.o.below Q).step ύ (fun b an aA=>gX _ _ b an) (fun b an aA=>by
    rcases aA with h|h
    .exact h
    .have:b<wd.heap.size:=an
     omega)
   have aC:=n.trans (G.mono n.size);generalize å wd (C #[D O 0 0,D O 0 0,IZ 0,IZ 0,D O 0 0,D O 0 0,.bool false,IZ 0] 48)=o at *;have aX:w.heap.size<=wd.heap.size:=Q.size;generalize wd.heap.size=j at *;try simp only[Zp]
   refine Ψ (fuel:=5) 5 ϋ rfl ?_;intro K k;go_simp;refine(Z.o (fun b=>H b\/b=j) o aC (fun b aq=>by
    rcases aq with h|h
    .have:=ax.o b h;have:=aC.size;omega
    .omega) aE).mono ?_
   rintro e l ⟨c,a,s,rfl,I,R,ad⟩;have f:BQ p l:=G.trans (ad.mono G.size);refine k _ _ f ?_;clear k K;try simp only[Zp]
   refine Zf 6 f ?_;refine Zf 7 f ?_;refine Zf 8 f ?_;have au:=θ M ad;have P:=Zx (ob au (D c.ba (L a.bl) c.bc) (D c.wa (L a.ws) c.wc) (IZ a.seq) (IZ a.len) (D c.da (L a.x.1) c.dc) (D c.sa (L a.x.2) c.sc) (.bool a.up) (IZ a.fuse));have al:Ϭ (ς H (ŝ (ŝ (ŝ (ŝ (ŝ (ŝ (ŝ (ŝ l ⟨j,0,O⟩ (D c.ba (L a.bl) c.bc)) ⟨j,1,O⟩ (D c.wa (L a.ws) c.wc)) ⟨j,2,O⟩ (IZ a.seq)) ⟨j,3,O⟩ (IZ a.len)) ⟨j,4,O⟩ (D c.da (L a.x.1) c.dc)) ⟨j,5,O⟩ (D c.sa (L a.x.2) c.sc)) ⟨j,6,O⟩ (.bool a.up)) ⟨j,7,O⟩ (IZ a.fuse)) (fun o=>ka o c a)):=⟨(R.setL (g:=j) (.inr rfl) (D c.ba (L a.bl) c.bc) (D c.wa (L a.ws) c.wc) (IZ a.seq) (IZ a.len) (D c.da (L a.x.1) c.dc) (D c.sa (L a.x.2) c.sc) (.bool a.up) (IZ a.fuse)).sub fun b _ h=>.inl h⟩;have aj:=Zx (((Η.set8 j l (D c.ba (L a.bl) c.bc) (D c.wa (L a.ws) c.wc) (IZ a.seq) (IZ a.len) (D c.da (L a.x.1) c.dc) (D c.sa (L a.x.2) c.sc) (.bool a.up) (IZ a.fuse)).to (n.trans (f.mono n.size)) (gh n.size f.size) aX));have ak:=Zx (xr.mk P.o I al.o aj.o);obtain⟨⟨aG,aH,aI,aJ,aK,aL,aM,aN⟩,aW,be⟩:=ϳ au;clear M au u R aE I c0 c1 c2 y z B E F ae ah S T U V ag af;refine Zl ?_;try simp only[Zp]
   refine Ze 11 ?_;refine Zd ?_;go_wp2_with fail
   go_meet;case rel=>exact⟨_,c,a,s,rfl,rfl,ak⟩
 case rest =>
  obtain⟨am,c,a,s,rfl,rfl,t⟩:=hcut;have av:=θ aa.o t.o.b;have P:=Zx (vX av (D c.ba (L a.bl) c.bc) (D c.wa (L a.ws) c.wc) (IZ a.seq) (IZ a.len) (D c.da (L a.x.1) c.dc) (D c.sa (L a.x.2) c.sc) (.bool a.up) (IZ a.fuse));have aQ:=Zx (t.o.off.setL ao (D c.ba (L a.bl) c.bc) (D c.wa (L a.ws) c.wc) (IZ a.seq) (IZ a.len) (D c.da (L a.x.1) c.dc) (D c.sa (L a.x.2) c.sc) (.bool a.up) (IZ a.fuse));have aS:=Zx ((aP.o.below t.o.b).setL ao (D c.ba (L a.bl) c.bc) (D c.wa (L a.ws) c.wc) (IZ a.seq) (IZ a.len) (D c.da (L a.x.1) c.dc) (D c.sa (L a.x.2) c.sc) (.bool a.up) (IZ a.fuse));have aO:=Zx (((Η.refl g w).below t.o.b).setL (D c.ba (L a.bl) c.bc) (D c.wa (L a.ws) c.wc) (IZ a.seq) (IZ a.len) (D c.da (L a.x.1) c.dc) (D c.sa (L a.x.2) c.sc) (.bool a.up) (IZ a.fuse));have az:=Zx t.o.q;obtain⟨⟨aG,aH,aI,aJ,aK,aL,aM,aN⟩,-,-⟩:=ϳ t.o.row;clear c0 c1 c2 y z B E F ae ah S T U V ag af;obtain⟨⟨c0,c1,c2,y,z,B,E,F,-,-,-,-⟩,ae,ah⟩:=jH av;clear av t;go_wp2;go_ret;exact⟨a,s,rfl,az.o,⟨c,q,by rw[aR.o];exact P.o,aQ.o,aS.o,ao⟩,aO.o⟩
