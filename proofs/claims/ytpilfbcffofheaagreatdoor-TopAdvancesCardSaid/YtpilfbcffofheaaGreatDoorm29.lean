/- Part 29 of the proof. -/
import Derived.Test.YtpilfbcffofheaaGreatDoorm24
import Derived.Test.YtpilfbcffofheaaGreatDoorm28
set_option linter.all false
set_option maxRecDepth 100000
set_option maxHeartbeats 16000000
namespace Go.Proofs.YtpilfbcffofheaaGreatDoor
open Go.RowKit Go.Proofs.Tryz Go.Sort
open Value renaming slice->D,int->ĭ,agg->ā,string->š,pointer->þ
open Option renaming none->O,some->J
open List renaming length->L
open Obj renaming cells->C
open Ending renaming returned->ŗ
open World renaming alloc->å,setCell->ŝ
def ut (L:gR) (w:β) (e:Ending) (c:β):Prop:= ∃ a:lN,e=ŗ (ā (gy a L))/\Hi w.heap.size c (fun b=>kn b a L)/\Below w.heap.size w c
def us (L:gR) (b:Int) (w:β) (e:Ending) (d:β):Prop:= ∃ a:lN,e=ŗ (.tuple #[ā (gy a L),G b])/\Hi w.heap.size d (fun c=>kn c a L)/\Below w.heap.size w d
def Ο.set8 (g) (w:β) (a b c d e f h i:ε):Ο g w (ŝ (ŝ (ŝ (ŝ (ŝ (ŝ (ŝ (ŝ w ⟨g,0,O⟩ a) ⟨g,1,O⟩ b) ⟨g,2,O⟩ c) ⟨g,3,O⟩ d) ⟨g,4,O⟩ e) ⟨g,5,O⟩ f) ⟨g,6,O⟩ h) ⟨g,7,O⟩ i):=
 ((((((((Ο.refl g w).set 0 a).set 1 b).set 2 c).set 3 d).set 4 e).set 5 f).set 6 h).set 7 i
def Lp (p:lN) (L:gR) (I:ε) (ks:List Int) (w:β) (h:kn w p L) (ab:rG L) (az:0<L.bl.length) (aC:Rd w I ks.length 1 (τ ks)) :
  Calls prog 34 #[ā (gy p L),I] w (ut {L with bl:=iB ks L.bl L.ws,ws:=[],up:=false,fuse:= -1} w):=by
 have a0:=Zh (fun c (y:BQ w c)=>DU p L c (h.B y) ab);have M:=Zh (fun d c1 P c2 c (y:BQ w c) (u:Ε c (D d L.bl.length c1) L.bl) (aA:iu c (D P L.ws.length c2) L.ws)=>If I ks d c1 P c2 L.bl L.ws c u aA ab.dk az (aC.B y));obtain⟨ag,ac,aI,ah,z⟩:=fZ (w:=w) (A:=C (gy p L) 48) (Z:=C #[D O 0 0,D O 0 0,G 0,G 0,D O 0 0,D O 0 0,.bool false,G 0] 48) RZ;obtain⟨bl,ws,sq,ln,x,up,Q⟩:=L;obtain⟨ba,bc,wa,wc,da,dc,sa,sc⟩:=p;simp only[gy]at ag z ac aI ah a0 M ⊢;go_enter func34,ntmps34;go_upto_region 1 with fail
 generalize(å (å w (C #[D ba bl.length bc,D wa ws.length wc,G sq,G ln,D da x.1.length dc,D sa x.2.length sc,.bool up,G Q] 48)) (C #[D O 0 0,D O 0 0,G 0,G 0,D O 0 0,D O 0 0,.bool false,G 0] 48))=au at *;obtain⟨⟨c0,c1,c2,o,q,r,s,t⟩,F,aN⟩:=Ϲ ag;go_wp2_with fail
 refine(a0.o _ z).M ?_;rintro e aE ⟨g,p1,rfl,K,aL,m,R⟩;obtain⟨ax,ay,aG,aH,f,i,j,k⟩:=p1;simp only[gy]at K;have aD:=θ ac R;have S:=z.t R;have⟨N,am,aj⟩:=ϲ K m (M.o ax ay aG aH aE S m.now.b m.now.wt);clear K m;obtain⟨⟨c0,c1,c2,o,q,r,s,t⟩,F,aO⟩:=Ϲ N.o;go_wp2_with fail
 refine aj.o.M ?_;rintro e n ⟨aJ,a,rfl,X,l⟩;have Y:=θ N.o l;have⟨an,ak⟩:=π (am.o.B l) X.hi;have ad:=θ aD l;have T:=S.t l;clear X;obtain⟨⟨c0,c1,c2,o,q,r,s,t⟩,F,-⟩:=Ϲ Y;go_upto_region 3 with fail
 have aB:=AI Y (D (J ⟨a,0,O⟩) (iB ks bl ws).length (iB ks bl ws).length) (D O 0 0);have B:=((Ο.refl g n).set 0 (D (J ⟨a,0,O⟩) (iB ks bl ws).length (iB ks bl ws).length)).set 1 (D O 0 0);have ao:=Zh ((an.o.and (ak.o.off (H:=fun b=>b<au.heap.size\/b=g) (fun b _ h=>by rcases h with h|h<;>omega))).oneCh (g:=g) (.inr rfl) B);generalize ŝ (ŝ n ⟨g,0,O⟩ (D (J ⟨a,0,O⟩) (iB ks bl ws).length (iB ks bl ws).length)) ⟨g,1,O⟩ (D O 0 0)=av at *;have ae:=(B.2.1 _ (ς ad) U).trans ad;have a1:=B.to T T.size U;have al:=Zh (DV g ⟨J ⟨a,0,O⟩,(iB ks bl ws).length,O,0,f,i,j,k⟩ ⟨iB ks bl ws,[],sq,ln,x,up,Q⟩ av aB);go_wp2_with fail
 refine al.o.M ?_;rintro e aF ⟨rfl,aa,E⟩;simp only[gy]at aa;have af:=(E.2.1 _ (ς ae) U).trans ae;have V:=E.to a1 a1.size U;have ap:=Zh (ao.o.oneCh (g:=g) (.inr rfl) E);obtain⟨⟨c0,c1,c2,o,q,r,s,t⟩,F,-⟩:=Ϲ aa;obtain⟨⟨r0,r1,r2,r3,r4,aM,r6,r7⟩,aK,-⟩:=Ϲ af;have ar:=Zh (oK af (D (J ⟨a,0,O⟩) (iB ks bl ws).length (iB ks bl ws).length) (D O 0 0) (G sq) (G ln) (D f x.1.length i) (D j x.2.length k) (.bool false) (G (-1)));have W:=Ο.set8 (w.heap.size+1) aF (D (J ⟨a,0,O⟩) (iB ks bl ws).length (iB ks bl ws).length) (D O 0 0) (G sq) (G ln) (D f x.1.length i) (D j x.2.length k) (.bool false) (G (-1));have⟨ai,aq⟩:=π (W.to V V.size (gu _ 1)) (ap.o.oneCh (g:=w.heap.size+1) (.inl ah) W);go_wp2;refine Ω (v:=ā #[D (J ⟨a,0,O⟩) (iB ks bl ws).length (iB ks bl ws).length,D O 0 0,G sq,G ln,D f x.1.length i,D j x.2.length k,.bool false,G (-1)]) (jf (p:=4) (ty:=48) rfl _ _ (w.heap.size+1) 48 _ (0,0) _ rfl ar.o qq rfl ϋ) rfl ?_;refine⟨⟨J ⟨a,0,O⟩,(iB ks bl ws).length,O,0,f,i,j,k⟩,rfl,?_,ai.o⟩;have u:=(aq.o.sub (H':=(· <w.heap.size)) fun b _ h=>.inl (by omega)).hi;exact u.imp fun n ⟨d,aw⟩=>⟨aw,qL n O 0,d.d,d.s⟩
def Lu (p:lN) (L:gR) (ď:Nat) (m:List Ev) (x:Ix) (w:β) (ar:ϭ w) (h:kn w p L) (an:jg L.bl L.ws) (T:L.up=false) (X:gr (gB L.bl L.ws) ď (fQ m)) (aj:∀ e∈m,e.ok) (au:hO ([],[]) m=J x) (av:x.1.length<=40) :
  Calls prog 35 #[ā (gy p L)] w (us ⟨gB L.bl L.ws,[],ď,(fQ m).length,x,true,-1⟩ 0 w):=by
 have ag:0<L.bl.length:=by have:=X.n3;rw[xV]at this;omega
 have E:=Zh (fun l (n:BQ w l)=>Ck p.ba p.bc p.wa p.wc L.bl L.ws l (h.b.B n) (h.wt.B n) an ag);have r:=Zh (fun c l (n:BQ w l) (t:Ε l (D (J ⟨c,0,O⟩) (gB L.bl L.ws).length (gB L.bl L.ws).length) (gB L.bl L.ws))=>Aa ď m x (J ⟨c,0,O⟩) (gB L.bl L.ws).length O 0 (gB L.bl L.ws) l (ar.B n) t X aj au av);obtain⟨S,Q,aw,V,y⟩:=fZ (w:=w) (A:=C (gy p L) 48) (Z:=C #[D O 0 0,D O 0 0,G 0,G 0,D O 0 0,D O 0 0,.bool false,G 0] 48) RZ;obtain⟨bl,ws,sq,ln,ix,up,af⟩:=L;obtain⟨ba,bc,wa,wc,da,dc,sa,sc⟩:=p;simp only at T;subst T;simp only[gy]at S y Q aw V E r ⊢;obtain⟨d,ah⟩:∃ d:Nat,(fQ m).length=d:=⟨_,rfl⟩;rw[ah]at r ⊢;go_enter func35,ntmps35;go_upto_region 1 with fail
 generalize(å (å w (C #[D ba bl.length bc,D wa ws.length wc,G sq,G ln,D da ix.1.length dc,D sa ix.2.length sc,.bool false,G af] 48)) (C #[D O 0 0,D O 0 0,G 0,G 0,D O 0 0,D O 0 0,.bool false,G 0] 48))=s at *;obtain⟨⟨c0,c1,c2,ax,ay,az,aA,aB⟩,aD,aM⟩:=Ϲ S;go_wp2_with fail
 refine(E.o _ y).M ?_;rintro e W ⟨aC,c,rfl,ak,I⟩;generalize gB bl ws=a at *;have K:=I.al (C #[D (J ⟨c,0,O⟩) a.length a.length,D O 0 0] 41);have B:=φ W (C #[D (J ⟨c,0,O⟩) a.length a.length,D O 0 0] 41);have z:=ak.hi.A (C #[D (J ⟨c,0,O⟩) a.length a.length,D O 0 0] 41);go_upto_region 4 with fail
 have aF:=I.size;generalize å W (C #[D (J ⟨c,0,O⟩) a.length a.length,D O 0 0] 41)=F at *;have ap:=θ Q K;have M:=y.t K;obtain⟨⟨ae,d1⟩,-,-⟩:=ν B;have⟨a1,aa⟩:=π z (r.o c F M z.now);have aG:=ς B;clear z;go_wp2_with fail
 refine aa.o.M ?_;rintro e q ⟨f,j,i,k,rfl,al,ai⟩;have o:=ai.al (C #[G (ď:Int),G (d:Int),D f x.1.length j,D i x.2.length k] 46);have aq:=φ q (C #[G (ď:Int),G (d:Int),D f x.1.length j,D i x.2.length k] 46);have am:=al.A (C #[G (ď:Int),G (d:Int),D f x.1.length j,D i x.2.length k] 46);go_upto_region 5 with fail
 generalize å q (C #[G (ď:Int),G (d:Int),D f x.1.length j,D i x.2.length k] 46)=ad at *;have R:=θ ap o;have ao:=θ B o;have N:=M.t o;have Y:=Zh ((am.M (U:s.heap.size<=F.heap.size)).and (a1.o.B o));obtain⟨⟨ae,d1⟩,-,-⟩:=ν ao;obtain⟨⟨aI,aJ,aK,aL⟩,-,-⟩:=ϩ aq;obtain⟨⟨r0,r1,r2,r3,r4,aH,r6,r7⟩,aE,-⟩:=Ϲ R;have ac:=Zh (oK R (D (J ⟨c,0,O⟩) a.length a.length) (D O 0 0) (G (ď:Int)) (G (d:Int)) (D f x.1.length j) (D i x.2.length k) (.bool true) (G (-1)));have P:=Ο.set8 (w.heap.size+1) ad (D (J ⟨c,0,O⟩) a.length a.length) (D O 0 0) (G (ď:Int)) (G (d:Int)) (D f x.1.length j) (D i x.2.length k) (.bool true) (G (-1));have a0:=Zh (P.to N N.size (gu _ 1));have ab:=Zh ((Y.o.off (H:=(· <s.heap.size)) (fun b _ h=>h)).oneCh (g:=w.heap.size+1) V P);go_wp2;refine Ω (v:=.tuple #[ā #[D (J ⟨c,0,O⟩) a.length a.length,D O 0 0,G (ď:Int),G (d:Int),D f x.1.length j,D i x.2.length k,.bool true,G (-1)],G 0]) (gz (p:=2) (u:=3) (ty:=48) rfl _ _ (w.heap.size+1) 48 _ (0,0) _ rfl ac.o qq rfl ϋ) rfl ?_;refine⟨⟨J ⟨c,0,O⟩,a.length,O,0,f,j,i,k⟩,rfl,?_,a0.o⟩;have t:=(ab.o.sub (H':=(· <w.heap.size)) fun b _ h=>by show b<s.heap.size;omega).hi;exact t.imp fun q ⟨⟨b1,b2⟩,b3⟩=>⟨b3,qL q O 0,b1,b2⟩
def Lv (p L) (w:β) (f:L.up=true) :
  Calls prog 35 #[ā (gy p L)] w fun e w'=>e=ŗ (.tuple #[ā (gy p L),G 0])/\BQ w w':=by
 obtain⟨d,b,l,k,a⟩:=fZ (w:=w) (A:=C (gy p L) 48) (Z:=C #[D O 0 0,D O 0 0,G 0,G 0,D O 0 0,D O 0 0,.bool false,G 0] 48) RZ;obtain⟨bl,ws,sq,ln,ix,up,c⟩:=L;obtain⟨ba,bc,wa,wc,da,dc,sa,sc⟩:=p;simp only at f;subst f;simp only[gy]at d a b l k ⊢;go_enter func35,ntmps35;go_upto_region 1 with fail
 generalize(å (å w _) _)=i at *;obtain⟨⟨c0,c1,c2,m,n,o,q,r⟩,s,y⟩:=Ϲ d;obtain⟨⟨r0,r1,r2,r3,r4,x,r6,r7⟩,t,-⟩:=Ϲ b;have h:=Zh (oK b (D ba bl.length bc) (D wa ws.length wc) (G sq) (G ln) (D da ix.1.length dc) (D sa ix.2.length sc) (.bool true) (G c));have j:=Ο.set8 (w.heap.size+1) i (D ba bl.length bc) (D wa ws.length wc) (G sq) (G ln) (D da ix.1.length dc) (D sa ix.2.length sc) (.bool true) (G c);have g:=Zh (j.to a a.size (gu _ 1));go_wp2;refine Ω (v:=.tuple #[ā _,G 0]) (gz  (u:=3)  rfl _ _ _ _ _ _ _ rfl h.o qq rfl ϋ) rfl ?_;exact⟨rfl,g.o⟩
def Rp:jN=iN 0 0:=ϐ
def gr.start {n} (f:3<=n) (h:n<=4096):gr (List.replicate n jN) 0 []:=by
 have hg:∀ c,c<n->(List.replicate n jN).getD c []=jN:=fun c hi=>by simp[hi]
 have j:Ϯ (List.replicate n jN)=(n - 2)*64:=by simp[Ϯ]
 have d:iM jN (Ϯ (List.replicate n jN))=J (0,0):=by
  have e:=ES 0 0 (Ϯ _) U (Ζ _) (by rw[j];omega);rwa [<-Rp]at e
 refine⟨by simpa using f,by simpa using h,fun b g=>?_,?_,fun k a=>?_,ύ,fun l i=>by simp at i,U⟩
 .rw[List.eq_of_mem_replicate g];rfl
 .rw[hg _ U];exact d
 .rw[hg _ U,d]at a
  injection a with a;exact .inr a.symm
def Lq (n:Nat) (w:β) (ah:ϭ w) (X:3<=n) (B:n<=4096) :
  Calls prog 25 #[G n] w (us ⟨List.replicate n jN,[],0,0,([],[]),true,-1⟩ 0 w):=by
 have Q:=Zh (fun j=>Ig n j U B);have s:=Zh (fun a j (Y:BQ w j) (q:Ε j (D (J ⟨a,0,O⟩) (L (List.replicate n jN)) (L (List.replicate n jN))) (List.replicate n jN))=>show Calls prog 54 #[ā #[D (J ⟨a,0,O⟩) (L (List.replicate n jN)) (L (List.replicate n jN)),D O 0 0]] j (fun e I=>∃ c f d i,e=ŗ (.tuple #[ā #[G 0,G 0,D c 0 f,D d 0 i],G 0])/\BQ j I)from(Aa 0 [] ([],[]) (J ⟨a,0,O⟩) (L (List.replicate n jN)) O 0 (List.replicate n jN) j (ah.B Y) q (gr.start X B) ύ rfl ύ).M (by rintro e I ⟨c,f,d,i,h,-,Z⟩;exact⟨c,f,d,i,h,Z⟩));have m:L (List.replicate n jN)=n:=ύ;unfold us gy;simp only;generalize List.replicate n jN=bl at *;have ac:=(ρ w.heap.size w).A NZ (C #[D O 0 0,D O 0 0,G 0,G 0,D O 0 0,D O 0 0,.bool false,G 0] 48);have F:=φ w (C #[D O 0 0,D O 0 0,G 0,G 0,D O 0 0,D O 0 0,.bool false,G 0] 48);rw[m]at s;go_enter func25,ntmps25;go_upto_region 1 with fail
 generalize(å w (C #[D O 0 0,D O 0 0,G 0,G 0,D O 0 0,D O 0 0,.bool false,G 0] 48))=t at *;have ai:=ς F;go_wp2_with fail
 refine(Q.o _).M ?_;rintro e K ⟨aj,a,rfl,ad,aa⟩;have x:=aa.al (C #[D (J ⟨a,0,O⟩) n n,D O 0 0] 41);have E:=φ K (C #[D (J ⟨a,0,O⟩) n n,D O 0 0] 41);have o:=ad.hi.A (C #[D (J ⟨a,0,O⟩) n n,D O 0 0] 41);rw[m]at o;go_upto_region 4 with fail
 generalize å K (C #[D (J ⟨a,0,O⟩) n n,D O 0 0] 41)=a1 at *;have af:=θ F x;have y:=ac.t x;obtain⟨⟨W,d1⟩,-,-⟩:=ν E;have⟨N,R⟩:=π o (s.o a a1 y o.now);clear o;go_wp2_with fail
 refine R.o.M ?_;rintro e k ⟨c,f,d,i,rfl,ab⟩;have l:=ab.al (C #[G 0,G 0,D c 0 f,D d 0 i] 46);have ag:=φ k (C #[G 0,G 0,D c 0 f,D d 0 i] 46);go_upto_region 5 with fail
 generalize å k (C #[G 0,G 0,D c 0 f,D d 0 i] 46)=V at *;have M:=θ af l;have ae:=θ E l;have z:=y.t l;have P:=Zh (N.o.B l);obtain⟨⟨W,d1⟩,-,-⟩:=ν ae;obtain⟨⟨am,an,ao,ap⟩,-,-⟩:=ϩ ag;obtain⟨⟨r0,r1,r2,r3,r4,al,r6,r7⟩,ak,-⟩:=Ϲ M;have T:=Zh (oK M (D (J ⟨a,0,O⟩) n n) (D O 0 0) (G 0) (G 0) (D c 0 f) (D d 0 i) (.bool true) (G (-1)));have A:=Ο.set8 w.heap.size V (D (J ⟨a,0,O⟩) n n) (D O 0 0) (G 0) (G 0) (D c 0 f) (D d 0 i) (.bool true) (G (-1));have a0:=Zh (A.to z z.size NZ);have S:=Zh ((P.o.off (H:=(· <t.heap.size)) (fun b _ h=>h)).oneCh (g:=w.heap.size) ai A);have r:=Zh m;clear m;go_wp2;refine Ω (v:=.tuple #[ā #[D (J ⟨a,0,O⟩) n n,D O 0 0,G 0,G 0,D c 0 f,D d 0 i,.bool true,G (-1)],G 0]) (gz (p:=2) (u:=3) (ty:=48) rfl _ _ w.heap.size 48 _ (0,0) _ rfl T.o qq rfl ϋ) rfl ?_;refine⟨⟨J ⟨a,0,O⟩,n,O,0,c,f,d,i⟩,by rw[r.o],?_,a0.o⟩;have q:=(S.o.sub (H':=(· <w.heap.size)) fun b _ h=>by show b<t.heap.size;omega).hi;exact q.imp fun k b3=>⟨by simp only;rw[r.o];exact b3,qL k O 0,wV k c f,xO k [] d i⟩
structure mn (L:gR) (es:List Ev):Prop where
 up:L.up=true
 ws:L.ws=[]
 inv:gr L.bl es.length (fQ es)
 sq:L.seq=(es.length:Int)
 ln:L.len=((fQ es).length:Int)
 ok:∀ e∈es,e.ok
 x:hO ([],[]) es=J L.x
 f1 : -9223372036854775808<=L.fuse
 f2:L.fuse<=9223372036854775807
def mn.dok {L es} (h:mn L es):rG L:=⟨⟨h.inv.nb,by rw[h.ws];simp,h.inv.l64,by rw[h.ws];simp⟩,vt kk.start h.x⟩
structure Hf (L:gR) (es:List Ev) (ev:Ev) (y:Ix):Prop where
 up:L.up=false
 ok:rG L
 len:3<=L.bl.length
 inv:∀ ks,gr (iB ks L.bl L.ws) es.length (fQ es)\/gr (iB ks L.bl L.ws) (es.length+1) (fQ (es++[ev]))
 evok:ev.ok
 y:gA L.x ev=J y
 x:hO ([],[]) es=J L.x
inductive pK (L:gR) (es:List Ev) (r:Option Ev):gR->Int->Prop where
 |no (c:Nat):0<c->(r=O\/∃ ev,r=J ev/\(gA L.x ev=O\/Ϯ L.bl<(fQ es).length+ev.bytes.length))->pK L es r L (c:Int)
 |yes (ev:Ev) (L':gR):r=J ev->mn L' (es++[ev])->L'.bl.length=L.bl.length->(L.fuse<0->L'.fuse<0)->pK L es r L' 0
 |lost (ev:Ev) (y:Ix) (L':gR):r=J ev->0<=L.fuse->Hf L' es ev y->pK L es r L' 7
def Hq (H:Nat->Prop) (L:gR) (d:List Ev) (r:Option Ev) (w:β) (e:Ending) (g:β):Prop:= ∃ (c:lN) (a:gR) (b:Int),e=ŗ (.tuple #[ā (gy c a),G b])/\pK L d r a b/\Α H g (fun f=>kn f c a)/\Below w.heap.size w g
def yH.cases {bl seq f x r} {w g:β} {e} (h:yH bl seq f x r w e g):(yF w e g/\(r=O\/∃ a,r=J a/\(gA x a=O\/Ϯ bl<f+L a.bytes)))\/∃ a y,r=J a/\gA x a=J y/\f+L a.bytes<=Ϯ bl/\yG bl seq f a.bytes y w e g:=by
 cases r with
 |none=>exact .inl ⟨h,.inl rfl⟩
 |some a =>
  rcases h with ⟨y,b,c,d⟩|⟨b,c⟩
  .exact .inr ⟨a,y,rfl,b,c,d⟩
  .exact .inl ⟨c,.inr ⟨a,rfl,b⟩⟩
def Ls (H:Nat->Prop) (p:lN) (bl:ϸ) (x:Ix) (i:Int) (m:List Ev) (r:Option Ev) (kd ei em:Int) (P:Option Addr) (R Q:Nat) (w:β) (bN:ϭ w) (bE:∀ b,H b->b<w.heap.size) (ax:Α H w (fun aP=>kn aP p ⟨bl,[],L m,L (fQ m),x,true,i⟩)) (an:mn ⟨bl,[],L m,L (fQ m),x,true,i⟩ m) (cO:L m<=40) (ak:ot w kd ei em P R Q r) :
  Calls prog 48 #[ā (gy p ⟨bl,[],L m,L (fQ m),x,true,i⟩),ā (jc kd ei em P R Q)] w (Hq H ⟨bl,[],L m,L (fQ m),x,true,i⟩ m r w):=by
 have be:=an.inv;simp only at be;have cm:L x.1<=40:=by have:=sf an.x;simp at this;omega
 have bi:=an.dok;have aR:=Zh (fun aF (ab:BQ w aF)=>Ld (L m) m x r p.ba p.bc p.wa p.wc bl p.da p.dc p.sa p.sc kd ei em P R Q aF (bN.B ab) (ax.now.b.B ab) be an.ok an.x cm (ax.now.d.B ab) (ax.now.s.B ab) U (by
  cases r with
  |none=>exact fun b3 ce=>ak b3 (ab.t ce)
  |some a=>exact⟨ak.1.B ab,ak.2⟩))
 have a2:=Zh (fun aF (ab:BQ w aF)=>DU p _ aF (ax.now.B ab) bi);have⟨k,aS,bB,bD,bA⟩:=kW an ak bE ax bi;obtain⟨f,aW⟩:∃ f:Nat,L (fQ m)=f:=⟨_,rfl⟩;have F:=Zh aW;obtain⟨N,aV⟩:∃ N:Nat,L m=N:=⟨_,rfl⟩;have E:=Zh aV;rw[aW,aV]at aR a2 bD k bA;simp only[aW,aV];obtain⟨ba,bc,wa,wc,da,dc,sa,sc⟩:=p;simp only[gy,gO]at aR a2 ⊢;obtain⟨ay,a1,aM,cy,cx,bx,aX⟩:=oO (w:=w) (A:=C #[D ba (L bl) bc,D wa 0 wc,G (N:Int),G (f:Int),D da (L x.1) dc,D sa (L x.2) sc,.bool true,G i] 48) (Z:=C (jc kd ei em P R Q) 33) (Y:=C #[D O 0 0,D O 0 0,G 0,G 0,D O 0 0,D O 0 0,.bool false,G 0] 48) RZ;clear bN ax an ak be aW aV bi bE;unfold jc at a1 cy cx bx aX ay aM aR ⊢;go_enter func48,ntmps48;go_upto_region 1 with fail
 generalize(å (å (å w (C #[D ba (L bl) bc,D wa 0 wc,G (N:Int),G (f:Int),D da (L x.1) dc,D sa (L x.2) sc,.bool true,G i] 48)) (C #[G kd,G ei,G em,D P R Q] 33)) (C #[D O 0 0,D O 0 0,G 0,G 0,D O 0 0,D O 0 0,.bool false,G 0] 48))=bb at *;obtain⟨⟨c0,c1,c2,c,V,W,X,aa⟩,I,bV⟩:=Ϲ ay;obtain⟨⟨bR,bS,bT,bU⟩,-,-⟩:=ϩ a1;go_wp2_with fail
 refine(aR.o _ aX).M ?_;intro e bv bn;rcases bn.cases with ⟨⟨aU,cg,cM,rfl,aJ⟩,bK⟩|⟨a,y,bM,bP,aK,b7,b8,q,t,s,B,rfl,bG,aJ⟩
 .clear bn
  have b0:=Zh bK;have z:=aJ.al (C #[G 0,G 0,D O 0 0,D O 0 0] 46);have cN:¬(aU:Int)=0:=U;clear bK;go_upto_region 4 with fail
  generalize å bv (C #[G 0,G 0,D O 0 0,D O 0 0] 46)=bd at *;have aL:=θ ay z;have az:=θ aM z;have ag:=aX.t z;clear c0 c1 c2 c V W X aa I bR bS bT bU ay a1 aM aJ z;obtain⟨⟨c0,c1,c2,c,V,W,X,aa⟩,I,-⟩:=Ϲ aL;obtain⟨⟨r0,r1,r2,r3,r4,bQ,r6,r7⟩,bF,-⟩:=Ϲ az;have aE:=Zx (oK az (D ba (L bl) bc) (D wa 0 wc) (G (N:Int)) (G (f:Int)) (D da (L x.1) dc) (D sa (L x.2) sc) (.bool true) (G i));have ao:=Zh ((Ο.set8 (w.heap.size+1+1) bd (D ba (L bl) bc) (D wa 0 wc) (G (N:Int)) (G (f:Int)) (D da (L x.1) dc) (D sa (L x.2) sc) (.bool true) (G i)).to ag ag.size U);clear aL az ag;go_wp2;refine Ω (v:=.tuple #[ā #[D ba (L bl) bc,D wa 0 wc,G (N:Int),G (f:Int),D da (L x.1) dc,D sa (L x.2) sc,.bool true,G i],G (aU:Int)]) (gz (p:=4) (u:=5) (ty:=48) rfl _ _ (w.heap.size+1+1) 48 _ (0,0) _ rfl aE.o qq rfl ϋ) rfl ?_;refine⟨⟨ba,bc,wa,wc,da,dc,sa,sc⟩,⟨bl,[],(N:Int),(f:Int),x,true,i⟩,(aU:Int),rfl,.no aU cg ?_,bD.o.B ao.o,ao.o⟩;rcases b0.o with h|⟨a,j,h2⟩
  .exact .inl h
  .exact .inr ⟨a,j,by rw[F.o];exact h2⟩
 clear bn;have z:=aJ.al (C #[G ((N+1:Nat):Int),G ((f+L a.bytes:Nat):Int),D q (L y.1) t,D s (L y.2) B] 46);have bp:=φ bv (C #[G ((N+1:Nat):Int),G ((f+L a.bytes:Nat):Int),D q (L y.1) t,D s (L y.2) B] 46);have bH:=bG.A (C #[G ((N+1:Nat):Int),G ((f+L a.bytes:Nat):Int),D q (L y.1) t,D s (L y.2) B] 46);have o:=Zh (Ν bM (Ν bP aK));generalize bJ:((N+1:Nat):Int)=ad at *;generalize bO:((f+L a.bytes:Nat):Int)=ac at *;have⟨b2,bY⟩:=π bJ bO;clear bJ bO bM bP aK;go_upto_region 4 with fail
 generalize å bv (C #[G ad,G ac,D q (L y.1) t,D s (L y.2) B] 46)=bd at *;have aL:=θ ay z;have az:=θ aM z;have ag:=aX.t z;have cS:=z.size;have cV:=ς bp;have bX:=Zx bH;clear c0 c1 c2 c V W X aa I bR bS bT bU ay a1 aM aJ z bG bH bV;obtain⟨⟨c0,c1,c2,c,V,W,X,aa⟩,I,-⟩:=Ϲ aL;go_wp2_with fail
 refine(a2.o _ ag).M ?_;rintro e aP ⟨g,p2,rfl,aZ,cQ,bs,af⟩;obtain⟨b5,b6,cv,cw,b9,ca,cs,ct⟩:=p2;have bq:=θ bp af;have bo:=θ az af;have bf:=ag.t af;have bV:=ς aZ;have cT:=af.size;have⟨bW,b1⟩:=ϟ aZ bs;have a5:=Zx ((bX.o.off (H:=(· <bb.heap.size)) (fun b _ h=>h)).step (H':=fun b=>b<bb.heap.size\/b=g) af.size (fun b h _=>af.block b h) (fun b j h2=>by rcases h2 with h2|h2;exact h2;omega));have cl:=(zk bl N f a.bytes);have cj:=a.bytes_len ((show r=J a->ot w kd ei em P R Q r->a.ok from fun j h2=>by subst j;exact h2.2) o.o.1 aS.o);have bC:=Zx (Lr (fun b=>b<bd.heap.size\/b=g) g ⟨b5,b6,cv,cw,b9,ca,cs,ct⟩ b7 b8 (jx bl N f a.bytes) bl [] (N:Int) (f:Int) i x true aP aZ (fun b h=>by rcases h with h|h<;>omega) (.inr rfl) bs bA.o.dk (by have:=k.o.inv.n3;simp only at this;omega) a5.o.now.1 (by have:=CD k.o.inv (b:=a.bytes) (by rw[F.o];exact o.o.2.2);rw[F.o,E.o]at this;exact this) (by simp only[gO];omega) k.o.f1 k.o.f2);clear c0 c1 c2 c V W X aa I aL bp az ag aZ bs af cl cj;go_wp2_with fail
 have a7:=Zx (show(L (jx bl N f a.bytes))<=900 by have j:=zk bl N f a.bytes;have h2:=a.bytes_len ((show r=J a->ot w kd ei em P R Q r->a.ok from fun j h2=>by subst j;exact h2.2) o.o.1 aS.o);omega);refine bC.o.M ?_;clear bC;obtain⟨n,a0⟩:∃ n,L (jx bl N f a.bytes)=n:=⟨_,rfl⟩;obtain⟨ap,bh⟩:∃ ap,min (lB i n) n=ap:=⟨_,rfl⟩;obtain⟨d,bg⟩:∃ d,iv (bl,[]) ((jx bl N f a.bytes).take (lB i n))=d:=⟨_,rfl⟩;rw[a0,bg,bh];rw[a0]at a7;have⟨a8,bz,a3⟩:=iQ a0 bh bg;clear a0 bh bg;rintro e bw ⟨cn,rfl,al,bL,au⟩;obtain⟨K,M,S,T,aG,aH,aN,aO⟩:=cn;simp only[gy,vp]at al;obtain⟨aq,bk⟩:∃ c4,(if i<0 then i else i - (ap:Int))=c4:=⟨_,rfl⟩;rw[bk]at al;have a4:=Zx bk;have br:=(au.2.1 _ (ς bq) U).trans bq;have aA:=(au.2.1 _ (ς bo) U).trans bo;have ar:=au.to bf bf.size U;have cU:=au.1;have aT:=Zx (bL.sub (H':=fun b=>b<bb.heap.size\/b=g) (fun b _ h=>by rcases h with h|h;exact .inl U;exact .inr h));have a6:=Zx (a5.o.oneCh (g:=g) (.inr rfl) au);clear bq bo bf au bL b1 a5 bW bk;by_cases aI:ap=n
 .have cL:((ap:Int)==(n:Int))=true:=by rw[aI];simp
  obtain⟨⟨co,cp,cq,cr⟩,-,-⟩:=ϩ br;obtain⟨⟨c0,c1,c2,c,V,W,X,aa⟩,I,-⟩:=Ϲ al;have av:=OT al (G ad) (G ac) (D q (L y.1) t) (D s (L y.2) B);have ai:=((((Ο.refl g bw).set 2 (G ad)).set 3 (G ac)).set 4 (D q (L y.1) t)).set 5 (D s (L y.2) B);have⟨aC,aB,aQ⟩:=iQ av ai aI;clear av ai al aI;go_upto_region 11 with fail
  generalize(ŝ (ŝ (ŝ (ŝ bw ⟨g,2,O⟩ (G ad)) ⟨g,3,O⟩ (G ac)) ⟨g,4,O⟩ (D q (L y.1) t)) ⟨g,5,O⟩ (D s (L y.2) B))=b4 at *;have am:=(aB.o.2.1 _ (ς aA) U).trans aA;have ah:=aB.o.to ar ar.size U;have aD:=Zx ((aT.o.oneCh (g:=g) (.inr rfl) aB.o).and (a6.o.oneCh (g:=g) (.inr rfl) aB.o));obtain⟨⟨r0,r1,r2,r3,r4,bQ,r6,r7⟩,bF,-⟩:=Ϲ am;obtain⟨⟨cz,cA,cB,cC,cD,cE,cF,cG⟩,cP,-⟩:=Ϲ aC.o;have aE:=Zx (oK am (D K (L d.1) M) (D S (L d.2) T) (G ad) (G ac) (D q (L y.1) t) (D s (L y.2) B) (.bool true) (G aq));have aj:=Ο.set8 (w.heap.size+1+1) b4 (D K (L d.1) M) (D S (L d.2) T) (G ad) (G ac) (D q (L y.1) t) (D s (L y.2) B) (.bool true) (G aq);have⟨ao,a9⟩:=ϟ (aj.to ah ah.size U) (aD.o.oneCh (g:=w.heap.size+1+1) (.inl bx) aj);clear aj ah aD am aB aC c0 c1 c2 c V W X aa I co cp cq cr aA br ar aT a6;go_wp2;refine Ω (v:=.tuple #[ā #[D K (L d.1) M,D S (L d.2) T,G ad,G ac,D q (L y.1) t,D s (L y.2) B,.bool true,G aq],G 0]) (gz (p:=4) (u:=5) (ty:=48) rfl _ _ (w.heap.size+1+1) 48 _ (0,0) _ rfl aE.o qq rfl ϋ) rfl ?_;have bt:=a9.o.sub (H':=H) fun b _ h=>.inl (ι (bB.o b h));have aw:=Nk k.o.inv (b:=a.bytes) (by rw[F.o];exact o.o.2.2) (ι E.o);have ci:d=iv (bl,[]) (jx bl N f a.bytes):=by
   have j:=bz.o;rw[<-a3.o,gF (by rw[a8.o];rw[aQ.o]at j;omega)]
  rw[F.o,E.o]at aw;simp only at aw;rw[<-ci]at aw;have bj:a.ok:=(show r=J a->ot w kd ei em P R Q r->a.ok from fun j h2=>by subst j;exact h2.2) o.o.1 aS.o;refine⟨⟨K,M,S,T,q,t,s,B⟩,⟨d.1,d.2,ad,ac,y,true,aq⟩,0,rfl,.yes a _ o.o.1 ⟨rfl,aw.1,?_,?_,?_,?_,?_,?_,?_⟩ aw.2.1 (show i<0->aq<0 from fun I=>by have cd:=a4.o;rw[μ I]at cd;omega),bt.imp fun aP ⟨ae,cH,cb,cc⟩=>⟨ae.b,ae.wt,cb,cc⟩,ao.o⟩
  .rw[wX,σ,qr,E.o];exact aw.2.2
  .rw[σ,qr,E.o];exact b2.o.symm
  .rw[wX,σ,F.o];exact bY.o.symm
  .intro e ak
   rcases nj.1 ak with h|h
   .exact k.o.ok e h
   .rw[kF.1 h];exact bj
  .rw[vu,k.o.x];exact o.o.2.1
  .have j:=a4.o
   have h2:=k.o.f1;have cI:=a7.o;have cJ:=aQ.o;simp only at h2 ⊢;split at j<;>omega
  .have j:=a4.o
   have h2:=k.o.f2;simp only at h2 ⊢;split at j<;>omega
 .have cK:((ap:Int)==(n:Int))=false:=fU.2 U
  have⟨bZ,aQ⟩:=ϟ (DV g ⟨K,M,S,T,aG,aH,aN,aO⟩ ⟨d.1,d.2,(N:Int),(f:Int),x,true,aq⟩ bw al) aI;clear al aI br;go_wp2_with fail
  refine bZ.o.M ?_;rintro e cu ⟨rfl,av,ai⟩;simp only[gy]at av;have am:=(ai.2.1 _ (ς aA) U).trans aA;have ah:=ai.to ar ar.size U;have⟨aD,aC⟩:=ϟ (aT.o.oneCh (g:=g) (.inr rfl) ai) av;clear ai av;obtain⟨⟨c0,c1,c2,c,V,W,X,aa⟩,I,-⟩:=Ϲ aC.o;obtain⟨⟨r0,r1,r2,r3,r4,bQ,r6,r7⟩,bF,-⟩:=Ϲ am;have aE:=Zx (oK am (D K (L d.1) M) (D S (L d.2) T) (G (N:Int)) (G (f:Int)) (D aG (L x.1) aH) (D aN (L x.2) aO) (.bool false) (G (-1)));have aj:=Ο.set8 (w.heap.size+1+1) cu (D K (L d.1) M) (D S (L d.2) T) (G (N:Int)) (G (f:Int)) (D aG (L x.1) aH) (D aN (L x.2) aO) (.bool false) (G (-1));have⟨ao,a9⟩:=ϟ (aj.to ah ah.size U) (aD.o.oneCh (g:=w.heap.size+1+1) (.inl bx) aj);clear aj ah aD am aC aA ar aT a6;go_wp2;refine Ω (v:=.tuple #[ā #[D K (L d.1) M,D S (L d.2) T,G (N:Int),G (f:Int),D aG (L x.1) aH,D aN (L x.2) aO,.bool false,G (-1)],G 7]) (gz (p:=4) (u:=5) (ty:=48) rfl _ _ (w.heap.size+1+1) 48 _ (0,0) _ rfl aE.o qq rfl ϋ) rfl ?_;have bt:=a9.o.sub (H':=H) fun b _ h=>.inl (ι (bB.o b h));have aK:L (fQ m)+L a.bytes<=Ϯ bl:=by rw[F.o];exact o.o.2.2
  have hF:lB i n<n:=gw bz.o aQ.o;have ck:0<=i:=by
   by_cases h:i<0
   .unfold lB at hF;rw[μ h]at hF;omega
   .omega
  have bm:=fun bu=>Nl k.o.inv aK (ι E.o) (lB i n) (by rw[F.o,E.o,a8.o];exact hF) bu;have bj:a.ok:=(show r=J a->ot w kd ei em P R Q r->a.ok from fun j h2=>by subst j;exact h2.2) o.o.1 aS.o;have ch:=CD k.o.inv (b:=a.bytes) aK;have aY:=CZ (l:=(jx bl N f a.bytes).take (lB i n)) k.o.dok.dk (fun c3 cf=>by
   have j:=mz cf
   rw[<-E.o,<-F.o]at j
   exact ch c3 j) (by simp only[gO,gp];have:=a7.o;rw[a8.o];omega)
  have cR:=(k.o.dok).dk.nw;simp only[F.o,E.o]at bm;simp only at aY;rw[a3.o]at aY;simp only[a3.o]at bm;have bI:=k.o.inv.n3;simp only at bI;refine⟨⟨K,M,S,T,aG,aH,aN,aO⟩,⟨d.1,d.2,(N:Int),(f:Int),x,false,-1⟩,7,rfl,.lost a y _ o.o.1 ck ⟨rfl,⟨aY.1,k.o.dok.x⟩,?_,?_,bj,o.o.2.1,k.o.x⟩,bt.imp fun aP ae=>⟨ae.b,ae.wt,ae.d,ae.s⟩,ao.o⟩
  .simp only;rw[aY.2.1];exact bI
  .intro bu
   rw[wX,E.o];exact bm bu
def jJ {w:β} {g} {a b c d e f i j k l m n:ε} {T} (h:w.heap[g]?=J (C #[a,b,c,d,e,f,i,j,k,l,m,n] T (0,0))):(w.cell? ⟨g,0,O⟩=J a/\w.cell? ⟨g,1,O⟩=J b/\w.cell? ⟨g,2,O⟩=J c/\w.cell? ⟨g,3,O⟩=J d/\w.cell? ⟨g,4,O⟩=J e/\w.cell? ⟨g,5,O⟩=J f/\w.cell? ⟨g,6,O⟩=J i/\w.cell? ⟨g,7,O⟩=J j/\w.cell? ⟨g,8,O⟩=J k/\w.cell? ⟨g,9,O⟩=J l/\w.cell? ⟨g,10,O⟩=J m/\w.cell? ⟨g,11,O⟩=J n)/\(∀ o,w.frozen? ⟨g,o,O⟩=false)/\g<w.heap.size:=
 ⟨⟨ξ _ _ 0 _ _ _ h,ξ _ _ 1 _ _ _ h,ξ _ _ 2 _ _ _ h,ξ _ _ 3 _ _ _ h,ξ _ _ 4 _ _ _ h,ξ _ _ 5 _ _ _ h,ξ _ _ 6 _ _ _ h,ξ _ _ 7 _ _ _ h,ξ _ _ 8 _ _ _ h,ξ _ _ 9 _ _ _ h,ξ _ _ 10 _ _ _ h,ξ _ _ 11 _ _ _ h⟩,fun o=>ϧ _ _ o _ _ h,ς h⟩
def xJ {w:β} {g T} {a b c d e f i j k l m n:ε} (H:w.heap[g]?=J (C #[a,b,c,d,e,f,i,j,k,l,m,n] T (0,0))) (h o p q r s t u:ε):(ŝ (ŝ (ŝ (ŝ (ŝ (ŝ (ŝ (ŝ w ⟨g,0,O⟩ h) ⟨g,1,O⟩ o) ⟨g,2,O⟩ p) ⟨g,3,O⟩ q) ⟨g,4,O⟩ r) ⟨g,5,O⟩ s) ⟨g,6,O⟩ t) ⟨g,7,O⟩ u).heap[g]?=J (C #[h,o,p,q,r,s,t,u,k,l,m,n] T (0,0)):=by
 have v:(ŝ w ⟨g,0,O⟩ h).heap[g]?=J (C #[h,b,c,d,e,f,i,j,k,l,m,n] T (0,0)):=υ _ g 0 _ _ _ H;have x:(ŝ (ŝ w ⟨g,0,O⟩ h) ⟨g,1,O⟩ o).heap[g]?=J (C #[h,o,c,d,e,f,i,j,k,l,m,n] T (0,0)):=υ _ g 1 _ _ _ v;have y:(ŝ (ŝ (ŝ w ⟨g,0,O⟩ h) ⟨g,1,O⟩ o) ⟨g,2,O⟩ p).heap[g]?=J (C #[h,o,p,d,e,f,i,j,k,l,m,n] T (0,0)):=υ _ g 2 _ _ _ x;have z:(ŝ (ŝ (ŝ (ŝ w ⟨g,0,O⟩ h) ⟨g,1,O⟩ o) ⟨g,2,O⟩ p) ⟨g,3,O⟩ q).heap[g]?=J (C #[h,o,p,q,e,f,i,j,k,l,m,n] T (0,0)):=υ _ g 3 _ _ _ y;have A:(ŝ (ŝ (ŝ (ŝ (ŝ w ⟨g,0,O⟩ h) ⟨g,1,O⟩ o) ⟨g,2,O⟩ p) ⟨g,3,O⟩ q) ⟨g,4,O⟩ r).heap[g]?=J (C #[h,o,p,q,r,f,i,j,k,l,m,n] T (0,0)):=υ _ g 4 _ _ _ z;have B:(ŝ (ŝ (ŝ (ŝ (ŝ (ŝ w ⟨g,0,O⟩ h) ⟨g,1,O⟩ o) ⟨g,2,O⟩ p) ⟨g,3,O⟩ q) ⟨g,4,O⟩ r) ⟨g,5,O⟩ s).heap[g]?=J (C #[h,o,p,q,r,s,i,j,k,l,m,n] T (0,0)):=υ _ g 5 _ _ _ A;have E:(ŝ (ŝ (ŝ (ŝ (ŝ (ŝ (ŝ w ⟨g,0,O⟩ h) ⟨g,1,O⟩ o) ⟨g,2,O⟩ p) ⟨g,3,O⟩ q) ⟨g,4,O⟩ r) ⟨g,5,O⟩ s) ⟨g,6,O⟩ t).heap[g]?=J (C #[h,o,p,q,r,s,t,j,k,l,m,n] T (0,0)):=υ _ g 6 _ _ _ B;have F:(ŝ (ŝ (ŝ (ŝ (ŝ (ŝ (ŝ (ŝ w ⟨g,0,O⟩ h) ⟨g,1,O⟩ o) ⟨g,2,O⟩ p) ⟨g,3,O⟩ q) ⟨g,4,O⟩ r) ⟨g,5,O⟩ s) ⟨g,6,O⟩ t) ⟨g,7,O⟩ u).heap[g]?=J (C #[h,o,p,q,r,s,t,u,k,l,m,n] T (0,0)):=υ _ g 7 _ _ _ E;exact F
def OR {w:β} {g T} {a b c d e f i j k l m n:ε} (p:w.heap[g]?=J (C #[a,b,c,d,e,f,i,j,k,l,m,n] T (0,0))) (h:ε):(ŝ w ⟨g,7,O⟩ h).heap[g]?=J (C #[a,b,c,d,e,f,i,h,k,l,m,n] T (0,0)):=by
 have o:(ŝ w ⟨g,7,O⟩ h).heap[g]?=J (C #[a,b,c,d,e,f,i,h,k,l,m,n] T (0,0)):=υ _ g 7 _ _ _ p;exact o
def OS {w:β} {g T} {a b c d e f i j k l m n:ε} (v:w.heap[g]?=J (C #[a,b,c,d,e,f,i,j,k,l,m,n] T (0,0))) (h o p q:ε):(ŝ (ŝ (ŝ (ŝ w ⟨g,8,O⟩ h) ⟨g,9,O⟩ o) ⟨g,10,O⟩ p) ⟨g,11,O⟩ q).heap[g]?=J (C #[a,b,c,d,e,f,i,j,h,o,p,q] T (0,0)):=by
 have r:(ŝ w ⟨g,8,O⟩ h).heap[g]?=J (C #[a,b,c,d,e,f,i,j,h,l,m,n] T (0,0)):=υ _ g 8 _ _ _ v;have s:(ŝ (ŝ w ⟨g,8,O⟩ h) ⟨g,9,O⟩ o).heap[g]?=J (C #[a,b,c,d,e,f,i,j,h,o,m,n] T (0,0)):=υ _ g 9 _ _ _ r;have t:(ŝ (ŝ (ŝ w ⟨g,8,O⟩ h) ⟨g,9,O⟩ o) ⟨g,10,O⟩ p).heap[g]?=J (C #[a,b,c,d,e,f,i,j,h,o,p,n] T (0,0)):=υ _ g _ _ _ _ s;have u:(ŝ (ŝ (ŝ (ŝ w ⟨g,8,O⟩ h) ⟨g,9,O⟩ o) ⟨g,10,O⟩ p) ⟨g,11,O⟩ q).heap[g]?=J (C #[a,b,c,d,e,f,i,j,h,o,p,q] T (0,0)):=υ _ g _ _ _ _ t;exact u
def Ο.setL {g} {w k:β} (h:Ο g w k) (a b c d e f i j:ε):Ο g w (ŝ (ŝ (ŝ (ŝ (ŝ (ŝ (ŝ (ŝ k ⟨g,0,O⟩ a) ⟨g,1,O⟩ b) ⟨g,2,O⟩ c) ⟨g,3,O⟩ d) ⟨g,4,O⟩ e) ⟨g,5,O⟩ f) ⟨g,6,O⟩ i) ⟨g,7,O⟩ j):=
 (((((((h.set 0 a).set 1 b).set 2 c).set 3 d).set 4 e).set 5 f).set 6 i).set 7 j
def Α.setL {H g} {w:β} {R:β->Prop} (h:Α H w R) (k:H g) (a b c d e f i j:ε):Α H (ŝ (ŝ (ŝ (ŝ (ŝ (ŝ (ŝ (ŝ w ⟨g,0,O⟩ a) ⟨g,1,O⟩ b) ⟨g,2,O⟩ c) ⟨g,3,O⟩ d) ⟨g,4,O⟩ e) ⟨g,5,O⟩ f) ⟨g,6,O⟩ i) ⟨g,7,O⟩ j) R:=
 (((((((h.set (p:=⟨g,0,O⟩) k a).set (p:=⟨g,1,O⟩) k b).set (p:=⟨g,2,O⟩) k c).set (p:=⟨g,3,O⟩) k d).set (p:=⟨g,4,O⟩) k e).set (p:=⟨g,5,O⟩) k f).set (p:=⟨g,6,O⟩) k i).set (p:=⟨g,7,O⟩) k j
structure BE where
 da:Option Addr
 dc:Nat
 sa:Option Addr
 sc:Nat
structure ur (w:β) (q:BE) (ix:Ix):Prop where
 d:Ε w (D q.da (L ix.1) q.dc) ix.1
 s:ϣ ix.1 w (D q.sa (L ix.2) q.sc) ix.2
def ur.B {w w' q ix} (h:ur w q ix) (a:BQ w w'):ur w' q ix:=⟨h.d.B a,h.s.B a⟩
structure ww (H:Nat->Prop) (g:Nat) (p:lN) (L:gR) (q:BE) (ix:Ix) (w:β):Prop where
 row:w.heap[g]?=J (C #[D p.ba L.bl.length p.bc,D p.wa L.ws.length p.wc,G L.seq,G L.len,D p.da L.x.1.length p.dc,D p.sa L.x.2.length p.sc,.bool L.up,G L.fuse,š (δ (hh ix.1 ix.2)),G (ix.1.length:Int),D q.da ix.1.length q.dc,D q.sa ix.2.length q.sc] 77 (0,0))
 led:Α H w (fun w2=>kn w2 p L)
 ix:Α H w (fun w2=>ur w2 q ix)
 hg:H g
def ww.B {H g p L q ix w w'} (h:ww H g p L q ix w) (a:BQ w w'):ww H g p L q ix w':=⟨θ h.row a,h.led.B a,h.ix.B a,h.hg⟩
def ia (H:Nat->Prop) (g:Nat) (L:gR) (b:Ix) (w:β):Prop:= ∃ a q,ww H g a L q b w
def ia.B {H g L ix w w'} (h:ia H g L ix w) (a:BQ w w'):ia H g L ix w':=by
 obtain⟨b,q,h⟩:=h;exact⟨b,q,h.B a⟩
def oy (H:Nat->Prop) (g:Nat) (L:gR) (b:Ix) (v:ε) (w:β) (e:Ending) (a:β):Prop:=e=ŗ v/\ia H g L b a/\Ο g w a
def Gx (H g L ix) (i:ε) (ks w) (B:∀ b,H b->b<w.heap.size) (h:ia H g L ix w) (I:rG L) (z:0<L.bl.length) (P:Rd w i ks.length 1 (τ ks)) :
  Calls prog 10 #[þ (J ⟨g,0,O⟩),i] w (oy H g {L with bl:=iB ks L.bl L.ws,ws:=[],up:=false,fuse:= -1} ix (.tuple #[]) w):=by
 obtain⟨K,q,h⟩:=h;have c:=Zx (Lp K L i ks w h.led.now I z P);have j:=h.row;have⟨o,m⟩:=ϟ h.ix B;have d:=h.hg;obtain⟨⟨c0,c1,c2,t,u,v,x,y,-,-,-,-⟩,E,M⟩:=jJ j;have r:=Zx j;unfold ut at c;simp only[gy,gO]at c;unfold oy;generalize iB ks _ _=a at *;go_enter func10,ntmps10;go_wp2_with fail
 refine c.o.M ?_;rintro e N ⟨p1,rfl,F,f⟩;have k:=θ r.o f;have s:=Zx (xJ k (D p1.ba a.length p1.bc) (D p1.wa 0 p1.wc) (G L.seq) (G L.len) (D p1.da L.x.1.length p1.dc) (D p1.sa L.x.2.length p1.sc) (.bool false) (G (-1)));have p:=Zx ((F.off  (fun b _ A=>m.o b A)).setL d (D p1.ba a.length p1.bc) (D p1.wa 0 p1.wc) (G L.seq) (G L.len) (D p1.da L.x.1.length p1.dc) (D p1.sa L.x.2.length p1.sc) (.bool false) (G (-1)));have⟨n,l⟩:=ϟ ((o.o.B f).setL d (D p1.ba a.length p1.bc) (D p1.wa 0 p1.wc) (G L.seq) (G L.len) (D p1.da L.x.1.length p1.dc) (D p1.sa L.x.2.length p1.sc) (.bool false) (G (-1))) (((Ο.refl g w).B f).setL (D p1.ba a.length p1.bc) (D p1.wa 0 p1.wc) (G L.seq) (G L.len) (D p1.da L.x.1.length p1.dc) (D p1.sa L.x.2.length p1.sc) (.bool false) (G (-1)));obtain⟨⟨c0,c1,c2,t,u,v,x,y,-,-,-,-⟩,E,M⟩:=jJ k;go_wp2
 go_returns
 exact⟨rfl,⟨p1,q,s.o,p.o,n.o,d⟩,l.o⟩
def GC (H:Nat->Prop) (g:Nat) (L:gR) (ix:Ix) (ď:Nat) (d:List Ev) (x:Ix) (w:β) (Q:ϭ w) (v:∀ b,H b->b<w.heap.size) (h:ia H g L ix w) (E:jg L.bl L.ws) (I:L.up=false) (u:gr (gB L.bl L.ws) ď (fQ d)) (y:∀ e∈d,e.ok) (K:hO ([],[]) d=J x) (M:x.1.length<=40) :
  Calls prog 11 #[þ (J ⟨g,0,O⟩)] w (oy H g ⟨gB L.bl L.ws,[],ď,(fQ d).length,x,true,-1⟩ ix (G 0) w):=by
 obtain⟨Y,q,h⟩:=h;have i:=Zx (Lu Y L ď d x w Q h.led.now E I u y K M);have l:=h.row;have⟨T,R⟩:=ϟ h.ix v;have j:=h.hg;obtain⟨⟨c0,c1,c2,o,p,r,s,t,-,-,-,-⟩,z,P⟩:=jJ l;have n:=Zx l;unfold us at i;simp only[gy,gO]at i;clear l h E u y K M v Q I;unfold oy;generalize gB L.bl L.ws=c at *;generalize(fQ d).length=a at *;go_enter func11,ntmps11;go_wp2_with fail
 refine i.o.M ?_;rintro e N ⟨p1,rfl,A,k⟩;have X:=θ n.o k;have f:=k.al (C #[D p1.ba c.length p1.bc,D p1.wa 0 p1.wc,G (ď:Int),G (a:Int),D p1.da x.1.length p1.dc,D p1.sa x.2.length p1.sc,.bool true,G (-1)] 48);have F:=φ N (C #[D p1.ba c.length p1.bc,D p1.wa 0 p1.wc,G (ď:Int),G (a:Int),D p1.da x.1.length p1.dc,D p1.sa x.2.length p1.sc,.bool true,G (-1)] 48);have B:=(A.A (C #[D p1.ba c.length p1.bc,D p1.wa 0 p1.wc,G (ď:Int),G (a:Int),D p1.da x.1.length p1.dc,D p1.sa x.2.length p1.sc,.bool true,G (-1)] 48)).off (H:=H) (fun b _ W=>R.o b W);go_upto_region 4 with fail
 generalize å N (C #[D p1.ba c.length p1.bc,D p1.wa 0 p1.wc,G (ď:Int),G (a:Int),D p1.da x.1.length p1.dc,D p1.sa x.2.length p1.sc,.bool true,G (-1)] 48)=a0 at *;have m:=θ n.o f;have⟨V,Z,S,a1⟩:=kX (xJ m (D p1.ba c.length p1.bc) (D p1.wa 0 p1.wc) (G (ď:Int)) (G (a:Int)) (D p1.da x.1.length p1.dc) (D p1.sa x.2.length p1.sc) (.bool true) (G (-1))) (B.setL j (D p1.ba c.length p1.bc) (D p1.wa 0 p1.wc) (G (ď:Int)) (G (a:Int)) (D p1.da x.1.length p1.dc) (D p1.sa x.2.length p1.sc) (.bool true) (G (-1))) ((T.o.B f).setL j (D p1.ba c.length p1.bc) (D p1.wa 0 p1.wc) (G (ď:Int)) (G (a:Int)) (D p1.da x.1.length p1.dc) (D p1.sa x.2.length p1.sc) (.bool true) (G (-1))) (((Ο.refl g w).B f).setL (D p1.ba c.length p1.bc) (D p1.wa 0 p1.wc) (G (ď:Int)) (G (a:Int)) (D p1.da x.1.length p1.dc) (D p1.sa x.2.length p1.sc) (.bool true) (G (-1)));clear c0 c1 c2 o p r s t z P;obtain⟨⟨c0,c1,c2,o,p,r,s,t,-,-,-,-⟩,z,P⟩:=jJ m;obtain⟨⟨aa,d1,d2,ab,ac,ad,ae,af⟩,-,-⟩:=Ϲ F;clear X m F A B k f;go_wp2;go_ret;exact⟨rfl,⟨p1,q,V.o,Z.o,S.o,j⟩,a1.o⟩
def Rc (H:Nat->Prop) (g:Nat) (L:gR) (R:Ix) (w:β) (h:ia H g L R w) (s:L.up=true) :
  Calls prog 11 #[þ (J ⟨g,0,O⟩)] w (oy H g L R (G 0) w):=by
 obtain⟨a,q,h⟩:=h;have i:=Zx (Lv a L w s);have d:=h.row;have⟨y,z⟩:=ϟ h.ix h.led;have c:=h.hg;obtain⟨⟨c0,c1,c2,j,k,l,m,n,-,-,-,-⟩,p,u⟩:=jJ d;have B:=Zx d;simp only[gy]at i;clear d h s;unfold oy;go_enter func11,ntmps11;go_wp2_with fail
 refine i.o.M ?_;rintro e t ⟨rfl,o⟩;have b:=o.al (C #[D a.ba L.bl.length a.bc,D a.wa L.ws.length a.wc,G L.seq,G L.len,D a.da L.x.1.length a.dc,D a.sa L.x.2.length a.sc,.bool L.up,G L.fuse] 48);have r:=φ t (C #[D a.ba L.bl.length a.bc,D a.wa L.ws.length a.wc,G L.seq,G L.len,D a.da L.x.1.length a.dc,D a.sa L.x.2.length a.sc,.bool L.up,G L.fuse] 48);go_upto_region 4 with fail
 generalize å t (C #[D a.ba L.bl.length a.bc,D a.wa L.ws.length a.wc,G L.seq,G L.len,D a.da L.x.1.length a.dc,D a.sa L.x.2.length a.sc,.bool L.up,G L.fuse] 48)=F at *;have f:=θ B.o b;have⟨E,A,x,v⟩:=kX (xJ f (D a.ba L.bl.length a.bc) (D a.wa L.ws.length a.wc) (G L.seq) (G L.len) (D a.da L.x.1.length a.dc) (D a.sa L.x.2.length a.sc) (.bool L.up) (G L.fuse)) ((z.o.B b).setL c (D a.ba L.bl.length a.bc) (D a.wa L.ws.length a.wc) (G L.seq) (G L.len) (D a.da L.x.1.length a.dc) (D a.sa L.x.2.length a.sc) (.bool L.up) (G L.fuse)) ((y.o.B b).setL c (D a.ba L.bl.length a.bc) (D a.wa L.ws.length a.wc) (G L.seq) (G L.len) (D a.da L.x.1.length a.dc) (D a.sa L.x.2.length a.sc) (.bool L.up) (G L.fuse)) (((Ο.refl g w).B b).setL (D a.ba L.bl.length a.bc) (D a.wa L.ws.length a.wc) (G L.seq) (G L.len) (D a.da L.x.1.length a.dc) (D a.sa L.x.2.length a.sc) (.bool L.up) (G L.fuse));clear c0 c1 c2 j k l m n p u;obtain⟨⟨c0,c1,c2,j,k,l,m,n,-,-,-,-⟩,p,u⟩:=jJ f;obtain⟨⟨Q,d1,d2,I,K,M,N,P⟩,-,-⟩:=Ϲ r;clear f r o b;go_wp2;go_ret;exact⟨rfl,⟨a,q,E.o,A.o,x.o,c⟩,v.o⟩
def QW (H g L ix N w) (h:ia H g L ix w) :
  Calls prog 29 #[þ (J ⟨g,0,O⟩),G N] w (oy H g {L with fuse:=N} ix (.tuple #[]) w):=by
 obtain⟨c,q,h⟩:=h;have b:=h.row;have a:=h.hg;have i:=Zx (OR b (G N));have f:=Zx (((h.led).set (p:=⟨g,7,O⟩) a (G N)).imp (Q:=fun d=>kn d c {L with fuse:=N}) fun d ⟨j,k,l,m⟩=>⟨j,k,l,m⟩);have e:=Zx ((h.ix).set (p:=⟨g,7,O⟩) a (G N));obtain⟨⟨c0,c1,c2,o,r,s,t,u,-,-,-,-⟩,n,x⟩:=jJ b;have v:=n 7;go_enter func29,ntmps29;go_wp2
 go_returns
 exact⟨rfl,⟨c,q,i.o,f.o,e.o,a⟩,(Ο.refl g w).set 7 _⟩
def ot.B {w c:β} {kd ei em va vn vc}:∀ {r:Option Ev},ot w kd ei em va vn vc r->BQ w c->ot c kd ei em va vn vc r
 |none,h,hb=>fun a b=>h a (hb.t b)
 |some _,h,hb=>⟨h.1.B hb,h.2⟩
structure yS (H:Nat->Prop) (Q:gR->Int->Prop) (w:β) (gL:Nat) (p':lN) (L':gR) (code:Int) (W:β):Prop where
 row:W.heap[gL]?=J (C #[D p'.ba (L L'.bl) p'.bc,D p'.wa (L L'.ws) p'.wc,G L'.seq,G L'.len,D p'.da (L L'.x.1) p'.dc,D p'.sa (L L'.x.2) p'.sc,.bool L'.up,G L'.fuse] 48 (0,0))
 q:Q L' code
 off:Α H W (fun w2=>kn w2 p' L')
 b:BQ w W
def BJ (H:Nat->Prop) (Q:gR->Int->Prop) (w:β) (e:Ending) (f:β):Prop:= ∃ (c:lN) (a:gR) (b:Int),e=ŗ (.tuple #[ā (gy c a),G b])/\Q a b/\Α H f (fun d=>kn d c a)/\Below w.heap.size w f
def wv (H:Nat->Prop) (g:Nat) (Q:gR->Int->Prop) (d:Ix) (w:β) (e:Ending) (c:β):Prop:= ∃ a b,e=ŗ (G b)/\Q a b/\ia H g a d c/\Ο g w c
def GA (H g L ix Q kd ei em va vn vc) (w:β) (aD:∀ b,H b->b<w.heap.size) (h:ia H g L ix w) (ax:∀ p (H':Nat->Prop) n,BQ w n->(∀ b,H' b->b<n.heap.size)->Α H' n (fun j=>kn j p L)->Calls prog 48 #[ā (gy p L),ā (jc kd ei em va vn vc)] n (BJ H' Q n)) :
  Calls prog 22 #[þ (J ⟨g,0,O⟩),ā (jc kd ei em va vn vc)] w (wv H g Q ix w):=by
 obtain⟨p,a9,h⟩:=h;have E:=Zx (ax p);obtain⟨bl,ws,sq,ln,x,up,aC⟩:=L;unfold BJ at E;have F:=Zx h.row;have S:=h.hg;have⟨X,av,W⟩:=iQ h.led h.ix aD;unfold wv;simp only[gy,jc]at E;simp only at F;unfold jc;obtain⟨aS,af⟩:∃ r,hh ix.1 ix.2=r:=⟨_,rfl⟩;rw[af]at F;have az:=Zx af;obtain⟨aI,a7,t⟩:=fO (w:=w) (A:=C #[G kd,G ei,G em,D va vn vc] 33) RZ;have aJ:=θ F.o t;obtain⟨⟨c0,c1,c2,Y,Z,aa,ab,ac,-,-,-,-⟩,aE,aQ⟩:=jJ aJ;obtain⟨⟨aM,aN,aO,aP⟩,-,-⟩:=ϩ aI;go_enter func22,ntmps22;go_upto_region 3 with fail
 generalize å w _=k at *;go_cut [5,6] (fun aK aL wc=>∃ (R:Nat) (c:lN) (a:gR) (l:Int),aK=þ (J ⟨R,0,O⟩)/\aL=G l/\ϫ (yS H Q w R c a l wc))
 case first =>
  refine ϯ (fun aB=>BQ k aB) 10 ϋ ?_;have s:BQ k k.drew:=RZ.drew;have B:BQ w k.drew:=t.drew;generalize aT:k.drew=wd at *;refine Zf 0 s ?_;refine Zf 1 s ?_;refine Zf 2 s ?_;refine Zb 3 [5,6,7,10] s ?_ (hy:=by intro n f;have aV:=ζ f c0;have aW:=ζ f c1;have aX:=ζ f c2;have aY:=ζ f Y;have aZ:=ζ f Z;have a0:=ζ f aa;have a1:=ζ f ab;have a2:=ζ f ac;go_simp;try with_reducible rfl);refine Zb 4 [5,6,7,10] s ?_ (hy:=by intro n f;have a3:=ζ f aM;have a4:=ζ f aN;have a5:=ζ f aO;have a6:=ζ f aP;go_simp;try with_reducible rfl);refine rE (fuel:=6) 5 9 ϋ rfl rfl ?_ ?_
  .skip
   intro K o;go_simp;refine(E.o H wd B (fun b T=>om (W.o b T) B.size) (X.o.B B)).M ?_;rintro a8 m ⟨c,a,l,rfl,V,e,q⟩;have d:BQ k m:=s.t q;refine o _ _ d ?_;try simp only[Zp]
   refine Zf 6 d ?_;refine Zf 7 d ?_;refine Zf 8 d ?_;have I:=φ m (C #[D O 0 0,D O 0 0,G 0,G 0,D O 0 0,D O 0 0,.bool false,G 0] 48);have z:=(ρ _ m).A NZ (C #[D O 0 0,D O 0 0,G 0,G 0,D O 0 0,D O 0 0,.bool false,G 0] 48);have y:=d.t z;refine Κ  9 ϋ rfl ?_;intro K o;go_simp;refine o _ _ y ?_;generalize å m _=j at *;try simp only[Zp]
   have v:=Zx (oK I (D c.ba a.bl.length c.bc) (D c.wa a.ws.length c.wc) (G a.seq) (G a.len) (D c.da a.x.1.length c.dc) (D c.sa a.x.2.length c.sc) (.bool a.up) (G a.fuse));have ag:=((Ο.set8 _ j (D c.ba a.bl.length c.bc) (D c.wa a.ws.length c.wc) (G a.seq) (G a.len) (D c.da a.x.1.length c.dc) (D c.sa a.x.2.length c.sc) (.bool a.up) (G a.fuse)).to z z.size NZ);have⟨P,M⟩:=ϟ (e.B ag) (t.trans ((d.t ag).M t.size));have N:=Zx (yS.mk v.o V P.o M.o);obtain⟨⟨ak,al,am,an,ao,ap,aq,ar⟩,aF,aR⟩:=Ϲ I;refine Zl ?_;try simp only[Zp]
   refine Ze 11 ?_;refine Zd ?_;go_wp2_with fail
   go_meet;case rel=>exact⟨_,c,a,l,rfl,rfl,N⟩
  .skip
   intro K o;go_simp;have I:=φ wd (C #[D O 0 0,D O 0 0,G 0,G 0,D O 0 0,D O 0 0,.bool false,G 0] 48);have z:=(ρ _ wd).A NZ (C #[D O 0 0,D O 0 0,G 0,G 0,D O 0 0,D O 0 0,.bool false,G 0] 48);have y:BQ k (å wd (C #[D O 0 0,D O 0 0,G 0,G 0,D O 0 0,D O 0 0,.bool false,G 0] 48)):=s.t z;refine o _ _ y ?_;have aU:wd.heap.size<(å wd (C #[D O 0 0,D O 0 0,G 0,G 0,D O 0 0,D O 0 0,.bool false,G 0] 48)).heap.size:=ύ;have aH:Α (fun b=>H b\/b=wd.heap.size) (å wd (C #[D O 0 0,D O 0 0,G 0,G 0,D O 0 0,D O 0 0,.bool false,G 0] 48)) (fun j=>kn j p ⟨bl,ws,sq,ln,x,up,aC⟩):=(X.o.B B).step ύ (fun b ad ae=>hM _ _ b ad) (fun b ad ae=>by
    rcases ae with h|h
    .exact h
    .omega)
   have ah:=t.t y;generalize å wd _=j at *;have aG:=B.size;generalize wd.heap.size=i at *;try simp only[Zp]
   refine Κ  5 ϋ rfl ?_;intro K o;go_simp;refine(E.o _ j ah (fun b T=>by
    rcases T with h|h
    .have:=W.o b h;have:=ah.size;omega
    .omega) aH).M ?_
   rintro a8 m ⟨c,a,l,rfl,V,e,q⟩;have d:BQ k m:=y.t q;refine o _ _ d ?_;try simp only[Zp]
   refine Zf 6 d ?_;refine Zf 7 d ?_;refine Zf 8 d ?_;have ai:=θ I q;have v:=Zx (oK ai (D c.ba a.bl.length c.bc) (D c.wa a.ws.length c.wc) (G a.seq) (G a.len) (D c.da a.x.1.length c.dc) (D c.sa a.x.2.length c.sc) (.bool a.up) (G a.fuse));have P:ϫ (Α H (ŝ (ŝ (ŝ (ŝ (ŝ (ŝ (ŝ (ŝ m ⟨i,0,O⟩ (D c.ba a.bl.length c.bc)) ⟨i,1,O⟩ (D c.wa a.ws.length c.wc)) ⟨i,2,O⟩ (G a.seq)) ⟨i,3,O⟩ (G a.len)) ⟨i,4,O⟩ (D c.da a.x.1.length c.dc)) ⟨i,5,O⟩ (D c.sa a.x.2.length c.sc)) ⟨i,6,O⟩ (.bool a.up)) ⟨i,7,O⟩ (G a.fuse)) (fun j=>kn j c a)):=⟨(e.setL  (.inr rfl) _ _ _ _ _ _ _ _).sub fun b _ h=>.inl h⟩;have M:=Zx (((Ο.set8 i m (D c.ba a.bl.length c.bc) (D c.wa a.ws.length c.wc) (G a.seq) (G a.len) (D c.da a.x.1.length c.dc) (D c.sa a.x.2.length c.sc) (.bool a.up) (G a.fuse)).to (t.t d) (gj t.size d.size) aG));have N:=Zx (yS.mk v.o V P.o M.o);obtain⟨⟨ak,al,am,an,ao,ap,aq,ar⟩,aF,aR⟩:=Ϲ ai;refine Zl ?_;try simp only[Zp]
   refine Ze 11 ?_;refine Zd ?_;go_wp2_with fail
   go_meet;case rel=>exact⟨_,c,a,l,rfl,rfl,N⟩
 case rest =>
  obtain⟨R,c,a,l,rfl,rfl,u⟩:=hcut;have aj:=θ F.o u.o.b;have⟨v,aw,aA,au,ay⟩:=lM (xJ aj (D c.ba a.bl.length c.bc) (D c.wa a.ws.length c.wc) (G a.seq) (G a.len) (D c.da a.x.1.length c.dc) (D c.sa a.x.2.length c.sc) (.bool a.up) (G a.fuse)) (u.o.off.setL S (D c.ba a.bl.length c.bc) (D c.wa a.ws.length c.wc) (G a.seq) (G a.len) (D c.da a.x.1.length c.dc) (D c.sa a.x.2.length c.sc) (.bool a.up) (G a.fuse)) ((av.o.B u.o.b).setL S (D c.ba a.bl.length c.bc) (D c.wa a.ws.length c.wc) (G a.seq) (G a.len) (D c.da a.x.1.length c.dc) (D c.sa a.x.2.length c.sc) (.bool a.up) (G a.fuse)) (((Ο.refl g w).B u.o.b).setL (D c.ba a.bl.length c.bc) (D c.wa a.ws.length c.wc) (G a.seq) (G a.len) (D c.da a.x.1.length c.dc) (D c.sa a.x.2.length c.sc) (.bool a.up) (G a.fuse)) u.o.q;obtain⟨⟨ak,al,am,an,ao,ap,aq,ar⟩,-,-⟩:=Ϲ u.o.row;obtain⟨⟨c0,c1,c2,Y,Z,aa,ab,ac,-,-,-,-⟩,aE,aQ⟩:=jJ aj;go_wp2;go_ret;exact⟨a,l,rfl,ay.o,⟨c,a9,by rw[az.o];exact v.o,aw.o,aA.o,S⟩,au.o⟩
def Hp (H:Nat->Prop) (g:Nat) (L:gR) (a:List Ev) (r:Option Ev) (b:Ix) (w:β) (e:Ending) (c:β):Prop:=wv H g (pK L a r) b w e c
def Bm (H g L ix es r kd ei em va vn vc) (w:β) (n:ϭ w) (i:∀ b,H b->b<w.heap.size) (h:ia H g L ix w) (a:mn L es) (l:es.length<=40) (k:ot w kd ei em va vn vc r) :
  Calls prog 22 #[þ (J ⟨g,0,O⟩),ā (jc kd ei em va vn vc)] w (Hp H g L es r ix w):=by
 refine GA H g L ix (pK L es r) kd ei em va vn vc w i h fun o d e c j m=>?_;obtain⟨bl,ws,sq,ln,x,up,f⟩:=L;obtain rfl:up=true:=a.up;obtain rfl:ws=[]:=a.ws;obtain rfl:sq=(es.length:Int):=a.sq;obtain rfl:ln=((fQ es).length:Int):=a.ln;exact Ls d o bl x f es r kd ei em va vn vc e (n.B c) j m a l (k.B c)
theorem CP (i:ϸ) (g:ht) (h:jg i g):∀ k,k<=L g->kZ (List.replicate (L g) 64) i g k=kh i g k/\∀ b∈kh i g k,L b=64
 |0,_=>⟨rfl,h.lb⟩
 |k+1,hk=>by
  obtain⟨e,d⟩:=CP i g h k U;have c:=h.lw _ (Ψ (U:k<L g));have f:jb (List.replicate (L g) 64) k=64:=by unfold jb;rw[List.getElem?_replicate,μ U];rfl
  unfold kZ kh;rw[Ρ U];simp only;rw[e,f,AZ c.2 (by rw[fX,Ρ (by rw[tM];exact c.1)];exact d _ (Ψ _))];refine⟨rfl,fun b a=>?_⟩;rcases List.mem_or_eq_of_mem_set a with a|rfl
  .exact d b a
  .exact c.2
def Qg {b:ϸ} {a:ht} (h:jg b a):gB b a=iB (List.replicate (L a) 64) b a:=(CP b a h (L a) NZ).1.symm
def uo (k:Nat) (b:Ix) (c:ϸ):Prop:= ∃ (a:List Ev) (x:Ix),gr c (L a) (fQ a)/\(∀ e∈a,e.ok)/\hO ([],[]) a=J x/\L a<=k/\b.1=x.1.take (L b.1)/\L b.1<=L x.1
structure mE (k:Nat) (L:gR) (ix:Ix):Prop where
 n3:3<=L.bl.length
 kx:Ϻ ix.1 ix.2 ix.1.length
 ok:rG L
 st:(∃ es,mn L es/\es.length<=k/\ix.1=L.x.1.take ix.1.length/\ix.1.length<=L.x.1.length)\/(L.up=false/\∀ ks,uo k ix (iB ks L.bl L.ws))
def uo.next {k ix bl} (h:uo k ix bl):uo (k+1) ix bl:=by
 obtain⟨a,x,b,c,d,f,e⟩:=h;exact⟨a,x,b,c,d,U,e⟩
def mE.next {k L ix} (h:mE k L ix):mE (k+1) L ix:=by
 obtain⟨b,c,d,⟨f,a,e,g⟩|⟨a,e⟩⟩:=h
 .exact⟨b,c,d,.inl ⟨f,a,U,g⟩⟩
 .exact⟨b,c,d,.inr ⟨a,fun i=>(e i).next⟩⟩
def mE.crash {k L ix} (h:mE k L ix) (ks):mE k {L with bl:=iB ks L.bl L.ws,ws:=[],up:=false,fuse:= -1} ix:=by
 have hg:uo k ix (iB ks L.bl L.ws):=by
  rcases h.st with ⟨d,a,b,g⟩|⟨-,b⟩
  .rw[a.ws];exact⟨d,_,a.inv,a.ok,a.x,b,g⟩
  .exact b ks
 obtain⟨d,x,c,e,f,a,b⟩:=hg;exact⟨c.n3,h.kx,⟨⟨c.nb,ύ,c.l64,ύ⟩,h.ok.x⟩,.inr ⟨rfl,fun _=>⟨d,x,c,e,f,a,b⟩⟩⟩
def mE.fuse {k L ix} (h:mE k L ix) (N) (f : -9223372036854775808<=N/\N<=9223372036854775807):mE k {L with fuse:=N} ix:=by
 obtain⟨d,e,b,⟨g,a,c,i⟩|⟨a,c⟩⟩:=h
 .exact⟨d,e,⟨b.dk,b.x⟩,.inl ⟨g,⟨a.up,a.ws,a.inv,a.sq,a.ln,a.ok,a.x,f.1,f.2⟩,c,i⟩⟩
 .exact⟨d,e,⟨b.dk,b.x⟩,.inr ⟨a,c⟩⟩
def mE.put {k L g ix es r c} (h:mE k L ix) (b:mn L es) (u:es.length<=k) (n:ix.1=L.x.1.take ix.1.length) (m:ix.1.length<=L.x.1.length) (s:pK L es r g c):mE (k+1) g ix:=by
 have q:∀ d:List (γ),ix.1=(L.x.1++d).take ix.1.length/\ix.1.length<=(L.x.1++d).length:=fun d=>⟨by rw[Bw m];exact n,by rw[σ];omega⟩;cases s with
 |no c l f=>exact h.next
 |yes j g l f a _ =>
  have o:=f.x;rw[vu,b.x]at o;have i:=wZ o;exact⟨ι h.n3,h.kx,f.dok,.inl ⟨ _,f,ό,by rw[i];exact q _⟩⟩
 |lost j y g l f a =>
  refine⟨a.len,h.kx,a.ok,.inr ⟨a.up,fun t=>?_⟩⟩;rcases a.inv t with h7|h7
  .exact⟨es,_,h7,b.ok,b.x,U,n,m⟩
  .have p:=(lq (b.x.symm.trans a.x)).symm
   have i:=wZ a.y;rw[p]at i;refine⟨es++[j],y,by simpa using h7,fun e he=>?_,?_,ό,by rw[i];exact q _⟩
   .rcases nj.1 he with he|he
    .exact b.ok e he
    .rw[kF.1 he];exact a.evok
   .rw[vu,b.x];show gA L.x j=J y;rw[<-p];exact a.y
section
open Go.RowKit Go.Lib
def OE (n) (m:0<n) (o:n<32) (x) (j:jj x):gN (2 ^ (32 - n)) (2 ^ n) x=(x / 2 ^ n+x*2 ^ (32 - n) % 4294967296) % 4294967296:=by
 obtain⟨k,s⟩:=j;obtain⟨a,rfl⟩:=Int.eq_ofNat_of_zero_le k;have e:(2:Nat) ^ 32=2 ^ (32 - n)*2 ^ n:=by rw[<-Nat.pow_add];congr 1;omega
 have g:a*2 ^ (32 - n) % 4294967296=a % 2 ^ n*2 ^ (32 - n):=by
  rw[show(4294967296:Nat)=2 ^ n*2 ^ (32 - n)from by rw[ki,<-e],Nat.mul_mod_mul_right]
 have h:a / 2 ^ n<2 ^ (32 - n):=by rw[Nat.div_lt_iff_lt_mul (kV ϐ),<-e];omega
 have p:a % 2 ^ n*2 ^ (32 - n)+a / 2 ^ n<4294967296:=by
  have d:a % 2 ^ n<2 ^ n:=lI _ (kV ϐ);have f:(a % 2 ^ n+1)*2 ^ (32 - n)<=2 ^ n*2 ^ (32 - n):=qp _ d;rw[ki (2 ^ n),<-e,lr]at f;omega
 have c1:((a:Int)*2 ^ (32 - n) % 4294967296)=((a % 2 ^ n*2 ^ (32 - n):Nat):Int):=by rw[<-g,Int.natCast_emod,Int.natCast_mul,Int.natCast_pow];rfl
 have c2:((a:Int) / 2 ^ n)=((a / 2 ^ n:Nat):Int):=by rw[Int.natCast_ediv,Int.natCast_pow];rfl
 have l:((a % 2 ^ n*2 ^ (32 - n):Nat):Int) % 2 ^ (32 - n)=0:=by rw[Int.natCast_mul,Int.natCast_pow];exact Int.mul_emod_left _ _
 have i:((a / 2 ^ n:Nat):Int)<2 ^ (32 - n):=by exact_mod_cast h
 unfold gN;rw[c1,c2];generalize a / 2 ^ n=q at *;generalize a % 2 ^ n*2 ^ (32 - n)=r at *;rw[bits_join .u32 32 ϐ (fun t b c=>by rw[iV];exact Int.emod_eq_of_lt b c) (32 - n) _ _ U l U U i U];omega
def vB (n:Nat) (A B) (f:0<n) (g:n<32) (j:A=2 ^ (32 - n)) (k:B=2 ^ n) (x) (l:jj x) (w:β) :
  Calls prog 281 #[ĭ .u32 x,G n] w fun e w'=>e=ŗ (ĭ .u32 (gN A B x))/\BQ w w':=by
 have b:=OE n f g x l;rw[<-iV]at b;replace b:=Zh b;subst j k;go_enter func281,ntmps281;go_upto_region 1 with fail
 have a:BQ w w.drew:=RZ.drew;refine ϯ (fun c=>BQ w c) 9 ϋ ?_;refine Zf (oi:=⟨ _,_,_,_,_,_⟩) 0 a ?_;refine Zf (oi:=⟨ _,_,_,_,_,_⟩) 1 a ?_;refine Zf (oi:=⟨ _,_,_,_,_,_⟩) 2 a ?_;refine Zf (oi:=⟨ _,_,_,_,_,_⟩) 3 a ?_;refine Zf (oi:=⟨ _,_,_,_,_,_⟩) 4 a ?_;refine Zf (oi:=⟨J 10,_,_,_,_,_⟩) 5 a ?_ (v:=G (32 - n)) (hy:=?h);case h=>intro d;go_simp;rw[kD];omega
 refine Zf (oi:=⟨J 11,_,_,_,_,_⟩) 6 a ?_ (v:=ĭ .u32 (x*2 ^ (32 - n) % 4294967296)) (hy:=?i);case i=>intro d;go_simp;rw[iV]
 refine Zf (oi:=⟨ _,_,_,_,_,_⟩) 7 a ?_ ;refine Zf (oi:=⟨ _,_,_,_,_,_⟩) 8 a ?_;refine Zd ?_;go_wp2;go_ret;exact⟨by rw[b.o];rfl,a⟩
end
section
open Go.RowKit Go.Lib
def NJ (w:β):Calls prog 280 #[] w fun e w'=>e=ŗ (D (J ⟨w.heap.size,0,O⟩) 64 64)/\w'.heap[w.heap.size]?=J (C pv 314 (0,0))/\BQ w w':=by
 have a:BQ w (å w (C pv 314)):=ġ;have b:=φ w (C pv 314);go_enter func280,ntmps280;go_wp2;go_ret;exact⟨rfl,b,a⟩
end
section
open Go.RowKit Go.Lib
def Rh (m) (a:0<=m) (b:m<2 ^ 32):IntKind.u32.wrap m=m:=by rw[iV];exact Int.emod_eq_of_lt a b
def zZ (j) (d:j<=32) (x y) (b:0<=x) (a:x % 2 ^ j=0) (f:x<4294967296) (g:0<=y) (c:y<2 ^ j) (e:x+y<4294967296):bits .or .u32 x y=x+y:=by
 rw[bits_join .u32 32 ϐ Rh j x y b a U g c U]
def QJ (a b c d) (e:0<=a/\a<=255) (f:0<=b/\b<=255) (g:0<=c/\c<=255) (h:0<=d/\d<=255):qg a b c d=a*16777216+b*65536+c*256+d:=by
 unfold qg;rw[zZ 24 ϐ (a*16777216) (b*65536) U U U U U U,
  zZ 16 ϐ (a*16777216+b*65536) (c*256) U U U U U U,
  zZ 8 ϐ (a*16777216+b*65536+c*256) d U U U U U U]
def pZ (p:γ) (m:Nat):List Int:=(List.range m).map (gd p 48)
def Fw (p m):pZ p (m+1)=pZ p m++[gd p 48 m]:=by simp[pZ,List.range_succ]
def vF (p m i) (h:i<m):(pZ p m)[i]?=J (gd p 48 i):=by simp[pZ,h]
theorem xM (p:γ) (i):∀ (k n:Nat),i<n+16->gd p (n+k) i=gd p n i
 |0,n,h=>rfl
 |k+1,n,h=>by
  rw[<-iX,gd,κ U];exact xM p i k n h
def Pn (p:γ) (i) (h:i<16):gd p 48 i=qg (iL p (4*i)) (iL p (4*i+1)) (iL p (4*i+2)) (iL p (4*i+3)):=by
 have:=xM p i 48 0 U;rw[iI]at this;rw[this,gd,nH,μ h]
def Pm (p:γ) (n) (h:n<48):gd p 48 (n+16)=sd (gd p 48 n) (gd p 48 (n+1)) (gd p 48 (n+9)) (gd p 48 (n+14)):=by
 have e:=fun b hi=>by
  have:=xM p b (48 - n) n hi;rwa [show n+(48 - n)=48 from U]at this
 have a:gd p 48 (n+16)=gd p (n+1) (n+16):=by
  have:=xM p (n+16) (47 - n) (n+1) U;rwa [show n+1+(47 - n)=48 from U]at this
 rw[a,gd,μ rfl,e n U,e (n+1) U,e (n+9) U,e (n+14) U]
end
section
open Go.RowKit Go.Lib
def nG (l:List Int):List ε:=l.map (Value.int .u32)
def jR (a:Nat) (w:β) (v:ε) (n:Nat) (l:List Int):Prop:=L l=n/\w.ownsRow a 314 1 v n (nG l)
def jR.B {base w w' v n l} (h:jR base w v n l) (a:BQ w w'):jR base w' v n l:=⟨h.1,ψ h.2 a⟩
def jR.A {base w v n l} (h:jR base w v n l) (o):jR base (å w o) v n l:=h.B (ġ)
def jR.nil (w base):jR base w (D O 0 0) 0 []:=⟨rfl,gQ w base _ 1⟩
def jR.rd {base w v n l} (h:jR base w v n l):Rd w v n 1 (nG l):=Rd.of_own h.2
def KR:(prog.info? 314).map (fun i=>(i.zero,i.size,i.bytes))=J (J (ĭ .u32 0),1,4):=ϋ
def EL (w:β) (x e):Rd (å w (C #[ĭ .u32 x] e)) (D (J ⟨w.heap.size,0,O⟩) 1 1) 1 1 (nG [x]):=Rd.of_own (mT w #[ĭ .u32 x] e 1 1 rfl ϐ)
def FQ {ops o} {a:Act} {w} {K:Act->β->Prop} {Q:Exit->Act->β->Prop} {E} (W:o.guard=O) (s x)
  (q:o.op=.call {callee:=.builtin .append,args:= #[s,x],argTypes:= #[321,321]})
  (base) (v e:ε) (n) (xs) (y) (u:a.eval s=v) (d:jR base w v n xs) (A:a.eval x=e) (r:Rd w e 1 1 (nG [y]))
  (R:n<=1000) (i:base<=w.heap.size)
  (h:∀ b c w',jR base w' (D b (n+1) c) (n+1) (xs++[y])->Below base w w'->K (a.put o.dst (D b (n+1) c)) w') :
  if Region.wanted o (yielded ops a.tmps)=true then Oper.wp prog o a w K Q else E:=by
 have z:Region.wanted o (yielded ops a.tmps)=true:=by simp[Region.wanted,W]
 rw[μ z];obtain⟨H,hi,B,F,V⟩:=Ϩ KR;have m:∀ l∈nG [y],l.oneCell'=true:=by intro l k;simp[nG]at k;subst k;rfl
 obtain⟨T,w',t,f,p,M,N⟩:=tD  w base 321 321 o.type 314 H _ 1 4 underlying321 hi B F V rfl v n _ d.2 e 1 _ (r.src underlying321 m) ώ U i;unfold Oper.wp execOp;simp only[q,resolve,invoke,builtin,Sem.run_bind,Sem.run_pure,pH,qs,ij,jQ,u,A,t];obtain⟨b,c,rfl⟩:=Η f;refine h b c w' ⟨by simp[d.1],by rw[show nG (xs++[y])=nG xs++nG [y]from by simp[nG]];exact f⟩ ?_;refine RZ.grown p i fun S j=>?_;rcases d.2.2 with ⟨rfl,-⟩|⟨g,I,cur,rfl,P,-⟩
 .simp[Value.ownBlock]at j
 .simp[Value.ownBlock]at j;omega
def yf {w:β} {a n c l} (h:Rd w (D a n c) n 1 (nG l)) (j:0<n):∃ b off,a=J ⟨b,off,O⟩/\∀ (i:Nat) (u:Int),l[i]?=J u->w.cell? ⟨b,off+i,O⟩=J (ĭ .u32 u):=by
 obtain⟨-,-,⟨-,-,-,k⟩|⟨b,off,g,f,-,-,-,d⟩⟩:=h
 .omega
 .injection f with h1 h2 h3
  exact⟨b,off,h1,fun i u e=>d i _ (by simp[nG,e])⟩
def Ob (pb off cp) (p:γ) (w:β) (bd:L p=64) (bg:Rd w (D (J ⟨pb,off,O⟩) 64 cp) 64 1 (η p)) :
  Calls prog 279 #[D (J ⟨pb,off,O⟩) 64 cp] w fun e w'=>∃ am b4,e=ŗ (D am 64 b4)/\jR w.heap.size w' (D am 64 b4) 64 (pZ p 64)/\BQ w w':=by
 have N:=Zh (fun bi ba=>Cq bd bg bi ba);go_enter func279,ntmps279;go_wp2;go_loopw [3,4] (fun ak u wr=>∃ (f:Nat) (Q:Option Addr) (c1:Nat),f<=16/\u=G ((4*f:Nat):Int)/\ak=D Q f c1/\Hid (jR w.heap.size wr (D Q f c1) f (pZ p f))/\BQ w wr) (fun _ u _=>64 - (RowKit.intOf u).toNat)
 .exact⟨0,O,0,Ζ _,rfl,rfl,jR.nil _ _,ρ _ _⟩
 obtain⟨f,Q,c1,bl,rfl,rfl,y,z⟩:=hrel;by_cases bb:f<16
 .have c0:=N.o (4*f) U
  have an:=N.o (4*f+1) U;have c2:=N.o (4*f+2) U;have ao:=N.o (4*f+3) U;have b0:=qz p (4*f);have b1:=qz p (4*f+1);have b2:=qz p (4*f+2);have b3:=qz p (4*f+3);have HW:Hid (gd p 48 f=iL p (4*f)*16777216+iL p (4*f+1)*65536+iL p (4*f+2)*256+iL p (4*f+3)):=by show _=_;rw[Pn p f bb,QJ _ _ _ _ b0 b1 b2 b3]
  generalize iL p _=k at *;generalize iL p _=l at *;generalize iL p _=r at *;generalize iL p _=A at *;have bf:4*f+3<64:=U;obtain⟨q,be⟩:∃ q,4*f=q:=⟨_,rfl⟩;rw[be]at c0 an c2 ao bf ⊢;have c1:=an;have bk:(0:Int)<=(q:Int):=U;have aw:(q:Int)<64:=U;have bx:(0:Int)<=(q:Int)+1:=U;have bz:(q:Int)+1<64:=U;have bA:(0:Int)<=(q:Int)+2:=U;have bB:(q:Int)+2<64:=U;have bC:(0:Int)<=(q:Int)+3:=U;have bD:(q:Int)+3<64:=U;go_upto_region 5 with fail
  have a:BQ w wr.drew:=z.drew;refine ϯ (fun s=>BQ w s) 32 ϋ ?_;refine Zf (oi:=⟨ _,_,_,_,_,_⟩) 0 a ?_;refine Zf (oi:=⟨ _,_,_,_,_,_⟩) 1 a ?_;refine Zf (oi:=⟨ _,_,_,_,_,_⟩) 2 a ?_;refine Zf (oi:=⟨ _,_,_,_,_,_⟩) 3 a ?_;refine Zb (oi:=⟨J 16,_,_,_,_,_⟩) 4 [5,6,14,22,29,30,31,32] a ?_ (v:=ĭ .u8 k) (hy:=?H);case H=>intro d h;have j:=ζ h c0;exact gx
  refine Zf (oi:=⟨J 17,_,_,_,_,_⟩) 5 a ?_ (v:=ĭ .u32 k) (hy:=?af);case af=>intro d;go_simp;rw[iV];omega
  refine Zf (oi:=⟨J 18,_,_,_,_,_⟩) 6 a ?_ (v:=ĭ .u32 (k*16777216)) (hy:=?aX);case aX=>intro d;go_simp;rw[iV];omega
  refine Zf (oi:=⟨ _,_,_,_,_,_⟩) 7 a ?_;refine Zf (oi:=⟨ _,_,_,_,_,_⟩) 8 a ?_;refine Zf (oi:=⟨J 21,_,_,_,_,_⟩) 9 a ?_ (v:=G (q+1)) (hy:=?aY);case aY=>intro d;go_simp;rw[kD];omega
  refine Zf (oi:=⟨ _,_,_,_,_,_⟩) 10 a ?_ ;refine Zb (oi:=⟨J 23,_,_,_,_,_⟩) 11 [12,13,14,22,29,30,31,32] a ?_ (v:=ĭ .u8 l) (hy:=?aM);case aM=>intro d h;have j:=ζ h c1;exact gx
  refine Zf (oi:=⟨J 24,_,_,_,_,_⟩) 12 a ?_ (v:=ĭ .u32 l) (hy:=?ac);case ac=>intro d;go_simp;rw[iV];omega
  refine Zf (oi:=⟨J 25,_,_,_,_,_⟩) 13 a ?_ (v:=ĭ .u32 (l*65536)) (hy:=?aN);case aN=>intro d;go_simp;rw[iV];omega
  refine Zf (oi:=⟨J 26,_,_,_,_,_⟩) 14 a ?_ (v:=ĭ .u32 (k*16777216+l*65536)) (hy:=?aO);case aO=>intro d;go_simp;rw[iV];omega
  refine Zf (oi:=⟨ _,_,_,_,_,_⟩) 15 a ?_;refine Zf (oi:=⟨ _,_,_,_,_,_⟩) 16 a ?_;refine Zf (oi:=⟨J 29,_,_,_,_,_⟩) 17 a ?_ (v:=G (q+2)) (hy:=?F);case F=>intro d;go_simp;rw[kD];omega
  refine Zf (oi:=⟨ _,_,_,_,_,_⟩) 18 a ?_ (v:=þ (J ⟨pb,off+(q+2),O⟩));refine Zb (oi:=⟨J 31,_,_,_,_,_⟩) 19 [20,21,22,29,30,31,32] a ?_ (v:=ĭ .u8 r) (hy:=?T);case T=>intro d h;have j:=ζ h c2;exact gx
  refine Zf (oi:=⟨J 32,_,_,_,_,_⟩) 20 a ?_ (v:=ĭ .u32 r) (hy:=?aP);case aP=>intro d;go_simp;rw[iV];omega
  refine Zf (oi:=⟨J 33,_,_,_,_,_⟩) 21 a ?_ (v:=ĭ .u32 (r*256)) (hy:=?aQ);case aQ=>intro d;go_simp;rw[iV];omega
  refine Zf (oi:=⟨J 34,_,_,_,_,_⟩) 22 a ?_ (v:=ĭ .u32 (k*16777216+l*65536+r*256)) (hy:=?aR);case aR=>intro d;go_simp;rw[iV];omega
  refine Zf (oi:=⟨ _,_,_,_,_,_⟩) 23 a ?_;refine Zf (oi:=⟨ _,_,_,_,_,_⟩) 24 a ?_;refine Zf (oi:=⟨J 37,_,_,_,_,_⟩) 25 a ?_ (v:=G (q+3)) (hy:=?aS);case aS=>intro d;go_simp;rw[kD];omega
  refine Zf (oi:=⟨ _,_,_,_,_,_⟩) 26 a ?_ (v:=þ (J ⟨pb,off+(q+3),O⟩));refine Zb (oi:=⟨J 39,_,_,_,_,_⟩) 27 [28,29,30,31,32] a ?_ (v:=ĭ .u8 A) (hy:=?aT);case aT=>intro d h;have j:=ζ h ao;exact gx
  refine Zf (oi:=⟨J 40,_,_,_,_,_⟩) 28 a ?_ (v:=ĭ .u32 A) (hy:=?aU);case aU=>intro d;go_simp;rw[iV];omega
  refine Zf (oi:=⟨J 41,_,_,_,_,_⟩) 29 a ?_ (v:=ĭ .u32 (k*16777216+l*65536+r*256+A)) (hy:=?aV);case aV=>intro d;go_simp;rw[iV];omega
  refine Κ (fuel:=2) 30 ϋ rfl ?_;intro K i;go_simp;have I:BQ wr (å wr.drew (C #[ĭ .u32 (k*16777216+l*65536+r*256+A)] 314)):=(ρ _ wr).drew.A NZ _;have ai:BQ w (å wr.drew (C #[ĭ .u32 (k*16777216+l*65536+r*256+A)] 314)):=z.t I;refine i _ _ ai ?_;have⟨X,V⟩:=π (EL wr.drew (k*16777216+l*65536+r*256+A) 314) (y.o.B I);refine Κ  31 ϋ rfl ?_;intro K i;refine FQ rfl _ _ rfl _ _ _ f _ _ rfl V.o rfl X.o U ai.size ?_;intro Y ab bj M aj;rw[<-HW.o,<-Fw]at M;have ar:=ai.trans aj;have W:=Zh M;refine i _ _ ar ?_;refine Zl ?_;refine Zd ?_;go_wp2_with fail
  go_roundw
  .exact⟨ _,Y,ab,U,ϕ,rfl,W.o,ar⟩
  simp[RowKit.intOf];omega
 .have aw:¬((4*f:Nat):Int)<64:=U
  obtain rfl:f=16:=U;have aD:=Zh (fun x t (d:β)=>vB 7 33554432 128 ϐ ϐ ϐ ϐ x t d);have aB:=Zh (fun x t (d:β)=>vB 18 16384 262144 ϐ ϐ ϐ ϐ x t d);have aA:=Zh (fun x t (d:β)=>vB 17 32768 131072 ϐ ϐ ϐ ϐ x t d);have aC:=Zh (fun x t (d:β)=>vB 19 8192 524288 ϐ ϐ ϐ ϐ x t d);go_wp2;go_loopw [3,5] (fun ak u av=>∃ (b:Nat) (R:Option Addr) (c2:Nat),b<=48/\u=G ((b+16:Nat):Int)/\ak=D R (b+16) c2/\Hid (jR w.heap.size av (D R (b+16) c2) (b+16) (pZ p (b+16)))/\BQ w av) (fun _ u _=>64 - (RowKit.intOf u).toNat)
  .exact⟨0,Q,c1,U,rfl,rfl,y,z⟩
  obtain⟨b,R,c2,bm,rfl,rfl,y,z⟩:=hrel;by_cases bc:b<48
  .obtain⟨g,o,rfl,S⟩:=yf y.o.rd U
   have Z:=S _ _ (vF p _ (b+1) U);have aF:=S _ _ (vF p _ (b+14) U);have aG:=S b _ (vF p _ b U);have aJ:=S _ _ (vF p _ (b+9) U);have I:=qW p 48 (b+1);have ap:=qW p 48 (b+14);have ax:=Zh (Pm p b bc);generalize gd p _ _=m at *;generalize gd p _ _=n at *;generalize gd p _ b=b5 at *;generalize gd p _ _=c at *;have bk:(b:Int)+16<64:=U;have bn:(0:Int)<=(b:Int)+1:=U;have bo:(b:Int)+1<(b:Int)+16:=U;have bq:(0:Int)<=(b:Int)+14:=U;have br:(b:Int)+14<(b:Int)+16:=U;have bs:(0:Int)<=(b:Int):=U;have bt:(b:Int)<(b:Int)+16:=U;have bu:(0:Int)<=(b:Int)+9:=U;have bv:(b:Int)+9<(b:Int)+16:=U;go_upto_region 9 with fail
   have a:BQ wr wr.drew:=RZ.drew;refine ϯ (fun s=>BQ wr s) 20 ϋ ?_;refine Zf (oi:=⟨ _,_,_,_,_,_⟩) 0 a ?_;refine Zf (oi:=⟨ _,_,_,_,_,_⟩) 1 a ?_;refine Zf (oi:=⟨J 50,_,_,_,_,_⟩) 2 a ?_ (v:=G (b+1)) (hy:=?ae);case ae=>intro d;go_simp;rw[kD];omega
   refine Zf (oi:=⟨ _,_,_,_,_,_⟩) 3 a ?_ ;refine Zb (oi:=⟨J 52,_,_,_,_,_⟩) 4 [5,12,19,20] a ?_ (v:=ĭ .u32 m) (hy:=?H);case H=>intro d h;have j:=ζ h Z;exact gx
   refine Zf (oi:=⟨ _,_,_,_,_,_⟩) 6 a ?_;refine Zf (oi:=⟨ _,_,_,_,_,_⟩) 7 a ?_;refine Zf (oi:=⟨J 56,_,_,_,_,_⟩) 8 a ?_ (v:=G (b+1)) (hy:=?ag);case ag=>intro d;go_simp;rw[kD];omega
   refine Zf (oi:=⟨ _,_,_,_,_,_⟩) 9 a ?_ ;refine Zb (oi:=⟨J 58,_,_,_,_,_⟩) 10 [11,12,19,20] a ?_ (v:=ĭ .u32 m) (hy:=?E);case E=>intro d h;have j:=ζ h Z;exact gx
   refine Zf (oi:=⟨ _,_,_,_,_,_⟩) 13 a ?_;refine Zf (oi:=⟨ _,_,_,_,_,_⟩) 14 a ?_;refine Zf (oi:=⟨J 63,_,_,_,_,_⟩) 15 a ?_ (v:=G (b+1)) (hy:=?ad);case ad=>intro d;go_simp;rw[kD];omega
   refine Zf (oi:=⟨ _,_,_,_,_,_⟩) 16 a ?_ ;refine Zb (oi:=⟨J 65,_,_,_,_,_⟩) 17 [18,19,20] a ?_ (v:=ĭ .u32 m) (hy:=?F);case F=>intro d h;have j:=ζ h Z;exact gx
   refine Zf (oi:=⟨ _,_,_,_,_,_⟩) 18 a ?_ ;refine Κ (fuel:=4) 5 ϋ rfl ?_;intro K i;go_simp;refine(aD.o m I _).M ?_;rintro e bw ⟨rfl,a8⟩;have a4:=a.t a8;have a:=a4;refine i _ _ a ?_;refine Κ  11 ϋ rfl ?_;intro K i;go_simp;refine(aB.o m I _).M ?_;rintro e al ⟨rfl,a9⟩;have a5:=a.t a9;have a:=a5;refine i _ _ a ?_;refine Zf (oi:=⟨ _,_,_,_,_,_⟩) 12 a ?_;refine Zf (oi:=⟨J 67,_,_,_,_,_⟩) 19 a ?_ (v:=ĭ .u32 (Ae m)) (hy:=?T);case T=>intro d;go_simp;rfl
   refine Zl ?_;refine Zd ?_;go_upto_region 10 with fail
   have a1:=z.t a;have aa:=ζ a aF;have aH:=ζ a aG;have aK:=ζ a aJ;have ay:=Zh (y.o.B a);have a:BQ al al.drew:=RZ.drew;refine ϯ (fun s=>BQ al s) 20 ϋ ?_;refine Zf (oi:=⟨ _,_,_,_,_,_⟩) 0 a ?_;refine Zf (oi:=⟨ _,_,_,_,_,_⟩) 1 a ?_;refine Zf (oi:=⟨J 70,_,_,_,_,_⟩) 2 a ?_ (v:=G (b+14)) (hy:=?ae);case ae=>intro d;go_simp;rw[kD];omega
   refine Zf (oi:=⟨ _,_,_,_,_,_⟩) 3 a ?_ (v:=þ (J ⟨g,o+(b+14),O⟩));refine Zb (oi:=⟨J 72,_,_,_,_,_⟩) 4 [5,12,19,20] a ?_ (v:=ĭ .u32 n) (hy:=?H);case H=>intro d h;have j:=ζ h aa;exact gx
   refine Zf (oi:=⟨ _,_,_,_,_,_⟩) 6 a ?_;refine Zf (oi:=⟨ _,_,_,_,_,_⟩) 7 a ?_;refine Zf (oi:=⟨J 76,_,_,_,_,_⟩) 8 a ?_ (v:=G (b+14)) (hy:=?ag);case ag=>intro d;go_simp;rw[kD];omega
   refine Zf (oi:=⟨ _,_,_,_,_,_⟩) 9 a ?_ (v:=þ (J ⟨g,o+(b+14),O⟩));refine Zb (oi:=⟨J 78,_,_,_,_,_⟩) 10 [11,12,19,20] a ?_ (v:=ĭ .u32 n) (hy:=?E);case E=>intro d h;have j:=ζ h aa;exact gx
   refine Zf (oi:=⟨ _,_,_,_,_,_⟩) 13 a ?_;refine Zf (oi:=⟨ _,_,_,_,_,_⟩) 14 a ?_;refine Zf (oi:=⟨J 83,_,_,_,_,_⟩) 15 a ?_ (v:=G (b+14)) (hy:=?ad);case ad=>intro d;go_simp;rw[kD];omega
   refine Zf (oi:=⟨ _,_,_,_,_,_⟩) 16 a ?_ (v:=þ (J ⟨g,o+(b+14),O⟩));refine Zb (oi:=⟨J 85,_,_,_,_,_⟩) 17 [18,19,20] a ?_ (v:=ĭ .u32 n) (hy:=?F);case F=>intro d h;have j:=ζ h aa;exact gx
   refine Zf (oi:=⟨ _,_,_,_,_,_⟩) 18 a ?_ ;refine Κ (fuel:=4) 5 ϋ rfl ?_;intro K i;go_simp;refine(aA.o n ap _).M ?_;rintro e bp ⟨rfl,a6⟩;have a2:=a.t a6;have a:=a2;refine i _ _ a ?_;refine Κ  11 ϋ rfl ?_;intro K i;go_simp;refine(aC.o n ap _).M ?_;rintro e B ⟨rfl,a7⟩;have a3:=a.t a7;have a:=a3;refine i _ _ a ?_;refine Zf (oi:=⟨ _,_,_,_,_,_⟩) 12 a ?_;refine Zf (oi:=⟨J 87,_,_,_,_,_⟩) 19 a ?_ (v:=ĭ .u32 (zT n)) (hy:=?T);case T=>intro d;go_simp;rfl
   refine Zl ?_;refine Zd ?_;go_upto_region 11 with fail
   have aZ:=a1.t a;have aI:=ζ a aH;have aL:=ζ a aK;have V:=Zh (ay.o.B a);have a:BQ B B.drew:=RZ.drew;refine ϯ (fun s=>BQ B s) 17 ϋ ?_;refine Zf (oi:=⟨ _,_,_,_,_,_⟩) 0 a ?_;refine Zf (oi:=⟨ _,_,_,_,_,_⟩) 1 a ?_;refine Zf (oi:=⟨ _,_,_,_,_,_⟩) 2 a ?_;refine Zf (oi:=⟨J 91,_,_,_,_,_⟩) 3 a ?_ (v:=G b) (hy:=?aW);case aW=>intro d;go_simp;rw[kD];omega
   refine Zf (oi:=⟨ _,_,_,_,_,_⟩) 4 a ?_ ;refine Zb (oi:=⟨J 93,_,_,_,_,_⟩) 5 [7,13,15,16,17] a ?_ (v:=ĭ .u32 b5) (hy:=?af);case af=>intro d h;have j:=ζ h aI;exact gx
   refine Zf (oi:=⟨ _,_,_,_,_,_⟩) 6 a ?_;refine Zf (oi:=⟨ _,_,_,_,_,_⟩) 7 a ?_;refine Zf (oi:=⟨ _,_,_,_,_,_⟩) 8 a ?_;refine Zf (oi:=⟨ _,_,_,_,_,_⟩) 9 a ?_;refine Zf (oi:=⟨J 98,_,_,_,_,_⟩) 10 a ?_ (v:=G (b+9)) (hy:=?E);case E=>intro d;go_simp;rw[kD];omega
   refine Zf (oi:=⟨ _,_,_,_,_,_⟩) 11 a ?_ (v:=þ (J ⟨g,o+(b+9),O⟩));refine Zb (oi:=⟨J 100,_,_,_,_,_⟩) 12 [13,15,16,17] a ?_ (v:=ĭ .u32 c) (hy:=?ac);case ac=>intro d h;have j:=ζ h aL;exact gx
   refine Zf (oi:=⟨ _,_,_,_,_,_⟩) 13 a ?_ ;refine Zf (oi:=⟨ _,_,_,_,_,_⟩) 14 a ?_;refine Zf (oi:=⟨ _,_,_,_,_,_⟩) 15 a ?_;have bh:IntKind.u32.wrap (IntKind.u32.wrap (IntKind.u32.wrap (b5+Ae m)+c)+zT n)=sd b5 m c n:=by simp only[iV,sd];omega
   rw[bh,<-ax.o];obtain⟨P,au⟩:∃ P,gd p 48 (b+16)=P:=⟨_,rfl⟩;rw[au];have aE:=Zh au;refine Κ (fuel:=2) 16 ϋ rfl ?_;intro K i;go_simp;have ah:BQ B (B.drew.alloc (C #[ĭ .u32 P] 314)):=a.A NZ _;refine i _ _ ah ?_;have⟨X,az⟩:=π (EL B.drew P 314) (V.o.B ah);have aq:=aZ.t ah;refine jF  ϋ ϋ rfl ?_;intro K i;refine FQ rfl _ _ rfl _ _ _ _ _ _ rfl az.o rfl X.o U aq.size ?_;intro Y ab bj M aj;rw[<-aE.o,<-Fw]at M;have a0:=aq.trans aj;have W:=Zh M;refine i _ _ ?_;refine Ze 18 ?_;refine Zd ?_;go_wp2_with fail
   go_roundw
   .exact⟨b+1,Y,ab,U,ϕ,by rw[Nat.add_right_comm],by rw[Nat.add_right_comm b 1 16];exact W.o,a0⟩
   simp[RowKit.intOf];omega
  .have aw:¬((b:Int)+16)<64:=U
   obtain rfl:b=48:=U;go_wp2;go_ret;exact⟨R,c2,rfl,y.o,z⟩
end
def BX:iT ϳ=true/\iT oI=true/\ltStr ϳ ϳ=false/\ltStr oI ϳ=false/\ltStr ϳ oI=true:=Ϟ
def zd:mW mL=true:=Ϟ
def wA:fW (iU mL)=[ϳ,oI]:=by
 have h:iU mL=[ϳ,oI]:=Ϟ;rw[h];exact(AO (List.Pairwise.cons (fun b a=>by rw[kF.1 a];exact BX.2.2.2.2) (List.pairwise_singleton _ _)) fun c=>Iff.rfl).symm
def FF (t:γ):fW [t]=[t]:=(AO (List.pairwise_singleton _ _) fun _=>Iff.rfl).symm
def BW:Δ [ϳ] (0,1)=[(ϳ,[0])]:=by
 have h:Θ ϳ=[ϳ]:=Ϟ;have a:gI [ϳ] 0 1=[ϳ]:=by
  show(fW (Θ ϳ)++[])=_;rw[h,FF];rfl
 show(fW (gI [ϳ] 0 1)).map _=_;rw[a,FF];have b:gb [ϳ] ϳ 0 1=[0]:=by
  unfold gb;simp[h]
 simp[b]
def HV:xL mL [[0],[]]=[0]:=by
 unfold xL;rw[wA];decide+kernel
def zc:L (gM [0])<=4000:=Ϟ
def MW (ao cp) (w:β) (l:Rd w (D ao 0 cp) 0 1 []) :
  Calls prog 233 #[D ao 0 cp] w fun e w'=>e=ŗ (.tuple #[D O 0 0,G 4])/\BQ w w':=by
 have d:=Zh (fun b (f:BQ w b)=>NE ao cp b (l.B f));go_enter func233,ntmps233;go_wp2_with fail
 refine(d.o _ ?g).M ?_;case g=>first|exact ρ _ _|exact ġ
 rintro e a ⟨c,c1,rfl,h⟩;go_wp2_with fail
 have j:(å a (C #[D c 0 c1,G 0,G 4] 211)).cell? ⟨a.heap.size,2,O⟩=J (G 4):=by
  have k:(å a (C #[D c 0 c1,G 0,G 4] 211)).heap[a.heap.size]?=J (C #[D c 0 c1,G 0,G 4] 211):=by
   show(a.heap.push _)[a.heap.size]?=_;exact Array.getElem?_push_size
  exact(Β k).1.2.2
 have i:BQ w (å a (C #[D c 0 c1,G 0,G 4] 211)):=h.al _;generalize å a _=m at *;go_wp2;go_region_held3 (fun b=>BQ w b/\b.cell? ⟨a.heap.size,2,O⟩=J (G 4)) (first|exact⟨i.drew,j⟩|assumption) (fail)
 go_wp2;go_ret2;exact⟨rfl,by first|assumption|exact(‹BQ w _/\_›).1⟩
def Hm (w:β) (e:Ending) (d:β):Prop:= ∃ a c,e=ŗ (.tuple #[D a 1 c,G 0])/\Hi w.heap.size d (fun b=>Rd b (D a 1 c) 1 1 (τ [0]))/\Below w.heap.size w d
def MX (ao n cp) (w:β) (z:L (gM [0])=n) (al:Rd w (D ao n cp) n 1 (η (gM [0]))) :
  Calls prog 233 #[D ao n cp] w (Hm w):=by
 have y:gM [0]=[]++(ο 1++ο 0):=rfl;have ae:gM [0]=ο 1++(ο 0++[]):=by rw[y];simp
 have ak:L (ο 1)+L (ο 0)=n:=by rw[<-z,y];simp
 have aB:=Ϸ 8 1 U;have aA:=Ϸ 8 0 U;have u:=Zx (rM ao n cp 0 _ _ _ 1 w y U rfl z U al);have v:=Zx (fun a c x h=>rM a n c _ _ _ _ 0 x ae U rfl z U h);rw[ak]at v;rw[iI]at u;have ad:((1:Nat):Int)=1:=U;have F:((0:Nat):Int)=0:=U;rw[ad,F]at u;rw[F]at v;have Y:=Zx (fun a c x=>sQ a n c x);generalize(L (ο 1))=p1 at *;generalize gM _=q at *;obtain⟨au,aj,am,an,ap⟩:=Ϩ oB;go_enter func233,ntmps233;go_wp2_with fail
 refine u.o.M ?_;rintro e f ⟨b,c1,rfl,ai,V⟩;have R:=φ f (C #[D b n c1,G (p1:Int),G 0] 211);have M:=(ρ f.heap.size f).A NZ (C #[D b n c1,G (p1:Int),G 0] 211);have a1:=Zx (Ν R (Ν (ai.B M).now (V.t M)));have ar:w.heap.size<=f.heap.size:=V.size;obtain⟨⟨p,r,s⟩,-,-⟩:=Β R;go_upto_region 2 with fail
 generalize å f (C #[D b n c1,G (p1:Int),G 0] 211)=ax at *;generalize f.heap.size=g at *;go_wp2;go_loopw [6,7,24] (fun S T l wr=>(l=G 0/\S=D O 0 0/\T=G (-1)/\∃ b c1,ϫ (wr.heap[g]?=J (C #[D b n c1,G (p1:Int),G 0] 211 (0,0))/\Rd wr (D b n c1) n 1 (η q)/\Below w.heap.size w wr))\/(∃ m o,l=G 1/\S=D m 1 o/\T=G 0/\∃ b c1,ϫ (wr.heap[g]?=J (C #[D b n c1,G (n:Int),G 0] 211 (0,0))/\wr.ownsRow w.heap.size 3 1 (D m 1 o) 1 (τ [0])/\Below w.heap.size w wr))) (fun _ _ l _=>1 - (intOf l).toNat)
 .exact .inl ⟨rfl,rfl,rfl,b,c1,a1⟩
 rcases hrel with ⟨rfl,rfl,rfl,b,c1,d⟩|⟨m,o,rfl,rfl,rfl,b,c1,d⟩
 .have X:=Zx (v.o b c1 wr d.o.2.1)
  obtain⟨⟨p,r,s⟩,-,-⟩:=Β d.o.1;go_wp2_with fail
  refine X.o.M ?_;rintro e av ⟨j,k,rfl,-,H⟩;have Q:=θ d.o.1 H;have af:=kY (d.o.2.2.t H) ar (D j n k) (G (n:Int)) (G 0);have⟨E,B⟩:=ϟ (jz Q (D j n k) (G (n:Int)) (G 0)) af;obtain⟨⟨p,r,s⟩,⟨ay,f1,f2⟩,aE⟩:=Β Q;go_upto_region 12 with fail
  generalize ŝ (ŝ (ŝ av ⟨g,0,O⟩ (D j n k)) ⟨g,1,O⟩ (G (n:Int))) ⟨g,2,O⟩ (G 0)=i at *;obtain⟨⟨p,r,s⟩,-,-⟩:=Β E.o;have aq:=B.o.size;have aa:=Zx (gh (P:=prog) (tx:=23) (e:=3) gl i #[G 0] 1 1 1 rfl ϗ);go_wp2_with (at_builtin;go_loud (refine ϻ rfl _ _ _ _ rfl w.heap.size 3 au _ 1 8 gl aj am an ap rfl (D O 0 0) 0 [] (by rfl) (gQ _ _ _ _) _ 1 _ (by rfl) aa.o ώ U ό ?_;intro aC aw N ah az _;obtain⟨ab,ac,rfl⟩:=Η N))
  have ag:=((ρ i.heap.size i).A NZ (C #[G 0] 3));have I:Below i.heap.size i aw:=ag.grown ah ύ (fun a0 e=>by cases e);have W:=Zx (Ν (θ E.o I) (Ν N (B.o.trans (I.M aq))));go_roundw
  .exact .inr ⟨ab,ac,rfl,rfl,rfl,j,k,W⟩
  exact gG
 .obtain⟨⟨p,r,s⟩,-,-⟩:=Β d.o.1
  have A:=d;go_wp2_with fail
  refine(Y.o _ _ _).M ?_;rintro e aD ⟨rfl,K⟩;have Z:=Zx (Ν ((Hi.own A.o.2.1).B K) (A.o.2.2.t K));go_wp2;go_ret2;exact⟨m,o,rfl,Z.o⟩
