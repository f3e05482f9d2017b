/- Part 46 of the proof. -/
import Derived.Test.YtpilfbcffofheaaGreatDoorm43
import Derived.Test.YtpilfbcffofheaaGreatDoorm44
set_option linter.unusedVariables false
set_option linter.unusedSimpArgs false
set_option maxRecDepth 100000
set_option maxHeartbeats 4000000
namespace Go.Proofs.YtpilfbcffofheaaGreatDoor
open Go.Proofs.Tryz Go.RowKit Go.Sort
open Ending renaming returned->ŗ
open Value renaming slice->D,string->š,agg->ā,pointer->þ,int->ĭ
open Obj renaming cells->C
open Option renaming none->O,some->J
open List renaming length->L
open World renaming alloc->å
theorem LJ (v:ε) (w:β):Calls prog 51 #[v,IZ 0] w fun e w'=>e=ŗ (.tuple #[v,IZ 0])/\w=w':=by
 go_enter func51,ntmps51;go_wp2;go_ret2;exact⟨rfl,rfl⟩
theorem Jc {w:β} {F:Nat} {a b:Option Addr} {c1 c2:Nat} {r1 r2:List Int} (h:w.heap[F]?=J (C #[D a (L r1) c1,D b (L r2) c2] 23 (0,0))) (d:Rd w (D a (L r1) c1) (L r1) 1 (τ r1)) (e:Rd w (D b (L r2) c2) (L r2) 1 (τ r2)):pY w (D (J ⟨F,0,O⟩) 2 2) [r1,r2]:=by
 refine⟨_,vP h rfl ϊ ώ,fun c hi=>?_⟩;have f:c=0\/c=1:=by simp at hi;omega
 rcases f with rfl|rfl
 .exact⟨_,rfl,d⟩
 .exact⟨_,rfl,e⟩
def Fk (w:β) (e:Ending) (w':β):Prop:= ∃ a,e=ŗ (.tuple #[a,IZ 0,IZ 0])/\Hi w.heap.size w' (fun b=>Rd b a 1 1 (τ [0]))/\Below w.heap.size w w'
theorem Ax (i:β) (z:Ϩ i) (x:Ϡ i) (t:γ) (b:Bool) (k:Nat) (v:L (gx Ϣ [0])=k) (u:decide (Ϣ=t)=b) (y:it t=true) (A:L t<=64) (w:b=false->ltStr Ϣ t=true) (d:β) (m:Option Addr) (pc:Nat) (f:Option Addr) (g:Nat) (p:BQ i d) (r:Rd d (D m k pc) k 1 (σ (gx Ϣ [0]))) (n:Rd d (D f (L (if b then gr [0]else[])) g) (L (if b then gr [0]else[])) 1 (η (if b then gr [0]else[]))) :
  Calls prog 104 #[š (δ (hV [(Ϣ,[0])])),IZ 2,š (δ t),ā #[IZ 1,š (δ Ϣ),š (δ []),š (δ (Ω [0])),D m k pc,D f (L (if b then gr [0]else[])) g]] d (qY (if b then[0]else[]) d):=by
 refine Ns Ϣ [] t [0] b m k pc f _ g _ d rfl u (z.below p) (x.below p) ϐ y A (fun e=>⟨w e,by rw[e];rfl⟩) (fun e=>by rw[e];rfl) v rfl (by have:=xD;cases b<;>simp;exact this) r n fun h s=>?_;have o:=n.below s;cases b with
 |true=>exact(KZ f _ g h rfl o).mono fun e B ⟨a,c,j,l,q⟩=>⟨a,c,j,l,q⟩
 |false=>exact(KY f g h o).mono fun e B ⟨j,l⟩=>⟨O,0,j,fun h _=>tr h,l⟩
theorem NW (H:Nat->Prop) (g:Nat) (al:ϰ) (f:Option Addr) (i:Nat) (w:β) (c:Ϩ w) (p:Ϡ w) (h:ht H g al ([Ϣ],[(0,1)]) w) (P:ϵ [Ϣ] [(0,1)] 1) (ag:Rd w (D f 8 i) 8 1 (η sT)) :
  Calls prog 23 #[þ (J ⟨g,0,O⟩),D f 8 i] w (Fk w):=by
 obtain⟨aD,q,h⟩:=h;have W:=Zx (Kt f i w c ag);obtain⟨t,v⟩:∃ t,L (gx Ϣ [0])=t:=⟨_,rfl⟩;obtain⟨I,K,Y,Z,aa⟩:=Az;have z:∀ s∈kw,L s.2<=100000:=ϐ;have y:∀ s∈kw,-9223372036854775808<=s.1/\s.1<=9223372036854775807:=ϐ;have B:=Zx (fun k b (a:BQ w b) (x:Rd b k (L kw) 2 (jv kw))=>Ld q.da q.dc q.sa q.sc [Ϣ] (0,1) Ϣ [] Ϣ nC [0] true false kw k b (c.below a) (p.below a) ((h.ix.below a).now.d) ((h.ix.below a).now.s) P Ay rfl rfl rfl ϐ ϐ I K ϐ ϐ Y Z xD x ϐ z y xE uI);have E:=Zx (fun k ba am bc b (a:BQ w b) (x:Rd b k (L kw) 2 (jv kw)) au ar=>GH k kw ba am bc [Ϣ] (0,1) Ϣ [] Ϣ nC [0] [0] [] [0] (gr [0]) [] t b (c.below a) (p.below a) P Ay v rfl ϐ xD ύ x ϐ z y xE uI au ar
  (fun m R pc f i j n o=>Ax b (c.below a) (p.below a) Ϣ true t v rfl I ϐ (fun e=>by cases e) m R pc f i j n o)
  (fun m R pc f i j n o=>Ax b (c.below a) (p.below a) nC false t v rfl K ϐ (fun _=>aa) m R pc f i j n o)
  ϐ ϐ ϐ ϐ
  (fun m aj aC c1 X c2 j aq n o=>(Mm k (D (J ⟨aj,0,O⟩) 2 2) kw [[0],[]] m ((c.below a).below j) (Jc aq n o) (x.below j) ϐ z y xE ϐ (by rw[uI];rfl) ϐ).mono fun e aE ⟨S,aw,ah,ax⟩=>by
   rw[FW]at ah
   exact⟨S,aw,Hi.own ah,ax⟩))
 have A:=h.row;simp only[qN]at A;obtain⟨aB,ab⟩:∃ r,iI [Ϣ] [(0,1)]=r:=⟨_,rfl⟩;rw[ab]at A E;have G:=Zx A;have ae:L ([Ϣ]:List (γ))=1:=rfl;rw[ae]at B;clear h c p P ag v I K Y Z aa z y A ab ae;obtain⟨⟨-,-,-,-,-,-,-,-,-,-,-,-⟩,-,aH⟩:=jH G.o;go_enter func23,ntmps23;go_wp2_with fail
 refine W.o.mono ?_;rintro e ai ⟨u,Q,rfl,af⟩;have F:=Zx (show Rd ai Q (L kw) 2 (jv kw)from Rd.of_own af);have T:=Zx u;have U:=Zx (B.o Q ai u F.o);obtain⟨⟨-,-,-,-,-,-,-,-,-,-,an,ao⟩,-,aA⟩:=jH (θ G.o u);clear af u B W;go_wp2_with fail
 refine U.o.mono ?_;rintro e az ⟨X,ay,av,rfl,N,M⟩;have l:=Zx (T.o.trans (M.mono T.o.size));have V:=Zx (E.o Q X ay av az l.o (F.o.below M) N.1 N.rd);clear N M an ao U E F aA;obtain⟨⟨-,-,-,-,-,-,-,-,ap,-,-,-⟩,-,aI⟩:=jH (θ G.o l.o);go_wp2_with fail
 refine V.o.mono ?_;rintro e aF ⟨S,rfl,ad,ac⟩;have ak:=Zx (Γ (ad.mono l.o.size) (l.o.trans (ac.mono l.o.size)));clear ad ac ap V;go_wp2_with fail
 refine(LJ _ _).mono ?_;rintro e aG ⟨rfl,rfl⟩;go_wp2
 go_ret3
 exact⟨S,rfl,ak.o⟩
theorem Ik {w:β} {A1 A2 A3 A4:Obj} {a:β} (g:a=å (å (å (å w A1) A2) A3) A4):a.heap[w.heap.size]?=J A1/\a.heap[w.heap.size+1]?=J A2/\a.heap[w.heap.size+1+1]?=J A3/\a.heap[w.heap.size+1+1+1]?=J A4/\a.heap.size=w.heap.size+4/\Below w.heap.size w a:=by
 subst g;have h:Below (å (å (å w A1) A2) A3).heap.size (å (å (å w A1) A2) A3) (å (å (å (å w A1) A2) A3) A4):=ġ;obtain⟨c,d,e,-,-,-,f⟩:=of h;obtain⟨b,-,-⟩:=Ϻ (w:=å (å (å w A1) A2) A3) (A:=A4) RZ;simp only[lz]at b;exact⟨c,d,e,b,ύ,f⟩
theorem HS (S I:Nat) (x0 x1 x2 c d:ε) (i:Int) (w:β) (b:w.heap[S]?=J (C #[x0,x1,x2,IZ i,c,d] 158 (0,0))) (a:w.heap[I]?=J (C #[IZ i] 3 (0,0))) :
  Calls prog 81 #[þ (J ⟨S,0,O⟩),þ (J ⟨I,0,O⟩)] w fun e w'=>e=ŗ (.bool true)/\Below w.heap.size w w':=by
 obtain⟨⟨c0,c1,c2,f,g,h⟩,-,-⟩:=fX b;obtain⟨j,-,-⟩:=gm a;clear b a;go_enter func81,ntmps81;go_wp2;go_ret;exact⟨rfl,φ _ _⟩
theorem HT (S I:Nat) (x2 x3:ε) (da:Option Addr) (nd dc:Nat) (u:Option Addr) (k pc:Nat) (docs:List (γ)) (i:Nat) (w:β) (t:Ϡ w) (hi:i<L docs) (Q:L docs<=64) (G:L docs[i]=nd) (R:nd<=2000) (b:w.heap[S]?=J (C #[IZ (L docs),š (δ (ϣ docs)),x2,x3,D da nd dc,D u k pc] 158 (0,0))) (y:w.heap[I]?=J (C #[IZ i] 3 (0,0)))
  (B:Rd w (D da nd dc) nd 1 (η docs[i])) (E:L (gG (L docs) (docs.map ϩ) i)=k) (H:Rd w (D u k pc) k 1 (σ (gG (L docs) (docs.map ϩ) i))) :
  Calls prog 82 #[þ (J ⟨S,0,O⟩),þ (J ⟨I,0,O⟩)] w fun e w'=>e=ŗ (.bool true)/\Below w.heap.size w w':=by
 have s:=(pB (L docs) (docs.map ϩ) i).1;rw[io]at s;have m:=vI (L docs) (docs.map ϩ) i (by simpa using hi) ύ;rw[io,fR,jK,Ρ hi]at m;have v:=Zx (fun c (a:Below w.heap.size w c)=>zm da nd dc docs[i] c G ϊ (B.below a) (t.below a));have o:=Zx (fun c (a:Below w.heap.size w c)=>EH (ϩ docs[i]) i (L docs) _ u k pc c (hO _) hi ϊ E s (H.below a) (pA _ _ _ (kQ _)) (t.below a));have F:Τ (docs.map ϩ)=ϣ docs:=rfl;simp only[Option.map_some,Option.getD_some]at m;rw[m,F]at o;obtain⟨⟨c0,c1,c2,x,g,h⟩,-,-⟩:=fX b;obtain⟨d,-,-⟩:=gm y;have N:=Zx b;clear b y B E H s m F t G R;generalize ϩ docs[i]=V at *;clear Q;generalize ϣ docs=W at *;generalize (L docs)=n at *;go_enter func82,ntmps82;go_upto_region 1 with (fail)
 have b:Below w.heap.size w w.drew:=RZ.drew;refine ϸ (fun P=>Below w.heap.size w P) 9 ϋ ?_;refine Zf 0 b ?_;refine Zb 1 [2,9] b ?_ (hy:=by intro c a;have d:=ζ a d;have p:=ζ a c0;have q:=ζ a g;have r:=ζ a h;go_simp;try with_reducible rfl);refine Zk 3 b ?_ (hy:=by intro c a;have d:=ζ a d;have p:=ζ a c0;have q:=ζ a g;have r:=ζ a h;go_simp;try with_reducible rfl);refine Zf 4 b ?_;refine Zf 5 b ?_;refine Zk 6 b ?_ (hy:=by intro c a;have d:=ζ a d;have p:=ζ a c0;have q:=ζ a g;have r:=ζ a h;go_simp;try with_reducible rfl);refine Zf 7 b ?_;refine Zk 8 b ?_ (hy:=by intro c a;have d:=ζ a d;have p:=ζ a c0;have q:=ζ a g;have r:=ζ a h;go_simp;try with_reducible rfl);refine Ψ (fuel:=6) 2 ϋ rfl ?_;intro K j;go_simp;refine(v.o _ b).mono ?_;rintro e T ⟨rfl,z⟩;have l:Below w.heap.size w T:=b.trans z;refine j _ _ l ?_;clear j K;try simp only[Zp]
 refine jp (fuel:=5) ϋ ϋ rfl ?_;intro K j;go_simp;refine(o.o _ l).mono ?_;rintro e U ⟨rfl,A⟩;refine j _ _ ?_;clear j K;try simp only[Zp]
 have f:Below w.heap.size w U:=l.trans (A.mono l.size);refine Zf 10 f ?_;refine Zf 11 f ?_;refine Zf 12 f ?_;refine Zf 13 f ?_;refine Zf 14 f ?_;refine Zd ?_;clear c0 c1 c2 x g h d;obtain⟨⟨c0,c1,c2,x,g,h⟩,-,-⟩:=fX (θ N.o f);have M:=Zx f;clear z A b l f v o;go_wp2;go_ret;exact⟨rfl,M.o⟩
def qT (d:γ) (w:β) (e:Ending) (w':β):Prop:= ∃ a c,e=ŗ (.tuple #[D a (L d) c,IZ 0])/\Hi w.heap.size w' (fun b=>Rd b (D a (L d) c) (L d) 1 (η d))/\Below w.heap.size w w'
theorem GI (a:Option Addr) (n c:Nat) (docs:List (γ)) (ps:List (Nat×Nat)) (i:Nat) (w:β) (o:Ϡ w) (hi:i<L docs) (aI:L docs<=64) (ak:L (mA docs ps i docs[i] (gG (L docs) (docs.map ϩ) i))=n) (al:Rd w (D a n c) n 1 (η (mA docs ps i docs[i] (gG (L docs) (docs.map ϩ) i)))) (B:ϵ docs ps (L docs)) :
  Calls prog 44 #[š (δ (iI docs ps)),IZ i,D a n c] w (qT docs[i] w):=by
 have aJ:=(pB (L docs) (docs.map ϩ) i).2;have P:=B.ld docs[i] (Χ hi);have s:=(φ w.heap.size w).alloc NZ (C #[IZ i] 3);have am:=χ w (C #[IZ i] 3);have F:=Zx (Ly a n c i docs[i] docs ps _ _ ak (al.below s) B ϊ P ϊ (pA _ _ _ (kQ _)));have W:=Zx (fun ay aF aO b (o:Ϡ b) g j M=>xH ay aF aO docs ps b o g j M B);have X:=Zx (fun l aE aP aQ da dc aN f pc b (o:Ϡ b) g j M aG aH=>HT l aE aP aQ da _ dc aN f pc docs i b o hi aI rfl P g j M aG aH);have aL:(δ (iI docs ps)).size=32:=by rw[jx,zh]
 have G:=Zx o;unfold xo at F;unfold qT;generalize gG (L docs) (docs.map ϩ) i=aS at *;generalize iI docs ps=ac at *;generalize ϣ docs=p at *;generalize Ϸ docs ps=aR at *;generalize docs[i]=U at *;generalize (L U)=nd at *;generalize(L docs:Int)=u at *;generalize (L ps)=t at *;clear ak al B o aJ P;have ad:∀ k b,(callFunc 132 k).run prog b=.ok (.enter 132 k) b:=iB func132 ϋ rfl;have ae:∀ k b,(callFunc 81 k).run prog b=.ok (.enter 81 k) b:=iB func81 ϋ rfl;have af:∀ k b,(callFunc 82 k).run prog b=.ok (.enter 82 k) b:=iB func82 ϋ rfl;have v:=Zx (Γ ad (Γ ae af));clear ad ae af;go_enter func44,ntmps44;go_wp2_with fail
 refine F.o.mono ?_;rintro e d ⟨q,c1,r,c2,I,S,K,rfl,aj,ah,N⟩;have aA:=Zx aj;have Y:=Zx (ah.mono s.size);have aa:=Zx (θ am N);have V:=Zx (s.trans (N.mono s.size));have aM:w.heap.size<d.heap.size:=ο aa.o;clear aj ah N F aL am s;go_upto_region 6 with (fail)
 obtain⟨an,-,-⟩:=Ϻ (w:=d) (A:=(C #[IZ u,š (δ p),D q t c1,IZ i,D r nd c2,D I S K] 158)) RZ;obtain⟨⟨av,aw,ax,-,-,-⟩,-,-⟩:=fX an;go_wp2_with fail
 refine(xQ _ _ _ _ _).mono ?_;rintro e T ⟨rfl,rfl⟩;go_wp2_with fail
 have aK:=Ik (w:=d) (A1:=(C #[IZ u,š (δ p),D q t c1,IZ i,D r nd c2,D I S K] 158)) (A2:=(C #[IZ u,š (δ p),D q t c1] 123)) (A3:=(C #[š (δ ac)] 9)) (A4:=(C #[.func (.func 132) #[] #[þ (J ⟨d.heap.size+1,0,O⟩),þ (J ⟨d.heap.size+1+1,0,O⟩)],.func (.func 81) #[] #[þ (J ⟨d.heap.size,0,O⟩),þ (J ⟨w.heap.size,0,O⟩)],.func (.func 82) #[] #[þ (J ⟨d.heap.size,0,O⟩),þ (J ⟨w.heap.size,0,O⟩)]] 24)) rfl;generalize(å (å (å (å d (C #[IZ u,š (δ p),D q t c1,IZ i,D r nd c2,D I S K] 158)) (C #[IZ u,š (δ p),D q t c1] 123)) (C #[š (δ ac)] 9)) (C #[.func (.func 132) #[] #[þ (J ⟨d.heap.size+1,0,O⟩),þ (J ⟨d.heap.size+1+1,0,O⟩)],.func (.func 81) #[] #[þ (J ⟨d.heap.size,0,O⟩),þ (J ⟨w.heap.size,0,O⟩)],.func (.func 82) #[] #[þ (J ⟨d.heap.size,0,O⟩),þ (J ⟨w.heap.size,0,O⟩)]] 24))=H at *;obtain⟨rS,ap,ar,ao,aX,y⟩:=aK;have aq:=θ aa.o y;have ag:=V.o.trans (y.mono (mc aM));have ai:=Y.o.below y;generalize d.heap.size=l at *;have x:=Zx ai;have E:=Zx rS;have aC:=Zx ap;have aD:=Zx ar;have aB:=Zx ao;have ab:=Zx aq;have m:=Zx ag;clear rS ap ar ao aq ag ai y av aw ax an;have Z:=Zx (xR [(132,#[þ (J ⟨l+1,0,O⟩),þ (J ⟨l+1+1,0,O⟩)]),(81,#[þ (J ⟨l,0,O⟩),þ (J ⟨w.heap.size,0,O⟩)]),(82,#[þ (J ⟨l,0,O⟩),þ (J ⟨w.heap.size,0,O⟩)])] (fun _ b=>Below H.heap.size H b) (J ⟨l+1+1+1,0,O⟩) 3 3 H rfl RZ
  (fun f b h=>vP (θ aB.o h) rfl ϊ ώ)
  (fun f R=>by
   have:f=0\/f=1\/f=2:=by simp at R;omega
   rcases this with rfl|rfl|rfl
   .exact v.o.1
   .exact v.o.2.1
   .exact v.o.2.2)
  (fun f R b h=>by
   have:f=0\/f=1\/f=2:=by simp at R;omega
   rcases this with rfl|rfl|rfl
   .exact(W.o _ _ _ b (G.o.below (m.o.trans (h.mono m.o.size))) (θ aC.o h) (θ aD.o h) (x.o.below h).now.1).mono fun e au ⟨g,j⟩=>⟨g,h.trans (j.mono h.size)⟩
   .exact(HS _ _ _ _ _ _ _ _ b (θ E.o h) (θ ab.o h)).mono fun e au ⟨g,j⟩=>⟨g,h.trans (j.mono h.size)⟩
   .exact(X.o _ _ _ _ _ _ _ _ _ b (G.o.below (m.o.trans (h.mono m.o.size))) (θ E.o h) (θ ab.o h) (x.o.below h).now.2.1 aA.o (x.o.below h).now.2.2).mono fun e au ⟨g,j⟩=>⟨g,h.trans (j.mono h.size)⟩))
 refine Z.o.mono ?_;rintro e aT ⟨rfl,z⟩;obtain⟨⟨av,aw,ax,aU,aV,aW⟩,-,-⟩:=fX (θ E.o z);have az:=Zx (Γ ((x.o.below z).imp (Q:=fun T=>Rd T (D r nd c2) nd 1 (η U)) fun T h=>h.2.1) (m.o.trans (z.mono m.o.size)));clear z Z W X v Y V G;go_wp2;go_ret2;exact⟨r,c2,rfl,az.o⟩
theorem LI (a:Option Addr) (n c:Nat) (w:β):Calls prog 43 #[D a n c,IZ 0] w fun e w'=>e=ŗ (.tuple #[D a n c,IZ 0])/\w=w':=by
 go_enter func43,ntmps43;go_wp2;go_ret2;exact⟨rfl,rfl⟩
theorem Od (H:Nat->Prop) (g:Nat) (B:ϰ) (ix:Ix) (i:Nat) (w:β) (z:Ϩ w) (p:Ϡ w) (h:ht H g B ix w) (hi:i<L ix.1) (m:L ix.1<=64) (b:ϵ ix.1 ix.2 (L ix.1)) :
  Calls prog 19 #[þ (J ⟨g,0,O⟩),IZ i] w (qT ix.1[i] w):=by
 obtain⟨ac,q,h⟩:=h;have t:=Zx (Le q.da q.dc q.sa q.sc ix.1 ix.2 i w z p h.ix.now.d h.ix.now.s b hi m);have d:=Zx (fun a n c l (S:Below w.heap.size w l) (T:L (mA ix.1 ix.2 i ix.1[i] (gG (L ix.1) (ix.1.map ϩ) i))=n) (U:Rd l (D a n c) n 1 (η (mA ix.1 ix.2 i ix.1[i] (gG (L ix.1) (ix.1.map ϩ) i))))=>GI a n c ix.1 ix.2 i l (p.below S) hi m T U b);have u:=Zx h.row;unfold qT at d ⊢;obtain⟨⟨c0,c1,c2,K,M,N,P,Q,f,R,G,I⟩,-,Y⟩:=jH h.row;generalize mA ix.1 ix.2 i ix.1[i] (gG (L ix.1) (ix.1.map ϩ) i)=aa at *;generalize ix.1[i]=Z at *;obtain⟨ab,v⟩:∃ r,iI ix.1 ix.2=r:=⟨_,rfl⟩;rw[v]at d u f;clear h z p hi m b v c0 c1 c2 K M N P Q R;go_enter func19,ntmps19;go_wp2_with fail
 refine t.o.mono ?_;rintro e X ⟨E,W,b,rfl,o,j⟩;have s:=Zx (d.o E W b X j o.1 o.rd);have k:=Zx j;clear f G I d t o;obtain⟨⟨-,-,-,-,-,-,-,-,f,-,-,-⟩,-,Y⟩:=jH (θ u.o j);clear j;go_wp2_with fail
 refine s.o.mono ?_;rintro e ad ⟨F,V,rfl,y,x⟩;have A:=Zx (Γ (y.mono k.o.size) (k.o.trans (x.mono k.o.size)));clear y x s f;go_wp2_with fail
 refine(LI _ _ _ _).mono ?_;rintro e ae ⟨rfl,rfl⟩;go_wp2;go_ret2;exact⟨F,V,rfl,A.o⟩
theorem NK:lC (mO 20) []:=⟨rfl,rfl,ga.start ϊ ϊ,rfl,rfl,ύ,rfl,by show(-9223372036854775808:Int) <= -1;omega,by show(-1:Int)<=9223372036854775807;omega⟩
theorem NU {b:ϰ} {c:Int} (h:oB (mO 20) [] (J (.doc Ϣ)) b c):lC b [.doc Ϣ]/\L b.bl=20/\b.fuse<0/\b.x=([Ϣ],[]):=by
 have m:(mO 20).x=([],[]):=rfl;have g:(mO 20).fuse = -1:=rfl;have i:L (mO 20).bl=20:=by simp[mO]
 have l:ge ([],[]) (.doc Ϣ)=J ([Ϣ],[]):=Ϟ;cases h with
 |no c d a =>
  rcases a with a|⟨f,a,h3⟩
  .cases a
  .injection a with a
   subst a;rcases h3 with h3|h3
   .rw[m,l]at h3;cases h3
   .have o:Ϥ (mO 20).bl=1152:=by unfold Ϥ;rw[i]
    have n:L (ϡ [])+L (Ev.doc Ϣ).bytes<=1152:=Ϟ;omega
 |yes f j d a h3 k =>
  injection d with d;subst d;refine⟨a,h3.trans i,k (by rw[g];omega),?_⟩;have:=a.x;have e:gH ([],[]) ([]++[Ev.doc Ϣ])=J ([Ϣ],[]):=Ϟ;rw[e]at this;exact(kF this).symm
 |lost f y j d a h3=>rw[g]at a;omega
theorem NV {b f:ϰ} {c:Int} (q:lC b [.doc Ϣ]) (i:L b.bl=20) (o:b.fuse<0) (l:b.x=([Ϣ],[])) (h:oB b [.doc Ϣ] (J .flush) f c):lC f [.doc Ϣ,.flush]/\f.x=([Ϣ],[(0,1)])/\L f.bl=20:=by
 have k:ge ([Ϣ],[]) .flush=J ([Ϣ],[(0,1)]):=Ϟ;cases h with
 |no c d a =>
  rcases a with a|⟨g,a,h3⟩
  .cases a
  .injection a with a
   subst a;rcases h3 with h3|h3
   .rw[l,k]at h3;cases h3
   .have p:Ϥ b.bl=1152:=by unfold Ϥ;rw[i]
    have n:L (ϡ [Ev.doc Ϣ])+L (Ev.flush).bytes<=1152:=Ϟ;omega
 |yes g j d a h3 m =>
  injection d with d;subst d;refine⟨a,?_,h3.trans i⟩;have:=a.x;have e:gH ([],[]) ([Ev.doc Ϣ]++[Ev.flush])=J ([Ϣ],[(0,1)]):=Ϟ;rw[e]at this;exact(kF this).symm
 |lost g y j d a h3=>omega
theorem Dx (w:β) (l:γ) (b:Array ε) (n:Nat) (c:Nat×Nat) (h:L l=n) (f:b.toList=η l) (d:n<=maxLen) (e:0<n):Rd (å w (C b 5 c)) (D (J ⟨w.heap.size,0,O⟩) n n) n 1 (η l):=by
 refine⟨by rw[oE];omega,d,.inr ⟨w.heap.size,0,n,rfl,e,NZ,d,fun a i g=>?_⟩⟩;rw[show 0+a=a from ϊ,ν _ w.heap.size a _ _ c (χ w _),<-Array.getElem?_toList,f];exact g
theorem EP (w:β) (Z:Ϩ w) (Y:Ϡ w) :
  Calls prog 5 #[] w fun e w'=>e=ŗ (.bool true)/\BQ w w':=by
 have N:=Zx (ET 20 w Z Y ϊ ϊ);have ap:((20:Nat):Int)=20:=ϊ;rw[ap]at N;have f:=Zx (Γ Z Y);have a1:∀ c:β,Sem.run prog (convert 31 31 (D (J ⟨c.heap.size,0,O⟩) 3 3)) (å c (C #[ĭ .u8 104,ĭ .u8 97,ĭ .u8 121] 5))=.ok (D (J ⟨c.heap.size,0,O⟩) 3 3) (å c (C #[ĭ .u8 104,ĭ .u8 97,ĭ .u8 121] 5 (3,3+1))):=fun c=>Lib.run_convert_bytes_const c 31 5 _ 3 3 gu nH;have a2:∀ c:β,Sem.run prog (convert 31 31 (D (J ⟨c.heap.size,0,O⟩) 8 8)) (å c (C #[ĭ .u8 104,ĭ .u8 97,ĭ .u8 121,ĭ .u8 32,ĭ .u8 124,ĭ .u8 32,ĭ .u8 111,ĭ .u8 120] 5))=.ok (D (J ⟨c.heap.size,0,O⟩) 8 8) (å c (C #[ĭ .u8 104,ĭ .u8 97,ĭ .u8 121,ĭ .u8 32,ĭ .u8 124,ĭ .u8 32,ĭ .u8 111,ĭ .u8 120] 5 (8,8+1))):=fun c=>Lib.run_convert_bytes_const c 31 5 _ 8 8 gu nH;clear Z Y ap;go_enter func5,ntmps5;go_wp2_with fail
 refine N.o.mono ?_;rintro e k ⟨g,rfl,aO,aP,aH,aq⟩;have Q:=Zx (aH (· =g) rfl (fun b h=>.inr h));have z:=Zx aq;have j:=Zx aO;clear aH aq N aP;have a:=(φ k.heap.size k).alloc NZ (C #[ĭ .u8 104,ĭ .u8 97,ĭ .u8 121] 5 (3,4));have T:=z.o.trans (a.mono z.o.size);have ak:=Zx (show Calls prog 22 #[þ (J ⟨g,0,O⟩),ā #[IZ 0,IZ 0,IZ 0,D (J ⟨k.heap.size,0,O⟩) 3 3]] _ _ from zL (· =g) g (mO 20) ([],[]) [] (J (.doc Ϣ)) 0 0 0 (J ⟨k.heap.size,0,O⟩) 3 3 _ (f.o.1.below T) (fun b d=>by have d:b=g:=d;rw[d];exact(Q.o.below a).lt) (Q.o.below a) NK ϐ ⟨⟨rfl,rfl,Dx k Ϣ _ 3 (3,4) rfl rfl ώ ϊ⟩,by simp only[Ev.ok];decide⟩);have A:=Zx T;clear a T;go_wp2_with fail
 refine ak.o.mono ?_;rintro e aK ⟨aN,c1,rfl,aE,ab,au⟩;obtain⟨aa,aD,aA,aI⟩:=NU aE;have aR:=ab.lt;have U:=au.to A.o A.o.size j.o;have al:=Zx (show Calls prog 22 #[þ (J ⟨g,0,O⟩),ā #[IZ 1,IZ 0,IZ 0,D O 0 0]] aK _ from zL (· =g) g aN ([],[]) [.doc Ϣ] (J .flush) 1 0 0 O 0 0 aK (f.o.1.below U) (fun b d=>by have d:b=g:=d;omega) ab aa ϐ ⟨rfl,by first|trivial|(simp only[Ev.ok])⟩);have B:=Zx U;clear ab au U aE ak A Q z;go_wp2_with fail
 refine al.o.mono ?_;rintro e aL ⟨n,c2,rfl,aF,ac,av⟩;obtain⟨s,aJ,aQ⟩:=NV aa aD aA aI aF;have aS:=ac.lt;have ar:=av.to B.o B.o.size j.o;have az:gU [] n.bl n.ws=n.bl:=by rw[s.ws];rfl
 have K:=Zx (wG (· =g) g n ([],[]) (D O 0 0) [] aL (fun b d=>by have d:b=g:=d;omega) ac s.dok ϊ (tr aL));rw[az]at K;have E:=Zx ar;have i:=Zx (Γ s aJ);clear ac av ar aF al B aa aD aA aI az s aJ aQ aR;go_wp2_with fail
 refine K.o.mono ?_;rintro e aX ⟨rfl,ad,aw⟩;have aT:=ad.lt;have V:=aw.to E.o E.o.size j.o;have u:=i.o.1.x;rw[i.o.2]at u;have X:=i.o.1.dok.dk;rw[i.o.1.ws]at X;have am:=Zx (zM (· =g) g _ ([],[]) 2 [.doc Ϣ,.flush] ([Ϣ],[(0,1)]) aX (f.o.1.below V) (fun b d=>by have d:b=g:=d;omega) ad X rfl i.o.1.inv i.o.1.ok u ϐ);have F:=Zx V;have M:=Zx (show ϵ [Ϣ] [(0,1)] 1 from tN jA.start u);clear ad aw V u X K E i aS;go_wp2_with fail
 refine am.o.mono ?_;rintro e aY ⟨rfl,ae,ax⟩;have aU:=ae.lt;have p:=ax.to F.o F.o.size j.o;have ah:=Zx (ER (· =g) g _ ([],[]) aY (f.o.1.below p) (f.o.2.below p) ae rfl yz M.o rfl (Ι _) (ϐ:(1:Nat)<=64));have G:=Zx p;clear ae ax p am F aT;go_wp2_with fail
 refine ah.o.mono ?_;rintro e v ⟨rfl,t,ay⟩;have aV:=t.lt;have W:=ay.to G.o G.o.size j.o;have a:=(φ v.heap.size v).alloc NZ (C #[ĭ .u8 104,ĭ .u8 97,ĭ .u8 121,ĭ .u8 32,ĭ .u8 124,ĭ .u8 32,ĭ .u8 111,ĭ .u8 120] 5 (8,9));have q:=W.trans (a.mono W.size);have ag:=Zx (NW (· =g) g _ (J ⟨v.heap.size,0,O⟩) 8 _ (f.o.1.below q) (f.o.2.below q) (t.below a) M.o (Dx v sT _ 8 (8,9) rfl rfl ώ ϊ));have H:=Zx q;have ao:=Zx (t.below a);clear t ay W a q ah G aU aV;go_wp2_with fail
 refine ag.o.mono ?_;rintro e af ⟨aW,rfl,aB,S⟩;have r:=H.o.trans (S.mono H.o.size);have P:=Zx (show Calls prog 19 #[þ (J ⟨g,0,O⟩),IZ 0] af (qT Ϣ af)from Od (· =g) g _ _ 0 af (f.o.1.below r) (f.o.2.below r) (ao.o.below S) ϐ ϐ M.o);have ai:=Zx aB;have m:=Zx r;clear S aB r ag ao H;unfold qT at P;go_wp2_with fail
 refine P.o.mono ?_;rintro e y ⟨aZ,a0,rfl,aC,o⟩;have a:=(φ y.heap.size y).alloc NZ (C #[IZ 0] 3);have aG:=χ y (C #[IZ 0] 3);have an:=Zx (Mn aW (D (J ⟨y.heap.size,0,O⟩) 1 1) 1 1 [0] [0] _ rfl rfl ((ai.o.below o).below a).now (vP aG rfl ϊ ώ));have aj:=Zx (aC.below a);have I:=Zx ((m.o.trans (o.mono m.o.size)).trans (a.mono (by have:=m.o.size;have:=o.size;omega)));clear aC o a aG P ai m;go_wp2_with fail
 refine an.o.mono ?_;rintro e a6 ⟨rfl,R⟩;have a3:=ih (l:=Ϣ) rfl (aj.o.below R).now;have b1:=hC Ϣ;have a4:(ByteArray.mk #[104,97,121]).toList=Ϣ:=by rw[wZ];rfl
 have a5:(([0]:List Int)==[0])=true:=ϐ;have aM:=Zx (I.o.trans (R.mono I.o.size));clear R an aj I;go_wp2;go_ret;exact⟨rfl,aM.o⟩
