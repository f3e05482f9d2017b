/- Part 36 of the proof. -/
import Derived.Test.YtpilfbcffofheaaGreatDoorm33
import Derived.Test.YtpilfbcffofheaaGreatDoorm35
set_option linter.unusedVariables false
set_option linter.unusedSimpArgs false
set_option maxRecDepth 100000
set_option maxHeartbeats 4000000
namespace Go.Proofs.YtpilfbcffofheaaGreatDoor
open Go.Proofs.Tryz Go.RowKit Go.Sort
open List renaming length->L
open Option renaming some->J,none->O
open Value renaming slice->D,string->š,pointer->þ,agg->ā
open Obj renaming cells->C
open World renaming alloc->å,setCell->ŝ
open Ending renaming returned->ŗ
def gA (n:Nat) (t nx d:γ) (path:List (γ)) (ds:γ):γ:=ξ n++Ζ (gj t nx d)++gq path++Ζ ds
theorem vu {t nx d:γ} (c:L t<=64) (b:L nx<=64) (a:L d=32):L (gj t nx d)<=200:=by
 have l1:=kV (l:=t) ϊ;have l2:=kV (l:=nx) ϊ;simp only[gj,ω];omega
theorem Dg {path:List (γ)} (d:L path<=64) (a:ϭ path):L (gq path)<=2100:=by
 have b:=oJ a;have c:=fQ 8 (L path) ϊ;unfold gq;simp only[ω];omega
theorem vM {n:Nat} {t nx d ds:γ} {path:List (γ)} (o:n<=1000000) (f:L t<=64) (e:L nx<=64) (c:L d=32) (b:L path<=64) (a:ϭ path) (m:L ds<=4000):L (gA n t nx d path ds)<=7000:=by
 have g:=vu f e c;have h:=Dg b a;have i:=kV (l:=gj t nx d) ϊ;have j:=kV (l:=ds) ϊ;have k:=fQ 8 n ϊ;simp only[gA,ω];omega
theorem lQ.row {g x:Nat} {w w':β} {o:Obj} (h:lQ g w w') (b:x≠g) (a:w.heap[x]?=J o/\sS g w x):w'.heap[x]?=J o/\sS g w' x:=
 have:=h x (ο a.1) b a.2
 ⟨this.1.trans a.1,this.2⟩
theorem On {d g x:Nat} {w a:β} {l:γ} (h:WS d g w l) (k:BQ w a) (p:w.heap.size<=x):sS g a x:=by
 obtain⟨o,n,c,f,i,-⟩:=h;intro m q c2 z j e;have b:=(θ f k).symm.trans j;simp only[Ο,Obj.cells.injEq,Array.mk.injEq,List.cons.injEq,Ξ]at b;obtain⟨⟨⟨rfl,rfl,rfl⟩,-⟩,-⟩:=b;have:=Ν i.2 x e;omega
theorem zU {a g:Nat} {w:β} {l:γ} (h:WS a g w l):g<w.heap.size:=by obtain⟨d,n,c,b,-,-⟩:=h;exact ο b
theorem Fa (b g f:Nat) (t nx d:γ) (u:Option Addr) (k pc:Nat) (path:List (γ)) (o:Option Addr) (c p:Nat) (ds l:γ) (w:β) (h:WS b g w l) (x:b<=g) (aW:f<=1000000) (P:L t<=64) (M:L nx<=64) (s:L d=32) (ai:L path=k) (aF:k<=64) (B:ϭ path) (am:∀ a,Below b w a->Rd a (D u k pc) k 1 (σ path)) (ah:L ds=c) (aE:c<=4000) (ag:∀ a,Below b w a->Rd a (D o c p) c 1 (η ds)) (n:L l<=100000) :
  Calls prog 175 #[þ (J ⟨g,0,O⟩),ā #[IZ f,š (δ t),š (δ nx),š (δ d),D u k pc,D o c p]] w (WP b g (l++gA f t nx d path ds) w):=by
 have aX:=zU h;have aG:b<=w.heap.size:=ϊ;obtain⟨an,a0,K⟩:=Ϻ (w:=w) (A:=C #[IZ f,š (δ t),š (δ nx),š (δ d),D u k pc,D o c p] 185) RZ;have E:=Γ an (On h K NZ);have z:w.heap.size≠g:=ϊ;have aY:=vu P M s;have l1:=kV (l:=gj t nx d) ϊ;have l2:=Dg ϊ B;have l3:=fQ 8 f ϊ;have ax:=Zx (fun l a (q:WS b g a l) (n:L l<=10000000)=>zP b g f l a q x ϊ n);have az:=Zx (fun a=>rk t nx d a P M s);have W:=Zx (fun o c p l a (q:WS b g a l) (n:L l<=10000000) (s:L (gj t nx d)=c) (aK:Rd a (D o c p) c 1 (η (gj t nx d)))=>zQ b g 200 o c p (gj t nx d) l a q x s aK ϊ ϊ n);have ay:=Zx (fun l a (I:Below b w a) (q:WS b g a l) (n:L l<=1000000)=>EZ b g u k pc path l a q x ai aF B (fun aV aD=>am _ (I.trans aD)) n);have R:=Zx (fun l a (I:Below b w a) (q:WS b g a l) (n:L l<=10000000)=>zQ b g 4000 o c p ds l a q x ah (ag _ I) aE ϊ n);have ao:=h.below K;have aH:=K.mono aG;have X:((200:Nat):Int)=200:=ϊ;have Y:((4000:Nat):Int)=4000:=ϊ;rw[X]at W;rw[Y]at R;unfold gA;generalize gj t nx d=aA at *;generalize Ζ aA=aT at *;generalize Ζ ds=aU at *;generalize gq path=aS at *;generalize ξ f=aR at *;clear h am ag B ai P M s ah X Y an;go_enter func175,ntmps175;go_upto_region 1 with (fail)
 generalize å w (C #[IZ f,š (δ t),š (δ nx),š (δ d),D u k pc,D o c p] 185)=aB at *;have r:=Zx (ax.o _ aB ao ϊ);obtain⟨⟨c0,c1,c2,i,j,m⟩,-,-⟩:=fX E.1;clear ao;go_wp2_with fail
 refine r.o.mono ?_;rintro e aN ⟨rfl,ap,aa,aj⟩;have F:=aj.row z E;have aI:=aH.trans aa;have T:=Zx F;have v:=Zx ap;clear r c0 c1 c2 i j m aa aj E ap;obtain⟨⟨c0,c1,c2,i,j,m⟩,-,-⟩:=fX F.1;clear F;go_wp2_with fail
 refine(az.o aN).mono ?_;rintro e aO ⟨aC,aM,aL,rfl,N,y⟩;have G:=(lQ.of_below y (zU v.o)).row z T.o;have aq:=v.o.below y;have aJ:=aI.trans (y.mono (by have:=zU v.o;omega));have r:=Zx (W.o aC aM aL _ aO aq ό N.1 N.rd);have U:=Zx G;clear c0 c1 c2 i j m y N aq T v;obtain⟨⟨c0,c1,c2,i,j,m⟩,-,-⟩:=fX G.1;clear G;go_wp2_with fail
 refine r.o.mono ?_;rintro e aP ⟨rfl,ar,ab,ak⟩;have H:=ak.row z U.o;have ae:=aJ.trans ab;have Q:=Zx (ay.o _ aP ae ar ό);have V:=Zx H;clear c0 c1 c2 i j m ab ak U r ar;obtain⟨⟨c0,c1,c2,i,j,m⟩,-,-⟩:=fX H.1;clear H;go_wp2_with fail
 refine Q.o.mono ?_;rintro e aQ ⟨rfl,au,ac,al⟩;have Z:=al.row z V.o;have af:=ae.trans ac;have aw:=Zx (R.o _ aQ af au ό);clear c0 c1 c2 i j m ac al V Q au;obtain⟨⟨c0,c1,c2,i,j,m⟩,-,-⟩:=fX Z.1;clear Z;go_wp2_with fail
 refine aw.o.mono ?_;rintro e aZ ⟨rfl,av,ad,-⟩;have S:=Zx (Γ av (af.trans ad));clear av ad;go_wp2
 go_returns
 exact⟨rfl,by have:=S.o.1;simpa only[gM] using this,S.o.2⟩
theorem gT.set {T:TypeId} {g lo p S:Nat} {w:β} {a:γ} (h:gT T g lo w a p) (d:S<lo) (e:S≠g) (o:Nat) (x:ε):gT T g lo (ŝ w ⟨S,o,O⟩ x) a p:=
 h.stays ύ fun b _ c=>ψ _ _ _ _ (by simp only;rcases c with h|h<;>omega)
theorem gT.stp {T:TypeId} {g lo p:Nat} {w w':β} {a:γ} (h:gT T g lo w a p) (c:BQ w w'):gT T g lo w' a p:=h.stays c.size fun b d _=>c.block b d
theorem Η.row {g S:Nat} {w w':β} {o:Obj} (h:Η g w w') (b:S≠g) (a:w.heap[S]?=J o):w'.heap[S]?=J o:=(h.2.1 S (ο a) b).trans a
theorem Hi.oneCh {g lo:Nat} {w w':β} {R:β->Prop} (h:Hi lo w R) (hg:g<lo) (a:Η g w w'):Hi lo w' R:=h.step a.1 fun b d c=>a.2.1 b c ϊ
structure kJ (g R S lo:Nat) (zr cs:Obj) (w:β) (B:γ) (p:Nat) (X:β->Prop) (W:β):Prop where
 rs:gT 238 g lo W B p
 r:W.heap[R]?=J zr
 s:W.heap[S]?=J cs
 b:Below R w W
 x:Hi lo W X
 z:lo<=W.heap.size/\R<g/\g<S/\S<lo
theorem kJ.call {g R S lo:Nat} {f e:Obj} {w:β} {b:γ} {p:Nat} {X:β->Prop} {d c:β} {q:Nat} (h:kJ g R S lo f e w b p X d) (i:gT 238 g d.heap.size c b q) (a:Η g d c):kJ g R S lo f e w b q X c:=by
 obtain⟨j,k,l,m⟩:=h.z;exact⟨i.mono j,a.row ϊ h.r,a.row ϊ h.s,a.to h.b ϊ ϊ,h.x.oneCh ϊ a,⟨by have:=a.1;omega,k,l,m⟩⟩
theorem kJ.below {g R S lo:Nat} {f e:Obj} {w:β} {b:γ} {p:Nat} {X:β->Prop} {d c:β} (h:kJ g R S lo f e w b p X d) (a:BQ d c):kJ g R S lo f e w b p X c:=by
 obtain⟨l,i,j,k⟩:=h.z;exact⟨h.rs.stp a,θ h.r a,θ h.s a,h.b.trans (a.mono ϊ),h.x.below a,⟨by have:=a.size;omega,i,j,k⟩⟩
theorem kJ.set {g R S lo:Nat} {e:Obj} {d:List ε} {T:TypeId} {w:β} {b:γ} {p:Nat} {X:β->Prop} {c:β} (h:kJ g R S lo e (C d.toArray T (0,0)) w b p X c) (k:Nat) (y:ε):kJ g R S lo e (C (d.set k y).toArray T (0,0)) w b p X (ŝ c ⟨S,k,O⟩ y):=by
 obtain⟨f,i,j,a⟩:=h.z;exact⟨h.rs.set a ϊ k y,(ψ _ _ _ _ ϑ).trans h.r,by rw[<-xa];exact π _ S k _ _ y h.s,h.b.setCell (p:=⟨S,k,O⟩) ϑ y,h.x.set (p:=⟨S,k,O⟩) a y,⟨by simpa using f,i,j,a⟩⟩
theorem kJ.setR {g R S lo:Nat} {d:Obj} {c:List ε} {T:TypeId} {w:β} {a:γ} {p:Nat} {X:β->Prop} {b:β} (h:kJ g R S lo (C c.toArray T (0,0)) d w a p X b) (k:Nat) (y:ε):kJ g R S lo (C (c.set k y).toArray T (0,0)) d w a p X (ŝ b ⟨R,k,O⟩ y):=by
 obtain⟨e,f,i,j⟩:=h.z;exact⟨h.rs.set ϊ ϊ k y,by rw[<-xa];exact π _ R k _ _ y h.r,(ψ _ _ _ _ ϑ).trans h.s,h.b.setCell (p:=⟨R,k,O⟩) NZ y,h.x.set (p:=⟨R,k,O⟩) ϑ y,⟨by simpa using e,f,i,j⟩⟩
theorem kJ.add {g R S lo:Nat} {f d:Obj} {w:β} {c:γ} {p:Nat} {X:β->Prop} {a:β} {Y:β->Prop} {b:Nat} (h:kJ g R S lo f d w c p X a) (hy:Hi b a Y) (i:lo<=b):kJ g R S lo f d w c p (fun e=>X e/\Y e) a:=
 ⟨h.rs,h.r,h.s,h.b,h.x.and (hy.mono i),h.z⟩
def xy (d1:List (γ)) (p1:List (Nat×Nat)) (d2:List (γ)) (p2:List (Nat×Nat)) (path:List (γ)) (w:β) (e:Ending) (w':β):Prop:= ∃ c c1 d c2 f a g,e=ŗ (.tuple #[ā #[IZ (L d1),š (δ (ϣ d1)),D c (L p1) c1,IZ (L d2),š (δ (ϣ d2)),D d (L p2) c2,D f a g],IZ 0])/\L path=a/\Hi w.heap.size w' (fun b=>Rd b (D c (L p1) c1) (L p1) 4 (Ϸ d1 p1)/\Rd b (D d (L p2) c2) (L p2) 4 (Ϸ d2 p2)/\Rd b (D f a g) a 1 (σ path))/\Below w.heap.size w w'
def xo (d1:List (γ)) (p1:List (Nat×Nat)) (i:Nat) (d:γ) (path:List (γ)) (w:β) (e:Ending) (w':β):Prop:= ∃ c c1 f c2 g a h,e=ŗ (.tuple #[ā #[IZ (L d1),š (δ (ϣ d1)),D c (L p1) c1,IZ i,D f (L d) c2,D g a h],IZ 0])/\L path=a/\Hi w.heap.size w' (fun b=>Rd b (D c (L p1) c1) (L p1) 4 (Ϸ d1 p1)/\Rd b (D f (L d) c2) (L d) 1 (η d)/\Rd b (D g a h) a 1 (σ path))/\Below w.heap.size w w'
theorem Lz (a:Option Addr) (n c:Nat) (d1 d2:List (γ)) (p1 p2:List (Nat×Nat)) (path:List (γ)) (w:β) (M:L (mC d1 p1 d2 p2 path)=n) (au:Rd w (D a n c) n 1 (η (mC d1 p1 d2 p2 path))) (ab:ϵ d1 p1 (L d1)) (ac:ϵ d2 p2 (L d2)) (aX:L path<=64) (ap:ϭ path) :
  Calls prog 72 #[D a n c] w (xy d1 p1 d2 p2 path w):=by
 have l1:=kV (l:=ϲ d1 p1) (by have:=jP ab;omega);have aV:=jP ab;have l2:=kV (l:=ϲ d2 p2) (by have:=jP ac;omega);have aW:=jP ac;have a0:=oJ ap;have a2:=fQ 8 (L path) ϊ;have a3:L (gq path)<=9+64*32:=by unfold gq;simp only[ω];omega
 obtain⟨i,aq⟩:∃ i,mC d1 p1 d2 p2 path=i:=⟨_,rfl⟩;rw[aq]at M au;have o:i=3::(Ζ (ϲ d1 p1)++(Ζ (ϲ d2 p2)++gq path)):=by rw[<-aq];simp[mC]
 obtain⟨ai,aH⟩:∃ q,1+L (Ζ (ϲ d1 p1))=q:=⟨_,rfl⟩;obtain⟨aw,aI⟩:∃ q,ai+L (Ζ (ϲ d2 p2))=q:=⟨_,rfl⟩;obtain⟨aj,aJ⟩:∃ q,aw+L (gq path)=q:=⟨_,rfl⟩;have aB:L i=aj:=by rw[o];simp only[Ϧ,ω];omega
 have Y:L i<=1000000000:=ϊ;have P:=Zx (fun g f (h:RS 238 g f i 1)=>vY g 1 d1 p1 i [3] (Ζ (ϲ d2 p2)++gq path) f h (by rw[o];simp) rfl Y ab);have ak:=Zx (fun g f (h:RS 238 g f i ai)=>vY g ai d2 p2 i (3::Ζ (ϲ d1 p1)) (gq path) f h (by rw[o];simp) (by rw[Ϧ];omega) Y ac);have al:=Zx (fun g f (h:RS 238 g f i aw)=>zd g aw path i (3::(Ζ (ϲ d1 p1)++Ζ (ϲ d2 p2))) [] f h (by rw[o];simp) aX ap (by rw[Ϧ,ω];omega) Y);rw[aH]at P;rw[aI]at ak;rw[aJ]at al;have Q:=Zx (fun f (h:Rd f (D a n c) n 1 (η (3::(Ζ (ϲ d1 p1)++(Ζ (ϲ d2 p2)++gq path)))))=>zj a n c 3 _ f (by rw[<-o];exact M) ϊ h);rw[<-o]at Q;have aF:(((3:UInt8).toNat:Nat):Int)=3:=ϐ;rw[aF]at Q;clear aF;obtain rfl:aj=n:=by rw[<-M,aB]
 have aO:=Zx (fun aT aU f=>rh aT aj aU f);have aP:=Zx M;unfold xy;unfold sN at P ak;unfold uD at al;generalize ϣ d1=S at *;generalize Ϸ d1 p1=a6 at *;generalize(L d1:Int)=ag at *;generalize (L p1)=ae at *;generalize ϣ d2=T at *;generalize Ϸ d2 p2=a7 at *;generalize(L d2:Int)=ah at *;generalize (L p2)=af at *;clear ab ac l2 aW ap o aH aI aJ aq aB Y l1 aV a0 a2 a3 M;obtain⟨aK,aN,G⟩:=Ϻ (w:=w) (A:=C #[IZ 0,š ⟨#[]⟩,D O 0 0,IZ 0,š ⟨#[]⟩,D O 0 0,D O 0 0] 149) RZ;have ax:=Zx (au.below G);clear au;go_enter func72,ntmps72;go_upto_region 1 with (fail)
 generalize å w (C #[IZ 0,š ⟨#[]⟩,D O 0 0,IZ 0,š ⟨#[]⟩,D O 0 0,D O 0 0] 149)=aS at *;go_wp2_with fail
 refine(Q.o aS ax.o).mono ?_;rintro e E ⟨g,rfl,aL,a1,Z⟩;have an:=Zx aL;clear aL;go_upto_region 4 with (fail)
 have aa:=(φ E.heap.size E).alloc NZ (C #[IZ 0,š ⟨#[]⟩,D O 0 0,IZ 0,š ⟨#[]⟩,D O 0 0,D O 0 0] 149);have av:=χ E (C #[IZ 0,š ⟨#[]⟩,D O 0 0,IZ 0,š ⟨#[]⟩,D O 0 0,D O 0 0] 149);have az:=Zx (an.o.below aa);have ay:=Zx (θ (θ aK Z) aa);have am:=Zx ((G.trans (Z.mono G.size)).trans (aa.mono (by have:=G.size;have:=Z.size;omega)));have aE:g<E.heap.size:=by obtain⟨_,_,_,h,-,-⟩:=an.o;exact ο h
 generalize aZ:E.heap.size=k at *;go_upto_region 5 with (fail)
 generalize å E (C #[IZ 0,š ⟨#[]⟩,D O 0 0,IZ 0,š ⟨#[]⟩,D O 0 0,D O 0 0] 149)=ao at *;have F:=Zx (show w.heap.size<g/\g<k/\k<ao.heap.size from⟨ϊ,aE,ο av⟩);have aA:=Zx av;clear aK aN G Z aa av aE aZ a1 ax Q an;go_wp2_with fail
 refine(P.o g ao az.o).mono ?_;rintro e aM ⟨U,c1,rfl,m,j,I⟩;have b:kJ g w.heap.size k ao.heap.size _ _ w i ai (fun _=>True) aM:=⟨m,j.row (by have:=F.o;omega) ay.o,j.row (by have:=F.o;omega) aA.o,j.to am.o am.o.size (by have:=F.o;omega),fun _ _=>trivial,⟨j.1,F.o⟩⟩;have b:=b.add I NZ;clear az ay aA am F P;have d:=Zx (((b.set 0 (IZ ag)).set 1 (š (δ S))).set 2 (D U ae c1));obtain⟨⟨r,s,t,x,y,z,B⟩,H,N⟩:=lY b.s;clear m j I b;go_upto_region 6 with (fail)
 generalize(ŝ (ŝ (ŝ aM ⟨k,0,O⟩ (IZ ag)) ⟨k,1,O⟩ (š (δ S))) ⟨k,2,O⟩ (D U ae c1))=aQ at *;clear r s t x y z B H N;go_wp2_with fail
 refine(ak.o g aQ (d.o.rs.rs (by have:=d.o.z;omega))).mono ?_;rintro e a4 ⟨V,c2,rfl,m,j,I⟩;have b:=d.o.call m j;have b:=b.add I d.o.z.1;clear I;clear d;have d:=Zx (((b.set 3 (IZ ah)).set 4 (š (δ T))).set 5 (D V af c2));obtain⟨⟨r,s,t,x,y,z,B⟩,H,N⟩:=lY b.s;clear m j b;go_upto_region 7 with (fail)
 generalize(ŝ (ŝ (ŝ a4 ⟨k,3,O⟩ (IZ ah)) ⟨k,4,O⟩ (š (δ T))) ⟨k,5,O⟩ (D V af c2))=aR at *;clear r s t x y z B H N;go_wp2_with fail
 refine(al.o g aR (d.o.rs.rs (by have:=d.o.z;omega))).mono ?_;rintro e a5 ⟨W,ad,X,rfl,ar,m,j⟩;have b:=d.o.call m j;have b:=b.add (Hi.own ar.2) d.o.z.1;have aY:=ar.1;clear ar;clear d;have d:=Zx (b.set 6 (D W ad X));obtain⟨⟨r,s,t,x,y,z,B⟩,H,N⟩:=lY b.s;clear m j b;go_upto_region 8 with (fail)
 generalize(ŝ a5 ⟨k,6,O⟩ (D W ad X))=a8 at *;clear r s t x y z B H N;obtain⟨a9,nx,ba,aD,aG,-⟩:=d.o.rs;obtain rfl:nx=aj:=aG.symm.trans aP.o;obtain⟨⟨r0,r1,r2⟩,-,-⟩:=Β aD;clear aD aG;go_wp2_with fail
 refine(aO.o _ _ _).mono ?_;rintro e bk ⟨rfl,aC⟩;have K:=d.o.below aC;clear r0 r1 r2 aC d;obtain⟨⟨r,s,t,x,y,z,B⟩,-,-⟩:=lY K.s;obtain⟨⟨bc,bd,be,bf,bg,bh,bi⟩,bb,aN⟩:=lY K.r;go_upto_region 12 with (fail)
 have R:=Zx (((((((K.setR 0 (IZ ag)).setR 1 (š (δ S))).setR 2 (D U ae c1)).setR 3 (IZ ah)).setR 4 (š (δ T))).setR 5 (D V af c2)).setR 6 (D W ad X));clear K;go_wp2;refine ϟ (v:=.tuple #[ā #[IZ ag,š (δ S),D U ae c1,IZ ah,š (δ T),D V af c2,D W ad X],IZ 0]) (gf (p:=2) (u:=3) (ty:=149) rfl _ _ w.heap.size 149 _ (0,0) _ rfl R.o.r underlying149 rfl ϋ) rfl ?_;exact⟨_,_,_,_,_,_,_,rfl,aY,(R.o.x.imp fun bj h=>⟨h.1.1.2,h.1.2,h.2⟩).mono (by have:=R.o.z;omega),R.o.b⟩
theorem Ly (a:Option Addr) (n c:Nat) (i:Nat) (d:γ) (d1:List (γ)) (p1:List (Nat×Nat)) (path:List (γ)) (w:β) (Q:L (mA d1 p1 i d path)=n) (aq:Rd w (D a n c) n 1 (η (mA d1 p1 i d path))) (ac:ϵ d1 p1 (L d1)) (a3:i<=1000000) (bh:L d<=2000) (a0:L path<=64) (an:ϭ path) :
  Calls prog 80 #[D a n c] w (xo d1 p1 i d path w):=by
 have l1:=kV (l:=ϲ d1 p1) (by have:=jP ac;omega);have aZ:=jP ac;have l2:=kV (l:=d) ϊ;have ba:=fQ 8 i ϊ;have a5:=oJ an;have a7:=fQ 8 (L path) ϊ;have a8:L (gq path)<=9+64*32:=by unfold gq;simp only[ω];omega
 obtain⟨k,ao⟩:∃ k,mA d1 p1 i d path=k:=⟨_,rfl⟩;rw[ao]at Q aq;have s:k=2::(Ζ (ϲ d1 p1)++(ξ i++(Ζ d++gq path))):=by rw[<-ao];simp[mA]
 obtain⟨ag,aI⟩:∃ q,1+L (Ζ (ϲ d1 p1))=q:=⟨_,rfl⟩;obtain⟨av,aL⟩:∃ q,ag+L (ξ i)=q:=⟨_,rfl⟩;obtain⟨au,aJ⟩:∃ q,av+L (Ζ d)=q:=⟨_,rfl⟩;obtain⟨ah,aK⟩:∃ q,au+L (gq path)=q:=⟨_,rfl⟩;have aB:L k=ah:=by rw[s];simp only[Ϧ,ω];omega
 have M:L k<=1000000000:=ϊ;have S:=Zx (fun g j (h:RS 238 g j k 1)=>vY g 1 d1 p1 k [2] (ξ i++(Ζ d++gq path)) j h (by rw[s];simp) rfl M ac);have aj:=Zx (fun g j (h:RS 238 g j k ag)=>zb g ag i k (2::Ζ (ϲ d1 p1)) (Ζ d++gq path) j h (by rw[s];simp) ϊ (by rw[Ϧ];omega) M);have T:=Zx (fun g j (h:RS 238 g j k av)=>vR g av 2000 d k (2::(Ζ (ϲ d1 p1)++ξ i)) (gq path) j h (by rw[s];simp) ϊ (by rw[Ϧ,ω];omega) M);have ai:=Zx (fun g j (h:RS 238 g j k au)=>zd g au path k (2::(Ζ (ϲ d1 p1)++(ξ i++Ζ d))) [] j h (by rw[s];simp) a0 an (by simp only[Ϧ,ω];omega) M);rw[aI]at S;have aA:((2000:Nat):Int)=2000:=ϊ;rw[aA]at T;clear aA;rw[aL]at aj;rw[aJ]at T;rw[aK]at ai;have U:=Zx (fun j (h:Rd j (D a n c) n 1 (η (2::(Ζ (ϲ d1 p1)++(ξ i++(Ζ d++gq path))))))=>zj a n c 2 _ j (by rw[<-s];exact Q) ϊ h);rw[<-s]at U;have aG:(((2:UInt8).toNat:Nat):Int)=2:=ϐ;rw[aG]at U;clear aG;obtain rfl:ah=n:=by rw[<-Q,aB]
 have aQ:=Zx (fun aX aY j=>rh aX ah aY j);have aR:=Zx Q;unfold xo;unfold sN at S;unfold uD at ai;unfold RP at T aj;generalize ϣ d1=W at *;generalize Ϸ d1 p1=bd at *;generalize(L d1:Int)=af at *;generalize (L p1)=ae at *
 skip
 clear ac l2 ba a3 an s aI aJ aK ao aB M l1 aZ a5 a7 a8 Q aL;obtain⟨aM,aP,N⟩:=Ϻ (w:=w) (A:=C #[IZ 0,š ⟨#[]⟩,D O 0 0,IZ 0,D O 0 0,D O 0 0] 158) RZ;have aw:=Zx (aq.below N);clear aq;go_enter func80,ntmps80;go_upto_region 1 with (fail)
 generalize å w (C #[IZ 0,š ⟨#[]⟩,D O 0 0,IZ 0,D O 0 0,D O 0 0] 158)=aV at *;go_wp2_with fail
 refine(U.o aV aw.o).mono ?_;rintro e H ⟨g,rfl,aN,a6,aa⟩;have al:=Zx aN;clear aN;go_upto_region 4 with (fail)
 have ab:=(φ H.heap.size H).alloc NZ (C #[IZ 0,š ⟨#[]⟩,D O 0 0,IZ 0,D O 0 0,D O 0 0] 158);have ar:=χ H (C #[IZ 0,š ⟨#[]⟩,D O 0 0,IZ 0,D O 0 0,D O 0 0] 158);have ay:=Zx (al.o.below ab);have ax:=Zx (θ (θ aM aa) ab);have ak:=Zx ((N.trans (aa.mono N.size)).trans (ab.mono (by have:=N.size;have:=aa.size;omega)));have aF:g<H.heap.size:=by obtain⟨_,_,_,h,-,-⟩:=al.o;exact ο h
 generalize a2:H.heap.size=r at *;go_upto_region 5 with (fail)
 generalize å H (C #[IZ 0,š ⟨#[]⟩,D O 0 0,IZ 0,D O 0 0,D O 0 0] 158)=am at *;have I:=Zx (show w.heap.size<g/\g<r/\r<am.heap.size from⟨ϊ,aF,ο ar⟩);have az:=Zx ar;clear aM aP N aa ab ar aF a2 a6 aw U al;go_wp2_with fail
 refine(S.o g am ay.o).mono ?_;rintro e aO ⟨X,c1,rfl,o,m,P⟩;have b:kJ g w.heap.size r am.heap.size _ _ w k ag (fun _=>True) aO:=⟨o,m.row (by have:=I.o;omega) ax.o,m.row (by have:=I.o;omega) az.o,m.to ak.o ak.o.size (by have:=I.o;omega),fun _ _=>trivial,⟨m.1,I.o⟩⟩;have b:=b.add P NZ;clear ay ax az ak I S;have f:=Zx (((b.set 0 (IZ af)).set 1 (š (δ W))).set 2 (D X ae c1));obtain⟨⟨t,x,y,z,B,E⟩,F,G⟩:=fX b.s;clear o m P b;go_upto_region 6 with (fail)
 generalize(ŝ (ŝ (ŝ aO ⟨r,0,O⟩ (IZ af)) ⟨r,1,O⟩ (š (δ W))) ⟨r,2,O⟩ (D X ae c1))=aS at *;clear t x y z B E F G;go_wp2_with fail
 refine(aj.o g aS (f.o.rs.rs (by have:=f.o.z;omega))).mono ?_;rintro e bc ⟨rfl,-,m,o⟩;have b:=f.o.call o m;clear f;have f:=Zx (b.set 3 (IZ i));obtain⟨⟨t,x,y,z,B,E⟩,F,G⟩:=fX b.s;clear o m b;go_upto_region 7 with (fail)
 generalize(ŝ bc ⟨r,3,O⟩ (IZ i))=aT at *;clear t x y z B E F G;go_wp2_with fail
 refine(T.o g aT (f.o.rs.rs (by have:=f.o.z;omega))).mono ?_;rintro e R ⟨rfl,-,m,o⟩;have b:=f.o.call o m;obtain⟨c2,aW,a4,aD,P,a9⟩:=qH R d (L d) rfl ϊ;have b:=(b.below aD).add P (by have:=b.z;omega);clear aD P a9;clear f;have f:=Zx (b.set 4 (D (J ⟨R.heap.size,0,O⟩) (L d) c2));obtain⟨⟨t,x,y,z,B,E⟩,F,G⟩:=fX b.s;clear o m b;go_upto_region 8 with (fail)
 generalize(ŝ aW ⟨r,4,O⟩ (D (J ⟨R.heap.size,0,O⟩) (L d) c2))=aU at *;clear t x y z B E F G a4;go_wp2_with fail
 refine(ai.o g aU (f.o.rs.rs (by have:=f.o.z;omega))).mono ?_;rintro e bb ⟨Y,ad,Z,rfl,ap,o,m⟩;have b:=f.o.call o m;have b:=b.add (Hi.own ap.2) f.o.z.1;have a1:=ap.1;clear ap;clear f;have f:=Zx (b.set 5 (D Y ad Z));obtain⟨⟨t,x,y,z,B,E⟩,F,G⟩:=fX b.s;clear o m b;go_upto_region 9 with (fail)
 generalize(ŝ bb ⟨r,5,O⟩ (D Y ad Z))=be at *;clear t x y z B E F G;obtain⟨bf,nx,bg,aE,aH,-⟩:=f.o.rs;obtain rfl:nx=ah:=aH.symm.trans aR.o;obtain⟨⟨r0,r1,r2⟩,-,-⟩:=Β aE;clear aE aH;go_wp2_with fail
 refine(aQ.o _ _ _).mono ?_;rintro e bq ⟨rfl,aC⟩;have K:=f.o.below aC;clear r0 r1 r2 aC f;obtain⟨⟨t,x,y,z,B,E⟩,-,-⟩:=fX K.s;obtain⟨⟨bj,bk,bl,bm,bn,bo⟩,bi,aP⟩:=fX K.r;go_upto_region 13 with (fail)
 have V:=Zx ((((((K.setR 0 (IZ af)).setR 1 (š (δ W))).setR 2 (D X ae c1)).setR 3 (IZ i)).setR 4 (D (J ⟨R.heap.size,0,O⟩) (L d) c2)).setR 5 (D Y ad Z));clear K;go_wp2;refine ϟ (v:=.tuple #[ā #[IZ af,š (δ W),D X ae c1,IZ i,D (J ⟨R.heap.size,0,O⟩) (L d) c2,D Y ad Z],IZ 0]) (gf (p:=2) (u:=3) (ty:=158) rfl _ _ w.heap.size 158 _ (0,0) _ rfl V.o.r underlying158 rfl ϋ) rfl ?_;exact⟨_,_,_,_,_,_,_,rfl,a1,(V.o.x.imp fun bp h=>⟨h.1.1.2,h.1.2,h.2⟩).mono (by have:=V.o.z;omega),V.o.b⟩
theorem DC (a:Option Addr) (n c:Nat) (t nx d:γ) (w:β) (o:L (gj t nx d)=n) (aK:Rd w (D a n c) n 1 (η (gj t nx d))) (a5:L t<=64) (aW:L nx<=64) (aT:L d=32) :
  Calls prog 172 #[D a n c] w fun e w'=>e=ŗ (.tuple #[ā #[š (δ t),š (δ nx),š (δ d)],IZ 0])/\BQ w w':=by
 have l1:=kV (l:=t) ϊ;have l2:=kV (l:=nx) ϊ;obtain⟨g,aE⟩:∃ g,gj t nx d=g:=⟨_,rfl⟩;rw[aE]at o aK;have au:g=[]++(Ζ t++(Ζ nx++d)):=by rw[<-aE];simp[gj]
 have aD:g=Ζ t++(Ζ nx++d):=by rw[au];simp
 have aP:g=(Ζ t++Ζ nx)++(d++[]):=by rw[au];simp
 obtain⟨p1,aJ⟩:∃ q,L (Ζ t)=q:=⟨_,rfl⟩;obtain⟨p2,a0⟩:∃ q,p1+L (Ζ nx)=q:=⟨_,rfl⟩;have aU:p2+32=n:=by rw[<-o,aD];simp only[ω];omega
 have aq:=Zx (fun s n c r (o:L g=n) (h:Rd r (D s n c) n 1 (η g))=>uS s n c 0 g [] _ t 64 r au a5 rfl o ϊ h);have ar:=Zx (fun s n c r (o:L g=n) (h:Rd r (D s n c) n 1 (η g))=>uS s n c p1 g _ _ nx 64 r aD aW aJ o ϊ h);have az:=Zx (fun s n c r (o:L g=n) (h:Rd r (D s n c) n 1 (η g))=>xV s n c p2 g _ [] d r aP aT (by rw[ω];omega) o ϊ h);rw[jJ,aJ]at aq;rw[a0]at ar;rw[aU]at az;have aO:((64:Nat):Int)=64:=ϊ;rw[aO]at aq ar;have aN:=Zx (fun s be r=>rh s n be r);have a8:=Zx o;clear aE au aD aP aJ a0 aU l1 l2 aO a5 aW aT;obtain⟨Q,R,bg,bt,bu,bv,aF⟩:=of (w:=w) (A:=C #[š ⟨#[]⟩,š ⟨#[]⟩,š ⟨#[]⟩] 183) (Z:=C #[š ⟨#[]⟩,š ⟨#[]⟩,š ⟨#[]⟩] 183) (Y:=C #[D a n c,IZ 0,IZ 0] 211) RZ;have bh:=DP (T:=211) aK (by omega:w.heap.size<=w.heap.size+1+1) aF o bg;clear aK o;go_enter func172,ntmps172;go_upto_region 3 with (fail)
 generalize(å (å (å w (C #[š ⟨#[]⟩,š ⟨#[]⟩,š ⟨#[]⟩] 183)) (C #[š ⟨#[]⟩,š ⟨#[]⟩,š ⟨#[]⟩] 183)) (C #[D a n c,IZ 0,IZ 0] 211))=aC at *;obtain⟨ba,U,c1,aw,aG,aX⟩:=bh;have bl:=ο aw;have i:=Zx aw;have y:=Zx aG;have x:=Zx (aq.o ba U c1 aC aG aX.now);have j:=Zx Q;have k:=Zx R;have f:=Zx aF;have al:w.heap.size+1<aC.heap.size:=ο R;obtain⟨⟨K,M,N⟩,-,ap⟩:=Β aw;clear aw aG aX Q R aF;go_wp2_with fail
 refine x.o.mono ?_;rintro e am ⟨b1,af,rfl,E,b⟩;have B:=(pE (p:=p1) i.o b y.o E).2.2;have z:=B.set (S:=w.heap.size+1) al ϊ 0 (š (δ t));have m:=θ k.o b;have F:=θ j.o b;have G:=θ i.o b;have I:(ŝ (ŝ (ŝ (ŝ am ⟨w.heap.size+1+1,0,O⟩ (D b1 U af)) ⟨w.heap.size+1+1,1,O⟩ (IZ (p1:Int))) ⟨w.heap.size+1+1,2,O⟩ (IZ 0)) ⟨w.heap.size+1,0,O⟩ (š (δ t))).heap[w.heap.size+1]?=J (C #[š (δ t),š ⟨#[]⟩,š ⟨#[]⟩] 183 (0,0)):=by
  refine π _ _ 0 _ _ _ (show(ŝ (ŝ (ŝ am ⟨w.heap.size+1+1,0,O⟩ (D b1 U af)) ⟨w.heap.size+1+1,1,O⟩ (IZ (p1:Int))) ⟨w.heap.size+1+1,2,O⟩ (IZ 0)).heap[w.heap.size+1]?=J (C #[š ⟨#[]⟩,š ⟨#[]⟩,š ⟨#[]⟩] 183 (0,0))from ?_);rw[ψ _ _ _ _ ύ,ψ _ _ _ _ ύ,ψ _ _ _ _ ύ];exact m
 have H:(ŝ (ŝ (ŝ (ŝ am ⟨w.heap.size+1+1,0,O⟩ (D b1 U af)) ⟨w.heap.size+1+1,1,O⟩ (IZ (p1:Int))) ⟨w.heap.size+1+1,2,O⟩ (IZ 0)) ⟨w.heap.size+1,0,O⟩ (š (δ t))).heap[w.heap.size]?=J (C #[š ⟨#[]⟩,š ⟨#[]⟩,š ⟨#[]⟩] 183 (0,0)):=by
  rw[ψ _ _ _ _ ύ,ψ _ _ _ _ ό,ψ _ _ _ _ ό,ψ _ _ _ _ ό];exact F
 have aQ:=(((((f.o.trans (b.mono f.o.size)).setCell (p:=⟨w.heap.size+1+1,0,O⟩) ϑ (D b1 U af)).setCell (p:=⟨w.heap.size+1+1,1,O⟩) ϑ (IZ (p1:Int))).setCell (p:=⟨w.heap.size+1+1,2,O⟩) ϑ (IZ 0)).setCell (p:=⟨w.heap.size+1,0,O⟩) ϑ (š (δ t)));have a6:aC.heap.size<=am.heap.size:=b.size;obtain⟨⟨ac,ad,ae⟩,⟨P,f1,f2⟩,-⟩:=Β G;obtain⟨⟨X,aa,ab⟩,⟨ai,aj,ak⟩,-⟩:=Β m;clear K M N E b B m F G x i y j k f ap;go_upto_region 4 with (fail)
 generalize ŝ (ŝ (ŝ (ŝ am ⟨w.heap.size+1+1,0,O⟩ (D b1 U af)) ⟨w.heap.size+1+1,1,O⟩ (IZ (p1:Int))) ⟨w.heap.size+1+1,2,O⟩ (IZ 0)) ⟨w.heap.size+1,0,O⟩ (š (δ t))=aA at *;clear ac ad ae P f1 f2 X aa ab ai aj ak;have bi:=z.rs bl;have a1:=H;have aL:=I;clear z H I;obtain⟨bb,V,c2,ax,aH,aY⟩:=bi;have bm:=ο ax;have i:=Zx ax;have y:=Zx aH;have x:=Zx (ar.o bb V c2 aA aH aY.now);have j:=Zx a1;have k:=Zx aL;have f:=Zx aQ;have al:w.heap.size+1<aA.heap.size:=ο aL;obtain⟨⟨K,M,N⟩,-,ap⟩:=Β ax;clear ax aH aY a1 aL aQ;go_wp2_with fail
 refine x.o.mono ?_;rintro e an ⟨b2,ag,rfl,E,b⟩;have B:=(pE (p:=p2) i.o b y.o E).2.2;have z:=B.set (S:=w.heap.size+1) al ϊ 1 (š (δ nx));have m:=θ k.o b;have F:=θ j.o b;have G:=θ i.o b;have I:(ŝ (ŝ (ŝ (ŝ an ⟨w.heap.size+1+1,0,O⟩ (D b2 V ag)) ⟨w.heap.size+1+1,1,O⟩ (IZ (p2:Int))) ⟨w.heap.size+1+1,2,O⟩ (IZ 0)) ⟨w.heap.size+1,1,O⟩ (š (δ nx))).heap[w.heap.size+1]?=J (C #[š (δ t),š (δ nx),š ⟨#[]⟩] 183 (0,0)):=by
  refine π _ _ 1 _ _ _ (show(ŝ (ŝ (ŝ an ⟨w.heap.size+1+1,0,O⟩ (D b2 V ag)) ⟨w.heap.size+1+1,1,O⟩ (IZ (p2:Int))) ⟨w.heap.size+1+1,2,O⟩ (IZ 0)).heap[w.heap.size+1]?=J (C #[š (δ t),š ⟨#[]⟩,š ⟨#[]⟩] 183 (0,0))from ?_);rw[ψ _ _ _ _ ύ,ψ _ _ _ _ ύ,ψ _ _ _ _ ύ];exact m
 have H:(ŝ (ŝ (ŝ (ŝ an ⟨w.heap.size+1+1,0,O⟩ (D b2 V ag)) ⟨w.heap.size+1+1,1,O⟩ (IZ (p2:Int))) ⟨w.heap.size+1+1,2,O⟩ (IZ 0)) ⟨w.heap.size+1,1,O⟩ (š (δ nx))).heap[w.heap.size]?=J (C #[š ⟨#[]⟩,š ⟨#[]⟩,š ⟨#[]⟩] 183 (0,0)):=by
  rw[ψ _ _ _ _ ύ,ψ _ _ _ _ ό,ψ _ _ _ _ ό,ψ _ _ _ _ ό];exact F
 have aR:=(((((f.o.trans (b.mono f.o.size)).setCell (p:=⟨w.heap.size+1+1,0,O⟩) ϑ (D b2 V ag)).setCell (p:=⟨w.heap.size+1+1,1,O⟩) ϑ (IZ (p2:Int))).setCell (p:=⟨w.heap.size+1+1,2,O⟩) ϑ (IZ 0)).setCell (p:=⟨w.heap.size+1,1,O⟩) ϑ (š (δ nx)));have a6:aA.heap.size<=an.heap.size:=b.size;obtain⟨⟨ac,ad,ae⟩,⟨P,f1,f2⟩,-⟩:=Β G;obtain⟨⟨X,aa,ab⟩,⟨ai,aj,ak⟩,-⟩:=Β m;clear K M N E b B m F G x i y j k f ap;go_upto_region 5 with (fail)
 generalize ŝ (ŝ (ŝ (ŝ an ⟨w.heap.size+1+1,0,O⟩ (D b2 V ag)) ⟨w.heap.size+1+1,1,O⟩ (IZ (p2:Int))) ⟨w.heap.size+1+1,2,O⟩ (IZ 0)) ⟨w.heap.size+1,1,O⟩ (š (δ nx))=aB at *;clear ac ad ae P f1 f2 X aa ab ai aj ak;have bj:=z.rs bm;have a2:=H;have aM:=I;clear z H I;obtain⟨bc,W,bd,ay,aI,aZ⟩:=bj;have bn:=ο ay;have i:=Zx ay;have y:=Zx aI;have x:=Zx (az.o bc W bd aB aI aZ.now);have j:=Zx a2;have k:=Zx aM;have f:=Zx aR;have al:w.heap.size+1<aB.heap.size:=ο aM;obtain⟨⟨K,M,N⟩,-,ap⟩:=Β ay;clear ay aI aZ a2 aM aR;go_wp2_with fail
 refine x.o.mono ?_;rintro e ao ⟨b3,ah,rfl,E,b⟩;have B:=(pE (p:=n) i.o b y.o E).2.2;have z:=B.set (S:=w.heap.size+1) al ϊ 2 (š (δ d));have m:=θ k.o b;have F:=θ j.o b;have G:=θ i.o b;have I:(ŝ (ŝ (ŝ (ŝ ao ⟨w.heap.size+1+1,0,O⟩ (D b3 W ah)) ⟨w.heap.size+1+1,1,O⟩ (IZ (n:Int))) ⟨w.heap.size+1+1,2,O⟩ (IZ 0)) ⟨w.heap.size+1,2,O⟩ (š (δ d))).heap[w.heap.size+1]?=J (C #[š (δ t),š (δ nx),š (δ d)] 183 (0,0)):=by
  refine π _ _ 2 _ _ _ (show(ŝ (ŝ (ŝ ao ⟨w.heap.size+1+1,0,O⟩ (D b3 W ah)) ⟨w.heap.size+1+1,1,O⟩ (IZ (n:Int))) ⟨w.heap.size+1+1,2,O⟩ (IZ 0)).heap[w.heap.size+1]?=J (C #[š (δ t),š (δ nx),š ⟨#[]⟩] 183 (0,0))from ?_);rw[ψ _ _ _ _ ύ,ψ _ _ _ _ ύ,ψ _ _ _ _ ύ];exact m
 have H:(ŝ (ŝ (ŝ (ŝ ao ⟨w.heap.size+1+1,0,O⟩ (D b3 W ah)) ⟨w.heap.size+1+1,1,O⟩ (IZ (n:Int))) ⟨w.heap.size+1+1,2,O⟩ (IZ 0)) ⟨w.heap.size+1,2,O⟩ (š (δ d))).heap[w.heap.size]?=J (C #[š ⟨#[]⟩,š ⟨#[]⟩,š ⟨#[]⟩] 183 (0,0)):=by
  rw[ψ _ _ _ _ ύ,ψ _ _ _ _ ό,ψ _ _ _ _ ό,ψ _ _ _ _ ό];exact F
 have aS:=(((((f.o.trans (b.mono f.o.size)).setCell (p:=⟨w.heap.size+1+1,0,O⟩) ϑ (D b3 W ah)).setCell (p:=⟨w.heap.size+1+1,1,O⟩) ϑ (IZ (n:Int))).setCell (p:=⟨w.heap.size+1+1,2,O⟩) ϑ (IZ 0)).setCell (p:=⟨w.heap.size+1,2,O⟩) ϑ (š (δ d)));have a6:aB.heap.size<=ao.heap.size:=b.size;obtain⟨⟨ac,ad,ae⟩,⟨P,f1,f2⟩,-⟩:=Β G;obtain⟨⟨X,aa,ab⟩,⟨ai,aj,ak⟩,-⟩:=Β m;clear K M N E b B m F G x i y j k f ap;go_upto_region 6 with (fail)
 generalize ŝ (ŝ (ŝ (ŝ ao ⟨w.heap.size+1+1,0,O⟩ (D b3 W ah)) ⟨w.heap.size+1+1,1,O⟩ (IZ (n:Int))) ⟨w.heap.size+1+1,2,O⟩ (IZ 0)) ⟨w.heap.size+1,2,O⟩ (š (δ d))=bp at *;clear ac ad ae P f1 f2 X aa ab ai aj ak;have bk:=z.rs bn;have a3:=H;have a4:=I;clear z H I;obtain⟨bq,bo,br,aV,bf,-⟩:=bk;obtain rfl:bo=n:=bf.symm.trans a8.o;obtain⟨⟨K,M,N⟩,-,-⟩:=Β aV;have j:=Zx a3;have k:=Zx a4;have f:=Zx aS;clear aV a3 a4 aS aq ar az;go_wp2_with fail
 refine(aN.o _ _ _).mono ?_;rintro e bs ⟨rfl,av⟩;have R:=θ k.o av;have Q:=θ j.o av;have a9:=Zx (jg Q (š (δ t)) (š (δ nx)) (š (δ d)));have a7:=Zx (kL (f.o.trans (av.mono f.o.size)) (Nat.le_refl w.heap.size) (š (δ t)) (š (δ nx)) (š (δ d)));obtain⟨⟨ac,ad,ae⟩,-,-⟩:=Β R;obtain⟨⟨X,aa,ab⟩,⟨P,f1,f2⟩,-⟩:=Β Q;clear K M N Q R av j k f aN;go_wp2;refine ϟ (v:=.tuple #[ā #[š (δ t),š (δ nx),š (δ d)],IZ 0]) (gf (p:=2) (u:=3) (ty:=183) rfl _ _ w.heap.size 183 _ (0,0) _ rfl a9.o underlying183 rfl ϋ) rfl ?_;exact⟨rfl,a7.o⟩
def xm (T:TypeId) (g:Nat) (a:γ) (p:Nat) (t nx d:γ) (w:β) (e:Ending) (w':β):Prop:=e=ŗ (ā #[š (δ t),š (δ nx),š (δ d)])/\gT T g w.heap.size w' a p/\Η g w w'
theorem Ls (g p:Nat) (t nx d:γ) (i pre post:γ) (w:β) (h:RS 238 g w i p) (I:i=pre++(Ζ (gj t nx d)++post)) (W:L pre=p) (V:L i<=1000000000) (y:L t<=64) (u:L nx<=64) (q:L d=32) :
  Calls prog 232 #[þ (J ⟨g,0,O⟩)] w (xm 238 g i (p+L (Ζ (gj t nx d))) t nx d w):=by
 have aI:=vu y u q;obtain⟨X,aF,Q⟩:=Ϻ (w:=w) (A:=C #[š ⟨#[]⟩,š ⟨#[]⟩,š ⟨#[]⟩] 183) RZ;have l:=Zx (vR g p 200 (gj t nx d) i pre post _ (h.below Q) I ϊ W V);have H:((200:Nat):Int)=200:=ϊ;rw[H]at l;have E:=Zx (fun a n c F (aB:L (gj t nx d)=n) (aD:Rd F (D a n c) n 1 (η (gj t nx d)))=>DC a n c t nx d F aB aD y u q);have aJ:g<w.heap.size:=by obtain⟨a,n,c,az,-,-⟩:=h;exact ο az
 unfold xm;generalize p+L (Ζ (gj t nx d))=p1 at *;generalize gj t nx d=B at *;clear h I W V H y u q;go_enter func232,ntmps232;go_upto_region 1 with (fail)
 generalize å w (C #[š ⟨#[]⟩,š ⟨#[]⟩,š ⟨#[]⟩] 183)=aw at *;go_wp2_with fail
 refine l.o.mono ?_;rintro e ae ⟨rfl,-,k,aE⟩;obtain⟨G,aa,Z,r,aC,T⟩:=aE;have Y:=(k.2.1 _ aF ϊ).trans X;obtain⟨aH,ax,aA,P,U,z⟩:=qH ae B (L B) rfl ϊ;have ao:=Zx (E.o _ _ _ ax rfl U.now);have ak:=Zx k;have am:=Zx r;have aq:=Zx T;have ai:=Zx P;have au:=Zx Y;have aK:=k.1;have av:=Zx z;clear z;obtain⟨⟨c0,c1,c2⟩,⟨m,f1,f2⟩,aG⟩:=Β r;clear k r T U P X Y E l;go_wp2_with fail
 refine ao.o.mono ?_;rintro e b ⟨rfl,f⟩;have aj:=Zx f;clear aA f;go_upto_region 5 with (fail)
 have f:=aj.o;have aL:=f.size;have z:=av.o;have x:=χ b (C #[š (δ t),š (δ nx),š (δ d)] 183);have j:BQ ae (å b (C #[š (δ t),š (δ nx),š (δ d)] 183)):=(ai.o.trans (f.mono ϊ)).alloc ϊ _;have s:=θ am.o j;have N:=θ au.o j;have S:(ŝ (å b (C #[š (δ t),š (δ nx),š (δ d)] 183)) ⟨g,2,O⟩ (IZ 0)).heap[g]?=J (C #[D G aa Z,IZ (p1:Int),IZ 0] 238 (0,0)):=π _ g 2 _ _ _ s;have o:=(ψ (å b (C #[š (δ t),š (δ nx),š (δ d)] 183)) ⟨g,2,O⟩ w.heap.size (IZ 0) ϑ).trans N;have K:=(ψ (å b (C #[š (δ t),š (δ nx),š (δ d)] 183)) ⟨g,2,O⟩ b.heap.size (IZ 0) ϑ).trans x;have M:=(aq.o.below j).set (p:=⟨g,2,O⟩) (ϊ:g<aw.heap.size) (IZ 0);have R:=((((Η.refl g w).below Q).trans ak.o).below j).set 2 (IZ 0);obtain⟨⟨ab,ac,ad⟩,⟨m,f1,f2⟩,aG⟩:=Β s;obtain⟨⟨af,ag,ah⟩,-,-⟩:=Β x;clear s N x f j;go_upto_region 6 with (fail)
 clear ab ac ad m f1 f2 af ag ah;generalize ŝ (å b (C #[š (δ t),š (δ nx),š (δ d)] 183)) ⟨g,2,O⟩ (IZ 0)=ay at *;have ar:=Zx (jg o (š (δ t)) (š (δ nx)) (š (δ d)));have an:=Zx ((kj ay w.heap.size g ϊ (š (δ t)) (š (δ nx)) (š (δ d))).trans S);have ap:=Zx (lr M (g:=w.heap.size) ϊ (š (δ t)) (š (δ nx)) (š (δ d)));have al:=Zx (((R.hi NZ 0 (š (δ t))).hi NZ 1 (š (δ nx))).hi NZ 2 (š (δ d)));obtain⟨⟨af,ag,ah⟩,-,-⟩:=Β K;obtain⟨⟨ab,ac,ad⟩,⟨m,f1,f2⟩,-⟩:=Β o;clear S o K M R c0 c1 c2;go_wp2;refine ϟ (v:=ā #[š (δ t),š (δ nx),š (δ d)]) (jX (p:=2) (ty:=183) rfl _ _ w.heap.size 183 _ (0,0) _ rfl ar.o underlying183 rfl ϋ) rfl ?_;exact⟨rfl,⟨G,aa,Z,an.o,aC,ap.o.mono ϊ⟩,al.o⟩
def xq (T:TypeId) (g:Nat) (j:γ) (p k:Nat) (t nx d:γ) (path:List (γ)) (ds:γ) (w:β) (e:Ending) (w':β):Prop:= ∃ c a pc f b h,e=ŗ (ā #[IZ k,š (δ t),š (δ nx),š (δ d),D c a pc,D f b h])/\L path=a/\L ds=b/\Hi w.heap.size w' (fun i=>Rd i (D c a pc) a 1 (σ path)/\Rd i (D f b h) b 1 (η ds))/\gT T g w.heap.size w' j p/\Η g w w'
theorem kU {w:β} {g:Nat} {T:TypeId} {a b c d e f:ε} (h:w.heap[g]?=J (C #[a,b,c,d,e,f] T (0,0))) (y:ε):(ŝ w ⟨g,0,O⟩ y).heap[g]?=J (C #[y,b,c,d,e,f] T (0,0))/\(ŝ w ⟨g,1,O⟩ y).heap[g]?=J (C #[a,y,c,d,e,f] T (0,0))/\(ŝ w ⟨g,2,O⟩ y).heap[g]?=J (C #[a,b,y,d,e,f] T (0,0))/\(ŝ w ⟨g,3,O⟩ y).heap[g]?=J (C #[a,b,c,y,e,f] T (0,0))/\(ŝ w ⟨g,4,O⟩ y).heap[g]?=J (C #[a,b,c,d,y,f] T (0,0))/\(ŝ w ⟨g,5,O⟩ y).heap[g]?=J (C #[a,b,c,d,e,y] T (0,0)):=
 ⟨π _ g 0 _ _ _ h,π _ g 1 _ _ _ h,π _ g 2 _ _ _ h,π _ g 3 _ _ _ h,π _ g 4 _ _ _ h,π _ g 5 _ _ _ h⟩
structure lm (g R S lo:Nat) (zr cs:Obj) (w:β) (B:γ) (p:Nat) (X:β->Prop) (W:β):Prop where
 rs:gT 238 g lo W B p
 r:W.heap[R]?=J zr
 s:W.heap[S]?=J cs
 o:Η g w W
 x:Hi lo W X
 z:lo<=W.heap.size/\g<w.heap.size/\w.heap.size<=R/\w.heap.size<=S/\R<lo/\S<lo/\R≠S
theorem lm.call {g R S lo:Nat} {f e:Obj} {w:β} {b:γ} {p q:Nat} {X:β->Prop} {d c:β} (h:lm g R S lo f e w b p X d) (i:gT 238 g d.heap.size c b q) (a:Η g d c):lm g R S lo f e w b q X c:=by
 obtain⟨j,k,l,m,n,o,r⟩:=h.z;exact⟨i.mono j,a.row ϊ h.r,a.row ϊ h.s,h.o.trans a,h.x.oneCh ϊ a,⟨by have:=a.1;omega,k,l,m,n,o,r⟩⟩
theorem lm.below {g R S lo:Nat} {f e:Obj} {w:β} {b:γ} {p:Nat} {X:β->Prop} {d c:β} (h:lm g R S lo f e w b p X d) (a:BQ d c):lm g R S lo f e w b p X c:=by
 obtain⟨o,i,j,k,l,m,n⟩:=h.z;exact⟨h.rs.stp a,θ h.r a,θ h.s a,h.o.below a,h.x.below a,⟨by have:=a.size;omega,i,j,k,l,m,n⟩⟩
theorem lm.set {g R S lo:Nat} {f i d:Obj} {w:β} {c:γ} {p:Nat} {X:β->Prop} {a:β} (h:lm g R S lo f i w c p X a) (k:Nat) (y:ε) (j:(ŝ a ⟨S,k,O⟩ y).heap[S]?=J d):lm g R S lo f d w c p X (ŝ a ⟨S,k,O⟩ y):=by
 obtain⟨l,m,n,e,o,b,q⟩:=h.z;exact⟨h.rs.set b ϊ k y,(ψ _ _ _ _ ϑ).trans h.r,j,h.o.hi e k y,h.x.set b y,⟨by simpa using l,m,n,e,o,b,q⟩⟩
theorem lm.setR {g R S lo:Nat} {q d f:Obj} {w:β} {c:γ} {p:Nat} {X:β->Prop} {a:β} (h:lm g R S lo q d w c p X a) (k:Nat) (y:ε) (i:(ŝ a ⟨R,k,O⟩ y).heap[R]?=J f):lm g R S lo f d w c p X (ŝ a ⟨R,k,O⟩ y):=by
 obtain⟨j,l,e,m,b,n,o⟩:=h.z;exact⟨h.rs.set b ϊ k y,i,(ψ _ _ _ _ ϑ).trans h.s,h.o.hi e k y,h.x.set b y,⟨by simpa using j,l,e,m,b,n,o⟩⟩
theorem lm.add {g R S lo:Nat} {f d:Obj} {w:β} {c:γ} {p:Nat} {X Y:β->Prop} {a:β} (h:lm g R S lo f d w c p X a) {b:Nat} (hy:Hi b a Y) (i:lo<=b):lm g R S lo f d w c p (fun e=>X e/\Y e) a:=
 ⟨h.rs,h.r,h.s,h.o,h.x.and (hy.mono i),h.z⟩
theorem Dz (g p b:Nat) (t nx d:γ) (path:List (γ)) (ds:γ) (f pre post:γ) (w:β) (h:RS 238 g w f p) (av:f=pre++(gA b t nx d path ds++post)) (aK:L pre=p) (H:L f<=1000000000) (bd:b<=1000000) (aR:L t<=64) (aJ:L nx<=64) (aC:L d=32) (a0:L path<=64) (ar:ϭ path) (bb:L ds<=4000) :
  Calls prog 177 #[þ (J ⟨g,0,O⟩)] w (xq 238 g f (p+L (gA b t nx d path ds)) b t nx d path ds w):=by
 obtain⟨aP,aQ,a8,a9,ay⟩:=fU (w:=w) (A:=C #[IZ 0,š ⟨#[]⟩,š ⟨#[]⟩,š ⟨#[]⟩,D O 0 0,D O 0 0] 185) (Z:=C #[IZ 0,š ⟨#[]⟩,š ⟨#[]⟩,š ⟨#[]⟩,D O 0 0,D O 0 0] 185) RZ;have a3:g<w.heap.size:=by obtain⟨a,n,c,aZ,-,-⟩:=h;exact ο aZ
 have F:f=pre++(ξ b++(Ζ (gj t nx d)++(gq path++(Ζ ds++post)))):=by rw[av];simp[gA]
 obtain⟨X,aL⟩:∃ q,p+L (ξ b)=q:=⟨_,rfl⟩;obtain⟨aj,aM⟩:∃ q,X+L (Ζ (gj t nx d))=q:=⟨_,rfl⟩;obtain⟨ak,aN⟩:∃ q,aj+L (gq path)=q:=⟨_,rfl⟩;obtain⟨a6,aO⟩:∃ q,ak+L (Ζ ds)=q:=⟨_,rfl⟩;have aD:p+L (gA b t nx d path ds)=a6:=by simp only[gA,ω];omega
 have M:=Zx (fun i (h:RS 238 g i f p)=>zb g p b f pre _ i h F ϊ aK H);have N:=Zx (fun i (h:RS 238 g i f X)=>Ls g X t nx d f (pre++ξ b) (gq path++(Ζ ds++post)) i h (by rw[F];simp) (by rw[ω];omega) H aR aJ aC);have P:=Zx (fun i (h:RS 238 g i f aj)=>zd g aj path f (pre++(ξ b++Ζ (gj t nx d))) (Ζ ds++post) i h (by rw[F];simp) a0 ar (by simp only[ω];omega) H);have Q:=Zx (fun i (h:RS 238 g i f ak)=>vR g ak 4000 ds f (pre++(ξ b++(Ζ (gj t nx d)++gq path))) post i h (by rw[F];simp) ϊ (by simp only[ω];omega) H);have au:((4000:Nat):Int)=4000:=ϊ;rw[au,aO]at Q;rw[aN]at P;rw[aM]at N;rw[aL]at M;rw[aD];unfold RP at M Q;unfold xm at N;unfold uD at P;unfold xq;have a2:L ds<=70368744177664:=ϊ;have aw:=h.below ay;have am:=Zx aw;have al:=Zx aP;have an:=Zx aQ;have aU:=Zx ay;clear h av F aK H aR aJ aC ar au aD aL aM aN aO aw aP aQ;go_enter func177,ntmps177;go_upto_region 2 with (fail)
 generalize(å (å w (C #[IZ 0,š ⟨#[]⟩,š ⟨#[]⟩,š ⟨#[]⟩,D O 0 0,D O 0 0] 185)) (C #[IZ 0,š ⟨#[]⟩,š ⟨#[]⟩,š ⟨#[]⟩,D O 0 0,D O 0 0] 185))=aq at *;generalize bc:w.heap.size+1=s at *;go_wp2_with fail
 refine(M.o aq am.o).mono ?_;rintro e aS ⟨rfl,-,G,aF⟩;have y:lm g w.heap.size s aq.heap.size _ _ w f X (fun _=>True) aS:=⟨aF,G.row ϊ al.o,G.row ϊ an.o,((Η.refl g w).below aU.o).trans G,fun _ _=>trivial,⟨G.1,a3,NZ,ϊ,a8,a9,ϊ⟩⟩;have ac:=Zx (y.set 0 (IZ b) (kU y.s _).1);have bl:=y.z;obtain⟨⟨j,k,l,m,o,r⟩,u,x⟩:=fX y.s;clear G aF y al an am M;go_upto_region 3 with (fail)
 generalize ŝ aS ⟨s,0,O⟩ (IZ b)=aV at *;clear j k l m o r u x;go_wp2_with fail
 refine(N.o aV (ac.o.rs.rs ϊ)).mono ?_;rintro e aT ⟨rfl,aG,az⟩;have S:=ac.o.call aG az;have Y:=S.set 1 (š (δ t)) (kU S.s _).2.1;have aa:=Y.set 2 (š (δ nx)) (kU Y.s _).2.2.1;have V:=Zx (aa.set 3 (š (δ d)) (kU aa.s _).2.2.2.1);obtain⟨⟨j,k,l,m,o,r⟩,u,x⟩:=fX S.s;clear aG az S Y aa ac N;go_upto_region 4 with (fail)
 generalize ŝ (ŝ (ŝ aT ⟨s,1,O⟩ (š (δ t))) ⟨s,2,O⟩ (š (δ nx))) ⟨s,3,O⟩ (š (δ d))=aW at *;clear j k l m o r u x;go_wp2_with fail
 refine(P.o aW (V.o.rs.rs ϊ)).mono ?_;rintro e a7 ⟨B,I,E,rfl,ai,aH,aA⟩;have T:=(V.o.call aH aA).add (Hi.own ai.2) V.o.z.1;have ad:=Zx (T.set 4 (D B I E) (kU T.s _).2.2.2.2.1);have a4:=ai.1;obtain⟨⟨j,k,l,m,o,r⟩,u,x⟩:=fX T.s;clear aH aA T V ai P;go_upto_region 5 with (fail)
 generalize ŝ a7 ⟨s,4,O⟩ (D B I E)=aX at *;clear j k l m o r u x;go_wp2_with fail
 refine(Q.o aX (ad.o.rs.rs ϊ)).mono ?_;rintro e K ⟨rfl,-,aB,aI⟩;have ab:=ad.o.call aI aB;obtain⟨W,aY,a1,ax,aE,a5⟩:=qH K ds (L ds) rfl a2;have U:=(ab.below ax).add aE ab.z.1;have ao:=Zx (U.set 5 (D (J ⟨K.heap.size,0,O⟩) (L ds) W) (kU U.s _).2.2.2.2.2);obtain⟨⟨j,k,l,m,o,r⟩,u,x⟩:=fX U.s;clear aI aB ab U ad Q ax aE a5;go_upto_region 6 with (fail)
 generalize ŝ aY ⟨s,5,O⟩ (D (J ⟨K.heap.size,0,O⟩) (L ds) W)=ba at *;clear j k l m o r u x a1;have z:=ao.o;have K1:=z.setR 0 (IZ b) (kU z.r _).1;have ae:=K1.setR 1 (š (δ t)) (kU K1.r _).2.1;have af:=ae.setR 2 (š (δ nx)) (kU ae.r _).2.2.1;have ag:=af.setR 3 (š (δ d)) (kU af.r _).2.2.2.1;have ah:=ag.setR 4 (D B I E) (kU ag.r _).2.2.2.2.1;have ap:=ah.setR 5 (D (J ⟨K.heap.size,0,O⟩) (L ds) W) (kU ah.r _).2.2.2.2.2;have R:=Zx ap;obtain⟨⟨j,k,l,m,o,r⟩,-,-⟩:=fX z.s;obtain⟨⟨bf,bg,bh,bi,bj,bk⟩,be,bm⟩:=fX z.r;clear z K1 ae af ag ah ap ao;go_wp2;refine ϟ (v:=ā #[IZ b,š (δ t),š (δ nx),š (δ d),D B I E,D (J ⟨K.heap.size,0,O⟩) (L ds) W]) (jX (p:=2) (ty:=185) rfl _ _ w.heap.size 185 _ (0,0) _ rfl R.o.r underlying185 rfl ϋ) rfl ?_;exact⟨B,I,E,_,_,_,rfl,a4,rfl,(R.o.x.imp fun aT h=>⟨h.1.2,h.2⟩).mono ϊ,R.o.rs.mono ϊ,R.o.o⟩
theorem Bz (v:ε) (f:Nat) (d:List υ) (t:γ) (w:β) (N:Ϩ w) (h:fY w v (f+1) d) (P:∀ e∈d,L e.1<=100000) (M:iq d=true) (K:∀ e∈d,ltStr t e.1=false) :
  Calls prog 171 #[v,š (δ t)] w fun e w'=>e=ŗ (.tuple #[IZ (f:Int),.bool (decide ((d.getD f ([],[])).1=t))])/\BQ w w':=by
 have u:=h.1;have p:=Zx (yd v (f+1) d w N h P);rw[M]at p;have o:=Zx (fun q (W:BQ w q)=>(h.below W));obtain⟨ad,c,rfl,Y,-⟩:=iF h;obtain⟨n,y⟩:∃ n,n=f+1:=⟨_,rfl⟩;rw[<-y]at h u Y p o ⊢;have F:=Zx y;clear y;have B:=Zx u;have E:=Zx (fun a (I:a<L d)=>K d[a] (Χ I));clear N h P M K u;go_enter func171,ntmps171;go_wp2_with fail
 refine p.o.mono ?_;rintro e aj ⟨rfl,X⟩;go_wp2_with fail
 go_loopw [6,14] (fun T A wr=>∃ a:Nat,a<=n/\A=IZ a/\T=IZ ((a:Int) - 1)/\BQ w wr) (fun _ A _=>n - (intOf A).toNat)
 case atStart=>exact⟨0,Ι _,rfl,rfl,X⟩
 case round =>
  obtain⟨a,I,rfl,rfl,g⟩:=hrel;by_cases af:a<n
  .have r:a<L d:=by have:=B.o;omega
   obtain⟨S,U,m,-,j⟩:=iF (o.o wr g);simp only[Ξ,Ϯ]at m;obtain⟨rfl,rfl⟩:=m;obtain⟨b,off,da,dc,rfl,l,ae,-⟩:=j.o a r;have Z:(a:Int)<(n:Int):=ϊ;have ai:(0:Int)<=(a:Int):=ϊ;have s:=E.o a r;unfold ϴ at l;generalize d[a].1=x at *;generalize (L d[a].2)=aa at *;have k:=Zx (g.alloc g.size (C #[š (δ x),D da aa dc] 130));have b1:=hC t;have b2:=hC x;by_cases i:x=t
   .subst i
    have ab:Op.bytesLess x x=false:=by rw[<-b1,qy];exact s
    have ac:(x==x)=true:=ύ;clear s j g;go_wp2_with fail
    exact⟨⟨a+1,ϊ,ϕ,ύ,k.o⟩,by simp[intOf];omega⟩
   .have ab:Op.bytesLess x t=true:=by rw[<-b1,<-b2,qy];exact yI s (fun e=>i e.symm)
    clear s j g;go_wp2_with fail
    exact⟨⟨a+1,ϊ,ϕ,ύ,k.o⟩,by simp[intOf];omega⟩
  .obtain rfl:a=n:=ϊ
   have r:f<L d:=by have:=B.o;have:=F.o;omega
   obtain⟨S,U,m,-,j⟩:=iF (o.o wr g);simp only[Ξ,Ϯ]at m;obtain⟨rfl,rfl⟩:=m;obtain⟨b,off,da,dc,rfl,l,-,-⟩:=j.o f r;unfold ϴ at l;obtain⟨x,z⟩:∃ x,d[f].1=x:=⟨_,rfl⟩;rw[z]at l;have G:=Zx z;clear z;have H:(a:Int) - 1=(f:Int):=by have:=F.o;omega
   rw[H];have Q:=Zx g;have Z:¬(a:Int)<(a:Int):=ϊ;have ag:(0:Int)<=(f:Int):=ϊ;have ah:(f:Int)<(a:Int):=ϊ;have b1:=hC t;have b2:=hC x;clear j H g p o E;go_upto_region 10 with (fail)
   have V:=ζ ((φ wr.heap.size wr).drew) l;go_region_held3 (fun q=>BQ wr q/\q.cell? ⟨b,off+f*2,O⟩=J (š (δ x))) (first|exact⟨RZ.drew,V⟩|assumption) (fail)
   have k:=Zx (Q.o.drew);by_cases i:x=t
   .subst i
    go_wp2;go_ret2;exact⟨by rw[kr G.o];rfl,k.o⟩
   .have ac:(x==t)=false:=gl.2 i
    have R:=Zx i;clear i;go_wp2;go_ret2;exact⟨by rw[iC (show ¬d[f].1=t by rw[G.o];exact R.o)];rfl,k.o⟩
def Ah (l:List Int) (w:β) (e:Ending) (w':β):Prop:= ∃ a c,e=ŗ (D a (L l) c)/\Hi w.heap.size w' (fun b=>Rd b (D a (L l) c) (L l) 1 (τ l))/\Below w.heap.size w w'
theorem Hw (v:ε) (a:Nat) (d:List υ) (t:γ) (l:List Int) (w:β) (B:Ϩ w) (h:fY w v (a+1) d) (E:∀ e∈d,L e.1<=100000) (z:iq d=true) (y:∀ e∈d,ltStr t e.1=false) (i:d[a]?=J (t,l)) (P:L l<=100000) :
  Calls prog 174 #[v,š (δ t)] w (Ah l w):=by
 have M:=h.1;have o:a<L d:=ϊ;have x:d[a]=(t,l):=by rw[Ρ o]at i;exact kF i
 have k:=Zx (Bz v a d t w B h E z y);have A:decide ((d.getD a ([],[])).1=t)=true:=kr (by rw[fR,i];rfl);rw[A]at k;have g:=Zx (fun m (K:BQ w m)=>show ∃ f b off da dc c,v=D f (a+1) c/\f=J ⟨b,off,O⟩/\m.cell? ⟨b,off+a*2+1,O⟩=J (D da (L l) dc)/\Rd m (D da (L l) dc) (L l) 1 (τ l)by
  obtain⟨f,c,N,-,g⟩:=iF (h.below K)
  obtain⟨b,off,da,dc,I,-,r,s⟩:=g.o a o
  rw[x]at r s
  exact⟨f,b,off,da,dc,c,N,I,r,s⟩)
 have Q:(0:Int)<=(a:Int):=ϊ;have R:(a:Int)<(a:Int)+1:=ϊ;clear B h E z y i A x o M;go_enter func174,ntmps174;go_wp2_with fail
 refine k.o.mono ?_;rintro e F ⟨rfl,n⟩;obtain⟨f,b,off,da,dc,c,rfl,rfl,c1,r1⟩:=g.o F n;have q:=Zx (uQ (D da (L l) dc) (L l) (τ l) F r1 (tq _) ϊ);have j:=Zx n;clear r1 n g k;go_wp2_with fail
 refine q.o.mono ?_;rintro e T ⟨S,rfl,p,u⟩;obtain⟨H,c2,rfl⟩:=Θ p;have G:=Zx (Γ ((Hi.own p).mono j.o.size) (j.o.trans (u.mono j.o.size)));clear p u q;go_wp2;go_ret;exact⟨H,c2,rfl,G.o⟩
theorem xR (a:List (Nat×Array ε)) (I:Nat->β->Prop) (m:Option Addr) (n c:Nat) (w:β) (t:L a=n) (h:I 0 w)
  (j:∀ k d,I k d->Rd d (D m n c) n 1 (a.map fun f=>.func (.func f.1) #[] f.2))
  (r:∀ k (s:k<L a),∀ args d,(callFunc a[k].1 args).run prog d=.ok (.enter a[k].1 args) d)
  (p:∀ k (s:k<L a) d,I k d->Calls prog a[k].1 a[k].2 d (fun e w'=>e=ŗ (.bool true)/\I (k+1) w')) :
  Calls prog 73 #[D m n c] w fun e w'=>e=ŗ (IZ 0)/\I n w':=by
 have E:=Zx j;have A:=Zx r;have y:=Zx p;have v:=Zx h;have B:=Zx t;have Q:n<=9223372036854775807:=by have:=(j 0 w h).2.1;unfold maxLen at this;omega
 clear j r p h t;go_enter func73,ntmps73;go_wp2_with fail
 go_loopw [7] (fun l wr=>∃ k:Nat,k<=n/\l=IZ k/\Ϭ (I k wr)) (fun l _=>n - (intOf l).toNat)
 case atStart=>exact⟨0,Ι _,rfl,v⟩
 case round =>
  obtain⟨k,s,rfl,g⟩:=hrel;by_cases P:k<n
  .have i:k<L a:=by have:=B.o;omega
   have G:(k:Int)<(n:Int):=ϊ;have N:(0:Int)<=(k:Int):=ϊ;obtain⟨-,-,⟨-,-,-,S⟩|⟨b,off,H,u,-,R,M,q⟩⟩:=E.o k wr g.o
   .omega
   simp only[Ξ,Ϯ]at u;obtain⟨rfl,rfl⟩:=u;have c1:=q k (.func (.func a[k].1) #[] a[k].2) (by simp[i]);have F:=A.o k i;have z:=Zx (y.o k i wr g.o);generalize a[k].1=f at *;generalize a[k].2=K at *;clear q;go_wp2_with fail
   refine z.o.mono ?_;rintro e T ⟨rfl,o⟩;have x:=Zx o;clear o F c1;go_wp2_with fail
   go_roundw;case rel=>exact⟨k+1,ϊ,ϕ,x⟩
   case measure=>simp[intOf];omega
  .obtain rfl:k=n:=ϊ
   have G:¬(k:Int)<(k:Int):=ϊ;go_wp2;go_ret;exact⟨rfl,g.o⟩
theorem xQ (x0 x1 x2:ε) (r:ByteArray) (w:β) :
  Calls prog 74 #[ā #[x0,x1,x2],š r] w fun e w'=>e=ŗ (.func (.func 132) #[] #[þ (J ⟨w.heap.size,0,O⟩),þ (J ⟨w.heap.size+1,0,O⟩)])/\w'=å (å w (C #[x0,x1,x2] 123)) (C #[š r] 9):=by
 go_enter func74,ntmps74;go_wp2;go_ret;exact⟨rfl,rfl⟩
theorem xH (H Q:Nat) (v:ε) (docs:List (γ)) (ps:List (Nat×Nat)) (w:β) (g:Ϡ w) (b:w.heap[H]?=J (C #[IZ (L docs),š (δ (ϣ docs)),v] 123 (0,0))) (c:w.heap[Q]?=J (C #[š (δ (iI docs ps))] 9 (0,0))) (f:Rd w v (L ps) 4 (Ϸ docs ps)) (d:ϵ docs ps (L docs)) :
  Calls prog 132 #[þ (J ⟨H,0,O⟩),þ (J ⟨Q,0,O⟩)] w fun e w'=>e=ŗ (.bool true)/\BQ w w':=by
 have i:=Zx (yy v docs ps w g f d);have j:=Zx c;obtain⟨⟨c0,c1,c2⟩,-,-⟩:=Β b;generalize iI docs ps=l at *;generalize ϣ docs=k at *;generalize(L docs:Int)=m at *;clear b c f d g;go_enter func132,ntmps132;go_wp2_with fail
 refine i.o.mono ?_;rintro e o ⟨rfl,a⟩;obtain⟨n,-,-⟩:=gm (θ j.o a);have h:=Zx a;clear c0 c1 c2 a;go_wp2;go_ret;exact⟨rfl,h.o⟩
theorem FM (S:Nat) (x2 t:ε) (a:Option Addr) (k pc:Nat) (d1 d2:List (γ)) (w:β) (l:Ϡ w) (c:w.heap[S]?=J (C #[IZ (L d1),š (δ (ϣ d1)),x2,IZ (L d2),š (δ (ϣ d2)),t,D a k pc] 149 (0,0))) (f:L (gv (d2.map ϩ) (L d1))=k) (j:Rd w (D a k pc) k 1 (σ (gv (d2.map ϩ) (L d1)))) (r:L d2<=64) (i:d1=d2.take (L d1)) (s:L d1<=L d2) :
  Calls prog 75 #[þ (J ⟨S,0,O⟩)] w fun e w'=>e=ŗ (.bool true)/\BQ w w':=by
 have b:=Zx (Hj (d2.map ϩ) (L d1) (L d2) a k pc w ύ (kQ _) r s f j l);have g:Τ ((d2.map ϩ).take (L d1))=ϣ d1:=by rw[<-List.map_take,<-i];rfl
 have h:Τ (d2.map ϩ)=ϣ d2:=rfl;rw[g,h]at b;obtain⟨⟨c0,c1,c2,n,o,p,q⟩,-,-⟩:=lY c;generalize ϣ d1=u at *;generalize ϣ d2=v at *;generalize(L d1:Int)=x at *;generalize(L d2:Int)=y at *;clear g h c j i l f;go_enter func75,ntmps75;go_wp2_with fail
 refine b.o.mono ?_;rintro e z ⟨rfl,d⟩;have m:=Zx d;clear d c0 c1 c2 n o p q;go_wp2;go_ret;exact⟨rfl,m.o⟩
theorem FN (S a:Nat) (x0 x1 x2 v t z:ε) (d2:List (γ)) (p2:List (Nat×Nat)) (w:β) (k:Ϡ w) (g:w.heap[S]?=J (C #[x0,x1,x2,IZ (L d2),š (δ (ϣ d2)),v,t] 149 (0,0))) (f:w.heap[a]?=J (C #[z] 9 (0,0))) (j:Rd w v (L p2) 4 (Ϸ d2 p2)) (i:ϵ d2 p2 (L d2)) :
  Calls prog 77 #[þ (J ⟨S,0,O⟩),þ (J ⟨a,0,O⟩)] w fun e w'=>e=ŗ (.bool true)/\w'.heap[a]?=J (C #[š (δ (iI d2 p2))] 9 (0,0))/\Η a w w':=by
 have l:=Zx (yy v d2 p2 w k j i);have n:=Zx f;obtain⟨⟨c0,c1,c2,o,p,q,r⟩,-,-⟩:=lY g;generalize iI d2 p2=b at *;generalize ϣ d2=u at *;generalize(L d2:Int)=x at *;clear g f j i k;go_enter func77,ntmps77;go_wp2_with fail
 refine l.o.mono ?_;rintro e s ⟨rfl,c⟩;have d:=θ n.o c;have h:(ŝ s ⟨a,0,O⟩ (š (δ b))).heap[a]?=J (C #[š (δ b)] 9 (0,0)):=π _ a 0 _ _ _ d;have m:=Zx (Γ h (((Η.refl a w).below c).set 0 (š (δ b))));obtain⟨A,y,B⟩:=gm d;clear c0 c1 c2 o p q r c d h;go_wp2;go_ret;exact⟨rfl,m.o⟩
structure pj (S G H Q F:Nat) (rS rH rQ rF:Array ε) (r2:γ) (R:β->Prop) (w:β) (k:Nat) (W:β):Prop where
 s:W.heap[S]?=J (C rS 149 (0,0))
 g:W.heap[G]?=J (C #[š (δ (if k=3 then r2 else[]))] 9 (0,0))
 h:W.heap[H]?=J (C rH 123 (0,0))
 q:W.heap[Q]?=J (C rQ 9 (0,0))
 f:W.heap[F]?=J (C rF 24 (0,0))
 r:ς (· =G) W R
 b:BQ w W
theorem pj.next {S b H Q F:Nat} {rS f g e:Array ε} {r2:γ} {R:β->Prop} {w:β} {k:Nat} {c d:β} (h:pj S b H Q F rS f g e r2 R w k c) (i:k<2) (a:BQ c d):pj S b H Q F rS f g e r2 R w (k+1) d:=
 ⟨θ h.s a,by
  have:=θ h.g a
  rw[κ ϊ]at this
  rw[κ ϊ];exact this,θ h.h a,θ h.q a,θ h.f a,h.r.below a,h.b.trans (a.mono h.b.size)⟩
theorem pj.last {S a H Q F:Nat} {rS f g e:Array ε} {r2:γ} {R:β->Prop} {w:β} {d c:β} (h:pj S a H Q F rS f g e r2 R w 2 d) (i:w.heap.size<=a) (l:S≠a) (j:H≠a) (k:Q≠a) (hF:F≠a) (hg:c.heap[a]?=J (C #[š (δ r2)] 9 (0,0))) (b:Η a d c):pj S a H Q F rS f g e r2 R w 3 c:=
 ⟨b.row l h.s,by rw[μ rfl];exact hg,b.row j h.h,b.row k h.q,b.row hF h.f,h.r.oneCh rfl b,b.to h.b h.b.size i⟩
