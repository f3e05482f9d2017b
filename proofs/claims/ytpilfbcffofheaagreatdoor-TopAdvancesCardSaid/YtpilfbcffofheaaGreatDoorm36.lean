/- Part 36 of the proof. -/
import Derived.Test.YtpilfbcffofheaaGreatDoorm26
set_option linter.all false
set_option maxRecDepth 100000
set_option maxHeartbeats 16000000
namespace Go.Proofs.YtpilfbcffofheaaGreatDoor
open Go.RowKit Go.Proofs.Tryz Go.Sort
open Value renaming slice->D,int->ĭ,agg->ā,string->š,pointer->þ
open Option renaming none->O,some->J
open List renaming length->L
open Obj renaming cells->C
open Ending renaming returned->ŗ
open World renaming alloc->å,setCell->ŝ
def hJ (n:Nat) (t b d:γ) (a:List (γ)) (c:γ):γ:=ο n++Ξ (gJ t b d)++gT a++Ξ c
def xk {t nx d:γ} (c:L t<=64) (b:L nx<=64) (a:L d=32):L (gJ t nx d)<=200:=by
 have l1:=lE (l:=t) U;have l2:=lE (l:=nx) U;simp only[gJ,σ];omega
def Ew {a:List (γ)} (e:L a<=64) (b:ϱ a):L (gT a)<=2100:=by
 have c:=pS b;have d:=Ϸ 8 (L a) U;unfold gT;simp only[σ];omega
def xz {n t nx d ds} {a:List (γ)} (p:n<=1000000) (g:L t<=64) (f:L nx<=64) (e:L d=32) (c:L a<=64) (b:ϱ a) (o:L ds<=4000):L (hJ n t nx d a ds)<=7000:=by
 have h:=xk g f e;have i:=Ew c b;have j:=lE (l:=gJ t nx d) U;have k:=lE (l:=ds) U;have m:=Ϸ 8 n U;simp only[hJ,σ];omega
def mH.row {g x} {w c:β} {o} (h:mH g w c) (b:x≠g) (a:w.heap[x]?=J o/\uw g w x):c.heap[x]?=J o/\uw g c x:=
 have:=h x (ς a.1) b a.2
 ⟨this.1.trans a.1,this.2⟩
def Rl {B g x} {w a:β} {l:γ} (h:WS B g w l) (j:BQ w a) (o:w.heap.size<=x):uw g a x:=by
 obtain⟨m,n,c,d,f,-⟩:=h;intro k p c2 z i e;have b:=(θ d j).symm.trans i;simp only[Φ,Obj.cells.injEq,Array.mk.injEq,List.cons.injEq,Χ]at b;obtain⟨⟨⟨rfl,rfl,rfl⟩,-⟩,-⟩:=b;have:=Ϡ f.2 x e;omega
def Bt {B g} {w:β} {l:γ} (h:WS B g w l):g<w.heap.size:=by obtain⟨b,n,c,a,-,-⟩:=h;exact ς a
def GK (b g i:Nat) (t nx d:γ) (pa k pc) (m:List (γ)) (n c o) (ds l:γ) (w:β) (h:WS b g w l) (s:b<=g) (aW:i<=1000000) (V:L t<=64) (S:L nx<=64) (u:L d=32) (ay:L m=k) (ak:k<=64) (I:ϱ m) (aC:∀ a,Below b w a->Rd a (D pa k pc) k 1 (χ m)) (ax:L ds=c) (aj:c<=4000) (aw:∀ a,Below b w a->Rd a (D n c o) c 1 (η ds)) (f:L l<=100000) :
  Calls prog 175 #[þ (J ⟨g,0,O⟩),ā #[G i,š (δ t),š (δ nx),š (δ d),D pa k pc,D n c o]] w (WP b g (l++hJ i t nx d m ds) w):=by
 have aX:=Bt h;have al:b<=w.heap.size:=U;obtain⟨aE,a0,E⟩:=fO (w:=w) (A:=C #[G i,š (δ t),š (δ nx),š (δ d),D pa k pc,D n c o] 185) RZ;have K:=Ν aE (Rl h E NZ);have v:w.heap.size≠g:=U;have aY:=xk V S u;have l1:=lE (l:=gJ t nx d) U;have l2:=Ew U I;have l3:=Ϸ 8 i U;have X:=Zx (fun l a j f=>Bo b g i l a j s U f);have ac:=Zx (fun a=>sR t nx d a V S u);have H:=Zx (fun n c o l a j f u aD=>Bp b g 200 n c o (gJ t nx d) l a j s u aD U U f);have Y:=Zx (fun l a (z:Below b w a) j f=>GJ b g pa k pc m l a j s ay ak I (fun aV ai=>aC _ (z.trans ai)) f);have F:=Zx (fun l a z j f=>Bp b g _ n c o ds l a j s ax (aw _ z) aj U f);have aF:=h.B E;have an:=E.M al;have ag:((200:Nat):Int)=200:=U;have ah:((4000:Nat):Int)=4000:=U;rw[ag]at H;rw[ah]at F;unfold hJ;generalize gJ t nx d=ad at *;generalize Ξ ad=aT at *;generalize Ξ ds=aU at *;generalize gT m=aS at *;generalize ο i=aR at *;go_enter func175,ntmps175;go_upto_region 1 with fail
 generalize å w _=ae at *;have x:=Zx (X.o _ ae aF U);obtain⟨⟨c0,c1,c2,p,q,r⟩,-,-⟩:=go K.1;go_wp2_with fail
 refine x.o.M ?_;rintro e aN ⟨rfl,aG,ao,az⟩;have M:=az.row v K;have au:=an.trans ao;have⟨Z,y⟩:=ϟ M aG;obtain⟨⟨c0,c1,c2,p,q,r⟩,-,-⟩:=go M.1;go_wp2_with fail
 refine(ac.o aN).M ?_;rintro e aO ⟨af,aM,aL,rfl,T,B⟩;have N:=(mH.of_below B (Bt y.o)).row v Z.o;have aH:=y.o.B B;have av:=au.trans (B.M (ι (Bt y.o)));have⟨x,aa⟩:=ϟ (H.o af aM aL _ aO aH ό T.1 T.rd) N;obtain⟨⟨c0,c1,c2,p,q,r⟩,-,-⟩:=go N.1;go_wp2_with fail
 refine x.o.M ?_;rintro e aP ⟨rfl,aI,ap,aA⟩;have P:=aA.row v aa.o;have Q:=av.trans ap;have⟨a1,ab⟩:=ϟ (Y.o _ aP Q aI ό) P;obtain⟨⟨c0,c1,c2,p,q,r⟩,-,-⟩:=go P.1;go_wp2_with fail
 refine a1.o.M ?_;rintro e aQ ⟨rfl,aJ,aq,aB⟩;have am:=aB.row v ab.o;have R:=Q.trans aq;have a2:=Zx (F.o _ aQ R aJ ό);obtain⟨⟨c0,c1,c2,p,q,r⟩,-,-⟩:=go am.1;go_wp2_with fail
 refine a2.o.M ?_;rintro e aZ ⟨rfl,aK,ar,-⟩;have W:=Zx (Ν aK (R.trans ar));go_wp2
 go_returns
 exact⟨rfl,by have:=W.o.1;simpa only[gP] using this,W.o.2⟩
def QF (T E) (t P:γ) (j:ε) (ta tn tc) (N:γ) (w:β) (u:w.heap[T]?=J (C #[š (δ t)] 9 (0,0))) (q:w.heap[E]?=J (C #[G 0] 26 (0,0))) (v:L N=tn) (F:tn<=4000) (x:Rd w (D ta tn tc) tn 1 (η N)) (z:Ϭ w) :
  Calls prog 234 #[ā #[G 1,š (δ t),š (δ P),š (δ (vw N)),j,D ta tn tc],þ (J ⟨T,0,O⟩),þ (J ⟨E,0,O⟩)] w fun e w'=>e=ŗ (.bool true)/\BQ w w':=by
 obtain⟨y,K,c⟩:=fO (w:=w) (A:=C #[G 1,š (δ t),š (δ P),š (δ (vw N)),j,D ta tn tc] 185) RZ;generalize g:å w _=b at *;have n:=Zh g;have m:=Zx (fun a (d:BQ b a)=>(Fy ta tn tc N a v U ((x.B c).B d) ((z.B c).B d)).M (fun e w' ⟨o,p⟩=>show e=_/\BQ b w' from⟨o,d.t p⟩));obtain⟨⟨M,p1,p2,h,H,i⟩,-,-⟩:=go y;obtain⟨k,-,-⟩:=gC (θ u c);obtain⟨f,-,-⟩:=gC (θ q c);generalize vw N=B at *;clear g;go_enter func234,ntmps234;go_upto_region 1 with fail
 rw[n.o];have r:=(ρ b.heap.size b).drew;go_region_held3 (fun a=>BQ b a/\a.cell? ⟨w.heap.size,1,O⟩=J (š (δ t))/\a.cell? ⟨w.heap.size,3,O⟩=J (š (δ B))/\a.cell? ⟨w.heap.size,5,O⟩=J (D ta tn tc)/\a.cell? ⟨T,0,O⟩=J (š (δ t))/\a.cell? ⟨E,0,O⟩=J (G 0))
  (first|exact⟨r,p1,h,i,k,f⟩|assumption|exact⟨Ϙ,ζ Ϙ p1,ζ Ϙ h,ζ Ϙ i,ζ Ϙ k,ζ Ϙ f⟩)
  ((go_at_call 235;refine(m.o _ Ϙ).M ?_;rintro e I ⟨rfl,s⟩))
 have l:=Zx (c.t s);go_wp2;go_ret;exact⟨rfl,l.o⟩
def QE (T E) (h t F g:γ) (i:ε) (ta tn tc) (w:β) (n:w.heap[T]?=J (C #[š (δ t)] 9 (0,0))) (o:¬h=t) :
  Calls prog 234 #[ā #[G 1,š (δ h),š (δ F),š (δ g),i,D ta tn tc],þ (J ⟨T,0,O⟩),þ (J ⟨E,0,O⟩)] w fun e w'=>e=ŗ (.bool false)/\BQ w w':=by
 obtain⟨p,B,f⟩:=fO (w:=w) (A:=C #[G 1,š (δ h),š (δ F),š (δ g),i,D ta tn tc] 185) RZ;generalize d:å w _=b at *;have k:=Zh d;obtain⟨⟨u,p1,p2,v,x,y⟩,-,-⟩:=go p;obtain⟨q,-,-⟩:=gC (θ n f);have b1:=hN t;have b2:=hN h;have z:=fU.2 o;clear d;go_enter func234,ntmps234;go_upto_region 1 with fail
 rw[k.o];have a:=(ρ b.heap.size b).drew;refine ϯ (fun l=>BQ b l) 17 ϋ ?_;refine Zf 0 a ?_;refine Zf 1 a ?_;refine Zb 2 [4,5,8,9,17] a ?_ (hy:=by intro m c;have r:=ζ c p1;go_simp;try with_reducible rfl);refine Zb 3 [4,5,8,9,17] a ?_ (hy:=by intro m c;have s:=ζ c q;go_simp;try with_reducible rfl);refine Zf 4 a ?_;refine Zf 5 a ?_;refine Zs 6 a ?_;refine Zs 7 a ?_;refine Zf 8 a ?_;refine Zf 9 a ?_;refine Zs 10 a ?_;refine Zs 11 a ?_;refine Zs 12 a ?_;refine Zs 13 a ?_;refine Zs 14 a ?_;refine Zs 15 a ?_;refine Zs 16 a ?_;refine Zl ?_;try simp only[Zp]
 refine Ze 18 ?_;refine Zd ?_;have j:=Zx (f.t a);go_wp2;go_ret;exact⟨rfl,j.o⟩
def QG (k:Nat) (h t I f:γ) (g:ε) (i:Option Addr) (j:Nat) (w:β) (l:w.heap[k]?=J (C #[š (δ t)] 9 (0,0))) (m:ltStr h t=true) (c:I=[]) :
  Calls prog 236 #[ā #[G 1,š (δ h),š (δ I),š (δ f),g,D i 0 j],þ (J ⟨k,0,O⟩)] w fun e w'=>e=ŗ (.bool true)/\BQ w w':=by
 obtain⟨n,H,d⟩:=fO (w:=w) (A:=C #[G 1,š (δ h),š (δ I),š (δ f),g,D i 0 j] 185) RZ;obtain⟨⟨r,p1,p2,s,u,v⟩,-,-⟩:=go n;obtain⟨F,-,-⟩:=gC (θ l d);have b1:=hN t;have b2:=hN h;have x:Op.bytesLess h t=true:=by rw[<-b1,<-b2,nX];exact m
 have o:ltStr t I=false:=by rw[c];cases t<;>rfl
 have b3:=hN I;have y:Op.bytesLess t I=false:=by rw[<-b1,<-b3,nX];exact o
 have E:Op.bytesLess I t=true:=by
  rw[<-b1,<-b3,nX,c];cases t with
  |nil=>cases h<;>simp[ltStr]at m
  |cons a b=>rfl
 have z:(I==([]:γ))=true:=by rw[c];rfl
 have B:(ByteArray.mk #[]).toList=([]:γ):=by rw[Bv]
 have p:=Zx d;clear l n d o c;go_enter func236,ntmps236;go_upto_region 1 with fail
 generalize å w (C #[G 1,š (δ h),š (δ I),š (δ f),g,D i 0 j] 185)=q at *;go_wp2;go_ret;exact⟨rfl,p.o⟩
def HA (t:γ) (b:List Int) (i:Int) (w:β) (e:Ending) (j:β):Prop:= ∃ d f g a c,e=ŗ (D (J ⟨g,0,O⟩) 2 2)/\j.heap[d]?=J (C #[š (δ t)] 9 (0,0))/\j.heap[f]?=J (C #[G i] 26 (0,0))/\j.heap[g]?=J (C #[.func (.func 234) #[] #[þ (J ⟨d,0,O⟩),þ (J ⟨f,0,O⟩)],D a (L b) c,.func (.func 236) #[] #[þ (J ⟨d,0,O⟩)],D O 0 0] 283 (0,0))/\Hi w.heap.size j (fun h=>Rd h (D a (L b) c) (L b) 1 (τ b))/\Below w.heap.size w j
def Qo (t h K i:γ) (j:ε) (ta tn tc rl er w) (x:∀ b,BQ w b->Calls prog 233 #[D ta tn tc] b (fun e w'=>∃ a c,e=ŗ (.tuple #[D a (L rl) c,G er])/\Hi b.heap.size w' (fun r=>Rd r (D a (L rl) c) (L rl) 1 (τ rl))/\BQ b w')) :
  Calls prog 179 #[š (δ t),ā #[G 1,š (δ h),š (δ K),š (δ i),j,D ta tn tc]] w (HA t rl er w):=by
 obtain⟨v,u,H,I,d⟩:=fZ (w:=w) (A:=C #[š (δ t)] 9) (Z:=C #[G 1,š (δ h),š (δ K),š (δ i),j,D ta tn tc] 185) RZ;have o:=Zx (x _ d);obtain⟨⟨z,p1,p2,B,E,F⟩,-,-⟩:=go u;go_enter func179,ntmps179;go_upto_region 1 with fail
 generalize å (å w _) _=y at *;go_wp2_with fail
 refine o.o.M ?_;rintro e k ⟨a,c,rfl,s,g⟩;have⟨n,l,p,q⟩:=kX s (d.t g) (θ v g) d.size;go_wp2_with fail
 obtain⟨r1,r2,-,-,f⟩:=fZ (w:=k) (A:=C #[G er] 26) (Z:=C #[.func (.func 234) #[] #[þ (J ⟨w.heap.size,0,O⟩),þ (J ⟨k.heap.size,0,O⟩)],D a (L rl) c,.func (.func 236) #[] #[þ (J ⟨w.heap.size,0,O⟩)],D O 0 0] 283) RZ;have m:=Zx (Ν (θ p.o f) (Ν r1 (Ν r2 (Ν ((n.o.M q.o).B f) (l.o.t f)))));go_ret;exact⟨_,_,_,a,c,rfl,m.o⟩
def ET (a n c) (t nx d:γ) (w:β) (f:L (gJ t nx d)=n) (aE:Rd w (D a n c) n 1 (η (gJ t nx d))) (bh:L t<=64) (a3:L nx<=64) (aZ:L d=32) :
  Calls prog 172 #[D a n c] w fun e w'=>e=ŗ (.tuple #[ā #[š (δ t),š (δ nx),š (δ d)],G 0])/\BQ w w':=by
 have l1:=lE (l:=t) U;have l2:=lE (l:=nx) U;obtain⟨g,ay⟩:∃ g,gJ t nx d=g:=⟨_,rfl⟩;rw[ay]at f aE;have ad:g=[]++(Ξ t++(Ξ nx++d)):=by rw[<-ay];simp[gJ]
 have ax:g=Ξ t++(Ξ nx++d):=by rw[ad];simp
 have aV:g=(Ξ t++Ξ nx)++(d++[]):=by rw[ad];simp
 obtain⟨p1,aD⟩:∃ q,L (Ξ t)=q:=⟨_,rfl⟩;obtain⟨p2,a7⟩:∃ q,p1+L (Ξ nx)=q:=⟨_,rfl⟩;have a0:p2+32=n:=by rw[<-f,ax];simp only[σ];omega
 have b0:=Zx (fun s n c r f h=>wK s n c 0 g _ _ t _ r ad bh rfl f U h);have b4:=Zx (fun s n c r f h=>wK s n c p1 g _ _ nx _ r ax a3 aD f U h);have ar:=Zx (fun s n c r f h=>zq s n c p2 g _ _ d r aV aZ (by rw[σ];omega) f U h);rw[iI,aD]at b0;rw[a7]at b4;rw[a0]at ar;have aU:((64:Nat):Int)=64:=U;rw[aU]at b0 b4;have aJ:=Zx (fun s aT r=>sQ s n aT r);have aK:=Zx f;obtain⟨M,N,bc,bq,br,bs,az⟩:=oO (w:=w) (A:=C #[š ⟨#[]⟩,š ⟨#[]⟩,š ⟨#[]⟩] 183) (Z:=C #[š ⟨#[]⟩,š ⟨#[]⟩,š ⟨#[]⟩] 183) (Y:=C #[D a n c,G 0,G 0] 211) RZ;have bd:=Fq  aE (by omega:w.heap.size<=w.heap.size+1+1) az f bc;go_enter func172,ntmps172;go_upto_region 3 with fail
 generalize(å (å (å w _) _) _)=aO at *;obtain⟨aP,P,c1,af,aA,a4⟩:=bd;have bi:=ς af;have⟨i,y,x,m,o⟩:=lM af aA (b0.o aP P c1 aO aA a4.now) M N;have k:=Zx az;have K:=ς N;obtain⟨⟨al,am,an⟩,-,aH⟩:=Β af;go_wp2_with fail
 refine x.o.M ?_;rintro e S ⟨b1,X,rfl,E,b⟩;have B:=(qT (p:=p1) i.o b y.o E).2.2;have z:=B.set  K U 0 (š (δ t));have j:=θ o.o b;have F:=θ m.o b;have W:=θ i.o b;have I:(ŝ (ŝ (ŝ (ŝ S ⟨w.heap.size+1+1,0,O⟩ (D b1 P X)) ⟨w.heap.size+1+1,1,O⟩ (G (p1:Int))) ⟨w.heap.size+1+1,2,O⟩ (G 0)) ⟨w.heap.size+1,0,O⟩ (š (δ t))).heap[w.heap.size+1]?=J (C #[š (δ t),š ⟨#[]⟩,š ⟨#[]⟩] 183 (0,0)):=by
  refine υ _ _ 0 _ _ _ (show(ŝ (ŝ (ŝ S _ _) _ _) _ _).heap[w.heap.size+1]?=J (C #[š ⟨#[]⟩,š _,š _] _ _)from ?_);rw[Γ _ _ _ _ ύ,Γ _ _ _ _ ύ,Γ _ _ _ _ ύ];exact j
 have H:(ŝ (ŝ (ŝ (ŝ S ⟨w.heap.size+1+1,0,O⟩ (D b1 P X)) ⟨w.heap.size+1+1,1,O⟩ (G (p1:Int))) ⟨w.heap.size+1+1,2,O⟩ (G 0)) ⟨w.heap.size+1,0,O⟩ (š (δ t))).heap[w.heap.size]?=J (C #[š ⟨#[]⟩,š ⟨#[]⟩,š ⟨#[]⟩] 183 (0,0)):=by
  rw[Γ _ _ _ _ ύ,Γ _ _ _ _ ό,Γ _ _ _ _ ό,Γ _ _ _ _ ό];exact F
 have aW:=(((((k.o.t b).S (p:=⟨w.heap.size+1+1,0,O⟩) ϑ (D b1 P X)).S (p:=⟨w.heap.size+1+1,1,O⟩) ϑ (G p1)).S (p:=⟨w.heap.size+1+1,2,O⟩) ϑ (G 0)).S (p:=⟨w.heap.size+1,0,O⟩) ϑ (š (δ t)));obtain⟨⟨ao,ap,aq⟩,⟨ac,f1,f2⟩,-⟩:=Β W;obtain⟨⟨ai,aj,ak⟩,⟨au,av,aw⟩,-⟩:=Β j;go_upto_region 4 with fail
 generalize ŝ (ŝ (ŝ (ŝ S _ _) _ _) _ _) _ _=aM at *;have be:=z.rs bi;have a8:=H;have aF:=I;obtain⟨aQ,Q,c2,ag,aB,a5⟩:=be;have bj:=ς ag;have⟨i,y,x,m,o⟩:=lM ag aB (b4.o aQ Q c2 aM aB a5.now) a8 aF;have k:=Zx aW;have K:=ς aF;obtain⟨⟨al,am,an⟩,-,aH⟩:=Β ag;go_wp2_with fail
 refine x.o.M ?_;rintro e T ⟨b2,aa,rfl,E,b⟩;have B:=(qT (p:=p2) i.o b y.o E).2.2;have z:=B.set  K U 1 (š (δ nx));have j:=θ o.o b;have F:=θ m.o b;have W:=θ i.o b;have I:(ŝ (ŝ (ŝ (ŝ T ⟨w.heap.size+1+1,0,O⟩ (D b2 Q aa)) ⟨w.heap.size+1+1,1,O⟩ (G (p2:Int))) ⟨w.heap.size+1+1,2,O⟩ (G 0)) ⟨w.heap.size+1,1,O⟩ (š (δ nx))).heap[w.heap.size+1]?=J (C #[š (δ t),š (δ nx),š ⟨#[]⟩] 183 (0,0)):=by
  refine υ _ _ 1 _ _ _ (show(ŝ (ŝ (ŝ T _ _) _ _) _ _).heap[w.heap.size+1]?=J (C #[š _,š ⟨#[]⟩,š _] _ _)from ?_);rw[Γ _ _ _ _ ύ,Γ _ _ _ _ ύ,Γ _ _ _ _ ύ];exact j
 have H:(ŝ (ŝ (ŝ (ŝ T ⟨w.heap.size+1+1,0,O⟩ (D b2 Q aa)) ⟨w.heap.size+1+1,1,O⟩ (G (p2:Int))) ⟨w.heap.size+1+1,2,O⟩ (G 0)) ⟨w.heap.size+1,1,O⟩ (š (δ nx))).heap[w.heap.size]?=J (C #[š ⟨#[]⟩,š ⟨#[]⟩,š ⟨#[]⟩] 183 (0,0)):=by
  rw[Γ _ _ _ _ ύ,Γ _ _ _ _ ό,Γ _ _ _ _ ό,Γ _ _ _ _ ό];exact F
 have aX:=(((((k.o.t b).S (p:=⟨w.heap.size+1+1,0,O⟩) ϑ (D b2 Q aa)).S (p:=⟨w.heap.size+1+1,1,O⟩) ϑ (G p2)).S (p:=⟨w.heap.size+1+1,2,O⟩) ϑ (G 0)).S (p:=⟨w.heap.size+1,1,O⟩) ϑ (š (δ nx)));obtain⟨⟨ao,ap,aq⟩,⟨ac,f1,f2⟩,-⟩:=Β W;obtain⟨⟨ai,aj,ak⟩,⟨au,av,aw⟩,-⟩:=Β j;go_upto_region 5 with fail
 generalize ŝ (ŝ (ŝ (ŝ T _ _) _ _) _ _) _ _=aN at *;have bf:=z.rs bj;have a9:=H;have aG:=I;obtain⟨aR,R,aS,ah,aC,a6⟩:=bf;have bk:=ς ah;have⟨i,y,x,m,o⟩:=lM ah aC (ar.o aR R aS aN aC a6.now) a9 aG;have k:=Zx aX;have K:=ς aG;obtain⟨⟨al,am,an⟩,-,aH⟩:=Β ah;go_wp2_with fail
 refine x.o.M ?_;rintro e V ⟨b3,ab,rfl,E,b⟩;have B:=(qT (p:=n) i.o b y.o E).2.2;have z:=B.set  K U 2 (š (δ d));have j:=θ o.o b;have F:=θ m.o b;have W:=θ i.o b;have I:(ŝ (ŝ (ŝ (ŝ V ⟨w.heap.size+1+1,0,O⟩ (D b3 R ab)) ⟨w.heap.size+1+1,1,O⟩ (G (n:Int))) ⟨w.heap.size+1+1,2,O⟩ (G 0)) ⟨w.heap.size+1,2,O⟩ (š (δ d))).heap[w.heap.size+1]?=J (C #[š (δ t),š (δ nx),š (δ d)] 183 (0,0)):=by
  refine υ _ _ 2 _ _ _ (show(ŝ (ŝ (ŝ V _ _) _ _) _ _).heap[w.heap.size+1]?=J (C #[š _,š _,š ⟨#[]⟩] _ _)from ?_);rw[Γ _ _ _ _ ύ,Γ _ _ _ _ ύ,Γ _ _ _ _ ύ];exact j
 have H:(ŝ (ŝ (ŝ (ŝ V ⟨w.heap.size+1+1,0,O⟩ (D b3 R ab)) ⟨w.heap.size+1+1,1,O⟩ (G (n:Int))) ⟨w.heap.size+1+1,2,O⟩ (G 0)) ⟨w.heap.size+1,2,O⟩ (š (δ d))).heap[w.heap.size]?=J (C #[š ⟨#[]⟩,š ⟨#[]⟩,š ⟨#[]⟩] 183 (0,0)):=by
  rw[Γ _ _ _ _ ύ,Γ _ _ _ _ ό,Γ _ _ _ _ ό,Γ _ _ _ _ ό];exact F
 have aY:=(((((k.o.t b).S (p:=⟨w.heap.size+1+1,0,O⟩) ϑ (D b3 R ab)).S (p:=⟨w.heap.size+1+1,1,O⟩) ϑ (G n)).S (p:=⟨w.heap.size+1+1,2,O⟩) ϑ (G 0)).S (p:=⟨w.heap.size+1,2,O⟩) ϑ (š (δ d)));obtain⟨⟨ao,ap,aq⟩,⟨ac,f1,f2⟩,-⟩:=Β W;obtain⟨⟨ai,aj,ak⟩,⟨au,av,aw⟩,-⟩:=Β j;go_upto_region 6 with fail
 generalize ŝ (ŝ (ŝ (ŝ V _ _) _ _) _ _) _ _=bm at *;have bg:=z.rs bk;have ba:=H;have bb:=I;obtain⟨bn,bl,bo,a1,a2,-⟩:=bg;obtain rfl:bl=n:=a2.symm.trans aK.o;obtain⟨⟨al,am,an⟩,-,-⟩:=Β a1;have⟨m,o,k⟩:=iQ ba bb aY;go_wp2_with fail
 refine(aJ.o _ _ _).M ?_;rintro e bp ⟨rfl,ae⟩;have N:=θ o.o ae;have M:=θ m.o ae;have⟨aL,aI⟩:=ϟ (jz M (š (δ t)) (š (δ nx)) (š (δ d))) (kY (k.o.t ae) (Nat.le_refl _) (š (δ t)) (š (δ nx)) (š (δ d)));obtain⟨⟨ao,ap,aq⟩,-,-⟩:=Β N;obtain⟨⟨ai,aj,ak⟩,⟨ac,f1,f2⟩,-⟩:=Β M;go_wp2;refine Ω (v:=.tuple #[ā _,G 0]) (gz  (u:=3)  rfl _ _ _ _ _ _ _ rfl aL.o underlying183 rfl ϋ) rfl ?_;exact⟨rfl,aI.o⟩
def yN (b:TypeId) (g:Nat) (a:γ) (p:Nat) (t f d:γ) (w:β) (e:Ending) (c:β):Prop:=e=ŗ (ā #[š (δ t),š (δ f),š (δ d)])/\hZ b g w.heap.size c a p/\Ο g w c
def Nv (g p) (t nx d:γ) (b pre ď:γ) (w:β) (h:RS 238 g w b p) (ae:b=pre++(Ξ (gJ t nx d)++ď)) (aq:L pre=p) (an:L b<=1000000000) (z:L t<=64) (x:L nx<=64) (s:L d=32) :
  Calls prog 232 #[þ (J ⟨g,0,O⟩)] w (yN 238 g b (p+L (Ξ (gJ t nx d))) t nx d w):=by
 have aH:=xk z x s;obtain⟨av,aD,q⟩:=fO (w:=w) (A:=C #[š ⟨#[]⟩,š ⟨#[]⟩,š ⟨#[]⟩] 183) RZ;have k:=Zx (xC g p _ _ b pre ď _ (h.B q) ae U aq an);have ad:((200:Nat):Int)=200:=U;rw[ad]at k;have R:=Zx (fun a n c Y ao ar=>ET a n c t nx d Y ao ar z x s);have aI:g<w.heap.size:=by obtain⟨a,n,c,ac,-,-⟩:=h;exact ς ac
 unfold yN;generalize p+L (Ξ _)=p1 at *;generalize gJ t nx d=a0 at *;go_enter func232,ntmps232;go_upto_region 1 with fail
 generalize å w _=Z at *;go_wp2_with fail
 refine k.o.M ?_;rintro e H ⟨rfl,-,r,au⟩;obtain⟨l,F,E,u,ap,al⟩:=au;have aw:=(r.2.1 _ aD U).trans av;obtain⟨aF,aa,aG,ai,am,B⟩:=qV H a0 _ rfl U;obtain⟨S,M,P,a1,I⟩:=lM (R.o _ _ _ aa rfl am.now) r u al ai;obtain⟨W,X⟩:=ϟ aw B;obtain⟨⟨c0,c1,c2⟩,⟨m,f1,f2⟩,aE⟩:=Β u;go_wp2_with fail
 refine S.o.M ?_;rintro e j ⟨rfl,f⟩;have K:=Zx f;go_upto_region 5 with fail
 have f:=K.o;have aJ:=f.size;have B:=X.o;have y:=φ j (C #[š (δ t),š (δ nx),š (δ d)] 183);have i:BQ H (å j (C #[š (δ t),š (δ nx),š (δ d)] 183)):=(I.o.trans (f.M U)).A U _;have v:=θ P.o i;have ah:=θ W.o i;have ak:(ŝ (å j (C #[š (δ t),š (δ nx),š (δ d)] 183)) ⟨g,2,O⟩ (G 0)).heap[g]?=J (C #[D l F E,G (p1:Int),G 0] 238 (0,0)):=υ _ g 2 _ _ _ v;have o:=(Γ _ ⟨g,2,O⟩ _ (G 0) ϑ).trans ah;have af:=(Γ _ ⟨g,2,O⟩ _ (G 0) ϑ).trans y;have ag:=(a1.o.B i).set (p:=⟨g,2,O⟩) (U:g<Z.heap.size) (G 0);have aj:=((((Ο.refl g w).B q).trans M.o).B i).set 2 (G 0);obtain⟨⟨ax,ay,az⟩,⟨m,f1,f2⟩,aE⟩:=Β v;obtain⟨⟨aA,aB,aC⟩,-,-⟩:=Β y;go_upto_region 6 with fail
 generalize ŝ (å j _) _ _=ab at *;obtain⟨V,Q,T,N⟩:=kX (jz o (š (δ t)) (š (δ nx)) (š (δ d))) ((kN ab w.heap.size g U (š (δ t)) (š (δ nx)) (š (δ d))).trans ak) (lU ag  U (š (δ t)) (š (δ nx)) (š (δ d))) (((aj.hi NZ 0 (š (δ t))).hi NZ 1 (š (δ nx))).hi NZ 2 (š (δ d)));obtain⟨⟨aA,aB,aC⟩,-,-⟩:=Β af;obtain⟨⟨ax,ay,az⟩,⟨m,f1,f2⟩,-⟩:=Β o;go_wp2;refine Ω  (jf   rfl _ _ _ _ _ _ _ rfl V.o underlying183 rfl ϋ) rfl ?_;exact⟨rfl,⟨l,F,E,Q.o,ap,T.o.M U⟩,N.o⟩
def yR (l:TypeId) (g:Nat) (k:γ) (p m:Nat) (t q d:γ) (f:List (γ)) (o:γ) (w:β) (e:Ending) (n:β):Prop:= ∃ c a pc h b i,e=ŗ (ā #[G m,š (δ t),š (δ q),š (δ d),D c a pc,D h b i])/\L f=a/\L o=b/\Hi w.heap.size n (fun j=>Rd j (D c a pc) a 1 (χ f)/\Rd j (D h b i) b 1 (η o))/\hZ l g w.heap.size n k p/\Ο g w n
def lC {w:β} {g T} {a b c d e f:ε} (h:w.heap[g]?=J (C #[a,b,c,d,e,f] T (0,0))) (y:ε):(ŝ w ⟨g,0,O⟩ y).heap[g]?=J (C #[y,b,c,d,e,f] T (0,0))/\(ŝ w ⟨g,1,O⟩ y).heap[g]?=J (C #[a,y,c,d,e,f] T (0,0))/\(ŝ w ⟨g,2,O⟩ y).heap[g]?=J (C #[a,b,y,d,e,f] T (0,0))/\(ŝ w ⟨g,3,O⟩ y).heap[g]?=J (C #[a,b,c,y,e,f] T (0,0))/\(ŝ w ⟨g,4,O⟩ y).heap[g]?=J (C #[a,b,c,d,y,f] T (0,0))/\(ŝ w ⟨g,5,O⟩ y).heap[g]?=J (C #[a,b,c,d,e,y] T (0,0)):=
 ⟨υ _ g 0 _ _ _ h,υ _ g 1 _ _ _ h,υ _ g 2 _ _ _ h,υ _ g 3 _ _ _ h,υ _ g 4 _ _ _ h,υ _ g 5 _ _ _ h⟩
structure lQ (g R S lo:Nat) (zr cs:Obj) (w:β) (B:γ) (p:Nat) (X:β->Prop) (W:β):Prop where
 rs:hZ 238 g lo W B p
 r:W.heap[R]?=J zr
 s:W.heap[S]?=J cs
 o:Ο g w W
 x:Hi lo W X
 z:lo<=W.heap.size/\g<w.heap.size/\w.heap.size<=R/\w.heap.size<=S/\R<lo/\S<lo/\R≠S
def lQ.call {g R S lo zr cs w B p q X} {c b:β} (h:lQ g R S lo zr cs w B p X c) (d:hZ 238 g c.heap.size b B q) (a:Ο g c b):lQ g R S lo zr cs w B q X b:=by
 obtain⟨e,f,i,j,k,l,m⟩:=h.z;exact⟨d.M e,a.row U h.r,a.row U h.s,h.o.trans a,h.x.oneCh U a,⟨ι a.1,f,i,j,k,l,m⟩⟩
def lQ.B {g R S lo zr cs w B p X W V} (h:lQ g R S lo zr cs w B p X W) (a:BQ W V):lQ g R S lo zr cs w B p X V:=by
 obtain⟨j,b,c,d,e,f,i⟩:=h.z;exact⟨h.rs.stp a,θ h.r a,θ h.s a,h.o.B a,h.x.B a,⟨ι a.size,b,c,d,e,f,i⟩⟩
def lQ.set {g R S lo zr cs cs' w B p X W} (h:lQ g R S lo zr cs w B p X W) (k) (y:ε) (c:(ŝ W ⟨S,k,O⟩ y).heap[S]?=J cs'):lQ g R S lo zr cs' w B p X (ŝ W ⟨S,k,O⟩ y):=by
 obtain⟨d,e,f,b,i,a,j⟩:=h.z;exact⟨h.rs.set a U k y,(Γ _ _ _ _ ϑ).trans h.r,c,h.o.hi b k y,h.x.set a y,⟨by simpa using d,e,f,b,i,a,j⟩⟩
def lQ.setR {g R S lo zr cs zr' w B p X W} (h:lQ g R S lo zr cs w B p X W) (k) (y:ε) (c:(ŝ W ⟨R,k,O⟩ y).heap[R]?=J zr'):lQ g R S lo zr' cs w B p X (ŝ W ⟨R,k,O⟩ y):=by
 obtain⟨d,e,b,f,a,i,j⟩:=h.z;exact⟨h.rs.set a U k y,c,(Γ _ _ _ _ ϑ).trans h.s,h.o.hi b k y,h.x.set a y,⟨by simpa using d,e,b,f,a,i,j⟩⟩
def lQ.add {g R S lo zr cs w B p} {X Y:β->Prop} {W} (h:lQ g R S lo zr cs w B p X W) {b} (d:Hi b W Y) (c:lo<=b):lQ g R S lo zr cs w B p (fun a=>X a/\Y a) W:=
 ⟨h.rs,h.r,h.s,h.o,h.x.and (d.M c),h.z⟩
def EP (g p at') (t nx d:γ) (f:List (γ)) (ds:γ) (b pre ď:γ) (w:β) (h:RS 238 g w b p) (aE:b=pre++(hJ at' t nx d f ds++ď)) (aV:L pre=p) (o:L b<=1000000000) (ba:at'<=1000000) (a2:L t<=64) (aU:L nx<=64) (aK:L d=32) (aD:L f<=64) (aB:ϱ f) (a8:L ds<=4000) :
  Calls prog 177 #[þ (J ⟨g,0,O⟩)] w (yR 238 g b (p+L (hJ at' t nx d f ds)) at' t nx d f ds w):=by
 obtain⟨a0,a1,a5,a6,ah⟩:=fZ (w:=w) (A:=C #[G 0,š ⟨#[]⟩,š ⟨#[]⟩,š ⟨#[]⟩,D O 0 0,D O 0 0] 185) (Z:=C #[G 0,š ⟨#[]⟩,š ⟨#[]⟩,š ⟨#[]⟩,D O 0 0,D O 0 0] 185) RZ;have aN:g<w.heap.size:=by obtain⟨b0,n,b1,aA,-,-⟩:=h;exact ς aA
 have l:b=pre++(ο at'++(Ξ (gJ t nx d)++(gT f++(Ξ ds++ď)))):=by rw[aE];simp[hJ]
 obtain⟨r,aW⟩:∃ q,p+L (ο at')=q:=⟨_,rfl⟩;obtain⟨aj,aX⟩:∃ q,r+L (Ξ (gJ t nx d))=q:=⟨_,rfl⟩;obtain⟨ak,aY⟩:∃ q,aj+L (gT f)=q:=⟨_,rfl⟩;obtain⟨a3,aZ⟩:∃ q,ak+L (Ξ ds)=q:=⟨_,rfl⟩;have aM:p+L (hJ at' t nx d f ds)=a3:=by simp only[hJ,σ];omega
 have B:=Zx (fun i h=>AB g p at' b pre _ i h l U aV o);have E:=Zx (fun i (h:RS _ g i b r)=>Nv g r t nx d b (pre++ο at') (gT f++(Ξ ds++ď)) i h (by rw[l];simp) (by rw[σ];omega) o a2 aU aK);have F:=Zx (fun i h=>AC g aj f b (pre++(ο at'++Ξ (gJ t nx d))) (Ξ ds++ď) i h (by rw[l];simp) aD aB (by simp only[σ];omega) o);have c:=Zx (fun i h=>xC g ak _ ds b (pre++(ο at'++(Ξ (gJ t nx d)++gT f))) ď i h (by rw[l];simp) U (by simp only[σ];omega) o);have aC:((4000:Nat):Int)=4000:=U;rw[aC,aZ]at c;rw[aY]at F;rw[aX]at E;rw[aW]at B;rw[aM];unfold RP at B c;unfold yN at E;unfold wu at F;unfold yR;have aL:L ds<=70368744177664:=U;have aF:=h.B ah;have⟨ap,ao,aq,an⟩:=kX aF a0 a1 ah;go_enter func177,ntmps177;go_upto_region 2 with fail
 generalize(å (å w _) _)=af at *;generalize a9:w.heap.size+1=av at *;go_wp2_with fail
 refine(B.o af ap.o).M ?_;rintro e al ⟨rfl,-,m,aQ⟩;have H:lQ g w.heap.size av af.heap.size _ _ w b r (fun _=>True) al:=⟨aQ,m.row U ao.o,m.row U aq.o,((Ο.refl g w).B an.o).trans m,fun _ _=>trivial,⟨m.1,aN,NZ,U,a5,a6,U⟩⟩;have Y:=Zx (H.set 0 (G at') (lC H.s _).1);obtain⟨⟨s,u,v,x,y,z⟩,R,a⟩:=go H.s;go_upto_region 3 with fail
 generalize ŝ al _ _=aw at *;go_wp2_with fail
 refine(E.o aw (Y.o.rs.rs U)).M ?_;rintro e am ⟨rfl,aR,aH⟩;have I:=Y.o.call aR aH;have V:=I.set 1 (š (δ t)) (lC I.s _).2.1;have W:=V.set 2 (š (δ nx)) (lC V.s _).2.2.1;have N:=Zx (W.set 3 (š (δ d)) (lC W.s _).2.2.2.1);obtain⟨⟨s,u,v,x,y,z⟩,R,a⟩:=go I.s;go_upto_region 4 with fail
 generalize ŝ (ŝ (ŝ am _ _) _ _) _ _=ax at *;go_wp2_with fail
 refine(F.o ax (N.o.rs.rs U)).M ?_;rintro e a4 ⟨P,S,Q,rfl,ai,aS,aI⟩;have K:=(N.o.call aS aI).add (Hi.own ai.2) N.o.z.1;have aa:=Zx (K.set 4 (D P S Q) (lC K.s _).2.2.2.2.1);have aP:=ai.1;obtain⟨⟨s,u,v,x,y,z⟩,R,a⟩:=go K.s;go_upto_region 5 with fail
 generalize ŝ a4 _ _=ay at *;go_wp2_with fail
 refine(c.o ay (aa.o.rs.rs U)).M ?_;rintro e T ⟨rfl,-,aJ,aT⟩;have X:=aa.o.call aT aJ;obtain⟨ag,az,bb,aG,aO,bd⟩:=qV T ds _ rfl aL;have M:=(X.B aG).add aO X.z.1;have ar:=Zx (M.set 5 (D (J ⟨T.heap.size,0,O⟩) (L ds) ag) (lC M.s _).2.2.2.2.2);obtain⟨⟨s,u,v,x,y,z⟩,R,a⟩:=go M.s;go_upto_region 6 with fail
 generalize ŝ az _ _=a7 at *;have k:=ar.o;have K1:=k.setR 0 (G at') (lC k.r _).1;have ab:=K1.setR 1 (š (δ t)) (lC K1.r _).2.1;have ac:=ab.setR 2 (š (δ nx)) (lC ab.r _).2.2.1;have ad:=ac.setR 3 (š (δ d)) (lC ac.r _).2.2.2.1;have ae:=ad.setR 4 (D P S Q) (lC ad.r _).2.2.2.2.1;have au:=ae.setR 5 (D (J ⟨T.heap.size,0,O⟩) (L ds) ag) (lC ae.r _).2.2.2.2.2;have j:=Zx au;obtain⟨⟨s,u,v,x,y,z⟩,-,-⟩:=go k.s;obtain⟨⟨be,bf,bg,bh,bi,bj⟩,bc,bk⟩:=go k.r;go_wp2;refine Ω  (jf   rfl _ _ _ _ _ _ _ rfl j.o.r underlying185 rfl ϋ) rfl ?_;exact⟨P,S,Q,_,_,_,rfl,aP,rfl,(j.o.x.imp fun am h=>⟨h.1.2,h.2⟩).M U,j.o.rs.M U,j.o.o⟩
def CT (v:ε) (f d) (t:γ) (w:β) (X:ϭ w) (h:fN w v (f+1) d) (Y:∀ e∈d,L e.1<=100000) (W:iC d=true) (c:∀ e∈d,ltStr t e.1=false) :
  Calls prog 171 #[v,š (δ t)] w fun e w'=>e=ŗ (.tuple #[G (f:Int),.bool (decide ((d.getD f ([],[])).1=t))])/\BQ w w':=by
 have s:=h.1;have r:=Zx (zz v _ d w X h Y);rw[W]at r;have q:=Zx (fun m (R:BQ w m)=>(h.B R));obtain⟨ad,a0,rfl,V,-⟩:=ic h;obtain⟨n,u⟩:∃ n,n=f+1:=⟨_,rfl⟩;rw[<-u]at h s V r q ⊢;have B:=Zx u;clear u;have A:=Zx s;have I:=Zx (fun a F=>c d[a] (Ψ F));clear s;go_enter func171,ntmps171;go_wp2_with fail
 refine r.o.M ?_;rintro e aj ⟨rfl,T⟩;go_wp2_with fail
 go_loopw [6,14] (fun N z wr=>∃ a:Nat,a<=n/\z=G a/\N=G ((a:Int) - 1)/\BQ w wr) (fun _ z _=>n - (intOf z).toNat)
 .exact⟨0,Ζ _,rfl,rfl,T⟩
 obtain⟨a,F,rfl,rfl,k⟩:=hrel;by_cases af:a<n
 .have o:a<L d:=ι A.o
  obtain⟨M,P,l,-,p⟩:=ic (q.o wr k);simp only[Χ,ϵ]at l;obtain⟨rfl,rfl⟩:=l;obtain⟨b,off,da,dc,rfl,j,ae,-⟩:=p.o a o;have Z:(a:Int)<(n:Int):=U;have ai:(0:Int)<=(a:Int):=U;have H:=I.o a o;unfold Ϫ at j;generalize d[a].1=x at *;generalize (L d[a].2)=aa at *;have i:=Zx (k.al (C #[š (δ x),D da aa dc] 130));have b1:=hN t;have b2:=hN x;by_cases g:x=t
  .subst g
   have ab:Op.bytesLess x x=false:=by rw[<-b1,nX];exact H
   have ac:(x==x)=true:=ύ;go_wp2_with fail
   exact⟨⟨a+1,U,ϕ,ύ,i.o⟩,by simp[intOf];omega⟩
  .have ab:Op.bytesLess x t=true:=by rw[<-b1,<-b2,nX];exact Ag H (fun e=>g e.symm)
   go_wp2_with fail
   exact⟨⟨a+1,U,ϕ,ύ,i.o⟩,by simp[intOf];omega⟩
 .obtain rfl:a=n:=U
  have o:f<L d:=gw A.o B.o;obtain⟨M,P,l,-,p⟩:=ic (q.o wr k);simp only[Χ,ϵ]at l;obtain⟨rfl,rfl⟩:=l;obtain⟨b,off,da,dc,rfl,j,-,-⟩:=p.o f o;unfold Ϫ at j;obtain⟨x,y⟩:∃ x,d[f].1=x:=⟨_,rfl⟩;rw[y]at j;have E:=Zx y;clear y;have S:(a:Int) - 1=(f:Int):=ι B.o;rw[S];have a1:=Zx k;have Z:¬(a:Int)<(a:Int):=U;have ag:(0:Int)<=(f:Int):=U;have ah:(f:Int)<(a:Int):=U;have b1:=hN t;have b2:=hN x;clear k;go_upto_region 10 with fail
  have Q:=ζ ((ρ _ wr).drew) j;go_region_held3 (fun m=>BQ wr m/\m.cell? ⟨b,off+f*2,O⟩=J (š (δ x))) (first|exact⟨RZ.drew,Q⟩|assumption) (fail)
  have i:=Zx (a1.o.drew);by_cases g:x=t
  .subst g
   go_wp2;go_ret2;exact⟨by rw[kU E.o];rfl,i.o⟩
  .have ac:=fU.2 g
   have K:=Zx g;clear g;go_wp2;go_ret2;exact⟨by rw[kE (show ¬d[f].1=t by rw[E.o];exact K.o)];rfl,i.o⟩
def BF (l:List Int) (w:β) (e:Ending) (d:β):Prop:= ∃ a c,e=ŗ (D a (L l) c)/\Hi w.heap.size d (fun b=>Rd b (D a (L l) c) (L l) 1 (τ l))/\Below w.heap.size w d
def Jt (v:ε) (a:Nat) (d:List ϰ) (t:γ) (l:List Int) (w:β) (B:ϭ w) (h:fN w v (a+1) d) (E:∀ e∈d,L e.1<=100000) (z:iC d=true) (y:∀ e∈d,ltStr t e.1=false) (i:d[a]?=J (t,l)) (P:L l<=100000) :
  Calls prog 174 #[v,š (δ t)] w (BF l w):=by
 have M:=h.1;have n:a<L d:=U;have x:d[a]=(t,l):=by rw[Ρ n]at i;exact lq i
 have j:=Zx (CT v a d t w B h E z y);have A:decide ((d.getD a ([],[])).1=t)=true:=kU (by rw[fX,i];rfl);rw[A]at j;have g:=Zx (fun k (K:BQ w k)=>show ∃ f b off da dc c,v=D f (a+1) c/\f=J ⟨b,off,O⟩/\k.cell? ⟨b,off+a*2+1,O⟩=J (D da (L l) dc)/\Rd k (D da (L l) dc) (L l) 1 (τ l)by
  obtain⟨f,c,N,-,g⟩:=ic (h.B K)
  obtain⟨b,off,da,dc,I,-,r,s⟩:=g.o a n
  rw[x]at r s
  exact⟨f,b,off,da,dc,c,N,I,r,s⟩)
 have Q:(0:Int)<=(a:Int):=U;have R:(a:Int)<(a:Int)+1:=U;clear B h E z y i A x n M;go_enter func174,ntmps174;go_wp2_with fail
 refine j.o.M ?_;rintro e F ⟨rfl,m⟩;obtain⟨f,b,off,da,dc,c,rfl,rfl,c1,r1⟩:=g.o F m;have⟨q,p⟩:=ϟ (uM (D da (L l) dc) (L l) (τ l) F r1 (sW _) U) m;clear r1 m g j;go_wp2_with fail
 refine q.o.M ?_;rintro e T ⟨S,rfl,o,u⟩;obtain⟨H,c2,rfl⟩:=Η o;have V:=Zx (Ν ((Hi.own o).M p.o.size) (p.o.t u));clear o u q;go_wp2;go_ret;exact⟨H,c2,rfl,V.o⟩
structure ow (P lo:Nat) (cs:Obj) (w1:β) (X:β->Prop) (W:β):Prop where
 s:W.heap[P]?=J cs
 b:BQ w1 W
 x:Hi lo W X
 z:P<lo/\lo<=W.heap.size/\w1.heap.size<=P
def ow.B {P lo cs w1 X W V} (h:ow P lo cs w1 X W) (a:BQ W V):ow P lo cs w1 X V:=
 ⟨θ h.s a,h.b.t a,h.x.B a,⟨h.z.1,gw a.size h.z,h.z.2.2⟩⟩
def ow.set {P lo cs cs' w1 X W} (h:ow P lo cs w1 X W) (k) (y:ε) (a:(ŝ W ⟨P,k,O⟩ y).heap[P]?=J cs'):ow P lo cs' w1 X (ŝ W ⟨P,k,O⟩ y):=
 ⟨a,h.b.S h.z.2.2 y,h.x.set h.z.1 y,⟨h.z.1,by simpa using h.z.2.1,h.z.2.2⟩⟩
def ow.add {P lo b cs w1} {X Y:β->Prop} {W} (h:ow P lo cs w1 X W) (d:Hi b W Y) (c:lo<=b):ow P lo cs w1 (fun a=>X a/\Y a) W:=⟨h.s,h.b,h.x.and (d.M c),h.z⟩
def gU (h:γ) (l:List Int):List (γ):=ie 2 ((iD [(h,l)]).map ϴ) 1
def sH (h k:γ) (l:List Int) (j:γ) (w:β) (e:Ending) (i:β):Prop:= ∃ c a pc d b f,e=ŗ (.tuple #[ā #[G 1,š (δ h),š (δ k),š (δ (Ϣ l)),D c a pc,D d b f],G 0])/\L (gU h l)=a/\L j=b/\Hi w.heap.size i (fun g=>Rd g (D c a pc) a 1 (χ (gU h l))/\Rd g (D d b f) b 1 (η j))/\Below w.heap.size w i
def Gg (v:ε) (h nx t:γ) (l:List Int) (W:Bool) (w:β) (aM:nx=[]) (ai:decide (h=t)=W) (ab:ϭ w) (aQ:Ϭ w) (ah:fN w v 1 [(h,l)]) (R:iC [(h,l)]=true) (bh:L h<=64) (bC:L l<=100000) (bn:iT t=true) (bW:L t<=64) (bj:ltStr t h=false) :
  Calls prog 99 #[v,š (δ t)] w (sH h nx l (if W then gM l else[]) w):=by
 have ac:∀ e∈[(h,l)],L e.1<=64:=fun e Z=>by rw[kF.1 Z];exact bh
 have aR:∀ e∈[(h,l)],L e.1<=100000:=fun e Z=>ι (ac e Z);have aK:∀ e∈[(h,l)],ltStr t e.1=false:=fun e Z=>by rw[kF.1 Z];exact bj
 have bl:ge l=true:=(wS R ac 1).1;have aX:=Zx (fun f (g:BQ w f)=>CU v 1 [(h,l)] f (aQ.B g) (ab.B g) (ah.B g) R ac U);have aw:=Zx (fun f (g:BQ w f)=>xZ t f (ab.B g) U);rw[bn]at aw;have aq:=Zx (fun f (g:BQ w f)=>CT v 0 [(h,l)] t f (ab.B g) (ah.B g) aR R aK);have bg:decide ((([(h,l)]:List ϰ).getD 0 ([],[])).1=t)=W:=ai;rw[bg]at aq;have a0:=Zx (fun a n c f (aj:L (gJ h nx (Ϣ l))=n) (aa:Rd f (D a n c) n 1 (η (gJ h nx (Ϣ l))))=>ET a n c h nx (Ϣ l) f aj aa bh (by rw[aM];simp) (iq _));have aG:L (iD [(h,l)])=2:=qJ _;have a4:(iD [(h,l)])[1]?=J (gJ h nx (Ϣ l)):=by rw[aM];rfl
 have aY:=Zx (fun aE f (aP:Ϭ f) (aa:Ε f aE (iD [(h,l)]))=>vM aE (iD [(h,l)]) f aP aa U (fun b2 be=>by
  unfold iD oG at be
  obtain⟨bD,-,rfl⟩:=ih.1 be
  have:=Ab R ac bD
  omega))
 have aZ:=Zx (fun aC n c br f (aP:Ϭ f) (aF:gf br f (D aC n c) n ((iD [(h,l)]).map ϴ))=>show Calls prog 78 #[D aC n c,G 1] f (wo (gU h l) f)by
  have aj:=aF.1
  rw[hU,aG]at aj
  subst aj
  exact Gn aC 2 c ((iD [(h,l)]).map ϴ) 1 f aF.1 aF.rd (kv _) U U aP)
 have ao:=Zx (fun(e:W=true) f (g:BQ w f)=>show Calls prog 174 #[v,š (δ t)] f (BF l f)from Jt v 0 [(h,l)] t l f (ab.B g) (ah.B g) aR R aK (by rw[e]at ai;rw[of_decide_eq_true ai];rfl) bC);have ar:=Zx (fun a c f (aa:Rd f (D a (L l) c) (L l) 1 (τ l))=>EF (D a (L l) c) (L l) l f rfl aa bl);have a1:=Zx (fun f (g:BQ w f)=>aQ.B g);obtain⟨bm,b0,aI⟩:=fO (w:=w) (A:=C #[G 0,š ⟨#[]⟩,š ⟨#[]⟩,š ⟨#[]⟩,D O 0 0,D O 0 0] 185) RZ;unfold sH;generalize gU h l=bZ at *;generalize iD [(h,l)]=bt at *;have⟨V,aW⟩:=ϟ aG a4;clear ac aR aK ab aQ ah R bn bj ai bg aG a4 bl aM;go_enter func99,ntmps99;go_upto_region 1 with fail
 generalize å w (C #[G 0,š ⟨#[]⟩,š ⟨#[]⟩,š ⟨#[]⟩,D O 0 0,D O 0 0] 185)=bv at *;go_wp2_with fail
 refine(aX.o bv aI).M ?_;rintro e S ⟨aE,rfl,aJ,aH⟩;obtain⟨bX,bY,bf,-,-⟩:=mr aJ.now;rw[V.o]at bf;subst bf;have bd:=aI.t aH;have au:=Zx (θ bm aH);have ap:=Zx (fun f (g:BQ S f)=>(aJ.B g).now);have N:=Zx bd;have bo:w.heap.size<S.heap.size:=ς au.o;clear aJ aH bm aI bd aX;go_wp2_with fail
 refine(aw.o S N.o).M ?_;rintro e bN ⟨rfl,a6⟩;have al:=Zx a6;clear a6 aw;go_wp2_with fail
 refine(aq.o bN (N.o.t al.o)).M ?_;rintro e T ⟨rfl,a7⟩;have aS:=Zx (al.o.t a7);have bp:=aS.o.size;clear a7 al aq;go_upto_region 6 with fail
 have a5:=φ T (C #[G 1,š ⟨#[]⟩,š ⟨#[]⟩,š ⟨#[]⟩,D O 0 0,D O 0 0] 185);have ad:ϫ (ow T.heap.size (T.heap.size+1) _ S (fun _=>True) (å T (C #[G 1,š ⟨#[]⟩,š ⟨#[]⟩,š ⟨#[]⟩,D O 0 0,D O 0 0] 185))):=⟨⟨a5,aS.o.A bp _,fun _ _=>trivial,⟨U,ύ,bp⟩⟩⟩;clear a5;generalize å T (C #[G 1,š ⟨#[]⟩,š ⟨#[]⟩,š ⟨#[]⟩,D O 0 0,D O 0 0] 185)=a2 at *;generalize T.heap.size=z at *;obtain⟨b1,off,da,dc,rfl,bE,bq,aD,ak⟩:=sS (ap.o a2 ad.o.b) V.o 1 (ι V.o);have a3:bt[1]'(ι V.o)=gJ h nx (Ϣ l):=by
  have:=aW.o;rw[Ρ (ι V.o)]at this;exact lq this
 rw[a3]at aD ak;obtain⟨bF,aL⟩:∃ n,L (gJ h nx (Ϣ l))=n:=⟨_,rfl⟩;rw[aL]at aD ak;have b:=Zx (a0.o da bF dc a2 aL ak);obtain⟨⟨o,q,r,s,x,y⟩,d,M⟩:=go ad.o.s;unfold maxLen at bq;clear ak a3 aL a0 aW;go_wp2_with fail
 refine b.o.M ?_;rintro e bO ⟨rfl,a8⟩;have ae:=ad.o.B a8;have az:=ae.set 1 (š (δ h)) (lC ae.s _).2.1;have aA:=az.set 2 (š (δ nx)) (lC az.s _).2.2.1;have aU:=Zx (aA.set 3 (š (δ (Ϣ l))) (lC aA.s _).2.2.2.1);clear o q r s x y d M a8 ad b aD bE bq;obtain⟨⟨o,q,r,s,x,y⟩,d,M⟩:=go ae.s;clear ae az aA;go_upto_region 7 with fail
 generalize ŝ (ŝ (ŝ bO ⟨z,1,O⟩ (š (δ h))) ⟨z,2,O⟩ (š (δ nx))) ⟨z,3,O⟩ (š (δ (Ϣ l)))=bU at *;clear o q r s x y d M;have F:=aU.o.B (RZ.drew);have ax:=Zx (fun f (g:BQ S f)=>a1.o f (N.o.t g));refine ϯ (fun aB=>ow z (z+1) (C #[G 1,š (δ h),š (δ nx),š (δ (Ϣ l)),D O 0 0,D O 0 0] 185 (0,0)) S (fun _=>True) aB) 4 ϋ ?_;refine Zf 0 F ?_;refine Zf 2 F ?_;refine Zk 3 F ?_ (hy:=by intro f g;obtain⟨⟨o,-,-,-,-,-⟩,-,-⟩:=go g.s;go_simp;try with_reducible rfl);refine Κ (fuel:=6) 1 ϋ rfl ?_;intro K X;go_simp;refine(aY.o _ _ (ax.o _ F.b) (ap.o _ F.b)).M ?_;rintro e bP ⟨bw,bG,bz,rfl,bk,a9⟩;have Y:=F.B a9;refine X _ _ Y ?_;clear X K;try simp only[Zp]
 refine jF (fuel:=5) ϋ ϋ rfl ?_;intro K X;go_simp;refine(aZ.o bw bG bz _ bP (ax.o _ Y.b) bk).M ?_;rintro e bQ ⟨i,k,j,rfl,aN,ba⟩;refine X _ _ ?_;clear X K;try simp only[Zp]
 have Q:=Y.B ba;refine Zf 5 Q ?_;refine Zf 6 Q ?_;refine Zf 7 Q ?_;refine Zf 8 Q ?_;have af:=Q.add (Hi.own aN.2) Y.z.2.1;have⟨aV,P⟩:=ϟ aN.1 (af.set 4 (D i k j) (lC af.s _).2.2.2.2.1);obtain⟨⟨o,q,r,s,x,y⟩,d,M⟩:=go af.s;refine Ze 9 ?_;refine Zd ?_;generalize ŝ bQ ⟨z,4,O⟩ (D i k j)=bu at *;clear o q r s x y d M af F Y Q bk aN a9 ba aU aY aZ ap ax a1;cases W with
 |true =>
  have b:=Zx (ao.o rfl bu (N.o.t P.o.b));clear ao;go_wp2_with fail
  refine b.o.M ?_;rintro e bR ⟨bx,bA,rfl,bi,bb⟩;have⟨aT,am⟩:=ϟ (ar.o bx bA bR bi.now) bb;clear bi bb b ar;go_wp2_with fail
  refine aT.o.M ?_;rintro e bS ⟨B,I,E,rfl,aO,bc⟩;have ag:=((P.o.B am.o).B bc).add aO.hi (gw P.o.z.2.1 am.o.size);have⟨m,bs⟩:=ϟ (ag.set 5 (D B I E) (lC ag.s _).2.2.2.2.2) aO.1;obtain⟨⟨o,q,r,s,x,y⟩,d,M⟩:=go ag.s;clear aO bc aT am ag P;go_upto_region 10 with fail
  generalize ŝ bS ⟨z,5,O⟩ (D B I E)=bV at *;clear o q r s x y d M;have H:=(m.o.b.block _ bo).trans au.o;have⟨av,an,ay⟩:=iQ (Fo H (G 1) (š (δ h)) (š (δ nx)) (š (δ (Ϣ l))) (D i k j) (D B I E)) (Cf (N.o.t m.o.b) (Nat.le_refl w.heap.size) (G 1) (š (δ h)) (š (δ nx)) (š (δ (Ϣ l))) (D i k j) (D B I E)) ((((((((m.o.x.M (lo':=w.heap.size+1) (ι m.o.z)).set (p:=⟨w.heap.size,0,O⟩) (nJ _) (G 1)).set (p:=⟨w.heap.size,1,O⟩) (nJ _) (š (δ h))).set (p:=⟨w.heap.size,2,O⟩) (nJ _) (š (δ nx))).set (p:=⟨w.heap.size,3,O⟩) (nJ _) (š (δ (Ϣ l)))).set (p:=⟨w.heap.size,4,O⟩) (nJ _) (D i k j)).set (p:=⟨w.heap.size,5,O⟩) (nJ _) (D B I E)));obtain⟨⟨o,q,r,s,x,y⟩,-,-⟩:=go m.o.s;obtain⟨⟨bH,bI,bJ,bK,bL,bM⟩,bB,bT⟩:=go H;clear H;go_wp2;refine Ω (v:=.tuple #[ā #[G 1,š (δ h),š (δ nx),š (δ (Ϣ l)),D i k j,D B I E],G 0]) (gz (p:=4) (u:=5) (ty:=185) rfl _ _ w.heap.size 185 _ (0,0) _ rfl av.o underlying185 rfl ϋ) rfl ?_;exact⟨i,k,j,B,I,E,rfl,aV.o,bs.o,(ay.o.imp fun aB h=>⟨h.1.2,h.2⟩).M U,an.o⟩
 |false =>
  have m:=P;clear ao ar P;go_upto_region 10 with fail
  have H:=(m.o.b.block _ bo).trans au.o;have⟨av,an,ay⟩:=iQ (Fo H (G 1) (š (δ h)) (š (δ nx)) (š (δ (Ϣ l))) (D i k j) (D O 0 0)) (Cf (N.o.t m.o.b) (Nat.le_refl w.heap.size) (G 1) (š (δ h)) (š (δ nx)) (š (δ (Ϣ l))) (D i k j) (D O 0 0)) ((((((((m.o.x.M (lo':=w.heap.size+1) (ι m.o.z)).set (p:=⟨w.heap.size,0,O⟩) (nJ _) (G 1)).set (p:=⟨w.heap.size,1,O⟩) (nJ _) (š (δ h))).set (p:=⟨w.heap.size,2,O⟩) (nJ _) (š (δ nx))).set (p:=⟨w.heap.size,3,O⟩) (nJ _) (š (δ (Ϣ l)))).set (p:=⟨w.heap.size,4,O⟩) (nJ _) (D i k j)).set (p:=⟨w.heap.size,5,O⟩) (nJ _) (D O 0 0)));obtain⟨⟨o,q,r,s,x,y⟩,-,-⟩:=go m.o.s;obtain⟨⟨bH,bI,bJ,bK,bL,bM⟩,bB,bT⟩:=go H;clear H;go_wp2;clear h;refine Ω (v:=.tuple #[ā #[G 1,š (δ h),š (δ nx),š (δ (Ϣ l)),D i k j,D O 0 0],G 0]) (gz (p:=4) (u:=5) (ty:=185) rfl _ _ w.heap.size 185 _ (0,0) _ rfl av.o underlying185 rfl ϋ) rfl ?_;exact⟨i,k,j,O,0,0,rfl,aV.o,rfl,(ay.o.imp fun aB h=>⟨h.2,pX _ _⟩).M U,an.o⟩
def sG (b:List Int) (w:β) (e:Ending) (f:β):Prop:= ∃ a c,e=ŗ (.tuple #[D a (L b) c,G 0])/\Hi w.heap.size f (fun d=>Rd d (D a (L b) c) (L b) 1 (τ b))/\Below w.heap.size w f
def Mw (h b:γ) (l) (a:b=[]):lz (jK 2 1 2) (gU h l) (ϴ (gJ h b (Ϣ l)))=ib [(h,l)]:=by
 subst a;have:=xt 2 ((iD [(h,l)]).map ϴ) 1 (by rw[hU,qJ];simp) (by rw[hU,qJ];simp);rw[hU,qJ]at this;exact this
def Aq (h:γ) (l):L (gU h l)=L (jK 2 1 2)/\L (gU h l)<=2:=by
 have:=qO 2 ((iD [(h,l)]).map ϴ) 1;rw[hU,qJ]at this;exact this
def Qn (h nx t:γ) (l:List Int) (g:Bool) (z:Option Addr) (k pc:Nat) (B:Option Addr) (s E:Nat) (ds:γ) (w:β) (Z:nx=[]) (Y:decide (h=t)=g) (a1:ϭ w) (ak:Ϭ w) (aA:L h<=64) (a0:iT t=true) (bk:L t<=64) (aB:g=false->ltStr h t=true/\s=0) (aR:g=true->ds=gM l) (aU:L (gU h l)=k) (aP:L ds=s) (aV:s<=4000) (aY:Rd w (D z k pc) k 1 (χ (gU h l))) (aQ:Rd w (D B s E) s 1 (η ds))
  (aZ:∀ b,BQ w b->Calls prog 233 #[D B s E] b (fun e w'=>∃ a c,e=ŗ (.tuple #[D a (L (if g then l else[])) c,G (if g then 0 else 4)])/\Hi b.heap.size w' (fun F=>Rd F (D a (L (if g then l else[])) c) (L (if g then l else[])) 1 (τ (if g then l else[])))/\BQ b w')) :
  Calls prog 104 #[š (δ (ib [(h,l)])),G 2,š (δ t),ā #[G 1,š (δ h),š (δ nx),š (δ (Ϣ l)),D z k pc,D B s E]] w (sG (if g then l else[]) w):=by
 obtain⟨aC,bz,aj⟩:=fO (w:=w) (A:=C #[G 1,š (δ h),š (δ nx),š (δ (Ϣ l)),D z k pc,D B s E] 185) RZ;obtain⟨aX,bf⟩:=Aq h l;have ap:=Zx (xZ t _ (a1.B aj) U);rw[a0]at ap;have aI:=Zx (fun b=>sR h nx (Ϣ l) b aA (by rw[Z];simp) (iq _));have bd:=xk (t:=h) (nx:=nx) (d:=Ϣ l) aA (by rw[Z];simp) (iq _);have aG:=Zx (fun a n c b (p:BQ w b) (be:L (gJ h nx (Ϣ l))=n) (bg:Rd b (D a n c) n 1 (η (gJ h nx (Ϣ l))))=>AM a n c (gJ h nx (Ϣ l)) b be U bg (ak.B p));have ac:=Zx (fun b (p:BQ w b)=>Gm (ϴ (gJ h nx (Ϣ l))) 1 2 (gU h l) z k pc b (iq _) U U aU aX (aY.B p) (qN _ _ _ (kv _)) (ak.B p));rw[Mw h nx l Z]at ac;have aK:((1:Nat):Int)=1:=U;have aL:((2:Nat):Int)=2:=U;rw[aK,aL]at ac;have aJ:=Zx (fun b (p:BQ w b)=>Qo t h nx (Ϣ l) (D z k pc) B s E (if g then l else[]) (if g then 0 else 4) b (fun F bb=>aZ F (p.t bb)));have ae:=Zx (fun(j:g=true) i u b (p:BQ w b) (X:b.heap[i]?=J (C #[š (δ t)] 9 (0,0))) (V:b.heap[u]?=J (C #[G 0] 26 (0,0)))=>show Calls prog 234 #[ā #[G 1,š (δ h),š (δ nx),š (δ (Ϣ l)),D z k pc,D B s E],þ (J ⟨i,0,O⟩),þ (J ⟨u,0,O⟩)] b (fun e w'=>e=ŗ (.bool true)/\BQ b w')by
  rw[j]at Y
  have bj:=of_decide_eq_true Y
  subst bj
  have:=QF i u h nx (D z k pc) B s E ds b X V aP aV (aQ.B p) (ak.B p)
  rw[aR j]at this
  exact this)
 have af:=Zx (fun(j:g=false) i u b (X:b.heap[i]?=J (C #[š (δ t)] 9 (0,0)))=>QE i u h t nx (Ϣ l) (D z k pc) B s E b X (by rw[j]at Y;exact of_decide_eq_false Y));have ag:=Zx (fun(j:g=false) i b (X:b.heap[i]?=J (C #[š (δ t)] 9 (0,0)))=>show Calls prog 236 #[ā #[G 1,š (δ h),š (δ nx),š (δ (Ϣ l)),D z k pc,D B s E],þ (J ⟨i,0,O⟩)] b (fun e w'=>e=ŗ (.bool true)/\BQ b w')by
  have:=QG i h t nx (Ϣ l) (D z k pc) B E b X (aB j).1 Z
  rw[(aB j).2]
  exact this)
 have a5:=Zx (fun(j:g=false)=>show(if g then l else[])=([]:List Int)by rw[j];rfl);have a4:=Zx (fun(j:g=true)=>show(if g then 0 else 4)=(0:Int)by rw[j];rfl);have bi:(δ (ib [(h,l)])).size=32:=by rw[iG,qB]
 unfold sG;clear aZ;generalize(if g=true then l else[])=am at *;generalize(if g=true then(0:Int)else 4)=bG at *;generalize gJ h nx (Ϣ l)=a7 at *;generalize ϴ a7=bB at *;generalize ib [(h,l)]=bC at *;generalize Ϣ l=a8 at *;generalize gU h l=bI at *;clear Z Y a1 ak aA a0 bk aB aR aU aP aV aY aQ aX bf aK aL bd;have bE:∀ S b,(callFunc 234 S).run prog b=.ok (.enter 234 S) b:=iW func234 ϋ rfl;have bF:∀ S b,(callFunc 236 S).run prog b=.ok (.enter 236 S) b:=iW func236 ϋ rfl;go_enter func104,ntmps104;go_upto_region 1 with fail
 generalize å w (C #[G 1,š (δ h),š (δ nx),š (δ a8),D z k pc,D B s E] 185)=bD at *;obtain⟨⟨m,p1,p2,q,o,r⟩,-,-⟩:=go aC;have ad:=Zx aC;clear aC;go_wp2_with fail
 refine ap.o.M ?_;rintro e bv ⟨rfl,ax⟩;obtain⟨⟨bn,bo,bp,bq,br,bs⟩,-,-⟩:=go (θ ad.o ax);clear m p1 p2 q o r ap;go_wp2_with fail
 refine(aI.o bv).M ?_;rintro e aE ⟨a9,bm,c2,rfl,aW,aM⟩;have ai:=ax.t aM;clear bn bo bp bq br bs ax aM aI;obtain⟨⟨m,p1,p2,q,o,r⟩,-,-⟩:=go (θ ad.o ai);have az:=aj.t ai;have ao:=Zx aW;clear aW;go_upto_region 6 with fail
 have K:=(ρ aE.heap.size aE).drew;refine ϯ (fun F=>BQ aE F) 7 ϋ ?_;refine Zf 0 K ?_;refine Zf 2 K ?_;refine Zk 3 K ?_ (hy:=by intro b p;have bt:=ζ p m;have bu:=ζ p o;go_simp;try with_reducible rfl);refine Zf 4 K ?_;refine Zf 5 K ?_;refine Zk 6 K ?_ (hy:=by intro b p;have bt:=ζ p m;have bu:=ζ p o;go_simp;try with_reducible rfl);refine Κ (fuel:=6) 1 ϋ rfl ?_;intro b1 W;go_simp;refine(aG.o a9 bm c2 _ (az.t K) ao.o.1 (ao.o.B K).rd).M ?_;rintro e bw ⟨rfl,aN⟩;have ah:=K.trans aN;refine W _ _ ah ?_;clear W b1;try simp only[Zp]
 refine jF (fuel:=5) ϋ ϋ rfl ?_;intro b1 W;go_simp;refine(ac.o bw (az.t ah)).M ?_;rintro e bx ⟨rfl,aO⟩;refine W _ _ ?_;clear W b1;try simp only[Zp]
 have N:=ah.t aO;refine Zf 8 N ?_;refine Zf 9 N ?_;refine Zf 10 N ?_;refine Zf 11 N ?_;refine Zf 12 N ?_;refine Zd ?_;have aw:=ai.t N;have aD:=θ ad.o aw;have aa:=Zx (aj.t aw);clear m p1 p2 q o r K ah N aN aO ai az ao aG ac ad bi;obtain⟨⟨m,p1,p2,q,o,r⟩,-,-⟩:=go aD;have aH:=Zx (aJ.o bx aa.o);go_wp2_with fail
 refine aH.o.M ?_;rintro e a2 ⟨i,u,bA,R,T,rfl,r1,r2,r3,aT,ay⟩;have⟨x,a6⟩:=ϟ (Ν (θ aD ay) (Ν r1 (Ν r2 (Ν r3 (Ν aT (aa.o.t ay)))))) aa.o.size;clear m p1 p2 q o r r1 r2 r3 aT ay aH aJ aD aw aa aj bz;have bH:=fun(b:β) (a:Addr) (b0:Fn) (ba:Array ε) (bl:Mode)=>run_store prog b a (.func b0 #[] ba) bl rfl;go_wp2;go_loopw [61] (fun al wr=>(al=G 0\/(al=G 1/\g=false))/\ϫ (BQ a2 wr)) (fun al _=>2 - (intOf al).toNat)
 .exact⟨.inl rfl,⟨ρ _ _⟩⟩
 obtain⟨bc,I⟩:=hrel;obtain⟨⟨aq,ar,au,av⟩,-,-⟩:=ϩ (θ x.o.2.2.2.1 I.o);obtain⟨⟨m,p1,p2,q,o,r⟩,-,-⟩:=go (θ x.o.1 I.o);rcases bc with rfl|⟨rfl,j⟩
 .have f:=φ wr (C #[.func (.func 234) #[] #[þ (J ⟨i,0,O⟩),þ (J ⟨u,0,O⟩)],D R (L am) T] 283)
  have⟨H,v⟩:=ϟ f (I.o.trans (((ρ wr.heap.size wr).A NZ (C #[.func (.func 234) #[] #[þ (J ⟨i,0,O⟩),þ (J ⟨u,0,O⟩)],D R (L am) T] 283)).M I.o.size));have ab:=Zx (x.o.2.2.2.2.2.t v.o);clear f I;by_cases j:g=true
  .have V:=θ x.o.2.2.1 v.o
   rw[a4.o j]at V;have M:=Zx (ae.o j i u _ ab.o (θ x.o.2.1 v.o) V);clear V ae af ag;go_upto_region 12 with fail
   generalize å wr (C #[.func (.func 234) #[] #[þ (J ⟨i,0,O⟩),þ (J ⟨u,0,O⟩)],D R (L am) T] 283)=F at *;clear aq ar au av m p1 p2 q o r;obtain⟨⟨m,p1,p2,q,o,r⟩,-,-⟩:=go (θ x.o.1 v.o);obtain⟨⟨P,Q⟩,-,-⟩:=ν H.o;go_wp2_with fail
   refine M.o.M ?_;rintro e aF ⟨rfl,y⟩;clear P Q;obtain⟨⟨P,Q⟩,-,-⟩:=ν (θ H.o y);have an:=Zx (Ν (((x.o.2.2.2.2.1.B (v.o.t y))).M a6.o) (ab.o.t y));clear m p1 p2 q o r y M H;go_wp2;go_ret2;exact⟨R,T,rfl,an.o⟩
  .have aS:g=false:=by cases g<;>simp_all
   have M:=Zx (af.o aS i u _ (θ x.o.2.1 v.o));clear ae af ag j;go_upto_region 12 with fail
   generalize å wr (C #[.func (.func 234) #[] #[þ (J ⟨i,0,O⟩),þ (J ⟨u,0,O⟩)],D R (L am) T] 283)=F at *;clear aq ar au av m p1 p2 q o r;obtain⟨⟨m,p1,p2,q,o,r⟩,-,-⟩:=go (θ x.o.1 v.o);obtain⟨⟨P,Q⟩,-,-⟩:=ν H.o;go_wp2_with fail
   refine M.o.M ?_;rintro e aF ⟨rfl,y⟩;have a3:ϫ (BQ a2 aF):=⟨v.o.t y⟩;clear m p1 p2 q o r y M H;go_wp2_with fail
   go_roundw
   .exact⟨.inr ⟨rfl,aS⟩,a3⟩
   exact gG
 .have f:=φ wr (C #[.func (.func 236) #[] #[þ (J ⟨i,0,O⟩)],D O 0 0] 283)
  have⟨H,v⟩:=ϟ f (I.o.trans (((ρ wr.heap.size wr).A NZ (C #[.func (.func 236) #[] #[þ (J ⟨i,0,O⟩)],D O 0 0] 283)).M I.o.size));have⟨ab,M⟩:=ϟ (x.o.2.2.2.2.2.t v.o) (ag.o j i _ (θ x.o.2.1 v.o));clear f I ae af ag;have bh:=a5.o j;clear j;go_upto_region 12 with fail
  generalize å wr (C #[.func (.func 236) #[] #[þ (J ⟨i,0,O⟩)],D O 0 0] 283)=F at *;clear aq ar au av m p1 p2 q o r;obtain⟨⟨m,p1,p2,q,o,r⟩,-,-⟩:=go (θ x.o.1 v.o);obtain⟨⟨P,Q⟩,-,-⟩:=ν H.o;go_wp2_with fail
  refine M.o.M ?_;rintro e aF ⟨rfl,y⟩;clear P Q;obtain⟨⟨P,Q⟩,-,-⟩:=ν (θ H.o y);have an:=Zx (ab.o.t y);clear m p1 p2 q o r y M H;go_wp2;go_ret2;subst bh;exact⟨O,0,rfl,fun F _=>sZ F,an.o⟩
def oZ (a:List (γ)) (c:List (Nat×Nat)) (b d:γ):γ:=[1]++Ξ (fV a c)++ο 2++b++d
def mu (t c d:γ) (b a:ε):List ε:=[G 1,š (δ t),š (δ c),š (δ d),b,a]
structure pM (w:β) (qa:Option Addr) (qc:Nat) (la:Option Addr) (lc:Nat) (t nx d:γ) (path:List (γ)) (k:Nat) (pa1:Option Addr) (pc1:Nat) (ta1:Option Addr) (tn1 tc1:Nat) (ds1:γ) (pa2:Option Addr) (pc2:Nat) (ta2:Option Addr) (tn2 tc2:Nat) (ds2:γ):Prop where
 q:Rd w (D qa 1 qc) 1 1 [D la 2 lc]
 l:Rd w (D la 2 lc) 2 6 (mu t nx d (D pa1 k pc1) (D ta1 tn1 tc1)++mu t nx d (D pa2 k pc2) (D ta2 tn2 tc2))
 p1:Rd w (D pa1 k pc1) k 1 (χ path)
 d1:Rd w (D ta1 tn1 tc1) tn1 1 (η ds1)
 p2:Rd w (D pa2 k pc2) k 1 (χ path)
 d2:Rd w (D ta2 tn2 tc2) tn2 1 (η ds2)
def pM.B {w b:β} {qa qc la lc t nx d path k pa1 pc1 ta1 tn1 tc1 ds1 pa2 pc2 ta2 tn2 tc2 ds2} (h:pM w qa qc la lc t nx d path k pa1 pc1 ta1 tn1 tc1 ds1 pa2 pc2 ta2 tn2 tc2 ds2) (a:Below w.heap.size w b):pM b qa qc la lc t nx d path k pa1 pc1 ta1 tn1 tc1 ds1 pa2 pc2 ta2 tn2 tc2 ds2:=
 ⟨h.q.B a,h.l.B a,h.p1.B a,h.d1.B a,h.p2.B a,h.d2.B a⟩
def of {w:β} {a n c s} {j:List ε} (h:Rd w (D a n c) n s j) (g:0<n):∃ b off,a=J ⟨b,off,O⟩/\∀ k u,j[k]?=J u->w.cell? ⟨b,off+k,O⟩=J u:=by
 obtain⟨-,-,⟨-,-,-,i⟩|⟨b,off,f,d,-,-,-,e⟩⟩:=h
 .omega
 simp only[Χ,ϵ]at d;exact⟨b,off,d.1,e⟩
def Ri (sa sc) (ď:List (γ)) (ps qa qc la lc t nx d path k pa1 pc1 ta1 tn1 tc1 ds1 pa2 pc2 ta2 tn2 tc2 ds2) (w:β) (aD:L ps=1) (ax:Rd w (D sa 1 sc) 1 4 (fP ď ps)) (T:Ϻ ď ps (L ď)) (z:pM w qa qc la lc t nx d path k pa1 pc1 ta1 tn1 tc1 ds1 pa2 pc2 ta2 tn2 tc2 ds2)
  (K:L t<=64) (I:L nx<=64) (H:L d=32) (ad:L path=k) (Y:k<=64) (b:ϱ path) (aA:L ds1=tn1) (aG:tn1<=4000) (aB:L ds2=tn2) (aH:tn2<=4000) :
  Calls prog 100 #[ā #[G (L ď),š (δ (ϡ ď)),D sa 1 sc,D qa 1 qc]] w (mG (oZ ď ps (hJ 1 t nx d path ds1) (hJ 1 t nx d path ds2)) w):=by
 obtain⟨aE,aR,ab⟩:=fO (w:=w) (A:=C #[G (L ď),š (δ (ϡ ď)),D sa 1 sc,D qa 1 qc] 192) RZ;have l1:=lE (l:=fV ď ps) (ι (ke T));have aT:=ke T;have b1:=xz (n:=1)    (ds:=ds1)  U K I H U b U;have b2:=xz (n:=1)    (ds:=ds2)  U K I H U b U;have b3:=Ϸ 8 2 U;have an:=Zx (fun a g l h o j r v=>yk a g _ ď ps l h j r (by rw[aD];exact ax.B o) T v);have q:=Zx (fun a g l h j r v=>GH a g 2 l h j r U v);have V:=Zx (fun a g l h (o:Below _ w h) B j r v=>GK a g 1 t nx d pa1 k pc1 path ta1 tn1 tc1 ds1 l h j r U K I H ad Y b (fun R s=>z.p1.B (o.trans (s.M B))) aA aG (fun R s=>z.d1.B (o.trans (s.M B))) v);have W:=Zx (fun a g l h (o:Below _ w h) B j r v=>GK a g 1 t nx d pa2 k pc2 path ta2 tn2 tc2 ds2 l h j r U K I H ad Y b (fun R s=>z.p2.B (o.trans (s.M B))) aB aH (fun R s=>z.d2.B (o.trans (s.M B))) v);have P:=Zx (fun h (o:Below _ w h)=>z.B o);unfold oZ;generalize Ξ _=y at *;generalize hJ 1 t nx d path ds1=Q at *;generalize hJ 1 t nx d path ds2=X at *;generalize ο 2=F at *;generalize ϡ ď=aS at *;generalize(L ď:Int)=aU at *;have av:((1:Nat):Int)=1:=U;have aw:((2:Nat):Int)=2:=U;rw[av]at V W;rw[aw]at q;clear ax T z K I H ad Y b aA aG aB aH av aw aD;go_enter func100,ntmps100;go_upto_region 1 with fail
 generalize å w _=i at *;go_upto_region 2 with fail
 have j:WS i.heap.size (i.heap.size+1) (å (å i (C #[ĭ .u8 1] 5)) (C #[D (J ⟨i.heap.size,0,O⟩) 1 1,.bool false] 227)) [1]:=Bu i 1;have Z:Below i.heap.size i (å (å i (C #[ĭ .u8 1] 5)) (C #[D (J ⟨i.heap.size,0,O⟩) 1 1,.bool false] 227)):=ġ.A ύ _;generalize(å (å i _) _)=ap at *;have p:=ab.size;have aI:=aR;have ae:=θ aE Z;generalize i.heap.size=a at *;have ac:=ab.trans (Z.M p);have al:=Zx (an.o _ _ _ ap ac j U ύ);obtain⟨⟨c0,c1,c2,ar⟩,-,-⟩:=ϩ ae;clear Z j;go_wp2_with fail
 refine al.o.M ?_;rintro e aV ⟨rfl,af,aa⟩;have aF:=(aa.block _ aI).trans ae;have az:=ac.trans (aa.M p);have jE:=Zx af;clear al c0 c1 c2 ar aa ae an aE ac af;obtain⟨⟨c0,c1,c2,ar⟩,-,-⟩:=ϩ aF;go_wp2;go_loopw [25] (fun m wr=>(m=G 0/\ϫ (WS a (a+1) wr ([1]++y)/\Below w.heap.size w wr))\/(m=G 1/\ϫ (WS a (a+1) wr ([1]++y++F++Q++X)/\Below w.heap.size w wr))) (fun m _=>1 - (intOf m).toNat)
 .exact .inl ⟨rfl,⟨jE.o,az⟩⟩
 clear jE az aF c0 c1 c2 ar
 rcases hrel with ⟨rfl,c⟩|⟨rfl,c⟩
 .obtain⟨a0,off,rfl,f⟩:=of (P.o wr c.o.2).q U
  have aL:=f 0 _ rfl;simp only[kG]at aL;have x:=Zx (q.o a _ _ wr c.o.1 U ό);clear f;go_wp2_with fail
  refine x.o.M ?_;rintro e aW ⟨rfl,ag,ay⟩;have aj:=Zx (Ν ag (c.o.2.trans (ay.M p)));clear x aL ay c ag;go_wp2;go_loopw [37] (fun m wr=>(m=G 0/\ϫ (WS a (a+1) wr ([1]++y++F)/\Below w.heap.size w wr))\/(m=G 1/\ϫ (WS a (a+1) wr ([1]++y++F++Q)/\Below w.heap.size w wr))\/(m=G 2/\ϫ (WS a (a+1) wr ([1]++y++F++Q++X)/\Below w.heap.size w wr))) (fun m _=>2 - (intOf m).toNat)
  .exact .inl ⟨rfl,aj⟩
  clear aj
  rcases hrel with ⟨rfl,c⟩|⟨rfl,c⟩|⟨rfl,c⟩
  .obtain⟨b2,aK,rfl,f⟩:=of (P.o wr c.o.2).l U
   have ai:=f 0 _ rfl;have aM:=f 1 _ rfl;have aN:=f 2 _ rfl;have aO:=f 3 _ rfl;have aP:=f 4 _ rfl;have aQ:=f 5 _ rfl;simp only[kG]at ai;have u:=(ρ _ wr).A NZ (C #[G 1,š (δ t),š (δ nx),š (δ d),D pa1 k pc1,D ta1 tn1 tc1] 185);have⟨x,N⟩:=ϟ (V.o a _ _ _ (c.o.2.t u) p (c.o.1.B u) U ό) (c.o.2.t u);clear f u c;go_wp2_with fail
   refine x.o.M ?_;rintro e ah ⟨rfl,E,S⟩;have M:=Zx (Ν E (N.o.trans (S.M p)));clear x N S ai aM aN aO aP aQ E;go_wp2_with fail
   go_roundw
   .exact .inr (.inl ⟨rfl,M⟩)
   exact gG
  .obtain⟨b2,aK,rfl,f⟩:=of (P.o wr c.o.2).l U
   have ai:=f 6 _ rfl;have aM:=f 7 _ rfl;have aN:=f 8 _ rfl;have aO:=f 9 _ rfl;have aP:=f 10 _ rfl;have aQ:=f 11 _ rfl;have u:=(ρ _ wr).A NZ (C #[G 1,š (δ t),š (δ nx),š (δ d),D pa2 k pc2,D ta2 tn2 tc2] 185);have⟨x,N⟩:=ϟ (W.o a _ _ _ (c.o.2.t u) p (c.o.1.B u) U ό) (c.o.2.t u);clear f u c;go_wp2_with fail
   refine x.o.M ?_;rintro e ah ⟨rfl,E,S⟩;have M:=Zx (Ν E (N.o.trans (S.M p)));clear x N S ai aM aN aO aP aQ E;go_wp2_with fail
   go_roundw
   .exact .inr (.inr ⟨rfl,M⟩)
   exact gG
  .go_wp2_with fail
   go_roundw
   .exact .inr ⟨rfl,c⟩
   exact gG
 .have⟨am,ak⟩:=ϟ (Bn a _ _ wr c.o.1 ό) c.o.2
  clear c;go_wp2_with fail
  refine am.o.M ?_;rintro e ah ⟨aq,aJ,au,rfl,aC,rfl⟩;have ao:=Zx (aC.M p);clear aC;go_wp2;go_ret2;exact⟨aq,aJ,au,rfl,ao.o,ak.o⟩
