/- Part 15 of the proof. -/
import Derived.Test.YtpilfbcffofheaaGreatDoorm13
import Derived.Test.YtpilfbcffofheaaGreatDoorm14
set_option linter.unusedVariables false
set_option linter.unusedSimpArgs false
set_option maxRecDepth 100000
set_option maxHeartbeats 8000000
namespace Go.Proofs.YtpilfbcffofheaaGreatDoor
open Go.Proofs.Tryz Go.RowKit Go.Sort
open List renaming length->L
open Value renaming slice->D,string->š,agg->ā
open Option renaming none->O,some->J
open Ending renaming returned->ŗ
open Obj renaming cells->C
open World renaming alloc->å
def ϭ (l:List (γ)):Prop:= ∀ d∈l,L d=32
theorem qL {w:β} {d:Option Addr} {n c:Nat} {l:List (γ)} (h:Rd w (D d n c) n 1 (σ l)) (p:L l=n) (k:Nat) (i:k<L l):∃ b off,d=J ⟨b,off,O⟩/\w.cell? ⟨b,off+k,O⟩=J (š (δ l[k])):=by
 obtain⟨m,q,⟨j,e,a,f⟩|⟨b,off,e,a,f,r,o,g⟩⟩:=h
 .omega
 .simp only[Ξ,Ϯ]at a
  obtain⟨rfl,rfl⟩:=a;exact⟨b,off,rfl,g k _ (by simp[σ,i,ϴ])⟩
theorem zD (i:Option Addr) (n c:Nat) (l:List (γ)) (w:β) (f:L l=n) (h:Rd w (D i n c) n 1 (σ l)) (j:ϭ l) :
  Calls prog 134 #[D i n c] w fun e w'=>e=ŗ (.bool true)/\w=w':=by
 have q:=h.2.1;unfold maxLen at q;have o:=Zh (fun a d=>qL h f a d);have m:=Zh (fun a (d:a<L l)=>j l[a] (Χ d));have p:=Zh f;clear h f j;go_enter func134,ntmps134;go_wp2;go_loop [7] (fun g=>∃ a:Nat,a<=n/\g=IZ (a:Int)) (fun g=>n - (intOf g).toNat)
 case atStart=>exact⟨0,Ι _,rfl⟩
 case round =>
  obtain⟨a,d,rfl⟩:=hrel;by_cases u:a<n
  .have k:a<L l:=by have:=p.o;omega
   obtain⟨b,off,rfl,t⟩:=o.o a k;have r:(a:Int)<(n:Int):=ϊ;have v:(δ l[a]).size=32:=by rw[jx];exact m.o a k
   generalize δ l[a]=s at *;go_wp2
   go_round
   case rel=>exact⟨a+1,ϊ,ϕ⟩
   case measure=>simp[intOf];omega
  .have r:¬(a:Int)<(n:Int):=ϊ
   go_wp2;go_ret;exact⟨rfl,rfl⟩
theorem zE (l r:γ) (w:β) (a:L l=32) (b:L r=32) (c:Ϡ w) :
  Calls prog 143 #[š (δ l),š (δ r)] w fun e w'=>e=ŗ (š (δ (gw l r)))/\BQ w w':=by
 have d:=Zh (DR l r w a b c);clear a b c;go_enter func143,ntmps143;go_wp2_with fail
 refine d.o.mono ?_;rintro e g ⟨rfl,f⟩;go_wp2;go_ret;exact⟨rfl,f⟩
def uz (l:List (γ)) (w:β) (e:Ending) (w':β):Prop:= ∃ a n c,e=ŗ (D a n c)/\fZ w.heap.size w' (D a n c) n l/\Below w.heap.size w w'
theorem ue (p:ε) (docs:List (γ)) (w:β) (x:Ϡ w) (h:Δ w p docs) (S:L docs<=1000000000) (t:∀ d∈docs,L d<=100000000) :
  Calls prog 70 #[p] w (uz (docs.map ϩ) w):=by
 obtain⟨P,c,rfl,R,y⟩:=ny h;have F:=Zh x;have z:=Zh (fun a (u:a<L docs)=>t docs[a] (Χ u));clear h x t;go_enter func70,ntmps70;go_wp2;go_loopw [3,8] (fun M n wr=>∃ (a:Nat) (g:Option Addr) (c1:Nat),a<=L docs/\n=IZ (a:Int)/\M=D g a c1/\Hid (fZ w.heap.size wr (D g a c1) a ((docs.take a).map ϩ))/\BQ w wr) (fun _ n _=>L docs - (intOf n).toNat)
 case atStart=>exact⟨0,O,0,Ι _,rfl,rfl,fZ.nil _ _,φ _ _⟩
 case round =>
  obtain⟨a,g,c1,u,rfl,rfl,o,f⟩:=hrel;by_cases k:a<L docs
  .obtain⟨b,off,da,dc,rfl,s,v⟩:=y.o a k
   have K:(a:Int)<(L docs:Int):=ϊ;have Q:=ζ f s;have B:=Zh (zm da (L docs[a]) dc docs[a] wr rfl (by have:=z.o a k;omega) (v.below f) (F.o.below f));have E:Hid ((docs.take (a+1)).map ϩ=(docs.take a).map ϩ++[ϩ docs[a]]):=by show _=_;rw[kD k,ou];rfl
   generalize (L docs[a])=q at *;clear s v;go_wp2_with fail
   refine B.o.mono ?_;rintro e N ⟨rfl,r⟩;have j:=f.trans (r.mono f.size);have A:=Zh ((o.o.below r).alloc (C #[š (δ (ϩ docs[a]))] 9));go_wp2_with (at_builtin;refine uh rfl (.tmp 12) (.tmp 15) rfl w.heap.size _ _ a 1 _ [ϩ docs[a]] rfl A.o rfl rfl (qF N _ _) ϊ (by have:=j.size;simp;omega) ?_;intro G c2 T m I;have H:=(j.alloc j.size _).trans I)
   rw[<-E.o]at m;have i:=Zh m;clear m;go_roundw;case rel=>exact⟨a+1,G,c2,ϊ,ϕ,rfl,i.o,H⟩
   case measure=>simp[intOf];omega
  .obtain rfl:a=L docs:=ϊ
   have K:¬(L docs:Int)<(L docs:Int):=ϊ;have l:=o.o;rw[pa]at l;have i:=Zh l;clear l;go_wp2;go_ret;exact⟨g,L docs,c1,rfl,i.o,f⟩
def Fu (base:Nat) (l:List (γ)) (w:β) (e:Ending) (w':β):Prop:= ∃ a n c,e=ŗ (D a n c)/\fZ base w' (D a n c) n l/\Below base w w'
theorem NA (base:Nat) (r:Option Addr) (n c:Nat) (pre:List (γ)) (x y:γ) (w:β) (E:L x=32) (hy:L y=32) (j:L pre=n) (h:fZ base w (D r (n+2) c) (n+2) (pre++[x,y])) (R:base<=w.heap.size) (Z:n<=1000000000) (A:Ϡ w) :
  Calls prog 208 #[D r (n+2) c] w (Fu base (pre++[gw x y]) w):=by
 have ag:prog.follows .mixedOrders=true:=ϋ;obtain⟨g,W,B⟩:=kz h.2 ϊ;simp only[Ξ,Ϯ]at B;obtain⟨rfl,rfl⟩:=B;obtain⟨d,s,S,X,aa,T⟩:=tF h.2 n ϊ;obtain⟨m,-⟩:=tF h.2 (n+1) ϊ;rw[show(σ (pre++[x,y]))[n]?=J (š (δ x))from by simp[σ,ϴ,<-j]]at d;rw[show(σ (pre++[x,y]))[n+1]?=J (š (δ y))from by simp[σ,ϴ,<-j,gO]]at m;have I:=Zh (fun b (f:BQ w b)=>zE x y b E hy (A.below f));have M:=Zh h;have l:=Zh j;unfold maxLen at T;clear h A E hy j;have U:IntKind.i64.wrap ((n:Int)+2 - 2)=(n:Int):=Ϗ;have ab:IntKind.i64.wrap (n:Int)=(n:Int):=Ϗ;have F:IntKind.i64.wrap ((n:Int)+1)=(n:Int)+1:=Ϗ;have G:((n:Int)+1).toNat=n+1:=ϊ;have ac:(0:Int)<=(n:Int)+1:=ϊ;have ad:(n:Int)+1<(n:Int)+2:=ϊ;have ae:(n:Int)<(n:Int)+2:=ϊ;have af:(n:Int)+1<=(c:Int):=ϊ;go_enter func208,ntmps208;go_wp2;refine ϸ (fun b=>BQ w b) 13 ϋ ?_;have a:BQ w w.drew:=RZ.drew;refine Zf 0 a ?_;refine Zf 1 a ?_;refine Zf 2 a ?_;refine Zf 3 a ?_;refine Zf 4 a ?_;refine Zk 5 a ?_ (hy:=by intro b f;have P:=ζ f d;go_simp;try with_reducible rfl);refine Zf 6 a ?_;refine Zf 7 a ?_;refine Zf 8 a ?_;refine Zf 9 a ?_;refine Zk 10 a ?_ (hy:=by intro b f;have P:=ζ f m;go_simp;try with_reducible rfl);clear d m U F G;refine Ψ (fuel:=2) 11 ϋ rfl ?_;intro K t;go_simp;refine(I.o _ a).mono ?_;rintro e V ⟨rfl,Q⟩;have i:BQ w V:=a.trans Q;refine t _ _ i ?_;clear t K;try simp only[Act.put]
 refine Zf 12 i ?_;have q:=Zh (M.o.below i);obtain⟨d,s,-,Y,-,-⟩:=tF q.o.2 n ϊ;rw[show(σ (pre++[x,y]))[n]?=J (š (δ x))from by simp[σ,ϴ,<-l.o]]at d;refine Zl ?_;refine Zd ?_;have z:=De q.o.2 n ϊ (š (δ (gw x y)));have o:=yR (k:=n+1) z ϊ;have u:((σ (pre++[x,y])).set n (š (δ (gw x y)))).take ((n+1)*1)=σ (pre++[gw x y]):=by
  have v:L (σ pre)=n:=by simp[σ,l.o]
  rw[tU,List.set_append_right _ _ ϊ,v,kE,nJ,List.take_append,gW ϊ,v];simp[σ,ϴ]
 rw[u]at o;have N:=Zh o;have H:=Zh ((i.mono R).setCell (p:=⟨g,n,O⟩) S (š (δ (gw x y))));clear o z u d s;have F:IntKind.i64.wrap ((n:Int)+1)=(n:Int)+1:=Ϗ;have G:((n:Int)+1).toNat=n+1:=ϊ;go_wp2;go_ret;exact⟨J ⟨g,0,O⟩,n+1,c,rfl,⟨by simp[l.o],N.o⟩,H.o⟩
def jt:List (γ)->List (γ)
 |b::a::t=>gw a b::t
 |l=>l
def pc (n:Nat):Nat:=if n=0 then 0 else n % 2+pc (n / 2)
 termination_by n
 decreasing_by omega
theorem mU (n:Nat) (h:0<n):pc n=n % 2+pc (n / 2):=by rw[pc,κ ϊ]
theorem tI:pc 0=0:=by rw[pc];rfl
def iE (j:Nat) (l:List (γ)):List (γ):=if j % 2=1 then iE (j / 2) (jt l)else l
 termination_by j
 decreasing_by omega
theorem nP {j:Nat} {l:List (γ)} (h:j % 2=1):iE j l=iE (j / 2) (jt l):=by rw[iE,μ h]
theorem nO {j:Nat} {l:List (γ)} (h:j % 2≠1):iE j l=l:=by rw[iE,κ h]
theorem tg {l:List (γ)} (h:2<=L l):L (jt l)=L l - 1:=by
 match l,h with
 |b::a::t,_=>simp[jt]
theorem uV {l:List (γ)} (h:2<=L l):∃ b a t,l=b::a::t:=by
 match l,h with
 |b::a::t,_=>exact⟨b,a,t,rfl⟩
theorem xW {l:List (γ)} (h:ϭ l):ϭ (jt l):=by
 match l with
 |[]=>exact h
 |[a]=>exact h
 |b::a::t =>
  intro d hd;rcases gP.1 hd with rfl|hd
  .exact hO _
  .exact h d (by simp[hd])
theorem Gz:∀ (j:Nat) (l:List (γ)),L l=pc j+1->L (iE j l)=pc (j+1):=by
 intro j;induction j using Nat.strongRecOn with
 |_ j e =>
  intro l d;by_cases h:j % 2=1
  .have b:=mU j ϊ
   have a:=mU (j+1) ϊ;rw[show(j+1) % 2=0 from ϊ,show(j+1) / 2=j / 2+1 from ϊ]at a;rw[nP h,e (j / 2) ϊ _ (by rw[tg ϊ];omega)];omega
  .rw[nO h,d]
   have a:=mU (j+1) ϊ;rw[show(j+1) % 2=1 from ϊ,show(j+1) / 2=j / 2 from ϊ]at a;by_cases c:j=0
   .subst c;rw[a];rw[tI]
   .have b:=mU j ϊ
    omega
def hH (ds:List (γ)):Nat->List (γ)
 |0=>[]
 |k+1=>iE k (ds.getD k []::hH ds k)
theorem pI (ds:List (γ)):∀ k,L (hH ds k)=pc k
 |0=>by rw[tI];rfl
 |k+1=>by unfold hH;exact Gz k _ (by simp[pI ds k])
theorem Gy:∀ (j:Nat) (l:List (γ)),ϭ l->ϭ (iE j l):=by
 intro j;induction j using Nat.strongRecOn with
 |_ j b =>
  intro l a;by_cases h:j % 2=1
  .rw[nP h];exact b _ ϊ _ (xW a)
  .rw[nO h];exact a
theorem Cg {ds:List (γ)} (h:ϭ ds) {k:Nat} (a:k<L ds):L (ds.getD k [])=32:=by
 rw[fR,Ρ a];exact h _ (Χ a)
theorem wo {ds:List (γ)} (h:ϭ ds):∀ k,k<=L ds->ϭ (hH ds k)
 |0,_=>fun d hd=>by cases hd
 |k+1,hk=>by
  unfold hH;refine Gy k _ ?_;intro d hd;rcases gP.1 hd with rfl|hd
  .exact Cg h ϊ
  .exact wo h k ϊ d hd
theorem KC (n:Nat):pc n<=n:=by
 induction n using Nat.strongRecOn with
 |_ n a =>
  by_cases h:n=0
  .subst h;rw[tI];omega
  .have:=mU n ϊ
   have:=a (n / 2) ϊ;omega
theorem vJ {n:Nat} (h:0<n):0<pc n:=by
 induction n using Nat.strongRecOn with
 |_ n a =>
  have:=mU n h;by_cases b:n % 2=1
  .omega
  .have:=a (n / 2) ϊ ϊ;omega
def hU:List (γ)->γ
 |[]=>[]
 |[a]=>a
 |b::a::t=>hU (gw a b::t)
 termination_by l=>L l
theorem Bs {l:List (γ)} (h:2<=L l):hU l=hU (jt l):=by
 obtain⟨b,a,c,rfl⟩:=uV h;rw[hU];rfl
theorem pr (a:γ):hU [a]=a:=by rw[hU]
def Τ (ds:List (γ)):γ:=if ds=[]then mY []else hU (hH ds (L ds))
theorem DH {l:List (γ)} {b a:γ} {t:List (γ)} (h:l=b::a::t):l.reverse=t.reverse++[a,b]/\(jt l).reverse=t.reverse++[gw a b]:=by
 subst h;simp[jt]
theorem AJ (j:Nat) (h:j<=1099511627776):bits .and .i64 (j:Int) 1=((j % 2:Nat):Int):=by
 have:=bits_mask .i64 63 ϐ wK 1 ϊ (j:Int) ϊ ϊ;simpa using this
theorem zF (Y:Option Addr) (n c:Nat) (ds:List (γ)) (w:β) (v:L ds=n) (ap:Rd w (D Y n c) n 1 (σ ds)) (Z:ϭ ds) (aI:n<=1000000000) (S:Ϡ w) :
  Calls prog 136 #[D Y n c] w fun e w'=>e=ŗ (š (δ (Τ ds)))/\BQ w w':=by
 have aN:=Zh (fun a am=>qL ap v a am);have aM:=Zh Z;have aS:=Zh v;have bh:=Zh S;by_cases aJ:n=0
 .subst aJ
  have aG:ds=[]:=ko v;have aY:=Zh (rW O 0 0 [] w rfl ϊ (pC _ _) S);have ac:Hid (Τ ds=mY []):=by show _=_;rw[Τ,μ aG]
  clear ap Z v S aG;go_enter func136,ntmps136;go_wp2_with fail
  refine aY.o.mono ?_;rintro e bt ⟨rfl,a5⟩;go_wp2;go_ret;rw[ac.o];exact⟨rfl,a5⟩
 .have bs:((n:Int)==0)=false:=by simp only[gl,ne_eq];omega
  have ac:Hid (Τ ds=hU (hH ds n)):=by show _=_;rw[Τ,κ (fun e=>aJ (by rw[<-v,e];rfl)),v]
  have ax:=Zh (fun a=>pI ds a);have aw:=Zh (fun a (am:a<=n)=>wo Z a ϊ);have aZ:Hid (∀ a,hH ds (a+1)=iE a (ds.getD a []::hH ds a)):=fun a=>rfl;have au:=Zh (fun Y n c be x y az A B aI a9 I a8 (a4:BQ w az)=>NA w.heap.size Y n c be x y az A B aI a9 I a8 (S.below a4));clear ap Z v S;go_enter func136,ntmps136;go_wp2;go_loopw [3,12] (fun F E wr=>∃ (a k:Nat) (X:Option Addr) (c1:Nat) (g:List (γ)),a<=n/\E=IZ (a:Int)/\F=D X k c1/\k<=a/\Hid (g=hH ds a)/\Hid (fZ w.heap.size wr (D X k c1) k g.reverse)/\BQ w wr) (fun _ E _=>n - (intOf E).toNat)
  case atStart=>exact⟨0,0,O,0,[],Ι _,rfl,rfl,NZ,rfl,fZ.nil _ _,φ _ _⟩
  case round =>
   obtain⟨a,k,X,c1,g,am,rfl,rfl,bm,H,ae,I⟩:=hrel;by_cases bl:a<n
   .have an:a<L ds:=by have:=aS.o;omega
    obtain⟨b,off,rfl,al⟩:=aN.o a an;have bd:(a:Int)<(n:Int):=ϊ;have bp:(0:Int)<=(a:Int):=ϊ;have a0:=ζ I al;have aF:L (ds.getD a [])=32:=Cg aM.o an;rw[show ds[a]=ds.getD a []from by rw[fR,Ρ an];rfl]at a0 al;have ay:=Zh (aZ.o a);have aD:L g=pc a:=by rw[H.o];exact ax.o a
    have R:ϭ g:=by rw[H.o];exact aw.o a ϊ
    rw[<-H.o]at ay;have aX:=Zh aD;have aW:=Zh R;have aO:=Zh aF;generalize ds.getD a []=dk at *;clear al aF aD R;obtain⟨K,rfl⟩:∃ K:β,K=wr:=⟨_,rfl⟩;have bc:=I.size;go_wp2_with (at_builtin;refine uh rfl (.tmp 15) (.tmp 20) rfl w.heap.size _ _ k 1 g.reverse [dk] rfl (ae.o.alloc _) rfl rfl (qF K _ _) ϊ ό ?_;intro aA c2 bf aL a6;have a2:=(I.alloc bc _).trans a6)
    have aU:Hid (fZ w.heap.size bf (D aA (k+1) c2) (k+1) (dk::g).reverse):=by show fZ _ _ _ _ _;rw[List.reverse_cons];exact aL
    clear aL;go_loopw [3,5] (fun F E V=>∃ (i q:Nat) (o:Option Addr) (p:Nat) (f:List (γ)),i<=a/\E=IZ (i:Int)/\F=D o q p/\q<=i+1/\q<=k+1/\Hid (iE i f=iE a (dk::g))/\Hid (L f=pc i+1/\ϭ f)/\Hid (fZ w.heap.size V (D o q p) q f.reverse)/\BQ w V) (fun _ E _=>(intOf E).toNat)
    case atStart=>exact⟨a,k+1,aA,c2,dk::g,NZ,rfl,rfl,ϊ,NZ,rfl,⟨by simp[aX.o],fun d hd=>by
     rcases gP.1 hd with rfl|hd
     .exact aO.o
     .exact aW.o d hd⟩,aU.o,a2⟩
    case round =>
     obtain⟨i,q,o,p,f,bk,rfl,rfl,bo,bb,N,G,r,t⟩:=hrel;have ak:=AJ i ϊ;have j:=r.o.1;simp only[pi]at j;by_cases aK:i % 2=1
     .have P:((i % 2:Nat):Int)=1:=ϊ
      rw[P]at ak;have ba:=mU i ϊ;have aa:2<=L f:=by have:=G.o.1;omega
      obtain⟨y,x,U,m⟩:=uV aa;obtain⟨r1,r2⟩:=DH m;have s:=G.o.2;have A:L x=32:=s x (by rw[m];simp);have B:L y=32:=s y (by rw[m];simp);obtain⟨h,aq⟩:∃ h,q=h+2:=⟨q - 2,ϊ⟩;subst aq;have T:L U.reverse=h:=by rw[m]at j;simp at j ⊢;omega
      have z:=r.o;rw[r1]at z;have ab:=Zh (au.o o h p U.reverse x y wr A B T z t.size ϊ t);have ad:Hid (iE (i / 2) (jt f)=iE a (dk::g)):=by show _=_;rw[<-nP aK];exact N.o
      have M:Hid (L (jt f)=pc (i / 2)+1/\ϭ (jt f)):=⟨by rw[tg aa,G.o.1];omega,xW s⟩;have af:=Zh r2;have aP:IntKind.i64.wrap ((h:Int)+2)=(h:Int)+2:=Ϗ;clear ba m r1 r2 s A B T z j P aP;go_wp2_with fail
      refine ab.o.mono ?_;rintro e bg ⟨ag,ar,ah,rfl,u,aj⟩;have ai:=t.trans aj;rw[<-af.o]at u;have ao:ar=h+1:=by have Q:=u.1;have aB:=M.o.1;have bi:=G.o.1;simp only[pi]at Q;have a1:=r.o.1;simp only[pi]at a1;have bj:=mU i ϊ;omega
      subst ao;have W:=Zh u;clear u ak;go_wp2;go_roundw;case rel=>exact⟨i / 2,h+1,ag,ah,jt f,ϊ,ϕ,rfl,by have:=M.o.1;have:=W.o.1;have:=KC (i / 2);simp only[pi]at *;omega,ϊ,ad.o,M.o,W.o,ai⟩
      case measure=>simp[intOf];omega
     .have P:((i % 2:Nat):Int)=0:=ϊ
      rw[P]at ak;have aE:=nO (l:=f) aK;have aV:=Zh (aE.symm.trans N.o);clear aE P j;go_wp2;go_roundw;case rel=>exact⟨a+1,q,o,p,f,ϊ,ϕ,rfl,ϊ,aV.o.trans ay.o.symm,r.o,t⟩
      case measure=>simp[intOf];omega
   .obtain rfl:a=n:=ϊ
    have bd:¬(a:Int)<(a:Int):=ϊ;obtain⟨K,rfl⟩:∃ K:β,K=wr:=⟨_,rfl⟩;have aC:0<L g:=by rw[H.o,ax.o a];exact vJ ϊ
    have R:ϭ g:=by rw[H.o];exact aw.o a NZ
    have aQ:Hid (Τ ds=hU g):=by show _=_;rw[ac.o,H.o]
    have av:Hid (0<L g/\ϭ g):=⟨aC,R⟩;clear aC R;go_wp2;go_loopw [3] (fun F V=>∃ (q:Nat) (o:Option Addr) (p:Nat) (f:List (γ)),F=D o q p/\q<=k/\0<q/\Hid (hU f=hU g)/\Hid (ϭ f)/\Hid (fZ w.heap.size V (D o q p) q f.reverse)/\BQ w V) (fun F _=>ju F)
    case atStart=>exact⟨k,X,c1,g,rfl,NZ,by have Q:=ae.o.1;have aB:=av.o.1;simp only[pi]at Q;omega,rfl,av.o.2,ae.o,I⟩
    case round =>
     obtain⟨q,o,p,f,rfl,bb,bn,N,G,r,t⟩:=hrel;have j:=r.o.1;simp only[pi]at j;by_cases aa:2<=q
     .obtain⟨y,x,U,m⟩:=uV (l:=f) ϊ
      obtain⟨r1,r2⟩:=DH m;have s:=G.o;have A:L x=32:=s x (by rw[m];simp);have B:L y=32:=s y (by rw[m];simp);obtain⟨h,aq⟩:∃ h,q=h+2:=⟨q - 2,ϊ⟩;subst aq;have T:L U.reverse=h:=by rw[m]at j;simp at j ⊢;omega
      have z:=r.o;rw[r1]at z;have ab:=Zh (au.o o h p U.reverse x y wr A B T z t.size ϊ t);have ad:Hid (hU (jt f)=hU g):=by show _=_;rw[<-Bs ϊ];exact N.o
      have M:Hid (ϭ (jt f)):=xW s;have aT:Hid (L (jt f)=h+1):=by show _=_;rw[tg ϊ];omega
      have af:=Zh r2;have bq:(1:Int)<(h:Int)+2:=ϊ;clear m r1 r2 s A B T z j;go_wp2_with fail
      refine ab.o.mono ?_;rintro e bg ⟨ag,ar,ah,rfl,u,aj⟩;have ai:=t.trans aj;rw[<-af.o]at u;have ao:ar=h+1:=by have Q:=u.1;have aB:=aT.o;simp only[pi]at Q;omega
      subst ao;have W:=Zh u;clear u;go_wp2;go_roundw;case rel=>exact⟨h+1,ag,ah,jt f,rfl,ϊ,ϊ,ad.o,M.o,W.o,ai⟩
      case measure=>simp[ju]
     .obtain rfl:q=1:=ϊ
      have a3:∃ x,f=[x]:=by
       match f,j with
       |[x],_=>exact⟨x,rfl⟩
      obtain⟨x,rfl⟩:=a3;have aH:Τ ds=x:=by rw[aQ.o,<-N.o,pr]
      have aR:=Zh aH;obtain⟨b3,br,rfl,a7⟩:=qL r.o.rd r.o.1 0 ύ;simp only[List.reverse_singleton,oq,kW]at a7;clear aH j aa;go_wp2;go_ret;rw[aR.o];exact⟨rfl,t⟩
theorem wD (a:Option Addr) (n c:Nat) (ds:List (γ)) (w:β) (d:L ds=n) (f:Rd w (D a n c) n 1 (σ ds)) (b:ϭ ds) (k:n<=1000000000) (g:Ϡ w) :
  Calls prog 114 #[D a n c] w fun e w'=>e=ŗ (.tuple #[š (δ (Τ ds)),IZ 0])/\BQ w w':=by
 have h:=Zh (zD a n c ds w d f b);have i:=Zh (zF a n c ds w d f b k g);clear d f b g;go_enter func114,ntmps114;go_wp2_with fail
 refine h.o.mono ?_;rintro e w' ⟨rfl,rfl⟩;go_wp2_with fail
 refine i.o.mono ?_;rintro e l ⟨rfl,j⟩;go_wp2;go_ret2;exact⟨rfl,j⟩
def oN (l:List Int):Nat->Int
 |0 => -1
 |k+1=>l.getD k 0
def pv (l:List Int) (k:Nat):Nat:=(l.getD k 0 - oN l k - 1).toNat
def nz (l:List Int):Nat->γ
 |0=>[]
 |k+1=>nz l k++ξ (pv l k)
def gr (l:List Int):γ:=ξ (L l)++nz l (L l)
theorem Dp {l:List Int} (h:fT l=true) {k:Nat} (a:k<L l):(l.getD k 0 - oN l k - 1=((pv l k:Nat):Int))/\pv l k<=1000/\0<=l[k]/\l[k]<1000 /\ -1<=oN l k/\oN l k<1000/\l.getD k 0=l[k]:=by
 obtain⟨d,c⟩:=(tP l).1 h;have hg:l.getD k 0=l[k]:=by rw[fR,Ρ a];rfl
 have b1:=c _ (Χ a);unfold pv;cases k with
 |zero =>
  simp only[oN];omega
 |succ k =>
  have b:k<L l:=ϊ;have e:l.getD k 0=l[k]:=by rw[fR,Ρ b];rfl
  have b2:=c _ (Χ b);have b3:l[k]<l[k+1]:=pT.1 d k (k+1) b a ϊ;simp only[oN];omega
theorem yr {l:List Int} (h:fT l=true):∀ k,k<=L l->L (nz l k)<=k*9
 |0,_=>by simp[nz]
 |k+1,hk=>by
  have:=yr h k ϊ;obtain⟨-,a,-⟩:=Dp h (k:=k) ϊ;have:=fQ 8 (pv l k) ϊ;simp only[nz,ω];omega
theorem Dq {l:List Int} (h:fT l=true):L l<=1000:=by
 obtain⟨f,c⟩:=(tP l).1 h;have i:∀ a (b:a<L l),(a:Int)<=l[a]:=by
  intro a;induction a with
  |zero=>intro b;exact(c _ (Χ b)).1
  |succ a g =>
   intro b;have d:=g ϊ;have e:l[a]<l[a+1]:=pT.1 f a (a+1) ϊ b ϊ;omega
 rcases ot 1000 (L l) with hl|hl
 .have d:=i 1000 hl
  have e:=(c _ (Χ hl)).2;omega
 .exact hl
theorem KV {l:List Int} (h:fT l=true):L (gr l)<=9009:=by
 have a:=yr h (L l) NZ;have b:=Dq h;have c:=fQ 8 (L l) ϊ;unfold gr;rw[ω];omega
theorem Dr (v:ε) (n:Nat) (l:List Int) (w:β) (d:L l=n) (h:Rd w v n 1 (τ l)) (g:fT l=true) :
  Calls prog 173 #[v] w (lP (gr l) w):=by
 have G:=Zh (rJ v n l w d h);rw[g]at G;obtain⟨aw,c,rfl,aE,S⟩:=jQ d h;have al:=Dq g;have T:=Zh (fun a (m:a<L l)=>Dp g m);have U:=Zh (fun a (m:a<=L l)=>yr g a m);have B:=Zh d;have E:=Zh (fun(H:Nat) ab (ah:H<=4611686018427387904)=>uR O 0 0 [] H ab rfl ϊ (pC _ _) ah);rw[d]at al;have P:gr l=ξ n++nz l n:=by unfold gr;rw[d]
 have Y:=Zh P;have aG:=fQ 8 n ϊ;clear h g d P;go_enter func173,ntmps173;go_wp2_with fail
 refine G.o.mono ?_;rintro e aI ⟨rfl,rfl⟩;go_wp2_with fail
 refine(E.o n _ ϊ).mono ?_;rintro e aJ ⟨ac,ap,c1,rfl,o,ai⟩;simp only[jy]at o;have am:=o.1;have W:=Zh o;have au:=Zh am;clear o;go_wp2;go_loopw [4,6,22] (fun v i A wr=>∃ (a q:Nat) (j:Option Addr) (c2:Nat),a<=n/\A=IZ (a:Int)/\i=IZ (oN l a)/\v=D j q c2/\Hid (Φ w.heap.size wr (D j q c2) q (ξ n++nz l a))/\BQ w wr) (fun _ _ A _=>n - (intOf A).toNat)
 case atStart=>exact⟨0,ap,ac,c1,Ι _,rfl,rfl,rfl,by show Φ _ _ _ _ _;simp only[nz,im];exact W.o,ai⟩
 case round =>
  obtain⟨a,q,j,c2,m,rfl,rfl,rfl,r,k⟩:=hrel;have aH:q<=9+9000:=by
   have f:=r.o.1;have af:=U.o a (by have:=B.o;omega);simp only[ω]at f;omega
  by_cases aD:a<n
  .have N:a<L l:=by have:=B.o;omega
   obtain⟨b,off,rfl,M⟩:=S.o a N;obtain⟨f,af,az,aA,aB,aC,t⟩:=T.o a N;have ao:(a:Int)<(n:Int):=ϊ;have ay:=ζ k M;have Q:oN l (a+1)=l[a]:=t;have Z:=Zh Q;have aa:Hid (ξ n++nz l (a+1)=ξ n++nz l a++ξ (pv l a)):=by show _=_;simp[nz]
   rw[t]at f;generalize l[a]=x at *;generalize oN l a=i at *;have aq:IntKind.i64.wrap (x - i)=x - i:=Ϗ;have ar:IntKind.i64.wrap (x - i - 1)=((pv l a:Nat):Int):=Ϗ;generalize ak:pv l a=u at *;have V:=Zh (E.o u wr ϊ);clear M Q t ak f;obtain⟨R,rfl⟩:∃ R:β,R=wr:=⟨_,rfl⟩;go_wp2_with fail
   refine V.o.mono ?_;rintro e aK ⟨av,n3,ax,rfl,p,K⟩;simp only[jy]at p;have F:=Zh p;have I:=k.trans (K.mono k.size);have an:=I.size;have X:=Zh (r.o.below K);have aF:n3<=9:=by have f:=p.1;have:=fQ 8 u ϊ;omega
   clear p aq ar;go_wp2_with (at_builtin;refine iz rfl (.tmp 34) (.tmp 35) rfl w.heap.size _ _ q n3 _ (ξ u) rfl X.o rfl F.o.1 F.o.rd ϊ an ?_;intro ad ae aL z aj;have ag:=I.trans aj)
   rw[<-aa.o]at z;have s:=Zh z;clear z;go_roundw;case rel=>exact⟨a+1,q+n3,ad,ae,ϊ,ϕ,by rw[Z.o],rfl,s.o,ag⟩
   case measure=>simp[intOf];omega
  .obtain rfl:a=n:=ϊ
   have ao:¬(a:Int)<(a:Int):=ϊ;have y:=r.o;rw[<-Y.o]at y;have s:=Zh y;clear y;go_wp2;go_ret2;exact⟨j,q,c2,rfl,s.o,k⟩
def Ω (l:List Int):γ:=rK (gr l)
theorem KX (v:ε) (n:Nat) (l:List Int) (w:β) (d:L l=n) (h:Rd w v n 1 (τ l)) (f:fT l=true) (i:Ϡ w) :
  Calls prog 231 #[v] w fun e w'=>e=ŗ (.tuple #[š (δ (Ω l)),IZ 0])/\BQ w w':=by
 have HW:=Zh (Dr v n l w d h f);obtain⟨t,c,rfl,x,-⟩:=jQ d h;have m:=Zh i;have g:=KV f;have j:=Zh g;clear h i d f g;go_enter func231,ntmps231;go_wp2_with fail
 refine HW.o.mono ?_;rintro e s ⟨o,r,c1,rfl,a,b⟩;have k:=Zh (DS o r c1 (gr l) s a.1 (by have u:=a.1;have:=j.o;omega) a.rd (m.o.below b));clear a;go_wp2_with fail
 refine k.o.mono ?_;rintro e y ⟨rfl,q⟩;have p:=b.trans (q.mono b.size);go_wp2;go_ret2;exact⟨rfl,p⟩
def gj (t n p:γ):γ:=Ζ t++Ζ n++p
theorem rk (t n p:γ) (w:β) (S:L t<=64) (P:L n<=64) (i:L p=32) :
  Calls prog 178 #[ā #[š (δ t),š (δ n),š (δ p)]] w (lP (gj t n p) w):=by
 have af:=jx t;have ag:=jx n;have ah:(δ p).size=32:=by rw[jx,i]
 have E:=Zh (fun f=>uU O 0 0 [] t f rfl ϊ (pC _ _) ϊ);have x:=Zh (fun l d c f (N:L (Ζ t)=d) (R:Rd f (D l d c) d 1 (η (Ζ t))) (ab:d<=1000)=>uU l d c (Ζ t) n f N ϊ R ϊ);have A:=Zh i;have u:L (Ζ t)<=73:=by unfold Ζ;have:=fQ 8 (L t) ϊ;simp only[ω];omega
 have s:L (Ζ n)<=73:=by unfold Ζ;have:=fQ 8 (L n) ϊ;simp only[ω];omega
 have k:=Zh u;have y:=Zh s;have ad:¬(64:Int)<(L t:Int):=ϊ;have ae:¬(64:Int)<(L n:Int):=ϊ;clear i u s S P;go_enter func178,ntmps178;go_wp2_with fail
 refine(E.o _).mono ?_;rintro e X ⟨F,W,c1,rfl,b,q⟩;simp only[jy]at b;obtain⟨a,ak,g⟩:=Ϻ q;obtain⟨⟨T,U,V⟩,⟨I,f1,f2⟩,-⟩:=Β a;have v:=Zh (x.o F W c1 X b.1 b.rd (by have m:=b.1;have:=k.o;omega));have B:=Zh a;clear b a q;go_wp2_with fail
 refine v.o.mono ?_;rintro e ai ⟨Y,j,c2,rfl,h,r⟩;have a:=θ B.o r;obtain⟨⟨T,U,V⟩,⟨I,f1,f2⟩,al⟩:=Β a;have o:=g.trans (r.mono g.size);have z:=Zh (h.mono g.size);have ac:j<=200:=by have m:=h.1;have Z:=k.o;have aa:=y.o;simp only[ω]at m;omega
 clear a h;go_wp2_with (at_builtin;refine zN rfl (.tmp 28) (.tmp 30) rfl w.heap.size _ j 32 _ p rfl z.o rfl A.o ϊ o.size ?_;intro G H aj Q M;have K:=o.trans M)
 go_ret2;exact⟨G,j+32,H,rfl,Q,K⟩
def oe (d:List υ) (i:Nat):γ:=if i=0 then[]else(d.getD (i - 1) ([],[])).1
def nR (d:List υ) (i:Nat):List Int:=if i=0 then[]else(d.getD (i - 1) ([],[])).2
def nB (d:List υ) (i:Nat):γ:=(d.getD i ([],[])).1
def ls (d:List υ) (i:Nat):γ:=gj (oe d i) (nB d i) (Ω (nR d i))
def mw (d:List υ) (k:Nat):List (γ):=(List.range k).map (ls d)
def iM (d:List υ):List (γ):=mw d (L d+1)
def hV (d:List υ):γ:=Τ ((iM d).map ϩ)
theorem yc {d:List υ} (h:iq d=true) (f:∀ e∈d,L e.1<=64) (i:Nat):fT (nR d i)=true/\L (oe d i)<=64/\L (nB d i)<=64:=by
 have b:∀ a,fT (d.getD a ([],[])).2=true/\L (d.getD a ([],[])).1<=64:=by
  intro a;rcases ot a (L d) with hj|hj
  .rw[fR,Ρ hj]
   have c:=Χ hj;unfold iq at h;rw[gs,kp]at h;have:=h.1 _ c;unfold kh at this;simp only[gs]at this;exact⟨this.1.2,f _ c⟩
  .rw[fR,kZ hj]
   exact⟨rfl,ύ⟩
 refine⟨?_,?_,(b i).2⟩
 .unfold nR;split
  .rfl
  .exact(b _).1
 .unfold oe;split
  .simp
  .exact(b _).2
theorem vv (d:List υ) (k:Nat):mw d (k+1)=mw d k++[ls d k]:=by
 unfold mw;rw[List.range_succ,ou];rfl
theorem CK {d:List υ} (h:iq d=true) (b:∀ e∈d,L e.1<=64) (i:Nat):L (ls d i)<=200:=by
 obtain⟨-,g,j⟩:=yc h b i;have c:=fQ 8 (L (oe d i)) ϊ;have f:=fQ 8 (L (nB d i)) ϊ;have a:L (Ω (nR d i))=32:=hO _;unfold ls gj Ζ;simp only[ω,a];omega
theorem vV {w w1:β} {g:Nat} {o:Obj} (a:BQ w w1) (h:w.heap[g]?=J o):w1.heap[g]?=J o:=θ h a
theorem uJ {a w w1:β} (b:BQ w w1) (h:BQ a w) (c:a.heap.size<=w.heap.size):BQ a w1:=h.trans (b.mono c)
theorem tr (w:β):Rd w (D O 0 0) 0 1 (τ []):=⟨rfl,ώ,.inl ⟨_,_,rfl,rfl⟩⟩
theorem BA (v:ε) (n:Nat) (d:List υ) (w:β) (aM:Ϡ w) (bb:Ϩ w) (h:fY w v n d) (aH:iq d=true) (aN:∀ e∈d,L e.1<=64) (bn:n<=100000000) :
  Calls prog 170 #[v] w fun e w'=>∃ aW,e=ŗ (.tuple #[aW,IZ 0])/\Hi w.heap.size w' (fun bf=>Δ bf aW (iM d))/\BQ w w':=by
 have bp:prog.follows .mixedOrders=true:=ϋ;have aV:=Zh (yd v n d w bb h (fun e a6=>by have:=aN e a6;omega));rw[aH]at aV;have i:=Zh h.1;obtain⟨bh,c,rfl,aZ,ay⟩:=iF h;have az:=Zh (fun ax=>yc aH aN ax);have aA:=Zh (fun v aT l (aZ:L l=aT) (ba:Rd w v aT 1 (τ l)) (a9:fT l=true) o (aX:BQ w o)=>KX v aT l o aZ (ba.below aX) a9 (aM.below aX));have bg:=Zh aM;clear h aH aN aM;go_enter func170,ntmps170;go_wp2_with fail
 refine aV.o.mono ?_;rintro e br ⟨rfl,a4⟩;go_wp2;go_loopw [4,16] (fun v ax wr=>∃ (a:Nat) (aE:Option Addr) (c1:Nat),a<=n+1/\ax=IZ (a:Int)/\v=D aE a c1/\Hid (jb w.heap.size wr (D aE a c1) a (mw d a))/\BQ w wr) (fun _ ax _=>n+1 - (intOf ax).toNat)
 case atStart=>exact⟨0,O,0,Ι _,rfl,rfl,jb.nil _ _,a4⟩
 case round =>
  obtain⟨a,aE,c1,bl,rfl,rfl,V,g⟩:=hrel;by_cases bm:a<n+1
  .have bc:(a:Int)<(n:Int)+1:=ϊ
   by_cases am:a=0
   .by_cases a7:a<n
    .
     obtain rfl:a=0:=am;have m:Hid (oe d 0=[]/\nR d 0=[]):=⟨rfl,rfl⟩;obtain⟨b,off,a2,a3,rfl,ap,aF,-⟩:=ay.o 0 (by have:=i.o;omega);have f3:=ζ g ap;have aG:=f3;simp only[pL,kW]at aG;unfold ϴ at aG;have be:(0:Int)<(n:Int):=ϊ;have A:Hid (nB d 0=(d[0]'(by have:=i.o;omega)).1):=by show _=_;unfold nB;rw[fR,Ρ (by have:=i.o;omega)];rfl
     unfold ϴ at f3;clear ap aF;have s:=az.o 0;generalize(d[0]'(by have:=i.o;omega)).1=nx at *;rw[m.o.1,m.o.2,A.o]at s;have q:=Zh s;have X:Hid (ls d 0=gj [] nx (Ω [])):=by show _=_;unfold ls;rw[m.o.1,m.o.2,A.o]
     clear s;obtain⟨f,rfl⟩:∃ f:β,f=wr:=⟨_,rfl⟩;have bj:=ζ ((φ f.heap.size f).alloc NZ (C #[š ⟨#[]⟩,š ⟨#[]⟩,š ⟨#[]⟩] 183)) aG;have I:=χ f (C #[š ⟨#[]⟩,š (δ nx),š ⟨#[]⟩] 183);have aL:(å f (C #[š ⟨#[]⟩,š (δ nx),š ⟨#[]⟩] 183)).heap.size=f.heap.size+1:=ύ;have k:BQ f (å f (C #[š ⟨#[]⟩,š (δ nx),š ⟨#[]⟩] 183)):=ġ;go_wp2_with fail
     generalize(å f (C #[š ⟨#[]⟩,š (δ nx),š ⟨#[]⟩] 183))=aD at *;obtain⟨⟨M,N,P⟩,⟨Q,R,S⟩,aI⟩:=Β I;refine(aA.o (D O 0 0) 0 [] rfl (tr w) q.o.1 _ ?_).mono ?_
     .repeat first|exact g.trans (Below.mono k g.size)|refine pS ?_
     rintro e U ⟨rfl,t⟩;have ak:U.heap[f.heap.size]?=J (C #[š ⟨#[]⟩,š (δ nx),š ⟨#[]⟩] 183 (0,0)):=vV t (I);have ah:BQ f U:=by
      refine uJ t ?_ ?_
      .repeat first|exact k|refine pS ?_
      .exact gh k.size ύ
     obtain⟨⟨M,N,P⟩,⟨Q,R,S⟩,aJ⟩:=Β ak;clear t;have K:L (Ω [])=32:=hO _;have B:=Zh (fun o=>rk [] nx (Ω []) o q.o.2.1 q.o.2.2 K);rw[<-X.o]at B;generalize Ω []=ab at *;have j:=ah.setCell (p:=⟨f.heap.size,2,O⟩) NZ (š (δ ab));clear K;go_wp2_with fail
     refine(B.o _).mono ?_;rintro e al ⟨ac,T,ae,rfl,u,H⟩;have E:=j.trans (H.mono j.size);have F:=V.o.below E;have G:=u.apart V.o j.size;have Y:=Zh (u.mono (gh g.size j.size));have r:=g.trans (E.mono g.size);have aa:=Zh F;have W:=Zh G;clear u F G H j M N P Q R S;go_wp2_with (at_builtin;refine wH rfl (.tmp 55) (.tmp 57) rfl w.heap.size _ (D ac T ae) 0 T (mw d 0) (ls d 0) al _ rfl rfl aa.o Y.o W.o rfl ϊ r.size ?_;intro ad af aU x aj;have ai:=(r.alloc r.size _).trans aj)
     rw[<-vv]at x;have Z:=Zh x;clear x;go_roundw;case rel=>exact⟨0+1,ad,af,ϊ,ϕ,rfl,Z.o,ai⟩
     case measure=>simp[intOf]
    .
     obtain rfl:a=0:=am;have m:Hid (oe d 0=[]/\nR d 0=[]):=⟨rfl,rfl⟩;have be:¬(0:Int)<(n:Int):=ϊ;have A:Hid (nB d 0=[]):=by show _=_;unfold nB;rw[fR,kZ (by have:=i.o;omega)];rfl
     have s:=az.o 0;rw[m.o.1,m.o.2,A.o]at s;have q:=Zh s;have X:Hid (ls d 0=gj [] [] (Ω [])):=by show _=_;unfold ls;rw[m.o.1,m.o.2,A.o]
     clear s;obtain⟨f,rfl⟩:∃ f:β,f=wr:=⟨_,rfl⟩;have I:=χ f (C #[š ⟨#[]⟩,š ⟨#[]⟩,š ⟨#[]⟩] 183);have aL:(å f (C #[š ⟨#[]⟩,š ⟨#[]⟩,š ⟨#[]⟩] 183)).heap.size=f.heap.size+1:=ύ;have k:BQ f (å f (C #[š ⟨#[]⟩,š ⟨#[]⟩,š ⟨#[]⟩] 183)):=ġ;go_wp2_with fail
     generalize(å f (C #[š ⟨#[]⟩,š ⟨#[]⟩,š ⟨#[]⟩] 183))=aD at *;obtain⟨⟨M,N,P⟩,⟨Q,R,S⟩,aI⟩:=Β I;refine(aA.o (D O 0 0) 0 [] rfl (tr w) q.o.1 _ ?_).mono ?_
     .repeat first|exact g.trans (Below.mono k g.size)|refine pS ?_
     rintro e U ⟨rfl,t⟩;have ak:U.heap[f.heap.size]?=J (C #[š ⟨#[]⟩,š ⟨#[]⟩,š ⟨#[]⟩] 183 (0,0)):=vV t (I);have ah:BQ f U:=by
      refine uJ t ?_ ?_
      .repeat first|exact k|refine pS ?_
      .exact gh k.size ύ
     obtain⟨⟨M,N,P⟩,⟨Q,R,S⟩,aJ⟩:=Β ak;clear t;have K:L (Ω [])=32:=hO _;have B:=Zh (fun o=>rk [] [] (Ω []) o q.o.2.1 q.o.2.2 K);rw[<-X.o]at B;generalize Ω []=ab at *;have j:=ah.setCell (p:=⟨f.heap.size,2,O⟩) NZ (š (δ ab));clear K;go_wp2_with fail
     refine(B.o _).mono ?_;rintro e al ⟨ac,T,ae,rfl,u,H⟩;have E:=j.trans (H.mono j.size);have F:=V.o.below E;have G:=u.apart V.o j.size;have Y:=Zh (u.mono (gh g.size j.size));have r:=g.trans (E.mono g.size);have aa:=Zh F;have W:=Zh G;clear u F G H j M N P Q R S;go_wp2_with (at_builtin;refine wH rfl (.tmp 55) (.tmp 57) rfl w.heap.size _ (D ac T ae) 0 T (mw d 0) (ls d 0) al _ rfl rfl aa.o Y.o W.o rfl ϊ r.size ?_;intro ad af aU x aj;have ai:=(r.alloc r.size _).trans aj)
     rw[<-vv]at x;have Z:=Zh x;clear x;go_roundw;case rel=>exact⟨0+1,ad,af,ϊ,ϕ,rfl,Z.o,ai⟩
     case measure=>simp[intOf]
   .have bo:(0:Int)<(a:Int):=ϊ
    by_cases a7:a<n
    .
     obtain⟨b,off,da,dc,rfl,an,ao,aw⟩:=ay.o (a - 1) (by have:=i.o;omega);have f1:=ζ g an;have f2:=ζ g ao;unfold ϴ at f1;have av:d.getD (a - 1) ([],[])=d[a - 1]'(by have:=i.o;omega):=by rw[fR,Ρ (by have:=i.o;omega)];rfl
     have m:Hid (oe d a=(d[a - 1]'(by have:=i.o;omega)).1/\nR d a=(d[a - 1]'(by have:=i.o;omega)).2):=by unfold oe nR;rw[κ am,κ am,av];exact⟨rfl,rfl⟩
     have aS:IntKind.i64.wrap ((a:Int) - 1)=(a:Int) - 1:=Ϗ;have aR:((a:Int) - 1).toNat=a - 1:=ϊ;have aO:(0:Int)<=(a:Int) - 1:=ϊ;have aP:(1:Int)<=(a:Int):=ϊ;have aQ:(a:Int) - 1<(n:Int):=ϊ;have aC:=Zh aw;clear an ao aw av;obtain⟨bi,bq,a2,a3,aY,ap,aF,-⟩:=ay.o a (by have:=i.o;omega);simp only[Ο,Addr.mk.injEq,hR]at aY;obtain⟨rfl,rfl⟩:=aY;have f3:=ζ g ap;have bd:(a:Int)<(n:Int):=ϊ;have A:Hid (nB d a=(d[a]'(by have:=i.o;omega)).1):=by show _=_;unfold nB;rw[fR,Ρ (by have:=i.o;omega)];rfl
     unfold ϴ at f3;clear ap aF;have s:=az.o a;generalize(d[a - 1]'(by have:=i.o;omega)).1=y at *;generalize(d[a - 1]'(by have:=i.o;omega)).2=z at *;generalize au:L z=ag at *;generalize(d[a]'(by have:=i.o;omega)).1=nx at *;rw[m.o.1,m.o.2,A.o]at s;have q:=Zh s;have X:Hid (ls d a=gj y nx (Ω z)):=by show _=_;unfold ls;rw[m.o.1,m.o.2,A.o]
     have aB:=Zh au;clear au;clear s;obtain⟨f,rfl⟩:∃ f:β,f=wr:=⟨_,rfl⟩;have I:=χ f (C #[š ⟨#[]⟩,š ⟨#[]⟩,š ⟨#[]⟩] 183);have aL:(å f (C #[š ⟨#[]⟩,š ⟨#[]⟩,š ⟨#[]⟩] 183)).heap.size=f.heap.size+1:=ύ;have k:BQ f (å f (C #[š ⟨#[]⟩,š ⟨#[]⟩,š ⟨#[]⟩] 183)):=ġ;have aq:=ζ k f1;have ar:=ζ k f2;have a5:b<f.heap.size:=ib f _ f1;have bk:=ζ k f3;clear f1 f2 f3;go_wp2_with fail
     generalize(å f (C #[š ⟨#[]⟩,š ⟨#[]⟩,š ⟨#[]⟩] 183))=aD at *;obtain⟨⟨M,N,P⟩,⟨Q,R,S⟩,aI⟩:=Β I;have a8:f.heap.size≠b:=ϊ;go_region_held3 (fun o=>o.cell? ⟨b,off+(a - 1)*2,O⟩=J (š (δ y))/\o.cell? ⟨b,off+(a - 1)*2+1,O⟩=J (D da ag dc)) (first|exact⟨aq,ar⟩|assumption|go_keep) (fail)
     clear aS aR aO aP aQ aq ar;go_wp2_with fail
     refine(aA.o (D da ag dc) ag z aB.o aC.o q.o.1 _ ?_).mono ?_
     .repeat first|exact g.trans (Below.mono ((k.setCell (p:=⟨f.heap.size,0,O⟩) NZ (š (δ y))).setCell (p:=⟨f.heap.size,1,O⟩) NZ (š (δ nx))) g.size)|refine pS ?_
     rintro e U ⟨rfl,t⟩;have ak:U.heap[f.heap.size]?=J (C #[š (δ y),š (δ nx),š ⟨#[]⟩] 183 (0,0)):=vV t (π _ _ 1 _ _ (š (δ nx)) (π _ _ 0 _ _ (š (δ y)) I));have ah:BQ f U:=by
      refine uJ t ?_ ?_
      .repeat first|exact((k.setCell (p:=⟨f.heap.size,0,O⟩) NZ (š (δ y))).setCell (p:=⟨f.heap.size,1,O⟩) NZ (š (δ nx)))|refine pS ?_
      .exact gh k.size ύ
     obtain⟨⟨M,N,P⟩,⟨Q,R,S⟩,aJ⟩:=Β ak;clear t;have K:L (Ω z)=32:=hO _;have B:=Zh (fun o=>rk y nx (Ω z) o q.o.2.1 q.o.2.2 K);rw[<-X.o]at B;generalize Ω z=ab at *;have j:=ah.setCell (p:=⟨f.heap.size,2,O⟩) NZ (š (δ ab));clear K;go_wp2_with fail
     refine(B.o _).mono ?_;rintro e al ⟨ac,T,ae,rfl,u,H⟩;have E:=j.trans (H.mono j.size);have F:=V.o.below E;have G:=u.apart V.o j.size;have Y:=Zh (u.mono (gh g.size j.size));have r:=g.trans (E.mono g.size);have aa:=Zh F;have W:=Zh G;clear u F G H j M N P Q R S;go_wp2_with (at_builtin;refine wH rfl (.tmp 55) (.tmp 57) rfl w.heap.size _ (D ac T ae) a T (mw d a) (ls d a) al _ rfl rfl aa.o Y.o W.o rfl ϊ r.size ?_;intro ad af aU x aj;have ai:=(r.alloc r.size _).trans aj)
     rw[<-vv]at x;have Z:=Zh x;clear x;go_roundw;case rel=>exact⟨a+1,ad,af,ϊ,ϕ,rfl,Z.o,ai⟩
     case measure=>simp[intOf];omega
    .
     obtain⟨b,off,da,dc,rfl,an,ao,aw⟩:=ay.o (a - 1) (by have:=i.o;omega);have f1:=ζ g an;have f2:=ζ g ao;unfold ϴ at f1;have av:d.getD (a - 1) ([],[])=d[a - 1]'(by have:=i.o;omega):=by rw[fR,Ρ (by have:=i.o;omega)];rfl
     have m:Hid (oe d a=(d[a - 1]'(by have:=i.o;omega)).1/\nR d a=(d[a - 1]'(by have:=i.o;omega)).2):=by unfold oe nR;rw[κ am,κ am,av];exact⟨rfl,rfl⟩
     have aS:IntKind.i64.wrap ((a:Int) - 1)=(a:Int) - 1:=Ϗ;have aR:((a:Int) - 1).toNat=a - 1:=ϊ;have aO:(0:Int)<=(a:Int) - 1:=ϊ;have aP:(1:Int)<=(a:Int):=ϊ;have aQ:(a:Int) - 1<(n:Int):=ϊ;have aC:=Zh aw;clear an ao aw av;have bd:¬(a:Int)<(n:Int):=ϊ;have A:Hid (nB d a=[]):=by show _=_;unfold nB;rw[fR,kZ (by have:=i.o;omega)];rfl
     have s:=az.o a;generalize(d[a - 1]'(by have:=i.o;omega)).1=y at *;generalize(d[a - 1]'(by have:=i.o;omega)).2=z at *;generalize au:L z=ag at *;rw[m.o.1,m.o.2,A.o]at s;have q:=Zh s;have X:Hid (ls d a=gj y [] (Ω z)):=by show _=_;unfold ls;rw[m.o.1,m.o.2,A.o]
     have aB:=Zh au;clear au;clear s;obtain⟨f,rfl⟩:∃ f:β,f=wr:=⟨_,rfl⟩;have I:=χ f (C #[š ⟨#[]⟩,š ⟨#[]⟩,š ⟨#[]⟩] 183);have aL:(å f (C #[š ⟨#[]⟩,š ⟨#[]⟩,š ⟨#[]⟩] 183)).heap.size=f.heap.size+1:=ύ;have k:BQ f (å f (C #[š ⟨#[]⟩,š ⟨#[]⟩,š ⟨#[]⟩] 183)):=ġ;have aq:=ζ k f1;have ar:=ζ k f2;have a5:b<f.heap.size:=ib f _ f1;clear f1 f2;go_wp2_with fail
     generalize(å f (C #[š ⟨#[]⟩,š ⟨#[]⟩,š ⟨#[]⟩] 183))=aD at *;obtain⟨⟨M,N,P⟩,⟨Q,R,S⟩,aI⟩:=Β I;have a8:f.heap.size≠b:=ϊ;go_region_held3 (fun o=>o.cell? ⟨b,off+(a - 1)*2,O⟩=J (š (δ y))/\o.cell? ⟨b,off+(a - 1)*2+1,O⟩=J (D da ag dc)) (first|exact⟨aq,ar⟩|assumption|go_keep) (fail)
     clear aS aR aO aP aQ aq ar;go_wp2_with fail
     refine(aA.o (D da ag dc) ag z aB.o aC.o q.o.1 _ ?_).mono ?_
     .repeat first|exact g.trans (Below.mono (k.setCell (p:=⟨f.heap.size,0,O⟩) NZ (š (δ y))) g.size)|refine pS ?_
     rintro e U ⟨rfl,t⟩;have ak:U.heap[f.heap.size]?=J (C #[š (δ y),š ⟨#[]⟩,š ⟨#[]⟩] 183 (0,0)):=vV t (π _ _ 0 _ _ (š (δ y)) I);have ah:BQ f U:=by
      refine uJ t ?_ ?_
      .repeat first|exact(k.setCell (p:=⟨f.heap.size,0,O⟩) NZ (š (δ y)))|refine pS ?_
      .exact gh k.size ύ
     obtain⟨⟨M,N,P⟩,⟨Q,R,S⟩,aJ⟩:=Β ak;clear t;have K:L (Ω z)=32:=hO _;have B:=Zh (fun o=>rk y [] (Ω z) o q.o.2.1 q.o.2.2 K);rw[<-X.o]at B;generalize Ω z=ab at *;have j:=ah.setCell (p:=⟨f.heap.size,2,O⟩) NZ (š (δ ab));clear K;go_wp2_with fail
     refine(B.o _).mono ?_;rintro e al ⟨ac,T,ae,rfl,u,H⟩;have E:=j.trans (H.mono j.size);have F:=V.o.below E;have G:=u.apart V.o j.size;have Y:=Zh (u.mono (gh g.size j.size));have r:=g.trans (E.mono g.size);have aa:=Zh F;have W:=Zh G;clear u F G H j M N P Q R S;go_wp2_with (at_builtin;refine wH rfl (.tmp 55) (.tmp 57) rfl w.heap.size _ (D ac T ae) a T (mw d a) (ls d a) al _ rfl rfl aa.o Y.o W.o rfl ϊ r.size ?_;intro ad af aU x aj;have ai:=(r.alloc r.size _).trans aj)
     rw[<-vv]at x;have Z:=Zh x;clear x;go_roundw;case rel=>exact⟨a+1,ad,af,ϊ,ϕ,rfl,Z.o,ai⟩
     case measure=>simp[intOf];omega
  .obtain rfl:a=n+1:=ϊ
   have bc:¬(n:Int)+1<(n:Int)+1:=ϊ;have a0:Hid (mw d (n+1)=iM d):=by show _=_;unfold iM;rw[i.o]
   have aK:=V.o.hi;rw[a0.o]at aK;have a1:=Zh aK;clear aK;go_wp2;go_ret2;exact⟨_,rfl,a1.o,g⟩
theorem AY:∀ (h X r:Nat) (l:List (γ)),r<2 ^ h->r≠2 ^ h - 1->iE (X*2 ^ h+r) l=iE r l
 |0,X,r,l,h1,h2=>by simp at h1;omega
 |h+1,X,r,l,h1,h2=>by
  have b:0<2 ^ h:=ku ϐ;have e:X*2 ^ (h+1)=2*(X*2 ^ h):=by rw[jn,<-oh,kt]
  rw[jn]at h1 h2;rw[e];by_cases a:r % 2=1
  .rw[nP ϊ,nP a,show(2*(X*2 ^ h)+r) / 2=X*2 ^ h+r / 2 from ϊ]
   exact AY h X (r / 2) _ ϊ ϊ
  .rw[nO ϊ,nO a]
theorem Bt {l:List (γ)} (F:γ) (h:2<=L l):jt (l++[F])=jt l++[F]:=by
 obtain⟨b,a,c,rfl⟩:=uV h;rfl
theorem GA (F:γ):∀ (r:Nat) (l:List (γ)),L l=pc r+1->iE r (l++[F])=iE r l++[F]:=by
 intro r;induction r using Nat.strongRecOn with
 |_ r c =>
  intro l d;by_cases a:r % 2=1
  .have e:=mU r ϊ
   have f:0<=pc (r / 2):=Ι _;have b:2<=L l:=ϊ;rw[nP a,nP a,Bt F b];exact c (r / 2) ϊ _ (by rw[tg b];omega)
  .rw[nO a,nO a]
theorem yQ (h:Nat):(2 ^ (h+1) - 1) % 2=1/\(2 ^ (h+1) - 1) / 2=2 ^ h - 1:=by
 have a:0<2 ^ h:=ku ϐ;rw[jn];omega
theorem Ba (F:γ):∀ (h:Nat) (l:List (γ)),L l=h+1->iE (2 ^ (h+1) - 1) (l++[F])=jt (iE (2 ^ h - 1) l++[F])
 |0,l,hl=>by
  rw[nP ϐ,nO ϐ];show jt (l++[F])=jt (iE 0 l++[F]);rw[nO ϐ]
 |h+1,l,hl=>by
  obtain⟨o1,o2⟩:=yQ (h+1);obtain⟨p1,p2⟩:=yQ h;rw[nP o1,o2,Bt F ϊ,Ba F h (jt l) (by rw[tg ϊ];omega),nP p1,p2]
theorem Dh:∀ h:Nat,pc (2 ^ h - 1)=h
 |0=>tI
 |h+1=>by
  obtain⟨o1,o2⟩:=yQ h;rw[mU _ ϊ,o1,o2,Dh h];omega
theorem Em {ds a:List (γ)}:∀ k,(∀ i,i<k->ds.getD i []=a.getD i [])->hH ds k=hH a k
 |0,_=>rfl
 |k+1,h=>by
  unfold hH;rw[h k ϊ,Em k fun i hi=>h i ϊ]
theorem Di:∀ h:Nat,pc (2 ^ h)=1
 |0=>by rw[mU _ ϐ];simp[tI]
 |h+1=>by
  have a:0<2 ^ h:=ku ϐ;rw[mU _ (ku ϐ),jn,show 2 ^ h*2 % 2=0 from ϊ,show 2 ^ h*2 / 2=2 ^ h from ϊ,Di h]
theorem En (ds:List (γ)) (h:Nat):hH ds (2 ^ h)=[hU (hH ds (2 ^ h))]:=by
 have b:=pI ds (2 ^ h);rw[Di]at b;obtain⟨a,c⟩:=List.length_eq_one_iff.1 b;rw[c,pr]
theorem yt (ds:List (γ)) (k i:Nat):(ds.drop k).getD i []=ds.getD (k+i) []:=by simp[fR]
theorem zu (ds:List (γ)) (h:Nat):∀ r,r<2 ^ h->hH ds (2 ^ h+r)=hH (ds.drop (2 ^ h)) r++[hU (hH ds (2 ^ h))]
 |0,_=>by
  rw[kW];exact En ds h
 |r+1,hr=>by
  have a:=zu ds h r ϊ;show iE (2 ^ h+r) (ds.getD (2 ^ h+r) []::hH ds (2 ^ h+r))=iE r ((ds.drop (2 ^ h)).getD r []::hH (ds.drop (2 ^ h)) r)++_;have:=AY h 1 r (ds.getD (2 ^ h+r) []::hH ds (2 ^ h+r)) ϊ ϊ;rw[oZ]at this;rw[this,a,yt,<-kq];exact GA _ r _ (by simp[pI])
theorem Nd (ds:List (γ)) (h:Nat):hH ds (2 ^ h+2 ^ h)=[gw (hU (hH ds (2 ^ h))) (hU (hH (ds.drop (2 ^ h)) (2 ^ h)))]:=by
 have i:0<2 ^ h:=ku ϐ;have f:=zu ds h (2 ^ h - 1) ϊ;have e:2 ^ h+2 ^ h=(2 ^ h+(2 ^ h - 1))+1:=ϊ;have a:2 ^ h+(2 ^ h - 1)=2 ^ (h+1) - 1:=by rw[jn];omega
 have d:iE (2 ^ h - 1) ((ds.drop (2 ^ h)).getD (2 ^ h - 1) []::hH (ds.drop (2 ^ h)) (2 ^ h - 1))=hH (ds.drop (2 ^ h)) (2 ^ h):=by
  obtain⟨q,c⟩:∃ q,2 ^ h=q+1:=⟨2 ^ h - 1,ϊ⟩;rw[c];rfl
 rw[e];show iE (2 ^ h+(2 ^ h - 1)) (ds.getD (2 ^ h+(2 ^ h - 1)) []::hH ds (2 ^ h+(2 ^ h - 1)))=_;rw[f,<-yt,<-kq,a,Ba _ h _ (by simp[pI,Dh]),d];have b:=En (ds.drop (2 ^ h)) h;generalize hU (hH (ds.drop (2 ^ h)) (2 ^ h))=g at *;rw[b];rfl
theorem GV (F:γ):∀ (n:Nat) (l:List (γ)),L l=n->l≠[]->hU (l++[F])=gw F (hU l):=by
 intro n;induction n using Nat.strongRecOn with
 |_ n e =>
  intro l c d
  match l,c,d with
  |[a],c,d =>
   show hU [a,F]=_;rw[pr a,Bs (l:=[a,F]) ύ];exact pr _
  |b::a::t,c,d =>
   show hU (b::a::(t++[F]))=_;rw[hU,hU,<-kq];exact e (L t+1) (by simp at c;omega) (gw a b::t) rfl ύ
theorem wC {ds:List (γ)} (h:0<L ds):Τ ds=hU (hH ds (L ds)):=by
 unfold Τ;rw[κ (by rintro rfl;simp at h)]
theorem Nz (a:γ):Τ [a]=a:=by
 rw[wC ύ];show hU (iE 0 ([a].getD 0 []::hH [a] 0))=a;rw[nO ϐ];exact pr a
theorem zC (ds:List (γ)) (h:2<=L ds):Τ ds=gw (Τ (ds.take (Κ (L ds)))) (Τ (ds.drop (Κ (L ds)))):=by
 obtain⟨a,g,o,j⟩:=qK h;have l:0<2 ^ a:=ku ϐ;rw[jn]at j;have i:L (ds.take (2 ^ a))=2 ^ a:=Ϝ;have e:L (ds.drop (2 ^ a))=L ds - 2 ^ a:=gb ..;rw[g,wC ϊ,wC (ds:=ds.take (2 ^ a)) ϊ,wC (ds:=ds.drop (2 ^ a)) ϊ,i,e];have d:hH (ds.take (2 ^ a)) (2 ^ a)=hH ds (2 ^ a):=Em _ fun m hi=>by simp[fR,hP,hi]
 rw[d];by_cases f:L ds=2 ^ a+2 ^ a
 .rw[f,Nd,pr,pK]
 .have:=zu ds a (L ds - 2 ^ a) ϊ
  rw[show 2 ^ a+(L ds - 2 ^ a)=L ds from ϊ]at this;rw[this];refine GV _ _ _ rfl fun c=>?_;have b:=pI (ds.drop (2 ^ a)) (L ds - 2 ^ a);have k:=vJ (n:=L ds - 2 ^ a) ϊ;rw[c]at b;simp at b;omega
def gG:Nat->List (γ)->Nat->List (γ)
 |0,_,_=>[]
 |f+1,l,i=>if L l<=1 then[]else
  if i<Κ (L l) then gG f (l.take (Κ (L l))) i++[Τ (l.drop (Κ (L l)))]
  else gG f (l.drop (Κ (L l))) (i - Κ (L l))++[Τ (l.take (Κ (L l)))]
def jh:Nat->Nat->Nat->List Bool
 |0,_,_=>[]
 |f+1,i,n=>if n<=1 then[]else
  if i<Κ n then jh f i (Κ n)++[false]else jh f (i - Κ n) (n - Κ n)++[true]
def kN:List Bool->List (γ)->γ->γ
 |s::ss,p::pp,d=>kN ss pp (if s then gw p d else gw d p)
 |_,_,d=>d
theorem xS:∀ (e:List Bool) (c:List (γ)) (s:Bool) (p d:γ),L e=L c->kN (e++[s]) (c++[p]) d=if s then gw p (kN e c d)else gw (kN e c d) p
 |[],[],s,p,d,_=>rfl
 |a::e,b::c,s,p,d,h=>by
  simp only[kq,kN];exact xS e c s p _ (by simpa using h)
 |[],_::_,s,p,d,h=>by simp at h
 |_::_,[],s,p,d,h=>by simp at h
theorem pB:∀ (f:Nat) (l:List (γ)) (i:Nat),L (gG f l i)=L (jh f i (L l))/\L (gG f l i)<=f
 |0,l,i=>⟨rfl,NZ⟩
 |f+1,l,i=>by
  unfold gG jh;split
  .exact⟨rfl,Ι _⟩
  .obtain⟨c,d,e⟩:=tY (n:=L l) ϊ
   split
   .obtain⟨a,b⟩:=pB f (l.take (Κ (L l))) i
    rw[gN,me ϊ]at a;simp only[ω,Ϧ,gF];omega
   .obtain⟨a,b⟩:=pB f (l.drop (Κ (L l))) (i - Κ (L l))
    rw[gb]at a;simp only[ω,Ϧ,gF];omega
theorem vI:∀ (f:Nat) (l:List (γ)) (i:Nat),i<L l->L l<=f->kN (jh f i (L l)) (gG f l i) (l.getD i [])=Τ l
 |0,l,i,h1,h2=>ϊ
 |f+1,l,i,h1,h2=>by
  unfold gG jh;split
  .rename_i h
   obtain⟨a,rfl⟩:=List.length_eq_one_iff.1 (ϊ:L l=1);obtain rfl:i=0:=by simpa using h1
   rw[Nz];rfl
  .obtain⟨g,j,k⟩:=tY (n:=L l) ϊ
   have e:L (l.take (Κ (L l)))=Κ (L l):=Ϝ;have d:L (l.drop (Κ (L l)))=L l - Κ (L l):=gb ..;split
   .rename_i hi
    have b:=(pB f (l.take (Κ (L l))) i).1;have c:=vI f (l.take (Κ (L l))) i ϊ ϊ;rw[e]at b c;rw[xS _ _ _ _ _ b.symm,κ ϐ,zC l ϊ,<-c]
    congr 2
    simp[fR,hP,hi]
   .rename_i hi
    have b:=(pB f (l.drop (Κ (L l))) (i - Κ (L l))).1;have c:=vI f (l.drop (Κ (L l))) (i - Κ (L l)) ϊ ϊ;rw[d]at b c;rw[xS _ _ _ _ _ b.symm,μ rfl,zC l ϊ,<-c,yt,show Κ (L l)+(i - Κ (L l))=i from ϊ]
