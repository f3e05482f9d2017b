/- Part 30 of the proof. -/
import Derived.Test.YtpilfbcffofheaaGreatDoorm26
import Derived.Test.YtpilfbcffofheaaGreatDoorm27
import Derived.Test.YtpilfbcffofheaaGreatDoorm29
import Derived.Test.YtpilfbcffofheaaGreatDoorRows
set_option linter.all false
set_option maxRecDepth 100000
set_option maxHeartbeats 16000000
namespace Go.Proofs.YtpilfbcffofheaaGreatDoor
open Go.RowKit Go.Proofs.Tryz Go.Sort
open Value renaming slice->D,agg->ā,string->š,pointer->þ
open Option renaming none->O,some->J
open List renaming length->L
open Obj renaming cells->C
open Ending renaming returned->ŗ
open World renaming alloc->å,setCell->ŝ
def zm (a:List (Nat×Array ε)) (I:Nat->β->Prop) (av n c w) (s:L a=n) (h:I 0 w)
  (j:∀ k d,I k d->Rd d (D av n c) n 1 (a.map fun f=>.func (.func f.1) #[] f.2))
  (q:∀ k (r:k<L a),∀ args d,(callFunc a[k].1 args).run prog d=.ok (.enter a[k].1 args) d)
  (o:∀ k (r:k<L a) d,I k d->Calls prog a[k].1 a[k].2 d (fun e w'=>e=ŗ (.bool true)/\I (k+1) w')) :
  Calls prog 73 #[D av n c] w fun e w'=>e=ŗ (G 0)/\I n w':=by
 have⟨B,z,x,u,A⟩:=lM j q o h s;have P:n<=9223372036854775807:=by have:=(j 0 w h).2.1;unfold maxLen at this;omega
 clear j q o h s;go_enter func73,ntmps73;go_wp2_with fail
 go_loopw [7] (fun l wr=>∃ k:Nat,k<=n/\l=G k/\ϫ (I k wr)) (fun l _=>n - (intOf l).toNat)
 .exact⟨0,Ζ _,rfl,u⟩
 obtain⟨k,r,rfl,g⟩:=hrel;by_cases N:k<n
 .have i:k<L a:=ι A.o
  have F:(k:Int)<(n:Int):=U;have M:(0:Int)<=(k:Int):=U;obtain⟨-,-,⟨-,-,-,R⟩|⟨b,off,T,t,-,Q,K,p⟩⟩:=B.o k wr g.o
  .omega
  simp only[Χ,ϵ]at t;obtain⟨rfl,rfl⟩:=t;have c1:=p k (.func (.func a[k].1) #[] a[k].2) (by simp[i]);have E:=z.o k i;have y:=Zx (x.o k i wr g.o);generalize a[k].1=f at *;generalize a[k].2=H at *;clear p;go_wp2_with fail
  refine y.o.M ?_;rintro e S ⟨rfl,m⟩;have v:=Zx m;clear m E c1;go_wp2_with fail
  go_roundw
  .exact⟨ _,U,ϕ,v⟩
  exact ω
 .obtain rfl:k=n:=U
  have F:¬(k:Int)<(k:Int):=U;go_wp2;go_ret;exact⟨rfl,g.o⟩
def zl (b a c:ε) (r) (w:β) :
  Calls prog 74 #[ā #[b,a,c],š r] w fun e w'=>e=ŗ (.func (.func 132) #[] #[þ (J ⟨w.heap.size,0,O⟩),þ (J ⟨w.heap.size+1,0,O⟩)])/\w'=å (å w (C #[b,a,c] 123)) (C #[š r] 9):=by
 go_enter func74,ntmps74;go_wp2;exact gH
def ze (H Q) (v:ε) (p:List (γ)) (ps) (w:β) (j:Ϭ w) (f:w.heap[H]?=J (C #[G (L p),š (δ (ϡ p)),v] 123 (0,0))) (g:w.heap[Q]?=J (C #[š (δ (hh p ps))] 9 (0,0))) (i:Rd w v (L ps) 4 (fP p ps)) (h:Ϻ p ps (L p)) :
  Calls prog 132 #[þ (J ⟨H,0,O⟩),þ (J ⟨Q,0,O⟩)] w fun e w'=>e=ŗ (.bool true)/\BQ w w':=by
 have⟨c,d⟩:=ϟ (zS v p ps w j i h) g;obtain⟨⟨c0,c1,c2⟩,-,-⟩:=Β f;generalize hh p ps=l at *;generalize ϡ p=k at *;generalize(L p:Int)=m at *;go_enter func132,ntmps132;go_wp2_with fail
 refine c.o.M ?_;rintro e o ⟨rfl,a⟩;obtain⟨n,-,-⟩:=gC (θ d.o a);have b:=Zx a;go_wp2;go_ret;exact⟨rfl,b.o⟩
def HC (S) (B o:ε) (pa k pc) (A z:List (γ)) (w:β) (n:Ϭ w) (d:w.heap[S]?=J (C #[G (L A),š (δ (ϡ A)),B,G (L z),š (δ (ϡ z)),o,D pa k pc] 149 (0,0))) (g:L (hI (z.map ϴ) (L A))=k) (m:Rd w (D pa k pc) k 1 (χ (hI (z.map ϴ) (L A)))) (c:L z<=64) (l:A=z.take (L A)) (j:L A<=L z) :
  Calls prog 75 #[þ (J ⟨S,0,O⟩)] w fun e w'=>e=ŗ (.bool true)/\BQ w w':=by
 have a:=Zx (Ji _ _ _ pa k pc w ύ (kv _) c j g m n);have h:Υ ((z.map ϴ).take (L A))=ϡ A:=by rw[<-List.map_take,<-l];rfl
 have i:Υ (z.map ϴ)=ϡ z:=rfl;rw[h,i]at a;obtain⟨⟨c0,c1,c2,r,s,t,u⟩,-,-⟩:=mX d;generalize ϡ A=p at *;generalize ϡ z=q at *;generalize(L A:Int)=v at *;generalize(L z:Int)=x at *;go_enter func75,ntmps75;go_wp2_with fail
 refine a.o.M ?_;rintro e y ⟨rfl,f⟩;have b:=Zx f;go_wp2;go_ret;exact⟨rfl,b.o⟩
def HE (S B) (H F I v o z:ε) (E:List (γ)) (p2) (w:β) (m:Ϭ w) (i:w.heap[S]?=J (C #[H,F,I,G (L E),š (δ (ϡ E)),v,o] 149 (0,0))) (h:w.heap[B]?=J (C #[z] 9 (0,0))) (l:Rd w v (L p2) 4 (fP E p2)) (k:Ϻ E p2 (L E)) :
  Calls prog 77 #[þ (J ⟨S,0,O⟩),þ (J ⟨B,0,O⟩)] w fun e w'=>e=ŗ (.bool true)/\w'.heap[B]?=J (C #[š (δ (hh E p2))] 9 (0,0))/\Ο B w w':=by
 have⟨d,g⟩:=ϟ (zS v E p2 w m l k) h;obtain⟨⟨c0,c1,c2,q,r,s,t⟩,-,-⟩:=mX i;generalize hh E p2=a at *;generalize ϡ E=p at *;generalize(L E:Int)=u at *;go_enter func77,ntmps77;go_wp2_with fail
 refine d.o.M ?_;rintro e n ⟨rfl,b⟩;have c:=θ g.o b;have j:(ŝ n ⟨B,0,O⟩ (š (δ a))).heap[B]?=J (C #[š (δ a)] 9 (0,0)):=υ _ B 0 _ _ _ c;have f:=Zx (Ν j (((Ο.refl B w).B b).set 0 (š (δ a))));obtain⟨y,x,A⟩:=gC c;go_wp2;go_ret;exact⟨rfl,f.o⟩
structure qv (S a H Q F:Nat) (rS rH rQ rF:Array ε) (r2:γ) (R:β->Prop) (w:β) (k:Nat) (W:β):Prop where
 s:W.heap[S]?=J (C rS 149 (0,0))
 g:W.heap[a]?=J (C #[š (δ (if k=3 then r2 else[]))] 9 (0,0))
 h:W.heap[H]?=J (C rH 123 (0,0))
 q:W.heap[Q]?=J (C rQ 9 (0,0))
 f:W.heap[F]?=J (C rF 24 (0,0))
 r:Α (· =a) W R
 b:BQ w W
def qv.next {S c H Q F rS rH rQ rF r2 R w k W W'} (h:qv S c H Q F rS rH rQ rF r2 R w k W) (b:k<2) (a:BQ W W'):qv S c H Q F rS rH rQ rF r2 R w (k+1) W':=
 ⟨θ h.s a,by
  have:=θ h.g a
  rw[κ U]at this
  rw[κ U];exact this,θ h.h a,θ h.q a,θ h.f a,h.r.B a,h.b.t a⟩
def qv.last {S i H Q F rS rH rQ rF r2 R w} {c b:β} (h:qv S i H Q F rS rH rQ rF r2 R w 2 c) (d:w.heap.size<=i) (g:S≠i) (e:H≠i) (f:Q≠i) (k:F≠i) (j:b.heap[i]?=J (C #[š (δ r2)] 9 (0,0))) (a:Ο i c b):qv S i H Q F rS rH rQ rF r2 R w 3 b:=
 ⟨a.row g h.s,by rw[μ rfl];exact j,a.row e h.h,a.row f h.q,a.row k h.f,h.r.oneCh rfl a,a.to h.b h.b.size d⟩
def Kd {w:β} {A1 A2 A3 A4 A5} {a:β} (h:a=å (å (å (å (å w A1) A2) A3) A4) A5):a.heap[w.heap.size]?=J A1/\a.heap[w.heap.size+1]?=J A2/\a.heap[w.heap.size+1+1]?=J A3/\a.heap[w.heap.size+1+1+1]?=J A4/\a.heap[w.heap.size+1+1+1+1]?=J A5/\a.heap.size=w.heap.size+5/\Below w.heap.size w a:=by
 subst h;have i:Below (å (å (å w A1) A2) A3).heap.size (å (å (å w A1) A2) A3) (å (å (å (å (å w A1) A2) A3) A4) A5):=ġ.A ύ _;obtain⟨d,e,f,-,-,-,g⟩:=oO i;obtain⟨b,c,-,-,-⟩:=fZ (w:=å (å (å w A1) A2) A3) (A:=A4) (Z:=A5) RZ;simp only[mh]at b c;exact⟨d,e,f,b,c,ύ,g⟩
def xB {w:β} {g n} {a:Array ε} {T} (h:w.heap[g]?=J (C a T (0,0))) (d:a.size=n) (c:0<n) (b:n<=maxLen):Rd w (D (J ⟨g,0,O⟩) n n) n 1 a.toList:=
 ⟨by simp[d],b,.inr ⟨g,0,n,rfl,c,NZ,b,fun e f hi=>by rw[iI,ξ _ _ e _ _ _ h];simpa using hi⟩⟩
def AH (a:List (γ)) (ps):L (hh a ps)=32:=iq _
def IH (a n c) (d1 d2:List (γ)) (p1 p2) (w:β) (B:Ϭ w) (aB:L (nF d1 p1 d2 p2 (hI (d2.map ϴ) (L d1)))=n) (aD:Rd w (D a n c) n 1 (η (nF d1 p1 d2 p2 (hI (d2.map ϴ) (L d1))))) (aa:Ϻ d1 p1 (L d1)) (ab:Ϻ d2 p2 (L d2)) (ar:L d2<=64) (aC:d1=d2.take (L d1)) (aA:L d1<=L d2) :
  Calls prog 41 #[š (δ (hh d1 p1)),D a n c] w fun e w'=>e=ŗ (.tuple #[š (δ (hh d2 p2)),G (L d2),G 0])/\Below w.heap.size w w':=by
 have ax:=wO (d2.map ϴ) (L d1);rw[hU]at ax;have X:=Zx (ND a n c d1 d2 p1 p2 _ w aB aD aa ab U (uO (kv _) _));have af:=Zx (fun ad am z f B m k y=>ze ad am z d1 p1 f B m k y aa);have ag:=Zx (fun d V aN aG q pc f B m k y=>HC d V aN aG q pc d1 d2 f B m k y ar aC aA);have ah:=Zx (fun d ac aL aM V z aO a2 f B m k y=>HE d ac aL aM V z aO a2 d2 p2 f B m k y ab);have aV:(δ (hh d1 p1)).size=32:=by rw[iG,AH]
 have K:=Zx B;unfold yX at X;generalize hI _ _=T at *;generalize hh d1 p1=W at *;generalize hh d2 p2=M at *;generalize ϡ d1=r at *;generalize ϡ d2=F at *;generalize fP d1 p1=N at *;generalize fP d2 p2=P at *;generalize(L d1:Int)=s at *;generalize(L d2:Int)=E at *;generalize (L p1)=g at *;generalize (L p2)=p at *;have an:∀ v f,(callFunc 132 v).run prog f=.ok (.enter 132 v) f:=iW func132 ϋ rfl;have ao:∀ v f,(callFunc 75 v).run prog f=.ok (.enter 75 v) f:=iW func75 ϋ rfl;have ap:∀ v f,(callFunc 77 v).run prog f=.ok (.enter 77 v) f:=iW func77 ϋ rfl;have I:=Zx (Ν an (Ν ao ap));go_enter func41,ntmps41;go_wp2_with fail
 refine X.o.M ?_;rintro e i ⟨l,c1,t,c2,u,o,x,rfl,az,ay,av⟩;have⟨ak,ai,H⟩:=iQ az ay av;go_upto_region 7 with fail
 obtain⟨aF,-,-,-,-⟩:=fZ (w:=i) (A:=C #[G s,š (δ r),D l g c1,G E,š (δ F),D t p c2,D u o x] 149) (Z:=C #[š ⟨#[]⟩] 9) RZ;obtain⟨⟨aP,aQ,aR,-,-,-,-⟩,-,-⟩:=mX aF;go_wp2_with fail
 refine(zl _ _ _ _ _).M ?_;rintro e j ⟨rfl,rfl⟩;go_wp2_with fail
 have aE:=Kd (w:=i) (A1:=(C #[G s,š (δ r),D l g c1,G E,š (δ F),D t p c2,D u o x] 149)) (A2:=(C #[š ⟨#[]⟩] 9)) (A3:=(C #[G s,š (δ r),D l g c1] 123)) (A4:=(C #[š (δ W)] 9)) (A5:=(C #[.func (.func 132) #[] #[þ (J ⟨i.heap.size+1+1,0,O⟩),þ (J ⟨i.heap.size+1+1+1,0,O⟩)],.func (.func 75) #[] #[þ (J ⟨i.heap.size,0,O⟩)],.func (.func 77) #[] #[þ (J ⟨i.heap.size,0,O⟩),þ (J ⟨i.heap.size+1,0,O⟩)]] 24)) rfl;generalize(å (å (å (å (å i (C #[G s,š (δ r),D l g c1,G E,š (δ F),D t p c2,D u o x] 149)) (C #[š ⟨#[]⟩] 9)) (C #[G s,š (δ r),D l g c1] 123)) (C #[š (δ W)] 9)) (C #[.func (.func 132) #[] #[þ (J ⟨i.heap.size+1+1,0,O⟩),þ (J ⟨i.heap.size+1+1+1,0,O⟩)],.func (.func 75) #[] #[þ (J ⟨i.heap.size,0,O⟩)],.func (.func 77) #[] #[þ (J ⟨i.heap.size,0,O⟩),þ (J ⟨i.heap.size+1,0,O⟩)]] 24))=Q at *;obtain⟨rS,aI,aJ,aK,aH,a1,Y⟩:=aE;generalize aU:i.heap.size=d at *;have aw:=H.o.trans (Y.M (show w.heap.size<=d by have:=H.o.size;omega));have au:Α (· =d+1) Q (fun j=>Rd j (D l g c1) g 4 N/\Rd j (D t p c2) p 4 P/\Rd j (D u o x) o 1 (χ T)):=fun j k=>ai.o j fun b _ aT=>(k b U (fun e=>by omega)).trans (Y.block b U);have aj:ϫ (qv d (d+1) (d+1+1) (d+1+1+1) (d+1+1+1+1) #[G s,š (δ r),D l g c1,G E,š (δ F),D t p c2,D u o x] #[G s,š (δ r),D l g c1] #[š (δ W)] #[.func (.func 132) #[] #[þ (J ⟨d+1+1,0,O⟩),þ (J ⟨d+1+1+1,0,O⟩)],.func (.func 75) #[] #[þ (J ⟨d,0,O⟩)],.func (.func 77) #[] #[þ (J ⟨d,0,O⟩),þ (J ⟨d+1,0,O⟩)]] M (fun j=>Rd j (D l g c1) g 4 N/\Rd j (D t p c2) p 4 P/\Rd j (D u o x) o 1 (χ T)) w 0 Q):=⟨⟨rS,aI,aJ,aK,aH,au,aw⟩⟩;have aW:w.heap.size<=d:=ι H.o.size;have al:=Zx (zm [(132,#[þ (J ⟨d+1+1,0,O⟩),þ (J ⟨d+1+1+1,0,O⟩)]),(75,#[þ (J ⟨d,0,O⟩)]),(77,#[þ (J ⟨d,0,O⟩),þ (J ⟨d+1,0,O⟩)])] (qv d (d+1) (d+1+1) (d+1+1+1) (d+1+1+1+1) #[G s,š (δ r),D l g c1,G E,š (δ F),D t p c2,D u o x] #[G s,š (δ r),D l g c1] #[š (δ W)] #[.func (.func 132) #[] #[þ (J ⟨d+1+1,0,O⟩),þ (J ⟨d+1+1+1,0,O⟩)],.func (.func 75) #[] #[þ (J ⟨d,0,O⟩)],.func (.func 77) #[] #[þ (J ⟨d,0,O⟩),þ (J ⟨d+1,0,O⟩)]] M (fun j=>Rd j (D l g c1) g 4 N/\Rd j (D t p c2) p 4 P/\Rd j (D u o x) o 1 (χ T)) w) (J ⟨d+1+1+1+1,0,O⟩) 3 3 Q rfl aj.o
  (fun q f h=>xB h.f rfl U ώ)
  (fun q S=>by
   have:q=0\/q=1\/q=2:=by simp at S;omega
   rcases this with rfl|rfl|rfl
   .exact I.o.1
   .exact I.o.2.1
   .exact I.o.2.2)
  (fun q S f h=>by
   have:q=0\/q=1\/q=2:=by simp at S;omega
   rcases this with rfl|rfl|rfl
   .exact(af.o _ _ _ f (K.o.B h.b) h.h h.q h.r.now.1).M fun e w' ⟨m,k⟩=>⟨m,h.next U k⟩
   .exact(ag.o _ _ _ _ _ _ f (K.o.B h.b) h.s ak.o h.r.now.2.2).M fun e w' ⟨m,k⟩=>⟨m,h.next U k⟩
   .exact(ah.o _ _ _ _ _ _ _ _ f (K.o.B h.b) h.s h.g h.r.now.2.1).M fun e w' ⟨m,k,y⟩=>⟨m,h.last U U U U U k y⟩))
 refine al.o.M ?_;rintro e aX ⟨rfl,R⟩;have a3:=Zx R.b;obtain⟨⟨aP,aQ,aR,aS,aY,aZ,a0⟩,-,-⟩:=mX R.s;have hg:=R.g;rw[μ rfl]at hg;obtain⟨aq,-,-⟩:=gC hg;go_upto_region 10 with fail
 go_region_held3 (fun f=>Below w.heap.size w f/\f.cell? ⟨d+1,0,O⟩=J (š (δ M))/\f.cell? ⟨d,3,O⟩=J (G E)) (first|exact⟨a3.o.drew,aq,aS⟩|assumption) (fail)
 go_wp2;have ae:=a3.o.drew
 go_ret3
 exact⟨rfl,ae⟩
def Ο.setF {g} {w e:β} (h:Ο g w e) (c d a b:ε):Ο g w (ŝ (ŝ (ŝ (ŝ e ⟨g,8,O⟩ c) ⟨g,9,O⟩ d) ⟨g,10,O⟩ a) ⟨g,11,O⟩ b):=(((h.set 8 c).set 9 d).set 10 a).set 11 b
def Α.setF {H g} {w:β} {R:β->Prop} (h:Α H w R) (e:H g) (c d a b:ε):Α H (ŝ (ŝ (ŝ (ŝ w ⟨g,8,O⟩ c) ⟨g,9,O⟩ d) ⟨g,10,O⟩ a) ⟨g,11,O⟩ b) R:=
 (((h.set (p:=⟨g,8,O⟩) e c).set (p:=⟨g,9,O⟩) e d).set (p:=⟨g,10,O⟩) e a).set (p:=⟨g,11,O⟩) e b
def Bk (H:Nat->Prop) (g:Nat) (L:gR) (ix:Ix) (w:β) (ak:ϭ w) (ab:Ϭ w) (h:ia H g L ix w) (al:L.up=true) (y:Ϻ ix.1 ix.2 ix.1.length) (S:Ϻ L.x.1 L.x.2 L.x.1.length) (R:ix.1=L.x.1.take ix.1.length) (P:ix.1.length<=L.x.1.length) (I:L.x.1.length<=64) :
  Calls prog 18 #[þ (J ⟨g,0,O⟩)] w (oy H g L L.x (G 0) w):=by
 obtain⟨b,q,h⟩:=h;obtain⟨bl,ws,sq,ln,x,up,aL⟩:=L;obtain⟨f,j⟩:=x;obtain⟨l,v⟩:=ix;simp only at al y S R P I;subst al;have ae:=Zx (fun m (d:BQ w m)=>Ng q.da q.dc q.sa q.sc b.da b.dc b.sa b.sc l f v j m (ak.B d) (ab.B d) (h.ix.now.d.B d) (h.ix.now.s.B d) (h.led.now.d.B d) (h.led.now.s.B d) y S R P I);have F:=Zx (fun a n c m (d:BQ w m) (aC:(nF l v f j (hI (f.map ϴ) l.length)).length=n) (aD:Rd m (D a n c) n 1 (η (nF l v f j (hI (f.map ϴ) l.length))))=>IH a n c l f v j m (ab.B d) aC aD y S I R P);have K:=Zx h.row;have V:=h.hg;have ap:=Zx h.led;have az:=Zx (h.led.imp (Q:=fun ac=>ur ac ⟨b.da,b.dc,b.sa,b.sc⟩ (f,j)) fun ac af=>⟨af.d,af.s⟩);obtain⟨⟨c0,c1,c2,z,s,t,A,B,u,E,o,p⟩,N,T⟩:=jJ h.row;unfold oy;simp only at K c0 c1 c2 z s t A B u E o p;generalize nF l v f j (hI (f.map ϴ) l.length)=aK at *;have av:∃ r,hh l v=r:=⟨_,rfl⟩;obtain⟨aJ,ah⟩:=av;rw[ah]at F K u;have ax:∃ r,hh f j=r:=⟨_,rfl⟩;obtain⟨e,W⟩:=ax;rw[W]at F;have au:=Zx W;clear h ak ab y S R P I ah W;go_enter func18,ntmps18;go_upto_region 5 with fail
 have i:BQ w w.drew:=RZ.drew;refine ϯ (fun aA=>BQ w aA) 10 ϋ ?_;refine Zf 0 i ?_;refine Zf 1 i ?_;refine Zf 2 i ?_;refine Zk 3 i ?_ (hy:=by intro m d;have aF:=ζ d o;have aG:=ζ d p;have aH:=ζ d s;have aI:=ζ d t;go_simp;try with_reducible rfl);refine Zf 4 i ?_;refine Zf 5 i ?_;refine Zf 6 i ?_;refine Zf 7 i ?_;refine Zf 8 i ?_;refine Zk 9 i ?_ (hy:=by intro m d;have aF:=ζ d o;have aG:=ζ d p;have aH:=ζ d s;have aI:=ζ d t;go_simp;try with_reducible rfl);have aj:BQ w w.drew:=RZ.drew;refine jF (fuel:=5) ϋ ϋ rfl ?_;intro a0 ag;go_simp;refine(ae.o _ aj).M ?_;rintro a1 am ⟨aB,aE,y,rfl,Y,ai⟩;refine ag _ _ ?_;clear ag a0;try simp only[Zp]
 have k:BQ w am:=i.trans ai;refine Zf 11 k ?_;refine Zf 12 k ?_;refine Zf 13 k ?_;refine Zf 14 k ?_;refine Zf 15 k ?_;refine Zd ?_;have ad:=Zx (F.o aB aE y am k Y.1 Y.rd);have Z:=θ K.o k;clear c0 c1 c2 z s t A B u E o p N T Y ai i aj ae F;have⟨ay,ar⟩:=ϟ k Z;obtain⟨⟨c0,c1,c2,z,s,t,A,B,u,E,o,p⟩,N,T⟩:=jJ Z;clear k Z;go_wp2_with fail
 refine ad.o.M ?_;rintro a1 ac ⟨rfl,X⟩;have M:=ay.o.t X;have aa:=θ ar.o X;clear c0 c1 c2 z s t A B u E o p N T ad;obtain⟨⟨c0,c1,c2,z,s,t,A,B,u,E,o,p⟩,N,T⟩:=jJ aa;have⟨aw,aq,ao,an⟩:=kX (OS aa (š (δ e)) (G (f.length:Int)) (D b.da f.length b.dc) (D b.sa j.length b.sc)) ((ap.o.B M).setF V (š (δ e)) (G (f.length:Int)) (D b.da f.length b.dc) (D b.sa j.length b.sc)) ((az.o.B M).setF V (š (δ e)) (G (f.length:Int)) (D b.da f.length b.dc) (D b.sa j.length b.sc)) (((Ο.refl g w).B M).setF (š (δ e)) (G (f.length:Int)) (D b.da f.length b.dc) (D b.sa j.length b.sc));clear aa M X;go_wp2;have:=au.o;subst this;go_ret;exact⟨rfl,⟨b,⟨b.da,b.dc,b.sa,b.sc⟩,aw.o,aq.o,ao.o,V⟩,an.o⟩
def QV (H g L ix m) (w:β) (I:ϭ w) (K:Ϭ w) (h:ia H g L ix w) (o:L.up=true) (p:Ϻ ix.1 ix.2 ix.1.length) (r:Ϻ L.x.1 L.x.2 m) (n:m≠L.x.1.length) :
  Calls prog 18 #[þ (J ⟨g,0,O⟩)] w (oy H g L ix (G 7) w):=by
 obtain⟨P,q,h⟩:=h;obtain⟨bl,ws,sq,ln,x,up,T⟩:=L;obtain⟨R,S⟩:=x;obtain⟨M,N⟩:=ix;simp only at o p r n;subst o;have s:=Zx (fun d (a:BQ w d)=>Nh _ _ _ _ _ _ _ _ M R N S m d (I.B a) (K.B a) (h.ix.now.d.B a) (h.ix.now.s.B a) (h.led.now.d.B a) (h.led.now.s.B a) p r n);have HW:=Zx h;obtain⟨⟨c0,c1,c2,u,k,l,v,y,z,A,i,j⟩,a1,Z⟩:=jJ h.row;unfold oy;simp only at c0 c1 c2 u k l v y z A i j;go_enter func18,ntmps18;go_upto_region 5 with fail
 have b:BQ w w.drew:=RZ.drew;refine ϯ (fun t=>BQ w t) 10 ϋ ?_;refine Zf 0 b ?_;refine Zf 1 b ?_;refine Zf 2 b ?_;refine Zk 3 b ?_ (hy:=by intro d a;have V:=ζ a i;have W:=ζ a j;go_simp;try with_reducible rfl);refine Zf 4 b ?_;refine Zf 5 b ?_;refine Zf 6 b ?_;refine Zf 7 b ?_;refine Zf 8 b ?_;refine Zk 9 b ?_ (hy:=by intro d a;have X:=ζ a k;have Y:=ζ a l;go_simp;try with_reducible rfl);have F:BQ w w.drew:=RZ.drew;refine jF (fuel:=5) ϋ ϋ rfl ?_;intro a0 B;go_simp;refine(s.o _ F).M ?_;rintro e Q ⟨rfl,E⟩;refine B _ _ ?_;try simp only[Zp]
 have c:BQ w Q:=b.trans E;refine Zf 11 c ?_;refine Zf 12 c ?_;refine Zf 13 c ?_;refine Zf 14 c ?_;refine Zf 15 c ?_;refine Zd ?_;have f:=Zx c;go_wp2;go_ret;exact⟨rfl,⟨P,q,HW.o.B f.o⟩,(Ο.refl g w).B f.o⟩
def Lt (p L kd ei em va vn vc) (w:β) (f:L.up=false) :
  Calls prog 48 #[ā (gy p L),ā (jc kd ei em va vn vc)] w fun e w'=>e=ŗ (.tuple #[ā (gy p L),G 7])/\BQ w w':=by
 obtain⟨c,m,b,h,n,g,a⟩:=oO (w:=w) (A:=C (gy p L) 48) (Z:=C (jc kd ei em va vn vc) 33) (Y:=C #[D O 0 0,D O 0 0,G 0,G 0,D O 0 0,D O 0 0,.bool false,G 0] 48) RZ;obtain⟨bl,ws,sq,ln,ix,up,d⟩:=L;obtain⟨ba,bc,wa,wc,da,dc,sa,sc⟩:=p;simp only at f;subst f;simp only[gy]at c a b h g ⊢;unfold jc at a c b m h g n ⊢;go_enter func48,ntmps48;go_upto_region 1 with fail
 generalize(å (å (å w _) _) _)=k at *;obtain⟨⟨c0,c1,c2,o,q,r,s,t⟩,x,B⟩:=Ϲ c;obtain⟨⟨r0,r1,r2,r3,r4,z,r6,r7⟩,y,-⟩:=Ϲ b;have j:=Zh (oK b (D ba bl.length bc) (D wa ws.length wc) (G sq) (G ln) (D da ix.1.length dc) (D sa ix.2.length sc) (.bool false) (G d));have l:=Ο.set8 (w.heap.size+1+1) k (D ba bl.length bc) (D wa ws.length wc) (G sq) (G ln) (D da ix.1.length dc) (D sa ix.2.length sc) (.bool false) (G d);have i:=Zh (l.to a a.size U);go_wp2;refine Ω (v:=.tuple #[ā _,G 7]) (gz  (u:=5)  rfl _ _ _ _ _ _ _ rfl j.o qq rfl ϋ) rfl ?_;exact⟨rfl,i.o⟩
def Ra (H g L ix kd ei em va vn vc) (w:β) (i:∀ b,H b->b<w.heap.size) (h:ia H g L ix w) (k:L.up=false) :
  Calls prog 22 #[þ (J ⟨g,0,O⟩),ā (jc kd ei em va vn vc)] w (wv H g (fun d c=>d=L) ix w):=
 GA H g L ix _ kd ei em va vn vc w i h fun a l f n m j=>(Lt a L kd ei em va vn vc f k).M fun e o h=>⟨a,L,7,h.1,rfl,j.B h.2,h.2⟩
def QU (H g L ix) (w:β) (h:ia H g L ix w) (b:L.up=false) :
  Calls prog 18 #[þ (J ⟨g,0,O⟩)] w fun e w'=>e=ŗ (G 7)/\w=w':=by
 obtain⟨k,q,h⟩:=h;obtain⟨⟨c0,c1,c2,c,d,f,a,i,-,-,-,-⟩,j,l⟩:=jJ h.row;rw[b]at a;go_enter func18,ntmps18;go_wp2;exact gH
def Bl (H g L ix) (w:β) (h:ia H g L ix w) :
  Calls prog 16 #[þ (J ⟨g,0,O⟩)] w fun e w'=>e=ŗ (.tuple #[š (δ (hh ix.1 ix.2)),G ix.1.length])/\BQ w w':=by
 obtain⟨j,q,h⟩:=h;obtain⟨⟨-,-,-,-,-,-,-,-,d,f,-,-⟩,i,k⟩:=jJ h.row;generalize hh _ _=c at *;generalize ix.1.length=n at *;go_enter func16,ntmps16;go_upto_region 3 with fail
 have b:BQ w w.drew:=RZ.drew;go_region_held3 (fun a=>BQ w a/\a.cell? ⟨g,8,O⟩=J (š (δ c))/\a.cell? ⟨g,9,O⟩=J (G n)) (first|exact⟨b,d,f⟩|assumption) (fail)
 go_wp2;go_ret2;exact⟨rfl,b⟩
def QX (H g L ix) (w:β) (h:ia H g L ix w) (t:kk ix) :
  Calls prog 15 #[þ (J ⟨g,0,O⟩)] w (sA ix w):=by
 obtain⟨B,q,h⟩:=h;obtain⟨s,l,a⟩:=fO (w:=w) (A:=C #[D O 0 0,D O 0 0] 44) RZ;have i:=Zx (QS _ _ _ _ ix _ (h.ix.now.d.B a) (h.ix.now.s.B a) t);unfold sA at i ⊢;obtain⟨⟨-,-,-,-,-,-,-,-,-,-,v,x⟩,-,F⟩:=jJ (θ h.row a);go_enter func15,ntmps15;go_upto_region 3 with fail
 generalize å w _=u at *;go_wp2_with fail
 refine i.o.M ?_;rintro e E ⟨b,d,c,f,rfl,r,j⟩;have k:=θ s j;have⟨o,m,n⟩:=iQ (fS k (D b ix.1.length d) (D c ix.2.length f)) (ga (a.t j) NZ (D b ix.1.length d) (D c ix.2.length f)) (((r.set (p:=⟨w.heap.size,0,O⟩) l (D b ix.1.length d)).set (p:=⟨w.heap.size,1,O⟩) l (D c ix.2.length f)).M a.size);obtain⟨⟨y,d1⟩,⟨z,f1⟩,-⟩:=ν k;go_wp2;refine Ω  (jf   rfl _ _ _ _ _ _ _ rfl o.o lG rfl ϋ) rfl ?_;exact⟨b,d,c,f,rfl,n.o,m.o⟩
def QZ (g nb nw nd d:Nat) (ba:Option Addr) (bc:Nat) (wa:Option Addr) (wc:Nat) (da:Option Addr) (dc:Nat) (sa:Option Addr) (sc:Nat) (sq ln t:Int) (up:Bool) (co cp cm cn:ε) (bl:ϸ) (ws:ht) (ď:List (γ)) (ps:List (Nat×Nat)) (w:β)
  (an:L bl=nb) (aq:L ws=nw) (ao:L ď=nd) (ap:L ps=d) (bR:Ε w (D ba nb bc) bl) (a9:iu w (D wa nw wc) ws) (bY:Ε w (D da nd dc) ď) (cc:ϣ ď w (D sa d sc) ps) (ar:jg bl ws) (cg:kk (ď,ps))
  (hg:w.heap[g]?=J (C #[D ba nb bc,D wa nw wc,G sq,G ln,D da nd dc,D sa d sc,.bool up,G t,co,cp,cm,cn] 77 (0,0))) :
  Calls prog 9 #[þ (J ⟨g,0,O⟩)] w (ut ⟨bl,ws,sq,ln,(ď,ps),up,t⟩ w):=by
 have bv:=Zh (fun c (aF:c<L ws)=>show L ws[c].2<=100000 by have:=(ar.lw _ (Ψ aF)).2;omega);have b6:=ar.nb;have b7:=ar.nw;rw[an]at b6;rw[aq]at b7;have az:=Zh (fun u (B:BQ w u)=>Gw nd d da dc sa sc ď ps u ao ap (bY.B B) (cc.B B) cg);have bt:=Zh (fun u (B:BQ w u)=>Gy ba nb bc bl u an (bR.B B) (fun c aF=>ι (ar.lb _ (Ψ aF))) U);have⟨aN,ae,aO,aP⟩:=hV an aq ao ap;obtain⟨aH,cl,cj,bs⟩:=Gr aq a9;have bk:=Zh (fun u (B:BQ w u)=>CH (D wa nw wc) nw aH u (cl.B B) cj U);unfold sA at az;simp only[ao,ap]at az;clear a9 an aq ao ap;obtain⟨b9,a5,c9,aI,aZ⟩:=fZ (w:=w) (A:=C #[D O 0 0,D O 0 0,G 0,G 0,D O 0 0,D O 0 0,.bool false,G 0] 48) (Z:=C #[D ba nb bc,D wa nw wc,G sq,G ln,D da nd dc,D sa d sc,.bool up,G t] 48) RZ;obtain⟨⟨c0,c1,c2,Q,R,i,S,T,-,-,-,-⟩,-,cr⟩:=jJ hg;obtain⟨⟨cu,cv,cw,cx,cy,cz,cA,cB,-,-,-,-⟩,-,dd⟩:=jJ (w:=å w (C #[D O 0 0,D O 0 0,G 0,G 0,D O 0 0,D O 0 0,.bool false,G 0] 48)) ((hM w _ g cr).trans hg);go_enter func9,ntmps9;go_upto_region 4 with fail
 generalize å (å w (C #[D O 0 0,D O 0 0,G 0,G 0,D O 0 0,D O 0 0,.bool false,G 0] 48)) (C #[D ba nb bc,D wa nw wc,G sq,G ln,D da nd dc,D sa d sc,.bool up,G t] 48)=aS at *;obtain⟨⟨c0,c1,c2,Q,R,i,S,T⟩,Y,W⟩:=Ϲ a5;have bj:=Zh (az.o _ aZ);go_wp2_with fail
 refine bj.o.M ?_;rintro e f ⟨j,l,k,m,rfl,b0,N⟩;have ak:=θ a5 N;have ca:=θ b9 N;have ai:(ŝ (ŝ f ⟨w.heap.size+1,4,O⟩ (D j nd l)) ⟨w.heap.size+1,5,O⟩ (D k d m)).heap[w.heap.size+1]?=J (C #[D ba nb bc,D wa nw wc,G sq,G ln,D j nd l,D k d m,.bool up,G t] 48 (0,0)):=υ _ _ 5 _ _ _ (υ _ _ 4 _ _ _ ak);have bQ:(ŝ (ŝ f ⟨w.heap.size+1,4,O⟩ (D j nd l)) ⟨w.heap.size+1,5,O⟩ (D k d m)).heap[w.heap.size]?=J (C #[D O 0 0,D O 0 0,G 0,G 0,D O 0 0,D O 0 0,.bool false,G 0] 48 (0,0)):=(Γ _ _ _ _ ύ).trans ((Γ _ _ _ _ ύ).trans ca);have b1:=(b0.set (p:=⟨w.heap.size+1,4,O⟩) aI (D j nd l)).set (p:=⟨w.heap.size+1,5,O⟩) aI (D k d m);have a0:=((aZ.t N).S (p:=⟨w.heap.size+1,4,O⟩) (gu _ 1) (D j nd l)).S (p:=⟨w.heap.size+1,5,O⟩) (gu _ 1) (D k d m);have bb:aS.heap.size<=(ŝ (ŝ f ⟨w.heap.size+1,4,O⟩ (D j nd l)) ⟨w.heap.size+1,5,O⟩ (D k d m)).heap.size:=by have:=N.size;simpa using this
 obtain⟨⟨c0,c1,c2,Q,R,i,S,T⟩,Y,W⟩:=Ϲ ak;go_upto_region 5 with fail
 generalize ŝ (ŝ f ⟨w.heap.size+1,4,O⟩ (D j nd l)) ⟨w.heap.size+1,5,O⟩ (D k d m)=ct at *;obtain⟨⟨c0,c1,c2,Q,R,i,S,T⟩,Y,W⟩:=Ϲ ai;have bu:=Zh (bt.o _ a0);go_wp2_with fail
 refine bu.o.M ?_;rintro e ax ⟨n,rfl,b2,aj⟩;have a6:=θ ai aj;have aW:(ŝ ax ⟨w.heap.size+1,0,O⟩ (D (J ⟨n,0,O⟩) nb nb)).heap[w.heap.size]?=J (C #[D O 0 0,D O 0 0,G 0,G 0,D O 0 0,D O 0 0,.bool false,G 0] 48 (0,0)):=(Γ _ _ _ _ ύ).trans (θ bQ aj);have aV:(ŝ ax ⟨w.heap.size+1,0,O⟩ (D (J ⟨n,0,O⟩) nb nb)).heap[w.heap.size+1]?=J (C #[D (J ⟨n,0,O⟩) nb nb,D wa nw wc,G sq,G ln,D j nd l,D k d m,.bool up,G t] 48 (0,0)):=υ _ _ 0 _ _ _ a6;have b3:=((b1.B aj).and (b2.M bb)).set (p:=⟨w.heap.size+1,0,O⟩) aI (D (J ⟨n,0,O⟩) nb nb);have bW:=(a0.t aj).S (p:=⟨w.heap.size+1,0,O⟩) (gu _ 1) (D (J ⟨n,0,O⟩) nb nb);have cR:aS.heap.size<=(ŝ ax ⟨w.heap.size+1,0,O⟩ (D (J ⟨n,0,O⟩) nb nb)).heap.size:=by have:=aj.size;simp;omega
 obtain⟨⟨c0,c1,c2,Q,R,i,S,T⟩,Y,W⟩:=Ϲ a6;go_upto_region 6 with fail
 generalize ŝ ax ⟨w.heap.size+1,0,O⟩ (D (J ⟨n,0,O⟩) nb nb)=ab at *;have bw:Hid (Α (· <w.heap.size+2) ab (fun f=>(Ε f (D j nd l) ď/\ϣ ď f (D k d m) ps)/\Ε f (D (J ⟨n,0,O⟩) nb nb) bl)):=b3.off (fun b _ q=>by omega);have⟨bx,aM⟩:=π aW aV;have aJ:=bW;have cQ:w.heap.size+2<=ab.heap.size:=U;clear aW aV;obtain⟨⟨c0,c1,c2,Q,R,i,S,T⟩,Y,W⟩:=Ϲ aM.o;have bf:=W;have bm:=Zh (bk.o _ aJ);go_wp2_with fail
 refine bm.o.M ?_;rintro e aw ⟨cV,rfl,bd,N⟩;obtain⟨r,o,rfl⟩:=Η bd;have ak:=θ aM.o N;obtain⟨⟨c0,c1,c2,Q,R,i,S,T⟩,Y,W⟩:=Ϲ ak;go_upto_region 7 with fail
 have ai:(ŝ aw ⟨w.heap.size+1,1,O⟩ (D r nw o)).heap[w.heap.size+1]?=J (C #[D (J ⟨n,0,O⟩) nb nb,D r nw o,G sq,G ln,D j nd l,D k d m,.bool up,G t] 48 (0,0)):=υ _ _ 1 _ _ _ ak;have be:=hR bd (a:=⟨w.heap.size+1,1,O⟩) bf (D r nw o);have bS:=(N.M (mC bf)).S (p:=⟨w.heap.size+1,1,O⟩) NZ (D r nw o);have bb:ab.heap.size<=(ŝ aw ⟨w.heap.size+1,1,O⟩ (D r nw o)).heap.size:=by have:=N.size;simpa using this
 have a2:∀ b,b<ab.heap.size->b≠w.heap.size+1->(ŝ aw ⟨w.heap.size+1,1,O⟩ (D r nw o)).heap[b]?=ab.heap[b]?:=fun b I M=>by rw[Γ _ _ _ _ M];exact N.block b I
 generalize(ŝ aw ⟨w.heap.size+1,1,O⟩ (D r nw o))=s at *;have⟨aA,aQ,aL⟩:=ϲ ai be a2;have aT:=aJ.trans (bS.M (U:w.heap.size<=w.heap.size+1));clear ai be a2;obtain⟨⟨c0,c1,c2,Q,R,i,S,T⟩,Y,W⟩:=Ϲ aA.o;go_wp2_with fail
 go_loopw [35] (fun E wr=>∃ (c:Nat) (aa:List ε),c<=nw/\E=G (c:Int)/\Hid (wr.ownsRow ab.heap.size 84 2 (D r nw o) nw aa)/\Hid (∀ P,c*2<=P->aa[P]?=aH[P]?)/\Hid (Hi s.heap.size wr (wx ws aa c))/\Hid (∀ b,b<s.heap.size->(∀ g,(Value.slice r nw o).ownBlock=J g->b≠g)->wr.heap[b]?=s.heap[b]?)/\Below ab.heap.size s wr/\s.heap.size<=wr.heap.size) (fun E _=>nw - (intOf E).toNat)
 .exact⟨0,_,Ζ _,rfl,aQ.o,fun _ _=>rfl,(fun f _ E hi d1=>U),fun _ _ _=>rfl,ρ _ _,NZ⟩
 obtain⟨V,cf⟩:∃ x:β,x=wr:=⟨wr,rfl⟩;subst cf;obtain⟨c,aa,cO,rfl,F,al,aK,ad,aD,ce⟩:=hrel;have bV:BQ w V:=aT.trans (aD.M U);by_cases cP:c<nw
 .skip
  have a3:c<L ws:=ι ae.o;obtain⟨ag,ah,aE,bX,cb⟩:=bs.o c a3;obtain⟨z,cC,a8⟩:=kO F.o U;simp only[Χ,ϵ]at a8;obtain⟨rfl,rfl⟩:=a8;have bZ:=Ϡ F.o z rfl;have bN:=(ad.o (w.heap.size+1) U (fun g hg=>ι (Ϡ F.o g hg).1)).trans aA.o;have ch:(c:Int)<(nw:Int):=U;have cS:(0:Int)<=(c:Int):=U;obtain⟨bH,cH,-,cI⟩:=im F.o (c*2) U;obtain⟨bI,cF,-,-⟩:=im F.o (c*2+1) U;rw[al.o (c*2) U,aE]at bH;rw[al.o (c*2+1) U,bX]at bI;have bD:=Zh aE;generalize aY:ws[c].1=am at *;have bg:=Zh aY;have ac:BQ V (å V (C #[G (am:Int),D ag (L ws[c].2) ah] 84)):=ġ;have b8:=φ V (C #[G (am:Int),D ag (L ws[c].2) ah] 84);have cs:=F.o.1;have bi:=Zh (rK (D ag (L ws[c].2) ah) (L ws[c].2) (η ws[c].2) (å V (C #[G (am:Int),D ag (L ws[c].2) ah] 84)).drew (cb.B (bV.al _).drew) (mM _) (ι (bv.o c a3)));generalize a1:L ws[c].2=y at *;have bn:=Zh a1;clear a1 aE aY;go_upto_region 10 with fail
  generalize å V (C #[G (am:Int),D ag y ah] 84)=af at *;have bL:=θ bN ac;obtain⟨⟨cX,cq,cY,cZ,c3,c4,c5,c6⟩,cL,db⟩:=Ϲ bL;obtain⟨⟨cT,ci⟩,-,c7⟩:=ν b8;have bA:=Zh (ψ F.o ac);have X:BQ af af.drew:=RZ.drew;refine ϯ (fun bE=>BQ af bE) 9 ϋ ?_;refine Zf 0 X ?_;refine Zf 1 X ?_;refine Zb 2 [7,8,9] X ?_ (hy:=by intro u B;have cD:=ζ B cq;go_simp;try with_reducible rfl);refine Zf 3 X ?_;refine Zf 4 X ?_;refine Zb 5 [6,9] X ?_ (hy:=by intro u B;have cE:=ζ B ci;go_simp;try with_reducible rfl);refine Κ (fuel:=3) 6 ϋ rfl ?_;intro d0 bO;go_simp;refine bi.o.M ?_;rintro e ay ⟨cW,rfl,a4,bT⟩;obtain⟨h,i,rfl⟩:=Η a4;have K:BQ af ay:=X.trans bT;refine bO _ _ K ?_;try simp only[Act.put]
  refine Zf 7 K ?_;refine Zf 8 K ?_;have aR:=Zh (ψ bA.o K);obtain⟨bJ,cG,-,cJ⟩:=im aR.o (c*2+1) U;rw[Ρ (by omega)]at bJ;refine Zl ?_;refine Zd ?_;have a7:=ac.size;have bz:=Zh (mU aR.o (c*2+1) U (D h y i));have bC:Hid (∀ P,(c+1)*2<=P->(aa.set (c*2+1) (D h y i))[P]?=aH[P]?):=fun P cN=>by rw[gi U];exact al.o P U
  have bo:Hid (Hi s.heap.size (ŝ ay ⟨z,c*2+1,O⟩ (D h y i)) (wx ws (aa.set (c*2+1) (D h y i)) (c+1))):=by
   have aC:=((aK.o.B ac).B K).and ((Hi.own a4).M (show s.heap.size<=af.drew.heap.size from gj ce a7));have b5:z<s.heap.size:=(Ϡ aQ.o z rfl).2;refine(aC.set (p:=⟨z,c*2+1,O⟩) b5 (D h y i)).imp fun f ⟨I,M⟩ E hi cM=>?_;by_cases b4:E=c
   .subst b4
    refine⟨?_,D h y i,by rw[mB (by omega)],?_⟩
    .rw[gi U,al.o (E*2) U,bg.o];exact bD.o
    .rw[bn.o];exact M
   .obtain⟨ck,bF,aG,av⟩:=I E hi U
    exact⟨by rw[gi U];exact ck,bF,by rw[gi U];exact aG,av⟩
  have bq:Hid (∀ b,b<s.heap.size->(∀ g,(Value.slice (J ⟨z,0,O⟩) nw o).ownBlock=J g->b≠g)->(ŝ ay ⟨z,c*2+1,O⟩ (D h y i)).heap[b]?=s.heap[b]?):=fun b aG av=>by
   rw[Γ _ _ _ _ (av z rfl),K.block b U,ac.block b U];exact ad.o b aG av
  have bU:=(aD.trans ((ac.trans (K.M a7)).M U)).S (p:=⟨z,c*2+1,O⟩) bZ.1 (D h y i);have cd:s.heap.size<=(ŝ ay ⟨z,c*2+1,O⟩ (D h y i)).heap.size:=by
   have:=K.size;simp only[nc];omega
  go_wp2_with fail
  go_roundw
  .exact⟨c+1,_,U,ϕ,bz.o,bC.o,bo.o,bq.o,bU,cd⟩
  exact ω
 .skip
  have ch:¬(c:Int)<(nw:Int):=U;obtain rfl:nw=c:=U;rename_i aU;have bp:=Zh aU;clear aU;have au:=Ϡ F.o;have bM:=(ad.o (w.heap.size+1) U (fun g hg=>ι (au g hg).1)).trans aA.o;have aX:=(ad.o w.heap.size U (fun g hg=>ι (au g hg).1)).trans ((aL.o _ U U).trans bx.o);have bP:Α (· <w.heap.size+2) V (fun f=>((Ε f (D j nd l) ď/\ϣ ď f (D k d m) ps)/\Ε f (D (J ⟨n,0,O⟩) nb nb) bl)/\iu f (D r nw o) ws):=by
   have aC:Α (· <w.heap.size+2) V (fun f=>(Ε f (D j nd l) ď/\ϣ ď f (D k d m) ps)/\Ε f (D (J ⟨n,0,O⟩) nb nb) bl):=bw.o.step U (fun b I M=>(ad.o b U (fun g hg=>ι (au g hg).1)).trans (aL.o b I (fun e=>M (by show b<w.heap.size+2;omega)))) (fun b _ g=>g);refine(aC.and ((aK.o.off (fun b _ g=>by omega)).and (Α.own F.o (H:=(· <w.heap.size+2)) (fun g hg e=>ι (au g hg).1)))).imp fun f ⟨I,M,aB⟩=>⟨I,?_⟩;exact⟨aa,by rw[ae.o];exact aB,fun E hi=>M E hi (ι ae.o)⟩
  have bK:=aT.trans (aD.M U);have⟨bB,bh⟩:=π (oK aX (D (J ⟨n,0,O⟩) nb nb) (D r nw o) (G sq) (G ln) (D j nd l) (D k d m) (.bool up) (G t)) (((((((((bK.S (p:=⟨w.heap.size,0,O⟩) NZ (D (J ⟨n,0,O⟩) nb nb)).S (p:=⟨w.heap.size,1,O⟩) NZ (D r nw o)).S (p:=⟨w.heap.size,2,O⟩) NZ (G sq)).S (p:=⟨w.heap.size,3,O⟩) NZ (G ln)).S (p:=⟨w.heap.size,4,O⟩) NZ (D j nd l)).S (p:=⟨w.heap.size,5,O⟩) NZ (D k d m)).S (p:=⟨w.heap.size,6,O⟩) NZ (.bool up)).S (p:=⟨w.heap.size,7,O⟩) NZ (G t)));have br:=Zh ((((((((((bP.set (p:=⟨w.heap.size,0,O⟩) (by show w.heap.size<w.heap.size+2;omega) (D (J ⟨n,0,O⟩) nb nb)).set (p:=⟨w.heap.size,1,O⟩) (by show w.heap.size<w.heap.size+2;omega) (D r nw o)).set (p:=⟨w.heap.size,2,O⟩) (by show w.heap.size<w.heap.size+2;omega) (G sq)).set (p:=⟨w.heap.size,3,O⟩) (by show w.heap.size<w.heap.size+2;omega) (G ln)).set (p:=⟨w.heap.size,4,O⟩) (by show w.heap.size<w.heap.size+2;omega) (D j nd l)).set (p:=⟨w.heap.size,5,O⟩) (by show w.heap.size<w.heap.size+2;omega) (D k d m)).set (p:=⟨w.heap.size,6,O⟩) (by show w.heap.size<w.heap.size+2;omega) (.bool up)).set (p:=⟨w.heap.size,7,O⟩) (by show w.heap.size<w.heap.size+2;omega) (G t))).hi.M (U:w.heap.size<=w.heap.size+2));obtain⟨⟨c0,c1,c2,Q,R,i,S,T⟩,Y,W⟩:=Ϲ bM;obtain⟨⟨r0,r1,r2,r3,r4,cU,r6,r7⟩,cK,c8⟩:=Ϲ aX;go_wp2_with fail
  refine bp.o _ _ ?_;go_wp2;refine Ω (v:=ā #[D (J ⟨n,0,O⟩) nb nb,D r nw o,G sq,G ln,D j nd l,D k d m,.bool up,G t]) (jf (p:=2) (ty:=48) rfl _ _ w.heap.size 48 _ (0,0) _ rfl bB.o qq rfl ϋ) rfl ?_;refine⟨⟨J ⟨n,0,O⟩,nb,r,o,j,l,k,m⟩,by simp only[gy];rw[aN.o,ae.o,aO.o,aP.o],?_,bh.o⟩;refine br.o.imp fun f ⟨⟨⟨I,M⟩,aB⟩,bG⟩=>⟨?_,?_,?_,?_⟩
  .simp only;rw[aN.o];exact aB
  .simp only;rw[ae.o];exact bG
  .simp only;rw[aO.o];exact I
  .simp only;rw[aP.o];exact M
def QY (H g L ix) (w:β) (h:ia H g L ix w) (a:rG L):Calls prog 9 #[þ (J ⟨g,0,O⟩)] w (ut L w):=by
 obtain⟨b,q,h⟩:=h;exact QZ g _ _ _ _ _ _ _ _ _ _ _ _ _ _ _ _ _ _ _ _ _ _ _ _ w rfl rfl rfl rfl h.led.now.b h.led.now.wt h.led.now.d h.led.now.s a.dk a.x h.row
def zV:Ϻ [] [] 0:=⟨ύ,ύ,ύ,rfl,ύ⟩
def oF (n:Nat):gR:=⟨List.replicate n jN,[],0,0,([],[]),true,-1⟩
def BN (n:Nat) (w:β) (e:Ending) (c:β):Prop:= ∃ g,e=ŗ (.tuple #[þ (J ⟨g,0,O⟩),G 0])/\w.heap.size<=g/\g<c.heap.size/\(∀ a:Nat->Prop,a g->(∀ b,a b->b<w.heap.size\/b=g)->ia a g (oF n) ([],[]) c)/\Below w.heap.size w c
def Rb (a) (w:β):Calls prog 27 #[þ (J a),G 0] w fun e w'=>e=ŗ (.tuple #[þ (J a),G 0])/\w=w':=by
 go_enter func27,ntmps27;go_wp2;go_ret2;exact⟨rfl,rfl⟩
def Gz (n:Nat) (w:β) (y:ϭ w) (Y:Ϭ w) (M:3<=n) (R:n<=4096) :
  Calls prog 6 #[G n] w (BN n w):=by
 have k:=Zx (Lq n w y M R);have l:=Zx (fun g (s:BQ w g)=>Nf O 0 O 0 _ _ g (y.B s) (Y.B s) (wV g O 0) (xO g _ O 0) zV);unfold us at k;simp only[gy,gO,List.length_replicate]at k l;obtain⟨m,q⟩:∃ r,hh [] []=r:=⟨_,rfl⟩;rw[q]at l;have I:=Zx q;go_enter func6,ntmps6;go_wp2_with fail
 refine k.o.M ?_;rintro e f ⟨a,rfl,Q,P⟩;have E:=Zx Q;have S:=φ f (C #[D a.ba n a.bc,D a.wa 0 a.wc,G 0,G 0,D a.da 0 a.dc,D a.sa 0 a.sc,.bool true,G (-1)] 48);have u:=(ρ f.heap.size f).A NZ (C #[D a.ba n a.bc,D a.wa 0 a.wc,G 0,G 0,D a.da 0 a.dc,D a.sa 0 a.sc,.bool true,G (-1)] 48);have x:=P.t u;go_upto_region 4 with fail
 generalize å f (C #[D a.ba n a.bc,D a.wa 0 a.wc,G 0,G 0,D a.da 0 a.dc,D a.sa 0 a.sc,.bool true,G (-1)] 48)=K at *;have⟨F,Z,o,p⟩:=kX (l.o K x) S x u;go_wp2_with fail
 refine F.o.M ?_;rintro e c ⟨rfl,d⟩;obtain⟨⟨c0,c1,c2,a0,a1,aa,ab,ac⟩,-,-⟩:=Ϲ (θ Z.o d);have A:=Zx d;go_wp2_with fail
 refine(Rb _ _).M ?_;rintro e ad ⟨rfl,rfl⟩;have T:=φ c (C #[D a.ba n a.bc,D a.wa 0 a.wc,G 0,G 0,D a.da 0 a.dc,D a.sa 0 a.sc,.bool true,G (-1),š (δ m),G 0,D O 0 0,D O 0 0] 77);have v:=(ρ c.heap.size c).A NZ (C #[D a.ba n a.bc,D a.wa 0 a.wc,G 0,G 0,D a.da 0 a.dc,D a.sa 0 a.sc,.bool true,G (-1),š (δ m),G 0,D O 0 0,D O 0 0] 77);have d:=A.o;have V:=d.size;have W:=o.o.size;have X:=p.o.size;have t:=(p.o.trans (d.M X)).trans (v.M U);have B:ϫ (BN n w (ŗ (.tuple #[þ (J ⟨c.heap.size,0,O⟩),G 0])) (å c (C #[D a.ba n a.bc,D a.wa 0 a.wc,G 0,G 0,D a.da 0 a.dc,D a.sa 0 a.sc,.bool true,G (-1),š (δ m),G 0,D O 0 0,D O 0 0] 77))):=by
  refine⟨⟨c.heap.size,rfl,U,ύ,fun z hg N=>⟨a,⟨O,0,O,0⟩,?_,?_,?_,hg⟩,o.o.trans ((d.trans (v.M V)).M W)⟩⟩
  .simp only[oF,List.length_replicate,gO];rw[I.o];exact T
  .refine(E.o.off (H:=fun b=>z b/\b<f.heap.size) (fun b i j=>by rcases N b j.1 with h|h<;>omega)).step t.size (fun b i j=>t.block b i) (fun b i j=>⟨j,i⟩)
  .exact fun c _=>⟨wV c O 0,xO c [] O 0⟩
 go_wp2;go_ret2;exact B.o
def PO (k i m:ε) (va vn vc) (w:β):Calls prog 28 #[ā #[k,i,m,D va vn vc]] w fun e w'=>e=ŗ (.bool (decide (vn<=2500)))/\BQ w w':=by
 have a:=(ρ _ w).A NZ (C #[k,i,m,D va vn vc] 33);go_enter func28,ntmps28;go_wp2;go_ret;exact⟨by congr 3;simp;omega,a⟩
def PP (a b k i m:ε) (va vn vc sa sn sc) (w:β):Calls prog 7 #[ā #[a,b,k,i,m,D va vn vc,D sa sn sc]] w fun e w'=>e=ŗ (.bool (decide (vn<=2500/\sn<=300)))/\BQ w w':=by
 obtain⟨f,-,n⟩:=fO (w:=w) (A:=C #[a,b,k,i,m,D va vn vc,D sa sn sc] 35) RZ;have j:=Zx (fun l=>PO k i m va vn vc l);have g:=Zx f;obtain⟨⟨c0,c1,c2,o,p,q,r⟩,-,-⟩:=mX f;go_enter func7,ntmps7;go_wp2_with fail
 refine(j.o _).M ?_;rintro e y ⟨rfl,d⟩;obtain⟨⟨s,d1,d2,t,u,v,x⟩,-,-⟩:=mX (θ g.o d);have c:=Zx (n.t d);by_cases h:vn<=2500
 .go_wp2
  go_ret;exact⟨by simp[h];omega,c.o⟩
 .go_wp2
  go_ret;exact⟨by simp[h],c.o⟩
structure jv (g k:Nat) (w W:β):Prop where
 ex:∃ (L:gR) (ix:Ix),ia (fun b=>b=g) g L ix W/\mE k L ix
 b:BQ w W
 lo:w.heap.size<=g
def jv.B {g k w W W'} (h:jv g k w W) (a:BQ W W'):jv g k w W':=by
 obtain⟨⟨b,ix,c,d⟩,e,f⟩:=h;exact⟨⟨b,ix,c.B a,d⟩,e.t a,f⟩
def jv.next {g k w W} (h:jv g k w W):jv g (k+1) w W:=by
 obtain⟨⟨a,ix,b,c⟩,d,e⟩:=h;exact⟨⟨a,ix,b,c.next⟩,d,e⟩
def jv.does {g k} {w e c:β} {L a:gR} {ix d:Ix} (h:jv g k w e) (f:ia (fun b=>b=g) g a d c) (i:mE (k+1) a d) (j:Ο g e c):jv g (k+1) w c:=
 ⟨⟨a,d,f,i⟩,j.to h.b h.b.size h.lo,h.lo⟩
def sy (R:β->Prop) (e:Ending) (a:β):Prop:= ∃ c:Int,e=ŗ (G c)/\R a
def HG {g k} {w c:β} (p:ϭ w) (o:Ϭ w) (h:jv g k w c) (z:k<=40):Calls prog 18 #[þ (J ⟨g,0,O⟩)] c (sy (jv g (k+1) w)):=by
 obtain⟨a,ix,f,l⟩:=h.ex;obtain⟨t,m,u,⟨r,b,y,x,s⟩|⟨b,-⟩⟩:=id l
 .have d:=b.dok.x
  have v:=sf b.x;simp only[gO,iI]at v;by_cases n:lT a.x.2=a.x.1.length
  .rw[kk,n]at d
   refine(Bk _ g a ix c (p.B h.b) (o.B h.b) f b.up m d x s U).M ?_;rintro e q ⟨rfl,i,j⟩;exact⟨_,rfl,h.does  (L:=a) (ix:=ix) i ⟨t,d,u,.inl ⟨r,b,U,by rw[nL],NZ⟩⟩ j⟩
  .refine(QV _ g a ix _ c (p.B h.b) (o.B h.b) f b.up m d n).M ?_
   rintro e q ⟨rfl,i,j⟩;exact⟨_,rfl,h.does (L:=a) (ix:=ix) i l.next j⟩
 .refine(QU _ g a ix c f b).M ?_
  rintro e q ⟨rfl,rfl⟩;exact⟨_,rfl,h.next⟩
def HJ {g k} {w a:β} (E:ϭ w) (h:jv g k w a) (K:k<=40) {kd ei em va vn vc} {i:γ} (x:i.length=vn) (B:Rd a (D va vn vc) vn 1 (η i)):Calls prog 22 #[þ (J ⟨g,0,O⟩),ā (jc kd ei em va vn vc)] a (sy (jv g (k+1) w)):=by
 obtain⟨j,ix,d,l⟩:=h.ex;have p:∀ b,b=g->b<a.heap.size:=fun b y=>y ▸ (by obtain⟨M,q,d⟩:=d;exact ς d.row);obtain⟨N,H,I,⟨s,f,u,v,t⟩|⟨f,-⟩⟩:=id l
 .obtain⟨r,z,-⟩:=JQ kd ei em va vn vc i a x B
  refine(Bm _ g j ix s r kd ei em va vn vc a (E.B h.b) p d f U z).M ?_;rintro e F ⟨o,c,rfl,A,m,n⟩;exact⟨_,rfl,h.does (L:=j) (ix:=ix) m (l.put f u v t A) n⟩
 .refine(Ra _ g j ix kd ei em va vn vc a p d f).M ?_
  rintro e F ⟨o,c,rfl,rfl,m,n⟩;exact⟨_,rfl,h.does (L:=o) (ix:=ix) m l.next n⟩
def HD {g k w W} (h:jv g k w W) {d:ε} {ks} (l:Rd W d ks.length 1 (τ ks)):Calls prog 10 #[þ (J ⟨g,0,O⟩),d] W (fun e w'=>e=ŗ (.tuple #[])/\jv g (k+1) w w'):=by
 obtain⟨f,ix,a,c⟩:=h.ex;have i:∀ b,b=g->b<W.heap.size:=fun b j=>j ▸ (by obtain⟨o,q,a⟩:=a;exact ς a.row);refine(Gx _ g f ix d ks W i a c.ok (ι c.n3) l).M ?_;rintro e w' ⟨rfl,m,n⟩;exact⟨rfl,h.does (L:=f) (ix:=ix) m (c.crash ks).next n⟩
def HK {g k} {w d:β} (A:ϭ w) (h:jv g k w d) (H:k<=40):Calls prog 11 #[þ (J ⟨g,0,O⟩)] d (sy (jv g (k+1) w)):=by
 obtain⟨a,ix,f,p⟩:=h.ex;have y:∀ b,b=g->b<d.heap.size:=fun b z=>z ▸ (by obtain⟨I,q,f⟩:=f;exact ς f.row);obtain⟨K,u,r,⟨c,l,-⟩|⟨l,v⟩⟩:=id p
 .refine(Rc _ g a ix d f l.up).M ?_
  rintro e E ⟨rfl,m,n⟩;exact⟨_,rfl,h.does (L:=a) (ix:=ix) m p.next n⟩
 .obtain⟨c,x,i,o,j,F,t⟩:=v (List.replicate a.ws.length 64)
  rw[<-Qg r.dk]at i;have B:=sf j;simp only[gO,iI]at B;refine(GC _ g a ix _ c x d (A.B h.b) y f r.dk l i o j U).M ?_;rintro e E ⟨rfl,m,n⟩;have s:mn ⟨gB a.bl a.ws,[],(c.length:Int),((fQ c).length:Int),x,true,-1⟩ c:=⟨rfl,rfl,i,rfl,rfl,o,j,by show(-9223372036854775808:Int) <= -1;omega,by show(-1:Int)<=9223372036854775807;omega⟩;exact⟨_,rfl,h.does (L:=a) (ix:=ix) m ⟨i.n3,u,s.dok,.inl ⟨c,s,U,t⟩⟩ n⟩
def HH {g k w W} (h:jv g k w W) {N} (d : -9223372036854775808<=N/\N<=9223372036854775807):Calls prog 29 #[þ (J ⟨g,0,O⟩),G N] W (fun e w'=>e=ŗ (.tuple #[])/\jv g (k+1) w w'):=by
 obtain⟨a,ix,b,c⟩:=h.ex;refine(QW _ g a ix N W b).M ?_;rintro e w' ⟨rfl,f,i⟩;exact⟨rfl,h.does (L:=a) (ix:=ix) f (c.fuse N d).next i⟩
def HF {g k} {w d:β} (n:ϭ w) (H:Ϭ w) (h:jv g k w d) (m:k<=40) (K AK N kd ei em va vn vc sa sn sc) {o:γ} {ks} (x:L o=vn) (E:Rd d (D va vn vc) vn 1 (η o)) (B:L ks=sn) (V:Rd d (D sa sn sc) sn 1 (τ ks)) (z : -9223372036854775808<=N/\N<=9223372036854775807) :
  Calls prog 8 #[þ (J ⟨g,0,O⟩),ā #[G K,G AK,G N,G kd,G ei,G em,D va vn vc,D sa sn sc]] d (sy (jv g (k+1) w)):=by
 subst B;obtain⟨F,T,l⟩:=fO (w:=d) (A:=C #[G K,G AK,G N,G kd,G ei,G em,D va vn vc,D sa (L ks) sc] 37) RZ;have f:=h.B l;have⟨p,j,r,q,s⟩:=lM (HG n H f m) (HJ n f m (kd:=kd) (ei:=ei) (em:=em) x (E.B l)) (HD f (V.B l)) (HK n f m) (HH f z);unfold sy at p j q ⊢;unfold jc at j;obtain⟨⟨c0,c1,c2,M,P,Q,R,S⟩,-,-⟩:=Ϲ F;go_enter func8,ntmps8;go_upto_region 1 with fail
 generalize å d _=I at *;by_cases y:K=4
 .subst y
  go_wp2_with fail
  refine p.o.M ?_;rintro e i ⟨c,rfl,b⟩;have a:=Zx b;go_wp2;go_ret;exact⟨c,rfl,a.o⟩
 .by_cases t:AK=0
  .subst t
   go_wp2_with fail
   refine j.o.M ?_;rintro e i ⟨c,rfl,b⟩;have a:=Zx b;go_wp2;go_ret;exact⟨c,rfl,a.o⟩
  .by_cases u:AK=1
   .subst u
    go_wp2_with fail
    refine r.o.M ?_;rintro e i ⟨rfl,b⟩;have a:=Zx b;go_wp2;go_ret;exact⟨0,rfl,a.o⟩
   .by_cases v:AK=2
    .subst v
     go_wp2_with fail
     refine q.o.M ?_;rintro e i ⟨c,rfl,b⟩;have a:=Zx b;go_wp2;go_ret;exact⟨c,rfl,a.o⟩
    .go_wp2_with fail
     refine s.o.M ?_;rintro e i ⟨rfl,b⟩;have a:=Zx b;go_wp2;go_ret;exact⟨0,rfl,a.o⟩
structure uj where
 K:Int
 AK:Int
 N:Int
 kd:Int
 ei:Int
 em:Int
 d:γ
 so:List Int
def wi (w:β) (v:ε) (b:List uj):Prop:= ∃ c,Rd w v (L b) 8 c/\∀ a (f:a<L b),c[a*8]?=J (G b[a].K)/\c[a*8+1]?=J (G b[a].AK)/\c[a*8+2]?=J (G b[a].N)/\c[a*8+3]?=J (G b[a].kd)/\c[a*8+4]?=J (G b[a].ei)/\c[a*8+5]?=J (G b[a].em)/\(∃ e,c[a*8+6]?=J e/\Rd w e (L b[a].d) 1 (η b[a].d))/\∃ e,c[a*8+7]?=J e/\Rd w e (L b[a].so) 1 (τ b[a].so)
def HB {w la ln lc acts} (h:wi w (D la ln lc) acts) (F:L acts=ln) (k hk):∃ b off c e sa sc,la=J ⟨b,off,O⟩/\ln<=lc/\lc<=9223372036854775807/\b<w.heap.size /\
  w.cell? ⟨b,off+k*8,O⟩=J (G acts[k].K)/\w.cell? ⟨b,off+k*8+1,O⟩=J (G acts[k].AK)/\w.cell? ⟨b,off+k*8+2,O⟩=J (G acts[k].N)/\w.cell? ⟨b,off+k*8+3,O⟩=J (G acts[k].kd)/\w.cell? ⟨b,off+k*8+4,O⟩=J (G acts[k].ei)/\w.cell? ⟨b,off+k*8+5,O⟩=J (G acts[k].em)/\w.cell? ⟨b,off+k*8+6,O⟩=J (D c (L acts[k].d) e)/\w.cell? ⟨b,off+k*8+7,O⟩=J (D sa (L acts[k].so) sc)/\Rd w (D c (L acts[k].d) e) (L acts[k].d) 1 (η acts[k].d)/\Rd w (D sa (L acts[k].so) sc) (L acts[k].so) 1 (τ acts[k].so):=by
 obtain⟨A,⟨B,E,v⟩,u⟩:=h;rcases v with ⟨z,l,g,t⟩|⟨b,off,l,g,t,d,j,f⟩
 .omega
 .simp only[Χ]at g
  obtain⟨rfl,-,rfl⟩:=g;obtain⟨i,m,n,o,p,q,⟨H,r,r6⟩,I,s,r7⟩:=u k hk;obtain⟨c,e,rfl⟩:=sK r6;obtain⟨sa,sc,rfl,-⟩:=ku rfl r7;have a:=fun x y h=>f (k*8+x) y h;simp only[<-iX]at a;unfold maxLen at j;exact⟨b,off,c,e,sa,sc,rfl,U,j,ii w _ (f _ _ i),f _ _ i,a 1 _ m,a 2 _ n,a 3 _ o,a 4 _ p,a 5 _ q,a 6 _ r,a 7 _ s,r6,r7⟩
def Hv (g:Nat) (v:ε):Nat->Prop:=fun b=>b=g\/v.ownBlock=J b
structure mK (g base:Nat) (v:ε) (n:Nat) (vs:List ε) (docs:List (γ)) (W:β):Prop where
 row:W.ownsRow base 31 1 v n vs
 len:L docs=n
 el:Α (Hv g v) W (ml docs vs n)
 own:∀ b,v.ownBlock=J b->b≠g
def mK.oneCh {g base v n vs docs} {a b:β} (h:mK g base v n vs docs a) (c:Ο g a b):mK g base v n vs docs b:=
 ⟨kA h.row fun q d=>c.2.1 q (Ϡ h.row q d).2 (h.own q d),h.len,h.el.oneCh (.inl rfl) c,h.own⟩
def mK.B {g base v n vs docs W W'} (h:mK g base v n vs docs W) (a:BQ W W'):mK g base v n vs docs W':=⟨ψ h.row a,h.len,h.el.B a,h.own⟩
def mK.rd {g base v n vs docs W} (h:mK g base v n vs docs W):Ε W v docs:=
 ⟨vs,by rw[h.len];exact Rd.of_own h.row,fun a hi=>h.el.now a hi (ι h.len)⟩
def mK.push {g base} {v f:ε} {n vs docs} {a i:β} {u:ε} {d:γ} (h:mK g base v n vs docs a) (B:g<a.heap.size) (x:i.ownsRow base 31 1 f (n+1) (vs++[u])) (l:a.grownBy i v.ownBlock) (m:f.ownBlock=v.ownBlock\/f.ownBlock=J a.heap.size) (y:Α (Hv g v) a (fun o=>Rd o u (L d) 1 (η d))):mK g base f (n+1) (vs++[u]) (docs++[d]) i:=by
 have z:L vs=n:=ι h.row.1;refine⟨x,by simp[h.len],?_,?_⟩
 .refine((h.el.and y).step l.size (fun b k h2=>l.block b k (fun e=>h2 (.inr e.symm))) (fun b k h2=>?_)).imp fun o ⟨s,t⟩ j hi A=>?_
  .rcases h2 with h2|h2
   .exact .inl h2
   .rcases m with e|e
    .exact .inr (e ▸ h2)
    .rw[e]at h2;injection h2 with h2;omega
  .rw[σ]at hi
   by_cases hid:j<L docs
   .obtain⟨p,q,r⟩:=s j hid (ι h.len)
    refine⟨p,by rw[je (ι h.len)];exact q,?_⟩;rw[qm hid];exact r
   .have w:j=L docs:=by simp at hi;omega
    subst w;refine⟨u,by rw[hL (ι h.len)];simp[z,h.len],?_⟩;rw[GS NZ];simpa using t
 .intro b c
  rcases m with e|e
  .exact h.own b (e ▸ c)
  .rw[e]at c;injection c with c;omega
def mK.nil (g base W):mK g base (D O 0 0) 0 [] [] W:=⟨gQ W _ _ 1,rfl,fun _ _ c hi=>by simp at hi,fun b a=>by simp[Value.ownBlock]at a⟩
def ia.step {H H' g L ix} {a c:β} (h:ia H g L ix a) (f:a.heap.size<=c.heap.size) (e:∀ b,b<a.heap.size->¬H b->c.heap[b]?=a.heap[b]?) (k:c.heap[g]?=a.heap[g]?) (d:∀ b,b<a.heap.size->H' b->H b) (i:H' g):ia H' g L ix c:=by
 obtain⟨j,q,h⟩:=h;exact⟨j,q,k.trans h.row,h.led.step f e d,h.ix.step f e d,i⟩
def ia.grown {g v v' L ix} {a d:β} (h:ia (Hv g v) g L ix a) (k:g<a.heap.size) (c:a.grownBy d v.ownBlock) (i:∀ b,v.ownBlock=J b->b≠g) (j:v'.ownBlock=v.ownBlock\/v'.ownBlock=J a.heap.size):ia (Hv g v') g L ix d:=
 h.step c.size (fun b f h2=>c.block b f (fun e=>h2 (.inr e.symm))) (c.block g k (fun e=>i g e.symm rfl)) (fun b f h2=>by
  rcases h2 with h2|h2
  .exact .inl h2
  .rcases j with e|e
   .exact .inr (e ▸ h2)
   .rw[e]at h2;injection h2 with h2;omega) (.inl rfl)
def ia.lt {H g L ix} {a:β} (h:ia H g L ix a):g<a.heap.size:=by
 obtain⟨b,q,h⟩:=h;exact ς h.row
structure sB (g base:Nat) (w:β) (k:Nat) (v:ε) (W:β):Prop where
 ex:∃ (n:Nat) (vs:List ε) (L:gR) (es:List Ev) (ix:Ix),mK g base v n vs L.x.1 W/\ia (Hv g v) g L ix W/\mn L es/\es.length<=k/\3<=L.bl.length/\Ϻ ix.1 ix.2 ix.1.length/\ix.1=L.x.1.take ix.1.length/\ix.1.length<=L.x.1.length
 b:BQ w W
def sB.B {g base k w W W' v} (h:sB g base w k v W) (a:BQ W W'):sB g base w k v W':=by
 obtain⟨⟨n,m,b,c,ix,d,e,f,i,j⟩,l⟩:=h;exact⟨⟨n,m,b,c,ix,d.B a,e.B a,f,i,j⟩,l.t a⟩
def sB.next {g base k w W v} (h:sB g base w k v W):sB g base w (k+1) v W:=by
 obtain⟨⟨n,j,a,b,ix,c,d,e,l,f⟩,i⟩:=h;exact⟨⟨n,j,a,b,ix,c,d,e,U,f⟩,i⟩
def BO {w a:β} {b p} {j i k l d e f g:ε} (h:w.cell? ⟨b,p,O⟩=J j/\w.cell? ⟨b,p+1,O⟩=J i/\w.cell? ⟨b,p+2,O⟩=J k/\w.cell? ⟨b,p+3,O⟩=J l/\w.cell? ⟨b,p+4,O⟩=J d/\w.cell? ⟨b,p+5,O⟩=J e/\w.cell? ⟨b,p+6,O⟩=J f/\w.cell? ⟨b,p+7,O⟩=J g) (c:BQ w a):a.cell? ⟨b,p,O⟩=J j/\a.cell? ⟨b,p+1,O⟩=J i/\a.cell? ⟨b,p+2,O⟩=J k/\a.cell? ⟨b,p+3,O⟩=J l/\a.cell? ⟨b,p+4,O⟩=J d/\a.cell? ⟨b,p+5,O⟩=J e/\a.cell? ⟨b,p+6,O⟩=J f/\a.cell? ⟨b,p+7,O⟩=J g:=
 ⟨ζ c h.1,ζ c h.2.1,ζ c h.2.2.1,ζ c h.2.2.2.1,ζ c h.2.2.2.2.1,ζ c h.2.2.2.2.2.1,ζ c h.2.2.2.2.2.2.1,ζ c h.2.2.2.2.2.2.2⟩
def Kj {w:β} {A1 A2 A3 A4} {a:β} (g:a=å (å (å (å w A1) A2) A3) A4):a.heap[w.heap.size]?=J A1/\a.heap[w.heap.size+1]?=J A2/\a.heap[w.heap.size+1+1]?=J A3/\a.heap[w.heap.size+1+1+1]?=J A4/\a.heap.size=w.heap.size+4/\Below w.heap.size w a:=by
 subst g;have h:Below (å (å (å w A1) A2) A3).heap.size (å (å (å w A1) A2) A3) (å (å (å (å w A1) A2) A3) A4):=ġ;obtain⟨c,d,e,-,-,-,f⟩:=oO h;obtain⟨b,-,-⟩:=fO (w:=å (å (å w A1) A2) A3) (A:=A4) RZ;simp only[mh]at b;exact⟨c,d,e,b,ύ,f⟩
def JR (S I) (l k m c d:ε) (i) (w:β) (b:w.heap[S]?=J (C #[l,k,m,G i,c,d] 158 (0,0))) (a:w.heap[I]?=J (C #[G i] 3 (0,0))) :
  Calls prog 81 #[þ (J ⟨S,0,O⟩),þ (J ⟨I,0,O⟩)] w fun e w'=>e=ŗ (.bool true)/\Below w.heap.size w w':=by
 obtain⟨⟨c0,c1,c2,f,g,h⟩,-,-⟩:=go b;obtain⟨j,-,-⟩:=gC a;go_enter func81,ntmps81;go_wp2;go_ret;exact⟨rfl,ρ _ _⟩
def JS (S I) (x2 x3:ε) (da nd dc pa k pc) (Y:List (γ)) (i) (w:β) (q:Ϭ w) (Z:i<L Y) (H:L Y<=64) (A:L Y[i]=nd) (M:nd<=2000) (a:w.heap[S]?=J (C #[G (L Y),š (δ (ϡ Y)),x2,x3,D da nd dc,D pa k pc] 158 (0,0))) (t:w.heap[I]?=J (C #[G i] 3 (0,0)))
  (x:Rd w (D da nd dc) nd 1 (η Y[i])) (y:L (ie (L Y) (Y.map ϴ) i)=k) (B:Rd w (D pa k pc) k 1 (χ (ie (L Y) (Y.map ϴ) i))) :
  Calls prog 82 #[þ (J ⟨S,0,O⟩),þ (J ⟨I,0,O⟩)] w fun e w'=>e=ŗ (.bool true)/\Below w.heap.size w w':=by
 have p:=(qO (L Y) (Y.map ϴ) i).1;rw[hU]at p;have j:=xt (L Y) (Y.map ϴ) i (by simpa using Z) ύ;rw[hU,fX,jP,Ρ Z]at j;have r:=Zx (fun d b=>AM da nd dc _ d A U (x.B b) (q.B b));have l:=Zx (fun d b=>Gm (ϴ Y[i]) i _ _ pa k pc d (iq _) Z U y p (B.B b) (qN _ _ _ (kv _)) (q.B b));have z:Υ (Y.map ϴ)=ϡ Y:=rfl;simp only[Option.map_some,Option.getD_some]at j;rw[j,z]at l;obtain⟨⟨c0,c1,c2,s,m,o⟩,-,-⟩:=go a;obtain⟨g,-,-⟩:=gC t;have F:=Zx a;clear a t x y B p j z q A M;generalize ϴ _=N at *;clear H;generalize ϡ Y=P at *;generalize (L Y)=n at *;go_enter func82,ntmps82;go_upto_region 1 with fail
 have a:Below w.heap.size w w.drew:=RZ.drew;refine ϯ (fun X=>Below w.heap.size w X) 9 ϋ ?_;refine Zf 0 a ?_;refine Zb 1 [2,9] a ?_ (hy:=by intro d b;have R:=ζ b m;go_simp;try with_reducible rfl);refine Zk 3 a ?_ (hy:=by intro d b;have g:=ζ b g;go_simp;try with_reducible rfl);refine Zf 4 a ?_;refine Zf 5 a ?_;refine Zk 6 a ?_ (hy:=by intro d b;have Q:=ζ b c0;go_simp;try with_reducible rfl);refine Zf 7 a ?_;refine Zk 8 a ?_ (hy:=by intro d b;have g:=ζ b g;have T:=ζ b o;go_simp;try with_reducible rfl);refine Κ (fuel:=6) 2 ϋ rfl ?_;intro K f;go_simp;refine(r.o _ a).M ?_;rintro e W ⟨rfl,u⟩;have h:=a.trans u;refine f _ _ h ?_;clear f K;try simp only[Zp]
 refine jF  ϋ ϋ rfl ?_;intro K f;go_simp;refine(l.o _ h).M ?_;rintro e V ⟨rfl,v⟩;refine f _ _ ?_;clear f K;try simp only[Zp]
 have c:=h.t v;refine Zf 10 c ?_;refine Zf 11 c ?_;refine Zf 12 c ?_;refine Zf 13 c ?_;refine Zf 14 c ?_;refine Zd ?_;clear c0 c1 c2 s m o g;obtain⟨⟨c0,c1,c2,s,m,o⟩,-,-⟩:=go (θ F.o c);have E:=Zx c;clear u v a h c r l;go_wp2;go_ret;exact⟨rfl,E.o⟩
def ry (d:γ) (w:β) (e:Ending) (f:β):Prop:= ∃ a c,e=ŗ (.tuple #[D a (L d) c,G 0])/\Hi w.heap.size f (fun b=>Rd b (D a (L d) c) (L d) 1 (η d))/\Below w.heap.size w f
def IJ (a n c) (ď:List (γ)) (ps i) (w:β) (l:Ϭ w) (hi) (ap:L ď<=64) (aw:L (nB ď ps i ď[i] (ie (L ď) (ď.map ϴ) i))=n) (ax:Rd w (D a n c) n 1 (η (nB ď ps i ď[i] (ie (L ď) (ď.map ϴ) i)))) (B:Ϻ ď ps (L ď)) :
  Calls prog 44 #[š (δ (hh ď ps)),G i,D a n c] w (ry ď[i] w):=by
 have aP:=(qO (L ď) (ď.map ϴ) i).2;have R:=B.ld _ (Ψ hi);have v:=(ρ _ w).A NZ (C #[G i] 3);have ay:=φ w (C #[G i] 3);have I:=Zx (NC a n c i _ ď ps _ _ aw (ax.B v) B U R U (qN _ _ _ (kv _)));have X:=Zx (fun a1 ah aH b l f g u=>ze a1 ah aH ď ps b l f g u B);have Y:=Zx (fun M ag aJ aK da dc aC d pc b (l:Ϭ b) f g u an ao=>JS M ag aJ aK da _ dc aC d pc ď i b l hi ap rfl R f g u an ao);have aQ:(δ (hh ď ps)).size=32:=by rw[iG,AH]
 have K:=Zx l;unfold yP at I;unfold ry;generalize ie _ _ i=aR at *;generalize hh ď ps=ai at *;generalize ϡ ď=r at *;generalize fP ď ps=aO at *;generalize ď[i]=a0 at *;generalize (L a0)=nd at *;generalize(L ď:Int)=F at *;generalize (L ps)=E at *;have ak:∀ j b,(callFunc 132 j).run prog b=.ok (.enter 132 j) b:=iW func132 ϋ rfl;have al:∀ j b,(callFunc 81 j).run prog b=.ok (.enter 81 j) b:=iW func81 ϋ rfl;have am:∀ j b,(callFunc 82 j).run prog b=.ok (.enter 82 j) b:=iW func82 ϋ rfl;have p:=Zx (Ν ak (Ν al am));go_enter func44,ntmps44;go_wp2_with fail
 refine I.o.M ?_;rintro e k ⟨s,c1,t,c2,N,S,P,rfl,av,ar,Q⟩;have⟨ab,aa,V,W⟩:=kX av (ar.M v.size) (θ ay Q) (v.t Q);have aB:=ς V.o;go_upto_region 6 with fail
 obtain⟨aA,-,-⟩:=fO (w:=k) (A:=(C #[G F,š (δ r),D s E c1,G i,D t nd c2,D N S P] 158)) RZ;obtain⟨⟨aL,aM,aN,-,-,-⟩,-,-⟩:=go aA;go_wp2_with fail
 refine(zl _ _ _ _ _).M ?_;rintro e aI ⟨rfl,rfl⟩;go_wp2_with fail
 have az:=Kj (w:=k) (A1:=(C #[G F,š (δ r),D s E c1,G i,D t nd c2,D N S P] 158)) (A2:=(C #[G F,š (δ r),D s E c1] 123)) (A3:=(C #[š (δ ai)] 9)) (A4:=(C #[.func (.func 132) #[] #[þ (J ⟨k.heap.size+1,0,O⟩),þ (J ⟨k.heap.size+1+1,0,O⟩)],.func (.func 81) #[] #[þ (J ⟨k.heap.size,0,O⟩),þ (J ⟨w.heap.size,0,O⟩)],.func (.func 82) #[] #[þ (J ⟨k.heap.size,0,O⟩),þ (J ⟨w.heap.size,0,O⟩)]] 24)) rfl;generalize(å (å (å (å k _) _) _) _)=aj at *;obtain⟨rS,aE,aG,aD,aW,x⟩:=az;have aF:=θ V.o x;have aq:=W.o.trans (x.M (mC aB));have au:=aa.o.B x;generalize k.heap.size=M at *;have⟨m,q,ae,af,ad⟩:=lM au rS aE aG aD;have⟨H,o⟩:=ϟ aF aq;have ac:=Zx (zm [(132,#[.pointer _,.pointer _]),(81,#[.pointer _,.pointer _]),(82,#[.pointer _,.pointer _])] _ _ 3 3 aj rfl RZ
  (fun d b h=>xB (θ ad.o h) rfl U ώ)
  (fun d z=>by
   have:d=0\/d=1\/d=2:=by simp at z;omega
   rcases this with rfl|rfl|rfl
   .exact p.o.1
   .exact p.o.2.1
   .exact p.o.2.2)
  (fun d z b h=>by
   have:d=0\/d=1\/d=2:=by simp at z;omega
   rcases this with rfl|rfl|rfl
   .exact(X.o _ _ _ b (K.o.B (o.o.t h)) (θ ae.o h) (θ af.o h) (m.o.B h).now.1).M fun e T ⟨f,g⟩=>⟨f,h.t g⟩
   .exact(JR _ _ _ _ _ _ _ _ b (θ q.o h) (θ H.o h)).M fun e T ⟨f,g⟩=>⟨f,h.t g⟩
   .exact(Y.o _ _ _ _ _ _ _ _ _ b (K.o.B (o.o.t h)) (θ q.o h) (θ H.o h) (m.o.B h).now.2.1 ab.o (m.o.B h).now.2.2).M fun e T ⟨f,g⟩=>⟨f,h.t g⟩))
 refine ac.o.M ?_;rintro e aS ⟨rfl,y⟩;obtain⟨⟨aL,aM,aN,aT,aU,aV⟩,-,-⟩:=go (θ q.o y);have Z:=Zx (Ν ((m.o.B y).imp  fun aI h=>h.2.1) (o.o.t y));go_wp2;go_ret2;exact⟨t,c2,rfl,Z.o⟩
def Oo (a n c) (w:β):Calls prog 43 #[D a n c,G 0] w fun e w'=>e=ŗ (.tuple #[D a n c,G 0])/\w=w':=by
 go_enter func43,ntmps43;go_wp2;go_ret2;exact⟨rfl,rfl⟩
def GB (H g L ix i) (w:β) (I:ϭ w) (s:Ϭ w) (h:ia H g L ix w) (hi:i<ix.1.length) (o:ix.1.length<=64) (b:Ϻ ix.1 ix.2 ix.1.length) :
  Calls prog 19 #[þ (J ⟨g,0,O⟩),G i] w (ry ix.1[i] w):=by
 obtain⟨ab,q,h⟩:=h;have v:=Zx (Nd _ _ _ _ _ _ i w I s h.ix.now.d h.ix.now.s b hi o);have d:=Zx (fun a n c l A (F:(nB _ _ i ix.1[i] (ie ix.1.length _ i)).length=n) (Q:Rd l _ n 1 (η (nB _ _ i ix.1[i] (ie ix.1.length _ i))))=>IJ a n c _ _ i l (s.B A) hi o F Q b);have k:=Zx h.row;unfold ry at d ⊢;obtain⟨⟨c0,c1,c2,V,W,X,Y,Z,m,aa,T,a1⟩,-,P⟩:=jJ h.row;generalize nB _ _ i _ _=R at *;generalize ix.1[i]=a0 at *;obtain⟨S,z⟩:∃ r,hh ix.1 ix.2=r:=⟨_,rfl⟩;rw[z]at d k m;go_enter func19,ntmps19;go_wp2_with fail
 refine v.o.M ?_;rintro e N ⟨x,M,b,rfl,p,f⟩;have⟨t,j⟩:=ϟ (d.o x M b N f p.1 p.rd) f;obtain⟨⟨-,-,-,-,-,-,-,-,m,-,-,-⟩,-,P⟩:=jJ (θ k.o f);go_wp2_with fail
 refine t.o.M ?_;rintro e ac ⟨y,K,rfl,E,B⟩;have u:=Zx (Ν (E.M j.o.size) (j.o.t B));go_wp2_with fail
 refine(Oo _ _ _ _).M ?_;rintro e ad ⟨rfl,rfl⟩;go_wp2;go_ret2;exact⟨y,K,rfl,u.o⟩
section
open Go.ChangeShapes Go.WideShapes Go.RowKit Go.Deep
def Iz:prog.cellsOf 5=1:=ϋ
def nS:prog.cellsOf 3=1:=ϋ
def Cs:prog.cellsOf 37=8:=ϋ
section
variable {H:Type} {enc:TypeId×ε->H} {w:β}
def wf_i64 {n} (h:(Lit.int .i64 n).wf=true) : -9223372036854775808<=n/\n<=9223372036854775807:=by
 simp only[Lit.wf,gt,hP]at h;have a:IntKind.i64.min = -9223372036854775808:=ϐ;have b:IntKind.i64.max=9223372036854775807:=ϐ;omega
def QI {n} (h:(Lit.int .u8 n).wf=true):0<=n/\n<256:=by
 simp only[Lit.wf,gt,hP]at h;have a:IntKind.u8.min=0:=ϐ;have b:IntKind.u8.max=255:=ϐ;omega
def wy (b off j):(⟨b,off,O⟩:Addr).add j=⟨b,off+j,O⟩:=by unfold Addr.add;split<;>simp_all
def Nu {t:Nat} {v:ε} {y:DataW H×List MemPlace} (h:DataW.trod enc prog w 0 (fun _=>true) true t 23 [v]=J y):∃ l:List Int,Rd w v (L l) 1 (τ l):=by
 rcases open_ints gl nl nS h with ⟨a,_⟩|⟨x,ln,c,e,a,_,m,n,o,_,g,q⟩
 .simp at a
  subst a;exact⟨[],rfl,Ζ _,.inl ⟨_,_,rfl,rfl⟩⟩
 .simp at a
  subst a;simp only[if_true]at o;have i:L (e.take ln)=ln:=ό;refine⟨e.take ln,?_⟩;rw[i];refine⟨by rw[zU,i];omega,U,?_⟩;rcases nK ln with h0|h0
  .subst h0;exact .inl ⟨_,_,rfl,rfl⟩
  .have j:x.spot=O:=by
    have:=World.cell?_spot (g 0 U);simpa[Addr.add] using this
   obtain⟨b,off,r⟩:=x;simp only at j;subst j;refine .inr ⟨b,off,c,rfl,h0,m,n,fun d s k=>?_⟩;have hi:d<ln:=by
    have:=(lK.1 k).1;simp[τ]at this;omega
   have f:=g d U;rw[wy]at f;rw[f,<-k];have p:d<L e:=U;simp only[τ,jP,iH];rw[μ hi];simp[Ρ p]
def Nt {u:Nat} {v:ε} {y:DataW H×List MemPlace} (h:DataW.trod enc prog w 0 (fun _=>true) true u 31 [v]=J y):∃ l:γ,Rd w v (L l) 1 (η l):=by
 rcases open_ints gv mA Iz h with ⟨a,_⟩|⟨x,ln,c,f,a,_,n,o,q,_,i,p⟩
 .simp at a
  subst a;exact⟨[],rfl,Ζ _,.inl ⟨_,_,rfl,rfl⟩⟩
 .simp at a
  subst a;simp only[if_true]at q;refine⟨(f.take ln).map u8,?_⟩;have d:L ((f.take ln).map u8)=ln:=ό;rw[d];refine⟨by rw[oA,d];omega,U,?_⟩;rcases nK ln with h0|h0
  .subst h0;exact .inl ⟨_,_,rfl,rfl⟩
  .have j:x.spot=O:=by
    have:=World.cell?_spot (i 0 U);simpa[Addr.add] using this
   obtain⟨b,off,s⟩:=x;simp only at j;subst j;refine .inr ⟨b,off,c,rfl,h0,n,o,fun e t k=>?_⟩;have hi:e<ln:=by
    have:=(lK.1 k).1;rw[oA,d]at this;exact this
   have g:=i e U;rw[wy]at g;rw[g,<-k];have m:e<L f:=U;have r:=QI (p _ (Ψ m));simp only[η,jP,iH];rw[μ hi];simp[Ρ m];rw[gs _ U U]
def Io:prog.cellsOf 35=7:=ϋ
def Ir:prog.cellsOf 33=4:=ϋ
def Iq:prog.cellsOf 31=1:=ϋ
def Is:prog.cellsOf 23=1:=ϋ
def sX {d:Nat} {v:ε} {y:Option (DataW H×List MemPlace)} (h:DataW.trod enc prog w 0 (fun _=>true) true d 3 [v]=y) (e:y.isSome=true):∃ z:Int,v=.int .i64 z /\ -9223372036854775808<=z/\z<=9223372036854775807:=by
 obtain⟨x,b⟩:=we.1 e;rw[b]at h;obtain⟨z,c,_,a⟩:=DataW.trod_int nl h;exact⟨z,by simpa using c,wf_i64 a⟩
theorem pl {b:Type} {a:List b} {n i} (h:L a=n) (c:i<n):a[i]?.isSome=true:=by rw[Ρ U];rfl
instance:Inhabited uj:=⟨⟨0,0,0,0,0,0,[],[]⟩⟩
def Mh {Y:Nat} {l:List ε} {y:DataW H×List MemPlace} (h:DataW.trod enc prog w 0 (fun _=>true) true Y 37 l=J y) :
  ∃ (a:uj) (x z:ε),l=[.int .i64 a.K,.int .i64 a.AK,.int .i64 a.N,.int .i64 a.kd,.int .i64 a.ei,.int .i64 a.em,x,z]/\Rd w x (L a.d) 1 (η a.d)/\Rd w z (L a.so) 1 (τ a.so) /\ -9223372036854775808<=a.N/\a.N<=9223372036854775807:=by
 obtain⟨P,n,_,_,t,u,hg⟩:=DataW.trod_struct underlying37 h;rw[Cs]at t
 match l,t with
 |[a0,a1,a2,a3,a4,a5,a6,a7],_ =>
  have q:=hg 0 _ rfl;have c:=hg 1 _ rfl;change DataW.trod _ _ _ _ _ _ _ 3 (List.take (prog.cellsOf 3) (List.drop 0 _))=_ at q;rw[nS]at q;change DataW.trod _ _ _ _ _ _ _ 35 (List.take (prog.cellsOf 35) (List.drop 1 _))=_ at c;rw[Io]at c;obtain⟨S,E⟩:=we.1 (pl u (ϐ:1<_));rw[E]at c;obtain⟨Q,v,_,_,_,g,e⟩:=DataW.trod_struct underlying35 c;have r:=e 0 _ rfl;have s:=e 1 _ rfl;have j:=e 2 _ rfl;have k:=e 3 _ rfl;change DataW.trod _ _ _ _ _ _ _ 3 (List.take (prog.cellsOf 3) (List.drop 0 _))=_ at r;rw[nS]at r;change DataW.trod _ _ _ _ _ _ _ 3 (List.take (prog.cellsOf 3) (List.drop 1 _))=_ at s;rw[nS]at s;change DataW.trod _ _ _ _ _ _ _ 33 (List.take (prog.cellsOf 33) (List.drop 2 _))=_ at j;rw[Ir]at j;change DataW.trod _ _ _ _ _ _ _ 23 (List.take (prog.cellsOf 23) (List.drop 6 _))=_ at k;rw[Is]at k;obtain⟨T,F⟩:=we.1 (pl g (ϐ:2<_));rw[F]at j;obtain⟨R,n3,_,_,_,i,f⟩:=DataW.trod_struct underlying33 j;have m:=f 0 _ rfl;have o:=f 1 _ rfl;have p:=f 2 _ rfl;have b:=f 3 _ rfl;change DataW.trod _ _ _ _ _ _ _ 3 (List.take (prog.cellsOf 3) (List.drop 0 _))=_ at m;rw[nS]at m;change DataW.trod _ _ _ _ _ _ _ 3 (List.take (prog.cellsOf 3) (List.drop 1 _))=_ at o;rw[nS]at o;change DataW.trod _ _ _ _ _ _ _ 3 (List.take (prog.cellsOf 3) (List.drop 2 _))=_ at p;rw[nS]at p;change DataW.trod _ _ _ _ _ _ _ 31 (List.take (prog.cellsOf 31) (List.drop 3 _))=_ at b;rw[Iq]at b;obtain⟨K,rfl,-,-⟩:=sX q (pl u ϐ);obtain⟨AK,rfl,-,-⟩:=sX r (pl g ϐ);obtain⟨N,rfl,M,v⟩:=sX s (pl g ϐ);obtain⟨kd,rfl,-,-⟩:=sX m (pl i ϐ);obtain⟨ei,rfl,-,-⟩:=sX o (pl i ϐ);obtain⟨em,rfl,-,-⟩:=sX p (pl i ϐ);obtain⟨W,X⟩:=we.1 (pl i (ϐ:3<_));rw[X]at b;obtain⟨d,A⟩:=Nt b;obtain⟨V,I⟩:=we.1 (pl g (ϐ:3<_));rw[I]at k;obtain⟨so,B⟩:=Nu k;exact⟨⟨K,AK,N,kd,ei,em,d,so⟩,a6,a7,rfl,A,B,M,v⟩
def open_acts {F:Option Addr} {ď a0:Nat} {d:DataW H} {p:List MemPlace} (h:DataW.Trod enc prog w 0 (fun _=>true) true 22 (.slice F ď a0) d p) :
  ∃ l:List uj,L l=ď/\wi w (.slice F ď a0) l/\∀ k (g:k<L l),-9223372036854775808<=l[k].N/\l[k].N<=9223372036854775807:=by
 obtain⟨ah,I⟩:=h;simp only[Value.cells]at I;rcases open_slice underlying22 I with ⟨f,_⟩|⟨a,ln,c,R,n,ae,af,f,_,X,Y,K,_,Q⟩
 .simp at f
  obtain⟨rfl,rfl,rfl⟩:=f;exact⟨[],rfl,⟨[],⟨rfl,Ζ _,.inl ⟨_,_,rfl,rfl⟩⟩,fun k g=>by simp at g⟩,fun k g=>by simp at g⟩
 .simp at f
  obtain⟨rfl,rfl,rfl⟩:=f;simp only[if_true]at K;subst K;rw[Cs]at Q;have aa:∀ e,e<R->∃ q:uj,∃ m o,(w.cell? (a.add (e*8))=J (.int .i64 q.K)/\w.cell? (a.add (e*8+1))=J (.int .i64 q.AK)/\w.cell? (a.add (e*8+2))=J (.int .i64 q.N)/\w.cell? (a.add (e*8+3))=J (.int .i64 q.kd)/\w.cell? (a.add (e*8+4))=J (.int .i64 q.ei)/\w.cell? (a.add (e*8+5))=J (.int .i64 q.em)/\w.cell? (a.add (e*8+6))=J m/\w.cell? (a.add (e*8+7))=J o)/\Rd w m (L q.d) 1 (η q.d)/\Rd w o (L q.so) 1 (τ q.so) /\ -9223372036854775808<=q.N/\q.N<=9223372036854775807:=by
   intro e hi;obtain⟨ag,z,E⟩:=Q e hi;obtain⟨_,j,T⟩:=World.cells?_some z;obtain⟨q,m,o,rfl,r1,r2,ab,ac⟩:=Mh E;have i:=fun Z W=>T Z W;refine⟨q,m,o,⟨?_,?_,?_,?_,?_,?_,?_,?_⟩,r1,r2,ab,ac⟩
   .have:=i 0 U;rw[add_add]at this;simpa using this
   .have:=i 1 U;rw[add_add]at this;simpa using this
   .have:=i 2 U;rw[add_add]at this;simpa using this
   .have:=i 3 U;rw[add_add]at this;simpa using this
   .have:=i 4 U;rw[add_add]at this;simpa using this
   .have:=i 5 U;rw[add_add]at this;simpa using this
   .have:=i 6 U;rw[add_add]at this;simpa using this
   .have:=i 7 U;rw[add_add]at this;simpa using this
  obtain⟨q,A⟩:=choose_lt aa;have j:L ((List.range ď).map q)=ď:=ύ;have S:∀ k (g:k<L ((List.range ď).map q)),-9223372036854775808<=((List.range ď).map q)[k].N/\((List.range ď).map q)[k].N<=9223372036854775807:=fun k g=>by
   rw[j]at g;obtain⟨_,_,_,_,_,z,E⟩:=A k U;simp only[vV,yp];exact⟨z,E⟩
  refine⟨ _,j,?_,S⟩;rcases nK ď with h0|h0
  .subst h0
   exact⟨[],⟨rfl,Ζ _,.inl ⟨_,_,rfl,rfl⟩⟩,fun k g=>by simp at g⟩
  .have M:a.spot=O:=by
    obtain⟨_,_,⟨z,_⟩,_⟩:=A 0 U;have:=World.cell?_spot z;simpa[Addr.add] using this
   obtain⟨b,off,aj⟩:=a;simp only at M;subst M;have N:∀ e,e<ď*8->∃ s,w.cell? ⟨b,off+e,O⟩=J s:=by
    intro e hi;obtain⟨m,o,⟨c0,c1,c2,t,u,v,x,y⟩,_⟩:=A (e / 8) U;simp only[wy]at c0 c1 c2 t u v x y;have ai:e % 8<8:=lI _ U;have V:e=e / 8*8+e % 8:=U;rw[V];generalize e % 8=r at *;have:r=0\/r=1\/r=2\/r=3\/r=4\/r=5\/r=6\/r=7:=U;rcases this with rfl|rfl|rfl|rfl|rfl|rfl|rfl|rfl
    .exact⟨_,c0⟩
    .exact⟨_,c1⟩
    .exact⟨_,c2⟩
    .exact⟨_,t⟩
    .exact⟨_,u⟩
    .exact⟨_,v⟩
    .exact⟨_,x⟩
    .exact⟨_,y⟩
   have f:∀ e s,e<ď*8->w.cell? ⟨b,off+e,O⟩=J s->((List.range (ď*8)).map fun e=>(w.cell? ⟨b,off+e,O⟩).getD (.bool false))[e]?=J s:=by
    intro e s hi B;rw[jP,List.getElem?_range hi];simp[B]
   refine⟨(List.range (ď*8)).map fun e=>(w.cell? ⟨b,off+e,O⟩).getD (.bool false),⟨ύ,by rw[j];omega,.inr ⟨b,off,R,by rw[j],by rw[j];exact h0,by rw[j];exact X,Y,fun e s B=>?_⟩⟩,fun k g=>?_⟩
   .have hi:e<ď*8:=by
     have:=(lK.1 B).1;simpa using this
    obtain⟨ad,P⟩:=N e hi;have:=(f e ad hi P).symm.trans B;rw[P,lq this]
   .rw[j]at g
    obtain⟨m,o,⟨c0,c1,c2,t,u,v,x,y⟩,r1,r2,_⟩:=A k U;simp only[wy]at c0 c1 c2 t u v x y;simp only[vV,yp];exact⟨f _ _ U c0,f _ _ U c1,f _ _ U c2,f _ _ U t,f _ _ U u,f _ _ U v,⟨m,f _ _ U x,r1⟩,o,f _ _ U y,r2⟩
def open_i64 {r:Reach} {g:Nat} {v:ε} {d:DataW H} {f:List MemPlace} (c:Value.okWide prog w r g 3 v) (b:DataW.Trod enc prog w 0 (fun _=>true) true 3 v d f):∃ z:Int,v=.int .i64 z:=by
 obtain⟨n,a,_,_,e⟩:=open_int nl c b;exact⟨n,a⟩
end
end
section
open Go.ChangeShapes Go.WideShapes Go.RowKit
section
variable {H:Type} {enc:TypeId×ε->H} {P:Program} {w:β} {base:Nat} {sp:Nat->Bool} {held:Bool}
def ID {t:TypeId} {a:Array Field} {K:Nat} {c:List ε} {p:List MemPlace} {k:IntKind} {M:List Int} (s:P.underlying t=J (.struct a))
  (q:∀ (j:Nat) (f:Field),a[j]?=J f->P.underlying f.type=J (.int k)/\P.cellsOf f.type=1/\f.offset=j) (B:P.cellsOf t=a.size)
  (h:DataW.trod enc P w base sp held K t c=J (.agg (M.map fun z=>.lit (.int k z)),p)):c=M.map fun z=>Value.int k z:=by
 obtain⟨i,n,_,v,A,E,hg⟩:=DataW.trod_struct s h;have g:i.map (·.1)=M.map fun z=>(DataW.lit (.int k z):DataW H):=by
  have:=jp Prod.fst v;simpa using this.symm
 have F:L M=a.size:=by
  have:=jp List.length g;simp at this;omega
 apply List.ext_getElem?;intro b;by_cases hi:b<a.size
 .obtain⟨u,m,r⟩:=q b _ (Array.getElem?_eq_getElem hi)
  have e:=hg b _ (Array.getElem?_eq_getElem hi);rw[m,r,Ρ U]at e;obtain⟨z,x,o,_⟩:=DataW.trod_int u e;have l:c[b]?=J (.int k z):=by
   have:=jp (·[0]?) x;simpa[iH,jr] using this
  have d:(i.map (·.1))[b]?=J (DataW.lit (.int k z):DataW H):=by
   rw[jP,Ρ U,o];rfl
  rw[g]at d;simp only[jP,Option.map_eq_some_iff,DataW.lit.injEq,Lit.int.injEq,ϵ]at d;obtain⟨I,y,rfl⟩:=d;simp[l,y]
 .rw[ls U,ls ό]
def IG {l j:Type} (g m):∀ (a:List j) (b:List l),L b=L a*m->(∀ i (k:i<L a),(b.drop (i*m)).take m=g a[i])->b=a.flatMap g:=by
 intro a;induction a with
 |nil=>intro b c _;simp at c;simp[c]
 |cons z a h =>
  intro b c e;have d:=e 0 ύ;simp only[rj,List.drop_zero,oU]at d;have f:=h (b.drop m) (by rw[fT,c,ϥ,Nat.succ_mul];omega) (fun i k=>by
   have:=e (i+1) ό
   rw[qt,show m+i*m=(i+1)*m from by rw[Nat.succ_mul];omega]
   simpa using this)
  rw[lF,<-d,<-f,pG]
def Cx {t e:TypeId} {N:Nat} {a:Array Field} {E:Nat} {d:List ε} {p:List MemPlace} {k:IntKind} {b:List (List Int)} (v:P.underlying t=J (.array N e)) (r:P.underlying e=J (.struct a))
  (s:∀ (j:Nat) (f:Field),a[j]?=J f->P.underlying f.type=J (.int k)/\P.cellsOf f.type=1/\f.offset=j) (m:P.cellsOf e=a.size) (q:P.cellsOf t=N*a.size)
  (h:DataW.trod enc P w base sp held E t d=J (.agg (b.map fun zs=>.agg (zs.map fun z=>.lit (.int k z))),p)):d=b.flatMap fun zs=>zs.map fun z=>Value.int k z:=by
 obtain⟨i,A,_,x,u,B,hg⟩:=DataW.trod_array v h;have n:i.map (·.1)=b.map fun zs=>(DataW.agg (zs.map fun z=>.lit (.int k z)):DataW H):=by
  have:=jp Prod.fst x;simpa using this.symm
 have y:L b=N:=by
  have:=jp List.length n;simp at this;omega
 refine IG _ a.size b d (by rw[u,q,y]) (fun c hi=>?_);have l:=hg c U;rw[m,Ρ U]at l;have g:(i.map (·.1))[c]?=J (DataW.agg (b[c].map fun z=>.lit (.int k z)):DataW H):=by
  rw[n,jP,Ρ hi];rfl
 rw[jP,Ρ U]at g;simp only[Option.map_some,Φ]at g;have o:DataW.trod enc P w base sp held A e ((d.drop (c*a.size)).take a.size)=J (.agg (b[c].map fun z=>.lit (.int k z)),(i[c]' U).2):=by rw[l,<-g]
 exact ID r s m o
def Cw {t e:TypeId} {N:Nat} {B:Nat} {b:List ε} {p:List MemPlace} {k:IntKind} {zs:List Int} (n:P.underlying t=J (.array N e)) (l:P.underlying e=J (.int k)) (j:P.cellsOf e=1) (s:P.cellsOf t=N)
  (h:DataW.trod enc P w base sp held B t b=J (.agg (zs.map fun z=>.lit (.int k z)),p)):b=zs.map fun z=>Value.int k z:=by
 obtain⟨g,y,_,o,u,v,hg⟩:=DataW.trod_array n h;have f:g.map (·.1)=zs.map fun z=>(DataW.lit (.int k z):DataW H):=by
  have:=jp Prod.fst o;simpa using this.symm
 have x:L zs=N:=by
  have:=jp List.length f;simp at this;omega
 apply List.ext_getElem?;intro a;by_cases hi:a<N
 .have d:=hg a hi
  rw[j,Ρ U,oR]at d;obtain⟨z,q,m,_⟩:=DataW.trod_int l d;have i:b[a]?=J (.int k z):=by
   have:=jp (·[0]?) q;simpa[iH,jr] using this
  have c:(g.map (·.1))[a]?=J (DataW.lit (.int k z):DataW H):=by
   rw[jP,Ρ U,m];rfl
  rw[f]at c;simp only[jP,Option.map_eq_some_iff,DataW.lit.injEq,Lit.int.injEq,ϵ]at c;obtain⟨A,r,rfl⟩:=c;simp[i,r]
 .rw[ls U,ls ό]
end
def HY:List Int:=[1779033703,3144134277,1013904242,2773480762,1359893119,2600822924,528734635,1541459225]
def Lw:List (List Int):=[[65,90],[97,122],[192,214],[216,246],[248,255],[913,929],[931,937],[945,969],[1024,1119]]
def PI:List (List Int):=[[65,90,32],[192,214,32],[216,222,32],[913,929,32],[931,937,32],[1024,1039,80],[1040,1071,32]]
def Dt:prog.globalNamed "rubrick/utf.letters" =J 0:=ϋ
def Ds:prog.globalNamed "rubrick/sha.begin" =J 1:=ϋ
def Du:prog.globalNamed "rubrick/sha.rounds" =J 4:=ϋ
def Kk:(prog.globals[1]?).map (·.type)=J 315:=ϋ
def Km:(prog.globals[4]?).map (·.type)=J 418:=ϋ
def Ct:prog.cellsOf 314=1:=ϋ
def Ip:prog.cellsOf 315=8:=ϋ
def It:prog.cellsOf 418=64:=ϋ
def Dv:prog.globalNamed "rubrick/utf.shifts" =J 3:=ϋ
def Kl:(prog.globals[0]?).map (·.type)=J 334:=ϋ
def Kn:(prog.globals[3]?).map (·.type)=J 417:=ϋ
def Iw:prog.cellsOf 333=2:=ϋ
def Iu:prog.cellsOf 416=3:=ϋ
def Iy:prog.cellsOf 334=9*2:=ϋ
def Iv:prog.cellsOf 417=7*3:=ϋ
def xb {P} {b:β} {n g} {d:Array ε} (f:P.globalNamed n=J g) (h:b.var? P n=J d):∃ t a,b.heap[g]?=J (C d t a):=by
 simp only[World.var?,f,tV]at h;split at h
 .rename_i c t a e
  cases h;exact⟨t,a,e⟩
 .cases h
def tabs_of_laid {b:β} (h:laidMet prog [("rubrick/sha.begin",Rows.laid_rubrick_sha_begin),("rubrick/sha.rounds",Rows.laid_rubrick_sha_rounds),("rubrick/utf.letters",Rows.laid_rubrick_utf_letters),("rubrick/utf.shifts",Rows.laid_rubrick_utf_shifts)] b):ϭ b/\Ϭ b:=by
 obtain⟨Y,⟨w,af,g,f3,W,ab,A,H,N,u,⟨V,ag,i,R,X,ac,B,I,Q,v,⟨S,ad,c,f1,p1,Z,x,E,K,s,⟨T,ae,d,f2,p2,aa,y,F,M,t,_,_⟩,_⟩,_⟩,_⟩,_⟩:=h;obtain rfl:=lq (Ds.symm.trans A);obtain rfl:=lq (Du.symm.trans B);obtain rfl:=lq (Kk.symm.trans H);obtain rfl:=lq (Km.symm.trans I);obtain rfl:=lq (Dt.symm.trans x);obtain rfl:=lq (Dv.symm.trans y);obtain rfl:=lq (Kl.symm.trans E);obtain rfl:=lq (Kn.symm.trans F);have o:c.toList=Lw.flatMap fun e=>e.map fun z=>Value.int .i64 z:=
  Cx   underlying334 underlying333 (by
   intro j f a
   match j,a with
   |0,a=>simp at a;subst a;exact⟨nl,nS,rfl⟩
   |1,a=>simp at a;subst a;exact⟨nl,nS,rfl⟩
   |j+2,a=>simp at a) Iw Iy s
 have p:d.toList=PI.flatMap fun e=>e.map fun z=>Value.int .i64 z:=
  Cx   underlying417 underlying416 (by
   intro j f a
   match j,a with
   |0,a=>simp at a;subst a;exact⟨nl,nS,rfl⟩
   |1,a=>simp at a;subst a;exact⟨nl,nS,rfl⟩
   |2,a=>simp at a;subst a;exact⟨nl,nS,rfl⟩
   |j+3,a=>simp at a) Iu Iv t
 have q:=Cw  (zs:=HY) underlying315 underlying314 Ct Ip u;have r:=Cw  (zs:=sj) underlying418 underlying314 Ct It v;have m:g=xR:=by rw[<-yu (xs:=g),q];rfl
 have n:i=pv:=by rw[<-yu (xs:=i),r];rfl
 subst m;subst n;have k:c=uZ:=by rw[<-yu (xs:=c),o];rfl
 have l:d=vG:=by rw[<-yu (xs:=d),p];rfl
 subst k;subst l;exact⟨⟨xb Dt K,xb Dv M⟩,⟨xb Ds N,xb Du Q⟩⟩
def xP (a:Array ε):Obj->Obj
 |C _ t frozen=>C a t frozen
 |o=>o
noncomputable def laidWorld (a:Os):β:=
 {World.holding prog a ⟨#[],#[],[]⟩with heap:=((((World.holding prog a ⟨#[],#[],[]⟩).heap.modify 1 (xP xR)).modify 4 (xP pv)).modify 0 (xP uZ)).modify 3 (xP vG)}
end
