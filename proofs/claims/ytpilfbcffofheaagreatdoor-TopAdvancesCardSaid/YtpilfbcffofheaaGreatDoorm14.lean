/- Part 14 of the proof. -/
import Derived.Test.YtpilfbcffofheaaGreatDoorm09
import Derived.Test.YtpilfbcffofheaaGreatDoorm11
import Derived.Test.YtpilfbcffofheaaGreatDoormS
set_option linter.all false
set_option maxRecDepth 100000
set_option maxHeartbeats 16000000
namespace Go.Proofs.YtpilfbcffofheaaGreatDoor
open Go.RowKit Go.Proofs.Tryz Go.Sort
open Value renaming slice->D,agg->ā,string->š
open Option renaming none->O,some->J
open List renaming length->L
open Obj renaming cells->C
open Ending renaming returned->ŗ
open World renaming alloc->å,setCell->ŝ
def CK (ao n cp p) (w:β) (c:p<=n) :
  Calls prog 206 #[ā #[D ao n cp,G p,G 0]] w fun e w'=>e=ŗ (.bool true)/\BQ w w':=by
 have a:(0:Int)<=(p:Int):=U;have b:(p:Int)<=(n:Int):=U;go_enter func206,ntmps206;go_wp2;go_ret;exact⟨by first|rfl|simp[a,b],ġ⟩
def Hu (w e:β) (n p:Nat) (b:γ) (r:ε):Prop:= ∃ a c,r=ā #[D a n c,G p,G 0]/\Hi w.heap.size e (fun d=>Rd d (D a n c) n 1 (η b))
def Hy (n p:Nat) (a:γ) (w:β) (e:Ending) (b:β):Prop:= ∃ r,e=ŗ r/\Hu w b n p a r/\Below w.heap.size w b
def wL (ao n cp p) (g:γ) (w:β) (Z:p<=n) (m:L g=n) (a0:n<=1000000000) (V:Rd w (D ao n cp) n 1 (η g)) :
  Calls prog 248 #[ā #[D ao n cp,G p,G 0]] w (Hy n p g w):=by
 have t:=Zh (fun h (N:BQ w h)=>zp ao n cp g h m U (V.B N));have x:=Zh (fun a c h=>CK a n c p h Z);have y:=Zh m;go_enter func248,ntmps248;go_wp2_with fail
 have Q:BQ w (å (å w (C #[D ao n cp,G p,G 0] 211)) (C #[D O 0 0,G 0,G 0] 211)):=ġ.A ύ _;refine(t.o _ Q).M ?_;rintro e j ⟨d,f,c1,rfl,o,R⟩;obtain rfl:f=n:=o.1.symm.trans y.o;obtain⟨q,r,aa,ab,T⟩:=fZ R;obtain⟨⟨c0,H,c2⟩,⟨K,f1,f2⟩,-⟩:=Β q;obtain⟨⟨I,d1,d2⟩,⟨M,k,l⟩,-⟩:=Β r;have⟨z,B,E⟩:=ϲ o q r;go_wp2_with fail
 have W:(ŝ j ⟨w.heap.size,0,O⟩ (D d f c1)).heap[w.heap.size]?=J (C #[D d f c1,G p,G 0] 211 (0,0)):=υ _ _ 0 _ _ _ B.o;have X:=(Γ j ⟨w.heap.size,0,O⟩ _ (D d f c1) ύ).trans E.o;have S:BQ w (ŝ j ⟨w.heap.size,0,O⟩ (D d f c1)):=T.S NZ _;have a1:=Zh (z.o.hi.set (p:=⟨w.heap.size,0,O⟩) ϓ (D d f c1));generalize ŝ j _ _=A at *;refine(x.o d c1 A).M ?_;rintro e Y ⟨rfl,i⟩;have r0:=θ W i;have r1:=θ X i;obtain⟨⟨c0,H,c2⟩,⟨K,f1,f2⟩,-⟩:=Β r0;obtain⟨⟨I,d1,d2⟩,⟨M,k,l⟩,-⟩:=Β r1;have⟨F,s⟩:=π (jz r1 (D d f c1) (G p) (G 0)) (kY (S.t i) (gu _ 1) (D d f c1) (G p) (G 0));have v:=Zh (fun b P=>kN Y (w.heap.size+1) b P (D d f c1) (G p) (G 0));have u:=Zh (a1.o.B i);go_wp2;refine Ω  (jf   rfl _ _ _ _ _ _ _ rfl F.o qj rfl ϋ) rfl ⟨_,rfl,⟨d,c1,rfl,?_⟩,s.o⟩;refine Hi.M (u.o.step ύ fun b k l=>v.o b ?_) ϓ;simp only[mh]at k;omega
def yT (n p:Nat) (b:γ) (v:ε) (w:β) (e:Ending) (f:β):Prop:= ∃ a c,e=ŗ (.tuple #[ā #[D a n c,G p,G 0],v])/\Hi w.heap.size f (fun d=>Rd d (D a n c) n 1 (η b))/\Below w.heap.size w f
def lU {lo} {w:β} {R:β->Prop} (h:Hi lo w R) {g} (a:g<lo) (x y z:ε):Hi lo (ŝ (ŝ (ŝ w ⟨g,0,O⟩ x) ⟨g,1,O⟩ y) ⟨g,2,O⟩ z) R:=((h.set a x).set a y).set a z
def rM (j:Option Addr) (n k p:Nat) (f pre ď:γ) (i:Nat) (w:β) (t:f=pre++(ο i++ď)) (R:i<=4611686018427387904) (Y:L pre=p) (l:L f=n) (y:n<=1000000000) (aa:Rd w (D j n k) n 1 (η f)) :
  Calls prog 189 #[ā #[D j n k,G p,G 0]] w (yT n (p+L (ο i)) f (G i) w):=by
 have Z:p<=n:=by rw[<-l,t];simp;omega
 have I:=Zh (fun(a:Option Addr) (c:Nat) h (q:Rd h (D a n c) n 1 (η f))=>CJ a n c p f pre ď i h t Y l y q R);have P:=Zh (fun h (S:BQ w h)=>wL j n k p f h Z l y (aa.B S));clear l;go_enter func189,ntmps189;go_wp2_with fail
 have T:BQ w (å (å w (C #[D j n k,G p,G 0] 211)) (C #[D O 0 0,G 0,G 0] 211)):=ġ.A ύ _;refine(P.o _ T).M ?_;rintro e E ⟨_,rfl,⟨b,c1,rfl,X⟩,a1⟩;obtain⟨z,ab,ap,aq,W⟩:=fZ a1;obtain⟨⟨ak,al,am⟩,⟨ag,f1,f2⟩,-⟩:=Β z;have A:=jz z (D b n c1) (G p) (G 0);have B:=(kN E w.heap.size (w.heap.size+1) U (D b n c1) (G p) (G 0)).trans ab;have x:=kY W NZ (D b n c1) (G p) (G 0);have⟨r,Q,s,a0⟩:=hV (lU X (g:=w.heap.size) ϓ (D b n c1) (G p) (G 0)) A B x;clear A B x;have H:=Zh (fun h (q:Rd h (D b n c1) n 1 (η f))=>I.o b c1 h q);go_wp2_with fail
 generalize ŝ (ŝ (ŝ E ⟨w.heap.size,0,O⟩ (D b n c1)) ⟨w.heap.size,1,O⟩ (G p)) ⟨w.heap.size,2,O⟩ (G 0)=m at *;refine(H.o m r.o.now).M ?_;rintro e ao ⟨rfl,rfl⟩;obtain⟨d,o⟩:∃ d,d=p+L (ο i):=⟨_,rfl⟩;rw[<-o];have M:=Zh o.symm;clear o;obtain⟨⟨an,l1,l2⟩,⟨ah,ai,aj⟩,-⟩:=Β Q.o;obtain⟨⟨ac,d1,d2⟩,⟨ad,ae,af⟩,-⟩:=Β s.o;have r1:=(Γ m ⟨w.heap.size,1,O⟩ (w.heap.size+1) (G ((d:Nat):Int)) ύ).trans s.o;have V:BQ w (ŝ m ⟨w.heap.size,1,O⟩ (G ((d:Nat):Int))):=a0.o.S NZ _;have⟨N,F,K⟩:=ϲ (jz r1 (D b n c1) (G ((d:Nat):Int)) (G 0)) (kY V (gu _ 1) (D b n c1) (G ((d:Nat):Int)) (G 0)) (lU (r.o.set (p:=⟨w.heap.size,1,O⟩) ϓ (G ((d:Nat):Int))) (g:=w.heap.size+1) ϓ (D b n c1) (G ((d:Nat):Int)) (G 0));go_wp2;refine Ω (v:=.tuple #[ā #[D b n c1,G ((d:Nat):Int),G 0],(G i)]) (gz (p:=2) (u:=3) (ty:=211) rfl _ _ (w.heap.size+1) 211 _ (0,0) _ rfl N.o qj rfl ϋ) rfl ⟨b,c1,by first|rfl|(rw[M.o]),K.o.M ϓ,F.o⟩
def EO {w:β} {b off c n p m} {a pre t post:γ} (f:a=pre++(t++post)) (j:L pre=p) (l:L t=m) (h:Rd w (D (J ⟨b,off,O⟩) n c) n 1 (η a)) (i:L a=n):Rd w (D (J ⟨b,off+p,O⟩) m (c - p)) m 1 (η t):=by
 have o:p+m<=n:=by rw[<-i,f];simp;omega
 have g:=vz h (k:=p) U;have d:=vA g (k:=m) U;have e:(a.drop p).take m=t:=by rw[f,<-j,List.drop_left,<-l,tT]
 rw[e]at d;exact d
def IR (u:Option Addr) (n c p r:Nat) (h pre t ď:γ) (w:β) (v:h=pre++(Ξ t++ď)) (q:L pre=p) (l:L h=n) (I:n<=1000000000) (m:Rd w (D u n c) n 1 (η h)) (H:L t<=r) :
  Calls prog 250 #[D u n c,G p,G r] w fun e w'=>e=ŗ (.tuple #[š (δ t),G ((p+L (Ξ t):Nat):Int),G 0])/\w=w':=by
 obtain⟨a,g⟩:∃ a,a=L t:=⟨_,rfl⟩;have i:h=pre++(ο a++(t++ď)):=by rw[v];unfold Ξ;rw[g];simp
 have K:=vj a;have N:p+L (ο a)+a<=n:=by rw[<-l,i];simp;omega
 obtain⟨s,off,rfl,Q,F⟩:=uH m U;unfold maxLen at F;have o:=Zh (CJ (J ⟨s,off,O⟩) n c p h pre (t++ď) a w i q l I m U);obtain⟨b,j⟩:∃ b,b=p+L (ο a):=⟨_,rfl⟩;rw[<-j]at o N;have y:p+L (Ξ t)=b+a:=by unfold Ξ;rw[j,σ,<-g];omega
 rw[y];have z:Rd w (D (J ⟨s,off+b,O⟩) a (c - b)) a 1 (η t):=EO (pre:=pre++ο a) (post:=ď) (by rw[i];simp) (by simp[q,j]) g.symm m l;rw[<-g]at H;have R:(a:Int)<=(r:Int):=U;have S:¬(n:Int) - (b:Int)<(a:Int):=U;have T:(b:Int)+(a:Int)<=(c:Int):=U;have a1:(0:Int)<=(b:Int):=U;have V:(0:Int)<=(a:Int):=U;have W:(b:Int)<=(c:Int):=U;have X:(b:Int)<=(n:Int):=U;have Y:(a:Int)<=1000000000:=U;have Z:(b:Int)<=1000000000:=U;have aa:IntKind.i64.wrap ((b:Int)+(a:Int))=(b:Int)+(a:Int):=Ϗ;have k:=oM (P:=prog) w 31 9 5 gv mA kH (D (J ⟨s,off+b,O⟩) a (c - b)) t (by rw[<-g];exact z);have x:∀ (E:a=0) (f:Nat) (d:Option Addr),(convert 31 9 (D d 0 f)).run prog w=.ok (š (δ t)) w:=by
  intro E f d;have M:t=[]:=kS U;subst M;exact oM (P:=prog) w 31 9 5 gv mA kH (D d 0 f) [] (pX d f)
 have⟨B,A⟩:=π x k;have hcap:c=b\/b<c:=U;have a0:a<=1000000000:=U;clear z m v i q l g j y K k x;rcases hcap with hcap|hcap
 .obtain rfl:a=0:=U
  have k:=fun f d=>B.o rfl f d;subst hcap;go_enter func250,ntmps250;go_wp2_with fail
  refine o.o.M ?_;rintro e w' ⟨rfl,rfl⟩;go_wp2
  go_ret3
  exact⟨by first|rfl|simp,rfl⟩
 .have k:=A.o
  go_enter func250,ntmps250;go_wp2_with fail
  refine o.o.M ?_;rintro e w' ⟨rfl,rfl⟩;go_wp2
  go_ret3
  exact⟨by first|rfl|simp,rfl⟩
def wK (j:Option Addr) (n k p:Nat) (f pre ď:γ) (t:γ) (r:Nat) (w:β) (z:f=pre++(Ξ t++ď)) (aa:L t<=r) (ab:L pre=p) (l:L f=n) (I:n<=1000000000) (K:Rd w (D j n k) n 1 (η f)) :
  Calls prog 190 #[ā #[D j n k,G p,G 0],G r] w (yT n (p+L (Ξ t)) f (š (δ t)) w):=by
 have ac:p<=n:=by rw[<-l,z];simp;omega
 have a1:=Zh (fun(a:Option Addr) (c:Nat) h (o:Rd h (D a n c) n 1 (η f))=>IR a n c p r f pre t ď h z ab l I o aa);have Y:=Zh (fun h (Z:BQ w h)=>wL j n k p f h ac l I (K.B Z));clear K l;go_enter func190,ntmps190;go_wp2_with fail
 have A:BQ w (å (å w (C #[D j n k,G p,G 0] 211)) (C #[D O 0 0,G 0,G 0] 211)):=ġ.A ύ _;refine(Y.o _ A).M ?_;rintro e Q ⟨_,rfl,⟨b,c1,rfl,H⟩,B⟩;obtain⟨q,M,ad,ae,R⟩:=fZ B;obtain⟨⟨an,ao,ap⟩,⟨aj,f1,f2⟩,-⟩:=Β q;have N:=jz q (D b n c1) (G p) (G 0);have P:=(kN Q w.heap.size (w.heap.size+1) U (D b n c1) (G p) (G 0)).trans M;have E:=kY R NZ (D b n c1) (G p) (G 0);have⟨s,x,y,a0⟩:=hV (lU H (g:=w.heap.size) ϓ (D b n c1) (G p) (G 0)) N P E;clear H q M B A R ad ae N P E;have T:=Zh (fun h (o:Rd h (D b n c1) n 1 (η f))=>a1.o b c1 h o);go_wp2_with fail
 generalize ŝ (ŝ (ŝ Q ⟨w.heap.size,0,O⟩ (D b n c1)) ⟨w.heap.size,1,O⟩ (G p)) ⟨w.heap.size,2,O⟩ (G 0)=i at *;refine(T.o i s.o.now).M ?_;rintro e ar ⟨rfl,rfl⟩;obtain⟨d,m⟩:∃ d,d=p+L (Ξ t):=⟨_,rfl⟩;rw[<-m];have W:=Zh m.symm;clear m;obtain⟨⟨aq,l1,l2⟩,⟨ak,al,am⟩,-⟩:=Β x.o;obtain⟨⟨af,d1,d2⟩,⟨ag,ah,ai⟩,-⟩:=Β y.o;have r0:(ŝ i ⟨w.heap.size,1,O⟩ (G ((d:Nat):Int))).heap[w.heap.size]?=J (C #[D b n c1,G ((d:Nat):Int),G 0] 211 (0,0)):=υ _ _ 1 _ _ _ x.o;have r1:=(Γ i ⟨w.heap.size,1,O⟩ (w.heap.size+1) (G ((d:Nat):Int)) ύ).trans y.o;have F:BQ w (ŝ i ⟨w.heap.size,1,O⟩ (G ((d:Nat):Int))):=a0.o.S NZ _;have⟨X,S,V⟩:=ϲ (jz r1 (D b n c1) (G ((d:Nat):Int)) (G 0)) (kY F (gu _ 1) (D b n c1) (G ((d:Nat):Int)) (G 0)) (lU (s.o.set (p:=⟨w.heap.size,1,O⟩) ϓ (G ((d:Nat):Int))) (g:=w.heap.size+1) ϓ (D b n c1) (G ((d:Nat):Int)) (G 0));clear r0 r1 F;go_wp2;refine Ω (v:=.tuple #[ā #[D b n c1,G ((d:Nat):Int),G 0],(š (δ t))]) (gz (p:=4) (u:=5) (ty:=211) rfl _ _ (w.heap.size+1) 211 _ (0,0) _ rfl X.o qj rfl ϋ) rfl ⟨b,c1,by first|rfl|(rw[W.o]),V.o.M ϓ,S.o⟩
def zq (h:Option Addr) (n i p:Nat) (c pre ď:γ) (t:γ) (w:β) (l:c=pre++(t++ď)) (K:L t=32) (R:L pre=p) (j:L c=n) (ac:n<=1000000000) (H:Rd w (D h n i) n 1 (η c)) :
  Calls prog 205 #[ā #[D h n i,G p,G 0]] w (yT n (p+32) c (š (δ t)) w):=by
 have ar:p+32<=n:=by rw[<-j,l];simp;omega
 have⟨S,X,q⟩:=ϲ l R K;have Z:=Zh (fun x (aa:BQ w x)=>wL h n i p c x U j ac (H.B aa));have V:=Zh j;clear H j l R K;go_enter func205,ntmps205;go_wp2_with fail
 have y:BQ w (å (å w (C #[D h n i,G p,G 0] 211)) (C #[D O 0 0,G 0,G 0] 211)):=ġ.A ύ _;refine(Z.o _ y).M ?_;rintro a0 Q ⟨_,rfl,⟨d,c1,rfl,F⟩,z⟩;obtain⟨o,I,ad,ae,E⟩:=fZ z;obtain⟨⟨ay,az,aA⟩,⟨aj,f1,f2⟩,-⟩:=Β o;have M:=jz o (D d n c1) (G p) (G 0);have N:=(kN Q w.heap.size (w.heap.size+1) U (D d n c1) (G p) (G 0)).trans I;have A:=kY E NZ (D d n c1) (G p) (G 0);have⟨k,r,s,a1⟩:=hV (lU F (g:=w.heap.size) ϓ (D d n c1) (G p) (G 0)) M N A;clear F o I z y E ad ae M N A;go_upto_region 4 with fail
 generalize ŝ (ŝ (ŝ Q ⟨w.heap.size,0,O⟩ (D d n c1)) ⟨w.heap.size,1,O⟩ (G p)) ⟨w.heap.size,2,O⟩ (G 0)=f at *;obtain⟨a,m⟩:∃ a,a=p+32:=⟨_,rfl⟩;rw[<-m];have W:=Zh m.symm;obtain⟨b,off,rfl,aq,ab⟩:=uH k.o.now U;unfold maxLen at ab;have ap:=oM (P:=prog) f 31 9 5 gv mA kH (D (J ⟨b,off+p,O⟩) 32 (c1 - p)) t (by rw[q.o];exact EO S.o X.o q.o k.o.now V.o);have au:¬(n:Int) - (p:Int)<32:=U;have av:(p:Int)+32<=(c1:Int):=U;have aw:(0:Int)<=(p:Int):=U;have ax:(p:Int)<=1000000000:=U;have an:(p:Int)+32=(a:Int):=U;have ao:a - p=32:=U;clear m;obtain⟨⟨aB,l1,l2⟩,⟨ak,al,am⟩,-⟩:=Β r.o;obtain⟨⟨af,d1,d2⟩,⟨ag,ah,ai⟩,-⟩:=Β s.o;have r0:(ŝ f ⟨w.heap.size,1,O⟩ (G ((a:Nat):Int))).heap[w.heap.size]?=J (C #[D (J ⟨b,off,O⟩) n c1,G ((a:Nat):Int),G 0] 211 (0,0)):=υ _ _ 1 _ _ _ r.o;have r1:=(Γ f ⟨w.heap.size,1,O⟩ (w.heap.size+1) (G ((a:Nat):Int)) ύ).trans s.o;have B:BQ w (ŝ f ⟨w.heap.size,1,O⟩ (G ((a:Nat):Int))):=a1.o.S NZ _;have⟨Y,T,e⟩:=ϲ (jz r1 (D (J ⟨b,off,O⟩) n c1) (G ((a:Nat):Int)) (G 0)) (kY B (gu _ 1) (D (J ⟨b,off,O⟩) n c1) (G ((a:Nat):Int)) (G 0)) (lU (k.o.set (p:=⟨w.heap.size,1,O⟩) ϓ (G ((a:Nat):Int))) (g:=w.heap.size+1) ϓ (D (J ⟨b,off,O⟩) n c1) (G ((a:Nat):Int)) (G 0));clear r0 r1 B;go_wp2;refine Ω (v:=.tuple #[ā #[D (J ⟨b,off,O⟩) n c1,G ((a:Nat):Int),G 0],(š (δ t))]) (gz (p:=2) (u:=3) (ty:=211) rfl _ _ (w.heap.size+1) 211 _ (0,0) _ rfl Y.o qj rfl ϋ) rfl ⟨(J ⟨b,off,O⟩),c1,by first|rfl|(rw[W.o]),e.o.M ϓ,T.o⟩
def sQ (ao n cp) (w:β):Calls prog 131 #[ā #[D ao n cp,G n,G 0]] w fun e w'=>e=ŗ (G 0)/\BQ w w':=by
 have a:=Zh (fun b=>CK ao n cp n b (Nat.le_refl n));go_enter func131,ntmps131;go_wp2_with fail
 refine(a.o _).M ?_;rintro e h ⟨rfl,c⟩;obtain⟨f,i,d⟩:=fO c;obtain⟨⟨c0,c1,c2⟩,⟨g,f1,f2⟩,-⟩:=Β f;go_wp2;go_ret;exact⟨rfl,d⟩
def oe (l:List Int):Nat->Int
 |0 => -1
 |k+1=>l.getD k 0
def nV (l:List Int) (k:Nat):Nat:=(l.getD k 0 - oe l k - 1).toNat
def jk (l:List Int):Nat->γ
 |0=>[]
 |k+1=>jk l k++ο (nV l k)
def gM (l:List Int):γ:=ο (L l)++jk l (L l)
def Av {l} (h:ge l=true) {k} (hk):(l.getD k 0 - oe l k - 1=((nV l k:Nat):Int))/\nV l k<=1000/\0<=l[k]/\l[k]<1000 /\ -1<=oe l k/\oe l k<1000/\l.getD k 0=l[k]:=by
 obtain⟨c,b⟩:=(xx l).1 h;have hg:l.getD k 0=l[k]:=by rw[fX,Ρ hk];rfl
 have b1:=b _ (Ψ hk);unfold nV;cases k with
 |zero =>
  simp only[oe];omega
 |succ k =>
  have a:k<L l:=U;have d:l.getD k 0=l[k]:=by rw[fX,Ρ a];rfl
  have b2:=b _ (Ψ a);have b3:=rp.1 c k _ a hk U;simp only[oe];omega
theorem uT {l} (h:ge l=true):∀ k,k<=L l->L (jk l k)<=k*9
 |0,_=>by simp[jk]
 |k+1,hk=>by
  have:=uT h k U;obtain⟨-,a,-⟩:=Av h (k:=k) U;have:=Ϸ 8 (nV l k) U;simp only[jk,σ];omega
def sh {l} (h:ge l=true):L l<=1000:=by
 obtain⟨f,c⟩:=(xx l).1 h;have i:∀ a (b:a<L l),(a:Int)<=l[a]:=by
  intro a;induction a with
  |zero=>intro b;exact(c _ (Ψ b)).1
  |succ a g =>
   intro b;have d:=g U;have e:l[a]<l[a+1]:=rp.1 f a _ U b U;omega
 rcases pC 1000 (L l) with hl|hl
 .have d:=i _ hl
  have e:=(c _ (Ψ hl)).2;omega
 .exact hl
def MT {l} (h:ge l=true):L (gM l)<=9009:=by
 have a:=uT h _ NZ;have b:=sh h;have c:=Ϸ 8 (L l) U;unfold gM;rw[σ];omega
def EF (v:ε) (n l) (w:β) (d:L l=n) (h:Rd w v n 1 (τ l)) (o:ge l=true) :
  Calls prog 173 #[v] w (mG (gM l) w):=by
 have E:=Zh (tr v n l w d h);rw[o]at E;obtain⟨ar,a1,rfl,aC,Q⟩:=ku d h;have ak:=sh o;have R:=Zh (fun a (j:a<L l)=>Av o j);have S:=Zh (fun a j=>uT o a j);have z:=Zh d;have A:=Zh (fun Z aa ag=>wJ O 0 0 _ Z aa rfl U (pX _ _) ag);rw[d]at ak;have M:gM l=ο n++jk l n:=by unfold gM;rw[d]
 have W:=Zh M;have aE:=Ϸ 8 n U;clear d M;go_enter func173,ntmps173;go_wp2_with fail
 refine E.o.M ?_;rintro e aG ⟨rfl,rfl⟩;go_wp2_with fail
 refine(A.o n _ U).M ?_;rintro e aH ⟨ab,ao,c1,rfl,k,ah⟩;simp only[js]at k;have al:=k.1;have⟨b,ap⟩:=π k al;clear k;go_wp2;go_loopw [4,6,22] (fun v f y wr=>∃ (a q:Nat) (g:Option Addr) (c2:Nat),a<=n/\y=G (a:Int)/\f=G (oe l a)/\v=D g q c2/\Hid (Μ w.heap.size wr (D g q c2) q (ο n++jk l a))/\BQ w wr) (fun _ _ y _=>n - (intOf y).toNat)
 .exact⟨0,ao,ab,c1,Ζ _,rfl,rfl,rfl,by show Μ _ _ _ _ _;simp only[jk,iy];exact b.o,ah⟩
 obtain⟨a,q,g,c2,j,rfl,rfl,rfl,p,s⟩:=hrel;have aF:q<=9+9000:=by
  have i:=p.o.1;have ae:=S.o a (ι z.o);simp only[σ]at i;omega
 by_cases aB:a<n
 .have K:a<L l:=ι z.o
  obtain⟨a0,off,rfl,aj⟩:=Q.o a K;obtain⟨i,ae,aw,ax,ay,az,F⟩:=R.o a K;have an:(a:Int)<(n:Int):=U;have av:=ζ s aj;have N:oe l (a+1)=l[a]:=F;have X:=Zh N;have Y:Hid (ο n++jk l (a+1)=ο n++jk l a++ο (nV l a)):=by show _=_;simp[jk]
  rw[F]at i;generalize l[a]=x at *;generalize oe l a=f at *;have aI:IntKind.i64.wrap (x - f)=x - f:=Ϗ;have aJ:IntKind.i64.wrap (x - f - 1)=((nV l a:Nat):Int):=Ϗ;generalize aA:nV l a=c at *;have T:=Zh (A.o c wr U);clear N;obtain⟨P,rfl⟩:∃ P:β,P=wr:=⟨_,rfl⟩;go_wp2_with fail
  refine T.o.M ?_;rintro e aK ⟨aq,n3,au,rfl,m,I⟩;simp only[js]at m;have B:=Zh m;have H:=s.t I;have am:=H.size;have V:=Zh (p.o.B I);have aD:n3<=9:=by have i:=m.1;have:=Ϸ 8 c U;omega
  clear m;go_wp2_with (at_builtin;refine hG rfl _ _ rfl _ _ _ q n3 _ _ rfl V.o rfl B.o.1 B.o.rd U am ?_;intro ac ad aL u ai;have af:=H.trans ai)
  rw[<-Y.o]at u;have r:=Zh u;clear u;go_roundw
  .exact⟨ _,_,ac,ad,U,ϕ,by rw[X.o],rfl,r.o,af⟩
  exact ω
 .obtain rfl:a=n:=U
  have an:¬(a:Int)<(a:Int):=U;have t:=p.o;rw[<-W.o]at t;have r:=Zh t;clear t;go_wp2;go_ret2;exact⟨g,q,c2,rfl,r.o,s⟩
def Ϣ (l:List Int):γ:=vw (gM l)
def MV (v:ε) (n l) (w:β) (d:L l=n) (h:Rd w v n 1 (τ l)) (f:ge l=true) (o:Ϭ w) :
  Calls prog 231 #[v] w fun e w'=>e=ŗ (.tuple #[š (δ (Ϣ l)),G 0])/\BQ w w':=by
 have HW:=Zh (EF v n l w d h f);obtain⟨r,c,rfl,t,-⟩:=ku d h;have i:=Zh o;have u:=MT f;go_enter func231,ntmps231;go_wp2_with fail
 refine HW.o.M ?_;rintro e q ⟨j,p,c1,rfl,a,b⟩;have g:=Zh (Fy j p c1 _ q a.1 (by have s:=a.1;omega) a.rd (i.o.B b));go_wp2_with fail
 refine g.o.M ?_;rintro e x ⟨rfl,m⟩;have k:=b.t m;go_wp2;go_ret2;exact⟨rfl,k⟩
def gJ (t n p:γ):γ:=Ξ t++Ξ n++p
def sR (t n p:γ) (w:β) (aa:L t<=64) (Y:L n<=64) (k:L p=32) :
  Calls prog 178 #[ā #[š (δ t),š (δ n),š (δ p)]] w (mG (gJ t n p) w):=by
 have ad:=iG t;have ae:=iG n;have af:(δ p).size=32:=by rw[iG,k]
 have v:=Zh (fun d=>wM O 0 0 _ t d rfl U (pX _ _) U);have q:=Zh (fun z l c d H M (X:l<=1000)=>wM z l c (Ξ t) n d H U M U);have s:=Zh k;have N:L (Ξ t)<=73:=by unfold Ξ;have:=Ϸ 8 (L t) U;simp only[σ];omega
 have I:L (Ξ n)<=73:=by unfold Ξ;have:=Ϸ 8 (L n) U;simp only[σ];omega
 have⟨a1,a0⟩:=π N I;have ab:¬(64:Int)<(L t:Int):=U;have ac:¬(64:Int)<(L n:Int):=U;go_enter func178,ntmps178;go_wp2_with fail
 refine(v.o _).M ?_;rintro e T ⟨x,S,c1,rfl,a,F⟩;simp only[js]at a;obtain⟨b,ai,i⟩:=fO F;obtain⟨⟨P,Q,R⟩,⟨B,f1,f2⟩,-⟩:=Β b;have o:=Zh (q.o x S c1 T a.1 a.rd (by have f:=a.1;omega));have u:=Zh b;go_wp2_with fail
 refine o.o.M ?_;rintro e ag ⟨W,m,c2,rfl,j,h⟩;have b:=θ u.o h;obtain⟨⟨P,Q,R⟩,⟨B,f1,f2⟩,aj⟩:=Β b;have g:=i.t h;have r:=Zh (j.M i.size);have Z:m<=200:=by have f:=j.1;simp only[σ]at f;omega
 go_wp2_with (at_builtin;refine vP rfl _ _ rfl _ _ m _ _ p rfl r.o rfl s.o U g.size ?_;intro y A ah K V;have E:=g.trans V)
 go_ret2;exact⟨y,_,A,rfl,K,E⟩
def mx (d:List ϰ) (i:Nat):γ:=if i=0 then[]else(d.getD (i - 1) ([],[])).1
def mq (d:List ϰ) (i:Nat):List Int:=if i=0 then[]else(d.getD (i - 1) ([],[])).2
def ll (d:List ϰ) (i:Nat):γ:=(d.getD i ([],[])).1
def mS (d:List ϰ) (i:Nat):γ:=gJ (mx d i) (ll d i) (Ϣ (mq d i))
def oG (d:List ϰ) (k:Nat):List (γ):=(List.range k).map (mS d)
def iD (d:List ϰ):List (γ):=oG d (L d+1)
def ib (d:List ϰ):γ:=Υ ((iD d).map ϴ)
def wS {d} (h:iC d=true) (f:∀ e∈d,L e.1<=64) (i):ge (mq d i)=true/\L (mx d i)<=64/\L (ll d i)<=64:=by
 have b:∀ a,ge (d.getD a ([],[])).2=true/\L (d.getD a ([],[])).1<=64:=by
  intro a;rcases pC a (L d) with hj|hj
  .rw[fX,Ρ hj]
   have c:=Ψ hj;unfold iC at h;rw[gt,kT]at h;have:=h.1 _ c;unfold lA at this;simp only[gt]at this;exact⟨this.1.2,f _ c⟩
  .rw[fX,ls hj]
   exact⟨rfl,ύ⟩
 refine⟨?_,?_,(b i).2⟩
 .unfold mq;split
  .rfl
  .exact(b _).1
 .unfold mx;split
  .simp
  .exact(b _).2
theorem vd (d k):oG d (k+1)=oG d k++[mS d k]:=by
 unfold oG;rw[List.range_succ,ng];rfl
def Ab {d} (h:iC d=true) (b:∀ e∈d,L e.1<=64) (i):L (mS d i)<=200:=by
 obtain⟨-,g,j⟩:=wS h b i;have c:=Ϸ 8 (L (mx d i)) U;have f:=Ϸ 8 (L (ll d i)) U;have a:L (Ϣ (mq d i))=32:=iq _;unfold mS gJ Ξ;simp only[σ,a];omega
def xH {w w1} {g:Nat} {o} (a:BQ w w1) (h:w.heap[g]?=J o):w1.heap[g]?=J o:=θ h a
def wB {w0 w w1} (a:BQ w w1) (h:BQ w0 w) (b:w0.heap.size<=w.heap.size):BQ w0 w1:=h.trans (a.M b)
def sZ (w:β):Rd w (D O 0 0) 0 1 (τ []):=⟨rfl,ώ,.inl ⟨_,_,rfl,rfl⟩⟩
def CU (v:ε) (n d) (w:β) (a5:Ϭ w) (a6:ϭ w) (h:fN w v n d) (aO:iC d=true) (aR:∀ e∈d,L e.1<=64) (bj:n<=100000000) :
  Calls prog 170 #[v] w fun e w'=>∃ aL,e=ŗ (.tuple #[aL,G 0])/\Hi w.heap.size w' (fun bc=>Ε bc aL (iD d))/\BQ w w':=by
 have aK:=Zh (zz v n d w a6 h (fun e a0=>ι (aR e a0)));rw[aO]at aK;have g:=Zh h.1;obtain⟨bd,b0,rfl,aP,am⟩:=ic h;have an:=Zh (fun al=>wS aO aR al);have ao:=Zh (fun v aS b1 aP (a4:Rd w v aS 1 _) a3 m (aM:BQ w m)=>MV v aS b1 m aP (a4.B aM) a3 (a5.B aM));go_enter func170,ntmps170;go_wp2_with fail
 refine aK.o.M ?_;rintro e bn ⟨rfl,aY⟩;go_wp2;go_loopw [4,16] (fun v al wr=>∃ (a:Nat) (au:Option Addr) (c1:Nat),a<=n+1/\al=G (a:Int)/\v=D au a c1/\Hid (iY w.heap.size wr (D au a c1) a (oG d a))/\BQ w wr) (fun _ al _=>n+1 - (intOf al).toNat)
 .exact⟨0,O,0,Ζ _,rfl,rfl,iY.nil _ _,aY⟩
 obtain⟨a,au,c1,bh,rfl,rfl,l,i⟩:=hrel;by_cases bi:a<n+1
 .have bb:(a:Int)<(n:Int)+1:=U
  by_cases aj:a=0
  .by_cases a1:a<n
   .
    obtain rfl:a=0:=aj;have k:Hid (mx d 0=[]/\mq d 0=[]):=⟨rfl,rfl⟩;obtain⟨b,off,aV,aW,rfl,az,aX,-⟩:=am.o 0 (ι g.o);have f3:=ζ i az;have aA:=f3;simp only[rj,kG]at aA;unfold Ϫ at aA;have s:Hid (ll d 0=(d[0]'(ι g.o)).1):=by show _=_;unfold ll;rw[fX,Ρ (ι g.o)];rfl
    unfold Ϫ at f3;have z:=an.o 0;generalize(d[0]'(ι g.o)).1=nx at *;rw[k.o.1,k.o.2,s.o]at z;have o:=Zh z;have K:Hid (mS d 0=gJ [] nx (Ϣ [])):=by show _=_;unfold mS;rw[k.o.1,k.o.2,s.o]
    obtain⟨f,rfl⟩:∃ f:β,f=wr:=⟨_,rfl⟩;have bf:=ζ ((ρ _ f).A NZ (C #[š ⟨#[]⟩,š ⟨#[]⟩,š ⟨#[]⟩] 183)) aA;have B:=φ f (C #[š ⟨#[]⟩,š (δ nx),š ⟨#[]⟩] 183);have aI:(å f (C #[š ⟨#[]⟩,š (δ nx),š ⟨#[]⟩] 183)).heap.size=f.heap.size+1:=ύ;have j:BQ f (å f (C #[š ⟨#[]⟩,š (δ nx),š ⟨#[]⟩] 183)):=ġ;go_wp2_with fail
    generalize(å f (C #[š _,š (δ nx),š _] _))=ar at *;obtain⟨⟨ab,ac,ad⟩,⟨ae,af,ag⟩,aF⟩:=Β B;refine(ao.o _ 0 _ rfl (sZ w) o.o.1 _ ?_).M ?_
    .repeat first|exact i.trans (Below.M j i.size)|refine ro ?_
    rintro e H ⟨rfl,A⟩;have aa:=xH A (B);have T:BQ f H:=by
     refine wB A ?_ ?_
     .repeat first|exact j|refine ro ?_
     .exact gj j.size ύ
    obtain⟨⟨ab,ac,ad⟩,⟨ae,af,ag⟩,aG⟩:=Β aa;have Z:L (Ϣ [])=32:=iq _;have t:=Zh (fun m=>sR _ nx _ m o.o.2.1 o.o.2.2 Z);rw[<-K.o]at t;generalize Ϣ _=Q at *;have q:=T.S (p:=⟨f.heap.size,2,O⟩) NZ (š (δ Q));go_wp2_with fail
    refine(t.o _).M ?_;rintro e ai ⟨av,ah,ay,rfl,E,X⟩;have x:=q.t X;have V:=l.o.B x;have W:=E.apart l.o q.size;have M:=Zh (E.M (gj i.size q.size));have y:=i.t x;have⟨P,I⟩:=π V W;go_wp2_with (at_builtin;refine vO rfl _ _ rfl _ _ _ 0 ah _ _ ai _ rfl rfl P.o M.o I.o rfl U y.size ?_;intro R S aJ F Y;have c:=(y.al _).trans Y)
    rw[<-vd]at F;have N:=Zh F;go_roundw
    .exact⟨ _,R,S,U,ϕ,rfl,N.o,c⟩
    exact gG
   .
    obtain rfl:a=0:=aj;have k:Hid (mx d 0=[]/\mq d 0=[]):=⟨rfl,rfl⟩;have s:Hid (ll d 0=[]):=by show _=_;unfold ll;rw[fX,ls (ι g.o)];rfl
    have z:=an.o 0;rw[k.o.1,k.o.2,s.o]at z;have o:=Zh z;have K:Hid (mS d 0=gJ [] [] (Ϣ [])):=by show _=_;unfold mS;rw[k.o.1,k.o.2,s.o]
    obtain⟨f,rfl⟩:∃ f:β,f=wr:=⟨_,rfl⟩;have B:=φ f (C #[š ⟨#[]⟩,š ⟨#[]⟩,š ⟨#[]⟩] 183);have aI:(å f (C #[š ⟨#[]⟩,š ⟨#[]⟩,š ⟨#[]⟩] 183)).heap.size=f.heap.size+1:=ύ;have j:BQ f (å f (C #[š ⟨#[]⟩,š ⟨#[]⟩,š ⟨#[]⟩] 183)):=ġ;go_wp2_with fail
    generalize(å f _)=ar at *;obtain⟨⟨ab,ac,ad⟩,⟨ae,af,ag⟩,aF⟩:=Β B;refine(ao.o _ 0 _ rfl (sZ w) o.o.1 _ ?_).M ?_
    .repeat first|exact i.trans (Below.M j i.size)|refine ro ?_
    rintro e H ⟨rfl,A⟩;have aa:=xH A (B);have T:BQ f H:=by
     refine wB A ?_ ?_
     .repeat first|exact j|refine ro ?_
     .exact gj j.size ύ
    obtain⟨⟨ab,ac,ad⟩,⟨ae,af,ag⟩,aG⟩:=Β aa;have Z:L (Ϣ [])=32:=iq _;have t:=Zh (fun m=>sR _ _ _ m o.o.2.1 o.o.2.2 Z);rw[<-K.o]at t;generalize Ϣ _=Q at *;have q:=T.S (p:=⟨f.heap.size,2,O⟩) NZ (š (δ Q));go_wp2_with fail
    refine(t.o _).M ?_;rintro e ai ⟨av,ah,ay,rfl,E,X⟩;have x:=q.t X;have V:=l.o.B x;have W:=E.apart l.o q.size;have M:=Zh (E.M (gj i.size q.size));have y:=i.t x;have⟨P,I⟩:=π V W;go_wp2_with (at_builtin;refine vO rfl _ _ rfl _ _ _ 0 ah _ _ ai _ rfl rfl P.o M.o I.o rfl U y.size ?_;intro R S aJ F Y;have c:=(y.al _).trans Y)
    rw[<-vd]at F;have N:=Zh F;go_roundw
    .exact⟨ _,R,S,U,ϕ,rfl,N.o,c⟩
    exact gG
  .have bl:(0:Int)<(a:Int):=U
   by_cases a1:a<n
   .
    obtain⟨b,off,da,dc,rfl,aw,ax,aH⟩:=am.o (a - 1) (ι g.o);have f1:=ζ i aw;have f2:=ζ i ax;unfold Ϫ at f1;have aE:d.getD (a - 1) ([],[])=d[a - 1]'(ι g.o):=by rw[fX,Ρ (ι g.o)];rfl
    have k:Hid (mx d a=(d[a - 1]'(ι g.o)).1/\mq d a=(d[a - 1]'(ι g.o)).2):=by unfold mx mq;rw[κ aj,κ aj,aE];exact⟨rfl,rfl⟩
    have ba:IntKind.i64.wrap ((a:Int) - 1)=(a:Int) - 1:=Ϗ;have a9:((a:Int) - 1).toNat=a - 1:=U;have a7:(1:Int)<=(a:Int):=U;have a8:(a:Int) - 1<(n:Int):=U;have aq:=Zh aH;obtain⟨be,bm,aV,aW,aN,az,aX,-⟩:=am.o a (ι g.o);simp only[Φ,Addr.mk.injEq,it]at aN;obtain⟨rfl,rfl⟩:=aN;have f3:=ζ i az;have bk:(a:Int)<(n:Int):=U;have s:Hid (ll d a=(d[a]'(ι g.o)).1):=by show _=_;unfold ll;rw[fX,Ρ (ι g.o)];rfl
    unfold Ϫ at f3;have z:=an.o a;generalize(d[a - 1]'(ι g.o)).1=r at *;generalize(d[a - 1]'(ι g.o)).2=u at *;generalize aD:L u=ak at *;generalize(d[a]'(ι g.o)).1=nx at *;rw[k.o.1,k.o.2,s.o]at z;have o:=Zh z;have K:Hid (mS d a=gJ r nx (Ϣ u)):=by show _=_;unfold mS;rw[k.o.1,k.o.2,s.o]
    have ap:=Zh aD;obtain⟨f,rfl⟩:∃ f:β,f=wr:=⟨_,rfl⟩;have B:=φ f (C #[š ⟨#[]⟩,š ⟨#[]⟩,š ⟨#[]⟩] 183);have aI:(å f (C #[š ⟨#[]⟩,š ⟨#[]⟩,š ⟨#[]⟩] 183)).heap.size=f.heap.size+1:=ύ;have j:BQ f (å f (C #[š ⟨#[]⟩,š ⟨#[]⟩,š ⟨#[]⟩] 183)):=ġ;have aB:=ζ j f1;have aC:=ζ j f2;have aZ:b<f.heap.size:=ii f _ f1;have bg:=ζ j f3;go_wp2_with fail
    generalize(å f _)=ar at *;obtain⟨⟨ab,ac,ad⟩,⟨ae,af,ag⟩,aF⟩:=Β B;have a2:f.heap.size≠b:=U;go_region_held3 (fun m=>m.cell? ⟨b,off+(a - 1)*2,O⟩=J (š (δ r))/\m.cell? ⟨b,off+(a - 1)*2+1,O⟩=J (D da ak dc)) (first|exact⟨aB,aC⟩|assumption|go_keep) (fail)
    go_wp2_with fail
    refine(ao.o _ ak u ap.o aq.o o.o.1 _ ?_).M ?_
    .repeat first|exact i.trans (Below.M ((j.S (p:=⟨f.heap.size,0,O⟩) NZ (š (δ r))).S (p:=⟨f.heap.size,1,O⟩) NZ (š (δ nx))) i.size)|refine ro ?_
    rintro e H ⟨rfl,A⟩;have aa:H.heap[f.heap.size]?=J (C #[š (δ r),š (δ nx),š ⟨#[]⟩] 183 (0,0)):=xH A (υ _ _ 1 _ _ _ (υ _ _ 0 _ _ _ B));have T:BQ f H:=by
     refine wB A ?_ ?_
     .repeat first|exact((j.S (p:=⟨f.heap.size,0,O⟩) NZ (š (δ r))).S (p:=⟨f.heap.size,1,O⟩) NZ (š (δ nx)))|refine ro ?_
     .exact gj j.size ύ
    obtain⟨⟨ab,ac,ad⟩,⟨ae,af,ag⟩,aG⟩:=Β aa;have Z:L (Ϣ u)=32:=iq _;have t:=Zh (fun m=>sR r nx _ m o.o.2.1 o.o.2.2 Z);rw[<-K.o]at t;generalize Ϣ u=Q at *;have q:=T.S (p:=⟨f.heap.size,2,O⟩) NZ (š (δ Q));go_wp2_with fail
    refine(t.o _).M ?_;rintro e ai ⟨av,ah,ay,rfl,E,X⟩;have x:=q.t X;have V:=l.o.B x;have W:=E.apart l.o q.size;have M:=Zh (E.M (gj i.size q.size));have y:=i.t x;have⟨P,I⟩:=π V W;go_wp2_with (at_builtin;refine vO rfl _ _ rfl _ _ _ a ah _ _ ai _ rfl rfl P.o M.o I.o rfl U y.size ?_;intro R S aJ F Y;have c:=(y.al _).trans Y)
    rw[<-vd]at F;have N:=Zh F;go_roundw
    .exact⟨ _,R,S,U,ϕ,rfl,N.o,c⟩
    exact ω
   .
    obtain⟨b,off,da,dc,rfl,aw,ax,aH⟩:=am.o (a - 1) (ι g.o);have f1:=ζ i aw;have f2:=ζ i ax;unfold Ϫ at f1;have aE:d.getD (a - 1) ([],[])=d[a - 1]'(ι g.o):=by rw[fX,Ρ (ι g.o)];rfl
    have k:Hid (mx d a=(d[a - 1]'(ι g.o)).1/\mq d a=(d[a - 1]'(ι g.o)).2):=by unfold mx mq;rw[κ aj,κ aj,aE];exact⟨rfl,rfl⟩
    have ba:IntKind.i64.wrap ((a:Int) - 1)=(a:Int) - 1:=Ϗ;have a9:((a:Int) - 1).toNat=a - 1:=U;have a7:(1:Int)<=(a:Int):=U;have a8:(a:Int) - 1<(n:Int):=U;have aq:=Zh aH;have s:Hid (ll d a=[]):=by show _=_;unfold ll;rw[fX,ls (ι g.o)];rfl
    have z:=an.o a;generalize(d[a - 1]'(ι g.o)).1=r at *;generalize(d[a - 1]'(ι g.o)).2=u at *;generalize aD:L u=ak at *;rw[k.o.1,k.o.2,s.o]at z;have o:=Zh z;have K:Hid (mS d a=gJ r [] (Ϣ u)):=by show _=_;unfold mS;rw[k.o.1,k.o.2,s.o]
    have ap:=Zh aD;obtain⟨f,rfl⟩:∃ f:β,f=wr:=⟨_,rfl⟩;have B:=φ f (C #[š ⟨#[]⟩,š ⟨#[]⟩,š ⟨#[]⟩] 183);have aI:(å f (C #[š ⟨#[]⟩,š ⟨#[]⟩,š ⟨#[]⟩] 183)).heap.size=f.heap.size+1:=ύ;have j:BQ f (å f (C #[š ⟨#[]⟩,š ⟨#[]⟩,š ⟨#[]⟩] 183)):=ġ;have aB:=ζ j f1;have aC:=ζ j f2;have aZ:b<f.heap.size:=ii f _ f1;go_wp2_with fail
    generalize(å f _)=ar at *;obtain⟨⟨ab,ac,ad⟩,⟨ae,af,ag⟩,aF⟩:=Β B;have a2:f.heap.size≠b:=U;go_region_held3 (fun m=>m.cell? ⟨b,off+(a - 1)*2,O⟩=J (š (δ r))/\m.cell? ⟨b,off+(a - 1)*2+1,O⟩=J (D da ak dc)) (first|exact⟨aB,aC⟩|assumption|go_keep) (fail)
    go_wp2_with fail
    refine(ao.o _ ak u ap.o aq.o o.o.1 _ ?_).M ?_
    .repeat first|exact i.trans (Below.M (j.S (p:=⟨f.heap.size,0,O⟩) NZ (š (δ r))) i.size)|refine ro ?_
    rintro e H ⟨rfl,A⟩;have aa:H.heap[f.heap.size]?=J (C #[š (δ r),š ⟨#[]⟩,š ⟨#[]⟩] 183 (0,0)):=xH A (υ _ _ 0 _ _ _ B);have T:BQ f H:=by
     refine wB A ?_ ?_
     .repeat first|exact(j.S (p:=⟨f.heap.size,0,O⟩) NZ (š (δ r)))|refine ro ?_
     .exact gj j.size ύ
    obtain⟨⟨ab,ac,ad⟩,⟨ae,af,ag⟩,aG⟩:=Β aa;have Z:L (Ϣ u)=32:=iq _;have t:=Zh (fun m=>sR r _ _ m o.o.2.1 o.o.2.2 Z);rw[<-K.o]at t;generalize Ϣ u=Q at *;have q:=T.S (p:=⟨f.heap.size,2,O⟩) NZ (š (δ Q));go_wp2_with fail
    refine(t.o _).M ?_;rintro e ai ⟨av,ah,ay,rfl,E,X⟩;have x:=q.t X;have V:=l.o.B x;have W:=E.apart l.o q.size;have M:=Zh (E.M (gj i.size q.size));have y:=i.t x;have⟨P,I⟩:=π V W;go_wp2_with (at_builtin;refine vO rfl _ _ rfl _ _ _ a ah _ _ ai _ rfl rfl P.o M.o I.o rfl U y.size ?_;intro R S aJ F Y;have c:=(y.al _).trans Y)
    rw[<-vd]at F;have N:=Zh F;go_roundw
    .exact⟨ _,R,S,U,ϕ,rfl,N.o,c⟩
    exact ω
 .obtain rfl:a=n+1:=U
  have bb:¬(n:Int)+1<(n:Int)+1:=U;have aT:Hid (oG d (n+1)=iD d):=by show _=_;unfold iD;rw[g.o]
  have aQ:=l.o.hi;rw[aT.o]at aQ;have aU:=Zh aQ;go_wp2;go_ret2;exact⟨_,rfl,aU.o,i⟩
def qJ (d):L (iD d)=L d+1:=by simp[iD,oG]
def qB (d):L (ib d)=32:=by
 have f:∀ l:List (γ),ϱ l->l≠[]->L (iA l)=32:=by
  intro l;induction h:L l using Nat.strongRecOn generalizing l with
  |_ n i =>
   intro c e
   match l,h with
   |[],_=>exact absurd rfl e
   |[a],_=>rw[qA];exact c a ύ
   |b::a::t,h =>
    rw[iA];refine i (L t+1) (by simp at h;omega) _ ύ ?_ ύ;intro x hx;rcases hH.1 hx with rfl|hx
    .exact iq _
    .exact c x (by simp[hx])
 unfold ib Υ;split
 .exact iq _
 .rename_i e
  refine f _ (xU ?_ _ NZ) ?_
  .intro x hx
   obtain⟨y,-,rfl⟩:=ih.1 hx;exact iq _
  .intro g
   have:=rc ((iD d).map ϴ) (L ((iD d).map ϴ));rw[g]at this;have j:=xu (n:=L ((iD d).map ϴ)) (by simp[qJ]);simp only[gO]at this;omega
def kv (L:List (γ)):ϱ (L.map ϴ):=by
 intro x a;obtain⟨y,-,rfl⟩:=ih.1 a;exact iq _
def Ju (v:ε) (n d) (w:β) (o:Ϭ w) (H:ϭ w) (h:fN w v n d) (l:iC d=true) (p:∀ e∈d,L e.1<=64) (V:n<=100000000) :
  Calls prog 260 #[v] w fun e w'=>e=ŗ (.tuple #[š (δ (ib d)),G 0])/\BQ w w':=by
 have⟨s,i⟩:=π (CU v n d w o H h l p V) o;have F:∀ x∈iD d,L x<=200:=by
  intro x a;unfold iD oG at a;obtain⟨I,-,rfl⟩:=ih.1 a;exact Ab l p I
 have t:=Zh F;have f:Hid (L (iD d)=n+1):=by show _=_;rw[qJ,h.1]
 obtain⟨Q,c,rfl,R,-⟩:=ic h;go_enter func260,ntmps260;go_wp2_with fail
 refine s.o.M ?_;rintro e M ⟨y,rfl,m,k⟩;have q:=Zh (vM y _ M (i.o.B k) m.now (by rw[f.o];omega) (fun x a=>ι (t.o x a)));obtain⟨P,c1,rfl,S,-⟩:=mr m.now;go_wp2_with fail
 refine q.o.M ?_;rintro e N ⟨u,K,c2,rfl,b,B⟩;have j:=k.t B;have g:=Zh (ye u K c2 _ N b.1 b.rd (kv _) (by have z:=b.1;rw[hU,f.o]at z;omega) (i.o.B j));have r:Hid (Υ ((iD d).map ϴ)=ib d):=rfl;rw[r.o]at g;go_wp2_with fail
 refine g.o.M ?_;rintro e T ⟨rfl,E⟩;have A:=j.t E;go_wp2;go_ret2;exact⟨rfl,A⟩
def Pv (f t) (v:ε) (n d) (w:β) (I:Ϭ w) (q:ϭ w) (h:fN w v n d) (k:lZ f t d=true) (m:∀ e∈d,L e.1<=64/\L e.2<=1000) (H:n<=100000000) :
  Calls prog 192 #[ā #[G f,G t,v]] w fun e w'=>e=ŗ (.tuple #[ā #[G f,G t,G ((n+1:Nat):Int),š (δ (ib d))],G 0])/\BQ w w':=by
 have P:iC d=true:=by unfold lZ at k;simp only[gt]at k;exact k.1.2
 have o:=Zh (fun b (a:BQ w b)=>Fz f t v n d b (q.B a) (h.B a) (fun e g=>⟨ι (m e g).1,ι (m e g).2⟩));rw[k]at o;have s:=Zh (fun b (a:BQ w b)=>Ju v n d b (I.B a) (q.B a) (h.B a) P (fun e g=>(m e g).1) H);obtain⟨z,c,rfl,V,-⟩:=ic h;go_enter func192,ntmps192;go_wp2_with fail
 have E:BQ w (å (å w (C #[G f,G t,D z n c] 92)) (C #[G 0,G 0,G 0,š ⟨#[]⟩] 198)):=ġ.A ύ _;refine(o.o _ E).M ?_;rintro e X ⟨rfl,F⟩;obtain⟨i,j,Z,aa,p⟩:=fZ F;obtain⟨⟨K,M,N⟩,⟨A,f1,f2⟩,-⟩:=Β i;have⟨u,x⟩:=π i j;go_wp2_with fail
 refine(s.o _ p).M ?_;rintro e Y ⟨rfl,l⟩;have i:=θ u.o l;have j:=θ x.o l;obtain⟨⟨K,M,N⟩,⟨A,f1,f2⟩,-⟩:=Β i;obtain⟨⟨a0,d1,d2,Q⟩,⟨R,S,T,a1⟩,-⟩:=ϩ j;have B:=p.t l;have W:IntKind.i64.wrap ((n:Int)+1)=(n:Int)+1:=Ϗ;have⟨y,r⟩:=π (oh j (G f) (G t) (G (n+1)) (š (δ (ib d)))) (pd B (gu _ 1) (G f) (G t) (G (n+1)) (š (δ (ib d))));go_wp2;refine Ω  (gz    rfl _ _ _ _ _ _ _ rfl y.o underlying198 rfl ϋ) rfl ⟨rfl,r.o⟩
def Pu (f t L) (r:γ) (w:β) (j:me f t=true) (b:1<=L) (c:L<=1099511627776) (h:r.length=32) :
  Calls prog 308 #[ā #[G f,G t,G L,š (δ r)]] w fun e w'=>e=ŗ (.bool true)/\BQ w w':=by
 have HW:=Zh (fun a=>Gs f t a);rw[j]at HW;have m:(δ r).size=32:=by rw[iG,h]
 generalize δ r=k at *;go_enter func308,ntmps308;go_wp2_with fail
 refine(HW.o _).M ?_;rintro e s ⟨rfl,d⟩;obtain⟨i,u,g⟩:=fO d;obtain⟨⟨n,o,p,q⟩,⟨l,f1,f2,f3⟩,-⟩:=ϩ i;go_wp2;go_ret;exact⟨by first|rfl|simp[b,c],g⟩
def Ib (B) (w:β) (q):Below B w (w.drewN q):=⟨rfl,rfl,rfl,NZ,fun _ _=>rfl⟩
def KU (g h:ε) (n l) (w:β) (o:L l=n) (p:n<=1000000) (m:Rd w g n 1 (τ l)) (f:Rd w h n 1 (τ l)) :
  Calls prog 67 #[g,h] w fun e w'=>e=ŗ (.bool true)/\BQ w w':=by
 obtain⟨-,-,⟨i,c1,rfl,d⟩|⟨b1,o1,c1,rfl,r,-,-,j⟩⟩:=m
 .obtain⟨c,c2,rfl,-,-⟩:=ku o f
  refine(Tryz.slices_Equal_int_empty i c c1 n c2 w U).M ?_;rintro e w' ⟨rfl,rfl⟩;exact⟨by simp[d],ρ _ _⟩
 .obtain⟨-,-,⟨c,c2,rfl,d⟩|⟨b2,o2,c2,rfl,-,-,-,k⟩⟩:=f
  .omega
  .refine(Tryz.slices_Equal_int b1 o1 n c1 b2 o2 n c2 l l w U U U U ?_ ?_).M ?_
   .intro b a
    exact j b _ (by simp[τ,a])
   .intro b a
    exact k b _ (by simp[τ,a])
   .rintro e w' ⟨rfl,q,rfl⟩
    exact⟨ύ,Ib _ _ q⟩
def Pk (t:γ) (b c:ε) (n l) (w:β) (a:L l=n) (r:n<=1000000) (g:Rd w b n 1 (τ l)) (h:Rd w c n 1 (τ l)) :
  Calls prog 66 #[ā #[š (δ t),b],ā #[š (δ t),c]] w fun e w'=>e=ŗ (.bool true)/\BQ w w':=by
 have j:=Zh (fun f (i:BQ w f)=>KU b c n l f a r (g.B i) (h.B i));obtain⟨k,c1,rfl,-,-⟩:=ku a g;obtain⟨m,c2,rfl,-,-⟩:=ku a h;generalize δ t=d;have o:BQ w (å (å w (C #[š d,D k n c1] 130)) (C #[š d,D m n c2] 130)):=ġ.A ύ _;go_enter func66,ntmps66;go_wp2_with fail
 refine(j.o _ o).M ?_;rintro e s ⟨rfl,p⟩;obtain⟨-,-,-,-,q⟩:=fZ p;go_wp2;go_ret;exact⟨by first|rfl|simp,q⟩
def JP (r s:ε) (n d) (w:β) (l:fN w r n d) (E:fN w s n d) (H:∀ e∈d,L e.2<=1000000) :
  Calls prog 65 #[r,s,.func (.func 66) #[] #[]] w fun e w'=>e=ŗ (.bool true)/\BQ w w':=by
 have x:=Zh l.1;obtain⟨Q,c1,rfl,V,t⟩:=ic l;obtain⟨R,c2,rfl,-,u⟩:=ic E;have v:=Zh (fun a p=>H d[a] (Ψ p));go_enter func65,ntmps65;go_wp2;go_loopw [17] (fun i wr=>∃ a:Nat,a<=n/\i=G (a:Int)/\BQ w wr) (fun i _=>n - (intOf i).toNat)
 .exact⟨0,Ζ _,rfl,ρ _ _⟩
 obtain⟨a,p,rfl,b⟩:=hrel;by_cases Y:a<n
 .have h:a<L d:=ι x.o
  obtain⟨b1,o1,f,g,rfl,K,N,r1⟩:=t.o a h;obtain⟨b2,o2,z,A,rfl,M,P,r2⟩:=u.o a h;have I:(a:Int)<(n:Int):=U;have W:(0:Int)<=(a:Int):=U;have B:=ζ b K;have f1:=ζ b N;have k:=ζ b M;have f2:=ζ b P;unfold Ϫ at B k;have y:=Zh (fun j (m:BQ w j)=>Pk d[a].1 _ _ _ _ j rfl (v.o a h) (r1.B m) (r2.B m));generalize (L d[a].2)=q at *;generalize δ _=c at *;have S:=ζ ((ρ _ wr).A NZ (C #[š c,D f q g] 130)) k;have T:=ζ ((ρ _ wr).A NZ (C #[š c,D f q g] 130)) f2;have o:BQ w (å (å wr (C #[š c,D f q g] 130)) (C #[š c,D z q A] 130)):=(b.al _).A (by have:=b.size;simp;omega) _;go_wp2_with fail
  refine(y.o _ o).M ?_;rintro e X ⟨rfl,Z⟩;have F:=o.t Z;go_wp2;go_roundw
  .exact⟨a+1,U,ϕ,F⟩
  exact ω
 .have I:¬(a:Int)<(n:Int):=U
  go_wp2;go_ret;exact⟨rfl,b⟩
def Pj (a b:ε) (n d) (w:β) (f:fN w a n d) (g:fN w b n d) (i:∀ e∈d,L e.2<=1000000) :
  Calls prog 37 #[a,b] w fun e w'=>e=ŗ (.bool true)/\BQ w w':=by
 have c:=Zh (JP a b n d w f g i);go_enter func37,ntmps37;go_wp2_with fail
 refine c.o.M ?_;rintro e j ⟨rfl,h⟩;go_wp2;go_ret;exact⟨rfl,h⟩
def Kq (ao cp) (w:β):Calls prog 249 #[D ao 0 cp,G 0] w fun e w'=>e=ŗ (.tuple #[G 0,G 0,G 4])/\w=w':=by
 go_enter func249,ntmps249;go_wp2
 go_step3
 go_wp2
 go_step3
 go_wp2;go_loop [7,8] (fun a b=>a=G 0/\b=G 0) (fun _ _=>0)
 .exact⟨rfl,rfl⟩
 obtain⟨rfl,rfl⟩:=hrel;go_wp2
 go_ret3
 exact⟨rfl,rfl⟩
def NE (ao cp) (w:β) (u:Rd w (D ao 0 cp) 0 1 []) :
  Calls prog 189 #[ā #[D ao 0 cp,G 0,G 0]] w fun e w'=>∃ a c1,e=ŗ (.tuple #[ā #[D a 0 c1,G 0,G 4],G 0])/\BQ w w':=by
 have l:=Zh (fun d (n:BQ w d)=>wL ao 0 cp 0 [] d NZ rfl U (u.B n));go_enter func189,ntmps189;go_wp2_with fail
 have o:BQ w (å (å w (C #[D ao 0 cp,G 0,G 0] 211)) (C #[D O 0 0,G 0,G 0] 211)):=ġ.A ύ _;refine(l.o _ o).M ?_;rintro e h ⟨_,rfl,⟨a,c1,rfl,t⟩,p⟩;obtain⟨f,v,R,S,s⟩:=fZ p;obtain⟨⟨M,N,P⟩,⟨T,f1,f2⟩,-⟩:=Β f;have x:=jz f (D a 0 c1) (G 0) (G 0);have y:=(kN h w.heap.size _ U (D a 0 c1) (G 0) (G 0)).trans v;have q:=kY s NZ (D a 0 c1) (G 0) (G 0);have⟨z,m,c,i⟩:=hV (lU t (g:=w.heap.size) ϓ (D a 0 c1) (G 0) (G 0)) x y q;go_wp2_with fail
 generalize ŝ (ŝ (ŝ h _ _) _ _) _ _=b at *;refine(Kq a c1 b).M ?_;rintro e w' ⟨rfl,rfl⟩;obtain⟨⟨Q,l1,l2⟩,⟨H,I,K⟩,-⟩:=Β m.o;obtain⟨⟨A,d1,d2⟩,⟨B,E,F⟩,-⟩:=Β c.o;have r1:=(Γ b ⟨w.heap.size,2,O⟩ _ (G 4) ύ).trans c.o;have r:BQ w (ŝ b ⟨w.heap.size,2,O⟩ (G 4)):=i.o.S NZ _;have⟨k,j⟩:=π (jz r1 (D a 0 c1) (G 0) (G 4)) (kY r (gu _ 1) (D a 0 c1) (G 0) (G 4));go_wp2;refine Ω  (gz    rfl _ _ _ _ _ _ _ rfl k.o qj rfl ϋ) rfl ⟨a,c1,rfl,j.o⟩
