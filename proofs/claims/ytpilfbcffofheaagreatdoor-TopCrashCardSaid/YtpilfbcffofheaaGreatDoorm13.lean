/- Part 13 of the proof. -/
import Derived.Test.YtpilfbcffofheaaGreatDoorm08
set_option linter.unusedVariables false
set_option linter.unusedSimpArgs false
set_option maxRecDepth 100000
set_option maxHeartbeats 4000000
namespace Go.Proofs.YtpilfbcffofheaaGreatDoor
open Go.Proofs.Tryz Go.RowKit Go.Sort
open Value renaming int->ĭ,slice->D,string->š,agg->ā
open Option renaming none->O,some->J
open List renaming length->L
open Ending renaming returned->ŗ
open Obj renaming cells->C
open World renaming alloc->å,setCell->ŝ
theorem wK (n:Int) (a:0<=n) (b:n<2 ^ 63):IntKind.i64.wrap n=n:=Ϗ
theorem ID (x:Int) (a:0<=x) (b:x<9223372036854775808):bits .and .i64 x 127=x % 128:=bits_mask .i64 63 ϐ wK 7 ϊ x a ϊ
theorem ND (x:Int) (a:0<=x) (b:x<256):bits .and .u8 x 127=x % 128:=bits_mask .u8 8 ϐ wraps_u8 7 ϊ x a ϊ
theorem Dc (k:IntKind) (j:Nat) (e:j<=k.bits) (f:∀ n:Int,0<=n->n<2 ^ j->k.wrap n=n) (x y:Int) (g:0<=x) (h:x<2 ^ j) (i:0<=y) (l:y<2 ^ j):bits .or k x y=bits .or k y x:=by
 obtain⟨a,rfl⟩:=Int.eq_ofNat_of_zero_le g;obtain⟨b,rfl⟩:=Int.eq_ofNat_of_zero_le i;have c:a<2 ^ j:=by exact_mod_cast h
 have d:b<2 ^ j:=by exact_mod_cast l
 rw[(bits_nat k j e f a b c d).2,(bits_nat k j e f b a d c).2,Nat.or_comm]
theorem NE (x:Int) (a:0<=x) (b:x<128):bits .or .u8 x 128=x+128:=by
 rw[Dc .u8 8 ϐ wraps_u8 x 128 a ϊ ϐ ϐ,bits_join .u8 8 ϐ wraps_u8 7 128 x ϐ ϐ ϐ a ϊ ϊ];omega
theorem Be (x:Nat) (h:x<256):ch (UInt8.ofNat x)=(x:Int):=by
 unfold ch;rw[wN];omega
theorem xF (x:Nat) (h:x<256):η [UInt8.ofNat x]=[ĭ .u8 (x:Int)]:=by
 simp only[η,iA,lf];rw[Be x h]
theorem xU (a:Option Addr) (n c:Nat) (b:γ) (w:β) (d:L b=n) (k:n<=1099511627776) (f:Rd w (D a n c) n 1 (η b)) :
  Calls prog 263 #[D a n c] w (pX b w):=by
 have h:=Zh f;have g:=Zh d;clear f d;go_enter func263,ntmps263;go_wp2_with (at_builtin;refine iz rfl (.const (D O 0 0)) (.tmp 3) rfl w.heap.size _ _ 0 n [] b rfl (Φ.nil _ _) rfl g.o h.o ϊ NZ ?_;intro i c2 l e j;simp only[jJ,jy]at e)
 go_ret;exact⟨i,n,c2,ύ,e,j⟩
def Ag (base:Nat) (l:γ) (w:β) (e:Ending) (w':β):Prop:= ∃ a n c,e=ŗ (D a n c)/\Φ base w' (D a n c) n l/\Below base w w'
theorem Br (base:Nat) (p:Option Addr) (n q:Nat) (xs:γ) (a:Nat) (w:β) (A:Φ base w (D p n q) n xs) (X:n<=1099511627776) (R:a<=4611686018427387904) (U:base<=w.heap.size) :
  Calls prog 262 #[D p n q,IZ a] w (Ag base (xs++ξ a) w):=by
 have k:=Zh A;have S:(0:Int)<=(a:Int):=ϊ;have T:(a:Int)<=4611686018427387904:=ϊ;clear A;go_enter func262,ntmps262;go_wp2;go_loopw [0,1] (fun P z wr=>∃ (x b:Nat) (m:Option Addr) (c1:Nat) (c:γ),z=IZ (x:Int)/\P=D m b c1/\x<=a/\b+x<=n+a/\Hid (Φ base wr (D m b c1) b c)/\Hid (c++ξ x=xs++ξ a)/\Below base w wr) (fun _ z _=>(intOf z).toNat)
 case atStart=>exact⟨a,n,p,q,xs,rfl,rfl,NZ,NZ,k.o,rfl,φ _ _⟩
 case round =>
  obtain⟨x,b,m,c1,c,rfl,rfl,Y,W,g,f,h⟩:=hrel;have V:b<=4611687117939015680:=ϊ;by_cases K:127<x
  .have N:(127:Int)<(x:Int):=ϊ
   have B:(0:Int)<=(x:Int):=ϊ;have Z:(x:Int)<=4611686018427387904:=ϊ;have E:=ID (x:Int) B ϊ;have r:IntKind.u8.wrap ((x:Int) % 128)=(x:Int) % 128:=by rw[IntKind.wrap_u8];omega
   have F:=NE ((x:Int) % 128) ϊ ϊ;have M:=h.size;have y:base<=wr.heap.size:=ϊ;have j:Hid (c++[UInt8.ofNat (x % 128+128)]++ξ (x / 128)=xs++ξ a):=by
    show _=_;rw[<-f.o,vC K];simp
   have d:[Value.int .u8 ((x:Int) % 128+128)]=η [UInt8.ofNat (x % 128+128)]:=by
    rw[xF _ ϊ];simp
   have i:=Zh d;have v:b+1<=70368744177664:=by
    have s:=iY List.length f.o;have G:=g.o.1;have H:=k.o.1;have I:=fQ 8 a ϊ;simp only[ω]at s;omega
   clear d;go_wp2_with (at_builtin;refine iz rfl (.tmp 7) (.tmp 12) rfl base _ _ b 1 c [UInt8.ofNat (x % 128+128)] rfl (g.o.alloc _) rfl rfl (jG wr #[ĭ .u8 ((x:Int) % 128+128)] _ 1 _ rfl i.o ϐ) v ό ?_;intro o c2 Q e u;have t:=(h.alloc y _).trans u)
   have l:=Zh e;clear E r F;go_roundw;case rel=>exact⟨x / 128,b+1,o,c2,_,ϕ,rfl,ϊ,ϊ,l.o,j.o,t⟩
   case measure=>simp[intOf];omega
  .have N:¬(127:Int)<(x:Int):=ϊ
   have B:(0:Int)<=(x:Int):=ϊ;have r:IntKind.u8.wrap (x:Int)=(x:Int):=by rw[IntKind.wrap_u8];omega
   have M:=h.size;have y:base<=wr.heap.size:=ϊ;have j:Hid (c++[UInt8.ofNat x]=xs++ξ a):=by
    show _=_;rw[<-f.o,tD ϊ]
   have d:[Value.int .u8 (x:Int)]=η [UInt8.ofNat x]:=by
    rw[xF _ ϊ]
   have i:=Zh d;have v:b+1<=70368744177664:=by
    have s:=iY List.length f.o;have G:=g.o.1;have H:=k.o.1;have I:=fQ 8 a ϊ;simp only[ω]at s;omega
   clear d;go_wp2_with (at_builtin;refine iz rfl (.tmp 16) (.tmp 19) rfl base _ _ b 1 c [UInt8.ofNat x] rfl (g.o.alloc _) rfl rfl (jG wr #[ĭ .u8 (x:Int)] _ 1 _ rfl i.o ϐ) v ό ?_;intro o c2 Q e u;have t:=(h.alloc y _).trans u)
   rw[j.o]at e;have l:=Zh e;clear r e;go_ret;exact⟨o,b+1,c2,rfl,l.o,t⟩
theorem zN {ops:Array Oper} {l:List Oper} {o:Oper} {a:Act} {Q:Exit->Act->β->Prop} {w:β} (q:o.guard=O) (s x:Operand)
  (r:o.op=.call {callee:=.builtin .append,args:= #[s,x],argTypes:= #[31,9]})
  (base:Nat) (v:ε) (n m:Nat) (xs ys:γ) (t:a.eval s=v) (f:Φ base w v n xs) (y:a.eval x=š (δ ys)) (hy:L ys=m)
  (I:n+m<=70368744177664) (j:base<=w.heap.size)
  (h:∀ c d w',Φ base w' (D c (n+m) d) (n+m) (xs++ys)->Below base w w'->wpList prog ops Q l (a.put o.dst (D c (n+m) d)) w'):wpList prog ops Q (o::l) a w:=by
 obtain⟨E,hi,z,A,B⟩:=ϯ lF;have u:Src prog 1 9 (š (δ ys)) m (η ys) w:=by
  have:=Src.ofString (P:=prog) w lK (δ ys);rw[jx,hy]at this;have e:(δ ys).data.toList.map (fun b:UInt8=>Value.int .u8 b.toNat)=η ys:=by rw[wA];rfl
  first|exact this|(rw[<-e];exact this)|(simpa[η,ch,wA,δ] using this)
 refine gn q s x 31 9 r base 5 E (ĭ .u8 0) 1 1 gu hi z A B rfl v n (η xs) t f.2 (š (δ ys)) m (η ys) y u ώ ϊ j ?_;intro M w' i p G H;obtain⟨c,d,rfl⟩:=Θ i;refine h c d w' ⟨by simp[f.1,hy],by rw[sV];exact i⟩ ?_;refine RZ.grown p j fun K k=>?_;rcases f.2.2 with ⟨rfl,-⟩|⟨g,F,cur,rfl,hg,-⟩
 .simp[Value.ownBlock]at k
 .simp[Value.ownBlock]at k;omega
theorem GS (base:Nat) (b:Option Addr) (n c:Nat) (xs t:γ) (m:Nat) (w:β) (d:Φ base w (D b n c) n xs) (F:n<=1000000000) (a:L t=m) (E:m<=1000000000) (v:base<=w.heap.size) :
  Calls prog 275 #[D b n c,š (δ t)] w (Ag base (xs++Ζ t) w):=by
 have o:=Zh (Br base b n c xs m w d ϊ ϊ v);have k:=Zh a;have H:(δ t).size=m:=by rw[jx,a]
 have p:Hid (xs++Ζ t=xs++ξ m++t):=by show _=_;unfold Ζ;rw[a,gM]
 have j:=Zh d.1;have B:=fQ 8 m ϊ;clear d a;go_enter func275,ntmps275;go_wp2_with fail
 refine o.o.mono ?_;rintro e y ⟨z,g,c1,rfl,f,h⟩;have x:base<=y.heap.size:=by have:=h.size;omega
 have G:g<=1000000009:=by have r:=f.1;have A:=j.o;simp only[ω]at r;omega
 have l:=Zh f;clear f;go_wp2_with (at_builtin;refine zN rfl (.tmp 8) (.tmp 9) rfl base _ g m (xs++ξ m) t rfl l.o rfl k.o ϊ x ?_;intro q c2 I i u;have s:=h.trans u)
 rw[<-p.o]at i;go_ret;exact⟨q,g+m,c2,rfl,i,s⟩
def lP (l:γ) (w:β) (e:Ending) (w':β):Prop:= ∃ a n c,e=ŗ (.tuple #[D a n c,IZ 0])/\Φ w.heap.size w' (D a n c) n l/\Below w.heap.size w w'
theorem uR (c:Option Addr) (n d:Nat) (b:γ) (a:Nat) (w:β) (f:L b=n) (z:n<=1000000000) (i:Rd w (D c n d) n 1 (η b)) (r:a<=4611686018427387904) :
  Calls prog 195 #[D c n d,IZ a] w (lP (b++ξ a) w):=by
 have l:=Zh (xU c n d b w f ϊ i);have x:(0:Int)<=(a:Int):=ϊ;have y:(a:Int)<=4611686018427387904:=ϊ;have k:=Zh f;clear i f;go_enter func195,ntmps195;go_wp2_with fail
 refine l.o.mono ?_;rintro e v ⟨o,j,c1,rfl,g,h⟩;obtain rfl:j=n:=g.1.symm.trans k.o;have m:=Zh (Br w.heap.size o j c1 b a v g ϊ r h.size);clear g;go_wp2_with fail
 refine m.o.mono ?_;rintro e A ⟨p,u,c2,rfl,t,s⟩;have q:=h.trans s;go_wp2;go_ret2;exact⟨p,u,c2,rfl,t,q⟩
theorem GR (v:ε) (z:Int) (w:β) (h:z<0\/4611686018427387904<z) :
  Calls prog 195 #[v,IZ z] w fun e w'=>e=ŗ (.tuple #[D O 0 0,IZ 1])/\w=w':=by
 rcases h with h|h
 .go_enter func195,ntmps195
  go_wp2;go_ret2;exact⟨rfl,rfl⟩
 .have a:¬z<0:=ϊ
  go_enter func195,ntmps195;go_wp2;go_ret2;exact⟨rfl,rfl⟩
theorem uU (a:Option Addr) (n c:Nat) (b t:γ) (w:β) (d:L b=n) (x:n<=1000000000) (h:Rd w (D a n c) n 1 (η b)) (s:L t<=1000000000) :
  Calls prog 209 #[D a n c,š (δ t)] w (pX (b++Ζ t) w):=by
 have k:=Zh (xU a n c b w d ϊ h);have j:=Zh d;clear h d;go_enter func209,ntmps209;go_wp2_with fail
 refine k.o.mono ?_;rintro e v ⟨m,i,c1,rfl,f,g⟩;obtain rfl:i=n:=f.1.symm.trans j.o;have l:=Zh (GS w.heap.size m i c1 b t (L t) v f ϊ rfl s g.size);clear f;go_wp2_with fail
 refine l.o.mono ?_;rintro e y ⟨o,u,c2,rfl,r,q⟩;have p:=g.trans q;go_wp2;go_ret;exact⟨o,u,c2,rfl,r,p⟩
def mS (a k:Nat):Nat:=if a / 128 ^ k<=127 then a / 128 ^ k else a / 128 ^ k % 128+128
theorem CZ:∀ (a k:Nat),k<L (ξ a)->(ξ a)[k]?=J (UInt8.ofNat (mS a k))/\(a / 128 ^ k<=127↔k+1=L (ξ a))/\(0<k->0<a / 128 ^ k):=by
 intro a;induction a using Nat.strongRecOn with
 |_ a j =>
  intro k b;by_cases d:a<=127
  .rw[tD d]at b ⊢
   obtain rfl:k=0:=by simp at b;omega
   simp[mS,d]
  .rw[vC ϊ]at b ⊢
   cases k with
   |zero =>
    have l:=qC (a / 128);refine⟨?_,?_,fun h=>ϊ⟩
    .simp[mS,d]
    .simp only[Nat.pow_zero,kG,Ϧ]
     constructor
     .intro h;omega
     .intro h;omega
   |succ k =>
    have i:k<L (ξ (a / 128)):=by simpa using b
    obtain⟨g,c,f⟩:=j (a / 128) ϊ k i;have e:a / 128 / 128 ^ k=a / 128 ^ (k+1):=by rw[Nat.div_div_eq_div_mul,jn,kt]
    rw[e]at c f;refine⟨?_,?_,fun _=>?_⟩
    .rw[nh,g]
     unfold mS;rw[e]
    .rw[Ϧ]
     constructor
     .intro h;have:=c.1 h;omega
     .intro h;exact c.2 ϊ
    .cases k with
     |zero=>simp only[Nat.pow_one,jJ];omega
     |succ k=>exact f ϊ
theorem CY (a k:Nat):mS a k<=255/\(a / 128 ^ k<=127->mS a k=a / 128 ^ k)/\(127<a / 128 ^ k->128<=mS a k)/\mS a k % 128=a / 128 ^ k % 128:=by
 unfold mS;by_cases h:a / 128 ^ k<=127
 .rw[μ h];omega
 .rw[κ h];omega
theorem Ke (a k:Nat):a % 128 ^ (k+1)=a % 128 ^ k+a / 128 ^ k % 128*128 ^ k:=by
 rw[jn,Nat.mod_mul];rw[kt]
theorem Kn (j:Nat) (v x P:Int) (e:j<=56) (a:P=2 ^ j) (b:0<=v) (d:v<P) (f:0<=x) (g:x<=127):bits .or .i64 v (x*P)=v+x*P:=by
 have i:(0:Int)<P:=by rw[a];exact Int.pow_pos ϐ
 have h:P<=72057594037927936:=by
  rw[a,show(72057594037927936:Int)=2 ^ 56 from ϐ]
  exact_mod_cast wM ϐ e
 have k:x*P<=127*P:=Int.mul_le_mul_of_nonneg_right g ϊ;have c:0<=x*P:=Int.mul_nonneg f ϊ;rw[Dc .i64 63 ϐ wK v (x*P) b ϊ c ϊ];rw[bits_join .i64 63 ϐ wK j (x*P) v c (by rw[a];exact Int.mul_emod_left _ _) ϊ b (by rw[<-a];exact d) ϊ];omega
theorem Bp (P:Option Addr) (n Q p:Nat) (r pre post:γ) (b:Nat) (w:β) (v:r=pre++(ξ b++post)) (V:L pre=p) (U:L r=n) (aH:n<=1000000000) (B:Rd w (D P n Q) n 1 (η r)) (aD:b<=4611686018427387904) :
  Calls prog 249 #[D P n Q,IZ p] w fun e w'=>e=ŗ (.tuple #[IZ b,IZ ((p+L (ξ b):Nat):Int),IZ 0])/\w=w':=by
 have W:=qC b;have ao:p+L (ξ b)<=n:=by rw[<-U,v];simp;omega
 obtain⟨aq,off,rfl,aI,am⟩:=tb B ϊ;have aj:=fQ 8 b ϊ;have I:Hid (∀ a,a<L (ξ b)->w.cell? ⟨aq,off+(p+a),O⟩=J (ĭ .u8 (mS b a:Int))):=by
  intro a o;obtain⟨-,-,⟨aw,ad,F,ag⟩|⟨ax,aM,ad,F,ag,aJ,aF,al⟩⟩:=B
  .omega
  .simp only[Ξ,Ο,Addr.mk.injEq,hR,Ϯ]at F
   obtain⟨⟨rfl,rfl⟩,rfl⟩:=F;refine al (p+a) _ ?_;have ah:=(CZ b a o).1;have ai:r[p+a]?=J (UInt8.ofNat (mS b a)):=by
    rw[v,gO ϊ,V,Nat.add_sub_cancel_left,iX o,ah]
   simp only[η,jK,ai,Option.map_some];rw[Be _ (by have:=(CY b a).1;omega)]
 have aa:=Zh (CZ b);obtain⟨j,x⟩:∃ j,j=L (ξ b):=⟨_,rfl⟩;rw[<-x]at W ao aj I ⊢;have K:=Zh x;clear B U v V x am;have aN:(0:Int)<=(p:Int):=ϊ;have aQ:(p:Int)<=(n:Int):=ϊ;go_enter func249,ntmps249;go_wp2
 go_step3
 go_wp2
 go_step3
 go_wp2;go_loop [7,8] (fun l G=>∃ a:Nat,a<j/\G=IZ (a:Int)/\l=IZ ((b % 128 ^ a:Nat):Int)) (fun _ G=>10 - (intOf G).toNat)
 case atStart=>exact⟨0,W,rfl,by simp[Nat.mod_one]⟩
 case round =>
  obtain⟨a,o,rfl,rfl⟩:=hrel;have aE:=I.o a o;have s:=aa.o a (by rw[<-K.o];exact o);rw[<-K.o]at s;obtain⟨aS,i,k,H⟩:=CY b a;have E:=Ke b a;have T:b % 128 ^ a<128 ^ a:=lJ _ (ku ϐ);have S:b / 128 ^ a<=b:=Nat.div_le_self _ _;have aG:a<=8:=ϊ;have f:=s.2.1;have g:=s.2.2;obtain⟨d,m⟩:∃ d,128 ^ a=d:=⟨_,rfl⟩;have z:d=2 ^ (7*a):=by rw[<-m,show 128=2 ^ 7 from rfl,<-Nat.pow_mul]
  have aC:d<=72057594037927936:=by rw[z,show 72057594037927936=2 ^ 56 from rfl];exact wM ϐ ϊ
  have ak:0<d:=by rw[<-m];exact ku ϐ
  have y:(d:Int)=2 ^ (7*a):=by exact_mod_cast z
  rw[m]at E T S i k H f g ⊢;generalize mS b a=c at *;generalize ap:b / d=q at *;have ac:Hid (q<=127->b % 128 ^ (a+1)=b):=fun h=>Nat.mod_eq_of_lt (by rw[jn,m,kt];exact(Nat.div_lt_iff_lt_mul ak).1 ϊ);generalize b % d=l at *;have c0:(0:Int)<=(c:Int):=ϊ;have c1:(c:Int)<=255:=ϊ;have ar:=ND (c:Int) c0 ϊ;have X:(0:Int)<=(c:Int) % 128:=ϊ;have Y:(c:Int) % 128<=127:=ϊ;have au:=Kn (7*a) (l:Int) ((c:Int) % 128) d ϊ y ϊ ϊ X Y;have N:Hid ((l:Int)+(c:Int) % 128*d=((b % 128 ^ (a+1):Nat):Int)):=by
   show _=_;rw[E,<-H];push_cast;rfl
  have aK:(c:Int) % 128*d<=127*d:=Int.mul_le_mul_of_nonneg_right Y ϊ;have aL:0<=(c:Int) % 128*(d:Int):=Int.mul_nonneg X ϊ;have av:IntKind.i64.wrap ((c:Int) % 128*2 ^ (7*a))=(c:Int) % 128*d:=by rw[<-y,sn];omega
  generalize(c:Int) % 128*(d:Int)=Z at *;have aO:(p:Int)+a<(n:Int):=ϊ;have aP:(0:Int)<=(p:Int)+a:=ϊ;have az:((p:Int)+a).toNat=p+a:=ϊ;have aA:((a:Int)==(n:Int) - (p:Int))=false:=by simp only[gl,ne_eq];omega
  have aB:((a:Int)==9)=false:=by simp only[gl,ne_eq];omega
  have aT:(0:Int)<=7*(a:Int):=ϊ;have aU:7*(a:Int)<=64:=ϊ;have aV:(7*(a:Int)).toNat=7*a:=ϊ;have aW:IntKind.i64.wrap (7*(a:Int))=7*(a:Int):=Ϗ;have t:=Zh (Γ i (Γ k (Γ f g)));clear i k H s f g T E ap S m z y;by_cases A:q<=127
  .obtain⟨i,k,f,g⟩:=t.o
   have R:=i A;have ab:Hid (j=a+1):=(f.1 A).symm;have ae:(c:Int)<128:=ϊ;have u:Hid ((l:Int)+Z=(b:Int)):=N.o.trans (by rw[ac.o A]);have aX:¬(4611686018427387904:Int)<(l:Int)+Z:=by rw[u.o];omega
   have M:Hid ((p:Int)+(a+1)=((p+j:Nat):Int)):=by show _=_;rw[ab.o];omega
   have aR:IntKind.i64.wrap ((p:Int)+(a+1) - 1)=(p:Int)+a:=Ϗ;rcases oj a with h0|h0
   .have af:¬(1:Int)<(a:Int)+1:=ϊ
    clear i k f g R h0;go_wp2
    go_ret3
    exact⟨by rw[<-u.o,<-M.o];rfl,rfl⟩
   .have af:(1:Int)<(a:Int)+1:=ϊ
    have ay:((c:Int)==0)=false:=by simp only[gl,ne_eq];have:=g h0;omega
    clear i k f g R h0;go_wp2
    go_ret3
    exact⟨by rw[<-u.o,<-M.o];rfl,rfl⟩
  .have ae:¬(c:Int)<128:=by have:=t.o.2.1 ϊ;omega
   have an:a+1<j:=by have:=t.o.2.2.1;omega
   go_wp2
   go_round
   case rel=>exact⟨a+1,an,ϕ,iY (Value.int .i64) N.o⟩
   case measure=>simp[intOf];omega
theorem Bq (a:Option Addr) (n b p:Nat) (w:β) (f:p<=n) :
  Calls prog 206 #[ā #[D a n b,IZ p,IZ 0]] w fun e w'=>e=ŗ (.bool true)/\BQ w w':=by
 have c:(0:Int)<=(p:Int):=ϊ;have d:(p:Int)<=(n:Int):=ϊ;go_enter func206,ntmps206;go_wp2;go_ret;exact⟨by first|rfl|simp[c,d],ġ⟩
def FF (w w':β) (n p:Nat) (b:γ) (r:ε):Prop:= ∃ a c,r=ā #[D a n c,IZ p,IZ 0]/\Hi w.heap.size w' (fun d=>Rd d (D a n c) n 1 (η b))
def FI (n p:Nat) (a:γ) (w:β) (e:Ending) (w':β):Prop:= ∃ r,e=ŗ r/\FF w w' n p a r/\Below w.heap.size w w'
theorem uT (j:Option Addr) (n k p:Nat) (h:γ) (w:β) (aa:p<=n) (r:L h=n) (ac:n<=1000000000) (F:Rd w (D j n k) n 1 (η h)) :
  Calls prog 248 #[ā #[D j n k,IZ p,IZ 0]] w (FI n p h w):=by
 have K:=Zh (fun i (X:BQ w i)=>xU j n k h i r ϊ (F.below X));have P:=Zh (fun(a:Option Addr) (c:Nat) i=>Bq a n c p i aa);have Q:=Zh r;clear F r;go_enter func248,ntmps248;go_wp2_with fail
 have B:BQ w (å (å w (C #[D j n k,IZ p,IZ 0] 211)) (C #[D O 0 0,IZ 0,IZ 0] 211)):=ġ.alloc ύ _;refine(K.o _ B).mono ?_;rintro e m ⟨d,f,c1,rfl,s,E⟩;obtain rfl:f=n:=s.1.symm.trans Q.o;obtain⟨t,u,ad,ae,Z⟩:=fU E;obtain⟨⟨c0,x,c2⟩,⟨z,f1,f2⟩,-⟩:=Β t;obtain⟨⟨y,d1,d2⟩,⟨A,l,o⟩,-⟩:=Β u;have R:=Zh s;have T:=Zh t;have U:=Zh u;clear s t u E B;go_wp2_with fail
 have G:(ŝ m ⟨w.heap.size,0,O⟩ (D d f c1)).heap[w.heap.size]?=J (C #[D d f c1,IZ p,IZ 0] 211 (0,0)):=π _ _ 0 _ _ _ T.o;have H:=(ψ m ⟨w.heap.size,0,O⟩ (w.heap.size+1) (D d f c1) ύ).trans U.o;have q:BQ w (ŝ m ⟨w.heap.size,0,O⟩ (D d f c1)):=Z.setCell NZ _;have S:=Zh (R.o.hi.set (p:=⟨w.heap.size,0,O⟩) ϓ (D d f c1));generalize ŝ m ⟨w.heap.size,0,O⟩ (D d f c1)=W at *;clear c0 x c2 y d1 d2 z f1 f2 A l o;refine(P.o d c1 W).mono ?_;rintro e ab ⟨rfl,g⟩;have r0:=θ G g;have r1:=θ H g;obtain⟨⟨c0,x,c2⟩,⟨z,f1,f2⟩,-⟩:=Β r0;obtain⟨⟨y,d1,d2⟩,⟨A,l,o⟩,-⟩:=Β r1;have V:=Zh (jg r1 (D d f c1) (IZ p) (IZ 0));have I:=Zh (kL (q.trans (g.mono q.size)) (go _ 1) (D d f c1) (IZ p) (IZ 0));have N:=Zh (fun b Y=>kj ab (w.heap.size+1) b Y (D d f c1) (IZ p) (IZ 0));have M:=Zh (S.o.below g);clear r0 r1 G H q g;go_wp2;refine ϟ (v:=ā #[D d f c1,IZ p,IZ 0]) (jX (p:=2) (ty:=211) rfl _ _ (w.heap.size+1) 211 _ (0,0) _ rfl V.o pb rfl ϋ) rfl ⟨_,rfl,⟨d,c1,rfl,?_⟩,I.o⟩;refine Hi.mono (M.o.step ύ fun b l o=>N.o b ?_) ϓ;simp only[lz]at l;omega
def xt (n p:Nat) (b:γ) (v:ε) (w:β) (e:Ending) (w':β):Prop:= ∃ a c,e=ŗ (.tuple #[ā #[D a n c,IZ p,IZ 0],v])/\Hi w.heap.size w' (fun d=>Rd d (D a n c) n 1 (η b))/\Below w.heap.size w w'
theorem lr {lo:Nat} {w:β} {R:β->Prop} (h:Hi lo w R) {g:Nat} (hg:g<lo) (x y z:ε):Hi lo (ŝ (ŝ (ŝ w ⟨g,0,O⟩ x) ⟨g,1,O⟩ y) ⟨g,2,O⟩ z) R:=((h.set hg x).set hg y).set hg z
theorem ql (l:Option Addr) (n m p:Nat) (f pre post:γ) (i:Nat) (w:β) (y:f=pre++(ξ i++post)) (Y:i<=4611686018427387904) (aa:L pre=p) (j:L f=n) (H:n<=1000000000) (I:Rd w (D l n m) n 1 (η f)) :
  Calls prog 189 #[ā #[D l n m,IZ p,IZ 0]] w (xt n (p+L (ξ i)) f (IZ i) w):=by
 have ab:p<=n:=by rw[<-j,y];simp;omega
 have T:=Zh (fun(a:Option Addr) (c:Nat) h (q:Rd h (D a n c) n 1 (η f))=>Bp a n c p f pre post i h y aa j H q Y);have X:=Zh (fun h (Z:BQ w h)=>uT l n m p f h ab j H (I.below Z));have ae:=Zh j;clear I j;go_enter func189,ntmps189;go_wp2_with fail
 have z:BQ w (å (å w (C #[D l n m,IZ p,IZ 0] 211)) (C #[D O 0 0,IZ 0,IZ 0] 211)):=ġ.alloc ύ _;refine(X.o _ z).mono ?_;rintro e P ⟨_,rfl,⟨b,c1,rfl,G⟩,A⟩;obtain⟨r,K,ac,ad,F⟩:=fU A;obtain⟨⟨an,ao,ap⟩,⟨aj,f1,f2⟩,-⟩:=Β r;have M:=jg r (D b n c1) (IZ p) (IZ 0);have N:=(kj P w.heap.size (w.heap.size+1) ϊ (D b n c1) (IZ p) (IZ 0)).trans K;have B:=kL F NZ (D b n c1) (IZ p) (IZ 0);have s:=Zh (lr G (g:=w.heap.size) ϓ (D b n c1) (IZ p) (IZ 0));have t:=Zh M;have x:=Zh N;have Q:=Zh B;clear G r K A z F ac ad M N B;have S:=Zh (fun h (q:Rd h (D b n c1) n 1 (η f))=>T.o b c1 h q);go_wp2_with fail
 generalize ŝ (ŝ (ŝ P ⟨w.heap.size,0,O⟩ (D b n c1)) ⟨w.heap.size,1,O⟩ (IZ p)) ⟨w.heap.size,2,O⟩ (IZ 0)=k at *;refine(S.o k s.o.now).mono ?_;rintro e ar ⟨rfl,rfl⟩;obtain⟨d,o⟩:∃ d,d=p+L (ξ i):=⟨_,rfl⟩;rw[<-o];have V:=Zh o.symm;clear o;obtain⟨⟨aq,l1,l2⟩,⟨ak,al,am⟩,-⟩:=Β t.o;obtain⟨⟨af,d1,d2⟩,⟨ag,ah,ai⟩,-⟩:=Β x.o;have r0:(ŝ k ⟨w.heap.size,1,O⟩ (IZ ((d:Nat):Int))).heap[w.heap.size]?=J (C #[D b n c1,IZ ((d:Nat):Int),IZ 0] 211 (0,0)):=π _ _ 1 _ _ _ t.o;have r1:=(ψ k ⟨w.heap.size,1,O⟩ (w.heap.size+1) (IZ ((d:Nat):Int)) ύ).trans x.o;have E:BQ w (ŝ k ⟨w.heap.size,1,O⟩ (IZ ((d:Nat):Int))):=Q.o.setCell NZ _;have W:=Zh (jg r1 (D b n c1) (IZ ((d:Nat):Int)) (IZ 0));have R:=Zh (kL E (go _ 1) (D b n c1) (IZ ((d:Nat):Int)) (IZ 0));have U:=Zh (lr (s.o.set (p:=⟨w.heap.size,1,O⟩) ϓ (IZ ((d:Nat):Int))) (g:=w.heap.size+1) ϓ (D b n c1) (IZ ((d:Nat):Int)) (IZ 0));clear r0 r1 E;go_wp2;refine ϟ (v:=.tuple #[ā #[D b n c1,IZ ((d:Nat):Int),IZ 0],(IZ i)]) (gf (p:=2) (u:=3) (ty:=211) rfl _ _ (w.heap.size+1) 211 _ (0,0) _ rfl W.o pb rfl ϋ) rfl ⟨b,c1,by first|rfl|(rw[V.o]),U.o.mono ϓ,R.o⟩
theorem Dy {w:β} {b off c n p m:Nat} {a pre t post:γ} (f:a=pre++(t++post)) (j:L pre=p) (l:L t=m) (h:Rd w (D (J ⟨b,off,O⟩) n c) n 1 (η a)) (i:L a=n):Rd w (D (J ⟨b,off+p,O⟩) m (c - p)) m 1 (η t):=by
 have o:p+m<=n:=by rw[<-i,f];simp;omega
 have g:=vO h (k:=p) ϊ;have d:=vQ g (k:=m) ϊ;have e:(a.drop p).take m=t:=by rw[f,<-j,List.drop_left,<-l,sr]
 rw[e]at d;exact d
theorem GQ (u:Option Addr) (n c p r:Nat) (h pre t post:γ) (w:β) (v:h=pre++(Ζ t++post)) (q:L pre=p) (l:L h=n) (I:n<=1000000000) (m:Rd w (D u n c) n 1 (η h)) (H:L t<=r) :
  Calls prog 250 #[D u n c,IZ p,IZ r] w fun e w'=>e=ŗ (.tuple #[š (δ t),IZ ((p+L (Ζ t):Nat):Int),IZ 0])/\w=w':=by
 obtain⟨a,g⟩:∃ a,a=L t:=⟨_,rfl⟩;have i:h=pre++(ξ a++(t++post)):=by rw[v];unfold Ζ;rw[g];simp
 have K:=qC a;have G:p+L (ξ a)+a<=n:=by rw[<-l,i];simp;omega
 obtain⟨s,off,rfl,Q,F⟩:=tb m ϊ;unfold maxLen at F;have o:=Zh (Bp (J ⟨s,off,O⟩) n c p h pre (t++post) a w i q l I m ϊ);obtain⟨b,j⟩:∃ b,b=p+L (ξ a):=⟨_,rfl⟩;rw[<-j]at o G;have y:p+L (Ζ t)=b+a:=by unfold Ζ;rw[j,ω,<-g];omega
 rw[y];have z:Rd w (D (J ⟨s,off+b,O⟩) a (c - b)) a 1 (η t):=Dy (pre:=pre++ξ a) (post:=post) (by rw[i];simp) (by simp[q,j]) g.symm m l;rw[<-g]at H;have R:(a:Int)<=(r:Int):=ϊ;have S:¬(n:Int) - (b:Int)<(a:Int):=ϊ;have T:(b:Int)+(a:Int)<=(c:Int):=ϊ;have U:(0:Int)<=(b:Int):=ϊ;have V:(0:Int)<=(a:Int):=ϊ;have W:(b:Int)<=(c:Int):=ϊ;have X:(b:Int)<=(n:Int):=ϊ;have Y:(n:Int)<=1000000000:=ϊ;have Z:(a:Int)<=1000000000:=ϊ;have aa:(b:Int)<=1000000000:=ϊ;have ab:IntKind.i64.wrap ((b:Int)+(a:Int))=(b:Int)+(a:Int):=Ϗ;have k:=qI (P:=prog) w 31 9 5 gu nH lK (D (J ⟨s,off+b,O⟩) a (c - b)) t (by rw[<-g];exact z);have x:∀ (E:a=0) (f:Nat) (d:Option Addr),(convert 31 9 (D d 0 f)).run prog w=.ok (š (δ t)) w:=by
  intro E f d;have M:t=[]:=ko ϊ;subst M;exact qI (P:=prog) w 31 9 5 gu nH lK (D d 0 f) [] (pC d f)
 have B:=Zh x;have A:=Zh k;have hcap:c=b\/b<c:=ϊ;have N:a<=1000000000:=ϊ;clear z m v i q l g j y K k x;rcases hcap with hcap|hcap
 .obtain rfl:a=0:=ϊ
  have k:=fun f d=>B.o rfl f d;subst hcap;go_enter func250,ntmps250;go_wp2_with fail
  refine o.o.mono ?_;rintro e w' ⟨rfl,rfl⟩;go_wp2
  go_ret3
  exact⟨by first|rfl|simp,rfl⟩
 .have k:=A.o
  go_enter func250,ntmps250;go_wp2_with fail
  refine o.o.mono ?_;rintro e w' ⟨rfl,rfl⟩;go_wp2
  go_ret3
  exact⟨by first|rfl|simp,rfl⟩
theorem uS (k:Option Addr) (n l p:Nat) (f pre post:γ) (t:γ) (r:Nat) (w:β) (z:f=pre++(Ζ t++post)) (aa:L t<=r) (ab:L pre=p) (i:L f=n) (I:n<=1000000000) (K:Rd w (D k n l) n 1 (η f)) :
  Calls prog 190 #[ā #[D k n l,IZ p,IZ 0],IZ r] w (xt n (p+L (Ζ t)) f (š (δ t)) w):=by
 have ac:p<=n:=by rw[<-i,z];simp;omega
 have U:=Zh (fun(a:Option Addr) (c:Nat) h (o:Rd h (D a n c) n 1 (η f))=>GQ a n c p r f pre t post h z ab i I o aa);have Y:=Zh (fun h (Z:BQ w h)=>uT k n l p f h ac i I (K.below Z));have af:=Zh i;clear K i;go_enter func190,ntmps190;go_wp2_with fail
 have A:BQ w (å (å w (C #[D k n l,IZ p,IZ 0] 211)) (C #[D O 0 0,IZ 0,IZ 0] 211)):=ġ.alloc ύ _;refine(Y.o _ A).mono ?_;rintro e Q ⟨_,rfl,⟨b,c1,rfl,H⟩,B⟩;obtain⟨q,M,ad,ae,G⟩:=fU B;obtain⟨⟨ao,ap,aq⟩,⟨ak,f1,f2⟩,-⟩:=Β q;have N:=jg q (D b n c1) (IZ p) (IZ 0);have P:=(kj Q w.heap.size (w.heap.size+1) ϊ (D b n c1) (IZ p) (IZ 0)).trans M;have E:=kL G NZ (D b n c1) (IZ p) (IZ 0);have s:=Zh (lr H (g:=w.heap.size) ϓ (D b n c1) (IZ p) (IZ 0));have x:=Zh N;have y:=Zh P;have R:=Zh E;clear H q M B A G ad ae N P E;have T:=Zh (fun h (o:Rd h (D b n c1) n 1 (η f))=>U.o b c1 h o);go_wp2_with fail
 generalize ŝ (ŝ (ŝ Q ⟨w.heap.size,0,O⟩ (D b n c1)) ⟨w.heap.size,1,O⟩ (IZ p)) ⟨w.heap.size,2,O⟩ (IZ 0)=j at *;refine(T.o j s.o.now).mono ?_;rintro e au ⟨rfl,rfl⟩;obtain⟨d,m⟩:∃ d,d=p+L (Ζ t):=⟨_,rfl⟩;rw[<-m];have W:=Zh m.symm;clear m;obtain⟨⟨ar,l1,l2⟩,⟨al,am,an⟩,-⟩:=Β x.o;obtain⟨⟨ag,d1,d2⟩,⟨ah,ai,aj⟩,-⟩:=Β y.o;have r0:(ŝ j ⟨w.heap.size,1,O⟩ (IZ ((d:Nat):Int))).heap[w.heap.size]?=J (C #[D b n c1,IZ ((d:Nat):Int),IZ 0] 211 (0,0)):=π _ _ 1 _ _ _ x.o;have r1:=(ψ j ⟨w.heap.size,1,O⟩ (w.heap.size+1) (IZ ((d:Nat):Int)) ύ).trans y.o;have F:BQ w (ŝ j ⟨w.heap.size,1,O⟩ (IZ ((d:Nat):Int))):=R.o.setCell NZ _;have X:=Zh (jg r1 (D b n c1) (IZ ((d:Nat):Int)) (IZ 0));have S:=Zh (kL F (go _ 1) (D b n c1) (IZ ((d:Nat):Int)) (IZ 0));have V:=Zh (lr (s.o.set (p:=⟨w.heap.size,1,O⟩) ϓ (IZ ((d:Nat):Int))) (g:=w.heap.size+1) ϓ (D b n c1) (IZ ((d:Nat):Int)) (IZ 0));clear r0 r1 F;go_wp2;refine ϟ (v:=.tuple #[ā #[D b n c1,IZ ((d:Nat):Int),IZ 0],(š (δ t))]) (gf (p:=4) (u:=5) (ty:=211) rfl _ _ (w.heap.size+1) 211 _ (0,0) _ rfl X.o pb rfl ϋ) rfl ⟨b,c1,by first|rfl|(rw[W.o]),V.o.mono ϓ,S.o⟩
theorem xV (h:Option Addr) (n i p:Nat) (c pre post:γ) (t:γ) (w:β) (l:c=pre++(t++post)) (K:L t=32) (G:L pre=p) (j:L c=n) (ac:n<=1000000000) (H:Rd w (D h n i) n 1 (η c)) :
  Calls prog 205 #[ā #[D h n i,IZ p,IZ 0]] w (xt n (p+32) c (š (δ t)) w):=by
 have ar:p+32<=n:=by rw[<-j,l];simp;omega
 have S:=Zh l;have X:=Zh G;have q:=Zh K;have Z:=Zh (fun x (aa:BQ w x)=>uT h n i p c x ϊ j ac (H.below aa));have V:=Zh j;clear H j l G K;go_enter func205,ntmps205;go_wp2_with fail
 have y:BQ w (å (å w (C #[D h n i,IZ p,IZ 0] 211)) (C #[D O 0 0,IZ 0,IZ 0] 211)):=ġ.alloc ύ _;refine(Z.o _ y).mono ?_;rintro e Q ⟨_,rfl,⟨d,c1,rfl,F⟩,z⟩;obtain⟨o,I,ad,ae,E⟩:=fU z;obtain⟨⟨aC,aD,aE⟩,⟨aj,f1,f2⟩,-⟩:=Β o;have M:=jg o (D d n c1) (IZ p) (IZ 0);have N:=(kj Q w.heap.size (w.heap.size+1) ϊ (D d n c1) (IZ p) (IZ 0)).trans I;have A:=kL E NZ (D d n c1) (IZ p) (IZ 0);have k:=Zh (lr F (g:=w.heap.size) ϓ (D d n c1) (IZ p) (IZ 0));have r:=Zh M;have s:=Zh N;have R:=Zh A;clear F o I z y E ad ae M N A;go_upto_region 4 with (fail)
 generalize ŝ (ŝ (ŝ Q ⟨w.heap.size,0,O⟩ (D d n c1)) ⟨w.heap.size,1,O⟩ (IZ p)) ⟨w.heap.size,2,O⟩ (IZ 0)=f at *;obtain⟨a,m⟩:∃ a,a=p+32:=⟨_,rfl⟩;rw[<-m];have W:=Zh m.symm;obtain⟨b,off,rfl,aq,ab⟩:=tb k.o.now ϊ;unfold maxLen at ab;have ap:=qI (P:=prog) f 31 9 5 gu nH lK (D (J ⟨b,off+p,O⟩) 32 (c1 - p)) t (by rw[q.o];exact Dy S.o X.o q.o k.o.now V.o);have au:¬(n:Int) - (p:Int)<32:=ϊ;have ax:(p:Int)+32<=(c1:Int):=ϊ;have ay:(0:Int)<=(p:Int):=ϊ;have az:(p:Int)<=(c1:Int):=ϊ;have aA:(n:Int)<=1000000000:=ϊ;have aB:(p:Int)<=1000000000:=ϊ;have av:p<c1:=ϊ;have an:(p:Int)+32=(a:Int):=ϊ;have ao:a - p=32:=ϊ;have aw:((p:Int)+32 - (p:Int)).toNat=32:=ϊ;clear m;obtain⟨⟨aF,l1,l2⟩,⟨ak,al,am⟩,-⟩:=Β r.o;obtain⟨⟨af,d1,d2⟩,⟨ag,ah,ai⟩,-⟩:=Β s.o;have r0:(ŝ f ⟨w.heap.size,1,O⟩ (IZ ((a:Nat):Int))).heap[w.heap.size]?=J (C #[D (J ⟨b,off,O⟩) n c1,IZ ((a:Nat):Int),IZ 0] 211 (0,0)):=π _ _ 1 _ _ _ r.o;have r1:=(ψ f ⟨w.heap.size,1,O⟩ (w.heap.size+1) (IZ ((a:Nat):Int)) ύ).trans s.o;have B:BQ w (ŝ f ⟨w.heap.size,1,O⟩ (IZ ((a:Nat):Int))):=R.o.setCell NZ _;have Y:=Zh (jg r1 (D (J ⟨b,off,O⟩) n c1) (IZ ((a:Nat):Int)) (IZ 0));have T:=Zh (kL B (go _ 1) (D (J ⟨b,off,O⟩) n c1) (IZ ((a:Nat):Int)) (IZ 0));have U:=Zh (lr (k.o.set (p:=⟨w.heap.size,1,O⟩) ϓ (IZ ((a:Nat):Int))) (g:=w.heap.size+1) ϓ (D (J ⟨b,off,O⟩) n c1) (IZ ((a:Nat):Int)) (IZ 0));clear r0 r1 B;go_wp2;refine ϟ (v:=.tuple #[ā #[D (J ⟨b,off,O⟩) n c1,IZ ((a:Nat):Int),IZ 0],(š (δ t))]) (gf (p:=2) (u:=3) (ty:=211) rfl _ _ (w.heap.size+1) 211 _ (0,0) _ rfl Y.o pb rfl ϋ) rfl ⟨(J ⟨b,off,O⟩),c1,by first|rfl|(rw[W.o]),U.o.mono ϓ,T.o⟩
theorem rh (a:Option Addr) (n b:Nat) (w:β):Calls prog 131 #[ā #[D a n b,IZ n,IZ 0]] w fun e w'=>e=ŗ (IZ 0)/\BQ w w':=by
 have f:=Zh (fun g=>Bq a n b n g (Nat.le_refl n));go_enter func131,ntmps131;go_wp2_with fail
 refine(f.o _).mono ?_;rintro e j ⟨rfl,c⟩;obtain⟨d,k,h⟩:=Ϻ c;obtain⟨⟨c0,c1,c2⟩,⟨i,f1,f2⟩,-⟩:=Β d;clear d c;go_wp2;go_ret;exact⟨rfl,h⟩
