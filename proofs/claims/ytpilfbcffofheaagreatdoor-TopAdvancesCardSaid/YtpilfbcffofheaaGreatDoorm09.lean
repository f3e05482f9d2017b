/- Part 9 of the proof. -/
import Derived.Test.YtpilfbcffofheaaGreatDoorm05
set_option linter.all false
set_option maxRecDepth 100000
set_option maxHeartbeats 16000000
namespace Go.Proofs.YtpilfbcffofheaaGreatDoor
open Go.RowKit Go.Proofs.Tryz Go.Sort
open Value renaming slice->D,int->ĭ,string->š
open Option renaming none->O,some->J
open List renaming length->L
open Obj renaming cells->C
open Ending renaming returned->ŗ
def yl (n) (a:0<=n) (b:n<2 ^ 63):IntKind.i64.wrap n=n:=Ϗ
def Kz (x) (a:0<=x) (b:x<9223372036854775808):bits .and .i64 x 127=x % 128:=bits_mask .i64 63 ϐ yl 7 U x a U
def Qw (x) (a:0<=x) (b:x<256):bits .and .u8 x 127=x % 128:=bits_mask .u8 8 ϐ wraps_u8 7 U x a U
def Er (k j) (e:j<=k.bits) (f:∀ n:Int,0<=n->n<2 ^ j->k.wrap n=n) (x y) (g:0<=x) (h:x<2 ^ j) (i:0<=y) (l:y<2 ^ j):bits .or k x y=bits .or k y x:=by
 obtain⟨a,rfl⟩:=Int.eq_ofNat_of_zero_le g;obtain⟨b,rfl⟩:=Int.eq_ofNat_of_zero_le i;have c:a<2 ^ j:=by exact_mod_cast h
 have d:b<2 ^ j:=by exact_mod_cast l
 rw[(bits_nat k j e f a b c d).2,(bits_nat k j e f b a d c).2,Nat.or_comm]
def Qx (x) (a:0<=x) (b:x<128):bits .or .u8 x 128=x+128:=by
 rw[Er .u8 8 ϐ wraps_u8 x 128 a U ϐ ϐ,bits_join .u8 8 ϐ wraps_u8 7 128 x ϐ ϐ ϐ a U U];omega
def Cy (x:Nat) (h:x<256):ch (UInt8.ofNat x)=(x:Int):=by
 unfold ch;rw[yn];omega
def sI (x:Nat) (h:x<256):η [UInt8.ofNat x]=[ĭ .u8 (x:Int)]:=by
 simp only[η,ij,jQ];rw[Cy x h]
def zp (ao n cp) (b:γ) (w:β) (f:L b=n) (i:n<=1099511627776) (h:Rd w (D ao n cp) n 1 (η b)) :
  Calls prog 263 #[D ao n cp] w (rz b w):=by
 have⟨d,c⟩:=π h f;go_enter func263,ntmps263;go_wp2_with (at_builtin;refine hG rfl _ _ rfl _ _ _ 0 n _ b rfl (Μ.nil _ _) rfl c.o d.o U NZ ?_;intro e c2 j a g;simp only[iI,js]at a)
 go_ret;exact⟨e,n,c2,ύ,a,g⟩
def BD (b:Nat) (l:γ) (w:β) (e:Ending) (d:β):Prop:= ∃ a n c,e=ŗ (D a n c)/\Μ b d (D a n c) n l/\Below b w d
def CL (Z:Nat) (p:Option Addr) (n q:Nat) (xs:γ) (b:Nat) (w:β) (z:Μ Z w (D p n q) n xs) (X:n<=1099511627776) (Q:b<=4611686018427387904) (R:Z<=w.heap.size) :
  Calls prog 262 #[D p n q,G b] w (BD Z (xs++ο b) w):=by
 have k:=Zh z;clear z;go_enter func262,ntmps262;go_wp2;go_loopw [0,1] (fun I y wr=>∃ (x a:Nat) (m:Option Addr) (c1:Nat) (c:γ),y=G (x:Int)/\I=D m a c1/\x<=b/\a+x<=n+b/\Hid (Μ Z wr (D m a c1) a c)/\Hid (c++ο x=xs++ο b)/\Below Z w wr) (fun _ y _=>(intOf y).toNat)
 .exact⟨b,n,p,q,xs,rfl,rfl,NZ,NZ,k.o,rfl,ρ _ _⟩
 obtain⟨x,a,m,c1,c,rfl,rfl,V,T,g,f,h⟩:=hrel;have S:a<=4611687117939015680:=U;by_cases Y:127<x
 .have kx:(127:Int)<(x:Int):=U
  have M:(0:Int)<=(x:Int):=U;have W:(x:Int)<=4611686018427387904:=U;have N:=Kz (x:Int) M U;have A:IntKind.u8.wrap ((x:Int) % 128)=(x:Int) % 128:=by rw[IntKind.wrap_u8];omega
  have P:=Qx ((x:Int) % 128) U U;have H:=h.size;have v:Z<=wr.heap.size:=U;have j:Hid (c++[UInt8.ofNat (x % 128+128)]++ο (x / 128)=xs++ο b):=by
   show _=_;rw[<-f.o,vi Y];simp
  have d:[Value.int .u8 ((x:Int) % 128+128)]=η [UInt8.ofNat (x % 128+128)]:=by
   rw[sI _ U];simp
  have i:=Zh d;have u:a+1<=70368744177664:=by
   have r:=jp List.length f.o;have B:=g.o.1;have E:=k.o.1;have F:=Ϸ 8 b U;simp only[σ]at r;omega
  clear d;go_wp2_with (at_builtin;refine hG rfl (.tmp 7) (.tmp 12) rfl Z _ _ a 1 c [UInt8.ofNat (x % 128+128)] rfl (g.o.A _) rfl rfl (jl wr #[ĭ .u8 ((x:Int) % 128+128)] _ 1 _ rfl i.o ϐ) u ό ?_;intro o c2 K e t;have s:=(h.A v _).trans t)
  have l:=Zh e;go_roundw
  .exact⟨x / 128,a+1,o,c2,_,ϕ,rfl,U,U,l.o,j.o,s⟩
  exact ω
 .have kx:¬(127:Int)<(x:Int):=U
  have A:IntKind.u8.wrap (x:Int)=(x:Int):=by rw[IntKind.wrap_u8];omega
  have H:=h.size;have v:Z<=wr.heap.size:=U;have j:Hid (c++[UInt8.ofNat x]=xs++ο b):=by
   show _=_;rw[<-f.o,tk U]
  have d:[Value.int .u8 (x:Int)]=η [UInt8.ofNat x]:=by
   rw[sI _ U]
  have i:=Zh d;have u:a+1<=70368744177664:=by
   have r:=jp List.length f.o;have B:=g.o.1;have E:=k.o.1;have F:=Ϸ 8 b U;simp only[σ]at r;omega
  clear d;go_wp2_with (at_builtin;refine hG rfl (.tmp 16) (.tmp 19) rfl Z _ _ a 1 c [UInt8.ofNat x] rfl (g.o.A _) rfl rfl (jl wr #[ĭ .u8 (x:Int)] _ 1 _ rfl i.o ϐ) u ό ?_;intro o c2 K e t;have s:=(h.A v _).trans t)
  rw[j.o]at e;have l:=Zh e;clear e;go_ret;exact⟨o,a+1,c2,rfl,l.o,s⟩
def vP {ops rest o} {a:Act} {Q:Exit->Act->β->Prop} {w:β} (p:o.guard=O) (s x)
  (q:o.op=.call {callee:=.builtin .append,args:= #[s,x],argTypes:= #[31,9]})
  (base) (v:ε) (n m) (P N:γ) (r:a.eval s=v) (f:Μ base w v n P) (u:a.eval x=š (δ N)) (R:L N=m)
  (H:n+m<=70368744177664) (j:base<=w.heap.size)
  (h:∀ c d w',Μ base w' (D c (n+m) d) (n+m) (P++N)->Below base w w'->wpList prog ops Q rest (a.put o.dst (D c (n+m) d)) w'):wpList prog ops Q (o::rest) a w:=by
 obtain⟨B,hi,y,z,A⟩:=Ϩ lh;have t:Src prog 1 9 (š (δ N)) m (η N) w:=by
  have:=Src.ofString  w kH (δ N);rw[iG,R]at this;have e:(δ N).data.toList.map (fun b:UInt8=>Value.int .u8 b.toNat)=η N:=by rw[tO];rfl
  first|exact this|(rw[<-e];exact this)|(simpa[η,ch,tO,δ] using this)
 refine ϻ p s x _ 9 q base 5 B _ 1 1 gv hi y z A rfl v n _ r f.2 _ m _ u t ώ U j ?_;intro K w' i l F M;obtain⟨c,d,rfl⟩:=Η i;refine h c d w' ⟨by simp[f.1,R],by rw[qx];exact i⟩ ?_;refine RZ.grown l j fun I k=>?_;rcases f.2.2 with ⟨rfl,-⟩|⟨g,E,cur,rfl,hg,-⟩
 .simp[Value.ownBlock]at k
 .simp[Value.ownBlock]at k;omega
def IT (base ao n cp) (I t:γ) (m) (w:β) (c:Μ base w (D ao n cp) n I) (B:n<=1000000000) (a:L t=m) (A:m<=1000000000) (s:base<=w.heap.size) :
  Calls prog 275 #[D ao n cp,š (δ t)] w (BD base (I++Ξ t) w):=by
 have⟨k,i⟩:=π (CL base ao n cp I m w c U U s) a;have F:(δ t).size=m:=by rw[iG,a]
 have l:Hid (I++Ξ t=I++ο m++t):=by show _=_;unfold Ξ;rw[a,gP]
 have h:=Zh c.1;have z:=Ϸ 8 m U;go_enter func275,ntmps275;go_wp2_with fail
 refine k.o.M ?_;rintro e v ⟨x,g,c1,rfl,d,b⟩;have u:base<=v.heap.size:=ι b.size;have E:g<=1000000009:=by have p:=d.1;have y:=h.o;simp only[σ]at p;omega
 have j:=Zh d;go_wp2_with (at_builtin;refine vP rfl _ _ rfl base _ g m _ t rfl j.o rfl i.o U u ?_;intro o c2 H f r;have q:=b.trans r)
 rw[<-l.o]at f;go_ret;exact⟨o,_,c2,rfl,f,q⟩
def mG (l:γ) (w:β) (e:Ending) (b:β):Prop:= ∃ a n c,e=ŗ (.tuple #[D a n c,G 0])/\Μ w.heap.size b (D a n c) n l/\Below w.heap.size w b
def wJ (ao n cp) (b:γ) (a:Nat) (w:β) (c:L b=n) (v:n<=1000000000) (r:Rd w (D ao n cp) n 1 (η b)) (o:a<=4611686018427387904) :
  Calls prog 195 #[D ao n cp,G a] w (mG (b++ο a) w):=by
 have i:=Zh (zp ao n cp b w c U r);have u:(0:Int)<=(a:Int):=U;have h:=Zh c;go_enter func195,ntmps195;go_wp2_with fail
 refine i.o.M ?_;rintro e t ⟨k,g,c1,rfl,f,d⟩;obtain rfl:g=n:=f.1.symm.trans h.o;have j:=Zh (CL _ k g c1 b a t f U o d.size);go_wp2_with fail
 refine j.o.M ?_;rintro e x ⟨l,s,c2,rfl,q,p⟩;have m:=d.trans p;go_wp2;go_ret2;exact⟨l,s,c2,rfl,q,m⟩
def IS (v:ε) (z) (w:β) (h:z<0\/4611686018427387904<z) :
  Calls prog 195 #[v,G z] w fun e w'=>e=ŗ (.tuple #[D O 0 0,G 1])/\w=w':=by
 rcases h with h|h
 .go_enter func195,ntmps195
  go_wp2;go_ret2;exact⟨rfl,rfl⟩
 .have a:¬z<0:=U
  go_enter func195,ntmps195;go_wp2;go_ret2;exact⟨rfl,rfl⟩
def wM (ao n cp) (b t:γ) (w:β) (a:L b=n) (u:n<=1000000000) (p:Rd w (D ao n cp) n 1 (η b)) (q:L t<=1000000000) :
  Calls prog 209 #[D ao n cp,š (δ t)] w (rz (b++Ξ t) w):=by
 have⟨h,g⟩:=π (zp ao n cp b w a U p) a;go_enter func209,ntmps209;go_wp2_with fail
 refine h.o.M ?_;rintro e s ⟨j,f,c1,rfl,d,c⟩;obtain rfl:f=n:=d.1.symm.trans g.o;have i:=Zh (IT _ j f c1 b t _ s d U rfl q c.size);go_wp2_with fail
 refine i.o.M ?_;rintro e v ⟨k,r,c2,rfl,o,m⟩;have l:=c.trans m;go_wp2;go_ret;exact⟨k,r,c2,rfl,o,l⟩
def ϱ (l:List (γ)):Prop:= ∀ d∈l,L d=32
def sr {w:β} {ao n c} {l:List (γ)} (h:Rd w (D ao n c) n 1 (χ l)) (m:L l=n) (k hk):∃ b off,ao=J ⟨b,off,O⟩/\w.cell? ⟨b,off+k,O⟩=J (š (δ l[k])):=by
 obtain⟨i,o,⟨g,d,a,e⟩|⟨b,off,d,a,e,p,j,f⟩⟩:=h
 .omega
 .simp only[Χ,ϵ]at a
  obtain⟨rfl,rfl⟩:=a;exact⟨b,off,rfl,f k _ (by simp[χ,hk,Ϫ])⟩
def Be (ao n c) (l:List (γ)) (w:β) (i:L l=n) (h:Rd w (D ao n c) n 1 (χ l)) (o:ϱ l) :
  Calls prog 134 #[D ao n c] w fun e w'=>e=ŗ (.bool true)/\w=w':=by
 have p:=h.2.1;unfold maxLen at p;have k:=Zh (fun a d=>sr h i a d);have j:=Zh (fun a d=>o l[a] (Ψ d));have m:=Zh i;go_enter func134,ntmps134;go_wp2;go_loop [7] (fun f=>∃ a:Nat,a<=n/\f=G (a:Int)) (fun f=>n - (intOf f).toNat)
 .exact⟨0,Ζ _,rfl⟩
 obtain⟨a,d,rfl⟩:=hrel;by_cases t:a<n
 .have g:a<L l:=ι m.o
  obtain⟨b,off,rfl,s⟩:=k.o a g;have q:(a:Int)<(n:Int):=U;have u:(δ l[a]).size=32:=by rw[iG];exact j.o a g
  generalize δ _=r at *;go_wp2
  go_round
  .exact⟨a+1,U,ϕ⟩
  exact ω
 .have q:¬(a:Int)<(n:Int):=U
  go_wp2;exact gH
def Bf (l r:γ) (w:β) (c:L l=32) (d:L r=32) (f:Ϭ w) :
  Calls prog 143 #[š (δ l),š (δ r)] w fun e w'=>e=ŗ (š (δ (iR l r)))/\BQ w w':=by
 have a:=Zh (Fx l r w c d f);go_enter func143,ntmps143;go_wp2_with fail
 refine a.o.M ?_;rintro e g ⟨rfl,b⟩;go_wp2;go_ret;exact⟨rfl,b⟩
def rA (l:List (γ)) (w:β) (e:Ending) (b:β):Prop:= ∃ a n c,e=ŗ (D a n c)/\gf w.heap.size b (D a n c) n l/\Below w.heap.size w b
def vM (m:ε) (W:List (γ)) (w:β) (I:Ϭ w) (h:Ε w m W) (S:L W<=1000000000) (V:∀ d∈W,L d<=100000000) :
  Calls prog 70 #[m] w (rA (W.map ϴ) w):=by
 obtain⟨P,c,rfl,R,t⟩:=mr h;have z:=Zh I;have u:=Zh (fun a p=>V W[a] (Ψ p));go_enter func70,ntmps70;go_wp2;go_loopw [3,8] (fun M k wr=>∃ (a:Nat) (g:Option Addr) (c1:Nat),a<=L W/\k=G (a:Int)/\M=D g a c1/\Hid (gf w.heap.size wr (D g a c1) a ((W.take a).map ϴ))/\BQ w wr) (fun _ k _=>L W - (intOf k).toNat)
 .exact⟨0,O,0,Ζ _,rfl,rfl,gf.nil _ _,ρ _ _⟩
 obtain⟨a,g,c1,p,rfl,rfl,l,f⟩:=hrel;by_cases j:a<L W
 .obtain⟨b,off,da,dc,rfl,F,H⟩:=t.o a j
  have K:(a:Int)<(L W:Int):=U;have Q:=ζ f F;have x:=Zh (AM da _ dc W[a] wr rfl (ι (u.o a j)) (H.B f) (z.o.B f));have y:Hid ((W.take (a+1)).map ϴ=(W.take a).map ϴ++[ϴ W[a]]):=by show _=_;rw[jt j,ng];rfl
  generalize (L W[a])=q at *;go_wp2_with fail
  refine x.o.M ?_;rintro e N ⟨rfl,o⟩;have n:=f.t o;have v:=Zh ((l.o.B o).A (C #[š (δ (ϴ W[a]))] 9));go_wp2_with (at_builtin;refine tP rfl _ _ rfl _ _ _ a 1 _ _ rfl v.o rfl rfl (qR N _ _) U (by have:=n.size;simp;omega) ?_;intro A c2 T s E;have B:=(n.al _).trans E)
  rw[<-y.o]at s;have i:=Zh s;go_roundw
  .exact⟨ _,A,c2,U,ϕ,rfl,i.o,B⟩
  exact ω
 .obtain rfl:a=L W:=U
  have K:¬(L W:Int)<(L W:Int):=U;have r:=l.o;rw[nL]at r;have i:=Zh r;go_wp2;go_ret;exact⟨g,_,c1,rfl,i.o,f⟩
def He (b:Nat) (l:List (γ)) (w:β) (e:Ending) (d:β):Prop:= ∃ a n c,e=ŗ (D a n c)/\gf b d (D a n c) n l/\Below b w d
def Qt (base ao n c) (ď:List (γ)) (x y:γ) (w:β) (Q:L x=32) (hy:L y=32) (l:L ď=n) (i:gf base w (D ao (n+2) c) (n+2) (ď++[x,y])) (K:base<=w.heap.size) (V:n<=1000000000) (P:Ϭ w) :
  Calls prog 208 #[D ao (n+2) c] w (He base (ď++[iR x y]) w):=by
 obtain⟨g,S,s⟩:=kO i.2 U;simp only[Χ,ϵ]at s;obtain⟨rfl,rfl⟩:=s;obtain⟨f,B,H,T,W,M⟩:=vl i.2 n U;obtain⟨o,-⟩:=vl i.2 (n+1) U;rw[show(χ (ď++[x,y]))[n]?=J (š (δ x))from by simp[χ,Ϫ,<-l]]at f;rw[show(χ (ď++[x,y]))[n+1]?=J (š (δ y))from by simp[χ,Ϫ,<-l]]at o;have u:=Zh (fun b (d:BQ w b)=>Bf x y b Q hy (P.B d));have⟨v,j⟩:=π i l;unfold maxLen at M;have X:IntKind.i64.wrap ((n:Int)+2 - 2)=(n:Int):=Ϗ;have Y:IntKind.i64.wrap (n:Int)=(n:Int):=Ϗ;have Z:IntKind.i64.wrap ((n:Int)+1)=(n:Int)+1:=Ϗ;have aa:((n:Int)+1).toNat=n+1:=U;have ab:(0:Int)<=(n:Int)+1:=U;have ac:(n:Int)+1<(n:Int)+2:=U;have ad:(n:Int)<(n:Int)+2:=U;have ae:(n:Int)+1<=(c:Int):=U;go_enter func208,ntmps208;go_wp2;refine ϯ (fun b=>BQ w b) 13 ϋ ?_;have a:BQ w w.drew:=RZ.drew;refine Zf 0 a ?_;refine Zf 1 a ?_;refine Zf 2 a ?_;refine Zf 3 a ?_;refine Zf 4 a ?_;refine Zk 5 a ?_ (hy:=by intro b d;have A:=ζ d f;go_simp;try with_reducible rfl);refine Zf 6 a ?_;refine Zf 7 a ?_;refine Zf 8 a ?_;refine Zf 9 a ?_;refine Zk 10 a ?_ (hy:=by intro b d;have A:=ζ d o;go_simp;try with_reducible rfl);refine Κ (fuel:=2) 11 ϋ rfl ?_;intro a0 E;go_simp;refine(u.o _ a).M ?_;rintro e R ⟨rfl,F⟩;have h:BQ w R:=a.trans F;refine E _ _ h ?_;try simp only[Act.put]
 refine Zf 12 h ?_;have m:=Zh (v.o.B h);obtain⟨f,B,-,a1,-,-⟩:=vl m.o.2 n U;rw[show(χ (ď++[x,y]))[n]?=J (š (δ x))from by simp[χ,Ϫ,<-j.o]]at f;refine Zl ?_;refine Zd ?_;have N:=Et m.o.2 n U (š (δ (iR x y)));have r:=Ap (k:=n+1) N U;have I:((χ (ď++[x,y])).set n (š (δ (iR x y)))).take ((n+1)*1)=χ (ď++[iR x y]):=by
  have q:L (χ ď)=n:=by simp[χ,j.o]
  rw[nE,List.set_append_right _ _ U,q,kj,oR,List.take_append,gF U,q];simp[χ,Ϫ]
 rw[I]at r;have⟨z,t⟩:=π r ((h.M K).S (p:=⟨g,n,O⟩) H (š (δ (iR x y))));go_wp2;go_ret;exact⟨ _,_,c,rfl,⟨by simp[j.o],z.o⟩,t.o⟩
def kr:List (γ)->List (γ)
 |b::a::t=>iR a b::t
 |l=>l
def pc (n:Nat):Nat:=if n=0 then 0 else n % 2+pc (n / 2)
 termination_by n
 decreasing_by omega
def oJ (n) (h:0<n):pc n=n % 2+pc (n / 2):=by rw[pc,κ U]
theorem vm:pc 0=0:=by rw[pc];rfl
def ja (j:Nat) (l:List (γ)):List (γ):=if j % 2=1 then ja (j / 2) (kr l)else l
 termination_by j
 decreasing_by omega
def pg {j l} (h:j % 2=1):ja j l=ja (j / 2) (kr l):=by rw[ja,μ h]
def pf {j l} (h:j % 2≠1):ja j l=l:=by rw[ja,κ h]
def uN {l} (h:2<=L l):L (kr l)=L l - 1:=by
 match l,h with
 |b::a::t,_=>simp[kr]
def wN {l:List (γ)} (h:2<=L l):∃ b a t,l=b::a::t:=by
 match l,h with
 |b::a::t,_=>exact⟨b,a,t,rfl⟩
def zt {l:List (γ)} (h:ϱ l):ϱ (kr l):=by
 match l with
 |[]=>exact h
 |[a]=>exact h
 |b::a::t =>
  intro d hd;rcases hH.1 hd with rfl|hd
  .exact iq _
  .exact h d (by simp[hd])
def IB:∀ (j:Nat) (l:List (γ)),L l=pc j+1->L (ja j l)=pc (j+1):=by
 intro j;induction j using Nat.strongRecOn with
 |_ j e =>
  intro l d;by_cases h:j % 2=1
  .have b:=oJ j U
   have a:=oJ (j+1) U;rw[show(j+1) % 2=0 from U,show(j+1) / 2=j / 2+1 from U]at a;rw[pg h,e (j / 2) U _ (by rw[uN U];omega)];omega
  .rw[pf h,d]
   have a:=oJ (j+1) U;rw[show(j+1) % 2=1 from U,show(j+1) / 2=j / 2 from U]at a;by_cases c:j=0
   .subst c;rw[a];rw[vm]
   .have b:=oJ j U
    omega
def ir (a:List (γ)):Nat->List (γ)
 |0=>[]
 |k+1=>ja k (a.getD k []::ir a k)
theorem rc (ds):∀ k,L (ir ds k)=pc k
 |0=>by rw[vm];rfl
 |k+1=>by unfold ir;exact IB k _ (by simp[rc ds k])
def IA:∀ (j:Nat) (l:List (γ)),ϱ l->ϱ (ja j l):=by
 intro j;induction j using Nat.strongRecOn with
 |_ j b =>
  intro l a;by_cases h:j % 2=1
  .rw[pg h];exact b _ U _ (zt a)
  .rw[pf h];exact a
def Dw {b:List (γ)} (h:ϱ b) {k} (a:k<L b):L (b.getD k [])=32:=by
 rw[fX,Ρ a];exact h _ (Ψ a)
theorem xU {a:List (γ)} (h:ϱ a):∀ k,k<=L a->ϱ (ir a k)
 |0,_=>fun d hd=>by cases hd
 |k+1,hk=>by
  unfold ir;refine IA k _ ?_;intro d hd;rcases hH.1 hd with rfl|hd
  .exact Dw h U
  .exact xU h k U d hd
def Mx (n):pc n<=n:=by
 induction n using Nat.strongRecOn with
 |_ n a =>
  by_cases h:n=0
  .subst h;rw[vm];omega
  .have:=oJ n U
   have:=a (n / 2) U;omega
def xu {n} (h:0<n):0<pc n:=by
 induction n using Nat.strongRecOn with
 |_ n a =>
  have:=oJ n h;by_cases b:n % 2=1
  .omega
  .have:=a (n / 2) U U;omega
def iA:List (γ)->γ
 |[]=>[]
 |[a]=>a
 |b::a::t=>iA (iR a b::t)
 termination_by l=>L l
theorem CM {l} (h:2<=L l):iA l=iA (kr l):=by
 obtain⟨b,a,c,rfl⟩:=wN h;rw[iA];rfl
def qA (a):iA [a]=a:=by rw[iA]
def Υ (a:List (γ)):γ:=if a=[]then kg []else iA (ir a (L a))
def Fg {l b a t} (h:l=b::a::t):l.reverse=t.reverse++[a,b]/\(kr l).reverse=t.reverse++[iR a b]:=by
 subst h;simp[kr]
def Cg (j:Nat) (h:j<=1099511627776):bits .and .i64 (j:Int) 1=((j % 2:Nat):Int):=by
 have:=bits_mask _ _ ϐ yl 1 U j U U;simpa using this
def Bg (T n c) (ds:List (γ)) (w:β) (K:L ds=n) (a9:Rd w (D T n c) n 1 (χ ds)) (av:ϱ ds) (ay:n<=1000000000) (aB:Ϭ w) :
  Calls prog 136 #[D T n c] w fun e w'=>e=ŗ (š (δ (Υ ds)))/\BQ w w':=by
 have aD:=Zh (fun a af=>sr a9 K a af);have⟨aC,aH⟩:=π av K;by_cases az:n=0
 .subst az
  have a3:=kS K;have aO:=Zh (tF O 0 0 _ w rfl U (pX _ _) aB);have V:Hid (Υ ds=kg []):=by show _=_;rw[Υ,μ a3]
  go_enter func136,ntmps136;go_wp2_with fail
  refine aO.o.M ?_;rintro e br ⟨rfl,aY⟩;go_wp2;go_ret;rw[V.o];exact⟨rfl,aY⟩
 .have bq:((n:Int)==0)=false:=by simp only[fU,ne_eq];omega
  have V:Hid (Υ ds=iA (ir ds n)):=by show _=_;rw[Υ,κ (fun e=>az (by rw[<-K,e];rfl)),K]
  have ap:=Zh (fun a=>rc ds a);have ao:=Zh (fun a (af:a<=n)=>xU av a U);have aP:Hid (∀ a,ir ds (a+1)=ja a (ds.getD a []::ir ds a)):=fun a=>rfl;have an:=Zh (fun T n c bc x y ar N P ay a6 E a5 (aX:BQ w ar)=>Qt w.heap.size T n c bc x y ar N P ay a6 E a5 (aB.B aX));go_enter func136,ntmps136;go_wp2;go_loopw [3,12] (fun z v wr=>∃ (a j:Nat) (S:Option Addr) (c1:Nat) (g:List (γ)),a<=n/\v=G (a:Int)/\z=D S j c1/\j<=a/\Hid (g=ir ds a)/\Hid (gf w.heap.size wr (D S j c1) j g.reverse)/\BQ w wr) (fun _ v _=>n - (intOf v).toNat)
  .exact⟨0,0,O,0,_,Ζ _,rfl,rfl,NZ,rfl,gf.nil _ _,ρ _ _⟩
  obtain⟨a,j,S,c1,g,af,rfl,rfl,bj,B,X,E⟩:=hrel;by_cases bi:a<n
  .have ag:a<L ds:=ι aH.o
   obtain⟨b0,off,rfl,ax⟩:=aD.o a ag;have bb:(a:Int)<(n:Int):=U;have bn:(0:Int)<=(a:Int):=U;have aQ:=ζ E ax;have a2:=Dw aC.o ag;rw[show ds[a]=ds.getD a []from by rw[fX,Ρ ag];rfl]at aQ ax;have aq:=Zh (aP.o a);have aW:L g=pc a:=by rw[B.o];exact ap.o a
   have ad:ϱ g:=by rw[B.o];exact ao.o a U
   rw[<-B.o]at aq;have⟨aM,aL,aE⟩:=ϲ aW ad a2;generalize ds.getD a _=dk at *;obtain⟨F,rfl⟩:∃ F:β,F=wr:=⟨_,rfl⟩;have ba:=E.size;go_wp2_with (at_builtin;refine tP rfl _ _ rfl _ _ _ j 1 _ _ rfl (X.o.A _) rfl rfl (qR F _ _) U ό ?_;intro au c2 bd a7 aZ;have aT:=(E.A ba _).trans aZ)
   have aJ:Hid (gf w.heap.size bd (D au (j+1) c2) (j+1) (dk::g).reverse):=by show gf _ _ _ _ _;rw[List.reverse_cons];exact a7
   go_loopw [3,5] (fun z v Q=>∃ (i q:Nat) (k:Option Addr) (m:Nat) (f:List (γ)),i<=a/\v=G (i:Int)/\z=D k q m/\q<=i+1/\q<=j+1/\Hid (ja i f=ja a (dk::g))/\Hid (L f=pc i+1/\ϱ f)/\Hid (gf w.heap.size Q (D k q m) q f.reverse)/\BQ w Q) (fun _ v _=>(intOf v).toNat)
   .exact⟨a,_,au,c2,_,NZ,rfl,rfl,U,NZ,rfl,⟨by simp[aM.o],fun b1 hd=>by
     rcases hH.1 hd with rfl|hd
     .exact aE.o
     .exact aL.o b1 hd⟩,aJ.o,aT⟩
   obtain⟨i,q,k,m,f,bh,rfl,rfl,bm,a8,H,A,o,r⟩:=hrel;have aw:=Cg i U;have s:=o.o.1;simp only[qn]at s;by_cases aA:i % 2=1
   .have ab:((i % 2:Nat):Int)=1:=U
    rw[ab]at aw;have bk:=oJ i U;have ai:2<=L f:=ι A.o.1;obtain⟨y,x,am,p⟩:=wN ai;obtain⟨r1,r2⟩:=Fg p;have t:=A.o.2;have N:=t x (by rw[p];simp);have P:=t y (by rw[p];simp);obtain⟨h,ak⟩:∃ h,q=h+2:=⟨q - 2,U⟩;subst ak;have aj:L am.reverse=h:=by rw[p]at s;simp at s ⊢;omega
    have M:=o.o;rw[r1]at M;have b:=Zh (an.o k h m _ x y wr N P aj M r.size U r);have W:Hid (ja (i / 2) (kr f)=ja a (dk::g)):=by show _=_;rw[<-pg aA];exact H.o
    have d:Hid (L (kr f)=pc (i / 2)+1/\ϱ (kr f)):=⟨by rw[uN ai,A.o.1];omega,zt t⟩;have Y:=Zh r2;have bf:IntKind.i64.wrap ((h:Int)+2)=(h:Int)+2:=Ϗ;go_wp2_with fail
    refine b.o.M ?_;rintro e be ⟨Z,al,aa,rfl,u,ae⟩;have ac:=r.trans ae;rw[<-Y.o]at u;have ah:al=h+1:=by have I:=u.1;have aR:=d.o.1;have bg:=A.o.1;simp only[qn]at I;have aS:=o.o.1;simp only[qn]at aS;omega
    subst ah;have R:=Zh u;go_wp2;go_roundw
    .exact⟨ _,_,Z,aa,_,U,ϕ,rfl,by have:=d.o.1;have:=R.o.1;have:=Mx (i / 2);simp only[qn]at *;omega,U,W.o,d.o,R.o,ac⟩
    exact ω
   .have ab:((i % 2:Nat):Int)=0:=U
    rw[ab]at aw;have a1:=pf (l:=f) aA;have aK:=Zh (a1.symm.trans H.o);go_wp2;go_roundw
    .exact⟨ _,q,k,m,f,U,ϕ,rfl,U,aK.o.trans aq.o.symm,o.o,r⟩
    exact ω
  .obtain rfl:a=n:=U
   have bb:¬(a:Int)<(a:Int):=U;obtain⟨F,rfl⟩:∃ F:β,F=wr:=⟨_,rfl⟩;have aV:0<L g:=by rw[B.o,ap.o a];exact xu U
   have ad:ϱ g:=by rw[B.o];exact ao.o a NZ
   have aF:Hid (Υ ds=iA g):=by show _=_;rw[V.o,B.o]
   have aN:Hid (0<L g/\ϱ g):=⟨aV,ad⟩;go_wp2;go_loopw [3] (fun z Q=>∃ (q:Nat) (k:Option Addr) (m:Nat) (f:List (γ)),z=D k q m/\q<=j/\0<q/\Hid (iA f=iA g)/\Hid (ϱ f)/\Hid (gf w.heap.size Q (D k q m) q f.reverse)/\BQ w Q) (fun z _=>gn z)
   .exact⟨j,S,c1,g,rfl,NZ,by have I:=X.o.1;simp only[qn]at I;omega,rfl,aN.o.2,X.o,E⟩
   obtain⟨q,k,m,f,rfl,a8,bl,H,A,o,r⟩:=hrel;have s:=o.o.1;simp only[qn]at s;by_cases ai:2<=q
   .obtain⟨y,x,am,p⟩:=wN (l:=f) U
    obtain⟨r1,r2⟩:=Fg p;have t:=A.o;have N:=t x (by rw[p];simp);have P:=t y (by rw[p];simp);obtain⟨h,ak⟩:∃ h,q=h+2:=⟨q - 2,U⟩;subst ak;have aj:L am.reverse=h:=by rw[p]at s;simp at s ⊢;omega
    have M:=o.o;rw[r1]at M;have b:=Zh (an.o k h m _ x y wr N P aj M r.size U r);have W:Hid (iA (kr f)=iA g):=by show _=_;rw[<-CM U];exact H.o
    have d:Hid (ϱ (kr f)):=zt t;have aI:Hid (L (kr f)=h+1):=by show _=_;rw[uN U];omega
    have Y:=Zh r2;have bo:(1:Int)<(h:Int)+2:=U;go_wp2_with fail
    refine b.o.M ?_;rintro e be ⟨Z,al,aa,rfl,u,ae⟩;have ac:=r.trans ae;rw[<-Y.o]at u;have ah:al=h+1:=by have I:=u.1;have aR:=aI.o;simp only[qn]at I;omega
    subst ah;have R:=Zh u;go_wp2;go_roundw
    .exact⟨ _,Z,aa,_,rfl,U,U,W.o,d.o,R.o,ac⟩
    simp[gn]
   .obtain rfl:q=1:=U
    have aU:∃ x,f=[x]:=by
     match f,s with
     |[x],_=>exact⟨x,rfl⟩
    obtain⟨x,rfl⟩:=aU;have a4:Υ ds=x:=by rw[aF.o,<-H.o,qA]
    have aG:=Zh a4;obtain⟨b3,bp,rfl,a0⟩:=sr o.o.rd o.o.1 0 ύ;simp only[List.reverse_singleton,oU,kG]at a0;go_wp2;go_ret;rw[aG.o];exact⟨rfl,r⟩
def ye (ao n c) (l:List (γ)) (w:β) (b:L l=n) (d:Rd w (D ao n c) n 1 (χ l)) (a:ϱ l) (i:n<=1000000000) (j:Ϭ w) :
  Calls prog 114 #[D ao n c] w fun e w'=>e=ŗ (.tuple #[š (δ (Υ l)),G 0])/\BQ w w':=by
 have⟨f,g⟩:=π (Be ao n c l w b d a) (Bg ao n c l w b d a i j);go_enter func114,ntmps114;go_wp2_with fail
 refine f.o.M ?_;rintro e w' ⟨rfl,rfl⟩;go_wp2_with fail
 refine g.o.M ?_;rintro e k ⟨rfl,h⟩;go_wp2;go_ret2;exact⟨rfl,h⟩
def ob (a k:Nat):Nat:=if a / 128 ^ k<=127 then a / 128 ^ k else a / 128 ^ k % 128+128
def En:∀ (a k:Nat),k<L (ο a)->(ο a)[k]?=J (UInt8.ofNat (ob a k))/\(a / 128 ^ k<=127↔k+1=L (ο a))/\(0<k->0<a / 128 ^ k):=by
 intro a;induction a using Nat.strongRecOn with
 |_ a j =>
  intro k b;by_cases d:a<=127
  .rw[tk d]at b ⊢
   obtain rfl:k=0:=by simp at b;omega
   simp[ob,d]
  .rw[vi U]at b ⊢
   cases k with
   |zero =>
    have l:=vj (a / 128);refine⟨?_,?_,fun h=>U⟩
    .simp[ob,d]
    .simp only[Nat.pow_zero,yA,ϥ]
     constructor
     .intro h;omega
     .intro h;omega
   |succ k =>
    have i:k<L (ο (a / 128)):=by simpa using b
    obtain⟨g,c,f⟩:=j _ U k i;have e:a / 128 / 128 ^ k=a / 128 ^ (k+1):=by rw[Nat.div_div_eq_div_mul,jq,ki]
    rw[e]at c f;refine⟨?_,?_,fun _=>?_⟩
    .rw[ol,g]
     unfold ob;rw[e]
    .rw[ϥ]
     constructor
     .intro h;have:=c.1 h;omega
     .intro h;exact c.2 U
    .cases k with
     |zero=>simp only[Nat.pow_one,iI];omega
     |succ k=>exact f U
def Em (V k):ob V k<=255/\(V / 128 ^ k<=127->ob V k=V / 128 ^ k)/\(127<V / 128 ^ k->128<=ob V k)/\ob V k % 128=V / 128 ^ k % 128:=by
 unfold ob;by_cases h:V / 128 ^ k<=127
 .rw[μ h];omega
 .rw[κ h];omega
def LZ (V k):V % 128 ^ (k+1)=V % 128 ^ k+V / 128 ^ k % 128*128 ^ k:=by
 rw[jq,Nat.mod_mul];rw[ki]
def Mi (j v x P) (e:j<=56) (a:P=2 ^ j) (b:0<=v) (d:v<P) (f:0<=x) (g:x<=127):bits .or .i64 v (x*P)=v+x*P:=by
 have i:(0:Int)<P:=by rw[a];exact Int.pow_pos ϐ
 have h:P<=72057594037927936:=by
  rw[a,show(72057594037927936:Int)=2 ^ 56 from ϐ]
  exact_mod_cast wg ϐ e
 have k:x*P<=127*P:=Int.mul_le_mul_of_nonneg_right g U;have c:0<=x*P:=Int.mul_nonneg f U;rw[Er .i64 63 ϐ yl v (x*P) b U c U];rw[bits_join .i64 63 ϐ yl j (x*P) v c (by rw[a];exact Int.mul_emod_left _ _) U b (by rw[<-a];exact d) U];omega
def CJ (ao n cp p) (r pre ď:γ) (b) (w:β) (v:r=pre++(ο b++ď)) (T:L pre=p) (S:L r=n) (aG:n<=1000000000) (B:Rd w (D ao n cp) n 1 (η r)) (aC:b<=4611686018427387904) :
  Calls prog 249 #[D ao n cp,G p] w fun e w'=>e=ŗ (.tuple #[G b,G ((p+L (ο b):Nat):Int),G 0])/\w=w':=by
 have h:=vj b;have am:p+L (ο b)<=n:=by rw[<-S,v];simp;omega
 obtain⟨ap,off,rfl,aH,ak⟩:=uH B U;have ah:=Ϸ 8 b U;have I:Hid (∀ a,a<L (ο b)->w.cell? ⟨ap,off+(p+a),O⟩=J (ĭ .u8 (ob b a:Int))):=by
  intro a o;obtain⟨-,-,⟨av,ab,F,ae⟩|⟨aw,aL,ab,F,ae,aI,aE,aj⟩⟩:=B
  .omega
  .simp only[Χ,Φ,Addr.mk.injEq,it,ϵ]at F
   obtain⟨⟨rfl,rfl⟩,rfl⟩:=F;refine aj _ _ ?_;have af:=(En b a o).1;have ag:r[p+a]?=J (UInt8.ofNat (ob b a)):=by
    rw[v,hL U,T,Nat.add_sub_cancel_left,je o,af]
   simp only[η,jP,ag,Option.map_some];rw[Cy _ (ι (Em b a).1)]
 have a1:=Zh (En b);obtain⟨j,x⟩:∃ j,j=L (ο b):=⟨_,rfl⟩;rw[<-x]at h am ah I ⊢;have K:=Zh x;clear B S v T x ak;have aO:(p:Int)<=(n:Int):=U;go_enter func249,ntmps249;go_wp2
 go_step3
 go_wp2
 go_step3
 go_wp2;go_loop [7,8] (fun l Y=>∃ a:Nat,a<j/\Y=G (a:Int)/\l=G ((b % 128 ^ a:Nat):Int)) (fun _ Y=>10 - (intOf Y).toNat)
 .exact⟨0,h,rfl,by simp[Nat.mod_one]⟩
 obtain⟨a,o,rfl,rfl⟩:=hrel;have aD:=I.o a o;have s:=a1.o a (by rw[<-K.o];exact o);rw[<-K.o]at s;obtain⟨aQ,i,k,H⟩:=Em b a;have E:=LZ b a;have R:b % 128 ^ a<128 ^ a:=lI _ (kV ϐ);have Q:b / 128 ^ a<=b:=Nat.div_le_self _ _;have aF:a<=8:=U;have f:=s.2.1;have g:=s.2.2;obtain⟨d,m⟩:∃ d,128 ^ a=d:=⟨_,rfl⟩;have z:d=2 ^ (7*a):=by rw[<-m,show 128=2 ^ 7 from rfl,<-Nat.pow_mul]
 have aB:d<=72057594037927936:=by rw[z,show 72057594037927936=2 ^ 56 from rfl];exact wg ϐ U
 have ai:0<d:=by rw[<-m];exact kV ϐ
 have y:(d:Int)=2 ^ (7*a):=by exact_mod_cast z
 rw[m]at E R Q i k H f g ⊢;generalize ob b a=c at *;generalize an:b / d=q at *;have aa:Hid (q<=127->b % 128 ^ (a+1)=b):=fun a0=>Nat.mod_eq_of_lt (by rw[jq,m,ki];exact(Nat.div_lt_iff_lt_mul ai).1 U);generalize b % d=l at *;have c0:(0:Int)<=(c:Int):=U;have aq:=Qw c c0 U;have V:(0:Int)<=(c:Int) % 128:=U;have W:(c:Int) % 128<=127:=U;have ar:=Mi _ l _ d U y U U V W;have N:Hid ((l:Int)+(c:Int) % 128*d=((b % 128 ^ (a+1):Nat):Int)):=by
  show _=_;rw[E,<-H];push_cast;rfl
 have aJ:(c:Int) % 128*d<=127*d:=Int.mul_le_mul_of_nonneg_right W U;have aK:0<=(c:Int) % 128*(d:Int):=Int.mul_nonneg V U;have au:IntKind.i64.wrap ((c:Int) % 128*2 ^ (7*a))=(c:Int) % 128*d:=by rw[<-y,kD];omega
 generalize c % 128*(d:Int)=X at *;have aM:(p:Int)+a<(n:Int):=U;have aN:(0:Int)<=(p:Int)+a:=U;have ay:((p:Int)+a).toNat=p+a:=U;have az:((a:Int)==(n:Int) - (p:Int))=false:=by simp only[fU,ne_eq];omega
 have aA:((a:Int)==9)=false:=by simp only[fU,ne_eq];omega
 have aR:(7*(a:Int)).toNat=7*a:=U;have aS:IntKind.i64.wrap (7*(a:Int))=7*(a:Int):=Ϗ;have t:=Zh (Ν i (Ν k (Ν f g)));clear i k H s f g R E an Q m z y;by_cases A:q<=127
 .obtain⟨i,k,f,g⟩:=t.o
  have P:=i A;have Z:Hid (j=a+1):=(f.1 A).symm;have ac:(c:Int)<128:=U;have u:Hid ((l:Int)+X=(b:Int)):=N.o.trans (by rw[aa.o A]);have aT:¬(4611686018427387904:Int)<(l:Int)+X:=by rw[u.o];omega
  have M:Hid ((p:Int)+(a+1)=((p+j:Nat):Int)):=by show _=_;rw[Z.o];omega
  have aP:IntKind.i64.wrap ((p:Int)+(a+1) - 1)=(p:Int)+a:=Ϗ;rcases nK a with h0|h0
  .have ad:¬(1:Int)<(a:Int)+1:=U
   clear i k f g P h0;go_wp2
   go_ret3
   exact⟨by rw[<-u.o,<-M.o];rfl,rfl⟩
  .have ad:(1:Int)<(a:Int)+1:=U
   have ax:((c:Int)==0)=false:=by simp only[fU,ne_eq];have:=g h0;omega
   clear i k f g P h0;go_wp2
   go_ret3
   exact⟨by rw[<-u.o,<-M.o];rfl,rfl⟩
 .have ac:¬(c:Int)<128:=ι (t.o.2.1 U)
  have al:a+1<j:=ι t.o.2.2.1;go_wp2
  go_round
  .exact⟨ _,al,ϕ,jp _ N.o⟩
  exact ω
