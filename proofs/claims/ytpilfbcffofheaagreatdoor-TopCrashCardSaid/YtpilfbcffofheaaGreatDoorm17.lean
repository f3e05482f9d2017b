/- Part 17 of the proof. -/
import Derived.Test.YtpilfbcffofheaaGreatDoorm13
import Derived.Test.YtpilfbcffofheaaGreatDoorm16
set_option linter.unusedVariables false
set_option linter.unusedSimpArgs false
set_option maxRecDepth 100000
set_option maxHeartbeats 8000000
namespace Go.Proofs.YtpilfbcffofheaaGreatDoor
open Go.Proofs.Tryz Go.RowKit Go.Sort
open Value renaming slice->D,agg->ā,int->ĭ,string->š
open Obj renaming cells->C
open Ending renaming returned->ŗ
open List renaming length->L
open Option renaming none->O,some->J
open World renaming alloc->å,setCell->ŝ
theorem CC (ba:Option Addr) (bc:Nat) (wa:Option Addr) (a:Nat) (bl:Ε) (ws:fV) (w:β) (g:Δ w (D ba (L bl) bc) bl) (h:hL w (D wa (L ws) a) ws) (c:ja bl ws) (n:2<=L bl) :
  Calls prog 155 #[ā #[D ba (L bl) bc,D wa (L ws) a]] w fun e w'=>e=ŗ (IZ ((Ϥ bl:Nat):Int))/\BQ w w':=by
 have o:=c.nb;have i:=Zh (fun d (f:BQ w d)=>AM ba bc wa a bl ws d (g.below f) (h.below f) c);have b:BQ w (å w (C #[D ba (L bl) bc,D wa (L ws) a] 41)):=ġ;have l:IntKind.i64.wrap ((L bl:Int) - 2)=(L bl:Int) - 2:=Ϗ;have m:IntKind.i64.wrap (((L bl:Int) - 2)*64)=((Ϥ bl:Nat):Int):=by unfold Ϥ;rw[sn];omega
 clear g h c;go_enter func155,ntmps155;go_wp2_with fail
 refine(i.o _ b).mono ?_;rintro e p ⟨rfl,j⟩;have k:=b.trans (j.mono b.size);go_wp2;go_ret;exact⟨rfl,k⟩
theorem zR (n:Int) (a:0<=n) (b:n<2 ^ 64):IntKind.u64.wrap n=n:=by rw[IntKind.wrap_u64];omega
theorem yP:∀ (k v:Nat) (l:γ),k<L l->ϱ (k+1) v l=ϱ k v l*256+(l.getD k 0).toNat
 |0,v,[],h=>by simp at h
 |0,v,c::r,h=>by simp[ϱ]
 |k+1,v,[],h=>by simp at h
 |k+1,v,c::r,h=>by
  rw[ϱ,yP k _ r (by simpa using h),ϱ];simp
theorem CV:∀ (k:Nat) (l:γ),k<=L l->ϱ k 0 l<256 ^ k
 |0,l,h=>by simp[ϱ]
 |k+1,l,h=>by
  have:=CV k l ϊ;rw[yP k 0 l ϊ,jn];have:=(l.getD k 0).toNat_lt;omega
theorem CB (i:Option Addr) (n c:Nat) (d:γ) (w:β) (G:8<=n) (h:Rd w (D i n c) n 1 (η d)) :
  Calls prog 247 #[D i n c] w fun e w'=>e=ŗ (.tuple (if ϱ 8 0 d<=4611686018427387904 then #[IZ ((ϱ 8 0 d:Nat):Int),.bool true]else #[IZ 0,.bool false]))/\w=w':=by
 have A:L d=n:=by have:=h.1;simpa[η] using this
 obtain⟨-,-,⟨v,p,f,q⟩|⟨b,off,p,f,q,H,E,j⟩⟩:=h
 .omega
 simp only[Ξ,Ϯ]at f;obtain⟨rfl,rfl⟩:=f;have m:Hid (∀ a (k:a<8),w.cell? ⟨b,off+a,O⟩=J (ĭ .u8 ((d.getD a 0).toNat:Int))):=fun a k=>by
  refine j a _ ?_;simp only[η,jK,fR];rw[Ρ ϊ];rfl
 have z:8<=c:=ϊ;clear j;go_enter func247,ntmps247;go_wp2;go_loop [4,10] (fun l g=>∃ a:Nat,a<=8/\g=IZ (a:Int)/\l=ĭ .u64 ((ϱ a 0 d:Nat):Int)) (fun l g=>8 - (intOf g).toNat)
 case atStart=>exact⟨0,Ι _,rfl,by simp[ϱ]⟩
 case round =>
  obtain⟨a,k,rfl,rfl⟩:=hrel;by_cases r:a<8
  .have u:(a:Int)<8:=ϊ
   have B:=m.o a r;have t:=yP a 0 d ϊ;have K:=(d.getD a 0).toNat_lt;have f:ϱ a 0 d<256 ^ 7:=nj (CV a d ϊ) (wM ϐ ϊ);have o:=Zh t;generalize(d.getD a 0).toNat=x at *;generalize ϱ a 0 d=y at *;have I:bits .or .u64 ((y:Int)*256) (x:Int)=(y:Int)*256+x:=bits_join .u64 64 ϐ zR 8 ((y:Int)*256) x ϊ ϊ ϊ ϊ ϊ ϊ;go_wp2
   go_round
   case rel=>exact⟨a+1,ϊ,ϕ,by rw[o.o];go_num⟩
   case measure=>simp[intOf];omega
  .have u:¬(a:Int)<8:=ϊ
   obtain rfl:a=8:=ϊ;by_cases F:ϱ 8 0 d<=4611686018427387904
   .have s:¬(4611686018427387904:Int)<((ϱ 8 0 d:Nat):Int):=ϊ
    go_wp2;go_ret2;exact⟨rfl,rfl⟩
   .have s:(4611686018427387904:Int)<((ϱ 8 0 d:Nat):Int):=ϊ
    go_wp2;go_ret2;exact⟨rfl,rfl⟩
theorem lp (s k:Nat):(gy s k).toNat=s / 256 ^ (7 - k) % 256:=by
 unfold gy;rw[wN];exact Nat.mod_eq_of_lt (lJ _ ϐ)
def pG (s u:Nat):Nat->γ
 |0=>List.replicate 64 0
 |k+1=>((pG s u k).set k (gy s k)).set (8+k) (gy u k)
theorem zq (s u:Nat):∀ k,L (pG s u k)=64
 |0=>by simp[pG]
 |k+1=>by simp[pG,zq s u k]
theorem MO (s u:Nat):pG s u 8=lT s u++List.replicate 32 0:=rfl
theorem DL {w:β} {g k:Nat} {a:γ} {T:TypeId} (h:w.heap[g]?=J (C (η a).toArray T (0,0))) (b:k<L a):∃ v,w.cell? ⟨g,k,O⟩=J v:=by
 rw[ν _ _ _ _ _ _ h];refine⟨ĭ .u8 (ch a[k]),?_⟩;simp[η,b]
theorem lv {w:β} {g k:Nat} {a:γ} {T:TypeId} (h:w.heap[g]?=J (C (η a).toArray T (0,0))) (x:UInt8):(ŝ w ⟨g,k,O⟩ (ĭ .u8 (x.toNat:Int))).heap[g]?=J (C (η (a.set k x)).toArray T (0,0)):=by
 have:=π w g k (η a).toArray T (ĭ .u8 (x.toNat:Int)) h;rw[this]
 congr 2
 simp[η,List.map_set,ch]
theorem CE (s u:Nat) (w:β) (ae:s<=4611686018427387904) (af:u<=4611686018427387904) :
  Calls prog 158 #[ā #[IZ s,IZ u]] w fun e w'=>∃ g,e=ŗ (D (J ⟨g,0,O⟩) 64 64)/\Φ w.heap.size w' (D (J ⟨g,0,O⟩) 64 64) 64 (ie s u)/\BQ w w':=by
 obtain⟨T,hi,Q,R,S⟩:=ϯ lF;have K:BQ w (å w (C #[IZ s,IZ u] 206)):=ġ;have p:=χ w (C #[IZ s,IZ u] 206);go_enter func158,ntmps158;go_upto_region 1 with (fail)
 have A:(å w (C #[IZ s,IZ u] 206)).heap.size=w.heap.size+1:=ύ;have V:=Zh A;clear A;generalize(å w (C #[IZ s,IZ u] 206))=f at *;go_wp2_with (at_make;refine si f rfl _ _ _ rfl f.heap.size 5 T _ 1 gu hi Q R .i64 .i64 _ _ 64 rfl rfl ύ ύ (by rw[S];omega) ώ NZ ?_;intro E x r;have M:BQ f E:=RZ.grown r NZ (fun d v=>by cases v))
 have G:Hid (E.heap[f.heap.size]?=J (C (η (pG s u 0)).toArray 5 (0,0))):=by
  have h:=x;rw[show(Value.int IntKind.u8 0).cells=#[ĭ .u8 0]from rfl,rr]at h;have:=rB h;simpa[Hid,η,pG,show ch 0=0 from rfl] using this
 have I:=Zh p;have aa:w.heap.size<f.heap.size:=ο p;have ab:¬w.heap.size=f.heap.size:=ϊ;have ac:¬f.heap.size=w.heap.size:=ϊ;clear x r p;go_loopw [10] (fun m wr=>∃ d:Nat,d<=8/\m=IZ (d:Int)/\Hid (wr.heap[f.heap.size]?=J (C (η (pG s u d)).toArray 5 (0,0)))/\BQ f wr) (fun m _=>8 - (intOf m).toNat)
 case atStart=>exact⟨0,Ι _,rfl,G.o,M⟩
 case round =>
  obtain⟨d,v,rfl,j,l⟩:=hrel;by_cases Z:d<8
  .have U:(d:Int)<8:=ϊ
   obtain⟨⟨ak,al⟩,-,ag⟩:=ι (θ I.o l);have f1:=ϥ wr f.heap.size d _ _ j.o;have f2:=ϥ wr f.heap.size (8+d) _ _ j.o;obtain⟨ai,c1⟩:=DL (k:=d) j.o (by rw[zq];omega);obtain⟨aj,c2⟩:=DL (k:=8+d) j.o (by rw[zq];omega);have W:IntKind.u64.wrap (s:Int)=(s:Int):=zR _ ϊ ϊ;have X:IntKind.u64.wrap (u:Int)=(u:Int):=zR _ ϊ ϊ;rcases(ϊ:d=0\/d=1\/d=2\/d=3\/d=4\/d=5\/d=6\/d=7)with rfl|rfl|rfl|rfl|rfl|rfl|rfl|rfl
   .have b:((gy s 0).toNat:Int)=(s:Int) / 72057594037927936:=by rw[lp];simp only[Nat.reducePow,Nat.reduceSub,kG];omega
    have c:((gy u 0).toNat:Int)=(u:Int) / 72057594037927936:=by rw[lp];simp only[Nat.reducePow,Nat.reduceSub,kG];omega
    have a:=lv (k:=8+0) (lv (k:=0) j.o (gy s 0)) (gy u 0);rw[b,c]at a;have i:=Zh a;clear a b c;go_wp2;go_roundw;case rel=>exact⟨1,ϊ,rfl,i.o,(l.setCell NZ _).setCell NZ _⟩
    case measure=>simp[intOf]
   .have b:((gy s 1).toNat:Int)=(s:Int) / 281474976710656 % 256:=by rw[lp];simp only[Nat.reducePow,Nat.reduceSub,kG];omega
    have c:((gy u 1).toNat:Int)=(u:Int) / 281474976710656 % 256:=by rw[lp];simp only[Nat.reducePow,Nat.reduceSub,kG];omega
    have a:=lv (k:=8+1) (lv (k:=1) j.o (gy s 1)) (gy u 1);rw[b,c]at a;have i:=Zh a;clear a b c;go_wp2;go_roundw;case rel=>exact⟨2,ϊ,rfl,i.o,(l.setCell NZ _).setCell NZ _⟩
    case measure=>simp[intOf]
   .have b:((gy s 2).toNat:Int)=(s:Int) / 1099511627776 % 256:=by rw[lp];simp only[Nat.reducePow,Nat.reduceSub,kG];omega
    have c:((gy u 2).toNat:Int)=(u:Int) / 1099511627776 % 256:=by rw[lp];simp only[Nat.reducePow,Nat.reduceSub,kG];omega
    have a:=lv (k:=8+2) (lv (k:=2) j.o (gy s 2)) (gy u 2);rw[b,c]at a;have i:=Zh a;clear a b c;go_wp2;go_roundw;case rel=>exact⟨3,ϊ,rfl,i.o,(l.setCell NZ _).setCell NZ _⟩
    case measure=>simp[intOf]
   .have b:((gy s 3).toNat:Int)=(s:Int) / 4294967296 % 256:=by rw[lp];simp only[Nat.reducePow,Nat.reduceSub,kG];omega
    have c:((gy u 3).toNat:Int)=(u:Int) / 4294967296 % 256:=by rw[lp];simp only[Nat.reducePow,Nat.reduceSub,kG];omega
    have a:=lv (k:=8+3) (lv (k:=3) j.o (gy s 3)) (gy u 3);rw[b,c]at a;have i:=Zh a;clear a b c;go_wp2;go_roundw;case rel=>exact⟨4,ϊ,rfl,i.o,(l.setCell NZ _).setCell NZ _⟩
    case measure=>simp[intOf]
   .have b:((gy s 4).toNat:Int)=(s:Int) / 16777216 % 256:=by rw[lp];simp only[Nat.reducePow,Nat.reduceSub,kG];omega
    have c:((gy u 4).toNat:Int)=(u:Int) / 16777216 % 256:=by rw[lp];simp only[Nat.reducePow,Nat.reduceSub,kG];omega
    have a:=lv (k:=8+4) (lv (k:=4) j.o (gy s 4)) (gy u 4);rw[b,c]at a;have i:=Zh a;clear a b c;go_wp2;go_roundw;case rel=>exact⟨5,ϊ,rfl,i.o,(l.setCell NZ _).setCell NZ _⟩
    case measure=>simp[intOf]
   .have b:((gy s 5).toNat:Int)=(s:Int) / 65536 % 256:=by rw[lp];simp only[Nat.reducePow,Nat.reduceSub,kG];omega
    have c:((gy u 5).toNat:Int)=(u:Int) / 65536 % 256:=by rw[lp];simp only[Nat.reducePow,Nat.reduceSub,kG];omega
    have a:=lv (k:=8+5) (lv (k:=5) j.o (gy s 5)) (gy u 5);rw[b,c]at a;have i:=Zh a;clear a b c;go_wp2;go_roundw;case rel=>exact⟨6,ϊ,rfl,i.o,(l.setCell NZ _).setCell NZ _⟩
    case measure=>simp[intOf]
   .have b:((gy s 6).toNat:Int)=(s:Int) / 256 % 256:=by rw[lp];simp only[Nat.reducePow,Nat.reduceSub,kG];omega
    have c:((gy u 6).toNat:Int)=(u:Int) / 256 % 256:=by rw[lp];simp only[Nat.reducePow,Nat.reduceSub,kG];omega
    have a:=lv (k:=8+6) (lv (k:=6) j.o (gy s 6)) (gy u 6);rw[b,c]at a;have i:=Zh a;clear a b c;go_wp2;go_roundw;case rel=>exact⟨7,ϊ,rfl,i.o,(l.setCell NZ _).setCell NZ _⟩
    case measure=>simp[intOf]
   .have b:((gy s 7).toNat:Int)=(s:Int) % 256:=by rw[lp];simp only[Nat.reducePow,Nat.reduceSub,kG];omega
    have c:((gy u 7).toNat:Int)=(u:Int) % 256:=by rw[lp];simp only[Nat.reducePow,Nat.reduceSub,kG];omega
    have a:=lv (k:=8+7) (lv (k:=7) j.o (gy s 7)) (gy u 7);rw[b,c]at a;have i:=Zh a;clear a b c;go_wp2;go_roundw;case rel=>exact⟨8,ϊ,rfl,i.o,(l.setCell NZ _).setCell NZ _⟩
    case measure=>simp[intOf]
  .have U:¬(d:Int)<8:=ϊ
   obtain rfl:d=8:=ϊ;have n:=j.o;rw[MO]at n;have q:Rd wr (D (J ⟨f.heap.size,0,O⟩) 32 64) 32 1 (η (lT s u)):=by
    refine⟨by simp[η,qv],ώ,.inr ⟨f.heap.size,0,64,rfl,ϊ,ϊ,ώ,fun m ah B=>?_⟩⟩;rw[ν _ _ _ _ _ _ n,jJ];have Y:m<32:=by have:=(lN.1 B).1;simpa[η,qv] using this
    rw[sV,mj,iX (by simp[η,qv];omega)];exact B
   obtain⟨F,ad,t,N,-,-⟩:=zk f.heap.size 32 32 32 (lT s u++List.replicate 32 0) n _ 32 (lT s u) q ϊ (by simp[qv]);have y:(lT s u++List.replicate 32 (0:UInt8)).take 32++(lT s u++(lT s u++List.replicate 32 (0:UInt8)).drop (32+32))=ie s u:=by
    rw[List.take_left' (qv s u),ng (by simp[qv]),im];rfl
   have o:=t.o;rw[y]at o;have z:w.heap.size<=f.heap.size:=ϊ;have H:Hid (Φ w.heap.size F (D (J ⟨f.heap.size,0,O⟩) 64 64) 64 (ie s u)):=by
    refine⟨oQ s u,by simp[η,oQ],.inr ⟨f.heap.size,64,_,rfl,z,o,NZ,ώ,?_,?_⟩⟩
    .simp[η,oQ]
    .show List.take 64 (η (ie s u))=_
     exact gW (by simp[η,oQ])
   have P:BQ w F:=K.trans ((l.trans N).mono z);clear o t n y q;go_wp2;go_ret;exact⟨f.heap.size,rfl,H.o,P⟩
theorem ih {w:β} {v:ε} {n:Nat} {l:γ} (a:L l=n) (h:Rd w v n 1 (η l)):(convert 31 9 v).run prog w=.ok (š (δ l)) w:=by
 subst a;exact qI w 31 9 5 gu ϋ lK v l h
theorem AV (i j:ε) (n m:Nat) (a b:γ) (w:β) (f:L a=n) (g:L b=m) (c:Rd w i n 1 (η a)) (d:Rd w j m 1 (η b)) :
  Calls prog 68 #[i,j] w fun e w'=>e=ŗ (.bool (decide (a=b)))/\w=w':=by
 have c1:=ih f c;have c2:=ih g d;clear c d f g;go_enter func68,ntmps68;go_wp2;go_ret;refine⟨?_,rfl⟩;show Ending.returned (.bool _)=Ending.returned (.bool _);rw[hC,hC]
 congr 2
 by_cases h:a=b<;>simp[h]
theorem Da (x:Nat):∃ (n:Nat) (k:Bool),(if x<=4611686018427387904 then #[IZ (x:Int),.bool true]else #[IZ 0,.bool false])=#[IZ (n:Int),.bool k]/\((k=true/\n=x/\x<=4611686018427387904)\/(k=false/\n=0/\4611686018427387904<x)):=by
 by_cases h:x<=4611686018427387904
 .exact⟨x,true,μ h,.inl ⟨rfl,rfl,h⟩⟩
 .exact⟨0,false,κ h,.inr ⟨rfl,rfl,ϊ⟩⟩
def zp:Option (Nat×Nat)->ε
 |some a=>.tuple #[ā #[IZ a.1,IZ a.2],.bool true]
 |none=>.tuple #[ā #[IZ 0,IZ 0],.bool false]
theorem Jp (z:Option Addr) (c f:Nat) (b:γ) (w:β) (h:Rd w (D z 64 c) 64 1 (η b)) :
  Calls prog 188 #[D z 64 c,IZ f] w fun e w'=>e=ŗ (zp (ic b f))/\BQ w w':=by
 have ar:L b=64:=by have:=h.1;simpa[η] using this
 obtain⟨j,off,rfl,aM⟩:∃ j off,z=J ⟨j,off,O⟩/\64<=c:=by
  obtain⟨-,-,⟨aH,an,H,ao⟩|⟨j,off,an,H,ao,av,-⟩⟩:=h
  .omega
  .simp only[Ξ,Ϯ]at H
   obtain⟨rfl,rfl⟩:=H;exact⟨j,off,rfl,av⟩
 have I:=Zh (fun a (o:BQ w a)=>CB (J ⟨j,off,O⟩) 64 c b a ϊ (h.below o));have K:=Zh (fun a (o:BQ w a)=>CB (J ⟨j,off+8,O⟩) 56 (c - 8) (b.drop 8) a ϊ (vO (h.below o) (k:=8) ϊ));have af:=Zh h;clear h;have A:BQ w (å w (C #[IZ 0,IZ 0] 206)):=ġ;have W:=χ w (C #[IZ 0,IZ 0] 206);have aI:8<=c:=ϊ;obtain⟨n,r,R,M⟩:=Da (ϱ 8 0 b);obtain⟨d,x,S,N⟩:=Da (ϱ 8 0 (b.drop 8));rw[R]at I;rw[S]at K;have aO:n<=4611686018427387904:=ϊ;have aP:d<=4611686018427387904:=ϊ;have B:BQ w (å (å w (C #[IZ 0,IZ 0] 206)) (C #[IZ n,IZ d] 206)):=A.alloc ύ _;have G:=χ (å w (C #[IZ 0,IZ 0] 206)) (C #[IZ n,IZ d] 206);have s:=(gX (å w (C #[IZ 0,IZ 0] 206)) (C #[IZ n,IZ d] 206) w.heap.size ύ).trans W;have T:=Zh M;have U:=Zh N;clear R S W M N;have X:(å w (C #[IZ 0,IZ 0] 206)).heap.size=w.heap.size+1:=ύ;rw[X]at G;clear X;go_enter func188,ntmps188;go_wp2_with fail
 refine(I.o _ A).mono ?_;rintro e aA ⟨rfl,rfl⟩;go_wp2_with fail
 refine(K.o _ A).mono ?_;rintro e aA ⟨rfl,rfl⟩;go_upto_region 6 with (fail)
 generalize å (å w (C #[IZ 0,IZ 0] 206)) (C #[IZ n,IZ d] 206)=am at *;obtain⟨⟨ax,ay⟩,⟨aJ,aK⟩,aW⟩:=ι G;obtain⟨⟨aE,aF⟩,⟨aC,aD⟩,aG⟩:=ι s;have aj:=Zh (Ϲ s (IZ 0) (IZ 0));have aa:=Zh (fS B NZ (IZ 0) (IZ 0));have ag:=Zh s;clear G s;by_cases hbad:r=false\/x=false\/f<d
 .have y:Hid (ic b f=O):=by
   show _=_;unfold ic;rw[κ];rintro⟨p1,p2,aS,aT⟩;have P:=T.o;have Q:=U.o;rcases P with ⟨rfl,rfl,-⟩|⟨-,-,P⟩
   .rcases Q with ⟨rfl,rfl,-⟩|⟨-,-,Q⟩
    .simp only[reduceCtorEq,false_or]at hbad;omega
    .omega
   .omega
  go_cut [38,46] (fun aU az wc=>az=.bool true/\wc=am)
  case first =>
   rcases hbad with rfl|hbad
   .go_wp2
    go_meet;case rel=>exact⟨rfl,rfl⟩
   .rcases hbad with rfl|hbad
    .cases r
     .go_wp2
      go_meet;case rel=>exact⟨rfl,rfl⟩
     .go_wp2
      go_meet;case rel=>exact⟨rfl,rfl⟩
    .have aL:(f:Int)<(d:Int):=ϊ
     cases r
     .go_wp2
      go_meet;case rel=>exact⟨rfl,rfl⟩
     .cases x
      .go_wp2
       go_meet;case rel=>exact⟨rfl,rfl⟩
      .go_wp2
       go_meet;case rel=>exact⟨rfl,rfl⟩
  case rest =>
   obtain⟨rfl,rfl⟩:=hcut;go_wp2;exact ϟ (v:=.tuple #[ā #[IZ 0,IZ 0],.bool false]) (gf (p:=4) (u:=5) (ty:=206) rfl _ _ w.heap.size 206 _ (0,0) _ rfl aj.o underlying206 rfl ϋ) rfl ⟨by rw[y.o];rfl,aa.o⟩
 .obtain⟨rfl,rfl,au⟩:r=true/\x=true/\d<=f:=by
   cases r<;>cases x<;>simp_all
  obtain⟨rfl,Y⟩:n=ϱ 8 0 b/\ϱ 8 0 b<=4611686018427387904:=by have:=T.o;simpa using this
  obtain⟨rfl,Z⟩:d=ϱ 8 0 (b.drop 8)/\ϱ 8 0 (b.drop 8)<=4611686018427387904:=by have:=U.o;simpa using this
  have aN:¬(f:Int)<((ϱ 8 0 (b.drop 8):Nat):Int):=ϊ;have ah:=Zh (fun a=>CE (ϱ 8 0 b) (ϱ 8 0 (b.drop 8)) a Y Z);have ai:Hid (b=ie (ϱ 8 0 b) (ϱ 8 0 (b.drop 8))->ic b f=J (ϱ 8 0 b,ϱ 8 0 (b.drop 8))):=fun i=>by
   unfold ic;rw[μ ⟨Y,Z,au,i⟩]
  have y:Hid (¬b=ie (ϱ 8 0 b) (ϱ 8 0 (b.drop 8))->ic b f=O):=fun i=>by
   unfold ic;rw[κ];exact fun h=>i h.2.2.2
  have ad:=Zh (fun a g (o:BQ w a) (aw:Rd a (D (J ⟨g,0,O⟩) 64 64) 64 1 (η (ie (ϱ 8 0 b) (ϱ 8 0 (b.drop 8)))))=>AV (D (J ⟨j,off,O⟩) 64 c) _ 64 64 b _ a ar (oQ _ _) (af.o.below o) aw);generalize ap:ϱ 8 0 b=l at *;generalize aq:ϱ 8 0 (b.drop 8)=m at *;clear ap aq;go_wp2_with fail
  refine(ah.o _).mono ?_;rintro e aB ⟨g,rfl,V,q⟩;have E:=B.trans (q.mono B.size);have ae:=Zh (ad.o aB g E V.rd);have aQ:=ζ q ax;have aR:=ζ q ay;have t:=θ ag.o q;obtain⟨⟨aE,aF⟩,⟨aC,aD⟩,aG⟩:=ι t;have ak:=Zh (Ϲ t (IZ 0) (IZ 0));have ab:=Zh (fS E NZ (IZ 0) (IZ 0));have al:=Zh (Ϲ t (IZ l) (IZ m));have ac:=Zh (fS E NZ (IZ l) (IZ m));clear V t q;go_wp2_with fail
  refine ae.o.mono ?_;rintro e aV ⟨rfl,rfl⟩;by_cases i:b=ie l m
  .have F:decide (b=ie l m)=true:=by simpa using i
   rw[F];go_wp2;exact ϟ (v:=.tuple #[ā #[IZ l,IZ m],.bool true]) (gf (p:=4) (u:=5) (ty:=206) rfl _ _ w.heap.size 206 _ (0,0) _ rfl al.o underlying206 rfl ϋ) rfl ⟨by rw[ai.o i];rfl,ac.o⟩
  .have F:decide (b=ie l m)=false:=by simpa using i
   rw[F];go_wp2;exact ϟ (v:=.tuple #[ā #[IZ 0,IZ 0],.bool false]) (gf (p:=4) (u:=5) (ty:=206) rfl _ _ w.heap.size 206 _ (0,0) _ rfl ak.o underlying206 rfl ϋ) rfl ⟨by rw[y.o i];rfl,ab.o⟩
def jE (bl:Ε):Nat->Option (Nat×Nat)
 |0=>O
 |k+1=>match jE bl k,ic (bl.getD k []) (Ϥ bl)with
  |none,r=>r
  |some a,O=>J a
  |some a,J b=>if a.1<b.1 then J b else J a
theorem uY (bl:Ε) (k:Nat):jE bl (k+1)=match jE bl k,ic (bl.getD k []) (Ϥ bl)with
  |none,r=>r
  |some a,O=>J a
  |some a,J b=>if a.1<b.1 then J b else J a:=rfl
theorem Ho (bl:Ε):jE bl 2=qn bl:=by
 simp only[jE,qn];cases ic (bl.getD 0 []) (Ϥ bl)<;>cases ic (bl.getD 1 []) (Ϥ bl)<;>rfl
theorem py (a:β) (wa:Option Addr) (c:Nat):hL a (D wa 0 c) []:=⟨[],⟨rfl,Ι _,.inl ⟨_,_,rfl,rfl⟩⟩,fun d b=>by simp at b⟩
def mx:Option (Nat×Nat)->Nat×Nat
 |some a=>a
 |none=>(0,0)
theorem Lu {b:γ} {a:Nat} {m:Nat×Nat} (h:ic b a=J m):m.1<=4611686018427387904/\m.2<=a:=by
 obtain⟨s,e⟩:=m;obtain⟨c,d,-⟩:=DA h;exact⟨c,d⟩
theorem Jk (ba:Option Addr) (bc:Nat) (wa:Option Addr) (s:Nat) (bl:Ε) (w:β) (ac:Δ w (D ba (L bl) bc) bl) (au:L bl<=4096) (aa:∀ b∈bl,L b=64) (aM:2<=L bl) :
  Calls prog 110 #[ā #[D ba (L bl) bc,D wa 0 s]] w fun e w'=>e=ŗ (.tuple #[ā #[IZ (mx (qn bl)).1,IZ (mx (qn bl)).2],.bool (qn bl).isSome])/\BQ w w':=by
 have av:ja bl []:=⟨au,ύ,aa,ύ⟩;have aH:=Zh (fun c (aO:c<2) x (ab:BQ w x)=>xJ c ba bc wa s bl x ϊ (ac.below ab) au aa);have aI:=Zh (fun x (ab:BQ w x)=>CC ba bc wa s bl [] x (ac.below ab) (py x wa s) av aM);rw[<-Ho];clear ac aa av;go_enter func110,ntmps110;go_wp2;have aN:=of (w:=w) (A:=(C #[D ba (L bl) bc,D wa 0 s] 41)) (Z:=(C #[IZ 0,IZ 0] 206)) (Y:=(C #[IZ 0,IZ 0] 206)) (w1:=å (å (å w (C #[D ba (L bl) bc,D wa 0 s] 41)) (C #[IZ 0,IZ 0] 206)) (C #[IZ 0,IZ 0] 206)) RZ;obtain⟨ax,aA,az,a0,a2,a1,ap⟩:=aN;generalize å (å (å w (C #[D ba (L bl) bc,D wa 0 s] 41)) (C #[IZ 0,IZ 0] 206)) (C #[IZ 0,IZ 0] 206)=aY at *;go_loopw [5,11] (fun f af wr=>∃ c:Nat,c<=2/\af=IZ (c:Int)/\f=.bool (jE bl c).isSome/\Hid (wr.heap[w.heap.size]?=J (C #[D ba (L bl) bc,D wa 0 s] 41 (0,0)))/\Hid (wr.heap[w.heap.size+1]?=J (C #[IZ 0,IZ 0] 206 (0,0)))/\Hid (wr.heap[w.heap.size+1+1]?=J (C #[IZ (mx (jE bl c)).1,IZ (mx (jE bl c)).2] 206 (0,0)))/\BQ w wr) (fun _ af _=>2 - (intOf af).toNat)
 case atStart=>exact⟨0,Ι _,rfl,rfl,ax,aA,az,ap⟩
 case round =>
  obtain⟨c,aO,rfl,rfl,Q,V,aj,I⟩:=hrel;obtain⟨⟨aL,d1⟩,-,aX⟩:=ι Q.o;by_cases aP:c<2
  .have aS:(c:Int)<2:=ϊ
   clear ax aA az ap;go_wp2_with fail
   refine(aH.o c aP wr I).mono ?_;rintro e aV ⟨g,rfl,aw,G⟩;have ae:=I.trans (G.mono I.size);have ay:=θ Q.o G;obtain⟨⟨aL,d1⟩,-,aX⟩:=ι ay;have aG:=Zh aw;clear aw;go_wp2_with fail
   refine(aI.o aV ae).mono ?_;rintro e aW ⟨rfl,H⟩;have ao:=ae.trans (H.mono ae.size);have aK:=Zh (Jp (J ⟨g,0,O⟩) 64 (Ϥ bl) (bl.getD c []) aW (aG.o.rd.below H));go_wp2_with fail
   refine aK.o.mono ?_;rintro e j ⟨rfl,ad⟩;have K:=ao.trans (ad.mono ao.size);have M:∀ ag o,wr.heap[ag]?=J o->j.heap[ag]?=J o:=fun ag o h=>θ (θ (θ h G) H) ad;have ai:=Zh (M _ _ Q.o);have ak:=Zh (M _ _ V.o);have S:=Zh (M _ _ aj.o);clear M ay G H ad;cases r:ic (bl.getD c []) (Ϥ bl)with
   |none =>
    have m:jE bl (c+1)=jE bl c:=by
     rw[uY,r];cases jE bl c<;>rfl
    have k:=Zh m;clear m;simp only[zp];have q:BQ j (å j (C #[IZ 0,IZ 0] 206)):=ġ;have t:=χ j (C #[IZ 0,IZ 0] 206);have B:=Zh (θ ai.o q);have E:=Zh (θ ak.o q);have T:=Zh (θ S.o q);have F:=K.trans (q.mono K.size);go_wp2;go_roundw;case rel=>exact⟨c+1,ϊ,ϕ,by rw[k.o],B.o,E.o,by rw[k.o];exact T.o,F⟩
    case measure=>simp[intOf];omega
   |some aT =>
    obtain⟨d,i⟩:=aT;have aR:=Lu r;simp only at aR;simp only[zp];go_upto_region 9 with (fail)
    have q:BQ j (å j (C #[IZ d,IZ i] 206)):=ġ;have t:=χ j (C #[IZ d,IZ i] 206);have B:=Zh (θ ai.o q);have E:=Zh (θ ak.o q);have l:=θ S.o q;have F:=K.trans (q.mono K.size);have aZ:w.heap.size+1+1<j.heap.size:=ο S.o;cases n:jE bl c with
    |none =>
     have m:jE bl (c+1)=J (d,i):=by rw[uY,r,n]
     have k:=Zh m;have aE:=Zh n;rw[n]at l;have U:=Zh (Ϲ l (IZ d) (IZ i));have R:=Zh ((jf (å j (C #[IZ d,IZ i] 206)) (w.heap.size+1+1) w.heap.size ϊ (IZ d) (IZ i)).trans B.o);have W:=Zh ((jf (å j (C #[IZ d,IZ i] 206)) (w.heap.size+1+1) (w.heap.size+1) ϊ (IZ d) (IZ i)).trans E.o);have P:=Zh (fS F (ϊ:w.heap.size<=w.heap.size+1+1) (IZ d) (IZ i));obtain⟨⟨y,z⟩,⟨X,f1⟩,ah⟩:=ι l;obtain⟨⟨am,an⟩,⟨b0,b1⟩,aC⟩:=ι t;clear m n l t r;simp only[Option.isSome_none,mx]at y z;generalize å j (C #[IZ d,IZ i] 206)=al at *;simp only[Option.isSome_none];go_wp2;go_roundw;case rel=>exact⟨c+1,ϊ,ϕ,by rw[k.o];rfl,R.o,W.o,by rw[k.o];exact U.o,P.o⟩
     case measure=>simp[intOf];omega
    |some a =>
     obtain⟨N,aU⟩:=a;have aE:=Zh n;rw[n]at l;by_cases aq:N<d
     .have m:jE bl (c+1)=J (d,i):=by rw[uY,r,n];simp only;rw[μ aq]
      have k:=Zh m;have aQ:(N:Int)<(d:Int):=ϊ;have U:=Zh (Ϲ l (IZ d) (IZ i));have R:=Zh ((jf (å j (C #[IZ d,IZ i] 206)) (w.heap.size+1+1) w.heap.size ϊ (IZ d) (IZ i)).trans B.o);have W:=Zh ((jf (å j (C #[IZ d,IZ i] 206)) (w.heap.size+1+1) (w.heap.size+1) ϊ (IZ d) (IZ i)).trans E.o);have P:=Zh (fS F (ϊ:w.heap.size<=w.heap.size+1+1) (IZ d) (IZ i));obtain⟨⟨y,z⟩,⟨X,f1⟩,ah⟩:=ι l;obtain⟨⟨am,an⟩,⟨b0,b1⟩,aC⟩:=ι t;clear m n l t r;simp only[mx]at y z;generalize å j (C #[IZ d,IZ i] 206)=al at *;simp only[Option.isSome_some];go_wp2;go_roundw;case rel=>exact⟨c+1,ϊ,ϕ,by rw[k.o];rfl,R.o,W.o,by rw[k.o];exact U.o,P.o⟩
      case measure=>simp[intOf];omega
     .have m:jE bl (c+1)=J (N,aU):=by rw[uY,r,n];simp only;rw[κ aq]
      have k:=Zh m;have aQ:¬(N:Int)<(d:Int):=ϊ;have T:=Zh l;obtain⟨⟨y,z⟩,⟨X,f1⟩,ah⟩:=ι l;obtain⟨⟨am,an⟩,⟨b0,b1⟩,aC⟩:=ι t;clear m n l t r;simp only[mx]at y z;generalize å j (C #[IZ d,IZ i] 206)=al at *;simp only[Option.isSome_some];go_wp2;go_roundw;case rel=>exact⟨c+1,ϊ,ϕ,by rw[k.o];rfl,B.o,E.o,by rw[k.o];exact T.o,F⟩
      case measure=>simp[intOf];omega
  .have aS:¬(c:Int)<2:=ϊ
   obtain rfl:c=2:=ϊ;obtain⟨⟨y,z⟩,-,ah⟩:=ι aj.o;obtain⟨⟨r0,r1⟩,⟨X,f1⟩,a3⟩:=ι V.o;have aJ:=Zh (Ϲ V.o (IZ (mx (jE bl 2)).1) (IZ (mx (jE bl 2)).2));have aD:=Zh (fS I (go _ 1) (IZ (mx (jE bl 2)).1) (IZ (mx (jE bl 2)).2));generalize ar:mx (jE bl 2)=aB at *;have aF:=Zh ar;clear ar;go_wp2;exact ϟ (v:=.tuple #[ā #[IZ aB.1,IZ aB.2],.bool (jE bl 2).isSome]) (gf (p:=2) (u:=3) (ty:=206) rfl _ _ (w.heap.size+1) 206 _ (0,0) _ rfl aJ.o underlying206 rfl ϋ) rfl ⟨by rw[aF.o],aD.o⟩
theorem Hy (bl:Ε) (n:Nat) (d:∀ b∈bl,L b=64) (f:2+n<L bl):mr bl ((n+1)*64)=mr bl (n*64)++bl.getD (2+n) []:=by
 have e:=d _ (pw bl (2+n) [] f);unfold mr;rw[kX,List.range_add,ou]
 congr 1
 apply List.ext_getElem
 .rw[io,io,List.length_range,e]
 .intro a c g
  simp only[io,List.length_range]at c;simp only[List.map_map,uo,wQ,Function.comp_apply];unfold lb;rw[show 2+(n*64+a) / 64=2+n from ϊ,show(n*64+a) % 64=a from ϊ,fR,Ρ ϊ];rfl
theorem Hz (bl:Ε) (n m:Nat) (h:n<=m):(mr bl m).take n=mr bl n:=by
 unfold mr;rw[<-List.map_take,List.take_range,me h]
theorem Jn (n:Nat) (ba:Option Addr) (bc:Nat) (wa:Option Addr) (m:Nat) (bl:Ε) (w:β) (A:Δ w (D ba (L bl) bc) bl) (ag:L bl<=4096) (p:∀ b∈bl,L b=64) (ah:n<=Ϥ bl) (al:3<=L bl) :
  Calls prog 111 #[ā #[D ba (L bl) bc,D wa 0 m],IZ n] w fun e w'=>∃ x c,e=ŗ (D x n c)/\Hi w.heap.size w' (fun f=>Rd f (D x n c) n 1 (η (mr bl n)))/\BQ w w':=by
 have U:=Zh (fun a (ae:a<L bl) u (ab:BQ w u)=>xJ a ba bc wa m bl u ae (A.below ab) ag p);have t:=Zh p;have B:BQ w (å w (C #[D ba (L bl) bc,D wa 0 m] 41)):=ġ;have K:=χ w (C #[D ba (L bl) bc,D wa 0 m] 41);unfold Ϥ at ah;clear A p;go_enter func111,ntmps111;go_wp2;generalize(å w (C #[D ba (L bl) bc,D wa 0 m] 41))=i at *;have ao:w.heap.size<i.heap.size:=ο K;go_loopw [5,6] (fun aj s wr=>∃ (a d:Nat) (j:Option Addr) (c1:Nat),d=a*64/\d<n+64/\s=IZ ((2+a:Nat):Int)/\aj=D j d c1/\Hid (Φ i.heap.size wr (D j d c1) d (mr bl d))/\BQ i wr) (fun _ s _=>L bl+2 - (intOf s).toNat)
 case atStart=>exact⟨0,0,O,0,rfl,ϊ,rfl,rfl,Φ.nil _ _,φ _ _⟩
 case round =>
  obtain⟨a,d,j,c1,q,ap,rfl,rfl,h,o⟩:=hrel;have P:=Zh q;obtain⟨⟨ak,d1⟩,-,au⟩:=ι (θ K o);have G:=B.trans (o.mono B.size);by_cases an:d<n
  .have ai:(d:Int)<(n:Int):=ϊ
   have N:=Zh (Hy bl a t.o ϊ);have V:=Zh (U.o (2+a) ϊ wr G);have af:d+64<=70368744177664:=ϊ;have am:2+a<L bl:=ϊ;generalize z:2+a=X at *;have S:=Zh z;clear q z;go_wp2_with fail
   refine V.o.mono ?_;rintro e ar ⟨g,rfl,H,E⟩;have F:=o.trans (E.mono o.size);have R:=Zh (h.o.below E);have T:=Zh H.rd;have ad:=F.size;clear H;go_wp2_with (at_builtin;refine iz rfl (.tmp 24) (.tmp 25) rfl i.heap.size _ _ d 64 _ _ rfl R.o rfl (t.o _ (pw bl X [] ϊ)) T.o af ad ?_;intro v c2 f I ac;have aa:=F.trans ac)
   obtain rfl:=P.o;have r:=I;rw[<-N.o]at r;have Q:Hid (Φ i.heap.size f (D v (a*64+64) c2) (a*64+64) (mr bl (a*64+64))):=by
    have:=r;rw[kX,oZ]at this;exact this
   clear r I;go_roundw;case rel=>exact⟨a+1,a*64+64,v,c2,ϊ,ϊ,by rw[<-S.o];go_num,rfl,Q.o,aa⟩
   case measure=>simp[intOf];omega
  .have ai:¬(d:Int)<(n:Int):=ϊ
   have aq:n<=c1:=by
    by_cases y:d=0
    .omega
    .obtain⟨g,Y,l⟩:=kz h.o.2 ϊ
     rw[l]at h;have:=kk h.o.2;simp only[Ξ]at l;omega
   have W:Hid (Hi w.heap.size wr (fun f=>Rd f (D j n c1) n 1 (η (mr bl n)))):=by
    intro f Z;by_cases y:n=0
    .subst y
     exact⟨rfl,Ι _,.inl ⟨_,_,rfl,rfl⟩⟩
    .have:=(h.o.hi.mono (ϊ:w.heap.size<=i.heap.size)) f Z
     obtain⟨g,Y,l⟩:=kz h.o.2 ϊ;simp only[Ξ,Ϯ]at l;obtain⟨rfl,rfl⟩:=l;have M:=vQ this (k:=n) ϊ;rw[Hz bl n d ϊ]at M;exact M
   clear q;go_wp2;go_ret;exact⟨j,c1,rfl,W.o,G⟩
