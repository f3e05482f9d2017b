/- Part 2 of the proof. -/
import Derived.Test.YtpilfbcffofheaaGreatDoorm00
set_option linter.unusedVariables false
set_option linter.unusedSimpArgs false
set_option maxRecDepth 100000
set_option maxHeartbeats 1000000
namespace Go.Proofs.YtpilfbcffofheaaGreatDoor
open Go.Proofs.Tryz Go.RowKit Go.Sort
open List renaming length->L
open Value renaming int->ĭ,agg->ā
open Ending renaming returned->ŗ
open Option renaming some->J,none->O
theorem xL (b:UInt8):0<=ch b/\ch b<=255:=by unfold ch;have:=b.toNat_lt;omega
theorem qu (b:γ) (h:b≠[]):1<=(first b).2/\(first b).2<=L b:=by
 rcases b with _|⟨b0,_|⟨b1,_|⟨b2,_|⟨b3,r⟩⟩⟩⟩
 .exact absurd rfl h
 all_goals
  simp only[first,pu,qs,qt,js]
  (repeat' split)<;>(simp only[Ϧ];omega)
theorem Hp:∀ (f:Nat) (b:γ),L b<=f->qo f b=qo (L b) b:=by
 intro f;induction f using Nat.strongRecOn with
 |ind f c =>
  intro b h;cases f with
  |zero=>have:b=[]:=lM.1 ϊ;subst this;rfl
  |succ f =>
   by_cases a:b=[]
   .subst a;simp[qo]
   .obtain⟨n,e⟩:∃ n,L b=n+1:=⟨L b - 1,by have:=om.2 a;omega⟩
    have g:=qu b a;rw[e];simp only[qo];rw[κ a,κ a]
    congr 1
    have d:L (b.drop (first b).2)<=n:=by rw[gb];omega
    rw[c f ϊ _ ϊ,c n ϊ _ d]
theorem ri:gc []=[]:=rfl
theorem rj (b:γ) (h:b≠[]):gc b=(first b).1::gc (b.drop (first b).2):=by
 obtain⟨n,a⟩:∃ n,L b=n+1:=⟨L b - 1,by have:=om.2 h;omega⟩;unfold gc;rw[a];simp only[qo];rw[κ h]
 congr 1
 have c:=qu b h;exact Hp n _ (by rw[gb];omega)
theorem yb (b:γ):L (gc b)<=L b:=by
 generalize d:L b=n;induction n using Nat.strongRecOn generalizing b with
 |ind n a =>
  by_cases h:b=[]
  .subst h;simp[ri]
  .have c:=qu b h
   rw[rj b h];have:=a (L (b.drop (first b).2)) (by rw[gb];omega) _ rfl;rw[gb]at this;simp only[Ϧ];omega
theorem HZ (b:γ):gt (first b).1=true:=by
 rcases b with _|⟨b0,_|⟨b1,_|⟨b2,_|⟨b3,r⟩⟩⟩⟩
 .exact ϐ
 all_goals
  have a:=xL b0;simp only[first,pu,qs,qt,js]
  (repeat' split)<;>first
   |(exact ϐ)
   |(simp only[gt,gs,ol,ia];omega)
   |(rename_i h;simp only[gs,ol,gt,ia,ip]at h ⊢;omega)
theorem Bw (b:γ):∀ c∈gc b,gt c=true:=by
 generalize e:L b=n;induction n using Nat.strongRecOn generalizing b with
 |ind n a =>
  intro c hc;by_cases h:b=[]
  .subst h;simp[ri]at hc
  .have d:=qu b h
   rw[rj b h]at hc;rcases gP.1 hc with rfl|hc
   .exact HZ b
   .exact a (L (b.drop (first b).2)) (by rw[gb];omega) _ rfl c hc
theorem wF (cur:List Int) (c:Int) (r:List Int) (h:gK c=true):jI cur (c::r)=jI (cur++[c]) r:=by
 simp only[jI];rw[μ h]
theorem zK (c:Int) (r:List Int) (h:gK c=false):jI [] (c::r)=jI [] r:=by
 simp only[jI];rw[κ (by simp[h]),μ trivial]
theorem zJ (cur:List Int) (c:Int) (r:List Int) (h:gK c=false) (a:cur≠[]):jI cur (c::r)=cur::jI [] r:=by
 simp only[jI];rw[κ (by simp[h]),κ a]
theorem uf (cur:List Int):jI cur []=if cur=[]then[]else[cur]:=rfl
theorem NT (a:List Int):∀ cur,L (jI cur a)<=L a+(if cur=[]then 0 else 1):=by
 induction a with
 |nil=>intro cur;rw[uf];split<;>simp
 |cons c a d =>
  intro cur;cases h:gK c with
  |true =>
   rw[wF _ _ _ h];have:=d (cur++[c]);simp at this ⊢;split<;>omega
  |false =>
   by_cases b:cur=[]
   .subst b
    rw[zK _ _ h];have:=d [];simp at this ⊢;omega
   .rw[zJ _ _ _ h b]
    have:=d [];simp[b]at this ⊢;omega
theorem ud (b:γ):L (Μ b)<=L b:=by
 unfold Μ oU;rw[io];have a:=NT (gc b) [];have c:=yb b;simp at a;omega
theorem EB (t:γ) (l:List Int) (h:L t<=64):L (ma t l)<=64:=by
 induction l generalizing t with
 |nil=>exact h
 |cons c l a =>
  simp only[ma];split
  .exact h
  .exact a _ ό
theorem ww (b:γ):∀ t∈Μ b,L t<=64:=by
 intro t a;unfold Μ at a;obtain⟨c,_,rfl⟩:=hI.1 a;exact EB [] c ύ
theorem Ib (b:γ) (h:b≠[]) (a:(first b).1≠65533):(first b).2=L (enc (first b).1):=by
 rcases b with _|⟨b0,_|⟨b1,_|⟨b2,_|⟨b3,r⟩⟩⟩⟩
 .exact absurd rfl h
 all_goals
  have c:=xL b0;revert a;simp only[first,pu,qs,qt,js]
  (repeat' split)<;>intro a<;>first
   |exact absurd rfl a
   |(unfold enc;rw[μ ϊ];rfl)
   |(rename_i h;simp only[gs,ol,gt,ia,ip]at h;unfold enc;rw[κ ϊ,μ ϊ];rfl)
   |(rename_i h;simp only[gs,ol,gt,ia,ip]at h;unfold enc;rw[κ ϊ,κ ϊ,μ ϊ];rfl)
   |(rename_i h;simp only[gs,ol,gt,ia,ip]at h;unfold enc;rw[κ ϊ,κ ϊ,κ ϊ];rfl)
theorem AD:gK 65533=false:=ϐ
theorem Hq {b:γ} {c:Int} {r:List Int} (h:gc b=c::r) (f:c≠65533):L (enc c)<=L b/\r=gc (b.drop (L (enc c))):=by
 by_cases d:b=[]
 .subst d;simp[ri]at h
 .have a:=rj b d
  rw[h]at a;simp only[List.cons.injEq]at a;have e:=Ib b d (by rw[<-a.1];exact f);have g:=qu b d;rw[<-a.1]at e;exact⟨ϊ,by rw[a.2,e]⟩
def gI (a b x:Int):Int:=bits BinOp.or IntKind.u32 (x*a % 4294967296) (x / b)
def kc (x:Int):Prop:=0<=x/\x<4294967296
theorem sX (op:BinOp) (x y:Int) (h:op=.and\/op=.or\/op=.xor\/op=.andNot):kc (bits op IntKind.u32 x y):=by
 have a:∀ n:Int,kc (IntKind.u32.wrap n):=fun n=>by
  rw[pU];unfold kc;omega
 rcases h with rfl|rfl|rfl|rfl<;>exact a _
theorem LW (x:Int) (w:β) (c:0<=x) (d:x<4294967296) :
  Calls prog 332 #[ĭ .u32 x,IZ (-2)] w fun e w'=>e=ŗ (ĭ .u32 (gI 1073741824 4 x))/\w=w':=by
 have a:IntKind.u64.wrap (-2)=18446744073709551614:=ϐ;have b:bits BinOp.and IntKind.u64 18446744073709551614 31=30:=ϐ;go_enter func332,ow;go_wp2;go_ret;exact⟨rfl,rfl⟩
theorem LZ (x:Int) (w:β) (c:0<=x) (d:x<4294967296) :
  Calls prog 332 #[ĭ .u32 x,IZ (-6)] w fun e w'=>e=ŗ (ĭ .u32 (gI 67108864 64 x))/\w=w':=by
 have a:IntKind.u64.wrap (-6)=18446744073709551610:=ϐ;have b:bits BinOp.and IntKind.u64 18446744073709551610 31=26:=ϐ;go_enter func332,ow;go_wp2;go_ret;exact⟨rfl,rfl⟩
theorem Ma (x:Int) (w:β) (c:0<=x) (d:x<4294967296) :
  Calls prog 332 #[ĭ .u32 x,IZ (-7)] w fun e w'=>e=ŗ (ĭ .u32 (gI 33554432 128 x))/\w=w':=by
 have a:IntKind.u64.wrap (-7)=18446744073709551609:=ϐ;have b:bits BinOp.and IntKind.u64 18446744073709551609 31=25:=ϐ;go_enter func332,ow;go_wp2;go_ret;exact⟨rfl,rfl⟩
theorem LQ (x:Int) (w:β) (c:0<=x) (d:x<4294967296) :
  Calls prog 332 #[ĭ .u32 x,IZ (-11)] w fun e w'=>e=ŗ (ĭ .u32 (gI 2097152 2048 x))/\w=w':=by
 have a:IntKind.u64.wrap (-11)=18446744073709551605:=ϐ;have b:bits BinOp.and IntKind.u64 18446744073709551605 31=21:=ϐ;go_enter func332,ow;go_wp2;go_ret;exact⟨rfl,rfl⟩
theorem LR (x:Int) (w:β) (c:0<=x) (d:x<4294967296) :
  Calls prog 332 #[ĭ .u32 x,IZ (-13)] w fun e w'=>e=ŗ (ĭ .u32 (gI 524288 8192 x))/\w=w':=by
 have a:IntKind.u64.wrap (-13)=18446744073709551603:=ϐ;have b:bits BinOp.and IntKind.u64 18446744073709551603 31=19:=ϐ;go_enter func332,ow;go_wp2;go_ret;exact⟨rfl,rfl⟩
theorem LS (x:Int) (w:β) (c:0<=x) (d:x<4294967296) :
  Calls prog 332 #[ĭ .u32 x,IZ (-17)] w fun e w'=>e=ŗ (ĭ .u32 (gI 32768 131072 x))/\w=w':=by
 have a:IntKind.u64.wrap (-17)=18446744073709551599:=ϐ;have b:bits BinOp.and IntKind.u64 18446744073709551599 31=15:=ϐ;go_enter func332,ow;go_wp2;go_ret;exact⟨rfl,rfl⟩
theorem LU (x:Int) (w:β) (c:0<=x) (d:x<4294967296) :
  Calls prog 332 #[ĭ .u32 x,IZ (-18)] w fun e w'=>e=ŗ (ĭ .u32 (gI 16384 262144 x))/\w=w':=by
 have a:IntKind.u64.wrap (-18)=18446744073709551598:=ϐ;have b:bits BinOp.and IntKind.u64 18446744073709551598 31=14:=ϐ;go_enter func332,ow;go_wp2;go_ret;exact⟨rfl,rfl⟩
theorem LV (x:Int) (w:β) (c:0<=x) (d:x<4294967296) :
  Calls prog 332 #[ĭ .u32 x,IZ (-19)] w fun e w'=>e=ŗ (ĭ .u32 (gI 8192 524288 x))/\w=w':=by
 have a:IntKind.u64.wrap (-19)=18446744073709551597:=ϐ;have b:bits BinOp.and IntKind.u64 18446744073709551597 31=13:=ϐ;go_enter func332,ow;go_wp2;go_ret;exact⟨rfl,rfl⟩
theorem LX (x:Int) (w:β) (c:0<=x) (d:x<4294967296) :
  Calls prog 332 #[ĭ .u32 x,IZ (-22)] w fun e w'=>e=ŗ (ĭ .u32 (gI 1024 4194304 x))/\w=w':=by
 have a:IntKind.u64.wrap (-22)=18446744073709551594:=ϐ;have b:bits BinOp.and IntKind.u64 18446744073709551594 31=10:=ϐ;go_enter func332,ow;go_wp2;go_ret;exact⟨rfl,rfl⟩
theorem LY (x:Int) (w:β) (c:0<=x) (d:x<4294967296) :
  Calls prog 332 #[ĭ .u32 x,IZ (-25)] w fun e w'=>e=ŗ (ĭ .u32 (gI 128 33554432 x))/\w=w':=by
 have a:IntKind.u64.wrap (-25)=18446744073709551591:=ϐ;have b:bits BinOp.and IntKind.u64 18446744073709551591 31=7:=ϐ;go_enter func332,ow;go_wp2;go_ret;exact⟨rfl,rfl⟩
def nU:Nat->Int->Int
 |0,_=>0
 |f+1,n=>if 1<n then 1+nU f (n / 2)else 0
def mD (a b:Int):Int:=if a<0\/b<0\/b<=a then -1 else nU 64 (b - a)
theorem Is (f:Nat) (n:Int) (h:n<=1):nU f n=0:=by
 cases f with
 |zero=>rfl
 |succ f=>simp only[nU];rw[κ ϊ]
theorem wy {k:IntKind} {a b:Int} (h:a=b):Ending.returned (ĭ k a)=ŗ (ĭ k b):=by rw[h]
theorem Nw (a b:Int) (w:β) (h:a<0\/b<0\/b<=a) :
  Calls prog 322 #[ā #[IZ a,IZ b]] w fun e w'=>e=ŗ (IZ (mD a b))/\BQ w w':=by
 have d:mD a b = -1:=by unfold mD;rw[μ h]
 have c:=Zh d;clear d;by_cases f:a<0
 .go_enter func322,ntmps322
  go_wp2;go_ret;exact⟨wy c.o.symm,ġ⟩
 .by_cases g:b<0
  .go_enter func322,ntmps322
   go_wp2;go_ret;exact⟨wy c.o.symm,ġ⟩
  .have i:b<=a:=ϊ
   go_enter func322,ntmps322;go_wp2;go_ret;exact⟨wy c.o.symm,ġ⟩
theorem Nx (a b:Int) (w:β) (u:0<=a) (x:0<=b) (v:a<b) (z:b<=9223372036854775807) :
  Calls prog 322 #[ā #[IZ a,IZ b]] w fun e w'=>e=ŗ (IZ (mD a b))/\BQ w w':=by
 have l:mD a b=nU 64 (b - a):=by unfold mD;rw[κ ϊ]
 have p:=Zh l;clear l;have E:b - a<2 ^ 63:=ϊ;go_enter func322,ntmps322;go_wp2;go_loop [3,4] (fun t i=>∃ (f:Nat) (q n:Int),f<=64/\0<=q/\q+f<=64/\1<=n/\n<=9223372036854775807/\n<2 ^ f/\nU 64 (b - a)=q+nU f n/\t=IZ q/\i=IZ n) (fun _ i=>(intOf i).toNat)
 case atStart=>exact⟨64,0,b - a,ϊ,ϊ,ϊ,ϊ,ϊ,ϊ,ϊ,rfl,rfl⟩
 case round =>
  obtain⟨f,q,n,y,F,G,A,B,c,d,rfl,rfl⟩:=hrel;by_cases r:1<n
  .have step:∃ g:Nat,f=g+1/\n / 2<2 ^ g/\nU f n=1+nU g (n / 2):=by
    cases f with
    |zero=>simp at c;omega
    |succ g=>exact⟨g,rfl,by rw[Int.pow_succ]at c;omega,by simp only[nU];rw[μ r]⟩
   obtain⟨g,s,j,k⟩:=step;subst s;have o:=Zh k;clear k;have h:=Zh d;clear d;have m:=Zh c;clear c;have H3:=Zh j;clear j;go_wp2
   go_round
   case rel=>exact⟨g,q+1,n / 2,ϊ,ϊ,ϊ,ϊ,ϊ,H3.o,by rw[h.o,o.o];omega,rfl,rfl⟩
   case measure=>simp[intOf];omega
  .have h:=Zh d;clear d
   have m:=Zh c;clear c;go_wp2;go_ret;exact⟨wy (by rw[p.o,h.o,Is _ _ ϊ];simp),ġ⟩
theorem EE (a b:Int) (w:β) (c:b<=9223372036854775807) :
  Calls prog 322 #[ā #[IZ a,IZ b]] w fun e w'=>e=ŗ (IZ (mD a b))/\BQ w w':=by
 by_cases h:a<0\/b<0\/b<=a
 .exact Nw a b w h
 .exact Nx a b w ϊ ϊ ϊ c
def nE (xs:List (Int×Int)):List ε:=xs.flatMap fun s=>[IZ s.1,IZ s.2]
theorem Eg (xs:List (Int×Int)) (k:Nat) (h:k<L xs):(nE xs)[k*2]?=J (IZ xs[k].1)/\(nE xs)[k*2+1]?=J (IZ xs[k].2):=by
 induction xs generalizing k with
 |nil=>simp at h
 |cons x xs a =>
  cases k with
  |zero=>simp[nE]
  |succ k =>
   have:=a k (by simpa using h);simp only[pP];rw[<-this.1,<-this.2];simp only[nE,lg];constructor
   .rw[show(k+1)*2=k*2+2 from ϊ];simp
   .rw[show(k+1)*2+1=(k*2+1)+2 from ϊ];simp
theorem MZ {w:β} {xs:List (Int×Int)} {b off:Nat} (a:∀ i u,(nE xs)[i]?=J u->w.cell? ⟨b,off+i,O⟩=J u) (k:Nat) (c:k<L xs) :
  w.cell? ⟨b,off+k*2,O⟩=J (IZ xs[k].1)/\w.cell? ⟨b,off+k*2+1,O⟩=J (IZ xs[k].2):=
 ⟨a _ _ (Eg xs k c).1,a _ _ (Eg xs k c).2⟩
def wx (xs:List (Int×Int)) (k:Nat):Int:=match xs[k]? with|some s=>mD s.1 s.2|none=>0
def nX (xs:List (Int×Int)):Nat->Int×Bool
 |0=>(0,false)
 |k+1=>if wx xs k<=wx xs (k+1)then(k,true)else nX xs k
def jS (xs:List (Int×Int)):Int×Bool:=nX xs (L xs - 1)
theorem ED (xs:List (Int×Int)) (k:Nat) (h:k<L xs):wx xs k=mD xs[k].1 xs[k].2:=by
 unfold wx;rw[Ρ h]
theorem Kj (v:ε) (xs:List (Int×Int)) (w:β) (h:Rd w v (L xs) 2 (nE xs)) (m:∀ s∈xs,s.2<=9223372036854775807) :
  Calls prog 304 #[v] w fun e w'=>e=ŗ (.tuple #[IZ (jS xs).1,.bool (jS xs).2])/\BQ w w':=by
 obtain⟨-,F,⟨K,c,rfl,k⟩|⟨b,off,c,rfl,M,N,E,x⟩⟩:=h
 .have I:xs=[]:=lM.1 k
  subst I;go_enter func304,ntmps304;go_wp2;refine wp_loop_rounds 1 ?_;rw[rounds_succ];go_wp2;go_ret2;exact⟨rfl,φ _ _⟩
 .unfold maxLen at F E
  go_enter func304,ntmps304;go_wp2;go_loopw [4] (fun i wr=>∃ q:Int,-2<=q/\q<=(L xs:Int) - 2/\jS xs=nX xs (q+1).toNat/\i=IZ q/\BQ w wr) (fun i _=>(intOf i+2).toNat)
  case atStart=>exact⟨(L xs:Int) - 2,ϊ,ϊ,by unfold jS;congr 1;omega,rfl,φ _ _⟩
  case round =>
   obtain⟨q,P,Q,k,rfl,g⟩:=hrel;have l:=Zh k;clear k;by_cases G:0<=q
   .obtain⟨a,rfl⟩:=Int.eq_ofNat_of_zero_le G
    have j:a+1<L xs:=ϊ;have f:=fun i (hi:i<L xs)=>MZ x i hi;have r1:=ϻ ((g.cell (ib w _ (f a ϊ).1)).trans (f a ϊ).1);have r2:=ϻ ((g.cell (ib w _ (f a ϊ).2)).trans (f a ϊ).2);have r3:=ϻ ((g.cell (ib w _ (f (a+1) j).1)).trans (f (a+1) j).1);have r4:=ϻ ((g.cell (ib w _ (f (a+1) j).2)).trans (f (a+1) j).2);have b1:=m xs[a] (Χ _);have b2:=m xs[a+1] (Χ _);have A:=ED xs a ϊ;have B:=ED xs (a+1) ϊ;have o:=fun d os=>Calls.regrown_of (EE xs[a].1 xs[a].2 (grow (redrawn wr d) os) b1);have p:=fun d os=>Calls.regrown_of (EE xs[a+1].1 xs[a+1].2 (grow (redrawn wr d) os) b2);have R:(0:Int)<=(a:Int):=ϊ;have S:(a:Int)<(L xs:Int):=ϊ;have T:(0:Int)<=(a:Int)+1:=ϊ;have U:(a:Int)+1<(L xs:Int):=ϊ;clear f;have r:=Zh A;have t:=Zh B;clear A B x m;go_wp2_with fail
    refine jj ϋ ϋ ?_;repeat (go_big_quiet_step (first|(go_at_call 322;with_reducible exact o _ _)|(go_at_call 322;with_reducible exact p _ _)))
    refine jk ?_;intro _ H;obtain⟨⟨u,osq⟩,z⟩:=H;have n:BQ w (grow (redrawn wr u) osq):=g.trans ((jl wr u osq).mono g.size);rw[<-z]at n;clear z r1 r2 r3 r4 o p;go_wp2
    .go_ret2
     have y:mD xs[a].1 xs[a].2<=mD xs[a+1].1 xs[a+1].2:=Ϙ;refine⟨?_,n⟩;rw[l.o,show((a:Int)+1).toNat=a+1 from ϊ];simp only[nX];rw[r.o,t.o,μ y];rfl
    .go_roundw
     case rel =>
      have y:mD xs[a+1].1 xs[a+1].2<mD xs[a].1 xs[a].2:=Ϙ;refine⟨(a:Int) - 1,ϊ,ϊ,?_,rfl,n⟩;rw[l.o,show((a:Int)+1).toNat=a+1 from ϊ,show((a:Int) - 1+1).toNat=a from ϊ];simp only[nX];rw[r.o,t.o,κ ϊ]
     case measure=>simp[intOf];omega
   .go_wp2
    go_ret2;refine⟨?_,g⟩;rw[l.o,show(q+1).toNat=0 from ϊ];rfl
