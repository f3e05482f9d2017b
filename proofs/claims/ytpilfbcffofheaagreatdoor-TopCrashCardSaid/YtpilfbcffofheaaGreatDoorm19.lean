/- Part 19 of the proof. -/
import Derived.Test.YtpilfbcffofheaaGreatDoorm12
import Derived.Test.YtpilfbcffofheaaGreatDoorm18
set_option linter.unusedVariables false
set_option linter.unusedSimpArgs false
set_option maxRecDepth 100000
set_option maxHeartbeats 8000000
namespace Go.Proofs.YtpilfbcffofheaaGreatDoor
open Go.RowKit Go.Sort Go.Proofs.Tryz
open Value renaming slice->D,pointer->þ,string->š
open Option renaming none->O,some->J
open List renaming length->L
open Ending renaming returned->ŗ
open Obj renaming cells->C
open World renaming alloc->å
theorem JD (x y:γ):Op.bytesLess (δ x).toList (δ y).toList=ltStr x y:=by
 rw[hC,hC,bytesLess_eq];rfl
theorem Nf {w:β} {v:ε} {l:List (γ)} (h:Rd w v (L l) 1 (σ l)) :
  ∃ a c,v=D a (L l) c/\L l<=9223372036854775807/\Hid (∀ i (hi:i<L l),∃ b off,a=J ⟨b,off,O⟩/\w.cell? ⟨b,off+i,O⟩=J (ϴ l[i])):=by
 obtain⟨-,f,⟨a,c,rfl,d⟩|⟨b,off,c,rfl,-,-,-,e⟩⟩:=h
 .exact⟨a,c,by rw[d],ϊ,fun i hi=>ϊ⟩
 .exact⟨_,c,rfl,by unfold maxLen at f;omega,fun i hi=>⟨b,off,rfl,e i _ (by simp[σ,hi])⟩⟩
theorem Et {w:β} {v:ε} {l:List (γ)} {n:Nat} (d:L l=n) (h:Rd w v n 1 (σ l)) :
  ∃ a c,v=D a n c/\n<=9223372036854775807/\Hid (∀ i (hi:i<L l),∃ b off,a=J ⟨b,off,O⟩/\w.cell? ⟨b,off+i,O⟩=J (ϴ l[i])):=by
 subst d;exact Nf h
def qe (a c l:List (γ)):Prop:=lR ltStr a/\(∀ x∈a,∀ y∈c,ltStr x y=true)/\∀ b,(b∈a\/b∈c)↔b∈l
theorem qe.start (l:List (γ)):qe [] l l:=⟨List.Pairwise.nil,ύ,ύ⟩
theorem qe.done {a l:List (γ)} (h:qe a [] l):a=gd l:=zo h.1 fun b=>by have:=h.2.2 b;simpa using this
theorem qe.step {g a l:List (γ)} {s:γ} (d:s∈a) (n:∀ y∈a,ltStr y s=false) (h:qe g a l):qe (g++[s]) (a.filter (·!=s)) l:=by
 obtain⟨j,c,k⟩:=h;refine⟨?_,?_,?_⟩
 .refine List.pairwise_append.2 ⟨j,ύ,fun x hx y b=>?_⟩
  obtain rfl:=jW.1 b;exact c x hx _ d
 .intro x hx y b
  obtain⟨f,p⟩:=sF.1 b;rcases mg.1 hx with hx|hx
  .exact c x hx y f
  .obtain rfl:=jW.1 hx
   have o:y≠x:=by simpa using p
   cases m:ltStr x y with
   |true=>rfl
   |false=>exact absurd (pJ y x (n y f) m) o
 .intro i
  rw[<-k i,mg,jW,sF];constructor
  .rintro((h|rfl)|h)
   .exact .inl h
   .exact .inr d
   .exact .inr h.1
  .rintro(h|h)
   .exact .inl (.inl h)
   .by_cases e:i=s
    .exact .inl (.inr e)
    .exact .inr ⟨h,by simpa using e⟩
theorem Rd.kept {w w':β} {v:ε} {n i:Nat} {e:List ε} {r:Option Nat} (h:Rd w v n i e) (hg:w.grownBy w' r) (s:∀ a m c,v=D (J a) m c->J a.block≠r):Rd w' v n i e:=by
 obtain⟨j,q,d⟩:=h;refine⟨j,q,?_⟩;rcases d with d|⟨b,off,c,g,k,l,o,p⟩
 .exact .inl d
 .refine .inr ⟨b,off,c,g,k,l,o,fun t u hi=>?_⟩
  have f:=p t u hi;rw[sA (hg.block b (ib w _ f) (s _ _ _ g))];exact f
def lS (x y:γ):Int:=if ltStr x y then -1 else if ltStr y x then 1 else 0
theorem Cx (x:γ) (w:β):Calls prog 269 #[ϴ x] w fun e w'=>e=ŗ (.bool false)/\w=w':=by
 have a:((δ x).toList==(δ x).toList)=true:=un _;unfold ϴ;go_enter func269,ntmps269;go_wp2;go_ret;exact⟨by first|rfl|simp,rfl⟩
theorem Bo (x y:γ) (w:β):Calls prog 200 #[ϴ x,ϴ y] w fun e w'=>e=ŗ (IZ (lS x y))/\w=w':=by
 have i:=fun g=>Cx x g;have k:=fun g=>Cx y g;unfold ϴ at *;have l1:=JD x y;have c:=hC x;have d:=hC y;cases a:ltStr x y with
 |true =>
  rw[a]at l1;have b:Hid (lS x y = -1):=by show _=_;unfold lS;rw[μ a]
  clear c d a;go_enter func200,ntmps200;go_wp2_with (first|(go_at_call 269;refine(i _).mono ?_;rintro e w' ⟨rfl,rfl⟩)|(go_at_call 269;refine(k _).mono ?_;rintro e w' ⟨rfl,rfl⟩))
  go_ret;exact⟨by rw[b.o];rfl,rfl⟩
 |false =>
  rw[a]at l1;by_cases f:x=y
  .subst f
   have b:Hid (lS x x=0):=by show _=_;unfold lS;rw[κ (by simp[a]),κ (by simp[a])]
   have l:((δ x).toList==(δ x).toList)=true:=un _;clear c d a;go_enter func200,ntmps200;go_wp2_with (first|(go_at_call 269;refine(i _).mono ?_;rintro e w' ⟨rfl,rfl⟩))
   go_ret;exact⟨by rw[b.o];rfl,rfl⟩
  .have j:ltStr y x=true:=by
    cases h:ltStr y x with
    |true=>rfl
    |false=>exact absurd (pJ x y a h) f
   have b:Hid (lS x y=1):=by show _=_;unfold lS;rw[κ (by simp[a]),μ j]
   have l:((δ x).toList==(δ y).toList)=false:=by rw[c,d];simpa using f
   clear c d a j f;go_enter func200,ntmps200;go_wp2_with (first|(go_at_call 269;refine(i _).mono ?_;rintro e w' ⟨rfl,rfl⟩)|(go_at_call 269;refine(k _).mono ?_;rintro e w' ⟨rfl,rfl⟩))
   go_ret;exact⟨by rw[b.o];rfl,rfl⟩
theorem GP (x y:γ):(lS x y==0)=decide (x=y):=by
 unfold lS;cases a:ltStr x y with
 |true =>
  have:x≠y:=by rintro rfl;rw[swo_ltStr.irrefl]at a;cases a
  simp[this]
 |false =>
  cases b:ltStr y x with
  |true =>
   have:x≠y:=by rintro rfl;rw[swo_ltStr.irrefl]at b;cases b
   simp[this]
  |false=>simp[pJ x y a b]
theorem yH:ltOf lS=ltStr:=by
 funext x y;unfold ltOf lS;cases a:ltStr x y with
 |true=>simp
 |false=>cases b:ltStr y x<;>simp
theorem DI (x y:γ) (c:Nat) (a:β) (j:a.cell? ⟨c,0,O⟩=J (.func (.func 200) #[] #[])) :
  Calls prog 267 #[ϴ x,ϴ y,þ (J ⟨c,0,O⟩)] a fun e w'=>e=ŗ (.bool (decide (x=y)))/\BQ a w':=by
 have i:∀ b f,(callFunc 200 b).run prog f=.ok (.enter 200 b) f:=iB func200 ϋ rfl;have h:=Bo x y a;have d:=GP x y;generalize lS x y=r at *;unfold ϴ at *;have g:=Zh d;clear d;go_enter func267,ntmps267;go_wp2_with (go_at_fn 200;refine h.mono ?_;rintro e w' ⟨rfl,rfl⟩)
 go_ret;exact⟨kS g.o,φ _ _⟩
theorem GX {α:Type} [Inhabited α] [DecidableEq α] {zs dk:List α} {k:Nat} (h:Lib.CompInv zs.toArray (L zs) k dk.toArray):Lib.compact zs=dk.take k:=by
 have d:L dk=L zs:=by simpa using h.size
 have c:=h.lt;unfold Lib.compact;apply List.ext_getElem?;intro a;by_cases b:a<k
 .rw[h.low a b,ul b]
  simp[show a<L dk by omega]
 .rw[kZ (by rw[h.len];omega),kZ Ϝ]
theorem Og {P:Program} {w:β} {ops:Array Oper} {f:List Oper} {o:Oper} {a:Act} {Q:Exit->Act->β->Prop} (j:o.guard=O) (s:Operand) (t:TypeId)
  (v:o.op=.call {callee:=.builtin .clear,args:= #[s],argTypes:= #[t]})
  (base:Nat) (e:TypeId) (z:ε) (size:Nat) (B:P.underlying t=J (.slice e)) (E:∀ w,(zeroValue e).run P w=.ok z w)
  (F:z.cells.size=size) (i:∀ u∈z.cells.toList,u.oneCell'=true) (A:0<size)
  (g n b:Nat) (xs:List ε) (x:w.ownsRow base e size (D (J ⟨g,0,O⟩) n b) n xs) (k d m c:Nat) (p:d=k*size) (y:a.eval s=D (J ⟨g,d,O⟩) m c) (l:n<=k) (q:k+m<=b) (r:0<m)
  (h:∀ w',w'.ownsRow base e size (D (J ⟨g,0,O⟩) n b) n xs->w.grownBy w' (J g)->wpList P ops Q f (a.put o.dst (.tuple #[])) w'):wpList P ops Q (o::f) a w:=by
 subst p;exact Oh j s t v base e z size B E F i A g n b xs x k m c y l q r h
theorem tT {l:List (γ)} {k:Nat} (h:k<L l):(σ l)[k]?=J (ϴ l[k]):=by simp[σ,h]
theorem Oo (w:β):(zeroValue 9).run prog w=.ok (š ByteArray.empty) w:=ϋ
theorem Oq:∀ u∈(Value.string ByteArray.empty).cells.toList,u.oneCell'=true:=by
 intro u a;simp[Value.cells]at a;subst a;rfl
def Ae (base:Nat) (zs:List (γ)) (w:β) (e:Ending) (w':β):Prop:=
 ∃ a,e=ŗ a/\w'.ownsRow base 9 1 a (L (Lib.compact zs)) (σ (Lib.compact zs))/\Below base w w'
theorem GY (F g z base:Nat) (zs:List (γ)) (w:β) (ah:w.cell? ⟨F,0,O⟩=J (.func (.func 200) #[] #[])) (aA:F<base)
  (I:w.ownsRow base 9 1 (D (J ⟨g,0,O⟩) (L zs) z) (L zs) (σ zs)) :
  Calls prog 266 #[D (J ⟨g,0,O⟩) (L zs) z,.func (.func 267) #[] #[þ (J ⟨F,0,O⟩)]] w (Ae base zs w):=by
 obtain⟨aY,aB,ag,aR⟩:=kk I;unfold maxLen at aB;have aM:∀ ae w,(callFunc 267 ae).run prog w=.ok (.enter 267 ae) w:=iB func267 ϋ rfl;have Q:prog.follows .mixedOrders=true:=ϋ;have an:(∀ f,f<L zs->Lib.keeps zs.toArray f=true)->Lib.compact zs=zs:=Lib.compact_all zs;have ac:=Zh an;clear an;by_cases aP:L zs<2
 .have u:=Zh I
  clear I;go_enter func266,ntmps266;go_wp2;go_ret;refine⟨_,rfl,?_,φ _ _⟩;rw[ac.o (fun f W=>Lib.keeps_lt_one _ _ ϊ)];exact u.o
 .have u:=Zh I
  clear I;go_enter func266,ntmps266;go_wp2;go_loopw [5] (fun s wr=>∃ a:Nat,1<=a/\a<=L zs/\s=IZ a/\Hid (∀ f,f<a->Lib.keeps zs.toArray f=true)/\BQ w wr) (fun s _=>L zs - (intOf s).toNat)
  case atStart=>exact⟨1,NZ,ϊ,rfl,Lib.keeps_lt_one _,φ _ _⟩
  case round =>
   obtain⟨a,aT,aS,rfl,S,j⟩:=hrel;have B:=ζ j ah;by_cases aj:a<L zs
   .have ai:a - 1<L zs:=ϊ
    have c1:=(Υ u.o j).cellAt a ϊ;have c0:=(Υ u.o j).cellAt (a - 1) ϊ;rw[tT aj]at c1;rw[tT ai]at c0;have K:Hid (zs.toArray[a]! =zs[a]/\zs.toArray[a - 1]! =zs[a - 1]):=⟨by simp[aj],by simp[ai]⟩;generalize zs[a]=x at *;generalize zs[a - 1]=y at *;have v:=fun d os=>Calls.regrown_of (DI x y F (grow (redrawn wr d) os) (ϻ B d os));have r1:=ϻ c1;have r0:=ϻ c0;have aZ:(a:Int)<(L zs:Int):=ϊ;have a0:(0:Int)<=(a:Int) - 1:=ϊ;have a1:(a:Int) - 1<(L zs:Int):=ϊ;have a2:((a:Int) - 1).toNat=a - 1:=ϊ;unfold ϴ at *;clear c0 c1 B;by_cases V:x=y
    .subst V
     have h:decide (x=x)=true:=ύ;rw[h]at v;clear h;go_wp2_with fail
     refine jj Q ϋ ?_;repeat (go_big_quiet_step (first|(go_at_fn 267;with_reducible exact v _ _)))
     refine jk ?_;intro ay t;obtain⟨⟨p,osq⟩,i⟩:=t;have A:=j.trans ((jl wr p osq).mono j.size);rw[<-i]at A;clear i v r0 r1;have a3:(0:Int)<=(a:Int):=ϊ;have a4:(a:Int)<=(L zs:Int):=ϊ;have T:Hid (Lib.keeps zs.toArray a=false):=Lib.keeps_neg ϊ (by rw[K.o.1,K.o.2]);go_wp2;go_loopw [5,7] (fun aJ Z ad=>∃ (c b:Nat) (dk:List (γ)),aJ=IZ c/\Z=IZ b/\1<=b/\a+b<=L zs/\Hid (Lib.CompInv zs.toArray (a+b) c dk.toArray)/\c<a+b/\Hid (L dk=L zs)/\ad.ownsRow base 9 1 (D (J ⟨g,0,O⟩) (L zs) z) (L zs) (σ dk)/\Below base w ad) (fun _ Z _=>L zs - (intOf Z).toNat)
     case atStart=>exact⟨a,1,zs,rfl,rfl,NZ,ϊ,Lib.CompInv.start S.o T.o,ϊ,rfl,Υ u.o A,A.mono ϊ⟩
     case round =>
      obtain⟨c,b,dk,rfl,rfl,aO,aW,E,aU,M,k,q⟩:=hrel;have B:=(q.cell aA).trans ah;by_cases aX:a+b<L zs
      .have aQ:=M.o
       have ap:a+b<L dk:=ϊ;have ao:a+b - 1<L dk:=ϊ;have c1:=k.cellAt (a+b) ϊ;have c0:=k.cellAt (a+b - 1) ϊ;rw[tT ap]at c1;rw[tT ao]at c0;have m:Hid (zs.toArray[a+b]! =dk[a+b]/\zs.toArray[a+b - 1]! =dk[a+b - 1]):=⟨by rw[<-E.o.high _ ϊ];simp[ap],by rw[<-E.o.high _ ϊ];simp[ao]⟩;have c0:wr.cell? ⟨g,a+(b - 1),O⟩=J (ϴ dk[a+b - 1]):=by rw[show a+(b - 1)=a+b - 1 from ϊ];exact c0
       have G:=k.cellAt c ϊ;rw[tT (ϊ:c<L dk)]at G;have af:=k.frozenAt c;generalize dk[c]=bc at *;obtain⟨l,al⟩:∃ aa,aa=dk[a+b]:=⟨_,rfl⟩;obtain⟨ab,am⟩:∃ aa,aa=dk[a+b - 1]:=⟨_,rfl⟩;rw[<-al]at c1 m;rw[<-am]at c0 m;have n:=fun d os=>Calls.regrown_of (DI l ab F (grow (redrawn wr d) os) (ϻ B d os));have r1:=ϻ c1;have r0:=ϻ c0;have aI:(b:Int)<((L zs - a:Nat):Int):=ϊ;have a5:(0:Int)<=(b:Int) - 1:=ϊ;have a6:(b:Int) - 1<((L zs - a:Nat):Int):=ϊ;have a7:((b:Int) - 1).toNat=b - 1:=ϊ;have N:=Zh k;unfold ϴ at r0 r1 c1 G n;clear c0 B al am k;by_cases Y:l=ab
       .subst Y
        have h:decide (l=l)=true:=ύ;have av:=Zh (E.o.skip (Lib.keeps_neg ϊ (by rw[m.o.1,m.o.2])));rw[h]at n;clear h G af;go_wp2_with fail
        refine jj Q ϋ ?_;repeat (go_big_quiet_step (first|(go_at_fn 267;with_reducible exact n _ _)))
        refine jk ?_;intro U t;obtain⟨⟨p,osq⟩,i⟩:=t;have r:BQ wr U:=by rw[i];exact jl wr p osq
        have H:=Υ N.o r;have P:=q.trans (r.mono (gh ϊ q.size));clear i n r0 r1 c1;go_wp2;go_roundw;case rel=>exact⟨c,b+1,dk,rfl,ϕ,ϊ,ϊ,av.o,ϊ,M.o,H,P⟩
        case measure=>simp[intOf];omega
       .have h:decide (l=ab)=false:=by simp[Y]
        have ar:=Zh (E.o.keep ό (Lib.keeps_pos (by rw[m.o.1,m.o.2];exact Y)));rw[h]at n;clear h;go_wp2_with fail
        refine jj Q ϋ ?_;repeat (go_big_quiet_step (first|(go_at_fn 267;with_reducible exact n _ _)))
        refine jk ?_;intro U t;obtain⟨⟨p,osq⟩,i⟩:=t;have r:BQ wr U:=by rw[i];exact jl wr p osq
        have H:=Υ N.o r;have P:=q.trans (r.mono (gh ϊ q.size));have aK:=ζ r c1;have aL:=ζ r G;have aN:=H.frozenAt c;have ak:=H.stored c (š (δ l));have aw:=Zh ak;have R:=Zh P;clear i n r0 r1 c1 G af ak H P;go_wp2;go_roundw;case rel =>
         refine⟨c+1,b+1,dk.set c l,ϕ,ϕ,ϊ,ϊ,?_,ϊ,by show _=_;rw[List.length_set];exact M.o,?_,R.o.setCell ag _⟩
         .have:=ar.o
          rw[m.o.1]at this;show Lib.CompInv _ _ _ _;rw[show a+(b+1)=a+b+1 from ϊ];simpa using this
         .have:=aw.o.1
          rw[show(σ dk).set c (Value.string (δ l))=σ (dk.set c l)from by simp[σ,ϴ]]at this;exact this
        case measure=>simp[intOf];omega
      .have aC:a+b=L zs:=ϊ
       have aI:¬(b:Int)<((L zs - a:Nat):Int):=ϊ;have aV:c<L zs:=ϊ;have a8:(0:Int)<=(c:Int):=ϊ;have a9:(c:Int)<=(L zs:Int):=ϊ;have ba:(c:Int)<=(z:Int):=ϊ;have X:=yR k (ϊ:c<=L zs);rw[nJ]at X;have aD:Hid (Lib.compact zs=dk.take c):=by
        have:=E.o;rw[aC]at this;exact GX this
       have aq:Hid (L (dk.take c)=c):=by show _=_;rw[gN];have:=M.o;omega
       have ax:=Zh X;have R:=Zh q;have aE:=(kk k).2.2.2;clear X q B k;go_wp2_with (refine Og (o:=⟨O,_,_,_,_,_⟩) (by rfl) (.tmp 61) 143 (by rfl) base 9 (š ByteArray.empty) 1 lL Oo rfl Oq ϊ g c z _ ax.o c c (L zs - c) (z - c) ϊ (by rfl) NZ ϊ ϊ ?_;intro bd aH aF;have az:=R.o.grown aF (gh ag (mc aE)) (by intro f W;simp only[Ο]at W;omega))
       go_ret;refine⟨_,rfl,?_,az⟩;rw[aD.o,aq.o,show σ (dk.take c)=(σ dk).take c from by simp[σ,List.map_take]];exact aH
    .have h:decide (x=y)=false:=by simp[V]
     have T:Hid (∀ f,f<a+1->Lib.keeps zs.toArray f=true):=fun f W=>by
      by_cases e:f=a
      .subst e;exact Lib.keeps_pos (by rw[K.o.1,K.o.2];exact V)
      .exact S.o f ϊ
     rw[h]at v;clear h;go_wp2_with fail
     refine jj Q ϋ ?_;repeat (go_big_quiet_step (first|(go_at_fn 267;with_reducible exact v _ _)))
     refine jk ?_;intro ay t;obtain⟨⟨p,osq⟩,i⟩:=t;have A:=j.trans ((jl wr p osq).mono j.size);rw[<-i]at A;clear i v r0 r1;go_wp2;go_roundw;case rel=>exact⟨a+1,ϊ,ϊ,ϕ,T.o,A⟩
     case measure=>simp[intOf];omega
   .have aG:a=L zs:=ϊ
    subst aG;have bb:¬(L zs:Int)<(L zs:Int):=ϊ;have N:=Zh (Υ u.o j);have au:=Zh (ac.o S.o);go_wp2;go_ret;refine⟨_,rfl,?_,j.mono ϊ⟩;rw[au.o];exact N.o
theorem AG {a:Nat} {b w:β} (h:Below a b w) (c:a<=w.heap.size) (os:Array Obj):Below a b (grow w os):=
 h.trans ⟨rfl,rfl,rfl,by simp[grow],fun e d=>heap_grow_old w os ϊ⟩
def FH (base:Nat) (a:TypeId) (c n:Nat) (v:ε) (b:List ε) (w:β) (e:Ending) (w':β):Prop:=
 e=ŗ (.tuple #[])/\w'.ownsRow base a c v n b/\Below base w w'
theorem MY (g a n base:Nat) (l:List (γ)) (w:β) (d:L l=n) (G:n<=100000) (b:w.ownsRow base 9 1 (D (J ⟨g,0,O⟩) n a) n (σ l)) :
  Calls prog 265 #[D (J ⟨g,0,O⟩) n a,.func (.func 200) #[] #[]] w (FH base 9 1 n (D (J ⟨g,0,O⟩) n a) (σ (l.mergeSort fun x y=>!ltStr y x)) w):=by
 obtain⟨H,E,s,u⟩:=kk b;rcases oj n with h0|h0
 .subst h0
  have z:l=[]:=lM.1 d;subst z;refine(Tryz.slices_SortFunc_none (α:=Nat) (J ⟨g,0,O⟩) a _ w).mono ?_;rintro e m ⟨rfl,rfl⟩;exact⟨rfl,by simpa using b,φ _ _⟩
 .have o:∀ h w,(callFunc 200 h).run prog w=.ok (.enter 200 h) w:=iB func200 ϋ rfl
  have t:CmpLays1 prog 200 #[] encStr lS g 0 l.toArray.size w:=fun I os dk F x y=>(Bo x y _).mono fun e m ⟨p,r⟩=>⟨p,0,#[],by rw[grow_empty];exact r.symm⟩;have c:Holds encStr w g 0 l.toArray:=by
   obtain⟨B,A,i,_,_,_,_,_,c⟩:=wW (enc:=encStr) (zs:=l) b (by intro e;cases e);simp only[Ξ,Ο,Addr.mk.injEq,hR,Ϯ]at i;rw[i.1];exact c
  have f:=Tryz.slices_SortFunc_total encStr (fun _=>rfl) lS (by rw[yH];exact swo_ltStr) 200 #[] g 0 a l.toArray w o t c u ό (by rw[yH];exact pJ);rw[yH]at f;simp only[pe,d]at f;refine f.mono ?_;rintro e m ⟨rfl,j,os,rfl⟩;have v:L (l.mergeSort fun x y=>!ltStr y x)=n:=by rw[sE];exact d
  have o1:=wX (q:=j) (k:=n) (ys:=l.mergeSort fun x y=>!ltStr y x) (zs:=l) (enc:=encStr) b v NZ;rw[gW ϊ]at o1;have b1:Below base w (putRow encStr (Sort.ahead w j) g 0 (l.mergeSort fun x y=>!ltStr y x).toArray):=Lib.below_putRow RZ s;exact⟨rfl,Υ o1 (AG RZ NZ os),AG b1 (gh ϊ b1.size) os⟩
theorem Dd {w:β} {base:Nat} {e:TypeId} {size:Nat} {v:ε} {n:Nat} {xs:List ε} (h:w.ownsRow base e size v n xs) (c:v≠D O 0 0):∃ g a,v=D (J ⟨g,0,O⟩) n a:=by
 rcases h.2 with ⟨b,_⟩|⟨g,a,cur,d,_⟩
 .exact absurd b c
 .exact⟨g,a,d⟩
theorem GZ (a g b base n:Nat) (zs:List (γ)) (w:β) (e:L zs=n) (d:w.cell? ⟨a,0,O⟩=J (.func (.func 200) #[] #[])) (c:a<base)
  (f:w.ownsRow base 9 1 (D (J ⟨g,0,O⟩) n b) n (σ zs)) :
  Calls prog 266 #[D (J ⟨g,0,O⟩) n b,.func (.func 267) #[] #[þ (J ⟨a,0,O⟩)]] w (Ae base zs w):=by
 subst e;exact GY a g b base zs w d c f
theorem Ha (a:Option Addr) (c:Nat) (b:ε) (w:β) :
  Calls prog 266 #[D a 0 c,b] w fun e w'=>e=ŗ (D a 0 c)/\w=w':=by
 go_enter func266,ntmps266;go_wp2;go_ret;exact⟨rfl,rfl⟩
theorem LP (v:ε) (n base:Nat) (l:List (γ)) (w:β) (q:L l=n) (ak:n<=100000) (f:w.ownsRow base 9 1 v n (σ l)) :
  Calls prog 198 #[v,.func (.func 200) #[] #[]] w (jZ w 9 1 (L (oa ltStr l)) (σ (oa ltStr l))):=by
 obtain⟨ar,ah,ao,ap,aq⟩:=ϯ rn;have d:BQ w (å w (C #[.func (.func 200) #[] #[]] 305)):=ġ;have o:(å w (C #[.func (.func 200) #[] #[]] 305)).cell? ⟨w.heap.size,0,O⟩=J (.func (.func 200) #[] #[]):=by
  rw[ν _ _ _ _ _ _ (χ w _)];rfl
 have t:(å w (C #[.func (.func 200) #[] #[]] 305)).heap.size=w.heap.size+1:=ύ;by_cases u:v=D O 0 0
 .subst u
  have aj:l=[]:=by
   rcases f.2 with ⟨_,Z⟩|⟨g,c,cur,an,_⟩
   .exact lM.1 (q.trans Z)
   .cases an
  subst aj;have am:Hid (oa ltStr []=[]):=List.eq_nil_iff_forall_not_mem.2 fun x M=>by rw[CQ]at M;cases M
  have aa:=Zh (fun a=>Tryz.slices_Clone_nil 0 0 a);have ab:=Zh (fun m a=>Tryz.slices_SortFunc_none (α:=Nat) O 0 m a);have ac:=Zh (fun m a=>Ha O 0 m a);have k:=Zh d;clear d t f;go_enter func198,ntmps198;go_wp2_with (first
   |(go_at_call 264;refine(aa.o _).mono ?_;rintro e j ⟨rfl,rfl⟩)
   |(go_at_call 265;refine(ab.o _ _).mono ?_;rintro e j ⟨rfl,rfl⟩)
   |(go_at_call 266;refine(ac.o _ _).mono ?_;rintro e j ⟨rfl,rfl⟩))
  go_ret;rw[am.o];exact⟨_,rfl,hZ _ _ _ _,k.o⟩
 .obtain⟨B,c0,rfl⟩:=Dd f u
  have i:=Υ (ii f (Ι _)) (d.mono NZ);obtain⟨b,z⟩:∃ b,b=(å w (C #[.func (.func 200) #[] #[]] 305)):=⟨_,rfl⟩;rw[<-z]at d o t i;have p:=Tryz.slices_Clone ar _ 1 16 ah ao ap aq rfl ϊ Tryz.sizeOf9 B 0 n c0 (σ l) b i.1 ώ ϊ (fun N av K=>by
   have ai:N<n*1:=by rw[<-i.1];exact(lN.1 K).1
   rw[jJ,i.cellAt N ai,K]) (tV l)
  have S:=Zh p;have V:Hid (oa ltStr l=Lib.compact (l.mergeSort fun x y=>!ltStr y x)):=rfl;have G:L (l.mergeSort fun x y=>!ltStr y x)=n:=by rw[sE];exact q
  have X:=Zh (fun(g c:Nat) (a:β) (h:a.ownsRow b.heap.size 9 1 (D (J ⟨g,0,O⟩) n c) n (σ l))=>MY g c n b.heap.size l a q ak h);generalize(l.mergeSort fun x y=>!ltStr y x)=Q at *;have U:=Zh (fun(g c:Nat) (a:β) (ae:a.cell? ⟨w.heap.size,0,O⟩=J (.func (.func 200) #[] #[])) (h:a.ownsRow b.heap.size 9 1 (D (J ⟨g,0,O⟩) n c) n (σ Q))=>GZ w.heap.size g c b.heap.size n Q a G ae ϊ h);have r:w.heap.size<b.heap.size:=ϊ;have k:=Zh d;have Y:=Zh o;have T:Hid (Calls prog 264 #[D (J ⟨B,0,O⟩) n c0] (å w (C #[.func (.func 200) #[] #[]] 305)) fun e P=>∃ A,e=ŗ A/\P.ownsRow b.heap.size 9 1 A n (σ l)/\A≠D O 0 0/\BQ b P):=by
   show Calls _ _ _ _ _;rw[<-z];exact p
  clear p u f i d G S z o t;go_enter func198,ntmps198;go_wp2_with (first
   |(go_at_call 264;refine T.o.mono ?_;rintro e j ⟨aw,rfl,s,H,E⟩;obtain⟨g,c,rfl⟩:=Dd s H;have ag:=ζ E Y.o;have W:=Zh (X.o g c j s);clear s H)
   |(go_at_call 265;refine W.o.mono ?_;rintro e au ⟨rfl,I,F⟩;have R:=Zh (U.o g c au ((F.cell r).trans ag) I);clear I)
   |(go_at_call 266;refine R.o.mono ?_;rintro e ay ⟨ax,rfl,al,af⟩))
  go_ret;rw[V.o];have ad:=(E.trans F).trans af;exact⟨_,rfl,ii al (mc r),k.o.trans (ad.mono (mc r))⟩
theorem Nv (l:γ) (a:L l<=100000):L (Μ l)<=100000:=by have:=ud l;omega
theorem NC (v:ε) (l:γ) (w:β) (f:Ϩ w) (h:Rd w v (L l) 1 (η l)) (c:L l<=100000) :
  Calls prog 121 #[v] w (jZ w 9 1 (L (gd (Μ l))) (σ (gd (Μ l)))):=by
 have b:=zz v l w f h c;have m:=Nv l c;generalize Μ l=g at *;have j:=Zh b;clear b h f;go_enter func121,ntmps121;go_wp2_with (first
  |(go_at_call 199;refine j.o.mono ?_;rintro e p ⟨o,rfl,d,a⟩;have i:=Zh (LP o (L g) _ g p rfl m d);clear d)
  |(go_at_call 198;refine i.o.mono ?_;rintro e r ⟨q,rfl,n,k⟩))
 go_ret;exact⟨_,rfl,ii n a.size,a.trans (k.mono a.size)⟩
section
open Go.RowKit Go.Sort Go.Maps
theorem vt:Keyed prog 9:=string_keyed lK
theorem Fi (w:β):(zeroValue 23).run prog w=.ok (.slice O 0 0) w:=ϋ
theorem IV:(prog.info? 3).map (fun i=>(i.zero,i.size,i.bytes))=J (J (IZ 0),1,8):=ϋ
def Fz (docs:List (γ)) (f t:Nat) (w:β) (e:Ending) (w':β):Prop:= ∃ a,e=ŗ (.tuple #[a,IZ 0])/\(∀ c:β,(∀ b,w.heap.size<=b->b<w'.heap.size->c.heap[b]?=w'.heap[b]?)->fY c a (L (iN docs f (t - f))) (iN docs f (t - f)))/\Below w.heap.size w w'
theorem tH {w w':β} {base:Nat} {e:TypeId} {size:Nat} {v:ε} {n:Nat} {xs:List ε} (h:w.ownsRow base e size v n xs) (c:∀ g,v.ownBlock=J g->w'.heap[g]?=w.heap[g]?):w'.ownsRow base e size v n xs:=by
 obtain⟨i,f⟩:=h;refine⟨i,?_⟩;rcases f with h|⟨g,b,cur,a,d,hg,j⟩
 .exact .inl h
 .exact .inr ⟨g,b,cur,a,d,by rw[c g (by rw[a];rfl)];exact hg,j⟩
theorem CL:∀ {a b:List Int},(Go.ChangeShapes.lits .i64 a:List (DataW Unit))=Go.ChangeShapes.lits .i64 b->a=b
 |[],[],_=>rfl
 |[],b::r,h=>by simp[Go.ChangeShapes.lits]at h
 |a::r,[],h=>by simp[Go.ChangeShapes.lits]at h
 |a::r,b::s,h=>by
  simp only[Go.ChangeShapes.lits,iA,List.cons.injEq,DataW.lit.injEq,Lit.int.injEq,Ϯ]at h;rw[h.1,CL h.2]
theorem DM {w:β} {base:Nat} {e:TypeId} {v:ε} {zs l:List Int} (b:w.ownsInts base e .i64 v zs) (h:vw l=rowDatum .i64 v zs):zs=l:=by
 unfold vw at h;rcases b.datum (H:=Unit)with ⟨h1,rfl⟩|h1
 .rw[h1]at h
  split at h
  .rename_i a;exact a.symm
  .cases h
 .rw[h1]at h
  split at h
  .cases h
  .simp only[DataW.slice.injEq,hR]at h
   exact(CL h).symm
theorem IT:(prog.info? 130).map (fun i=>(i.zero,i.size,i.bytes))=J (J (.agg #[.string ByteArray.empty,.slice O 0 0]),2,40):=ϋ
structure qV (base:Nat) (ws wq:β) (k:Nat) (dv:ε) (F:γ->List Int) (ts:List (γ)) (cells:List ε):Prop where
 own:wq.ownsRow ws.heap.size 130 2 dv k cells
 o:∀ i (hi:i<L ts),i<k->cells[i*2]?=J (ϴ ts[i])/\∃ xv,cells[i*2+1]?=J xv/\wq.ownsRow base 3 1 xv (L (F ts[i])) (τ (F ts[i]))/\∀ g,xv.ownBlock=J g->g<ws.heap.size
 bel:BQ ws wq
theorem qV.step {base k m:Nat} {ws i w b:β} {j v a:ε} {F:γ->List Int} {f:List (γ)} {c:List ε} {s:γ} {ds:List Int}
  (h:qV base ws i k j F f c) (N:k<L f) (u:f[k]=s) (B:ds=F s) (H:L ds=m) (E:i.ownsRow base 3 1 a m (τ ds)) (r:∀ g,a.ownBlock=J g->g<ws.heap.size)
  (n:BQ i w) (A:b.ownsRow ws.heap.size 130 2 v (k+1) (c++[ϴ s,a])) (G:w.grownBy b j.ownBlock):qV base ws b (k+1) v F f (c++[ϴ s,a]):=by
 have p:L c=k*2:=h.own.1;have o:BQ ws b:=(h.bel.trans (n.mono h.bel.size)).grown G (by have:=h.bel.size;have:=n.size;omega) (fun q I=>(h.own.lt q I).1);have t:∀ g,g<ws.heap.size->b.heap[g]?=i.heap[g]?:=fun g hg=>by rw[o.block g hg,h.bel.block g hg]
 refine⟨A,fun d hi M=>?_,o⟩;by_cases e:d=k
 .subst e
  refine⟨?_,a,?_,?_,r⟩
  .rw[gO ϊ,p,kE,u];rfl
  .rw[gO ϊ,p,show d*2+1 - d*2=1 from ϊ];rfl
  .rw[u,<-B,H]
   exact tH E fun g hg=>t g (r g hg)
 .obtain⟨x,K,y,z,l⟩:=h.o d hi ϊ
  refine⟨?_,K,?_,tH z fun g hg=>t g (l g hg),l⟩
  .rw[iX ϊ];exact x
  .rw[iX ϊ];exact y
theorem qV.later {base lo:Nat} {ws d j:β} {k:Nat} {f:ε} {F:γ->List Int} {a:List (γ)} {e:List ε} (h:qV base ws d k f F a e) (n:L a=k) (r:lo<=base) (s:lo<=ws.heap.size)
  (i:∀ b,lo<=b->b<d.heap.size->j.heap[b]?=d.heap[b]?):fY j f (L (a.map fun t=>(t,F t))) (a.map fun t=>(t,F t)):=by
 refine⟨rfl,e,?_,fun o hi=>?_⟩
 .rw[io,n]
  exact Rd.of_own (tH h.own fun g hg=>i g (by have:=(h.own.lt g hg).1;omega) (h.own.lt g hg).2)
 .rw[io]at hi
  obtain⟨l,p,m,c,q⟩:=h.o o hi ϊ;simp only[uo];exact⟨l,p,m,Rd.of_own (tH c fun g hg=>i g (by have:=(c.lt g hg).1;omega) (c.lt g hg).2)⟩
theorem JT (ah:ε) (docs:List (γ)) (f t:Nat) (w:β) (bj:Ϩ w) (a9:Δ w ah docs) (bH:L docs<=1000) (U:∀ d∈docs,L d<=2000) (cw:f<=t) (cx:t<=L docs) :
  Calls prog 64 #[ah,.agg #[IZ f,IZ t]] w (Fz docs f t w):=by
 obtain⟨cm,hi,ci,cj,ck⟩:=ϯ IV;have cB:= @run_makeMap prog;have cN:prog.follows .mixedOrders=true:=ϋ;have bz:=Zh bj;obtain⟨cv,c,rfl,cA,a7⟩:=ny a9;have aS:=Zh a7;have ab:=Zh U;have cO:¬(1000:Int)<(L docs:Int):=ϊ;have cP:¬(f:Int)<0:=ϊ;have n3:¬(t:Int)<(f:Int):=ϊ;have cQ:¬(L docs:Int)<(t:Int):=ϊ;have F:BQ w (å w (C #[IZ f,IZ t] 89)):=ġ;have aH:=χ w (C #[IZ f,IZ t] 89);clear a7 a9 U bj;go_enter func64,ntmps64;go_wp2;generalize bK:(å w (C #[IZ f,IZ t] 89))=j at *;have a5:j.cell? ⟨w.heap.size,0,O⟩=J (IZ f):=by rw[ν _ _ _ _ _ _ aH];rfl
 have a6:j.cell? ⟨w.heap.size,1,O⟩=J (IZ t):=by rw[ν _ _ _ _ _ _ aH];rfl
 clear bK aH;go_loopw [39] (fun k wr=>∃ a:Nat,a<=L docs/\k=IZ a/\wr=j) (fun k _=>L docs - (intOf k).toNat)
 case atStart=>exact⟨0,Ι _,rfl,rfl⟩
 case round =>
  obtain⟨a,bd,rfl,rfl⟩:=hrel;by_cases M:a<L docs
  .obtain⟨b,off,da,dc,rfl,c1,-⟩:=aS.o a M
   have c2:=ζ F c1;have aO:(a:Int)<(L docs:Int):=ϊ;have bO:=ab.o _ (Χ M);have cM:¬(2000:Int)<(L (docs[a]):Int):=ϊ;generalize (L docs[a])=bF at *;clear c1;go_wp2;go_roundw;case rel=>exact⟨a+1,ϊ,ϕ,by first|rfl|trivial⟩
   case measure=>simp[intOf];omega
  .have aO:¬(a:Int)<(L docs:Int):=ϊ
   have aC:BQ wr (å wr (.map #[] 0)):=ġ;have ba:=ζ aC a5;have bb:=ζ aC a6;have bZ:=World.ownsGroups_made (H:=Unit) wr prog 9 3 .i64;have cc:wr.heap.size+1<=(å wr (.map #[] 0)).heap.size:=ύ;have bs:=Zh (kH.start.congr fun E=>(show([]:List Int)=gB docs E f 0 from rfl));clear M bd;go_wp2
   rename β=>j
   generalize bL:å j (.map #[] 0)=cu at *;clear bL ba bb;go_loopw [9] (fun k u=>∃ (a:Nat) (l:DataW Unit) (m:Nat),a<=t - f/\k=IZ ((f+a:Nat):Int)/\u.ownsGroups prog 9 (j.heap.size+1) 3 .i64 j.heap.size m l/\Hid (kH l (fun E=>gB docs E f a))/\m<=a*2001/\BQ j u/\j.heap.size+1<=u.heap.size) (fun k _=>t - (intOf k).toNat)
   case atStart=>exact⟨0,_,0,Ι _,rfl,bZ,bs.o,ϊ,aC,cc⟩
   case round =>
    obtain⟨a,l,m,bd,rfl,r,R,bW,q,Q⟩:=hrel;have ba:=ζ q a5;have bb:=ζ q a6;by_cases M:f+a<t
    .have an:f+a<L docs:=ϊ
     obtain⟨b,off,da,dc,rfl,c1,bi⟩:=aS.o (f+a) an;have aD:BQ w wr:=F.trans (q.mono F.size);have c2:=ζ aD c1;have aO:((f+a:Nat):Int)<(t:Int):=ϊ;have cL:((f+a:Nat):Int)<(L docs:Int):=ϊ;have cK:(0:Int)<=((f+a:Nat):Int):=ϊ;have bw:=Zh (NC (.slice da (L docs[f+a]) dc) docs[f+a] wr (bz.o.below aD) (bi.below aD) (by have:=ab.o _ (Χ an);omega));have bO:=ab.o _ (Χ an);have av:Hid (docs.getD (f+a) []=docs[f+a]):=by show _=_;rw[fR,Ρ an];rfl
     have cH:=ud docs[f+a];generalize (L docs[f+a])=bF at *;have ca:=rV (Μ docs[f+a]);have S:Hid (kH l (mR docs f a 0)):=R.o.congr fun E=>(Kb docs f a E).symm;clear R c1 bi;go_wp2_with (go_at_call 121;refine bw.o.mono ?_;rintro e aq ⟨cS,rfl,o3,b3⟩;obtain⟨ax,ag,rfl⟩:=Θ o3)
     have am:wr.grownBy aq O:=⟨b3.1,b3.2,b3.3,b3.size,fun k hi _=>b3.block k hi⟩;have b0:=r.kept am ύ (r.rowsAbove (fun i K=>by cases K));have bX:BQ j aq:=q.trans (b3.mono q.size);have cf:j.heap.size+1<=aq.heap.size:=gh Q b3.size;have ae:=Zh o3;obtain⟨o,aM⟩:∃ z,z=L (gd (Μ docs[f+a])):=⟨_,rfl⟩;rw[<-aM]at ae ca ⊢;have bh:=r;have cg:=Q;clear r Q o3 am;have b6:aq.Shuns j.heap.size (fun g=>(Value.slice ax o ag).ownBlock=J g):=by
      refine World.Shuns.kept (w:=wr) ?_ ⟨b3.1,b3.2,b3.3,b3.size,fun k hi _=>b3.block k hi⟩ (nj (mF _) cg) (row:=O) ύ;exact World.Shuns.reno (No:=fun _=>False) (fun _ _ _ _ _ _ _ h=>h) bh (fun g hg=>.inr (ae.o.lt g hg).1)
     clear bh;obtain⟨ar,aX⟩:∃ bn,bn=wr.heap.size:=⟨_,rfl⟩;rw[<-aX]at ae;have cJ:j.heap.size+1<=ar:=ϊ;have aw:=Zh aM;clear aM aX;go_loopw [62] (fun k u=>∃ (i:Nat) (l:DataW Unit) (m:Nat),i<=o/\k=IZ i/\u.ownsGroups prog 9 (j.heap.size+1) 3 .i64 j.heap.size m l/\Hid (kH l (mR docs f a i))/\m<=a*2001+i/\BQ j u/\j.heap.size+1<=u.heap.size/\Hid (u.ownsRow ar 9 1 (.slice ax o ag) o (σ (gd (Μ docs[f+a]))))/\u.Shuns j.heap.size (fun g=>(Value.slice ax o ag).ownBlock=J g)) (fun k _=>o - (intOf k).toNat)
     case atStart=>exact⟨0,l,m,Ι _,rfl,b0,S.o,ϊ,bX,cf,ae.o,b6⟩
     case round =>
      obtain⟨i,l,m,K,rfl,r,S,bW,q,Q,ad,aL⟩:=hrel;by_cases aG:i<o
      .have I:i<L (gd (Μ docs[f+a])):=by rw[<-aw.o];exact aG
       have aV:=Zh (Ka docs f a i (gd (Μ docs[f+a]))[i] (by rw[av.o];exact I) (by simp only[av.o]));have aK:L ((gd (Μ docs[f+a]))[i])<=64:=ww _ _ (mQ.1 (Χ I));obtain⟨bC,bE,Z,-,au⟩:=Et (n:=o) (by have:=aw.o;omega) (Rd.of_own ad.o);simp only[Ξ,Ϯ]at Z;obtain⟨rfl,rfl⟩:=Z;obtain⟨bk,so,rfl,V⟩:=au.o i I;have bV:=Χ I;obtain⟨s,p⟩:∃ s,s=(gd (Μ docs[f+a]))[i]:=⟨_,rfl⟩;rw[<-p]at aV aK V bV;change _=J (Value.string (δ s))at V;have ao:keyOf prog 9 (.string (δ s))=J (.string s):=by
        have:=Go.WideMaps.keyOf_string_mk (P:=prog) lK (s:=δ s) (by rw[AP];unfold maxLen;omega);rw[this];simp[δ]
       have aP:(i:Int)<(o:Int):=ϊ;have co:(0:Int)<=(i:Int):=ϊ;have cD:m<=1000*2001+100000:=ϊ;clear p;go_wp2_with (first
        |(at_lookup;refine wpList_lookup_groups_shuns _ rfl _ _ 219 rfl 9 23 3 .i64 vt underlying219 (Fi _) (j.heap.size+1) j.heap.size m _ rfl r ώ _ _ rfl ao ?_;intro aQ aa aB v cl a4 ap)
        |(at_builtin;refine wpList_append_own_at _ rfl _ _ 23 rfl (j.heap.size+1) 3 cm (IZ 0) 1 8 jm hi ci cj ck rfl ϐ _ _ _ rfl (v.1.alloc _) ⟨wr.heap.size,0,O⟩ 1 1 [IZ ((f+a:Nat):Int)] rfl rfl (cell_one_new _ _ _) (ints_oneCell .i64 [((f+a:Nat):Int)]) ώ ϊ ό ?_;intro aR cr bg bc cC bf)
        |(at_mapUpdate;refine wpList_mapUpdate_back_shuns _ rfl _ _ _ 219 rfl vt underlying219 ao r ώ v aL (by intro g hg a0;rcases bf with h|h;(exact ap _ aL g (h.symm.trans hg) a0);(have bI:=h.symm.trans hg;have cy:=(ad.o.lt _ a0).2;simp only[Ο,lz]at bI;omega)) a4 rfl rfl rfl ((World.grownBy_alloc _ _ _).trans bc) (v.appended bg (WalkArith.wf_i64 ϊ)) ό (bf.imp id (fun h=>⟨_,h,ύ⟩)) ?_;intro cs b1 aF b7))
       have aN:=DM v (((S.o.2 s).1.symm).trans aB);have bY:=v.appended bg (WalkArith.wf_i64 ϊ);have al:wr.grownBy cr aQ.ownBlock:=(World.grownBy_alloc wr _ _).trans bc;have bt:Hid (kH (l.put (.string s) (rowDatum .i64 aR (aa++[((f+a:Nat):Int)]))) (mR docs f a (i+1))):=by
        show kH _ _;rw[bY.datum_pos ύ,aN];exact(S.o.put s _).congr aV.o.2
       have bJ:Hid (cs.ownsRow ar 9 1 (.slice (J ⟨bk,so,O⟩) o ag) o (σ (gd (Μ docs[f+a])))):=by
        show World.ownsRow _ _ _ _ _ _ _;refine tH ad.o fun g hg=>?_;have M:=ad.o.lt g hg;rw[aF.block g (by have:=al.size;omega) (by intro e;simp only[Ο]at e;omega)];exact al.block g M.2 (fun e=>ap _ aL g e.symm hg)
       go_roundw;case rel =>
        refine⟨i+1,l.put (.string s) (rowDatum .i64 aR (aa++[((f+a:Nat):Int)])),m+1,ϊ,ϕ,b1,bt,ϊ,q.groups v al aF q.size (Nat.le_succ _) NZ,gh Q (gh al.size aF.size),bJ.o,b7⟩
       case measure=>simp[intOf];omega
      .have W:i=o:=ϊ
       have aP:¬(i:Int)<(o:Int):=ϊ;have bu:Hid (kH l (fun E=>gB docs E f (a+1))):=by
        show kH _ _;exact S.o.congr (JZ docs f a i (by rw[av.o,W,aw.o];exact NZ))
       clear W;go_wp2;go_roundw;case rel=>exact⟨a+1,l,m,ϊ,ϕ,r,bu,ϊ,q,Q⟩
       case measure=>simp[intOf];omega
    .have be:a=t - f:=ϊ
     have br:=Zh be;have aO:¬((f+a:Nat):Int)<(t:Int):=ϊ;have X:Hid (wr.ownsMap prog 9 (rowElem (H:=Unit) wr (j.heap.size+1) 3 .i64) j.heap.size m l):=by
      obtain⟨ai,bD,bM,bo,p,aj,-⟩:=r;exact⟨ai,bD,bM,bo,p,aj⟩
     have cb:=X.o.size_le;have aZ:Hid (∀ A:List (γ),A.Perm (strKeys l)->A.mergeSort (fun x y=>decide (x<=y))=gd (jr docs f a)):=by
      intro A aJ;obtain⟨ai,aj,b5,-⟩:=X.o.entries vt;obtain⟨bG,aY,bU⟩:=X.o.keysOf;refine Jr R.o ⟨ai,aj,b5,fun cp aJ=>?_⟩ (fun t=>yK) aJ;obtain rfl:ai=bG:=by rw[aj]at aY;simpa using aY
      obtain⟨aQ,ce⟩:=bU cp aJ;obtain⟨x,_,ch,_⟩:=Maps.keyOf_str lK ce;exact⟨x,ch⟩
     have cE:m<=2001000:=ϊ;have aT:=Zh (callsIn_wide.1 (Tryz.maps_Keys_M (J j.heap.size) wr));have aU:=Zh (callsIn_wide.1 (Tryz.slices_Sorted_keys_M j.heap.size m l _ wr X.o ώ ϊ));clear be M cb;go_wp2_with (first
      |(go_at_call 123;refine aT.o.mono ?_;rintro e cq ⟨rfl,rfl⟩)
      |(go_at_call 122;refine aU.o.mono ?_;rintro e ws ⟨cR,A,rfl,a1,Y,-,bN⟩;obtain⟨sa,sc,rfl⟩:=Θ Y))
     have a3:BQ wr (å wr (C #[.map (J j.heap.size)] 219)):=ġ;have G:BQ wr ws:=a3.trans (bN.mono a3.size);have az:=aZ.o A a1;have aA:L A=L (gd (jr docs f a)):=by rw[<-az,sE]
     have af:=Zh aA;rw[az]at Y;have am:wr.grownBy ws O:=⟨G.1,G.2,G.3,G.size,fun k hi _=>G.block k hi⟩;have aI:=r.kept am ύ (r.rowsAbove (fun i K=>by cases K));have b8:ws.Shuns j.heap.size (fun g=>ws.heap.size<=g):=World.Shuns.reno (No:=fun _=>False) (fun _ _ _ _ _ _ _ h=>h) aI (fun g hg=>.inr hg);have cF:=G.size;obtain⟨T,ak⟩:∃ z,z=gd (jr docs f a):=⟨_,rfl⟩;rw[<-ak]at Y af;have bv:Hid (ws.ownsRow (å wr (C #[.map (J j.heap.size)] 219)).heap.size 9 1 (.slice sa (L A) sc) (L A) (σ T)):=Y;have bA:=Zh ak;have a2:∀ s∈T,L s<=64:=fun s p=>by
      rw[ak,mQ]at p;unfold jr at p;obtain⟨k,-,hi⟩:=List.mem_flatMap.1 p;exact ww _ _ (mQ.1 hi)
     have cz:L A<=2001000:=by
      rw[aA];have bH:=rV (jr docs f a);have U:L (jr docs f a)<=a*2000:=xC docs 2000 ab.o a f;omega
     generalize (L A)=N at *;have bB:=Zh a2;have ct:=R;obtain⟨cn,bQ,bR,bS,bT⟩:=ϯ IT;clear az aA Y ak a2 a1 aZ X aT aU;go_loopw [12,79] (fun ah k u=>∃ (i:Nat) (ay:List ε),i<=N/\k=IZ i/\Hid (qV (j.heap.size+1) ws u i ah (fun E=>gB docs E f a) T ay)) (fun _ k _=>N - (intOf k).toNat)
     case atStart=>exact⟨0,[],Ι _,rfl,⟨⟨rfl,.inl ⟨rfl,rfl⟩⟩,fun k hi h=>ϊ,φ _ _⟩⟩
     case round =>
      obtain⟨i,ay,K,rfl,ac⟩:=hrel;have B:=ac.o.bel;by_cases aG:i<N
      .have I:i<L T:=by rw[<-af.o];exact aG
       obtain⟨bC,bE,Z,-,au⟩:=Et (n:=N) af.o.symm (Rd.of_own bv.o);simp only[Ξ,Ϯ]at Z;obtain⟨rfl,rfl⟩:=Z;obtain⟨bk,so,rfl,V⟩:=au.o i I;have a8:=ζ B V;have aK:=bB.o _ (Χ I);obtain⟨s,p⟩:∃ s,s=T[i]:=⟨_,rfl⟩;rw[<-p]at a8 aK;have bx:=Zh p.symm;change _=J (Value.string (δ s))at a8;have ao:keyOf prog 9 (.string (δ s))=J (.string s):=by
        have:=Go.WideMaps.keyOf_string_mk (P:=prog) lK (s:=δ s) (by rw[AP];unfold maxLen;omega);rw[this];simp[δ]
       have aP:(i:Int)<(N:Int):=ϊ;have co:(0:Int)<=(i:Int):=ϊ;have aE:ws.grownBy wr O:=⟨B.1,B.2,B.3,B.size,fun k hi _=>B.block k hi⟩;have b4:=aI.kept aE ύ (aI.rowsAbove (fun i K=>by cases K));have b9:=b8.kept aE ϊ ύ;have cd:=B.size;clear p V aE;go_wp2_with (first
        |(at_lookup;refine wpList_lookup_groups_shuns _ rfl _ _ 219 rfl 9 23 3 .i64 vt underlying219 (Fi _) (j.heap.size+1) j.heap.size m _ rfl b4 ώ _ _ rfl ao ?_;intro aQ aa aB v cl a4 ap;obtain⟨bl,bm,rfl⟩:=Θ v.1)
        |(at_builtin;refine gn rfl _ _ _ _ rfl ws.heap.size 130 cn _ 2 40 sm bQ bR bS bT rfl _ i _ rfl (mz ac.o.own (ġ)) _ 1 [.string (δ s),.slice bl (L aa) bm] rfl (ig sm wr _ 2 1 1 rfl Ϛ) ώ ϊ ό ?_;intro aR cT b2 bP cI _))
       have aN:=DM v (((R.o.2 s).1.symm).trans aB);go_roundw;case rel=>exact⟨i+1,ay++[ϴ s,.slice bl (L aa) bm],ϊ,ϕ,ac.o.step I bx.o aN rfl v.1 (fun g hg=>by have:=ap _ b9 g hg;omega) (ġ) b2 bP⟩
       case measure=>simp[intOf];omega
      .have W:i=N:=ϊ
       have aP:¬(i:Int)<(N:Int):=ϊ;have aW:=(F.trans (q.mono F.size)).trans ((G.trans (B.mono G.size)).mono (F.trans (q.mono F.size)).size);have cd:=B.size;have cG:=F.size;have bp:=Zh aW;have bq:=Zh W;clear aW W;go_wp2;go_ret2;refine⟨_,rfl,fun cq U=>?_,bp.o⟩;have:=ac.o.later (lo:=w.heap.size) (by rw[bq.o,af.o]) ϊ ϊ U;rw[bA.o,br.o]at this;exact this
end
