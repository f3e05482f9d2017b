/- Part 1 of the proof. -/
import Derived.Test.YtpilfbcffofheaaGreatDoorm00
set_option linter.unusedVariables false
set_option linter.unusedSimpArgs false
set_option maxHeartbeats 4000000
namespace Go.Proofs.YtpilfbcffofheaaGreatDoor
open Go.Proofs.Tryz Go.RowKit
open Obj renaming cells->C
open Option renaming some->J,none->O
open Ending renaming returned->ŗ
open Value renaming int->ĭ,agg->ā,slice->D
open List renaming length->L
def tw:Array ε:= #[IZ 65,IZ 90,IZ 97,IZ 122,IZ 192,IZ 214,IZ 216,IZ 246,IZ 248,IZ 255,IZ 913,IZ 929,IZ 931,IZ 937,IZ 945,IZ 969,IZ 1024,IZ 1119]
def tW:Array ε:= #[IZ 65,IZ 90,IZ 32,IZ 192,IZ 214,IZ 32,IZ 216,IZ 222,IZ 32,IZ 913,IZ 929,IZ 32,IZ 931,IZ 937,IZ 32,IZ 1024,IZ 1039,IZ 80,IZ 1040,IZ 1071,IZ 32]
structure Ϩ (w:β):Prop where
 letters:∃ t fr,w.heap[0]?=J (C tw t fr)
 shifts:∃ t fr,w.heap[3]?=J (C tW t fr)
theorem vi {w:β} {k:Nat} {o:Obj} (h:w.heap[k]?=J o):k<w.heap.size:=ο h
theorem Ϩ.below {w w':β} (h:Ϩ w) (c:BQ w w'):Ϩ w':=by
 obtain⟨⟨f,d,a⟩,⟨g,e,b⟩⟩:=h;exact⟨⟨f,d,by rw[c.block _ (vi a)];exact a⟩,⟨g,e,by rw[c.block _ (vi b)];exact b⟩⟩
theorem kS {a b:Bool} (h:a=b):Ending.returned (.bool a)=ŗ (.bool b):=by rw[h]
theorem DG {k:IntKind} {a b:Int} (h:a=b):Ending.returned (ĭ k a)=ŗ (ĭ k b):=by rw[h]
theorem BC (c:Int) (w:β):Calls prog 164 #[IZ c] w fun e w'=>e=ŗ (.bool (nV c))/\w=w':=by
 have d:(c<48/\nV c=false)\/(48<=c/\57<c/\nV c=false)\/(48<=c/\c<=57/\nV c=true):=by
  simp only[nV,gs,ia,Bool.and_eq_false_iff,sB];omega
 rcases d with ⟨b,a⟩|⟨f,b,a⟩|⟨f,b,a⟩;all_goals
  rw[a];clear a;go_enter func164,ntmps164;go_wp2;go_ret;first|exact⟨rfl,rfl⟩|exact⟨kS (iC ϊ),rfl⟩|exact⟨kS (kr ϊ),rfl⟩
theorem tS (c:Int) (w:β):Calls prog 224 #[IZ c] w fun e w'=>e=ŗ (.bool (gt c))/\w=w':=by
 have g:(c<0/\gt c=false)\/(0<=c/\1114111<c/\gt c=false)\/(0<=c/\c<=1114111/\c<55296/\gt c=true)\/(0<=c/\c<=1114111/\55296<=c/\c<=57343/\gt c=false)\/(0<=c/\c<=1114111/\55296<=c/\57343<c/\gt c=true):=by
  simp only[gt,gs,ol,ia,Bool.and_eq_false_iff,Bool.or_eq_false_iff,sB];omega
 rcases g with ⟨b,a⟩|⟨d,b,a⟩|⟨d,b,f,a⟩|⟨d,b,f,h,a⟩|⟨d,b,f,h,a⟩;all_goals
  rw[a];clear a;go_enter func224,ntmps224;go_wp2;go_ret;refine⟨kS ?_,rfl⟩;simp;try omega
theorem tX (c:Int) (w:β):Calls prog 225 #[IZ c] w fun e w'=>e=ŗ (IZ (jD c))/\w=w':=by
 have f:(c<128/\jD c=1)\/(128<=c/\c<2048/\jD c=2)\/(128<=c/\2048<=c/\c<65536/\jD c=3)\/(128<=c/\2048<=c/\65536<=c/\jD c=4):=by
  unfold jD;split
  .left;omega
  .split
   .right;left;omega
   .split
    .right;right;left;omega
    .right;right;right;omega
 rcases f with ⟨b,a⟩|⟨d,b,a⟩|⟨d,b,g,a⟩|⟨d,b,g,a⟩;all_goals
  rw[a];clear a;go_enter func225,ntmps225;go_wp2;go_ret;exact⟨rfl,rfl⟩
def rA (k:Nat) (c:Int):Bool:=(rX.take k).all fun s=>!(decide (s.1<=c) && decide (c<=s.2))
def qB (k:Nat) (c:Int):Bool:=(shifts.take k).all fun s=>!(decide (s.1<=c) && decide (c<=s.2.1))
theorem JE {c a b:Int} (k:Nat) (f:rX[k]?=J (a,b)) (d:a<=c) (e:c<=b):mu c=true:=by
 unfold mu;rw[List.any_eq_true];exact⟨(a,b),List.mem_of_getElem? f,by simp[d,e]⟩
theorem JF {c a b:Int} (k:Nat) (e:rX[k]?=J (a,b)) (d:rA k c=true) (h:¬(a<=c/\c<=b)):rA (k+1) c=true:=by
 unfold rA at d ⊢;rw[List.take_add_one,e,List.all_append,d];simp;omega
theorem JG {c:Int} (a:rA 9 c=true):mu c=false:=by
 unfold rA at a;unfold mu;rw[kp]at a;rw[nk];intro h;obtain⟨s,d,b⟩:=List.any_eq_true.1 h;have:=a s d;rw[b]at this;simp at this
theorem HV {α:Type} (p:α->Bool):∀ (l:List α) (k:Nat) (x:α),l[k]?=J x->(l.take k).all (fun s=>!p s)=true->p x=true->l.find? p=J x:=by
 intro l;induction l with
 |nil=>intro k x h;simp at h
 |cons y l c =>
  intro k x h a b;cases k with
  |zero=>simp at h;subst h;simp[List.find?,b]
  |succ k =>
   simp at h a;rw[List.find?_cons,a.1];exact c k x h (by simp;exact a.2) b
theorem MT {c a b d:Int} (k:Nat) (g:shifts[k]?=J (a,b,d)) (h:qB k c=true) (e:a<=c) (f:c<=b):ik c=c+d:=by
 unfold ik;rw[HV _ shifts k (a,b,d) g h (by simp[e,f])]
theorem MV {c a b d:Int} (k:Nat) (f:shifts[k]?=J (a,b,d)) (e:qB k c=true) (h:¬(a<=c/\c<=b)):qB (k+1) c=true:=by
 unfold qB at e ⊢;rw[List.take_add_one,f,List.all_append,e];simp;omega
theorem MW {c:Int} (a:qB 7 c=true):ik c=c:=by
 unfold qB at a;rw[kp]at a;unfold ik;rw[List.find?_eq_none.2];intro s b h;have:=a s b;rw[h]at this;simp at this
theorem CJ (c:Int) (w:β) (p:Ϩ w):Calls prog 163 #[IZ c] w fun e w'=>e=ŗ (.bool (mu c))/\BQ w w':=by
 obtain⟨u,q,hg⟩:=p.letters;go_enter func163,ntmps163;go_wp2_with (refine wpList_load_row rfl 334 _ rfl 0 rfl u tw q _ hg underlying334 rfl ϋ ?_)
 clear hg p;go_loopw [6] (fun l wr=>∃ d:Nat,d<=9/\l=IZ d/\rA d c=true/\BQ w wr) (fun l _=>9 - (intOf l).toNat)
 case atStart=>exact⟨0,ϊ,rfl,rfl,φ _ _⟩
 case round =>
  obtain⟨d,t,rfl,o,f⟩:=hrel;have n:=Zh o;clear o;have g:=f.size;by_cases v:d<9
  .obtain⟨a,b,k,hi⟩:∃ a b:Int,rX[d]?=J (a,b)/\∀ w,(Instr.index 334 (ā tw) (IZ d)).run prog w=.ok (ā #[IZ a,IZ b]) w:=by
    have h:d=0\/d=1\/d=2\/d=3\/d=4\/d=5\/d=6\/d=7\/d=8:=ϊ;rcases h with rfl|rfl|rfl|rfl|rfl|rfl|rfl|rfl|rfl<;>exact⟨_,_,rfl,fun _=>ϋ⟩
   have i:=Zh (JF d k n.o);have m:=Zh (JE (c:=c) d k);have x:(0:Int)<=(d:Int):=ϊ;have y:(d:Int)<9:=ϊ;clear k t;by_cases r:a<=c
   .by_cases s:c<=b
    .have j:=Zh (m.o r s)
     clear m i;go_wp2;go_ret;exact⟨kS j.o.symm,by first|exact f.alloc g _|(repeat (first|exact f.alloc g _|refine sI ?_ ό _))⟩
    .go_wp2
     go_roundw;case rel=>exact⟨d+1,ϊ,ϕ,i.o ϊ,by first|exact f.alloc g _|(repeat (first|exact f.alloc g _|refine sI ?_ ό _))⟩
     case measure=>simp[intOf];omega
   .go_wp2
    go_roundw;case rel=>exact⟨d+1,ϊ,ϕ,i.o ϊ,by first|exact f.alloc g _|(repeat (first|exact f.alloc g _|refine sI ?_ ό _))⟩
    case measure=>simp[intOf];omega
  .obtain rfl:d=9:=ϊ
   have j:=Zh (JG n.o);go_wp2;go_ret;exact⟨kS j.o.symm,f⟩
theorem MR (c:Int) (w:β) (p:Ϩ w) (z : -9223372036854775808<=c) (y:c<=9223372036854775807):Calls prog 310 #[IZ c] w fun e w'=>e=ŗ (IZ (ik c))/\BQ w w':=by
 obtain⟨v,r,hg⟩:=p.shifts;go_enter func310,ntmps310;go_wp2_with (refine wpList_load_row rfl 417 _ rfl 3 rfl v tW r _ hg underlying417 rfl ϋ ?_)
 clear hg p;go_loopw [6] (fun m wr=>∃ f:Nat,f<=7/\m=IZ f/\qB f c=true/\BQ w wr) (fun m _=>7 - (intOf m).toNat)
 case atStart=>exact⟨0,ϊ,rfl,rfl,φ _ _⟩
 case round =>
  obtain⟨f,u,rfl,o,g⟩:=hrel;have j:=Zh o;clear o;have i:=g.size;by_cases A:f<7
  .obtain⟨a,b,d,l,x,hi⟩:∃ a b d:Int,shifts[f]?=J (a,b,d)/\(0<=d/\d<=100/\b<=100000)/\∀ w,(Instr.index 417 (ā tW) (IZ f)).run prog w=.ok (ā #[IZ a,IZ b,IZ d]) w:=by
    have h:f=0\/f=1\/f=2\/f=3\/f=4\/f=5\/f=6:=ϊ;rcases h with rfl|rfl|rfl|rfl|rfl|rfl|rfl<;>exact⟨_,_,_,rfl,ϐ,fun _=>ϋ⟩
   have n:=Zh (MV f l j.o);have q:=Zh (MT (c:=c) f l j.o);have E:(0:Int)<=(f:Int):=ϊ;have F:(f:Int)<7:=ϊ;clear l u;by_cases s:a<=c
   .by_cases t:c<=b
    .have k:=Zh (q.o s t)
     have B:IntKind.i64.wrap (c+d)=c+d:=Ϗ;go_wp2;go_ret;exact⟨DG k.o.symm,by first|exact g.alloc i _|(repeat (first|exact g.alloc i _|refine sI ?_ ό _))⟩
    .go_wp2
     go_roundw;case rel=>exact⟨f+1,ϊ,ϕ,n.o ϊ,by first|exact g.alloc i _|(repeat (first|exact g.alloc i _|refine sI ?_ ό _))⟩
     case measure=>simp[intOf];omega
   .go_wp2
    go_roundw;case rel=>exact⟨f+1,ϊ,ϕ,n.o ϊ,by first|exact g.alloc i _|(repeat (first|exact g.alloc i _|refine sI ?_ ό _))⟩
    case measure=>simp[intOf];omega
  .obtain rfl:f=7:=ϊ
   have k:=Zh (MW j.o);go_wp2;go_ret;exact⟨DG k.o.symm,g⟩
def η (l:γ):List ε:=l.map fun b=>ĭ .u8 (ch b)
theorem Bd (b:UInt8):0<=ch b/\ch b<=255:=by unfold ch;have:=b.toNat_lt;omega
theorem uj (n:Int) (a:0<=n) (b:n<2 ^ 62):IntKind.i64.wrap n=n:=Ϗ
theorem IF (x:Int) (a:0<=x) (b:x<1000000):bits .and .i64 x 31=x % 32:=bits_mask .i64 62 ϐ uj 5 ϊ x a ϊ
theorem IE (x:Int) (a:0<=x) (b:x<1000000):bits .and .i64 x 15=x % 16:=bits_mask .i64 62 ϐ uj 4 ϊ x a ϊ
theorem IH (x:Int) (a:0<=x) (b:x<1000000):bits .and .i64 x 7=x % 8:=bits_mask .i64 62 ϐ uj 3 ϊ x a ϊ
theorem IG (x:Int) (a:0<=x) (b:x<10000000):bits .and .i64 x 63=x % 64:=bits_mask .i64 62 ϐ uj 6 ϊ x a ϊ
theorem II (x y:Int) (d:0<=x) (c:x % 64=0) (e:x<100000000) (a:0<=y) (b:y<64):bits .or .i64 x y=x+y:=
 bits_join .i64 62 ϐ uj 6 x y d c ϊ a b ϊ
def sL (c:Int) (n:Int) (w:β) (e:Ending) (w':β):Prop:=e=ŗ (.tuple #[IZ c,IZ n])/\w=w'
theorem HY (b off c n:Nat) (w:β) (d:0<n) (f:n<=9223372036854775807) (e:n<=c) (z:Int) (a:w.cell? ⟨b,off,O⟩=J (ĭ .u8 z)) (h:0<=z) (g:z<128) :
  Calls prog 223 #[D (J ⟨b,off,O⟩) n c] w (sL z 1 w):=by
 go_enter func223,ntmps223;go_wp2;go_ret2;exact⟨rfl,rfl⟩
theorem BS (b off c n:Nat) (w:β) (h:0<n) (j:n<=9223372036854775807) (i:n<=c) (z:Int) (g:w.cell? ⟨b,off,O⟩=J (ĭ .u8 z)) (a:128<=z/\z<192\/248<=z/\z<=255) :
  Calls prog 223 #[D (J ⟨b,off,O⟩) n c] w (sL 65533 1 w):=by
 have d:(z / 32==6)=false:=gl.2 ϊ;have e:(z / 16==14)=false:=gl.2 ϊ;have f:(z / 8==30)=false:=gl.2 ϊ;have k:128<=z:=ϊ;have l:z<=255:=ϊ;clear a;go_enter func223,ntmps223;go_wp2;go_ret2;exact⟨rfl,rfl⟩
def nQ:Int->γ->Option Int
 |x,[]=>J x
 |x,b::r=>if ip b then nQ (x*64+(ch b - 128)) r else O
def nT (m:Nat) (x:Int) (r:γ):Int×Nat:=
 if L r+1<m then js else match nQ x (r.take (m - 1))with
  |none=>js
  |some c=>if gt c && jD c==(m:Int)then(c,m)else js
theorem Hl {b:UInt8} (h:ip b=false):ch b<128\/192<=ch b:=by
 simp only[ip,Bool.and_eq_false_iff,sB]at h;omega
theorem qm {b:UInt8} (h:ip b=true):128<=ch b/\ch b<192:=by
 simp only[ip,gs,ia]at h;exact h
theorem yo (b off c n m:Nat) (r:γ) (w:β) (ak:L r+1=n) (ay:n<=9223372036854775807) (ax:n<=c) (Q:∀ i (hi:i<L r),w.cell? ⟨b,off+1+i,O⟩=J (ĭ .u8 (ch r[i]))) (z x:Int) (au:w.cell? ⟨b,off,O⟩=J (ĭ .u8 z)) (al:(m=2/\192<=z/\z<224/\x=z - 192)\/(m=3/\224<=z/\z<240/\x=z - 224)\/(m=4/\240<=z/\z<248/\x=z - 240)) :
  Calls prog 223 #[D (J ⟨b,off,O⟩) n c] w (sL (nT m x r).1 (nT m x r).2 w):=by
 have aw:0<n:=ϊ;have Y:=Zh Q;obtain⟨j,F⟩:∃ j:Int,j=m:=⟨_,rfl⟩;have t:Hid (nT m x r=if n<m then js else match nQ x (r.take (m - 1))with
  |none=>js
  |some c=>if gt c && jD c==j then(c,m)else js):=by show _=_;rw[<-ak,F];rfl
 generalize nT m x r=ao at *;clear Q;rcases al with ⟨l,W,X,A⟩|⟨l,W,X,A⟩|⟨l,W,X,A⟩;all_goals
  by_cases v:n<m
  .have f:=t.o
   rw[μ v]at f;subst f;first
    |have o:(z / 32==6)=true:=mH.2 ϊ
     have p:(n:Int)<2:=ϊ
    |have o:(z / 32==6)=false:=gl.2 ϊ
     have B:(z / 16==14)=true:=mH.2 ϊ;have p:(n:Int)<3:=ϊ
    |have o:(z / 32==6)=false:=gl.2 ϊ
     have B:(z / 16==14)=false:=gl.2 ϊ;have af:(z / 8==30)=true:=mH.2 ϊ;have p:(n:Int)<4:=ϊ
   clear F A v t;go_enter func223,ntmps223;go_wp2;go_ret2;exact⟨rfl,rfl⟩
  .have f:=t.o
   rw[κ v]at f;have H:=Zh f;first
    |have o:(z / 32==6)=true:=mH.2 ϊ
     have M:bits BinOp.and IntKind.i64 z 31=x:=by rw[IF z ϊ ϊ];omega
     have p:(2:Int)<=(n:Int):=ϊ;have V:2<=c:=ϊ;have g:Hid (j=2/\m=2):=⟨ϊ,l⟩
    |have o:(z / 32==6)=false:=gl.2 ϊ
     have B:(z / 16==14)=true:=mH.2 ϊ;have M:bits BinOp.and IntKind.i64 z 15=x:=by rw[IE z ϊ ϊ];omega
     have p:(3:Int)<=(n:Int):=ϊ;have V:3<=c:=ϊ;have g:Hid (j=3/\m=3):=⟨ϊ,l⟩
    |have o:(z / 32==6)=false:=gl.2 ϊ
     have B:(z / 16==14)=false:=gl.2 ϊ;have af:(z / 8==30)=true:=mH.2 ϊ;have M:bits BinOp.and IntKind.i64 z 7=x:=by rw[IH z ϊ ϊ];omega
     have p:(4:Int)<=(n:Int):=ϊ;have V:4<=c:=ϊ;have g:Hid (j=4/\m=4):=⟨ϊ,l⟩
   have I:Hid (0<=x/\x<32):=⟨ϊ,ϊ⟩;have az:m<=n:=ϊ;clear f F A v t l;go_enter func223,ntmps223;go_wp2;go_loopw [4,42] (fun ag G wr=>∃ (a:Nat) (y:Int),a+1<=m/\ag=IZ y/\G=IZ a/\wr=w/\Hid (nQ x (r.take (m - 1))=nQ y ((r.take (m - 1)).drop a))/\0<=y/\(a=0/\y<32\/a=1/\y<2048\/a=2/\y<131072\/a=3)) (fun _ G _=>m - 1 - (intOf G).toNat)
   case atStart=>exact⟨0,x,by have:=g.o;omega,rfl,rfl,rfl,rfl,I.o.1,.inl ⟨rfl,I.o.2⟩⟩
   case round =>
    obtain⟨a,y,ai,rfl,rfl,rfl,K,aA,u⟩:=hrel;by_cases S:a+1<m
    .have aj:a<L r:=ϊ
     have av:=Y.o a aj;have E:(r.take (m - 1)).drop a=r[a]::(r.take (m - 1)).drop (a+1):=by
      rw[mh Ϝ,oV]
     have h:=K.o;rw[E]at h;simp only[nQ]at h;have aC:=Bd r[a];have aB:y<131072:=by have:=g.o;omega
     have ab:=Zh S;first
      |have s:(a:Int)<1:=by have:=g.o;omega
      |have s:(a:Int)<2:=by have:=g.o;omega
      |have s:(a:Int)<3:=by have:=g.o;omega
     have aa:=Zh u;cases k:ip r[a]with
     |false =>
      have ah:=Hl k;rw[k,κ ϐ]at h;have f:=H.o;rw[h]at f;subst f;generalize ch r[a]=d at *;have b1:(d / 64 !=2)=true:=by rw[bne_iff_ne];omega
      clear k h E ah u;go_wp2;go_ret2;exact⟨rfl,rfl⟩
     |true =>
      obtain⟨ap,ar⟩:=qm k;rw[k,μ rfl]at h;have ae:=Zh h;generalize ch r[a]=d at *;have b1:(d / 64 !=2)=false:=ϖ;have f1:bits BinOp.and IntKind.u8 d 63=d - 128:=by rw[u8_and63 d ϊ ϊ];omega
      have aq:bits BinOp.or IntKind.i64 (y*64) (d - 128)=y*64+(d - 128):=II _ _ ϊ ϊ ϊ ϊ ϊ;clear k h E u;go_wp2;go_roundw;case rel=>exact⟨a+1,_,ϊ,rfl,ϕ,trivial,ae.o,ϊ,by have:=aa.o;have:=g.o;omega⟩
      case measure=>have:=ab.o;simp[intOf];omega
    .have R:(r.take (m - 1)).drop a=[]:=ng Ϝ
     have h:=K.o;rw[R]at h;simp only[nQ]at h;have f:=H.o;rw[h]at f;simp only at f;first
      |have s:¬(a:Int)<3:=by have:=g.o;omega
      |have s:¬(a:Int)<2:=by have:=g.o;omega
      |have s:¬(a:Int)<1:=by have:=g.o;omega
     have N:=tS y wr;have P:=tX y wr;obtain⟨q,T⟩:∃ q,(jD y !=j)=q:=⟨_,rfl⟩;have U:(jD y==j)=!q:=by rw[<-T,bne,Bool.not_not]
     rw[U]at f;rw[g.o.1]at T;generalize gt y=am at *;have ac:=Zh N;have ad:=Zh P;have Z:=Zh f;clear N P f h R U u ai S;cases am<;>cases q;all_goals
      go_wp2_with (first|(go_at_call 224;with_reducible refine ac.o.mono ?_;rintro e an ⟨rfl,rfl⟩)|(go_at_call 225;with_reducible refine ad.o.mono ?_;rintro e an ⟨rfl,rfl⟩))
      go_ret2;rw[Z.o];first|exact⟨rfl,rfl⟩|(rw[g.o.2];exact⟨rfl,rfl⟩)
