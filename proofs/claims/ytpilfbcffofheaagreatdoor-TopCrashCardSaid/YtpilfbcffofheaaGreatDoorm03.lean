/- Part 3 of the proof. -/
import Derived.Test.YtpilfbcffofheaaGreatDoorm01
import Derived.Test.YtpilfbcffofheaaGreatDoorm02
set_option linter.unusedVariables false
set_option linter.unusedSimpArgs false
set_option maxRecDepth 10000
set_option maxHeartbeats 1000000
namespace Go.Proofs.YtpilfbcffofheaaGreatDoor
open Go.Proofs.Tryz Go.RowKit
open Value renaming slice->D,int->ĭ,string->š
open Option renaming none->O,some->J
open List renaming length->L
open Obj renaming cells->C
open World renaming alloc->å
open Ending renaming returned->ŗ
theorem Cw {c:Int} (a:0<=c) (b:c<55296):gt c=true:=by
 simp only[gt,gs,ol,ia];omega
theorem ya {c lo hi:Int} {m:Nat} (h:m=2/\lo=128/\hi=2048\/m=3/\lo=2048/\hi=65536\/m=4/\lo=65536/\hi=9999999) (b:c<hi):(jD c==(m:Int))=decide (lo<=c):=by
 have e:jD c=(m:Int)↔lo<=c:=by
  unfold jD;split
  .omega
  .split
   .omega
   .split<;>omega
 by_cases a:lo<=c
 .rw[kr a,mH];exact e.2 a
 .rw[iC a,gl];exact fun q=>a (e.1 q)
theorem yn (x:Int) (d:0<=x) (r:γ):(x<32->nT 2 x r=pu x r)/\(x<16->nT 3 x r=qs x r)/\(x<8->nT 4 x r=qt x r):=by
 refine⟨fun h=>?_,fun h=>?_,fun h=>?_⟩
 .match r with
  |[]=>rfl
  |b1::r =>
   unfold nT pu;rw[κ ύ];simp only[nQ,wO,qR,Nat.reduceSub];cases a:ip b1
   .rfl
   .have:=qm a
    simp only[if_true,sl];rw[Cw ϊ ϊ,ya (.inl ⟨rfl,rfl,rfl⟩) ϊ];rfl
 .match r with
  |[]=>rfl
  |[_]=>rfl
  |b1::b2::r =>
   unfold nT qs;rw[κ ύ];simp only[nQ,wO,qR,Nat.reduceSub];cases a:ip b1
   .rfl
   .cases b:ip b2
    .rfl
    .have:=qm a
     have:=qm b;simp only[if_true,sl];rw[ya (.inr (.inl ⟨rfl,rfl,rfl⟩)) ϊ]
 .match r with
  |[]=>rfl
  |[_]=>rfl
  |[_,_]=>rfl
  |b1::b2::b3::r =>
   unfold nT qt;rw[κ ύ];simp only[nQ,wO,qR,Nat.reduceSub];cases a:ip b1
   .rfl
   .cases b:ip b2
    .rfl
    .cases c:ip b3
     .rfl
     .have:=qm a
      have:=qm b;have:=qm c;simp only[if_true,sl];rw[ya (.inr (.inr ⟨rfl,rfl,rfl⟩)) ϊ]
theorem HX (l:γ) (b off c:Nat) (w:β) (o:∀ i (hi:i<L l),w.cell? ⟨b,off+i,O⟩=J (ĭ .u8 (ch l[i]))) (p:0<L l) (a:L l<=c) (d:L l<=9223372036854775807) :
  Calls prog 223 #[D (J ⟨b,off,O⟩) (L l) c] w (sL (first l).1 (first l).2 w):=by
 match l,p with
 |b0::r,_ =>
  have c0:w.cell? ⟨b,off,O⟩=J (ĭ .u8 (ch b0)):=o 0 ύ;have q:=Bd b0;obtain⟨n,e⟩:∃ n,L r+1=n:=⟨_,rfl⟩;rw[Ϧ,e]at a d ⊢;have k:∀ i (hi:i<L r),w.cell? ⟨b,off+1+i,O⟩=J (ĭ .u8 (ch r[i])):=fun i hi=>by
   have:=o (i+1) (by simpa using hi);rwa [show off+(i+1)=off+1+i by omega]at this
  simp only[first];by_cases f:ch b0<128
  .rw[μ f];exact HY b off c n w ϊ d a _ c0 q.1 f
  rw[κ f];by_cases m:ch b0<192
  .rw[μ m];exact BS b off c n w ϊ d a _ c0 (.inl ϊ)
  rw[κ m];by_cases g:ch b0<224
  .rw[μ g,<-(yn _ ϊ r).1 ϊ]
   exact yo b off c n 2 r w e d a k _ _ c0 (.inl ⟨rfl,ϊ,g,rfl⟩)
  rw[κ g];by_cases h:ch b0<240
  .rw[μ h,<-(yn _ ϊ r).2.1 ϊ]
   exact yo b off c n 3 r w e d a k _ _ c0 (.inr (.inl ⟨rfl,ϊ,h,rfl⟩))
  rw[κ h];by_cases j:ch b0<248
  .rw[μ j,<-(yn _ ϊ r).2.2 ϊ]
   exact yo b off c n 4 r w e d a k _ _ c0 (.inr (.inr ⟨rfl,ϊ,j,rfl⟩))
  rw[κ j];exact BS b off c n w ϊ d a _ c0 (.inr ϊ)
theorem yC:(prog.info? 3).map (fun i=>(i.zero,i.size,i.bytes))=J (J (IZ 0),1,8):=ϋ
def τ (l:List Int):List ε:=l.map (Value.int .i64)
theorem AU {w:β} {v:ε} {l:γ} (h:Rd w v (L l) 1 (η l)) (g:0<L l):∃ b off c,v=D (J ⟨b,off,O⟩) (L l) c/\L l<=c/\c<=maxLen/\∀ i (hi:i<L l),w.cell? ⟨b,off+i,O⟩=J (ĭ .u8 (ch l[i])):=by
 obtain⟨-,-,⟨f,c,-,j⟩|⟨b,off,c,rfl,_,a,d,e⟩⟩:=h
 .omega
 .exact⟨b,off,c,rfl,a,d,fun i hi=>e i _ (by simp[η,hi])⟩
theorem Bv (v:ε) (l:γ) (w:β) (h:Rd w v (L l) 1 (η l)) (aD:L l<=100000) :
  Calls prog 162 #[v] w (jZ w 3 1 (L (gc l)) (τ (gc l))):=by
 obtain⟨Z,hi,W,X,Y⟩:=ϯ yC;rcases oj (L l) with h0|h0
 .have E:l=[]:=lM.1 h0
  subst E;obtain⟨-,-,⟨av,c,rfl,-⟩|⟨b,off,c,-,m,-⟩⟩:=h
  .go_enter func162,ntmps162
   go_wp2;refine wp_loop_rounds 1 ?_;rw[rounds_succ];go_wp2;go_ret;exact⟨_,rfl,hZ _ _ _ _,φ _ _⟩
  .simp at m
 .obtain⟨b,off,c,rfl,ak,ae,P⟩:=AU h h0
  have ac:=Zh P;clear P h;unfold maxLen at ae;go_enter func162,ntmps162;go_wp2;go_loopw [0,3] (fun s o wr=>∃ (a q r d:Nat) (f:List Int),Hid (r+a=L l)/\r<=d/\d<=9223372036854775807/\(0<r->q=off+a)/\s=D (J ⟨b,q,O⟩) r d/\Hid (gc l=f++gc (l.drop a))/\L f<=a/\wr.ownsRow w.heap.size 3 1 o (L f) (τ f)/\BQ w wr) (fun s _ _=>ju s)
  case atStart=>exact⟨0,off,L l,c,[],rfl,ak,ϊ,fun _=>rfl,rfl,rfl,NZ,hZ _ _ _ _,φ _ _⟩
  case round =>
   obtain⟨a,q,r,d,f,y,ao,ay,H,rfl,I,ax,B,A⟩:=hrel;have ap:=A.size;by_cases aj:0<r
   .obtain rfl:=H aj
    clear H;have n:Hid (∃ (i:Nat) (j:Int),1<=i/\i<=r/\gc (l.drop a)=j::gc (l.drop (a+i))/\Calls prog 223 #[D (J ⟨b,off+a,O⟩) r d] wr (sL j i wr)):=by
     have aF:=y.o;have S:l.drop a≠[]:=by intro e;have:=iY List.length e;simp at this;omega
     have R:=qu _ S;rw[gb]at R;have x:=rj _ S;have n:=HX (l.drop a) b (off+a) d wr (fun aq hi=>by
      rw[gb]at hi
      have m:=ac.o (a+aq) ϊ
      rw[iW,A.cell (ib w _ m),m,List.getElem_drop]) (by rw[gb];omega) (by rw[gb];omega) (by rw[gb];omega)
     rw[gb,show L l - a=r from ϊ]at n;rw[qQ]at x;exact⟨_,_,R.1,ϊ,x,n⟩
    obtain⟨i,j,aB,aC,x,n⟩:=n;have ad:=Zh x;clear x;have K:=Zh n;clear n;have aw:L f<100001:=by have:=y.o;omega
    have az:(0:Int)<=(i:Int):=ϊ;have aA:(i:Int)<=(r:Int):=ϊ;have T:∀ ab∈[IZ j],ab.oneCell'=true:=by intro ab V;simp at V;subst V;rfl
    have M:=Zh T;clear T;have N:Hid (∀ (k:ε) (g:β),g.ownsRow w.heap.size 3 1 k (L f+1) (τ f++[IZ j])->(å wr (C #[IZ j] 3)).grownBy g u3.ownBlock->g.ownsRow w.heap.size 3 1 k (L (f++[j])) (τ (f++[j]))/\BQ w g):=by
     intro k g m G;refine⟨by simpa[τ] using m,(A.alloc ap _).grown G ό (fun ar ai=>(B.lt ar ai).1)⟩
    have U:Hid (∀ F p,(0<r - i->F=off+a+i)->r - i<=p->p<=9223372036854775807->∀ (k:ε) (g:β),g.ownsRow w.heap.size 3 1 k (L (f++[j])) (τ (f++[j]))->BQ w g->∃ (p1 aa r1 d1:Nat) (z:List Int),Hid (r1+p1=L l)/\r1<=d1/\d1<=9223372036854775807/\(0<r1->aa=off+p1)/\Value.slice (J ⟨b,F,O⟩) (r - i) p=D (J ⟨b,aa,O⟩) r1 d1/\Hid (gc l=z++gc (l.drop p1))/\L z<=p1/\g.ownsRow w.heap.size 3 1 k (L z) (τ z)/\BQ w g):=by
     intro F p am ag ah k g m G;refine⟨a+i,F,r - i,p,f++[j],by have:=y.o;show _=_;omega,ag,ah,fun h=>by rw[am h];omega,rfl,?_,ό,m,G⟩;show _=_;rw[I.o,ad.o];simp
    by_cases af:d=i
    .subst af
     have aE:r<=d:=ao;go_wp2_with (first|(go_at_call 223;refine K.o.mono ?_;rintro e au ⟨rfl,rfl⟩)|(at_builtin;refine gn rfl _ _ _ _ rfl w.heap.size 3 Z _ 1 8 jm hi W X Y rfl _ (L f) _ rfl (B.alloc _) _ 1 [IZ j] rfl (ig jm wr _ 1 1 1 rfl M.o) ώ ϊ ό ?_;intro k g u t _ _;obtain⟨f1,f2⟩:=N.o k g u t;clear u t))
     go_roundw;case rel =>
      have E:=U.o (off+a) 0 (fun h=>ϊ) ϊ ϊ _ _ f1 f2;rw[show r - d=0 from ϊ]at E;exact E
     case measure=>simp[ju];omega
    .go_wp2_with (first|(go_at_call 223;refine K.o.mono ?_;rintro e au ⟨rfl,rfl⟩)|(at_builtin;refine gn rfl _ _ _ _ rfl w.heap.size 3 Z _ 1 8 jm hi W X Y rfl _ (L f) _ rfl (B.alloc _) _ 1 [IZ j] rfl (ig jm wr _ 1 1 1 rfl M.o) ώ ϊ ό ?_;intro k g u t _ _;obtain⟨f1,f2⟩:=N.o k g u t;clear u t))
     go_roundw;case rel=>exact U.o _ _ (fun h=>by first|rfl|omega) ϊ ϊ _ _ f1 f2
     case measure=>simp[ju];omega
   .have an:r=0:=ϊ
    subst an;clear H;go_wp2;go_ret;have al:l.drop a=[]:=ng (by have:=y.o;omega);have Q:=I.o;rw[al,ri,im]at Q;rw[Q];exact⟨_,rfl,B,A⟩
theorem ui (x:Int) (a:0<=x) (b:x<256):IntKind.u8.wrap x=x:=by rw[IntKind.wrap_u8];omega
theorem ru (c:Int) (w:β) (a:0<=c) (b:c<10000000):Calls prog 226 #[IZ c] w fun e w'=>e=ŗ (ĭ .u8 (128+c % 64))/\w=w':=by
 have d:=IG c a b;have f:bits BinOp.or IntKind.u8 128 (c % 64)=128+c % 64:=u8_or128 _ ϊ ϊ;have g:IntKind.u8.wrap (c % 64)=c % 64:=ui _ ϊ ϊ;go_enter func226,ntmps226;go_wp2;go_ret;exact⟨rfl,rfl⟩
def sM (w:β) (l:γ) (e:Ending) (w':β):Prop:= ∃ a,e=ŗ (.tuple #[a,IZ 0])/\w'.ownsRow w.heap.size 5 1 a (L l) (η l)/\Below w.heap.size w w'
theorem kf (x:Int) (a:0<=x) (b:x<256):ch (u8 x)=x:=by
 unfold ch u8;rw[wN];omega
theorem qw {c:Int} (h:gt c=true):0<=c/\c<=1114111:=by
 simp only[gt,gs,ia]at h;exact h.1
theorem tG (w:β) (a:Array ε) (e:TypeId) (c n:Nat) (b:a.size=n*c) (d:n<=maxLen):(å w (C a e)).ownsRow w.heap.size e c (D (J ⟨w.heap.size,0,O⟩) n n) n a.toList:=
 ⟨by simpa using b,.inr ⟨w.heap.size,n,a,rfl,NZ,χ w _,NZ,d,b,gW (by rw[qO,b];exact NZ)⟩⟩
theorem HL (c:Int) (w:β) (h:gt c=true) (a:c<128):Calls prog 165 #[IZ c] w (sM w (enc c)):=by
 have o:=qw h;have b:=tS c w;rw[h]at b;have d:=tX c w;rw[show jD c=1 from by unfold jD;rw[μ a]]at d;have k:=Zh b;have l:=Zh d;have f:η (enc c)=[ĭ .u8 (c)]:=by
  unfold enc;rw[μ a];simp only[η,iA,lf];rw[kf (c) ϊ ϊ]
 have g:L (enc c)=1:=by unfold enc;rw[μ a];rfl
 have i:=Zh f;have j:=Zh g;clear b d f g h;have n:IntKind.u8.wrap c=c:=ui _ ϊ ϊ;go_enter func165,ntmps165;go_wp2_with (first|(go_at_call 224;refine k.o.mono ?_;rintro e m ⟨rfl,rfl⟩)|(go_at_call 225;refine l.o.mono ?_;rintro e m ⟨rfl,rfl⟩))
 go_ret2;refine⟨_,rfl,?_,ġ⟩;rw[i.o,j.o];exact tG _ #[ĭ .u8 (c)] _ 1 1 rfl ϐ
theorem HM (c:Int) (w:β) (h:gt c=true) (q:128<=c) (a:c<2048):Calls prog 165 #[IZ c] w (sM w (enc c)):=by
 have r:=qw h;have b:=tS c w;rw[h]at b;have d:=tX c w;rw[show jD c=2 from by unfold jD;rw[κ ϊ];rw[μ a]]at d;have l:=Zh b;have m:=Zh d;have f:η (enc c)=[ĭ .u8 (192+c / 64),ĭ .u8 (128+c % 64)]:=by
  unfold enc;rw[κ ϊ];rw[μ a];simp only[η,iA,lf];rw[kf (192+c / 64) ϊ ϊ,kf (128+c % 64) ϊ ϊ]
 have g:L (enc c)=2:=by unfold enc;rw[κ ϊ];rw[μ a];rfl
 have j:=Zh f;have k:=Zh g;clear b d f g h;have o:IntKind.u8.wrap (c / 64)=c / 64:=ui _ ϊ ϊ;have p:bits BinOp.or IntKind.u8 192 (c / 64)=192+c / 64:=u8_or192 _ ϊ ϊ;have n:=Zh (ru (c) w ϊ ϊ);go_enter func165,ntmps165;go_wp2_with (first|(go_at_call 224;refine l.o.mono ?_;rintro e i ⟨rfl,rfl⟩)|(go_at_call 225;refine m.o.mono ?_;rintro e i ⟨rfl,rfl⟩)|(go_at_call 226;with_reducible refine n.o.mono ?_;rintro e i ⟨rfl,rfl⟩))
 go_ret2;refine⟨_,rfl,?_,ġ⟩;rw[j.o,k.o];exact tG _ #[ĭ .u8 (192+c / 64),ĭ .u8 (128+c % 64)] _ 1 2 rfl ϐ
theorem HN (c:Int) (w:β) (h:gt c=true) (r:2048<=c) (a:c<65536):Calls prog 165 #[IZ c] w (sM w (enc c)):=by
 have s:=qw h;have b:=tS c w;rw[h]at b;have d:=tX c w;rw[show jD c=3 from by unfold jD;rw[κ ϊ];rw[κ ϊ];rw[μ a]]at d;have l:=Zh b;have m:=Zh d;have g:η (enc c)=[ĭ .u8 (224+c / 4096),ĭ .u8 (128+c / 64 % 64),ĭ .u8 (128+c % 64)]:=by
  unfold enc;rw[κ ϊ];rw[κ ϊ];rw[μ a];simp only[η,iA,lf];rw[kf (224+c / 4096) ϊ ϊ,kf (128+c / 64 % 64) ϊ ϊ,kf (128+c % 64) ϊ ϊ]
 have i:L (enc c)=3:=by unfold enc;rw[κ ϊ];rw[κ ϊ];rw[μ a];rfl
 have j:=Zh g;have k:=Zh i;clear b d g i h;have p:IntKind.u8.wrap (c / 4096)=c / 4096:=ui _ ϊ ϊ;have q:bits BinOp.or IntKind.u8 224 (c / 4096)=224+c / 4096:=u8_or224 _ ϊ ϊ;have n:=Zh (ru (c / 64) w ϊ ϊ);have o:=Zh (ru (c) w ϊ ϊ);go_enter func165,ntmps165;go_wp2_with (first|(go_at_call 224;refine l.o.mono ?_;rintro e f ⟨rfl,rfl⟩)|(go_at_call 225;refine m.o.mono ?_;rintro e f ⟨rfl,rfl⟩)|(go_at_call 226;with_reducible refine n.o.mono ?_;rintro e f ⟨rfl,rfl⟩)|(go_at_call 226;with_reducible refine o.o.mono ?_;rintro e f ⟨rfl,rfl⟩))
 go_ret2;refine⟨_,rfl,?_,ġ⟩;rw[j.o,k.o];exact tG _ #[ĭ .u8 (224+c / 4096),ĭ .u8 (128+c / 64 % 64),ĭ .u8 (128+c % 64)] _ 1 3 rfl ϐ
theorem HO (c:Int) (w:β) (h:gt c=true) (r:65536<=c):Calls prog 165 #[IZ c] w (sM w (enc c)):=by
 have s:=qw h;have b:=tS c w;rw[h]at b;have d:=tX c w;rw[show jD c=4 from by unfold jD;rw[κ ϊ];rw[κ ϊ];rw[κ ϊ]]at d;have k:=Zh b;have l:=Zh d;have f:η (enc c)=[ĭ .u8 (240+c / 262144),ĭ .u8 (128+c / 4096 % 64),ĭ .u8 (128+c / 64 % 64),ĭ .u8 (128+c % 64)]:=by
  unfold enc;rw[κ ϊ];rw[κ ϊ];rw[κ ϊ];simp only[η,iA,lf];rw[kf (240+c / 262144) ϊ ϊ,kf (128+c / 4096 % 64) ϊ ϊ,kf (128+c / 64 % 64) ϊ ϊ,kf (128+c % 64) ϊ ϊ]
 have g:L (enc c)=4:=by unfold enc;rw[κ ϊ];rw[κ ϊ];rw[κ ϊ];rfl
 have i:=Zh f;have j:=Zh g;clear b d f g h;have p:IntKind.u8.wrap (c / 262144)=c / 262144:=ui _ ϊ ϊ;have q:bits BinOp.or IntKind.u8 240 (c / 262144)=240+c / 262144:=u8_or240 _ ϊ ϊ;have m:=Zh (ru (c / 4096) w ϊ ϊ);have n:=Zh (ru (c / 64) w ϊ ϊ);have o:=Zh (ru (c) w ϊ ϊ);go_enter func165,ntmps165;go_wp2_with (first|(go_at_call 224;refine k.o.mono ?_;rintro e a ⟨rfl,rfl⟩)|(go_at_call 225;refine l.o.mono ?_;rintro e a ⟨rfl,rfl⟩)|(go_at_call 226;with_reducible refine m.o.mono ?_;rintro e a ⟨rfl,rfl⟩)|(go_at_call 226;with_reducible refine n.o.mono ?_;rintro e a ⟨rfl,rfl⟩)|(go_at_call 226;with_reducible refine o.o.mono ?_;rintro e a ⟨rfl,rfl⟩))
 go_ret2;refine⟨_,rfl,?_,ġ⟩;rw[i.o,j.o];exact tG _ #[ĭ .u8 (240+c / 262144),ĭ .u8 (128+c / 4096 % 64),ĭ .u8 (128+c / 64 % 64),ĭ .u8 (128+c % 64)] _ 1 4 rfl ϐ
theorem yl (c:Int) (w:β) (h:gt c=true):Calls prog 165 #[IZ c] w (sM w (enc c)):=by
 by_cases a:c<128
 .exact HL c w h a
 by_cases b:c<2048
 .exact HM c w h ϊ b
 by_cases d:c<65536
 .exact HN c w h ϊ d
 .exact HO c w h ϊ
def δ (l:γ):ByteArray:=⟨l.toArray⟩
def ϴ (l:γ):ε:=š (δ l)
theorem Ij (l:γ):∀ s:ByteArray,(l.map ch).foldl (fun r n=>r.push (UInt8.ofNat n.toNat)) s=⟨s.data++l.toArray⟩:=by
 induction l with
 |nil=>intro s;simp
 |cons b l a =>
  intro s;simp only[iA,List.foldl_cons,a];have:UInt8.ofNat (ch b).toNat=b:=by simp[ch]
  rw[this]
  congr 1
  apply Array.ext';simp[ByteArray.push]
theorem qI {P:Program} (w:β) (g f e:TypeId) (n:P.underlying g=J (.slice e)) (k:P.underlying e=J (.int .u8)) (j:P.underlying f=J .string)
  (v:ε) (l:γ) (h:Rd w v (L l) 1 (η l)):(convert g f v).run P w=.ok (š (δ l)) w:=by
 have o:∀ (a:Addr) (c:Nat),(∀ d i,(η l)[d]?=J i->w.cell? (a.add d)=J i)->(convert g f (D (J a) (L l) c)).run P w=.ok (š (δ l)) w:=by
  intro a c u;rw[run_convert_bytes_string w g f e _ _ _ n k j];have t:η l=(l.map ch).map (Value.int .u8):=by simp[η]
  have m:=run_loadCells_list (P:=P) w a (η l) u;rw[show(L (η l))=L l from by simp[η],t]at m;rw[run_bytesToString w a (L l) c (l.map ch) m,Ij];simp[δ]
 obtain⟨-,-,⟨p,c,rfl,q⟩|⟨b,off,c,rfl,-,-,-,r⟩⟩:=h
 .have y:l=[]:=lM.1 q
  subst y;cases p with
  |some a=>exact o a c (by simp[η])
  |none =>
   rw[run_convert_bytes_string w g f e _ _ _ n k j];simp[Conv.bytesToString,δ];rfl
 .refine o ⟨b,off,O⟩ c (fun d i x=>?_)
  have s:(⟨b,off,O⟩:Addr).add d=⟨b,off+d,O⟩:=by unfold Addr.add;split<;>simp_all
  rw[s];exact r d i x
theorem jx (l:γ):(δ l).size=L l:=by simp[δ,ByteArray.size]
theorem wA (l:γ):(δ l).data.toList=l:=by simp[δ]
