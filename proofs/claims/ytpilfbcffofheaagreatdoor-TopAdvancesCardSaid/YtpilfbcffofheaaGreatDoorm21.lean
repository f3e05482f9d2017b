/- Part 21 of the proof. -/
import Derived.Test.YtpilfbcffofheaaGreatDoorm13
import Derived.Test.YtpilfbcffofheaaGreatDoorm20
set_option linter.all false
set_option maxRecDepth 100000
set_option maxHeartbeats 16000000
namespace Go.Proofs.YtpilfbcffofheaaGreatDoor
open Go.RowKit Go.Proofs.Tryz Go.Sort
open Value renaming slice->D,int->ĭ,string->š
open Option renaming none->O,some->J
open List renaming length->L
open Obj renaming cells->C
open Ending renaming returned->ŗ
open World renaming alloc->å
def Cc (l:γ) (n) : -250<=beg l n 0/\beg l n 0<=256 /\ -20000<=beg l n 1/\beg l n 1<=20000 /\ -1300000<=beg l n 2/\beg l n 2<=1300000 /\ -90000000<=beg l n 3/\beg l n 3<=90000000:=by
 have a:=nT (l.getD 0 0);have b:=nT (l.getD 1 0);have c:=nT (l.getD 2 0);have d:=nT (l.getD 3 0);have e:0<=mQ n/\mQ n<=240:=by unfold mQ;(repeat' split)<;>decide
 simp only[beg];simp only[iI,Nat.reduceAdd];omega
def Ia (l:γ) (n) (b:n<=4) : -90000000<=kp l n/\kp l n<=90000000:=by
 unfold kp;split
 .decide
 .have:=Cc l n
  have a:n - 1=0\/n - 1=1\/n - 1=2\/n - 1=3:=U;rcases a with h|h|h|h<;>rw[h]<;>omega
def HZ (v:ε) (l:γ) (n:Nat) (w:β) (h:Rd w v (L l) 1 (η l)) (M:0<L l) (ad:1<=n) (ae:n<=4) :
  Calls prog 347 #[v,G n] w fun e w'=>e=ŗ (G (kp l n))/\BQ w w':=by
 obtain⟨b,off,c,rfl,a1,aa,Q⟩:=uG h M;have Z:=Zh Q;by_cases T:L l<n
 .have s:kp l n = -1:=by unfold kp;rw[μ T]
  rw[s];have X:(L l:Int)<(n:Int):=U;go_enter func347,ntmps347;go_wp2;go_ret;exact⟨rfl,ρ _ _⟩
 .have X:¬(L l:Int)<(n:Int):=U
  have s:Hid (kp l n=beg l n (n - 1)):=by show _=_;unfold kp;rw[κ T]
  have c0:=Q 0 M;rw[show off+0=off from rfl]at c0;have ac:Hid (mQ n=(if n=2 then 192 else if n=3 then 224 else if n=4 then 240 else 0)):=rfl;have V:n=1\/n=2\/n=3\/n=4:=U;have Y:=Cc l n;have a0:=Zh Y;have j:Hid (beg l n 0=ch l[0] - mQ n):=by
   show _=_;simp only[beg,List.getD,Ρ M,Option.getD_some]
  have ab:=nT l[0];generalize af:l[0]=ag at *;have t:BQ w (å w (C #[G 0,G 0,G 192,G 224,G 240] 3)):=ġ;have A:=(t.cell (ii w _ c0)).trans c0;have B:∀ F N,(#[G 0,G 0,G 192,G 224,G 240]:Array ε)[F]?=J N->(å w (C #[G 0,G 0,G 192,G 224,G 240] 3)).cell? ⟨w.heap.size,F,O⟩=J N:=by
   intro F N W;rw[ξ _ w.heap.size F _ _ _ (φ w _)];exact W
  rcases V with rfl|rfl|rfl|rfl
  .have m:=B 1 (G 0) rfl
   have r:mQ 1=0:=rfl;rw[r,Int.sub_zero]at j;go_enter func347,ntmps347;go_wp2_with fail
   generalize(å w _)=H at *;have r1:=Ι A;have r2:=Ι m;refine ui ϋ ϋ ?_;repeat (go_big_quiet_step (fail))
   refine gc fun I o=>?_;have p:=t.t o;rw[<-j.o];go_wp2;go_loopw [6,7] (fun x d wr=>∃ (a:Nat),a+1<=1/\d=G ((a+1:Nat):Int)/\x=G (beg l 1 a)/\BQ w wr) (fun _ d _=>1 - (intOf d).toNat)
   .exact⟨0,U,rfl,rfl,p⟩
   obtain⟨a,K,rfl,rfl,f⟩:=hrel;by_cases E:a+1<1
   .exact absurd E U
   .have q:a=0:=U
    subst q;go_wp2;go_ret;exact⟨by rw[s.o];rfl,f⟩
  .have m:=B 2 (G _) rfl
   have r:mQ 2=192:=rfl;rw[r]at j;go_enter func347,ntmps347;go_wp2_with fail
   generalize(å w _)=H at *;have r1:=Ι A;have r2:=Ι m;refine ui ϋ ϋ ?_;repeat (go_big_quiet_step (fail))
   refine gc fun I o=>?_;have p:=t.t o;rw[<-j.o];go_wp2;go_loopw [6,7] (fun x d wr=>∃ (a:Nat),a+1<=2/\d=G ((a+1:Nat):Int)/\x=G (beg l 2 a)/\BQ w wr) (fun _ d _=>2 - (intOf d).toNat)
   .exact⟨0,U,rfl,rfl,p⟩
   obtain⟨a,K,rfl,rfl,f⟩:=hrel;by_cases E:a+1<2
   .have k:a+1<L l:=U
    have i:=Z.o _ k;have P:=(f.cell (ii w _ i)).trans i;have z:Hid (beg l 2 (a+1)=beg l 2 a*64+ch l[a+1] - 128):=by
     show _=_;simp only[beg,List.getD,Ρ k,Option.getD_some]
    have S:=nT l[a+1];have R : -1300000<=beg l 2 a/\beg l 2 a<=1300000:=by
     have u:a=0\/a=1\/a=2:=U;rcases u with h|h|h<;>rw[h]<;>omega
    generalize l[a+1]=y at *;generalize beg l 2 a=g at *;go_wp2;go_roundw
    .exact⟨a+1,U,ϕ,by rw[z.o],f⟩
    exact ω
   .have q:a=1:=U
    subst q;go_wp2;go_ret;exact⟨by rw[s.o];rfl,f⟩
  .have m:=B 3 (G _) rfl
   have r:mQ 3=224:=rfl;rw[r]at j;go_enter func347,ntmps347;go_wp2_with fail
   generalize(å w _)=H at *;have r1:=Ι A;have r2:=Ι m;refine ui ϋ ϋ ?_;repeat (go_big_quiet_step (fail))
   refine gc fun I o=>?_;have p:=t.t o;rw[<-j.o];go_wp2;go_loopw [6,7] (fun x d wr=>∃ (a:Nat),a+1<=3/\d=G ((a+1:Nat):Int)/\x=G (beg l 3 a)/\BQ w wr) (fun _ d _=>3 - (intOf d).toNat)
   .exact⟨0,U,rfl,rfl,p⟩
   obtain⟨a,K,rfl,rfl,f⟩:=hrel;by_cases E:a+1<3
   .have k:a+1<L l:=U
    have i:=Z.o _ k;have P:=(f.cell (ii w _ i)).trans i;have z:Hid (beg l 3 (a+1)=beg l 3 a*64+ch l[a+1] - 128):=by
     show _=_;simp only[beg,List.getD,Ρ k,Option.getD_some]
    have S:=nT l[a+1];have R : -1300000<=beg l 3 a/\beg l 3 a<=1300000:=by
     have u:a=0\/a=1\/a=2:=U;rcases u with h|h|h<;>rw[h]<;>omega
    generalize l[a+1]=y at *;generalize beg l 3 a=g at *;go_wp2;go_roundw
    .exact⟨a+1,U,ϕ,by rw[z.o],f⟩
    exact ω
   .have q:a=2:=U
    subst q;go_wp2;go_ret;exact⟨by rw[s.o];rfl,f⟩
  .have m:=B 4 (G _) rfl
   have r:mQ 4=240:=rfl;rw[r]at j;go_enter func347,ntmps347;go_wp2_with fail
   generalize(å w _)=H at *;have r1:=Ι A;have r2:=Ι m;refine ui ϋ ϋ ?_;repeat (go_big_quiet_step (fail))
   refine gc fun I o=>?_;have p:=t.t o;rw[<-j.o];go_wp2;go_loopw [6,7] (fun x d wr=>∃ (a:Nat),a+1<=4/\d=G ((a+1:Nat):Int)/\x=G (beg l 4 a)/\BQ w wr) (fun _ d _=>4 - (intOf d).toNat)
   .exact⟨0,U,rfl,rfl,p⟩
   obtain⟨a,K,rfl,rfl,f⟩:=hrel;by_cases E:a+1<4
   .have k:a+1<L l:=U
    have i:=Z.o _ k;have P:=(f.cell (ii w _ i)).trans i;have z:Hid (beg l 4 (a+1)=beg l 4 a*64+ch l[a+1] - 128):=by
     show _=_;simp only[beg,List.getD,Ρ k,Option.getD_some]
    have S:=nT l[a+1];have R : -1300000<=beg l 4 a/\beg l 4 a<=1300000:=by
     have u:a=0\/a=1\/a=2:=U;rcases u with h|h|h<;>rw[h]<;>omega
    generalize l[a+1]=y at *;generalize beg l 4 a=g at *;go_wp2;go_roundw
    .exact⟨a+1,U,ϕ,by rw[z.o],f⟩
    exact ω
   .have q:a=3:=U
    subst q;go_wp2;go_ret;exact⟨by rw[s.o];rfl,f⟩
section
variable {P:Program} {ops:Array Oper} {Q:Exit->Act->β->Prop} {md:Region.Mode}
def HT {c S':β->Prop} (f:∀ w,S' w->c w) {e:Nat}:∀ (m:Nat) (b:Array Bool) (a:Act) (w:β),Ϥ P md ops Q S' e m b a w->Ϥ P md ops Q c e m b a w:=by
 intro m;induction m with
 |zero=>intro b a w h;exact h
 |succ m j =>
  intro b a w h;exact⟨h.1,fun i hi=>mZ (fun k l d=>⟨fun g=>f _ (d.1 g),j _ _ _ d.2⟩) (h.2 i hi)⟩
end
theorem EI {d:β} {b off c} {l:γ} (h:∀ i (q:i<L l),d.cell? ⟨b,off+i,O⟩=J (ĭ .u8 (ch l[i]))) (j:L l<=c) (k:c<=maxLen) (p m) (f:0<m) (n:p+m<=L l) :
  Rd d (D (J ⟨b,off+p,O⟩) m (c - p)) (L ((l.drop p).take m)) 1 (η ((l.drop p).take m)):=by
 have a:L ((l.drop p).take m)=m:=by rw[gp,fT];omega
 rw[a];refine⟨by rw[oA,a];omega,U,.inr ⟨b,off+p,c - p,rfl,f,U,U,fun i o e=>?_⟩⟩;have q:i<m:=by
  have:=(lK.1 e).1;rw[oA,a]at this;exact this
 have g:=h (p+i) U;rw[show off+p+i=off+(p+i)from U,g,<-e];simp only[η,jP,iH,jr];rw[μ q,Ρ U];rfl
def Nw (v:ε) (l:γ) (w:β) (h:Rd w v (L l) 1 (η l)) (bq:L l<=100000) :
  Calls prog 344 #[v] w (iJ w 3 1 (L (gg l)) (τ (gg l))):=by
 obtain⟨a8,hi,a5,a6,a7⟩:=Ϩ oB;rcases nK (L l) with h0|h0
 .have ay:l=[]:=lJ.1 h0
  subst ay;obtain⟨-,-,⟨bd,c,rfl,-⟩|⟨b,off,c,-,z,-⟩⟩:=h
  .go_enter func344,ntmps344
   go_wp2;refine wp_loop_rounds 1 ?_;rw[rounds_succ];go_wp2;go_ret;exact⟨_,rfl,gQ _ _ _ _,ρ _ _⟩
  .simp at z
 .obtain⟨b,off,c,rfl,ap,aP,aj⟩:=uG h h0
  have aC:=Zh aj;clear aj h;unfold maxLen at aP;go_enter func344,ntmps344;go_wp2;go_loopw [3,4] (fun o p wr=>∃ (a:Nat) (j:List Int),a<=L l/\p=G a/\Hid (gg l=j++gg (l.drop a))/\L j<=a/\wr.ownsRow w.heap.size 3 1 o (L j) (τ j)/\BQ w wr) (fun _ p _=>L l - (intOf p).toNat)
  .exact⟨0,[],Ζ _,rfl,rfl,NZ,gQ _ _ _ _,ρ _ _⟩
  obtain⟨a,j,br,rfl,ad,bl,s,r⟩:=hrel;by_cases bp:a<L l
  .have aD:Hid ((first (l.drop a))=mw (l.drop a) 4):=(NF _ (by intro e;have:=jp List.length e;simp at this;omega)).symm
   have aU:(a:Int)<(L l:Int):=U;obtain⟨aa,ab,rfl⟩:=Η s;have aq:l.drop a≠[]:=by intro e;have:=jp List.length e;simp at this;omega
   have aQ:L (l.drop a)=L l - a:=fT;go_wp2;go_loopw [5,6,7] (fun aG ba Z f=>∃ g:Nat,g<=4/\Z=G ((g+1:Nat):Int)/\aG=G (mw (l.drop a) g).1/\ba=G ((mw (l.drop a) g).2:Nat)/\f.ownsRow w.heap.size 3 1 (D aa (L j) ab) (L j) (τ j)/\BQ w f) (fun _ _ Z _=>6 - (intOf Z).toNat)
   .exact⟨0,U,rfl,rfl,rfl,s,r⟩
   obtain⟨g,bm,rfl,rfl,rfl,s,r⟩:=hrel;have Y:=r.size;by_cases bn:g<4
   .have bo:((g+1:Nat):Int)<=4:=U
    have ai:∀ f,BQ w f->∀ p (hi:p<L l),f.cell? ⟨b,off+p,O⟩=J (ĭ .u8 (ch l[p])):=fun f E p hi=>by
     have z:=aC.o p hi;exact(E.cell (ii w _ z)).trans z
    have aw:=EI (ai wr r) ap ώ a (L l - a) U U;rw[show(l.drop a).take (L l - a)=l.drop a from gF U]at aw;have aN:=HZ _ _ (g+1) wr aw U U U;have ac:=Zh aN;have aK:=Zh (fun f E i h0 aV=>EI (ai f E) ap ώ a i h0 aV);have bf:(0:Int)<=(a:Int):=U;have bg:(a:Int)<=(L l:Int):=U;have I:=Ia (l.drop a) (g+1) U;have N:Hid (qG (l.drop a) (g+1)=(fR (kp (l.drop a) (g+1)) && enc (kp (l.drop a) (g+1))==(l.drop a).take (g+1))):=rfl;have X:Hid (mw (l.drop a) (g+1)=if qG (l.drop a) (g+1)then(kp (l.drop a) (g+1),g+1)else mw (l.drop a) g):=rfl;generalize kp _ _=x at *;by_cases M:fR x=true
    .have az:=qH M
     obtain⟨i,aW,aX,aY,aZ⟩:∃ i:Nat,0<i/\a+i<=L l/\(if(a:Int)+((g+1:Nat):Int)<(L l:Int)then(a:Int)+((g+1:Nat):Int)else(L l:Int))=((a+i:Nat):Int)/\(l.drop a).take (g+1)=(l.drop a).take i:=by
      by_cases ay:a+(g+1)<L l
      .exact⟨ _,U,U,by rw[μ U];omega,rfl⟩
      .exact⟨L l - a,U,U,by rw[κ U];omega,by rw[gF U,gF U]⟩
     rw[M,nh,aZ]at N;have Q:Hid (∀ f,Calls prog 348 #[G x] f fun e B=>e=ŗ (.bool true)/\f=B):=fun f=>by have:=Fp x f;rw[M]at this;exact this
     have T:Hid (∀ f,Calls prog 349 #[G x] f (iJ f 5 1 (L (enc x)) (η (enc x)))):=fun f=>Fe x f az.1 az.2;have aF:Hid (∀ f,Calls prog 350 #[G ((a:Int)+((g+1:Nat):Int)),G (L l)] f fun e B=>e=ŗ (G ((a+i:Nat):Int))/\f=B):=fun f=>by have:=OB (a+((g+1:Nat):Int)) (L l) f;rw[aY]at this;exact this
     have bh:(a:Int)<=((a+i:Nat):Int):=U;have bi:((a+i:Nat):Int)<=(c:Int):=U;have bj:((a+i:Nat):Int) - (a:Int)=(i:Int):=U;have bt:IntKind.i64.wrap ((a:Int)+((g+1:Nat):Int))=(a:Int)+((g+1:Nat):Int):=Ϗ;have a3:Hid (∀ (f:β) (R:ε),f.ownsRow w.heap.size 5 1 R (L (enc x)) (η (enc x))->(convert 31 9 R).run prog f=.ok (š (δ (enc x))) f):=fun f R aJ=>oM f _ 9 5 gv mA kH _ _ (Rd.of_own aJ);have a4:Hid (∀ (f:β),BQ w f->(convert 31 9 (D (J ⟨b,off+a,O⟩) i (c - a))).run prog f=.ok (š (δ ((l.drop a).take i))) f):=fun f E=>oM f _ 9 5 gv mA kH _ _ (aK.o f E i aW aX);generalize(l.drop a).take i=y at *;generalize enc x=ex at *;generalize ao:((g+1:Nat):Int)=aA at *;generalize bs:((a+i:Nat):Int)=pm at *;go_wp2_with (go_at_call 347;refine ac.o.M ?_;rintro e n ⟨rfl,H⟩)
     have ah:=r.trans (H.M Y);have W:Hid (∀ f,BQ n f->f.ownsRow w.heap.size 3 1 (D aa (L j) ab) (L j) (τ j)/\BQ w f):=fun f q=>⟨ψ (ψ s H) q,ah.t q⟩;refine ϯ (fun f=>BQ n f) 16 ϋ ?_;have k:BQ n n.drew:=RZ.drew;generalize n.drew=wd at *;refine gq (fuel:=17) 0 (G x) rfl ϋ ϋ ϋ ϋ (fun _ _ _ h=>h) ϋ ?_ (k) ?_
     .intro f
      go_simp
     refine Κ  1 ϋ rfl ?_;intro K m;go_simp;refine(Q.o _).M ?_;rintro e B ⟨rfl,rfl⟩;go_simp;refine m _ _ k ?_;refine gq  2 (.bool true) rfl ϋ ϋ ϋ ϋ (fun _ _ _ h=>h) ϋ ?_ (k) ?_
     .intro f
      go_simp
     refine gq  3 (G x) rfl ϋ ϋ ϋ ϋ (fun _ _ _ h=>h) ϋ ?_ (k) ?_
     .intro f
      go_simp
     refine gq  6 (D (J ⟨b,off,O⟩) (L l) c) rfl ϋ ϋ ϋ ϋ (fun _ _ _ h=>h) ϋ ?_ (k) ?_
     .intro f
      go_simp
     refine gq  7 (G a) rfl ϋ ϋ ϋ ϋ (fun _ _ _ h=>h) ϋ ?_ (k) ?_
     .intro f
      go_simp
     refine gq  8 (G a) rfl ϋ ϋ ϋ ϋ (fun _ _ _ h=>h) ϋ ?_ (k) ?_
     .intro f
      go_simp
     refine gq  9 (G aA) rfl ϋ ϋ ϋ ϋ (fun _ _ _ h=>h) ϋ ?_ (k) ?_
     .intro f
      go_simp
     refine gq  10 (G (a+aA)) rfl ϋ ϋ ϋ ϋ (fun _ _ _ h=>h) ϋ ?_ (k) ?_
     .intro f
      go_simp
     refine gq  11 (D (J ⟨b,off,O⟩) (L l) c) rfl ϋ ϋ ϋ ϋ (fun _ _ _ h=>h) ϋ ?_ (k) ?_
     .intro f
      go_simp
     refine gq  12 (G (L l)) rfl ϋ ϋ ϋ ϋ (fun _ _ _ h=>h) ϋ ?_ (k) ?_
     .intro f
      go_simp
     refine Κ  4 ϋ rfl ?_;intro K m;go_simp;refine(T.o _).M ?_;rintro e S ⟨R,rfl,av,aL⟩;have F:BQ n S:=k.t aL;have a0:=gX av (gj ah.size k.size);obtain⟨bc,be,rfl⟩:=Η av;go_simp;refine m _ _ F ?_;refine HT (S':=fun f=>BQ S f) (fun f q=>F.t q) _ _ _ _ ?_;have t:BQ S S:=ρ _ _;refine km  5 (š (δ ex)) rfl ϋ ϋ ϋ ϋ (fun _ _ _ h=>h) ϋ ?_ t ?_
     .intro f q
      have a2:=a3.o f _ (ψ a0 q);go_simp
     refine Κ  13 ϋ rfl ?_;intro K m;go_simp;refine(aF.o _).M ?_;rintro e B ⟨rfl,rfl⟩;go_simp;refine m _ _ t ?_;refine gq  14 (D (J ⟨b,off+a,O⟩) i (c - a)) rfl ϋ ϋ ϋ ϋ (fun _ _ _ h=>h) ϋ ?_ t ?_
     .intro f
      go_simp;exact⟨fun h=>U,U⟩
     refine km  15 (š (δ y)) rfl ϋ ϋ ϋ ϋ (fun _ _ _ h=>h) ϋ ?_ t ?_
     .intro f q
      have a2:=a4.o f ((W.o _ F).2.trans (q.M (W.o _ F).2.size));go_simp
     refine Κ  16 ϋ rfl ?_;intro K m;go_simp;rw[hN,hN];have hF:=W.o _ F;by_cases A:ex=y
     .have V:(ex==y)=true:=by simp[A]
      have I:decide (ex=y)=true:=by simp[A]
      first|rw[V]|rw[I]
      go_simp;refine m _ _ t ?_;refine Κ  17 ϋ rfl ?_;intro K m;go_simp;refine m _ _ t ?_;refine Zd ?_;subst ao;have u:Hid (mw (l.drop a) (g+1)=(x,g+1)):=by
       show _=_;rw[X.o,N.o];rw[μ (by simpa using A)]
      go_wp2;go_roundw
      .exact⟨g+1,U,ϕ,by rw[u.o],by rw[u.o],hF.1,hF.2⟩
      exact ω
     .have V:(ex==y)=false:=by simp[A]
      have I:decide (ex=y)=false:=by simp[A]
      first|rw[V]|rw[I]
      go_simp;refine m _ _ t ?_;refine Κ  17 ϋ rfl ?_;intro K m;go_simp;refine m _ _ t ?_;refine Zd ?_;subst ao;have u:Hid (mw (l.drop a) (g+1)=mw (l.drop a) g):=by
       show _=_;rw[X.o,N.o];rw[κ (by simpa using A)]
      go_wp2;go_roundw
      .exact⟨g+1,U,ϕ,by rw[u.o],by rw[u.o],hF.1,hF.2⟩
      exact ω
    .have ak:fR x=false:=by simpa using M
     have u:mw (l.drop a) (g+1)=mw (l.drop a) g:=by rw[X.o,N.o,ak];rfl
     have af:=Zh u;have Q:=fun f=>Fp x f;rw[ak]at Q;go_wp2_with (go_at_call 347;refine ac.o.M ?_;rintro e n ⟨rfl,H⟩)
     have T:=fun d os=>Calls.regrown_of ((Q (grow (redrawn n d) os)).M fun e B ⟨z,aI⟩=>⟨z,by rw[<-aI];exact ρ _ _⟩);refine ui ϋ ϋ ?_;repeat (go_big_quiet_step (first|(go_at_call 348;with_reducible exact T _ _)))
     refine gc fun bb aM=>?_;have ag:=H.t aM;go_wp2;go_roundw
     .exact⟨g+1,U,ϕ,by rw[af.o],by rw[af.o],ψ s ag,r.trans (ag.M Y)⟩
     exact ω
   .have aT:g=4:=U
    subst aT;rw[<-aD.o];have an:=pR _ aq;have am:=rU _ aq;rw[qt]at am;have ae:=Zh am;generalize first _=aH at *
    obtain⟨P,i⟩:=aH;simp only at an ae;rw[aQ]at an;have bk:L j<100001:=U;have ar:∀ aB∈[G P],aB.oneCell'=true:=by intro aB ax;simp at ax;subst ax;rfl
    have aE:=Zh ar;clear ar;go_wp2_with (at_builtin;refine ϻ rfl _ _ _ _ rfl _ 3 a8 _ 1 8 gl hi a5 a6 a7 rfl (D aa _ ab) _ _ rfl (s.A _) _ 1 [G P] rfl (gh gl wr _ 1 1 1 rfl aE.o) ώ U ό ?_;intro bw n au aR _ _;have aO:BQ w n:=(r.A Y _).grown aR ό (fun a9 aS=>(s.lt a9 aS).1);obtain⟨bu,bv,rfl⟩:=Η au)
    go_roundw
    .exact⟨a+i,j++[P],U,ϕ,by show _=_;rw[ad.o,ae.o];simp,ό,by simpa[τ] using au,aO⟩
    exact ω
  .have a1:a=L l:=U
   subst a1;have aU:¬(L l:Int)<(L l:Int):=U;go_wp2;go_ret;have al:=ad.o;rw[List.drop_length,rT,iy]at al;rw[al];exact⟨_,rfl,s,r⟩
def Fs (v:ε) (n l) (w:β) (Y:L l=n) (h:Rd w v n 1 (τ l)) (W:∀ c∈l,fR c=true) (af:n<=100000) :
  Calls prog 346 #[v] w (yY (term l) w):=by
 obtain⟨j,c,rfl,ag,V⟩:∃ j c,v=D j n c/\(n<=9223372036854775807)/\Hid (∀ f (hi:f<L l),∃ b off,j=J ⟨b,off,O⟩/\w.cell? ⟨b,off+f,O⟩=J (G l[f])):=by
  obtain⟨-,-,⟨j,c,rfl,R⟩|⟨b,off,c,rfl,-,-,-,T⟩⟩:=h
  .exact⟨j,c,by rw[R],U,fun f hi=>U⟩
  .exact⟨_,c,rfl,U,fun f hi=>⟨b,off,rfl,T f _ (by simp[τ])⟩⟩
 have⟨P,A⟩:=π W Y;go_enter func346,ntmps346;go_wp2;go_loopw [3,4] (fun o f wr=>∃ (d:Nat) (a:γ),d<=n/\o=š (δ a)/\f=G d/\L a<=64/\Hid (term l=lp a (l.drop d))/\BQ w wr) (fun _ f _=>n - (intOf f).toNat)
 .exact⟨0,_,Ζ _,rfl,rfl,ύ,rfl,ρ _ _⟩
 obtain⟨d,a,ad,rfl,rfl,ai,q,k⟩:=hrel;have M:=k.size;by_cases ae:d<n
 .have N:d<L l:=ι A.o
  obtain⟨b,off,rfl,E⟩:=V.o d N;have ab:=(k.cell (ii w _ E)).trans E;have F:fR l[d]=true:=P.o _ (Ψ _);have aa:=qH F;have X:=lL N;have I:=qH (FK F);have B:=Zh (OY l[d] wr U U);have z:=Zh (fun(x:β)=>Fe _ x I.1 I.2);have ac:=zH (gE l[d]);have K:Hid (lp a (l.drop d)=if 64<L a+L (enc (gE l[d])) then a else lp (a++enc (gE l[d])) (l.drop (d+1))):=by
   show _=_;rw[X];rfl
  generalize enc _=g at *;generalize gE _=sc at *;have t:=fun(i:β) (u:ε) (S:Rd i u _ 1 _)=>oM  i 31 9 5 gv mA kH _ g S;have y:=Zh t;have aj:=iG a;have ak:=iG g;have a1:=Zh (Cl a g);have a0:L a+L g<=68:=U;by_cases H:64<L a+L g
  .have ah:(64:Int)<(L a:Int)+(L g:Int):=U
   have p:Hid (term l=a):=by
    show _=_;rw[q.o,K.o,μ H]
   go_wp2_with (first|(go_at_call 352;refine B.o.M ?_;rintro e x ⟨rfl,rfl⟩)|(go_at_call 349;refine(z.o _).M ?_;rintro e i ⟨u,rfl,m,s⟩;obtain⟨Q,c2,rfl⟩:=Η m;have r:=k.trans (s.M M);have t:=y.o i _ (Rd.of_own m)))
   go_ret;exact⟨by rw[p.o];rfl,r⟩
  .have Z:L (a++g)<=64:=ό
   have p:Hid (term l=lp (a++g) (l.drop (d+1))):=by
    show _=_;rw[q.o,K.o,κ H]
   go_wp2_with (first|(go_at_call 352;refine B.o.M ?_;rintro e x ⟨rfl,rfl⟩)|(go_at_call 349;refine(z.o _).M ?_;rintro e i ⟨u,rfl,m,s⟩;obtain⟨Q,c2,rfl⟩:=Η m;have r:=k.trans (s.M M);have t:=y.o i _ (Rd.of_own m)))
   go_roundw
   .exact⟨ _,_,U,by rw[a1.o],ϕ,Z,p,r⟩
   exact ω
 .have p:Hid (term l=a):=by
   show _=_;rw[q.o,mg (ι A.o)];rfl
  go_wp2;go_ret;exact⟨by rw[p.o];rfl,k⟩
def Rd.cut {w:β} {b off n c} {f:List ε} (h:Rd w (D (J ⟨b,off,O⟩) n c) n 1 f) (p m) (i:0<m) (s:p+m<=n) :
  Rd w (D (J ⟨b,off+p,O⟩) m (c - p)) m 1 ((f.drop p).take m):=by
 obtain⟨r,t,⟨k,g,d,o⟩|⟨l,x,g,d,u,v,q,j⟩⟩:=h
 .omega
 .simp only[Χ,Φ,Addr.mk.injEq,it,ϵ]at d
  obtain⟨⟨rfl,rfl⟩,rfl⟩:=d;refine⟨by rw[gp,fT];omega,U,.inr ⟨b,off+p,c - p,rfl,i,U,U,fun e y a=>?_⟩⟩;have hi:e<m:=by
   have:=(lK.1 a).1;rw[gp]at this;omega
  rw[vS hi,jr]at a;rw[show off+p+e=off+(p+e)from U];exact j _ _ a
def QO (a:List Int) (i k) (m:i<=k) (n:k<=L a) (h:∀ j (b:j<L a),i<=j->j<k->gm a[j]=true) :
  iP [] (a.drop i)=iP ((a.drop i).take (k - i)) (a.drop k):=by
 obtain⟨d,rfl⟩:∃ d,k=i+d:=⟨k - i,U⟩;induction d with
 |zero=>simp
 |succ d g =>
  rw[g U U (fun j b e l=>h j b e U)];have c:i+d<L a:=U;rw[lL c,vN _ _ _ (h (i+d) c U U)]
  congr 1
  rw[show i+(d+1) - i=d+1 from U,show i+d - i=d from U];have f:d<L (a.drop i):=by rw[fT];omega
  rw[jt f,List.getElem_drop]
def Gu (a:List Int) (i k) (m:i<=k) (o:k<=L a) (h:∀ j (n:j<L a),i<=j->j<k->gm a[j]=true) (d:∀ n:k<L a,gm a[k]=false) :
  iP [] (a.drop i)=(if i<k then[(a.drop i).take (k - i)]else[])++iP [] (a.drop (k+1)):=by
 rw[QO a i k m o h];have f:i<k->(a.drop i).take (k - i)≠[]:=fun b e=>by
  have:=jp List.length e;rw[gp,fT]at this;simp at this;omega
 by_cases c:k<L a
 .rw[lL c]
  by_cases b:i<k
  .rw[μ b,yh _ _ _ (d c) (f b)];rfl
  .have:i=k:=U
   subst this;rw[κ b,kj,rq,yi _ _ (d c)];rfl
 .have g:a.drop k=[]:=mg U
  have l:a.drop (k+1)=[]:=mg U;rw[g,l,rg,rg];by_cases b:i<k
  .rw[μ b,κ (f b)];simp
  .have:i=k:=U
   subst this;rw[κ b];simp
