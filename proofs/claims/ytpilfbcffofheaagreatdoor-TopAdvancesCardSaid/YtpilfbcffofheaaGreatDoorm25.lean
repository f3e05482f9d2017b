/- Part 25 of the proof. -/
import Derived.Test.YtpilfbcffofheaaGreatDoorm22
set_option linter.all false
set_option maxRecDepth 100000
set_option maxHeartbeats 16000000
namespace Go.Proofs.YtpilfbcffofheaaGreatDoor
open Go.RowKit Go.Proofs.Tryz Go.Sort
open Value renaming slice->D,string->š
open Option renaming none->O,some->J
open List renaming length->L
open Obj renaming cells->C
open Ending renaming returned->ŗ
open World renaming alloc->å
def zu (ao n c) (k:List (γ)) (w:β) (f:L k=n) (h:Rd w (D ao n c) n 1 (χ k)) (b:ϱ k) (g:n<=1000000000) (i:Ϭ w) :
  Calls prog 203 #[D ao n c] w fun e w'=>e=ŗ (š (δ (Υ k)))/\BQ w w':=by
 have a:=Zh (ye ao n c k w f h b g i);go_enter func203,ntmps203;go_wp2_with fail
 refine a.o.M ?_;rintro e j ⟨rfl,d⟩;go_wp2;go_ret;exact⟨rfl,d⟩
def wP (l r:γ) (w:β) (c:L l=32) (d:L r=32) (f:Ϭ w) :
  Calls prog 274 #[š (δ l),š (δ r)] w fun e w'=>e=ŗ (š (δ (iR l r)))/\BQ w w':=by
 have a:=Zh (Fx l r w c d f);go_enter func274,ntmps274;go_wp2_with fail
 refine a.o.M ?_;rintro e g ⟨rfl,b⟩;go_wp2;go_ret;exact⟨rfl,b⟩
def Jj:∀ (f b ď n c:Nat) (l:List (γ)) (m:Nat) (p:Bool) (w:β),L l=n->n<=f->f<=1000->1<=m->m<=n->n<=c->c<=9223372036854775807->Rd w (D (J ⟨b,ď,O⟩) n c) n 1 (χ l)->ϱ l->Ϭ w ->
  Calls prog 124 #[D (J ⟨b,ď,O⟩) n c,G m,.bool p] w (rA (hE Υ f l m p) w):=by
 intro f;induction f with
 |zero=>intro b ď n c l m p w v aC aA ak aB;omega
 |succ f au =>
  intro b ď n c l m p w v aC aA ak aB aO az h W H;have ax:=Zh (zu _ n c l w v h W U H);obtain⟨ar,aj,ao,ap,aq⟩:=Ϩ pU;by_cases ad:m=n
  .subst ad
   have aD:hE Υ (f+1) l m p=if p=true then[Υ l]else[]:=by rw[hE,μ v.symm]
   rw[aD];generalize Υ l=k at *;cases p with
   |false =>
    go_enter func124,ntmps124;go_wp2;go_ret;exact⟨O,0,0,rfl,gf.nil _ _,ρ _ _⟩
   |true =>
    go_enter func124,ntmps124;go_wp2_with fail
    refine ax.o.M ?_;rintro e M ⟨rfl,ai⟩;have aw:Hid (gf w.heap.size (å M (C #[š (δ k)] 9)) (D (J ⟨M.heap.size,0,O⟩) 1 1) 1 [k]):=
     ⟨rfl,rfl,.inr ⟨ _,1,_,rfl,ai.size,φ M _,NZ,ώ,rfl,rfl⟩⟩
    have av:=Zh (ai.al (C #[š (δ k)] 9));go_wp2;go_ret;exact⟨_,_,_,rfl,aw.o,av.o⟩
  .have al:2<=n:=U
   have ag:=Zh (Bh n w al U);obtain⟨aJ,aK,aL⟩:=tH al;have x:=pW Υ f l m p;rw[v,κ ad]at x;have aN:=ad;have am:Rd w (D (J ⟨b,ď,O⟩) (Τ n) c) (Τ n) 1 (χ (l.take (Τ n))):=by
    have:=qS (i:=0) (j:=Τ n) h U c U ώ;simpa using this
   have an:Rd w (D (J ⟨b,ď+Τ n,O⟩) (n - Τ n) (c - Τ n)) (n - Τ n) 1 (χ (l.drop (Τ n))):=by
    have:=qS (i:=Τ n) (j:=n - Τ n) h U (c - Τ n) U ώ;rwa [gF (by rw[fT,v];omega)]at this
   have ah:ϱ (l.take (Τ n)):=fun d Y=>W d (mz Y);have P:ϱ (l.drop (Τ n)):=fun d Y=>W d (qu Y);have l1:L (l.take (Τ n))=Τ n:=by rw[gp,v];omega
   have l2:L (l.drop (Τ n))=n - Τ n:=by rw[fT,v]
   generalize Τ n=K at *;have aR:(0:Int)<=(K:Int):=U;have aQ:(K:Int)<=(n:Int):=U;have aP:(K:Int)<=(c:Int):=U;have aS:K<=n:=U;have aF:K<=c:=U;have aT:¬c=K:=U;have aU:¬(c:Int)=(K:Int):=U;by_cases ab:m<=K
   .rw[μ ab]at x
    have a0:=Zh (fun o (q:BQ w o)=>au b ď K c _ m p o l1 U U ak ab aF az (am.B q) ah (H.B q));have R:=Zh (fun o (q:BQ w o)=>zu _ _ _ _ o l2 (an.B q) P U (H.B q));have ac:=vy Υ f (l.take K) m p;generalize hE Υ f _ m p=ay at *;generalize Υ (l.drop K)=k at *;have a1:=Zh x;have aM:(m:Int)<=(K:Int):=U;have T:=Zh ac;go_enter func124,ntmps124;go_wp2_with fail
    refine ag.o.M ?_;rintro e M ⟨rfl,rfl⟩;go_upto_region 8 with fail
    have a:BQ w w.drew:=RZ.drew;refine ϯ (fun V=>BQ w V) 12 ϋ ?_;refine Zf 0 a ?_;refine Zf 1 a ?_;refine Zf 2 a ?_;refine Zf 3 a ?_;refine Zf 4 a ?_;refine Zf 6 a ?_;refine Zf 7 a ?_;refine Zf 8 a ?_;refine Κ (fuel:=4) 5 ϋ rfl ?_;intro r g;go_simp;refine(a0.o _ a).M ?_;rintro e aH ⟨P,I,c2,rfl,t,X⟩;have u:=a.t X;refine g _ _ u ?_;try simp only[Zp]
    refine Κ  9 ϋ rfl ?_;intro r g;go_simp;refine(R.o _ u).M ?_;rintro e af ⟨rfl,F⟩;have B:=u.t F;refine g _ _ B ?_;try simp only[Zp]
    refine Κ  10 ϋ rfl ?_;intro r g;go_simp;have s:=B.al (C #[š (δ k)] 9);refine g _ _ s ?_;try simp only[Zp]
    have A:=((t.M (show w.heap.size<=w.drew.heap.size from NZ)).B F).A (C #[š (δ k)] 9);refine Κ  11 ϋ rfl ?_;intro r g;refine lD rfl _ _ _ _ rfl _ 9 ar _ 1 _ ju aj ao ap aq rfl _ I _ ϔ A.2 _ 1 _ ϔ ((qR af _ k).src ju (tE _)) (by have:=t.1;unfold maxLen;omega) (gw T.o t.1) s.size ?_;intro aG N Q Z aE;obtain⟨y,z,rfl⟩:=Η Q;have E:BQ w N:=s.grown Z s.size (fun ae aa=>(Ϡ A.2 ae aa).1);refine g _ _ E ?_;try simp only[Zp]
    refine jF  ϋ ϋ rfl ?_;intro r g;go_simp;refine g _ _ ?_;refine Zd ?_;have S:Hid (rA (hE Υ (f+1) l m p) w (ŗ (D y (I+1) z)) N):=
     ⟨y,_,z,rfl,by rw[a1.o];exact⟨by simp[t.1],by rw[nE];exact Q⟩,E⟩
    go_wp2;go_ret;exact S.o
   .skip
    rw[κ ab]at x;have a0:=Zh (fun o (q:BQ w o)=>au b _ _ _ _ (m - K) true o l2 U U U U U U (an.B q) P (H.B q));have R:=Zh (fun o (q:BQ w o)=>zu _ K c _ o l1 (am.B q) ah U (H.B q));have ac:=vy Υ f (l.drop K) (m - K) true;generalize hE Υ f _ _ true=ay at *;generalize Υ (l.take K)=k at *;have⟨a1,T⟩:=π x ac;have aI:IntKind.i64.wrap ((m:Int) - (K:Int))=((m - K:Nat):Int):=Ϗ;go_enter func124,ntmps124;go_wp2_with fail
    refine ag.o.M ?_;rintro e M ⟨rfl,rfl⟩;go_upto_region 9 with fail
    have a:BQ w w.drew:=RZ.drew;refine ϯ (fun V=>BQ w V) 13 ϋ ?_;refine Zf 0 a ?_;refine Zf 1 a ?_;refine Zf 2 a ?_;refine Zf 3 a ?_;refine Zf 4 a ?_;refine Zf 5 a ?_;refine Zf 7 a ?_;refine Zf 8 a ?_;refine Zf 9 a ?_;refine Κ (fuel:=4) 6 ϋ rfl ?_;intro r g;go_simp;refine(a0.o _ a).M ?_;rintro e aH ⟨P,I,c2,rfl,t,X⟩;have u:=a.t X;refine g _ _ u ?_;try simp only[Zp]
    refine Κ  10 ϋ rfl ?_;intro r g;go_simp;refine(R.o _ u).M ?_;rintro e af ⟨rfl,F⟩;have B:=u.t F;refine g _ _ B ?_;try simp only[Zp]
    refine Κ  11 ϋ rfl ?_;intro r g;go_simp;have s:=B.al (C #[š (δ k)] 9);refine g _ _ s ?_;try simp only[Zp]
    have A:=((t.M (show w.heap.size<=w.drew.heap.size from NZ)).B F).A (C #[š (δ k)] 9);refine Κ  12 ϋ rfl ?_;intro r g;refine lD rfl _ _ _ _ rfl _ 9 ar _ 1 _ ju aj ao ap aq rfl _ I _ ϔ A.2 _ 1 _ ϔ ((qR af _ k).src ju (tE _)) (by have:=t.1;unfold maxLen;omega) (gw T.o t.1) s.size ?_;intro aG N Q Z aE;obtain⟨y,z,rfl⟩:=Η Q;have E:BQ w N:=s.grown Z s.size (fun ae aa=>(Ϡ A.2 ae aa).1);refine g _ _ E ?_;try simp only[Zp]
    refine jF  ϋ ϋ rfl ?_;intro r g;go_simp;refine g _ _ ?_;refine Zd ?_;have S:Hid (rA (hE Υ (f+1) l m p) w (ŗ (D y (I+1) z)) N):=
     ⟨y,_,z,rfl,by rw[a1.o];exact⟨by simp[t.1],by rw[nE];exact Q⟩,E⟩
    go_wp2;go_ret;exact S.o
def hI (a:List (γ)) (m:Nat):List (γ):=if m=0 then[]else hE Υ (L a) a m false
def Jg (ao n c) (T:List (γ)) (m) (w:β) (d:L T=n) (h:Rd w (D ao n c) n 1 (χ T)) (j:ϱ T) (A:n<=1000) (z:m<=n) (o:Ϭ w) :
  Calls prog 69 #[D ao n c,G m] w (wo (hI T m) w):=by
 have g:=Zh (ye ao n c T w d h j U o);have y:¬(m:Int)<0:=U;have M:¬(n:Int)<(m:Int):=U;have N:=kE y;have P:¬n<m:=U;by_cases l:m=0
 .subst l
  have b:hI T 0=[]:=rfl;rw[b];go_enter func69,ntmps69;go_wp2_with fail
  refine g.o.M ?_;rintro e S ⟨rfl,a⟩;go_wp2;go_ret2;exact⟨O,0,0,rfl,gf.nil _ _,a⟩
 .have Q:¬(m:Int)=0:=U
  obtain⟨-,-,⟨I,t,f,K⟩|⟨u,off,t,f,-,B,x,-⟩⟩:=id h
  .omega
  simp only[Χ,ϵ]at f;obtain⟨rfl,rfl⟩:=f;unfold maxLen at x;have r:=Zh (fun i (k:BQ w i)=>Jj n u off n c T m false i d NZ A U z B U (h.B k) j (o.B k));have b:hI T m=hE Υ n T m false:=by unfold hI;rw[κ l,d]
  rw[b];generalize hE Υ n T m false=H at *;go_enter func69,ntmps69;go_wp2_with fail
  refine g.o.M ?_;rintro e S ⟨rfl,a⟩;go_wp2_with fail
  refine(r.o _ a).M ?_;rintro e R ⟨s,F,c2,rfl,E,v⟩;have⟨q,p⟩:=π (E.M a.size) (a.t v);go_wp2;go_ret2;exact⟨s,F,c2,rfl,q.o,p.o⟩
def wE (i:Nat) (h:i<=1000000000):bits .and .i64 (i:Int) 1=if i % 2=1 then 1 else 0:=by
 rw[Cg i U];split<;>omega
def tK {i} (f j) (h:¬(i % 2=0/\i≠0)):jA f i j=(i,j):=by cases f with
 |zero=>rfl
 |succ f=>rw[jA,κ h]
def AV:∀ (f i j:Nat),i<=f->jA f i j=jA i i j
 |0,i,j,h=>by
  obtain rfl:i=0:=U;rfl
 |f+1,i,j,h=>by
  by_cases a:i % 2=0/\i≠0
  .obtain⟨g,rfl⟩:∃ g,i=g+1:=⟨i - 1,U⟩
   rw[jA,μ a,jA,μ a,AV f _ _ U,AV g _ _ U]
  .rw[tK _ _ a,tK _ _ a]
def FX {i j} (h:i % 2=0/\i≠0):jA i i j=jA (i / 2) (i / 2) (j / 2):=by
 obtain⟨g,rfl⟩:∃ g,i=g+1:=⟨i - 1,U⟩;rw[jA,μ h];exact AV g _ _ U
def mO (i:Nat):(i:Int) / 2=((i / 2:Nat):Int):=U
def CO (i0 j0) (ď am z:γ) (t:List (γ)) (ao n c) (w:β) (al:L t+1=n) (aB:Rd w (D ao n c) n 1 (χ (z::t))) (ay:ϱ (z::t)) (hi:i0<=1000000) (aS:j0<=1000000) (a9:n<=1000) (aC:Ϭ w)
  (ai:uL iR i0 j0 (z::t)=J (0,0,ď,am)) :
  Calls prog 207 #[G i0,G j0,š (δ ď),š (δ am),D ao n c] w fun e w'=>e=ŗ (.bool true)/\BQ w w':=by
 obtain⟨-,-,⟨aZ,aM,x,M⟩|⟨ax,off,aM,x,-,bc,aP,-⟩⟩:=id aB
 .omega
 simp only[Χ,ϵ]at x;obtain⟨rfl,rfl⟩:=x;unfold maxLen at aP;have ap:=Zh (fun l v=>sr aB (by simpa using al) l v);have aA:w.cell? ⟨ax,off,O⟩=J (š (δ z)):=by
  obtain⟨aL,aW,x,aj⟩:=ap.o 0 ύ;simp only[Φ,Addr.mk.injEq,it]at x;obtain⟨rfl,rfl⟩:=x;simpa using aj
 have aF:Hid (∀ l (v:l<L t),w.cell? ⟨ax,off+1+l,O⟩=J (š (δ t[l]))):=by
  intro l v;obtain⟨aL,aW,x,aj⟩:=ap.o (l+1) ό;simp only[Φ,Addr.mk.injEq,it]at x;obtain⟨rfl,rfl⟩:=x;rw[show off+1+l=off+(l+1)from U];simpa using aj
 have av:=Zh (ay z ύ);have aH:=Zh (fun l (v:l<L t)=>ay _ (oQ _ (Ψ v)));have⟨V,P⟩:=π aC al;unfold uL at ai;have aE:=Zh ai;clear aC ai al;go_enter func207,ntmps207;go_wp2
 go_step3
 go_wp2;go_loop [0,1] (fun p y=>∃ (f m:Nat),p=G (f:Int)/\y=G (m:Int)/\f<=1000000/\m<=1000000/\Hid (kC f f m=kC i0 i0 j0)) (fun p _=>(intOf p).toNat)
 .exact⟨i0,j0,rfl,rfl,hi,aS,rfl⟩
 obtain⟨f,m,rfl,rfl,T,ak,aw⟩:=hrel;have r:=wE f U;by_cases Y:f % 2=1
 .have aQ:1<=f:=U
  rw[μ Y]at r;have aI:Hid (kC (f / 2) (f / 2) (m / 2)=kC i0 i0 j0):=by
   show _=_;rw[<-aw.o];obtain⟨b1,rfl⟩:∃ b1,f=b1+1:=⟨f - 1,U⟩;rw[kC,μ Y];exact(AW b1 _ _ U).symm
  have S:=Nat.div_lt_self  aQ (k:=2) ϐ;have R:((f:Int) / 2).toNat=f / 2:=U;go_wp2
  go_round
  .exact⟨ _,_,by rw[mO],by rw[mO],U,U,aI.o⟩
  simp[intOf];rw[R];exact S
 .rw[κ Y]at r
  have s:=aE.o;rw[<-aw.o,vJ f m Y]at s;simp only at s;have ar:=Zh s;clear s;have bb:0<n:=ι P.o;have ba:(0:Int)<(n:Int):=U;go_upto_region 3 with fail
  have E:BQ w w.drew:=RZ.drew;refine ϯ (fun aJ=>BQ w aJ) 7 ϋ ?_;refine Zf 0 E ?_;refine Zf 1 E ?_;refine Zk 2 E ?_ (hy:=by intro aK af;have aX:=ζ af aA;go_simp;try with_reducible rfl);refine Zf 3 E ?_;refine Zf 4 E ?_;refine Zk 5 E ?_ (hy:=by intro aK af;have aX:=ζ af aA;go_simp;try with_reducible rfl);refine Zf 6 E ?_;refine Zl ?_;refine Zd ?_;have l1:(1:Int)<=(n:Int):=U;have l2:(1:Int)<=(c:Int):=U;have l3:1<=n:=U;have bf:1<=c:=U;generalize aD:w.drew=wd at *;have az:BQ w wd:=by rw[<-aD];exact RZ.drew
  clear aD;by_cases aO:c=1
  .have aV:t=[]:=kS (ι P.o)
   have s:=ar.o;rw[aV]at s;simp only[kq,Φ,Prod.mk.injEq]at s;obtain⟨rfl,rfl,rfl,rfl⟩:=s;obtain rfl:n=1:=U;subst aO;go_wp2
   go_step3
   go_wp2;go_loop [0,1,11,12,31] (fun p y ac ad h=>p=G 0/\y=G 0/\ac=š (δ z)/\ad=š (δ z)/\h=G 0) (fun _ _ _ _ _=>0)
   .exact⟨rfl,rfl,rfl,rfl,rfl⟩
   obtain⟨rfl,rfl,rfl,rfl,rfl⟩:=hrel;go_wp2;go_ret;exact⟨rfl,az⟩
  .go_wp2
   go_step3
   go_wp2;go_loopw [0,1,11,12,31] (fun p y ac ad h wr=>∃ (f m l:Nat) (a b:γ),p=G (f:Int)/\y=G (m:Int)/\ac=š (δ a)/\ad=š (δ b)/\h=G (l:Int)/\f<=1000000/\m<=1000000/\l+1<=n/\Hid (L a=32/\L b=32)/\Hid (kq iR (t.drop l) f m a b=J (0,0,ď,am))/\BQ w wr) (fun _ _ _ _ h _=>n - (intOf h).toNat)
   .exact⟨f,m,0,z,z,rfl,rfl,rfl,rfl,rfl,T,ak,U,⟨av.o,av.o⟩,ar.o,az⟩
   obtain⟨f,m,l,a,b,rfl,rfl,rfl,rfl,rfl,T,ak,a4,N,aq,F⟩:=hrel;by_cases v:l<L t
   .have a8:l<n - 1:=ι P.o
    have bd:(l:Int)<((n - 1:Nat):Int):=U;have be:(0:Int)<=(l:Int):=U;have a0:=ζ F (aF.o l v);have W:=aH.o l v;have u:=aq.o;rw[lL v]at u;generalize t[l]=d at *;have aT:m≠0:=by
     intro b0;rw[kq,μ b0]at u;cases u
    rw[kq,κ aT]at u;have a3:¬(m:Int)=0:=U;have r:=wE f U;have a7:=P.o;have a5:l+1+1<=n:=U;by_cases ae:f % 2=0/\f≠m
    .rw[μ ae]at u
     rw[κ U]at r;have a1:¬(f:Int)=(m:Int):=U;have a2:¬f=m:=ae.2;have⟨K,aG⟩:=π u (wP b d wr N.o.2 W (V.o.B F));clear u;go_wp2_with fail
     refine aG.o.M ?_;rintro e Z ⟨rfl,Q⟩;have g:=F.t Q;go_wp2;go_roundw
     .exact⟨ _,_,_,a,_,by rw[mO],by rw[mO],rfl,rfl,ϕ,U,U,U,⟨N.o.1,iq _⟩,K.o,g⟩
     exact ω
    .rw[κ ae]at u
     have⟨K,au⟩:=π u (wP d a wr W N.o.1 (V.o.B F));clear u;by_cases X:f % 2=0
     .rw[κ U]at r
      obtain rfl:f=m:=U;go_wp2_with fail
      refine au.o.M ?_;rintro e Z ⟨rfl,Q⟩;have g:=F.t Q;have aa:=Zh (wP d b Z W N.o.2 (V.o.B g));go_wp2_with fail
      refine aa.o.M ?_;rintro e aY ⟨rfl,ag⟩;have ah:=g.t ag;go_wp2_with fail
      go_loopw [0,1] (fun p y an=>∃ (j q:Nat),p=G (j:Int)/\y=G (q:Int)/\j<=1000000/\q<=1000000/\Hid (jA j j q=jA f f f)/\BQ w an) (fun p _ _=>(intOf p).toNat)
      .exact⟨f,f,rfl,rfl,T,T,rfl,ah⟩
      obtain⟨j,q,rfl,rfl,aR,aU,B,H⟩:=hrel;have r:=wE j U;by_cases X:j % 2=0
      .rw[κ U]at r
       by_cases M:j=0
       .subst M
        have I:=tK (i:=0) 0 q U;have o:=K.o;rw[<-B.o,I]at o;simp only at o;have A:=Zh o;clear o;go_wp2;go_roundw
        .exact⟨ _,_,_,_,_,rfl,by rw[mO],rfl,rfl,ϕ,U,U,U,⟨iq _,iq _⟩,A.o,H⟩
        exact ω
       .have aN:¬(j:Int)=0:=U
        have ab:Hid (jA (j / 2) (j / 2) (q / 2)=jA f f f):=(FX ⟨X,M⟩).symm.trans B.o;have S:=Nat.div_lt_self (n:=j) U (k:=2) ϐ;have R:((j:Int) / 2).toNat=j / 2:=U;go_wp2;go_roundw
        .exact⟨ _,_,by rw[mO],by rw[mO],U,U,ab.o,H⟩
        simp[intOf];rw[R];exact S
      .rw[μ U]at r
       have I:=tK (i:=j) j q U;have o:=K.o;rw[<-B.o,I]at o;simp only at o;have A:=Zh o;clear o;go_wp2;go_roundw
       .exact⟨ _,_,_,_,_,by rw[mO],by rw[mO],rfl,rfl,ϕ,U,U,U,⟨iq _,iq _⟩,A.o,H⟩
       exact ω
     .rw[μ U]at r
      go_wp2_with fail
      refine au.o.M ?_;rintro e Z ⟨rfl,Q⟩;have g:=F.t Q;have aa:=Zh (wP d b Z W N.o.2 (V.o.B g));go_wp2_with fail
      refine aa.o.M ?_;rintro e aY ⟨rfl,ag⟩;have ah:=g.t ag;go_wp2_with fail
      go_loopw [0,1] (fun p y an=>∃ (j q:Nat),p=G (j:Int)/\y=G (q:Int)/\j<=1000000/\q<=1000000/\Hid (jA j j q=jA f f m)/\BQ w an) (fun p _ _=>(intOf p).toNat)
      .exact⟨f,m,rfl,rfl,T,ak,rfl,ah⟩
      obtain⟨j,q,rfl,rfl,aR,aU,B,H⟩:=hrel;have r:=wE j U;by_cases X:j % 2=0
      .rw[κ U]at r
       by_cases M:j=0
       .subst M
        have I:=tK (i:=0) 0 q U;have o:=K.o;rw[<-B.o,I]at o;simp only at o;have A:=Zh o;clear o;go_wp2;go_roundw
        .exact⟨ _,_,_,_,_,rfl,by rw[mO],rfl,rfl,ϕ,U,U,U,⟨iq _,iq _⟩,A.o,H⟩
        exact ω
       .have aN:¬(j:Int)=0:=U
        have ab:Hid (jA (j / 2) (j / 2) (q / 2)=jA f f m):=(FX ⟨X,M⟩).symm.trans B.o;have S:=Nat.div_lt_self (n:=j) U (k:=2) ϐ;have R:((j:Int) / 2).toNat=j / 2:=U;go_wp2;go_roundw
        .exact⟨ _,_,by rw[mO],by rw[mO],U,U,ab.o,H⟩
        simp[intOf];rw[R];exact S
      .rw[μ U]at r
       have I:=tK (i:=j) j q U;have o:=K.o;rw[<-B.o,I]at o;simp only at o;have A:=Zh o;clear o;go_wp2;go_roundw
       .exact⟨ _,_,_,_,_,by rw[mO],by rw[mO],rfl,rfl,ϕ,U,U,U,⟨iq _,iq _⟩,A.o,H⟩
       exact ω
   .have a6:l=n - 1:=ι P.o
    have s:=aq.o;rw[sx U]at s;simp only[kq,Φ,Prod.mk.injEq]at s;obtain⟨rfl,rfl,rfl,rfl⟩:=s;have ki:¬(l:Int)<((n - 1:Nat):Int):=U;go_wp2;go_ret;exact⟨rfl,F⟩
def HN:∀ m:Fin 65,0<m.val->(bits .and .i64 ((m.val:Nat):Int) (((m.val:Nat):Int) - 1)=0↔(m.val=1\/m.val=2\/m.val=4\/m.val=8\/m.val=16\/m.val=32\/m.val=64)):=Ϟ
def HO {m:Nat} (d:0<m) (h:m<=64):(bits .and .i64 (m:Int) ((m:Int) - 1)=0/\∃ a,m=2 ^ a)\/(¬bits .and .i64 (m:Int) ((m:Int) - 1)=0/\∀ a,m≠2 ^ a):=by
 have c:=HN ⟨m,U⟩ d;simp only at c;by_cases b:bits .and .i64 (m:Int) ((m:Int) - 1)=0
 .left
  refine⟨b,?_⟩;rcases c.1 b with h|h|h|h|h|h|h
  .exact⟨0,h⟩
  .exact⟨1,h⟩
  .exact⟨2,h⟩
  .exact⟨3,h⟩
  .exact⟨4,h⟩
  .exact⟨5,h⟩
  .exact⟨6,h⟩
 .right
  refine⟨b,fun a e=>b (c.2 ?_)⟩;have f:a<7:=(vT (a:=2) ϐ).1 U;rcases(U:a=0\/a=1\/a=2\/a=3\/a=4\/a=5\/a=6)with rfl|rfl|rfl|rfl|rfl|rfl|rfl<;>omega
def Aw:∀ (f:Nat) (l:List (γ)) (m:Nat) (p:Bool),ϱ l->ϱ (hE Υ f l m p)
 |0,l,m,p,h=>fun d hd=>by simp[hE]at hd
 |f+1,l,m,p,h=>by
  have a:ϱ (l.take (Τ (L l))):=fun d hd=>h d (mz hd);have b:ϱ (l.drop (Τ (L l))):=fun d hd=>h d (qu hd);rw[pW];split
  .split
   .intro d hd;rw[kF.1 hd];exact mY h
   .intro d hd;cases hd
  .split
   .intro d hd
    rcases nj.1 hd with hd|hd
    .exact Aw f _ m p a d hd
    .rw[kF.1 hd];exact mY b
   .intro d hd
    rcases nj.1 hd with hd|hd
    .exact Aw f _ _ _ b d hd
    .rw[kF.1 hd];exact mY a
def uO {b:List (γ)} (h:ϱ b) (m):ϱ (hI b m):=by
 unfold hI;split
 .intro d a;cases a
 .exact Aw _ _ _ _ h
def wO (a:List (γ)) (m):L (hI a m)<=L a:=by
 unfold hI;split
 .simp
 .exact vy Υ _ _ _ _
def Jc {c:List (γ)} {m} (a:0<m) (b:m<L c):uL iR (m - 1) (L c - 1) (hE Υ (L c) c m true)=J (0,0,Υ (c.take m),Υ c):=
 IP Υ iR yd a b NZ
def Jf {e:List (γ)} {m a} (b:m=2 ^ a) (c:m<L e):Υ (e.take m)::hI e m=hE Υ (L e) e m true:=by
 have d:0<2 ^ a:=kV ϐ;unfold hI;rw[κ U,b,Na Υ a (L e) e U NZ]
def Je {d:List (γ)} {m} (b:0<m) (c:m<L d) (h:∀ a,m≠2 ^ a):hI d m=hE Υ (L d) d m true:=by
 unfold hI;rw[κ U,Nb Υ (L d) d m b c NZ h]
def Jd {ds:List (γ)} {m} (b:0<m) (c:m=L ds):hI ds m=[]:=by
 unfold hI;rw[κ U];obtain⟨f,a⟩:∃ f,L ds=f+1:=⟨L ds - 1,U⟩;rw[a,pW,μ U,κ ϐ]
def Jh (ds:List (γ)) (m n q k c) (w:β) (F:L ds=n) (i:ϱ ds) (ao:n<=64) (an:m<=n) (f:L (hI ds m)=k) (l:Rd w (D q k c) k 1 (χ (hI ds m))) (o:Ϭ w) :
  Calls prog 133 #[G m,G n,š (δ (Υ (ds.take m))),š (δ (Υ ds)),D q k c] w fun e w'=>e=ŗ (.bool true)/\BQ w w':=by
 by_cases Z:m=0
 .subst Z
  have r:hI ds 0=[]:=rfl;have N:Υ (ds.take 0)=kg []:=rfl;rw[r]at f;obtain rfl:k=0:=f.symm;rw[N];have W:=Zh (tF O 0 0 _ w rfl U (Rd.of_own (Μ.nil w 0).2) o);generalize Υ ds=z at *;generalize kg _=H at *;clear l o i r N f;go_enter func133,ntmps133;go_wp2_with fail
  refine W.o.M ?_;rintro e ap ⟨rfl,ac⟩;go_wp2;go_ret;exact⟨rfl,ac⟩
 .have ak:¬(m:Int)=0:=U
  by_cases ad:m=n
  .have r:=Jd (ds:=ds) (m:=m) U U
   rw[r]at f;obtain rfl:k=0:=f.symm;rw[gF U];generalize Υ ds=z at *;subst ad;clear l o i r f;go_enter func133,ntmps133;go_wp2;go_ret;exact⟨rfl,ρ _ _⟩
  .have al:¬(m:Int)=(n:Int):=U
   have ai:IntKind.i64.wrap ((m:Int) - 1)=(m:Int) - 1:=Ϗ;have aj:IntKind.i64.wrap ((n:Int) - 1)=(n:Int) - 1:=Ϗ;have t:m<L ds:=U;have g:=Jc   U t;have u:=wO ds m;rw[F]at g;have v:((m - 1:Nat):Int)=(m:Int) - 1:=U;have x:((n - 1:Nat):Int)=(n:Int) - 1:=U;rcases HO (m:=m) U U with ⟨ab,a,P⟩|⟨ab,s⟩
   .have j:=Jf P t
    rw[F]at j;rw[<-j]at g;have p:=Zh (fun q c M (aa:BQ w M) h=>CO _ _ _ _ _ _ q (1+k) c M U h (fun d hd=>by
     rcases hH.1 hd with rfl|hd
     .exact mY (fun d hd=>i d (mz hd))
     .exact uO i m d hd) U U U (o.B aa) g)
    rw[v,x]at p;have I:Hid (gf w.heap.size (å w (C #[š (δ (Υ (ds.take m)))] 9)) (D (J ⟨w.heap.size,0,O⟩) 1 1) 1 [Υ (ds.take m)]):=
     ⟨rfl,rfl,.inr ⟨ _,1,_,rfl,NZ,φ w _,NZ,ώ,rfl,rfl⟩⟩
    have K:=Zh (l.B ((ρ _ w).A NZ (C #[š (δ (Υ (ds.take m)))] 9)));have Q:BQ w (å w (C #[š (δ (Υ (ds.take m)))] 9)):=ġ;have am:k<=64:=U;have a1:=Zh f;generalize Υ _=H at *;generalize Υ ds=z at *;generalize hI ds m=X at *;have ae:¬1+k=0:=U;have af:¬(1:Int)+(k:Int)=0:=U;clear l o i g u j P f v x t;go_enter func133,ntmps133;go_upto_region 7 with (at_builtin;go_loud (refine tP rfl _ _ rfl _ _ _ 1 k _ X (by rfl) I.o (by rfl) a1.o K.o U ύ ?_;intro Y c2 ag T s))
    have R:=Q.trans s;have a0:=Zh (p.o Y c2 ag R T.rd);clear T s Q I K;go_wp2_with fail
    refine a0.o.M ?_;rintro e ah ⟨rfl,E⟩;go_wp2;go_ret;exact⟨rfl,R.t E⟩
   .have j:=Je U t s
    rw[F]at j;rw[<-j]at g;obtain⟨V,y,A⟩:∃ V y,hI ds m=V::y:=by
     cases h:hI ds m with
     |nil=>rw[h]at g;simp[uL]at g
     |cons a b=>exact⟨a,b,rfl⟩
    have B:=uO i m;rw[A]at g B l f;have S:L y+1=k:=by simpa using f
    have p:=Zh (CO _ _ _ _ V y q k c w S l B U U (by rw[A]at u;simp at u;omega) o g);rw[v,x]at p;have ae:¬k=0:=U;have af:¬(k:Int)=0:=U;generalize Υ _=H at *;generalize Υ ds=z at *;clear l o i g u j f v x t B A s S;go_enter func133,ntmps133;go_wp2_with fail
    refine p.o.M ?_;rintro e ah ⟨rfl,E⟩;go_wp2;go_ret;exact⟨rfl,E⟩
def Ji (V:List (γ)) (m n ao k c) (w:β) (i:L V=n) (f:ϱ V) (y:n<=64) (x:m<=n) (g:L (hI V m)=k) (l:Rd w (D ao k c) k 1 (χ (hI V m))) (z:Ϭ w) :
  Calls prog 76 #[G m,G n,š (δ (Υ (V.take m))),š (δ (Υ V)),D ao k c] w fun e w'=>e=ŗ (G 0)/\BQ w w':=by
 have p:=Zh (Jh V m n ao k c w i f y x g l z);have Q:(δ (Υ (V.take m))).size=32:=by rw[iG];exact mY (fun d u=>f d (mz u))
 have R:(δ (Υ V)).size=32:=by rw[iG];exact mY f
 have r:=Zh (fun a hi=>sr l g a hi);have s:=Zh g;have o:=Zh (fun a (hi:a<L (hI V m))=>uO f m _ (Ψ hi));have H:¬(m:Int)<0:=U;have I:¬(n:Int)<(m:Int):=U;have K:¬(1099511627776:Int)<(n:Int):=U;have v:=wO V m;rw[g,i]at v;generalize Υ _=B at *;generalize Υ V=E at *;generalize hI V m=h at *;go_enter func76,ntmps76;go_wp2;go_loop [36] (fun a=>∃ q:Nat,q<=k/\a=G (q:Int)) (fun a=>k - (intOf a).toNat)
 .exact⟨0,Ζ _,rfl⟩
 obtain⟨q,M,rfl⟩:=hrel;by_cases N:q<k
 .have j:q<L h:=ι s.o
  obtain⟨b,off,rfl,T⟩:=r.o q j;have A:(q:Int)<(k:Int):=U;have P:(δ h[q]).size=32:=by rw[iG];exact o.o q j
  generalize δ h[q]=F at *;go_wp2
  go_round
  .exact⟨q+1,U,ϕ⟩
  exact ω
 .have A:¬(q:Int)<(k:Int):=U
  go_wp2_with fail
  refine p.o.M ?_;rintro e S ⟨rfl,t⟩;go_wp2;go_ret;exact⟨rfl,t⟩
