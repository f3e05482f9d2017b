/- Part 35 of the proof. -/
import Derived.Test.YtpilfbcffofheaaGreatDoorm32
import Derived.Test.YtpilfbcffofheaaGreatDoorm34
set_option linter.unusedVariables false
set_option linter.unusedSimpArgs false
set_option maxRecDepth 100000
set_option maxHeartbeats 8000000
namespace Go.Proofs.YtpilfbcffofheaaGreatDoor
open Go.Proofs.Tryz Go.RowKit Go.Sort
open Value renaming slice->D,string->š,agg->ā
open Ending renaming returned->ŗ
open List renaming length->L
open Obj renaming cells->C
open Option renaming none->O,some->J
open World renaming alloc->å
theorem xX (a:Option Addr) (n c:Nat) (ds:List (γ)) (w:β) (d:L ds=n) (f:Rd w (D a n c) n 1 (σ ds)) (b:ϭ ds) (j:n<=1000000000) (g:Ϡ w) :
  Calls prog 203 #[D a n c] w fun e w'=>e=ŗ (š (δ (Τ ds)))/\BQ w w':=by
 have h:=Zh (wD a n c ds w d f b j g);clear d f b g;go_enter func203,ntmps203;go_wp2_with fail
 refine h.o.mono ?_;rintro e k ⟨rfl,i⟩;go_wp2;go_ret;exact⟨rfl,i⟩
theorem uX (l r:γ) (w:β) (a:L l=32) (b:L r=32) (c:Ϡ w) :
  Calls prog 274 #[š (δ l),š (δ r)] w fun e w'=>e=ŗ (š (δ (gw l r)))/\BQ w w':=by
 have d:=Zh (DR l r w a b c);clear a b c;go_enter func274,ntmps274;go_wp2_with fail
 refine d.o.mono ?_;rintro e g ⟨rfl,f⟩;go_wp2;go_ret;exact⟨rfl,f⟩
theorem Hk:∀ (f b off n c:Nat) (l:List (γ)) (m:Nat) (p:Bool) (w:β),L l=n->n<=f->f<=1000->1<=m->m<=n->n<=c->c<=9223372036854775807->Rd w (D (J ⟨b,off,O⟩) n c) n 1 (σ l)->ϭ l->Ϡ w ->
  Calls prog 124 #[D (J ⟨b,off,O⟩) n c,IZ m,.bool p] w (uz (gE Τ f l m p) w):=by
 intro f;induction f with
 |zero=>intro b off n c l m p w v aF aC ap aE;omega
 |succ f U =>
  intro b off n c l m p w v aF aC ap aE aP aB h H z;have af:=Zh (xX (J ⟨b,off,O⟩) n c l w v h H ϊ z);obtain⟨ax,ao,au,av,aw⟩:=ϯ rn;by_cases ak:m=n
  .subst ak
   have ar:gE Τ (f+1) l m p=if p=true then[Τ l]else[]:=by rw[gE,μ v.symm]
   rw[ar];generalize Τ l=o at *;clear U h H z ar;cases p with
   |false =>
    go_enter func124,ntmps124;go_wp2;go_ret;exact⟨O,0,0,rfl,fZ.nil _ _,φ _ _⟩
   |true =>
    go_enter func124,ntmps124;go_wp2_with fail
    refine af.o.mono ?_;rintro e I ⟨rfl,Y⟩;have az:Hid (fZ w.heap.size (å I (C #[š (δ o)] 9)) (D (J ⟨I.heap.size,0,O⟩) 1 1) 1 [o]):=
     ⟨rfl,rfl,.inr ⟨I.heap.size,1,_,rfl,Y.size,χ I _,NZ,ώ,rfl,rfl⟩⟩
    have ay:=Zh (Y.alloc Y.size (C #[š (δ o)] 9));clear Y;go_wp2;go_ret;exact⟨_,_,_,rfl,az.o,ay.o⟩
  .have aq:2<=n:=ϊ
   have an:=Zh (zG n w aq ϊ);obtain⟨aK,aL,aM⟩:=tY aq;have A:=oO Τ f l m p;rw[v,κ ak]at A;have aN:¬(m:Int)=(n:Int):=ϊ;have aO:¬m=n:=ak;have Z:Rd w (D (J ⟨b,off,O⟩) (Κ n) c) (Κ n) 1 (σ (l.take (Κ n))):=by
    have:=rL (i:=0) (j:=Κ n) h ϊ c ϊ ώ;simpa using this
   have aa:Rd w (D (J ⟨b,off+Κ n,O⟩) (n - Κ n) (c - Κ n)) (n - Κ n) 1 (σ (l.drop (Κ n))):=by
    have:=rL (i:=Κ n) (j:=n - Κ n) h ϊ (c - Κ n) ϊ ώ;rwa [gW (by rw[gb,v];omega)]at this
   have X:ϭ (l.take (Κ n)):=fun d ah=>H d (ni ah);have y:ϭ (l.drop (Κ n)):=fun d ah=>H d (su ah);have l1:L (l.take (Κ n))=Κ n:=by rw[gN,v];omega
   have l2:L (l.drop (Κ n))=n - Κ n:=by rw[gb,v]
   generalize Κ n=K at *;have aS:(0:Int)<=(K:Int):=ϊ;have aR:(K:Int)<=(n:Int):=ϊ;have aQ:(K:Int)<=(c:Int):=ϊ;have aT:K<=n:=ϊ;have aG:K<=c:=ϊ;have aU:¬c=K:=ϊ;have aV:¬(c:Int)=(K:Int):=ϊ;by_cases aj:m<=K
   .rw[μ aj]at A
    have ab:=Zh (fun q (r:BQ w q)=>U b off K c (l.take K) m p q l1 ϊ ϊ ap aj aG aB (Z.below r) X (z.below r));have ac:=Zh (fun q (r:BQ w q)=>xX (J ⟨b,off+K,O⟩) (n - K) (c - K) (l.drop K) q l2 (aa.below r) y ϊ (z.below r));have T:=tQ Τ f (l.take K) m p;generalize gE Τ f (l.take K) m p=aA at *;generalize Τ (l.drop K)=o at *;have ae:=Zh A;have aD:(m:Int)<=(K:Int):=ϊ;have M:=Zh T;clear U h H z Z aa X y l1 l2 A af T v;go_enter func124,ntmps124;go_wp2_with fail
    refine an.o.mono ?_;rintro e I ⟨rfl,rfl⟩;go_upto_region 8 with (fail)
    have g:BQ w w.drew:=RZ.drew;refine ϸ (fun ag=>BQ w ag) 12 ϋ ?_;refine Zf 0 g ?_;refine Zf 1 g ?_;refine Zf 2 g ?_;refine Zf 3 g ?_;refine Zf 4 g ?_;refine Zf 6 g ?_;refine Zf 7 g ?_;refine Zf 8 g ?_;refine Ψ (fuel:=4) 5 ϋ rfl ?_;intro k a;go_simp;refine(ab.o _ g).mono ?_;rintro e aI ⟨y,x,c2,rfl,s,R⟩;have t:=g.trans (R.mono g.size);refine a _ _ t ?_;clear a k;try simp only[Zp]
    refine Ψ (fuel:=3) 9 ϋ rfl ?_;intro k a;go_simp;refine(ac.o _ t).mono ?_;rintro e V ⟨rfl,F⟩;have E:=t.trans (F.mono t.size);refine a _ _ E ?_;clear a k;try simp only[Zp]
    refine Ψ (fuel:=2) 10 ϋ rfl ?_;intro k a;go_simp;have u:=E.alloc E.size (C #[š (δ o)] 9);refine a _ _ u ?_;clear a k;try simp only[Zp]
    have B:=((s.mono (show w.heap.size<=w.drew.heap.size from NZ)).below F).alloc (C #[š (δ o)] 9);refine Ψ (fuel:=1) 11 ϋ rfl ?_;intro k a;refine lx rfl (.tmp 29) (.tmp 34) 143 143 rfl w.heap.size 9 ax (š ⟨#[]⟩) 1 16 lL ao au av aw rfl (D y x c2) x _ ϔ B.2 (D (J ⟨V.heap.size,0,O⟩) 1 1) 1 (σ [o]) ϔ ((qF V _ o).src lL (tV [o])) (by have:=M.o;have:=s.1;unfold maxLen;omega) (by have:=M.o;have:=s.1;omega) u.size ?_;intro aH W G S al;obtain⟨N,P,rfl⟩:=Θ G;have Q:BQ w W:=u.grown S u.size (fun am ai=>(Ν B.2 am ai).1);refine a _ _ Q ?_;clear a k;try simp only[Zp]
    refine jp (fuel:=0) ϋ ϋ rfl ?_;intro k a;go_simp;refine a _ _ ?_;clear a k;refine Zd ?_;have ad:Hid (uz (gE Τ (f+1) l m p) w (ŗ (D N (x+1) P)) W):=
     ⟨N,x+1,P,rfl,by rw[ae.o];exact⟨by simp[s.1],by rw[tU];exact G⟩,Q⟩
    clear G S al B s R F;go_wp2;go_ret;exact ad.o
   .skip
    rw[κ aj]at A;have ab:=Zh (fun q (r:BQ w q)=>U b (off+K) (n - K) (c - K) (l.drop K) (m - K) true q l2 ϊ ϊ ϊ ϊ ϊ ϊ (aa.below r) y (z.below r));have ac:=Zh (fun q (r:BQ w q)=>xX (J ⟨b,off,O⟩) K c (l.take K) q l1 (Z.below r) X ϊ (z.below r));have T:=tQ Τ f (l.drop K) (m - K) true;generalize gE Τ f (l.drop K) (m - K) true=aA at *;generalize Τ (l.take K)=o at *;have ae:=Zh A;have aD:¬(m:Int)<=(K:Int):=ϊ;have M:=Zh T;have aJ:IntKind.i64.wrap ((m:Int) - (K:Int))=((m - K:Nat):Int):=Ϗ;clear U h H z Z aa X y l1 l2 A af T v;go_enter func124,ntmps124;go_wp2_with fail
    refine an.o.mono ?_;rintro e I ⟨rfl,rfl⟩;go_upto_region 9 with (fail)
    have g:BQ w w.drew:=RZ.drew;refine ϸ (fun ag=>BQ w ag) 13 ϋ ?_;refine Zf 0 g ?_;refine Zf 1 g ?_;refine Zf 2 g ?_;refine Zf 3 g ?_;refine Zf 4 g ?_;refine Zf 5 g ?_;refine Zf 7 g ?_;refine Zf 8 g ?_;refine Zf 9 g ?_;refine Ψ (fuel:=4) 6 ϋ rfl ?_;intro k a;go_simp;refine(ab.o _ g).mono ?_;rintro e aI ⟨y,x,c2,rfl,s,R⟩;have t:=g.trans (R.mono g.size);refine a _ _ t ?_;clear a k;try simp only[Zp]
    refine Ψ (fuel:=3) 10 ϋ rfl ?_;intro k a;go_simp;refine(ac.o _ t).mono ?_;rintro e V ⟨rfl,F⟩;have E:=t.trans (F.mono t.size);refine a _ _ E ?_;clear a k;try simp only[Zp]
    refine Ψ (fuel:=2) 11 ϋ rfl ?_;intro k a;go_simp;have u:=E.alloc E.size (C #[š (δ o)] 9);refine a _ _ u ?_;clear a k;try simp only[Zp]
    have B:=((s.mono (show w.heap.size<=w.drew.heap.size from NZ)).below F).alloc (C #[š (δ o)] 9);refine Ψ (fuel:=1) 12 ϋ rfl ?_;intro k a;refine lx rfl (.tmp 42) (.tmp 47) 143 143 rfl w.heap.size 9 ax (š ⟨#[]⟩) 1 16 lL ao au av aw rfl (D y x c2) x _ ϔ B.2 (D (J ⟨V.heap.size,0,O⟩) 1 1) 1 (σ [o]) ϔ ((qF V _ o).src lL (tV [o])) (by have:=M.o;have:=s.1;unfold maxLen;omega) (by have:=M.o;have:=s.1;omega) u.size ?_;intro aH W G S al;obtain⟨N,P,rfl⟩:=Θ G;have Q:BQ w W:=u.grown S u.size (fun am ai=>(Ν B.2 am ai).1);refine a _ _ Q ?_;clear a k;try simp only[Zp]
    refine jp (fuel:=0) ϋ ϋ rfl ?_;intro k a;go_simp;refine a _ _ ?_;clear a k;refine Zd ?_;have ad:Hid (uz (gE Τ (f+1) l m p) w (ŗ (D N (x+1) P)) W):=
     ⟨N,x+1,P,rfl,by rw[ae.o];exact⟨by simp[s.1],by rw[tU];exact G⟩,Q⟩
    clear G S al B s R F;go_wp2;go_ret;exact ad.o
def gv (ds:List (γ)) (m:Nat):List (γ):=if m=0 then[]else gE Τ (L ds) ds m false
theorem Hg (i:Option Addr) (n c:Nat) (ds:List (γ)) (m:Nat) (w:β) (b:L ds=n) (h:Rd w (D i n c) n 1 (σ ds)) (d:ϭ ds) (E:n<=1000) (B:m<=n) (g:Ϡ w) :
  Calls prog 69 #[D i n c,IZ m] w (uC (gv ds m) w):=by
 have k:=Zh (wD i n c ds w b h d ϊ g);have A:¬(m:Int)<0:=ϊ;have N:¬(n:Int)<(m:Int):=ϊ;have P:decide ((m:Int)<0)=false:=iC A;have Q:¬n<m:=ϊ;by_cases q:m=0
 .subst q
  have f:gv ds 0=[]:=rfl;rw[f];clear h d g b;go_enter func69,ntmps69;go_wp2_with fail
  refine k.o.mono ?_;rintro e H ⟨rfl,a⟩;go_wp2;go_ret2;exact⟨O,0,0,rfl,fZ.nil _ _,a⟩
 .have R:¬(m:Int)=0:=ϊ
  obtain⟨-,-,⟨K,x,j,M⟩|⟨y,off,x,j,-,F,z,-⟩⟩:=id h
  .omega
  simp only[Ξ,Ϯ]at j;obtain⟨rfl,rfl⟩:=j;unfold maxLen at z;have u:=Zh (fun l (o:BQ w l)=>Hk n y off n c ds m false l b NZ E ϊ B F ϊ (h.below o) d (g.below o));have f:gv ds m=gE Τ n ds m false:=by unfold gv;rw[κ q,b]
  rw[f];generalize gE Τ n ds m false=I at *;clear h d g b f;go_enter func69,ntmps69;go_wp2_with fail
  refine k.o.mono ?_;rintro e H ⟨rfl,a⟩;go_wp2_with fail
  refine(u.o _ a).mono ?_;rintro e S ⟨v,G,c2,rfl,r,p⟩;have t:=Zh (r.mono a.size);have s:=Zh (a.trans (p.mono a.size));clear r p a;go_wp2;go_ret2;exact⟨v,G,c2,rfl,t.o,s.o⟩
theorem uK (i:Nat) (h:i<=1000000000):bits .and .i64 (i:Int) 1=if i % 2=1 then 1 else 0:=by
 rw[AJ i ϊ];split<;>omega
theorem sf {i:Nat} (f j:Nat) (h:¬(i % 2=0/\i≠0)):iT f i j=(i,j):=by cases f with
 |zero=>rfl
 |succ f=>rw[iT,κ h]
theorem zv:∀ (f i j:Nat),i<=f->iT f i j=iT i i j
 |0,i,j,h=>by
  obtain rfl:i=0:=ϊ;rfl
 |f+1,i,j,h=>by
  by_cases a:i % 2=0/\i≠0
  .obtain⟨g,rfl⟩:∃ g,i=g+1:=⟨i - 1,ϊ⟩
   rw[iT,μ a,iT,μ a,zv f _ _ ϊ,zv g _ _ ϊ]
  .rw[sf _ _ a,sf _ _ a]
theorem Er {i j:Nat} (h:i % 2=0/\i≠0):iT i i j=iT (i / 2) (i / 2) (j / 2):=by
 obtain⟨g,rfl⟩:∃ g,i=g+1:=⟨i - 1,ϊ⟩;rw[iT,μ h];exact zv g _ _ ϊ
theorem lU (i:Nat):(i:Int) / 2=((i / 2:Nat):Int):=ϊ
theorem Bu (K R:Nat) (aw ax G:γ) (t:List (γ)) (aE:Option Addr) (n c:Nat) (w:β) (au:L t+1=n) (av:Rd w (D aE n c) n 1 (σ (G::t))) (al:ϭ (G::t)) (hi:K<=1000000) (aW:R<=1000000) (bd:n<=1000) (aJ:Ϡ w)
  (ap:tf gw K R (G::t)=J (0,0,aw,ax)) :
  Calls prog 207 #[IZ K,IZ R,š (δ aw),š (δ ax),D aE n c] w fun e w'=>e=ŗ (.bool true)/\BQ w w':=by
 obtain⟨-,-,⟨a4,aQ,E,Q⟩|⟨aF,off,aQ,E,-,bg,aT,-⟩⟩:=id av
 .omega
 simp only[Ξ,Ϯ]at E;obtain⟨rfl,rfl⟩:=E;unfold maxLen at aT;have ae:=Zh (fun l B=>qL av (by simpa using au) l B);have aH:w.cell? ⟨aF,off,O⟩=J (š (δ G)):=by
  obtain⟨aP,a1,E,aq⟩:=ae.o 0 ύ;simp only[Ο,Addr.mk.injEq,hR]at E;obtain⟨rfl,rfl⟩:=E;simpa using aq
 have aA:Hid (∀ l (B:l<L t),w.cell? ⟨aF,off+1+l,O⟩=J (š (δ t[l]))):=by
  intro l B;obtain⟨aP,a1,E,aq⟩:=ae.o (l+1) ό;simp only[Ο,Addr.mk.injEq,hR]at E;obtain⟨rfl,rfl⟩:=E;rw[show off+1+l=off+(l+1)from ϊ];simpa using aq
 have aC:=Zh (al G ύ);have aD:=Zh (fun l (B:l<L t)=>al t[l] (nI _ (Χ B)));have Z:=Zh aJ;have P:=Zh au;unfold tf at ap;have az:=Zh ap;clear av al aJ ae ap au;go_enter func207,ntmps207;go_wp2
 go_step3
 go_wp2;go_loop [0,1] (fun q F=>∃ (f m:Nat),q=IZ (f:Int)/\F=IZ (m:Int)/\f<=1000000/\m<=1000000/\Hid (jV f f m=jV K K R)) (fun q _=>(intOf q).toNat)
 case atStart=>exact⟨K,R,rfl,rfl,hi,aW,rfl⟩
 case round =>
  obtain⟨f,m,rfl,rfl,W,ar,ah⟩:=hrel;have r:=uK f ϊ;by_cases ac:f % 2=1
  .have aU:1<=f:=ϊ
   rw[μ ac]at r;have aM:Hid (jV (f / 2) (f / 2) (m / 2)=jV K K R):=by
    show _=_;rw[<-ah.o];obtain⟨g,rfl⟩:∃ g,f=g+1:=⟨f - 1,ϊ⟩;rw[jV,μ ac];exact(zw g _ _ ϊ).symm
   have V:=Nat.div_lt_self (n:=f) aU (k:=2) ϐ;have U:((f:Int) / 2).toNat=f / 2:=ϊ;go_wp2
   go_round
   case rel=>exact⟨f / 2,m / 2,by rw[lU],by rw[lU],ϊ,ϊ,aM.o⟩
   case measure=>simp[intOf];rw[U];exact V
  .rw[κ ac]at r
   have s:=az.o;rw[<-ah.o,ua f m ac]at s;simp only at s;have Y:=Zh s;clear s ah az;have bf:0<n:=by have:=P.o;omega
   have be:(0:Int)<(n:Int):=ϊ;go_upto_region 3 with (fail)
   have H:BQ w w.drew:=RZ.drew;refine ϸ (fun aN=>BQ w aN) 7 ϋ ?_;refine Zf 0 H ?_;refine Zf 1 H ?_;refine Zk 2 H ?_ (hy:=by intro aO an;have a2:=ζ an aH;go_simp;try with_reducible rfl);refine Zf 3 H ?_;refine Zf 4 H ?_;refine Zk 5 H ?_ (hy:=by intro aO an;have a2:=ζ an aH;go_simp;try with_reducible rfl);refine Zf 6 H ?_;refine Zl ?_;refine Zd ?_;have l1:(1:Int)<=(n:Int):=ϊ;have l2:(1:Int)<=(c:Int):=ϊ;have l3:1<=n:=ϊ;have bi:1<=c:=ϊ;generalize aK:w.drew=wd at *;have aG:BQ w wd:=by rw[<-aK];exact RZ.drew
   clear aK H;by_cases aS:c=1
   .have aI:t=[]:=ko (by have:=P.o;omega)
    have s:=Y.o;rw[aI]at s;simp only[jN,Ο,Prod.mk.injEq]at s;obtain⟨rfl,rfl,rfl,rfl⟩:=s;obtain rfl:n=1:=ϊ;subst aS;clear Y aA aD P aI;go_wp2
    go_step3
    go_wp2;go_loop [0,1,11,12,31] (fun q F aj ak X=>q=IZ 0/\F=IZ 0/\aj=š (δ G)/\ak=š (δ G)/\X=IZ 0) (fun _ _ _ _ _=>0)
    case atStart=>exact⟨rfl,rfl,rfl,rfl,rfl⟩
    case round =>
     obtain⟨rfl,rfl,rfl,rfl,rfl⟩:=hrel;go_wp2;go_ret;exact⟨rfl,aG⟩
   .go_wp2
    go_step3
    go_wp2;go_loopw [0,1,11,12,31] (fun q F aj ak X wr=>∃ (f m l:Nat) (a b:γ),q=IZ (f:Int)/\F=IZ (m:Int)/\aj=š (δ a)/\ak=š (δ b)/\X=IZ (l:Int)/\f<=1000000/\m<=1000000/\l+1<=n/\Hid (L a=32/\L b=32)/\Hid (jN gw (t.drop l) f m a b=J (0,0,aw,ax))/\BQ w wr) (fun _ _ _ _ X _=>n - (intOf X).toNat)
    case atStart=>exact⟨f,m,0,G,G,rfl,rfl,rfl,rfl,rfl,W,ar,ϊ,⟨aC.o,aC.o⟩,Y.o,aG⟩
    case round =>
     obtain⟨f,m,l,a,b,rfl,rfl,rfl,rfl,rfl,W,ar,a9,S,af,y⟩:=hrel;by_cases B:l<L t
     .have bc:l<n - 1:=by have:=P.o;omega
      have a0:(l:Int)<((n - 1:Nat):Int):=ϊ;have bh:(0:Int)<=(l:Int):=ϊ;have a5:=ζ y (aA.o l B);have aa:=aD.o l B;have z:=af.o;rw[mh B]at z;generalize t[l]=d at *;have aX:m≠0:=by
       intro h;rw[jN,μ h]at z;cases z
      rw[jN,κ aX]at z;have a8:¬(m:Int)=0:=ϊ;have r:=uK f ϊ;have aZ:=P.o;have ba:l+1+1<=n:=ϊ;clear aZ;by_cases am:f % 2=0/\f≠m
      .rw[μ am]at z
       rw[κ ϊ]at r;have a6:¬(f:Int)=(m:Int):=ϊ;have a7:¬f=m:=am.2;have x:=Zh z;have aL:=Zh (uX b d wr S.o.2 aa (Z.o.below y));clear z;go_wp2_with fail
       refine aL.o.mono ?_;rintro e ad ⟨rfl,I⟩;have A:=y.trans (I.mono y.size);clear I;go_wp2;go_roundw;case rel=>exact⟨f / 2,m / 2,l+1,a,gw b d,by rw[lU],by rw[lU],rfl,rfl,ϕ,ϊ,ϊ,ϊ,⟨S.o.1,hO _⟩,x.o,A⟩
       case measure=>simp[intOf];omega
      .rw[κ am]at z
       have x:=Zh z;have aB:=Zh (uX d a wr aa S.o.1 (Z.o.below y));clear z;by_cases ab:f % 2=0
       .rw[κ ϊ]at r
        obtain rfl:f=m:=ϊ;go_wp2_with fail
        refine aB.o.mono ?_;rintro e ad ⟨rfl,I⟩;have A:=y.trans (I.mono y.size);have ag:=Zh (uX d b ad aa S.o.2 (Z.o.below A));go_wp2_with fail
        refine ag.o.mono ?_;rintro e a3 ⟨rfl,T⟩;have ao:=A.trans (T.mono A.size);clear I T r;go_wp2_with fail
        go_loopw [0,1] (fun q F ay=>∃ (j o:Nat),q=IZ (j:Int)/\F=IZ (o:Int)/\j<=1000000/\o<=1000000/\Hid (iT j j o=iT f f f)/\BQ w ay) (fun q _ _=>(intOf q).toNat)
        case atStart=>exact⟨f,f,rfl,rfl,W,W,rfl,ao⟩
        case round =>
         obtain⟨j,o,rfl,rfl,aV,aY,u,N⟩:=hrel;have r:=uK j ϊ;by_cases ab:j % 2=0
         .rw[κ ϊ]at r
          by_cases Q:j=0
          .subst Q
           have v:=sf (i:=0) 0 o ϊ;have p:=x.o;rw[<-u.o,v]at p;simp only at p;have M:=Zh p;clear p v u x;go_wp2;go_roundw;case rel=>exact⟨0 / 2,o / 2,l+1,gw d a,gw d b,rfl,by rw[lU],rfl,rfl,ϕ,ϊ,ϊ,ϊ,⟨hO _,hO _⟩,M.o,N⟩
           case measure=>simp[intOf];omega
          .have aR:¬(j:Int)=0:=ϊ
           have ai:Hid (iT (j / 2) (j / 2) (o / 2)=iT f f f):=(Er ⟨ab,Q⟩).symm.trans u.o;have V:=Nat.div_lt_self (n:=j) ϊ (k:=2) ϐ;have U:((j:Int) / 2).toNat=j / 2:=ϊ;go_wp2;go_roundw;case rel=>exact⟨j / 2,o / 2,by rw[lU],by rw[lU],ϊ,ϊ,ai.o,N⟩
           case measure=>simp[intOf];rw[U];exact V
         .rw[μ ϊ]at r
          have v:=sf (i:=j) j o ϊ;have p:=x.o;rw[<-u.o,v]at p;simp only at p;have M:=Zh p;clear p v u x;go_wp2;go_roundw;case rel=>exact⟨j / 2,o / 2,l+1,gw d a,gw d b,by rw[lU],by rw[lU],rfl,rfl,ϕ,ϊ,ϊ,ϊ,⟨hO _,hO _⟩,M.o,N⟩
          case measure=>simp[intOf];omega
       .rw[μ ϊ]at r
        go_wp2_with fail
        refine aB.o.mono ?_;rintro e ad ⟨rfl,I⟩;have A:=y.trans (I.mono y.size);have ag:=Zh (uX d b ad aa S.o.2 (Z.o.below A));go_wp2_with fail
        refine ag.o.mono ?_;rintro e a3 ⟨rfl,T⟩;have ao:=A.trans (T.mono A.size);clear I T r;go_wp2_with fail
        go_loopw [0,1] (fun q F ay=>∃ (j o:Nat),q=IZ (j:Int)/\F=IZ (o:Int)/\j<=1000000/\o<=1000000/\Hid (iT j j o=iT f f m)/\BQ w ay) (fun q _ _=>(intOf q).toNat)
        case atStart=>exact⟨f,m,rfl,rfl,W,ar,rfl,ao⟩
        case round =>
         obtain⟨j,o,rfl,rfl,aV,aY,u,N⟩:=hrel;have r:=uK j ϊ;by_cases ab:j % 2=0
         .rw[κ ϊ]at r
          by_cases Q:j=0
          .subst Q
           have v:=sf (i:=0) 0 o ϊ;have p:=x.o;rw[<-u.o,v]at p;simp only at p;have M:=Zh p;clear p v u x;go_wp2;go_roundw;case rel=>exact⟨0 / 2,o / 2,l+1,gw d a,gw d b,rfl,by rw[lU],rfl,rfl,ϕ,ϊ,ϊ,ϊ,⟨hO _,hO _⟩,M.o,N⟩
           case measure=>simp[intOf];omega
          .have aR:¬(j:Int)=0:=ϊ
           have ai:Hid (iT (j / 2) (j / 2) (o / 2)=iT f f m):=(Er ⟨ab,Q⟩).symm.trans u.o;have V:=Nat.div_lt_self (n:=j) ϊ (k:=2) ϐ;have U:((j:Int) / 2).toNat=j / 2:=ϊ;go_wp2;go_roundw;case rel=>exact⟨j / 2,o / 2,by rw[lU],by rw[lU],ϊ,ϊ,ai.o,N⟩
           case measure=>simp[intOf];rw[U];exact V
         .rw[μ ϊ]at r
          have v:=sf (i:=j) j o ϊ;have p:=x.o;rw[<-u.o,v]at p;simp only at p;have M:=Zh p;clear p v u x;go_wp2;go_roundw;case rel=>exact⟨j / 2,o / 2,l+1,gw d a,gw d b,by rw[lU],by rw[lU],rfl,rfl,ϕ,ϊ,ϊ,ϊ,⟨hO _,hO _⟩,M.o,N⟩
          case measure=>simp[intOf];omega
     .have bb:l=n - 1:=by have:=P.o;omega
      have s:=af.o;rw[sw ϊ]at s;simp only[jN,Ο,Prod.mk.injEq]at s;obtain⟨rfl,rfl,rfl,rfl⟩:=s;have a0:¬(l:Int)<((n - 1:Nat):Int):=ϊ;clear af Y;go_wp2;go_ret;exact⟨rfl,y⟩
theorem FQ:∀ m:Fin 65,0<m.val->(bits .and .i64 ((m.val:Nat):Int) (((m.val:Nat):Int) - 1)=0↔(m.val=1\/m.val=2\/m.val=4\/m.val=8\/m.val=16\/m.val=32\/m.val=64)):=Ϟ
theorem FR {m:Nat} (d:0<m) (h:m<=64):(bits .and .i64 (m:Int) ((m:Int) - 1)=0/\∃ a,m=2 ^ a)\/(¬bits .and .i64 (m:Int) ((m:Int) - 1)=0/\∀ a,m≠2 ^ a):=by
 have c:=FQ ⟨m,ϊ⟩ d;simp only at c;by_cases b:bits .and .i64 (m:Int) ((m:Int) - 1)=0
 .left
  refine⟨b,?_⟩;rcases c.1 b with h|h|h|h|h|h|h
  .exact⟨0,h⟩
  .exact⟨1,h⟩
  .exact⟨2,h⟩
  .exact⟨3,h⟩
  .exact⟨4,h⟩
  .exact⟨5,h⟩
  .exact⟨6,h⟩
 .right
  refine⟨b,fun a e=>b (c.2 ?_)⟩;have f:a<7:=(um (a:=2) ϐ).1 ϊ;rcases(ϊ:a=0\/a=1\/a=2\/a=3\/a=4\/a=5\/a=6)with rfl|rfl|rfl|rfl|rfl|rfl|rfl<;>omega
theorem yX:∀ (f:Nat) (l:List (γ)) (m:Nat) (p:Bool),ϭ l->ϭ (gE Τ f l m p)
 |0,l,m,p,h=>fun d hd=>by simp[gE]at hd
 |f+1,l,m,p,h=>by
  have a:ϭ (l.take (Κ (L l))):=fun d hd=>h d (ni hd);have b:ϭ (l.drop (Κ (L l))):=fun d hd=>h d (su hd);rw[oO];split
  .split
   .intro d hd;rw[jW.1 hd];exact nF h
   .intro d hd;cases hd
  .split
   .intro d hd
    rcases mg.1 hd with hd|hd
    .exact yX f _ m p a d hd
    .rw[jW.1 hd];exact nF b
   .intro d hd
    rcases mg.1 hd with hd|hd
    .exact yX f _ _ _ b d hd
    .rw[jW.1 hd];exact nF a
theorem th {ds:List (γ)} (h:ϭ ds) (m:Nat):ϭ (gv ds m):=by
 unfold gv;split
 .intro d a;cases a
 .exact yX _ _ _ _ h
theorem uW (ds:List (γ)) (m:Nat):L (gv ds m)<=L ds:=by
 unfold gv;split
 .simp
 .exact tQ Τ _ _ _ _
theorem Hc {ds:List (γ)} {m:Nat} (a:0<m) (b:m<L ds):tf gw (m - 1) (L ds - 1) (gE Τ (L ds) ds m true)=J (0,0,Τ (ds.take m),Τ ds):=
 GN Τ gw zC a b NZ
theorem Hf {ds:List (γ)} {m a:Nat} (b:m=2 ^ a) (c:m<L ds):Τ (ds.take m)::gv ds m=gE Τ (L ds) ds m true:=by
 have d:0<2 ^ a:=ku ϐ;unfold gv;rw[κ ϊ,b,Lb Τ a (L ds) ds ϊ NZ]
theorem He {ds:List (γ)} {m:Nat} (b:0<m) (c:m<L ds) (h:∀ a,m≠2 ^ a):gv ds m=gE Τ (L ds) ds m true:=by
 unfold gv;rw[κ ϊ,Lc Τ (L ds) ds m b c NZ h]
theorem Hd {ds:List (γ)} {m:Nat} (b:0<m) (c:m=L ds):gv ds m=[]:=by
 unfold gv;rw[κ ϊ];obtain⟨f,a⟩:∃ f,L ds=f+1:=⟨L ds - 1,ϊ⟩;rw[a,oO,μ ϊ,κ ϐ]
theorem Hh (ds:List (γ)) (m n:Nat) (p:Option Addr) (k c:Nat) (w:β) (I:L ds=n) (i:ϭ ds) (ao:n<=64) (an:m<=n) (f:L (gv ds m)=k) (l:Rd w (D p k c) k 1 (σ (gv ds m))) (o:Ϡ w) :
  Calls prog 133 #[IZ m,IZ n,š (δ (Τ (ds.take m))),š (δ (Τ ds)),D p k c] w fun e w'=>e=ŗ (.bool true)/\BQ w w':=by
 by_cases Z:m=0
 .subst Z
  have r:gv ds 0=[]:=rfl;have P:Τ (ds.take 0)=mY []:=rfl;rw[r]at f;obtain rfl:k=0:=f.symm;rw[P];have W:=Zh (rW O 0 0 [] w rfl ϊ (Rd.of_own (Φ.nil w 0).2) o);generalize Τ ds=A at *;generalize mY []=z at *;clear l o i r P f;go_enter func133,ntmps133;go_wp2_with fail
  refine W.o.mono ?_;rintro e ap ⟨rfl,ac⟩;go_wp2;go_ret;exact⟨rfl,ac⟩
 .have ak:¬(m:Int)=0:=ϊ
  by_cases ad:m=n
  .have r:=Hd (ds:=ds) (m:=m) ϊ ϊ
   rw[r]at f;obtain rfl:k=0:=f.symm;rw[gW ϊ];generalize Τ ds=A at *;subst ad;clear l o i r f;go_enter func133,ntmps133;go_wp2;go_ret;exact⟨rfl,φ _ _⟩
  .have al:¬(m:Int)=(n:Int):=ϊ
   have ai:IntKind.i64.wrap ((m:Int) - 1)=(m:Int) - 1:=Ϗ;have aj:IntKind.i64.wrap ((n:Int) - 1)=(n:Int) - 1:=Ϗ;have t:m<L ds:=ϊ;have g:=Hc (ds:=ds) (m:=m) ϊ t;have u:=uW ds m;rw[I]at g;have v:((m - 1:Nat):Int)=(m:Int) - 1:=ϊ;have x:((n - 1:Nat):Int)=(n:Int) - 1:=ϊ;rcases FR (m:=m) ϊ ϊ with ⟨ab,a,Q⟩|⟨ab,s⟩
   .have j:=Hf Q t
    rw[I]at j;rw[<-j]at g;have q:=Zh (fun(p:Option Addr) (c:Nat) B (aa:BQ w B) (h:Rd B (D p (1+k) c) (1+k) 1 (σ (Τ (ds.take m)::gv ds m)))=>Bu (m - 1) (n - 1) (Τ (ds.take m)) (Τ ds) (Τ (ds.take m)) (gv ds m) p (1+k) c B ϊ h (fun d hd=>by
     rcases gP.1 hd with rfl|hd
     .exact nF (fun d hd=>i d (ni hd))
     .exact th i m d hd) ϊ ϊ ϊ (o.below aa) g)
    rw[v,x]at q;have M:Hid (fZ w.heap.size (å w (C #[š (δ (Τ (ds.take m)))] 9)) (D (J ⟨w.heap.size,0,O⟩) 1 1) 1 [Τ (ds.take m)]):=
     ⟨rfl,rfl,.inr ⟨w.heap.size,1,_,rfl,NZ,χ w _,NZ,ώ,rfl,rfl⟩⟩
    have N:=Zh (l.below ((φ w.heap.size w).alloc NZ (C #[š (δ (Τ (ds.take m)))] 9)));have R:BQ w (å w (C #[š (δ (Τ (ds.take m)))] 9)):=ġ;have am:k<=64:=ϊ;have V:=Zh f;generalize Τ (ds.take m)=z at *;generalize Τ ds=A at *;generalize gv ds m=X at *;have ae:¬1+k=0:=ϊ;have af:¬(1:Int)+(k:Int)=0:=ϊ;clear l o i g u j Q f v x t;go_enter func133,ntmps133;go_upto_region 7 with (at_builtin;go_loud (refine uh rfl _ _ rfl w.heap.size (D (J ⟨w.heap.size,0,O⟩) 1 1) _ 1 k [z] X (by rfl) M.o (by rfl) V.o N.o ϊ ύ ?_;intro Y c2 ag T s))
    have H:=R.trans s;have U:=Zh (q.o Y c2 ag H T.rd);clear T s R M N;go_wp2_with fail
    refine U.o.mono ?_;rintro e ah ⟨rfl,G⟩;go_wp2;go_ret;exact⟨rfl,H.trans (G.mono H.size)⟩
   .have j:=He ϊ t s
    rw[I]at j;rw[<-j]at g;obtain⟨K,y,E⟩:∃ K y,gv ds m=K::y:=by
     cases h:gv ds m with
     |nil=>rw[h]at g;simp[tf]at g
     |cons a b=>exact⟨a,b,rfl⟩
    have F:=th i m;rw[E]at g F l f;have S:L y+1=k:=by simpa using f
    have q:=Zh (Bu (m - 1) (n - 1) (Τ (ds.take m)) (Τ ds) K y p k c w S l F ϊ ϊ (by rw[E]at u;simp at u;omega) o g);rw[v,x]at q;have ae:¬k=0:=ϊ;have af:¬(k:Int)=0:=ϊ;generalize Τ (ds.take m)=z at *;generalize Τ ds=A at *;clear l o i g u j f v x t F E s S;go_enter func133,ntmps133;go_wp2_with fail
    refine q.o.mono ?_;rintro e ah ⟨rfl,G⟩;go_wp2;go_ret;exact⟨rfl,G⟩
theorem Hj (ds:List (γ)) (m n:Nat) (i:Option Addr) (k c:Nat) (w:β) (j:L ds=n) (f:ϭ ds) (F:n<=64) (E:m<=n) (g:L (gv ds m)=k) (l:Rd w (D i k c) k 1 (σ (gv ds m))) (p:Ϡ w) :
  Calls prog 76 #[IZ m,IZ n,š (δ (Τ (ds.take m))),š (δ (Τ ds)),D i k c] w fun e w'=>e=ŗ (IZ 0)/\BQ w w':=by
 have s:=Zh (Hh ds m n i k c w j f F E g l p);have V:(δ (Τ (ds.take m))).size=32:=by rw[jx];exact nF (fun d x=>f d (ni x))
 have W:(δ (Τ ds)).size=32:=by rw[jx];exact nF f
 have t:=Zh (fun a hi=>qL l g a hi);have u:=Zh g;have r:=Zh (fun a (hi:a<L (gv ds m))=>th f m _ (Χ hi));have z:¬(m:Int)<0:=ϊ;have R:¬(n:Int)<(m:Int):=ϊ;have A:¬(1099511627776:Int)<(n:Int):=ϊ;have B:¬n<m:=ϊ;have N:decide ((m:Int)<0)=false:=iC z;have P:decide (n<m)=false:=iC B;have Q:decide ((1099511627776:Int)<(n:Int))=false:=iC A;have y:=uW ds m;rw[g,j]at y;generalize Τ (ds.take m)=H at *;generalize Τ ds=I at *;generalize gv ds m=h at *;clear l p f j g;go_enter func76,ntmps76;go_wp2;go_loop [36] (fun a=>∃ q:Nat,q<=k/\a=IZ (q:Int)) (fun a=>k - (intOf a).toNat)
 case atStart=>exact⟨0,Ι _,rfl⟩
 case round =>
  obtain⟨q,S,rfl⟩:=hrel;by_cases T:q<k
  .have o:q<L h:=by have:=u.o;omega
   obtain⟨b,off,rfl,M⟩:=t.o q o;have G:(q:Int)<(k:Int):=ϊ;have U:(δ h[q]).size=32:=by rw[jx];exact r.o q o
   generalize δ h[q]=K at *;go_wp2
   go_round
   case rel=>exact⟨q+1,ϊ,ϕ⟩
   case measure=>simp[intOf];omega
  .have G:¬(q:Int)<(k:Int):=ϊ
   go_wp2_with fail
   refine s.o.mono ?_;rintro e X ⟨rfl,v⟩;go_wp2;go_ret;exact⟨rfl,v⟩
theorem Iu (da:Option Addr) (dc:Nat) (sa:Option Addr) (sc:Nat) (docs:List (γ)) (ps:List (Nat×Nat)) (m:Nat) (w:β) (n:Ϩ w) (i:Δ w (D da (L docs) dc) docs) (l:ϧ docs w (D sa (L ps) sc) ps) (j:ϵ docs ps m) (Q:m≠L docs) :
  Calls prog 55 #[ā #[D da (L docs) dc,D sa (L ps) sc]] w fun e w'=>e=ŗ (.tuple #[ā #[IZ 0,š ⟨#[]⟩,D O 0 0],IZ 7])/\BQ w w':=by
 have R:prog.follows .mixedOrders=true:=ϋ;have a:BQ w (å (å w (C #[D da (L docs) dc,D sa (L ps) sc] 44)) (C #[IZ 0,š ⟨#[]⟩,D O 0 0] 123)):=ġ.alloc ύ _;obtain⟨c,f⟩:∃ c,c=(å (å w (C #[D da (L docs) dc,D sa (L ps) sc] 44)) (C #[IZ 0,š ⟨#[]⟩,D O 0 0] 123)):=⟨_,rfl⟩;have H:=fU (w:=w) (w1:=c) (A:=C #[D da (L docs) dc,D sa (L ps) sc] 44) (Z:=C #[IZ 0,š ⟨#[]⟩,D O 0 0] 123) (by rw[f];exact φ _ _);obtain⟨o,q,V,W,-⟩:=H;rw[<-f]at a;have y:=Zh (fun d (b:BQ c d)=>(vL (D da (L docs) dc) (D sa (L ps) sc) docs ps _ d (n.below (a.trans (b.mono a.size))) (i.below (a.trans (b.mono a.size))) (l.below (a.trans (b.mono a.size))) j).mono (R':=fun e w'=>e=ŗ (.bool true)/\BQ c w') (fun e w' h=>⟨h.1,b.trans (h.2.mono b.size)⟩));have x:=Zh (fun d (b:BQ c d)=>(Dm da (L docs) dc sa (L ps) sc docs ps _ d (n.below (a.trans (b.mono a.size))) (i.below (a.trans (b.mono a.size))) (l.below (a.trans (b.mono a.size))) j).mono (R':=fun e w'=>e=ŗ (IZ (m:Int))/\BQ c w') (fun e w' h=>⟨h.1,b.trans (h.2.mono b.size)⟩));have z:=Zh q;obtain⟨⟨r,s⟩,⟨K,f1⟩,-⟩:=ι o;have E:=Zh f.symm;have S:((m:Int) !=(L docs:Int))=true:=ό;clear i l j n o q f;go_enter func55,ntmps55;go_wp2_with fail
 rw[E.o];have F:BQ c c.drew:=RZ.drew;go_region_held3 (fun d=>BQ c d/\d.cell? ⟨w.heap.size,0,O⟩=J (D da (L docs) dc)/\d.cell? ⟨w.heap.size,1,O⟩=J (D sa (L ps) sc))
  (first|exact⟨F,r,s⟩|assumption|exact⟨Ϙ,ζ Ϙ r,ζ Ϙ s⟩)
  (first|(go_at_call 13;refine(y.o _ Ϙ).mono ?_;rintro e T ⟨rfl,G⟩)|(go_at_call 17;refine(x.o _ Ϙ).mono ?_;rintro e U ⟨rfl,g⟩))
 have k:=θ z.o g;have B:=Zx (jg k (IZ 0) (š ⟨#[]⟩) (D O 0 0));have t:=Zx (kL (a.trans (g.mono a.size)) (go _ 1) (IZ 0) (š ⟨#[]⟩) (D O 0 0));obtain⟨⟨I,d1,d2⟩,⟨M,N,P⟩,-⟩:=Β k;clear G g k;go_wp2;refine ϟ (v:=.tuple #[ā #[IZ 0,š ⟨#[]⟩,D O 0 0],IZ 7]) (gf (p:=2) (u:=3) (ty:=123) rfl _ _ (w.heap.size+1) 123 _ (0,0) _ rfl B.o underlying123 rfl ϋ) rfl ?_;exact⟨rfl,t.o⟩
theorem Lg (B:Option Addr) (s:Nat) (xs:Option Addr) (T:Nat) (t:Option Addr) (m:Nat) (ys:Option Addr) (U:Nat) (d1 d2:List (γ)) (p1 p2:List (Nat×Nat)) (w:β) (ah:Ϩ w) (P:Ϡ w) (ai:Δ w (D B (L d1) s) d1) (a2:ϧ d1 w (D xs (L p1) T) p1) (hy:Δ w (D t (L d2) m) d2) (a3:ϧ d2 w (D ys (L p2) U) p2) (ak:ϵ d1 p1 (L d1)) (Q:ϵ d2 p2 (L d2)) (aT:d1=d2.take (L d1)) (bS:L d1<=L d2) (bQ:L d2<=64) :
  Calls prog 40 #[ā #[D B (L d1) s,D xs (L p1) T],ā #[D t (L d2) m,D ys (L p2) U]] w (lP (mC d1 p1 d2 p2 (gv (d2.map ϩ) (L d1))) w):=by
 have aK:=uW (d2.map ϩ) (L d1);rw[io]at aK;have aw:=Zx (fun f (g:BQ w f)=>rm B s xs T d1 p1 _ f (ah.below g) (P.below g) (ai.below g) (a2.below g) ak rfl);have ax:=Zx (fun f (g:BQ w f)=>rm t m ys U d2 p2 _ f (ah.below g) (P.below g) (hy.below g) (a3.below g) Q rfl);have av:=Zx (fun f (g:BQ w f)=>ue (D t (L d2) m) d2 f (P.below g) (hy.below g) ϊ (fun d br=>by have:=Q.ld d br;omega));have az:=Zx (fun aC n c ao f (g:BQ w f) (h:fZ ao f (D aC n c) n (d2.map ϩ))=>Hg aC n c (d2.map ϩ) (L d1) f h.1 h.rd (kQ _) (by have:=h.1;rw[io]at this;omega) (by have:=h.1;rw[io]at this;omega) (P.below g));have iD:=Zx (fun a5 a6 a4 a pc f (X:Rd f a5 (L p1) 4 (Ϸ d1 p1)) (bp:Rd f a6 (L p2) 4 (Ϸ d2 p2)) (z:L (gv (d2.map ϩ) (L d1))=a) (bv:Rd f (D a4 a pc) a 1 (σ (gv (d2.map ϩ) (L d1))))=>Om a5 a6 a4 a pc d1 d2 p1 p2 _ f X ak bp Q z ϊ (th (kQ _) _) bv);have ap:=Zx (fun f (g:BQ w f) (a:Nat) (z:a<L d1)=>show ∃ b off da dc n b2 R v x k,B=J ⟨b,off,O⟩/\L d1<=s/\s<=maxLen/\f.cell? ⟨b,off+a,O⟩=J (D da n dc)/\t=J ⟨b2,R,O⟩/\L d2<=m/\m<=maxLen/\f.cell? ⟨b2,R+a,O⟩=J (D v k x)/\Calls prog 68 #[D da n dc,D v k x] f (fun e bG=>e=ŗ (.bool true)/\f=bG)by
  have aQ:a<L d2:=ϊ
  obtain⟨b,off,da,dc,bi,bj,bk,bl,bm⟩:=nS (ai.below g) rfl a z
  obtain⟨b2,R,v,x,f1,f2,f3,bn,bo⟩:=nS (hy.below g) rfl a aQ
  refine⟨b,off,da,dc,_,b2,R,v,x,_,bi,bj,bk,bl,f1,f2,f3,bn,?_⟩
  have aU:=AV (D da (L d1[a]) dc) (D v (L d2[a]) x) _ _ d1[a] d2[a] f rfl rfl bm bo
  have bt:d1[a]=d2[a]:=by
   have X:d1[a]?=(d2.take (L d1))[a]?:=by rw[<-aT]
   rw[ul z,Ρ z,Ρ aQ]at X
   exact kF X
  rw[kr bt]at aU
  exact aU)
 have bT:¬(L d2:Int)<(L d1:Int):=ϊ;have bR:decide (L d2<L d1)=false:=iC ϊ;have bU:L d2<=1000:=Q.nd;clear ah P ai a2 hy a3 aT aK ak Q;generalize gv (d2.map ϩ) (L d1)=bD at *;generalize Ϸ d1 p1=bJ at *;generalize Ϸ d2 p2=bK at *;generalize mC d1 p1 d2 p2 bD=bL at *;generalize ϣ d1=V at *;generalize ϣ d2=W at *;generalize (L d1)=j at *;generalize bs:L d2=k at *;generalize (L p1)=p at *;generalize (L p2)=q at *;clear bs;obtain⟨af,a0,b5,b6,M⟩:=fU (w:=w) (A:=C #[D B j s,D xs p T] 44) (Z:=C #[D t k m,D ys q U] 44) RZ;go_enter func40,ntmps40;go_upto_region 1 with (fail)
 generalize å (å w (C #[D B j s,D xs p T] 44)) (C #[D t k m,D ys q U] 44)=bM at *;obtain⟨⟨r,S⟩,-,-⟩:=ι af;have E:=Zx (aw.o _ M);go_wp2_with fail
 refine E.o.mono ?_;rintro e al ⟨F,c1,rfl,aL,ac⟩;clear E;have aV:=χ al (C #[IZ j,š (δ V),D F p c1] 123);have Y:=ac.alloc ac.size (C #[IZ j,š (δ V),D F p c1] 123);have aM:=(aL.alloc (C #[IZ j,š (δ V),D F p c1] 123)).mono M.size;have aY:=θ af Y;have ag:=θ a0 Y;have N:=M.trans (Y.mono M.size);clear r S af a0 ac Y aL M;go_upto_region 4 with (fail)
 generalize å al (C #[IZ j,š (δ V),D F p c1] 123)=bN at *;obtain⟨⟨r,S⟩,-,-⟩:=ι ag;have E:=Zx (ax.o _ N);go_wp2_with fail
 refine E.o.mono ?_;rintro e am ⟨G,c2,rfl,aO,ad⟩;clear E;have aX:=χ am (C #[IZ k,š (δ W),D G q c2] 123);have y:=ad.alloc ad.size (C #[IZ k,š (δ W),D G q c2] 123);have aP:=(aO.alloc (C #[IZ k,š (δ W),D G q c2] 123)).mono N.size;have aN:=aM.below y;have aZ:=θ aY y;have a1:=θ ag y;have aW:=θ aV y;have aI:=N.trans (y.mono N.size);generalize bq:al.heap.size=bI at *;clear r S aY ag aV ad y aO aM N bq;go_upto_region 7 with (fail)
 generalize å am (C #[IZ k,š (δ W),D G q c2] 123)=l at *;generalize am.heap.size=ao at *;obtain⟨⟨r,S⟩,-,-⟩:=ι aZ;obtain⟨⟨an,bH⟩,-,-⟩:=ι a1;have aA:=Zx aW;have aB:=Zx aX;have ar:=Zx aN;have au:=Zx aP;have u:=Zx aI;clear aZ a1 aW aX aN aP aI;go_wp2_with fail
 go_loopw [36] (fun aj wr=>∃ a:Nat,a<=j/\aj=IZ a/\l=wr) (fun aj _=>j - (intOf aj).toNat)
 case atStart=>exact⟨0,Ι _,rfl,by first|rfl|trivial⟩
 case round =>
  obtain⟨a,z,rfl,rfl⟩:=hrel;by_cases bu:a<j
  .have bA:(a:Int)<(j:Int):=ϊ
   have bY:(a:Int)<(k:Int):=ϊ;have bX:(0:Int)<=(a:Int):=ϊ;obtain⟨b,off,da,dc,n,b2,R,v,x,bZ,rfl,bV,bw,bO,rfl,bW,bx,bP,ab⟩:=ap.o l u.o a bu;have ab:=Zx ab;unfold maxLen at bw bx;go_wp2_with fail
   refine ab.o.mono ?_;rintro e b0 ⟨rfl,rfl⟩;go_wp2_with fail
   go_roundw;case rel=>exact⟨a+1,ϊ,ϕ,by first|rfl|trivial⟩
   case measure=>simp[intOf];omega
  .have bA:¬(a:Int)<(j:Int):=ϊ
   clear aw ax ap;rename_i aD;have aq:=Zx aD;clear aD;go_wp2_with fail
   refine aq.o _ _ ?_;clear aq;go_upto_region 15 with (fail)
   have o:BQ l l.drew:=RZ.drew;refine ϸ (fun bb=>BQ l bb) 6 ϋ ?_;refine Zf 0 o ?_;refine Zb 1 [2,6] o ?_ (hy:=by intro f g;have bE:=ζ g r;have bF:=ζ g an;go_simp;try with_reducible rfl);refine Zf 3 o ?_;refine Zb 4 [5,6] o ?_ (hy:=by intro f g;have bE:=ζ g r;have bF:=ζ g an;go_simp;try with_reducible rfl);refine Zf 5 o ?_;have aH:BQ w l.drew:=u.o.drew;refine Ψ (fuel:=6) 2 ϋ rfl ?_;intro K H;go_simp;refine(av.o _ aH).mono ?_;rintro e a7 ⟨bc,bB,bf,rfl,aR,aE⟩;have I:BQ l a7:=o.trans aE;refine H _ _ I ?_;clear H K;try simp only[Zp]
   have aJ:=u.o.trans (I.mono u.o.size);have ay:=Zx (az.o bc bB bf _ a7 aJ aR);clear aR aE;refine jp (fuel:=5) ϋ ϋ rfl ?_;intro K H;go_simp;refine ay.o.mono ?_;rintro e a8 ⟨bd,bz,bg,rfl,ae,aF⟩;refine H _ _ ?_;clear H K;try simp only[Zp]
   have i:BQ l a8:=I.trans (aF.mono I.size);refine Zf 7 i ?_;refine Zf 8 i ?_;refine Zf 9 i ?_;refine Zf 10 i ?_;refine Zf 11 i ?_;refine Zd ?_;have aa:=Zx (u.o.trans (i.mono u.o.size));have ba:=Zx (iD.o (D F p c1) (D G q c2) bd bz bg a8 (ar.o.below i).now (au.o.below i).now ae.1 ae.rd);obtain⟨⟨r,S,b3⟩,-,-⟩:=Β (θ aA.o i);obtain⟨⟨an,bH,b4⟩,-,-⟩:=Β (θ aB.o i);clear ae aF I aJ ay av az iD ar au aA aB i o aH;go_wp2_with fail
   refine ba.o.mono ?_;rintro e b1 ⟨be,bC,bh,rfl,aS,aG⟩;have a9:=Zx (Γ (aS.mono aa.o.size) (aa.o.trans (aG.mono aa.o.size)));clear aS aG;go_wp2;go_ret2;exact⟨be,bC,bh,rfl,a9.o⟩
theorem Lh (f:Option Addr) (g:Nat) (xs:Option Addr) (h:Nat) (i:Option Addr) (j:Nat) (ys:Option Addr) (k:Nat) (d1 d2:List (γ)) (p1 p2:List (Nat×Nat)) (m:Nat) (w:β) (s:Ϩ w) (F:Ϡ w) (G:Δ w (D f (L d1) g) d1) (H:ϧ d1 w (D xs (L p1) h) p1) (hy:Δ w (D i (L d2) j) d2) (I:ϧ d2 w (D ys (L p2) k) p2) (K:ϵ d1 p1 (L d1)) (M:ϵ d2 p2 m) (y:m≠L d2) :
  Calls prog 40 #[ā #[D f (L d1) g,D xs (L p1) h],ā #[D i (L d2) j,D ys (L p2) k]] w fun e w'=>e=ŗ (.tuple #[D O 0 0,IZ 7])/\BQ w w':=by
 have R:=Zx (fun c (a:BQ w c)=>rm f g xs h d1 p1 _ c (s.below a) (F.below a) (G.below a) (H.below a) K rfl);have S:=Zx (fun c (a:BQ w c)=>Iu i j ys k d2 p2 m c (s.below a) (hy.below a) (I.below a) M y);clear s F G H hy I K M y;generalize ϣ d1=v at *;generalize Ϸ d1 p1=U at *;generalize (L d1)=o at *;generalize (L d2)=P at *;generalize (L p1)=n at *;generalize (L p2)=N at *;obtain⟨z,B,Y,aa,l⟩:=fU (w:=w) (A:=C #[D f o g,D xs n h] 44) (Z:=C #[D i P j,D ys N k] 44) RZ;go_enter func40,ntmps40;go_upto_region 1 with (fail)
 generalize å (å w (C #[D f o g,D xs n h] 44)) (C #[D i P j,D ys N k] 44)=V at *;obtain⟨⟨t,u⟩,-,-⟩:=ι z;have b:=Zx (R.o _ l);go_wp2_with fail
 refine b.o.mono ?_;rintro e T ⟨x,c1,rfl,-,p⟩;clear b;have q:=p.alloc p.size (C #[IZ o,š (δ v),D x n c1] 123);have E:=θ B q;have d:=l.trans (q.mono l.size);clear t u z B p q l;go_upto_region 4 with (fail)
 generalize å T (C #[IZ o,š (δ v),D x n c1] 123)=W at *;obtain⟨⟨t,u⟩,-,-⟩:=ι E;have b:=Zx (S.o _ d);go_wp2_with fail
 refine b.o.mono ?_;rintro e X ⟨rfl,r⟩;have Q:=Zx ((d.trans (r.mono d.size)).alloc (by have:=r.size;have:=d.size;omega) (C #[IZ 0,š ⟨#[]⟩,D O 0 0] 123));clear b t u E r d;go_wp2;go_ret2;exact⟨rfl,Q.o⟩
