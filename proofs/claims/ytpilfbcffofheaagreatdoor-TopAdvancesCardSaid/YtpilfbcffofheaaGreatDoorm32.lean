/- Part 32 of the proof. -/
import Derived.Test.YtpilfbcffofheaaGreatDoorm22
import Derived.Test.YtpilfbcffofheaaGreatDoorm28
set_option linter.all false
set_option maxRecDepth 100000
set_option maxHeartbeats 16000000
namespace Go.Proofs.YtpilfbcffofheaaGreatDoor
open Go.RowKit Go.Proofs.Tryz Go.Sort
open Value renaming slice->D,int->ĭ,agg->ā,string->š
open Option renaming none->O,some->J
open List renaming length->L
open Obj renaming cells->C
open Ending renaming returned->ŗ
open World renaming alloc->å
def Fa (s:γ) (w:β) (h:L s<=70368744177):Calls prog 315 #[š (δ s)] w (jC (Ξ s) w):=by
 have n:=Ϸ 8 (L s) U;have d:=Zh (show Calls prog _ #[G ((δ s).size:Nat)] w _ by rw[iG];exact si 8 _ w U U);have f:=Zh (Ν h n);unfold jC Ξ;rw[σ];go_enter func315,ntmps315;go_wp2_with fail
 refine d.o.M ?_;rintro e q ⟨p,c,rfl,l,k⟩;have⟨g,a⟩:=π l k;go_wp2_with (at_builtin;refine vP rfl _ _ rfl _ _ _ _ _ s rfl g.o rfl rfl (ι f.o) a.o.size ?_;intro i j r o m)
 have b:=Zh (Ν o (a.o.trans m));go_ret;exact⟨i,j,rfl,b.o.1,b.o.2⟩
def NI (k:Nat) (h:Option Addr) (n i:Nat) (b:γ) (w:β) (N:k<128) (a:L b=n) (H:n<=1099511627776) (l:Rd w (D h n i) n 1 (η b)) :
  Calls prog 147 #[G k,D h n i] w (jC (UInt8.ofNat k::b) w):=by
 subst a;have d:[Value.int .u8 (k:Int)]=η [UInt8.ofNat k]:=by rw[sI _ U]
 have c:=Zh (Μ.fresh w _ _ d);have m:BQ w (å w (C #[ĭ .u8 (k:Int)] 5)):=ġ;have B:IntKind.u8.wrap (k:Int)=(k:Int):=by rw[IntKind.wrap_u8];omega
 have s:=Zh l;unfold jC;rw[ϥ,Nat.add_comm (L b) 1];clear l d;go_enter func147,ntmps147;go_wp2;go_loopw [5,6] (fun z g wr=>∃ (q:Nat) (e:Option Addr) (c1:Nat),q<=L b/\g=G (q:Int)/\z=D e (1+q) c1/\Hid (Μ w.heap.size wr (D e (1+q) c1) (1+q) (UInt8.ofNat k::b.take q))/\BQ w wr) (fun _ g _=>L b - (intOf g).toNat)
 .exact⟨0,_,1,Ζ _,rfl,rfl,c,m⟩
 obtain⟨q,e,c1,I,rfl,rfl,c,a⟩:=hrel;by_cases j:q<L b
 .obtain⟨b0,off,c0,y,E,F,d⟩:=uG s.o U
  injection y with hv1 hv2 hv3;subst hv1 hv3;have K:(q:Int)<(L b:Int):=U;have A:=ζ a (d q j);have o:Hid (UInt8.ofNat k::b.take (q+1)=(UInt8.ofNat k::b.take q)++[b[q]]):=by show _=_;rw[jt j];rfl
  have p:=Zh (c.o.A (C #[ĭ .u8 (ch b[q])] 5));clear d;generalize b[q]=x at *;go_wp2_with (at_builtin;refine hG rfl (.tmp 16) (.tmp 21) rfl w.heap.size _ _ (1+q) 1 _ [x] rfl p.o rfl rfl (jl wr #[ĭ .u8 (ch x)] _ 1 [x] rfl rfl ϐ) U (by have:=a.size;simp;omega) ?_;intro t c2 M f v;have u:=(a.al _).trans v)
  rw[<-o.o]at f;have r:=Zh f;clear f;go_roundw
  .exact⟨q+1,t,c2,U,ϕ,rfl,r.o,u⟩
  exact ω
 .have kx:¬(q:Int)<(L b:Int):=U
  obtain rfl:q=L b:=U;rw[nL]at c;go_wp2;go_ret;exact⟨e,c1,rfl,c.o,a⟩
def iK (s:γ) (w:β) (e:Ending) (a:β):Prop:=e=ŗ (š (δ s))/\Below w.heap.size w a
def pL:Prop:= ∀ (c:Option Addr) (n d:Nat) (b:γ) (a:β),L b=n->n<=1099511627777->Rd a (D c n d) n 1 (η b)->Calls prog 146 #[D c n d] a (iK (kg b) a)
def xE (d:pL) (k:Nat) (f:Option Addr) (n g:Nat) (b:γ) (w:β) (t:k<128) (l:L b=n) (u:n<=1099511627776) (o:Rd w (D f n g) n 1 (η b)) :
  Calls prog 85 #[G k,D f n g] w (iK (kg (UInt8.ofNat k::b)) w):=by
 have⟨h,s,d⟩:=ϲ (NI k f n g b w t l u o) (ό:L (UInt8.ofNat k::b)<=1099511627777) d;unfold iK;clear l o;go_enter func85,ntmps85;go_wp2_with fail
 refine h.o.M ?_;rintro e v ⟨a,c,rfl,j,i⟩;have⟨p,q⟩:=π (d.o a _ c _ v rfl s.o j.rd) i;clear j i h;go_wp2_with fail
 refine p.o.M ?_;rintro e x ⟨rfl,m⟩;have r:=Zh (q.o.t m);clear m;go_wp2;go_ret;exact⟨rfl,r.o⟩
def NQ (h:pL) (a:Option Addr) (n c:Nat) (b:γ) (w:β) (d:L b=n) (j:n<=1099511627776) (f:Rd w (D a n c) n 1 (η b)) :
  Calls prog 151 #[D a n c] w (iK (ϴ b) w):=by
 have g:=Zh (xE h 0 a n c b w ϐ d j f);unfold iK;clear d f;go_enter func151,ntmps151;go_wp2_with fail
 refine g.o.M ?_;rintro e k ⟨rfl,i⟩;go_wp2;go_ret;exact⟨rfl,i⟩
def NS (m:pL) (l r:γ) (w:β) (i:L l=32) (j:L r=32) :
  Calls prog 150 #[š (δ l),š (δ r)] w (iK (iR l r) w):=by
 obtain⟨c,b,o,f,g⟩:=qV w (l++r) 64 (by simp[i,j]) ϐ;have a:=Zh (fun(h:Rd b (D (J ⟨w.heap.size,0,O⟩) 64 c) 64 1 (η (l++r)))=>xE m 1 _ 64 c (l++r) b ϐ (by simp[i,j]) ϐ h);have n:δ l++δ r=δ (l++r):=Cl l r;have p:¬9223372036854775807<(δ l).size+(δ r).size:=by rw[iG,iG];omega
 have⟨a,HW⟩:=π (a.o g.1.now) f;clear g f;unfold iK;go_enter func150,ntmps150;go_wp2_with fail
 refine a.o.M ?_;rintro e q ⟨rfl,d⟩;have k:=Zh (HW.o.t d);clear d;go_wp2;go_ret;exact⟨rfl,k.o⟩
def EW (j:pL) (n:ε) (V:List (γ)) (w:β) (h:Ε w n V) (R:L V<=1000000000) (T:∀ d∈V,L d<=100000000) :
  Calls prog 88 #[n] w (rA (V.map ϴ) w):=by
 obtain⟨N,c,rfl,Q,u⟩:=mr h;have z:=Zh j;have v:=Zh (fun a r=>T V[a] (Ψ r));go_enter func88,ntmps88;go_wp2;go_loopw [3,4] (fun K l wr=>∃ (a:Nat) (f:Option Addr) (c1:Nat),a<=L V/\l=G (a:Int)/\K=D f a c1/\Hid (gf w.heap.size wr (D f a c1) a ((V.take a).map ϴ))/\BQ w wr) (fun _ l _=>L V - (intOf l).toNat)
 .exact⟨0,O,0,Ζ _,rfl,rfl,gf.nil _ _,ρ _ _⟩
 obtain⟨a,f,c1,r,rfl,rfl,m,g⟩:=hrel;by_cases k:a<L V
 .obtain⟨b,off,da,dc,rfl,F,H⟩:=u.o a k
  have I:(a:Int)<(L V:Int):=U;have P:=ζ g F;have j:=Zh (NQ z.o da _ dc V[a] wr rfl (ι (v.o a k)) (H.B g));have y:Hid ((V.take (a+1)).map ϴ=(V.take a).map ϴ++[ϴ V[a]]):=by show _=_;rw[jt k,ng];rfl
  generalize (L V[a])=q at *;go_wp2_with fail
  refine j.o.M ?_;rintro e M ⟨rfl,p⟩;have o:=g.t p;have x:=Zh ((m.o.B p).A (C #[š (δ (ϴ V[a]))] 9));go_wp2_with (at_builtin;refine tP rfl _ _ rfl _ _ _ a 1 _ _ rfl x.o rfl rfl (qR M _ _) U (by have:=o.size;simp;omega) ?_;intro A c2 S t E;have B:=(o.al _).trans E)
  rw[<-y.o]at t;have i:=Zh t;go_roundw
  .exact⟨ _,A,c2,U,ϕ,rfl,i.o,B⟩
  exact ω
 .obtain rfl:a=L V:=U
  have I:¬(L V:Int)<(L V:Int):=U;have s:=m.o;rw[nL]at s;have i:=Zh s;go_wp2;go_ret;exact⟨f,_,c1,rfl,i.o,g⟩
def EQ {w:β} {v:ε} {k:List (γ)} (h:Rd w v (L k) 1 (χ k)) (g:0<L k):∃ b off c,v=D (J ⟨b,off,O⟩) (L k) c/\L k<=c/\c<=maxLen/\∀ i (l:i<L k),w.cell? ⟨b,off+i,O⟩=J (š (δ k[i])):=by
 obtain⟨-,-,⟨f,c,-,j⟩|⟨b,off,c,rfl,_,a,d,e⟩⟩:=h
 .omega
 .exact⟨b,off,c,rfl,a,d,fun i l=>e i _ (by simp[χ,Ρ l];rfl)⟩
def EZ (i:pL) (q:List (γ)) (v:ε) (w:β) (l:L q<=1) (h:Rd w v (L q) 1 (χ q)) :
  Calls prog 87 #[v] w (iK (Υ q) w):=by
 match q,l,h with
 |[],_,h =>
  obtain⟨-,-,⟨m,c,rfl,o⟩|⟨b,off,c,rfl,_,d,f,n⟩⟩:=h;all_goals
   have g:=Zh (i O 0 0 _ w rfl ϐ (pX O 0));rw[show Υ []=kg []from by rw[Υ,μ rfl]];unfold iK;go_enter func87,ntmps87;go_wp2_with fail
   refine g.o.M ?_;rintro e p ⟨rfl,j⟩;go_wp2;go_ret;exact⟨rfl,j⟩
 |[a],_,h =>
  obtain⟨b,off,c,rfl,d,f,k⟩:=EQ h ύ;have c0:=k 0 ύ;simp only[oU,qr,kG]at c0 d f;rw[Gl];unfold iK;go_enter func87,ntmps87;go_wp2;go_ret;exact⟨rfl,ρ _ _⟩
def Oa (H:pL) (ds:List (γ)) (v:ε) (w:β) (r:2<=L ds) (aa:L ds<=1000000000) (z:ϱ ds) (h:Rd w v (L ds) 1 (χ ds))
  (A:∀ (l:List (γ)) (u:ε) (f:β),L l<L ds->ϱ l->Rd f u (L l) 1 (χ l)->Calls prog 87 #[u] f (iK (Υ l) f)) :
  Calls prog 87 #[v] w (iK (Υ ds) w):=by
 obtain⟨b,off,c,rfl,Y,N,-⟩:=EQ h U;obtain⟨af,ag,ah⟩:=tH r;have I:=Zh (Oe _ w r U);rw[yd ds r];generalize Z:Τ _=a at *;have s:ϱ (ds.take a):=fun d q=>z d (mz q);have t:ϱ (ds.drop a):=fun d q=>z d (qu q);have r1:Rd w (D (J ⟨b,off,O⟩) a c) (L (ds.take a)) 1 (χ (ds.take a)):=by
  have:=qS (i:=0) (j:=a) h U c U N;rw[gp,mi U];simpa using this
 have r2:Rd w (D (J ⟨b,off+a,O⟩) (L ds - a) (c - a)) (L (ds.drop a)) 1 (χ (ds.drop a)):=by
  have:=qS (i:=a) (j:=L ds - a) h U (c - a) U U;rw[fT];rwa [gF ύ]at this
 have B:=Zh (fun f (p:BQ w f)=>A _ _ f Ϝ s (r1.B p));have E:=Zh (fun f (p:BQ w f)=>A _ _ f (by rw[fT];omega) t (r2.B p));have X:=Zh (fun f=>NS H _ _ f (mY s) (mY t));generalize Υ _=a0 at *;generalize Υ _=a1 at *;have ab:(0:Int)<=(a:Int):=U;have ac:(a:Int)<=(L ds:Int):=U;have ad:(a:Int)<=(c:Int):=U;have ae:¬c=a:=U;unfold iK;go_enter func87,ntmps87;go_wp2_with fail
 refine I.o.M ?_;rintro e k ⟨rfl,P⟩;have n:=Zh P;go_upto_region 6 with fail
 have g:BQ k k.drew:=RZ.drew;refine ϯ (fun M=>BQ k M) 9 ϋ ?_;refine Zf (oi:=⟨ _,_,_,_,_,_⟩) 0 g ?_;refine Zf (oi:=⟨ _,_,_,_,_,_⟩) 1 g ?_;refine Zf (oi:=⟨ _,_,_,_,_,_⟩) 2 g ?_;refine Zf (oi:=⟨ _,_,_,_,_,_⟩) 4 g ?_;refine Zf (oi:=⟨ _,_,_,_,_,_⟩) 5 g ?_;refine Zf (oi:=⟨ _,_,_,_,_,_⟩) 6 g ?_;refine Κ (fuel:=3) 3 ϋ rfl ?_;intro K m;go_simp;refine(B.o _ (n.o.t g)).M ?_;rintro e T ⟨rfl,Q⟩;have o:BQ k T:=g.t Q;refine m _ _ o ?_;refine Κ  7 ϋ rfl ?_;intro K m;go_simp;refine(E.o _ (n.o.t o)).M ?_;rintro e W ⟨rfl,R⟩;have x:BQ k W:=o.t R;refine m _ _ x ?_;refine Κ  8 ϋ rfl ?_;intro K m;go_simp;refine(X.o _).M ?_;rintro e V ⟨rfl,S⟩;have y:BQ k V:=x.t S;refine m _ _ y ?_;have F:=Zh (n.o.t y);refine Zl ?_;refine Zd ?_;go_wp2;go_ret;exact⟨rfl,F.o⟩
theorem AE (a:pL):∀ (m:Nat) (g:List (γ)) (v:ε) (w:β),L g<=m->L g<=1000000000->ϱ g->Rd w v (L g) 1 (χ g)->Calls prog 87 #[v] w (iK (Υ g) w)
 |0,g,v,w,h,_,_,hr=>EZ a g v w U hr
 |m+1,g,v,w,h,hm,ha,hr=>by
  by_cases d:2<=L g
  .exact Oa a g v w d hm ha hr fun l e b f c r1=>AE a m l e b U U c r1
  .exact EZ a g v w U hr
def NV (v:ε) (l) (w:β) (h:Rd w v (L l) 1 (τ l)) (R:ge l=true) :
  Calls prog 314 #[v] w (jC (gM l) w):=by
 obtain⟨aC,a1,rfl,aJ,T⟩:=ku rfl h;have aK:=sh R;have ae:=Zh (fun a (m:a<L l)=>Av R m);have af:=Zh (fun a m=>uT R a m);have V:=Zh (fun p i (aI:p<=1000)=>si 8 p i U U);have aL:=Ϸ 8 (L l) U;unfold jC gM;go_enter func314,ntmps314;go_wp2_with fail
 refine(V.o _ _ U).M ?_;rintro e aR ⟨ah,c1,rfl,aA,av⟩;have ag:=Zh aA;go_wp2;go_loopw [3,4] (fun v S wr=>∃ (a:Nat) (r:Option Addr) (c2:Nat),a<=L l/\S=G (a:Int)/\v=D r (L (ο (L l)++jk l a)) c2/\Hid (Μ w.heap.size wr (D r (L (ο (L l)++jk l a)) c2) (L (ο (L l)++jk l a)) (ο (L l)++jk l a))/\BQ w wr) (fun _ S _=>L l - (intOf S).toNat)
 .exact⟨0,ah,c1,Ζ _,rfl,by simp[jk],by show Μ _ _ _ _ _;simp only[jk,iy];exact ag.o,av⟩
 obtain⟨a,r,c2,m,rfl,rfl,A,u⟩:=hrel;have ab:L (ο (L l)++jk l a)<=9+9000:=by
  have al:=af.o a m;simp only[σ];omega
 by_cases P:a<L l
 .obtain⟨a0,off,rfl,Z⟩:=T.o a P
  obtain⟨X,al,aF,aG,am,an,aH⟩:=ae.o a P;have aP:(a:Int)<(L l:Int):=U;have W:=ζ u Z;have o:Hid (ο (L l)++jk l (a+1)=(ο (L l)++jk l a)++ο (nV l a)):=by show _=_;simp[jk]
  have b:=Zh (fun i=>V.o _ i U);by_cases ay:a=0
  .subst ay
   have s:l[0]=((nV l 0:Nat):Int):=by
    simp only[oe]at X;omega
   rw[s]at W;simp only[kG]at W;generalize ax:nV l 0=j at *;go_wp2_with fail
   refine(b.o wr).M ?_;rintro e ac ⟨ai,aj,rfl,Q,k⟩;have g:=A.o.B k;rw[σ]at g ab;replace g:=Zh g;have E:=Zh Q.rd;have t:=u.t k;have az:=Ϸ 8 j U;go_wp2_with (at_builtin;refine hG rfl _ _ rfl _ _ _ _ _ _ _ rfl g.o rfl rfl E.o U t.size ?_;intro F c ad n N;have au:=t.trans N)
   have y:L (ο (L l))+L (jk l 0)+L (ο j)=L (ο (L l)++jk l (0+1)):=by rw[o.o];simp;omega
   rw[y,<-o.o]at n;have B:=Zh n;go_roundw
   .exact⟨ _,F,c,U,ϕ,by rw[<-y],B.o,au⟩
   exact ω
  .obtain⟨d,rfl⟩:∃ d,a=d+1:=⟨a - 1,U⟩
   have aa:d<L l:=U;obtain⟨aD,aQ,aB,aw⟩:=T.o d aa;injection aB with hv1;injection hv1 with hv2 hv3;subst hv2 hv3;have aE:=True.intro;have ak:l.getD (d+1) 0=l[d+1]:=by rw[fX,Ρ P];rfl
   have s:oe l (d+1)=l[d]:=by simp only[oe];rw[fX,Ρ aa];rfl
   rw[ak,s]at X;rw[s]at am an;generalize ax:nV l _=j at *;generalize l[d+1]=x at *;generalize l[d]=z at *;have aS:IntKind.i64.wrap (x - z)=x - z:=Ϗ;have aT:IntKind.i64.wrap (x - z - 1)=(j:Int):=Ϗ;have aM:¬((d+1:Nat):Int)=0:=U;have aN:(0:Int)<=(d:Int)+1:=U;have aO:(0:Int)<=(d:Int):=U;have az:=Ϸ 8 j U;go_upto_region 7 with fail
   have f:BQ w wr.drew:=u.drew;refine ϯ (fun p=>BQ w p) 14 ϋ ?_;refine Zf (oi:=⟨ _,_,_,_,_,_⟩) 0 f ?_;refine Zf (oi:=⟨ _,_,_,_,_,_⟩) 1 f ?_;refine Zf (oi:=⟨ _,_,_,_,_,_⟩) 2 f ?_;refine Zf (oi:=⟨ _,_,_,_,_,_⟩) 3 f ?_;refine Zb (oi:=⟨J 26,_,_,_,_,_⟩) 4 [10,11,12,13,14] f ?_ (v:=G x) (hy:=?ap);case ap=>intro i M;have q:=ζ M Z;exact gx
   refine Zf (oi:=⟨ _,_,_,_,_,_⟩) 5 f ?_;refine Zf (oi:=⟨ _,_,_,_,_,_⟩) 6 f ?_;refine Zf (oi:=⟨J 29,_,_,_,_,_⟩) 7 f ?_ (v:=G d) (hy:=?aq);case aq=>intro i;go_simp;rw[kD];omega
   refine Zf (oi:=⟨ _,_,_,_,_,_⟩) 8 f ?_ ;refine Zb (oi:=⟨J 31,_,_,_,_,_⟩) 9 [10,11,12,13,14] f ?_ (v:=G z) (hy:=?ar);case ar=>intro i M;have q:=ζ M aw;exact gx
   refine Zf (oi:=⟨ _,_,_,_,_,_⟩) 10 f ?_ (v:=G _);refine Zf (oi:=⟨J 33,_,_,_,_,_⟩) 11 f ?_ (v:=G j) (hy:=?ao);case ao=>intro i;go_simp;rw[kD];omega
   refine Κ (fuel:=2) 12 ϋ rfl ?_;intro K H;go_simp;refine(b.o _).M ?_;rintro e ac ⟨ai,aj,rfl,Q,k⟩;have I:BQ w ac:=f.t k;have g:=A.o.B ((ρ _ wr).drew.trans (k.M (ρ wr.heap.size wr).drew.size));rw[σ]at g;replace g:=Zh g;rw[σ]at ab;have E:=Zh Q.rd;have t:=I;refine H _ _ I ?_;refine Κ  13 ϋ rfl ?_;intro K H;refine xT rfl _ _ rfl _ _ _ _ _ _ _ rfl g.o rfl rfl E.o U t.size ?_;intro F c ad n N;have y:L (ο (L l))+L (jk l (d+1))+L (ο j)=L (ο (L l)++jk l (d+1+1)):=by rw[o.o];simp;omega
   rw[y,<-o.o]at n;have B:=Zh n;have Y:BQ w ad:=I.trans N;refine H _ _ Y ?_;refine Zl ?_;refine Zd ?_;go_wp2_with fail
   go_roundw
   .exact⟨ _,F,c,U,ϕ,ύ,B.o,Y⟩
   exact ω
 .have kx:¬(a:Int)<(L l:Int):=U
  obtain rfl:a=L l:=U;go_wp2;go_ret;exact⟨r,c2,ύ,by simpa using A.o,u⟩
def NW (k:pL) (v:ε) (l) (w:β) (h:Rd w v (L l) 1 (τ l)) (b:ge l=true) :
  Calls prog 286 #[v] w (iK (Ϣ l) w):=by
 have j:=Zh (NV v l w h b);have r:L (gM l)<=1099511627776:=by
  have u:=sh b;have x:=Ϸ 8 (L l) U;have y:=uT b _ NZ;unfold gM;rw[σ];omega
 have i:=Zh (fun n c m s=>xE k 2 n _ c _ m ϐ rfl r s);unfold iK;go_enter func286,ntmps286;go_wp2_with fail
 refine j.o.M ?_;rintro e t ⟨a,c,rfl,p,o⟩;have⟨d,f⟩:=π (i.o a c t p.rd) o;go_wp2_with fail
 refine d.o.M ?_;rintro e z ⟨rfl,q⟩;have g:=Zh (f.o.t q);go_wp2;go_ret;exact⟨rfl,g.o⟩
def FP {ops o} {a:Act} {w:β} {K:Act->β->Prop} {Q:Exit->Act->β->Prop} {E} (X:o.guard=O) (s x)
  (p:o.op=.call {callee:=.builtin .append,args:= #[s,x],argTypes:= #[31,9]})
  (base) (v:ε) (n m) (V T:γ) (r:a.eval s=v) (f:Μ base w v n V) (y:a.eval x=š (δ T)) (W:L T=m)
  (N:n+m<=70368744177664) (j:base<=w.heap.size)
  (h:∀ c d w',Μ base w' (D c (n+m) d) (n+m) (V++T)->Below base w w'->K (a.put o.dst (D c (n+m) d)) w') :
  if Region.wanted o (yielded ops a.tmps)=true then Oper.wp prog o a w K Q else E:=by
 have u:Region.wanted o (yielded ops a.tmps)=true:=by simp[Region.wanted,X]
 rw[μ u];obtain⟨F,hi,z,A,B⟩:=Ϩ lh;have t:Src prog 1 9 (š (δ T)) m (η T) w:=by
  have:=Src.ofString  w kH (δ T);rw[iG,W]at this;have e:(δ T).data.toList.map (fun b:UInt8=>Value.int .u8 b.toNat)=η T:=by rw[tO];rfl
  first|exact this|(rw[<-e];exact this)|(simpa[η,ch,tO,δ] using this)
 obtain⟨R,w',q,i,l,H,I⟩:=tD  w base 31 9 o.type 5 F _ 1 1 gv hi z A B rfl v n _ f.2 _ m _ t ώ U j;unfold Oper.wp execOp;simp only[p,resolve,invoke,builtin,Sem.run_bind,Sem.run_pure,pH,qs,ij,jQ,r,y,q];obtain⟨c,d,rfl⟩:=Η i;refine h c d w' ⟨by simp[f.1,W],by rw[qx];exact i⟩ ?_;refine RZ.grown l j fun P k=>?_;rcases f.2.2 with ⟨rfl,-⟩|⟨g,S,cur,rfl,M,-⟩
 .simp[Value.ownBlock]at k
 .simp[Value.ownBlock]at k;omega
def NR (t n p:γ) (w:β) (ae:L t<=64) (ad:L n<=64) (o:L p=32) :
  Calls prog 287 #[ā #[š (δ t),š (δ n),š (δ p)]] w (jC (gJ t n p) w):=by
 have z:=Zh (fun d=>Fa t d U);have r:=Zh (fun d=>Fa n d U);have lt:L (Ξ t)<=9+64:=by have:=Ϸ 8 (L t) U;unfold Ξ;rw[σ];omega
 have ln:L (Ξ n)<=9+64:=by have:=Ϸ 8 (L n) U;unfold Ξ;rw[σ];omega
 have l:BQ w (å w (C #[š (δ t),š (δ n),š (δ p)] 374)):=ġ;have T:=φ w (C #[š (δ t),š (δ n),š (δ p)] 374);unfold jC gJ;rw[σ,σ,o];have x:=Zh o;go_enter func287,ntmps287;go_upto_region 1 with fail
 generalize å w _=b at *;obtain⟨⟨c0,c1,c2⟩,-,-⟩:=Β T;have a:BQ b b.drew:=RZ.drew;refine ϯ (fun A=>BQ b A) 10 ϋ ?_;refine Zf (oi:=⟨ _,_,_,_,_,_⟩) 0 a ?_;refine Zb (oi:=⟨J 4,_,_,_,_,_⟩) 1 [2,6,9,10] a ?_ (v:=š (δ t)) (hy:=?F);case F=>intro d f;have q:=ζ f c0;exact gx
 refine Zf (oi:=⟨ _,_,_,_,_,_⟩) 3 a ?_;refine Zb (oi:=⟨J 7,_,_,_,_,_⟩) 4 [5,6,9,10] a ?_ (v:=š (δ n)) (hy:=?Z);case Z=>intro d f;have q:=ζ f c1;exact gx
 refine Zf (oi:=⟨ _,_,_,_,_,_⟩) 7 a ?_;refine Zb (oi:=⟨J 11,_,_,_,_,_⟩) 8 [9,10] a ?_ (v:=š (δ p)) (hy:=?H);case H=>intro d f;have q:=ζ f c2;exact gx
 refine Κ (fuel:=4) 2 ϋ rfl ?_;intro K c;go_simp;refine(z.o _).M ?_;rintro e Y ⟨a0,d2,rfl,I,Q⟩;have j:BQ b Y:=a.t Q;refine c _ _ j ?_;refine Κ  5 ϋ rfl ?_;intro K c;go_simp;refine(r.o _).M ?_;rintro e V ⟨a1,ab,rfl,M,m⟩;have g:BQ b V:=j.t m;refine c _ _ g ?_;have⟨s,y⟩:=π ((I.B m).M a.size) M.rd;refine Κ  6 ϋ rfl ?_;intro K c;refine xT rfl _ _ rfl _ _ _ _ _ _ _ rfl s.o rfl rfl y.o U g.size ?_;intro aa ac W N R;have h:BQ b W:=g.trans R;refine c _ _ h ?_;have u:=Zh N;refine Κ  9 ϋ rfl ?_;intro K c;refine FP rfl _ _ rfl _ _ _ _ _ p rfl u.o rfl x.o U h.size ?_;intro B E X P S;have k:BQ b X:=h.trans S;refine c _ _ k ?_;have i:=Zh (Ν (P.M l.size) (l.t k));refine Zl ?_;refine Zd ?_;go_wp2;go_ret;exact⟨B,E,rfl,i.o.1,i.o.2⟩
def kR (n:Nat):Nat:=(119 - n % 64) % 64
def Om (z):List.replicate (z+1) (0:UInt8)=List.replicate z 0++[0]:=by rw[List.replicate_succ']
def HX (N k) (h:k<8):(iZ N).drop (8 - (k+1))=u8 (N / 256 ^ k % 256)::(iZ N).drop (8 - k):=by
 rcases(by omega:k=0\/k=1\/k=2\/k=3\/k=4\/k=5\/k=6\/k=7)with rfl|rfl|rfl|rfl|rfl|rfl|rfl|rfl<;>simp[iZ]
def NU (B:Option Addr) (F:Nat) (b:γ) (w:β) (aI:L b<=1099511627777) (p:Rd w (D B (L b) F) (L b) 1 (η b)) :
  Calls prog 215 #[D B (L b) F] w (jC (b++[128]++List.replicate (kR (L b)) 0++iZ (8*L b)) w):=by
 have af:=Zh p;have aJ:kR (L b)<64:=lI _ ϐ;have c:BQ w (å w (C #[] 5)):=ġ;have t:Hid (Μ w.heap.size (å w (C #[] 5)) (D (J ⟨w.heap.size,0,O⟩) 0 0) 0 []):=⟨rfl,mT w #[] 5 1 0 rfl ϐ⟩;have y:=Zh (p.B c);unfold jC;clear p;go_enter func215,ntmps215;go_wp2_with (first
  |(at_builtin;refine hG rfl (.tmp 7) (.tmp 8) rfl w.heap.size _ _ 0 (L b) [] b rfl t.o rfl rfl y.o U c.size ?_;intro aE c1 W n m;simp only[iI,js]at n)
  |(at_builtin;refine hG rfl (.tmp 9) (.tmp 10) rfl w.heap.size _ _ (L b) 1 b [128] rfl (n.A _) rfl rfl (jl W #[ĭ .u8 128] _ 1 [128] rfl rfl ϐ) U (by have:=c.size;have:=m.size;simp;omega) ?_;intro ak c2 aC P I))
 have S:BQ w W:=c.trans m;have ay:BQ w aC:=(S.al _).trans I;have Z:=Zh P;have ai:=Zh (show ∀ z,z<kR (L b)->¬(L b+1+z) % 64=56 by intro z h;unfold kR at h;omega);have aj:=Zh (show(L b+1+kR (L b)) % 64=56 by unfold kR;omega);clear m n I P t af y c S;go_loopw [3] (fun r wr=>∃ (z:Nat) (g:Option Addr) (j:Nat),z<=kR (L b)/\r=D g (L b+1+z) j/\Hid (Μ w.heap.size wr (D g (L b+1+z) j) (L b+1+z) (b++[128]++List.replicate z 0))/\BQ w wr) (fun r _=>L b+1+kR (L b) - gn r)
 .exact⟨0,ak,c2,Ζ _,rfl,by simpa using Z,ay⟩
 obtain⟨z,g,j,aK,rfl,u,l⟩:=hrel;by_cases ax:z<kR (L b)
 .have T:¬((L b:Int)+1+z) % 64=56:=ι (ai.o z ax)
  have Y:Hid (b++[128]++List.replicate (z+1) 0=(b++[128]++List.replicate z 0)++[0]):=by show _=_;rw[Om];simp
  have aa:=Zh (u.o.A (C #[ĭ .u8 0] 5));go_wp2_with (at_builtin;refine hG rfl (.tmp 16) (.tmp 17) rfl w.heap.size _ _ (L b+1+z) 1 _ [0] rfl aa.o rfl rfl (jl wr #[ĭ .u8 0] _ 1 [0] rfl rfl ϐ) U (by have:=l.size;simp;omega) ?_;intro al an aL o K;have ap:=(l.al _).trans K)
  rw[<-Y.o]at o;have ab:=Zh o;clear o K;go_roundw
  .exact⟨z+1,al,an,U,rfl,ab.o,ap⟩
  simp[gn];omega
 .obtain rfl:z=kR (L b):=U
  have T:((L b:Int)+1+(kR (L b):Nat)) % 64=56:=ι aj.o;have aF:IntKind.u64.wrap (L b:Int)=(L b:Int):=by rw[IntKind.wrap_u64];omega
  have aG:IntKind.u64.wrap ((L b:Int)*8)=(L b:Int)*8:=by rw[IntKind.wrap_u64];omega
  obtain⟨d,rfl⟩:∃ d:β,d=wr:=⟨_,rfl⟩;go_wp2;clear T;go_loopw [4,5,6] (fun aA aB q V=>∃ (a:Nat) (i:Option Addr) (k:Nat),a<=8/\q=G (a:Int)/\aA=ĭ .u64 ((L b:Int)*8 / 256 ^ a)/\aB=D i a k/\Hid (Μ d.heap.size V (D i a k) a ((iZ ((L b:Int)*8)).drop (8 - a)))/\BQ d V) (fun _ _ q _=>8 - (intOf q).toNat)
  .exact⟨0,O,0,U,rfl,ύ,rfl,Μ.nil _ _,ρ _ _⟩
  obtain⟨a,i,k,aH,rfl,rfl,rfl,f,e⟩:=hrel;by_cases av:a<8
  .have az:(a:Int)<8:=U
   have s:=Zh (HX ((L b:Int)*8) a av);have ae:Hid ((L b:Int)*8 / 256 ^ a / 256=(L b:Int)*8 / 256 ^ (a+1)):=by show _=_;rw[Int.pow_succ,Int.ediv_ediv_of_nonneg];exact Int.le_of_lt (Int.pow_pos ϐ)
   have aN:0<=(L b:Int)*8 / 256 ^ a:=Int.ediv_nonneg U (Int.le_of_lt (Int.pow_pos ϐ));have aO:(L b:Int)*8 / 256 ^ a<=(L b:Int)*8:=Int.ediv_le_self _ U;generalize(L b:Int)*8 / 256 ^ a=x at *;have aP:IntKind.u64.wrap (x % 256)=x % 256:=by rw[IntKind.wrap_u64];omega
   have aQ:IntKind.u8.wrap (x % 256)=x % 256:=by rw[IntKind.wrap_u8];omega
   have aR:IntKind.u64.wrap (x / 256)=x / 256:=by rw[IntKind.wrap_u64];omega
   have a0:=Zh ((Μ.fresh wr (x % 256) _ (pO x).symm).M e.size);have c:BQ wr (å wr (C #[ĭ .u8 (x % 256)] 5)):=ġ;have⟨ag,a1⟩:=π ((f.o.B c).rd) (f.o.1);have X:=e.t c;go_wp2_with (at_builtin;refine hG rfl (.tmp 30) (.tmp 31) rfl d.heap.size _ _ 1 a [u8 (x % 256)] _ rfl a0.o rfl a1.o ag.o U X.size ?_;intro A E aD Q M;have aq:=X.trans M)
   have v:Hid (Μ d.heap.size aD (D A (1+a) E) (1+a) ((iZ ((L b:Int)*8)).drop (8 - (a+1)))):=by
    show Μ _ _ _ _ _;rw[s.o];exact Q
   clear Q M s;go_roundw
   .exact⟨a+1,A,E,U,ϕ,by rw[ae.o],by rw[Nat.add_comm a 1],by rw[Nat.add_comm a 1]at v ⊢;exact v,aq⟩
   exact ω
  .have az:¬(a:Int)<8:=U
   obtain rfl:a=8:=U;have⟨ac,ah⟩:=π (u.o.B e) f.o.rd;have H:=l.t e;go_wp2_with (at_builtin;refine hG rfl (.tmp 35) (.tmp 36) rfl w.heap.size _ _ (L b+1+kR (L b)) 8 _ (iZ ((L b:Int)*8)) rfl ac.o rfl rfl ah.o U H.size ?_;intro am ao aM R N;have ar:=H.trans N)
   have ad:=Zh R;clear R N;go_ret;have aw:L b+(kR (L b)+L (iZ (8*(L b:Int)))+1)=L b+1+kR (L b)+8:=by
    have:L (iZ (8*(L b:Int)))=8:=rfl;omega
   have au:iZ (8*(L b:Int))=iZ ((L b:Int)*8):=by rw[Int.mul_comm]
   rw[aw,au];exact⟨am,ao,rfl,by simpa using ad.o,ar⟩
