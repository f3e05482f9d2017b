/- Part 40 of the proof. -/
import Derived.Test.YtpilfbcffofheaaGreatDoorm36
import Derived.Test.YtpilfbcffofheaaGreatDoorm39
set_option linter.unusedVariables false
set_option linter.unusedSimpArgs false
set_option maxRecDepth 100000
set_option maxHeartbeats 4000000
namespace Go.Proofs.YtpilfbcffofheaaGreatDoor
open Go.Proofs.Tryz Go.RowKit Go.Sort
open Option renaming some->J,none->O
open Value renaming slice->D,string->š,pointer->þ,agg->ā
open Obj renaming cells->C
open List renaming length->L
open Ending renaming returned->ŗ
open World renaming alloc->å,setCell->ŝ
theorem Ie {w:β} {A1 A2 A3 A4 A5:Obj} {a:β} (h:a=å (å (å (å (å w A1) A2) A3) A4) A5):a.heap[w.heap.size]?=J A1/\a.heap[w.heap.size+1]?=J A2/\a.heap[w.heap.size+1+1]?=J A3/\a.heap[w.heap.size+1+1+1]?=J A4/\a.heap[w.heap.size+1+1+1+1]?=J A5/\a.heap.size=w.heap.size+5/\Below w.heap.size w a:=by
 subst h;have i:Below (å (å (å w A1) A2) A3).heap.size (å (å (å w A1) A2) A3) (å (å (å (å (å w A1) A2) A3) A4) A5):=ġ.alloc ύ _;obtain⟨d,e,f,-,-,-,g⟩:=of i;obtain⟨b,c,-,-,-⟩:=fU (w:=å (å (å w A1) A2) A3) (A:=A4) (Z:=A5) RZ;simp only[lz]at b c;exact⟨d,e,f,b,c,ύ,g⟩
theorem vP {w:β} {g n:Nat} {a:Array ε} {T:TypeId} (h:w.heap[g]?=J (C a T (0,0))) (d:a.size=n) (c:0<n) (b:n<=maxLen):Rd w (D (J ⟨g,0,O⟩) n n) n 1 a.toList:=
 ⟨by simp[d],b,.inr ⟨g,0,n,rfl,c,NZ,b,fun e f hi=>by rw[jJ,ν _ _ e _ _ _ h];simpa using hi⟩⟩
theorem zh (docs:List (γ)) (ps:List (Nat×Nat)):L (iI docs ps)=32:=hO _
theorem GG (a:Option Addr) (n c:Nat) (d1 d2:List (γ)) (p1 p2:List (Nat×Nat)) (w:β) (y:Ϡ w) (av:L (mC d1 p1 d2 p2 (gv (d2.map ϩ) (L d1)))=n) (ax:Rd w (D a n c) n 1 (η (mC d1 p1 d2 p2 (gv (d2.map ϩ) (L d1))))) (V:ϵ d1 p1 (L d1)) (W:ϵ d2 p2 (L d2)) (al:L d2<=64) (aw:d1=d2.take (L d1)) (au:L d1<=L d2) :
  Calls prog 41 #[š (δ (iI d1 p1)),D a n c] w fun e w'=>e=ŗ (.tuple #[š (δ (iI d2 p2)),IZ (L d2),IZ 0])/\Below w.heap.size w w':=by
 have ap:=uW (d2.map ϩ) (L d1);rw[io]at ap;have N:=Zx (Lz a n c d1 d2 p1 p2 _ w av ax V W ϊ (th (kQ _) _));have ac:=Zx (fun aG aJ Y f (y:Ϡ f) m k B=>xH aG aJ Y d1 p1 f y m k B V);have ad:=Zx (fun d aa aR aO q pc f (y:Ϡ f) m k B=>FM d aa aR aO q pc d1 d2 f y m k B al aw au);have ae:=Zx (fun d aF aP aQ aa Y aS z f (y:Ϡ f) m k B=>FN d aF aP aQ aa Y aS z d2 p2 f y m k B W);have aN:(δ (iI d1 p1)).size=32:=by rw[jx,zh]
 have I:=Zx y;unfold xy at N;generalize gv (d2.map ϩ) (L d1)=X at *;generalize iI d1 p1=K at *;generalize iI d2 p2=P at *;generalize ϣ d1=r at *;generalize ϣ d2=F at *;generalize Ϸ d1 p1=Q at *;generalize Ϸ d2 p2=R at *;generalize(L d1:Int)=s at *;generalize(L d2:Int)=E at *;generalize (L p1)=g at *;generalize (L p2)=p at *;clear av ax V W al aw au y ap;have ai:∀ v f,(callFunc 132 v).run prog f=.ok (.enter 132 v) f:=iB func132 ϋ rfl;have aj:∀ v f,(callFunc 75 v).run prog f=.ok (.enter 75 v) f:=iB func75 ϋ rfl;have ak:∀ v f,(callFunc 77 v).run prog f=.ok (.enter 77 v) f:=iB func77 ϋ rfl;have H:=Zx (Γ ai (Γ aj ak));clear ai aj ak;go_enter func41,ntmps41;go_wp2_with fail
 refine N.o.mono ?_;rintro e i ⟨l,c1,t,c2,u,o,x,rfl,ar,aq,an⟩;have aI:=Zx ar;have af:=Zx aq;have G:=Zx an;clear ar aq an N aN;go_upto_region 7 with (fail)
 obtain⟨aM,-,-,-,-⟩:=fU (w:=i) (A:=C #[IZ s,š (δ r),D l g c1,IZ E,š (δ F),D t p c2,D u o x] 149) (Z:=C #[š ⟨#[]⟩] 9) RZ;obtain⟨⟨aC,aD,aE,-,-,-,-⟩,-,-⟩:=lY aM;go_wp2_with fail
 refine(xQ _ _ _ _ _).mono ?_;rintro e j ⟨rfl,rfl⟩;go_wp2_with fail
 have aL:=Ie (w:=i) (A1:=(C #[IZ s,š (δ r),D l g c1,IZ E,š (δ F),D t p c2,D u o x] 149)) (A2:=(C #[š ⟨#[]⟩] 9)) (A3:=(C #[IZ s,š (δ r),D l g c1] 123)) (A4:=(C #[š (δ K)] 9)) (A5:=(C #[.func (.func 132) #[] #[þ (J ⟨i.heap.size+1+1,0,O⟩),þ (J ⟨i.heap.size+1+1+1,0,O⟩)],.func (.func 75) #[] #[þ (J ⟨i.heap.size,0,O⟩)],.func (.func 77) #[] #[þ (J ⟨i.heap.size,0,O⟩),þ (J ⟨i.heap.size+1,0,O⟩)]] 24)) rfl;generalize(å (å (å (å (å i (C #[IZ s,š (δ r),D l g c1,IZ E,š (δ F),D t p c2,D u o x] 149)) (C #[š ⟨#[]⟩] 9)) (C #[IZ s,š (δ r),D l g c1] 123)) (C #[š (δ K)] 9)) (C #[.func (.func 132) #[] #[þ (J ⟨i.heap.size+1+1,0,O⟩),þ (J ⟨i.heap.size+1+1+1,0,O⟩)],.func (.func 75) #[] #[þ (J ⟨i.heap.size,0,O⟩)],.func (.func 77) #[] #[þ (J ⟨i.heap.size,0,O⟩),þ (J ⟨i.heap.size+1,0,O⟩)]] 24))=S at *;obtain⟨rS,az,aA,aB,ay,a1,T⟩:=aL;generalize aV:i.heap.size=d at *;have ao:=G.o.trans (T.mono (show w.heap.size<=d by have:=G.o.size;omega));have am:ς (· =d+1) S (fun j=>Rd j (D l g c1) g 4 Q/\Rd j (D t p c2) p 4 R/\Rd j (D u o x) o 1 (σ X)):=fun j k=>af.o j fun b _ aU=>(k b ϊ (fun e=>by have:b=d+1:=e;omega)).trans (T.block b ϊ);have ag:Ϭ (pj d (d+1) (d+1+1) (d+1+1+1) (d+1+1+1+1) #[IZ s,š (δ r),D l g c1,IZ E,š (δ F),D t p c2,D u o x] #[IZ s,š (δ r),D l g c1] #[š (δ K)] #[.func (.func 132) #[] #[þ (J ⟨d+1+1,0,O⟩),þ (J ⟨d+1+1+1,0,O⟩)],.func (.func 75) #[] #[þ (J ⟨d,0,O⟩)],.func (.func 77) #[] #[þ (J ⟨d,0,O⟩),þ (J ⟨d+1,0,O⟩)]] P (fun j=>Rd j (D l g c1) g 4 Q/\Rd j (D t p c2) p 4 R/\Rd j (D u o x) o 1 (σ X)) w 0 S):=⟨⟨rS,az,aA,aB,ay,am,ao⟩⟩;clear rS az aA aB ay am ao T aC aD aE;have aW:w.heap.size<=d:=by have:=G.o.size;omega
 have ah:=Zx (xR [(132,#[þ (J ⟨d+1+1,0,O⟩),þ (J ⟨d+1+1+1,0,O⟩)]),(75,#[þ (J ⟨d,0,O⟩)]),(77,#[þ (J ⟨d,0,O⟩),þ (J ⟨d+1,0,O⟩)])] (pj d (d+1) (d+1+1) (d+1+1+1) (d+1+1+1+1) #[IZ s,š (δ r),D l g c1,IZ E,š (δ F),D t p c2,D u o x] #[IZ s,š (δ r),D l g c1] #[š (δ K)] #[.func (.func 132) #[] #[þ (J ⟨d+1+1,0,O⟩),þ (J ⟨d+1+1+1,0,O⟩)],.func (.func 75) #[] #[þ (J ⟨d,0,O⟩)],.func (.func 77) #[] #[þ (J ⟨d,0,O⟩),þ (J ⟨d+1,0,O⟩)]] P (fun j=>Rd j (D l g c1) g 4 Q/\Rd j (D t p c2) p 4 R/\Rd j (D u o x) o 1 (σ X)) w) (J ⟨d+1+1+1+1,0,O⟩) 3 3 S rfl ag.o
  (fun q f h=>vP h.f rfl ϊ ώ)
  (fun q U=>by
   have:q=0\/q=1\/q=2:=by simp at U;omega
   rcases this with rfl|rfl|rfl
   .exact H.o.1
   .exact H.o.2.1
   .exact H.o.2.2)
  (fun q U f h=>by
   have:q=0\/q=1\/q=2:=by simp at U;omega
   rcases this with rfl|rfl|rfl
   .exact(ac.o _ _ _ f (I.o.below h.b) h.h h.q h.r.now.1).mono fun e w' ⟨m,k⟩=>⟨m,h.next ϊ k⟩
   .exact(ad.o _ _ _ _ _ _ f (I.o.below h.b) h.s aI.o h.r.now.2.2).mono fun e w' ⟨m,k⟩=>⟨m,h.next ϊ k⟩
   .exact(ae.o _ _ _ _ _ _ _ _ f (I.o.below h.b) h.s h.g h.r.now.2.1).mono fun e w' ⟨m,k,B⟩=>⟨m,h.last ϊ ϊ ϊ ϊ ϊ k B⟩))
 refine ah.o.mono ?_;rintro e aX ⟨rfl,M⟩;have ab:=Zx M.b;obtain⟨⟨aC,aD,aE,aT,aY,aZ,a0⟩,-,-⟩:=lY M.s;have hg:=M.g;rw[μ rfl]at hg;obtain⟨aK,-,-⟩:=gm hg;clear M hg ah ag ac ad ae H af G I;go_upto_region 10 with (fail)
 go_region_held3 (fun f=>Below w.heap.size w f/\f.cell? ⟨d+1,0,O⟩=J (š (δ P))/\f.cell? ⟨d,3,O⟩=J (IZ E)) (first|exact⟨ab.o.drew,aK,aT⟩|assumption) (fail)
 go_wp2;have aH:=ab.o.drew
 go_ret3
 exact⟨rfl,aH⟩
theorem Η.setF {g:Nat} {w w':β} (h:Η g w w') (c d a b:ε):Η g w (ŝ (ŝ (ŝ (ŝ w' ⟨g,8,O⟩ c) ⟨g,9,O⟩ d) ⟨g,10,O⟩ a) ⟨g,11,O⟩ b):=(((h.set 8 c).set 9 d).set 10 a).set 11 b
theorem ς.setF {H:Nat->Prop} {g:Nat} {w:β} {R:β->Prop} (h:ς H w R) (hg:H g) (c d a b:ε):ς H (ŝ (ŝ (ŝ (ŝ w ⟨g,8,O⟩ c) ⟨g,9,O⟩ d) ⟨g,10,O⟩ a) ⟨g,11,O⟩ b) R:=
 (((h.set (p:=⟨g,8,O⟩) hg c).set (p:=⟨g,9,O⟩) hg d).set (p:=⟨g,10,O⟩) hg a).set (p:=⟨g,11,O⟩) hg b
theorem ER (H:Nat->Prop) (g:Nat) (j:ϰ) (ix:Ix) (w:β) (am:Ϩ w) (ac:Ϡ w) (h:ht H g j ix w) (an:j.up=true) (z:ϵ ix.1 ix.2 (L ix.1)) (T:ϵ j.x.1 j.x.2 (L j.x.1)) (S:ix.1=j.x.1.take (L ix.1)) (R:L ix.1<=L j.x.1) (M:L j.x.1<=64) :
  Calls prog 18 #[þ (J ⟨g,0,O⟩)] w (ns H g j j.x (IZ 0) w):=by
 obtain⟨b,q,h⟩:=h;obtain⟨bl,ws,sq,ln,x,up,aM⟩:=j;obtain⟨f,k⟩:=x;obtain⟨m,y⟩:=ix;simp only at an z T S R M;subst an;have af:=Zx (fun o (d:BQ w o)=>Lg q.da q.dc q.sa q.sc b.da b.dc b.sa b.sc m f y k o (am.below d) (ac.below d) (h.ix.now.d.below d) (h.ix.now.s.below d) (h.led.now.d.below d) (h.led.now.s.below d) z T S R M);have G:=Zx (fun a n c o (d:BQ w o) (aD:L (mC m y f k (gv (f.map ϩ) (L m)))=n) (aE:Rd o (D a n c) n 1 (η (mC m y f k (gv (f.map ϩ) (L m)))))=>GG a n c m f y k o (ac.below d) aD aE z T M S R);have V:=Zx h.row;have W:=h.hg;have ar:=Zx h.led;have aA:=Zx (h.led.imp (Q:=fun ad=>sO ad ⟨b.da,b.dc,b.sa,b.sc⟩ (f,k)) fun ad ah=>⟨ah.d,ah.s⟩);obtain⟨⟨c0,c1,c2,A,t,u,B,E,v,F,p,s⟩,P,U⟩:=jH h.row;unfold ns;simp only at V c0 c1 c2 A t u B E v F p s;generalize mC m y f k (gv (f.map ϩ) (L m))=aL at *;have ax:∃ r,iI m y=r:=⟨_,rfl⟩;obtain⟨aK,aj⟩:=ax;rw[aj]at G V v;have az:∃ r,iI f k=r:=⟨_,rfl⟩;obtain⟨I,X⟩:=az;rw[X]at G;have aw:=Zx X;clear h am ac z T S R M aj X;go_enter func18,ntmps18;go_upto_region 5 with (fail)
 have i:BQ w w.drew:=RZ.drew;refine ϸ (fun aB=>BQ w aB) 10 ϋ ?_;refine Zf 0 i ?_;refine Zf 1 i ?_;refine Zf 2 i ?_;refine Zk 3 i ?_ (hy:=by intro o d;have aG:=ζ d p;have aH:=ζ d s;have aI:=ζ d t;have aJ:=ζ d u;go_simp;try with_reducible rfl);refine Zf 4 i ?_;refine Zf 5 i ?_;refine Zf 6 i ?_;refine Zf 7 i ?_;refine Zf 8 i ?_;refine Zk 9 i ?_ (hy:=by intro o d;have aG:=ζ d p;have aH:=ζ d s;have aI:=ζ d t;have aJ:=ζ d u;go_simp;try with_reducible rfl);have al:BQ w w.drew:=RZ.drew;refine jp (fuel:=5) ϋ ϋ rfl ?_;intro K ai;go_simp;refine(af.o _ al).mono ?_;rintro e ao ⟨aC,aF,z,rfl,Z,ak⟩;refine ai _ _ ?_;clear ai K;try simp only[Zp]
 have l:BQ w ao:=i.trans ak;refine Zf 11 l ?_;refine Zf 12 l ?_;refine Zf 13 l ?_;refine Zf 14 l ?_;refine Zf 15 l ?_;refine Zd ?_;have ae:=Zx (G.o aC aF z ao l Z.1 Z.rd);have aa:=θ V.o l;clear c0 c1 c2 A t u B E v F p s P U Z ak i al af G;have ag:=Zx l;have av:=Zx aa;obtain⟨⟨c0,c1,c2,A,t,u,B,E,v,F,p,s⟩,P,U⟩:=jH aa;clear l aa;go_wp2_with fail
 refine ae.o.mono ?_;rintro e ad ⟨rfl,Y⟩;have N:=ag.o.trans (Y.mono ag.o.size);have ab:=θ av.o Y;clear c0 c1 c2 A t u B E v F p s P U ae;obtain⟨⟨c0,c1,c2,A,t,u,B,E,v,F,p,s⟩,P,U⟩:=jH ab;have ay:=Zx (Md ab (š (δ I)) (IZ (L f:Int)) (D b.da (L f) b.dc) (D b.sa (L k) b.sc));have au:=Zx ((ar.o.below N).setF W (š (δ I)) (IZ (L f:Int)) (D b.da (L f) b.dc) (D b.sa (L k) b.sc));have aq:=Zx ((aA.o.below N).setF W (š (δ I)) (IZ (L f:Int)) (D b.da (L f) b.dc) (D b.sa (L k) b.sc));have ap:=Zx (((Η.refl g w).below N).setF (š (δ I)) (IZ (L f:Int)) (D b.da (L f) b.dc) (D b.sa (L k) b.sc));clear ab N Y;go_wp2;have:=aw.o;subst this;go_ret;exact⟨rfl,⟨b,⟨b.da,b.dc,b.sa,b.sc⟩,ay.o,au.o,aq.o,W⟩,ap.o⟩
theorem NY (H:Nat->Prop) (g:Nat) (c:ϰ) (ix:Ix) (m:Nat) (w:β) (I:Ϩ w) (G:Ϡ w) (h:ht H g c ix w) (M:c.up=true) (p:ϵ ix.1 ix.2 (L ix.1)) (r:ϵ c.x.1 c.x.2 m) (o:m≠L c.x.1) :
  Calls prog 18 #[þ (J ⟨g,0,O⟩)] w (ns H g c ix (IZ 7) w):=by
 obtain⟨f,q,h⟩:=h;obtain⟨bl,ws,sq,ln,x,up,aa⟩:=c;obtain⟨X,Y⟩:=x;obtain⟨Q,R⟩:=ix;simp only at M p r o;subst M;have t:=Zx (fun i (a:BQ w i)=>Lh q.da q.dc q.sa q.sc f.da f.dc f.sa f.sc Q X R Y m i (I.below a) (G.below a) (h.ix.now.d.below a) (h.ix.now.s.below a) (h.led.now.d.below a) (h.led.now.s.below a) p r o);have HW:=Zx h;obtain⟨⟨c0,c1,c2,u,l,n,v,y,z,A,j,k⟩,P,Z⟩:=jH h.row;unfold ns;simp only at c0 c1 c2 u l n v y z A j k;clear h I G p r o;go_enter func18,ntmps18;go_upto_region 5 with (fail)
 have b:BQ w w.drew:=RZ.drew;refine ϸ (fun N=>BQ w N) 10 ϋ ?_;refine Zf 0 b ?_;refine Zf 1 b ?_;refine Zf 2 b ?_;refine Zk 3 b ?_ (hy:=by intro i a;have S:=ζ a j;have T:=ζ a k;have U:=ζ a l;have V:=ζ a n;go_simp;try with_reducible rfl);refine Zf 4 b ?_;refine Zf 5 b ?_;refine Zf 6 b ?_;refine Zf 7 b ?_;refine Zf 8 b ?_;refine Zk 9 b ?_ (hy:=by intro i a;have S:=ζ a j;have T:=ζ a k;have U:=ζ a l;have V:=ζ a n;go_simp;try with_reducible rfl);have F:BQ w w.drew:=RZ.drew;refine jp (fuel:=5) ϋ ϋ rfl ?_;intro K B;go_simp;refine(t.o _ F).mono ?_;rintro e W ⟨rfl,E⟩;refine B _ _ ?_;clear B K;try simp only[Zp]
 have d:BQ w W:=b.trans E;refine Zf 11 d ?_;refine Zf 12 d ?_;refine Zf 13 d ?_;refine Zf 14 d ?_;refine Zf 15 d ?_;refine Zd ?_;have s:=Zx d;clear c0 c1 c2 u l n v y z A j k P Z E b F t d;go_wp2;go_ret;exact⟨rfl,⟨f,q,HW.o.below s.o⟩,(Η.refl g w).below s.o⟩
theorem MP (k i m:ε) (b:Option Addr) (a c:Nat) (w:β):Calls prog 28 #[ā #[k,i,m,D b a c]] w fun e w'=>e=ŗ (.bool (decide (a<=2500)))/\BQ w w':=by
 have d:=(φ w.heap.size w).alloc NZ (C #[k,i,m,D b a c] 33);go_enter func28,ntmps28;go_wp2;go_ret;exact⟨by congr 3;simp;omega,d⟩
theorem MQ (a b k i m:ε) (l:Option Addr) (c n:Nat) (sa:Option Addr) (j sc:Nat) (w:β):Calls prog 7 #[ā #[a,b,k,i,m,D l c n,D sa j sc]] w fun e w'=>e=ŗ (.bool (decide (c<=2500/\j<=300)))/\BQ w w':=by
 obtain⟨g,-,f⟩:=Ϻ (w:=w) (A:=C #[a,b,k,i,m,D l c n,D sa j sc] 35) RZ;have q:=Zx (fun r=>MP k i m l c n r);have p:=Zx g;obtain⟨⟨c0,c1,c2,s,t,u,v⟩,-,-⟩:=lY g;clear g;go_enter func7,ntmps7;go_wp2_with fail
 refine(q.o _).mono ?_;rintro e G ⟨rfl,d⟩;obtain⟨⟨y,d1,d2,z,B,E,F⟩,-,-⟩:=lY (θ p.o d);have o:=Zx (f.trans (d.mono f.size));clear c0 c1 c2 s t u v d f;by_cases h:c<=2500
 .have x:decide (c<=2500)=true:=kr h
  go_wp2;go_ret;exact⟨by simp[h];omega,o.o⟩
 .have x:decide (c<=2500)=false:=iC h
  go_wp2;go_ret;exact⟨by simp[h],o.o⟩
theorem we (Q:Option Addr) (g R:Nat) (ba:Option Addr) (m bc:Nat) (a b:List (γ)) (w:β) (n:L a=g) (o:L b=m) (u:Δ w (D Q g R) a) (z:Δ w (D ba m bc) b) :
  Calls prog 12 #[D Q g R,D ba m bc] w fun e w'=>e=ŗ (.bool (decide (a=b)))/\BQ w w':=by
 have al:g<=9223372036854775807:=by have:=u.choose_spec.1.2.1;unfold maxLen at this;omega
 by_cases W:g=m
 .subst W
  have X:=Zx (fun i (d:BQ w i) c (v:c<L a)=>nS (u.below d) n c v);have Y:=Zx (fun i (d:BQ w i) c (v:c<L b)=>nS (z.below d) o c v);have M:=Zx n;have N:=Zx o;clear u z n o;go_enter func12,ntmps12;go_wp2_with fail
  go_loopw [5] (fun F wr=>∃ c:Nat,c<=g/\F=IZ c/\Ϭ (a.take c=b.take c)/\BQ w wr) (fun F _=>g - (intOf F).toNat)
  case atStart=>exact⟨0,Ι _,rfl,⟨rfl⟩,φ _ _⟩
  case round =>
   obtain⟨c,v,rfl,P,p⟩:=hrel;by_cases ak:c<g
   .have ah:(c:Int)<(g:Int):=ϊ
    have an:(0:Int)<=(c:Int):=ϊ;have U:c<L a:=by have:=M.o;omega
    have V:c<L b:=by have:=N.o;omega
    obtain⟨b1,o1,da,dc,rfl,ae,af,c1,r1⟩:=X.o wr p c U;obtain⟨b2,o2,ai,aj,rfl,am,ag,c2,r2⟩:=Y.o wr p c V;have k:=Zx r1;have l:=Zx r2;unfold maxLen at af ag;have S:a.take (c+1)=a.take c++[a[c]]:=kD U;have T:b.take (c+1)=b.take c++[b[c]]:=kD V;have ab:Ϭ (a[c]=b[c]->a.take (c+1)=b.take (c+1)):=⟨fun h=>by rw[S,T,P.o,h]⟩;have aa:Ϭ (a[c]≠b[c]->a≠b):=⟨fun h e=>h (by subst e;rfl)⟩;clear S T r1 r2;go_upto_region 6 with (fail)
    generalize a[c]=x at *;generalize b[c]=y at *;obtain⟨nx,B⟩:∃ q,L x=q:=⟨_,rfl⟩;obtain⟨ao,E⟩:∃ q,L y=q:=⟨_,rfl⟩;have s:=Zx B;have t:=Zx E;rw[B]at c1 k;rw[E]at c2 l;clear B E;have f:BQ wr wr.drew:=RZ.drew;refine ϸ (fun ac=>BQ wr ac) 10 ϋ ?_;refine Zf 0 f ?_;refine Zf 1 f ?_;refine Zf 2 f ?_;refine Zb 3 [4,10] f ?_ (hy:=by intro i d;have G:=ζ d c1;have H:=ζ d c2;have I:=ih s.o (k.o.below d);have K:=ih t.o (l.o.below d);go_simp;try with_reducible rfl);refine Zk 4 f ?_ (hy:=by intro i d;have G:=ζ d c1;have H:=ζ d c2;have I:=ih s.o (k.o.below d);have K:=ih t.o (l.o.below d);go_simp;try with_reducible rfl);refine Zf 5 f ?_;refine Zf 6 f ?_;refine Zf 7 f ?_;refine Zb 8 [9,10] f ?_ (hy:=by intro i d;have G:=ζ d c1;have H:=ζ d c2;have I:=ih s.o (k.o.below d);have K:=ih t.o (l.o.below d);go_simp;try with_reducible rfl);refine Zk 9 f ?_ (hy:=by intro i d;have G:=ζ d c1;have H:=ζ d c2;have I:=ih s.o (k.o.below d);have K:=ih t.o (l.o.below d);go_simp;try with_reducible rfl);by_cases r:x=y
    .have Z:=Zx (ab.o r)
     have ad:((δ x).toList==(δ y).toList)=true:=by rw[r];simp
     refine Zl ?_;refine Zd ?_;have A:=p.drew;clear f c1 c2;go_wp2_with fail
     go_roundw;case rel=>exact⟨c+1,ϊ,ϕ,Z,A⟩
     case measure=>simp[intOf];omega
    .have j:=Zx (iC (aa.o r))
     have ad:((δ x).toList==(δ y).toList)=false:=by rw[hC,hC];simpa using r
     clear r;refine Zl ?_;refine Zd ?_;have A:=p.drew;clear f c1 c2;go_wp2;go_ret;exact⟨by rw[j.o];rfl,A⟩
   .obtain rfl:c=g:=ϊ
    have ah:¬(c:Int)<(c:Int):=ϊ;have j:Ϭ (decide (a=b)=true):=⟨kr (by
     have h:=P.o
     rw[gW (by have:=M.o;omega),gW (by have:=N.o;omega)]at h
     exact h)⟩
    go_wp2;go_ret;exact⟨by rw[j.o];rfl,p⟩
 .have ae:¬(g:Int)=(m:Int):=ϊ
  have j:Ϭ (decide (a=b)=false):=⟨iC (fun e=>W (by rw[<-n,<-o,e]))⟩;clear u z n o;go_enter func12,ntmps12;go_wp2;go_ret;exact⟨by rw[j.o];rfl,φ _ _⟩
inductive pk (L:ϰ) (es:List Ev) (ix:Ix) (r:Option Ev) (K AK N:Int) (ks:List Int):ϰ->Ix->Int->Prop
 |follow:K=4->nv L.x.2=L.x.1.length->pk L es ix r K AK N ks L L.x 0
 |stay:K=4->pk L es ix r K AK N ks L ix 7
 |put (L':ϰ) (c:Int):K≠4->AK=0->oB L es r L' c->pk L es ix r K AK N ks L' ix c
 |crash:K≠4->AK=1->pk L es ix r K AK N ks {L with bl:=gU ks L.bl L.ws,ws:=[],up:=false,fuse:= -1} ix 0
 |same:K≠4->AK=2->pk L es ix r K AK N ks L ix 0
 |fuse:K≠4->AK≠0->AK≠1->AK≠2->pk L es ix r K AK N ks {L with fuse:=N} ix 0
def Fm (H:Nat->Prop) (g:Nat) (d:ϰ) (f:List Ev) (ix:Ix) (r:Option Ev) (K AK N:Int) (ks:List Int) (w:β) (e:Ending) (w':β):Prop:= ∃ a b c,e=ŗ (IZ c)/\pk d f ix r K AK N ks a b c/\ht H g a b w'/\Η g w w'
theorem Ju (H:Nat->Prop) (g:Nat) (a:ϰ) (ix:Ix) (M:List Ev) (r:Option Ev) (K AK N kd ei em:Int) (v:Option Addr) (y x:Nat) (sa:Option Addr) (l sc:Nat) (ks:List Int) (w:β) (ai:Ϩ w) (ah:Ϡ w) (Y:∀ b,H b->b<w.heap.size) (h:ht H g a ix w) (P:lC a M) (aq:L M<=40) (ao:0<L a.bl) (ab:mL w kd ei em v y x r) (ac:Rd w (D sa l sc) l 1 (τ ks)) (ar:L ks=l) (ak:ϵ ix.1 ix.2 (L ix.1)) (ae:ix.1=a.x.1.take (L ix.1)) (ad:L ix.1<=L a.x.1) :
  Calls prog 8 #[þ (J ⟨g,0,O⟩),ā #[IZ K,IZ AK,IZ N,IZ kd,IZ ei,IZ em,D v y x,D sa l sc]] w (Fm H g a M ix r K AK N ks w):=by
 have u:=P.dok.x;have au:L a.x.1<=40:=by have:=rG P.x;simp at this;omega
 obtain⟨ag,av,k⟩:=Ϻ (w:=w) (A:=C #[IZ K,IZ AK,IZ N,IZ kd,IZ ei,IZ em,D v y x,D sa l sc] 37) RZ;have Z:∀ b,H b->b<(å w (C #[IZ K,IZ AK,IZ N,IZ kd,IZ ei,IZ em,D v y x,D sa l sc] 37)).heap.size:=fun b ap=>nj (Y b ap) k.size;have aj:=h.below k;have T:=Zx u;have HW:=Zx aj;have B:=Zx P;have S:=Zx Z;have z:=Zx (Γ (ai.below k) (ah.below k));have an:=Zx (ac.below k);have am:=Zx (ab.below k);have I:=Zx (Γ ak (Γ ae ad));have m:=Zx ((Η.refl g w).below k);obtain⟨⟨c0,c1,c2,o,p,q,s,t⟩,-,-⟩:=ϳ ag;clear ai ah Y h P ab ac ak ae ad u Z aj ag k;go_enter func8,ntmps8;go_upto_region 1 with (fail)
 generalize å w (C #[IZ K,IZ AK,IZ N,IZ kd,IZ ei,IZ em,D v y x,D sa l sc] 37)=n at *;by_cases aa:K=4
 .subst aa
  by_cases E:nv a.x.2=L a.x.1
  .have u:=T.o
   rw[jA,E]at u;have R:=Zx (ER H g a ix n z.o.1 z.o.2 HW.o B.o.up I.o.1 u I.o.2.1 I.o.2.2 ϊ);have al:=Zx E;clear u E;go_wp2_with fail
   refine R.o.mono ?_;rintro e F ⟨rfl,d,f⟩;have i:=Zx (Γ d (m.o.trans f));clear d f c0 c1 c2 o p q s t;go_wp2;go_ret;exact⟨a,a.x,0,rfl,.follow rfl al.o,i.o⟩
  .have R:=Zx (NY H g a ix _ n z.o.1 z.o.2 HW.o B.o.up I.o.1 T.o E)
   clear E;go_wp2_with fail
   refine R.o.mono ?_;rintro e F ⟨rfl,d,f⟩;have i:=Zx (Γ d (m.o.trans f));clear d f c0 c1 c2 o p q s t;go_wp2;go_ret;exact⟨a,ix,7,rfl,.stay rfl,i.o⟩
 .have G:=Zx aa
  by_cases V:AK=0
  .subst V
   have j:=Zx (zL H g a ix M r kd ei em v y x n z.o.1 S.o HW.o B.o aq am.o);unfold iL at j;go_wp2_with fail
   refine j.o.mono ?_;rintro e F ⟨U,c,rfl,af,d,f⟩;have i:=Zx (Γ af (Γ d (m.o.trans f)));clear af d f c0 c1 c2 o p q s t;go_wp2;go_ret;exact⟨U,ix,c,rfl,.put U c G.o rfl i.o.1,i.o.2⟩
  .by_cases W:AK=1
   .subst W
    subst ar;have j:=Zx (wG H g a ix (D sa (L ks) sc) ks n S.o HW.o B.o.dok ao an.o);go_wp2_with fail
    refine j.o.mono ?_;rintro e F ⟨rfl,d,f⟩;have i:=Zx (Γ d (m.o.trans f));clear d f c0 c1 c2 o p q s t;go_wp2;go_ret;exact⟨_,ix,0,rfl,.crash G.o rfl,i.o⟩
   .by_cases X:AK=2
    .subst X
     have j:=Zx (Of H g a ix n HW.o B.o.up);go_wp2_with fail
     refine j.o.mono ?_;rintro e F ⟨rfl,d,f⟩;have i:=Zx (Γ d (m.o.trans f));clear d f c0 c1 c2 o p q s t;go_wp2;go_ret;exact⟨a,ix,0,rfl,.same G.o rfl,i.o⟩
    .have j:=Zx (Oa H g a ix N n HW.o)
     have Q:=Zx (Γ V (Γ W X));go_wp2_with fail
     refine j.o.mono ?_;rintro e F ⟨rfl,d,f⟩;have i:=Zx (Γ d (m.o.trans f));clear d f c0 c1 c2 o p q s t;go_wp2;go_ret;exact⟨_,ix,0,rfl,.fuse G.o Q.o.1 Q.o.2.1 Q.o.2.2,i.o⟩
