/- Part 26 of the proof. -/
import Derived.Test.YtpilfbcffofheaaGreatDoorm24
import Derived.Test.YtpilfbcffofheaaGreatDoorm25
set_option linter.all false
set_option maxRecDepth 100000
set_option maxHeartbeats 16000000
namespace Go.Proofs.YtpilfbcffofheaaGreatDoor
open Go.RowKit Go.Proofs.Tryz Go.Sort
open Value renaming slice->D,int->ĭ,agg->ā,string->š,pointer->þ
open Option renaming none->O,some->J
open List renaming length->L
open Obj renaming cells->C
open Ending renaming returned->ŗ
open World renaming alloc->å,setCell->ŝ
def WS (b g:Nat) (w:β) (l:γ):Prop:= ∃ a n c,w.heap[g]?=J (C #[D a n c,.bool false] 227 (0,0))/\Μ b w (D a n c) n l/\∀ q,(Value.slice a n c).ownBlock=J q->q≠g
def WS.B {B g w w' l} (h:WS B g w l) (a:BQ w w'):WS B g w' l:=by
 obtain⟨b,n,c,d,e,f⟩:=h;exact⟨b,n,c,θ d a,e.B a,f⟩
def uw (g:Nat) (w:β) (x:Nat):Prop:= ∀ a n c z,w.heap[g]?=J (C #[D a n c,z] 227 (0,0))->(Value.slice a n c).ownBlock≠J x
def mH (g:Nat) (w a:β):Prop:= ∀ x,x<w.heap.size->x≠g->uw g w x->a.heap[x]?=w.heap[x]?/\uw g a x
def mH.trans {g w w1 w2} (c:mH g w w1) (d:mH g w1 w2) (h:w.heap.size<=w1.heap.size):mH g w w2:=fun x f hg e=>by
 obtain⟨a,b⟩:=c x f hg e;obtain⟨b1,b2⟩:=d x U hg b;exact⟨b1.trans a,b2⟩
def mH.of_below {g w w'} (a:BQ w w') (f:g<w.heap.size):mH g w w':=fun x e _ d=>⟨a.block x e,fun b n c z h=>d b n c z ((a.block g f).symm.trans h)⟩
def Bs {B g n k} {w Q:β} {ao c} {l m:γ} {b:ε} (R:w.heap[g]?=J (C #[D ao n c,.bool false] 227 (0,0))) (A:B<=g) (r:Μ B w (D ao n c) n l) (s:∀ q,(Value.slice ao n c).ownBlock=J q->q≠g) (P:L m=k)
  (u:Q.ownsRow B 5 1 b (n+k) (η l++η m)) (i:w.grownBy Q (Value.slice ao n c).ownBlock) (v:b.ownBlock=(Value.slice ao n c).ownBlock\/b.ownBlock=J w.heap.size) :
  Q.heap[g]?=J (C #[D ao n c,.bool false] 227 (0,0))/\WS B g (ŝ Q ⟨g,0,O⟩ b) (l++m)/\Below B w (ŝ Q ⟨g,0,O⟩ b)/\mH g w (ŝ Q ⟨g,0,O⟩ b):=by
 have F:=ς R;have o:=(i.block g F (fun e=>s g e.symm rfl)).trans R;have E:=RZ.grown i U (fun q a=>(Ϡ r.2 q a).1);obtain⟨d,c2,rfl⟩:=Η u;have t:∀ q,(Value.slice d (n+k) c2).ownBlock=J q->q≠g:=by
  intro q a e;rcases v with h|h
  .exact s q (h ▸ a) e
  .rw[h]at a;injection a with a;omega
 have j:(ŝ Q ⟨g,0,O⟩ (D d (n+k) c2)).heap[g]?=J (C #[D d (n+k) c2,.bool false] 227 (0,0)):=υ _ g 0 _ _ _ o;refine⟨o,⟨d,_,c2,j,⟨by simp[r.1,P],?_⟩,t⟩,E.S A _,?_⟩
 .rw[qx]
  exact kA u (fun q a=>Γ _ _ _ _ (t q a))
 .intro x I K H
  have p:=H ao n c _ R;refine⟨(Γ _ _ _ _ K).trans (i.block x I (fun e=>p e.symm)),fun M n3 N z y=>?_⟩;have e:=j.symm.trans y;simp only[Φ,Obj.cells.injEq,Array.mk.injEq,List.cons.injEq,Χ]at e;obtain⟨⟨⟨rfl,rfl,rfl⟩,-⟩,-⟩:=e;intro f;rcases v with h|h
  .exact p (h ▸ f)
  .rw[h]at f;injection f with f;omega
def za (a g:Nat) (l:γ) (w:β) (e:Ending) (b:β):Prop:=e=ŗ (.tuple #[])/\WS a g b l/\Below a w b/\mH g w b
def WP (a g:Nat) (l:γ) (w:β) (e:Ending) (b:β):Prop:=e=ŗ (.tuple #[])/\WS a g b l/\Below a w b
def Bo (b g a:Nat) (l w) (h:WS b g w l) (z:b<=g) (A:a<=4611686018427387904) (Z:L l<=10000000) :
  Calls prog 138 #[þ (J ⟨g,0,O⟩),G a] w (za b g (l++ο a) w):=by
 obtain⟨Y,n,c,hg,o,X⟩:=h;have ab:=o.1;have E:=ς hg;obtain⟨M,hi,H,I,K⟩:=Ϩ lh;have t:=Zh (vh a w A);have⟨r,v,u⟩:=iQ hg o X;go_enter func138,ntmps138;go_wp2_with fail
 refine t.o.M ?_;rintro e ad ⟨a0,N,c1,rfl,p,d⟩;have k:=θ r.o d;have F:=p.1;have aa:=Ϸ 8 a U;have⟨j,x,i,s⟩:=kX (v.o.B d) (p.rd.src  (tx:=31) gv (mM _)) d k;obtain⟨⟨T,W⟩,⟨y,f1⟩,V⟩:=ν k;have B:=d.size;go_wp2_with (at_builtin;go_loud (refine ϻ rfl _ _ _ _ rfl b 5 M _ 1 1 gv hi H I K rfl _ n _ (by rfl) j.o.2 _ N _ (by rfl) x.o ώ U U ?_;intro ac ae f m q _;obtain⟨a1,c2,rfl⟩:=Η f;obtain⟨P,Q,R,S⟩:=Bs s.o z j.o u.o F f m q;obtain⟨⟨T,W⟩,⟨y,f1⟩,V⟩:=ν P;clear f m q))
 go_returns
 exact⟨rfl,Q,(i.o.M U).trans R,(mH.of_below i.o E).trans S B⟩
def GH (a g b:Nat) (l w) (h:WS a g w l) (i:a<=g) (j:b<=4611686018427387904) (k:L l<=10000000) :
  Calls prog 138 #[þ (J ⟨g,0,O⟩),G b] w (WP a g (l++ο b) w):=
 (Bo a g b l w h i j k).M fun e m ⟨c,d,f,_⟩=>⟨c,d,f⟩
def Bp (B g j ta f tc) (d l:γ) (w) (h:WS B g w l) (M:B<=g) (P:L d=f) (c:Rd w (D ta f tc) f 1 (η d)) (al:f<=j) (an:j<=1000000) (ak:L l<=10000000) :
  Calls prog 139 #[þ (J ⟨g,0,O⟩),D ta f tc,G j] w (za B g (l++Ξ d) w):=by
 obtain⟨aj,n,a0,hg,q,T⟩:=h;have ao:=q.1;have Q:=ς hg;have am:¬(j:Int)<(f:Int):=U;obtain⟨Z,hi,W,X,Y⟩:=Ϩ lh;have e:=Zx (fun i=>wM O 0 0 _ d i rfl U (Rd.of_own (Μ.nil i 0).2) U);have ap:L (Ξ d)<=9+f:=by
  have:=Ϸ 8 (L d) U;simp only[Ξ,σ];omega
 have⟨u,y,x,E⟩:=kX hg q T c;obtain⟨⟨t,af⟩,⟨I,f1⟩,ag⟩:=ν hg;go_enter func139,ntmps139;go_upto_region 2 with fail
 have a:BQ w w.drew:=RZ.drew;refine ϯ (fun H=>BQ w H) 8 ϋ ?_;refine Zf 0 a ?_;refine Zf 1 a ?_;refine Zf 2 a ?_;refine Zf 3 a ?_;refine Zk 4 a ?_ (hy:=by intro i m;have ar:=ζ m t;go_simp;try with_reducible rfl);refine Zf 5 a ?_;refine Zb 6 [7,8] a ?_ (hy:=by intro i m;have s:=rO P (E.o.B m);go_simp;try with_reducible rfl);refine Κ (fuel:=4) 7 ϋ rfl ?_;intro K k;go_simp;refine(e.o _).M ?_;rintro a1 ae ⟨ah,aa,c1,rfl,o,N⟩;rw[js]at o;have b:BQ w ae:=a.trans N;refine k _ _ b ?_;try simp only[Zp]
 have⟨v,p⟩:=ϟ (θ u.o b) (y.o.B b);have S:=o.1;have F:=Zx (o.rd.src  (tx:=31) gv (mM _));have aq:=b.size;refine jF  ϋ ϋ rfl ?_;intro K k;refine lD rfl _ _ _ _ rfl B 5 Z _ 1 1 gv hi W X Y rfl _ n _ ϔ p.o.2 _ aa _ ϔ F.o ώ U U ?_;intro au av r R V;obtain⟨ai,c2,rfl⟩:=Η r;obtain⟨s,ab,ac,ad⟩:=Bs v.o M p.o x.o S r R V;refine k _ _ ?_;try simp only[Zp]
 obtain⟨⟨t,af⟩,⟨I,f1⟩,ag⟩:=ν s;have⟨z,A⟩:=ϟ ab (Ν ((b.M U).trans ac) ((mH.of_below b Q).trans ad b.size));refine Ze 9 ?_;try simp only[Zp]
 refine Ze 10 ?_;try simp only[Zp]
 refine Ze 11 ?_;refine Zd ?_;go_wp2
 go_returns
 exact⟨rfl,z.o,A.o⟩
def GL (B g most ta tn tc) (d l:γ) (w) (h:WS B g w l) (f:B<=g) (i:L d=tn) (n:Rd w (D ta tn tc) tn 1 (η d)) (k:tn<=most) (m:most<=1000000) (j:L l<=10000000) :
  Calls prog 139 #[þ (J ⟨g,0,O⟩),D ta tn tc,G most] w (WP B g (l++Ξ d) w):=
 (Bp B g most ta tn tc d l w h f i n k m j).M fun e o ⟨a,b,c,_⟩=>⟨a,b,c⟩
def yk (B g) (v:ε) (T:List (γ)) (ps l w) (h:WS B g w l) (p:B<=g) (t:Rd w v (L ps) 4 (fP T ps)) (d:Ϻ T ps (L T)) (r:L l<=10000000) :
  Calls prog 125 #[þ (J ⟨g,0,O⟩),ā #[G (L T),š (δ (ϡ T)),v]] w (WP B g (l++Ξ (fV T ps)) w):=by
 obtain⟨u,R,a⟩:=fO (w:=w) (A:=C #[G (L T),š (δ (ϡ T)),v] 123) RZ;have HW:=Zh (Dy v T ps _ (t.B a) d);have K:=ke d;have jE:=Zx (h.B a);have I:g<w.heap.size:=by obtain⟨H,n,c,o,-,-⟩:=h;exact ς o
 generalize fV T ps=i at *;generalize ϡ T=F at *;go_enter func125,ntmps125;go_upto_region 1 with fail
 generalize å w _=S at *;obtain⟨⟨N,P,Q⟩,-,-⟩:=Β u;go_wp2_with fail
 refine HW.o.M ?_;rintro e E ⟨m,x,c1,rfl,f,b⟩;have q:=a.t b;have s:=f.1;have⟨k,j⟩:=ϟ (GL B g 10000 m x c1 i l E (jE.o.B b) p s f.rd U U r) q;go_wp2_with fail
 refine k.o.M ?_;rintro e M ⟨rfl,y,z⟩;go_wp2
 go_returns
 exact⟨rfl,y,(j.o.M U).trans z⟩
def gT (l:List (γ)):γ:=ο (L l)++l.flatten
def Qa (w:β) (a:γ) (m) (c:L a=m):Src prog 1 9 (š (δ a)) m (η a) w:=by
 have:=Src.ofString  w kH (δ a);rw[iG,c]at this;have e:(δ a).data.toList.map (fun b:UInt8=>Value.int .u8 b.toNat)=η a:=by rw[tO];rfl
 first|exact this|(rw[<-e];exact this)|(simpa[η,ch,tO,δ] using this)
def pS:∀ {l:List (γ)},ϱ l->L l.flatten=L l*32
 |[],_=>rfl
 |a::l,h=>by
  have b:=h a ύ;have c:=pS (l:=l) (fun d e=>h d (by simp[e]));simp only[qi,σ,ϥ,b,c];omega
def GJ (B g pa k pc) (f:List (γ)) (l w) (h:WS B g w l) (y:B<=g) (r:L f=k) (aw:k<=64) (x:ϱ f) (af:∀ j,Below B w j->Rd j (D pa k pc) k 1 (χ f)) (aB:L l<=1000000) :
  Calls prog 126 #[þ (J ⟨g,0,O⟩),D pa k pc] w (za B g (l++gT f) w):=by
 obtain⟨ak,hi,ah,ai,aj⟩:=Ϩ lh;have aA:¬(64:Int)<(k:Int):=U;have R:=Zh (Bo B g k l w h y U U);have M:=Zx (fun j aa a m=>sr (af j aa) r a m);have K:=Zh (fun a (m:a<L f)=>x _ (Ψ m));have u:=Zh r;have aC:=Ϸ 8 k U;have P:=Zx (fun a=>show(L ((f.take a).flatten))<=64*32 by
  have Z:=pS (l:=f.take a) (fun d ab=>x d (mz ab))
  rw[Z,gp];omega)
 have T:Hid (l++gT f=(l++ο k)++f.flatten):=by show _=_;unfold gT;rw[r,gP]
 go_enter func126,ntmps126;go_wp2_with fail
 refine R.o.M ?_;rintro e aG ⟨rfl,ag,z,ac⟩;have W:=Zx ag;go_wp2;go_loopw [18] (fun t wr=>∃ (a:Nat),a<=k/\t=G (a:Int)/\Hid (WS B g wr ((l++ο k)++(f.take a).flatten))/\Below B w wr/\ϫ (w.heap.size<=wr.heap.size/\mH g w wr)) (fun t _=>k - (intOf t).toNat)
 .exact⟨0,Ζ _,rfl,by show WS _ _ _ _;simpa using W.o,z,⟨z.size,ac⟩⟩
 obtain⟨a,m,rfl,jE,o,i⟩:=hrel;by_cases az:a<k
 .have q:a<L f:=ι u.o
  obtain⟨a0,off,rfl,ax⟩:=M.o wr o a q;have p:=K.o a q;have al:(a:Int)<(k:Int):=U;have aE:(δ f[a]).size=32:=by rw[iG];exact p
  have V:Hid ((f.take (a+1)).flatten=(f.take a).flatten++f[a]):=by
   show _=_;rw[jt q,yz];simp
  obtain⟨av,n,a1,hg,E,ad⟩:=jE.o;have ae:=E.1;have ay:=P.o a;have aD:n<=1003000:=by simp only[σ]at ae;omega
  obtain⟨⟨ao,ap⟩,⟨Y,f1⟩,aq⟩:=ν hg;have⟨Q,v,S,b,N⟩:=lM hg E ad (Qa wr _ _ p) p;generalize f[a]=ar at *;go_wp2_with (at_builtin;go_loud (refine ϻ rfl _ _ _ _ rfl B 5 ak _ 1 1 gv hi ah ai aj rfl _ n _ (by rfl) v.o.2 _ _ _ (by rfl) b.o ώ U U ?_;intro aF aH s A F _;obtain⟨au,c2,rfl⟩:=Η s;obtain⟨am,H,I,an⟩:=Bs Q.o y v.o S.o N.o s A F;obtain⟨⟨ao,ap⟩,⟨Y,f1⟩,aq⟩:=ν am;clear s A F))
  rw[gP,<-V.o]at H;go_roundw
  .exact⟨ _,U,ϕ,H,o.trans I,⟨gj i.o.1 I.size,i.o.2.trans an i.o.1⟩⟩
  exact ω
 .have al:¬(a:Int)<(k:Int):=U
  have c:=jE.o;rw[gF (ι u.o),<-T.o]at c;have X:=Zx c;go_wp2
  go_returns
  exact⟨rfl,X.o,o,i.o.2⟩
def GI (B g pa k pc) (a:List (γ)) (l w) (h:WS B g w l) (m:B<=g) (n:L a=k) (j:k<=64) (i:ϱ a) (p:∀ b,Below B w b->Rd b (D pa k pc) k 1 (χ a)) (o:L l<=1000000) :
  Calls prog 126 #[þ (J ⟨g,0,O⟩),D pa k pc] w (WP B g (l++gT a) w):=
 (GJ B g pa k pc a l w h m n j i p o).M fun e q ⟨c,d,f,_⟩=>⟨c,d,f⟩
def Bn (B g l w) (h:WS B g w l) (i:L l<=1048576) :
  Calls prog 127 #[þ (J ⟨g,0,O⟩)] w fun e w'=>∃ a n c,e=ŗ (.tuple #[D a n c,G 0])/\Μ B w (D a n c) n l/\w=w':=by
 obtain⟨a,n,c,hg,b,k⟩:=h;have j:=b.1;have m:¬(1048576:Int)<(n:Int):=U;obtain⟨⟨o,p⟩,⟨f,f1⟩,q⟩:=ν hg;have d:=Zx b;go_enter func127,ntmps127;go_wp2;go_ret2;exact⟨a,n,c,rfl,d.o,rfl⟩
def mX {w:β} {g} {a b c d e f i:ε} {T} (h:w.heap[g]?=J (C #[a,b,c,d,e,f,i] T (0,0))):(w.cell? ⟨g,0,O⟩=J a/\w.cell? ⟨g,1,O⟩=J b/\w.cell? ⟨g,2,O⟩=J c/\w.cell? ⟨g,3,O⟩=J d/\w.cell? ⟨g,4,O⟩=J e/\w.cell? ⟨g,5,O⟩=J f/\w.cell? ⟨g,6,O⟩=J i)/\(∀ o,w.frozen? ⟨g,o,O⟩=false)/\g<w.heap.size:=
 ⟨⟨ξ _ _ 0 _ _ _ h,ξ _ _ 1 _ _ _ h,ξ _ _ 2 _ _ _ h,ξ _ _ 3 _ _ _ h,ξ _ _ 4 _ _ _ h,ξ _ _ 5 _ _ _ h,ξ _ _ 6 _ _ _ h⟩,fun o=>ϧ _ _ o _ _ h,ς h⟩
def go {w:β} {g} {a b c d e f:ε} {T} (h:w.heap[g]?=J (C #[a,b,c,d,e,f] T (0,0))):(w.cell? ⟨g,0,O⟩=J a/\w.cell? ⟨g,1,O⟩=J b/\w.cell? ⟨g,2,O⟩=J c/\w.cell? ⟨g,3,O⟩=J d/\w.cell? ⟨g,4,O⟩=J e/\w.cell? ⟨g,5,O⟩=J f)/\(∀ o,w.frozen? ⟨g,o,O⟩=false)/\g<w.heap.size:=
 ⟨⟨ξ _ _ 0 _ _ _ h,ξ _ _ 1 _ _ _ h,ξ _ _ 2 _ _ _ h,ξ _ _ 3 _ _ _ h,ξ _ _ 4 _ _ _ h,ξ _ _ 5 _ _ _ h⟩,fun o=>ϧ _ _ o _ _ h,ς h⟩
def Bu (w:β) (x):WS w.heap.size (w.heap.size+1) (å (å w (C #[ĭ .u8 (x.toNat:Int)] 5)) (C #[D (J ⟨w.heap.size,0,O⟩) 1 1,.bool false] 227)) [x]:=by
 obtain⟨a,b,-,-,-⟩:=fZ (w:=w) (A:=C #[ĭ .u8 x.toNat] 5) (Z:=C #[D (J ⟨w.heap.size,0,O⟩) 1 1,.bool false] 227) RZ;refine⟨J ⟨w.heap.size,0,O⟩,1,1,b,⟨rfl,rfl,.inr ⟨w.heap.size,1,_,rfl,NZ,a,NZ,ώ,rfl,rfl⟩⟩,fun q c=>?_⟩;simp only[Value.ownBlock,Φ]at c;omega
def nF (e:List (γ)) (c:List (Nat×Nat)) (d:List (γ)) (b:List (Nat×Nat)) (a:List (γ)):γ:=[3]++Ξ (fV e c)++Ξ (fV d b)++gT a
def lE {l:γ} (h:L l<=1000000):L (Ξ l)<=9+L l:=by
 have:=Ϸ 8 (L l) U;simp only[Ξ,σ];omega
def Rk (o p:ε) (pa k pc) (d1 d2:List (γ)) (p1 p2) (c:List (γ)) (w:β) (X:Rd w o (L p1) 4 (fP d1 p1)) (r:Ϻ d1 p1 (L d1)) (q:Rd w p (L p2) 4 (fP d2 p2)) (s:Ϻ d2 p2 (L d2)) (ab:L c=k) (Y:k<=64) (x:ϱ c) (ad:Rd w (D pa k pc) k 1 (χ c)) :
  Calls prog 71 #[ā #[G (L d1),š (δ (ϡ d1)),o,G (L d2),š (δ (ϡ d2)),p,D pa k pc]] w (mG (nF d1 p1 d2 p2 c) w):=by
 obtain⟨ae,aE,E⟩:=fO (w:=w) (A:=C #[G (L d1),š (δ (ϡ d1)),o,G (L d2),š (δ (ϡ d2)),p,D pa k pc] 149) RZ;have l1:=lE (l:=fV d1 p1) (ι (ke r));have l2:=lE (l:=fV d2 p2) (ι (ke s));have aw:=ke r;have ax:=ke s;have ay:=pS x;have az:=Ϸ 8 (L c) U;have R:=Zx (fun f g l b (i:BQ w b) d h m=>yk f g o d1 p1 l b d h (X.B i) r m);have S:=Zx (fun f g l b (i:BQ w b) d h m=>yk f g p d2 p2 l b d h (q.B i) s m);have a1:=Zx (fun f g l b (i:BQ w b) ag d h m=>GI f g pa k pc c l b d h ab Y x (fun av q=>ad.B (i.trans (q.M ag))) m);unfold nF;generalize Ξ _=ar at *;generalize Ξ _=au at *;generalize ϡ d1=ao at *;generalize ϡ d2=ap at *;generalize(L d1:Int)=aB at *;generalize(L d2:Int)=aC at *;have aA:L (gT c)<=9+64*32:=by unfold gT;simp only[σ];omega
 generalize gT c=aq at *;go_enter func71,ntmps71;go_upto_region 1 with fail
 generalize å w _=a at *;go_upto_region 2 with fail
 have d:WS a.heap.size (a.heap.size+1) (å (å a (C #[ĭ .u8 3] 5)) (C #[D (J ⟨a.heap.size,0,O⟩) 1 1,.bool false] 227)) [3]:=Bu a 3;have y:BQ a (å (å a (C #[ĭ .u8 3] 5)) (C #[D (J ⟨a.heap.size,0,O⟩) 1 1,.bool false] 227)):=ġ.A ύ _;generalize(å (å a _) _)=V at *;have j:=E.size;have I:=θ ae y;have F:=E.t y;have a0:=Zx (R.o _ _ _ V F d U ύ);obtain⟨⟨c0,c1,c2,t,u,n,v⟩,-,-⟩:=mX I;go_wp2_with fail
 refine a0.o.M ?_;rintro e al ⟨rfl,ah,z⟩;have K:=(z.block _ U).trans I;have M:=F.trans (z.M j);have N:=Zx (S.o _ _ _ al M ah U ό);obtain⟨⟨c0,c1,c2,t,u,n,v⟩,-,-⟩:=mX K;go_wp2_with fail
 refine N.o.M ?_;rintro e am ⟨rfl,ai,B⟩;have af:=(B.block _ U).trans K;have H:=M.trans (B.M j);have P:=Zx (a1.o _ _ _ am H j ai U ό);obtain⟨⟨c0,c1,c2,t,u,n,v⟩,-,-⟩:=mX af;go_wp2_with fail
 refine P.o.M ?_;rintro e an ⟨rfl,aj,Z⟩;have aa:=H.trans (Z.M j);have Q:=Zx (Bn _ _ _ an aj ό);go_wp2_with fail
 refine Q.o.M ?_;rintro e aD ⟨W,ak,n,rfl,ac,rfl⟩;have T:=Zx (ac.M j);go_wp2;go_ret2;exact⟨W,ak,n,rfl,T.o,aa⟩
def nB (c:List (γ)) (e:List (Nat×Nat)) (a:Nat) (d:γ) (b:List (γ)):γ:=[2]++Ξ (fV c e)++ο a++Ξ d++gT b
def Rj (p:ε) (i:Nat) (ta tn tc) (d:γ) (pa k pc) (d1:List (γ)) (p1) (f:List (γ)) (w:β) (aa:Rd w p (L p1) 4 (fP d1 p1)) (t:Ϻ d1 p1 (L d1)) (aH:i<=1000000) (ag:L d=tn) (ah:tn<=2000) (ai:Rd w (D ta tn tc) tn 1 (η d)) (aj:L f=k) (ac:k<=64) (u:ϱ f) (al:Rd w (D pa k pc) k 1 (χ f)) :
  Calls prog 79 #[ā #[G (L d1),š (δ (ϡ d1)),p,G i,D ta tn tc,D pa k pc]] w (mG (nB d1 p1 i d f) w):=by
 obtain⟨am,aN,B⟩:=fO (w:=w) (A:=C #[G (L d1),š (δ (ϡ d1)),p,G i,D ta tn tc,D pa k pc] 158) RZ;have l1:=lE (l:=fV d1 p1) (ι (ke t));have l2:=lE (l:=d) U;have l3:=Ϸ 8 i U;have aG:=ke t;have aI:=pS u;have aJ:=Ϸ 8 (L f) U;have S:=Zx (fun h g l a (o:BQ w a) c j m=>yk h g p d1 p1 l a c j (aa.B o) t m);have a1:=Zx (fun h g l a c j m=>GH h g i l a c j U m);have T:=Zx (fun h g l a (o:BQ w a) c j m=>GL h g _ ta tn tc d l a c j ag (ai.B o) ah U m);have W:=Zx (fun h g l a (o:BQ w a) ao c j m=>GI h g pa k pc f l a c j aj ac u (fun aF ab=>al.B (o.trans (ab.M ao))) m);unfold nB;generalize Ξ _=aD at *;generalize Ξ d=aE at *;generalize ο i=aB at *;generalize ϡ d1=aA at *;generalize(L d1:Int)=aL at *;have aK:L (gT f)<=9+64*32:=by unfold gT;simp only[σ];omega
 generalize gT f=aC at *;go_enter func79,ntmps79;go_upto_region 1 with fail
 generalize å w _=b at *;go_upto_region 2 with fail
 have c:WS b.heap.size (b.heap.size+1) (å (å b (C #[ĭ .u8 2] 5)) (C #[D (J ⟨b.heap.size,0,O⟩) 1 1,.bool false] 227)) [2]:=Bu b 2;have v:BQ b (å (å b (C #[ĭ .u8 2] 5)) (C #[D (J ⟨b.heap.size,0,O⟩) 1 1,.bool false] 227)):=ġ.A ύ _;generalize(å (å b _) _)=X at *;have n:=B.size;have H:=θ am v;have E:=B.t v;have a0:=Zx (S.o _ _ _ X E c U ύ);obtain⟨⟨c0,c1,c2,q,r,s⟩,-,-⟩:=go H;go_wp2_with fail
 refine a0.o.M ?_;rintro e aw ⟨rfl,ap,x⟩;have I:=(x.block _ U).trans H;have ae:=E.trans (x.M n);have N:=Zx (a1.o _ _ _ aw ap U ό);obtain⟨⟨c0,c1,c2,q,r,s⟩,-,-⟩:=go I;go_wp2_with fail
 refine N.o.M ?_;rintro e ax ⟨rfl,aq,y⟩;have K:=(y.block _ U).trans I;have F:=ae.trans (y.M n);have P:=Zx (T.o _ _ _ ax F aq U ό);obtain⟨⟨c0,c1,c2,q,r,s⟩,-,-⟩:=go K;go_wp2_with fail
 refine P.o.M ?_;rintro e ay ⟨rfl,ar,z⟩;have an:=(z.block _ U).trans K;have M:=F.trans (z.M n);have Q:=Zx (W.o _ _ _ ay M n ar U ό);obtain⟨⟨c0,c1,c2,q,r,s⟩,-,-⟩:=go an;go_wp2_with fail
 refine Q.o.M ?_;rintro e az ⟨rfl,au,ad⟩;have af:=M.trans (ad.M n);have R:=Zx (Bn _ _ _ az au ό);go_wp2_with fail
 refine R.o.M ?_;rintro e aM ⟨Y,av,Z,rfl,ak,rfl⟩;have V:=Zx (ak.M n);go_wp2;go_ret2;exact⟨Y,av,Z,rfl,V.o,af⟩
def RS (d:TypeId) (g:Nat) (w:β) (b:γ) (p:Nat):Prop:= ∃ a n c,w.heap[g]?=J (C #[D a n c,G (p:Int),G 0] d (0,0))/\L b=n/\Α (· =g) w (fun e=>Rd e (D a n c) n 1 (η b))
def RS.B {T g p w w' B} (h:RS T g w B p) (b:BQ w w'):RS T g w' B p:=by
 obtain⟨a,n,c,d,e,f⟩:=h;exact⟨a,n,c,θ d b,e,f.B b⟩
def RS.stays {T g p w w' B} (h:RS T g w B p) (j:w.heap.size<=w'.heap.size) (e:∀ b,b<w.heap.size->w'.heap[b]?=w.heap[b]?):RS T g w' B p:=by
 obtain⟨a,n,c,d,f,i⟩:=h;exact⟨a,n,c,(e g (ς d)).trans d,f,i.step j (fun b q _=>e b q) fun _ _ q=>q⟩
def hZ (d:TypeId) (g f:Nat) (w:β) (b:γ) (p:Nat):Prop:= ∃ a n c,w.heap[g]?=J (C #[D a n c,G (p:Int),G 0] d (0,0))/\L b=n/\Hi f w (fun e=>Rd e (D a n c) n 1 (η b))
def hZ.rs {T g lo p w B} (h:hZ T g lo w B p) (i:g<lo):RS T g w B p:=by
 obtain⟨a,n,c,d,e,f⟩:=h;exact⟨a,n,c,d,e,f.off (fun b _ h=>by omega)⟩
def hZ.stays {T g lo p w w' B} (h:hZ T g lo w B p) (j:w.heap.size<=w'.heap.size) (e:∀ b,b<w.heap.size->(b=g\/lo<=b)->w'.heap[b]?=w.heap[b]?):hZ T g lo w' B p:=by
 obtain⟨a,n,c,d,f,i⟩:=h;exact⟨a,n,c,(e g (ς d) (.inl rfl)).trans d,f,i.step j fun b k l=>e b l (.inr k)⟩
def qT {d:TypeId} {g p n:Nat} {w o:β} {s r t:ε} {a:Option Addr} {m:Nat} {c:γ} (q:w.heap[g]?=J (C #[s,r,t] d (0,0))) (e:BQ w o) (k:L c=n) (j:Hi w.heap.size o (fun i=>Rd i (D a n m) n 1 (η c))) :
  RS d g (ŝ (ŝ (ŝ o ⟨g,0,O⟩ (D a n m)) ⟨g,1,O⟩ (G (p:Int))) ⟨g,2,O⟩ (G 0)) c p/\Ο g w (ŝ (ŝ (ŝ o ⟨g,0,O⟩ (D a n m)) ⟨g,1,O⟩ (G (p:Int))) ⟨g,2,O⟩ (G 0))/\hZ d g w.heap.size (ŝ (ŝ (ŝ o ⟨g,0,O⟩ (D a n m)) ⟨g,1,O⟩ (G (p:Int))) ⟨g,2,O⟩ (G 0)) c p:=by
 have f:=ς q;refine⟨⟨a,n,m,jz (θ q e) _ _ _,k,?_⟩,((((Ο.refl g w).B e).set 0 _).set 1 _).set 2 _,a,n,m,jz (θ q e) _ _ _,k,((j.set (p:=⟨g,0,O⟩) f _).set (p:=⟨g,1,O⟩) f _).set (p:=⟨g,2,O⟩) f _⟩;have l:Α (· =g) o (fun i=>Rd i (D a n m) n 1 (η c)):=j.off (fun b _ h=>by omega);exact((l.set (p:=⟨g,0,O⟩) rfl _).set (p:=⟨g,1,O⟩) rfl _).set (p:=⟨g,2,O⟩) rfl _
def RP (b:TypeId) (g:Nat) (a:γ) (p:Nat) (v:ε) (w:β) (e:Ending) (c:β):Prop:=e=ŗ v/\RS b g c a p/\Ο g w c/\hZ b g w.heap.size c a p
def AB (g p V B pre post w) (h:RS 238 g w B p) (l:B=pre++(ο V++post)) (m:V<=4611686018427387904) (r:L pre=p) (z:L B<=1000000000) :
  Calls prog 140 #[þ (J ⟨g,0,O⟩)] w (RP 238 g B (p+L (ο V)) (G V) w):=by
 obtain⟨a,n,c,hg,i,q⟩:=h;have j:=Zh (rM a n c p B pre post V w l m r i U q.now);have⟨b,k⟩:=ϟ hg i;obtain⟨⟨c0,c1,c2⟩,⟨y,f1,f2⟩,F⟩:=Β hg;go_enter func140,ntmps140;go_wp2_with fail
 refine j.o.M ?_;rintro e E ⟨s,A,rfl,o,f⟩;obtain⟨⟨t,d1,d2⟩,⟨u,v,x⟩,-⟩:=Β (θ b.o f);have d:=Zx (qT (p:=p+L (ο V)) b.o f k.o o);go_wp2;go_ret;exact⟨rfl,d.o.1,d.o.2⟩
def xC (g p most) (d:γ) (B pre post w) (h:RS 238 g w B p) (m:B=pre++(Ξ d++post)) (o:L d<=most) (s:L pre=p) (A:L B<=1000000000) :
  Calls prog 141 #[þ (J ⟨g,0,O⟩),G most] w (RP 238 g B (p+L (Ξ d)) (š (δ d)) w):=by
 obtain⟨a,n,c,hg,j,r⟩:=h;have k:=Zh (wK a n c p B pre post d most w m o s j U r.now);have⟨b,l⟩:=ϟ hg j;obtain⟨⟨c0,c1,c2⟩,⟨z,f1,f2⟩,H⟩:=Β hg;go_enter func141,ntmps141;go_wp2_with fail
 refine k.o.M ?_;rintro e F ⟨t,E,rfl,q,i⟩;obtain⟨⟨u,d1,d2⟩,⟨v,x,y⟩,-⟩:=Β (θ b.o i);have f:=Zx (qT (p:=p+L (Ξ d)) b.o i l.o q);go_wp2;go_ret;exact⟨rfl,f.o.1,f.o.2⟩
def xe (g p V B pre post w) (h:RS 211 g w B p) (l:B=pre++(ο V++post)) (m:V<=4611686018427387904) (r:L pre=p) (z:L B<=1000000000) :
  Calls prog 271 #[þ (J ⟨g,0,O⟩)] w (RP 211 g B (p+L (ο V)) (G V) w):=by
 obtain⟨a,n,c,hg,i,q⟩:=h;have j:=Zh (rM a n c p B pre post V w l m r i U q.now);have⟨b,k⟩:=ϟ hg i;obtain⟨⟨c0,c1,c2⟩,⟨y,f1,f2⟩,F⟩:=Β hg;go_enter func271,ntmps271;go_wp2_with fail
 refine j.o.M ?_;rintro e E ⟨s,A,rfl,o,f⟩;obtain⟨⟨t,d1,d2⟩,⟨u,v,x⟩,-⟩:=Β (θ b.o f);have d:=Zx (qT (p:=p+L (ο V)) b.o f k.o o);go_wp2;go_ret;exact⟨rfl,d.o.1,d.o.2⟩
def Dz (g p d B pre post w) (h:RS 211 g w B p) (m:B=pre++(d++post)) (o:L d=32) (s:L pre=p) (A:L B<=1000000000) :
  Calls prog 272 #[þ (J ⟨g,0,O⟩)] w (RP 211 g B (p+32) (š (δ d)) w):=by
 obtain⟨a,n,c,hg,j,r⟩:=h;have k:=Zh (zq a n c p B pre post d w m o s j U r.now);have⟨b,l⟩:=ϟ hg j;obtain⟨⟨c0,c1,c2⟩,⟨z,f1,f2⟩,H⟩:=Β hg;go_enter func272,ntmps272;go_wp2_with fail
 refine k.o.M ?_;rintro e F ⟨t,E,rfl,q,i⟩;obtain⟨⟨u,d1,d2⟩,⟨v,x,y⟩,-⟩:=Β (θ b.o i);have f:=Zx (qT (p:=p+32) b.o i l.o q);go_wp2;go_ret;exact⟨rfl,f.o.1,f.o.2⟩
def EH (g p V most) (a o n:γ) (w:β) (h:RS 238 g w a p) (f:a=o++(ο V++n)) (k:V<=most) (l:most<=100000) (j:L o=p) (i:L a<=1000000000) :
  Calls prog 176 #[þ (J ⟨g,0,O⟩),G most] w (RP 238 g a (p+L (ο V)) (G V) w):=by
 have b:=Zh (AB g p V a o n w h f U j i);go_enter func176,ntmps176;go_wp2_with fail
 refine b.o.M ?_;rintro e m ⟨rfl,c,d⟩;go_wp2;go_ret;exact⟨rfl,c,d⟩
def gf.oneCh {base g} {w c:β} {v:ε} {n} {l:List (γ)} (h:gf base w v n l) (d:g<base) (a:Ο g w c):gf base c v n l:=by
 refine⟨h.1,kA h.2 fun q b=>?_⟩;have:=Ϡ h.2 q b;exact a.2.1 q this.2 U
def wu (f:TypeId) (g:Nat) (d:γ) (p:Nat) (h:List (γ)) (w:β) (e:Ending) (i:β):Prop:= ∃ a b c,e=ŗ (D a b c)/\gf w.heap.size i (D a b c) b h/\hZ f g w.heap.size i d p/\Ο g w i
def AC (g p) (i:List (γ)) (j ď post:γ) (w:β) (h:RS 238 g w j p) (aE:j=ď++(gT i++post)) (ai:L i<=64) (K:ϱ i) (aK:L ď=p) (R:L j<=1000000000) :
  Calls prog 130 #[þ (J ⟨g,0,O⟩)] w (wu 238 g j (p+L (gT i)) i w):=by
 have N:g<w.heap.size:=by obtain⟨a,b0,c,k,-,-⟩:=h;exact ς k
 have aj:j=ď++(ο (L i)++(i.flatten++post)):=by rw[aE];unfold gT;simp
 have d:=Zh (EH g p _ _ j ď _ w h aj ai U aK R);have a3:=pS K;have aL:p+L (gT i)=p+L (ο (L i))+L i*32:=by unfold gT;simp only[σ];omega
 rw[aL];obtain⟨o,Q⟩:∃ o,L i=o:=⟨_,rfl⟩;obtain⟨W,aM⟩:∃ q,p+L (ο (L i))=q:=⟨_,rfl⟩;rw[aM]at d ⊢;rw[Q]at d ai ⊢;have ar:=Zh (fun f (A:f<L i)=>K _ (Ψ A));have aa:=Zh Q;have au:=Zx (fun f A=>show j=(ď++(ο (L i)++(i.take f).flatten))++(i[f]++((i.drop (f+1)).flatten++post))/\L (ď++(ο (L i)++(i.take f).flatten))=W+f*32 by
  refine⟨?_,?_⟩
  .have k:i.flatten=(i.take f).flatten++(i[f]++(i.drop (f+1)).flatten):=by
    have m:i=i.take f++(i[f]::i.drop (f+1)):=by rw[<-lL A,pG]
    have ah:=jp List.flatten m
    rw[yz,qi]at ah
    exact ah
   rw[aj,k];simp only[gP]
  .have m:=pS (l:=i.take f) (fun b1 aH=>K b1 (mz aH))
   rw[gp]at m
   simp only[σ,m];omega)
 have ax:=Zx R;clear h aE aj K a3 aL aM aK Q R;obtain⟨aR,aI,aq,aP,aQ⟩:=Ϩ pU;go_enter func130,ntmps130;go_wp2_with fail
 refine d.o.M ?_;rintro e a9 ⟨rfl,-,aG,aN⟩;go_wp2_with fail
 go_loopw [3,7] (fun aV n wr=>∃ (f q:Nat) (a:Option Addr) (c:Nat),f<=o/\n=G (f:Int)/\aV=D a f c/\ϫ (q=W+f*32)/\ϫ (hZ 238 g w.heap.size wr j q)/\ϫ (gf w.heap.size wr (D a f c) f (i.take f))/\ϫ (Ο g w wr)) (fun _ n _=>o - (intOf n).toNat)
 .exact⟨0,W,O,0,Ζ _,rfl,rfl,⟨U⟩,⟨aN⟩,⟨gf.nil _ _⟩,⟨aG⟩⟩
 obtain⟨f,q,a,c,A,rfl,rfl,H,ad,z,E⟩:=hrel;clear aN aG;by_cases a5:f<o
 .have P:f<L i:=ι aa.o
  have aS:(f:Int)<(o:Int):=U;obtain⟨aT,B,aU,hg,S,v⟩:=ad.o.rs N;obtain⟨s,aF⟩:=au.o f P;obtain⟨r,T⟩:∃ r,q+32=r:=⟨_,rfl⟩;have y:=zq aT B aU q j _ _ _ wr s (ar.o f P) (aF.trans H.o.symm) S (ι ax.o) v.now;rw[T]at y;have⟨y,aB⟩:=ϟ y T;clear T;have⟨F,ab⟩:=ϟ hg S;have ak:=jt P;have ae:=Zx ak;generalize i[f]=Y at *;obtain⟨⟨c0,c1,c2⟩,⟨a2,f1,f2⟩,X⟩:=Β hg;clear v s aF hg S ak;go_wp2_with fail
  refine y.o.M ?_;rintro e aW ⟨I,V,rfl,al,s⟩;obtain⟨⟨aY,d1,d2⟩,⟨aZ,a0,a1⟩,-⟩:=Β (θ F.o s);obtain⟨ao,ap,-⟩:=qT (p:=r) F.o s ab.o al;have⟨aw,aC,aD⟩:=iQ (((al.set (p:=⟨g,0,O⟩) X (D I B V)).set (p:=⟨g,1,O⟩) X (G r)).set (p:=⟨g,2,O⟩) X (G 0)) (jz (θ F.o s) (D I B V) (G r) (G 0)) s.size;clear al c0 c1 c2 a2 f1 f2;go_upto_region 6 with fail
  generalize(ŝ (ŝ (ŝ aW _ _) _ _) _ _)=u at *;have M:=(E.o).trans ap;have az:=Zx (z.o.oneCh N ap);have a7:=M.1;have⟨ac,aX,Z⟩:=iQ (az.o.A (C #[š (δ Y)] 9)) ao M;clear aY d1 d2 aZ a0 a1 ap ao M;go_wp2_with (at_builtin;go_loud (refine ϻ rfl _ _ _ _ rfl _ 9 aR _ 1 _ ju aI aq aP aQ rfl _ f _ (by rfl) ac.o.2 _ 1 _ (by rfl) ((qR u _ Y).src ju (tE _)) ώ U ό ?_;intro a8 x an t a6 _;obtain⟨af,ag,rfl⟩:=Η an))
  have am:∀ b,b<u.heap.size->b<w.heap.size->x.heap[b]?=u.heap[b]?:=fun b k m=>(t.block b ό (fun e=>ι (Ϡ ac.o.2 b e.symm).1)).trans (hM u _ b k);have a4:g<x.heap.size:=by have:=t.size;simp at this;omega
  have av:ϫ (Ο g w x):=⟨⟨by have:=t.size;simp at this;omega,fun b k m=>(am b U k).trans (Z.o.2.1 b k m),Z.o.2.2.trans (((ρ 0 u).A (Ζ _) _).grown t (Ζ _) (fun _ _=>Ζ _))⟩⟩;have aO:ϫ (hZ 238 g w.heap.size x j r):=by
   have aJ:=Ϡ z.o.2;have aq:=aD.o;refine⟨⟨I,B,V,(am g U N).trans aC.o,ab.o,?_⟩⟩;refine(aw.o.step (by have:=t.size;simp at this;omega) fun b k m=>?_).M E.o.1;exact(t.block b ό (fun e=>ι (aJ b e.symm).2)).trans (hM u _ b m)
  have aA:ϫ (gf w.heap.size x (D af (f+1) ag) (f+1) (i.take (f+1))):=⟨by rw[ae.o,σ,z.o.1];rfl,by rw[ae.o,nE];exact an⟩;clear an t a6 am;go_roundw
  .exact⟨ _,r,af,ag,U,ϕ,rfl,⟨by rw[<-aB.o,H.o];omega⟩,aO,aA,av⟩
  exact ω
 .have aS:¬(f:Int)<(o:Int):=U
  obtain rfl:o=f:=U;have v:=z.o;rw[gF (ι aa.o)]at v;have ay:=Zx v;clear v;go_wp2;go_ret;exact⟨a,o,c,rfl,ay.o,by rw[<-H.o];exact ad.o,E.o⟩
def Ο.cell {R b o} {w e:β} {x:ε} (h:Ο R w e) (d:b≠R) (c:w.cell? ⟨b,o,O⟩=J x):e.cell? ⟨b,o,O⟩=J x:=
 (tX (w:=w) (a:=⟨b,o,O⟩) (h.2.1 b (ii w _ c) d)).trans c
def iz (R a:Nat) (w c:β):Prop:=w.heap.size<=c.heap.size/\(∀ b,b<w.heap.size->b≠R->b≠a->c.heap[b]?=w.heap[b]?)/\Below 0 w c
def iz.ofL {R F} {w d:β} (h:Ο R w d):iz R F w d:=⟨h.1,fun b a c _=>h.2.1 b a c,h.2.2⟩
def iz.trans {R F w w' w2} (h:iz R F w w') (k:iz R F w' w2):iz R F w w2:=⟨gj h.1 k.1,fun b a c d=>(k.2.1 b (om a h.1) c d).trans (h.2.1 b a c d),h.2.2.trans k.2.2⟩
def iz.B {R F w w' w2} (h:iz R F w w') (a:BQ w' w2):iz R F w w2:=h.trans ⟨a.size,fun b c _ _=>a.block b c,a.M (Ζ _)⟩
def iz.setF {R F w w'} (h:iz R F w w') (o) (x:ε):iz R F w (ŝ w' ⟨F,o,O⟩ x):=
 ⟨by simpa using h.1,fun b c d a=>(Γ _ _ _ _ a).trans (h.2.1 b c d a),h.2.2.S (Ζ _) x⟩
def Ο.hi {R g} {w d:β} (h:Ο R w d) (e:w.heap.size<=g) (o) (x:ε):Ο R w (ŝ d ⟨g,o,O⟩ x):=
 ⟨by simpa using h.1,fun b a c=>(Γ _ _ _ _ ϑ).trans (h.2.1 b a c),h.2.2.S (Ζ _) x⟩
def hZ.M {T g lo lo' p} {w:β} {b:γ} (h:hZ T g lo w b p) (i:lo'<=lo):hZ T g lo' w b p:=by
 obtain⟨a,n,c,d,e,f⟩:=h;exact⟨a,n,c,d,e,f.M i⟩
def qK (R:Nat):ε:=.func (.func 271) #[] #[þ (J ⟨R,0,O⟩)]
def uP (R:Nat):ε:=.func (.func 272) #[] #[þ (J ⟨R,0,O⟩)]
structure ux (R N D F:Nat) (w:β) (from_:Int) (B:γ) (p:Nat):Prop where
 rs:RS 211 R w B p
 n:w.heap[N]?=J (C #[qK R] 243 (0,0))
 d:w.heap[D]?=J (C #[uP R] 362 (0,0))
 f:w.heap[F]?=J (C #[G from_] 3 (0,0))
 ne:R≠N/\R≠D/\R≠F/\F≠N/\F≠D
def Kw (R N D F p tt links from_ root B pre post w) (h:ux R N D F w from_ B p) (X:B=pre++(ο tt++(ο links++(root++post)))) (s:tt<=4611686018427387904) (M:links<=4611686018427387904) (aQ:L root=32) (aa:L pre=p) (Z:L B<=1000000000) :
  Calls prog 273 #[þ (J ⟨F,0,O⟩),þ (J ⟨N,0,O⟩),þ (J ⟨D,0,O⟩)] w fun e w'=>e=ŗ (ā #[G from_,G tt,G links,š (δ root)])/\ux R N D F w' tt B (p+L (ο tt)+L (ο links)+32)/\iz R F w w'/\hZ 211 R w.heap.size w' B (p+L (ο tt)+L (ο links)+32):=by
 obtain⟨aA,aq,am,hF,⟨x,H,I,aj,ak⟩⟩:=h;have bP:R<w.heap.size:=by obtain⟨b0,n,b1,al,-,-⟩:=aA;exact ς al
 have bO:=ς aq;have bM:=ς am;have bN:=ς hF;obtain⟨p1,ab⟩:∃ q,p+L (ο tt)=q:=⟨_,rfl⟩;obtain⟨p2,ax⟩:∃ q,p1+L (ο links)=q:=⟨_,rfl⟩;obtain⟨bE,ba⟩:∃ q,p2+32=q:=⟨_,rfl⟩;have a5:B=(pre++ο tt)++(ο links++(root++post)):=by rw[X];simp
 have S:B=((pre++ο tt)++ο links)++(root++post):=by rw[X];simp
 have a:=Zx (fun d h=>xe R p tt B pre _ d h X s aa Z);have ag:=Zx (fun d h=>xe R p1 links B _ _ d h a5 M (by rw[σ,aa,ab]) Z);have ah:=Zx (fun d h=>Dz R p2 root B _ post d h S aQ (by rw[σ,σ,aa,ab,ax]) Z);rw[ab]at a ⊢;rw[ax]at ag ⊢;rw[ba]at ah ⊢;have al:∀ c d,(callFunc 271 c).run prog d=.ok (.enter 271 c) d:=iW func271 ϋ rfl;have bv:∀ c d,(callFunc 272 c).run prog d=.ok (.enter 272 c) d:=iW func272 ϋ rfl;obtain⟨bd,bR,y⟩:=fO (w:=w) (A:=C #[G 0,G 0,G 0,š ⟨#[]⟩] 198) RZ;go_enter func273,ntmps273;go_upto_region 1 with fail
 have bD:w.heap.size+1=(å w (C #[G 0,G 0,G 0,š ⟨#[]⟩] 198)).heap.size:=ύ;have bi:=aA.B ((ρ _ w).A NZ (C #[G 0,G 0,G 0,š ⟨#[]⟩] 198));generalize å w _=g at *;have ar:=θ aq y;have aR:=θ am y;have ao:=θ hF y;obtain⟨W,-,-⟩:=gC ar;obtain⟨ai,-,-⟩:=gC ao;go_cut [4] (fun bs wc=>∃ r,bs=þ (J ⟨r,0,O⟩)/\wc.heap[r]?=J (C #[G from_,G tt] 89 (0,0))/\g.heap.size<=r/\hZ 211 R g.heap.size wc B p1/\Ο R g wc)
 case first =>
  have bq:N≠R:=fun e=>x e.symm;have bp:F≠R:=fun e=>I e.symm;refine ϯ (fun V=>Ο R g V) 5 ϋ ?_;have f:=(Ο.refl R g).B RZ.drew;have T:=bi.B (ρ _ g).drew;generalize bC:g.drew=wd at *;refine Zb 0 [3,5] f ?_ (hy:=by intro d m;have x:=Ο.cell m bp ai;go_simp;try with_reducible rfl);refine Zb 1 [2,3,5] f ?_ (hy:=by intro d m;have bt:=Ο.cell m bq W;go_simp;try with_reducible rfl);refine rE (fuel:=3) 2 4 ϋ rfl rfl ?_ ?_
  .skip
   intro K k;unfold qK;go_simp;refine(a.o _ T).M ?_;rintro e o ⟨rfl,-,j,bb⟩;have i:=f.trans j;refine k _ _ i ?_;try simp only[Zp]
   refine Zf 3 i ?_;have l:=i.B ((ρ _ o).A NZ (C #[G 0,G 0] 89));have z:=φ o (C #[G 0,G 0] 89);refine Κ  4 ϋ rfl ?_;intro K k;go_simp;refine k _ _ l ?_;have aK:=Zx (fun b Q=>hM o (C #[G 0,G 0] 89) b Q);generalize å o _=aF at *;try simp only[Zp]
   obtain⟨⟨aH,aI⟩,⟨aP,f1⟩,-⟩:=ν z;have Y:hZ 211 R g.heap.size (ŝ (ŝ aF ⟨o.heap.size,0,O⟩ (G from_)) ⟨o.heap.size,1,O⟩ (G tt)) B p1:=(bb.stays (by simp;have:=ς z;omega) fun b Q _=>by
    rw[Γ _ _ _ _ ϑ,Γ _ _ _ _ ϑ];exact aK.o b Q).M f.1
   have v:=Zx (Ν (fS z (G from_) (G tt)) (Ν i.1 (Ν Y ((l.hi  i.1 0 (G from_)).hi  i.1 1 (G tt)))));refine Zl ?_;refine Zd ?_;go_wp2_with fail
   go_meet;case rel=>exact⟨ _,rfl,v.o⟩
  .skip
   intro K k;go_simp;have S:BQ wd (å wd (C #[G 0,G 0] 89)):=ġ;have l:=f.B S;have bc:=T.B S;have z:=φ wd (C #[G 0,G 0] 89);refine k _ _ l ?_;have ac:=f.1;generalize å wd _=aF at *;try simp only[Zp]
   refine Κ  2 ϋ rfl ?_;intro K k;unfold qK;go_simp;refine(a.o _ bc).M ?_;rintro e o ⟨rfl,-,j,be⟩;have i:=l.trans j;refine k _ _ i ?_;try simp only[Zp]
   refine Zf 3 i ?_;have a9:=ς z;have az:=(j.2.1 _ a9 U).trans z;obtain⟨⟨aH,aI⟩,⟨aP,f1⟩,-⟩:=ν az;have Y:hZ 211 R g.heap.size (ŝ (ŝ o ⟨wd.heap.size,0,O⟩ (G from_)) ⟨wd.heap.size,1,O⟩ (G tt)) B p1:=by
    refine(be.stays (w':=(ŝ (ŝ o ⟨wd.heap.size,0,O⟩ (G from_)) ⟨wd.heap.size,1,O⟩ (G tt))) ύ fun b Q aw=>?_).M l.1;rw[Γ _ _ _ _ (by simp only;rcases aw with h|h<;>omega),Γ _ _ _ _ (by simp only;rcases aw with h|h<;>omega)]
   have v:=Zx (Ν (fS az (G from_) (G tt)) (Ν ac (Ν Y ((i.hi  ac 0 (G from_)).hi  ac 1 (G tt)))));refine Zl ?_;refine Zd ?_;go_wp2_with fail
   go_meet;case rel=>exact⟨ _,rfl,v.o⟩
 case rest =>
  obtain⟨r,rfl,ay,bw,bj,j⟩:=hcut;have aY:=(j.2.1 N U (fun e=>x e.symm)).trans ar;have aS:=(j.2.1 D U (fun e=>H e.symm)).trans aR;have ap:=(j.2.1 F U (fun e=>I e.symm)).trans ao;have a2:=(j.2.1 _ U U).trans bd;obtain⟨⟨aE,af⟩,-,bQ⟩:=ν ay;obtain⟨ai,bu,-⟩:=gC ap;have aV:=xI ap (G tt);have bf:=bj.stays (w':=ŝ wc ⟨F,0,O⟩ (G tt)) ύ (fun b s M=>Γ _ _ _ _ (by simp only;rcases M with h|h<;>omega));have aC:iz R F g (ŝ wc ⟨F,0,O⟩ (G tt)):=(iz.ofL j).setF 0 _;have au:=(nA wc F N (fun e=>aj e.symm) (G tt)).trans aY;have aT:=(nA wc F D (fun e=>ak e.symm) (G tt)).trans aS;have a3:=(nA wc F _ U (G tt)).trans a2;have l:=(nA wc F r U (G tt)).trans ay;go_upto_region 3 with fail
  generalize ŝ wc _ _=aN at *;have aJ:=Zx (ag.o aN (bf.rs U));obtain⟨W,-,-⟩:=gC au;have bA:=aC.1;have a8:=ς l;unfold qK at W;go_wp2_with fail
  refine aJ.o.M ?_;rintro e E ⟨rfl,-,u,bg⟩;have aZ:=(u.2.1 N U (fun e=>x e.symm)).trans au;have an:=(u.2.1 D U (fun e=>H e.symm)).trans aT;have aW:=(u.2.1 F U (fun e=>I e.symm)).trans aV;have a4:=(u.2.1 _ U U).trans a3;have a1:=(u.2.1 r a8 U).trans l;have bk:=aC.trans (iz.ofL  u);have bB:=u.1;obtain⟨⟨aE,af⟩,-,-⟩:=ν a1;obtain⟨aO,-,-⟩:=gC an;have bo:D≠R:=fun e=>H e.symm;have ad:r≠R:=U;go_upto_region 4 with fail
  have f:=(Ο.refl R E).B RZ.drew;have T:=(bg.rs U).B (ρ _ E).drew;have aL:=Zx (ah.o _ T);refine ϯ (fun V=>Ο R E V) 5 ϋ ?_;refine Zb 0 [4,5] f ?_ (hy:=by intro d m;have bF:=Ο.cell m ad aE;have ae:=Ο.cell m ad af;go_simp;try with_reducible rfl);refine Zf 1 f ?_;refine Zb 2 [3,4,5] f ?_ (hy:=by intro d m;have ae:=Ο.cell m ad af;have aD:=Ο.cell m bo aO;go_simp;try with_reducible rfl);refine Κ (fuel:=2) 3 ϋ rfl ?_;intro K k;unfold uP;go_simp;refine aL.o.M ?_;rintro e aG ⟨rfl,bx,a6,bh⟩;have t:=f.trans a6;refine k _ _ t ?_;try simp only[Zp]
  refine Zf 4 t ?_;have a0:=(t.2.1 N U (fun e=>x e.symm)).trans aZ;have aU:=(t.2.1 D U (fun e=>H e.symm)).trans an;have aX:=(t.2.1 F U (fun e=>I e.symm)).trans aW;have av:=(t.2.1 _ U U).trans a4;obtain⟨⟨aH,aI,bK,bL⟩,⟨bG,bH,bI,bJ⟩,-⟩:=ϩ av;have aM:=Zx (oh av (G from_) (G tt) (G links) (š (δ root)));have bl:=bk.trans (iz.ofL  t);have P:=fun bn a7=>po aG w.heap.size bn a7 (G from_) (G tt) (G links) (š (δ root));have bz:E.drew.heap.size=E.heap.size:=rfl;have aB:=(bh.stays  ύ (fun b s M=>P b (by rcases M with h|h<;>omega)));have bm:iz R F w (ŝ (ŝ (ŝ (ŝ aG ⟨w.heap.size,0,O⟩ (G from_)) ⟨w.heap.size,1,O⟩ (G tt)) ⟨w.heap.size,2,O⟩ (G links)) ⟨w.heap.size,3,O⟩ (š (δ root))):=by
   have s:=iz.trans ⟨y.size,fun b h _ _=>y.block b h,y.M (Ζ _)⟩ bl;exact⟨by simpa using s.1,fun b ae aD br=>(P b U).trans (s.2.1 b ae aD br),(((s.2.2.S (Ζ _) _).S (Ζ _) _).S (Ζ _) _).S (Ζ _) _⟩
  have v:=Zx (Ν (ux.mk  (aB.rs U) ((P N U).trans a0) ((P D U).trans aU) ((P F U).trans aX) ⟨x,H,I,aj,ak⟩) (Ν bm (aB.M (U:w.heap.size<=E.drew.heap.size))));refine Zl ?_;refine Zd ?_;go_wp2;refine Ω  (jf   rfl _ _ _ _ _ _ _ rfl aM.o underlying198 rfl ϋ) rfl ?_;exact⟨rfl,v.o.1,v.o.2⟩
structure mm (H R N D F X:Nat) (w:β) (fr:Int) (B:γ) (p:Nat) (x0 x1 x2:ε):Prop where
 sg:ux R N D F w fr B p
 h:w.heap[H]?=J (C #[G 0,š ⟨#[]⟩,.slice O 0 0] 123 (0,0))
 x:w.heap[X]?=J (C #[x0,x1,x2] 123 (0,0))
 ne:H≠R/\H≠F/\H≠X/\X≠R/\X≠N/\X≠D/\X≠F
def mm.call {H R N D F X p p' w w' fr fr' B x0 x1 x2} (h:mm H R N D F X w fr B p x0 x1 x2) (a:iz R F w w') (b:ux R N D F w' fr' B p'):mm H R N D F X w' fr' B p' x0 x1 x2:=by
 obtain⟨c,d,n3,e,g,i,f⟩:=h.ne;exact⟨b,(a.2.1 H (ς h.h) c d).trans h.h,(a.2.1 X (ς h.x) e f).trans h.x,h.ne⟩
def mm.call1 {H R N D F X p p'} {w j:β} {fr B x0 x1 x2} (h:mm H R N D F X w fr B p x0 x1 x2) (a:Ο R w j) (f:RS 211 R j B p'):mm H R N D F X j fr B p' x0 x1 x2:=by
 obtain⟨b,c,d,g,i⟩:=h.sg.ne;exact h.call (iz.ofL a) ⟨f,(a.2.1 N (ς h.sg.n) (fun e=>b e.symm)).trans h.sg.n,(a.2.1 D (ς h.sg.d) (fun e=>c e.symm)).trans h.sg.d,(a.2.1 F (ς h.sg.f) (fun e=>d e.symm)).trans h.sg.f,h.sg.ne⟩
def mm.put {H R N D F X p lo w fr B} {x v A c d e:ε} (h:mm H R N D F X w fr B p x v A) (k:hZ 211 R lo w B p) (i:R<lo) (r:X<lo) (o) (y:ε) (z:(ŝ w ⟨X,o,O⟩ y).heap[X]?=J (C #[c,d,e] 123 (0,0))):mm H R N D F X (ŝ w ⟨X,o,O⟩ y) fr B p c d e:=by
 obtain⟨s,t,n3,u,l,m,n⟩:=h.ne;have a:∀ b,b≠X->(ŝ w ⟨X,o,O⟩ y).heap[b]?=w.heap[b]?:=fun b j=>Γ _ _ _ _ j;exact⟨⟨(k.stays  ύ (fun b q f=>a b (by rcases f with g|g<;>omega))).rs i,(a N (Ne.symm l)).trans h.sg.n,(a D (Ne.symm m)).trans h.sg.d,(a F (Ne.symm n)).trans h.sg.f,h.sg.ne⟩,(a H n3).trans h.h,z,h.ne⟩
def PK {w A1 A2 A3 A4 A5 A6 W} (h:W=å (å (å (å (å (å w A1) A2) A3) A4) A5) A6):W.heap[w.heap.size]?=J A1/\W.heap[w.heap.size+1]?=J A2/\W.heap[w.heap.size+1+1]?=J A3/\W.heap[w.heap.size+1+1+1]?=J A4/\W.heap[w.heap.size+1+1+1+1]?=J A5/\W.heap[w.heap.size+1+1+1+1+1]?=J A6/\W.heap.size=w.heap.size+6/\BQ w W:=by
 subst h;have i:Below (å (å (å w A1) A2) A3).heap.size (å (å (å w A1) A2) A3) (å (å (å (å (å (å w A1) A2) A3) A4) A5) A6):=(ġ.A ύ _).A ύ _;obtain⟨d,e,f,-,-,-,g⟩:=oO i;obtain⟨a,b,c,-,-,-,-⟩:=oO (w:=å (å (å w A1) A2) A3) (A:=A4) (Z:=A5) (Y:=A6) RZ;simp only[mh]at a b c;exact⟨d,e,f,a,b,c,ύ,g⟩
def RS.two {R b p:Nat} {w d:β} {a:γ} (h:hZ 211 R p w a p) (c:True):True:=trivial
def EN {w:β} {v:ε} {n sz} {d:List ε} (h:Rd w v n sz d):Α (fun _=>False) w (fun e=>Rd e v n sz d):=by
 intro e m;obtain⟨g,o,a⟩:=h;refine⟨g,o,?_⟩;rcases a with a|⟨b,off,c,p,i,j,k,l⟩
 .exact .inl a
 .refine .inr ⟨b,off,c,p,i,j,k,fun q r hi=>?_⟩
  have:=l q r hi;exact(tX   (m b (ii w _ this) (fun f=>f))).trans this
def Fq {T g} {w e:β} {a n c} {d:γ} (h:Rd w (D a n c) n 1 (η d)) (m:w.heap.size<=g) (f:BQ w e) (i:L d=n) (j:e.heap[g]?=J (C #[D a n c,G 0,G 0] T (0,0))):RS T g e d 0:=
 ⟨a,n,c,j,i,(EN h).step f.size (fun b q _=>f.block b q) fun b k l=>by omega⟩
structure yK (H R N D F X lo:Nat) (docs:List (γ)) (ps:List (Nat×Nat)) (B:γ) (p3 dn:Nat) (LG:γ) (w0:β) (k:Nat) (w:β):Prop where
 ex:∃ ao c,mm H R N D F X w (kb ps k) B (p3+L ((ps.take k).flatMap (ip docs))) (G dn) (š (δ LG)) (.slice ao k c)/\w.ownsRow lo 198 4 (.slice ao k c) k (fP docs (ps.take k))/\lo<=w.heap.size/\Below H w0 w
def Ml {R F lo} {w f:β} {e size n} {v:ε} {i:List ε} (h:w.ownsRow lo e size v n i) (b:iz R F w f) (d:R<lo) (j:F<lo):f.ownsRow lo e size v n i:=
 kA h fun g hg=>by obtain⟨c,a⟩:=Ϡ h g hg;exact b.2.1 g a U U
def mm.B {H R N D F X p} {w c:β} {fr} {a:γ} {e d f:ε} (h:mm H R N D F X w fr a p e d f) (b:BQ w c):mm H R N D F X c fr a p e d f:=h.call1 ((Ο.refl R w).B b) (h.sg.rs.B b)
def iz.cell {R F b o} {w f:β} {x:ε} (h:iz R F w f) (d:b≠R) (e:b≠F) (c:w.cell? ⟨b,o,O⟩=J x):f.cell? ⟨b,o,O⟩=J x:=
 (tX (w:=w) (a:=⟨b,o,O⟩) (h.2.1 b (ii w _ c) d e)).trans c
def iz.low {R F H} {a w g:β} (h:iz R F w g) (b:Below H a w) (d:H<=w.heap.size) (e:H<=R) (i:H<=F):Below H a g:=
 b.trans ⟨h.2.2.os,h.2.2.tape,h.2.2.output,h.1,fun c f=>h.2.1 c U U U⟩
def Ku (a n c) (ď:List (γ)) (ps) (w:β) (am:L (fV ď ps)=n) (aL:Rd w (D a n c) n 1 (η (fV ď ps))) (S:Ϻ ď ps (L ď)) :
  Calls prog 204 #[D a n c] w fun e w'=>∃ A c,e=ŗ (.tuple #[ā #[G (L ď),š (δ (ϡ ď)),D A (L ps) c],G 0])/\Hi w.heap.size w' (fun ck=>Rd ck (D A (L ps) c) (L ps) 4 (fP ď ps))/\BQ w w':=by
 have ac:L (ϡ ď)=32:=mY (kv _);have V:=ke S;have cJ:=S.nd;have cK:=S.np;have ar:=Zx (fun cj i h=>Dx _ _ cj ď ps i ac h S);have bo:=Zx (fun d (r:d<L ps)=>nC S r);have c1:=Zx (fun d r=>nU S.ch d r);obtain⟨o,aT⟩:∃ o,fV ď ps=o:=⟨_,rfl⟩;have Y:o=[]++(ο (L ď)++(ϡ ď++(ο (L ps)++ps.flatMap (ip ď)))):=by rw[<-aT];simp[fV]
 obtain⟨p1,aK⟩:∃ q,L (ο (L ď))=q:=⟨_,rfl⟩;obtain⟨p2,a2⟩:∃ q,p1+32=q:=⟨_,rfl⟩;obtain⟨M,bX⟩:∃ q,p2+L (ο (L ps))=q:=⟨_,rfl⟩;rw[aT]at am aL V;have ah:L o<=1000000000:=U;have ao:=Zx (fun j i h=>xe j 0 _ o _ _ i h Y U rfl ah);have aO:=Zx (fun j i h=>Dz j p1 _ o _ (ο (L ps)++ps.flatMap (ip ď)) i h (by rw[Y];simp) ac aK ah);have ap:=Zx (fun j i h=>xe j p2 (L ps) o (ο (L ď)++ϡ ď) (ps.flatMap (ip ď)) i h (by rw[Y];simp) U (by rw[σ,ac,aK,a2]) ah);have bs:=Zx (fun d r j N s m q (bY:q=M+L ((ps.take d).flatMap (ip ď))) i h=>Kw j N s m q (kb ps (d+1)) (L (Δ ď ps[d])+1) (kb ps d) (ib (Δ ď ps[d])) o (ο (L ď)++(ϡ ď++(ο (L ps)++(ps.take d).flatMap (ip ď)))) ((ps.drop (d+1)).flatMap (ip ď)) i h (by
   have ax:ps=ps.take d++(ps[d]::ps.drop (d+1)):=by rw[<-lL r,pG]
   have af:=jp (List.flatMap (ip ď)) ax
   rw[pI,lF]at af
   have ag:=(c1.o d r).2.1
   rw[Y,af]
   unfold ip
   rw[ag]
   simp) (gw (c1.o d r).2.2.2 (c1.o d r).2.1) (ι (bo.o d r).2.2) (qB _) (by simp only[σ,ac];omega) ah)
 have bu:=Zx (fun d r=>show(L ((ps.take _).flatMap (ip ď)))=L ((ps.take d).flatMap (ip ď))+(L (ο (kb ps (d+1)))+L (ο (L (Δ ď ps[d])+1))+32)by
   rw[jt r,pI,σ]
   have ag:=(c1.o d r).2.1
   have bD:=qB (Δ ď ps[d])
   simp only[lF,List.flatMap_nil,iy,ip,σ,bD,ag])
 have be:ϫ (M+L (ps.flatMap (ip ď))=n):=⟨by rw[<-am,Y];simp only[js,σ,ac];omega⟩;rw[iI,aK]at ao;rw[a2]at aO;rw[bX]at ap;have⟨aQ,bq⟩:=ϟ am aL;clear am aL;generalize ϡ ď=y at *;obtain⟨B,bM⟩:∃ q,L ď=q:=⟨_,rfl⟩;obtain⟨f,aH⟩:∃ q,L ps=q:=⟨_,rfl⟩;have bm:=Zx aH;rw[bM]at ao ar ⊢;rw[aH]at ap ar ⊢;have cI:¬(64:Int)<(f:Int):=U;clear aH;have cL:=fun(i:β) a c0 (bC:Array ε) ca=>run_store prog i a (.func c0 #[] bC) ca rfl;have a4:=PK (w:=w) (A1:=C #[G 0,š ⟨#[]⟩,D O 0 0] 123) (A2:=C #[D a n c,G 0,G 0] 211) (A3:=C #[qK (w.heap.size+1)] 243) (A4:=C #[uP (w.heap.size+1)] 362) (A5:=C #[G 0] 3) (A6:=C #[G 0,š ⟨#[]⟩,D O 0 0] 123) rfl;unfold qK uP at a4;go_enter func204,ntmps204;go_upto_region 7 with fail
 generalize(å (å (å (å (å (å w _) _) _) _) _) _)=z at *;obtain⟨cf,ch,cg,rD,ce,ci,cV,az⟩:=a4;have cx:∀ H i,(callFunc 271 H).run prog i=.ok (.enter 271 H) i:=iW func271 ϋ rfl;have cy:∀ H i,(callFunc 272 H).run prog i=.ok (.enter 272 H) i:=iW func272 ϋ rfl;have cz:∀ H i,(callFunc 273 H).run prog i=.ok (.enter 273 H) i:=iW func273 ϋ rfl;have bZ:=Fq bq.o U az aQ.o ch;generalize cv:w.heap.size+1=j at *;generalize cu:j+1=N at *;generalize cs:N+1=s at *;generalize ct:s+1=m at *;generalize cw:m+1=k at *;have l:ϫ (w.heap.size<j/\j<N/\N<s/\s<m/\m<k/\k<z.heap.size):=⟨U⟩;have aD:mm w.heap.size j N s m k z 0 o 0 (G 0) (š ⟨#[]⟩) (D O 0 0):=⟨⟨bZ,cg,rD,ce,ι l.o⟩,cf,ci,ι l.o⟩;obtain⟨av,-,-⟩:=gC aD.sg.n;unfold qK at av;go_upto_region 8 with
  (refine(ao.o _ _ aD.sg.rs).M ?_
   rintro e E ⟨rfl,b0,R,aI⟩
   have x:=aD.call1 R b0
   obtain⟨⟨cm,cn,co⟩,⟨aw,f1,f2⟩,-⟩:=Β x.x)
 have aE:=x.put aI (ι l.o) (ι l.o) 0 (G B) (υ _ k 0 _ _ _ x.x);have cD:z.heap.size<=(ŝ E ⟨k,0,O⟩ (G B)).heap.size:=by simpa using R.1
 have aY:BQ w (ŝ E ⟨k,0,O⟩ (G B)):=(R.to az (ι az.size) (ι l.o)).S (by simp only;omega) _;generalize ŝ E _ _=cp at *;obtain⟨bA,-,-⟩:=gC aE.sg.d;unfold uP at bA;go_upto_region 9 with
  (refine(aO.o _ _ aE.sg.rs).M ?_
   rintro e aN ⟨rfl,b1,aB,bS⟩
   have aF:=aE.call1 aB b1
   obtain⟨⟨cm,cn,co⟩,⟨aw,f1,f2⟩,-⟩:=Β aF.x)
 have aG:=aF.put bS (ι l.o) (ι l.o) 1 (š (δ y)) (υ _ k 1 _ _ _ aF.x);have bL:z.heap.size<=(ŝ aN ⟨k,1,O⟩ (š (δ y))).heap.size:=by have:=aB.1;simp;omega
 have aZ:BQ w (ŝ aN ⟨k,1,O⟩ (š (δ y))):=(aB.to aY (ι aY.size) (ι l.o)).S (by simp only;omega) _;generalize ŝ aN _ _=cq at *;obtain⟨av,-,-⟩:=gC aG.sg.n;unfold qK at av;go_upto_region 10 with
  (refine(ap.o _ _ aG.sg.rs).M ?_
   rintro e P ⟨rfl,b2,aC,aJ⟩
   have ab:=aG.call1 aC b2)
 have I:=gj bL aC.1;have bJ:=aC.to aZ (ι aZ.size) (ι l.o);have bl:yK w.heap.size j N s m k z.heap.size ď ps o M B y w 0 P:=⟨O,0,ab,gQ P _ _ 4,I,bJ⟩;obtain⟨b9,bO,b6,b7,b8⟩:=Ϩ DI;have cH:=bm.o;go_wp2_with fail
 go_loopw [29] (fun aM wr=>∃ d:Nat,aM=G (d:Int)/\d<=f/\yK w.heap.size j N s m k z.heap.size ď ps o M B y w d wr) (fun aM _=>f - (intOf aM).toNat)
 .exact⟨0,rfl,Ζ _,bl⟩
 obtain⟨d,rfl,cF,a1⟩:=hrel;by_cases r:d<f
 .have cE:(d:Int)<(f:Int):=U
  have ak:d<L ps:=U;have cr:IntKind.i64.wrap ((d:Int)+1)=((d+1:Nat):Int):=Ϗ;obtain⟨A,K,t,T,a5,aA⟩:=a1.ex;have cc:=t.ne.2.2.2.1;have cb:=t.ne.2.2.2.2.2.2;have aU:=c1.o d ak;have bG:=AP ď ps d ak;have bQ:=t.B (ρ _ wr).drew;have bt:=Zx (bs.o d ak j N s m _ rfl _ bQ.sg);have cG:=bu.o d ak;generalize bY:M+L ((ps.take d).flatMap _)=q at *;have bp:ϫ (q+L (ο (kb ps (d+1)))+L (ο (L (Δ ď ps[d])+1))+32=M+L ((ps.take (d+1)).flatMap (ip ď))):=⟨U⟩;generalize q+L (ο _)+L (ο _)+32=cd at *;have aq:ϫ (fP ď (ps.take d)++[G (kb ps d),G (kb ps (d+1)),G ((L (Δ ď ps[d])+1:Nat):Int),š (δ (ib (Δ ď ps[d])))]=fP ď (ps.take (d+1))):=⟨by rw[bG];unfold ma;rw[aU.1,aU.2.1]⟩;generalize ib _=bb at *;generalize(L (Δ ď _))+1=aR at *;generalize aW:kb ps (d+1)=au at *;generalize cA:kb ps d=aS at *;have bg:=Zx aW;clear aW;obtain⟨⟨-,-,bB⟩,-,-⟩:=Β t.x;go_upto_region 14 with fail
  have ai:iz j m wr wr.drew:=iz.ofL ((Ο.refl j wr).B RZ.drew);refine ϯ (fun bx=>iz j m wr bx) 5 ϋ ?_;refine Zf 0 ai ?_;refine Zk 1 ai ?_ (hy:=by intro i bH;have cP:=iz.cell bH cc cb bB;go_simp;try with_reducible rfl);refine Zf 2 ai ?_;refine Κ (fuel:=4) 3 ϋ rfl ?_;intro ad F;go_simp;refine bt.o.M ?_;rintro e E ⟨rfl,b3,R,aI⟩;have Z:=ai.trans R;refine F _ _ Z ?_;try simp only[Zp]
  generalize cM:wr.drew.heap.size=ae at *;have cB:z.heap.size<=ae:=by have:wr.drew.heap.size=wr.heap.size:=rfl;omega
  have x:=t.call Z b3;have bT:=Ml T Z (ι l.o) (ι l.o);have bW:∀ g,(Value.slice A d K).ownBlock=J g->z.heap.size<=g/\g<ae:=fun g hg=>⟨(Ϡ T g hg).1,by have:=(Ϡ T g hg).2;have ag:wr.drew.heap.size=wr.heap.size:=rfl;omega⟩;have V:BQ E (å E (C #[G aS,G au,G aR,š (δ bb)] 198)):=ġ;have al:=Z.low aA (gj (ι l.o) a5) (ι l.o) (ι l.o);refine Κ  4 ϋ rfl ?_;intro ad F;go_simp;have bF:=Z.B V;refine F _ _ bF ?_;try simp only[Zp]
  have bU:=ψ bT V;have cO:ae<=E.heap.size:=ι R.1;refine jF  ϋ ϋ rfl ?_;intro ad F;refine lD rfl _ _ _ _ rfl _ 198 b9 _ 4 _ underlying121 bO b6 b7 b8 rfl _ d _ ϔ bU _ 1 [G aS,G au,G aR,š _] ϔ (gh underlying121 E _ 4 1 1 rfl ϗ) ώ U ό ?_;intro cQ P an aa cN;obtain⟨W,X,rfl⟩:=Η an;rw[aq.o]at an;have a0:∀ b,b<E.heap.size->(b<z.heap.size\/ae<=b)->P.heap[b]?=E.heap[b]?:=fun b p1 p2=>(aa.block b ό (fun e=>ι (bW b e.symm))).trans (V.block b p1);have a6:=gj V.size aa.size;have I:=fun b p1=>a0 b U (.inl p1);have aJ:=aI.stays  a6 (fun b ax af=>a0 b ax (by rcases af with h|h<;>omega));have ab:mm w.heap.size j N s m k P au o cd (G B) (š (δ y)) (D A d K):=⟨⟨aJ.rs U,(I N U).trans x.sg.n,(I s U).trans x.sg.d,(I m U).trans x.sg.f,x.sg.ne⟩,(I _ U).trans x.h,(I k U).trans x.x,x.ne⟩;have bP:=ab.put aJ U U 2 (D W (d+1) X) (υ _ k 2 _ _ _ ab.x);have bV:(ŝ P ⟨k,2,O⟩ (D W (d+1) X)).ownsRow z.heap.size 198 4 (D W (d+1) X) (d+1) (fP ď (ps.take (d+1))):=kA an (fun g hg=>Γ _ _ _ _ (by have:=(Ϡ an g hg).1;simp only;omega));have bR:BQ w (ŝ P ⟨k,2,O⟩ (D W (d+1) X)):=(al.trans ⟨(aa.os.trans V.os),(aa.tape.trans V.tape),(aa.output.trans V.output),a6,fun b cC=>I b U⟩).S ϑ _;have bn:=Zx (show yK _ j N s m k _ ď ps o M B y w _ _ from⟨W,X,by rw[bg.o,<-bp.o];exact bP,bV,ό,bR⟩);obtain⟨⟨a8,a9,ba⟩,⟨aw,f1,f2⟩,-⟩:=Β ab.x;refine F _ _ ?_;try simp only[Zp]
  refine rC  6 ϋ rfl ϋ ?_;intro ad F;go_simp;refine F _ _ ?_;try simp only[Zp]
  refine rC  7 ϋ rfl ϋ ?_;intro ad F;go_simp;refine F _ _ ?_;refine Zd ?_;go_wp2_with fail
  go_roundw
  .exact⟨d+1,rfl,U,bn.o⟩
  exact ω
 .obtain rfl:d=f:=U
  obtain⟨A,K,t,T,a5,aA⟩:=a1.ex;have b5:ps.take d=ps:=gF U;rw[b5]at t T;have bN:=be.o;obtain⟨bz,a7,c2,a3,bE,-⟩:=t.sg.rs;obtain rfl:a7=n:=bE.symm.trans aQ.o;rw[bN]at a3;have aP:=Zx (Hi.own T);have bd:=Zx (fun i=>sQ bz a7 c2 i);have⟨bh,bv⟩:=ϟ t.h t.x;have al:w.heap.size<=wr.heap.size:=U;obtain⟨⟨r0,r1,r2⟩,-,-⟩:=Β a3;clear t;rename_i aV;have bf:=Zx aV;clear aV;go_wp2_with fail
  refine bf.o _ _ ?_;go_upto_region 17 with
   (go_at_call 131;refine(bd.o _).M ?_
    rintro e cl ⟨rfl,Q⟩)
  have ay:=θ bv.o Q;have⟨bi,br⟩:=ϟ (θ bh.o Q) (ar.o _ cl (aP.o.B Q).now);have bK:=aA.trans (Q.M al);have bj:=Zx (aP.o.B Q);have b4:=gj al Q.size;obtain⟨⟨a8,a9,ba⟩,-,-⟩:=Β ay;have bw:=Zx ay;clear ay;go_upto_region 19 with fail
  go_upto_region 21 with
   (go_at_call 193;refine br.o.M ?_
    rintro e cR ⟨rfl,aj⟩)
  have bI:=θ bw.o aj;have aX:=θ bi.o aj;have aq:=Zx (jz aX (G B) (š (δ y)) (D A d K));have bk:=Zx ((((bj.o.B aj).set (p:=⟨w.heap.size,0,O⟩) (by simp only;omega) (G B)).set (p:=⟨w.heap.size,1,O⟩) (by simp only;omega) (š (δ y))).set (p:=⟨w.heap.size,2,O⟩) (by simp only;omega) (D A d K));have bc:=Zx (kY (bK.trans (aj.M b4)) (Nat.le_refl _) (G B) (š (δ y)) (D A d K));obtain⟨⟨a8,a9,ba⟩,-,-⟩:=Β bI;obtain⟨⟨cS,cT,cU⟩,⟨aw,f1,f2⟩,-⟩:=Β aX;go_wp2_with fail
  refine Ω (v:=.tuple #[ā _,G 0]) (gz  (u:=3)  rfl _ _ _ _ _ _ _ rfl aq.o underlying123 rfl ϋ) rfl ?_;exact⟨A,K,rfl,bk.o.M (ι l.o),bc.o⟩
def Bz (b:TypeId) (a:γ) (w:β) (e:Ending) (c:β):Prop:= ∃ g,e=ŗ (.tuple #[þ (J ⟨g,0,O⟩),G 0])/\RS b g c a 1/\w.heap.size<=g/\Below w.heap.size w c
def AJ (a n c k) (l:γ) (w:β) (f:L (k::l)=n) (x:n<=1048576) (e:Rd w (D a n c) n 1 (η (k::l))) :
  Calls prog 128 #[D a n c,ĭ .u8 (k.toNat:Int)] w (Bz 238 (k::l) w):=by
 have p:0<n:=by rw[<-f];simp
 obtain⟨b,o,rfl,y,v⟩:=uH e p;have j:=Zx (EN e);obtain⟨-,-,⟨-,-,-,u⟩|⟨s,E,t,g,-,-,-,m⟩⟩:=e
 .omega
 simp only[Χ,Φ,Addr.mk.injEq,it,ϵ]at g;obtain⟨⟨rfl,rfl⟩,rfl⟩:=g;have c0:=m 0 _ (by simp[η];rfl);unfold ch at c0;simp only[kG]at c0;have z:¬(1048576:Int)<(n:Int):=U;have i:=Zx f;generalize(k.toNat:Int)=B at *;obtain⟨r,-,d⟩:=fO (w:=w) (A:=C #[D (J ⟨b,o,O⟩) n c,G 1,G 0] 238) RZ;have h:ϫ (Bz 238 (k::l) w (ŗ (.tuple #[þ (J ⟨w.heap.size,0,O⟩),G 0])) (å w (C #[D (J ⟨b,o,O⟩) n c,G 1,G 0] 238))):=
  ⟨w.heap.size,rfl,⟨_,_,_,r,i.o,j.o.step d.size (fun b q _=>d.block b q) fun b F H=>by omega⟩,NZ,d⟩
 go_enter func128,ntmps128;go_wp2;go_ret2;exact h.o
def uq (d:TypeId) (g:Nat) (b:γ) (p:Nat) (h:List (γ)) (i:List (Nat×Nat)) (w:β) (e:Ending) (j:β):Prop:= ∃ a c,e=ŗ (ā #[G (L h),š (δ (ϡ h)),D a (L i) c])/\hZ d g w.heap.size j b p/\Ο g w j/\Hi w.heap.size j (fun f=>Rd f (D a (L i) c) (L i) 4 (fP h i))
def xK (g p) (ď:List (γ)) (ps) (l pre post:γ) (w:β) (h:RS 238 g w l p) (ah:l=pre++(Ξ (fV ď ps)++post)) (aw:L pre=p) (ar:L l<=1000000000) (N:Ϻ ď ps (L ď)) :
  Calls prog 129 #[þ (J ⟨g,0,O⟩)] w (uq 238 g l (p+L (Ξ (fV ď ps))) ď ps w):=by
 have aM:=ke N;obtain⟨az,aH,B⟩:=fO (w:=w) (A:=C #[G 0,š ⟨#[]⟩,D O 0 0] 123) RZ;have t:=Zx (xC g p 10000 _ l pre post _ (h.B B) ah U aw ar);have ag:((10000:Nat):Int)=10000:=U;rw[ag]at t;have a1:=Zx (fun a n c ac au ax=>Ku a n c ď ps ac au ax N);have aN:g<w.heap.size:=by obtain⟨a,n,c,af,-,-⟩:=h;exact ς af
 unfold uq;generalize p+L (Ξ _)=p1 at *;generalize fV ď ps=s at *;generalize ϡ ď=f at *;generalize fP ď ps=aJ at *;generalize(L ď:Int)=i at *;generalize (L ps)=j at *;go_enter func129,ntmps129;go_upto_region 1 with fail
 generalize å w _=ad at *;go_upto_region 2 with
  (refine t.o.M ?_
   rintro e M ⟨rfl,-,q,ay⟩)
 obtain⟨x,K,I,E,av,ap⟩:=ay;have aA:=(q.2.1 _ aH U).trans az;obtain⟨aK,u,aL,am,aq,aP⟩:=qV M s (L s) rfl U;have⟨V,Q,S,Y,a0⟩:=lM (a1.o _ _ _ u rfl aq.now) q E ap am;have aa:=Zx aA;have aO:=q.1;obtain⟨⟨c0,c1,c2⟩,⟨y,f1,f2⟩,aI⟩:=Β E;go_wp2_with fail
 refine V.o.M ?_;rintro e k ⟨b,d,rfl,r,m⟩;have⟨W,P⟩:=ϟ r m;go_upto_region 5 with fail
 have r:=W.o;have m:=P.o;have aQ:=m.size;have H:=φ k (C #[G i,š (δ f),D b j d] 123);have o:BQ M (å k (C #[G i,š (δ f),D b j d] 123)):=(a0.o.trans (m.M U)).A U _;have F:=θ S.o o;have ak:=θ aa.o o;have ao:(ŝ (å k (C #[G i,š (δ f),D b j d] 123)) ⟨g,2,O⟩ (G 0)).heap[g]?=J (C #[D x K I,G (p1:Int),G 0] 238 (0,0)):=υ _ g 2 _ _ _ F;have z:(ŝ (å k (C #[G i,š (δ f),D b j d] 123)) ⟨g,2,O⟩ (G 0)).heap[w.heap.size]?=_:=(Γ _ _ _ _ ϑ).trans ak;have ai:(ŝ (å k (C #[G i,š (δ f),D b j d] 123)) ⟨g,2,O⟩ (G 0)).heap[k.heap.size]?=_:=(Γ _ _ _ _ ϑ).trans H;have aj:=(Y.o.B o).set (p:=⟨g,2,O⟩) (U:g<ad.heap.size) (G 0);have al:=(r.A (C #[G i,š (δ f),D b j d] 123)).set (p:=⟨g,2,O⟩) (U:g<u.heap.size) (G 0);have an:=((((Ο.refl g w).B B).trans Q.o).B o).set 2 (G 0);obtain⟨⟨aB,aC,aD⟩,⟨y,f1,f2⟩,aI⟩:=Β F;obtain⟨⟨aE,aF,aG⟩,-,-⟩:=Β H;go_upto_region 6 with fail
 generalize ŝ (å k (C #[G i,š (δ f),D b j d] 123)) ⟨g,2,O⟩ (G 0)=ae at *;have⟨Z,T,X,ab,R⟩:=lM (jz z (G i) (š (δ f)) (D b j d)) ((kN ae w.heap.size g U (G i) (š (δ f)) (D b j d)).trans ao) (lU aj (g:=w.heap.size) U (G i) (š (δ f)) (D b j d)) (lU al (g:=w.heap.size) U (G i) (š (δ f)) (D b j d)) (((an.hi NZ 0 (G i)).hi NZ 1 (š (δ f))).hi NZ 2 (D b j d));obtain⟨⟨aE,aF,aG⟩,-,-⟩:=Β ai;obtain⟨⟨aB,aC,aD⟩,⟨y,f1,f2⟩,-⟩:=Β z;go_wp2;refine Ω (v:=ā #[G i,š (δ f),D b j d]) (jf (p:=2) (ty:=123) rfl _ _ w.heap.size 123 _ (0,0) _ rfl Z.o underlying123 rfl ϋ) rfl ?_;exact⟨b,d,rfl,⟨x,K,I,T.o,av,X.o.M U⟩,R.o,ab.o.M U⟩
def hZ.set {T g lo p S} {w:β} {a:γ} (h:hZ T g lo w a p) (d:S<lo) (e:S≠g) (o) (x:ε):hZ T g lo (ŝ w ⟨S,o,O⟩ x) a p:=
 h.stays ύ fun b _ c=>Γ _ _ _ _ (by simp only;rcases c with h|h<;>omega)
def hZ.stp {T g lo p} {w e:β} {a:γ} (h:hZ T g lo w a p) (c:BQ w e):hZ T g lo e a p:=h.stays c.size fun b d _=>c.block b d
def Ο.row {g S} {w c:β} {o} (h:Ο g w c) (b:S≠g) (a:w.heap[S]?=J o):c.heap[S]?=J o:=(h.2.1 S (ς a) b).trans a
def Hi.oneCh {g lo} {w e:β} {R:β->Prop} (h:Hi lo w R) (f:g<lo) (a:Ο g w e):Hi lo e R:=h.step a.1 fun b d c=>a.2.1 b c U
structure lv (g R S lo:Nat) (zr cs:Obj) (w:β) (B:γ) (p:Nat) (X:β->Prop) (W:β):Prop where
 rs:hZ 238 g lo W B p
 r:W.heap[R]?=J zr
 s:W.heap[S]?=J cs
 b:Below R w W
 x:Hi lo W X
 z:lo<=W.heap.size/\R<g/\g<S/\S<lo
def lv.call {g R S lo zr cs w B p X} {c b:β} {q} (h:lv g R S lo zr cs w B p X c) (d:hZ 238 g c.heap.size b B q) (a:Ο g c b):lv g R S lo zr cs w B q X b:=by
 obtain⟨e,f,i,j⟩:=h.z;exact⟨d.M e,a.row U h.r,a.row U h.s,a.to h.b U U,h.x.oneCh U a,⟨ι a.1,f,i,j⟩⟩
def lv.B {g R S lo zr cs w B p X W V} (h:lv g R S lo zr cs w B p X W) (a:BQ W V):lv g R S lo zr cs w B p X V:=by
 obtain⟨e,b,c,d⟩:=h.z;exact⟨h.rs.stp a,θ h.r a,θ h.s a,h.b.trans (a.M U),h.x.B a,⟨ι a.size,b,c,d⟩⟩
def lv.set {g R S lo zr} {b:List ε} {T w B p X W} (h:lv g R S lo zr (C b.toArray T (0,0)) w B p X W) (k y):lv g R S lo zr (C (b.set k y).toArray T (0,0)) w B p X (ŝ W ⟨S,k,O⟩ y):=by
 obtain⟨c,d,e,a⟩:=h.z;exact⟨h.rs.set a U k y,(Γ _ _ _ _ ϑ).trans h.r,by rw[<-uh];exact υ _ S k _ _ y h.s,h.b.S  ϑ y,h.x.set  a y,⟨by simpa using c,d,e,a⟩⟩
def lv.setR {g R S lo zr} {a:List ε} {T w B p X W} (h:lv g R S lo (C a.toArray T (0,0)) zr w B p X W) (k y):lv g R S lo (C (a.set k y).toArray T (0,0)) zr w B p X (ŝ W ⟨R,k,O⟩ y):=by
 obtain⟨b,c,d,e⟩:=h.z;exact⟨h.rs.set U U k y,by rw[<-uh];exact υ _ R k _ _ y h.r,(Γ _ _ _ _ ϑ).trans h.s,h.b.S  NZ y,h.x.set  ϑ y,⟨by simpa using b,c,d,e⟩⟩
def lv.add {g R S lo zr cs w B p X W} {Y:β->Prop} {b} (h:lv g R S lo zr cs w B p X W) (d:Hi b W Y) (c:lo<=b):lv g R S lo zr cs w B p (fun a=>X a/\Y a) W:=
 ⟨h.rs,h.r,h.s,h.b,h.x.and (d.M c),h.z⟩
def yX (l:List (γ)) (j:List (Nat×Nat)) (k:List (γ)) (i:List (Nat×Nat)) (h:List (γ)) (w:β) (e:Ending) (m:β):Prop:= ∃ c c1 d c2 f a g,e=ŗ (.tuple #[ā #[G (L l),š (δ (ϡ l)),D c (L j) c1,G (L k),š (δ (ϡ k)),D d (L i) c2,D f a g],G 0])/\L h=a/\Hi w.heap.size m (fun b=>Rd b (D c (L j) c1) (L j) 4 (fP l j)/\Rd b (D d (L i) c2) (L i) 4 (fP k i)/\Rd b (D f a g) a 1 (χ h))/\Below w.heap.size w m
def yP (l:List (γ)) (k:List (Nat×Nat)) (j:Nat) (d:γ) (i:List (γ)) (w:β) (e:Ending) (m:β):Prop:= ∃ c c1 f c2 g a h,e=ŗ (.tuple #[ā #[G (L l),š (δ (ϡ l)),D c (L k) c1,G j,D f (L d) c2,D g a h],G 0])/\L i=a/\Hi w.heap.size m (fun b=>Rd b (D c (L k) c1) (L k) 4 (fP l k)/\Rd b (D f (L d) c2) (L d) 1 (η d)/\Rd b (D g a h) a 1 (χ i))/\Below w.heap.size w m
def ND (a n c) (d1 d2:List (γ)) (p1 p2) (d:List (γ)) (w:β) (t:L (nF d1 p1 d2 p2 d)=n) (ar:Rd w (D a n c) n 1 (η (nF d1 p1 d2 p2 d))) (T:Ϻ d1 p1 (L d1)) (b1:Ϻ d2 p2 (L d2)) (aJ:L d<=64) (am:ϱ d) :
  Calls prog 72 #[D a n c] w (yX d1 p1 d2 p2 d w):=by
 have l1:=lE (l:=fV d1 p1) (ι (ke T));have a4:=ke T;have l2:=lE (l:=fV d2 p2) (ι (ke b1));have a5:=ke b1;have a8:=pS am;have ba:=Ϸ 8 (L d) U;have bb:L (gT d)<=9+64*32:=by unfold gT;simp only[σ];omega
 obtain⟨i,an⟩:∃ i,nF d1 p1 d2 p2 d=i:=⟨_,rfl⟩;rw[an]at t ar;have m:i=3::(Ξ (fV d1 p1)++(Ξ (fV d2 p2)++gT d)):=by rw[<-an];simp[nF]
 obtain⟨aa,aR⟩:∃ q,1+L (Ξ (fV d1 p1))=q:=⟨_,rfl⟩;obtain⟨av,aS⟩:∃ q,aa+L (Ξ (fV d2 p2))=q:=⟨_,rfl⟩;obtain⟨x,aT⟩:∃ q,av+L (gT d)=q:=⟨_,rfl⟩;have aK:L i=x:=by rw[m];simp only[ϥ,σ];omega
 have P:L i<=1000000000:=U;have y:=Zx (fun g j h=>xK g 1 d1 p1 i [3] (Ξ (fV d2 p2)++gT d) j h (by rw[m];simp) rfl P T);have z:=Zx (fun g j h=>xK g aa d2 p2 i (3::Ξ (fV d1 p1)) (gT d) j h (by rw[m];simp) (by rw[ϥ];omega) P b1);have b0:=Zx (fun g j h=>AC g av d i (3::(Ξ (fV d1 p1)++Ξ (fV d2 p2))) [] j h (by rw[m];simp) aJ am (by rw[ϥ,σ];omega) P);rw[aR]at y;rw[aS]at z;rw[aT]at b0;have E:=Zx (fun j h=>AJ a n c 3 _ j (by rw[<-m];exact t) U h);rw[<-m]at E;have aP:(((3:UInt8).toNat:Nat):Int)=3:=ϐ;rw[aP]at E;obtain rfl:x=n:=by rw[<-t,aK]
 have ay:=Zx (fun aH aI j=>sQ aH x aI j);have az:=Zx t;unfold yX;unfold uq at y z;unfold wu at b0;generalize ϡ d1=ak at *;generalize fP d1 p1=aZ at *;generalize(L d1:Int)=Y at *;generalize (L p1)=W at *;generalize ϡ d2=al at *;generalize fP d2 p2=a0 at *;generalize(L d2:Int)=Z at *;generalize (L p2)=X at *;obtain⟨aU,aY,ao⟩:=fO (w:=w) (A:=C #[G 0,š ⟨#[]⟩,D O 0 0,G 0,š ⟨#[]⟩,D O 0 0,D O 0 0] 149) RZ;have aA:=Zx (ar.B ao);go_enter func72,ntmps72;go_upto_region 1 with fail
 generalize å w _=aG at *;go_wp2_with fail
 refine(E.o aG aA.o).M ?_;rintro e p ⟨g,rfl,aV,a9,Q⟩;have aj:=Zx aV;go_upto_region 4 with fail
 have R:=(ρ _ p).A NZ (C #[G 0,š ⟨#[]⟩,D O 0 0,G 0,š ⟨#[]⟩,D O 0 0,D O 0 0] 149);have au:=φ p (C #[G 0,š ⟨#[]⟩,D O 0 0,G 0,š ⟨#[]⟩,D O 0 0,D O 0 0] 149);have⟨aC,aB,ai⟩:=iQ (aj.o.B R) (θ (θ aU Q) R) ((ao.t Q).trans (R.M (ι Q.size)));have aO:g<p.heap.size:=by obtain⟨_,_,_,h,-,-⟩:=aj.o;exact ς h
 generalize a6:p.heap.size=F at *;go_upto_region 5 with fail
 generalize å p _=B at *;have⟨s,aD⟩:=ϟ (show w.heap.size<g/\g<F/\F<B.heap.size from⟨U,aO,ς au⟩) au;go_wp2_with fail
 refine(y.o g B aC.o).M ?_;rintro e aw ⟨H,c1,rfl,o,k,S⟩;have b:lv g w.heap.size F B.heap.size _ _ w i aa (fun _=>True) aw:=⟨o,k.row (ι s.o) aB.o,k.row (ι s.o) aD.o,k.to ai.o ai.o.size (ι s.o),fun _ _=>trivial,⟨k.1,s.o⟩⟩;have b:=b.add S NZ;have f:=Zx (((b.set 0 (G Y)).set 1 (š (δ ak))).set 2 (D H W c1));obtain⟨⟨ab,ac,ad,ae,af,ag,ah⟩,ap,ax⟩:=mX b.s;go_upto_region 6 with fail
 generalize(ŝ (ŝ (ŝ aw _ _) _ _) _ _)=aE at *;go_wp2_with fail
 refine(z.o g aE (f.o.rs.rs (ι f.o.z))).M ?_;rintro e aW ⟨I,c2,rfl,o,k,S⟩;have b:=f.o.call o k;have b:=b.add S f.o.z.1;have f:=Zx (((b.set 3 (G Z)).set 4 (š (δ al))).set 5 (D I X c2));obtain⟨⟨ab,ac,ad,ae,af,ag,ah⟩,ap,ax⟩:=mX b.s;go_upto_region 7 with fail
 generalize(ŝ (ŝ (ŝ aW _ _) _ _) _ _)=aF at *;go_wp2_with fail
 refine(b0.o g aF (f.o.rs.rs (ι f.o.z))).M ?_;rintro e aX ⟨M,V,N,rfl,aq,o,k⟩;have b:=f.o.call o k;have b:=b.add (Hi.own aq.2) f.o.z.1;have aL:=aq.1;have f:=Zx (b.set 6 (D M V N));obtain⟨⟨ab,ac,ad,ae,af,ag,ah⟩,ap,ax⟩:=mX b.s;go_upto_region 8 with fail
 generalize(ŝ aX _ _)=a1 at *;obtain⟨a2,nx,a3,aN,aQ,-⟩:=f.o.rs;obtain rfl:nx=x:=aQ.symm.trans az.o;obtain⟨⟨r0,r1,r2⟩,-,-⟩:=Β aN;go_wp2_with fail
 refine(ay.o _ _ _).M ?_;rintro e bk ⟨rfl,aM⟩;have K:=f.o.B aM;obtain⟨⟨ab,ac,ad,ae,af,ag,ah⟩,-,-⟩:=mX K.s;obtain⟨⟨bc,bd,be,bf,bg,bh,bi⟩,a7,aY⟩:=mX K.r;go_upto_region 12 with fail
 have r:=Zx (((((((K.setR 0 (G Y)).setR 1 (š (δ ak))).setR 2 (D H W c1)).setR 3 (G Z)).setR 4 (š (δ al))).setR 5 (D I X c2)).setR 6 (D M V N));go_wp2;refine Ω (v:=.tuple #[ā #[G Y,š _,D H W c1,G Z,š _,D I X c2,D M V N],G 0]) (gz  (u:=3)  rfl _ _ _ _ _ _ _ rfl r.o.r underlying149 rfl ϋ) rfl ?_;exact⟨_,_,_,_,_,_,_,rfl,aL,(r.o.x.imp fun bj h=>⟨h.1.1.2,h.1.2,h.2⟩).M (ι r.o.z),r.o.b⟩
def NC (a n c at') (d:γ) (d1:List (γ)) (p1) (i:List (γ)) (w:β) (z:L (nB d1 p1 at' d i)=n) (ap:Rd w (D a n c) n 1 (η (nB d1 p1 at' d i))) (ab:Ϻ d1 p1 (L d1)) (a8:at'<=1000000) (ba:L d<=2000) (aK:L i<=64) (al:ϱ i) :
  Calls prog 80 #[D a n c] w (yP d1 p1 at' d i w):=by
 have l1:=lE (l:=fV d1 p1) (ι (ke ab));have a6:=ke ab;have l2:=lE (l:=d) U;have bh:=Ϸ 8 at' U;have bc:=pS al;have be:=Ϸ 8 (L i) U;have bf:L (gT i)<=9+64*32:=by unfold gT;simp only[σ];omega
 obtain⟨k,am⟩:∃ k,nB d1 p1 at' d i=k:=⟨_,rfl⟩;rw[am]at z ap;have o:k=2::(Ξ (fV d1 p1)++(ο at'++(Ξ d++gT i))):=by rw[<-am];simp[nB]
 obtain⟨af,aT⟩:∃ q,1+L (Ξ (fV d1 p1))=q:=⟨_,rfl⟩;obtain⟨au,aW⟩:∃ q,af+L (ο at')=q:=⟨_,rfl⟩;obtain⟨ar,aU⟩:∃ q,au+L (Ξ d)=q:=⟨_,rfl⟩;obtain⟨B,aV⟩:∃ q,ar+L (gT i)=q:=⟨_,rfl⟩;have aL:L k=B:=by rw[o];simp only[ϥ,σ];omega
 have y:L k<=1000000000:=U;have N:=Zx (fun g j h=>xK g 1 d1 p1 k [2] (ο at'++(Ξ d++gT i)) j h (by rw[o];simp) rfl y ab);have Q:=Zx (fun g j h=>AB g af at' k (2::Ξ (fV d1 p1)) (Ξ d++gT i) j h (by rw[o];simp) U (by rw[ϥ];omega) y);have s:=Zx (fun g j h=>xC g au _ d k (2::(Ξ (fV d1 p1)++ο at')) (gT i) j h (by rw[o];simp) U (by rw[ϥ,σ];omega) y);have P:=Zx (fun g j h=>AC g ar i k (2::(Ξ (fV d1 p1)++(ο at'++Ξ d))) [] j h (by rw[o];simp) aK al (by simp only[ϥ,σ];omega) y);rw[aT]at N;have aJ:((2000:Nat):Int)=2000:=U;rw[aJ]at s;rw[aW]at Q;rw[aU]at s;rw[aV]at P;have R:=Zx (fun j h=>AJ a n c 2 _ j (by rw[<-o];exact z) U h);rw[<-o]at R;have aR:(((2:UInt8).toNat:Nat):Int)=2:=ϐ;rw[aR]at R;obtain rfl:B=n:=by rw[<-z,aL]
 have aw:=Zx (fun aH aI j=>sQ aH B aI j);have ax:=Zx z;unfold yP;unfold uq at N;unfold wu at P;unfold RP at s Q;generalize ϡ d1=ak at *;generalize fP d1 p1=a2 at *;generalize(L d1:Int)=ae at *;generalize (L p1)=ad at *
 skip
 obtain⟨aX,a1,an⟩:=fO (w:=w) (A:=C #[G 0,š ⟨#[]⟩,D O 0 0,G 0,D O 0 0,D O 0 0] 158) RZ;have ay:=Zx (ap.B an);go_enter func80,ntmps80;go_upto_region 1 with fail
 generalize å w _=aF at *;go_wp2_with fail
 refine(R.o aF ay.o).M ?_;rintro e r ⟨g,rfl,aY,bd,X⟩;have aj:=Zx aY;go_upto_region 4 with fail
 have Y:=(ρ _ r).A NZ (C #[G 0,š ⟨#[]⟩,D O 0 0,G 0,D O 0 0,D O 0 0] 158);have aq:=φ r (C #[G 0,š ⟨#[]⟩,D O 0 0,G 0,D O 0 0,D O 0 0] 158);have⟨aA,az,ai⟩:=iQ (aj.o.B Y) (θ (θ aX X) Y) ((an.t X).trans (Y.M (ι X.size)));have aQ:g<r.heap.size:=by obtain⟨_,_,_,h,-,-⟩:=aj.o;exact ς h
 generalize a7:r.heap.size=S at *;go_upto_region 5 with fail
 generalize å r _=T at *;have⟨x,aB⟩:=ϟ (show w.heap.size<g/\g<S/\S<T.heap.size from⟨U,aQ,ς aq⟩) aq;go_wp2_with fail
 refine(N.o g T aA.o).M ?_;rintro e av ⟨b1,c1,rfl,p,m,aa⟩;have b:lv g w.heap.size S T.heap.size _ _ w k af (fun _=>True) av:=⟨p,m.row (ι x.o) az.o,m.row (ι x.o) aB.o,m.to ai.o ai.o.size (ι x.o),fun _ _=>trivial,⟨m.1,x.o⟩⟩;have b:=b.add aa NZ;have f:=Zx (((b.set 0 (G ae)).set 1 (š (δ ak))).set 2 (D b1 ad c1));obtain⟨⟨E,F,K,H,I,M⟩,Z,ah⟩:=go b.s;go_upto_region 6 with fail
 generalize(ŝ (ŝ (ŝ av _ _) _ _) _ _)=aC at *;go_wp2_with fail
 refine(Q.o g aC (f.o.rs.rs (ι f.o.z))).M ?_;rintro e a0 ⟨rfl,-,m,p⟩;have b:=f.o.call p m;have f:=Zx (b.set 3 (G at'));obtain⟨⟨E,F,K,H,I,M⟩,Z,ah⟩:=go b.s;go_upto_region 7 with fail
 generalize(ŝ a0 _ _)=aD at *;go_wp2_with fail
 refine(s.o g aD (f.o.rs.rs (ι f.o.z))).M ?_;rintro e ag ⟨rfl,-,m,p⟩;have b:=f.o.call p m;obtain⟨c2,aG,a9,aO,aa,bg⟩:=qV ag d _ rfl U;have b:=(b.B aO).add aa (ι b.z);have f:=Zx (b.set 4 (D (J ⟨ag.heap.size,0,O⟩) (L d) c2));obtain⟨⟨E,F,K,H,I,M⟩,Z,ah⟩:=go b.s;go_upto_region 8 with fail
 generalize(ŝ aG _ _)=aE at *;go_wp2_with fail
 refine(P.o g aE (f.o.rs.rs (ι f.o.z))).M ?_;rintro e aZ ⟨V,ac,W,rfl,ao,p,m⟩;have b:=f.o.call p m;have b:=b.add (Hi.own ao.2) f.o.z.1;have aM:=ao.1;have f:=Zx (b.set 5 (D V ac W));obtain⟨⟨E,F,K,H,I,M⟩,Z,ah⟩:=go b.s;go_upto_region 9 with fail
 generalize(ŝ aZ _ _)=a3 at *;obtain⟨a4,nx,a5,aP,aS,-⟩:=f.o.rs;obtain rfl:nx=B:=aS.symm.trans ax.o;obtain⟨⟨r0,r1,r2⟩,-,-⟩:=Β aP;go_wp2_with fail
 refine(aw.o _ _ _).M ?_;rintro e bp ⟨rfl,aN⟩;have b0:=f.o.B aN;obtain⟨⟨E,F,K,H,I,M⟩,-,-⟩:=go b0.s;obtain⟨⟨bi,bj,bk,bl,bm,bn⟩,bb,a1⟩:=go b0.r;go_upto_region 13 with fail
 have t:=Zx ((((((b0.setR 0 (G ae)).setR 1 (š (δ ak))).setR 2 (D b1 ad c1)).setR 3 (G at')).setR 4 (D (J ⟨ag.heap.size,0,O⟩) (L d) c2)).setR 5 (D V ac W));go_wp2;refine Ω (v:=.tuple #[ā #[G ae,š _,D b1 ad c1,G at',D _ _ c2,D V ac W],G 0]) (gz  (u:=3)  rfl _ _ _ _ _ _ _ rfl t.o.r underlying158 rfl ϋ) rfl ?_;exact⟨_,_,_,_,_,_,_,rfl,aM,(t.o.x.imp fun bo h=>⟨h.1.1.2,h.1.2,h.2⟩).M (ι t.o.z),t.o.b⟩
def Kt (da dc sa sc) (W:List (γ)) (ps m) (w:β) (o:ϭ w) (i:Ε w (D da (L W) dc) W) (n:ϣ W w (D sa (L ps) sc) ps) (j:Ϻ W ps m) (N:m≠L W) :
  Calls prog 55 #[ā #[D da (L W) dc,D sa (L ps) sc]] w fun e w'=>e=ŗ (.tuple #[ā #[G 0,š ⟨#[]⟩,D O 0 0],G 7])/\BQ w w':=by
 have d:BQ w (å (å w (C #[D da (L W) dc,D sa (L ps) sc] 44)) (C #[G 0,š ⟨#[]⟩,D O 0 0] 123)):=ġ.A ύ _;obtain⟨a,f⟩:∃ a,a=(å (å w (C #[D da (L W) dc,D sa (L ps) sc] 44)) (C #[G 0,š ⟨#[]⟩,D O 0 0] 123)):=⟨_,rfl⟩;have E:=fZ  (w1:=a)   (by rw[f];exact ρ _ _);obtain⟨B,k,S,T,-⟩:=E;rw[<-f]at d;have t:=Zh (fun b (c:BQ a b)=>(Au _ _ W ps _ b (o.B (d.t c)) (i.B (d.t c)) (n.B (d.t c)) j).M (R':=fun e w'=>e=ŗ _/\BQ a w') (fun e w' h=>⟨h.1,c.t h.2⟩));have s:=Zh (fun b (c:BQ a b)=>(As da _ dc sa _ sc W ps _ b (o.B (d.t c)) (i.B (d.t c)) (n.B (d.t c)) j).M (R':=fun e w'=>e=ŗ (G m)/\BQ a w') (fun e w' h=>⟨h.1,c.t h.2⟩));have x:=Zh k;obtain⟨⟨p,q⟩,⟨V,f1⟩,-⟩:=ν B;have z:=Zh f.symm;have P:((m:Int) !=(L W:Int))=true:=ό;clear k f;go_enter func55,ntmps55;go_wp2_with fail
 rw[z.o];have A:BQ a a.drew:=RZ.drew;go_region_held3 (fun b=>BQ a b/\b.cell? ⟨w.heap.size,0,O⟩=J (D da (L W) dc)/\b.cell? ⟨w.heap.size,1,O⟩=J (D sa (L ps) sc))
  (first|exact⟨A,p,q⟩|assumption|exact⟨Ϙ,ζ Ϙ p,ζ Ϙ q⟩)
  (first|(go_at_call 13;refine(t.o _ Ϙ).M ?_;rintro e Q ⟨rfl,M⟩)|(go_at_call 17;refine(s.o _ Ϙ).M ?_;rintro e R ⟨rfl,g⟩))
 have l:=θ x.o g;have⟨y,r⟩:=ϟ (jz l (G 0) (š ⟨#[]⟩) (D O 0 0)) (kY (d.t g) (gu _ 1) (G 0) (š ⟨#[]⟩) (D O 0 0));obtain⟨⟨F,d1,d2⟩,⟨H,I,K⟩,-⟩:=Β l;go_wp2;refine Ω (v:=.tuple #[ā _,G 7]) (gz  (u:=3)  rfl _ _ _ _ _ _ _ rfl y.o underlying123 rfl ϋ) rfl ?_;exact⟨rfl,r.o⟩
def Ng (xa xc xs xsc ya yc ys ysc) (d1 d2:List (γ)) (p1 p2) (w:β) (al:ϭ w) (v:Ϭ w) (am:Ε w (D xa (L d1) xc) d1) (bj:ϣ d1 w (D xs (L p1) xsc) p1) (hy:Ε w (D ya (L d2) yc) d2) (bk:ϣ d2 w (D ys (L p2) ysc) p2) (an:Ϻ d1 p1 (L d1)) (x:Ϻ d2 p2 (L d2)) (bc:d1=d2.take (L d1)) (bK:L d1<=L d2) (bG:L d2<=64) :
  Calls prog 40 #[ā #[D xa (L d1) xc,D xs (L p1) xsc],ā #[D ya (L d2) yc,D ys (L p2) ysc]] w (mG (nF d1 p1 d2 p2 (hI (d2.map ϴ) (L d1))) w):=by
 have a3:=wO (d2.map ϴ) (L d1);rw[hU]at a3;have az:=Zx (fun f (g:BQ w f)=>sV xa xc xs xsc d1 p1 _ f (al.B g) (v.B g) (am.B g) (bj.B g) an rfl);have aA:=Zx (fun f (g:BQ w f)=>sV ya yc ys ysc d2 p2 _ f (al.B g) (v.B g) (hy.B g) (bk.B g) x rfl);have ay:=Zx (fun f (g:BQ w f)=>vM _ d2 f (v.B g) (hy.B g) U (fun d a4=>ι (x.ld d a4)));have aC:=Zx (fun aK n b1 X f (g:BQ w f) (h:gf X f _ n _)=>Jg aK n b1 (d2.map ϴ) (L d1) f h.1 h.rd (kv _) (by have:=h.1;rw[hU]at this;omega) (by have:=h.1;rw[hU]at this;omega) (v.B g));have jE:=Zx (fun bt bu br a pc f u aV q (bd:Rd f _ a 1 (χ (hI (d2.map ϴ) (L d1))))=>Rk bt bu br a pc d1 d2 p1 p2 _ f u an aV x q U (uO (kv _) _) bd);have ar:=Zx (fun f (g:BQ w f) (a:Nat) (q:a<L d1)=>show ∃ b off da dc n b2 s m o l,xa=J ⟨b,off,O⟩/\L d1<=xc/\xc<=maxLen/\f.cell? ⟨b,off+a,O⟩=J (D da n dc)/\ya=J ⟨b2,s,O⟩/\L d2<=yc/\yc<=maxLen/\f.cell? ⟨b2,s+a,O⟩=J (D m l o)/\Calls prog 68 #[D da n dc,D m l o] f (fun e bv=>e=ŗ (.bool true)/\f=bv)by
  have ae:a<L d2:=U
  obtain⟨b,off,da,dc,aO,aP,aQ,aR,aS⟩:=sS (am.B g) rfl a q
  obtain⟨b2,s,m,o,f1,f2,f3,aT,aU⟩:=sS (hy.B g) rfl a ae
  refine⟨b,off,da,dc,_,b2,s,m,o,_,aO,aP,aQ,aR,f1,f2,f3,aT,?_⟩
  have ag:=Cr (D da (L d1[a]) dc) (D m (L d2[a]) o) _ _ d1[a] d2[a] f rfl rfl aS aU
  have a5:d1[a]=d2[a]:=by
   have u:d1[a]?=(d2.take (L d1))[a]?:=by rw[<-bc]
   rw[vS q,Ρ q,Ρ ae]at u
   exact lq u
  rw[kU a5]at ag
  exact ag)
 have bL:¬(L d2:Int)<(L d1:Int):=U;have bJ:decide (L d2<L d1)=false:=kE U;have bM:L d2<=1000:=x.nd;generalize hI _ _=bs at *;generalize fP d1 p1=bz at *;generalize fP d2 p2=bA at *;generalize nF d1 p1 d2 p2 bs=bB at *;generalize ϡ d1=c at *;generalize ϡ d2=H at *;generalize (L d1)=j at *;generalize bI:L d2=l at *;generalize (L p1)=y at *;generalize (L p2)=z at *;obtain⟨aj,bh,bY,bZ,R⟩:=fZ (w:=w) (A:=C #[D xa j xc,D xs y xsc] 44) (Z:=C #[D ya l yc,D ys z ysc] 44) RZ;go_enter func40,ntmps40;go_upto_region 1 with fail
 generalize å (å w _) _=bC at *;obtain⟨⟨B,W⟩,-,-⟩:=ν aj;have E:=Zx (az.o _ R);go_wp2_with fail
 refine E.o.M ?_;rintro e K ⟨I,c1,rfl,a6,aW⟩;have be:=φ K (C #[G j,š (δ c),D I y c1] 123);have Q:=aW.al (C #[G j,š (δ c),D I y c1] 123);have a7:=(a6.A (C #[G j,š (δ c),D I y c1] 123)).M R.size;have bf:=θ aj Q;have ak:=θ bh Q;have S:=R.t Q;go_upto_region 4 with fail
 generalize å K _=bD at *;obtain⟨⟨B,W⟩,-,-⟩:=ν ak;have E:=Zx (aA.o _ S);go_wp2_with fail
 refine E.o.M ?_;rintro e V ⟨M,c2,rfl,a8,aX⟩;have ai:=φ V (C #[G l,š (δ H),D M z c2] 123);have r:=aX.al (C #[G l,š (δ H),D M z c2] 123);have ad:=(a8.A (C #[G l,š (δ H),D M z c2] 123)).M S.size;have ac:=a7.B r;have bg:=θ bf r;have bi:=θ ak r;have ah:=θ be r;have ab:=S.t r;generalize bH:K.heap.size=bx at *;go_upto_region 7 with fail
 generalize å V _=k at *;generalize V.heap.size=X at *;obtain⟨⟨B,W⟩,-,-⟩:=ν bg;obtain⟨⟨aq,bw⟩,-,-⟩:=ν bi;have⟨aD,aE,aw,ax,t⟩:=lM ah ai ac ad ab;clear ah ai ac ad ab;go_wp2_with fail
 go_loopw [36] (fun T wr=>∃ a:Nat,a<=j/\T=G a/\k=wr) (fun T _=>j - (intOf T).toNat)
 .exact⟨0,Ζ _,rfl,by first|rfl|trivial⟩
 obtain⟨a,q,rfl,rfl⟩:=hrel;by_cases a9:a<j
 .have bo:(a:Int)<(j:Int):=U
  have bQ:(a:Int)<(l:Int):=U;have bP:(0:Int)<=(a:Int):=U;obtain⟨b,off,da,dc,n,b2,s,m,o,bR,rfl,bN,bl,bE,rfl,bO,bm,bF,F⟩:=ar.o k t.o a a9;have F:=Zx F;unfold maxLen at bl bm;go_wp2_with fail
  refine F.o.M ?_;rintro e bU ⟨rfl,rfl⟩;go_wp2_with fail
  go_roundw
  .exact⟨a+1,U,ϕ,by first|rfl|trivial⟩
  exact ω
 .have bo:¬(a:Int)<(j:Int):=U
  rename_i aa;have au:=Zx aa;clear aa;go_wp2_with fail
  refine au.o _ _ ?_;go_upto_region 15 with fail
  have p:BQ k k.drew:=RZ.drew;refine ϯ (fun aG=>BQ k aG) 6 ϋ ?_;refine Zf 0 p ?_;refine Zb 1 [2,6] p ?_ (hy:=by intro f g;have bT:=ζ g aq;go_simp;try with_reducible rfl);refine Zf 3 p ?_;refine Zb 4 [5,6] p ?_ (hy:=by intro f g;have bS:=ζ g B;go_simp;try with_reducible rfl);refine Zf 5 p ?_;have a1:BQ w k.drew:=t.o.drew;refine Κ (fuel:=6) 2 ϋ rfl ?_;intro b0 N;go_simp;refine(ay.o _ a1).M ?_;rintro e ao ⟨aH,bp,aL,rfl,ba,aY⟩;have P:BQ k ao:=p.trans aY;refine N _ _ P ?_;try simp only[Zp]
  have a2:=t.o.t P;have aB:=Zx (aC.o aH bp aL _ ao a2 ba);refine jF  ϋ ϋ rfl ?_;intro b0 N;go_simp;refine aB.o.M ?_;rintro e ap ⟨aI,bn,aM,rfl,af,aZ⟩;refine N _ _ ?_;try simp only[Zp]
  have i:BQ k ap:=P.t aZ;refine Zf 7 i ?_;refine Zf 8 i ?_;refine Zf 9 i ?_;refine Zf 10 i ?_;refine Zf 11 i ?_;refine Zd ?_;have⟨Y,aF⟩:=ϟ (t.o.t i) (jE.o _ _ aI bn aM ap (aw.o.B i).now (ax.o.B i).now af.1 af.rd);obtain⟨⟨B,W,bW⟩,-,-⟩:=Β (θ aD.o i);obtain⟨⟨aq,bw,bX⟩,-,-⟩:=Β (θ aE.o i);go_wp2_with fail
  refine aF.o.M ?_;rintro e bV ⟨aJ,bq,aN,rfl,bb,a0⟩;have av:=Zx (Ν (bb.M Y.o.size) (Y.o.t a0));go_wp2;go_ret2;exact⟨aJ,bq,aN,rfl,av.o⟩
def Nh (xa xc xs xsc ya yc ys ysc) (W X:List (γ)) (p1 p2 m) (w:β) (i:ϭ w) (x:Ϭ w) (y:Ε w (D xa (L W) xc) W) (z:ϣ W w (D xs (L p1) xsc) p1) (Y:Ε w (D ya (L X) yc) X) (B:ϣ X w (D ys (L p2) ysc) p2) (E:Ϻ W p1 (L W)) (F:Ϻ X p2 m) (s:m≠L X) :
  Calls prog 40 #[ā #[D xa (L W) xc,D xs (L p1) xsc],ā #[D ya (L X) yc,D ys (L p2) ysc]] w fun e w'=>e=ŗ (.tuple #[D O 0 0,G 7])/\BQ w w':=by
 have n:=Zx (fun b (a:BQ w b)=>sV xa xc xs xsc W p1 _ b (i.B a) (x.B a) (y.B a) (z.B a) E rfl);have o:=Zx (fun b (a:BQ w b)=>Kt ya yc ys ysc X p2 m b (i.B a) (Y.B a) (B.B a) F s);generalize ϡ W=p at *;generalize fP W p1=N at *;generalize (L W)=k at *;generalize (L X)=H at *;generalize (L p1)=j at *;generalize (L p2)=V at *;obtain⟨t,u,S,T,h⟩:=fZ (w:=w) (A:=C #[D xa k xc,D xs j xsc] 44) (Z:=C #[D ya H yc,D ys V ysc] 44) RZ;go_enter func40,ntmps40;go_upto_region 1 with fail
 generalize å (å w _) _=P at *;obtain⟨⟨K,M⟩,-,-⟩:=ν t;have c:=Zx (n.o _ h);go_wp2_with fail
 refine c.o.M ?_;rintro e I ⟨q,c1,rfl,-,r⟩;have f:=r.al (C #[G k,š (δ p),D q j c1] 123);have v:=θ u f;have d:=h.t f;go_upto_region 4 with fail
 generalize å I _=Q at *;obtain⟨⟨K,M⟩,-,-⟩:=ν v;have c:=Zx (o.o _ d);go_wp2_with fail
 refine c.o.M ?_;rintro e R ⟨rfl,g⟩;have l:=Zx ((d.t g).A (gw g.size d.size) (C #[G 0,š ⟨#[]⟩,D O 0 0] 123));go_wp2;go_ret2;exact⟨rfl,l.o⟩
def qN:∀ (f:Nat) (l:List (γ)) (i:Nat),ϱ l->ϱ (ie f l i)
 |0,l,i,h=>fun d hd=>by simp[ie]at hd
 |f+1,l,i,h=>by
  have a:ϱ (l.take (Τ (L l))):=fun d hd=>h d (mz hd);have b:ϱ (l.drop (Τ (L l))):=fun d hd=>h d (qu hd);intro d hd;unfold ie at hd;split at hd
  .cases hd
  .split at hd
   .rcases nj.1 hd with hd|hd
    .exact qN f _ _ a d hd
    .rw[kF.1 hd];exact mY b
   .rcases nj.1 hd with hd|hd
    .exact qN f _ _ b d hd
    .rw[kF.1 hd];exact mY a
def Nd (xa xc xs xsc) (ď:List (γ)) (ps i) (w:β) (aL:ϭ w) (v:Ϭ w) (x:Ε w (D xa (L ď) xc) ď) (aM:ϣ ď w (D xs (L ps) xsc) ps) (l:Ϻ ď ps (L ď)) (hi:i<L ď) (a3:L ď<=64) :
  Calls prog 42 #[ā #[D xa (L ď) xc,D xs (L ps) xsc],G i] w (mG (nB ď ps i ď[i] (ie (L ď) (ď.map ϴ) i)) w):=by
 have a5:=(qO (L ď) (ď.map ϴ) i).2;have ad:=Zx (fun a (f:BQ w a)=>sV xa xc xs xsc ď ps _ a (aL.B f) (v.B f) (x.B f) (aM.B f) l rfl);have ab:=Zx (fun a (f:BQ w a)=>vM _ ď a (v.B f) (x.B f) U (fun d aC=>ι (l.ld d aC)));have af:=Zx (fun s n c T a (f:BQ w a) (h:gf T a (D s n c) n (ď.map ϴ))=>show Calls prog 78 #[D s n c,G i] a (wo (ie (L ď) (ď.map ϴ) i) a)by
  have M:=h.1
  rw[hU]at M
  subst M
  exact Gn s _ c _ i a h.1 h.rd (kv _) hi U (v.B f))
 have aj:=Zx (fun aW aU aV aR R pc a t (aD:Rd a _ _ 1 _) aG (aJ:Rd a _ R 1 (χ (ie (L ď) (ď.map ϴ) i)))=>Rj aW i aU _ aV _ aR R pc ď ps _ a t l U rfl (l.ld _ (Ψ hi)) aD aG U (qN _ _ _ (kv _)) aJ);have X:=Zx (fun a (f:BQ w a)=>sS (x.B f) rfl i hi);have a6:¬(L ď:Int)<=(i:Int):=U;have a7:(i:Int)<(L ď:Int):=U;have a8:(0:Int)<=(i:Int):=U;have a4:L ď<=1000:=l.nd;generalize ie _ _ i=aS at *;generalize fP ď ps=a1 at *;generalize ď[i]=K at *;generalize nB ď ps i K aS=a0 at *;generalize ϡ ď=q at *;generalize (L ď)=p at *;generalize (L ps)=o at *;obtain⟨P,bf,u⟩:=fO (w:=w) (A:=C #[D xa p xc,D xs o xsc] 44) RZ;go_enter func42,ntmps42;go_upto_region 1 with fail
 generalize å w _=a2 at *;obtain⟨⟨z,S⟩,-,-⟩:=ν P;have Z:=Zx (ad.o _ u);go_wp2_with fail
 refine Z.o.M ?_;rintro e y ⟨r,c1,rfl,aE,ay⟩;have aK:=φ y (C #[G p,š (δ q),D r o c1] 123);have F:=ay.al (C #[G p,š (δ q),D r o c1] 123);have aF:=(aE.A (C #[G p,š (δ q),D r o c1] 123)).M u.size;have Q:=θ P F;have H:=u.t F;go_upto_region 4 with fail
 generalize å y _=am at *;generalize y.heap.size=aZ at *;obtain⟨⟨z,S⟩,-,-⟩:=ν Q;have⟨ah,ag,aa,E,ac⟩:=lM Q aK aF H (ab.o am H);go_wp2_with fail
 refine ac.o.M ?_;rintro e aX ⟨an,aP,c2,rfl,aH,b⟩;have aB:=E.o.t b;have⟨ae,W⟩:=ϟ (af.o an aP c2 _ aX aB aH) b;go_wp2_with fail
 refine ae.o.M ?_;rintro e j ⟨ao,aO,aq,rfl,N,az⟩;have m:=W.o.t az;have I:=E.o.t m;have ak:=θ ah.o m;have V:=θ ag.o m;obtain⟨b1,off,da,dc,rfl,a9,aN,au,aT⟩:=X.o j I;unfold maxLen at aN;have ai:=Zx (fun a (f:BQ j a)=>aj.o _ da dc ao aO aq a ((aa.o.B (m.t f)).now) (aT.B f) N.1 (N.rd.B f));have B:=Zx I;obtain⟨⟨z,S⟩,-,-⟩:=ν ak;obtain⟨⟨av,t,aw⟩,-,-⟩:=Β V;go_upto_region 9 with fail
 have g:BQ j j.drew:=RZ.drew;refine ϯ (fun al=>BQ j al) 9 ϋ ?_;refine Zb 0 [8,9] g ?_ (hy:=by intro a f;have bb:=ζ f av;have bc:=ζ f t;have bd:=ζ f aw;go_simp;try with_reducible rfl);refine Zf 1 g ?_;refine Zf 2 g ?_;refine Zb 3 [5,6,8,9] g ?_ (hy:=by intro a f;have ba:=ζ f z;go_simp;try with_reducible rfl);refine Zf 4 g ?_;refine Zf 5 g ?_;refine Zb 6 [8,9] g ?_ (hy:=by intro a f;have be:=ζ f au;go_simp;try with_reducible rfl);refine Zf 7 g ?_;refine Zf 8 g ?_;refine jF (fuel:=4) ϋ ϋ rfl ?_;intro b0 ax;go_simp;refine(ai.o _ g).M ?_;rintro e aY ⟨ap,aQ,ar,rfl,aI,aA⟩;refine ax _ _ ?_;try simp only[Zp]
 have k:BQ j aY:=g.trans aA;refine Zf (oi:=⟨ _,_,_,_,_,_⟩) 10 k ?_;refine Zf (oi:=⟨ _,_,_,_,_,_⟩) 11 k ?_;refine Zf (oi:=⟨ _,_,_,_,_,_⟩) 12 k ?_;refine Zf (oi:=⟨ _,_,_,_,_,_⟩) 13 k ?_;refine Zd ?_;have Y:=Zx (Ν (aI.M (show w.heap.size<=j.drew.heap.size from B.o.size)) (B.o.t k));go_wp2;go_ret2;exact⟨ap,aQ,ar,rfl,Y.o⟩
