/- Part 19 of the proof. -/
import Derived.Test.YtpilfbcffofheaaGreatDoorm18
set_option linter.all false
set_option maxRecDepth 100000
set_option maxHeartbeats 16000000
namespace Go.Proofs.YtpilfbcffofheaaGreatDoor
open Go.RowKit Go.Proofs.Tryz Go.Sort
open Value renaming slice->D,int->ĭ,agg->ā
open Option renaming none->O,some->J
open List renaming length->L
open Obj renaming cells->C
open Ending renaming returned->ŗ
open World renaming alloc->å,setCell->ŝ
structure OL (w wr:β) (g4 g6 g7:Nat) (seq used p:Nat) (B:γ) (y:Ix) (a1:Option Addr) (c1:Nat) (a2:Option Addr) (c2:Nat) (a:Option Addr) (c:Nat):Prop where
 r1:wr.heap[w.heap.size+1]?=J (C #[G 0,G 0,D O 0 0,D O 0 0] 46 (0,0))
 r4:wr.heap[g4]?=J (C #[G (seq:Int),G (used:Int)] 206 (0,0))
 r6:wr.heap[g6]?=J (C #[D a1 (L y.1) c1,D a2 (L y.2) c2] 44 (0,0))
 r7:wr.heap[g7]?=J (C #[D a (L B) c,G (p:Int),G 0] 211 (0,0))
 o1:w.heap.size+1<g4
 o2:g4<g6
 o3:g6<g7
 bel:BQ w wr
 o4:g7<wr.heap.size
 rb:Α (fun b=>b<=g6\/b=g7) wr (fun w2=>Rd w2 (D a (L B) c) (L B) 1 (η B))
 rx:Α (fun b=>b<=g6\/b=g7) wr (fun w2=>Ε w2 (D a1 (L y.1) c1) y.1/\ϣ y.1 w2 (D a2 (L y.2) c2) y.2)
def wV (b:β) (a c):Ε b (D a 0 c) []:=⟨[],⟨rfl,Ζ _,.inl ⟨_,_,rfl,rfl⟩⟩,fun e d=>by simp at d⟩
def xO (b:β) (f:List (γ)) (a c):ϣ f b (D a 0 c) []:=⟨[],⟨rfl,Ζ _,.inl ⟨_,_,rfl,rfl⟩⟩,fun e d=>by simp at d⟩
def Hl (f d:Nat) (y:Ix) (w:β) (e:Ending) (g:β):Prop:= ∃ a c1 b c2,e=ŗ (.tuple #[ā #[G (f:Int),G (d:Int),D a (L y.1) c1,D b (L y.2) c2],G 0])/\Hi w.heap.size g (fun c=>Ε c (D a (L y.1) c1) y.1/\ϣ y.1 c (D b (L y.2) c2) y.2)/\Below w.heap.size w g
def Aa (seq es x ba bc wa wn) (bl:ϸ) (w:β) (av:ϭ w) (ap:Ε w (D ba (L bl) bc) bl) (p:gr bl seq (fQ es)) (bN:∀ e∈es,e.ok) (a2:hO ([],[]) es=J x) (ci:L x.1<=40) :
  Calls prog 54 #[ā #[D ba (L bl) bc,D wa 0 wn]] w (Hl seq (L (fQ es)) x w):=by
 have a0:jg bl []:=⟨p.nb,ύ,p.l64,ύ⟩;have bf:=Zh (fun m (R:BQ w m)=>Cj _ _ bl _ m (ap.B R) (qL m wa wn) a0);have bb:=Zh (fun m (R:BQ w m)=>Ci ba bc wa wn bl _ m (ap.B R) (qL m wa wn) a0);have ai:=Zh (fun m (R:BQ w m)=>Le ba bc wa wn bl m (ap.B R) p.nb p.l64 (ι p.n3));rw[p.current]at ai;simp only[nz,Option.isSome_some]at ai;obtain⟨d,af⟩:∃ d:Nat,L (fQ es)=d:=⟨_,rfl⟩;have aK:=Zh (fun m (R:BQ w m)=>Lh d ba bc wa wn bl m (ap.B R) p.nb p.l64 (by rw[<-af];exact p.le) p.n3);have aZ:=p.logIs;rw[af]at aZ ai;rw[aZ]at aK;have n3:¬(L bl:Int)<=2:=ι p.n3;have⟨bj,ae⟩:=π av af;have bE:d<=1000000000:=by have:=p.le;have:=p.nb;unfold Ϯ at *;omega
 rw[af];clear av af;go_enter func54,ntmps54;go_wp2_with fail
 have bF:BQ w (å (å w (C #[D ba (L bl) bc,D wa 0 wn] 41)) (C #[G 0,G 0,D O 0 0,D O 0 0] 46)):=ġ.A ύ _;refine(bf.o _ bF).M ?_;rintro e cx ⟨rfl,bG⟩;obtain⟨X,S,cy,cz,aV⟩:=fZ bG;obtain⟨⟨aT,d1⟩,-,-⟩:=ν X;go_wp2_with fail
 refine(bb.o _ aV).M ?_;rintro e T ⟨rfl,aD⟩;have X:=θ X aD;have S:=θ S aD;obtain⟨⟨aT,d1⟩,-,-⟩:=ν X;have aW:=aV.t aD;go_upto_region 3 with fail
 go_wp2_with fail
 refine(ai.o _ aW).M ?_;rintro e j ⟨rfl,aE⟩;have X:=θ X aE;have S:=θ S aE;have bJ:=aW.t aE;have cD:=ς S;have H:BQ j (å (å j (C #[G (seq:Int),G (d:Int)] 206)) (C #[D O 0 0,D O 0 0] 44)):=ġ.A ύ _;have bW:=θ X H;have aX:=bJ.t H;obtain⟨⟨aT,d1⟩,-,-⟩:=ν bW;obtain⟨bY,ch,cC,cF,-⟩:=fZ (w:=j) (A:=C #[G seq,G d] 206) (Z:=C #[D O 0 0,D O 0 0] 44) RZ;obtain⟨⟨cp,cq⟩,-,-⟩:=ν bY;go_upto_region 7 with fail
 go_wp2_with fail
 refine(aK.o _ aX).M ?_;rintro e k ⟨ac,ab,rfl,bP,aF⟩;have S:=θ (θ S H) aF;obtain⟨bX,b0,cB,cE,-⟩:=fZ aF;have bK:=aX.t aF;have aq:BQ k (å k (C #[D ac d ab,G 0,G 0] 211)):=ġ;have bZ:=φ k (C #[D ac d ab,G 0,G 0] 211);have aM:OL w (å k (C #[D ac d ab,G 0,G 0] 211)) j.heap.size (j.heap.size+1) k.heap.size seq d 0 (fQ es) ([],[]) O 0 O 0 ac ab:=by
  have bA:Α (fun b=>b<=j.heap.size+1\/b=k.heap.size) k (fun T=>Rd T (D ac (L (fQ es)) ab) (L (fQ es)) 1 (η (fQ es))):=by
   rw[ae.o];exact bP.off fun b ak al=>ϓ
  exact⟨θ S aq,θ bX aq,θ b0 aq,by rw[ae.o];exact bZ,U,U,U,bK.t aq,ϓ,bA.A _,fun T _=>⟨wV _ _ _,xO _ _ _ _⟩⟩
 have bi:=Zh aM;obtain⟨cd,ce⟩:∃ g,g=j.heap.size:=⟨_,rfl⟩;clear aM;go_wp2;go_loopw [9] (fun cc wr=>∃ (o aj:List Ev) (y:Ix) (r:Option Addr) (c1:Nat) (V:Option Addr) (c2:Nat) (a:Option Addr) (c:Nat),es=o++aj/\hO ([],[]) o=J y/\Hid (OL w wr j.heap.size (j.heap.size+1) k.heap.size seq d (L (fQ o)) (fQ es) y r c1 V c2 a c)) (fun _ wr=>d - (intOf ((wr.cell? ⟨k.heap.size,1,O⟩).getD undef)).toNat)
 .exact⟨[],es,_,O,0,O,0,ac,ab,rfl,rfl,bi.o⟩
 obtain⟨o,aj,y,r,c1,V,c2,a,c,Y,ag,i⟩:=hrel;obtain⟨⟨aI,p1,p2⟩,-,-⟩:=Β i.o.r7;have am:=ae.o;have aY:L (fQ o)+L (fQ aj)=d:=by rw[<-am,Y];simp[fQ]
 rw[am]at aI;cases aj with
 |nil =>
  have bU:L (fQ o)=d:=by simpa[fQ] using aY
  rw[bU]at p1 i;have cf:¬(d:Int)<(d:Int):=U;obtain rfl:o=es:=by rw[Y,iy]
  obtain rfl:y=x:=by rw[a2]at ag;injection ag with h;exact h.symm
  obtain⟨⟨cr,cs⟩,-,-⟩:=ν i.o.r4;obtain⟨⟨a3,a4⟩,-,-⟩:=ν i.o.r6;obtain⟨⟨ct,cu,cv,cw⟩,⟨aU,f1,f2,f3⟩,-⟩:=ϩ i.o.r1;have⟨bg,a5⟩:=π (oh i.o.r1 (G seq) (G d) (D r (L y.1) c1) (D V (L y.2) c2)) (pd i.o.bel (gu _ 1) (G seq) (G d) (D r (L y.1) c1) (D V (L y.2) c2));have a8:=Zh (xd ((i.o.rx.sub  (fun b _ (g:b<w.heap.size+1+1)=>Or.inl (ι i.o.o1))).hi) (g:=w.heap.size+1) U (G seq) (G d) (D r (L y.1) c1) (D V (L y.2) c2));go_wp2;refine Ω (v:=.tuple #[ā _,G 0]) (gz  (u:=3)  rfl _ _ _ _ _ _ _ rfl bg.o underlying46 rfl ϋ) rfl ?_;exact⟨r,c1,V,c2,rfl,a8.o.M U,a5.o⟩
 |cons n Q =>
  have bO:=bN n (by rw[Y];simp);have cg:=n.bytes_pos;have aG:L (fQ o)+L n.bytes+L (fQ Q)=d:=by
   have:fQ (n::Q)=n.bytes++fQ Q:=by simp[fQ]
   rw[this,σ]at aY;omega
  have bS:(L (fQ o):Int)<(d:Int):=U;have au:hO y (n::Q)=J x:=by
   have:∀ (l:List Ev) (z y:Ix),hO z l=J y->hO z (l++(n::Q))=hO y (n::Q):=by
    intro l;induction l with
    |nil=>intro z y h;simp only[hO,Φ]at h;rw[h];rfl
    |cons c3 l aH =>
     intro z y h;simp only[jW,hO]at h ⊢;cases ad:gA z c3 with
     |none=>rw[ad]at h;cases h
     |some aa=>rw[ad]at h;exact aH aa y h
   rw[<-this o _ _ ag,<-Y];exact a2
  cases ar:gA y n with
  |none=>simp only[hO,ar]at au;cases au
  |some f =>
   have b2:hO f Q=J x:=by simpa only[hO,ar] using au
   have bV:hO ([],[]) (o++[n])=J f:=by rw[vu,ag];exact ar
   have bT:∀ (l:List Ev) (z aa:Ix),hO z l=J aa->L z.1<=L aa.1:=by
    intro l;induction l with
    |nil=>intro z aa h;simp only[hO,Φ]at h;rw[h];exact NZ
    |cons c3 l aH =>
     intro z aa h;simp only[hO]at h;cases ad:gA z c3 with
     |none=>rw[ad]at h;cases h
     |some b6 =>
      rw[ad]at h;have ak:=aH b6 aa h;have al:=wZ ad;rw[al,σ]at ak;omega
   have b3:L y.1<=40:=by
    have:=bT _ _ _ au;omega
   have b4:=vt kk.start ag;have bz:fQ es=fQ o++(n.bytes++fQ Q):=by rw[Y];simp[fQ]
   have aw:=Zh (fun m R=>Li n bO a d c _ _ _ _ m bz rfl am bE R);obtain⟨I,ao⟩:∃ az:Nat,az=L (fQ o)+L n.bytes:=⟨_,rfl⟩;rw[<-ao]at aw;obtain⟨cb,an⟩:∃ az:Nat,az=L (fQ o):=⟨_,rfl⟩;rw[<-an]at aw i p1 bS;have⟨aL,be⟩:=π ao an;have aJ:=Zh (fun(kd ei em) B F E m av bL b1 bM=>DO n _ _ r c1 V c2 _ _ _ kd ei em B F E m rfl rfl av bL b1 b4 b3 bM);rw[show gA (y.1,y.2) n=J f from ar]at aJ;have ck:=i.o.o4;have bD:Rd (å wr (C #[G 0,G 0,G 0,D O 0 0] 33)) (D a d c) d 1 (η (fQ es)):=by have:=(i.o.rb.A (C #[G 0,G 0,G 0,D O 0 0] 33)).now;rw[am]at this;exact this
   have⟨a7,bk,bh,a9⟩:=hV (aw.o _ bD) (Ν bV b2) Y aG;clear ao an Y aG;go_wp2_with fail
   refine a7.o.M ?_;rintro e q ⟨s,t,kd,ei,em,B,F,E,rfl,bQ,bH⟩;obtain⟨a1,cA,W⟩:=fO bH;have bm:=θ i.o.r1 W;have bn:=θ i.o.r4 W;have bo:=θ i.o.r6 W;have aQ:=θ i.o.r7 W;obtain⟨⟨aI,p1,p2⟩,⟨aU,f1,f2⟩,-⟩:=Β aQ;obtain⟨⟨b7,b8,b9,ca⟩,⟨cl,cm,cn,co⟩,-⟩:=ϩ a1;go_upto_region 11 with fail
   have o1:=i.o.o1;have o2:=i.o.o2;have o3:=i.o.o3;have aN:=(po (set3 _ _ _ _ q) wr.heap.size _ U (G kd) (G ei) (G em) (D B F E)).trans ((kN q k.heap.size _ U (D s d t) (G I) (G 0)).trans bm);have aO:=(po (set3 _ _ _ _ q) wr.heap.size _ U (G kd) (G ei) (G em) (D B F E)).trans ((kN q k.heap.size _ U (D s d t) (G I) (G 0)).trans bn);have aA:=(po (set3 _ _ _ _ q) wr.heap.size _ U (G kd) (G ei) (G em) (D B F E)).trans ((kN q k.heap.size _ U (D s d t) (G I) (G 0)).trans bo);have aB:=(po (set3 _ _ _ _ q) wr.heap.size _ U (G kd) (G ei) (G em) (D B F E)).trans (jz aQ (D s d t) (G I) (G 0));have aP:=oh ((kN q k.heap.size _ U (D s d t) (G I) (G 0)).trans a1) (G kd) (G ei) (G em) (D B F E);have aC:=pd (kY (i.o.bel.t W) (U:w.heap.size<=k.heap.size) (D s d t) (G I) (G 0)) (show w.heap.size<=wr.heap.size by have:=i.o.bel.size;omega) (G kd) (G ei) (G em) (D B F E);have ax:=Zh (xd (lU bQ (g:=k.heap.size) ϓ (D s d t) (G I) (G 0)) (g:=wr.heap.size) ϓ (G kd) (G ei) (G em) (D B F E));have ay:=Zh ((i.o.rx.step (w':=pu wr.heap.size (G kd) (G ei) (G em) (D B F E) (set3 _ (D s d t) (G I) (G 0) q))  (by have:=W.size;simpa using this) (fun b bw bx=>(po _ _ _ U _ _ _ _).trans ((kN _ _ _ (fun e=>bx (.inr e)) _ _ _).trans (W.block b bw))) (fun _ _ g=>g)));have b5:(pu wr.heap.size (G kd) (G ei) (G em) (D B F E) (set3 k.heap.size (D s d t) (G (I:Int)) (G 0) q)).heap.size=q.heap.size:=ύ;simp only[set3,pu]at aN aO aA aB aP aC ax ay b5;generalize(ŝ (ŝ (ŝ (ŝ (ŝ (ŝ (ŝ q _ _) _ _) _ _) _ _) _ _) _ _) _ _)=bv at *;obtain⟨⟨aI,p1,p2⟩,-,-⟩:=Β aB;obtain⟨⟨a3,a4⟩,-,-⟩:=ν aA;obtain⟨⟨b7,b8,b9,ca⟩,-,-⟩:=ϩ aP;have a6:=Zh (aJ.o kd ei em B F E bv (bj.o.B aC) ay.o.now.1 ay.o.now.2 ax.o.now.2);go_wp2_with fail
   refine a6.o.M ?_;rintro e ah ⟨K,N,M,P,rfl,bR,H⟩;have aR:=θ aA H;obtain⟨⟨a3,a4⟩,⟨aU,f1⟩,-⟩:=ν aR;have br:=fS aR (D K (L f.1) N) (D M (L f.2) P);have cj:=H.size;have bp:=(jH ah (j.heap.size+1) _ U (D K (L f.1) N) (D M (L f.2) P)).trans (θ aN H);have bq:=(jH ah (j.heap.size+1) _ U (D K (L f.1) N) (D M (L f.2) P)).trans (θ aO H);have aS:=(jH ah (j.heap.size+1) _ U (D K (L f.1) N) (D M (L f.2) P)).trans (θ aB H);have bI:=ga (aC.t H) (U:w.heap.size<=j.heap.size+1) (D K (L f.1) N) (D M (L f.2) P);have bB:Α (fun b=>b<=j.heap.size+1\/b=k.heap.size) (ŝ (ŝ ah ⟨j.heap.size+1,0,O⟩ (D K (L f.1) N)) ⟨j.heap.size+1,1,O⟩ (D M (L f.2) P)) (fun T=>Rd T (D s d t) d 1 (η (fQ es))):=
    ((((ax.o.imp fun _ c0=>c0.1).off  (fun b ak al=>ϓ)).B H).set (.inl NZ) _).set (.inl NZ) _
   have bC:Α (fun b=>b<=j.heap.size+1\/b=k.heap.size) (ŝ (ŝ ah ⟨j.heap.size+1,0,O⟩ (D K (L f.1) N)) ⟨j.heap.size+1,1,O⟩ (D M (L f.2) P)) (fun T=>Ε T (D K (L f.1) N) f.1/\ϣ f.1 T (D M (L f.2) P) f.2):=
    ((bR.off  (fun b ak al=>U)).set (.inl NZ) _).set (.inl NZ) _
   have bd:=Zh (show OL w _ _ _ _ seq d I _ f K N M P s t from
    ⟨bp,bq,br,by rw[ae.o];exact aS,o1,o2,o3,bI,ό,by rw[ae.o];exact bB,bC⟩)
   have bs:=(Β aS).1.2.1;have bt:=i.o.r7;have bu:=(Β bt).1.2.1;have aG:=a9.o;have ao:=aL.o;have an:=be.o;go_wp2;go_roundw
   .exact⟨ _,Q,f,K,N,M,P,s,t,by rw[bh.o,gP];rfl,bk.o.1,by rw[wX,σ,<-aL.o];exact bd.o⟩
   rw[bs,bu];simp only[Option.getD_some,intOf,vZ];omega
inductive jw where
 |sync
 |put (at':Nat) (b:γ)
def jw.ok (c:Nat):jw->Prop
 |.sync=>True
 |.put a b=>a<c/\L b=64
def mF (w:β) (c:List ε) (k:Nat):jw->Prop
 |.sync=>c[k*3]?=J (.bool true)/\c[k*3+1]?=J (G 0)/\c[k*3+2]?=J (D O 0 0)
 |.put a b=>c[k*3]?=J (.bool false)/\c[k*3+1]?=J (G (a:Int))/\∃ d,c[k*3+2]?=J d/\Rd w d (L b) 1 (η b)
def rv (w:β) (v:ε) (l:List jw):Prop:= ∃ b,Rd w v (L l) 3 b/\∀ a (c:a<L l),mF w b a l[a]
def mF.B {w w' cells k c} (h:mF w cells k c) (i:BQ w w'):mF w' cells k c:=by
 cases c with
 |sync=>exact h
 |put a b=>obtain⟨d,e,j,f,g⟩:=h;exact⟨d,e,j,f,g.B i⟩
def rv.B {w w' v l} (h:rv w v l) (a:BQ w w'):rv w' v l:=by
 obtain⟨b,c,d⟩:=h;exact⟨b,c.B a,fun f e=>(d f e).B a⟩
def tI (d:ϸ×ht):jw->ϸ×ht
 |.sync=>(gB d.1 d.2,[])
 |.put a b=>(d.1,d.2++[(a,b)])
def iv (d:ϸ×ht) (l:List jw):ϸ×ht:=l.foldl tI d
theorem Jy (d) (l:List jw) (k hk):iv d (l.take (k+1))=tI (iv d (l.take k)) l[k]:=by
 unfold iv;rw[<-List.take_append_getElem hk,List.foldl_append];rfl
def Qe {f:ϸ} {e:ht} (h:jg f e):jg (gB f e) []/\L (gB f e)=L f:=by
 have a:=tM f e (L e);refine⟨⟨by unfold gB;rw[a];exact h.nb,ύ,?_,ύ⟩,a⟩;exact vL (P:=fun b=>∀ x∈b,L x=64) f e h.lb (fun x d b c=>tf c (h.lw x d).2) _
def CZ {p:ϸ} {q:ht} (h:jg p q):∀ {l:List jw},(∀ c∈l,c.ok (L p))->L q+L l<=1000->jg (iv (p,q) l).1 (iv (p,q) l).2/\L (iv (p,q) l).1=L p/\L (iv (p,q) l).2<=L q+L l:=by
 intro l;induction l generalizing p q with
 |nil=>intro _ _;exact⟨h,rfl,NZ⟩
 |cons c l m =>
  intro i o;simp only[ϥ]at o;cases c with
  |sync =>
   obtain⟨g,k⟩:=Qe h;obtain⟨e,f,d⟩:=m g (fun c j=>by rw[k];exact i c (by simp[j])) ό;refine⟨e,f.trans k,?_⟩;simp only[iv,List.foldl_cons,tI]at d ⊢;simp only[gO,ϥ]at d ⊢;omega
  |put a b =>
   have n:a<L p/\L b=64:=i (.put a b) ύ;have g:jg p (q++[(a,b)]):=⟨h.nb,ό,h.lb,fun x hx=>by
    rcases nj.1 hx with hx|hx
    .exact h.lw x hx
    .simp at hx;rw[hx];exact n⟩
   obtain⟨e,f,d⟩:=m g (fun c j=>i c (by simp[j])) ό;refine⟨e,f,?_⟩;simp only[iv,List.foldl_cons,tI]at d ⊢;simp only[σ,ϥ,gO]at d ⊢;omega
def GZ (H:Nat->Prop) (d:ϸ×ht) (f:Nat) (w:β) (e:Ending) (g:β):Prop:= ∃ a c1 b c2,e=ŗ (.tuple #[ā #[D a (L d.1) c1,D b (L d.2) c2],G (f:Int)])/\Α H g (fun c=>Ε c (D a (L d.1) c1) d.1/\iu c (D b (L d.2) c2) d.2)/\Below w.heap.size w g
def Lf (H) (m:Nat) (la lc l ba bc wa wc) (bl:ϸ) (ws:ht) (w:β) (aO:∀ b,H b->b<w.heap.size) (a5:Α H w (fun f=>Ε f (D ba (L bl) bc) bl/\iu f (D wa (L ws) wc) ws)) (bh:jg bl ws) (bf:rv w (D la (L l) lc) l) (aR:∀ b1∈l,b1.ok (L bl)) (bz:L ws+L l<=900) (a1:0<L bl) :
  Calls prog 159 #[ā #[D ba (L bl) bc,D wa (L ws) wc],D la (L l) lc,G m] w (GZ H (iv (bl,ws) (l.take m)) (min m (L l)) w):=by
 obtain⟨n,aT⟩:∃ n,L l=n:=⟨_,rfl⟩;rw[aT];obtain⟨av,ac,aH⟩:=bf;rw[aT]at ac;have aX:=Zh ac;have aI:=Zh (fun a=>CZ bh (l:=l.take a) (fun b1 ag=>aR b1 (mz ag)) Ϝ);have aW:=Zh (fun a aQ=>aR l[a] (Ψ aQ));have aV:=Zh aH;have a3:Α (fun b=>H b\/b=w.heap.size\/b=w.heap.size+1) (å (å w (C #[D ba (L bl) bc,D wa (L ws) wc] 41)) (C #[D O 0 0,D O 0 0] 41)) (fun f=>Ε f (D ba (L bl) bc) bl/\iu f (D wa (L ws) wc) ws):=
  a5.step ό (fun b aM _=>(((ρ _ w).A NZ _).A ύ _).block b aM) (fun b aM h2=>by rcases h2 with h2|h2|h2<;>first|exact h2|omega)
 obtain⟨bi,bk,bH,bI,a6⟩:=fZ (w:=w) (A:=C #[D ba (L bl) bc,D wa (L ws) wc] 41) (Z:=C #[D O 0 0,D O 0 0] 41) RZ;clear ac aH;go_enter func159,ntmps159;go_wp2;generalize(å (å w _) _)=bu at *;go_loopw [14] (fun aF wr=>∃ (a:Nat) (d:ϸ×ht) (i:Option Addr) (c1:Nat) (j:Option Addr) (c2:Nat),a<=n/\a<=m/\aF=G (a:Int)/\d=iv (bl,ws) (l.take a)/\Hid (wr.heap[w.heap.size]?=J (C #[D i (L d.1) c1,D j (L d.2) c2] 41 (0,0)))/\Hid (wr.heap[w.heap.size+1]?=J (C #[D O 0 0,D O 0 0] 41 (0,0)))/\BQ w wr/\Hid (Α (fun b=>H b\/b=w.heap.size\/b=w.heap.size+1) wr (fun f=>Ε f (D i (L d.1) c1) d.1/\iu f (D j (L d.2) c2) d.2))) (fun aF _=>n - (intOf aF).toNat)
 .exact⟨0,_,ba,bc,wa,wc,Ζ _,Ζ _,rfl,rfl,bi,bk,a6,a3⟩
 obtain⟨a,d,i,c1,j,c2,aQ,bB,rfl,r,al,ad,aa,ao⟩:=hrel;obtain⟨⟨N,d1⟩,⟨aJ,f1⟩,bJ⟩:=ν al.o;obtain⟨⟨r0,r1⟩,⟨aK,aL⟩,bK⟩:=ν ad.o;have⟨Y,T⟩:=π (fS ad.o (D i (L d.1) c1) (D j (L d.2) c2)) (ga aa (gu _ 1) (D i (L d.1) c1) (D j (L d.2) c2));have V:=Zh (((ao.o.set (p:=⟨ _,0,O⟩) (.inr (.inr rfl)) (D i (L d.1) c1)).set (p:=⟨ _,1,O⟩) (.inr (.inr rfl)) (D j (L d.2) c2)).sub  (fun b _ g=>.inl g));by_cases bC:a<n
 .have bq:(a:Int)<(n:Int):=U
  have aA:a<L l:=U;have ac:=aX.o;obtain⟨-,-,⟨bv,aY,aE,bg⟩|⟨s,off,aY,aE,bg,bD,bA,M⟩⟩:=ac
  .omega
  simp only[Χ,ϵ]at aE;obtain⟨rfl,rfl⟩:=aE;have q:=aV.o a aA;have aC:iv (bl,ws) (l.take (a+1))=tI d l[a]:=by rw[Jy _ _ _ aA,<-r]
  have az:=aI.o a;have ab:=aI.o (a+1);rw[aC]at ab;rw[<-r]at az;have ah:=aW.o a aA;have⟨ae,e⟩:=π aC az;clear aC az;cases ag:l[a]with
  |sync =>
   rw[ag]at q ab ae ah;clear ab;have ay:s<w.heap.size:=ii w _ (M _ _ q.1);have Q:∀ (o:Nat) (x:ε),w.cell? ⟨s,o,O⟩=J x->wr.cell? ⟨s,o,O⟩=J x:=fun o x h=>(aa.cell  ay).trans h;have bw:=Q _ _ (M _ _ q.1);have aZ:wr.cell? ⟨s,off+a*3+1,O⟩=J (G 0):=Q _ _ (M _ _ q.2.1);have a0:wr.cell? ⟨s,off+a*3+2,O⟩=J (D O 0 0):=Q _ _ (M _ _ q.2.2);have K:BQ wr (å wr (C #[.bool true,G 0,D O 0 0] 256)):=ġ;have c:=ao.o.A (C #[.bool true,G 0,D O 0 0] 256);have P:=aa.t K;have aB:=φ wr (C #[.bool true,G 0,D O 0 0] 256);have t:=θ al.o K;have y:=θ ad.o K;have bm:wr.heap.size<(å wr (C #[.bool true,G 0,D O 0 0] 256)).heap.size:=ύ;go_upto_region 4 with fail
   generalize å wr _=aG at *;by_cases a2:m<=a
   .obtain rfl:a=m:=U
    have⟨W,F,Y,T⟩:=hV (U:min a n=a) r (fS y (D i (L d.1) c1) (D j (L d.2) c2)) (ga P (gu _ 1) (D i (L d.1) c1) (D j (L d.2) c2));have V:=Zh (((c.set (p:=⟨ _,0,O⟩) (.inr (.inr rfl)) (D i (L d.1) c1)).set (p:=⟨ _,1,O⟩) (.inr (.inr rfl)) (D j (L d.2) c2)).sub  (fun b _ g=>.inl g));obtain⟨⟨N,d1⟩,-,-⟩:=ν t;obtain⟨⟨r0,r1⟩,⟨aK,aL⟩,-⟩:=ν y;clear r;go_wp2;refine Ω (v:=.tuple #[ā _,G a]) (gz  (u:=7)  rfl _ _ _ _ _ _ _ rfl Y.o qh rfl ϋ) rfl ?_;first|rw[W.o,<-F.o]|rw[<-F.o]
    exact⟨i,c1,j,c2,rfl,V.o,T.o⟩
   .have bp:¬(m:Int)<=(a:Int):=U
    obtain⟨⟨N,d1⟩,-,-⟩:=ν t;obtain⟨⟨br,bs,bt⟩,-,-⟩:=Β aB;have ar:=Zh (Ck i c1 j c2 _ _ aG c.now.1 c.now.2 e.o.1 (by rw[e.o.2.1];exact a1));have⟨am,X,aj⟩:=ϲ t y P;clear r t y;go_wp2_with fail
    refine ar.o.M ?_;rintro b0 f ⟨bx,k,rfl,bb,I⟩;have af:=θ am.o I;have aw:=θ X.o I;obtain⟨⟨N,d1⟩,⟨aJ,f1⟩,-⟩:=ν af;have bo:=ς X.o;have⟨an,aq,ak⟩:=ϲ (fS af (D (J ⟨k,0,O⟩) (L (gB d.1 d.2)) (L (gB d.1 d.2))) (D O 0 0)) ((jH f w.heap.size _ U (D (J ⟨k,0,O⟩) (L (gB d.1 d.2)) (L (gB d.1 d.2))) (D O 0 0)).trans aw) (ga (aj.o.t I) NZ (D (J ⟨k,0,O⟩) (L (gB d.1 d.2)) (L (gB d.1 d.2))) (D O 0 0));have ap:=Zh ((((bb.hi.off (H:=fun b=>H b\/b=w.heap.size\/b=w.heap.size+1) (fun b _ g=>by
     rcases g with g|g|g
     .have:=aO b g;omega
     .omega
     .omega)).and (fun ai _=>qL ai O 0)).set (p:=⟨w.heap.size,0,O⟩) (.inr (.inl rfl)) (D (J ⟨k,0,O⟩) (L (gB d.1 d.2)) (L (gB d.1 d.2)))).set (p:=⟨w.heap.size,1,O⟩) (.inr (.inl rfl)) (D O 0 0))
    go_wp2;go_roundw
    .exact⟨ _,_,_,_,O,0,U,U,ϕ,ae.o.symm,an.o,aq.o,ak.o,ap.o⟩
    exact ω
  |put B au =>
   rw[ag]at q ab ae ah;clear ab;obtain⟨a8,a9,bG,aP,aD⟩:=q;obtain⟨R,S,rfl⟩:=sK aD;rw[ah.2]at aD aP;have q:av[a*3]?=J (.bool false)/\av[a*3+1]?=J (G (B:Int))/\av[a*3+2]?=J (D R 64 S):=⟨a8,a9,aP⟩;have ay:s<w.heap.size:=ii w _ (M _ _ q.1);have Q:∀ (o:Nat) (x:ε),w.cell? ⟨s,o,O⟩=J x->wr.cell? ⟨s,o,O⟩=J x:=fun o x h=>(aa.cell  ay).trans h;have aZ:wr.cell? ⟨s,off+a*3+1,O⟩=J (G (B:Int)):=Q _ _ (M _ _ q.2.1);have a0:wr.cell? ⟨s,off+a*3+2,O⟩=J (D R 64 S):=Q _ _ (M _ _ q.2.2);have K:BQ wr (å wr (C #[.bool false,G (B:Int),D R 64 S] 256)):=ġ;have c:=ao.o.A (C #[.bool false,G B,D R 64 S] 256);have P:=aa.t K;have aB:=φ wr (C #[.bool false,G B,D R 64 S] 256);have t:=θ al.o K;have y:=θ ad.o K;have bm:wr.heap.size<(å wr (C #[.bool false,G (B:Int),D R 64 S] 256)).heap.size:=ύ;go_upto_region 4 with fail
   generalize å wr _=aG at *;by_cases a2:m<=a
   .obtain rfl:a=m:=U
    have⟨W,F,Y,T⟩:=hV (U:min a n=a) r (fS y (D i (L d.1) c1) (D j (L d.2) c2)) (ga P (gu _ 1) (D i (L d.1) c1) (D j (L d.2) c2));have V:=Zh (((c.set (p:=⟨ _,0,O⟩) (.inr (.inr rfl)) (D i (L d.1) c1)).set (p:=⟨ _,1,O⟩) (.inr (.inr rfl)) (D j (L d.2) c2)).sub  (fun b _ g=>.inl g));obtain⟨⟨N,d1⟩,-,-⟩:=ν t;obtain⟨⟨r0,r1⟩,⟨aK,aL⟩,-⟩:=ν y;clear r t y;go_wp2;refine Ω (v:=.tuple #[ā _,G a]) (gz  (u:=7)  rfl _ _ _ _ _ _ _ rfl Y.o qh rfl ϋ) rfl ?_;first|rw[W.o,<-F.o]|rw[<-F.o]
    exact⟨i,c1,j,c2,rfl,V.o,T.o⟩
   .have bp:¬(m:Int)<=(a:Int):=U
    obtain⟨⟨N,d1⟩,-,-⟩:=ν t;obtain⟨⟨br,bs,bt⟩,-,-⟩:=Β aB;have ar:=Zh (Ih B _ au i c1 j c2 _ _ aG c.now.1 c.now.2 e.o.1 (by rw[e.o.2.1];exact ah.1) (aD.B P) (by have:=e.o.2.2;rw[gp]at this;omega));have⟨am,X,aj⟩:=ϲ t y P;clear r t y;go_wp2_with fail
    refine ar.o.M ?_;rintro b0 f ⟨k,z,E,rfl,be,I⟩;have af:=θ am.o I;have aw:=θ X.o I;have bo:=ς X.o;have ax:BQ f (å f (C #[D (J ⟨k,0,O⟩) (L d.1) (L d.1),D z (L d.2+1) E] 41)):=ġ;have aN:=θ af ax;have a4:=θ aw ax;have bj:=φ f (C #[D (J ⟨k,0,O⟩) (L d.1) (L d.1),D z (L d.2+1) E] 41);have bd:=be.A (C #[D (J ⟨k,0,O⟩) (L d.1) (L d.1),D z (L d.2+1) E] 41);go_upto_region 9 with fail
    generalize å f _=ai at *;obtain⟨⟨N,d1⟩,⟨aJ,f1⟩,-⟩:=ν aN;obtain⟨⟨bE,bF⟩,-,-⟩:=ν bj;have a7:=(aj.o.t I);have⟨an,aq,ak⟩:=ϲ (fS aN (D (J ⟨k,0,O⟩) (L d.1) (L d.1)) (D z (L d.2+1) E)) ((jH ai w.heap.size _ U (D (J ⟨k,0,O⟩) (L d.1) (L d.1)) (D z (L d.2+1) E)).trans a4) (ga (a7.t ax) NZ (D (J ⟨k,0,O⟩) (L d.1) (L d.1)) (D z (L d.2+1) E));have aU:Α (fun b=>H b\/b=w.heap.size\/b=w.heap.size+1) (ŝ (ŝ ai ⟨w.heap.size,0,O⟩ (D (J ⟨k,0,O⟩) (L d.1) (L d.1))) ⟨w.heap.size,1,O⟩ (D z (L d.2+1) E)) (fun f=>Ε f (D (J ⟨k,0,O⟩) (L d.1) (L d.1)) d.1/\iu f (D z (L d.2+1) E) (d.2++[(B,au)])):=
     ((bd.off  (fun b _ g=>by
      rcases g with g|g|g
      .have:=aO b g;omega
      .omega
      .omega)).set  (.inr (.inl rfl)) _).set  (.inr (.inl rfl)) _
    have ap:=Zh aU;clear aU;go_wp2;go_roundw
    .refine⟨ _,(d.1,d.2++[(B,au)]),J ⟨k,0,O⟩,L d.1,z,E,U,U,ϕ,ae.o.symm,?_,aq.o,ak.o,?_⟩
     .simp only[σ,ϥ,gO];exact an.o
     .simp only[σ,ϥ,gO];exact ap.o
    exact ω
 .obtain rfl:a=n:=U
  have bq:¬(a:Int)<(a:Int):=U;have bn:l.take a=l.take m:=by rw[gF U,gF U]
  have aS:min m a=a:=U;rw[bn]at r;have⟨W,F⟩:=π aS r;clear r aS;go_wp2;refine Ω (v:=.tuple #[ā _,G a]) (gz  (u:=7)  rfl _ _ _ _ _ _ _ rfl Y.o qh rfl ϋ) rfl ?_;first|rw[W.o,<-F.o]|rw[<-F.o]
  exact⟨i,c1,j,c2,rfl,V.o,T.o⟩
def Ma (w:β):Calls prog 289 #[ĭ .u64 1,ĭ .u64 64] w fun e w'=>e=ŗ (.tuple #[ĭ .u64 0,ĭ .u64 64])/\w=w':=by
 go_enter func289,ntmps289;go_wp2;go_ret2;exact⟨rfl,rfl⟩
def Mb (w:β):Calls prog 220 #[ĭ .u64 1,ĭ .u64 64] w fun e w'=>e=ŗ (.tuple #[ĭ .u64 0,ĭ .u64 64])/\w=w':=by
 have a:=Zh (Ma w);go_enter func220,ntmps220;go_wp2_with fail
 refine a.o.M ?_;rintro e b ⟨rfl,rfl⟩;go_wp2;go_ret2;exact⟨rfl,rfl⟩
def CX:∀ (n t:Nat) (L:γ),∃ a,Extern.BytealgMakeNoZero.digits n t (η L).toArray=(η (L++a)).toArray/\a.length=n
 |0,t,L=>⟨[],by simp[Extern.BytealgMakeNoZero.digits],rfl⟩
 |n+1,t,L=>by
  have c:(η L).toArray.push (ĭ .u8 (Int.ofNat (t % 256)))=(η (L++[UInt8.ofNat (t % 256)])).toArray:=by
   have h:=sI (t % 256) (lI _ ϐ);rw[List.push_toArray]
   congr 1
   have b:η (L++[UInt8.ofNat (t % 256)])=η L++η [UInt8.ofNat (t % 256)]:=by simp[η]
   rw[b,h];rfl
  obtain⟨a,b,d⟩:=CX n (t / 256) (L++[UInt8.ofNat (t % 256)]);refine⟨UInt8.ofNat (t % 256)::a,?_,by simp[d]⟩;rw[Extern.BytealgMakeNoZero.digits,c,b];simp
def LN (n) (o:n<=1000000) (w:β):∃ (L:γ) (b:β),n<=L.length/\L.length<=maxLen/\(callFunc 221 #[G n]).run prog w=.ok (.value (D (J ⟨w.heap.size,0,O⟩) n L.length)) b/\b.heap[w.heap.size]?=J (C (η L).toArray 5 (0,0))/\BQ w b/\b.heap.size=w.heap.size+1:=by
 obtain⟨L,f,g⟩:=CX (grownCap w n 0 5) ((Question.extern "internal/bytealg.MakeNoZero.bytes" 0).cut (w.tape (w.drawn+1) (.extern "internal/bytealg.MakeNoZero.bytes" 0))) [];have l:=grownCap_ge w n 0 5;have m:=wb w n 0 5 ώ;refine⟨L,_,U,U,?_,φ w.drew.drew _,(RZ.drew.drew.A NZ _),ύ⟩;rw[run_callFunc_extern func221 ϋ ϋ ϋ (e:=Extern.BytealgMakeNoZero.makeNoZero #[3] #[31]) ϋ];have k:Extern.BytealgMakeNoZero.makeNoZero #[3] #[31] #[G n] =
   (do
    let .slice d <-underlying 31|stuck "bytealg.MakeNoZero: slice type expected"
    if(n:Int)<0||(n:Int)>2 ^ 48 then runtimePanic (.error "makeslice: len out of range")
    let c <-choose (.appendCap (n:Int).toNat 0 d)
    askRoom c
    let bytes <-choose (.extern "internal/bytealg.MakeNoZero.bytes" 0)
    let a <-newRow d (Extern.BytealgMakeNoZero.digits c bytes #[])
    pure (D (J a) (n:Int).toNat c)):=rfl
 have h:¬(n:Int)<0:=U;have i:¬(281474976710656:Int)<(n:Int):=U;have j:Extern.BytealgMakeNoZero.digits (grownCap w n 0 5) ((Question.extern "internal/bytealg.MakeNoZero.bytes" 0).cut (w.tape (w.drawn+1) (.extern "internal/bytealg.MakeNoZero.bytes" 0))) #[]=(η L).toArray:=by simpa[η] using f
 rw[k,<-j,g];simp[h,i,Question.forced,newRow,grownCap]
def lk (k:Nat):γ:=List.replicate k 255
def On (ao c) (w:β) (R:Rd w (D ao 1 c) 1 1 (η [255])) :
  Calls prog 156 #[D ao 1 c,G 64] w fun e w'=>∃ g,e=ŗ (D (J ⟨g,0,O⟩) 64 64)/\Hi w.heap.size w' (fun k=>Rd k (D (J ⟨g,0,O⟩) 64 64) 64 1 (η (lk 64)))/\BQ w w':=by
 obtain⟨b,A,X,Z,N,j,s,ag⟩:=LN 64 U w;have v:=Zh (Mb w);have Y:(64:Int)<=(L b:Int):=U;have y:=Zh (R.B s);have aa:(callFunc 221 #[G 64]).run prog w=.ok (.value (D (J ⟨w.heap.size,0,O⟩) 64 (L b))) A:=N;go_enter func156,ntmps156;go_wp2_with fail
 refine v.o.M ?_;rintro e am ⟨rfl,rfl⟩;go_upto_region 17 with fail
 obtain⟨B,af,T,H,-,-⟩:=AL _ 0 64 64 b j _ 1 _ y.o U U;have I:BQ w B:=s.trans H;have q:L (b.take 0++([255]++b.drop (0+1)))=L b/\(b.take 0++([255]++b.drop (0+1))).take 1=lk 1:=⟨ό,by simp[lk]⟩;go_wp2;go_loopw [10] (fun p wr=>∃ (a:Nat) (h:γ),p=G (a:Int)/\(a=1\/a=2\/a=4\/a=8\/a=16\/a=32\/a=64)/\L h=L b/\h.take a=lk a/\Hid (wr.heap[w.heap.size]?=J (C (η h).toArray 5 (0,0)))/\BQ w wr) (fun p _=>64 - (intOf p).toNat)
 .exact⟨1,_,rfl,.inl rfl,q.1,q.2,T,I⟩
 obtain⟨a,h,rfl,ab,ac,o,l,t⟩:=hrel;by_cases P:a=64
 .subst P
  have j:=l.o;have u:Hid (Hi w.heap.size wr (fun k=>Rd k (D (J ⟨w.heap.size,0,O⟩) 64 64) 64 1 (η (lk 64)))):=by
   intro k F;have n:=(F _ NZ (ς j)).trans j;refine⟨by simp[η,lk],ώ,.inr ⟨w.heap.size,0,64,rfl,U,U,ώ,fun i x d=>?_⟩⟩;have m:i<64:=by have:=(lK.1 d).1;simpa[η,lk] using this
   rw[ξ _ _ _ _ _ _ n,iI];rw[<-o]at d;simp only[η,mD,jP,iH,μ m]at d ⊢;exact d
  go_wp2;go_ret;exact⟨ _,rfl,u.o,t⟩
 .have ai:(a:Int)<64:=U
  have aj:(a:Int)<=64:=U;have ak:a<=32:=U;have ad:min (a:Int) 64=(a:Int):=U;have al:(0:Int)<=(a:Int):=U;have V:a<=64:=U;go_upto_region 20 with fail
  have f:BQ w wr.drew:=t.drew;refine ϯ (fun z=>BQ w z) 7 ϋ ?_;refine Zf 0 f ?_;refine Zf 1 f ?_;refine Zf 2 f ?_;refine Zf 3 f ?_;refine Zf 4 f ?_;refine Zf 5 f ?_;refine Zf 6 f ?_;refine jF (fuel:=2) ϋ ϋ rfl ?_;intro a0 W;have S:Rd wr.drew (D (J ⟨w.heap.size,0,O⟩) a 64) a 1 (η (lk a)):=by
   refine⟨by simp[η,lk],ώ,.inr ⟨w.heap.size,0,64,rfl,U,V,ώ,fun i x d=>?_⟩⟩;have n:=l.o;have m:i<a:=by have:=(lK.1 d).1;simpa[η,lk] using this
   rw[show wr.drew.cell? ⟨w.heap.size,0+i,O⟩=wr.cell? ⟨w.heap.size,0+i,O⟩from rfl,ξ _ _ _ _ _ _ n,iI];rw[<-o]at d;simp only[η,mD,jP,iH,μ m]at d ⊢;exact d
  refine AT rfl _ _ rfl _ a (64 - a) (64 - a) h l.o (by simp[Act.eval];omega) _ a _ ϔ S U U ?_;intro E K M ae ah;refine W _ _ ?_;have r:BQ w E:=f.trans M;have a1:IntKind.i64.wrap ((a:Int)+(a:Int))=((2*a:Nat):Int):=Ϗ;refine Zf 8 r ?_;refine Zf 9 r ?_;refine Zd ?_;go_wp2;go_roundw
  .refine⟨2*a,U,U,_,?_,?_,K⟩
   .simp only[σ,gp,fT,lk,List.length_replicate];omega
   .have Q:L (lk a)=a:=by simp[lk]
    rw[o,<-gP,List.take_left' (by simp[Q];omega)];simp only[lk];rw[List.replicate_append_replicate]
    congr 1;omega
  exact ω
def Pd {w:β} (g off dLen dCap) (L:γ) (W:w.heap[g]?=J (C (η L).toArray 5 (0,0)))
  (q:ε) (m) (V:γ) (j:Rd w q m 1 (η V)) (n) (K:n=min dLen m) (I:off+n<=L.length) :
  ∃ w',(Builtin.copy_ #[31,31] 3 #[D (J ⟨g,off,O⟩) dLen dCap,q]).run prog w=.ok (G n) w'/\Hid (w'.heap[g]?=J (C (η (L.take off++(V.take n++L.drop (off+n)))).toArray 5 (0,0)))/\Below g w w'/\(∀ k,k≠g->w'.heap[k]?=w.heap[k]?)/\w'.heap.size=w.heap.size:=by
 have f:=j.1;have M:V.length=m:=by simpa[η] using f
 have z:(V.take n).length=n:=Ϝ;have i:(η (V.take n)).length=n:=by simp[η];omega
 obtain⟨F,c,rfl,B⟩:=j.from
 obtain⟨R,hi,N,E,Q⟩:=Ϩ lh;have o:(prog.info? 5).map (·.size)=J 1:=by rw[hi];simp[E]
 have H:(η L).length=L.length:=by simp[η]
 have l:=xS L (V.take n) off;rw[z]at l;by_cases s:n=0
 .subst s
  have a:=run_copy_none  w 31 31 3 _ (J ⟨g,off,O⟩) F dLen dCap m c gv o (by show min m dLen=0;omega);refine⟨w,a,?_,ρ _ _,fun _ _=>rfl,rfl⟩;show _=_;simpa using W
 .obtain⟨r,rfl,u⟩:=B (by rw[f];omega)
  have A:∀ T∈η (V.take n),T.oneCell'=true:=by
   intro S p;simp only[η,ih]at p;obtain⟨b,-,rfl⟩:=p;rfl
  have v:=fun d x (h:(η (V.take n))[d]?=J x)=>u d x (by
   have t:d<n:=ι (lK.1 h).1
   simp only[η,jP,iH,μ t]at h ⊢
   exact h)
  have a:=run_copy_row (P:=prog) w 31 31 3 _ g off dLen dCap r m c _ 5 _ gv o W (by rw[i];show n=min m dLen;omega) v (by simp only[qk];omega) A;have e:(goInt (η (V.take n)).length)=G n:=by rw[i];rfl
  rw[e]at a;refine⟨_,a,?_,below_setRow RZ NZ _,fun k y=>tY w g k _ (fun e=>y e),by simp[World.setRow]⟩;show _=_;rw[<-l];have:=setRow_heap w g _ (splice (η L) off (η (V.take n))).toArray 5 _ W;simpa[splice] using this
def mF.congr {w:β} {r q:List ε} {k j d} (h:mF w r k d) (e:∀ i,i<3->q[j*3+i]?=r[k*3+i]?):mF w q j d:=by
 have c:=e 0 U;have f:=e 1 U;have g:=e 2 U;simp only[kG]at c;cases d with
 |sync=>exact⟨c.trans h.1,f.trans h.2.1,g.trans h.2.2⟩
 |put a b=>obtain⟨l,m,p,n,o⟩:=h;exact⟨c.trans l,f.trans m,p,g.trans n,o⟩
def jD (e:Nat) (w:β) (v:ε) (l:List jw):Prop:= ∃ b,w.ownsRow e 256 3 v (L l) b/\Α (kJ e v) w (fun c=>∀ a (d:a<L l),mF c b a l[a])
def jD.nil (w base):jD base w (D O 0 0) []:=⟨[],gQ w base _ 3,fun _ _ b a=>by simp at a⟩
def jD.hi {base w v l} (h:jD base w v l):Hi base w (fun a=>rv a v l):=by
 obtain⟨b,c,d⟩:=h;exact(d.rowHi c).imp fun a g=>⟨b,g.2,g.1⟩
def jD.B {base w w' v l} (h:jD base w v l) (a:BQ w w'):jD base w' v l:=by
 obtain⟨b,c,d⟩:=h;exact⟨b,ψ c a,d.B a⟩
def jD.app {base} {w r:β} {v b:ε} {l l2} {a e:List ε} (n:w.ownsRow base 256 3 v (L l) a) (j:Α (kJ base v) w (fun c=>∀ k (d:k<L l),mF c a k l[k]))
  (i:Α (kJ base v) w (fun c=>∀ k (d:k<L l2),mF c e k l2[k])) (o:r.ownsRow base 256 3 b (L l+L l2) (a++e)) (s:w.grownBy r v.ownBlock) (p:b.ownBlock=v.ownBlock\/b.ownBlock=J w.heap.size):jD base r b (l++l2):=by
 have m:=n.1;refine⟨a++e,by simpa using o,((j.and i).grown s p).imp fun c ⟨g,h⟩ k d=>?_⟩;by_cases f:k<L l
 .rw[qm f]
  exact(g k f).congr fun q hi=>je U
 .simp only[σ]at d
  rw[GS U];refine(h (k - L l) U).congr fun q hi=>?_;rw[hL U,m]
  congr 1;omega
def DD:(prog.info? 256).map (fun i=>(i.zero,i.size,i.bytes))=J (J (ā #[.bool false,G 0,D O 0 0]),3,40):=ϋ
def jV (a:ht):List jw:=a.map fun x=>.put x.1 x.2
def GO (bl f p):ig bl f p []=[]:=by cases f<;>simp[ig]
def Qi (p:Nat) (h:p<=1000000000):IntKind.i64.wrap ((p:Int).tdiv 64)=((p / 64:Nat):Int):=by
 rw[Int.tdiv_eq_ediv_of_nonneg U,kD];omega
def Qs (p:Nat) (h:p<=1000000000):IntKind.i64.wrap ((p:Int).tmod 64)=((p % 64:Nat):Int):=by
 rw[Int.tmod_eq_emod_of_nonneg U,kD];omega
def jD.M {base base'} {w:β} {v:ε} {l} (h:jD base w v l) (e:base'<=base):jD base' w v l:=by
 obtain⟨a,c,d⟩:=h;exact⟨a,gX c e,d.sub fun b _ g=>by rcases g with g|g;exact .inl U;exact .inr g⟩
def Lk (p:Nat) (ap:Option Addr) (k aq:Nat) (v:γ) (ba:Option Addr) (bc:Nat) (wa:Option Addr) (E:Nat) (bl:ϸ) (w:β) (aJ:Ε w (D ba (L bl) bc) bl) (bw:L bl<=4096) (ad:∀ b∈bl,L b=64) (bL:3<=L bl) (F:Rd w (D ap k aq) k 1 (η v)) (aG:L v=k) (bq:p+k<=Ϯ bl) :
  Calls prog 157 #[ā #[D ba (L bl) bc,D wa 0 E],G p,D ap k aq] w fun e w'=>∃ b3 n c,e=ŗ (D b3 n c)/\L (jV (ig bl (k+1) p v))=n/\jD w.heap.size w' (D b3 n c) (jV (ig bl (k+1) p v))/\BQ w w':=by
 have bV:Ϯ bl<=262016:=by unfold Ϯ;omega
 have be:=Zh (fun y (K:y<L bl) az (bn:BQ w az)=>zg y ba bc wa E bl az K (aJ.B bn) bw ad);have⟨a3,bf,a⟩:=ϲ ad F aG;have aA:IntKind.i64.wrap ((p:Int)+(k:Int))=((p+k:Nat):Int):=Ϗ;obtain⟨aZ,bF,aP⟩:=fO (w:=w) (A:=C #[D ba (L bl) bc,D wa 0 E] 41) RZ;obtain⟨I,aF⟩:∃ I:Nat,I=p+k:=⟨_,rfl⟩;rw[<-aF]at aA;clear aJ ad F aG;go_enter func157,ntmps157;go_wp2;generalize å w (C #[D ba (L bl) bc,D wa 0 E] 41)=bG at *;go_loopw [1,2,7] (fun bE ab bD wr=>∃ (d:Nat) (b:γ) (f:Nat) (i:List jw) (S:Option Addr) (l:Nat) (t:Option Addr) (u:Nat),bE=G (d:Int)/\ab=D S (L b) l/\bD=D t (L i) u/\d+L b=I/\L b<f/\L i+L b<=k/\i++jV (ig bl f d b)=jV (ig bl (k+1) p v)/\Hid (Rd w (D S (L b) l) (L b) 1 (η b))/\Hid (wr.heap[w.heap.size]?=J (C #[D ba (L bl) bc,D wa 0 E] 41 (0,0)))/\Hid (jD (w.heap.size+1) wr (D t (L i) u) i)/\BQ w wr) (fun _ ab _ _=>gn ab)
 .exact⟨p,v,k+1,[],ap,aq,O,0,rfl,by rw[a.o],rfl,by rw[a.o,aF],by rw[a.o];omega,by rw[a.o];simp,rfl,by show _;rw[a.o];exact bf.o,aZ,jD.nil _ _,aP⟩
 obtain⟨d,b,f,i,S,l,t,u,rfl,rfl,rfl,bT,bO,bM,M,V,av,x,N⟩:=hrel;obtain⟨⟨bJ,d1⟩,-,b1⟩:=ν av.o;clear aZ bF aP;by_cases ak:L b=0
 .have bA:¬(d:Int)<(I:Int):=U
  have aK:b=[]:=kS ak;have aH:i=jV (ig bl (k+1) p v):=by rw[<-M,aK,GO];simp[jV]
  have a4:=Zh aH;clear aH M aK ak;go_wp2;go_ret;rw[<-a4.o];exact⟨t,L i,u,rfl,rfl,x.o.M (gu _ 1),N⟩
 .have bA:(d:Int)<(I:Int):=U
  obtain⟨B,rfl⟩:∃ B,f=B+1:=⟨f - 1,U⟩;obtain⟨q,aX⟩:∃ q:Nat,q=2+d / 64:=⟨_,rfl⟩;obtain⟨o,aU⟩:∃ o:Nat,o=d % 64:=⟨_,rfl⟩;obtain⟨n,al⟩:∃ n:Nat,n=min (64 - o) (L b):=⟨_,rfl⟩;have bU:2+(d:Int) / 64=(q:Int):=U;have bS:(d:Int) % 64=(o:Int):=U;have aY:q<L bl:=by unfold Ϯ at bq;omega
  have bi:=Qi d U;have bj:IntKind.i64.wrap (2+(d:Int) / 64)=(q:Int):=Ϗ;have bk:=Qs d U;have aO:b≠[]:=fun h=>ak (by rw[h];rfl);have aC:=a3.o _ (qI bl q [] aY);obtain⟨H,ae⟩:∃ H,H=bl.getD q []:=⟨_,rfl⟩;obtain⟨m,Q⟩:∃ b2,b2=H.take o++(b.take n++H.drop (o+n)):=⟨_,rfl⟩;have a2:ig bl (B+1) d b=(q,m)::ig bl B (d+n) (b.drop n):=by
   rw[ig,κ aO];simp only[<-aX,<-aU,<-al,<-ae,<-Q]
  have aI:(i++[.put q m])++jV (ig bl B (d+n) (b.drop n))=jV (ig bl (k+1) p v):=by
   rw[<-M,a2,gP];rfl
  have⟨au,ay⟩:=π aI (be.o q aY wr N);rw[<-ae]at aC ay;have R:L m=64:=by rw[Q,σ,σ,gp,gp,fT];omega
  have⟨a8,a9⟩:=π Q al;have bx:n<=L b:=U;have bQ:n<=64 - o:=U;have bP:0<n:=U;clear aX aU ae Q a2 M aI aO al;go_wp2_with fail
  refine ay.o.M ?_;rintro e b0 ⟨g,rfl,an,af⟩;have a0:=tm an.2;have aT:=(Ϡ an.2 g rfl).1;have bp:=N.t af;obtain⟨z,bB,aj,aL,bz,-⟩:=Pd g o (64 - o) (64 - o) H a0 (D S (L b) l) (L b) b (V.o.B bp) n a9.o (by rw[aC];omega);rw[<-a8.o]at aj;have ag:BQ wr z:=af.trans (aL.M aT);have a5:=Zh (θ av.o ag);have aB:=x.o.B ag;have ai:=N.t ag;have aW:Μ wr.heap.size z (D (J ⟨g,0,O⟩) 64 64) 64 m:=
   ⟨R,by simp[η,R],.inr ⟨g,64,_,rfl,aT,aj.o,NZ,ώ,by simp[η,R],by simp only[List.toList_toArray];rw[gF (by simp[η,R])]⟩⟩
  obtain⟨bC,br,bs,bt,bu⟩:=Ϩ DD;obtain⟨bh,aV,aE⟩:=aB.B (((ρ z.heap.size z).A NZ (C #[.bool false,G (q:Int),D (J ⟨g,0,O⟩) 64 64] 256)));have aM:∀ s,(Value.slice t (L i) u).ownBlock=J s->s<wr.heap.size:=by
   obtain⟨bI,bm,-⟩:=x.o;exact fun g hg=>(Ϡ bm g hg).2
  have aS:Α (kJ (w.heap.size+1) (D t (L i) u)) (å z (C #[.bool false,G (q:Int),D (J ⟨g,0,O⟩) 64 64] 256)) (fun T=>Rd T (D (J ⟨g,0,O⟩) 64 64) (L m) 1 (η m)):=
   Α.of_ownB (aW.A _) U aM
  have aD:Α (kJ (w.heap.size+1) (D t (L i) u)) (å z (C #[.bool false,G (q:Int),D (J ⟨g,0,O⟩) 64 64] 256)) (fun T=>∀ y (K:y<L [jw.put q m]),mF T [.bool false,G (q:Int),D (J ⟨g,0,O⟩) 64 64] y [jw.put q m][y]):=
   aS.imp fun T h y K=>by
    obtain rfl:y=0:=by simp at K;exact K
    exact⟨rfl,rfl,_,rfl,h⟩
  have⟨W,bd,a7⟩:=ϲ aV aE aD;clear an a0 aj aL bz aB aW aV aE aM aS aD af;obtain⟨-,-,⟨bH,bg,F,bv⟩|⟨aa,off,bg,F,bv,bR,bN,-⟩⟩:=V.o
  .omega
  simp only[Χ,ϵ]at F;obtain⟨rfl,rfl⟩:=F;have bW:(n:Int)<=(l:Int):=U;have bX:(n:Int)<=(L b:Int):=U;go_upto_region 9 with fail
  clear bB;go_upto_region 10 with (at_builtin;go_loud (refine ϻ rfl _ _ _ _ rfl (w.heap.size+1) 256 bC _ 3 40 tZ br bs bt bu rfl (D t (L i) u) (L i) bh rfl W.o _ 1 [.bool false,G (q:Int),D (J ⟨g,0,O⟩) 64 64] rfl (gh tZ z #[.bool false,G (q:Int),D (J ⟨g,0,O⟩) 64 64] 3 1 1 rfl ϗ) ώ U (by have:=ai.size;simp;omega) ?_);intro bZ ar ao P a1 _)
  obtain⟨Z,ac,rfl⟩:=Η ao;have ah:BQ w (å z (C #[.bool false,G (q:Int),D (J ⟨g,0,O⟩) 64 64] 256)):=ai.al _;have am:∀ s,(Value.slice t (L i) u).ownBlock=J s->w.heap.size+1<=s:=fun s hg=>(Ϡ W.o s hg).1;have bo:=ah.grown P ah.size (fun s hg=>ι (am s hg));have a6:Hid (ar.heap[w.heap.size]?=J (C #[D ba (L bl) bc,D wa 0 E] 41 (0,0))):=by
   show _=_;rw[P.block _ (by have:=ai.size;simp;omega) (fun e=>ι (am _ e.symm))];exact θ a5.o (ġ)
  have bb:Hid (jD (w.heap.size+1) ar (D Z (L i+1) ac) (i++[.put q m])):=jD.app W.o bd.o a7.o ao P a1;have bK:IntKind.i64.wrap ((d:Int)+(n:Int))=((d+n:Nat):Int):=Ϗ;have r:L (b.drop n)=L b - n:=fT ..;clear ao P a1 ah am bi bj bk aA;have j:=bo.drew;have aw:Hid (ar.drew.heap[w.heap.size]?=J (C #[D ba (L bl) bc,D wa 0 E] 41 (0,0))):=a6.o;have ax:=Zh (bb.o.B RZ.drew);have bY:(0:Int)<=(n:Int):=U;by_cases aQ:n=l
  .have aN:L b=n:=U
   have aR:l=n:=aQ.symm;subst aR;have X:Hid (Rd w (D (J ⟨aa,off,O⟩) 0 0) 0 1 (η (b.drop l))):=by
    rw[show b.drop l=[]from sx U];exact pX _ _
   refine ϯ (fun Y=>BQ w Y) 7 ϋ ?_;refine Zf 0 j ?_;refine Zf 1 j ?_;refine Zf 2 j ?_;refine Zf 3 j ?_;refine Zf 4 j ?_;refine Zf 5 j ?_;refine Zf 6 j ?_;refine Zl ?_;refine Zd ?_;go_wp2;go_roundw
   .refine⟨d+l,b.drop l,B,i++[.put q m],J ⟨aa,off,O⟩,0,Z,ac,ϕ,by rw[r,aN,kj],ύ,by rw[r];omega,by rw[r];omega,by rw[r];simp;omega,au.o,?_,aw.o,?_,j⟩
    .rw[r,aN,kj];exact X.o
    .rw[σ];exact ax.o
   simp only[gn];omega
  .have aR:¬l=n:=fun h=>aQ h.symm
   have X:=Zh (vz V.o bx);refine ϯ (fun Y=>BQ w Y) 7 ϋ ?_;refine Zf 0 j ?_;refine Zf 1 j ?_;refine Zf 2 j ?_;refine Zf 3 j ?_;refine Zf 4 j ?_;refine Zf 5 j ?_;refine Zf 6 j ?_;refine Zl ?_;refine Zd ?_;go_wp2;go_roundw
   .refine⟨d+n,b.drop n,B,i++[.put q m],J ⟨aa,off+n,O⟩,l - n,Z,ac,ϕ,by rw[r],ύ,by rw[r];omega,by rw[r];omega,by rw[r];simp;omega,au.o,?_,aw.o,?_,j⟩
    .rw[r];exact X.o
    .rw[σ];exact ax.o
   simp only[gn];omega
