/- Part 33 of the proof. -/
import Derived.Test.YtpilfbcffofheaaGreatDoorm32
set_option linter.unusedVariables false
set_option linter.unusedSimpArgs false
set_option maxRecDepth 100000
set_option maxHeartbeats 8000000
namespace Go.Proofs.YtpilfbcffofheaaGreatDoor
open Go.Proofs.Tryz Go.RowKit Go.Sort
open Value renaming pointer->þ,slice->D,string->š,agg->ā,int->ĭ
open Option renaming none->O,some->J
open List renaming length->L
open Ending renaming returned->ŗ
open Obj renaming cells->C
open World renaming setCell->ŝ,alloc->å
theorem Du (g p a c:Nat) (b pre post:γ) (w:β) (h:RS 238 g w b p) (d:b=pre++(ξ a++post)) (m:a<=c) (n:c<=100000) (l:L pre=p) (f:L b<=1000000000) :
  Calls prog 176 #[þ (J ⟨g,0,O⟩),IZ c] w (RP 238 g b (p+L (ξ a)) (IZ a) w):=by
 have i:=Zh (zb g p a b pre post w h d ϊ l f);have hi:¬(c:Int)<(a:Int):=ϊ;clear h d f;go_enter func176,ntmps176;go_wp2_with fail
 refine i.o.mono ?_;rintro e o ⟨rfl,j,k⟩;go_wp2;go_ret;exact⟨rfl,j,k⟩
theorem fZ.oneCh {base g:Nat} {w w':β} {v:ε} {n:Nat} {l:List (γ)} (h:fZ base w v n l) (hg:g<base) (a:Η g w w'):fZ base w' v n l:=by
 refine⟨h.1,jT h.2 fun q b=>?_⟩;have:=Ν h.2 q b;exact a.2.1 q this.2 ϊ
def uD (T:TypeId) (g:Nat) (d:γ) (p:Nat) (path:List (γ)) (w:β) (e:Ending) (w':β):Prop:= ∃ a b c,e=ŗ (D a b c)/\fZ w.heap.size w' (D a b c) b path/\gT T g w.heap.size w' d p/\Η g w w'
theorem zd (g p:Nat) (path:List (γ)) (i pre post:γ) (w:β) (h:RS 238 g w i p) (an:i=pre++(gq path++post)) (am:L path<=64) (E:ϭ path) (ar:L pre=p) (U:L i<=1000000000) :
  Calls prog 130 #[þ (J ⟨g,0,O⟩)] w (uD 238 g i (p+L (gq path)) path w):=by
 have Q:g<w.heap.size:=by obtain⟨a,n,c,j,-,-⟩:=h;exact ο j
 have N:i=pre++(ξ (L path)++(path.flatten++post)):=by rw[an];unfold gq;simp
 have K:=Zh (Du g p (L path) 64 i pre (path.flatten++post) w h N am ϊ ar U);have aQ:=oJ E;have au:p+L (gq path)=p+L (ξ (L path))+L path*32:=by unfold gq;simp only[ω];omega
 rw[au];obtain⟨m,T⟩:∃ m,L path=m:=⟨_,rfl⟩;obtain⟨ab,av⟩:∃ q,p+L (ξ (L path))=q:=⟨_,rfl⟩;rw[av]at K ⊢;rw[T]at K am ⊢;have az:=Zh (fun f (F:f<L path)=>E path[f] (Χ F));have ae:=Zh T;have aA:=Zx (fun f (F:f<L path)=>show i=(pre++(ξ (L path)++(path.take f).flatten))++(path[f]++((path.drop (f+1)).flatten++post))/\L (pre++(ξ (L path)++(path.take f).flatten))=ab+f*32 by
  refine⟨?_,?_⟩
  .have j:path.flatten=(path.take f).flatten++(path[f]++(path.drop (f+1)).flatten):=by
    have k:path=path.take f++(path[f]::path.drop (f+1)):=by rw[<-mh F,pd]
    have al:=iY List.flatten k
    rw[wY,oX]at al
    exact al
   rw[N,j];simp only[gM]
  .have k:=oJ (l:=path.take f) (fun d aP=>E d (ni aP))
   rw[gN]at k
   simp only[ω,k];omega)
 have aD:=Zx U;clear h an N E T U aQ au av ar;obtain⟨aX,aR,ay,aV,aW⟩:=ϯ rn;go_enter func130,ntmps130;go_wp2_with fail
 refine K.o.mono ?_;rintro e a8 ⟨rfl,-,aq,aw⟩;go_wp2_with fail
 go_loopw [3,7] (fun a1 aa wr=>∃ (f q:Nat) (a:Option Addr) (c:Nat),f<=m/\aa=IZ (f:Int)/\a1=D a f c/\Ϭ (q=ab+f*32)/\Ϭ (gT 238 g w.heap.size wr i q)/\Ϭ (fZ w.heap.size wr (D a f c) f (path.take f))/\Ϭ (Η g w wr)) (fun _ aa _=>m - (intOf aa).toNat)
 case atStart=>exact⟨0,ab,O,0,Ι _,rfl,rfl,⟨ϊ⟩,⟨aw⟩,⟨fZ.nil _ _⟩,⟨aq⟩⟩
 case round =>
  obtain⟨f,q,a,c,F,rfl,rfl,M,ah,A,H⟩:=hrel;clear aw aq;by_cases a5:f<m
  .have S:f<L path:=by have:=ae.o;omega
   have aY:(f:Int)<(m:Int):=ϊ;obtain⟨aZ,x,a0,hg,W,t⟩:=ah.o.rs Q;obtain⟨r,ap⟩:=aA.o f S;obtain⟨o,Y⟩:∃ o,q+32=o:=⟨_,rfl⟩;have z:=xV aZ x a0 q i _ _ path[f] wr r (az.o f S) (ap.trans M.o.symm) W (by have:=aD.o;omega) t.now;rw[Y]at z;have z:=Zx z;have aH:=Zx Y;clear Y;have I:=Zx hg;have af:=Zx W;have ao:path.take (f+1)=path.take f++[path[f]]:=kD S;have ai:=Zx ao;generalize path[f]=v at *;obtain⟨⟨c0,c1,c2⟩,⟨aO,f1,f2⟩,ac⟩:=Β hg;clear hg W t r ap ao;go_wp2_with fail
   refine z.o.mono ?_;rintro e a2 ⟨B,G,rfl,R,r⟩;obtain⟨⟨aK,d1,d2⟩,⟨aL,aM,aN⟩,-⟩:=Β (θ I.o r);obtain⟨ax,Z,-⟩:=pE (p:=o) I.o r af.o R;have aC:=Zx (((R.set (p:=⟨g,0,O⟩) ac (D B x G)).set (p:=⟨g,1,O⟩) ac (IZ (o:Int))).set (p:=⟨g,2,O⟩) ac (IZ 0));have aI:=Zx (jg (θ I.o r) (D B x G) (IZ (o:Int)) (IZ 0));have aJ:=Zx r.size;clear R c0 c1 c2 aO f1 f2;go_upto_region 6 with (fail)
   generalize(ŝ (ŝ (ŝ a2 ⟨g,0,O⟩ (D B x G)) ⟨g,1,O⟩ (IZ (o:Int))) ⟨g,2,O⟩ (IZ 0))=u at *;have P:=(H.o).trans Z;have aF:=Zx (A.o.oneCh Q Z);have a6:=P.1;have ag:=Zx (aF.o.alloc (C #[š (δ v)] 9));have a3:=Zx ax;have ad:=Zx P;clear aK d1 d2 aL aM aN ax Z P;go_wp2_with (at_builtin;go_loud (refine gn rfl _ _ _ _ rfl w.heap.size 9 aX _ 1 16 lL aR ay aV aW rfl (D a f c) f _ (by rfl) ag.o.2 _ 1 (σ [v]) (by rfl) ((qF u _ v).src lL (tV [v])) ώ ϊ ό ?_;intro a7 y X s aU _;obtain⟨aj,ak,rfl⟩:=Θ X))
   have V:∀ b,b<u.heap.size->b<w.heap.size->y.heap[b]?=u.heap[b]?:=fun b j k=>(s.block b ό (fun e=>by have:=(Ν ag.o.2 b e.symm).1;omega)).trans (gX u _ b j);have a4:g<y.heap.size:=by have:=s.size;simp at this;omega
   have aB:Ϭ (Η g w y):=⟨⟨by have:=s.size;simp at this;omega,fun b j k=>(V b ϊ j).trans (ad.o.2.1 b j k),ad.o.2.2.trans (((φ 0 u).alloc (Ι _) (C #[š (δ v)] 9)).grown s (Ι _) (fun _ _=>Ι _))⟩⟩;have aT:Ϭ (gT 238 g w.heap.size y i o):=by
    have aS:=Ν A.o.2;have ay:=aJ.o;refine⟨⟨B,x,G,(V g ϊ Q).trans aI.o,af.o,?_⟩⟩;refine(aC.o.step (by have:=s.size;simp at this;omega) fun b j k=>?_).mono H.o.1;exact(s.block b ό (fun e=>by have:=(aS b e.symm).2;omega)).trans (gX u _ b k)
   have aG:Ϭ (fZ w.heap.size y (D aj (f+1) ak) (f+1) (path.take (f+1))):=⟨by rw[ai.o,ω,A.o.1];rfl,by rw[ai.o,tU];exact X⟩;clear X s aU V;go_roundw;case rel=>exact⟨f+1,o,aj,ak,ϊ,ϕ,rfl,⟨by rw[<-aH.o,M.o];omega⟩,aT,aG,aB⟩
   case measure=>simp[intOf];omega
  .have aY:¬(f:Int)<(m:Int):=ϊ
   obtain rfl:m=f:=ϊ;have t:=A.o;rw[gW (by have:=ae.o;omega)]at t;have aE:=Zx t;clear t;go_wp2;go_ret;exact⟨a,m,c,rfl,aE.o,by rw[<-M.o];exact ah.o,H.o⟩
theorem Η.cell {R b o:Nat} {w w':β} {x:ε} (h:Η R w w') (d:b≠R) (c:w.cell? ⟨b,o,O⟩=J x):w'.cell? ⟨b,o,O⟩=J x:=
 (sA (w:=w) (a:=⟨b,o,O⟩) (h.2.1 b (ib w _ c) d)).trans c
def hJ (R F:Nat) (w w':β):Prop:=w.heap.size<=w'.heap.size/\(∀ b,b<w.heap.size->b≠R->b≠F->w'.heap[b]?=w.heap[b]?)/\Below 0 w w'
theorem hJ.ofL {R F:Nat} {w w':β} (h:Η R w w'):hJ R F w w':=⟨h.1,fun b a c _=>h.2.1 b a c,h.2.2⟩
theorem hJ.trans {R F:Nat} {w w' e:β} (h:hJ R F w w') (k:hJ R F w' e):hJ R F w e:=⟨gh h.1 k.1,fun b a c d=>(k.2.1 b (nj a h.1) c d).trans (h.2.1 b a c d),h.2.2.trans k.2.2⟩
theorem hJ.below {R F:Nat} {w w' c:β} (h:hJ R F w w') (a:BQ w' c):hJ R F w c:=h.trans ⟨a.size,fun b d _ _=>a.block b d,a.mono (Ι _)⟩
theorem hJ.setF {R F:Nat} {w w':β} (h:hJ R F w w') (o:Nat) (x:ε):hJ R F w (ŝ w' ⟨F,o,O⟩ x):=
 ⟨by simpa using h.1,fun b c d a=>(ψ _ _ _ _ a).trans (h.2.1 b c d a),h.2.2.setCell (Ι _) x⟩
theorem Η.hi {R g:Nat} {w w':β} (h:Η R w w') (hg:w.heap.size<=g) (o:Nat) (x:ε):Η R w (ŝ w' ⟨g,o,O⟩ x):=
 ⟨by simpa using h.1,fun b a c=>(ψ _ _ _ _ ϑ).trans (h.2.1 b a c),h.2.2.setCell (Ι _) x⟩
theorem gT.mono {T:TypeId} {g lo lo' p:Nat} {w:β} {b:γ} (h:gT T g lo w b p) (i:lo'<=lo):gT T g lo' w b p:=by
 obtain⟨a,n,c,d,e,f⟩:=h;exact⟨a,n,c,d,e,f.mono i⟩
def px (R:Nat):ε:=.func (.func 271) #[] #[þ (J ⟨R,0,O⟩)]
def ti (R:Nat):ε:=.func (.func 272) #[] #[þ (J ⟨R,0,O⟩)]
structure qX (R N D F:Nat) (w:β) (from_:Int) (B:γ) (p:Nat):Prop where
 rs:RS 211 R w B p
 n:w.heap[N]?=J (C #[px R] 243 (0,0))
 d:w.heap[D]?=J (C #[ti R] 362 (0,0))
 f:w.heap[F]?=J (C #[IZ from_] 3 (0,0))
 ne:R≠N/\R≠D/\R≠F/\F≠N/\F≠D
theorem IA (R N y F p d l:Nat) (from_:Int) (u:γ) (i pre post:γ) (w:β) (h:qX R N y F w from_ i p) (ab:i=pre++(ξ d++(ξ l++(u++post)))) (B:d<=4611686018427387904) (Q:l<=4611686018427387904) (aK:L u=32) (ae:L pre=p) (ad:L i<=1000000000) :
  Calls prog 273 #[þ (J ⟨F,0,O⟩),þ (J ⟨N,0,O⟩),þ (J ⟨y,0,O⟩)] w fun e w'=>e=ŗ (ā #[IZ from_,IZ d,IZ l,š (δ u)])/\qX R N y F w' d i (p+L (ξ d)+L (ξ l)+32)/\hJ R F w w'/\gT 211 R w.heap.size w' i (p+L (ξ d)+L (ξ l)+32):=by
 obtain⟨ay,ar,an,hF,⟨H,X,Y,aH,aI⟩⟩:=h;have bX:R<w.heap.size:=by obtain⟨a,n,c,aJ,-,-⟩:=ay;exact ο aJ
 have bW:=ο ar;have bU:=ο an;have bV:=ο hF;obtain⟨p1,af⟩:∃ q,p+L (ξ d)=q:=⟨_,rfl⟩;obtain⟨p2,aw⟩:∃ q,p1+L (ξ l)=q:=⟨_,rfl⟩;obtain⟨bN,a2⟩:∃ q,p2+32=q:=⟨_,rfl⟩;have a0:i=(pre++ξ d)++(ξ l++(u++post)):=by rw[ab];simp
 have Z:i=((pre++ξ d)++ξ l)++(u++post):=by rw[ab];simp
 have al:=Zx (fun f (h:RS 211 R f i p)=>vl R p d i pre _ f h ab B ae ad);have aE:=Zx (fun f (h:RS 211 R f i p1)=>vl R p1 l i _ _ f h a0 Q (by rw[ω,ae,af]) ad);have aF:=Zx (fun f (h:RS 211 R f i p2)=>Cj R p2 u i _ post f h Z aK (by rw[ω,ω,ae,af,aw]) ad);rw[af]at al ⊢;rw[aw]at aE ⊢;rw[a2]at aF ⊢;clear ab a0 Z B Q aK ae ad af aw a2;have aJ:∀ V f,(callFunc 271 V).run prog f=.ok (.enter 271 V) f:=iB func271 ϋ rfl;have bE:∀ V f,(callFunc 272 V).run prog f=.ok (.enter 272 V) f:=iB func272 ϋ rfl;obtain⟨a3,bZ,S⟩:=Ϻ (w:=w) (A:=C #[IZ 0,IZ 0,IZ 0,š ⟨#[]⟩] 198) RZ;go_enter func273,ntmps273;go_upto_region 1 with (fail)
 have bL:w.heap.size+1=(å w (C #[IZ 0,IZ 0,IZ 0,š ⟨#[]⟩] 198)).heap.size:=ύ;have a8:=ay.below ((φ w.heap.size w).alloc NZ (C #[IZ 0,IZ 0,IZ 0,š ⟨#[]⟩] 198));generalize å w (C #[IZ 0,IZ 0,IZ 0,š ⟨#[]⟩] 198)=j at *;have au:=θ ar S;have aL:=θ an S;have ap:=θ hF S;obtain⟨P,-,-⟩:=gm au;obtain⟨W,-,-⟩:=gm ap;clear ar an hF ay;go_cut [4] (fun bD wc=>∃ I,bD=þ (J ⟨I,0,O⟩)/\wc.heap[I]?=J (C #[IZ from_,IZ d] 89 (0,0))/\j.heap.size<=I/\gT 211 R j.heap.size wc i p1/\Η R j wc)
 case first =>
  have bf:N≠R:=fun e=>H e.symm;have be:F≠R:=fun e=>Y e.symm;refine ϸ (fun am=>Η R j am) 5 ϋ ?_;have s:Η R j j.drew:=(Η.refl R j).below RZ.drew;have ag:=a8.below (φ j.heap.size j).drew;generalize bK:j.drew=wd at *;refine Zb 0 [3,5] s ?_ (hy:=by intro f o;have bo:=Η.cell o bf P;have H:=Η.cell o be W;go_simp;try with_reducible rfl);refine Zb 1 [2,3,5] s ?_ (hy:=by intro f o;have bo:=Η.cell o bf P;have H:=Η.cell o be W;go_simp;try with_reducible rfl);refine pZ (fuel:=3) 2 4 ϋ rfl rfl ?_ ?_
  .skip
   intro K k;unfold px;go_simp;refine(al.o _ ag).mono ?_;rintro e m ⟨rfl,-,r,bv⟩;have x:=s.trans r;refine k _ _ x ?_;clear k K;try simp only[Zp]
   refine Zf 3 x ?_;have t:=x.below ((φ m.heap.size m).alloc NZ (C #[IZ 0,IZ 0] 89));have U:=χ m (C #[IZ 0,IZ 0] 89);refine Ψ (fuel:=1) 4 ϋ rfl ?_;intro K k;go_simp;refine k _ _ t ?_;clear k K;have bk:=Zx (fun b (ac:b<m.heap.size)=>gX m (C #[IZ 0,IZ 0] 89) b ac);generalize å m (C #[IZ 0,IZ 0] 89)=bg at *;try simp only[Zp]
   obtain⟨⟨bh,bi⟩,⟨bp,f1⟩,-⟩:=ι U;have aa:gT 211 R j.heap.size (ŝ (ŝ bg ⟨m.heap.size,0,O⟩ (IZ from_)) ⟨m.heap.size,1,O⟩ (IZ d)) i p1:=(bv.stays (by simp;have:=ο U;omega) fun b ac _=>by
    rw[ψ _ _ _ _ ϑ,ψ _ _ _ _ ϑ];exact bk.o b ac).mono s.1
   have M:=Zx (Γ (Ϲ U (IZ from_) (IZ d)) (Γ x.1 (Γ aa ((t.hi (g:=m.heap.size) x.1 0 (IZ from_)).hi (g:=m.heap.size) x.1 1 (IZ d)))));clear aa t;refine Zl ?_;refine Zd ?_;go_wp2_with fail
   go_meet;case rel=>exact⟨m.heap.size,rfl,M.o⟩
  .skip
   intro K k;go_simp;have Z:BQ wd (å wd (C #[IZ 0,IZ 0] 89)):=ġ;have t:=s.below Z;have bw:=ag.below Z;have U:=χ wd (C #[IZ 0,IZ 0] 89);refine k _ _ t ?_;clear k K;have aB:j.heap.size<=wd.heap.size:=s.1;generalize å wd (C #[IZ 0,IZ 0] 89)=bg at *;try simp only[Zp]
   refine Ψ (fuel:=2) 2 ϋ rfl ?_;intro K k;unfold px;go_simp;refine(al.o _ bw).mono ?_;rintro e m ⟨rfl,-,r,bx⟩;have x:=t.trans r;refine k _ _ x ?_;clear k K;try simp only[Zp]
   refine Zf 3 x ?_;have bu:=ο U;have a4:=(r.2.1 _ bu ϊ).trans U;obtain⟨⟨bh,bi⟩,⟨bp,f1⟩,-⟩:=ι a4;have aa:gT 211 R j.heap.size (ŝ (ŝ m ⟨wd.heap.size,0,O⟩ (IZ from_)) ⟨wd.heap.size,1,O⟩ (IZ d)) i p1:=by
    refine(bx.stays (w':=(ŝ (ŝ m ⟨wd.heap.size,0,O⟩ (IZ from_)) ⟨wd.heap.size,1,O⟩ (IZ d))) ύ fun b ac a1=>?_).mono t.1;rw[ψ _ _ _ _ (by simp only;rcases a1 with h|h<;>omega),ψ _ _ _ _ (by simp only;rcases a1 with h|h<;>omega)]
   have M:=Zx (Γ (Ϲ a4 (IZ from_) (IZ d)) (Γ aB (Γ aa ((x.hi (g:=wd.heap.size) aB 0 (IZ from_)).hi (g:=wd.heap.size) aB 1 (IZ d)))));clear aa;refine Zl ?_;refine Zd ?_;go_wp2_with fail
   go_meet;case rel=>exact⟨wd.heap.size,rfl,M.o⟩
 case rest =>
  obtain⟨I,rfl,ax,bF,a9,r⟩:=hcut;have aS:=(r.2.1 N ϊ (fun e=>H e.symm)).trans au;have aM:=(r.2.1 y ϊ (fun e=>X e.symm)).trans aL;have aq:=(r.2.1 F ϊ (fun e=>Y e.symm)).trans ap;have aW:=(r.2.1 w.heap.size ϊ ϊ).trans a3;have bJ:=r.1;clear P W au aL ap a3 a8;obtain⟨⟨ai,aj⟩,-,bY⟩:=ι ax;obtain⟨W,bq,-⟩:=gm aq;have aP:=vW aq (IZ d);have a5:=a9.stays (w':=ŝ wc ⟨F,0,O⟩ (IZ d)) ύ (fun b B Q=>ψ _ _ _ _ (by simp only;rcases Q with h|h<;>omega));have aA:hJ R F j (ŝ wc ⟨F,0,O⟩ (IZ d)):=(hJ.ofL r).setF 0 _;have av:=(my wc F N (fun e=>aH e.symm) (IZ d)).trans aS;have aN:=(my wc F y (fun e=>aI e.symm) (IZ d)).trans aM;have aX:=(my wc F w.heap.size ϊ (IZ d)).trans aW;have t:=(my wc F I ϊ (IZ d)).trans ax;go_upto_region 3 with (fail)
  generalize ŝ wc ⟨F,0,O⟩ (IZ d)=bn at *;have bj:=Zx (aE.o bn (a5.rs ϊ));obtain⟨P,-,-⟩:=gm av;have bH:=aA.1;have bt:=ο t;clear ai aj W bq aS aM aq aW ax a9 r;unfold px at P;go_wp2_with fail
  refine bj.o.mono ?_;rintro e z ⟨rfl,-,G,a6⟩;have aT:=(G.2.1 N ϊ (fun e=>H e.symm)).trans av;have ao:=(G.2.1 y ϊ (fun e=>X e.symm)).trans aN;have aQ:=(G.2.1 F ϊ (fun e=>Y e.symm)).trans aP;have aY:=(G.2.1 w.heap.size ϊ ϊ).trans aX;have aV:=(G.2.1 I bt ϊ).trans t;have ba:=aA.trans (hJ.ofL (F:=F) G);have bI:=G.1;clear P av aN aP aX t aA G a5;obtain⟨⟨ai,aj⟩,-,-⟩:=ι aV;obtain⟨aG,-,-⟩:=gm ao;have bd:y≠R:=fun e=>X e.symm;have ah:I≠R:=ϊ;go_upto_region 4 with (fail)
  have s:Η R z z.drew:=(Η.refl R z).below RZ.drew;have ag:=(a6.rs ϊ).below (φ z.heap.size z).drew;have bl:=Zx (aF.o _ ag);refine ϸ (fun am=>Η R z am) 5 ϋ ?_;refine Zb 0 [4,5] s ?_ (hy:=by intro f o;have bB:=Η.cell o ah ai;have aC:=Η.cell o ah aj;have aD:=Η.cell o bd aG;go_simp;try with_reducible rfl);refine Zf 1 s ?_;refine Zb 2 [3,4,5] s ?_ (hy:=by intro f o;have bB:=Η.cell o ah ai;have aC:=Η.cell o ah aj;have aD:=Η.cell o bd aG;go_simp;try with_reducible rfl);refine Ψ (fuel:=2) 3 ϋ rfl ?_;intro K k;unfold ti;go_simp;refine bl.o.mono ?_;rintro e ak ⟨rfl,bz,br,a7⟩;have E:=s.trans br;refine k _ _ E ?_;clear k K;try simp only[Zp]
  refine Zf 4 E ?_;have aU:=(E.2.1 N ϊ (fun e=>H e.symm)).trans aT;have aO:=(E.2.1 y ϊ (fun e=>X e.symm)).trans ao;have aR:=(E.2.1 F ϊ (fun e=>Y e.symm)).trans aQ;have aZ:=(E.2.1 w.heap.size ϊ ϊ).trans aY;obtain⟨⟨bh,bi,bS,bT⟩,⟨bO,bP,bQ,bR⟩,-⟩:=Ϫ aZ;have bm:=Zx (nD aZ (IZ from_) (IZ d) (IZ l) (š (δ u)));have bb:=ba.trans (hJ.ofL (F:=F) E);have bM:=E.1;have T:=fun bA bs=>nY ak w.heap.size bA bs (IZ from_) (IZ d) (IZ l) (š (δ u));have bG:z.drew.heap.size=z.heap.size:=rfl;have az:=(a7.stays (w':=(ŝ (ŝ (ŝ (ŝ ak ⟨w.heap.size,0,O⟩ (IZ from_)) ⟨w.heap.size,1,O⟩ (IZ d)) ⟨w.heap.size,2,O⟩ (IZ l)) ⟨w.heap.size,3,O⟩ (š (δ u)))) ύ (fun b B Q=>T b (by rcases Q with h|h<;>omega)));have bc:hJ R F w (ŝ (ŝ (ŝ (ŝ ak ⟨w.heap.size,0,O⟩ (IZ from_)) ⟨w.heap.size,1,O⟩ (IZ d)) ⟨w.heap.size,2,O⟩ (IZ l)) ⟨w.heap.size,3,O⟩ (š (δ u))):=by
   have B:hJ R F w ak:=hJ.trans ⟨S.size,fun b h _ _=>S.block b h,S.mono (Ι _)⟩ bb;exact⟨by simpa using B.1,fun b aC aD bC=>(T b ϊ).trans (B.2.1 b aC aD bC),(((B.2.2.setCell (Ι _) _).setCell (Ι _) _).setCell (Ι _) _).setCell (Ι _) _⟩
  have M:=Zx (Γ (qX.mk (from_:=(d:Int)) (az.rs ϊ) ((T N ϊ).trans aU) ((T y ϊ).trans aO) ((T F ϊ).trans aR) ⟨H,X,Y,aH,aI⟩) (Γ bc (az.mono (ϊ:w.heap.size<=z.drew.heap.size))));clear az bc T aU aO aR aT ao aQ aY aV ba bb a6 a7 bz;refine Zl ?_;refine Zd ?_;go_wp2;refine ϟ (v:=ā #[IZ from_,IZ d,IZ l,š (δ u)]) (jX (p:=3) (ty:=198) rfl _ _ w.heap.size 198 _ (0,0) _ rfl bm.o underlying198 rfl ϋ) rfl ?_;exact⟨rfl,M.o.1,M.o.2⟩
structure lB (H R N D F X:Nat) (w:β) (fr:Int) (B:γ) (p:Nat) (x0 x1 x2:ε):Prop where
 sg:qX R N D F w fr B p
 h:w.heap[H]?=J (C #[IZ 0,š ⟨#[]⟩,.slice O 0 0] 123 (0,0))
 x:w.heap[X]?=J (C #[x0,x1,x2] 123 (0,0))
 ne:H≠R/\H≠F/\H≠X/\X≠R/\X≠N/\X≠D/\X≠F
theorem lB.call {H R N b F X p p':Nat} {w w':β} {e c:Int} {a:γ} {x0 x1 x2:ε} (h:lB H R N b F X w e a p x0 x1 x2) (d:hJ R F w w') (f:qX R N b F w' c a p'):lB H R N b F X w' c a p' x0 x1 x2:=by
 obtain⟨g,i,n3,j,l,m,k⟩:=h.ne;exact⟨f,(d.2.1 H (ο h.h) g i).trans h.h,(d.2.1 X (ο h.x) j k).trans h.x,h.ne⟩
theorem lB.call1 {H R N c F X p p':Nat} {w w':β} {d:Int} {b:γ} {x0 x1 x2:ε} (h:lB H R N c F X w d b p x0 x1 x2) (a:Η R w w') (j:RS 211 R w' b p'):lB H R N c F X w' d b p' x0 x1 x2:=by
 obtain⟨f,g,i,k,l⟩:=h.sg.ne;exact h.call (hJ.ofL a) ⟨j,(a.2.1 N (ο h.sg.n) (fun e=>f e.symm)).trans h.sg.n,(a.2.1 c (ο h.sg.d) (fun e=>g e.symm)).trans h.sg.d,(a.2.1 F (ο h.sg.f) (fun e=>i e.symm)).trans h.sg.f,h.sg.ne⟩
theorem lB.put {H R N d F X p lo:Nat} {w:β} {e:Int} {c:γ} {x0 x1 x2 f i j:ε} (h:lB H R N d F X w e c p x0 x1 x2) (n:gT 211 R lo w c p) (l:R<lo) (u:X<lo) (o:Nat) (y:ε) (hy:(ŝ w ⟨X,o,O⟩ y).heap[X]?=J (C #[f,i,j] 123 (0,0))):lB H R N d F X (ŝ w ⟨X,o,O⟩ y) e c p f i j:=by
 obtain⟨v,x,n3,z,q,r,s⟩:=h.ne;have a:∀ b,b≠X->(ŝ w ⟨X,o,O⟩ y).heap[b]?=w.heap[b]?:=fun b m=>ψ _ _ _ _ m;exact⟨⟨(n.stays (w':=ŝ w ⟨X,o,O⟩ y) ύ (fun b t k=>a b (by rcases k with g|g<;>omega))).rs l,(a N (Ne.symm q)).trans h.sg.n,(a d (Ne.symm r)).trans h.sg.d,(a F (Ne.symm s)).trans h.sg.f,h.sg.ne⟩,(a H n3).trans h.h,hy,h.ne⟩
theorem MM {w:β} {A1 A2 A3 A4 A5 A6:Obj} {a:β} (i:a=å (å (å (å (å (å w A1) A2) A3) A4) A5) A6):a.heap[w.heap.size]?=J A1/\a.heap[w.heap.size+1]?=J A2/\a.heap[w.heap.size+1+1]?=J A3/\a.heap[w.heap.size+1+1+1]?=J A4/\a.heap[w.heap.size+1+1+1+1]?=J A5/\a.heap[w.heap.size+1+1+1+1+1]?=J A6/\a.heap.size=w.heap.size+6/\BQ w a:=by
 subst i;have j:Below (å (å (å w A1) A2) A3).heap.size (å (å (å w A1) A2) A3) (å (å (å (å (å (å w A1) A2) A3) A4) A5) A6):=(ġ.alloc ύ _).alloc ύ _;obtain⟨e,f,g,-,-,-,h⟩:=of j;obtain⟨b,c,d,-,-,-,-⟩:=of (w:=å (å (å w A1) A2) A3) (A:=A4) (Z:=A5) (Y:=A6) RZ;simp only[lz]at b c d;exact⟨e,f,g,b,c,d,ύ,h⟩
theorem RS.two {R F p:Nat} {w w':β} {a:γ} (h:gT 211 R p w a p) (b:True):True:=trivial
theorem zc {w:β} {v:ε} {n i:Nat} {e:List ε} (h:Rd w v n i e):ς (fun _=>False) w (fun j=>Rd j v n i e):=by
 intro j q;obtain⟨k,r,d⟩:=h;refine⟨k,r,?_⟩;rcases d with d|⟨b,off,c,s,l,m,o,p⟩
 .exact .inl d
 .refine .inr ⟨b,off,c,s,l,m,o,fun g t hi=>?_⟩
  have:=p g t hi;exact(sA (w:=w) (a:=⟨b,off+g,O⟩) (q b (ib w _ this) (fun f=>f))).trans this
theorem DP {T:TypeId} {g:Nat} {w e:β} {a:Option Addr} {n c:Nat} {d:γ} (h:Rd w (D a n c) n 1 (η d)) (hg:w.heap.size<=g) (f:BQ w e) (i:L d=n) (j:e.heap[g]?=J (C #[D a n c,IZ 0,IZ 0] T (0,0))):RS T g e d 0:=
 ⟨a,n,c,j,i,(zc h).step f.size (fun b q _=>f.block b q) fun b l k=>by have m:b=g:=k;omega⟩
structure xj (H R N D F X lo:Nat) (docs:List (γ)) (ps:List (Nat×Nat)) (B:γ) (p3 dn:Nat) (LG:γ) (w0:β) (k:Nat) (w:β):Prop where
 ex:∃ ao c,lB H R N D F X w (je ps k) B (p3+L ((ps.take k).flatMap (iv docs))) (IZ dn) (š (δ LG)) (.slice ao k c)/\w.ownsRow lo 198 4 (.slice ao k c) k (Ϸ docs (ps.take k))/\lo<=w.heap.size/\Below H w0 w
theorem Kq {R F lo:Nat} {w w':β} {e:TypeId} {size n:Nat} {v:ε} {xs:List ε} (h:w.ownsRow lo e size v n xs) (b:hJ R F w w') (d:R<lo) (hF:F<lo):w'.ownsRow lo e size v n xs:=
 jT h fun g hg=>by obtain⟨c,a⟩:=Ν h g hg;exact b.2.1 g a ϊ ϊ
theorem lB.below {H R N b F X p:Nat} {w w':β} {c:Int} {a:γ} {x0 x1 x2:ε} (h:lB H R N b F X w c a p x0 x1 x2) (d:BQ w w'):lB H R N b F X w' c a p x0 x1 x2:=h.call1 ((Η.refl R w).below d) (h.sg.rs.below d)
theorem hJ.cell {R F b o:Nat} {w w':β} {x:ε} (h:hJ R F w w') (d:b≠R) (e:b≠F) (c:w.cell? ⟨b,o,O⟩=J x):w'.cell? ⟨b,o,O⟩=J x:=
 (sA (w:=w) (a:=⟨b,o,O⟩) (h.2.1 b (ib w _ c) d e)).trans c
theorem hJ.low {R F H:Nat} {a w w':β} (h:hJ R F w w') (b:Below H a w) (d:H<=w.heap.size) (e:H<=R) (hF:H<=F):Below H a w':=
 b.trans ⟨h.2.2.os,h.2.2.tape,h.2.2.output,h.1,fun c f=>h.2.1 c ϊ ϊ ϊ⟩
theorem Iv (a:Option Addr) (n c:Nat) (docs:List (γ)) (ps:List (Nat×Nat)) (w:β) (aK:L (ϲ docs ps)=n) (aY:Rd w (D a n c) n 1 (η (ϲ docs ps))) (U:ϵ docs ps (L docs)) :
  Calls prog 204 #[D a n c] w fun e w'=>∃ A c,e=ŗ (.tuple #[ā #[IZ (L docs),š (δ (ϣ docs)),D A (L ps) c],IZ 0])/\Hi w.heap.size w' (fun cG=>Rd cG (D A (L ps) c) (L ps) 4 (Ϸ docs ps))/\BQ w w':=by
 have ae:L (ϣ docs)=32:=nF (kQ _);have B:=jP U;have cw:=U.nd;have cx:=U.np;have av:=Zx (fun b1 i (h:Rd i b1 (L ps) 4 (Ϸ docs ps))=>Ch (L docs) (ϣ docs) b1 docs ps i ae h U);have be:=Zx (fun d (x:d<L ps)=>oL U x);have X:=Zx (fun d (x:d<L ps)=>qi U.ch d x);obtain⟨m,aP⟩:∃ m,ϲ docs ps=m:=⟨_,rfl⟩;have aa:m=[]++(ξ (L docs)++(ϣ docs++(ξ (L ps)++ps.flatMap (iv docs)))):=by rw[<-aP];simp[ϲ]
 obtain⟨p1,aL⟩:∃ q,L (ξ (L docs))=q:=⟨_,rfl⟩;obtain⟨p2,aX⟩:∃ q,p1+32=q:=⟨_,rfl⟩;obtain⟨W,bI⟩:∃ q,p2+L (ξ (L ps))=q:=⟨_,rfl⟩;rw[aP]at aK aY B;have ak:L m<=1000000000:=ϊ;have ar:=Zx (fun j i (h:RS 211 j i m 0)=>vl j 0 (L docs) m [] _ i h aa ϊ rfl ak);have aM:=Zx (fun j i (h:RS 211 j i m p1)=>Cj j p1 (ϣ docs) m (ξ (L docs)) (ξ (L ps)++ps.flatMap (iv docs)) i h (by rw[aa];simp) ae aL ak);have au:=Zx (fun j i (h:RS 211 j i m p2)=>vl j p2 (L ps) m (ξ (L docs)++ϣ docs) (ps.flatMap (iv docs)) i h (by rw[aa];simp) ϊ (by rw[ω,ae,aL,aX]) ak);have bg:=Zx (fun d (x:d<L ps) j N z o q (bJ:q=W+L ((ps.take d).flatMap (iv docs))) i (h:qX j N z o i (je ps d) m q)=>IA j N z o q (je ps (d+1)) (L (Α docs ps[d])+1) (je ps d) (hV (Α docs ps[d])) m (ξ (L docs)++(ϣ docs++(ξ (L ps)++(ps.take d).flatMap (iv docs)))) ((ps.drop (d+1)).flatMap (iv docs)) i h (by
   have aj:ps=ps.take d++(ps[d]::ps.drop (d+1)):=by rw[<-mh x,pd]
   have az:=iY (List.flatMap (iv docs)) aj
   rw[qS,lg]at az
   have aA:=(X.o d x).2.1
   rw[aa,az]
   unfold iv
   rw[aA]
   simp) (by have:=(X.o d x).2.2.2;have:=(X.o d x).2.1;omega) (by have:=(be.o d x).2.2;omega) (qp _) (by simp only[ω,ae];omega) ak)
 have bh:=Zx (fun d (x:d<L ps)=>show(L ((ps.take (d+1)).flatMap (iv docs)))=L ((ps.take d).flatMap (iv docs))+(L (ξ (je ps (d+1)))+L (ξ (L (Α docs ps[d])+1))+32)by
   rw[kD x,qS,ω]
   have aA:=(X.o d x).2.1
   have cp:=qp (Α docs ps[d])
   simp only[lg,List.flatMap_nil,im,iv,ω,cp,aA])
 have a7:Ϭ (W+L (ps.flatMap (iv docs))=n):=⟨by rw[<-aK,aa];simp only[jy,ω,ae];omega⟩;rw[jJ,aL]at ar;rw[aX]at aM;rw[bI]at au;have bd:=Zx aK;have cc:=Zx aY;clear aK aY U aa aL aX bI aP ak B;generalize ϣ docs=F at *;obtain⟨G,bv⟩:∃ q,L docs=q:=⟨_,rfl⟩;obtain⟨V,aW⟩:∃ q,L ps=q:=⟨_,rfl⟩;have b9:=Zx aW;rw[bv]at ar av ⊢;rw[aW]at au av ⊢;have cP:¬(64:Int)<(V:Int):=ϊ;clear bv aW ae;have cz:=fun(i:β) (a:Addr) (f:Fn) (cg:Array ε) (cC:Mode)=>run_store prog i a (.func f #[] cg) cC rfl;have bK:=MM (w:=w) (A1:=C #[IZ 0,š ⟨#[]⟩,D O 0 0] 123) (A2:=C #[D a n c,IZ 0,IZ 0] 211) (A3:=C #[px (w.heap.size+1)] 243) (A4:=C #[ti (w.heap.size+1)] 362) (A5:=C #[IZ 0] 3) (A6:=C #[IZ 0,š ⟨#[]⟩,D O 0 0] 123) rfl;unfold px ti at bK;go_enter func204,ntmps204;go_upto_region 7 with (fail)
 generalize(å (å (å (å (å (å w (C #[IZ 0,š ⟨#[]⟩,D O 0 0] 123)) (C #[D a n c,IZ 0,IZ 0] 211)) (C #[.func (.func 271) #[] #[þ (J ⟨w.heap.size+1,0,O⟩)]] 243)) (C #[.func (.func 272) #[] #[þ (J ⟨w.heap.size+1,0,O⟩)]] 362)) (C #[IZ 0] 3)) (C #[IZ 0,š ⟨#[]⟩,D O 0 0] 123))=r at *;clear cz;obtain⟨bX,bZ,bY,rD,bW,b0,cH,aB⟩:=bK;have cm:∀ P i,(callFunc 271 P).run prog i=.ok (.enter 271 P) i:=iB func271 ϋ rfl;have cn:∀ P i,(callFunc 272 P).run prog i=.ok (.enter 272 P) i:=iB func272 ϋ rfl;have co:∀ P i,(callFunc 273 P).run prog i=.ok (.enter 273 P) i:=iB func273 ϋ rfl;have bL:RS 211 (w.heap.size+1) r m 0:=DP cc.o ϊ aB bd.o bZ;generalize ck:w.heap.size+1=j at *;generalize cj:j+1=N at *;generalize ch:N+1=z at *;generalize ci:z+1=o at *;generalize cl:o+1=k at *;have l:Ϭ (w.heap.size<j/\j<N/\N<z/\z<o/\o<k/\k<r.heap.size):=⟨ϊ⟩;clear ck cj ch ci cl cH;have aF:lB w.heap.size j N z o k r 0 m 0 (IZ 0) (š ⟨#[]⟩) (D O 0 0):=⟨⟨bL,bY,rD,bW,by have:=l.o;omega⟩,bX,b0,by have:=l.o;omega⟩;clear bX bZ bY rD bW b0 bL;obtain⟨ah,-,-⟩:=gm aF.sg.n;unfold px at ah;go_upto_region 8 with
  (refine(ar.o _ _ aF.sg.rs).mono ?_
   rintro e y ⟨rfl,bM,Q,af⟩
   have t:=aF.call1 Q bM
   obtain⟨⟨a3,a4,a5⟩,⟨ai,f1,f2⟩,-⟩:=Β t.x)
 have ad:=t.put af (by have:=l.o;omega) (by have:=l.o;omega) 0 (IZ G) (π _ k 0 _ _ _ t.x);have cs:r.heap.size<=(ŝ y ⟨k,0,O⟩ (IZ G)).heap.size:=by simpa using Q.1
 have aT:BQ w (ŝ y ⟨k,0,O⟩ (IZ G)):=(Q.to aB (by have:=aB.size;omega) (by have:=l.o;omega)).setCell (by have:=l.o;simp only;omega) _;clear ah a3 a4 a5 ai f1 f2 aF t bM Q af;generalize ŝ y ⟨k,0,O⟩ (IZ G)=cI at *;obtain⟨bk,-,-⟩:=gm ad.sg.d;unfold ti at bk;go_upto_region 9 with
  (refine(aM.o _ _ ad.sg.rs).mono ?_
   rintro e a2 ⟨rfl,bN,aD,bD⟩
   have aG:=ad.call1 aD bN
   obtain⟨⟨a3,a4,a5⟩,⟨ai,f1,f2⟩,-⟩:=Β aG.x)
 have aH:=aG.put bD (by have:=l.o;omega) (by have:=l.o;omega) 1 (š (δ F)) (π _ k 1 _ _ _ aG.x);have bu:r.heap.size<=(ŝ a2 ⟨k,1,O⟩ (š (δ F))).heap.size:=by have:=aD.1;simp;omega
 have aU:BQ w (ŝ a2 ⟨k,1,O⟩ (š (δ F))):=(aD.to aT (by have:=aT.size;omega) (by have:=l.o;omega)).setCell (by have:=l.o;simp only;omega) _;clear bk a3 a4 a5 ai f1 f2 ad aG bN aD bD;generalize ŝ a2 ⟨k,1,O⟩ (š (δ F))=cJ at *;obtain⟨ah,-,-⟩:=gm aH.sg.n;unfold px at ah;go_upto_region 10 with
  (refine(au.o _ _ aH.sg.rs).mono ?_
   rintro e H ⟨rfl,bO,aE,ao⟩
   have T:=aH.call1 aE bO)
 have K:r.heap.size<=H.heap.size:=gh bu aE.1;have bs:=aE.to aU (by have:=aU.size;omega) (by have:=l.o;omega);clear ah aH aE ao bO;have bc:xj w.heap.size j N z o k r.heap.size docs ps m W G F w 0 H:=⟨O,0,T,hZ H _ _ 4,K,bs⟩;obtain⟨cB,bx,bR,bS,bT⟩:=ϯ Cu;have cO:L ps=V:=b9.o;clear T K bs aU aT bu cs aB;go_wp2_with fail
 go_loopw [29] (fun a1 wr=>∃ d:Nat,a1=IZ (d:Int)/\d<=V/\xj w.heap.size j N z o k r.heap.size docs ps m W G F w d wr) (fun a1 _=>V - (intOf a1).toNat)
 case atStart=>exact⟨0,rfl,Ι _,bc⟩
 case round =>
  clear bc;obtain⟨d,rfl,ct,aJ⟩:=hrel;by_cases x:d<V
  .have cN:(d:Int)<(V:Int):=ϊ
   have aI:d<L ps:=ϊ;have cK:IntKind.i64.wrap ((d:Int)+1)=((d+1:Nat):Int):=Ϗ;obtain⟨A,I,E,R,a0,aC⟩:=aJ.ex;clear aJ;have cE:k≠j:=E.ne.2.2.2.1;have cD:k≠o:=E.ne.2.2.2.2.2.2;have aQ:=X.o d aI;have bq:=Ef docs ps d aI;have bA:=E.below (φ wr.heap.size wr).drew;have cd:=Zx (bg.o d aI j N z o _ rfl _ bA.sg);have cu:=bh.o d aI;generalize bJ:W+L ((ps.take d).flatMap (iv docs))=q at *;have cb:Ϭ (q+L (ξ (je ps (d+1)))+L (ξ (L (Α docs ps[d])+1))+32=W+L ((ps.take (d+1)).flatMap (iv docs))):=⟨ϊ⟩;generalize q+L (ξ (je ps (d+1)))+L (ξ (L (Α docs ps[d])+1))+32=cF at *;have aO:Ϭ (Ϸ docs (ps.take d)++[IZ (je ps d),IZ (je ps (d+1)),IZ ((L (Α docs ps[d])+1:Nat):Int),š (δ (hV (Α docs ps[d])))]=Ϸ docs (ps.take (d+1))):=⟨by rw[bq];unfold lZ;rw[aQ.1,aQ.2.1]⟩;generalize hV (Α docs ps[d])=aq at *;generalize(L (Α docs ps[d]))+1=aw at *;generalize bo:je ps (d+1)=ag at *;generalize cq:je ps d=ax at *;have b7:=Zx bo;clear bo cq bq aQ cu bJ;obtain⟨⟨-,-,bl⟩,-,-⟩:=Β E.x;go_upto_region 14 with (fail)
   have al:hJ j o wr wr.drew:=hJ.ofL ((Η.refl j wr).below RZ.drew);refine ϸ (fun ce=>hJ j o wr ce) 5 ϋ ?_;refine Zf 0 al ?_;refine Zk 1 al ?_ (hy:=by intro i cr;have cT:=hJ.cell cr cE cD bl;go_simp;try with_reducible rfl);refine Zf 2 al ?_;refine Ψ (fuel:=4) 3 ϋ rfl ?_;intro M s;go_simp;refine cd.o.mono ?_;rintro e y ⟨rfl,bP,Q,af⟩;have ab:=al.trans Q;refine s _ _ ab ?_;clear s M;try simp only[Zp]
   generalize cQ:wr.drew.heap.size=ay at *;have cL:r.heap.size<=ay:=by have:wr.drew.heap.size=wr.heap.size:=rfl;omega
   have t:=E.call ab bP;have bE:=Kq R ab (by have:=l.o;omega) (by have:=l.o;omega);have bH:∀ g,(Value.slice A d I).ownBlock=J g->r.heap.size<=g/\g<ay:=fun g hg=>⟨(Ν R g hg).1,by have:=(Ν R g hg).2;have aA:wr.drew.heap.size=wr.heap.size:=rfl;omega⟩;have B:BQ y (å y (C #[IZ ax,IZ ag,IZ aw,š (δ aq)] 198)):=ġ;have an:=ab.low aC (gh (by have:=l.o;omega) a0) (by have:=l.o;omega) (by have:=l.o;omega);refine Ψ (fuel:=3) 4 ϋ rfl ?_;intro M s;go_simp;have bp:=ab.below B;refine s _ _ bp ?_;clear s M;try simp only[Zp]
   have ad:=t.below B;have cv:=af.stays (w':=å y (C #[IZ ax,IZ ag,IZ aw,š (δ aq)] 198)) ύ (fun b aj _=>B.block b aj);have bF:=Υ bE B;have cR:ay<=y.heap.size:=by have:=Q.1;omega
   refine jp (fuel:=2) ϋ ϋ rfl ?_;intro M s;refine lx rfl (.tmp 32) (.tmp 35) 121 121 rfl r.heap.size 198 cB _ 4 40 underlying121 bx bR bS bT rfl (D A d I) d _ ϔ bF (D (J ⟨y.heap.size,0,O⟩) 1 1) 1 [IZ ax,IZ ag,IZ aw,š (δ aq)] ϔ (ig underlying121 y #[IZ ax,IZ ag,IZ aw,š (δ aq)] 4 1 1 rfl ϗ) ώ ϊ ό ?_;intro cU H ap ac cA;obtain⟨Y,Z,rfl⟩:=Θ ap;rw[aO.o]at ap;have aV:∀ b,b<y.heap.size->(b<r.heap.size\/ay<=b)->H.heap[b]?=y.heap[b]?:=fun b p1 p2=>(ac.block b ό (fun e=>by have:=bH b e.symm;omega)).trans (B.block b p1);have bU:y.heap.size<=H.heap.size:=gh B.size ac.size;have K:∀ b,b<r.heap.size->H.heap[b]?=y.heap[b]?:=fun b p1=>aV b ϊ (.inl p1);have bB:=l.o;have ao:=af.stays (w':=H) bU (fun b aj az=>aV b aj (by rcases az with h|h<;>omega));have T:lB w.heap.size j N z o k H ag m cF (IZ G) (š (δ F)) (D A d I):=⟨⟨ao.rs ϊ,(K N ϊ).trans t.sg.n,(K z ϊ).trans t.sg.d,(K o ϊ).trans t.sg.f,t.sg.ne⟩,(K _ ϊ).trans t.h,(K k ϊ).trans t.x,t.ne⟩;have bz:=T.put ao ϊ ϊ 2 (D Y (d+1) Z) (π _ k 2 _ _ _ T.x);have bG:(ŝ H ⟨k,2,O⟩ (D Y (d+1) Z)).ownsRow r.heap.size 198 4 (D Y (d+1) Z) (d+1) (Ϸ docs (ps.take (d+1))):=jT ap (fun g hg=>ψ _ _ _ _ (by have:=(Ν ap g hg).1;simp only;omega));have bC:BQ w (ŝ H ⟨k,2,O⟩ (D Y (d+1) Z)):=(an.trans ⟨(ac.os.trans B.os),(ac.tape.trans B.tape),(ac.output.trans B.output),bU,fun b cM=>K b ϊ⟩).setCell ϑ _;have ca:=Zx (show xj w.heap.size j N z o k r.heap.size docs ps m W G F w (d+1) (ŝ H ⟨k,2,O⟩ (D Y (d+1) Z))from⟨Y,Z,by rw[b7.o,<-cb.o];exact bz,bG,ό,bC⟩);obtain⟨⟨b3,b4,b5⟩,⟨ai,f1,f2⟩,-⟩:=Β T.x;clear bz bG bC ao T t ad af cv bE bF ap ac cA aV K an B ab bp bP Q E R bA al bH bl;refine s _ _ ?_;clear s M;try simp only[Zp]
   refine qU (fuel:=1) 6 ϋ rfl ϋ ?_;intro M s;go_simp;refine s _ _ ?_;clear s M;try simp only[Zp]
   refine qU (fuel:=0) 7 ϋ rfl ϋ ?_;intro M s;go_simp;refine s _ _ ?_;clear s M;refine Zd ?_;go_wp2_with fail
   go_roundw;case rel=>exact⟨d+1,rfl,ϊ,ca.o⟩
   case measure=>simp[intOf];omega
  .obtain rfl:d=V:=ϊ
   obtain⟨A,I,E,R,a0,aC⟩:=aJ.ex;clear aJ;have bQ:ps.take d=ps:=gW ϊ;rw[bQ]at E R;have bB:=l.o;have bw:=a7.o;obtain⟨cf,bV,c2,aZ,bm,-⟩:=E.sg.rs;obtain rfl:bV=n:=bm.symm.trans bd.o;rw[bw]at aZ;have aN:=Zx (Hi.own R);have a6:=Zx (fun i=>rh cf bV c2 i);have a9:=Zx E.h;have bi:=Zx E.x;have cS:w.heap.size≠k:=E.ne.2.2.1;have an:w.heap.size<=wr.heap.size:=ϊ;obtain⟨⟨r0,r1,r2⟩,-,-⟩:=Β aZ;clear E R bw bQ aZ bm a0 bg bh X be ar aM au a7 bB cw cx cm cn co bx bR bS bT ct x;rename_i bn;have a8:=Zx bn;clear bn;go_wp2_with fail
   refine a8.o _ _ ?_;clear a8;go_upto_region 17 with
    (go_at_call 131;refine(a6.o _).mono ?_
     rintro e b2 ⟨rfl,S⟩)
   have aS:=θ bi.o S;have ba:=Zx (θ a9.o S);have bf:=Zx (av.o (D A d I) b2 (aN.o.below S).now);have bt:=aC.trans (S.mono an);have bb:=Zx (aN.o.below S);have cy:w.heap.size<=b2.heap.size:=gh an S.size;clear S aC r0 r1 r2 aN bi a9 a6 av;obtain⟨⟨b3,b4,b5⟩,-,-⟩:=Β aS;have bj:=Zx aS;clear aS;go_upto_region 19 with (fail)
   go_upto_region 21 with
    (go_at_call 193;refine bf.o.mono ?_
     rintro e cV ⟨rfl,am⟩)
   have br:=θ bj.o am;have aR:=θ ba.o am;have aO:=Zx (jg aR (IZ G) (š (δ F)) (D A d I));have b8:=Zx ((((bb.o.below am).set (p:=⟨w.heap.size,0,O⟩) (by have:=l.o;simp only;omega) (IZ G)).set (p:=⟨w.heap.size,1,O⟩) (by have:=l.o;simp only;omega) (š (δ F))).set (p:=⟨w.heap.size,2,O⟩) (by have:=l.o;simp only;omega) (D A d I));have b6:=Zx (kL (bt.trans (am.mono cy)) (Nat.le_refl w.heap.size) (IZ G) (š (δ F)) (D A d I));obtain⟨⟨b3,b4,b5⟩,-,-⟩:=Β br;obtain⟨⟨cW,cX,cY⟩,⟨ai,f1,f2⟩,-⟩:=Β aR;clear br aR am bt bf bj ba bb;go_wp2_with fail
   refine ϟ (v:=.tuple #[ā #[IZ G,š (δ F),D A d I],IZ 0]) (gf (p:=2) (u:=3) (ty:=123) rfl _ _ w.heap.size 123 _ (0,0) _ rfl aO.o underlying123 rfl ϋ) rfl ?_;exact⟨A,I,rfl,b8.o.mono (by have:=l.o;omega),b6.o⟩
def Ac (T:TypeId) (a:γ) (w:β) (e:Ending) (w':β):Prop:= ∃ g,e=ŗ (.tuple #[þ (J ⟨g,0,O⟩),IZ 0])/\RS T g w' a 1/\w.heap.size<=g/\Below w.heap.size w w'
theorem zj (a:Option Addr) (n c:Nat) (k:UInt8) (l:γ) (w:β) (e:L (k::l)=n) (y:n<=1048576) (f:Rd w (D a n c) n 1 (η (k::l))) :
  Calls prog 128 #[D a n c,ĭ .u8 (k.toNat:Int)] w (Ac 238 (k::l) w):=by
 have r:0<n:=by rw[<-e];simp
 obtain⟨b,o,rfl,z,x⟩:=tb f r;have p:=Zx (zc f);obtain⟨-,-,⟨-,-,-,v⟩|⟨t,G,u,i,-,-,-,g⟩⟩:=f
 .omega
 simp only[Ξ,Ο,Addr.mk.injEq,hR,Ϯ]at i;obtain⟨⟨rfl,rfl⟩,rfl⟩:=i;have c0:=g 0 _ (by simp[η];rfl);unfold ch at c0;simp only[kW]at c0;have B:¬(1048576:Int)<(n:Int):=ϊ;have E:¬(n:Int)=0:=ϊ;have m:=Zx e;generalize(k.toNat:Int)=F at *;obtain⟨h,-,d⟩:=Ϻ (w:=w) (A:=C #[D (J ⟨b,o,O⟩) n c,IZ 1,IZ 0] 238) RZ;have j:Ϭ (Ac 238 (k::l) w (ŗ (.tuple #[þ (J ⟨w.heap.size,0,O⟩),IZ 0])) (å w (C #[D (J ⟨b,o,O⟩) n c,IZ 1,IZ 0] 238))):=
  ⟨w.heap.size,rfl,⟨_,_,_,h,m.o,p.o.step d.size (fun b q _=>d.block b q) fun b H s=>by have I:b=w.heap.size:=s;omega⟩,NZ,d⟩
 clear g e h d;go_enter func128,ntmps128;go_wp2;go_ret2;exact j.o
def sN (T:TypeId) (g:Nat) (b:γ) (p:Nat) (docs:List (γ)) (ps:List (Nat×Nat)) (w:β) (e:Ending) (w':β):Prop:= ∃ a c,e=ŗ (ā #[IZ (L docs),š (δ (ϣ docs)),D a (L ps) c])/\gT T g w.heap.size w' b p/\Η g w w'/\Hi w.heap.size w' (fun d=>Rd d (D a (L ps) c) (L ps) 4 (Ϸ docs ps))
theorem vY (g p:Nat) (docs:List (γ)) (ps:List (Nat×Nat)) (m pre post:γ) (w:β) (h:RS 238 g w m p) (N:m=pre++(Ζ (ϲ docs ps)++post)) (aa:L pre=p) (Z:L m<=1000000000) (z:ϵ docs ps (L docs)) :
  Calls prog 129 #[þ (J ⟨g,0,O⟩)] w (sN 238 g m (p+L (Ζ (ϲ docs ps))) docs ps w):=by
 have aO:=jP z;obtain⟨ab,aK,U⟩:=Ϻ (w:=w) (A:=C #[IZ 0,š ⟨#[]⟩,D O 0 0] 123) RZ;have s:=Zx (vR g p 10000 (ϲ docs ps) m pre post _ (h.below U) N ϊ aa Z);have M:((10000:Nat):Int)=10000:=ϊ;rw[M]at s;have G:=Zx (fun a n c H (aG:L (ϲ docs ps)=n) (aI:Rd H (D a n c) n 1 (η (ϲ docs ps)))=>Iv a n c docs ps H aG aI z);have aP:g<w.heap.size:=by obtain⟨a,n,c,aE,-,-⟩:=h;exact ο aE
 unfold sN;generalize p+L (Ζ (ϲ docs ps))=p1 at *;generalize ϲ docs ps=F at *;generalize ϣ docs=f at *;generalize Ϸ docs ps=aM at *;generalize(L docs:Int)=i at *;generalize (L ps)=j at *;clear h N aa Z z M;go_enter func129,ntmps129;go_upto_region 1 with (fail)
 generalize å w (C #[IZ 0,š ⟨#[]⟩,D O 0 0] 123)=aC at *;go_upto_region 2 with
  (refine s.o.mono ?_
   rintro e ai ⟨rfl,-,r,aJ⟩)
 obtain⟨K,ae,ad,x,aH,X⟩:=aJ;have ac:=(r.2.1 _ aK ϊ).trans ab;obtain⟨aN,I,aF,T,Y,E⟩:=qH ai F (L F) rfl ϊ;have au:=Zx (G.o _ _ _ I rfl Y.now);have ao:=Zx r;have aq:=Zx x;have ax:=Zx X;have am:=Zx T;have az:=Zx ac;have aQ:=r.1;have aB:=Zx E;clear E;obtain⟨⟨c0,c1,c2⟩,⟨t,f1,f2⟩,aL⟩:=Β x;clear r x X Y T ab ac G s;go_wp2_with fail
 refine au.o.mono ?_;rintro e k ⟨b,d,rfl,q,l⟩;have av:=Zx q;have an:=Zx l;clear aF q l;go_upto_region 5 with (fail)
 have q:=av.o;have l:=an.o;have aR:=l.size;have E:=aB.o;have B:=χ k (C #[IZ i,š (δ f),D b j d] 123);have o:BQ ai (å k (C #[IZ i,š (δ f),D b j d] 123)):=(am.o.trans (l.mono ϊ)).alloc ϊ _;have y:=θ aq.o o;have R:=θ az.o o;have W:(ŝ (å k (C #[IZ i,š (δ f),D b j d] 123)) ⟨g,2,O⟩ (IZ 0)).heap[g]?=J (C #[D K ae ad,IZ (p1:Int),IZ 0] 238 (0,0)):=π _ g 2 _ _ _ y;have u:(ŝ (å k (C #[IZ i,š (δ f),D b j d] 123)) ⟨g,2,O⟩ (IZ 0)).heap[w.heap.size]?=_:=(ψ _ _ _ _ ϑ).trans R;have P:(ŝ (å k (C #[IZ i,š (δ f),D b j d] 123)) ⟨g,2,O⟩ (IZ 0)).heap[k.heap.size]?=_:=(ψ _ _ _ _ ϑ).trans B;have Q:=(ax.o.below o).set (p:=⟨g,2,O⟩) (ϊ:g<aC.heap.size) (IZ 0);have S:=(q.alloc (C #[IZ i,š (δ f),D b j d] 123)).set (p:=⟨g,2,O⟩) (ϊ:g<I.heap.size) (IZ 0);have V:=((((Η.refl g w).below U).trans ao.o).below o).set 2 (IZ 0);obtain⟨⟨af,ag,ah⟩,⟨t,f1,f2⟩,aL⟩:=Β y;obtain⟨⟨aj,ak,al⟩,-,-⟩:=Β B;clear y R B l o q;go_upto_region 6 with (fail)
 clear af ag ah t f1 f2 aj ak al;generalize ŝ (å k (C #[IZ i,š (δ f),D b j d] 123)) ⟨g,2,O⟩ (IZ 0)=aD at *;have ay:=Zx (jg u (IZ i) (š (δ f)) (D b j d));have ar:=Zx ((kj aD w.heap.size g ϊ (IZ i) (š (δ f)) (D b j d)).trans W);have aw:=Zx (lr Q (g:=w.heap.size) ϊ (IZ i) (š (δ f)) (D b j d));have aA:=Zx (lr S (g:=w.heap.size) ϊ (IZ i) (š (δ f)) (D b j d));have ap:=Zx (((V.hi NZ 0 (IZ i)).hi NZ 1 (š (δ f))).hi NZ 2 (D b j d));obtain⟨⟨aj,ak,al⟩,-,-⟩:=Β P;obtain⟨⟨af,ag,ah⟩,⟨t,f1,f2⟩,-⟩:=Β u;clear W u P Q S V c0 c1 c2;go_wp2;refine ϟ (v:=ā #[IZ i,š (δ f),D b j d]) (jX (p:=2) (ty:=123) rfl _ _ w.heap.size 123 _ (0,0) _ rfl ay.o underlying123 rfl ϋ) rfl ?_;exact⟨b,d,rfl,⟨K,ae,ad,ar.o,aH,aw.o.mono ϊ⟩,ap.o,aA.o.mono ϊ⟩
