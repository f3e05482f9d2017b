/- Part 31 of the proof. -/
import Derived.Test.YtpilfbcffofheaaGreatDoorm25
set_option linter.unusedVariables false
set_option linter.unusedSimpArgs false
set_option maxRecDepth 100000
set_option maxHeartbeats 4000000
namespace Go.Proofs.YtpilfbcffofheaaGreatDoor
open Go.Proofs.Tryz Go.RowKit Go.Sort
open List renaming length->L
open Value renaming pointer->þ,string->š,slice->D,agg->ā
open Ending renaming returned->ŗ
open Option renaming none->O,some->J
open Obj renaming cells->C
open World renaming alloc->å
def iv (docs:List (γ)) (p:Nat×Nat):γ:=ξ p.2++ξ (L (Α docs p)+1)++hV (Α docs p)
def ϲ (docs:List (γ)) (ps:List (Nat×Nat)):γ:=ξ (L docs)++ϣ docs++ξ (L ps)++ps.flatMap (iv docs)
def iD (w1 w':β) (l:γ):Prop:=HW (w1.heap.size+2) (w1.heap.size+1) w1.heap.size w' l/\Below w1.heap.size w1 w'/\w1.heap.size+2<=w'.heap.size
theorem iD.alloc {w1 w:β} {l:γ} (h:iD w1 w l) (o:Obj):iD w1 (å w o) l:=by
 obtain⟨⟨d,b,n,c,e,f⟩,g,i⟩:=h;have a:BQ w (å w o):=ġ;exact⟨⟨θ d a,b,n,c,θ e a,f.alloc o⟩,g.alloc ϊ _,ό⟩
theorem zn {docs:List (γ)} {ps:List (Nat×Nat)} (h:∀ k (a:k<L ps),L (iv docs ps[k])<=60):∀ k,k<=L ps->L ((ps.take k).flatMap (iv docs))<=k*60
 |0,_=>ύ
 |k+1,a=>by
  have:=zn h k ϊ;have b:=h k ϊ;rw[kD ϊ,qS,ω];simp only[lg,List.flatMap_nil,im];omega
theorem vm (w1 w:β) (l:γ) (b:Nat) (h:iD w1 w l) (p:b<=4611686018427387904) (r:L l<=1000000) :
  Calls prog 194 #[IZ b,þ (J ⟨w1.heap.size+1,0,O⟩),þ (J ⟨w1.heap.size,0,O⟩)] w fun e w'=>e=ŗ (.tuple #[])/\iD w1 w' (l++ξ b)/\Hid (∀ g,g<w.heap.size->w1.heap.size+2<=g->w'.heap[g]?=w.heap[g]?):=by
 obtain⟨n,a,o⟩:=h;refine(IC _ _ _ b l w n ϊ ϊ ϊ o p r).mono ?_;rintro e w' ⟨rfl,f,c,i,j,k,m⟩;exact⟨rfl,⟨f,⟨j.trans a.os,k.trans a.tape,m.trans a.output,gh a.size i,fun d q=>(c d ϊ ϊ ϊ).trans (a.block d q)⟩,ϊ⟩,fun g s t=>c g s ϊ ϊ⟩
theorem Ck (w1 w:β) (l d:γ) (h:iD w1 w l) (o:L d=32) (q:L l<=1000000) :
  Calls prog 196 #[š (δ d),þ (J ⟨w1.heap.size,0,O⟩)] w fun e w'=>e=ŗ (.tuple #[])/\iD w1 w' (l++d):=by
 obtain⟨m,a,n⟩:=h;refine(IB _ _ _ l d w m ϊ ϊ ϊ n o q).mono ?_;rintro e w' ⟨rfl,c,f,g,i,j,k⟩;exact⟨rfl,c,⟨i.trans a.os,j.trans a.tape,k.trans a.output,gh a.size g,fun b p=>(f b ϊ ϊ ϊ).trans (a.block b p)⟩,ϊ⟩
theorem GU {l:List (γ)} (c:ϭ l) (d:l≠[]):L (hU l)=32:=by
 induction h:L l using Nat.strongRecOn generalizing l with
 |_ n e =>
  match l,h with
  |[],_=>exact absurd rfl d
  |[a],_=>rw[pr];exact c a ύ
  |b::a::t,h =>
   rw[hU];refine e (L t+1) (by simp at h;omega) ?_ ύ ύ;intro x hx;rcases gP.1 hx with rfl|hx
   .exact hO _
   .exact c x (by simp[hx])
theorem nF {l:List (γ)} (b:ϭ l):L (Τ l)=32:=by
 unfold Τ;split
 .exact hO _
 .rename_i d
  refine GU (wo b _ NZ) ?_;intro c;have:=pI l (L l);rw[c]at this;have e:=vJ (n:=L l) (by cases l with|nil=>exact absurd rfl d|cons a f=>simp);simp only[gF]at this;omega
theorem Ci (v:ε) (docs:List (γ)) (ps:List (Nat×Nat)) (w:β) (h:Rd w v (L ps) 4 (Ϸ docs ps)) (m:ϵ docs ps (L docs)) :
  Calls prog 116 #[ā #[IZ (L docs),š (δ (ϣ docs)),v]] w (lP (ϲ docs ps) w):=by
 have s:L (ϣ docs)=32:=nF (kQ _);have aT:=Zh (fun g (k:BQ w g)=>Ch (L docs) (ϣ docs) v docs ps g s (h.below k) m);obtain⟨x,c,rfl,aM⟩:=wm h;have bi:=m.nd;have bj:=m.np;have U:=Zh (fun a (j:a<L ps)=>oL m j);have Q:=Zh (fun a (j:a<L ps)=>qi m.ch a j);have ai:BQ w (å w (C #[IZ (L docs),š (δ (ϣ docs)),D x (L ps) c] 123)):=ġ;clear h m;go_enter func116,ntmps116;go_wp2_with fail
 refine(aT.o _ ai).mono ?_;rintro e d ⟨rfl,aj⟩;obtain⟨t,br,ak⟩:=Ϻ aj;obtain⟨⟨I,K,M⟩,⟨y,f1,f2⟩,-⟩:=Β t;have ag:BQ d (å (å d (C #[D O 0 0] 31)) (C #[IZ 0] 26)):=ġ.alloc ύ _;have a1:=fU (w:=d) (A:=C #[D O 0 0] 31) (Z:=C #[IZ 0] 26) (w1:=(å (å d (C #[D O 0 0] 31)) (C #[IZ 0] 26))) RZ;obtain⟨aq,ar,bd,be,-⟩:=a1;have ay:iD d (å (å d (C #[D O 0 0] 31)) (C #[IZ 0] 26)) []:=⟨⟨ar,O,0,0,aq,Φ.nil _ _⟩,ag,ύ⟩;have aH:=Zh (vm d _ [] (L docs) ay ϊ ύ);have T:=Zh s;clear aq ar bd be ag ay ai aj;go_wp2_with fail
 refine aH.o.mono ?_;rintro e a8 ⟨rfl,u,-⟩;simp only[jy]at u;have ao:=θ t u.2.1;obtain⟨⟨I,K,M⟩,⟨y,f1,f2⟩,-⟩:=Β ao;have a2:=fQ 8 (L docs) ϊ;have aJ:=Zh (Ck d a8 _ (ϣ docs) u s ϊ);have V:=Zh t;clear ao u t s;go_wp2_with fail
 refine aJ.o.mono ?_;rintro e a9 ⟨rfl,B⟩;obtain⟨⟨I,K,M⟩,⟨y,f1,f2⟩,-⟩:=Β (θ V.o B.2.1);have aN:=Zh (vm d a9 _ (L ps) B ϊ (by simp only[ω,T.o];omega));clear B;go_wp2_with fail
 refine aN.o.mono ?_;rintro e ba ⟨rfl,E,-⟩;obtain⟨⟨I,K,M⟩,⟨y,f1,f2⟩,-⟩:=Β (θ V.o E.2.1);have X:=Zh E;clear E;go_wp2_with fail
 obtain⟨i,q⟩:∃ i,i=ξ (L docs)++ϣ docs++ξ (L ps):=⟨_,rfl⟩;have bk:L i<=60:=by
  have bg:=fQ 8 (L ps) ϊ;rw[q];simp only[ω,T.o];omega
 have aW:Hid (iD d ba i):=by show iD _ _ _;rw[q];exact X.o
 have aS:=Zh q;have aV:=Zh (zn (docs:=docs) (ps:=ps) (fun a j=>by
  obtain⟨-,-,ae⟩:=U.o a j
  obtain⟨-,-,-,af⟩:=Q.o a j
  have az:=fQ 8 ps[a].2 ϊ
  have aA:=fQ 8 (L (Α docs ps[a])+1) ϊ
  have aB:=qp (Α docs ps[a])
  unfold iv
  simp only[ω]
  omega))
 clear q X a2;go_loopw [31] (fun H wr=>∃ a:Nat,a<=L ps/\H=IZ (a:Int)/\Hid (iD d wr (i++(ps.take a).flatMap (iv docs)))) (fun H _=>L ps - (intOf H).toNat)
 case atStart=>exact⟨0,Ι _,rfl,by show iD _ _ _;simp only[qR,List.flatMap_nil,im];exact aW.o⟩
 case round =>
  obtain⟨a,j,rfl,o⟩:=hrel;have bl:=aV.o a j;have bh:a*60<=64*60:=pQ _ ϊ;have p:=ak.trans (o.o.2.1.mono ak.size);by_cases r:a<L ps
  .obtain⟨b,off,rfl,N,P,aD,aE⟩:=aM.o a r
   obtain⟨-,-,ae⟩:=U.o a r;obtain⟨-,-,-,af⟩:=Q.o a r;have a6:(a:Int)<(L ps:Int):=ϊ;have bm:(0:Int)<=(a:Int):=ϊ;have bn:=ζ p N;have l1:=ζ p P;have l2:=ζ p aD;have l3:=ζ p aE;have av:i++(ps.take (a+1)).flatMap (iv docs)=i++(ps.take a).flatMap (iv docs)++ξ ps[a].2++ξ (L (Α docs ps[a])+1)++hV (Α docs ps[a]):=by
    rw[kD r,qS];simp[iv]
   have W:=Zh av;have al:=qp (Α docs ps[a]);have a5:L (i++(ps.take a).flatMap (iv docs))<=4000:=by rw[ω];omega
   obtain⟨l,ah⟩:∃ l,l=i++(ps.take a).flatMap (iv docs):=⟨_,rfl⟩;rw[<-ah]at a5 W o;have a3:=fQ 8 ps[a].2 ϊ;have a4:=fQ 8 (L (Α docs ps[a])+1) ϊ;have aO:=Zh (fun g (k:iD d g l)=>vm d g l ps[a].2 k ϊ ϊ);have aP:=Zh (fun g (k:iD d g (l++ξ ps[a].2))=>vm d g _ (L (Α docs ps[a])+1) k ϊ (by simp only[ω];omega));have aQ:=Zh (fun g (k:iD d g (l++ξ ps[a].2++ξ (L (Α docs ps[a])+1)))=>Ck d g _ (hV (Α docs ps[a])) k al (by simp only[ω];omega));clear av ah N P aD aE al a3 a4 ae af;generalize hV (Α docs ps[a])=aa at *;generalize(L (Α docs ps[a]))+1=Y at *;generalize ps[a].1=f at *;generalize ps[a].2=aC at *;have aI:=Zh (o.o.alloc (C #[IZ f,IZ aC,IZ ((Y:Nat):Int),š (δ aa)] 198));go_wp2_with fail
   refine(aO.o _ aI.o).mono ?_;rintro e bo ⟨rfl,aw,R⟩;have au:=χ wr (C #[IZ f,IZ aC,IZ ((Y:Nat):Int),š (δ aa)] 198);have an:d.heap.size+2<=wr.heap.size:=o.o.2.2;have z:=(R.o wr.heap.size ύ an).trans au;obtain⟨⟨a7,az,aA,aB⟩,⟨aF,aG,bb,bc⟩,bf⟩:=Ϫ z;have aU:=Zh z;have aK:=Zh (aP.o _ aw);clear aw au z R;go_wp2_with fail
   refine aK.o.mono ?_;rintro e bp ⟨rfl,ax,S⟩;have ap:=(S.o wr.heap.size bf an).trans aU.o;obtain⟨⟨a7,az,aA,aB⟩,⟨aF,aG,bb,bc⟩,bs⟩:=Ϫ ap;have aL:=Zh (aQ.o _ ax);clear ax ap S;go_wp2_with fail
   refine aL.o.mono ?_;rintro e bq ⟨rfl,F⟩;rw[<-W.o]at F;have aX:=Zh F;clear F;go_wp2;go_roundw;case rel=>exact⟨a+1,ϊ,ϕ,aX.o⟩
   case measure=>simp[intOf];omega
  .obtain rfl:a=L ps:=ϊ
   have a6:¬(L ps:Int)<(L ps:Int):=ϊ;have G:=o.o;rw[pa]at G;have am:i++ps.flatMap (iv docs)=ϲ docs ps:=by rw[aS.o];rfl
   rw[am]at G;obtain⟨⟨ab,x,n,aY,ac,ad⟩,aZ,a0⟩:=G;obtain⟨N,aF,-⟩:=gm ab;obtain⟨P,aG,-⟩:=gm ac;have aR:=Zh (ad.mono (ϊ:w.heap.size<=d.heap.size+2));clear ab ac ad aZ a0 am;go_wp2;go_ret2;exact⟨x,n,aY,rfl,aR.o,p⟩
theorem jP {docs:List (γ)} {ps:List (Nat×Nat)} {m:Nat} (a:ϵ docs ps m):L (ϲ docs ps)<=4000:=by
 have e:=fQ 8 (L docs) (by have:=a.nd;omega);have f:=fQ 8 (L ps) (by have:=a.np;omega);have g:L (ϣ docs)=32:=nF (kQ _);have d:=zn (docs:=docs) (ps:=ps) (fun b c=>by
  obtain⟨-,-,h⟩:=oL a c
  obtain⟨-,-,-,i⟩:=qi a.ch b c
  have:=a.nd
  have:=a.le
  have r1:=fQ 8 ps[b].2 ϊ
  have r2:=fQ 8 (L (Α docs ps[b])+1) ϊ
  have r3:=qp (Α docs ps[b])
  unfold iv
  simp only[ω]
  omega) (L ps) NZ
 rw[pa]at d;have:=a.np;unfold ϲ;simp only[ω];omega
def iI (docs:List (γ)) (ps:List (Nat×Nat)):γ:=yx (ϲ docs ps)
theorem yy (v:ε) (docs:List (γ)) (ps:List (Nat×Nat)) (w:β) (i:Ϡ w) (h:Rd w v (L ps) 4 (Ϸ docs ps)) (f:ϵ docs ps (L docs)) :
  Calls prog 56 #[ā #[IZ (L docs),š (δ (ϣ docs)),v]] w fun e w'=>e=ŗ (.tuple #[š (δ (iI docs ps)),IZ 0])/\BQ w w':=by
 have b:BQ w (å w (C #[IZ (L docs),š (δ (ϣ docs)),v] 123)):=ġ;have HW:=Zh (Ci v docs ps _ (h.below b) f);have k:=Zh (jP f);have m:=Zh (i.below b);obtain⟨s,c,rfl,-⟩:=wm h;clear h f i;go_enter func56,ntmps56;go_wp2_with fail
 refine HW.o.mono ?_;rintro e r ⟨n,q,c1,rfl,a,d⟩;obtain⟨-,-,g⟩:=Ϻ d;have l:=Zh (Mr n q c1 (ϲ docs ps) r a.1 (by have t:=a.1;have:=k.o;omega) a.rd (m.o.below d));clear a d b;go_wp2_with fail
 refine l.o.mono ?_;rintro e u ⟨rfl,p⟩;have o:=g.trans (p.mono g.size);have j:Hid (yx (ϲ docs ps)=iI docs ps):=rfl;rw[j.o];go_wp2;go_ret2;exact⟨rfl,o⟩
theorem Lf (da:Option Addr) (dc:Nat) (sa:Option Addr) (sc:Nat) (docs:List (γ)) (ps:List (Nat×Nat)) (w:β) (o:Ϩ w) (f:Ϡ w) (l:Δ w (D da (L docs) dc) docs) (n:ϧ docs w (D sa (L ps) sc) ps) (d:ϵ docs ps (L docs)) :
  Calls prog 26 #[ā #[D da (L docs) dc,D sa (L ps) sc]] w fun e w'=>e=ŗ (.tuple #[š (δ (iI docs ps)),IZ 0])/\BQ w w':=by
 have g:=Zh (fun a (b:BQ w a)=>rm da dc sa sc docs ps _ a (o.below b) (f.below b) (l.below b) (n.below b) d rfl);have q:=Zh (fun p a (b:BQ w a) (h:Rd a p (L ps) 4 (Ϸ docs ps))=>yy p docs ps a (f.below b) h d);clear l n d o f;have i:BQ w (å w (C #[D da (L docs) dc,D sa (L ps) sc] 44)):=ġ;go_enter func26,ntmps26;go_wp2_with fail
 first|refine(g.o _ i).mono ?_|refine(g.o _ RZ).mono ?_
 rintro e v ⟨s,c1,rfl,m,j⟩;obtain⟨-,-,k⟩:=Ϻ j;have c:BQ w (å v (C #[IZ (L docs),š (δ (ϣ docs)),D s (L ps) c1] 123)):=k.alloc k.size _;have r:=Zh (q.o _ _ c (m.now.below (ġ)));clear m j i;go_wp2_with fail
 refine r.o.mono ?_;rintro e x ⟨rfl,u⟩;have t:=c.trans (u.mono c.size);go_wp2;go_ret2;exact⟨rfl,t⟩
