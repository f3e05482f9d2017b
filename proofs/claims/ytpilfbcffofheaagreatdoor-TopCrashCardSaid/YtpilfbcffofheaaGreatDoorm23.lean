/- Part 23 of the proof. -/
import Derived.Test.YtpilfbcffofheaaGreatDoorm21
import Derived.Test.YtpilfbcffofheaaGreatDoorm22
set_option linter.unusedVariables false
set_option linter.unusedSimpArgs false
set_option maxRecDepth 100000
set_option maxHeartbeats 16000000
namespace Go.Proofs.YtpilfbcffofheaaGreatDoor
open Go.Proofs.Tryz Go.RowKit Go.Sort
open List renaming length->L
open Value renaming slice->D,agg->ā
open Ending renaming returned->ŗ
open Obj renaming cells->C
open Option renaming none->O,some->J
open World renaming alloc->å,setCell->ŝ
theorem ς.toHi {H:Nat->Prop} {base:Nat} {w:β} {R:β->Prop} (h:ς H w R) (e:∀ b,¬H b->base<=b):Hi base w R:=fun f d=>h f fun b a c=>d b (e b c) a
theorem MA {docs:List (γ)} {w:β} {v:ε} {ps:List (Nat×Nat)} (h:ϧ docs w v ps) (d:γ) (l:∀ p∈ps,p.1<=p.2/\p.2<=L docs):ϧ (docs++[d]) w v ps:=by
 obtain⟨c,j,k⟩:=h;refine⟨c,j,fun a b=>?_⟩;obtain⟨e,f,m,g,i⟩:=k a b;obtain⟨p1,p2⟩:=l ps[a] (Χ b);exact⟨e,f,m,g,by rw[Kx docs d ps[a] p1 p2];exact i⟩
def mm (w:β) (r:Option Ix) (e:Ending) (w':β):Prop:=match r with
 |some y=>∃ a c1 b c2,e=ŗ (.tuple #[ā #[D a (L y.1) c1,D b (L y.2) c2],IZ 0])/\Hi w.heap.size w' (fun d=>Δ d (D a (L y.1) c1) y.1/\ϧ y.1 d (D b (L y.2) c2) y.2)/\Below w.heap.size w w'
 |none=>∃ a f c1 b g c2 c,0<c/\c<10/\e=ŗ (.tuple #[ā #[D a f c1,D b g c2],IZ ((c:Nat):Int)])/\Below w.heap.size w w'
theorem rp {docs:List (γ)} {ps:List (Nat×Nat)} {m:Nat} (a:ϵ docs ps m):(∀ d∈docs,L d<=100000)/\(∀ p∈ps,L (Α docs p)<=2000000/\∀ e∈Α docs p,L e.2<=1000)/\(∀ p∈ps,p.1<=p.2/\p.2<=L docs):=by
 refine⟨fun d g=>by have:=a.ld d g;omega,fun p b=>?_,fun p b=>?_⟩
 .obtain⟨l,i,rfl⟩:=pM b
  obtain⟨-,c,f⟩:=oL a i;exact⟨f,fun e h=>(c e h).2⟩
 .have j:=rc a.ch p b
  have k:=a.le;omega
theorem KQ (n k:Nat) (da:Option Addr) (dc:Nat) (sa:Option Addr) (sc:Nat) (docs:List (γ)) (ps:List (Nat×Nat)) (m:Nat) (aC:Option Addr) (f aD:Nat) (d:γ) (w:β) (X:L docs=n) (q:L ps=k) (aq:L d=f) (a1:Ϩ w) (au:Δ w (D da n dc) docs) (az:ϧ docs w (D sa k sc) ps) (aa:ϵ docs ps m) (a2:Rd w (D aC f aD) f 1 (η d)) (bY:f<=9223372036854775807) :
  Calls prog 252 #[ā #[D da n dc,D sa k sc],D aC f aD] w (mm w (ge (docs,ps) (.doc d))):=by
 obtain⟨bO,bE,bH,bI,bJ⟩:=ϯ vp;have am:=Zh (fun A (E:BQ w A)=>rE da n dc sa k sc docs ps m A (a1.below E) (au.below E) (az.below E) aa);obtain⟨o1,o2,o3⟩:=rp aa;have aQ:=aa.nd;have br:=aa.np;rw[X]at aQ;rw[q]at br;have ba:=Zh (fun A (E:BQ w A)=>vK n k da dc sa sc docs ps A X q (au.below E) (az.below E) aQ ϊ o1 o2);have bf:=Zh a2;have bd:=Zh o3;have hF:ge (docs,ps) (.doc d)=if f<=2000/\n<1000 then J (docs++[d],ps)else O:=by
  simp only[ge,aq,X]
 rw[hF];have U:=Zh X;have aF:=Zh q;have bg:=Zh aq;have R:BQ w (å (å w (C #[D da n dc,D sa k sc] 44)) (C #[D O 0 0,D O 0 0] 44)):=ġ.alloc ύ _;clear au az aa a2 o1 o2 o3 hF X q aq a1;by_cases bs:f<=2000
 .have bt:¬(2000:Int)<(f:Int):=ϊ
  by_cases bu:n<1000
  .have bv:¬(1000:Int)<=(n:Int):=ϊ
   rw[μ ⟨bs,bu⟩];go_enter func252,ntmps252;go_wp2_with fail
   refine(am.o _ R).mono ?_;rintro e N ⟨rfl,F⟩;obtain⟨r,I,a5,a6,G⟩:=fU F;obtain⟨⟨ab,ac⟩,⟨W,f1⟩,-⟩:=ι r;have T:=Ϲ r (D da n dc) (D sa k sc);have M:=(jf N w.heap.size (w.heap.size+1) ϊ (D da n dc) (D sa k sc)).trans I;have Q:=fS G NZ (D da n dc) (D sa k sc);clear R F r I G;go_upto_region 2 with (fail)
   generalize ŝ (ŝ N ⟨w.heap.size,0,O⟩ (D da n dc)) ⟨w.heap.size,1,O⟩ (D sa k sc)=B at *;obtain⟨⟨ab,ac⟩,⟨W,f1⟩,a8⟩:=ι T;obtain⟨⟨r0,r1⟩,⟨ao,ap⟩,aE⟩:=ι M;go_wp2_with fail
   refine(ba.o B Q).mono ?_;rintro e c ⟨o,i,ai,an,aB,rfl,s,ag⟩;have aN:=Q.trans (ag.mono Q.size);have bz:=θ T ag;have aS:=θ M ag;have bZ:=ag.size;have S:BQ c (å c (C #[D (J ⟨o,0,O⟩) n n,D (J ⟨i,0,O⟩) k k] 44)):=ġ;have aX:=χ c (C #[D (J ⟨o,0,O⟩) n n,D (J ⟨i,0,O⟩) k k] 44);have aH:ς (fun b=>(b<aB/\b<c.heap.size)\/b=c.heap.size) c (fun P=>lj docs ai (L docs) P/\kv docs ps an (L ps) P):=s.el.off (fun b bi bj=>ϊ);have bT:=s.l1 o rfl;have bV:=s.l2 i rfl;have bU:=(Ν s.rD o rfl);have bW:=(Ν s.rS i rfl);have bX:=s.bl;have ay:=s.rD;have aV:=s.rS;rw[U.o]at ay;have bw:o≠i:=fun e=>s.ne o rfl (by rw[e];rfl);go_upto_region 7 with (fail)
   have bk:=aH.below S;have bB:=Υ ay S;have bC:=Υ aV S;have bA:=θ aS S;have ar:=aN.trans (S.mono aN.size);have a0:(å c (C #[D (J ⟨o,0,O⟩) n n,D (J ⟨i,0,O⟩) k k] 44)).heap.size=c.heap.size+1:=ύ;have bb:=Zh (qj (D aC f aD) f (η d) (å c (C #[D (J ⟨o,0,O⟩) n n,D (J ⟨i,0,O⟩) k k] 44)).drew (bf.o.below ar.drew) (mp d) ϊ);have al:=Zh a0;clear aH ay aV aS S bz a0 s;generalize(å c (C #[D (J ⟨o,0,O⟩) n n,D (J ⟨i,0,O⟩) k k] 44))=V at *;obtain⟨⟨c0,c1⟩,⟨a3,a4⟩,a7⟩:=ι aX;have ae:BQ V V.drew:=RZ.drew;refine ϸ (fun A=>BQ V A) 5 ϋ ?_;refine Zf 0 ae ?_;refine Zk 1 ae ?_ (hy:=by intro A E;have bR:=ζ E c0;go_simp;try with_reducible rfl);refine Zf 2 ae ?_;refine Ψ (fuel:=4) 3 ϋ rfl ?_;intro K q;go_simp;refine bb.o.mono ?_;rintro e ad ⟨b1,rfl,aR,bn⟩;obtain⟨x,y,rfl⟩:=Θ aR;have Y:BQ V ad:=ae.trans bn;refine q _ _ Y ?_;clear q K;try simp only[Act.put]
   refine Ψ (fuel:=3) 4 ϋ rfl ?_;intro K q;go_simp;refine q _ _ (Y.alloc Y.size _) ?_;clear q K;have z:=Zh (Y.alloc Y.size (C #[D x f y] 31));have aU:=Υ bB z.o;have bm:Hi V.heap.size (å ad (C #[D x f y] 31)) (fun P=>Rd P (D x f y) f 1 (η d)):=(Hi.own aR).alloc _;have aI:=(bk.below z.o).and (bm.off (H:=fun b=>(b<aB/\b<c.heap.size)\/b=c.heap.size) (fun b bi bj=>by have:=al.o;omega));refine jp (fuel:=2) ϋ ϋ rfl ?_;intro K q;refine lx rfl (.tmp 21) (.tmp 24) 29 29 rfl B.heap.size 31 bO _ 1 24 kY bE bH bI bJ rfl (D (J ⟨o,0,O⟩) n n) n ai ϔ aU _ 1 [D x f y] ϔ (ig kY ad #[D x f y] 1 1 1 rfl ϗ) ώ ϊ (by have:=z.o.size;have:=al.o;omega) ?_;intro b2 t aw ah hv6;refine q _ _ ?_;clear q K;obtain⟨j,l,rfl⟩:=Θ aw;refine Ze 6 ?_;have bK:=ah.size;have b0:=z.o.size;have bS:=al.o;have Z:∀ b,b<(å ad (C #[D x f y] 31)).heap.size->b≠o->t.heap[b]?=(å ad (C #[D x f y] 31)).heap[b]?:=fun b p1 p2=>ah.block b p1 (fun e=>p2 (by simpa[Value.ownBlock] using e));have aY:t.heap[c.heap.size]?=J (C #[D (J ⟨o,0,O⟩) n n,D (J ⟨i,0,O⟩) k k] 44 (0,0)):=(Z _ ϊ ϊ).trans (θ aX z.o);have aT:=(Z (w.heap.size+1) ϊ ϊ).trans (θ bA z.o);have aW:t.ownsRow B.heap.size 92 3 (D (J ⟨i,0,O⟩) k k) (L ps) an:=jT (Υ bC z.o) (fun g hg=>by simp only[Value.ownBlock,Ο]at hg;subst hg;exact Z _ ϊ (fun e=>bw e.symm));have aJ:ς (fun b=>(b<aB/\b<c.heap.size)\/b=c.heap.size) t _:=aI.step bK (fun b p1 p2=>Z b p1 (fun e=>p2 (.inl ϊ))) (fun b _ h=>h);have aO:BQ w t:=(ar.trans (z.o.mono ar.size)).grown ah ϊ (fun g hg=>by simp only[Value.ownBlock,Ο]at hg;omega);have bF:∀ g,(Value.slice j (n+1) l).ownBlock=J g->g=o\/c.heap.size<g:=by
    intro g hg;rcases hv6 with hv6|hv6
    .rw[hv6]at hg;simp only[Value.ownBlock,Ο]at hg;exact .inl hg.symm
    .rw[hv6]at hg;injection hg with hg;right;omega
   obtain⟨⟨c0,c1⟩,⟨a3,a4⟩,a7⟩:=ι aY;refine Ze 7 ?_;refine Zd ?_;have aZ:=π t c.heap.size 0 _ _ (D j (n+1) l) aY;have ax:=(ψ t ⟨c.heap.size,0,O⟩ (w.heap.size+1) (D j (n+1) l) ϑ).trans aT;have bo:=aO.setCell (p:=⟨c.heap.size,0,O⟩) ϑ (D j (n+1) l);have bl:=aJ.set (p:=⟨c.heap.size,0,O⟩) (.inr rfl) (D j (n+1) l);have bx:=jT aw (w':=ŝ t ⟨c.heap.size,0,O⟩ (D j (n+1) l)) (fun g hg=>ψ _ _ _ _ (by rcases bF g hg with h|h<;>simp only<;>omega));have bD:=jT aW (w':=ŝ t ⟨c.heap.size,0,O⟩ (D j (n+1) l)) (fun g hg=>ψ _ _ _ _ (by simp only[Value.ownBlock,Ο]at hg;simp only;omega));clear aw aW aJ aI aT aO Z ah hv6;generalize ŝ t ⟨c.heap.size,0,O⟩ (D j (n+1) l)=aG at *;obtain⟨⟨c0,c1⟩,⟨a3,a4⟩,a7⟩:=ι (show aG.heap[c.heap.size]?=J (C #[D j (n+1) l,D (J ⟨i,0,O⟩) k k] 44 (0,0))from aZ);obtain⟨⟨r0,r1⟩,⟨ao,ap⟩,b3⟩:=ι ax;have be:=Zh (Ϲ ax (D j (n+1) l) (D (J ⟨i,0,O⟩) k k));have a9:=Zh (fS bo (go _ 1) (D j (n+1) l) (D (J ⟨i,0,O⟩) k k));have af:w.heap.size+1<B.heap.size:=aE;have aK:=ii (il (il bx (a:=⟨w.heap.size+1,0,O⟩) af (D j (n+1) l)) (a:=⟨w.heap.size+1,1,O⟩) af (D (J ⟨i,0,O⟩) k k)) (ϊ:w.heap.size<=B.heap.size);have aM:=ii (il (il bD (a:=⟨w.heap.size+1,0,O⟩) af (D j (n+1) l)) (a:=⟨w.heap.size+1,1,O⟩) af (D (J ⟨i,0,O⟩) k k)) (ϊ:w.heap.size<=B.heap.size);have aL:=((bl.set (p:=⟨w.heap.size+1,0,O⟩) (.inl ϑ) (D j (n+1) l)).set (p:=⟨w.heap.size+1,1,O⟩) (.inl ϑ) (D (J ⟨i,0,O⟩) k k)).toHi (base:=w.heap.size) (fun b h=>ϊ);have bc:Hid (Hi w.heap.size (ŝ (ŝ aG ⟨w.heap.size+1,0,O⟩ (D j (n+1) l)) ⟨w.heap.size+1,1,O⟩ (D (J ⟨i,0,O⟩) k k)) (fun P=>Δ P (D j (n+1) l) (docs++[d])/\ϧ (docs++[d]) P (D (J ⟨i,0,O⟩) k k) ps)):=by
    refine(aL.and ((Hi.own aK).and (Hi.own aM))).imp fun P ⟨⟨⟨p1,p2⟩,bL⟩,bM,bN⟩=>⟨⟨ai++[D x f y],by simpa[U.o] using bM,fun aA hi=>?_⟩,MA ⟨an,bN,fun k aP=>p2 k aP aP⟩ d bd.o⟩;have bG:L ai=L docs:=by have:=aU.1;rw[U.o];omega
    by_cases av:aA<L docs
    .obtain⟨bh,bP,bQ⟩:=p1 aA av av
     refine⟨bh,by rw[iX ϊ];exact bP,?_⟩;rw[ph av];exact bQ
    .have bq:aA=L docs:=by simp at hi;omega
     subst bq;refine⟨D x f y,by rw[gO ϊ,bG,kE];rfl,?_⟩;have bp:(docs++[d])[L docs]=d:=ύ;rw[bp,bg.o];exact bL
   clear aK aM aL ax aZ;go_wp2;exact ϟ (v:=.tuple #[ā #[D j (n+1) l,D (J ⟨i,0,O⟩) k k],IZ 0]) (gf (p:=4) (u:=5) (ty:=44) rfl _ _ (w.heap.size+1) 44 _ (0,0) _ rfl be.o lh rfl ϋ) rfl ⟨j,l,J ⟨i,0,O⟩,k,by simp only[ω,Ϧ,gF,U.o,aF.o],by simp only[ω,Ϧ,gF,U.o,aF.o];exact bc.o,a9.o⟩
  .have bv:(1000:Int)<=(n:Int):=ϊ
   rw[κ ϊ];go_enter func252,ntmps252;go_wp2_with fail
   refine(am.o _ R).mono ?_;rintro e N ⟨rfl,F⟩;obtain⟨r,I,a5,a6,G⟩:=fU F;obtain⟨⟨ab,ac⟩,⟨W,f1⟩,-⟩:=ι r;have T:=Ϲ r (D da n dc) (D sa k sc);have M:=(jf N w.heap.size (w.heap.size+1) ϊ (D da n dc) (D sa k sc)).trans I;have Q:=fS G NZ (D da n dc) (D sa k sc);clear R F r I G;go_upto_region 2 with (fail)
   generalize ŝ (ŝ N ⟨w.heap.size,0,O⟩ (D da n dc)) ⟨w.heap.size,1,O⟩ (D sa k sc)=B at *;obtain⟨⟨ab,ac⟩,⟨W,f1⟩,a8⟩:=ι T;obtain⟨⟨r0,r1⟩,⟨ao,ap⟩,aE⟩:=ι M;have ak:=Zh (Ϲ M (D da n dc) (D sa k sc));have aj:=Zh (fS Q (go _ 1) (D da n dc) (D sa k sc));go_wp2;exact ϟ (v:=.tuple #[ā #[D da n dc,D sa k sc],IZ 3]) (gf (p:=4) (u:=5) (ty:=44) rfl _ _ (w.heap.size+1) 44 _ (0,0) _ rfl ak.o lh rfl ϋ) rfl ⟨da,n,dc,sa,k,sc,3,ϊ,ϊ,rfl,aj.o⟩
 .have bt:(2000:Int)<(f:Int):=ϊ
  rw[κ ϊ];go_enter func252,ntmps252;go_wp2_with fail
  refine(am.o _ R).mono ?_;rintro e N ⟨rfl,F⟩;obtain⟨r,I,a5,a6,G⟩:=fU F;obtain⟨⟨ab,ac⟩,⟨W,f1⟩,-⟩:=ι r;have T:=Ϲ r (D da n dc) (D sa k sc);have M:=(jf N w.heap.size (w.heap.size+1) ϊ (D da n dc) (D sa k sc)).trans I;have Q:=fS G NZ (D da n dc) (D sa k sc);clear R F r I G;go_upto_region 2 with (fail)
  generalize ŝ (ŝ N ⟨w.heap.size,0,O⟩ (D da n dc)) ⟨w.heap.size,1,O⟩ (D sa k sc)=B at *;obtain⟨⟨ab,ac⟩,⟨W,f1⟩,a8⟩:=ι T;obtain⟨⟨r0,r1⟩,⟨ao,ap⟩,aE⟩:=ι M;have ak:=Zh (Ϲ M (D da n dc) (D sa k sc));have aj:=Zh (fS Q (go _ 1) (D da n dc) (D sa k sc));go_wp2;exact ϟ (v:=.tuple #[ā #[D da n dc,D sa k sc],IZ 1]) (gf (p:=4) (u:=5) (ty:=44) rfl _ _ (w.heap.size+1) 44 _ (0,0) _ rfl ak.o lh rfl ϋ) rfl ⟨da,n,dc,sa,k,sc,1,ϊ,ϊ,rfl,aj.o⟩
theorem KR (n k:Nat) (da:Option Addr) (dc:Nat) (sa:Option Addr) (sc:Nat) (docs:List (γ)) (ps:List (Nat×Nat)) (m:Nat) (w:β) (Z:L docs=n) (ah:L ps=k) (aK:Ϩ w) (aq:Δ w (D da n dc) docs) (au:ϧ docs w (D sa k sc) ps) (B:ϵ docs ps m) :
  Calls prog 254 #[ā #[D da n dc,D sa k sc]] w (mm w (ge (docs,ps) .flush)):=by
 obtain⟨b2,bS,bU,bV,bW⟩:=ϯ vq;have az:=Zh (fun s (t:BQ w s)=>rE da n dc sa k sc docs ps m s (aK.below t) (aq.below t) (au.below t) B);obtain⟨o1,o2,o3⟩:=rp B;have a2:=B.nd;have bC:=B.np;have bF:=B.le;rw[Z]at a2 bF;rw[ah]at bC;have bn:=Zh (fun s (t:BQ w s)=>vK n k da dc sa sc docs ps s Z ah (aq.below t) (au.below t) a2 ϊ o1 o2);have aw:=Zh (fun s (t:BQ w s)=>Dl (D da n dc) (D sa k sc) docs ps m s (au.below t) B.ch);have bl:=Zh (fun s (t:BQ w s) (h:m<n)=>AQ (D da n dc) docs m n s (aK.below t) (aq.below t) B.nd B.ld h (by rw[Z];exact NZ));have hF:ge (docs,ps) .flush=if m=n\/64<=k then O else J (docs,ps++[(m,n)]):=by
  simp only[ge,te B.ch,Z,ah]
 rw[hF];have ax:=Zh Z;have ae:=Zh ah;have aa:BQ w (å (å w (C #[D da n dc,D sa k sc] 44)) (C #[D O 0 0,D O 0 0] 44)):=ġ.alloc ύ _;clear aq au B o1 o2 o3 hF Z ah aK;by_cases a1:m=n
 .have bD:((m:Int)==(n:Int))=true:=by subst a1;simp
  have bE:(m:Int)=(n:Int):=ϊ;rw[μ (.inl a1)];go_enter func254,ntmps254;go_wp2_with fail
  refine(az.o _ aa).mono ?_;rintro e T ⟨rfl,P⟩;obtain⟨y,S,bh,bi,Q⟩:=fU P;obtain⟨⟨K,M⟩,⟨G,f1⟩,-⟩:=ι y;have R:=Ϲ y (D da n dc) (D sa k sc);have al:=(jf T w.heap.size (w.heap.size+1) ϊ (D da n dc) (D sa k sc)).trans S;have x:=fS Q NZ (D da n dc) (D sa k sc);clear aa P y S Q;go_upto_region 2 with (fail)
  generalize ŝ (ŝ T ⟨w.heap.size,0,O⟩ (D da n dc)) ⟨w.heap.size,1,O⟩ (D sa k sc)=af at *;obtain⟨⟨K,M⟩,⟨G,f1⟩,ad⟩:=ι R;go_wp2_with fail
  refine(aw.o af x).mono ?_;rintro e Y ⟨rfl,r⟩;have V:=x.trans (r.mono x.size);have X:=θ R r;have I:=θ al r;obtain⟨⟨K,M⟩,⟨G,f1⟩,ad⟩:=ι X;obtain⟨⟨r0,r1⟩,⟨aA,aB⟩,bj⟩:=ι I;have ay:=Zh (Ϲ I (D da n dc) (D sa k sc));have av:=Zh (fS V (go _ 1) (D da n dc) (D sa k sc));go_wp2;exact ϟ (v:=.tuple #[ā #[D da n dc,D sa k sc],IZ 5]) (gf (p:=2) (u:=3) (ty:=44) rfl _ _ (w.heap.size+1) 44 _ (0,0) _ rfl ay.o lh rfl ϋ) rfl ⟨da,n,dc,sa,k,sc,5,ϊ,ϊ,rfl,av.o⟩
 .have bD:((m:Int)==(n:Int))=false:=by simp only[gl,ne_eq];omega
  have bE:¬(m:Int)=(n:Int):=ϊ;by_cases cj:k<64
  .have bG:¬(64:Int)<=(k:Int):=ϊ
   rw[κ ϊ];go_enter func254,ntmps254;go_wp2_with fail
   refine(az.o _ aa).mono ?_;rintro e T ⟨rfl,P⟩;obtain⟨y,S,bh,bi,Q⟩:=fU P;obtain⟨⟨K,M⟩,⟨G,f1⟩,-⟩:=ι y;have R:=Ϲ y (D da n dc) (D sa k sc);have al:=(jf T w.heap.size (w.heap.size+1) ϊ (D da n dc) (D sa k sc)).trans S;have x:=fS Q NZ (D da n dc) (D sa k sc);clear aa P y S Q;go_upto_region 2 with (fail)
   generalize ŝ (ŝ T ⟨w.heap.size,0,O⟩ (D da n dc)) ⟨w.heap.size,1,O⟩ (D sa k sc)=af at *;obtain⟨⟨K,M⟩,⟨G,f1⟩,ad⟩:=ι R;go_wp2_with fail
   refine(aw.o af x).mono ?_;rintro e Y ⟨rfl,r⟩;have V:=x.trans (r.mono x.size);have X:=θ R r;have I:=θ al r;obtain⟨⟨K,M⟩,⟨G,f1⟩,ad⟩:=ι X;obtain⟨⟨r0,r1⟩,⟨aA,aB⟩,bj⟩:=ι I;go_wp2_with fail
   refine(bl.o Y V ϊ).mono ?_;rintro e U ⟨co,rfl,aC,ao⟩;obtain⟨j,l,rfl,-,-⟩:=iF (aC U (fun _ _ _=>rfl));have bt:Hid (Hi Y.heap.size U (fun E=>fY E (D j (L (Α docs (m,n))) l) (L (Α docs (m,n))) (Α docs (m,n)))):=aC;have bu:=Zh (show(L (Α docs (m,n)))=L (Α docs (m,n)) from rfl);generalize aW:L (Α docs (m,n))=o at *;have bv:=Zh aW;clear aC aW bu;have aX:=V.trans (ao.mono V.size);have a3:=θ X ao;have a5:=θ I ao;have aj:BQ U (å U (C #[IZ m,IZ n,D j o l] 92)):=ġ;have bQ:=χ U (C #[IZ m,IZ n,D j o l] 92);have aD:=aX.trans (aj.mono aX.size);have a4:=θ a3 aj;have a6:=θ a5 aj;have cl:=ao.size;have ck:=r.size;go_upto_region 8 with (fail)
   have bf:(å U (C #[IZ m,IZ n,D j o l] 92)).heap.size=U.heap.size+1:=ύ;have br:=Zh bf;clear bf;generalize(å U (C #[IZ m,IZ n,D j o l] 92))=F at *;obtain⟨⟨K,M⟩,⟨G,f1⟩,ad⟩:=ι a4;have bo:=Zh (bn.o F aD);go_wp2_with fail
   refine bo.o.mono ?_;rintro e c ⟨d,z,aM,am,aL,rfl,A,ab⟩;have aY:=aD.trans (ab.mono aD.size);have a7:=θ a6 ab;have be:=θ bQ ab;have cm:=ab.size;have W:BQ c (å c (C #[D (J ⟨d,0,O⟩) n n,D (J ⟨z,0,O⟩) k k] 44)):=ġ;have bc:=χ c (C #[D (J ⟨d,0,O⟩) n n,D (J ⟨z,0,O⟩) k k] 44);have cd:=br.o;have ci:=A.bl;have aP:ς (fun b=>(F.heap.size<=b/\b<aL/\b<c.heap.size)\/b=c.heap.size\/b<Y.heap.size) c (fun E=>lj docs aM (L docs) E/\kv docs ps am (L ps) E):=A.el.off (fun b bw bx=>ϊ);have aS:ς (fun b=>(F.heap.size<=b/\b<aL/\b<c.heap.size)\/b=c.heap.size\/b<Y.heap.size) c (fun E=>fY E (D j o l) o (Α docs (m,n))):=((bt.o.off (H:=fun b=>(F.heap.size<=b/\b<aL/\b<c.heap.size)\/b=c.heap.size\/b<Y.heap.size) (fun b bw bx=>ϊ)).below aj).below ab;have ce:=A.l1 d rfl;have cg:=A.l2 z rfl;have cf:=(Ν A.rD d rfl);have ch:=(Ν A.rS z rfl);have a9:=A.rD;have aI:=A.rS;rw[ae.o]at aI;have bH:d≠z:=fun e=>A.ne d rfl (by rw[e];rfl);go_upto_region 11 with (fail)
   have aQ:=(aP.and aS).below W;have bN:=Υ a9 W;have bb:=Υ aI W;have bL:=θ a7 W;have bR:=θ be W;have aZ:=aY.trans (W.mono aY.size);have bg:(å c (C #[D (J ⟨d,0,O⟩) n n,D (J ⟨z,0,O⟩) k k] 44)).heap.size=c.heap.size+1:=ύ;have bs:=Zh bg;clear aP aS a9 aI I a5 a6 a7 W X a3 a4 bg A be aj ab;generalize(å c (C #[D (J ⟨d,0,O⟩) n n,D (J ⟨z,0,O⟩) k k] 44))=ag at *;obtain⟨⟨c0,c1⟩,⟨b8,b9⟩,ca⟩:=ι bc;obtain⟨⟨cq,cr,cs⟩,-,cw⟩:=Β bR;have ai:BQ ag (å ag (C #[IZ m,IZ n,D j o l] 92)):=ġ;have bO:=Υ bb ai;have bP:=θ bc ai;have aN:=Zh bP;have bk:=Zh ai;have bz:=bs.o;have cn:=ai.size;clear ai;go_upto_region 12 with (at_builtin;(refine gn rfl _ _ _ _ rfl F.heap.size 92 b2 _ 3 40 mG bS bU bV bW rfl (D (J ⟨z,0,O⟩) k k) k am (by rfl) bO _ 1 [IZ m,IZ n,D j o l] rfl (mZ mG ag #[IZ m,IZ n,D j o l] 3 1 1 (c.heap.size+1) bz rfl ϗ) ώ ϊ ϊ ?_);intro cp N aG ar hv9 _;go_loud (obtain⟨f,i,rfl⟩:=Θ aG;have ac:∀ b,b<(å ag (C #[IZ m,IZ n,D j o l] 92)).heap.size->b≠z->N.heap[b]?=(å ag (C #[IZ m,IZ n,D j o l] 92)).heap[b]?:=fun b p1 p2=>ar.block b p1 (fun e=>p2 (by simpa[Value.ownBlock] using e));have aJ:=(ac c.heap.size ϊ ϊ).trans aN.o;obtain⟨⟨cb,cc⟩,⟨ct,cu⟩,cv⟩:=ι aJ))
   have ap:=bk.o;have a8:=(ac (w.heap.size+1) ϊ ϊ).trans (θ bL ap);have ba:N.ownsRow F.heap.size 31 1 (D (J ⟨d,0,O⟩) n n) (L docs) aM:=jT (Υ bN ap) (fun g hg=>by simp only[Value.ownBlock,Ο]at hg;subst hg;exact ac _ ϊ bH);have bX:=ar.size;have aR:=(aQ.below ap).step (w':=N) bX (fun b p1 p2=>ac b p1 (fun e=>p2 (.inl ϊ))) (fun b _ h=>h);have a0:BQ w N:=(aZ.trans (ap.mono aZ.size)).grown ar ϊ (fun g hg=>by simp only[Value.ownBlock,Ο]at hg;omega);have bT:∀ g,(Value.slice f (k+1) i).ownBlock=J g->g=z\/c.heap.size<g:=by
    intro g hg;rcases hv9 with hv9|hv9
    .rw[hv9]at hg;simp only[Value.ownBlock,Ο]at hg;exact .inl hg.symm
    .rw[hv9]at hg;injection hg with hg;right;omega
   have aJ:=(ac c.heap.size ϊ ϊ).trans aN.o;have bd:=π N c.heap.size 1 _ _ (D f (k+1) i) aJ;have aH:=(ψ N ⟨c.heap.size,1,O⟩ (w.heap.size+1) (D f (k+1) i) ϑ).trans a8;have bB:=a0.setCell (p:=⟨c.heap.size,1,O⟩) ϑ (D f (k+1) i);have bA:=aR.set (p:=⟨c.heap.size,1,O⟩) (.inr (.inl rfl)) (D f (k+1) i);have bI:=jT aG (w':=ŝ N ⟨c.heap.size,1,O⟩ (D f (k+1) i)) (fun g hg=>ψ _ _ _ _ (by rcases bT g hg with h|h<;>simp only<;>omega));have bM:=jT ba (w':=ŝ N ⟨c.heap.size,1,O⟩ (D f (k+1) i)) (fun g hg=>ψ _ _ _ _ (by simp only[Value.ownBlock,Ο]at hg;simp only;omega));clear aG ba aR aQ a8 a0 ac ar hv9;generalize ŝ N ⟨c.heap.size,1,O⟩ (D f (k+1) i)=aO at *;obtain⟨⟨c0,c1⟩,⟨b8,b9⟩,ca⟩:=ι (show aO.heap[c.heap.size]?=J (C #[D (J ⟨d,0,O⟩) n n,D f (k+1) i] 44 (0,0))from bd);obtain⟨⟨r0,r1⟩,⟨aA,aB⟩,cx⟩:=ι aH;have bq:=Zh (Ϲ aH (D (J ⟨d,0,O⟩) n n) (D f (k+1) i));have bm:=Zh (fS bB (go _ 1) (D (J ⟨d,0,O⟩) n n) (D f (k+1) i));have an:w.heap.size+1<F.heap.size:=ϊ;have aT:=ii (il (il bM (a:=⟨w.heap.size+1,0,O⟩) an (D (J ⟨d,0,O⟩) n n)) (a:=⟨w.heap.size+1,1,O⟩) an (D f (k+1) i)) (ϊ:w.heap.size<=F.heap.size);have aV:=ii (il (il bI (a:=⟨w.heap.size+1,0,O⟩) an (D (J ⟨d,0,O⟩) n n)) (a:=⟨w.heap.size+1,1,O⟩) an (D f (k+1) i)) (ϊ:w.heap.size<=F.heap.size);have aU:=((bA.set (p:=⟨w.heap.size+1,0,O⟩) (.inr (.inr ϑ)) (D (J ⟨d,0,O⟩) n n)).set (p:=⟨w.heap.size+1,1,O⟩) (.inr (.inr ϑ)) (D f (k+1) i)).toHi (base:=w.heap.size) (fun b h=>ϊ);have bp:Hid (Hi w.heap.size (ŝ (ŝ aO ⟨w.heap.size+1,0,O⟩ (D (J ⟨d,0,O⟩) n n)) ⟨w.heap.size+1,1,O⟩ (D f (k+1) i)) (fun E=>Δ E (D (J ⟨d,0,O⟩) n n) docs/\ϧ docs E (D f (k+1) i) (ps++[(m,n)]))):=by
    have aE:L am=L ps*3:=by have:=bb.1;rw[ae.o];omega
    refine(aU.and ((Hi.own aT).and (Hi.own aV))).imp fun E ⟨⟨⟨p1,p2⟩,bZ⟩,b0,b1⟩=>⟨⟨aM,by simpa[ax.o] using b0,fun bY hi=>p1 bY hi hi⟩,am++[IZ m,IZ n,D j o l],by simpa[ae.o] using b1,fun q bJ=>?_⟩;by_cases ak:q<L ps
    .obtain⟨b3,b4,b7,b5,b6⟩:=p2 q ak ak
     refine⟨?_,?_,b7,?_,?_⟩
     .rw[iX ϊ,ph ak];exact b3
     .rw[iX ϊ,ph ak];exact b4
     .rw[iX ϊ];exact b5
     .rw[ph ak];exact b6
    .have bK:q=L ps:=by simp at bJ;omega
     subst bK;have aF:(ps++[(m,n)])[L ps]=(m,n):=ύ;refine⟨?_,?_,D j o l,?_,?_⟩
     .rw[gO ϊ,aE,kE,aF];rfl
     .rw[gO ϊ,aE,show L ps*3+1 - L ps*3=1 from ϊ,aF];rfl
     .rw[gO ϊ,aE,show L ps*3+2 - L ps*3=2 from ϊ];rfl
     .rw[aF,bv.o];exact bZ
   clear aT aV aU aH bd;go_wp2;exact ϟ (v:=.tuple #[ā #[D (J ⟨d,0,O⟩) n n,D f (k+1) i],IZ 0]) (gf (p:=2) (u:=3) (ty:=44) rfl _ _ (w.heap.size+1) 44 _ (0,0) _ rfl bq.o lh rfl ϋ) rfl ⟨J ⟨d,0,O⟩,n,f,i,by simp only[ω,Ϧ,gF,ax.o,ae.o],by simp only[ω,Ϧ,gF,ax.o,ae.o];exact bp.o,bm.o⟩
  .have bG:(64:Int)<=(k:Int):=ϊ
   rw[μ (.inr ϊ)];go_enter func254,ntmps254;go_wp2_with fail
   refine(az.o _ aa).mono ?_;rintro e T ⟨rfl,P⟩;obtain⟨y,S,bh,bi,Q⟩:=fU P;obtain⟨⟨K,M⟩,⟨G,f1⟩,-⟩:=ι y;have R:=Ϲ y (D da n dc) (D sa k sc);have al:=(jf T w.heap.size (w.heap.size+1) ϊ (D da n dc) (D sa k sc)).trans S;have x:=fS Q NZ (D da n dc) (D sa k sc);clear aa P y S Q;go_upto_region 2 with (fail)
   generalize ŝ (ŝ T ⟨w.heap.size,0,O⟩ (D da n dc)) ⟨w.heap.size,1,O⟩ (D sa k sc)=af at *;obtain⟨⟨K,M⟩,⟨G,f1⟩,ad⟩:=ι R;go_wp2_with fail
   refine(aw.o af x).mono ?_;rintro e Y ⟨rfl,r⟩;have V:=x.trans (r.mono x.size);have X:=θ R r;have I:=θ al r;obtain⟨⟨K,M⟩,⟨G,f1⟩,ad⟩:=ι X;obtain⟨⟨r0,r1⟩,⟨aA,aB⟩,bj⟩:=ι I;have ay:=Zh (Ϲ I (D da n dc) (D sa k sc));have av:=Zh (fS V (go _ 1) (D da n dc) (D sa k sc));go_wp2;exact ϟ (v:=.tuple #[ā #[D da n dc,D sa k sc],IZ 3]) (gf (p:=2) (u:=3) (ty:=44) rfl _ _ (w.heap.size+1) 44 _ (0,0) _ rfl ay.o lh rfl ϋ) rfl ⟨da,n,dc,sa,k,sc,3,ϊ,ϊ,rfl,av.o⟩
theorem Nc {P:Program} {ops:Array Oper} {o:Oper} {a:Act} {w:β} {K:Act->β->Prop} {Q:Exit->Act->β->Prop} {A:Prop} (N:o.guard=O) (s x:Operand) (t tx:TypeId)
  (V:o.op=.call {callee:=.builtin .append,args:= #[s,x],argTypes:= #[t,tx]})
  (base:Nat) (e:TypeId) (i:TypeInfo) (z:ε) (size bytes:Nat) (ab:P.underlying t=J (.slice e)) (hi:P.info? e=J i) (af:i.zero=J z)
  (aa:i.size=size) (H:i.bytes=bytes) (ag:z.cells.size=size)
  (d:Option Addr) (n:Nat) (xs:List ε) (Z:a.eval s=D d n n) (Y:Rd w (D d n n) n size xs)
  (p:ε) (m:Nat) (g:List ε) (ad:a.eval x=p) (v:Src P size tx p m g w) (aj:0<m)
  (r:n+m<=maxLen) (I:(n+m)*bytes<=140737488355328) (G:base<=w.heap.size)
  (h:∀ l w',w'.ownsRow base e size l (n+m) (xs++g)->w.grownBy w' O->l.ownBlock=J w.heap.size->K (a.put o.dst l) w') :
  if Region.wanted o (yielded ops a.tmps)=true then Oper.wp P o a w K Q else A:=by
 have ac:Region.wanted o (yielded ops a.tmps)=true:=by simp[Region.wanted,N]
 rw[μ ac];subst aa;subst H;have U:=v.newsLen;obtain⟨k,ak,S⟩:=Y;have W:(Builtin.firstCells i.size n (D d n n)).run P w.drew=.ok xs.toArray w.drew:=by
  rcases S with ⟨ai,E,c,q⟩|⟨b,off,E,c,q,al,u,M⟩
  .simp only[Ξ]at c
   obtain⟨rfl,-,-⟩:=c;subst q;have ae:xs=[]:=ko (by simpa using k);subst ae;cases d with
   |none=>exact wV w.drew i.size 0 0 0
   |some B=>exact run_firstCells_some (w.drew) i.size 0 B 0 0 [] ύ (fun f y c=>by simp at c)
  .simp only[Ξ]at c
   obtain⟨rfl,-,-⟩:=c;refine run_firstCells_some (w.drew) i.size n ⟨b,off,O⟩ n n xs k fun f y c=>?_;have F:(⟨b,off,O⟩:Addr).add f=⟨b,off+f,O⟩:=by unfold Addr.add;split<;>simp_all
   rw[F];exact M f y c
 have X:=run_append_grow_src (P:=P) w t tx o.type e i z ab hi af d n n xs W p m g v ϊ (by unfold maxLen at r;omega) (growslice_fits ϊ I);have R:=grownCap_ge w (n+m) n e;have u:grownCap w (n+m) n e<=maxLen:=uu w (n+m) n e r;have j:L (xs++g)=(n+m)*i.size:=by rw[ω,k,U,kX]
 unfold Oper.wp execOp;simp only[V,resolve,invoke,builtin,Sem.run_bind,Sem.run_pure,pN,qP,iA,lf,Z,ad,X];refine h _ _ ⟨j,.inr ⟨w.heap.size,_,_,rfl,G,Go.heap_alloc_new w.drew _,R,u,?_,?_⟩⟩ ⟨rfl,rfl,rfl,ύ,fun ah T _=>gX w.drew _ ah T⟩ rfl
 .rw[Array.size_append,pe,size_zeroCells,ag,j,<-kX]
  congr 1
  omega
 .rw[Array.toList_append,<-j]
  exact sr
theorem IX:(prog.info? 89).map (fun i=>(i.zero,i.size,i.bytes))=J (J (ā #[IZ 0,IZ 0]),2,16):=ϋ
theorem ze {w:β} {b off c n a i j:Nat} {g:List ε} (h:Rd w (D (J ⟨b,off,O⟩) n c) n a g) (t:i+j<=n) (d:Nat) (o:j<=d) (r:d<=maxLen):Rd w (D (J ⟨b,off+i*a,O⟩) j d) j a ((g.drop (i*a)).take (j*a)):=by
 obtain⟨y,A,s⟩:=h;have u:(i+j)*a<=n*a:=pQ _ t;rw[kX]at u;refine⟨ό,ϊ,?_⟩;by_cases k:j=0
 .exact .inl ⟨_,d,by rw[k],k⟩
 .rcases s with ⟨v,l,f,m⟩|⟨x,E,l,f,m,B,z,p⟩
  .omega
  .simp only[Ξ,Ο,Addr.mk.injEq,hR,Ϯ]at f
   obtain⟨⟨rfl,rfl⟩,rfl⟩:=f;refine .inr ⟨b,off+i*a,d,rfl,ϊ,o,r,fun q F e=>?_⟩;rw[hP]at e;split at e
   .rw[jo]at e
    have:=p _ _ e;rw[<-iW]at this;exact this
   .cases e
theorem Dn (b off c k i a:Nat) (f t:Nat) (p:Option Addr) (r q:Nat) (n:List ε) (w:β) (h:Rd w (D (J ⟨b,off,O⟩) k c) k 3 n) (N:∀ u∈n,u.oneCell'=true) (am:i+a<=k) (aG:k<=1000) (aF:1<=a) :
  Calls prog 303 #[D (J ⟨b,off,O⟩) k c,IZ i,IZ a,ā #[IZ f,IZ t,D p r q]] w fun e w'=>∃ I M,e=ŗ (D I (i+1+(k - (i+a))) M)/\w'.ownsRow w.heap.size 92 3 (D I (i+1+(k - (i+a))) M) (i+1+(k - (i+a))) (n.take (i*3)++([IZ f,IZ t,D p r q]++n.drop ((i+a)*3)))/\BQ w w':=by
 obtain⟨W,S,T,U,V⟩:=ϯ vq;have E:k<=c/\c<=maxLen:=by
  obtain⟨-,-,⟨aA,af,F,ai⟩|⟨aB,aO,af,F,ai,ao,B,-⟩⟩:=h
  .omega
  .simp only[Ξ]at F
   obtain⟨-,-,rfl⟩:=F;exact⟨ao,B⟩
 have B:=E.2;unfold maxLen at B;have v:BQ w (å w (C #[IZ f,IZ t,D p r q] 92)):=ġ;have ap:=χ w (C #[IZ f,IZ t,D p r q] 92);have G:=Zh (fun d (m:BQ w d)=>ze (i:=0) (j:=i) (h.below m) ϊ i NZ ώ);have H:=Zh (fun d (m:BQ w d)=>ze (i:=i+a) (j:=k - (i+a)) (h.below m) ϊ (c - (i+a)) ϊ ώ);have al:=h.1;have Z:=Zh N;have aH:=E.1;clear h N E;have aN:IntKind.i64.wrap ((i:Int)+(a:Int))=(i:Int)+(a:Int):=Ϗ;have aI:((i:Int)+(a:Int)).toNat=i+a:=ϊ;have aJ:(0:Int)<=(i:Int)+(a:Int):=ϊ;have aK:(i:Int)+(a:Int)<=(k:Int):=ϊ;have aL:i<=c:=ϊ;have aM:i+a<=k:=am;go_enter func303,ntmps303;go_upto_region 1 with (fail)
 generalize(å w (C #[IZ f,IZ t,D p r q] 92))=s at *;obtain⟨⟨aw,ax,ay⟩,-,aR⟩:=Β ap;have l:BQ s s.drew:=RZ.drew;refine ϸ (fun d=>BQ s d) 12 ϋ ?_;refine Zf 0 l ?_;refine Zf 1 l ?_;refine Zf 2 l ?_;refine Zf 3 l ?_;refine Zb 4 [5,6,12] l ?_ (hy:=by intro d m;have aC:=ζ m aw;have aD:=ζ m ax;have aE:=ζ m ay;go_simp;try with_reducible rfl);refine Zf 7 l ?_;refine Zf 8 l ?_;refine Zf 9 l ?_;refine Zf 10 l ?_;refine Zf 11 l ?_;have ac:Hid (∀ d,BQ w d->Rd d (D (if c=i+a then J ⟨b,off,O⟩else J ⟨b,off+(i+a)*3,O⟩) (k - (i+a)) (c - (i+a))) (k - (i+a)) 3 (n.drop ((i+a)*3))):=by
  intro d m;have h:=H.o d m;rw[gW (by rw[gb,al,Nat.sub_mul];exact NZ)]at h;split
  .have an:k - (i+a)=0:=ϊ
   rw[an]at h ⊢;exact⟨h.1,h.2.1,.inl ⟨_,_,rfl,rfl⟩⟩
  .exact h
 have ab:Hid (∀ d,BQ w d->Rd d (D (J ⟨b,off,O⟩) i i) i 3 (n.take (i*3))):=by
  intro d m;have h:=G.o d m;simpa using h
 have Y:Hid (∀ u∈n.drop ((i+a)*3),u.oneCell'=true):=fun u aq=>Z.o u (su aq);generalize aj:(if c=i+a then J (⟨b,off,O⟩:Addr)else J ⟨b,off+(i+a)*3,O⟩)=az at *;clear aj H G;refine Ψ (fuel:=3) 5 ϋ rfl ?_;intro K o;go_simp;have x:=l.alloc l.size (C #[IZ f,IZ t,D p r q] 92);refine o _ _ x ?_;clear o K;refine Ψ (fuel:=2) 6 ϋ rfl ?_;intro K o;refine Nc rfl (.tmp 12) (.tmp 14) 42 42 rfl w.heap.size 92 W _ 3 40 mG S T U V rfl (J ⟨b,off,O⟩) i (n.take (i*3)) ϔ (ab.o _ (v.trans (x.mono v.size))) _ 1 [IZ f,IZ t,D p r q] ϔ (ig mG s.drew #[IZ f,IZ t,D p r q] 3 1 1 rfl ϗ) ϊ ώ ϊ (by have:=v.size;simp;omega) ?_;intro aP X z Q ar;have P:BQ s X:=x.grown Q (by have:=x.size;omega) (fun g hg=>by cases hg);refine o _ _ P ?_;clear o K;obtain⟨ad,ag,rfl⟩:=Θ z;have y:=v.trans (P.mono v.size);refine jp (fuel:=1) ϋ ϋ rfl ?_;intro K o;refine lx rfl (.tmp 15) (.tmp 20) 42 42 rfl w.heap.size 92 W _ 3 40 mG S T U V rfl (D ad (i+1) ag) (i+1) _ ϔ z _ (k - (i+a)) _ ϔ ((ac.o X y).src mG Y.o) ώ ϊ y.size ?_;intro aQ av A R au;refine o _ _ ?_;clear o K;obtain⟨ae,ah,rfl⟩:=Θ A;refine Ze 13 ?_;refine Zd ?_;have ak:BQ w av:=y.grown R y.size (fun g hg=>(Ν z g hg).1);rw[gM]at A;have aa:=Zh A;clear A R au Q ar z;go_wp2;go_ret;exact⟨ae,ah,rfl,aa.o,ak⟩
theorem JX (k:Nat) (t:ε) (docs:List (γ)) (ps:List (Nat×Nat)) (w:β) (i:L ps=k) (s:ϧ docs w t ps) (U:k<=1000) :
  Calls prog 305 #[t] w fun e w'=>∃ o c,e=ŗ (D o k c)/\Rd w' (D o k c) k 2 (nE (iw ps))/\BQ w w':=by
 obtain⟨sa,sc,rfl,-,y⟩:=rU s;rw[i];obtain⟨R,I,K,M,N⟩:=ϯ IX;have m:=Zh i;clear s i;go_enter func305,ntmps305;go_wp2;go_loopw [3,8] (fun S l wr=>∃ (q:Nat) (d:Option Addr) (c1:Nat),q<=k/\l=IZ (q:Int)/\S=D d q c1/\Hid (wr.ownsRow w.heap.size 89 2 (D d q c1) q (nE (iw (ps.take q))))/\BQ w wr) (fun _ l _=>k - (intOf l).toNat)
 case atStart=>exact⟨0,O,0,Ι _,rfl,rfl,hZ _ _ _ _,φ _ _⟩
 case round =>
  obtain⟨q,d,c1,V,rfl,rfl,n,a⟩:=hrel;by_cases W:q<k
  .have r:q<L ps:=by have:=m.o;omega
   obtain⟨Y,off,da,dc,rfl,-,u,v,x,-⟩:=y.o q r;have Q:(q:Int)<(k:Int):=ϊ;have X:=ζ a u;have l1:=ζ a v;have l2:=ζ a x;have A:Hid (nE (iw (ps.take (q+1)))=nE (iw (ps.take q))++[IZ ps[q].1,IZ ps[q].2]):=by
    show _=_;unfold iw nE;rw[kD r,ou,qS];simp only[iA,lf,lg,List.flatMap_nil,im]
   generalize(L (Α docs ps[q]))=ln at *;generalize ps[q].1=f at *;generalize ps[q].2=b at *;have G:=(a.alloc a.size (C #[IZ f,IZ b,D da ln dc] 92)).alloc (by have:=a.size;simp;omega) (C #[IZ f,IZ b] 89);have g:=Zh (Υ (Υ n.o ((φ wr.heap.size wr).alloc NZ (C #[IZ f,IZ b,D da ln dc] 92))) (RZ.alloc NZ (C #[IZ f,IZ b] 89)));have T:=a.size;clear u v x;go_wp2_with (at_builtin;refine gn rfl _ _ _ _ rfl w.heap.size 89 R _ 2 16 underlying392 I K M N rfl (D d q c1) q _ (by rfl) g.o _ 1 [IZ f,IZ b] (by rfl) (mZ underlying392 (å wr (C #[IZ f,IZ b,D da ln dc] 92)) #[IZ f,IZ b] 2 1 1 (wr.heap.size+1) ύ rfl ϗ) ώ ϊ ό ?_;intro Z aa h p _ _;have F:=G.grown p ό (fun P H=>(Ν g.o P H).1))
   obtain⟨B,E,rfl⟩:=Θ h;rw[<-A.o]at h;have z:=Zh h;clear h p;go_roundw;case rel=>exact⟨q+1,B,E,ϊ,ϕ,rfl,z.o,F⟩
   case measure=>simp[intOf];omega
  .obtain rfl:q=k:=ϊ
   have Q:¬(q:Int)<(q:Int):=ϊ;have j:=n.o;rw[gW (by have:=m.o;omega)]at j;have g:=Zh (Rd.of_own j);clear j;go_wp2;go_ret;exact⟨d,c1,rfl,g.o,a⟩
