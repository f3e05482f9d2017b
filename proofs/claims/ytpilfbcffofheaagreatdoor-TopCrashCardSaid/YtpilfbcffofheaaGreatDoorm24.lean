/- Part 24 of the proof. -/
import Derived.Test.YtpilfbcffofheaaGreatDoorm23
set_option linter.unusedVariables false
set_option linter.unusedSimpArgs false
set_option maxRecDepth 100000
set_option maxHeartbeats 16000000
namespace Go.Proofs.YtpilfbcffofheaaGreatDoor
open Go.Proofs.Tryz Go.RowKit Go.Sort
open Value renaming slice->D,agg->ā
open Option renaming none->O,some->J
open List renaming length->L
open Obj renaming cells->C
open World renaming alloc->å,setCell->ŝ
open Ending renaming returned->ŗ
theorem DW {docs:List (γ)} {w:β} {b off k c i a:Nat} {ps:List (Nat×Nat)} (u:L ps=k) (h:ϧ docs w (D (J ⟨b,off,O⟩) k c) ps) (x:i+a<=k) (B:k<=c) (g:0<k):ϧ docs w (D (J ⟨b,off+i*3,O⟩) a (c - i)) ((ps.drop i).take a):=by
 obtain⟨n,d,t⟩:=h;have e:L ((ps.drop i).take a)=a:=ό;have j:c<=maxLen:=by
  obtain⟨-,E,⟨z,m,f,g⟩|⟨A,G,m,f,g,F,j,-⟩⟩:=d
  .omega
  .simp only[Ξ]at f
   obtain⟨-,-,rfl⟩:=f;exact j
 rw[u]at d;refine⟨(n.drop (i*3)).take (a*3),by rw[e];exact ze d x (c - i) ϊ ϊ,fun q l=>?_⟩;rw[e]at l;obtain⟨o,p,y,r,s⟩:=t (i+q) ϊ;have v:((ps.drop i).take a)[q]'(by rw[e];exact l)=ps[i+q]' ϊ:=ύ;rw[v];refine⟨?_,?_,y,?_,s⟩
 .rw[hP,μ ϊ,jo,show i*3+q*3=(i+q)*3 from ϊ];exact o
 .rw[hP,μ ϊ,jo,show i*3+(q*3+1)=(i+q)*3+1 from ϊ];exact p
 .rw[hP,μ ϊ,jo,show i*3+(q*3+2)=(i+q)*3+2 from ϊ];exact r
theorem DX {docs:List (γ)} {ps:List (Nat×Nat)} {e:List ε} {w:β} (h:kv docs ps e (L ps) w) (l:L e=L ps*3):∀ u∈e,u.oneCell'=true:=by
 intro u g;obtain⟨a,hi,rfl⟩:=pM g;obtain⟨b,c,x,d,f⟩:=h (a / 3) ϊ ϊ;rcases(ϊ:a % 3=0\/a % 3=1\/a % 3=2)with hm|hm|hm
 .rw[show a / 3*3=a from ϊ,Ρ hi]at b
  injection b with b;rw[b];rfl
 .rw[show a / 3*3+1=a from ϊ,Ρ hi]at c
  injection c with c;rw[c];rfl
 .rw[show a / 3*3+2=a from ϊ,Ρ hi]at d
  injection d with d;rw[d];obtain⟨j,k,i,-⟩:=iF f;rw[i];rfl
theorem yL (ps:List (Nat×Nat)) (i a:Nat) (e:i+a<=L ps) (q:Nat):(hN ps i a)[q]?=if q<i then ps[q]? else if q=i then J ((ps.getD i (0,0)).1,(ps.getD (i+a - 1) (0,0)).2)else ps[i+a+(q - i - 1)]?:=by
 unfold hN;by_cases b:q<i
 .rw[iX ό,hP,μ b,μ b]
 .rw[gO ό,κ b,gN,me ϊ]
  by_cases c:q=i
  .subst c
   rw[kE,μ rfl];rfl
  .obtain⟨r,d⟩:∃ r,q - i=r+1:=⟨q - i - 1,ϊ⟩
   rw[κ c,d,nh,jo];rfl
theorem yM {ps:List (Nat×Nat)} {i a:Nat} {q:Nat} {x:Nat×Nat} (b:q<L (hN ps i a)) (h:(hN ps i a)[q]?=J x):(hN ps i a)[q]=x:=by
 rw[Ρ b]at h;exact kF h
theorem DU {docs:List (γ)} {ps:List (Nat×Nat)} {c:List ε} {w:β} {i a lo hi:Nat} {u:ε} (n:kv docs ps c (L ps) w) (v:L c=L ps*3) (k:i+a<=L ps) (p:lo=(ps.getD i (0,0)).1) (o:hi=(ps.getD (i+a - 1) (0,0)).2)
  (t:fY w u (L (Α docs (lo,hi))) (Α docs (lo,hi))):kv docs (hN ps i a) (c.take (i*3)++([IZ lo,IZ hi,u]++c.drop ((i+a)*3))) (L (hN ps i a)) w:=by
 subst p;subst o;intro q l _;have b:L (c.take (i*3))=i*3:=ό;have y:L (hN ps i a)=i+1+(L ps - (i+a)):=by simp only[hN,ω,Ϧ,gN,gb];omega
 by_cases j:q<i
 .have d:(hN ps i a)[q]=ps[q]' ϊ:=yM l (by rw[yL ps i a k,μ j,Ρ ϊ])
  rw[d];obtain⟨e,f,x,g,h⟩:=n q ϊ ϊ;refine⟨?_,?_,x,?_,h⟩
  .rw[iX ϊ,hP,μ ϊ];exact e
  .rw[iX ϊ,hP,μ ϊ];exact f
  .rw[iX ϊ,hP,μ ϊ];exact g
 .by_cases m:q=i
  .subst m
   have d:(hN ps q a)[q]=((ps.getD q (0,0)).1,(ps.getD (q+a - 1) (0,0)).2):=yM l (by rw[yL ps q a k,κ j,μ rfl]);rw[d];refine⟨?_,?_,u,?_,t⟩
   .rw[gO ϊ,b,kE];rfl
   .rw[gO ϊ,b,show q*3+1 - q*3=1 from ϊ];rfl
   .rw[gO ϊ,b,show q*3+2 - q*3=2 from ϊ];rfl
  .obtain⟨r,s⟩:∃ r,q=i+1+r:=⟨q - i - 1,ϊ⟩
   subst s;have d:(hN ps i a)[i+1+r]=ps[i+a+r]' ϊ:=yM l (by rw[yL ps i a k,κ j,κ m,show i+1+r - i - 1=r from ϊ,Ρ ϊ]);rw[d];obtain⟨e,f,x,g,h⟩:=n (i+a+r) ϊ ϊ;refine⟨?_,?_,x,?_,h⟩
   .rw[gO ϊ,b,show(i+1+r)*3 - i*3=3+r*3 from ϊ,gO ύ,jo]
    rw[show(i+a)*3+(3+r*3 - L [IZ ((ps.getD i (0,0)).1:Int),IZ ((ps.getD (i+a - 1) (0,0)).2:Int),u])=(i+a+r)*3 from by simp only[Ϧ,gF];omega];exact e
   .rw[gO ϊ,b,show(i+1+r)*3+1 - i*3=3+r*3+1 from ϊ,gO ό,jo]
    rw[show(i+a)*3+(3+r*3+1 - L [IZ ((ps.getD i (0,0)).1:Int),IZ ((ps.getD (i+a - 1) (0,0)).2:Int),u])=(i+a+r)*3+1 from by simp only[Ϧ,gF];omega];exact f
   .rw[gO ϊ,b,show(i+1+r)*3+2 - i*3=3+r*3+2 from ϊ,gO ό,jo]
    rw[show(i+a)*3+(3+r*3+2 - L [IZ ((ps.getD i (0,0)).1:Int),IZ ((ps.getD (i+a - 1) (0,0)).2:Int),u])=(i+a+r)*3+2 from by simp only[Ϧ,gF];omega];exact g
theorem KS (i c:Nat) (n k:Nat) (da:Option Addr) (dc:Nat) (sa:Option Addr) (sc:Nat) (docs:List (γ)) (ps:List (Nat×Nat)) (m:Nat) (w:β) (aj:L docs=n) (ai:L ps=k) (aE:Ϩ w) (al:Δ w (D da n dc) docs) (aw:ϧ docs w (D sa k sc) ps) (V:ϵ docs ps m) (cm:n<=40) (hi:i<=4611686018427387904) (ck:c<=4611686018427387904) :
  Calls prog 256 #[ā #[D da n dc,D sa k sc],IZ i,IZ c] w (mm w (ge (docs,ps) (.merge i c))):=by
 obtain⟨cD,co,cp,cq,cr⟩:=ϯ vq;have an:=Zh (fun ah (ac:BQ w ah)=>rE da n dc sa k sc docs ps m ah (aE.below ac) (al.below ac) (aw.below ac) V);obtain⟨o1,o2,o3⟩:=rp V;have bP:=V.np;have bX:=V.le;rw[aj]at bX;rw[ai]at bP;have bq:=Zh (fun ah (ac:BQ w ah)=>vK n k da dc sa sc docs ps ah aj ai (al.below ac) (aw.below ac) ϊ ϊ o1 o2);have hF:ge (docs,ps) (.merge i c)=if c<2\/k<c\/k - c<i then O else J (docs,hN ps i c):=by
  simp only[ge,aj,ai]
 rw[hF];have ay:=Zh aj;have E:=Zh ai;have aK:=Zh aw;have bD:=Zh aE;have bv:=Zh (fun(d:γ) (al:d∈docs)=>show L d<=2500 by have:=V.ld d al;omega);have bs:=Zh V.ch;have N:BQ w (å (å w (C #[D da n dc,D sa k sc] 44)) (C #[D O 0 0,D O 0 0] 44)):=ġ.alloc ύ _;have cA:IntKind.i64.wrap ((k:Int) - (c:Int))=(k:Int) - (c:Int):=Ϗ;have cz:¬(i:Int)<0:=ϊ;clear al aw V o1 o2 o3 hF aj ai aE;by_cases bR:c<2
 .have bS:(c:Int)<2:=ϊ
  rw[μ (.inl bR)];go_enter func256,ntmps256;go_wp2_with fail
  refine(an.o _ N).mono ?_;rintro e B ⟨rfl,t⟩;obtain⟨r,y,aG,aH,x⟩:=fU t;obtain⟨⟨Q,R⟩,⟨M,f1⟩,-⟩:=ι r;have P:=Ϲ r (D da n dc) (D sa k sc);have z:=(jf B w.heap.size (w.heap.size+1) ϊ (D da n dc) (D sa k sc)).trans y;have G:=fS x NZ (D da n dc) (D sa k sc);clear N t r y x;go_upto_region 2 with (fail)
  generalize ŝ (ŝ B ⟨w.heap.size,0,O⟩ (D da n dc)) ⟨w.heap.size,1,O⟩ (D sa k sc)=K at *;obtain⟨⟨Q,R⟩,⟨M,f1⟩,ax⟩:=ι P;obtain⟨⟨r0,r1⟩,⟨aq,ar⟩,aI⟩:=ι z;have ag:=Zh (Ϲ z (D da n dc) (D sa k sc));have af:=Zh (fS G (go _ 1) (D da n dc) (D sa k sc));go_wp2;exact ϟ (v:=.tuple #[ā #[D da n dc,D sa k sc],IZ 1]) (gf (p:=6) (u:=7) (ty:=44) rfl _ _ (w.heap.size+1) 44 _ (0,0) _ rfl ag.o lh rfl ϋ) rfl ⟨da,n,dc,sa,k,sc,1,ϊ,ϊ,rfl,af.o⟩
 .have bS:¬(c:Int)<2:=ϊ
  by_cases bT:k<c
  .have bU:(k:Int)<(c:Int):=ϊ
   rw[μ (.inr (.inl bT))];go_enter func256,ntmps256;go_wp2_with fail
   refine(an.o _ N).mono ?_;rintro e B ⟨rfl,t⟩;obtain⟨r,y,aG,aH,x⟩:=fU t;obtain⟨⟨Q,R⟩,⟨M,f1⟩,-⟩:=ι r;have P:=Ϲ r (D da n dc) (D sa k sc);have z:=(jf B w.heap.size (w.heap.size+1) ϊ (D da n dc) (D sa k sc)).trans y;have G:=fS x NZ (D da n dc) (D sa k sc);clear N t r y x;go_upto_region 2 with (fail)
   generalize ŝ (ŝ B ⟨w.heap.size,0,O⟩ (D da n dc)) ⟨w.heap.size,1,O⟩ (D sa k sc)=K at *;obtain⟨⟨Q,R⟩,⟨M,f1⟩,ax⟩:=ι P;obtain⟨⟨r0,r1⟩,⟨aq,ar⟩,aI⟩:=ι z;have ag:=Zh (Ϲ z (D da n dc) (D sa k sc));have af:=Zh (fS G (go _ 1) (D da n dc) (D sa k sc));go_wp2;exact ϟ (v:=.tuple #[ā #[D da n dc,D sa k sc],IZ 1]) (gf (p:=6) (u:=7) (ty:=44) rfl _ _ (w.heap.size+1) 44 _ (0,0) _ rfl ag.o lh rfl ϋ) rfl ⟨da,n,dc,sa,k,sc,1,ϊ,ϊ,rfl,af.o⟩
  .have bU:¬(k:Int)<(c:Int):=ϊ
   by_cases bV:k - c<i
   .have bW:(k:Int) - (c:Int)<(i:Int):=ϊ
    rw[μ (.inr (.inr bV))];go_enter func256,ntmps256;go_wp2_with fail
    refine(an.o _ N).mono ?_;rintro e B ⟨rfl,t⟩;obtain⟨r,y,aG,aH,x⟩:=fU t;obtain⟨⟨Q,R⟩,⟨M,f1⟩,-⟩:=ι r;have P:=Ϲ r (D da n dc) (D sa k sc);have z:=(jf B w.heap.size (w.heap.size+1) ϊ (D da n dc) (D sa k sc)).trans y;have G:=fS x NZ (D da n dc) (D sa k sc);clear N t r y x;go_upto_region 2 with (fail)
    generalize ŝ (ŝ B ⟨w.heap.size,0,O⟩ (D da n dc)) ⟨w.heap.size,1,O⟩ (D sa k sc)=K at *;obtain⟨⟨Q,R⟩,⟨M,f1⟩,ax⟩:=ι P;obtain⟨⟨r0,r1⟩,⟨aq,ar⟩,aI⟩:=ι z;have ag:=Zh (Ϲ z (D da n dc) (D sa k sc));have af:=Zh (fS G (go _ 1) (D da n dc) (D sa k sc));go_wp2;exact ϟ (v:=.tuple #[ā #[D da n dc,D sa k sc],IZ 1]) (gf (p:=6) (u:=7) (ty:=44) rfl _ _ (w.heap.size+1) 44 _ (0,0) _ rfl ag.o lh rfl ϋ) rfl ⟨da,n,dc,sa,k,sc,1,ϊ,ϊ,rfl,af.o⟩
   .have bW:¬(k:Int) - (c:Int)<(i:Int):=ϊ
    rw[κ ϊ];obtain⟨W,X,rfl,bQ⟩:∃ W X,sa=J ⟨W,X,O⟩/\k<=sc:=by
     obtain⟨ap,⟨-,-,⟨b8,bG,aF,bH⟩|⟨b9,cC,bG,aF,bH,cn,-⟩⟩,-⟩:=aK.o
     .have:=E.o;omega
     .simp only[Ξ]at aF
      obtain⟨rfl,-,rfl⟩:=aF;exact⟨_,_,rfl,by have:=E.o;omega⟩
    have cc:¬sc=i:=ϊ;have ci:i+c - i=c:=ϊ;have cv:((i:Int)+(c:Int)).toNat=i+c:=ϊ;have cw:(0:Int)<=(i:Int)+(c:Int):=ϊ;have cx:(i:Int)+(c:Int)<=(sc:Int):=ϊ;have cy:(i:Int)<=(i:Int)+(c:Int):=ϊ;have cB:IntKind.i64.wrap ((i:Int)+(c:Int))=(i:Int)+(c:Int):=Ϗ;obtain⟨A,s,c1,c2,aM,a4,a2,ch⟩:=xO bs.o (i:=i) (m:=c) (by rw[E.o];omega) ϊ;go_enter func256,ntmps256;go_wp2_with fail
    refine(an.o _ N).mono ?_;rintro e B ⟨rfl,t⟩;obtain⟨r,y,aG,aH,x⟩:=fU t;obtain⟨⟨Q,R⟩,⟨M,f1⟩,-⟩:=ι r;have P:=Ϲ r (D da n dc) (D (J ⟨W,X,O⟩) k sc);have z:=(jf B w.heap.size (w.heap.size+1) ϊ (D da n dc) (D (J ⟨W,X,O⟩) k sc)).trans y;have G:=fS x NZ (D da n dc) (D (J ⟨W,X,O⟩) k sc);clear N t r y x;go_upto_region 2 with (fail)
    generalize ŝ (ŝ B ⟨w.heap.size,0,O⟩ (D da n dc)) ⟨w.heap.size,1,O⟩ (D (J ⟨W,X,O⟩) k sc)=K at *;obtain⟨⟨Q,R⟩,⟨M,f1⟩,ax⟩:=ι P;obtain⟨⟨r0,r1⟩,⟨aq,ar⟩,aI⟩:=ι z;go_wp2_with fail
    have cl:L ((ps.drop i).take c)=c:=by have:=E.o;simp;omega
    have bO:s<=40:=by have:=oH aM;omega
    refine(As docs (D (J ⟨W,X+i*3,O⟩) c (sc - i)) ((ps.drop i).take c) A s K (bD.o.below G) (DW E.o (aK.o.below G) ϊ bQ ϊ) c2 ϊ ϊ bO bv.o).mono ?_;rintro e S ⟨cE,rfl,az,au⟩;obtain⟨Y,Z,rfl,-,-⟩:=iF (az S (fun _ _ _=>rfl));have bE:Hid (Hi K.heap.size S (fun I=>fY I (D Y (L (Α docs (A,s))) Z) (L (Α docs (A,s))) (Α docs (A,s)))):=az;generalize aV:L (Α docs (A,s))=aa at *;have bF:=Zh aV;clear az aV;have bw:=Zh a4;have bu:=Zh a2;have aY:=G.trans (au.mono G.size);have a5:=θ P au;have a7:=θ z au;have ak:BQ S (å S (C #[IZ A,IZ s,D Y aa Z] 92)):=ġ;have b2:=χ S (C #[IZ A,IZ s,D Y aa Z] 92);have aB:=aY.trans (ak.mono aY.size);have a6:=θ a5 ak;have a8:=θ a7 ak;have cs:=au.size;clear a4 a2 c1 c2 aM;go_upto_region 5 with (fail)
    have bi:(å S (C #[IZ A,IZ s,D Y aa Z] 92)).heap.size=S.heap.size+1:=ύ;have bB:=Zh bi;clear bi;generalize(å S (C #[IZ A,IZ s,D Y aa Z] 92))=ab at *;obtain⟨⟨Q,R⟩,⟨M,f1⟩,ax⟩:=ι a6;have br:=Zh (bq.o ab aB);go_wp2_with fail
    refine br.o.mono ?_;rintro e f ⟨o,T,bl,ap,lw,rfl,F,ad⟩;have aZ:=aB.trans (ad.mono aB.size);have a9:=θ a8 ad;have bh:=θ b2 ad;have ct:=ad.size;have U:BQ f (å f (C #[D (J ⟨o,0,O⟩) n n,D (J ⟨T,0,O⟩) k k] 44)):=ġ;have be:=χ f (C #[D (J ⟨o,0,O⟩) n n,D (J ⟨T,0,O⟩) k k] 44);have cb:=bB.o;have cj:=F.bl;have aN:ς (fun b=>(ab.heap.size<=b/\b<lw/\b<f.heap.size)\/b=f.heap.size\/b<K.heap.size) f (fun I=>lj docs bl (L docs) I/\kv docs ps ap (L ps) I):=F.el.off (fun b bI bJ=>ϊ);have aQ:ς (fun b=>(ab.heap.size<=b/\b<lw/\b<f.heap.size)\/b=f.heap.size\/b<K.heap.size) f (fun I=>fY I (D Y aa Z) aa (Α docs (A,s))):=((bE.o.off (H:=fun b=>(ab.heap.size<=b/\b<lw/\b<f.heap.size)\/b=f.heap.size\/b<K.heap.size) (fun b bI bJ=>ϊ)).below ak).below ad;have cd:=F.l1 o rfl;have cf:=F.l2 T rfl;have ce:=(Ν F.rD o rfl);have cg:=(Ν F.rS T rfl);have bb:=F.rD;have av:=F.rS;rw[E.o]at av;have bL:=DX F.el.now.2 (by have:=av.1;rw[E.o];omega);go_upto_region 8 with (fail)
    have aO:=(aN.and aQ).below U;have b1:=Υ bb U;have bd:=Υ av U;have bZ:=θ a9 U;have b3:=θ bh U;have a0:=aZ.trans (U.mono aZ.size);have bj:(å f (C #[D (J ⟨o,0,O⟩) n n,D (J ⟨T,0,O⟩) k k] 44)).heap.size=f.heap.size+1:=ύ;have bC:=Zh bj;clear aN aQ bb av a7 a8 a9 U a5 a6 bj F bh ak ad;generalize(å f (C #[D (J ⟨o,0,O⟩) n n,D (J ⟨T,0,O⟩) k k] 44))=ao at *;obtain⟨⟨c0,c1⟩,⟨bm,bn⟩,bo⟩:=ι be;obtain⟨⟨cF,cG,cH⟩,-,cI⟩:=Β b3;have bA:=Zh (Dn T 0 k k i c A s Y aa Z ap ao (Rd.of_own bd) bL ϊ ϊ ϊ);have ca:=bC.o;go_wp2_with fail
    refine bA.o.mono ?_;rintro e am ⟨j,l,rfl,aC,ae⟩;generalize aU:i+1+(k - (i+c))=q at *;have bx:=Zh aU;clear aU;have bg:=θ be ae;have ba:=θ bZ ae;have a1:=a0.trans (ae.mono a0.size);have aP:=aO.below ae;have bc:=Υ b1 ae;have bk:∀ g,(Value.slice j q l).ownBlock=J g->ao.heap.size<=g:=fun g hg=>(Ν aC g hg).1;obtain⟨⟨c0,c1⟩,⟨bm,bn⟩,bo⟩:=ι bg;have cu:=ae.size;go_upto_region 9 with (fail)
    have bf:=π am f.heap.size 1 _ _ (D j q l) bg;have aD:=(ψ am ⟨f.heap.size,1,O⟩ (w.heap.size+1) (D j q l) ϑ).trans ba;have bM:=a1.setCell (p:=⟨f.heap.size,1,O⟩) ϑ (D j q l);have bK:=aP.set (p:=⟨f.heap.size,1,O⟩) (.inr (.inl rfl)) (D j q l);have bY:=jT aC (w':=ŝ am ⟨f.heap.size,1,O⟩ (D j q l)) (fun g hg=>ψ _ _ _ _ (by have:=bk g hg;simp only;omega));have b0:=jT bc (w':=ŝ am ⟨f.heap.size,1,O⟩ (D j q l)) (fun g hg=>ψ _ _ _ _ (by simp only[Value.ownBlock,Ο]at hg;simp only;omega));clear aC bc aP aO ba a1 bk;generalize ŝ am ⟨f.heap.size,1,O⟩ (D j q l)=aL at *;obtain⟨⟨c0,c1⟩,⟨bm,bn⟩,bo⟩:=ι (show aL.heap[f.heap.size]?=J (C #[D (J ⟨o,0,O⟩) n n,D j q l] 44 (0,0))from bf);obtain⟨⟨r0,r1⟩,⟨aq,ar⟩,cJ⟩:=ι aD;have bz:=Zh (Ϲ aD (D (J ⟨o,0,O⟩) n n) (D j q l));have bp:=Zh (fS bM (go _ 1) (D (J ⟨o,0,O⟩) n n) (D j q l));have aW:w.heap.size+1<ab.heap.size:=ϊ;have aR:=ii (il (il b0 (a:=⟨w.heap.size+1,0,O⟩) aW (D (J ⟨o,0,O⟩) n n)) (a:=⟨w.heap.size+1,1,O⟩) aW (D j q l)) (ϊ:w.heap.size<=ab.heap.size);have aX:w.heap.size+1<ao.heap.size:=ϊ;have aT:=ii (il (il bY (a:=⟨w.heap.size+1,0,O⟩) aX (D (J ⟨o,0,O⟩) n n)) (a:=⟨w.heap.size+1,1,O⟩) aX (D j q l)) (ϊ:w.heap.size<=ao.heap.size);have aS:=((bK.set (p:=⟨w.heap.size+1,0,O⟩) (.inr (.inr ϑ)) (D (J ⟨o,0,O⟩) n n)).set (p:=⟨w.heap.size+1,1,O⟩) (.inr (.inr ϑ)) (D j q l)).toHi (base:=w.heap.size) (fun b h=>ϊ);have aA:L (hN ps i c)=q:=by
     have:=E.o;have:=bx.o;simp only[hN,ω,Ϧ,gN,gb];omega
    have bt:Hid (Hi w.heap.size (ŝ (ŝ aL ⟨w.heap.size+1,0,O⟩ (D (J ⟨o,0,O⟩) n n)) ⟨w.heap.size+1,1,O⟩ (D j q l)) (fun I=>Δ I (D (J ⟨o,0,O⟩) n n) docs/\ϧ docs I (D j q l) (hN ps i c))):=by
     have bN:L ap=L ps*3:=by have:=bd.1;rw[E.o];omega
     refine(aS.and ((Hi.own aR).and (Hi.own aT))).imp fun I ⟨⟨⟨p1,p2⟩,b5⟩,b6,b7⟩=>⟨⟨bl,by simpa[ay.o] using b6,fun i hi=>p1 i hi hi⟩,_,by rw[aA];exact b7,fun b4 a3=>?_⟩;exact DU p2 bN (by rw[E.o];omega) bw.o bu.o (by rw[bF.o];exact b5) b4 a3 a3
    have aJ:=Zh aA;clear aR aT aS aD bf aA;go_wp2;exact ϟ (v:=.tuple #[ā #[D (J ⟨o,0,O⟩) n n,D j q l],IZ 0]) (gf (p:=6) (u:=7) (ty:=44) rfl _ _ (w.heap.size+1) 44 _ (0,0) _ rfl bz.o lh rfl ϋ) rfl ⟨J ⟨o,0,O⟩,n,j,l,by simp only[ay.o,aJ.o],by simp only[ay.o,aJ.o];exact bt.o,bp.o⟩
theorem ME {ps:List (Nat×Nat)} (h:(jS (iw ps)).2=true):jU (L ps) ps=jU (L (hN ps (jS (iw ps)).1.toNat 2)) (hN ps (jS (iw ps)).1.toNat 2):=by
 have d:=yN h;obtain⟨a,b⟩:∃ a,L ps=a+1:=⟨L ps - 1,ϊ⟩;have c:L (hN ps (jS (iw ps)).1.toNat 2)=a:=by
  simp only[hN,ω,Ϧ,gN,gb];omega
 rw[c,b,jU,μ h]
theorem MD {ps:List (Nat×Nat)} (h:(jS (iw ps)).2=false):jU (L ps) ps=ps:=by
 cases b:L ps with
 |zero=>rfl
 |succ a=>rw[jU,κ (by rw[h];simp)]
def tv (w:β) (T:Nat):Nat:=match w.cell? ⟨T,1,O⟩with|some (D _ n _)=>n|_=>0
structure xx (H:Nat->Prop) (docs:List (γ)) (T:Nat) (vD:ε) (wr:β) (a:Option Addr) (c:Nat) (pc:List (Nat×Nat)) (cells:List ε):Prop where
 row:wr.heap[T]?=J (C #[vD,D a (L pc) c] 44 (0,0))
 el:ς H wr (fun w2=>Δ w2 vD docs/\Rd w2 (D a (L pc) c) (L pc) 3 cells/\kv docs pc cells (L pc) w2)
theorem KT (n k:Nat) (da:Option Addr) (dc:Nat) (sa:Option Addr) (sc:Nat) (docs:List (γ)) (ps:List (Nat×Nat)) (m:Nat) (w:β) (af:L docs=n) (ad:L ps=k) (aL:Ϩ w) (V:Δ w (D da n dc) docs) (I:ϧ docs w (D sa k sc) ps) (B:ϵ docs ps m) (cF:n<=40) :
  Calls prog 258 #[ā #[D da n dc,D sa k sc]] w fun e w'=>∃ aW c1 aX c2,e=ŗ (ā #[D aW n c1,D aX (L (jU k ps)) c2])/\Hi w.heap.size w' (fun l=>Δ l (D aW n c1) docs/\ϧ docs l (D aX (L (jU k ps)) c2) (jU k ps))/\BQ w w':=by
 have bX:=Zh (fun Q (F:BQ w Q)=>rE da n dc sa k sc docs ps m Q (aL.below F) (V.below F) (I.below F) B);obtain⟨o1,o2,o3⟩:=rp B;have cg:=B.np;have ci:=B.le;rw[af]at ci;rw[ad]at cg;have bu:=Zh (fun Q (F:BQ w Q)=>vK n k da dc sa sc docs ps Q af ad (V.below F) (I.below F) ϊ ϊ o1 o2);have cw:=Zh af;have ap:=Zh ad;have bU:=Zh aL;have bD:=Zh (fun(d:γ) (V:d∈docs)=>show L d<=2500 by have:=B.ld d V;omega);have bv:=Zh B.ch;have a4:BQ w (å (å w (C #[D da n dc,D sa k sc] 44)) (C #[D O 0 0,D O 0 0] 44)):=ġ.alloc ύ _;clear V I B o1 o2 o3 af ad aL;go_enter func258,ntmps258;go_wp2_with fail
 refine(bX.o _ a4).mono ?_;rintro e bq ⟨rfl,a5⟩;obtain⟨aI,Y,cV,cW,a8⟩:=fU a5;obtain⟨⟨cn,co⟩,⟨b6,f1⟩,-⟩:=ι aI;have cl:=Ϲ aI (D da n dc) (D sa k sc);have bk:=(jf bq w.heap.size (w.heap.size+1) ϊ (D da n dc) (D sa k sc)).trans Y;have aC:=fS a8 NZ (D da n dc) (D sa k sc);clear a4 a5 aI Y a8;go_upto_region 2 with (fail)
 generalize ŝ (ŝ bq ⟨w.heap.size,0,O⟩ (D da n dc)) ⟨w.heap.size,1,O⟩ (D sa k sc)=aV at *;obtain⟨⟨cn,co⟩,⟨b6,f1⟩,cZ⟩:=ι cl;go_wp2_with fail
 refine(bu.o aV aC).mono ?_;rintro e o ⟨j,A,cu,ab,cP,rfl,R,ag⟩;have aD:=aC.trans (ag.mono aC.size);have bl:=θ bk ag;have cI:=ag.size;have cH:w.heap.size+1<aV.heap.size:=ο bk;have ai:BQ o (å o (C #[D (J ⟨j,0,O⟩) n n,D (J ⟨A,0,O⟩) k k] 44)):=ġ;have bo:=χ o (C #[D (J ⟨j,0,O⟩) n n,D (J ⟨A,0,O⟩) k k] 44);have a2:ς (fun b=>b=o.heap.size\/b<w.heap.size+2) o (fun l=>Δ l (D (J ⟨j,0,O⟩) n n) docs/\Rd l (D (J ⟨A,0,O⟩) k k) (L ps) 3 ab/\kv docs ps ab (L ps) l):=by
  have r:=(R.el.mono R.bl).and ((Hi.own R.rD).and (Hi.own R.rS));refine(r.off (H:=fun b=>b=o.heap.size\/b<w.heap.size+2) (fun b r aZ=>ϊ)).imp fun l ⟨⟨ac,ax⟩,ay,b7⟩=>⟨⟨cu,ay,fun f hi=>ac f hi hi⟩,b7,ax⟩
 have a9:=aD.trans (ai.mono aD.size);have bm:=θ bl ai;have aB:=a2.below ai;have bN:Hid (xx (fun b=>b=o.heap.size\/b<w.heap.size+2) docs o.heap.size (D (J ⟨j,0,O⟩) n n) (å o (C #[D (J ⟨j,0,O⟩) n n,D (J ⟨A,0,O⟩) k k] 44)) (J ⟨A,0,O⟩) k ps ab):=by
  have be:=ap.o;exact⟨by rw[be];exact bo,by rw[be]at aB ⊢;exact aB⟩
 clear a2 aB R bo;go_upto_region 3 with (fail)
 have bp:(å o (C #[D (J ⟨j,0,O⟩) n n,D (J ⟨A,0,O⟩) k k] 44)).heap.size=o.heap.size+1:=ύ;have bT:=Zh bp;have cb:w.heap.size+2<=o.heap.size:=ϊ;clear bp;generalize(å o (C #[D (J ⟨j,0,O⟩) n n,D (J ⟨A,0,O⟩) k k] 44))=cx at *;have bK:=Zh bm;have bs:=Zh a9;generalize b8:o.heap.size=g at *;clear bm a9 aD bl ai ag b8;go_loopw [5] (fun cQ wr=>∃ (pc:List (Nat×Nat)) (z:List ε) (a:Option Addr) (c:Nat),Hid (jU (L pc) pc=jU k ps)/\Hid (hE 0 pc m)/\L pc<=k/\Hid (xx (fun b=>b=g\/b<w.heap.size+2) docs g (D (J ⟨j,0,O⟩) n n) wr a c pc z)/\Hid (wr.heap[w.heap.size+1]?=J (C #[D O 0 0,D O 0 0] 44 (0,0)))/\BQ w wr/\g<wr.heap.size) (fun _ wr=>tv wr g)
 case atStart=>exact⟨ps,ab,_,_,by show _=_;rw[ap.o],bv.o,by rw[ap.o];exact NZ,bN.o,bK.o,bs.o,by have:=bT.o;omega⟩
 case round =>
  obtain⟨pc,z,a,c,aT,an,cG,P,bY,a6,cC⟩:=hrel;obtain⟨⟨aM,aN⟩,⟨aP,aQ⟩,-⟩:=ι P.o.row;obtain⟨ce,Y,bb⟩:=P.o.el.now;have aK:ϧ docs wr (D a (L pc) c) pc:=⟨z,Y,fun q X=>bb q X X⟩;have bP:=Zh (JX (L pc) (D a (L pc) c) docs pc wr rfl aK ϊ);have bQ:=Zh aK;have bJ:=Zh (show L pc=L pc from rfl);clear ce Y bb aK bJ;go_wp2_with fail
  refine bP.o.mono ?_;rintro e cv ⟨b2,b4,rfl,bn,ah⟩;have aH:=a6.trans (ah.mono a6.size);have bf:∀ s∈iw pc,s.2<=9223372036854775807:=by
   intro s I;simp only[iw,hI]at I;obtain⟨cq,cj,rfl⟩:=I;have:=rc an.o cq cj;simp only;omega
  have bI:=Zh (Kj (D b2 (L pc) b4) (iw pc) cv (by rw[zA];exact bn) bf);clear bf bn;go_wp2_with fail
  refine bI.o.mono ?_;rintro e aO ⟨rfl,aE⟩;have U:=aH.trans (aE.mono aH.size);have S:=ah.trans (aE.mono ah.size);have aU:=Zh (θ P.o.row S);have aR:=Zh (P.o.el.below S);have au:=Zh (θ bY.o S);have aq:=Zh (bQ.o.below S);obtain⟨⟨aM,aN⟩,⟨aP,aQ⟩,cA⟩:=ι aU.o;clear ah aE S aH;cases W:(jS (iw pc)).2 with
  |false =>
   have bA:=Zh (MD W);have aJ:=au.o;obtain⟨⟨r0,r1⟩,⟨cy,ac⟩,cY⟩:=ι aJ;have bL:=Zh (Ϲ aJ (D (J ⟨j,0,O⟩) n n) (D a (L pc) c));have bt:=Zh (fS U (go _ 1) (D (J ⟨j,0,O⟩) n n) (D a (L pc) c));have bz:Hid (Hi w.heap.size (ŝ (ŝ aO ⟨w.heap.size+1,0,O⟩ (D (J ⟨j,0,O⟩) n n)) ⟨w.heap.size+1,1,O⟩ (D a (L pc) c)) (fun l=>Δ l (D (J ⟨j,0,O⟩) n n) docs/\ϧ docs l (D a (L pc) c) pc)):=by
    refine(((aR.o.set (p:=⟨w.heap.size+1,0,O⟩) (.inr ϑ) (D (J ⟨j,0,O⟩) n n)).set (p:=⟨w.heap.size+1,1,O⟩) (.inr ϑ) (D a (L pc) c)).toHi (base:=w.heap.size) (fun b h=>ϊ)).imp fun l ⟨ac,ax,ay⟩=>⟨ac,z,ax,fun q X=>ay q X X⟩
   have aS:Hid (jU k ps=pc):=by show _=_;rw[<-aT.o,bA.o]
   clear aJ W;go_wp2;exact ϟ (v:=ā #[D (J ⟨j,0,O⟩) n n,D a (L pc) c]) (jX (p:=2) (ty:=44) rfl _ _ (w.heap.size+1) 44 _ (0,0) _ rfl bL.o lh rfl ϋ) rfl ⟨J ⟨j,0,O⟩,n,a,c,by rw[aS.o],by rw[aS.o];exact bz.o,bt.o⟩
  |true =>
   have bi:=yN W;obtain⟨f,hi⟩:∃ f:Nat,(jS (iw pc)).1=(f:Int):=⟨(jS (iw pc)).1.toNat,ϊ⟩;have bR:=Zh (ME W);rw[hi]at bi;simp only[ut]at bi;have bC:=Zh hi;rw[hi];obtain⟨al,am,rfl,ch⟩:∃ al am,a=J ⟨al,am,O⟩/\L pc<=c:=by
    obtain⟨b5,⟨-,-,⟨b1,aw,E,az⟩|⟨b3,cp,aw,E,az,bh,-⟩⟩,-⟩:=aq.o
    .omega
    .simp only[Ξ]at E
     obtain⟨rfl,-,rfl⟩:=E;exact⟨_,_,rfl,bh⟩
   have ba:c<=9223372036854775807:=by
    obtain⟨b5,⟨-,-,⟨b1,aw,E,az⟩|⟨b3,cp,aw,E,az,bh,ba,-⟩⟩,-⟩:=aq.o
    .omega
    .simp only[Ξ]at E
     obtain⟨-,-,rfl⟩:=E;unfold maxLen at ba;omega
   have cD:¬c=f:=ϊ;have cO:IntKind.i64.wrap ((f:Int)+2)=(f:Int)+2:=Ϗ;have cK:((f:Int)+2).toNat=f+2:=ϊ;have cL:(0:Int)<=(f:Int)+2:=ϊ;have cM:(f:Int)+2<=(c:Int):=ϊ;have cN:(f:Int)<=(f:Int)+2:=ϊ;obtain⟨u,t,c1,c2,aY,bg,bd,cE⟩:=xO an.o (i:=f) (m:=2) ϊ ϊ;have cf:t<=40:=by have:=oH aY;omega
   have br:=Zh (As docs (D (J ⟨al,am+f*3,O⟩) 2 (c - f)) ((pc.drop f).take 2) u t aO (bU.o.below U) (DW rfl aq.o ϊ ch ϊ) c2 ό ό cf bD.o);have bE:=Zh bg;have bB:=Zh bd;clear bg bd c1 c2 aY hi W;go_wp2_with fail
   refine br.o.mono ?_;rintro e N ⟨cR,rfl,aA,aF⟩;obtain⟨K,M,rfl,-,-⟩:=iF (aA N (fun _ _ _=>rfl));have bV:Hid (Hi aO.heap.size N (fun l=>fY l (D K (L (Α docs (u,t))) M) (L (Α docs (u,t))) (Α docs (u,t)))):=aA;generalize a3:L (Α docs (u,t))=Z at *;have bW:=Zh a3;clear aA a3;have aG:BQ N (å N (C #[IZ u,IZ t,D K Z M] 92)):=ġ;have cm:=χ N (C #[IZ u,IZ t,D K Z M] 92);have G:=aF.trans (aG.mono aF.size);have ar:=Zh (θ aU.o G);have av:=Zh (θ au.o G);have a1:=(aR.o.below G).and ((bV.o.off (H:=fun b=>b=g\/b<w.heap.size+2) (fun b r aZ=>by have:=U.size;have:=ο au.o;omega)).below aG);have ao:=Zh a1;have a7:=U.trans (G.mono U.size);have cJ:=G.size;clear a1 G aF aG;go_upto_region 7 with (fail)
   generalize(å N (C #[IZ u,IZ t,D K Z M] 92))=b0 at *;obtain⟨⟨aM,aN⟩,⟨aP,aQ⟩,cB⟩:=ι ar.o;obtain⟨⟨cS,cT,cU⟩,-,cX⟩:=Β cm;have ak:=ao.o.now.1.2.1;have bc:=ao.o.now.1.2.2;have bM:=Zh (Dn al am c (L pc) f 2 u t K Z M z b0 ak (DX bc ak.1) ϊ ϊ ϊ);have bw:=Zh ak.1;clear ak bc;go_wp2_with fail
   refine bM.o.mono ?_;rintro e aa ⟨x,y,rfl,bj,T⟩;have ae:L (hN pc f 2)=f+1+(L pc - (f+2)):=by
    simp only[hN,ω,Ϧ,gN,gb];omega
   generalize cz:f+1+(L pc - (f+2))=q at *;have aj:=θ ar.o T;obtain⟨⟨aM,aN⟩,⟨aP,aQ⟩,b9⟩:=ι aj;have a0:=(ao.o.below T).and ((Hi.own bj).off (H:=fun b=>b=g\/b<w.heap.size+2) (fun b r aZ=>by have:=ο av.o;omega));have cc:w.heap.size+1≠g:=by
    intro e;have r:=av.o;rw[e,ar.o]at r;simp at r
   have bO:Hid (xx (fun b=>b=g\/b<w.heap.size+2) docs g (D (J ⟨j,0,O⟩) n n) (ŝ aa ⟨g,1,O⟩ (D x q y)) x y (hN pc f 2) (z.take (f*3)++([IZ u,IZ t,D K Z M]++z.drop ((f+2)*3)))):=by
    refine⟨?_,?_⟩
    .rw[ae];exact π _ _ 1 _ _ _ aj
    .refine(a0.set (p:=⟨g,1,O⟩) (.inl rfl) (D x q y)).imp fun l ⟨⟨⟨p1,p2,cr⟩,cs⟩,ct⟩=>⟨p1,by rw[ae];exact ct,?_⟩
     exact DU cr bw.o ϊ bE.o bB.o (by rw[bW.o];exact cs)
   have bZ:=Zh ((ψ aa ⟨g,1,O⟩ (w.heap.size+1) (D x q y) cc).trans (θ av.o T));have cd:=(a7.trans (T.mono a7.size)).setCell (p:=⟨g,1,O⟩) (show w.heap.size<=g by have:=cb;omega) (D x q y);have bS:Hid (jU (L (hN pc f 2)) (hN pc f 2)=jU k ps):=by
    show _=_;have r:=bR.o;rw[bC.o]at r;simp only[ut]at r;rw[<-r];exact aT.o
   have bx:=Zh (xN an.o (i:=f) (m:=2) ϊ ϊ);have ca:g<(ŝ aa ⟨g,1,O⟩ (D x q y)).heap.size:=by simp only[nf];exact b9
   have bG:Hid (tv (ŝ aa ⟨g,1,O⟩ (D x q y)) g=q):=by
    show _=_;unfold tv;rw[ν _ _ _ _ _ _ (π aa g 1 _ _ (D x q y) aj)];rfl
   have bF:Hid (tv wr g=L pc):=by
    show _=_;unfold tv;rw[ν _ _ _ _ _ _ P.o.row];rfl
   have bH:=Zh ae;have ck:q<L pc:=ϊ;clear a0 aj bj T ae;go_wp2_with fail
   go_roundw;case rel=>exact⟨hN pc f 2,_,x,y,bS.o,bx.o,by rw[bH.o];omega,bO.o,bZ.o,cd,ca⟩
   case measure=>rw[bG.o,bF.o];exact ck
def nm (w:β) (kd ei em:Int) (e:Option Addr) (c f:Nat):Ev->Prop
 |.doc d=>kd=0/\L d=c/\Rd w (D e c f) c 1 (η d)
 |.flush=>kd=1
 |.merge a b=>kd=2/\ei=(a:Int)/\em=(b:Int)/\a<=4611686018427387904/\b<=4611686018427387904
 |.settle=>kd=3
theorem nm.below {w w':β} {kd ei em:Int} {c:Option Addr} {g f:Nat} {e:Ev} (h:nm w kd ei em c g f e) (i:BQ w w'):nm w' kd ei em c g f e:=by
 cases e with
 |doc d=>exact⟨h.1,h.2.1,h.2.2.below i⟩
 |flush=>exact h
 |merge a b=>exact h
 |settle=>exact h
theorem mm.wrap {w k w1:β} {r:Option Ix} {e:Ending} (h:mm k r e w1) (i:BQ w k) {p:Nat} (l:w.heap.size<=p) (m:p<k.heap.size) (T:TypeId) (n:k.heap[p]?=J (C #[D O 0 0,D O 0 0] T (0,0))) :
  ∃ a c c1 b d c2 f,e=ŗ (.tuple #[ā #[D a c c1,D b d c2],IZ f])/\BQ w w1/\w1.heap[p]?=J (C #[D O 0 0,D O 0 0] T (0,0)) /\
   mm w r (ŗ (.tuple #[ā #[D a c c1,D b d c2],IZ f])) (ŝ (ŝ w1 ⟨p,0,O⟩ (D a c c1)) ⟨p,1,O⟩ (D b d c2)):=by
 cases r with
 |some y =>
  obtain⟨a,c1,b,c2,rfl,o,g⟩:=h;have j:=i.trans (g.mono i.size);refine⟨a,_,c1,b,_,c2,0,rfl,j,θ n g,a,c1,b,c2,rfl,?_,(j.setCell (p:=⟨p,0,O⟩) l _).setCell (p:=⟨p,1,O⟩) l _⟩;exact((o.set (p:=⟨p,0,O⟩) m _).set (p:=⟨p,1,O⟩) m _).mono i.size
 |none =>
  obtain⟨a,c,c1,b,d,c2,f,q,s,rfl,g⟩:=h;have j:=i.trans (g.mono i.size);exact⟨a,c,c1,b,d,c2,f,rfl,j,θ n g,a,c,c1,b,d,c2,f,q,s,rfl,(j.setCell (p:=⟨p,0,O⟩) l _).setCell (p:=⟨p,1,O⟩) l _⟩
def BM:Ev->FuncId
 |.doc _=>251
 |.flush=>253
 |.merge _ _=>255
 |.settle=>257
theorem vr (n k:Nat) (da:Option Addr) (dc:Nat) (sa:Option Addr) (sc:Nat) (docs:List (γ)) (ps:List (Nat×Nat)) (m:Nat) (kd ei em:Int) (o:Option Addr) (l q:Nat) (z:Ev) (w:β) (f:L docs=n) (c:L ps=k) (j:Ϩ w) (g:Δ w (D da n dc) docs) (i:ϧ docs w (D sa k sc) ps) (h:ϵ docs ps m) (V:n<=40) (B:nm w kd ei em o l q z) :
  Calls prog (BM z) #[ā #[D da n dc,D sa k sc],ā #[IZ kd,IZ ei,IZ em,D o l q]] w (mm w (ge (docs,ps) z)):=by
 have H:BQ w (å (å (å w (C #[D da n dc,D sa k sc] 44)) (C #[IZ kd,IZ ei,IZ em,D o l q] 33)) (C #[D O 0 0,D O 0 0] 44)):=(ġ.alloc ύ _).alloc ό _;have ak:=of (w:=w) (A:=C #[D da n dc,D sa k sc] 44) (Z:=C #[IZ kd,IZ ei,IZ em,D o l q] 33) (Y:=C #[D O 0 0,D O 0 0] 44) (w1:=å (å (å w (C #[D da n dc,D sa k sc] 44)) (C #[IZ kd,IZ ei,IZ em,D o l q] 33)) (C #[D O 0 0,D O 0 0] 44)) RZ;rcases z with d|_|⟨ab,ac⟩|_;all_goals
  dsimp only[BM];first
   |show Calls _ 251 _ _ _
    obtain⟨-,T,K⟩:=B;have al:l<=9223372036854775807:=by have:=K.2.1;unfold maxLen at this;omega
    have x:=Zh (fun a (b:BQ w a)=>KQ n k da dc sa sc docs ps m o l q d a f c T (j.below b) (g.below b) (i.below b) h (K.below b) al);clear g i h f c j T K;go_enter func251,ntmps251
   |show Calls _ 255 _ _ _
    obtain⟨-,Q,R,E,U⟩:=B;have x:Hid (∀ a,BQ w a->Calls prog 256 #[ā #[D da n dc,D sa k sc],IZ ei,IZ em] a (mm a (ge (docs,ps) (.merge ab ac)))):=fun a b=>by
     rw[Q,R];exact KS ab ac n k da dc sa sc docs ps m a f c (j.below b) (g.below b) (i.below b) h V E U
    clear g i h f c j E U Q R;go_enter func255,ntmps255
   |show Calls _ 253 _ _ _
    go_enter func253,ntmps253;have x:=Zh (fun a (b:BQ w a)=>KR n k da dc sa sc docs ps m a f c (j.below b) (g.below b) (i.below b) h);clear g i h f c j B
   |show Calls _ 257 _ _ _
    go_enter func257,ntmps257;have x:=Zh (fun a (b:BQ w a)=>KT n k da dc sa sc docs ps m a f c (j.below b) (g.below b) (i.below b) h V);have y:=Zh (Γ f c);clear g i h f c j B
  go_upto_region 1 with (fail)
  generalize å (å (å w (C #[D da n dc,D sa k sc] 44)) (C #[IZ kd,IZ ei,IZ em,D o l q] 33)) (C #[D O 0 0,D O 0 0] 44)=a at *;obtain⟨X,W,aa,aF,aE,ad,-⟩:=ak;obtain⟨⟨aA,aB⟩,-,-⟩:=ι X;obtain⟨⟨aq,ar,au,av⟩,-,-⟩:=Ϫ W;have ae:=Zh (x.o a H);have P:=Zh aa;clear X W aa;go_wp2_with fail
  refine ae.o.mono ?_;intro e az F;first
   |obtain⟨s,M,c1,t,N,c2,ah,rfl,aj,G,I⟩:=mm.wrap F H (ϊ:w.heap.size<=w.heap.size+1+1) ad _ P.o
   |obtain⟨s,c1,t,c2,rfl,E,ai⟩:=F
    obtain⟨am,ax,ao,an,ay,ap,ah,S,aj,G,I⟩:=mm.wrap (r:=ge (docs,ps) .settle) (e:=ŗ (.tuple #[ā #[D s n c1,D t (L (jU k ps)) c2],IZ 0])) ⟨s,c1,t,c2,by simp only[y.o.1,y.o.2],by simp only[y.o.1,y.o.2];exact E,ai⟩ H (ϊ:w.heap.size<=w.heap.size+1+1) ad _ P.o;simp only[Ending.returned.injEq,Value.tuple.injEq,Array.mk.injEq,List.cons.injEq,Value.agg.injEq,Ξ,hR,Value.int.injEq,Ϯ]at S;obtain⟨⟨⟨rfl,rfl,rfl⟩,rfl,rfl,rfl⟩,rfl⟩:=S;have F:=trivial;generalize(L (jU k ps))=N at *;generalize n=M at *
  obtain⟨⟨aC,aD⟩,⟨aw,f1⟩,aG⟩:=ι G;have ag:=Zh (Ϲ G (D s M c1) (D t N c2));have af:=Zh I;clear F I G;go_wp2;refine ϟ (v:=.tuple #[ā #[D s M c1,D t N c2],IZ _]) (gf (p:=4) (u:=5) (ty:=44) rfl _ _ (w.heap.size+1+1) 44 _ (0,0) _ rfl ag.o lh rfl ϋ) rfl ?_;with_reducible exact af.o
def yi (z:Int):Option ε:=if z=3 then J (.func (.func 257) #[] #[])else if z=2 then J (.func (.func 255) #[] #[])else if z=1 then J (.func (.func 253) #[] #[])else if z=0 then J (.func (.func 251) #[] #[])else O
theorem Jm (w:β):Calls prog 191 #[] w fun e w'=>∃ s o t,e=ŗ (.map (J s))/\w'.heap[s]?=J (.map o t)/\iP o yi/\BQ w w':=by
 have b:=underlying298;have a:prog.underlying 3=J (.int .i64):=ϋ;have A:=run_makeMap (P:=prog) 298 w;have d:=χ w (.map #[] 0);have i:iP #[] (fun _=>O):=iP.none;have b0:BQ w (å w (.map #[] 0)):=ġ;have u:(Instr.mapUpdate 298 (.map (J w.heap.size)) (IZ 0) (.func (.func 251) #[] #[])).run prog (å w (.map #[] 0))=.ok () (Go.ChangeMaps.setBlock (å w (.map #[] 0)) w.heap.size (.map #[{key:=IZ 0,val:=.func (.func 251) #[] #[],born:=0}] 1)):=pF (P:=prog) b a d i (k:=0) ύ (.func (.func 251) #[] #[]);have f:((Go.ChangeMaps.setBlock (å w (.map #[] 0)) w.heap.size (.map #[{key:=IZ 0,val:=.func (.func 251) #[] #[],born:=0}] 1))).heap[w.heap.size]?=J (.map #[{key:=IZ 0,val:=.func (.func 251) #[] #[],born:=0}] 1):=(oP d).1;have j:iP #[{key:=IZ 0,val:=.func (.func 251) #[] #[],born:=0}] (fun z=>if z=0 then J (.func (.func 251) #[] #[])else O):=i.push (k:=0) ύ (.func (.func 251) #[] #[]) 0;have b1:BQ w (Go.ChangeMaps.setBlock (å w (.map #[] 0)) w.heap.size (.map #[{key:=IZ 0,val:=.func (.func 251) #[] #[],born:=0}] 1)):=pq b0 NZ _;have v:(Instr.mapUpdate 298 (.map (J w.heap.size)) (IZ 1) (.func (.func 253) #[] #[])).run prog (Go.ChangeMaps.setBlock (å w (.map #[] 0)) w.heap.size (.map #[{key:=IZ 0,val:=.func (.func 251) #[] #[],born:=0}] 1))=.ok () (Go.ChangeMaps.setBlock (Go.ChangeMaps.setBlock (å w (.map #[] 0)) w.heap.size (.map #[{key:=IZ 0,val:=.func (.func 251) #[] #[],born:=0}] 1)) w.heap.size (.map #[{key:=IZ 0,val:=.func (.func 251) #[] #[],born:=0},{key:=IZ 1,val:=.func (.func 253) #[] #[],born:=1}] 2)):=pF (P:=prog) b a f j (k:=1) ύ (.func (.func 253) #[] #[]);have g:((Go.ChangeMaps.setBlock (Go.ChangeMaps.setBlock (å w (.map #[] 0)) w.heap.size (.map #[{key:=IZ 0,val:=.func (.func 251) #[] #[],born:=0}] 1)) w.heap.size (.map #[{key:=IZ 0,val:=.func (.func 251) #[] #[],born:=0},{key:=IZ 1,val:=.func (.func 253) #[] #[],born:=1}] 2))).heap[w.heap.size]?=J (.map #[{key:=IZ 0,val:=.func (.func 251) #[] #[],born:=0},{key:=IZ 1,val:=.func (.func 253) #[] #[],born:=1}] 2):=(oP f).1;have l:iP #[{key:=IZ 0,val:=.func (.func 251) #[] #[],born:=0},{key:=IZ 1,val:=.func (.func 253) #[] #[],born:=1}] (fun z=>if z=1 then J (.func (.func 253) #[] #[])else if z=0 then J (.func (.func 251) #[] #[])else O):=j.push (k:=1) ύ (.func (.func 253) #[] #[]) 1;have b2:BQ w (Go.ChangeMaps.setBlock (Go.ChangeMaps.setBlock (å w (.map #[] 0)) w.heap.size (.map #[{key:=IZ 0,val:=.func (.func 251) #[] #[],born:=0}] 1)) w.heap.size (.map #[{key:=IZ 0,val:=.func (.func 251) #[] #[],born:=0},{key:=IZ 1,val:=.func (.func 253) #[] #[],born:=1}] 2)):=pq b1 NZ _;have x:(Instr.mapUpdate 298 (.map (J w.heap.size)) (IZ 2) (.func (.func 255) #[] #[])).run prog (Go.ChangeMaps.setBlock (Go.ChangeMaps.setBlock (å w (.map #[] 0)) w.heap.size (.map #[{key:=IZ 0,val:=.func (.func 251) #[] #[],born:=0}] 1)) w.heap.size (.map #[{key:=IZ 0,val:=.func (.func 251) #[] #[],born:=0},{key:=IZ 1,val:=.func (.func 253) #[] #[],born:=1}] 2))=.ok () (Go.ChangeMaps.setBlock (Go.ChangeMaps.setBlock (Go.ChangeMaps.setBlock (å w (.map #[] 0)) w.heap.size (.map #[{key:=IZ 0,val:=.func (.func 251) #[] #[],born:=0}] 1)) w.heap.size (.map #[{key:=IZ 0,val:=.func (.func 251) #[] #[],born:=0},{key:=IZ 1,val:=.func (.func 253) #[] #[],born:=1}] 2)) w.heap.size (.map #[{key:=IZ 0,val:=.func (.func 251) #[] #[],born:=0},{key:=IZ 1,val:=.func (.func 253) #[] #[],born:=1},{key:=IZ 2,val:=.func (.func 255) #[] #[],born:=2}] 3)):=pF (P:=prog) b a g l (k:=2) ύ (.func (.func 255) #[] #[]);have h:((Go.ChangeMaps.setBlock (Go.ChangeMaps.setBlock (Go.ChangeMaps.setBlock (å w (.map #[] 0)) w.heap.size (.map #[{key:=IZ 0,val:=.func (.func 251) #[] #[],born:=0}] 1)) w.heap.size (.map #[{key:=IZ 0,val:=.func (.func 251) #[] #[],born:=0},{key:=IZ 1,val:=.func (.func 253) #[] #[],born:=1}] 2)) w.heap.size (.map #[{key:=IZ 0,val:=.func (.func 251) #[] #[],born:=0},{key:=IZ 1,val:=.func (.func 253) #[] #[],born:=1},{key:=IZ 2,val:=.func (.func 255) #[] #[],born:=2}] 3))).heap[w.heap.size]?=J (.map #[{key:=IZ 0,val:=.func (.func 251) #[] #[],born:=0},{key:=IZ 1,val:=.func (.func 253) #[] #[],born:=1},{key:=IZ 2,val:=.func (.func 255) #[] #[],born:=2}] 3):=(oP g).1;have m:iP #[{key:=IZ 0,val:=.func (.func 251) #[] #[],born:=0},{key:=IZ 1,val:=.func (.func 253) #[] #[],born:=1},{key:=IZ 2,val:=.func (.func 255) #[] #[],born:=2}] (fun z=>if z=2 then J (.func (.func 255) #[] #[])else if z=1 then J (.func (.func 253) #[] #[])else if z=0 then J (.func (.func 251) #[] #[])else O):=l.push (k:=2) ύ (.func (.func 255) #[] #[]) 2;have b3:BQ w (Go.ChangeMaps.setBlock (Go.ChangeMaps.setBlock (Go.ChangeMaps.setBlock (å w (.map #[] 0)) w.heap.size (.map #[{key:=IZ 0,val:=.func (.func 251) #[] #[],born:=0}] 1)) w.heap.size (.map #[{key:=IZ 0,val:=.func (.func 251) #[] #[],born:=0},{key:=IZ 1,val:=.func (.func 253) #[] #[],born:=1}] 2)) w.heap.size (.map #[{key:=IZ 0,val:=.func (.func 251) #[] #[],born:=0},{key:=IZ 1,val:=.func (.func 253) #[] #[],born:=1},{key:=IZ 2,val:=.func (.func 255) #[] #[],born:=2}] 3)):=pq b2 NZ _;have y:(Instr.mapUpdate 298 (.map (J w.heap.size)) (IZ 3) (.func (.func 257) #[] #[])).run prog (Go.ChangeMaps.setBlock (Go.ChangeMaps.setBlock (Go.ChangeMaps.setBlock (å w (.map #[] 0)) w.heap.size (.map #[{key:=IZ 0,val:=.func (.func 251) #[] #[],born:=0}] 1)) w.heap.size (.map #[{key:=IZ 0,val:=.func (.func 251) #[] #[],born:=0},{key:=IZ 1,val:=.func (.func 253) #[] #[],born:=1}] 2)) w.heap.size (.map #[{key:=IZ 0,val:=.func (.func 251) #[] #[],born:=0},{key:=IZ 1,val:=.func (.func 253) #[] #[],born:=1},{key:=IZ 2,val:=.func (.func 255) #[] #[],born:=2}] 3))=.ok () (Go.ChangeMaps.setBlock (Go.ChangeMaps.setBlock (Go.ChangeMaps.setBlock (Go.ChangeMaps.setBlock (å w (.map #[] 0)) w.heap.size (.map #[{key:=IZ 0,val:=.func (.func 251) #[] #[],born:=0}] 1)) w.heap.size (.map #[{key:=IZ 0,val:=.func (.func 251) #[] #[],born:=0},{key:=IZ 1,val:=.func (.func 253) #[] #[],born:=1}] 2)) w.heap.size (.map #[{key:=IZ 0,val:=.func (.func 251) #[] #[],born:=0},{key:=IZ 1,val:=.func (.func 253) #[] #[],born:=1},{key:=IZ 2,val:=.func (.func 255) #[] #[],born:=2}] 3)) w.heap.size (.map #[{key:=IZ 0,val:=.func (.func 251) #[] #[],born:=0},{key:=IZ 1,val:=.func (.func 253) #[] #[],born:=1},{key:=IZ 2,val:=.func (.func 255) #[] #[],born:=2},{key:=IZ 3,val:=.func (.func 257) #[] #[],born:=3}] 4)):=pF (P:=prog) b a h m (k:=3) ύ (.func (.func 257) #[] #[]);have p:((Go.ChangeMaps.setBlock (Go.ChangeMaps.setBlock (Go.ChangeMaps.setBlock (Go.ChangeMaps.setBlock (å w (.map #[] 0)) w.heap.size (.map #[{key:=IZ 0,val:=.func (.func 251) #[] #[],born:=0}] 1)) w.heap.size (.map #[{key:=IZ 0,val:=.func (.func 251) #[] #[],born:=0},{key:=IZ 1,val:=.func (.func 253) #[] #[],born:=1}] 2)) w.heap.size (.map #[{key:=IZ 0,val:=.func (.func 251) #[] #[],born:=0},{key:=IZ 1,val:=.func (.func 253) #[] #[],born:=1},{key:=IZ 2,val:=.func (.func 255) #[] #[],born:=2}] 3)) w.heap.size (.map #[{key:=IZ 0,val:=.func (.func 251) #[] #[],born:=0},{key:=IZ 1,val:=.func (.func 253) #[] #[],born:=1},{key:=IZ 2,val:=.func (.func 255) #[] #[],born:=2},{key:=IZ 3,val:=.func (.func 257) #[] #[],born:=3}] 4))).heap[w.heap.size]?=J (.map #[{key:=IZ 0,val:=.func (.func 251) #[] #[],born:=0},{key:=IZ 1,val:=.func (.func 253) #[] #[],born:=1},{key:=IZ 2,val:=.func (.func 255) #[] #[],born:=2},{key:=IZ 3,val:=.func (.func 257) #[] #[],born:=3}] 4):=(oP h).1;have r:iP #[{key:=IZ 0,val:=.func (.func 251) #[] #[],born:=0},{key:=IZ 1,val:=.func (.func 253) #[] #[],born:=1},{key:=IZ 2,val:=.func (.func 255) #[] #[],born:=2},{key:=IZ 3,val:=.func (.func 257) #[] #[],born:=3}] (fun z=>if z=3 then J (.func (.func 257) #[] #[])else if z=2 then J (.func (.func 255) #[] #[])else if z=1 then J (.func (.func 253) #[] #[])else if z=0 then J (.func (.func 251) #[] #[])else O):=m.push (k:=3) ύ (.func (.func 257) #[] #[]) 3;have n:BQ w (Go.ChangeMaps.setBlock (Go.ChangeMaps.setBlock (Go.ChangeMaps.setBlock (Go.ChangeMaps.setBlock (å w (.map #[] 0)) w.heap.size (.map #[{key:=IZ 0,val:=.func (.func 251) #[] #[],born:=0}] 1)) w.heap.size (.map #[{key:=IZ 0,val:=.func (.func 251) #[] #[],born:=0},{key:=IZ 1,val:=.func (.func 253) #[] #[],born:=1}] 2)) w.heap.size (.map #[{key:=IZ 0,val:=.func (.func 251) #[] #[],born:=0},{key:=IZ 1,val:=.func (.func 253) #[] #[],born:=1},{key:=IZ 2,val:=.func (.func 255) #[] #[],born:=2}] 3)) w.heap.size (.map #[{key:=IZ 0,val:=.func (.func 251) #[] #[],born:=0},{key:=IZ 1,val:=.func (.func 253) #[] #[],born:=1},{key:=IZ 2,val:=.func (.func 255) #[] #[],born:=2},{key:=IZ 3,val:=.func (.func 257) #[] #[],born:=3}] 4)):=pq b3 NZ _;have q:iP #[{key:=IZ 0,val:=.func (.func 251) #[] #[],born:=0},{key:=IZ 1,val:=.func (.func 253) #[] #[],born:=1},{key:=IZ 2,val:=.func (.func 255) #[] #[],born:=2},{key:=IZ 3,val:=.func (.func 257) #[] #[],born:=3}] yi:=r;have c:=Zh (Γ p (Γ q n));clear d i f j g l h m p r b0 b1 b2 b3 n q;go_enter func191,ntmps191;go_wp2;go_ret;exact⟨w.heap.size,_,_,rfl,c.o.1,c.o.2.1,c.o.2.2⟩
theorem Ml {P:Program} {w:β} {T K e:TypeId} {b:Nat} {a:Array MapEntry} {f:Nat} {g:Int->Option ε} (j:P.underlying T=J (.map K e)) (d:P.underlying K=J (.int .i64)) (h:w.heap[b]?=J (.map a f)) (i:iP a g) {k:Int} {v:ε} (hg:g k=J v) :
  (Instr.lookup T (.map (J b)) (IZ k) true).run P w=.ok (.tuple #[v,.bool true]) w:=by
 obtain⟨l,c⟩:=i k;rw[hg]at c;simp[Instr.lookup,pf j,MapKept.run_getObj_map h,MapKept.run_checkKey d (show MapKept.IsKey (.int .i64) (IZ k)from rfl),MapKept.run_findKey d c,Result.andThen]
def BL:Ev->ε
 |.doc _=>.func (.func 251) #[] #[]
 |.flush=>.func (.func 253) #[] #[]
 |.merge _ _=>.func (.func 255) #[] #[]
 |.settle=>.func (.func 257) #[] #[]
theorem nm.kind {w:β} {kd ei em:Int} {c:Option Addr} {g f:Nat} {e:Ev} (h:nm w kd ei em c g f e):yi kd=J (BL e):=by
 cases e with
 |doc d=>obtain⟨rfl,-⟩:=h;rfl
 |flush=>obtain rfl:kd=1:=h;rfl
 |merge a b=>obtain⟨rfl,-⟩:=h;rfl
 |settle=>obtain rfl:kd=3:=h;rfl
theorem CA (o:Ev) (n k:Nat) (da:Option Addr) (dc:Nat) (sa:Option Addr) (sc:Nat) (docs:List (γ)) (ps:List (Nat×Nat)) (m:Nat) (kd ei em:Int) (h:Option Addr) (j i:Nat) (w:β) (r:L docs=n) (l:L ps=k) (y:Ϩ w) (s:Δ w (D da n dc) docs) (x:ϧ docs w (D sa k sc) ps) (t:ϵ docs ps m) (B:n<=40) (F:nm w kd ei em h j i o) :
  Calls prog 113 #[ā #[D da n dc,D sa k sc],ā #[IZ kd,IZ ei,IZ em,D h j i]] w (mm w (ge (docs,ps) o)):=by
 have aA:=underlying298;have ay:prog.underlying 3=J (.int .i64):=ϋ;have S:=F.kind;have al:=Zh (fun c=>Jm c);have aj:Hid (∀ c,BQ w c->∃ q,BL o=.func (.func q) #[] #[]/\(∀ Q c,(callFunc q Q).run prog c=.ok (.enter q Q) c)/\Calls prog q #[ā #[D da n dc,D sa k sc],ā #[IZ kd,IZ ei,IZ em,D h j i]] c (mm c (ge (docs,ps) o))):=by
  intro c f;have z:=F.below f;cases o with
  |doc d=>exact⟨_,rfl,iB func251 ϋ rfl,vr n k da dc sa sc docs ps m kd ei em h j i (.doc d) c r l (y.below f) (s.below f) (x.below f) t B z⟩
  |flush=>exact⟨_,rfl,iB func253 ϋ rfl,vr n k da dc sa sc docs ps m kd ei em h j i .flush c r l (y.below f) (s.below f) (x.below f) t B z⟩
  |merge a b=>exact⟨_,rfl,iB func255 ϋ rfl,vr n k da dc sa sc docs ps m kd ei em h j i (.merge a b) c r l (y.below f) (s.below f) (x.below f) t B z⟩
  |settle=>exact⟨_,rfl,iB func257 ϋ rfl,vr n k da dc sa sc docs ps m kd ei em h j i .settle c r l (y.below f) (s.below f) (x.below f) t B z⟩
 have T:BQ w (å (å (å w (C #[D da n dc,D sa k sc] 44)) (C #[IZ kd,IZ ei,IZ em,D h j i] 33)) (C #[D O 0 0,D O 0 0] 44)):=(ġ.alloc ύ _).alloc ό _;have ax:=of (w:=w) (A:=C #[D da n dc,D sa k sc] 44) (Z:=C #[IZ kd,IZ ei,IZ em,D h j i] 33) (Y:=C #[D O 0 0,D O 0 0] 44) (w1:=å (å (å w (C #[D da n dc,D sa k sc] 44)) (C #[IZ kd,IZ ei,IZ em,D h j i] 33)) (C #[D O 0 0,D O 0 0] 44)) RZ;clear s x t r l y F;go_enter func113,ntmps113;go_upto_region 1 with (fail)
 generalize å (å (å w (C #[D da n dc,D sa k sc] 44)) (C #[IZ kd,IZ ei,IZ em,D h j i] 33)) (C #[D O 0 0,D O 0 0] 44)=c at *;obtain⟨ae,G,ag,aP,aO,aQ,-⟩:=ax;obtain⟨⟨R,ar,au,av⟩,-,-⟩:=Ϫ G;have E:BQ c c.drew:=RZ.drew;refine ϸ (fun ap=>BQ c ap) 3 ϋ ?_;refine Zf 1 E ?_;refine Zk 2 E ?_ (hy:=by intro c f;have aC:=ζ f R;go_simp;try with_reducible rfl);refine Ψ (fuel:=6) 0 ϋ rfl ?_;intro K l;go_simp;refine(al.o _).mono ?_;rintro e I ⟨aI,aE,aB,rfl,aa,ab,aw⟩;have g:BQ c I:=E.trans aw;refine l _ _ g ?_;clear l K;try simp only[Act.put]
 have az:=Ml (P:=prog) aA ay aa ab S;refine Zl ?_;refine Zf 4 g ?_;refine Zf 5 g ?_;refine Zf 6 g ?_;refine Zf 7 g ?_;refine Zf 8 g ?_;refine Zd ?_;have U:=T.trans (g.mono T.size);have af:=θ ae g;have ad:=θ G g;have ao:=Zh (θ ag g);have aH:=g.size;obtain⟨⟨aK,aL⟩,-,-⟩:=ι af;obtain⟨⟨R,ar,au,av⟩,-,-⟩:=Ϫ ad;obtain⟨q,X,aD,V⟩:=aj.o I U;have ak:=Zh V;rw[X];clear az aa ab S X V ae G ag af ad;go_wp2_with fail
 refine ak.o.mono ?_;intro e aJ ac;obtain⟨M,ah,c1,N,ai,c2,aq,rfl,aG,H,W⟩:=mm.wrap ac U (ϊ:w.heap.size<=w.heap.size+1+1) (ϊ:w.heap.size+1+1<I.heap.size) _ ao.o;obtain⟨⟨aM,aN⟩,⟨aF,f1⟩,aR⟩:=ι H;have an:=Zh (Ϲ H (D M ah c1) (D N ai c2));have am:=Zh W;clear ac W H;go_wp2;refine ϟ (v:=.tuple #[ā #[D M ah c1,D N ai c2],IZ aq]) (gf (p:=4) (u:=5) (ty:=44) rfl _ _ (w.heap.size+1+1) 44 _ (0,0) _ rfl an.o lh rfl ϋ) rfl ?_;with_reducible exact am.o
