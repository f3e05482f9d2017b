/- Part 29 of the proof. -/
import Derived.Test.YtpilfbcffofheaaGreatDoorm28
set_option linter.unusedVariables false
set_option linter.unusedSimpArgs false
set_option maxRecDepth 100000
set_option maxHeartbeats 8000000
namespace Go.Proofs.YtpilfbcffofheaaGreatDoor
open Go.Proofs.Tryz Go.RowKit Go.Sort
open Option renaming none->O,some->J
open Value renaming agg->ā,slice->D,int->ĭ,pointer->þ
open Obj renaming cells->C
open List renaming length->L
open Ending renaming returned->ŗ
open World renaming alloc->å,setCell->ŝ
theorem JY (a b:Nat) (f:a<=4611686018427387904) (g:b<=4611686018427387904):mf (a:Int) (b:Int) 2=J (ξ 2++ξ a++ξ b):=by
 have d:mT (a:Int):=⟨ϊ,ϊ⟩;have e:mT (b:Int):=⟨ϊ,ϊ⟩;have c:mf (a:Int) (b:Int) 1=J (ξ 2++ξ a):=by
  show(if mT (a:Int)then J (ξ 2++ξ ((a:Int).toNat))else O)=_;rw[μ d,ut]
 rw[tz,c];show(if mT (b:Int)then J (ξ 2++ξ a++ξ ((b:Int).toNat))else O)=_;rw[μ e,ut]
theorem Jf (j:Ev) (kd ei em:Int) (g:Option Addr) (i h:Nat) (w:β) (f:nm w kd ei em g i h j) (q:j.ok) :
  Calls prog 154 #[ā (iL kd ei em g i h)] w (lP j.bytes w):=by
 cases j with
 |doc d =>
  obtain⟨rfl,l,m⟩:=f;exact Jg ei em g i h d w l m (by simp only[Ev.ok]at q;omega)
 |flush =>
  obtain rfl:kd=1:=f;exact Cy 1 ei em g i h w (.inl rfl)
 |merge a b =>
  obtain⟨rfl,rfl,rfl,l,m⟩:=f;refine(Cz _ _ g i h w).mono ?_;rintro e s ⟨r,f,k,p⟩;rw[JY a b l m]at f k;obtain⟨o,n,c,rfl,k⟩:=k;exact⟨o,n,c,f,by rw[show Ev.bytes (.merge a b)=ξ 2++ξ a++ξ b by simp[Ev.bytes]];exact k,p⟩
 |settle =>
  obtain rfl:kd=3:=f;exact Cy 3 ei em g i h w (.inr rfl)
theorem iZ.one {base:Nat} {w:β} {a:Int} {d g:Nat} {b:γ} (k:a=(d:Int)) (l:base<=w.heap.size) (j:Hi base w (fun c=>Rd c (D (J ⟨g,0,O⟩) 64 64) (L b) 1 (η b))) :
  iZ base (å w (C #[.bool false,ĭ .i64 a,D (J ⟨g,0,O⟩) 64 64] 256)) (D (J ⟨w.heap.size,0,O⟩) 1 1) [.put d b]:=by
 refine⟨[.bool false,ĭ .i64 a,D (J ⟨g,0,O⟩) 64 64],⟨rfl,.inr ⟨w.heap.size,1,_,rfl,l,χ w _,NZ,ώ,rfl,rfl⟩⟩,?_⟩;intro c f m e;obtain rfl:m=0:=by simp at e;exact e
 refine⟨rfl,by rw[k];rfl,_,rfl,j c fun q n i=>(f q ό ?_).trans (gX w _ q i)⟩;rintro(h|h)
 .omega
 .simp only[Value.ownBlock,Ο]at h;omega
def iQ (bl:Ε) (seq a:Nat) (b:γ):List gQ:=
 gQ.put ((seq+1) % 2) (ki 64)::(jw (gV bl (L b+1) a b)++[.sync,.put ((seq+1) % 2) (ie (seq+1) (a+L b)),.sync])
def xf (bl:Ε) (seq d:Nat) (b:γ) (y:Ix) (w:β) (e:Ending) (w':β):Prop:=
 ∃ a c g c1 h c2,e=ŗ (.tuple #[D a (L (iQ bl seq d b)) c,ā #[ĭ .i64 ((seq+1:Nat):Int),ĭ .i64 ((d+L b:Nat):Int),D g (L y.1) c1,D h (L y.2) c2],ĭ .i64 0]) /\
  Hi w.heap.size w' (fun f=>pW f (D a (L (iQ bl seq d b)) c) (iQ bl seq d b)/\Δ f (D g (L y.1) c1) y.1/\ϧ y.1 f (D h (L y.2) c2) y.2)/\Below w.heap.size w w'
def xe (w:β) (e:Ending) (w':β):Prop:= ∃ a:Nat,0<a/\a<10/\e=ŗ (.tuple #[D O 0 0,ā #[ĭ .i64 0,ĭ .i64 0,D O 0 0,D O 0 0],ĭ .i64 (a:Int)])/\Below w.heap.size w w'
def xg (bl:Ε) (seq b:Nat) (x:Ix) (r:Option Ev) (w:β) (e:Ending) (w':β):Prop:=match r with
 |none=>xe w e w'
 |some a=>(∃ y,ge x a=J y/\b+L a.bytes<=Ϥ bl/\xf bl seq b a.bytes y w e w')\/((ge x a=O\/Ϥ bl<b+L a.bytes)/\xe w e w')
def mL (w:β) (kd ei em:Int) (c:Option Addr) (e d:Nat):Option Ev->Prop
 |some b=>nm w kd ei em c e d b/\b.ok
 |none=>∀ a,Below w.heap.size w a->Calls prog 154 #[ā (iL kd ei em c e d)] a (xc a)
theorem HR (kd ei em:Int) (c:Option Addr) (a f:Nat) (d:γ) (w:β) (s:L d=a) (h:Rd w (D c a f) a 1 (η d)):∃ r,mL w kd ei em c a f r/\(r=O\/(kd=0/\r=J (.doc d))\/(kd≠0/\∃ k,r=J k/\qq k=[])):=by
 by_cases g:kd=0
 .subst g
  by_cases y:a<=2000
  .exact⟨J (.doc d),⟨⟨rfl,s,h⟩,by simp only[Ev.ok];omega⟩,.inr (.inl ⟨rfl,rfl⟩)⟩
  .exact⟨O,fun b _=>Jh ei em c a f b ϊ,.inl rfl⟩
 .by_cases o:kd=1
  .exact⟨J .flush,⟨o,trivial⟩,.inr (.inr ⟨g,_,rfl,rfl⟩)⟩
  .by_cases p:kd=2
   .subst p
    by_cases n:mT ei/\mT em
    .obtain⟨⟨v,x⟩,b1,b2⟩:=n
     exact⟨J (.merge ei.toNat em.toNat),⟨⟨rfl,ϊ,ϊ,ϊ,ϊ⟩,by simp only[Ev.ok];omega⟩,.inr (.inr ⟨g,_,rfl,rfl⟩)⟩
    .refine⟨O,fun b _=>(Cz ei em c a f b).mono ?_,.inl rfl⟩
     rintro e z ⟨u,l,m,j⟩;have t:mf ei em 2=O:=by
      rw[tz,tz];simp only[mf,mV,if_true];by_cases i:mT ei
      .rw[μ i]
       simp only[κ (ϐ:¬(1:Nat)=0)];rw[κ fun j=>n ⟨i,j⟩]
      .rw[κ i]
     rw[t]at l m;obtain rfl:u=D O 0 0:=m;exact⟨l,j⟩
   .by_cases q:kd=3
    .exact⟨J .settle,⟨q,trivial⟩,.inr (.inr ⟨g,_,rfl,rfl⟩)⟩
    .exact⟨O,fun b _=>Ji kd ei em c a f b ϊ,.inl rfl⟩
theorem vU {P:Program} {b:Func} {o p u:Tmp} {ty:TypeId} (h:b.results=#[.tmp o,.cell p ty,.tmp u]) (tmps:Array ε) (w:β) (g:Nat) (t:TypeId) (a:Array ε) (c:Nat×Nat) (d:TypeDesc)
  (f:tmps.getD p undef=þ (J ⟨g,0,O⟩)) (hg:w.heap[g]?=J (C a t c))
  (j:P.underlying ty=J d) (e:(match d with|.struct _|.array _ _=>true|_=>false)=true) (hi:(P.info? ty).map (·.size)=J a.size) :
  (results b tmps).run P w=.ok (.tuple #[tmps.getD o undef,ā a,tmps.getD u undef]) w:=by
 have i:tmps[p]?.getD undef=þ (J ⟨g,0,O⟩):=by simpa using f
 simp[results,h,i,asAddr,uk w g t ty a c d hg j e hi]
theorem GC {w:β} {f:List ε} {l:List gQ} (x:L f=L l*3) (h:∀ k (v:k<L l),lO w f k l[k]):∀ u∈f,u.oneCell'=true:=by
 intro u r;obtain⟨e,hi,rfl⟩:=pM r;have g:=h (e / 3) ϊ;have s:∃ a b c,f[e / 3*3]?=J a/\f[e / 3*3+1]?=J b/\f[e / 3*3+2]?=J c/\a.oneCell'=true/\b.oneCell'=true/\c.oneCell'=true:=by
  generalize l[e / 3]' ϊ=d at g;cases d with
  |sync=>exact⟨_,_,_,g.1,g.2.1,g.2.2,rfl,rfl,rfl⟩
  |put a b =>
   obtain⟨n,o,u,p,q⟩:=g;obtain⟨y,c,rfl,-⟩:=q.from
   exact⟨_,_,_,n,o,p,rfl,rfl,rfl⟩
 obtain⟨a,b,c,i,j,m,t,o1,o2⟩:=s;rcases(ϊ:e % 3=0\/e % 3=1\/e % 3=2)with h|h|h
 .rw[show e / 3*3=e from ϊ,Ρ hi]at i
  injection i with i;rw[i];exact t
 .rw[show e / 3*3+1=e from ϊ,Ρ hi]at j
  injection j with j;rw[j];exact o1
 .rw[show e / 3*3+2=e from ϊ,Ρ hi]at m
  injection m with m;rw[m];exact o2
theorem Jj (seq:Nat) (ak:List Ev) (x:Ix) (r:Option Ev) (ba:Option Addr) (bc:Nat) (wa:Option Addr) (aq:Nat) (bl:Ε) (da:Option Addr) (dc:Nat) (sa:Option Addr) (sc:Nat) (kd ei em:Int) (am:Option Addr) (ao an:Nat) (w:β) (b5:Ϩ w) (aR:Δ w (D ba (L bl) bc) bl) (W:ga bl seq (ϡ ak)) (d5:∀ e∈ak,e.ok) (b7:gH ([],[]) ak=J x) (b8:L x.1<=40)
  (dt:Δ w (D da (L x.1) dc) x.1) (du:ϧ x.1 w (D sa (L x.2) sc) x.2) (ep:seq<4611686018427387904) (cW:mL w kd ei em am ao an r) :
  Calls prog 90 #[ā #[D ba (L bl) bc,D wa 0 aq],ā #[ĭ .i64 (seq:Int),ĭ .i64 ((L (ϡ ak):Nat):Int),D da (L x.1) dc,D sa (L x.2) sc],ā (iL kd ei em am ao an)] w (xg bl seq (L (ϡ ak)) x r w):=by
 have c8:ja bl []:=⟨W.nb,ύ,W.l64,ύ⟩;have dx:jA x:=tN jA.start b7;have cs:=Zh (fun j (c:BQ w j)=>yD seq ak x ba bc wa aq bl j (b5.below c) (aR.below c) W d5 b7 b8);have ar:=Zh (fun ev (h:nm w kd ei em am ao an ev) j (c:BQ w j)=>CA ev (L x.1) (L x.2) da dc sa sc x.1 x.2 (nv x.2) kd ei em am ao an j rfl rfl (b5.below c) (dt.below c) (du.below c) dx b8 (h.below c));have ay:=Zh cW;have dM:=Zh (fun j (c:BQ w j)=>CC ba bc wa aq bl [] j (aR.below c) (py j wa aq) c8 (by have:=W.n3;omega));obtain⟨a,aP⟩:∃ a:Nat,L (ϡ ak)=a:=⟨_,rfl⟩;have eh:a<=Ϥ bl:=by rw[<-aP];exact W.le
 rw[aP]at cs;rw[aP];have eq:¬(seq:Int)=4611686018427387904:=ϊ;have bs:=Zh W;have dG:=Zh aR;have eo:Ϥ bl<=262016:=by have:=W.nb;unfold Ϥ;omega
 clear aR W c8 b5 aP dt du cW b7 b8 dx;obtain⟨bK,bX,bP,dp,aS⟩:=Cb (w:=w) (A:=C #[D ba (L bl) bc,D wa 0 aq] 41) (Z:=C #[ĭ .i64 (seq:Int),ĭ .i64 (a:Int),D da (L x.1) dc,D sa (L x.2) sc] 46) (Y:=C (iL kd ei em am ao an) 33) (X:=C #[ĭ .i64 0,ĭ .i64 0,D O 0 0,D O 0 0] 46);go_enter func90,ntmps90;go_upto_region 1 with (fail)
 generalize å (å (å (å w (C #[D ba (L bl) bc,D wa 0 aq] 41)) (C #[ĭ .i64 (seq:Int),ĭ .i64 (a:Int),D da (L x.1) dc,D sa (L x.2) sc] 46)) (C (iL kd ei em am ao an) 33)) (C #[ĭ .i64 0,ĭ .i64 0,D O 0 0,D O 0 0] 46)=dR at *;obtain⟨⟨k,d1⟩,-,-⟩:=ι bK;obtain⟨⟨aD,aE,aF,aG⟩,-,-⟩:=Ϫ bX;obtain⟨⟨aH,aI,aJ,aK⟩,-,-⟩:=Ϫ bP;go_wp2_with fail
 refine(cs.o _ aS).mono ?_;rintro e cd ⟨b9,cb,ca,cc,rfl,-,aT⟩;have aw:BQ dR (å cd (C #[ĭ .i64 (seq:Int),ĭ .i64 (a:Int),D b9 (L x.1) cb,D ca (L x.2) cc] 46)):=aT.alloc aT.size _;have a6:=χ cd (C #[ĭ .i64 (seq:Int),ĭ .i64 (a:Int),D b9 (L x.1) cb,D ca (L x.2) cc] 46);have er:=aT.size;go_upto_region 4 with (fail)
 generalize å cd (C #[ĭ .i64 (seq:Int),ĭ .i64 (a:Int),D b9 (L x.1) cb,D ca (L x.2) cc] 46)=eb at *;have a2:=θ bK aw;have a7:=θ bX aw;have a3:=θ bP aw;have a8:=θ dp aw;have ad:=aS.trans (aw.mono aS.size);clear k d1 aD aE aF aG aH aI aJ aK;obtain⟨⟨k,d1⟩,-,-⟩:=ι a2;obtain⟨⟨aD,aE,aF,aG⟩,-,-⟩:=Ϫ a7;obtain⟨⟨aH,aI,aJ,aK⟩,-,-⟩:=Ϫ a3;obtain⟨⟨B,m,E,n3⟩,-,-⟩:=Ϫ a6;clear bK bX bP dp aT aw aS;rcases r with _|ev
 .go_wp2_with fail
  refine(ay.o _ ad).mono ?_;rintro e T ⟨rfl,n⟩;have af:=θ a8 n;have S:=ad.trans (n.mono ad.size);obtain⟨⟨cf,cg,ch,ci⟩,⟨bq,f1,f2,f3⟩,cj⟩:=Ϫ af;have aj:=Zh (nD af (ĭ .i64 0) (ĭ .i64 0) (D O 0 0) (D O 0 0));have ai:=Zh (oF S (ϊ:w.heap.size<=w.heap.size+1+1+1) (ĭ .i64 0) (ĭ .i64 0) (D O 0 0) (D O 0 0));clear a2 a7 a3 a8 a6 ad n af S;go_wp2;refine ϟ (v:=.tuple #[D O 0 0,ā #[ĭ .i64 0,ĭ .i64 0,D O 0 0,D O 0 0],ĭ .i64 1]) (vU (o:=6) (p:=7) (u:=8) (ty:=46) rfl _ _ (w.heap.size+1+1+1) 46 _ (0,0) _ rfl aj.o underlying46 rfl ϋ) rfl ?_;exact⟨1,ϊ,ϊ,rfl,ai.o⟩
 have dF:=Zh (fun j (c:BQ w j)=>Jf ev kd ei em am ao an j (ay.o.1.below c) ay.o.2);have dH:=Zh ay.o.2;have ar:=Zh (ar.o ev ay.o.1);go_wp2_with fail
 refine(dF.o _ ad).mono ?_;rintro e T ⟨dT,d,dU,rfl,de,n⟩;have bL:=θ a2 n;have dj:=θ a7 n;have dh:=θ a3 n;have af:=θ a8 n;have bT:=θ a6 n;have S:=ad.trans (n.mono ad.size);have ck:=Zh de;have et:=n.size;have aQ:=ο af;clear k d1 aD aE aF aG aH aI aJ aK B m E n3;obtain⟨⟨k,d1⟩,-,-⟩:=ι bL;obtain⟨⟨aD,aE,aF,aG⟩,-,-⟩:=Ϫ dj;obtain⟨⟨aH,aI,aJ,aK⟩,-,-⟩:=Ϫ dh;obtain⟨⟨B,m,E,n3⟩,-,-⟩:=Ϫ bT;clear a2 a7 a3 a8 a6 ad n de;rcases hyy:ge x ev with _|y
 .rw[show ge (x.1,x.2) ev=O from hyy]at ar
  have bk:=Zh hyy;clear hyy;go_wp2_with fail
  refine(ar.o _ S).mono ?_;rintro e ag ⟨cD,dz,c1,cE,dA,c2,bp,d3,d4,rfl,aa⟩;have F:BQ T (å ag (C #[D cD dz c1,D cE dA c2] 44)):=aa.alloc aa.size _;have ek:¬(bp:Int)=0:=ϊ;go_upto_region 10 with (fail)
  generalize å ag (C #[D cD dz c1,D cE dA c2] 44)=az at *;have ax:=θ af F;have ae:=S.trans (F.mono S.size);obtain⟨⟨cf,cg,ch,ci⟩,⟨bq,f1,f2,f3⟩,cj⟩:=Ϫ ax;have aj:=Zh (nD ax (ĭ .i64 0) (ĭ .i64 0) (D O 0 0) (D O 0 0));have ai:=Zh (oF ae (ϊ:w.heap.size<=w.heap.size+1+1+1) (ĭ .i64 0) (ĭ .i64 0) (D O 0 0) (D O 0 0));clear ax ae aa F;go_wp2;refine ϟ (v:=.tuple #[D O 0 0,ā #[ĭ .i64 0,ĭ .i64 0,D O 0 0,D O 0 0],ĭ .i64 (bp:Int)]) (vU (o:=6) (p:=7) (u:=8) (ty:=46) rfl _ _ (w.heap.size+1+1+1) 46 _ (0,0) _ rfl aj.o underlying46 rfl ϋ) rfl ?_;exact .inr ⟨.inl bk.o,bp,d3,d4,rfl,ai.o⟩
 rw[show ge (x.1,x.2) ev=J y from hyy]at ar;have bk:=Zh hyy;clear hyy;go_wp2_with fail
 refine(ar.o _ S).mono ?_;rintro e ag ⟨H,M,I,N,rfl,cZ,aa⟩;have F:BQ T (å ag (C #[D H (L y.1) M,D I (L y.2) N] 44)):=aa.alloc aa.size _;have dk:=χ ag (C #[D H (L y.1) M,D I (L y.2) N] 44);have c0:=cZ.alloc (C #[D H (L y.1) M,D I (L y.2) N] 44);have eu:=aa.size;go_upto_region 10 with (fail)
 generalize å ag (C #[D H (L y.1) M,D I (L y.2) N] 44)=az at *;have bM:=θ bL F;have ax:=θ af F;have bU:=θ bT F;have ae:=S.trans (F.mono S.size);have bg:=Zh (ck.o.below F);have cB:=Zh c0;clear k d1 aD aE aF aG aH aI aJ aK B m E n3;obtain⟨⟨k,d1⟩,-,-⟩:=ι bM;obtain⟨⟨B,m,E,n3⟩,-,-⟩:=Ϫ bU;clear bL dj dh af bT aa F cZ c0 ck;obtain⟨ed,ej⟩:∃ l:Nat,l=d:=⟨_,rfl⟩;have aV:L ev.bytes=d:=bg.o.1;have dX:IntKind.i64.wrap (((Ϥ bl:Nat):Int) - (a:Int))=((Ϥ bl:Nat):Int) - (a:Int):=Ϗ;go_upto_region 12 with (fail)
 have i:BQ az az.drew:=RZ.drew;refine ϸ (fun bm=>BQ az bm) 6 ϋ ?_;refine Zf 0 i ?_;refine Zf 1 i ?_;refine Zb 2 [3,6] i ?_ (hy:=by intro j c;have a9:=ζ c k;have bb:=ζ c d1;have bd:=ζ c m;go_simp;try with_reducible rfl);refine Zf 4 i ?_;refine Zk 5 i ?_ (hy:=by intro j c;have a9:=ζ c k;have bb:=ζ c d1;have bd:=ζ c m;go_simp;try with_reducible rfl);refine Ψ (fuel:=2) 3 ϋ rfl ?_;intro K cI;go_simp;refine(dM.o _ (ae.trans (i.mono ae.size))).mono ?_;rintro e ap ⟨rfl,cR⟩;have z:BQ az ap:=i.trans cR;refine cI _ _ z ?_;clear cI K;try simp only[Act.put]
 refine Zl ?_;refine Zf 7 z ?_;refine Zd ?_;have bN:=θ bM z;have aC:=θ ax z;have bV:=θ bU z;have aA:=ae.trans (z.mono ae.size);have cl:=Zh (bg.o.below z);have cC:=Zh (cB.o.below z);have dl:=θ dk z;have ew:=z.size;clear k d1 B m E n3;obtain⟨⟨k,d1⟩,-,-⟩:=ι bN;obtain⟨⟨B,m,E,n3⟩,-,-⟩:=Ϫ bV;clear bM ax bU dk bg cB i z cR ae dX;by_cases cX:¬a+d<=Ϥ bl
 .have d6:((Ϥ bl:Nat):Int) - (a:Int)<(d:Int):=ϊ
  obtain⟨⟨cf,cg,ch,ci⟩,⟨bq,f1,f2,f3⟩,cj⟩:=Ϫ aC;have aj:=Zh (nD aC (ĭ .i64 0) (ĭ .i64 0) (D O 0 0) (D O 0 0));have ai:=Zh (oF aA (ϊ:w.heap.size<=w.heap.size+1+1+1) (ĭ .i64 0) (ĭ .i64 0) (D O 0 0) (D O 0 0));have dI:=Zh (ϊ:Ϥ bl<a+L ev.bytes);clear aC aA cX;go_wp2;refine ϟ (v:=.tuple #[D O 0 0,ā #[ĭ .i64 0,ĭ .i64 0,D O 0 0,D O 0 0],ĭ .i64 3]) (vU (o:=6) (p:=7) (u:=8) (ty:=46) rfl _ _ (w.heap.size+1+1+1) 46 _ (0,0) _ rfl aj.o underlying46 rfl ϋ) rfl ?_;exact .inr ⟨.inr dI.o,3,ϊ,ϊ,rfl,ai.o⟩
 have d6:¬((Ϥ bl:Nat):Int) - (a:Int)<(d:Int):=ϊ;have cX:a+d<=Ϥ bl:=ϊ;have dY:IntKind.i64.wrap ((seq:Int)+1)=((seq+1:Nat):Int):=Ϗ;have dZ:IntKind.i64.wrap ((a:Int)+(d:Int))=((a+d:Nat):Int):=Ϗ;go_upto_region 15 with (fail)
 have Q:BQ ap (å ap (C #[ĭ .i64 ((seq:Int)+1),ĭ .i64 ((a:Int)+(d:Int))] 206)):=ġ;have a4:=χ ap (C #[ĭ .i64 ((seq:Int)+1),ĭ .i64 ((a:Int)+(d:Int))] 206);generalize å ap (C #[ĭ .i64 ((seq:Int)+1),ĭ .i64 ((a:Int)+(d:Int))] 206)=f at *;have bO:=θ bN Q;have b2:=θ aC Q;have bW:=θ bV Q;have bZ:=θ dl Q;have bC:=aA.trans (Q.mono aA.size);have cm:=Zh (cl.o.below Q);have dP:=Zh (cC.o.below Q);have ex:=Q.size;have eB:=ο a4;have eD:=ο b2;have eC:=ο bZ;clear k d1 B m E n3;obtain⟨⟨k,d1⟩,-,-⟩:=ι bO;obtain⟨⟨B,m,E,n3⟩,-,-⟩:=Ϫ bW;obtain⟨⟨q,s⟩,-,-⟩:=ι a4;clear bN aC bV dl cl cC Q aA dY dZ;have ef:IntKind.i64.wrap (((seq:Int)+1).tmod 2)=((seq:Int)+1) % 2:=by rw[Int.tmod_eq_emod_of_nonneg ϊ,sn];omega
 go_upto_region 16 with (fail)
 have cQ:Rd (å f (C #[ĭ .u8 255] 5)) (D (J ⟨f.heap.size,0,O⟩) 1 1) 1 1 (η [255]):=jG f #[ĭ .u8 255] 5 1 [255] rfl (by rfl) ώ;have dN:=Zh (LH (J ⟨f.heap.size,0,O⟩) 1 _ cQ);have bA:BQ f (å f (C #[ĭ .u8 255] 5)):=ġ;clear cQ;go_wp2_with fail
 refine dN.o.mono ?_;rintro e U ⟨br,rfl,cY,bB⟩;have aU:=bA.trans (bB.mono bA.size);have bv:((seq:Int)+1) % 2=(((seq+1) % 2:Nat):Int):=ϊ;have cM:=(iZ.one (b:=ki 64) bv (gh NZ bB.size) (by simpa[ki] using cY)).mono (base':=f.heap.size) ύ;have dC:=Zh bv;have R:BQ f (å U (C #[.bool false,ĭ .i64 (((seq:Int)+1) % 2),D (J ⟨br,0,O⟩) 64 64] 256)):=aU.alloc aU.size _;clear bv;go_upto_region 17 with (fail)
 have ey:U.heap.size<(å U (C #[.bool false,ĭ .i64 (((seq:Int)+1) % 2),D (J ⟨br,0,O⟩) 64 64] 256)).heap.size:=ύ;generalize å U (C #[.bool false,ĭ .i64 (((seq:Int)+1) % 2),D (J ⟨br,0,O⟩) 64 64] 256)=dS at *;have dg:=θ bO R;have dr:=θ b2 R;have di:=θ bW R;have dm:=θ bZ R;have bR:=θ a4 R;have aW:=bC.trans (R.mono bC.size);have cn:=Zh (cm.o.below R);have bh:=Zh R;have ct:=Zh cM;clear k d1 B m E n3 q s;obtain⟨⟨k,d1⟩,-,-⟩:=ι dg;obtain⟨⟨B,m,E,n3⟩,-,-⟩:=Ϫ di;obtain⟨⟨q,s⟩,-,-⟩:=ι bR;have el:f.heap.size<=U.heap.size:=aU.size;have dO:=Zh (Jq a dT d dU ev.bytes ba bc wa aq bl dS (dG.o.below aW) bs.o.nb bs.o.l64 bs.o.n3 cn.o.rd aV ϊ);clear bO b2 bW bZ a4 cm R bC cM bA aU bB cY;go_wp2_with fail
 refine dO.o.mono ?_;rintro e aL ⟨ec,G,ee,rfl,a0,d0,ab⟩;have b3:=θ dr ab;have b0:=θ dm ab;have a5:=θ bR ab;have d2:=aW.trans (ab.mono aW.size);have dE:=Zh (bh.o.trans (ab.mono bh.o.size));have ez:=ab.size;have en:G<=3000:=by
  have:=Fe bl (d+1) a ev.bytes;rw[<-a0];simp only[jw,io];have al:=ev.bytes_len dH.o;omega
 obtain⟨dV,df,cO⟩:=ct.o.below ab;obtain⟨bo,bI,bu⟩:=d0;have cK:ς (kb f.heap.size (D (J ⟨U.heap.size,0,O⟩) 1 1)) aL (fun T=>∀ l (bF:l<L (jw (gV bl (d+1) a ev.bytes))),lO T bo l (jw (gV bl (d+1) a ev.bytes))[l]):=by
  refine bu.sub fun b eg g2=>?_;rcases g2 with g2|g2
  .exact .inl ϊ
  .simp only[Value.ownBlock,Ο]at g2;exact .inl ϊ
 have c9:∀ ea∈bo,ea.oneCell'=true:=GC bI.1 bu.now;have bE:=Rd.of_own bI;rw[a0]at bE;obtain⟨dy,c3,c4,c5,c6⟩:=ϯ Cm;have V:=Zh df;have cw:=Zh cO;have cr:=Zh cK;have cy:=Zh (bE.src (P:=prog) (tx:=167) sD c9);have bj:=Zh a0;clear df bI cO bu cK c9 bE dg dr di dm bR aW cn bh ct ab a0;clear k d1 B m E n3 q s;obtain⟨⟨q,s⟩,-,-⟩:=ι a5;go_upto_region 18 with (at_builtin;go_loud (refine gn rfl _ _ _ _ rfl f.heap.size 256 dy _ 3 40 sD c3 c4 c5 c6 rfl (D (J ⟨U.heap.size,0,O⟩) 1 1) 1 dV (by rfl) V.o _ G bo (by rfl) cy.o ώ ϊ ϊ ?_;intro eF ah a1 aB dw _))
 obtain⟨cF,cG,rfl⟩:=Θ a1;have db:∀ au,(Value.slice (J ⟨U.heap.size,0,O⟩) 1 1).ownBlock=J au->f.heap.size<=au:=fun au hg=>(Ν V.o au hg).1;have bw:Below f.heap.size aL ah:=RZ.grown aB ϊ (fun au hg=>db au hg);have aZ:∀ b,b<aL.heap.size->b≠U.heap.size->ah.heap[b]?=aL.heap[b]?:=fun b al cH=>aB.block b al (fun e=>by simp only[Value.ownBlock,Ο]at e;exact cH e);have cN:=iZ.app V.o cw.o cr.o (by rw[bj.o];exact a1) aB dw;have ds:ah.heap[w.heap.size+1+1+1]?=_:=(aZ _ (ο b3) ϊ).trans b3;have dn:ah.heap[ag.heap.size]?=_:=(aZ _ (ο b0) ϊ).trans b0;have bS:ah.heap[ap.heap.size]?=_:=(aZ _ (ο a5) ϊ).trans a5;have es:aL.heap.size<=ah.heap.size:=aB.size;have bD:BQ w ah:=d2.trans (bw.mono ϊ);have bi:=Zh (dE.o.trans bw);have cS:=Ν a1;have co:=Zh cS;have aM:=CE (seq+1) (a+d) ah ϊ ϊ;rw[Int.natCast_add,Int.natCast_add,Int.natCast_one]at aM;have aM:=Zh aM;have cu:=Zh cN;clear q s a1 aB dw db bw aZ cN b3 b0 a5 V cw cr cy cS;obtain⟨⟨q,s⟩,-,-⟩:=ι bS;go_wp2_with fail
 refine aM.o.mono ?_;rintro e ce ⟨av,rfl,dd,bx⟩;have ac:=bx.alloc bx.size (C #[.bool true,ĭ .i64 0,D O 0 0,.bool false,ĭ .i64 (((seq:Int)+1) % 2),D (J ⟨av,0,O⟩) 64 64,.bool true,ĭ .i64 0,D O 0 0] 256);obtain⟨dW,bJ,cP⟩:=cu.o.below ac;have cJ:ς (kb f.heap.size (D cF (1+G) cG)) (å ce (C #[.bool true,ĭ .i64 0,D O 0 0,.bool false,ĭ .i64 (((seq:Int)+1) % 2),D (J ⟨av,0,O⟩) 64 64,.bool true,ĭ .i64 0,D O 0 0] 256)) (fun T=>∀ l (bF:l<L [gQ.sync,gQ.put ((seq+1) % 2) (ie (seq+1) (a+d)),gQ.sync]),lO T [.bool true,ĭ .i64 0,D O 0 0,.bool false,ĭ .i64 (((seq:Int)+1) % 2),D (J ⟨av,0,O⟩) 64 64,.bool true,ĭ .i64 0,D O 0 0] l [gQ.sync,gQ.put ((seq+1) % 2) (ie (seq+1) (a+d)),gQ.sync][l]):=by
  refine(ς.of_ownB (dd.alloc _) ϊ fun g hg=>(co.o g hg).2).imp fun T h l bF=>?_;rcases(show l=0\/l=1\/l=2 by simp at bF;omega)with rfl|rfl|rfl
  .exact⟨rfl,rfl,rfl⟩
  .exact⟨rfl,by rw[<-dC.o];rfl,_,rfl,h⟩
  .exact⟨rfl,rfl,rfl⟩
 have bG:L ([gQ.put ((seq+1) % 2) (ki 64)]++jw (gV bl (d+1) a ev.bytes))=1+G:=by rw[ω,bj.o];rfl
 have b6:=bJ;rw[bG]at b6;have V:=Zh b6;have cz:=Zh bJ;have cx:=Zh cP;have cq:=Zh cJ;have dK:=Zh bG;have b1:=θ ds ac;have bY:=θ dn ac;have bQ:=θ bS ac;have dD:=Zh (bi.o.trans (ac.mono bi.o.size));have eA:=ac.size;have cT:=bD.trans (ac.mono bD.size);clear q s bJ cP cJ b6 bG ac bx dd ds dn bS bD bi cu;go_upto_region 19 with (at_builtin;go_loud (refine gn rfl _ _ _ _ rfl f.heap.size 256 dy _ 3 40 sD c3 c4 c5 c6 rfl (D cF (1+G) cG) (1+G) dW (by rfl) V.o _ 3 [.bool true,ĭ .i64 0,D O 0 0,.bool false,ĭ .i64 (((seq:Int)+1) % 2),D (J ⟨av,0,O⟩) 64 64,.bool true,ĭ .i64 0,D O 0 0] (by rfl) (ig sD ce #[.bool true,ĭ .i64 0,D O 0 0,.bool false,ĭ .i64 (((seq:Int)+1) % 2),D (J ⟨av,0,O⟩) 64 64,.bool true,ĭ .i64 0,D O 0 0] 3 3 3 rfl ϗ) ώ ϊ ϊ ?_;intro eE t bH aX dv _))
 generalize(å ce (C #[.bool true,ĭ .i64 0,D O 0 0,.bool false,ĭ .i64 (((seq:Int)+1) % 2),D (J ⟨av,0,O⟩) 64 64,.bool true,ĭ .i64 0,D O 0 0] 256))=bn at *;obtain⟨aN,aO,rfl⟩:=Θ bH;have aY:∀ b,b<bn.heap.size->b<f.heap.size->t.heap[b]?=bn.heap[b]?:=fun b al cH=>aX.block b al (fun e=>by have:=(co.o b e.symm).1;omega);have bt:=iZ.app cz.o cx.o cq.o (by rw[dK.o];exact bH) aX dv;have d9:w.heap.size+1+1+1<f.heap.size:=ϊ;have dq:t.heap[w.heap.size+1+1+1]?=_:=(aY _ (ο b1) d9).trans b1;have d8:t.heap[ag.heap.size]?=_:=(aY _ (ο bY) ϊ).trans bY;have d7:t.heap[ap.heap.size]?=_:=(aY _ (ο bQ) ϊ).trans bQ;have bz:Below f.heap.size bn t:=RZ.grown aX ϊ (fun g hg=>(Ν V.o g hg).1);have cU:BQ w t:=cT.trans (bz.mono ϊ);have cA:=Zh (dP.o.below (dD.o.trans bz));have c7:L (iQ bl seq a ev.bytes)=1+G+3:=by
  unfold iQ;rw[aV,Ϧ,ω,bj.o];simp only[Ϧ,gF];omega
 have cL:=bt;rw[gM]at cL;have cv:Hid (iZ f.heap.size t (D aN (1+G+3) aO) (iQ bl seq a ev.bytes)):=by
  unfold iQ;rw[aV];exact bt
 have cp:=Zh c7;clear bH aX dv aY bt cL b1 bY bQ bz cT V cz cx cq c7;obtain⟨⟨q,s⟩,-,-⟩:=ι d7;obtain⟨⟨be,bf⟩,-,-⟩:=ι d8;have i:BQ t t.drew:=RZ.drew;refine ϸ (fun bm=>BQ t bm) 8 ϋ ?_;refine Zf 0 i ?_;refine Zf 1 i ?_;refine Zb 2 [6,8] i ?_ (hy:=by intro j c;have a9:=ζ c q;have bb:=ζ c s;have bd:=ζ c be;have dB:=ζ c bf;go_simp;try with_reducible rfl);refine Zf 3 i ?_;refine Zb 4 [6,8] i ?_ (hy:=by intro j c;have a9:=ζ c q;have bb:=ζ c s;have bd:=ζ c be;have dB:=ζ c bf;go_simp;try with_reducible rfl);refine Zb 5 [6,8] i ?_ (hy:=by intro j c;have a9:=ζ c q;have bb:=ζ c s;have bd:=ζ c be;have dB:=ζ c bf;go_simp;try with_reducible rfl);refine Zf 6 i ?_;refine Zf 7 i ?_;have b4:t.drew.heap[w.heap.size+1+1+1]?=_:=dq;have cV:=cU.drew;have dL:=Zh (cv.o.below i);have dQ:=Zh cA.o.drew;clear i cU cv cA dq q s be bf;generalize t.drew=wd at *;obtain⟨⟨cf,cg,ch,ci⟩,⟨bq,f1,f2,f3⟩,cj⟩:=Ϫ b4;have aj:=Zh (nD b4 (ĭ .i64 ((seq:Int)+1)) (ĭ .i64 ((a:Int)+(d:Int))) (D H (L y.1) M) (D I (L y.2) N));have ai:=Zh (oF cV (ϊ:w.heap.size<=w.heap.size+1+1+1) (ĭ .i64 ((seq:Int)+1)) (ĭ .i64 ((a:Int)+(d:Int))) (D H (L y.1) M) (D I (L y.2) N));refine Zl ?_;refine Ze 9 ?_;refine Zd ?_;have dJ:Hid (xf bl seq a ev.bytes y w (ŗ (.tuple #[D aN (1+G+3) aO,ā #[ĭ .i64 ((seq:Int)+1),ĭ .i64 ((a:Int)+(d:Int)),D H (L y.1) M,D I (L y.2) N],ĭ .i64 0])) (ŝ (ŝ (ŝ (ŝ wd ⟨w.heap.size+1+1+1,0,O⟩ (ĭ .i64 ((seq:Int)+1))) ⟨w.heap.size+1+1+1,1,O⟩ (ĭ .i64 ((a:Int)+(d:Int)))) ⟨w.heap.size+1+1+1,2,O⟩ (D H (L y.1) M)) ⟨w.heap.size+1+1+1,3,O⟩ (D I (L y.2) N))):=by
  refine⟨aN,aO,H,M,I,N,?_,?_,ai.o⟩
  .rw[cp.o,aV,Int.natCast_add,Int.natCast_add];rfl
  .have al:=(dL.o.hi.mono (ϊ:T.heap.size<=f.heap.size)).and dQ.o
   rw[<-cp.o]at al;exact((((al.set (p:=⟨w.heap.size+1+1+1,0,O⟩) aQ _).set (p:=⟨w.heap.size+1+1+1,1,O⟩) aQ _).set (p:=⟨w.heap.size+1+1+1,2,O⟩) aQ _).set (p:=⟨w.heap.size+1+1+1,3,O⟩) aQ _).mono ϊ
 clear cV b4;go_wp2;refine ϟ (v:=.tuple #[D aN (1+G+3) aO,ā #[ĭ .i64 ((seq:Int)+1),ĭ .i64 ((a:Int)+(d:Int)),D H (L y.1) M,D I (L y.2) N],ĭ .i64 0]) (vU (o:=6) (p:=7) (u:=8) (ty:=46) rfl _ _ (w.heap.size+1+1+1) 46 _ (0,0) _ rfl aj.o underlying46 rfl ϋ) rfl ?_;exact .inl ⟨y,bk.o,ϊ,dJ.o⟩
theorem uZ (bl:Ε):∀ (a ws:fV),hM (bl,ws) (jw a)=(bl,ws++a)
 |[],ws=>by simp[hM,jw]
 |x::a,ws=>by
  show hM (bl,ws++[(x.1,x.2)]) (jw a)=_;rw[uZ bl a];simp
theorem BE (d:Ε×fV) (l1 l2:List gQ):hM d (l1++l2)=hM (hM d l1) l2:=by simp[hM]
def km (bl:Ε) (seq a:Nat) (b:γ):fV:=((seq+1) % 2,lq)::gV bl (L b+1) a b
theorem uP (bl:Ε) (seq a:Nat) (b:γ):iQ bl seq a b=jw (km bl seq a b)++[.sync,.put ((seq+1) % 2) (ie (seq+1) (a+L b)),.sync]:=rfl
theorem yY (a:fV):L (jw a)=L a:=by simp[jw]
theorem Fc (bl:Ε):∀ (f p:Nat) (b:γ),L (gV bl f p b)<=(p % 64+L b+63) / 64
 |0,p,b=>by simp[gV]
 |f+1,p,b=>by
  unfold gV;split
  .simp
  .rename_i a
   have c:0<L b:=om.2 a;simp only[Ϧ];by_cases d:L b<=64 - p % 64
   .rw[show min (64 - p % 64) (L b)=L b from ϊ,List.drop_length]
    have:L (gV bl f (p+L b) [])=0:=by rw[Ff];rfl
    omega
   .have:=Fc bl f (p+min (64 - p % 64) (L b)) (b.drop (min (64 - p % 64) (L b)))
    rw[gb]at this;omega
theorem xP (bl:Ε) (seq a:Nat) (b:γ):L (iQ bl seq a b)=L (km bl seq a b)+3/\L (km bl seq a b)<=1+(L b / 64+2):=by
 rw[uP,ω,yY];refine⟨rfl,?_⟩;have:=Fc bl (L b+1) a b;simp only[km,Ϧ];omega
theorem Ex {a old:γ} (b:L a=64) (c:L old=64):iO 64 a old=a:=Nn ϊ ϊ
theorem vN {bl:Ε} {seq:Nat} {c b:γ} (h:ga bl seq c) (j:L c+L b<=Ϥ bl):∀ x∈km bl seq (L c) b,x.1<L bl/\L x.2=64/\∀ n a,(ga a seq c/\L a=L bl)->ga (a.set x.1 (iO n x.2 (a.getD x.1 []))) seq c/\L (a.set x.1 (iO n x.2 (a.getD x.1 [])))=L bl:=by
 intro x hx;have k:=h.n3;rcases gP.1 hx with rfl|hx
 .exact⟨by have:(seq+1) % 2<2:=lJ _ ϐ;simp only;omega,by simp[lq],fun n a ⟨d,e⟩=>⟨d.ff n,by simpa using e⟩⟩
 .obtain⟨g,i,f⟩:=zS h.l64 c h.log _ _ _ NZ j x hx
  exact⟨i,f.1,fun n a ⟨d,e⟩=>⟨d.wr n x.1 x.2 g ϊ f,by simpa using e⟩⟩
theorem Bj {bl:Ε} {seq:Nat} {a b:γ} (h:ga bl seq a) (d:L a+L b<=Ϥ bl):∀ c∈iQ bl seq (L a) b,c.ok (L bl):=by
 intro c hc;have f:=h.n3;have g:(seq+1) % 2<2:=lJ _ ϐ;rw[uP]at hc;rcases mg.1 hc with hc|hc
 .obtain⟨x,e,rfl⟩:=hI.1 hc
  exact⟨(vN h d x e).1,(vN h d x e).2.1⟩
 .simp only[gP,List.not_mem_nil,or_false]at hc
  rcases hc with rfl|rfl|rfl
  .exact trivial
  .exact⟨ϊ,oQ _ _⟩
  .exact trivial
theorem Ln {bl:Ε} {seq:Nat} {a b:γ} (h:ga bl seq a) (e:L a+L b<=Ϥ bl) (ks:List Int) (ws:fV) (f:∀ x∈ws,x∈km bl seq (L a) b):ga (gU ks bl ws) seq a:=
 (xY (P:=fun c=>ga c seq a/\L c=L bl) ks bl ws ⟨h,rfl⟩ (fun x g n c d=>(vN h e x (f x g)).2.2 n c d) (L ws)).1
theorem Lm {bl:Ε} {seq:Nat} {a b:γ} (h:ga bl seq a) (g:L a+L b<=Ϥ bl) (ws:fV) (i:∀ x∈ws,x∈km bl seq (L a) b):ga (gg bl ws) seq a:=by
 refine(ub (P:=fun c=>ga c seq a/\L c=L bl) bl ws ⟨h,rfl⟩ (fun x j c d=>?_) (L ws)).1;obtain⟨k,e,f⟩:=vN h g x (i x j);have:=f 64 c d;rwa [Ex e (d.1.at64 ϊ)]at this
theorem wu (bl:Ε) (ws:fV):L (gg bl ws)=L bl:=uc bl ws _
theorem Dt {bl:Ε} {seq:Nat} {a b:γ} (h:ga bl seq a) (c:L a+L b<=Ϥ bl):sK (gg bl (km bl seq (L a) b)) seq a (a++b):=by
 have l:Ϥ (gg bl (km bl seq (L a) b))=Ϥ bl:=by unfold Ϥ;rw[wu]
 have t:(seq+1) % 2<2:=lJ _ ϐ;have s:=h.n3;refine⟨Lm h c _ fun x f=>f,?_,by rw[l];simpa using c,?_⟩
 .unfold km
  rw[zy];refine ub (P:=fun g=>g.getD ((seq+1) % 2) []=lq) _ _ (rq _ _ _ _ ϊ) (fun x f g i=>?_) _;obtain⟨o,p,r⟩:=zS h.l64 a h.log _ _ _ NZ c x f;rw[lV _ _ _ _ _ ϊ];exact i
 .intro d k
  unfold km;rw[zy];have j:∀ q,2+L a / 64<=q->(bl.set ((seq+1) % 2) lq).getD q []=bl.getD q []:=fun q u=>lV _ _ _ _ _ ϊ;obtain⟨m,n⟩:=Ew h.l64 (L b+1) (L a) b (bl.set ((seq+1) % 2) lq) ϊ c ύ j;by_cases e:d<L a
  .rw[m d e]
   unfold lb;rw[lV _ _ _ _ _ ϊ];have:=h.log d e;unfold lb at this;rw[this];simp only[fR];rw[iX e]
  .simp only[ω]at k
   rw[n d ϊ ϊ];simp only[fR];rw[gO ϊ]
theorem Lk {bl:Ε} {seq:Nat} {a b:γ} (h:ga bl seq a) (d:L a+L b<=Ϥ bl) (e:seq+1<=4611686018427387904):(hM (bl,[]) (iQ bl seq (L a) b)).2=[]/\L (hM (bl,[]) (iQ bl seq (L a) b)).1=L bl/\ga (hM (bl,[]) (iQ bl seq (L a) b)).1 (seq+1) (a++b):=by
 rw[uP,BE,uZ];have c:=(Dt h d).done e;rw[ω]at c;refine⟨rfl,?_,?_⟩
 .show(L (gg (gg bl ([]++km bl seq (L a) b)) _))=_
  rw[wu,wu]
 .simpa[hM,sd,gg,kn] using c
theorem Ll {bl:Ε} {seq:Nat} {a b:γ} (h:ga bl seq a) (d:L a+L b<=Ϥ bl) (j:seq+1<=4611686018427387904) (F:Nat) (hF:F<L (iQ bl seq (L a) b)) (ks:List Int) :
  ga (gU ks (hM (bl,[]) ((iQ bl seq (L a) b).take F)).1 (hM (bl,[]) ((iQ bl seq (L a) b).take F)).2) seq a\/ga (gU ks (hM (bl,[]) ((iQ bl seq (L a) b).take F)).1 (hM (bl,[]) ((iQ bl seq (L a) b).take F)).2) (seq+1) (a++b):=by
 have g:=(xP bl seq (L a) b).1;rw[g]at hF;rw[uP,List.take_append,yY];generalize q:L (km bl seq (L a) b)=n at *;by_cases l:F<=n
 .left
  rw[show F - n=0 from ϊ,qR,im,show(jw (km bl seq (L a) b)).take F=jw ((km bl seq (L a) b).take F)from by simp[jw],uZ];exact Ln h d ks _ fun x k=>ni (by simpa using k)
 .have c:=Dt h d
  rw[gW (by rw[yY];omega),BE,uZ,jy];by_cases e:F=n+1
  .left
   rw[e,show n+1 - n=1 from ϊ];exact c.inv
  .have f:F=n+2:=ϊ
   rw[f,show n+2 - n=2 from ϊ];show ga ((gg bl (km bl seq (L a) b)).set ((seq+1) % 2) (iO (iR ks 0) (ie (seq+1) (L a+L b)) ((gg bl (km bl seq (L a) b)).getD ((seq+1) % 2) []))) seq a\/ga ((gg bl (km bl seq (L a) b)).set ((seq+1) % 2) (iO (iR ks 0) (ie (seq+1) (L a+L b)) ((gg bl (km bl seq (L a) b)).getD ((seq+1) % 2) []))) (seq+1) (a++b);have o:iR ks 0<=64:=by
    unfold iR;cases ks[0]? with
    |none=>simp
    |some x=>simp only;omega
   by_cases i:iR ks 0<64
   .left;exact c.torn _ i _ (oQ _ _)
   .right
    have m:=c.inv.n3;have p:(seq+1) % 2<2:=lJ _ ϐ;rw[show iR ks 0=64 from ϊ,Ex (oQ _ _) (c.inv.at64 ϊ)];have:=c.done j;rwa [ω]at this
structure ϰ where
 bl:Ε
 ws:fV
 seq:Int
 len:Int
 x:Ix
 up:Bool
 fuse:Int
structure jL where
 ba:Option Addr
 bc:Nat
 wa:Option Addr
 wc:Nat
 da:Option Addr
 dc:Nat
 sa:Option Addr
 sc:Nat
def gi (p:jL) (a:ϰ):Array ε:= #[D p.ba (L a.bl) p.bc,D p.wa (L a.ws) p.wc,IZ a.seq,IZ a.len,D p.da (L a.x.1) p.dc,D p.sa (L a.x.2) p.sc,.bool a.up,IZ a.fuse]
structure ka (w:β) (p:jL) (L:ϰ):Prop where
 b:Δ w (D p.ba L.bl.length p.bc) L.bl
 wt:hL w (D p.wa L.ws.length p.wc) L.ws
 d:Δ w (D p.da L.x.1.length p.dc) L.x.1
 s:ϧ L.x.1 w (D p.sa L.x.2.length p.sc) L.x.2
structure qb (L:ϰ):Prop where
 dk:ja L.bl L.ws
 x:jA L.x
theorem ka.below {w w':β} {p:jL} {b:ϰ} (h:ka w p b) (a:BQ w w'):ka w' p b:=⟨h.b.below a,h.wt.below a,h.d.below a,h.s.below a⟩
def uF (ws:fV) (b:List ε) (k:Nat) (w:β):Prop:= ∀ a (hi:a<L ws),a<k->b[a*2]?=J (IZ ws[a].1)/\∃ c,b[a*2+1]?=J c/\Rd w c (L ws[a].2) 1 (η ws[a].2)
def ux (b:List υ) (c:List ε) (k:Nat) (w:β):Prop:= ∀ a (hi:a<L b),a<k->c[a*2]?=J (ϴ b[a].1)/\∃ d,c[a*2+1]?=J d/\Rd w d (L b[a].2) 1 (τ b[a].2)
theorem ς.own {H:Nat->Prop} {w:β} {base:Nat} {e:TypeId} {size:Nat} {v:ε} {n:Nat} {xs:List ε} (h:w.ownsRow base e size v n xs) (j:∀ g,v.ownBlock=J g->¬H g):ς H w (fun b=>Rd b v n size xs):=by
 intro b d;refine Rd.of_own (base:=base) (e:=e) ⟨h.1,?_⟩;rcases h.2 with g|⟨g,c,cur,a,f,hg,i⟩
 .exact .inl g
 .exact .inr ⟨g,c,cur,a,f,by rw[d g (ο hg) (j g (by rw[a];rfl))];exact hg,i⟩
theorem BG {w:β} {f:Option Addr} {n c:Nat} {docs:List (γ)} (m:L docs=n) (h:Δ w (D f n c) docs):∃ d,Rd w (D f n c) n 1 d/\(∀ u∈d,u.oneCell'=true)/\Hid (∀ k (e:k<L docs),∃ a c,d[k]?=J (D a (L docs[k]) c)/\Rd w (D a (L docs[k]) c) (L docs[k]) 1 (η docs[k])):=by
 subst m;obtain⟨d,i,l⟩:=h;have j:∀ k (e:k<L docs),∃ a c,d[k]?=J (D a (L docs[k]) c)/\Rd w (D a (L docs[k]) c) (L docs[k]) 1 (η docs[k]):=by
  intro k e;obtain⟨r,b,g⟩:=l k e;obtain⟨q,c,rfl,-⟩:=g.from
  exact⟨q,c,b,g⟩
 refine⟨d,i,fun u o=>?_,j⟩;obtain⟨p,hi,rfl⟩:=pM o;obtain⟨a,c,b,-⟩:=j p (by have:=i.1;omega);rw[Ρ hi]at b;injection b with b;rw[b];rfl
theorem EL {w:β} {i:Option Addr} {n c:Nat} {ws:fV} (p:L ws=n) (h:hL w (D i n c) ws):∃ b,Rd w (D i n c) n 2 b/\(∀ u∈b,u.oneCell'=true)/\Hid (∀ k (g:k<L ws),∃ a c,b[k*2]?=J (IZ ws[k].1)/\b[k*2+1]?=J (D a (L ws[k].2) c)/\Rd w (D a (L ws[k].2) c) (L ws[k].2) 1 (η ws[k].2)):=by
 subst p;obtain⟨b,l,o⟩:=h;have m:∀ k (g:k<L ws),∃ a c,b[k*2]?=J (IZ ws[k].1)/\b[k*2+1]?=J (D a (L ws[k].2) c)/\Rd w (D a (L ws[k].2) c) (L ws[k].2) 1 (η ws[k].2):=by
  intro k g;obtain⟨d,s,e,j⟩:=o k g;obtain⟨r,c,rfl,-⟩:=j.from
  exact⟨r,c,d,e,j⟩
 refine⟨b,l,fun u q=>?_,m⟩;obtain⟨f,hi,rfl⟩:=pM q;obtain⟨a,c,d,e,-⟩:=m (f / 2) (by have:=l.1;omega);rcases wL f with h|h
 .rw[show f / 2*2=f from ϊ,Ρ hi]at d
  injection d with d;rw[d];rfl
 .rw[show f / 2*2+1=f from ϊ,Ρ hi]at e
  injection e with e;rw[e];rfl
theorem DV {docs:List (γ)} {w:β} {j:Option Addr} {n c:Nat} {ps:List (Nat×Nat)} (q:L ps=n) (h:ϧ docs w (D j n c) ps):∃ d,Rd w (D j n c) n 3 d/\(∀ u∈d,u.oneCell'=true)/\Hid (∀ k (i:k<L ps),∃ a c,d[k*3]?=J (IZ ps[k].1)/\d[k*3+1]?=J (IZ ps[k].2)/\d[k*3+2]?=J (D a (L (Α docs ps[k])) c)/\fY w (D a (L (Α docs ps[k])) c) (L (Α docs ps[k])) (Α docs ps[k])):=by
 subst q;obtain⟨d,m,p⟩:=h;have o:∀ k (i:k<L ps),∃ a c,d[k*3]?=J (IZ ps[k].1)/\d[k*3+1]?=J (IZ ps[k].2)/\d[k*3+2]?=J (D a (L (Α docs ps[k])) c)/\fY w (D a (L (Α docs ps[k])) c) (L (Α docs ps[k])) (Α docs ps[k]):=by
  intro k i;obtain⟨e,f,u,g,l⟩:=p k i;obtain⟨a,c,rfl,-⟩:=iF l;exact⟨a,c,e,f,g,l⟩
 refine⟨d,m,fun u r=>?_,o⟩;obtain⟨b,hi,rfl⟩:=pM r;obtain⟨a,c,e,f,g,-⟩:=o (b / 3) (by have:=m.1;omega);rcases(ϊ:b % 3=0\/b % 3=1\/b % 3=2)with h|h|h
 .rw[show b / 3*3=b from ϊ,Ρ hi]at e
  injection e with e;rw[e];rfl
 .rw[show b / 3*3+1=b from ϊ,Ρ hi]at f
  injection f with f;rw[f];rfl
 .rw[show b / 3*3+2=b from ϊ,Ρ hi]at g
  injection g with g;rw[g];rfl
theorem BB {w:β} {j:Option Addr} {n c:Nat} {d:List υ} (q:L d=n) (h:fY w (D j n c) n d):∃ b,Rd w (D j n c) n 2 b/\(∀ u∈b,u.oneCell'=true)/\Hid (∀ k (i:k<L d),∃ a c,b[k*2]?=J (ϴ d[k].1)/\b[k*2+1]?=J (D a (L d[k].2) c)/\Rd w (D a (L d[k].2) c) (L d[k].2) 1 (τ d[k].2)):=by
 subst q;obtain⟨-,b,m,p⟩:=h;have o:∀ k (i:k<L d),∃ a c,b[k*2]?=J (ϴ d[k].1)/\b[k*2+1]?=J (D a (L d[k].2) c)/\Rd w (D a (L d[k].2) c) (L d[k].2) 1 (τ d[k].2):=by
  intro k i;obtain⟨e,s,f,l⟩:=p k i;obtain⟨a,c,rfl,-⟩:=jQ rfl l;exact⟨a,c,e,f,l⟩
 refine⟨b,m,fun u r=>?_,o⟩;obtain⟨g,hi,rfl⟩:=pM r;obtain⟨a,c,e,f,-⟩:=o (g / 2) (by have:=m.1;omega);rcases wL g with h|h
 .rw[show g / 2*2=g from ϊ,Ρ hi]at e
  injection e with e;rw[e];rfl
 .rw[show g / 2*2+1=g from ϊ,Ρ hi]at f
  injection f with f;rw[f];rfl
theorem ϳ {w:β} {g:Nat} {a b c d e f i j:ε} {T:TypeId} (h:w.heap[g]?=J (C #[a,b,c,d,e,f,i,j] T (0,0))):(w.cell? ⟨g,0,O⟩=J a/\w.cell? ⟨g,1,O⟩=J b/\w.cell? ⟨g,2,O⟩=J c/\w.cell? ⟨g,3,O⟩=J d/\w.cell? ⟨g,4,O⟩=J e/\w.cell? ⟨g,5,O⟩=J f/\w.cell? ⟨g,6,O⟩=J i/\w.cell? ⟨g,7,O⟩=J j)/\(∀ o,w.frozen? ⟨g,o,O⟩=false)/\g<w.heap.size:=
 ⟨⟨ν _ _ 0 _ _ _ h,ν _ _ 1 _ _ _ h,ν _ _ 2 _ _ _ h,ν _ _ 3 _ _ _ h,ν _ _ 4 _ _ _ h,ν _ _ 5 _ _ _ h,ν _ _ 6 _ _ _ h,ν _ _ 7 _ _ _ h⟩,fun o=>ϥ _ _ o _ _ h,ο h⟩
