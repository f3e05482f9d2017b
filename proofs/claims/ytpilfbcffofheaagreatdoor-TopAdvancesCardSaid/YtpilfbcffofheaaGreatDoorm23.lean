/- Part 23 of the proof. -/
import Derived.Test.YtpilfbcffofheaaGreatDoorm19
import Derived.Test.YtpilfbcffofheaaGreatDoorm22
set_option linter.all false
set_option maxRecDepth 100000
set_option maxHeartbeats 16000000
namespace Go.Proofs.YtpilfbcffofheaaGreatDoor
open Go.RowKit Go.Proofs.Tryz Go.Sort
open Value renaming slice->D,int->ĭ,agg->ā,pointer->þ
open Option renaming none->O,some->J
open List renaming length->L
open Obj renaming cells->C
open Ending renaming returned->ŗ
open World renaming alloc->å,setCell->ŝ
def LS (a b:Nat) (f:a<=4611686018427387904) (g:b<=4611686018427387904):mf (a:Int) (b:Int) 2=J (ο 2++ο a++ο b):=by
 have d:oc (a:Int):=⟨U,U⟩;have e:oc (b:Int):=⟨U,U⟩;have c:mf (a:Int) (b:Int) 1=J (ο 2++ο a):=by
  show(if oc (a:Int)then J (ο 2++ο ((a:Int).toNat))else O)=_;rw[μ d,vZ]
 rw[ve,c];show(if oc (b:Int)then J (ο 2++ο a++ο ((b:Int).toNat))else O)=_;rw[μ e,vZ]
def KZ (ev kd ei em va vn vc) (w:β) (f:ou w kd ei em va vn vc ev) (l:ev.ok) :
  Calls prog 154 #[ā (jc kd ei em va vn vc)] w (mG ev.bytes w):=by
 cases ev with
 |doc d =>
  obtain⟨rfl,h,i⟩:=f;exact La ei em va vn vc d w h i (by simp only[Ev.ok]at l;omega)
 |flush =>
  obtain rfl:kd=1:=f;exact DM 1 ei em va vn vc w (.inl rfl)
 |merge a b =>
  obtain⟨rfl,rfl,rfl,h,i⟩:=f;refine(DN _ _ va vn vc w).M ?_;rintro e o ⟨m,f,g,k⟩;rw[LS a b h i]at f g;obtain⟨j,n,c,rfl,g⟩:=g;exact⟨j,n,c,f,by rw[show Ev.bytes (.merge a b)=ο 2++ο a++ο b by simp[Ev.bytes]];exact g,k⟩
 |settle =>
  obtain rfl:kd=3:=f;exact DM 3 ei em va vn vc w (.inr rfl)
def jD.one {base} {w:β} {a} {d g:Nat} {b:γ} (k:a=(d:Int)) (l:base<=w.heap.size) (j:Hi base w (fun c=>Rd c (D (J ⟨g,0,O⟩) 64 64) (L b) 1 (η b))) :
  jD base (å w (C #[.bool false,ĭ .i64 a,D (J ⟨g,0,O⟩) 64 64] 256)) (D (J ⟨w.heap.size,0,O⟩) 1 1) [.put d b]:=by
 refine⟨[.bool false,ĭ _ a,D _ _ _],⟨rfl,.inr ⟨ _,1,_,rfl,l,φ w _,NZ,ώ,rfl,rfl⟩⟩,?_⟩;intro c f m e;obtain rfl:m=0:=by simp at e;exact e
 refine⟨rfl,by rw[k];rfl,_,rfl,j c fun q n i=>(f q ό ?_).trans (hM w _ q i)⟩;rintro(h|h)
 .omega
 .simp only[Value.ownBlock,Φ]at h;omega
def jx (d:ϸ) (c a:Nat) (b:γ):List jw:=
 jw.put ((c+1) % 2) (lk 64)::(jV (ig d (L b+1) a b)++[.sync,.put ((c+1) % 2) (iN (c+1) (a+L b)),.sync])
def yG (j:ϸ) (i d:Nat) (b:γ) (y:Ix) (w:β) (e:Ending) (k:β):Prop:=
 ∃ a c g c1 h c2,e=ŗ (.tuple #[D a (L (jx j i d b)) c,ā #[ĭ .i64 ((i+1:Nat):Int),ĭ .i64 ((d+L b:Nat):Int),D g (L y.1) c1,D h (L y.2) c2],ĭ .i64 0]) /\
  Hi w.heap.size k (fun f=>rv f (D a (L (jx j i d b)) c) (jx j i d b)/\Ε f (D g (L y.1) c1) y.1/\ϣ y.1 f (D h (L y.2) c2) y.2)/\Below w.heap.size w k
def yF (w:β) (e:Ending) (b:β):Prop:= ∃ a:Nat,0<a/\a<10/\e=ŗ (.tuple #[D O 0 0,ā #[ĭ .i64 0,ĭ .i64 0,D O 0 0,D O 0 0],ĭ .i64 (a:Int)])/\Below w.heap.size w b
def yH (f:ϸ) (c b:Nat) (x:Ix) (r:Option Ev) (w:β) (e:Ending) (d:β):Prop:=match r with
 |none=>yF w e d
 |some a=>(∃ y,gA x a=J y/\b+L a.bytes<=Ϯ f/\yG f c b a.bytes y w e d)\/((gA x a=O\/Ϯ f<b+L a.bytes)/\yF w e d)
def ot (w:β) (g h f:Int) (c:Option Addr) (e d:Nat):Option Ev->Prop
 |some b=>ou w g h f c e d b/\b.ok
 |none=>∀ a,Below w.heap.size w a->Calls prog 154 #[ā (jc g h f c e d)] a (yD a)
def JQ (kd ei em va vn vc) (d:γ) (w:β) (o:L d=vn) (h:Rd w (D va vn vc) vn 1 (η d)):∃ r,ot w kd ei em va vn vc r/\(r=O\/(kd=0/\r=J (.doc d))\/(kd≠0/\∃ g,r=J g/\uS g=[])):=by
 by_cases b:kd=0
 .subst b
  by_cases u:vn<=2000
  .exact⟨J (.doc d),⟨⟨rfl,o,h⟩,by simp only[Ev.ok];omega⟩,.inr (.inl ⟨rfl,rfl⟩)⟩
  .exact⟨O,fun a _=>Lb ei em va vn vc a U,.inl rfl⟩
 .by_cases l:kd=1
  .exact⟨J .flush,⟨l,trivial⟩,.inr (.inr ⟨b,_,rfl,rfl⟩)⟩
  .by_cases m:kd=2
   .subst m
    by_cases k:oc ei/\oc em
    .obtain⟨⟨s,t⟩,b1,b2⟩:=k
     exact⟨J (.merge ei.toNat em.toNat),⟨⟨rfl,U,U,U,U⟩,by simp only[Ev.ok];omega⟩,.inr (.inr ⟨b,_,rfl,rfl⟩)⟩
    .refine⟨O,fun a _=>(DN ei em va vn vc a).M ?_,.inl rfl⟩
     rintro e v ⟨q,i,j,f⟩;have p:mf ei em 2=O:=by
      rw[ve,ve];simp only[mf,od,if_true];by_cases c:oc ei
      .rw[μ c]
       simp only[κ (ϐ:¬(1:Nat)=0)];rw[κ fun f=>k ⟨c,f⟩]
      .rw[κ c]
     rw[p]at i j;obtain rfl:q=D O 0 0:=j;exact⟨i,f⟩
   .by_cases n:kd=3
    .exact⟨J .settle,⟨n,trivial⟩,.inr (.inr ⟨b,_,rfl,rfl⟩)⟩
    .exact⟨O,fun a _=>Lc kd ei em va vn vc a U,.inl rfl⟩
def xG {P fn} {o p u:Tmp} {ty} (h:fn.results=#[.tmp o,.cell p ty,.tmp u]) (i:Array ε) (w:β) (g t) (a:Array ε) (fr d)
  (c:i.getD p undef=þ (J ⟨g,0,O⟩)) (j:w.heap[g]?=J (C a t fr))
  (f:P.underlying ty=J d) (b:(match d with|.struct _|.array _ _=>true|_=>false)=true) (k:(P.info? ty).map (·.size)=J a.size) :
  (results fn i).run P w=.ok (.tuple #[i.getD o undef,ā a,i.getD u undef]) w:=by
 have e:i[p]?.getD undef=þ (J ⟨g,0,O⟩):=by simpa using c
 simp[results,h,e,asAddr,vR w g t ty a fr d j f b k]
def IE {w:β} {f:List ε} {l:List jw} (x:L f=L l*3) (h:∀ k (v:k<L l),mF w f k l[k]):∀ u∈f,u.oneCell'=true:=by
 intro u r;obtain⟨e,hi,rfl⟩:=rk r;have g:=h (e / 3) U;have s:∃ a b c,f[e / 3*3]?=J a/\f[e / 3*3+1]?=J b/\f[e / 3*3+2]?=J c/\a.oneCell'=true/\b.oneCell'=true/\c.oneCell'=true:=by
  generalize l[e / 3]' U=d at g;cases d with
  |sync=>exact⟨_,_,_,g.1,g.2.1,g.2.2,rfl,rfl,rfl⟩
  |put a b =>
   obtain⟨n,o,u,p,q⟩:=g;obtain⟨y,c,rfl,-⟩:=q.from
   exact⟨_,_,_,n,o,p,rfl,rfl,rfl⟩
 obtain⟨a,b,c,i,j,m,t,o1,o2⟩:=s;rcases(U:e % 3=0\/e % 3=1\/e % 3=2)with h|h|h
 .rw[show e / 3*3=e from U,Ρ hi]at i
  injection i with i;rw[i];exact t
 .rw[show e / 3*3+1=e from U,Ρ hi]at j
  injection j with j;rw[j];exact o1
 .rw[show e / 3*3+2=e from U,Ρ hi]at m
  injection m with m;rw[m];exact o2
def Ld (ď:Nat) (T:List Ev) (x:Ix) (r:Option Ev) (ba:Option Addr) (bc:Nat) (wa:Option Addr) (af:Nat) (bl:ϸ) (da:Option Addr) (dc:Nat) (sa:Option Addr) (sc:Nat) (kd ei em:Int) (ab:Option Addr) (ad ac:Nat) (w:β) (cm:ϭ w) (aB:Ε w (D ba (L bl) bc) bl) (H:gr bl ď (fQ T)) (dx:∀ e∈T,e.ok) (cn:hO ([],[]) T=J x) (co:L x.1<=40)
  (dU:Ε w (D da (L x.1) dc) x.1) (dV:ϣ x.1 w (D sa (L x.2) sc) x.2) (en:ď<4611686018427387904) (bL:ot w kd ei em ab ad ac r) :
  Calls prog 90 #[ā #[D ba (L bl) bc,D wa 0 af],ā #[ĭ .i64 (ď:Int),ĭ .i64 ((L (fQ T):Nat):Int),D da (L x.1) dc,D sa (L x.2) sc],ā (jc kd ei em ab ad ac)] w (yH bl ď (L (fQ T)) x r w):=by
 have dC:jg bl []:=⟨H.nb,ύ,H.l64,ύ⟩;have dY:kk x:=vt kk.start cn;have bk:=Zh (fun i (d:BQ w i)=>Aa ď T x ba bc wa af bl i (cm.B d) (aB.B d) H dx cn co);have ag:=Zh (fun ev (h:ou w kd ei em ab ad ac ev) i (d:BQ w i)=>DO ev (L x.1) (L x.2) da dc sa sc x.1 x.2 (lT x.2) kd ei em ab ad ac i rfl rfl (cm.B d) (dU.B d) (dV.B d) dY co (h.B d));have an:=Zh bL;have cX:=Zh (fun i (d:BQ w i)=>DQ ba bc wa af bl [] i (aB.B d) (qL i wa af) dC (ι H.n3));obtain⟨a,aR⟩:∃ a:Nat,L (fQ T)=a:=⟨_,rfl⟩;have eg:a<=Ϯ bl:=by rw[<-aR];exact H.le
 rw[aR]at bk;rw[aR];have⟨aQ,cK⟩:=π H aB;have el:Ϯ bl<=262016:=by have:=H.nb;unfold Ϯ;omega
 clear aB H bL;obtain⟨bW,cc,b2,dQ,bC⟩:=Dr (w:=w) (A:=C #[D ba (L bl) bc,D wa 0 af] 41) (Z:=C #[ĭ .i64 (ď:Int),ĭ .i64 (a:Int),D da (L x.1) dc,D sa (L x.2) sc] 46) (Y:=C (jc kd ei em ab ad ac) 33) (X:=C #[ĭ .i64 0,ĭ .i64 0,D O 0 0,D O 0 0] 46);go_enter func90,ntmps90;go_upto_region 1 with fail
 generalize å (å (å (å w (C #[D ba (L bl) bc,D wa 0 af] 41)) (C #[ĭ .i64 (ď:Int),ĭ .i64 (a:Int),D da (L x.1) dc,D sa (L x.2) sc] 46)) (C (jc kd ei em ab ad ac) 33)) (C #[ĭ .i64 0,ĭ .i64 0,D O 0 0,D O 0 0] 46)=c8 at *;obtain⟨⟨S,d1⟩,-,-⟩:=ν bW;obtain⟨⟨cs,ct,cu,cv⟩,-,-⟩:=ϩ cc;obtain⟨⟨cw,cx,cy,cz⟩,-,-⟩:=ϩ b2;go_wp2_with fail
 refine(bk.o _ bC).M ?_;rintro e a8 ⟨a4,a6,a5,a7,rfl,-,dj⟩;have ap:BQ c8 (å a8 (C #[ĭ .i64 (ď:Int),ĭ .i64 (a:Int),D a4 (L x.1) a6,D a5 (L x.2) a7] 46)):=dj.al _;have b7:=φ a8 (C #[ĭ .i64 (ď:Int),ĭ .i64 (a:Int),D a4 (L x.1) a6,D a5 (L x.2) a7] 46);go_upto_region 4 with fail
 generalize å a8 (C #[ĭ .i64 (ď:Int),ĭ .i64 (a:Int),D a4 (L x.1) a6,D a5 (L x.2) a7] 46)=d7 at *;have bX:=θ bW ap;have cd:=θ cc ap;have b3:=θ b2 ap;have ch:=θ dQ ap;have aE:=bC.t ap;obtain⟨⟨S,d1⟩,-,-⟩:=ν bX;obtain⟨⟨cs,ct,cu,cv⟩,-,-⟩:=ϩ cd;obtain⟨⟨cw,cx,cy,cz⟩,-,-⟩:=ϩ b3;obtain⟨⟨au,am,av,n3⟩,-,-⟩:=ϩ b7;rcases r with _|ev
 .go_wp2_with fail
  refine(an.o _ aE).M ?_;rintro e F ⟨rfl,m⟩;have al:=θ ch m;have ak:=aE.t m;obtain⟨⟨bb,bd,be,bf⟩,⟨aO,f1,f2,f3⟩,bg⟩:=ϩ al;have⟨R,Q⟩:=π (oh al (ĭ .i64 0) (ĭ .i64 0) (D O 0 0) (D O 0 0)) (pd ak (U:w.heap.size<=w.heap.size+1+1+1) (ĭ .i64 0) (ĭ .i64 0) (D O 0 0) (D O 0 0));go_wp2;refine Ω (v:=.tuple #[D O 0 0,ā #[ĭ .i64 0,ĭ .i64 0,D O 0 0,D O 0 0],ĭ .i64 1]) (xG (o:=6) (p:=7) (u:=8) (ty:=46) rfl _ _ (w.heap.size+1+1+1) 46 _ (0,0) _ rfl R.o underlying46 rfl ϋ) rfl ?_;exact⟨1,U,U,rfl,Q.o⟩
 have cJ:=Zh (fun i (d:BQ w i)=>KZ ev kd ei em ab ad ac i (an.o.1.B d) an.o.2);have⟨cL,ag⟩:=π an.o.2 (ag.o ev an.o.1);go_wp2_with fail
 refine(cJ.o _ aE).M ?_;rintro e F ⟨db,c,dd,rfl,bT,m⟩;have bY:=θ bX m;have dK:=θ cd m;have dH:=θ b3 m;have al:=θ ch m;have b8:=θ b7 m;have ak:=aE.t m;have cB:=Zh bT;have ep:=m.size;have aA:=ς al;obtain⟨⟨S,d1⟩,-,-⟩:=ν bY;obtain⟨⟨cs,ct,cu,cv⟩,-,-⟩:=ϩ dK;obtain⟨⟨cw,cx,cy,cz⟩,-,-⟩:=ϩ dH;obtain⟨⟨au,am,av,n3⟩,-,-⟩:=ϩ b8;clear bT;rcases hyy:gA x ev with _|y
 .rw[show gA (x.1,x.2) ev=O from hyy]at ag
  have aK:=Zh hyy;clear hyy;go_wp2_with fail
  refine(ag.o _ ak).M ?_;rintro e M ⟨bn,cq,c1,bo,cr,c2,br,dv,dw,rfl,aC⟩;have I:BQ F (å M (C #[D bn cq c1,D bo cr c2] 44)):=aC.al _;go_upto_region 10 with fail
  generalize å M (C #[D bn cq c1,D bo cr c2] 44)=ao at *;have aI:=θ al I;have aF:=ak.t I;obtain⟨⟨bb,bd,be,bf⟩,⟨aO,f1,f2,f3⟩,bg⟩:=ϩ aI;have⟨R,Q⟩:=π (oh aI (ĭ .i64 0) (ĭ .i64 0) (D O 0 0) (D O 0 0)) (pd aF (U:w.heap.size<=w.heap.size+1+1+1) (ĭ .i64 0) (ĭ .i64 0) (D O 0 0) (D O 0 0));go_wp2;refine Ω (v:=.tuple #[D O 0 0,ā #[ĭ .i64 0,ĭ .i64 0,D O 0 0,D O 0 0],ĭ .i64 (br:Int)]) (xG (o:=6) (p:=7) (u:=8) (ty:=46) rfl _ _ (w.heap.size+1+1+1) 46 _ (0,0) _ rfl R.o underlying46 rfl ϋ) rfl ?_;exact .inr ⟨.inl aK.o,br,dv,dw,rfl,Q.o⟩
 rw[show gA (x.1,x.2) ev=J y from hyy]at ag;have aK:=Zh hyy;clear hyy;go_wp2_with fail
 refine(ag.o _ ak).M ?_;rintro e M ⟨q,t,s,z,rfl,dA,aC⟩;have I:BQ F (å M (C #[D q (L y.1) t,D s (L y.2) z] 44)):=aC.al _;have dL:=φ M (C #[D q (L y.1) t,D s (L y.2) z] 44);have bM:=dA.A (C #[D q (L y.1) t,D s (L y.2) z] 44);have eq:=aC.size;go_upto_region 10 with fail
 generalize å M (C #[D q (L y.1) t,D s (L y.2) z] 44)=ao at *;have bZ:=θ bY I;have aI:=θ al I;have b9:=θ b8 I;have aF:=ak.t I;have⟨bh,c4⟩:=π (cB.o.B I) bM;obtain⟨⟨S,d1⟩,-,-⟩:=ν bZ;obtain⟨⟨au,am,av,n3⟩,-,-⟩:=ϩ b9;clear bM;obtain⟨d9,eh⟩:∃ k:Nat,k=c:=⟨_,rfl⟩;have aD:L ev.bytes=c:=bh.o.1;have eb:IntKind.i64.wrap (((Ϯ bl:Nat):Int) - (a:Int))=((Ϯ bl:Nat):Int) - (a:Int):=Ϗ;go_upto_region 12 with fail
 have j:BQ ao ao.drew:=RZ.drew;refine ϯ (fun aL=>BQ ao aL) 6 ϋ ?_;refine Zf 0 j ?_;refine Zf 1 j ?_;refine Zb 2 [3,6] j ?_ (hy:=by intro i d;have d0:=ζ d S;have d2:=ζ d d1;go_simp;try with_reducible rfl);refine Zf 4 j ?_;refine Zk 5 j ?_ (hy:=by intro i d;have d3:=ζ d am;go_simp;try with_reducible rfl);refine Κ (fuel:=2) 3 ϋ rfl ?_;intro e0 dg;go_simp;refine(cX.o _ (aF.t j)).M ?_;rintro e ae ⟨rfl,dm⟩;have B:BQ ao ae:=j.trans dm;refine dg _ _ B ?_;try simp only[Act.put]
 refine Zl ?_;refine Zf 7 B ?_;refine Zd ?_;have b0:=θ bZ B;have a2:=θ aI B;have ca:=θ b9 B;have bI:=aF.t B;have⟨cC,c5⟩:=π (bh.o.B B) (c4.o.B B);have dN:=θ dL B;obtain⟨⟨S,d1⟩,-,-⟩:=ν b0;obtain⟨⟨au,am,av,n3⟩,-,-⟩:=ϩ ca;by_cases dy:¬a+c<=Ϯ bl
 .have dB:((Ϯ bl:Nat):Int) - (a:Int)<(c:Int):=U
  obtain⟨⟨bb,bd,be,bf⟩,⟨aO,f1,f2,f3⟩,bg⟩:=ϩ a2;have⟨R,Q,cM⟩:=ϲ (oh a2 (ĭ .i64 0) (ĭ .i64 0) (D O 0 0) (D O 0 0)) (pd bI (U:w.heap.size<=w.heap.size+1+1+1) (ĭ .i64 0) (ĭ .i64 0) (D O 0 0) (D O 0 0)) (U:Ϯ bl<a+L ev.bytes);go_wp2;refine Ω (v:=.tuple #[D O 0 0,ā #[ĭ .i64 0,ĭ .i64 0,D O 0 0,D O 0 0],ĭ .i64 3]) (xG (o:=6) (p:=7) (u:=8) (ty:=46) rfl _ _ (w.heap.size+1+1+1) 46 _ (0,0) _ rfl R.o underlying46 rfl ϋ) rfl ?_;exact .inr ⟨.inr cM.o,3,U,U,rfl,Q.o⟩
 have dB:¬((Ϯ bl:Nat):Int) - (a:Int)<(c:Int):=U;have dy:a+c<=Ϯ bl:=U;have ec:IntKind.i64.wrap ((ď:Int)+1)=((ď+1:Nat):Int):=Ϗ;have ed:IntKind.i64.wrap ((a:Int)+(c:Int))=((a+c:Nat):Int):=Ϗ;go_upto_region 15 with fail
 have V:BQ ae (å ae (C #[ĭ .i64 ((ď:Int)+1),ĭ .i64 ((a:Int)+(c:Int))] 206)):=ġ;have a0:=φ ae (C #[ĭ .i64 ((ď:Int)+1),ĭ .i64 ((a:Int)+(c:Int))] 206);generalize å ae (C #[ĭ .i64 ((ď:Int)+1),ĭ .i64 ((a:Int)+(c:Int))] 206)=f at *;have b1:=θ b0 V;have cj:=θ a2 V;have cb:=θ ca V;have cf:=θ dN V;have dr:=bI.t V;have⟨cD,c6⟩:=π (cC.o.B V) (c5.o.B V);have eu:=ς a0;have ex:=ς cj;have ew:=ς cf;obtain⟨⟨S,d1⟩,-,-⟩:=ν b1;obtain⟨⟨au,am,av,n3⟩,-,-⟩:=ϩ cb;obtain⟨⟨aq,ar⟩,-,-⟩:=ν a0;have ee:IntKind.i64.wrap (((ď:Int)+1).tmod 2)=((ď:Int)+1) % 2:=by rw[Int.tmod_eq_emod_of_nonneg U,kD];omega
 go_upto_region 16 with fail
 have dl:Rd (å f (C #[ĭ .u8 255] 5)) (D (J ⟨f.heap.size,0,O⟩) 1 1) 1 1 (η [255]):=jl f #[ĭ .u8 255] 5 1 [255] rfl (by rfl) ώ;have cY:=Zh (On (J ⟨f.heap.size,0,O⟩) 1 _ dl);have dn:BQ f (å f (C #[ĭ .u8 255] 5)):=ġ;go_wp2_with fail
 refine cY.o.M ?_;rintro e g ⟨aP,rfl,dz,bG⟩;have bF:=dn.t bG;have aS:((ď:Int)+1) % 2=(((ď+1) % 2:Nat):Int):=U;have bw:=(jD.one (b:=lk 64) aS (gj NZ bG.size) (by simpa[lk] using dz)).M (base':=f.heap.size) ύ;have cA:=Zh aS;have E:BQ f (å g (C #[.bool false,ĭ .i64 (((ď:Int)+1) % 2),D (J ⟨aP,0,O⟩) 64 64] 256)):=bF.al _;clear aS;go_upto_region 17 with fail
 have er:g.heap.size<(å g (C #[.bool false,ĭ .i64 (((ď:Int)+1) % 2),D (J ⟨aP,0,O⟩) 64 64] 256)).heap.size:=ύ;generalize å g (C #[.bool false,ĭ .i64 (((ď:Int)+1) % 2),D (J ⟨aP,0,O⟩) 64 64] 256)=c9 at *;have dG:=θ b1 E;have dS:=θ cj E;have dJ:=θ cb E;have dO:=θ cf E;have b5:=θ a0 E;have bJ:=dr.t E;have⟨cE,cG,cR⟩:=ϲ (cD.o.B E) E bw;obtain⟨⟨S,d1⟩,-,-⟩:=ν dG;obtain⟨⟨au,am,av,n3⟩,-,-⟩:=ϩ dJ;obtain⟨⟨aq,ar⟩,-,-⟩:=ν b5;have ej:f.heap.size<=g.heap.size:=bF.size;have c3:=Zh (Lk a db c dd ev.bytes ba bc wa af bl c9 (cK.o.B bJ) aQ.o.nb aQ.o.l64 aQ.o.n3 cE.o.rd aD U);clear E bw;go_wp2_with fail
 refine c3.o.M ?_;rintro e aw ⟨d8,n,ea,rfl,aH,di,W⟩;have ck:=θ dS W;have cg:=θ dO W;have a1:=θ b5 W;have ds:=bJ.t W;have cH:=Zh (cG.o.t W);have es:=W.size;have ek:n<=3000:=by
  have:=GN bl (c+1) a ev.bytes;rw[<-aH];simp only[jV,hU];have K:=ev.bytes_len cL.o;omega
 obtain⟨de,bU,bz⟩:=cR.o.B W;obtain⟨aN,bV,bA⟩:=di;have bu:Α (kJ f.heap.size (D (J ⟨g.heap.size,0,O⟩) 1 1)) aw (fun F=>∀ k (aU:k<L (jV (ig bl (c+1) a ev.bytes))),mF F aN k (jV (ig bl (c+1) a ev.bytes))[k]):=by
  refine bA.sub fun b ef g2=>?_;rcases g2 with g2|g2
  .exact .inl U
  .simp only[Value.ownBlock,Φ]at g2;exact .inl U
 have dD:∀ d4∈aN,d4.oneCell'=true:=IE bV.1 bA.now;have bK:=Rd.of_own bV;rw[aH]at bK;obtain⟨cp,bN,bO,bP,bQ⟩:=Ϩ DD;have⟨ah,cV,cQ,cZ,aJ⟩:=kW bU bz bu (bK.src (P:=prog) (tx:=167) tZ dD) aH;clear bU bz bu aH;obtain⟨⟨aq,ar⟩,-,-⟩:=ν a1;go_upto_region 18 with (at_builtin;go_loud (refine ϻ rfl _ _ _ _ rfl f.heap.size 256 cp _ 3 40 tZ bN bO bP bQ rfl (D (J ⟨g.heap.size,0,O⟩) 1 1) 1 de (by rfl) ah.o _ n aN (by rfl) cZ.o ώ U U ?_;intro eA N aY aG dX _))
 obtain⟨bp,bq,rfl⟩:=Η aY;have dE:∀ ai,(Value.slice (J ⟨g.heap.size,0,O⟩) 1 1).ownBlock=J ai->f.heap.size<=ai:=fun ai hg=>(Ϡ ah.o ai hg).1;have bD:Below f.heap.size aw N:=RZ.grown aG U (fun ai hg=>dE ai hg);have aX:∀ b,b<aw.heap.size->b≠g.heap.size->N.heap[b]?=aw.heap[b]?:=fun b K bs=>aG.block b K (fun e=>by simp only[Value.ownBlock,Φ]at e;exact bs e);have bx:=jD.app ah.o cV.o cQ.o (by rw[aJ.o];exact aY) aG dX;have dT:N.heap[w.heap.size+1+1+1]?=_:=(aX _ (ς ck) U).trans ck;have dP:N.heap[M.heap.size]?=_:=(aX _ (ς cg) U).trans cg;have b6:N.heap[ae.heap.size]?=_:=(aX _ (ς a1) U).trans a1;have eo:aw.heap.size<=N.heap.size:=aG.size;have dt:BQ w N:=ds.trans (bD.M U);have cI:=Zh (cH.o.trans bD);have bH:=Ϡ aY;have bi:=Zh bH;have ax:=DS (ď+1) (a+c) N U U;rw[Int.natCast_add,Int.natCast_add,Int.natCast_one]at ax;have⟨ax,cS⟩:=π ax bx;clear bx bH;obtain⟨⟨aq,ar⟩,-,-⟩:=ν b6;go_wp2_with fail
 refine ax.o.M ?_;rintro e a9 ⟨aj,rfl,dF,dk⟩;have aa:=dk.al (C #[.bool true,ĭ .i64 0,D O 0 0,.bool false,ĭ .i64 (((ď:Int)+1) % 2),D (J ⟨aj,0,O⟩) 64 64,.bool true,ĭ .i64 0,D O 0 0] 256);obtain⟨df,aZ,bB⟩:=cS.o.B aa;have bt:Α (kJ f.heap.size (D bp (1+n) bq)) (å a9 (C #[.bool true,ĭ .i64 0,D O 0 0,.bool false,ĭ .i64 (((ď:Int)+1) % 2),D (J ⟨aj,0,O⟩) 64 64,.bool true,ĭ .i64 0,D O 0 0] 256)) (fun F=>∀ k (aU:k<L [jw.sync,jw.put ((ď+1) % 2) (iN (ď+1) (a+c)),jw.sync]),mF F [.bool true,ĭ .i64 0,D O 0 0,.bool false,ĭ .i64 (((ď:Int)+1) % 2),D (J ⟨aj,0,O⟩) 64 64,.bool true,ĭ .i64 0,D O 0 0] k [jw.sync,jw.put ((ď+1) % 2) (iN (ď+1) (a+c)),jw.sync][k]):=by
  refine(Α.of_ownB (dF.A _) U fun e1 hg=>(bi.o e1 hg).2).imp fun F h k aU=>?_;rcases(show k=0\/k=1\/k=2 by simp at aU;omega)with rfl|rfl|rfl
  .exact⟨rfl,rfl,rfl⟩
  .exact⟨rfl,by rw[<-cA.o];rfl,_,rfl,h⟩
  .exact⟨rfl,rfl,rfl⟩
 have aV:L ([jw.put ((ď+1) % 2) (lk 64)]++jV (ig bl (c+1) a ev.bytes))=1+n:=by rw[σ,aJ.o];rfl
 have a3:=aZ;rw[aV]at a3;have⟨ah,c0,cW,cP,cO⟩:=kW a3 aZ bB bt aV;have ci:=θ dT aa;have ce:=θ dP aa;have b4:=θ b6 aa;have cF:=Zh (cI.o.t aa);have et:=aa.size;have dp:=dt.t aa;clear aZ bB bt a3 aV;go_upto_region 19 with (at_builtin;go_loud (refine ϻ rfl _ _ _ _ rfl f.heap.size 256 cp _ 3 40 tZ bN bO bP bQ rfl (D bp (1+n) bq) (1+n) df (by rfl) ah.o _ 3 [.bool true,ĭ .i64 0,D O 0 0,.bool false,ĭ .i64 (((ď:Int)+1) % 2),D (J ⟨aj,0,O⟩) 64 64,.bool true,ĭ .i64 0,D O 0 0] (by rfl) (gh tZ a9 #[.bool true,ĭ .i64 0,D O 0 0,.bool false,ĭ .i64 (((ď:Int)+1) % 2),D (J ⟨aj,0,O⟩) 64 64,.bool true,ĭ .i64 0,D O 0 0] 3 3 3 rfl ϗ) ώ U U ?_;intro ez l bS aT dW _))
 generalize(å a9 (C #[.bool true,ĭ .i64 0,D O 0 0,.bool false,ĭ .i64 (((ď:Int)+1) % 2),D (J ⟨aj,0,O⟩) 64 64,.bool true,ĭ .i64 0,D O 0 0] 256))=aM at *;obtain⟨ay,az,rfl⟩:=Η bS;have aW:∀ b,b<aM.heap.size->b<f.heap.size->l.heap[b]?=aM.heap[b]?:=fun b K bs=>aT.block b K (fun e=>ι (bi.o b e.symm).1);have bv:=jD.app c0.o cW.o cP.o (by rw[cO.o];exact bS) aT dW;have dZ:w.heap.size+1+1+1<f.heap.size:=U;have dR:l.heap[w.heap.size+1+1+1]?=_:=(aW _ (ς ci) dZ).trans ci;have dM:l.heap[M.heap.size]?=_:=(aW _ (ς ce) U).trans ce;have dI:l.heap[ae.heap.size]?=_:=(aW _ (ς b4) U).trans b4;have bE:Below f.heap.size aM l:=RZ.grown aT U (fun e1 hg=>(Ϡ ah.o e1 hg).1);have dq:BQ w l:=dp.trans (bE.M U);have bm:=Zh (c6.o.B (cF.o.trans bE));have bR:L (jx bl ď a ev.bytes)=1+n+3:=by
  unfold jx;rw[aD,ϥ,σ,aJ.o];simp only[ϥ,gO];omega
 have dh:=bv;rw[gP]at dh;have cT:Hid (jD f.heap.size l (D ay (1+n+3) az) (jx bl ď a ev.bytes)):=by
  unfold jx;rw[aD];exact bv
 have bj:=Zh bR;clear bR;obtain⟨⟨aq,ar⟩,-,-⟩:=ν dI;obtain⟨⟨d5,d6⟩,-,-⟩:=ν dM;have j:BQ l l.drew:=RZ.drew;refine ϯ (fun aL=>BQ l aL) 8 ϋ ?_;refine Zf 0 j ?_;refine Zf 1 j ?_;refine Zb 2 [6,8] j ?_ (hy:=by intro i d;have d0:=ζ d aq;go_simp;try with_reducible rfl);refine Zf 3 j ?_;refine Zb 4 [6,8] j ?_ (hy:=by intro i d;have d2:=ζ d ar;go_simp;try with_reducible rfl);refine Zb 5 [6,8] j ?_ (hy:=by intro i d;have d3:=ζ d d5;have ey:=ζ d d6;go_simp;try with_reducible rfl);refine Zf 6 j ?_;refine Zf 7 j ?_;have cl:l.drew.heap[w.heap.size+1+1+1]?=_:=dR;have du:=dq.drew;have⟨cU,c7⟩:=π (cT.o.B j) bm.o.drew;clear bm;generalize l.drew=wd at *;obtain⟨⟨bb,bd,be,bf⟩,⟨aO,f1,f2,f3⟩,bg⟩:=ϩ cl;have⟨R,Q⟩:=π (oh cl (ĭ .i64 ((ď:Int)+1)) (ĭ .i64 ((a:Int)+(c:Int))) (D q (L y.1) t) (D s (L y.2) z)) (pd du (U:w.heap.size<=w.heap.size+1+1+1) (ĭ .i64 ((ď:Int)+1)) (ĭ .i64 ((a:Int)+(c:Int))) (D q (L y.1) t) (D s (L y.2) z));refine Zl ?_;refine Ze 9 ?_;refine Zd ?_;have cN:Hid (yG bl ď a ev.bytes y w (ŗ (.tuple #[D ay (1+n+3) az,ā #[ĭ .i64 ((ď:Int)+1),ĭ .i64 ((a:Int)+(c:Int)),D q (L y.1) t,D s (L y.2) z],ĭ .i64 0])) (ŝ (ŝ (ŝ (ŝ wd ⟨w.heap.size+1+1+1,0,O⟩ (ĭ .i64 ((ď:Int)+1))) ⟨w.heap.size+1+1+1,1,O⟩ (ĭ .i64 ((a:Int)+(c:Int)))) ⟨w.heap.size+1+1+1,2,O⟩ (D q (L y.1) t)) ⟨w.heap.size+1+1+1,3,O⟩ (D s (L y.2) z))):=by
  refine⟨ay,az,q,t,s,z,?_,?_,Q.o⟩
  .rw[bj.o,aD,Int.natCast_add,Int.natCast_add];rfl
  .have K:=(cU.o.hi.M (U:F.heap.size<=f.heap.size)).and c7.o
   rw[<-bj.o]at K;exact((((K.set (p:=⟨w.heap.size+1+1+1,0,O⟩) aA _).set (p:=⟨w.heap.size+1+1+1,1,O⟩) aA _).set (p:=⟨w.heap.size+1+1+1,2,O⟩) aA _).set (p:=⟨w.heap.size+1+1+1,3,O⟩) aA _).M U
 go_wp2;refine Ω (v:=.tuple #[D ay (1+n+3) az,ā #[ĭ .i64 ((ď:Int)+1),ĭ .i64 ((a:Int)+(c:Int)),D q (L y.1) t,D s (L y.2) z],ĭ .i64 0]) (xG (o:=6) (p:=7) (u:=8) (ty:=46) rfl _ _ (w.heap.size+1+1+1) 46 _ (0,0) _ rfl R.o underlying46 rfl ϋ) rfl ?_;exact .inl ⟨y,aK.o,U,cN.o⟩
