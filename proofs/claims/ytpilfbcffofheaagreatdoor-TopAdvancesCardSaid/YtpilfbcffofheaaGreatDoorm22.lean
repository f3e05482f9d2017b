/- Part 22 of the proof. -/
import Derived.Test.YtpilfbcffofheaaGreatDoorm15
import Derived.Test.YtpilfbcffofheaaGreatDoorm21
set_option linter.all false
set_option maxRecDepth 100000
set_option maxHeartbeats 16000000
namespace Go.Proofs.YtpilfbcffofheaaGreatDoor
open Go.RowKit Go.Proofs.Tryz Go.Sort
open Value renaming slice->D,int->ĭ,agg->ā,string->š,pointer->þ
open Option renaming none->O,some->J
open List renaming length->L
open Obj renaming cells->C
open Ending renaming returned->ŗ
open World renaming alloc->å,setCell->ŝ
section
variable {P:Program} {ops:Array Oper} {Q:Exit->Act->β->Prop} {md:Region.Mode} {S:β->Prop}
def F1 {d:Nat} {e:Nat} {b:Array Bool} {a:Act} {w:β} {f:Oper} (i:Nat) (v:ε) (o:ops[i]?=J f) (p:∀ w,(execOp a.eval f).run P w=.ok (.value v) w) (k:S w)
  (h:Ϥ P md ops Q S d e (b.setIfInBounds i true) (a.put f.dst v) w) (j:(i !=d)=true:=by kernel_rfl)
  (l:Region.noSelect ops=true:=by kernel_rfl) (n:Region.free md ops b i=true:=by kernel_rfl) (q:(Region.ready md ops b).contains i=true:=by kernel_rfl)
  (m:∀ c a w,Q (.panic c) (a.put f.dst v) w->Q (.panic c) a w:=by exact fun _ _ _ h=>h) (g:Region.wanted f (yielded ops a.tmps)=true:=by kernel_rfl):Ϥ P md ops Q S d (e+1) b a w:=
 gq i v o j l n q m g p k h
def K1 {d:Nat} {e:Nat} {b:Array Bool} {a:Act} {w:β} {f:Oper} (i:Nat) (v:ε) (o:ops[i]?=J f) (p:∀ w,S w->(execOp a.eval f).run P w=.ok (.value v) w) (k:S w)
  (h:Ϥ P md ops Q S d e (b.setIfInBounds i true) (a.put f.dst v) w) (g:(py md ops d i && (i !=d) && !b.getD d true)=true:=by kernel_rfl)
  (l:Region.noSelect ops=true:=by kernel_rfl) (n:Region.free md ops b i=true:=by kernel_rfl) (q:(Region.ready md ops b).contains i=true:=by kernel_rfl)
  (m:∀ c a w,Q (.panic c) (a.put f.dst v) w->Q (.panic c) a w:=by exact fun _ _ _ h=>h) (j:Region.wanted f (yielded ops a.tmps)=true:=by kernel_rfl):Ϥ P md ops Q S d (e+1) b a w:=
 km i v o g l n q m j p k h
def KB {d:Nat} {e:Nat} {b:Array Bool} {a:Act} {w:β} {f:Oper} (i:Nat) (g:List Nat) (v:ε) (n:ops[i]?=J f) (r:∀ w,S w->(execOp a.eval f).run P w=.ok (.value v) w) (p:S w)
  (h:Ϥ P md ops Q S d e (b.setIfInBounds i true) (a.put f.dst v) w) (j:sJ md ops d i g b=true:=by kernel_rfl)
  (q:Region.noSelect ops=true:=by kernel_rfl) (m:Region.free md ops b i=true:=by kernel_rfl) (o:(Region.ready md ops b).contains i=true:=by kernel_rfl)
  (l:∀ c a w,Q (.panic c) (a.put f.dst v) w->Q (.panic c) a w:=by exact fun _ _ _ h=>h) (k:Region.wanted f (yielded ops a.tmps)=true:=by kernel_rfl):Ϥ P md ops Q S d (e+1) b a w:=
 mI i g v n j q m o l k r p h
end
structure HW (base E B:Nat) (w:β) (l:γ):Prop where
 err:w.heap[E]?=J (C #[ĭ .i64 0] 26 (0,0))
 buf:∃ ao n c,w.heap[B]?=J (C #[D ao n c] 31 (0,0))/\Μ base w (D ao n c) n l
def Ky (ď b a k:Nat) (l w) (h:HW ď b a w l) (q:b≠a) (a1:b<ď) (a0:a<ď) (X:ď<=w.heap.size) (F:k<=4611686018427387904) (Y:L l<=1000000) :
  Calls prog 194 #[ĭ .i64 k,þ (J ⟨b,0,O⟩),þ (J ⟨a,0,O⟩)] w fun e w'=>e=ŗ (.tuple #[])/\HW ď b a w' (l++ο k)/\(∀ g,g<w.heap.size->g≠b->g≠a->w'.heap[g]?=w.heap[g]?)/\w.heap.size<=w'.heap.size/\w'.os=w.os/\w'.tape=w.tape/\w'.output=w.output:=by
 obtain⟨s,z,n,c,r,o⟩:=h;obtain⟨S,W,ac⟩:=gC s;obtain⟨T,V,aa⟩:=gC r;have Z:=o.1;have⟨x,v,u⟩:=ϲ (wJ z n c l k w o.1 U o.rd F) s r;go_enter func194,ntmps194;go_wp2_with fail
 refine x.o.M ?_;rintro e t ⟨d,f,c1,rfl,M,m⟩;have r0:=θ v.o m;have r1:=θ u.o m;obtain⟨S,W,ad⟩:=gC r0;obtain⟨T,V,ab⟩:=gC r1;have y:=Zh M;have P:=xI r1 (D d f c1);have N:=(nA t a b q (D d f c1)).trans r0;have Q:=xI N (ĭ .i64 0);have R:=(nA _ b a (fun e=>q e.symm) (ĭ .i64 0)).trans P;have I:=(y.o.M X).set (p:=⟨a,0,O⟩) ϑ (D d f c1);have K:=I.set (p:=⟨b,0,O⟩) ϑ (ĭ .i64 0);have H:∀ g,g<w.heap.size->g≠b->g≠a->(ŝ (ŝ t ⟨a,0,O⟩ (D d f c1)) ⟨b,0,O⟩ (ĭ .i64 0)).heap[g]?=w.heap[g]?:=fun g A B E=>by
  rw[nA _ b g B,nA _ a g E];exact m.block g A
 have⟨j,i⟩:=π (Ν Q (Ν R (Ν K H))) m;go_wp2
 go_returns
 exact⟨rfl,⟨j.o.1,d,f,c1,j.o.2.1,j.o.2.2.1⟩,j.o.2.2.2,by have:=i.o.size;simpa using this,i.o.os,i.o.tape,i.o.output⟩
def Kx (base E B) (l d:γ) (w) (h:HW base E B w l) (v:E≠B) (u:E<base) (t:B<base) (x:base<=w.heap.size) (y:L d=32) (N:L l<=1000000) :
  Calls prog 196 #[š (δ d),þ (J ⟨B,0,O⟩)] w fun e w'=>e=ŗ (.tuple #[])/\HW base E B w' (l++d)/\(∀ g,g<base->g≠E->g≠B->w'.heap[g]?=w.heap[g]?)/\w.heap.size<=w'.heap.size/\w'.os=w.os/\w'.tape=w.tape/\w'.output=w.output:=by
 obtain⟨z,K,n,c,f,i⟩:=h;obtain⟨Q,S,W⟩:=gC f;have P:=i.1;have⟨q,o,k,m⟩:=hV i z f y;go_enter func196,ntmps196;go_wp2_with (at_builtin;refine vP rfl _ _ rfl base _ n _ l d rfl q.o rfl m.o U x ?_;intro b c1 j X a;have r1:=(a.block B t).trans k.o;have r0:=(a.block E u).trans o.o;obtain⟨R,T,V⟩:=gC r1)
 have I:=xI r1 (D b (n+32) c1);have H:=(nA j B E v (D b (n+32) c1)).trans r0;have F:=X.set (p:=⟨B,0,O⟩) ϑ (D b (n+32) c1);have A:∀ g,g<base->g≠E->g≠B->(ŝ j ⟨B,0,O⟩ (D b (n+32) c1)).heap[g]?=w.heap[g]?:=fun g r M s=>by
  rw[nA _ B g s];exact a.block g r
 go_returns
 exact⟨rfl,⟨H,b,_,c1,I,F⟩,A,by have:=a.size;simpa using this,a.os,a.tape,a.output⟩
def ip (a:List (γ)) (p:Nat×Nat):γ:=ο p.2++ο (L (Δ a p)+1)++ib (Δ a p)
def fV (a:List (γ)) (b:List (Nat×Nat)):γ:=ο (L a)++ϡ a++ο (L b)++b.flatMap (ip a)
def jE (a b:β) (l:γ):Prop:=HW (a.heap.size+2) (a.heap.size+1) a.heap.size b l/\Below a.heap.size a b/\a.heap.size+2<=b.heap.size
def jE.A {w1 w l} (h:jE w1 w l) (o):jE w1 (å w o) l:=by
 obtain⟨⟨d,b,n,c,e,f⟩,g,i⟩:=h;have a:BQ w (å w o):=ġ;exact⟨⟨θ d a,b,n,c,θ e a,f.A o⟩,g.A U _,ό⟩
theorem AN {docs} {c:List (Nat×Nat)} (h:∀ k (a:k<L c),L (ip docs c[k])<=60):∀ k,k<=L c->L ((c.take k).flatMap (ip docs))<=k*60
 |0,_=>ύ
 |k+1,a=>by
  have:=AN h k U;have b:=h k U;rw[jt U,pI,σ];simp only[lF,List.flatMap_nil,iy];omega
def xf (w1 w l) (b:Nat) (h:jE w1 w l) (p:b<=4611686018427387904) (r:L l<=1000000) :
  Calls prog 194 #[G b,þ (J ⟨w1.heap.size+1,0,O⟩),þ (J ⟨w1.heap.size,0,O⟩)] w fun e w'=>e=ŗ (.tuple #[])/\jE w1 w' (l++ο b)/\Hid (∀ g,g<w.heap.size->w1.heap.size+2<=g->w'.heap[g]?=w.heap[g]?):=by
 obtain⟨n,a,o⟩:=h;refine(Ky _ _ _ b l w n U U U o p r).M ?_;rintro e w' ⟨rfl,f,c,i,j,k,m⟩;exact⟨rfl,⟨f,⟨j.trans a.os,k.trans a.tape,m.trans a.output,gj a.size i,fun d q=>(c d U U U).trans (a.block d q)⟩,U⟩,fun g s t=>c g s U U⟩
def DA (w1 w) (l d:γ) (h:jE w1 w l) (o:L d=32) (q:L l<=1000000) :
  Calls prog 196 #[š (δ d),þ (J ⟨w1.heap.size,0,O⟩)] w fun e w'=>e=ŗ (.tuple #[])/\jE w1 w' (l++d):=by
 obtain⟨m,a,n⟩:=h;refine(Kx _ _ _ l d w m U U U n o q).M ?_;rintro e w' ⟨rfl,c,f,g,i,j,k⟩;exact⟨rfl,c,⟨i.trans a.os,j.trans a.tape,k.trans a.output,gj a.size g,fun b p=>(f b U U U).trans (a.block b p)⟩,U⟩
def IU {l:List (γ)} (c:ϱ l) (d:l≠[]):L (iA l)=32:=by
 induction h:L l using Nat.strongRecOn generalizing l with
 |_ n e =>
  match l,h with
  |[],_=>exact absurd rfl d
  |[a],_=>rw[qA];exact c a ύ
  |b::a::t,h =>
   rw[iA];refine e (L t+1) (by simp at h;omega) ?_ ύ ύ;intro x hx;rcases hH.1 hx with rfl|hx
   .exact iq _
   .exact c x (by simp[hx])
def mY {l:List (γ)} (b:ϱ l):L (Υ l)=32:=by
 unfold Υ;split
 .exact iq _
 .rename_i d
  refine IU (xU b _ NZ) ?_;intro c;have:=rc l (L l);rw[c]at this;have e:=xu (n:=L l) (by cases l with|nil=>exact absurd rfl d|cons a f=>simp);simp only[gO]at this;omega
def Dy (v:ε) (ď:List (γ)) (ps) (w:β) (h:Rd w v (L ps) 4 (fP ď ps)) (p:Ϻ ď ps (L ď)) :
  Calls prog 116 #[ā #[G (L ď),š (δ (ϡ ď)),v]] w (mG (fV ď ps) w):=by
 have u:L (ϡ ď)=32:=mY (kv _);have ar:=Zh (fun i (k:BQ w i)=>Dx _ _ v ď ps i u (h.B k) p);obtain⟨r,b1,rfl,ai⟩:=tG h;have be:=p.nd;have bf:=p.np;have I:=Zh (fun a (j:a<L ps)=>nC p j);have c:=Zh (fun a j=>nU p.ch a j);have aH:BQ w (å w (C #[G (L ď),š (δ (ϡ ď)),D r (L ps) b1] 123)):=ġ;go_enter func116,ntmps116;go_wp2_with fail
 refine(ar.o _ aH).M ?_;rintro e d ⟨rfl,aI⟩;obtain⟨x,bn,aJ⟩:=fO aI;obtain⟨⟨B,E,F⟩,⟨s,f1,f2⟩,-⟩:=Β x;have aF:BQ d (å (å d (C #[D O 0 0] 31)) (C #[G 0] 26)):=ġ.A ύ _;have aM:=fZ    (w1:=(å (å d (C #[D O 0 0] 31)) (C #[G 0] 26))) RZ;obtain⟨aP,aQ,bo,bp,-⟩:=aM;have aV:jE d (å (å d (C #[D O 0 0] 31)) (C #[G 0] 26)) []:=⟨⟨aQ,O,0,0,aP,Μ.nil _ _⟩,aF,ύ⟩;have⟨ad,H⟩:=π (xf d _ _ (L ď) aV U ύ) u;go_wp2_with fail
 refine ad.o.M ?_;rintro e aZ ⟨rfl,y,-⟩;simp only[js]at y;have aN:=θ x y.2.1;obtain⟨⟨B,E,F⟩,⟨s,f1,f2⟩,-⟩:=Β aN;have bb:=Ϸ 8 (L ď) U;have⟨af,K⟩:=π (DA d aZ _ _ y u U) x;go_wp2_with fail
 refine af.o.M ?_;rintro e a0 ⟨rfl,S⟩;obtain⟨⟨B,E,F⟩,⟨s,f1,f2⟩,-⟩:=Β (θ K.o S.2.1);have aj:=Zh (xf d a0 _ (L ps) S U (by simp only[σ,H.o];omega));go_wp2_with fail
 refine aj.o.M ?_;rintro e a1 ⟨rfl,T,-⟩;obtain⟨⟨B,E,F⟩,⟨s,f1,f2⟩,-⟩:=Β (θ K.o T.2.1);have aw:=Zh T;go_wp2_with fail
 obtain⟨g,t⟩:∃ g,g=ο (L ď)++ϡ ď++ο (L ps):=⟨_,rfl⟩;have bg:L g<=60:=by
  have a9:=Ϸ 8 (L ps) U;rw[t];simp only[σ,H.o];omega
 have ax:Hid (jE d a1 g):=by show jE _ _ _;rw[t];exact aw.o
 have aq:=Zh t;have av:=Zh (AN (docs:=ď)  (fun a j=>by
  obtain⟨-,-,aD⟩:=I.o a j
  obtain⟨-,-,-,aE⟩:=c.o a j
  have V:=Ϸ 8 ps[a].2 U
  have W:=Ϸ 8 (L (Δ ď ps[a])+1) U
  have X:=qB (Δ ď ps[a])
  unfold ip
  simp only[σ]
  omega))
 go_loopw [31] (fun A wr=>∃ a:Nat,a<=L ps/\A=G (a:Int)/\Hid (jE d wr (g++(ps.take a).flatMap (ip ď)))) (fun A _=>L ps - (intOf A).toNat)
 .exact⟨0,Ζ _,rfl,by show jE _ _ _;simp only[rq,List.flatMap_nil,iy];exact ax.o⟩
 obtain⟨a,j,rfl,l⟩:=hrel;have bh:=av.o a j;have ba:a*60<=64*60:=qp _ U;have o:=aJ.t l.o.2.1;by_cases q:a<L ps
 .obtain⟨b0,off,rfl,Z,aa,a2,a3⟩:=ai.o a q
  obtain⟨-,-,aD⟩:=I.o a q;obtain⟨-,-,-,aE⟩:=c.o a q;have aX:(a:Int)<(L ps:Int):=U;have bi:(0:Int)<=(a:Int):=U;have bj:=ζ o Z;have l1:=ζ o aa;have l2:=ζ o a2;have l3:=ζ o a3;have aS:g++(ps.take (a+1)).flatMap (ip ď)=g++(ps.take a).flatMap (ip ď)++ο ps[a].2++ο (L (Δ ď ps[a])+1)++ib (Δ ď ps[a]):=by
   rw[jt q,pI];simp[ip]
  have M:=Zh aS;have aK:=qB (Δ ď ps[a]);have aW:L (g++(ps.take a).flatMap (ip ď))<=4000:=by rw[σ];omega
  obtain⟨m,aG⟩:∃ m,m=g++(ps.take a).flatMap (ip ď):=⟨_,rfl⟩;rw[<-aG]at aW M l;have bc:=Ϸ 8 ps[a].2 U;have bd:=Ϸ 8 (L (Δ ď ps[a])+1) U;have am:=Zh (fun i k=>xf d i m ps[a].2 k U U);have an:=Zh (fun i (k:jE d i (m++ο ps[a].2))=>xf d i _ (L (Δ ď ps[a])+1) k U (by simp only[σ];omega));have ao:=Zh (fun i (k:jE d i (m++ο ps[a].2++ο (L (Δ ď ps[a])+1)))=>DA d i _ _ k aK (by simp only[σ];omega));generalize ib _=P at *;generalize(L (Δ ď _))+1=N at *;generalize ps[a].1=f at *;generalize ps[a].2=Y at *;have ae:=Zh (l.o.A (C #[G f,G Y,G (N:Int),š (δ P)] 198));go_wp2_with fail
  refine(am.o _ ae.o).M ?_;rintro e bk ⟨rfl,aT,ak⟩;have aR:=φ wr (C #[G f,G Y,G (N:Int),š (δ P)] 198);have Q:=l.o.2.2;have R:=(ak.o _ ύ Q).trans aR;obtain⟨⟨aY,V,W,X⟩,⟨ab,ac,a4,a5⟩,a6⟩:=ϩ R;have⟨au,ag⟩:=π R (an.o _ aT);go_wp2_with fail
  refine ag.o.M ?_;rintro e bl ⟨rfl,aU,al⟩;have aO:=(al.o _ a6 Q).trans au.o;obtain⟨⟨aY,V,W,X⟩,⟨ab,ac,a4,a5⟩,bq⟩:=ϩ aO;have ah:=Zh (ao.o _ aU);go_wp2_with fail
  refine ah.o.M ?_;rintro e bm ⟨rfl,b⟩;rw[<-M.o]at b;have ay:=Zh b;go_wp2;go_roundw
  .exact⟨ _,U,ϕ,ay.o⟩
  exact ω
 .obtain rfl:a=L ps:=U
  have aX:¬(L ps:Int)<(L ps:Int):=U;have z:=l.o;rw[nL]at z;have aL:g++ps.flatMap (ip ď)=fV ď ps:=by rw[aq.o];rfl
  rw[aL]at z;obtain⟨⟨aA,r,n,az,aB,aC⟩,a7,a8⟩:=z;obtain⟨Z,ab,-⟩:=gC aA;obtain⟨aa,ac,-⟩:=gC aB;have ap:=Zh (aC.M (U:w.heap.size<=d.heap.size+2));go_wp2;go_ret2;exact⟨r,n,az,rfl,ap.o,o⟩
def ke {j:List (γ)} {ps m} (a:Ϻ j ps m):L (fV j ps)<=4000:=by
 have e:=Ϸ 8 (L j) (ι a.nd);have f:=Ϸ 8 (L ps) (ι a.np);have g:L (ϡ j)=32:=mY (kv _);have d:=AN (docs:=j)  (fun b c=>by
  obtain⟨-,-,h⟩:=nC a c
  obtain⟨-,-,-,i⟩:=nU a.ch b c
  have:=a.nd
  have:=a.le
  have r1:=Ϸ 8 ps[b].2 U
  have r2:=Ϸ 8 (L (Δ j ps[b])+1) U
  have r3:=qB (Δ j ps[b])
  unfold ip
  simp only[σ]
  omega) _ NZ
 rw[nL]at d;have:=a.np;unfold fV;simp only[σ];omega
def hh (a:List (γ)) (b:List (Nat×Nat)):γ:=zR (fV a b)
def zS (v:ε) (x:List (γ)) (ps) (w:β) (p:Ϭ w) (h:Rd w v (L ps) 4 (fP x ps)) (f:Ϻ x ps (L x)) :
  Calls prog 56 #[ā #[G (L x),š (δ (ϡ x)),v]] w fun e w'=>e=ŗ (.tuple #[š (δ (hh x ps)),G 0])/\BQ w w':=by
 have b:BQ w (å w (C #[G (L x),š (δ (ϡ x)),v] 123)):=ġ;have⟨HW,i,k⟩:=ϲ (Dy v x ps _ (h.B b) f) (ke f) (p.B b);obtain⟨s,c,rfl,-⟩:=tG h;go_enter func56,ntmps56;go_wp2_with fail
 refine HW.o.M ?_;rintro e r ⟨l,q,c1,rfl,a,d⟩;obtain⟨-,-,o⟩:=fO d;have j:=Zh (Po l q c1 _ r a.1 (by have t:=a.1;have:=i.o;omega) a.rd (k.o.B d));go_wp2_with fail
 refine j.o.M ?_;rintro e u ⟨rfl,n⟩;have m:=o.t n;have g:Hid (zR (fV x ps)=hh x ps):=rfl;rw[g.o];go_wp2;go_ret2;exact⟨rfl,m⟩
def Nf (da dc sa sc) (y:List (γ)) (ps) (w:β) (t:ϭ w) (g:Ϭ w) (q:Ε w (D da (L y) dc) y) (s:ϣ y w (D sa (L ps) sc) ps) (f:Ϻ y ps (L y)) :
  Calls prog 26 #[ā #[D da (L y) dc,D sa (L ps) sc]] w fun e w'=>e=ŗ (.tuple #[š (δ (hh y ps)),G 0])/\BQ w w':=by
 have c:=Zh (fun b (a:BQ w b)=>sV da dc sa sc y ps _ b (t.B a) (g.B a) (q.B a) (s.B a) f rfl);have i:=Zh (fun u b (a:BQ w b) h=>zS u y ps b (g.B a) h f);have m:BQ w (å w (C #[D da (L y) dc,D sa (L ps) sc] 44)):=ġ;go_enter func26,ntmps26;go_wp2_with fail
 first|refine(c.o _ m).M ?_|refine(c.o _ RZ).M ?_
 rintro e v ⟨k,c1,rfl,r,n⟩;obtain⟨-,-,p⟩:=fO n;have d:BQ w (å v (C #[G (L y),š (δ (ϡ y)),D k (L ps) c1] 123)):=p.al _;have j:=Zh (i.o _ _ d (r.now.B (ġ)));go_wp2_with fail
 refine j.o.M ?_;rintro e x ⟨rfl,o⟩;have l:=d.t o;go_wp2;go_ret2;exact⟨rfl,l⟩
def Ft (v:ε) (l:γ) (w:β) (h:Rd w v (L l) 1 (η l)) (aC:L l<=100000) :
  Calls prog 340 #[v] w (iJ w 9 1 (L (Θ l)) (χ (Θ l))):=by
 obtain⟨ao,i,al,am,an⟩:=Ϩ pU;have af:=Nw v l w h aC;have ae:=zy l;have aM:=wR l;have ak:Θ l=(nI (gg l)).map term:=rfl;generalize gg l=d at *;have ab:=Zh ak;clear ak;have Z:=Zh ae;clear ae;have ap:=Zh af;clear af;go_enter func340,ntmps340;go_wp2_with (go_at_call 344;refine ap.o.M ?_;rintro e H ⟨aO,rfl,o,Q⟩)
 rcases nK (L d) with h0|h0
 .have aE:=lJ.1 h0
  subst aE;obtain⟨aJ,c1,rfl⟩:=Η o;refine wp_loop_rounds 1 ?_;rw[rounds_succ];go_wp2;go_ret;rw[ab.o];exact⟨_,rfl,gQ _ _ _ _,Q⟩
 .obtain⟨a0,c1,rfl⟩:=kO o h0
  have aD:=oH o;have ay:=aD.2.1;unfold maxLen at ay;have K:=Zh o;have aj:=Q.size;go_loopw [4,5] (fun a1 b wr=>∃ (a:Nat) (k:List (List Int)),a<=L d+1/\b=G a/\Hid (nI d=k++iP [] (d.drop a))/\L k<=a/\wr.ownsRow H.heap.size 9 1 a1 (L k) (χ (k.map term))/\BQ H wr) (fun _ b _=>L d+1 - (intOf b).toNat)
  .exact⟨0,[],Ζ _,rfl,rfl,NZ,gQ _ _ _ _,ρ _ _⟩
  obtain⟨b,k,aL,rfl,HW,aK,r,n⟩:=hrel;have ai:=n.size;by_cases aN:b<L d
  .have aG:(b:Int)<(L d:Int):=U
   go_wp2;go_loopw [6] (fun W j=>∃ a:Nat,b<=a/\a<=L d/\W=G a/\Hid (∀ f (i:f<L d),b<=f->f<a->gm d[f]=true)/\j=wr) (fun W _=>L d - (intOf W).toNat)
   .exact⟨b,NZ,U,rfl,fun f i ad ax=>U,rfl⟩
   obtain⟨a,ag,ah,rfl,I,rfl⟩:=hrel;by_cases aB:a<L d
   .have c0:=(ψ K.o n).cellAt a U
    rw[show(τ d)[a]?=J (G d[a])from by simp[τ]]at c0;have aH:(a:Int)<(L d:Int):=U;have aa:=Zh (fun j=>Ox d[a] j);have aq:Hid (gm d[a]=true->∀ f (i:f<L d),b<=f->f<a+1->gm d[f]=true):=fun h f i ad ax=>by
     by_cases e:f=a
     .subst e;exact h
     .exact I.o f i ad U
    generalize aF:d[a]=x at *;have ar:=Zh aF;cases F:gm x with
    |true =>
     have t:=Zh (aq.o F);have E:Hid (∀ j,Calls prog 345 #[G x] j fun e s=>e=ŗ (.bool true)/\j=s):=fun j=>by have:=aa.o j;rw[F]at this;exact this
     go_wp2_with (go_at_call 345;refine(E.o _).M ?_;rintro e s ⟨rfl,rfl⟩)
     go_roundw
     .exact⟨ _,U,U,ϕ,t.o,by first|rfl|trivial⟩
     exact ω
    |false =>
     have E:Hid (∀ j,Calls prog 345 #[G x] j fun e s=>e=ŗ (.bool false)/\j=s):=fun j=>by have:=aa.o j;rw[F]at this;exact this
     have p:nI d=k++((if b<a then[(d.drop b).take (a - b)]else[])++iP [] (d.drop (a+1))):=by
      rw[HW.o,Gu d b a ag ah I.o (fun i=>by rw[ar.o];exact F)]
     by_cases u:b<a
     .rw[μ u]at p
      have q:=Zh p;have ac:(b:Int)<(a:Int):=U;have au:(b:Int)<=(a:Int):=U;have av:(a:Int)<=(c1:Int):=U;have aw:(a:Int) - (b:Int)=((a - b:Nat):Int):=U;have y:=(Rd.of_own (ψ K.o n)).cut b (a - b) U U;have g:L ((d.drop b).take (a - b))=a - b:=by rw[gp,fT];omega
      rw[show((τ d).drop b).take (a - b)=τ ((d.drop b).take (a - b))from by simp[τ,List.map_drop],iI]at y;have T:∀ c∈(d.drop b).take (a - b),fR c=true:=fun c R=>Z.o c (qu (mz R));have M:=Zh (Fs _ _ _ wr g y T U);generalize(d.drop b).take _=A at *;have P:∀ B∈[Value.string (δ (term A))],B.oneCell'=true:=by intro B z;simp at z;subst z;rfl
      have t:=Zh P;go_wp2_with (first|(go_at_call 345;refine(E.o _).M ?_;rintro e s ⟨rfl,rfl⟩)|(go_at_call 346;refine M.o.M ?_;rintro e X ⟨rfl,m⟩)|(at_builtin;refine ϻ rfl _ _ _ _ rfl _ 9 ao _ 1 _ ju i al am an rfl _ _ _ rfl ((ψ r m).A _) _ 1 [Value.string _] rfl (gh ju X _ 1 1 1 rfl t.o) ώ U (by have:=m.size;simp;omega) ?_;intro aI Y V S _ _))
      have N:BQ H Y:=((n.trans (m.M ai)).A (ι m.size) _).grown S (by have:=m.size;simp;omega) (fun f i=>(r.lt f i).1);go_wp2;go_roundw
      .refine⟨a+1,k++[A],U,ϕ,by show _=_;rw[q.o];simp,ό,?_,N⟩
       rw[σ,ng,nE];exact V
      exact ω
     .rw[κ u]at p
      have q:=Zh p;go_wp2_with (go_at_call 345;refine(E.o _).M ?_;rintro e s ⟨rfl,rfl⟩)
      go_roundw
      .exact⟨a+1,k,U,ϕ,by show _=_;rw[q.o];rfl,U,r,n⟩
      exact ω
   .have aH:¬(a:Int)<(L d:Int):=U
    have p:nI d=k++((if b<a then[(d.drop b).take (a - b)]else[])++iP [] (d.drop (a+1))):=by
     rw[HW.o,Gu d b a ag ah I.o (fun i=>absurd i aB)]
    by_cases u:b<a
    .rw[μ u]at p
     have q:=Zh p;have ac:(b:Int)<(a:Int):=U;have au:(b:Int)<=(a:Int):=U;have av:(a:Int)<=(c1:Int):=U;have aw:(a:Int) - (b:Int)=((a - b:Nat):Int):=U;have y:=(Rd.of_own (ψ K.o n)).cut b (a - b) U U;have g:L ((d.drop b).take (a - b))=a - b:=by rw[gp,fT];omega
     rw[show((τ d).drop b).take (a - b)=τ ((d.drop b).take (a - b))from by simp[τ,List.map_drop],iI]at y;have T:∀ c∈(d.drop b).take (a - b),fR c=true:=fun c R=>Z.o c (qu (mz R));have M:=Zh (Fs _ _ _ wr g y T U);generalize(d.drop b).take _=A at *;have P:∀ B∈[Value.string (δ (term A))],B.oneCell'=true:=by intro B z;simp at z;subst z;rfl
     have t:=Zh P;go_wp2_with (first|(go_at_call 346;refine M.o.M ?_;rintro e X ⟨rfl,m⟩)|(at_builtin;refine ϻ rfl _ _ _ _ rfl _ 9 ao _ 1 _ ju i al am an rfl _ _ _ rfl ((ψ r m).A _) _ 1 [Value.string _] rfl (gh ju X _ 1 1 1 rfl t.o) ώ U (by have:=m.size;simp;omega) ?_;intro aI Y V S _ _))
     have N:BQ H Y:=((n.trans (m.M ai)).A (ι m.size) _).grown S (by have:=m.size;simp;omega) (fun f i=>(r.lt f i).1);go_wp2;go_roundw
     .refine⟨a+1,k++[A],U,ϕ,by show _=_;rw[q.o];simp,ό,?_,N⟩
      rw[σ,ng,nE];exact V
     exact ω
    .rw[κ u]at p
     have q:=Zh p;have ac:¬(b:Int)<(a:Int):=U;go_wp2;go_roundw
     .exact⟨a+1,k,U,ϕ,by show _=_;rw[q.o];rfl,U,r,n⟩
     exact ω
  .have aA:d.drop b=[]:=mg U
   have aG:¬(b:Int)<(L d:Int):=U;have az:Hid (Θ l=k.map term):=by
    show _=_;rw[ab.o,HW.o,aA,rg];simp
   go_wp2;go_ret;rw[az.o];exact⟨_,rfl,by rw[hU];exact gX r aj,Q.trans (n.M aj)⟩
