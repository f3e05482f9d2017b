/- Part 18 of the proof. -/
import Derived.Test.YtpilfbcffofheaaGreatDoorm17
set_option linter.all false
set_option maxRecDepth 100000
set_option maxHeartbeats 16000000
namespace Go.Proofs.YtpilfbcffofheaaGreatDoor
open Go.RowKit Go.Proofs.Tryz Go.Sort
open Value renaming slice->D,agg->ā,pointer->þ
open Option renaming none->O,some->J
open List renaming length->L
open Obj renaming cells->C
open Ending renaming returned->ŗ
open World renaming alloc->å,setCell->ŝ
def Pe {P} {w:β} {T K E b es clock} {g:Int->Option ε} (f:P.underlying T=J (.map K E)) (c:P.underlying K=J (.int .i64)) (d:w.heap[b]?=J (.map es clock)) (e:jG es g) {k v} (i:g k=J v) :
  (Instr.lookup T (.map (J b)) (G k) true).run P w=.ok (.tuple #[v,.bool true]) w:=by
 obtain⟨h,a⟩:=e k;rw[i]at a;simp[Instr.lookup,ri f,MapKept.run_getObj_map d,MapKept.run_checkKey c (show MapKept.IsKey (.int .i64) (G k)from rfl),MapKept.run_findKey c a]
def Df:Ev->ε
 |.doc _=>.func (.func 251) #[] #[]
 |.flush=>.func (.func 253) #[] #[]
 |.merge _ _=>.func (.func 255) #[] #[]
 |.settle=>.func (.func 257) #[] #[]
theorem ou.kind {w:β} {kd ei em va vn vc e} (h:ou w kd ei em va vn vc e):zE kd=J (Df e):=by
 cases e with
 |doc d=>obtain⟨rfl,-⟩:=h;rfl
 |flush=>obtain rfl:kd=1:=h;rfl
 |merge a b=>obtain⟨rfl,-⟩:=h;rfl
 |settle=>obtain rfl:kd=3:=h;rfl
def DO (ev n k da dc sa sc) (ď:List (γ)) (ps m kd ei em va vn vc) (w:β) (l:L ď=n) (h:L ps=k) (s:ϭ w) (o:Ε w (D da n dc) ď) (r:ϣ ď w (D sa k sc) ps) (q:Ϻ ď ps m) (p:n<=40) (A:ou w kd ei em va vn vc ev) :
  Calls prog 113 #[ā #[D da n dc,D sa k sc],ā #[G kd,G ei,G em,D va vn vc]] w (nr w (gA (ď,ps) ev)):=by
 have am:=underlying298;have ae:prog.underlying 3=J (.int .i64):=ϋ;have X:=A.kind;have I:=Zh (fun c=>Lg c);have a:Hid (∀ c,BQ w c->∃ i,Df ev=.func (.func i) #[] #[]/\(∀ x c,(callFunc i x).run prog c=.ok (.enter i x) c)/\Calls prog i #[ā #[D da n dc,D sa k sc],ā #[G kd,G ei,G em,D va vn vc]] c (nr c (gA (ď,ps) ev))):=by
  intro c f;have j:=A.B f;cases ev with
  |doc d=>exact⟨_,rfl,iW func251 ϋ rfl,xi n k da dc sa sc ď ps m kd ei em va vn vc _ c l h (s.B f) (o.B f) (r.B f) q p j⟩
  |flush=>exact⟨_,rfl,iW func253 ϋ rfl,xi n k da dc sa sc ď ps m kd ei em va vn vc _ c l h (s.B f) (o.B f) (r.B f) q p j⟩
  |merge a1 b=>exact⟨_,rfl,iW func255 ϋ rfl,xi n k da dc sa sc ď ps m kd ei em va vn vc _ c l h (s.B f) (o.B f) (r.B f) q p j⟩
  |settle=>exact⟨_,rfl,iW func257 ϋ rfl,xi n k da dc sa sc ď ps m kd ei em va vn vc _ c l h (s.B f) (o.B f) (r.B f) q p j⟩
 have Y:BQ w (å (å (å w (C #[D da n dc,D sa k sc] 44)) (C #[G kd,G ei,G em,D va vn vc] 33)) (C #[D O 0 0,D O 0 0] 44)):=(ġ.A ύ _).A ό _;have ad:=oO     (w1:=å (å (å w (C #[D da n dc,D sa k sc] 44)) (C #[G kd,G ei,G em,D va vn vc] 33)) (C #[D O 0 0,D O 0 0] 44)) RZ;go_enter func113,ntmps113;go_upto_region 1 with fail
 generalize å (å (å w _) _) _=c at *;obtain⟨aj,B,al,aG,aF,aH,-⟩:=ad;obtain⟨⟨y,K,V,W⟩,-,-⟩:=ϩ B;have t:BQ c c.drew:=RZ.drew;refine ϯ (fun Q=>BQ c Q) 3 ϋ ?_;refine Zf 1 t ?_;refine Zk 2 t ?_ (hy:=by intro c f;have aq:=ζ f y;go_simp;try with_reducible rfl);refine Κ (fuel:=6) 0 ϋ rfl ?_;intro a0 h;go_simp;refine(I.o _).M ?_;rintro e F ⟨az,au,ap,rfl,af,ag,Z⟩;have g:BQ c F:=t.trans Z;refine h _ _ g ?_;try simp only[Act.put]
 have ax:=Pe  am ae af ag X;refine Zl ?_;refine Zf 4 g ?_;refine Zf 5 g ?_;refine Zf 6 g ?_;refine Zf 7 g ?_;refine Zf 8 g ?_;refine Zd ?_;have z:=Y.t g;have ak:=θ aj g;have ai:=θ B g;have P:=Zh (θ al g);have ay:=g.size;obtain⟨⟨aB,aC⟩,-,-⟩:=ν ak;obtain⟨⟨y,K,V,W⟩,-,-⟩:=ϩ ai;obtain⟨i,ac,ar,aa⟩:=a.o F z;have H:=Zh aa;rw[ac];go_wp2_with fail
 refine H.o.M ?_;intro e aA ah;obtain⟨R,an,c1,S,ao,c2,T,rfl,aw,E,ab⟩:=nr.wrap ah z U U _ P.o;obtain⟨⟨aD,aE⟩,⟨av,f1⟩,aI⟩:=ν E;have⟨N,M⟩:=π (fS E (D R an c1) (D S ao c2)) ab;go_wp2;refine Ω (v:=.tuple #[ā _,G T]) (gz  (u:=5)  rfl _ _ _ _ _ _ _ rfl N.o lG rfl ϋ) rfl ?_;with_reducible exact M.o
abbrev jc (f e d:Int) (a:Option Addr) (c b:Nat):Array ε:= #[G f,G e,G d,D a c b]
def yD (w:β) (e:Ending) (a:β):Prop:=e=ŗ (.tuple #[D O 0 0,G 1])/\Below w.heap.size w a
def vh (a:Nat) (b:β) (c:a<=4611686018427387904):Calls prog 195 #[D O 0 0,G a] b (mG (ο a) b):=by
 have h:=wJ O 0 0 _ a b rfl U (Rd.of_own (Μ.nil b 0).2) c;simpa using h
def La (ei em va vn vc) (d:γ) (w:β) (n:L d=vn) (t:Rd w (D va vn vc) vn 1 (η d)) (F:vn<=2000) :
  Calls prog 154 #[ā (jc 0 ei em va vn vc)] w (mG (ο 0++Ξ d) w):=by
 have g:=Zh (fun a=>vh 0 a U);have j:=Zh (fun a (o:BQ w a)=>t.B o);have f:=Zh n;go_enter func154,ntmps154;go_wp2_with fail
 refine(g.o _).M ?_;rintro e x ⟨k,u,c1,rfl,c,p⟩;obtain⟨s,I,b⟩:=fO p;obtain⟨⟨y,z,A,B⟩,⟨E,f1,f2,f3⟩,-⟩:=ϩ s;have K:=rO f.o (j.o _ b);have i:=Zh (wM k u c1 _ d x c.1 (gw c.1 (Ϸ 8 0 ϐ)) c.rd (ι f.o));go_wp2_with fail
 refine i.o.M ?_;rintro e H ⟨l,v,c2,rfl,r,q⟩;have m:=b.t q;have h:=Zh (r.M b.size);go_wp2;go_ret2;exact⟨l,v,c2,rfl,h.o,m⟩
def DM (x:Nat) (ei em va vn vc) (w:β) (r:x=1\/x=3) :
  Calls prog 154 #[ā (jc x ei em va vn vc)] w (mG (ο x) w):=by
 have a:=Zh (fun c=>vh x c U);have s:¬(x:Int)<0:=U;have t:(x:Int)<=3:=U;have f:¬(x:Int)=0:=U;have g:¬(x:Int)=2:=U;have m:¬x=0:=U;have o:¬x=2:=U;go_enter func154,ntmps154;go_wp2_with fail
 refine(a.o _).M ?_;rintro e u ⟨d,l,c1,rfl,j,h⟩;obtain⟨k,v,i⟩:=fO h;obtain⟨⟨f,n,g,p⟩,⟨q,f1,f2,f3⟩,-⟩:=ϩ k;have b:=Zh (j.M (ϓ:w.heap.size<=(å w _).heap.size));go_wp2;go_ret2;exact⟨d,l,c1,rfl,b.o,i⟩
def oc (z:Int):Prop:=0<=z/\z<=4611686018427387904
instance (z:Int):Decidable (oc z):=inferInstanceAs (Decidable (_/\_))
def od (b a:Int) (k:Nat):Int:=if k=0 then b else a
def mf (b a:Int):Nat->Option (γ)
 |0=>J (ο 2)
 |k+1=>match mf b a k with
  |none=>O
  |some l=>if oc (od b a k)then J (l++ο (od b a k).toNat)else O
theorem ve (ei em k):mf ei em (k+1)=match mf ei em k with
  |none=>O
  |some l=>if oc (od ei em k)then J (l++ο (od ei em k).toNat)else O:=rfl
theorem Ef (ei em):∀ (k:Nat) (l:γ),mf ei em k=J l->L l<=9*(k+1)
 |0,l,h=>by simp only[mf,Φ]at h;subst h;have:=Ϸ 8 2 ϐ;omega
 |k+1,l,h=>by
  rw[ve]at h;cases a:mf ei em k with
  |none=>rw[a]at h;simp at h
  |some q =>
   rw[a]at h;simp only at h;split at h
   .rename_i b
    have c:=Ef ei em k q a;have d:=Ϸ 8 (od ei em k).toNat (ι b.2);simp only[Φ]at h;subst h;rw[σ];omega
   .simp at h
def rL:Option (γ)->Int
 |none=>1
 |some _=>0
def uu (b:Nat) (w:β) (v:ε):Option (γ)->Prop
 |none=>v=D O 0 0
 |some l=>∃ a n c,v=D a n c/\Μ b w v n l
def Hd (r:Option (γ)) (w:β) (e:Ending) (b:β):Prop:= ∃ a,e=ŗ (.tuple #[a,G (rL r)])/\uu w.heap.size b a r/\Below w.heap.size w b
def uu.B {base w w' v r} (h:uu base w v r) (b:BQ w w'):uu base w' v r:=by
 cases r with
 |none=>exact h
 |some l=>obtain⟨a,n,c,rfl,d⟩:=h;exact⟨a,n,c,rfl,d.B b⟩
def DN (ei em va vn vc) (w:β) :
  Calls prog 154 #[ā (jc 2 ei em va vn vc)] w (Hd (mf ei em 2) w):=by
 have z:=Zh (fun F=>vh 2 F U);go_enter func154,ntmps154;go_wp2_with fail
 refine(z.o _).M ?_;rintro e r ⟨A,Z,c1,rfl,W,T⟩;obtain⟨Y,al,V⟩:=fO T;obtain⟨⟨ab,ac,ad,ae⟩,⟨af,f1,f2,f3⟩,-⟩:=ϩ Y;have a0:=Zh (W.M (ϓ:w.heap.size<=(å w _).heap.size));go_wp2;have x:BQ r (å r (C #[G ei,G em] 3)):=ġ;go_loopw [4,5,7,43] (fun b c ak u wr=>∃ (a:Nat) (k:ε),a<=2/\u=G (a:Int)/\c=G (rL (mf ei em a))/\k=b/\Hid (uu w.heap.size wr k (mf ei em a))/\Hid (wr.heap[r.heap.size]?=J (C #[G ei,G em] 3 (0,0)))/\BQ w wr) (fun _ _ _ u _=>2 - (intOf u).toNat)
 .exact⟨0,_,Ζ _,rfl,rfl,rfl,⟨A,Z,c1,rfl,a0.o.B x⟩,φ _ _,V.t x⟩
 obtain⟨a,k,ag,rfl,rfl,rfl,f,o,i⟩:=hrel;obtain⟨⟨M,N⟩,-,am⟩:=ν o.o;by_cases ah:a<2
 .have aj:(a:Int)<2:=U
  have K:wr.cell? ⟨r.heap.size,a,O⟩=J (G (od ei em a)):=by
   rcases(U:a=0\/a=1)with rfl|rfl
   .exact M
   .exact N
  have h:=ve ei em a;have P:=Ef ei em a;cases g:mf ei em a with
  |none =>
   rw[g]at h f;obtain rfl:k=D O 0 0:=f.o;have d:=Zh h;simp only[rL];go_wp2;go_roundw
   .exact⟨a+1,_,U,ϕ,by rw[d.o]<;>rfl,rfl,by rw[d.o];exact rfl,o.o,i⟩
   exact ω
  |some l =>
   rw[g]at h f;obtain⟨p,q,c2,rfl,m⟩:=f.o;have ai:=P l g;by_cases n:oc (od ei em a)
   .simp only[μ n]at h
    have d:=Zh h;obtain⟨j,Q⟩:∃ j:Nat,od ei em a=(j:Int):=⟨(od ei em a).toNat,ι n.1⟩;have R:j<=4611686018427387904:=ι n.2;have S:(od ei em a).toNat=j:=U;rw[Q]at K;rw[S]at d;have t:=Zh (wJ p q c2 l j wr m.1 (ι m.1) m.rd R);simp only[rL];go_wp2_with fail
    refine t.o.M ?_;rintro e aa ⟨H,n3,I,rfl,X,v⟩;have a1:=i.t v;have⟨E,B⟩:=π (θ o.o v) (X.M i.size);go_wp2;go_roundw
    .exact⟨a+1,_,U,ϕ,by rw[d.o]<;>rfl,rfl,by rw[d.o];exact⟨H,n3,I,rfl,B.o⟩,E.o,a1⟩
    exact ω
   .simp only[κ n]at h
    have d:=Zh h;have t:=Zh (IS (D p q c2) (od ei em a) wr (by unfold oc at n;omega));simp only[rL];go_wp2_with fail
    refine t.o.M ?_;rintro e aa ⟨rfl,rfl⟩;go_wp2;go_roundw
    .exact⟨a+1,_,U,ϕ,by rw[d.o]<;>rfl,rfl,by rw[d.o];exact rfl,o.o,i⟩
    exact ω
 .obtain rfl:a=2:=U
  cases g:mf ei em 2 with
  |none =>
   rw[g]at f;obtain rfl:k=D O 0 0:=f.o;simp only[rL];have s:=Zh g;go_wp2;go_ret2;rw[s.o];exact⟨ _,rfl,rfl,i⟩
  |some l =>
   rw[g]at f;obtain⟨p,q,c2,rfl,m⟩:=f.o;have⟨y,s⟩:=π m g;simp only[rL];go_wp2;go_ret2;rw[s.o];exact⟨ _,rfl,⟨p,q,c2,rfl,y.o⟩,i⟩
def Lc (kd ei em va vn vc) (w:β) (hk:kd<0\/3<kd) :
  Calls prog 154 #[ā (jc kd ei em va vn vc)] w (yD w):=by
 have a:BQ w (å w (C (jc kd ei em va vn vc) 33)):=ġ;rcases hk with hk|hk
 .go_enter func154,ntmps154
  go_wp2;go_ret2;exact⟨rfl,a⟩
 .have b:¬kd<0:=U
  go_enter func154,ntmps154;go_wp2;go_ret2;exact⟨rfl,a⟩
def Lb (ei em va a vc) (w:β) (n:2000<a) :
  Calls prog 154 #[ā (jc 0 ei em va a vc)] w (yD w):=by
 have o:(2000:Int)<(a:Int):=U;have b:=Zh (fun c=>vh 0 c U);go_enter func154,ntmps154;go_wp2_with fail
 refine(b.o _).M ?_;rintro e r ⟨h,q,c1,rfl,p,d⟩;obtain⟨g,s,f⟩:=fO d;obtain⟨⟨i,j,k,l⟩,⟨m,f1,f2,f3⟩,-⟩:=ϩ g;go_wp2;go_ret2;exact⟨rfl,f⟩
def vI {P ops o a} {w c:β} {v:ε} {K:Act->β->Prop} {Q:Exit->Act->β->Prop} {E} (d:o.guard=O) (h:(execOp a.eval o).run P w=.ok (.value v) c) (b:K (a.put o.dst v) c) :
  if Region.wanted o (yielded ops a.tmps)=true then Oper.wp P o a w K Q else E:=by
 rw[μ (by simp[Region.wanted,d])];unfold Oper.wp;rw[h];exact b
def tJ {P ops o a} {w d:β} {K:Act->β->Prop} {Q:Exit->Act->β->Prop} {E} (e:o.guard=O) (c:o.dst=O) (h:(execOp a.eval o).run P w=.ok .skip d) (b:K a d) :
  if Region.wanted o (yielded ops a.tmps)=true then Oper.wp P o a w K Q else E:=by
 rw[μ (by simp[Region.wanted,e])];unfold Oper.wp;rw[h,Oper.upon_skip,c];exact b
def yj {P ops} {Q:Exit->Act->β->Prop} {id a} {w:β} (A:P.follows .mixedOrders=true) (E:ops.size=4) {d F H I:Oper}
  (z:ops[0]?=J d) (r:ops[1]?=J F) (s:ops[2]?=J H) (t:ops[3]?=J I)
  (y:d.guard=O) (o:F.guard=O) (p:H.guard=O) (q:I.guard=O) (R:H.dst=O) (n:I.dst=O)
  (W:Region.ready .any ops #[false,false,false,false]=[0,1]) (X:Region.ready .any ops #[true,false,false,false]=[1,2]) (Y:Region.ready .any ops #[false,true,false,false]=[0])
  (T:Region.ready .any ops #[true,true,false,false]=[2]) (V:Region.ready .any ops #[true,false,true,false]=[1])
  (N:Region.ready .any ops #[true,true,true,false]=[3]) (u:Region.ready .any ops #[true,true,true,true]=[])
  (e f:ε) (M S:β->β) (g:β->Prop) (c:g w.drew) (j:∀ x,g x->g (M x))
  (v:∀ x,g x->(execOp a.eval d).run P x=.ok (.value e) x/\(execOp (a.put F.dst f).eval d).run P x=.ok (.value e) x)
  (k:∀ x,g x->(execOp a.eval F).run P x=.ok (.value f) x/\(execOp (a.put d.dst e).eval F).run P x=.ok (.value f) x)
  (l:∀ x,g x->(execOp (a.put d.dst e).eval H).run P x=.ok .skip (M x)/\(execOp ((a.put d.dst e).put F.dst f).eval H).run P x=.ok .skip (M x))
  (m:∀ x,g x->(execOp ((a.put d.dst e).put F.dst f).eval I).run P x=.ok .skip (S x))
  (B:(a.put F.dst f).put d.dst e=(a.put d.dst e).put F.dst f)
  (h:Q .normal ((a.put d.dst e).put F.dst f) (S (M w.drew))):(Code.region id ops true).wp P Q a w:=by
 refine ϯ (fun _=>True) 4 A ?_;rw[E];show Ϥ P .any ops Q (fun _=>True) 4 4 #[false,false,false,false] a w.drew;generalize w.drew=i at *;refine rE  0 1 W z r ?_ ?_
 .intro K b
  refine vI y (v i c).1 (b _ _ trivial ?_);show Ϥ P .any ops Q (fun _=>True) 4 3 #[true,false,false,false] _ _;refine rE  1 2 X r s ?_ ?_
  .intro K b
   refine vI o (k i c).2 (b _ _ trivial ?_);show Ϥ P .any ops Q (fun _=>True) 4 2 #[true,true,false,false] _ _;refine Κ  2 T s ?_;intro K b;refine tJ p R (l i c).2 (b _ _ trivial ?_);show Ϥ P .any ops Q (fun _=>True) 4 1 #[true,true,true,false] _ _;refine Κ  3 N t ?_;intro K b;refine tJ q n (m _ (j _ c)) (b _ _ trivial ?_);exact wm u h 0
  .intro K b
   refine tJ p R (l i c).1 (b _ _ trivial ?_);show Ϥ P .any ops Q (fun _=>True) 4 2 #[true,false,true,false] _ _;refine Κ  1 V r ?_;intro K b;refine vI o (k _ (j _ c)).2 (b _ _ trivial ?_);show Ϥ P .any ops Q (fun _=>True) 4 1 #[true,true,true,false] _ _;refine Κ  3 N t ?_;intro K b;refine tJ q n (m _ (j _ c)) (b _ _ trivial ?_);exact wm u h 0
 .intro K b
  refine vI o (k i c).1 (b _ _ trivial ?_);show Ϥ P .any ops Q (fun _=>True) 4 3 #[false,true,false,false] _ _;refine Κ  0 Y z ?_;intro K b;refine vI y (v i c).2 (b _ _ trivial ?_);show Ϥ P .any ops Q (fun _=>True) 4 2 #[true,true,false,false] _ _;rw[B];refine Κ  2 T s ?_;intro K b;refine tJ p R (l i c).2 (b _ _ trivial ?_);show Ϥ P .any ops Q (fun _=>True) 4 1 #[true,true,true,false] _ _;refine Κ  3 N t ?_;intro K b;refine tJ q n (m _ (j _ c)) (b _ _ trivial ?_);exact wm u h 0
def xF {P:Program} {fn} {p q:Tmp} {ty ty'} (h:fn.results=#[.cell p ty,.cell q ty']) (r:Array ε) (w:β) (g g' t t') (a b:Array ε) (fr fr' d d')
  (l:r.getD p undef=þ (J ⟨g,0,O⟩)) (s:w.heap[g]?=J (C a t fr))
  (n:P.underlying ty=J d) (f:(match d with|.struct _|.array _ _=>true|_=>false)=true) (u:(P.info? ty).map (·.size)=J a.size)
  (m:r.getD q undef=þ (J ⟨g',0,O⟩)) (j:w.heap[g']?=J (C b t' fr'))
  (o:P.underlying ty'=J d') (i:(match d' with|.struct _|.array _ _=>true|_=>false)=true) (k:(P.info? ty').map (·.size)=J b.size) :
  (results fn r).run P w=.ok (.tuple #[ā a,ā b]) w:=by
 have c:r[p]?.getD undef=þ (J ⟨g,0,O⟩):=by simpa using l
 have e:r[q]?.getD undef=þ (J ⟨g',0,O⟩):=by simpa using m
 simp[results,h,c,e,asAddr,vR w g t ty a fr d s n f u,vR w g' t' ty' b fr' d' j o i k]
structure RE0 (w W:β) (n p:Nat) (B:γ) (a:Option Addr) (c:Nat) (x0 x1 x2 x3:ε):Prop where
 r0:W.heap[w.heap.size]?=J (C #[D a n c,G (p:Int),G 0] 211 (0,0))
 r1:W.heap[w.heap.size+1]?=J (C #[D O 0 0,G 0,G 0] 211 (0,0))
 r2:W.heap[w.heap.size+1+1]?=J (C #[G 0,G 0,G 0,D O 0 0] 33 (0,0))
 r3:W.heap[w.heap.size+1+1+1]?=J (C #[x0,x1,x2,x3] 33 (0,0))
 bel:BQ w W
structure RE (w W:β) (n p:Nat) (B:γ) (a:Option Addr) (c:Nat) (x0 x1 x2 x3:ε):Prop extends RE0 w W n p B a c x0 x1 x2 x3 where
 hi:Hi (w.heap.size+1+1+1+1) W (fun w2=>Rd w2 (D a n c) n 1 (η B))
def RE.later {w W W' n p B a c x0 x1 x2 x3} (h:RE w W n p B a c x0 x1 x2 x3) (b:BQ W W'):RE w W' n p B a c x0 x1 x2 x3:=
 ⟨⟨θ h.r0 b,θ h.r1 b,θ h.r2 b,θ h.r3 b,h.bel.t b⟩,h.hi.B b⟩
def RE0.later {w W W' n p B a c x0 x1 x2 x3} (h:RE0 w W n p B a c x0 x1 x2 x3) (b:BQ W W'):RE0 w W' n p B a c x0 x1 x2 x3:=
 ⟨θ h.r0 b,θ h.r1 b,θ h.r2 b,θ h.r3 b,h.bel.t b⟩
def Dr {w A Z Y X}:(å (å (å (å w A) Z) Y) X).heap[w.heap.size]?=J A/\(å (å (å (å w A) Z) Y) X).heap[w.heap.size+1]?=J Z/\(å (å (å (å w A) Z) Y) X).heap[w.heap.size+1+1]?=J Y/\(å (å (å (å w A) Z) Y) X).heap[w.heap.size+1+1+1]?=J X/\BQ w (å (å (å (å w A) Z) Y) X):=by
 obtain⟨c,d,e,g,h,i,f⟩:=oO (w:=w) (A:=A) (Z:=Z) (Y:=Y) RZ;have a:Below (å (å (å w A) Z) Y).heap.size (å (å (å w A) Z) Y) (å (å (å (å w A) Z) Y) X):=ġ;have b:=φ (å (å (å w A) Z) Y) X;simp only[mh]at b;exact⟨θ c a,θ d a,θ e a,b,f.t a⟩
def RE0.rdr {w W n p B a c x0 x1 x2 x3} (h:RE0 w W n p B a c x0 x1 x2 x3) {a'} {b p':Nat} (d:Hi (w.heap.size+1+1+1+1) W (fun e=>Rd e (D a' n b) n 1 (η B))) :
  RE w (ŝ (ŝ (ŝ W ⟨w.heap.size,0,O⟩ (D a' n b)) ⟨w.heap.size,1,O⟩ (G (p':Int))) ⟨w.heap.size,2,O⟩ (G 0)) n p' B a' b x0 x1 x2 x3:=
 ⟨⟨jz h.r0 _ _ _,(kN _ _ _ U _ _ _).trans h.r1,(kN _ _ _ U _ _ _).trans h.r2,(kN _ _ _ U _ _ _).trans h.r3,kY h.bel NZ _ _ _⟩,lU d U _ _ _⟩
def RE.ev0 {w W n p B a c x0 x1 x2 x3} (h:RE w W n p B a c x0 x1 x2 x3) (y:ε):RE w (ŝ W ⟨w.heap.size+1+1+1,0,O⟩ y) n p B a c y x1 x2 x3:=
 ⟨⟨(nA _ _ _ U _).trans h.r0,(nA _ _ _ U _).trans h.r1,(nA _ _ _ U _).trans h.r2,υ _ _ 0 _ _ _ h.r3,h.bel.S ϑ _⟩,h.hi.set ϑ _⟩
def RE.ev1 {w W n p B a c x0 x1 x2 x3} (h:RE w W n p B a c x0 x1 x2 x3) (y:ε):RE w (ŝ W ⟨w.heap.size+1+1+1,1,O⟩ y) n p B a c x0 y x2 x3:=
 ⟨⟨(Γ _ _ _ _ ϝ).trans h.r0,(Γ _ _ _ _ ϝ).trans h.r1,(Γ _ _ _ _ ϝ).trans h.r2,υ _ _ 1 _ _ _ h.r3,h.bel.S ϑ _⟩,h.hi.set ϑ _⟩
def RE.ev2 {w W n p B a c x0 x1 x2 x3} (h:RE w W n p B a c x0 x1 x2 x3) (y:ε):RE w (ŝ W ⟨w.heap.size+1+1+1,2,O⟩ y) n p B a c x0 x1 y x3:=
 ⟨⟨(Γ _ _ _ _ ϝ).trans h.r0,(Γ _ _ _ _ ϝ).trans h.r1,(Γ _ _ _ _ ϝ).trans h.r2,υ _ _ 2 _ _ _ h.r3,h.bel.S ϑ _⟩,h.hi.set ϑ _⟩
def RE.ev3 {w W n p B a c x0 x1 x2 x3} (h:RE w W n p B a c x0 x1 x2 x3) (y:ε):RE w (ŝ W ⟨w.heap.size+1+1+1,3,O⟩ y) n p B a c x0 x1 x2 y:=
 ⟨⟨(Γ _ _ _ _ ϝ).trans h.r0,(Γ _ _ _ _ ϝ).trans h.r1,(Γ _ _ _ _ ϝ).trans h.r2,υ _ _ 3 _ _ _ h.r3,h.bel.S ϑ _⟩,h.hi.set ϑ _⟩
def ox (w:β) (n p:Nat) (a:Option Addr) (c:Nat) (h g i j:ε) (x:β):Prop:=
 x.heap[w.heap.size]?=J (C #[D a n c,G (p:Int),G 0] 211 (0,0))/\x.heap[w.heap.size+1+1+1]?=J (C #[h,g,i,j] 33 (0,0))/\(∃ b d e,x.heap[w.heap.size+1]?=J (C #[b,d,e] 211 (0,0)))/\(∃ b d e f,x.heap[w.heap.size+1+1]?=J (C #[b,d,e,f] 33 (0,0)))
abbrev set3 (g:Nat) (x y z:ε) (a:β):β:=ŝ (ŝ (ŝ a ⟨g,0,O⟩ x) ⟨g,1,O⟩ y) ⟨g,2,O⟩ z
abbrev pu (g:Nat) (x y z u:ε) (a:β):β:=ŝ (ŝ (ŝ (ŝ a ⟨g,0,O⟩ x) ⟨g,1,O⟩ y) ⟨g,2,O⟩ z) ⟨g,3,O⟩ u
def ox.set1 {w n p a c x0 x1 x2 x3 x} (h:ox w n p a c x0 x1 x2 x3 x) (y0 y1 y2):ox w n p a c x0 x1 x2 x3 (set3 (w.heap.size+1) y0 y1 y2 x):=by
 obtain⟨b,d,⟨_,_,_,e⟩,⟨_,_,_,_,f⟩⟩:=h;exact⟨(kN _ _ _ U _ _ _).trans b,(kN _ _ _ U _ _ _).trans d,⟨_,_,_,jz e _ _ _⟩,⟨_,_,_,_,(kN _ _ _ U _ _ _).trans f⟩⟩
def ox.set2 {w n p a c x0 x1 x2 x3 x} (h:ox w n p a c x0 x1 x2 x3 x) (y0 y1 y2 y3):ox w n p a c x0 x1 x2 x3 (pu (w.heap.size+1+1) y0 y1 y2 y3 x):=by
 obtain⟨b,d,⟨_,_,_,e⟩,⟨_,_,_,_,f⟩⟩:=h;exact⟨(po _ _ _ U _ _ _ _).trans b,(po _ _ _ U _ _ _ _).trans d,⟨_,_,_,(po _ _ _ U _ _ _ _).trans e⟩,⟨_,_,_,_,oh f _ _ _ _⟩⟩
def RE.rew {w W n p B a c x0 x1 x2 x3} (h:RE w W n p B a c x0 x1 x2 x3):ox w n p a c x0 x1 x2 x3 W.drew:=⟨h.r0,h.r3,⟨_,_,_,h.r1⟩,⟨_,_,_,_,h.r2⟩⟩
def Hs (w:β) (n p:Nat) (b:γ) (a:Option Addr) (c:Nat) (f e g h:ε) (X:β):Prop:=
 X.heap[w.heap.size+1]?=J (C #[D a n c,G (p:Int),G 0] 211 (0,0))/\X.heap[w.heap.size+1+1]?=J (C #[f,e,g,h] 33 (0,0))/\Below w.heap.size w X/\Hi (w.heap.size+1+1+1+1) X (fun d=>Rd d (D a n c) n 1 (η b))
def xd {lo} {w:β} {R:β->Prop} (h:Hi lo w R) {g} (a:g<lo) (x y z u):Hi lo (pu g x y z u w) R:=(lU h a x y z).set a u
abbrev Di (w b:β) (n p:Nat) (a:Option Addr) (c:Nat) (e d f g:ε):β:=pu (w.heap.size+1+1) e d f g (set3 (w.heap.size+1) (D a n c) (G (p:Int)) (G 0) b.drew)
def RE.fin {w W n p B a c x0 x1 x2 x3} (h:RE w W n p B a c x0 x1 x2 x3):Hs w n p B a c x0 x1 x2 x3 (Di w W n p a c x0 x1 x2 x3):=
 ⟨(po _ _ _ U _ _ _ _).trans (jz (show W.drew.heap[_]?=_ from h.r1) _ _ _),oh ((kN _ _ _ U _ _ _).trans (show W.drew.heap[_]?=_ from h.r2)) _ _ _ _,pd (kY h.bel.drew U _ _ _) U _ _ _ _,xd (lU h.hi.drew U _ _ _) U _ _ _ _⟩
def Kv {w b:β} {R:β->Prop} {n p a c x0 x1 x2 x3} (h:Hi (w.heap.size+1+1+1+1) b R):Hi (w.heap.size+1+1+1+1) (Di w b n p a c x0 x1 x2 x3) R:=
 xd (lU h.drew U _ _ _) U _ _ _ _
def oE:Ev->Nat
 |.doc _=>0
 |.flush=>1
 |.merge _ _=>2
 |.settle=>3
def AF:Ev->γ
 |.doc d=>Ξ d
 |.flush=>[]
 |.merge i m=>ο i++ο m
 |.settle=>[]
def In (e):e.bytes=ο (oE e)++AF e:=by cases e<;>simp[Ev.bytes,oE,AF]
def Lm (e):oE e<=3:=by cases e<;>simp[oE]
def Hw (n p:Nat) (h:γ) (i:Ev) (w:β) (e:Ending) (j:β):Prop:=
 ∃ (a:Option Addr) (c:Nat) (kd ei em:Int) (b:Option Addr) (f d:Nat),e=ŗ (.tuple #[ā #[D a n c,G (p:Int),G 0],ā (jc kd ei em b f d)])/\Hi w.heap.size j (fun g=>Rd g (D a n c) n 1 (η h)/\ou g kd ei em b f d i)/\Below w.heap.size w j
def Li (y:Ev) (ai:y.ok) (V:Option Addr) (n ab p:Nat) (z pre ď:γ) (w:β) (au:z=pre++(y.bytes++ď)) (aC:L pre=p) (aB:L z=n) (aj:n<=1000000000) (a7:Rd w (D V n ab) n 1 (η z)) :
  Calls prog 112 #[ā #[D V n ab,G p,G 0]] w (Hw n (p+L y.bytes) z y w):=by
 have bb:=Lm y;have aY:=Zh (fun aT (a3:BQ w aT)=>rM V n ab p z pre (AF y++ď) (oE y) aT (by rw[au,In,gP]) U aC aB aj (a7.B a3));have⟨al,am,an⟩:=ϲ au aB aC;clear aB au aC;go_enter func112,ntmps112;go_upto_region 2 with fail
 have af:=Dr (w:=w) (A:=C #[D V n ab,G p,G 0] 211) (Z:=C #[D O 0 0,G 0,G 0] 211) (Y:=C #[G 0,G 0,G 0,D O 0 0] 33) (X:=C #[G 0,G 0,G 0,D O 0 0] 33);generalize å (å (å (å w (C #[D V n ab,G p,G 0] 211)) (C #[D O 0 0,G 0,G 0] 211)) (C #[G 0,G 0,G 0,D O 0 0] 33)) (C #[G 0,G 0,G 0,D O 0 0] 33)=a1 at *;have ad:RE0 w a1 n p z V ab (G 0) (G 0) (G 0) (D O 0 0):=⟨af.1,af.2.1,af.2.2.1,af.2.2.2.1,af.2.2.2.2⟩;obtain⟨⟨R,H,I⟩,-,bf⟩:=Β ad.r0;have a0:=Zh ad;have a4:=ad.bel;have bd:=ς ad.r3;clear ad;go_wp2_with fail
 refine(aY.o _ a4).M ?_;rintro b0 ak ⟨b1,c1,rfl,a6,a5⟩;have ap:=a0.o.later a5;obtain⟨⟨R,H,I⟩,⟨aE,aF,aG⟩,-⟩:=Β ap.r0;obtain⟨⟨aH,aI,aJ,aK⟩,⟨aN,aO,aP,aQ⟩,-⟩:=ϩ ap.r3;obtain⟨f,av⟩:∃ F:Nat,F=p+L (ο (oE y)):=⟨_,rfl⟩;rw[<-av];have⟨B,E⟩:=π ((ap.rdr (p':=f) (a6.M U)).ev0 (G (oE y:Int))) av;clear av;cases y with
 |flush =>
  simp only[oE]at *;go_upto_region 11 with fail
  have o:=Zh B.o;generalize(ŝ (ŝ (ŝ (ŝ ak ⟨w.heap.size,0,O⟩ (D b1 n c1)) ⟨w.heap.size,1,O⟩ (G (f:Int))) ⟨w.heap.size,2,O⟩ (G 0)) ⟨w.heap.size+1+1+1,0,O⟩ (G 1))=ar at *;refine yj ϋ rfl rfl rfl rfl rfl rfl rfl rfl rfl rfl rfl ϋ ϋ ϋ ϋ ϋ ϋ ϋ (ā #[D b1 n c1,G (f:Nat),G 0]) (ā #[G 1,G 0,G 0,D O 0 0]) (set3 (w.heap.size+1) (D b1 n c1) (G (f:Nat)) (G 0)) (pu (w.heap.size+1+1) (G 1) (G 0) (G 0) (D O 0 0))
   (ox w n f b1 c1 (G 1) (G 0) (G 0) (D O 0 0)) o.o.rew (fun x h=>h.set1 _ _ _) ?_ ?_ ?_ ?_ rfl ?_
  .intro x h;obtain⟨⟨i,j,k⟩,-,-⟩:=Β h.1;constructor<;>go_simp
  .intro x h;obtain⟨⟨i,j,k,Q⟩,-,-⟩:=ϩ h.2.1;constructor<;>go_simp
  .intro x h;obtain⟨_,_,_,g⟩:=h.2.2.1;obtain⟨⟨i,j,k⟩,⟨M,N,P⟩,-⟩:=Β g;constructor<;>go_simp
  .intro x h;obtain⟨_,_,_,_,g⟩:=h.2.2.2;obtain⟨⟨i,j,k,Q⟩,⟨M,N,P,aD⟩,-⟩:=ϩ g;go_simp
  have b:=Zh (o.o.fin);go_wp2;refine Ω (v:=.tuple #[ā #[D b1 n c1,G (f:Nat),G 0],ā #[G 1,G 0,G 0,D O 0 0]]) (xF (p:=2) (q:=3) (ty:=211) (ty':=33) rfl _ _ (w.heap.size+1) (w.heap.size+1+1) 211 33 _ _ (0,0) (0,0) _ _ rfl b.o.1 qj rfl ϋ rfl b.o.2.1 underlying33 rfl ϋ) rfl ?_;refine⟨b1,c1,1,0,0,O,0,0,by rw[E.o];rfl,(b.o.2.2.2.M U).imp fun aL r=>⟨r,rfl⟩,b.o.2.2.1⟩
 |settle =>
  simp only[oE]at *;go_upto_region 11 with fail
  have o:=Zh B.o;generalize(ŝ (ŝ (ŝ (ŝ ak ⟨w.heap.size,0,O⟩ (D b1 n c1)) ⟨w.heap.size,1,O⟩ (G (f:Int))) ⟨w.heap.size,2,O⟩ (G 0)) ⟨w.heap.size+1+1+1,0,O⟩ (G 3))=ar at *;refine yj ϋ rfl rfl rfl rfl rfl rfl rfl rfl rfl rfl rfl ϋ ϋ ϋ ϋ ϋ ϋ ϋ (ā #[D b1 n c1,G (f:Nat),G 0]) (ā #[G 3,G 0,G 0,D O 0 0]) (set3 (w.heap.size+1) (D b1 n c1) (G (f:Nat)) (G 0)) (pu (w.heap.size+1+1) (G 3) (G 0) (G 0) (D O 0 0))
   (ox w n f b1 c1 (G 3) (G 0) (G 0) (D O 0 0)) o.o.rew (fun x h=>h.set1 _ _ _) ?_ ?_ ?_ ?_ rfl ?_
  .intro x h;obtain⟨⟨i,j,k⟩,-,-⟩:=Β h.1;constructor<;>go_simp
  .intro x h;obtain⟨⟨i,j,k,Q⟩,-,-⟩:=ϩ h.2.1;constructor<;>go_simp
  .intro x h;obtain⟨_,_,_,g⟩:=h.2.2.1;obtain⟨⟨i,j,k⟩,⟨M,N,P⟩,-⟩:=Β g;constructor<;>go_simp
  .intro x h;obtain⟨_,_,_,_,g⟩:=h.2.2.2;obtain⟨⟨i,j,k,Q⟩,⟨M,N,P,aD⟩,-⟩:=ϩ g;go_simp
  have b:=Zh (o.o.fin);go_wp2;refine Ω (v:=.tuple #[ā #[D b1 n c1,G (f:Nat),G 0],ā #[G 3,G 0,G 0,D O 0 0]]) (xF (p:=2) (q:=3) (ty:=211) (ty':=33) rfl _ _ (w.heap.size+1) (w.heap.size+1+1) 211 33 _ _ (0,0) (0,0) _ _ rfl b.o.1 qj rfl ϋ rfl b.o.2.1 underlying33 rfl ϋ) rfl ?_;refine⟨b1,c1,3,0,0,O,0,0,by rw[E.o];rfl,(b.o.2.2.2.M U).imp fun aL r=>⟨r,rfl⟩,b.o.2.2.1⟩
 |doc d =>
  simp only[oE]at *;go_upto_region 5 with fail
  generalize(ŝ (ŝ (ŝ (ŝ ak ⟨w.heap.size,0,O⟩ (D b1 n c1)) ⟨w.heap.size,1,O⟩ (G (f:Int))) ⟨w.heap.size,2,O⟩ (G 0)) ⟨w.heap.size+1+1+1,0,O⟩ (G 0))=aq at *;have ae:=B.o;obtain⟨⟨R,H,I⟩,-,-⟩:=Β ae.r0;have ac:=Zh (wK b1 n c1 f z (pre++ο 0) ď d 2000 aq (by rw[al.o];simp[Ev.bytes]) ai (by rw[E.o,σ,an.o]) am.o aj ae.hi.now);obtain⟨l,K⟩:∃ F:Nat,F=f+L (Ξ d):=⟨_,rfl⟩;rw[<-K]at ac;have ah:=Zh K;clear K;go_wp2_with fail
  refine ac.o.M ?_;rintro b0 aM ⟨b3,u,rfl,az,ax⟩;have T:=B.o.later ax;have ag:=B.o.r3;have a8:=ς ag;obtain⟨⟨R,H,I⟩,⟨aE,aF,aG⟩,-⟩:=Β T.r0;have b2:=Zh (T.toRE0.rdr (p':=l) (az.M U));go_upto_region 7 with fail
  generalize(ŝ (ŝ (ŝ aM ⟨w.heap.size,0,O⟩ (D b3 n u)) ⟨w.heap.size,1,O⟩ (G (l:Int))) ⟨w.heap.size,2,O⟩ (G 0))=m at *;obtain⟨dc,a2,bc,ay,aA,be⟩:=qV m d (L d) rfl (by simp only[Ev.ok]at ai;omega);have e:=b2.o.later ay;obtain⟨⟨aH,aI,aJ,aK⟩,⟨aN,aO,aP,aQ⟩,-⟩:=ϩ e.r3;have a9:=ς b2.o.r3;have⟨ao,aW⟩:=π (e.ev3 (D (J ⟨m.heap.size,0,O⟩) (L d) dc)) ((aA.M (U:w.heap.size+1+1+1+1<=m.heap.size)).set (p:=⟨w.heap.size+1+1+1,3,O⟩) ϝ (D (J ⟨m.heap.size,0,O⟩) (L d) dc));go_upto_region 11 with fail
  have o:=Zh ao.o;generalize(ŝ a2 ⟨w.heap.size+1+1+1,3,O⟩ (D (J ⟨m.heap.size,0,O⟩) (L d) dc))=ar at *;refine yj ϋ rfl rfl rfl rfl rfl rfl rfl rfl rfl rfl rfl ϋ ϋ ϋ ϋ ϋ ϋ ϋ (ā #[D b3 n u,G (l:Nat),G 0]) (ā #[G 0,G 0,G 0,D (J ⟨m.heap.size,0,O⟩) (L d) dc]) (set3 (w.heap.size+1) (D b3 n u) (G (l:Nat)) (G 0)) (pu (w.heap.size+1+1) (G 0) (G 0) (G 0) (D (J ⟨m.heap.size,0,O⟩) (L d) dc))
   (ox w n l b3 u (G 0) (G 0) (G 0) (D (J ⟨m.heap.size,0,O⟩) (L d) dc)) o.o.rew (fun x h=>h.set1 _ _ _) ?_ ?_ ?_ ?_ rfl ?_
  .intro x h;obtain⟨⟨i,j,k⟩,-,-⟩:=Β h.1;constructor<;>go_simp
  .intro x h;obtain⟨⟨i,j,k,Q⟩,-,-⟩:=ϩ h.2.1;constructor<;>go_simp
  .intro x h;obtain⟨_,_,_,g⟩:=h.2.2.1;obtain⟨⟨i,j,k⟩,⟨M,N,P⟩,-⟩:=Β g;constructor<;>go_simp
  .intro x h;obtain⟨_,_,_,_,g⟩:=h.2.2.2;obtain⟨⟨i,j,k,Q⟩,⟨M,N,P,aD⟩,-⟩:=ϩ g;go_simp
  have⟨b,aX⟩:=π (o.o.fin) (Kv (n:=n) (p:=l) (a:=b3) (c:=u) (x0:=G 0) (x1:=G 0) (x2:=G 0) (x3:=D (J ⟨m.heap.size,0,O⟩) (L d) dc) aW.o);go_wp2;refine Ω (v:=.tuple #[ā #[D b3 n u,G (l:Nat),G 0],ā #[G 0,G 0,G 0,D (J ⟨m.heap.size,0,O⟩) (L d) dc]]) (xF (p:=2) (q:=3) (ty:=211) (ty':=33) rfl _ _ (w.heap.size+1) (w.heap.size+1+1) 211 33 _ _ (0,0) (0,0) _ _ rfl b.o.1 qj rfl ϋ rfl b.o.2.1 underlying33 rfl ϋ) rfl ?_;refine⟨b3,u,0,0,0,_,L d,dc,by rw[ah.o,E.o];simp[Ev.bytes,iX],((b.o.2.2.2.and aX.o).M U).imp fun aL r=>⟨r.1,rfl,rfl,r.2⟩,b.o.2.2.1⟩
 |merge s t =>
  simp only[oE]at *;have aU:s<=4611686018427387904:=ai.1;have aV:t<=4611686018427387904:=ai.2;go_upto_region 9 with fail
  generalize(ŝ (ŝ (ŝ (ŝ ak ⟨w.heap.size,0,O⟩ (D b1 n c1)) ⟨w.heap.size,1,O⟩ (G (f:Int))) ⟨w.heap.size,2,O⟩ (G 0)) ⟨w.heap.size+1+1+1,0,O⟩ (G 2))=aq at *;have ae:=B.o;obtain⟨⟨R,H,I⟩,-,-⟩:=Β ae.r0;have ac:=Zh (rM b1 n c1 f z (pre++ο 2) (ο t++ď) s aq (by rw[al.o];simp[Ev.bytes]) aU (by rw[E.o,σ,an.o]) am.o aj ae.hi.now);obtain⟨l,K⟩:∃ F:Nat,F=f+L (ο s):=⟨_,rfl⟩;rw[<-K]at ac;have ah:=Zh K;clear K;go_wp2_with fail
  refine ac.o.M ?_;rintro b0 aM ⟨b3,u,rfl,az,ax⟩;have T:=B.o.later ax;have ag:=B.o.r3;have a8:=ς ag;obtain⟨⟨R,H,I⟩,⟨aE,aF,aG⟩,-⟩:=Β T.r0;obtain⟨⟨aH,aI,aJ,aK⟩,⟨aN,aO,aP,aQ⟩,-⟩:=ϩ T.r3;have b2:=Zh ((T.toRE0.rdr (p':=l) (az.M U)).ev1 (G (s:Int)));go_upto_region 10 with fail
  generalize(ŝ (ŝ (ŝ (ŝ aM ⟨w.heap.size,0,O⟩ (D b3 n u)) ⟨w.heap.size,1,O⟩ (G (l:Int))) ⟨w.heap.size,2,O⟩ (G 0)) ⟨w.heap.size+1+1+1,1,O⟩ (G (s:Int)))=m at *;have aS:=b2.o;obtain⟨⟨R,H,I⟩,-,-⟩:=Β aS.r0;have aR:=Zh (rM b3 n u l z (pre++(ο 2++ο s)) ď t m (by rw[al.o];simp[Ev.bytes]) aV (by rw[ah.o,E.o,σ,an.o,σ,iX]) am.o aj aS.hi.now);obtain⟨S,aw⟩:∃ F:Nat,F=l+L (ο t):=⟨_,rfl⟩;rw[<-aw]at aR;have aZ:=Zh aw;clear aw;go_wp2_with fail
  refine aR.o.M ?_;rintro b0 ba ⟨W,aa,rfl,aA,ay⟩;have e:=b2.o.later ay;have ag:=b2.o.r3;have a9:=ς ag;obtain⟨⟨R,H,I⟩,⟨aE,aF,aG⟩,-⟩:=Β e.r0;obtain⟨⟨aH,aI,aJ,aK⟩,⟨aN,aO,aP,aQ⟩,-⟩:=ϩ e.r3;have ao:=Zh ((e.toRE0.rdr (p':=S) (aA.M U)).ev2 (G (t:Int)));go_upto_region 11 with fail
  have o:=Zh ao.o;generalize(ŝ (ŝ (ŝ (ŝ ba ⟨w.heap.size,0,O⟩ (D W n aa)) ⟨w.heap.size,1,O⟩ (G (S:Int))) ⟨w.heap.size,2,O⟩ (G 0)) ⟨w.heap.size+1+1+1,2,O⟩ (G (t:Int)))=ar at *;refine yj ϋ rfl rfl rfl rfl rfl rfl rfl rfl rfl rfl rfl ϋ ϋ ϋ ϋ ϋ ϋ ϋ (ā #[D W n aa,G (S:Nat),G 0]) (ā #[G 2,G (s:Int),G (t:Int),D O 0 0]) (set3 (w.heap.size+1) (D W n aa) (G (S:Nat)) (G 0)) (pu (w.heap.size+1+1) (G 2) (G (s:Int)) (G (t:Int)) (D O 0 0))
   (ox w n S W aa (G 2) (G (s:Int)) (G (t:Int)) (D O 0 0)) o.o.rew (fun x h=>h.set1 _ _ _) ?_ ?_ ?_ ?_ rfl ?_
  .intro x h;obtain⟨⟨i,j,k⟩,-,-⟩:=Β h.1;constructor<;>go_simp
  .intro x h;obtain⟨⟨i,j,k,Q⟩,-,-⟩:=ϩ h.2.1;constructor<;>go_simp
  .intro x h;obtain⟨_,_,_,g⟩:=h.2.2.1;obtain⟨⟨i,j,k⟩,⟨M,N,P⟩,-⟩:=Β g;constructor<;>go_simp
  .intro x h;obtain⟨_,_,_,_,g⟩:=h.2.2.2;obtain⟨⟨i,j,k,Q⟩,⟨M,N,P,aD⟩,-⟩:=ϩ g;go_simp
  have b:=Zh (o.o.fin);go_wp2;refine Ω (v:=.tuple #[ā #[D W n aa,G (S:Nat),G 0],ā #[G 2,G (s:Int),G (t:Int),D O 0 0]]) (xF (p:=2) (q:=3) (ty:=211) (ty':=33) rfl _ _ (w.heap.size+1) (w.heap.size+1+1) 211 33 _ _ (0,0) (0,0) _ _ rfl b.o.1 qj rfl ϋ rfl b.o.2.1 underlying33 rfl ϋ) rfl ?_;refine⟨W,aa,2,s,t,O,0,0,by rw[aZ.o,ah.o,E.o];simp[Ev.bytes,iX],(b.o.2.2.2.M U).imp fun aL r=>⟨r,rfl,rfl,rfl,aU,aV⟩,b.o.2.2.1⟩
def sS {w:β} {a n c} {x:List (γ)} (h:Ε w (D a n c) x) (t:L x=n) (k hk):∃ b off da dc,a=J ⟨b,off,O⟩/\n<=c/\c<=maxLen/\w.cell? ⟨b,off+k,O⟩=J (D da (L x[k]) dc)/\Rd w (D da (L x[k]) dc) (L x[k]) 1 (η x[k]):=by
 obtain⟨v,⟨r,s,o⟩,j⟩:=h;rcases o with ⟨p,f,d,i⟩|⟨b,off,f,d,i,u,m,l⟩
 .omega
 .simp only[Χ]at d
  obtain⟨rfl,-,rfl⟩:=d;obtain⟨q,g,e⟩:=j k hk;obtain⟨da,dc,rfl⟩:=sK e;exact⟨b,off,da,dc,rfl,U,m,l _ _ g,e⟩
structure nP (p:Prop):Prop where
 o:p
def BH (b:List (γ)) (n:Nat) (w:β) (e:Ending) (c:β):Prop:= ∃ g,e=ŗ (D (J ⟨g,0,O⟩) n n)/\Hi w.heap.size c (fun a=>Ε a (D (J ⟨g,0,O⟩) n n) b)/\Below w.heap.size w c
def Gy (da n dc) (ď:List (γ)) (w:β) (ag:L ď=n) (aa:Ε w (D da n dc) ď) (af:∀ k (ae:k<L ď),L ď[k]<=100000) (ay:n<=5000) :
  Calls prog 31 #[D da n dc] w (BH ď n w):=by
 have e:=nP.mk (fun R (W:BQ w R)=>aa.B W);have N:=nP.mk af;have j:=nP.mk ag;obtain⟨ap,ad,ak,al,am⟩:=Ϩ uW;go_enter func31,ntmps31;go_wp2_with (at_make;refine tQ w rfl _ _ _ rfl _ 31 ap _ 1 nM ad ak al _ _ _ _ n rfl rfl ύ ύ (by rw[am];omega) ώ NZ ?_;intro i A ab;have X:BQ w i:=RZ.grown ab NZ (fun _ h=>by cases h))
 have P:=nP.mk A;have ac:=(Ϡ A w.heap.size rfl).2;go_loopw [11] (fun a wr=>∃ (k:Nat) (g:List ε),k<=n/\a=G k/\nP (wr.ownsRow w.heap.size 31 1 (D (J ⟨w.heap.size,0,O⟩) n n) n g)/\nP (Hi i.heap.size wr (ml ď g k))/\BQ w wr/\i.heap.size<=wr.heap.size) (fun a _=>n - (intOf a).toNat)
 .exact⟨0,_,Ζ _,rfl,P,⟨fun E _ a hi h=>U⟩,X,NZ⟩
 obtain⟨k,g,ae,rfl,v,u,s,aj⟩:=hrel;by_cases aA:k<n
 .have z:k<L ď:=ι j.o
  have aq:(k:Int)<(n:Int):=U;have aC:(0:Int)<=(k:Int):=U;obtain⟨a0,off,au,av,rfl,aB,ao,c1,ai⟩:=sS (e.o wr s) j.o k z;have t:=nP.mk (rK _ _ _ wr ai (mM _) (ι (N.o k z)));have I:∃ c,L ď[k]=c:=⟨_,rfl⟩;obtain⟨c,x⟩:=I;rw[x]at t c1;have H:=nP.mk x;unfold maxLen at ao;go_wp2_with fail
  refine t.o.M ?_;rintro a1 F ⟨aE,rfl,B,m⟩;obtain⟨d,f,rfl⟩:=Η B;have Y:=s.t m;have l:=nP.mk (ψ v.o m);obtain⟨V,aw,-,ax⟩:=im l.o k U;obtain⟨aD,ah⟩:∃ ar,g[k]?=J ar:=⟨_,Ρ (ι l.o.1)⟩;rw[ah]at V;have Q:=nP.mk (mU l.o k U (D d c f));have K:nP (Hi i.heap.size (ŝ F ⟨w.heap.size,k,O⟩ (D d c f)) (ml ď (g.set k (D d c f)) (k+1))):=⟨by
   have r:=(u.o.B m).and ((Hi.own B).M (show i.heap.size<=wr.heap.size from aj))
   refine(r.set (p:=⟨w.heap.size,k,O⟩) ac (D d c f)).imp fun E ⟨o,q⟩ a hi az=>?_
   by_cases y:a=k
   .subst y
    refine⟨ _,by rw[mB (ι l.o.1)],?_⟩
    rw[H.o];exact q
   .obtain⟨S,T,b⟩:=o a hi U
    exact⟨S,by rw[gi (Ne.symm y)];exact T,b⟩⟩
  have Z:=Y.S (p:=⟨w.heap.size,k,O⟩) NZ (D d c f);have an:i.heap.size<=(ŝ F ⟨w.heap.size,k,O⟩ (D d c f)).heap.size:=by have:=m.size;simp;omega
  go_wp2_with fail
  go_roundw
  .exact⟨ _,_,U,ϕ,Q,K,Z,an⟩
  exact ω
 .obtain rfl:k=n:=U
  have aq:¬(k:Int)<(k:Int):=U;have M:nP (BH ď k w (ŗ (D (J ⟨w.heap.size,0,O⟩) k k)) wr):=⟨⟨ _,rfl,by
   have r:=((u.o.M U).and (Hi.own v.o))
   refine r.imp fun E ⟨o,q⟩=>⟨g,by rw[j.o];exact q,fun a hi=>o a hi (ι j.o)⟩,s⟩⟩
  go_wp2;go_ret;exact M.o
