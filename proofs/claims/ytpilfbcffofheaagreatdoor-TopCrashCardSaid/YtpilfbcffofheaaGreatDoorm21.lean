/- Part 21 of the proof. -/
import Derived.Test.YtpilfbcffofheaaGreatDoorm17
import Derived.Test.YtpilfbcffofheaaGreatDoorm20
set_option linter.unusedVariables false
set_option linter.unusedSimpArgs false
set_option maxRecDepth 100000
set_option maxHeartbeats 16000000
namespace Go.Proofs.YtpilfbcffofheaaGreatDoor
open Go.Proofs.Tryz Go.RowKit Go.Sort
open Value renaming slice->D,int->ĭ,agg->ā,string->š,pointer->þ
open Option renaming none->O,some->J
open Obj renaming cells->C
open List renaming length->L
open Ending renaming returned->ŗ
open World renaming alloc->å,setCell->ŝ
theorem od {P:Program} {w:β} {ops:Array Oper} {o:Oper} {a:Act} {K:Act->β->Prop} {Q:Exit->Act->β->Prop} {h:Prop}
  (hg:o.guard=O) (l c:Operand) (t:TypeId) (y:o.op=Op.makeSlice t l c)
  (base:Nat) (e:TypeId) (i:TypeInfo) (z:ε) (size:Nat) (k:P.underlying t=J (.slice e)) (m:P.info? e=J i) (p:i.zero=J z) (q:i.size=size)
  (g f:IntKind) (d b:Int) (n:Nat) (x:a.eval l=ĭ g d) (v:a.eval c=ĭ f b) (u:d=(n:Int)) (r:b=(n:Int)) (b2:i.bytes*n<=281474976710656) (b3:n<=maxLen) (j:base<=w.heap.size)
  (s:∀ w',w'.ownsRow base e size (D (J ⟨w.heap.size,0,O⟩) n n) n (madeCells z.cells (n*size)).toList->w.grownBy w' O->K (a.put o.dst (D (J ⟨w.heap.size,0,O⟩) n n)) w') :
  if Region.wanted o (yielded ops a.tmps)=true then Oper.wp P o a w K Q else h:=by
 have B:Region.wanted o (yielded ops a.tmps)=true:=by simp[Region.wanted,hg]
 rw[μ B];obtain⟨w',A,r1,r2⟩:=run_make_full (P:=P) w base t e i z size k m p q g f n b2 b3 j;subst u;subst r;unfold Oper.wp;simp[execOp,y,x,v,A,Result.andThen];exact s w' r1 r2
section
variable {P:Program} {ops:Array Oper} {Q:Exit->Act->β->Prop} {md:Region.Mode}
theorem Fx {S:β->Prop} {h:Nat} (i j k:Nat) {oi m ok:Oper} {fuel:Nat} {g:Array Bool} {a:Act} {w:β} (n:Region.ready md ops g=[i,j,k]) (hi:ops[i]?=J oi) (s:ops[j]?=J m) (t:ops[k]?=J ok)
  (p:∀ K:Act->β->Prop,(∀ b w',S w'->ϫ P md ops Q S h fuel (g.setIfInBounds i true) b w'->K b w')->if Region.wanted oi (yielded ops a.tmps)=true then Oper.wp P oi a w K Q else K (a.put oi.dst undef) w)
  (q:∀ K:Act->β->Prop,(∀ b w',S w'->ϫ P md ops Q S h fuel (g.setIfInBounds j true) b w'->K b w')->if Region.wanted m (yielded ops a.tmps)=true then Oper.wp P m a w K Q else K (a.put m.dst undef) w)
  (r:∀ K:Act->β->Prop,(∀ b w',S w'->ϫ P md ops Q S h fuel (g.setIfInBounds k true) b w'->K b w')->if Region.wanted ok (yielded ops a.tmps)=true then Oper.wp P ok a w K Q else K (a.put ok.dst undef) w) :
  ϫ P md ops Q S h (fuel+1) g a w:=by
 refine⟨fun o=>?_,fun l hl=>?_⟩
 .rw[o]at n;cases n
 .rw[n]at hl
  rcases gP.1 hl with rfl|hl
  .exact li hi (fun c f=>p c (fun b w' d e=>f b w' ⟨fun _=>d,e⟩))
  .rcases gP.1 hl with rfl|hl
   .exact li s (fun c f=>q c (fun b w' d e=>f b w' ⟨fun _=>d,e⟩))
   .obtain rfl:=jW.1 hl
    exact li t (fun c f=>r c (fun b w' d e=>f b w' ⟨fun _=>d,e⟩))
theorem pZ {S:β->Prop} {l:Nat} (i j:Nat) {oi d:Oper} {fuel:Nat} {c:Array Bool} {a:Act} {w:β} (k:Region.ready md ops c=[i,j]) (hi:ops[i]?=J oi) (p:ops[j]?=J d)
  (n:∀ K:Act->β->Prop,(∀ b w',S w'->ϫ P md ops Q S l fuel (c.setIfInBounds i true) b w'->K b w')->if Region.wanted oi (yielded ops a.tmps)=true then Oper.wp P oi a w K Q else K (a.put oi.dst undef) w)
  (o:∀ K:Act->β->Prop,(∀ b w',S w'->ϫ P md ops Q S l fuel (c.setIfInBounds j true) b w'->K b w')->if Region.wanted d (yielded ops a.tmps)=true then Oper.wp P d a w K Q else K (a.put d.dst undef) w) :
  ϫ P md ops Q S l (fuel+1) c a w:=by
 refine⟨fun m=>?_,fun q hk=>?_⟩
 .rw[m]at k;cases k
 .rw[k]at hk
  rcases gP.1 hk with rfl|hk
  .exact li hi (fun e h=>n e (fun b w' f g=>h b w' ⟨fun _=>f,g⟩))
  .obtain rfl:=jW.1 hk
   exact li p (fun e h=>o e (fun b w' f g=>h b w' ⟨fun _=>f,g⟩))
end
def Fg (n:Nat):List ε:=List.replicate n (D O 0 0)
def Fh (m:Nat):List ε:=(madeCells #[IZ 0,IZ 0,D O 0 0] (m*3)).toList
structure ll (W w:β) (n m:Nat) (oD oS oY:Option Nat):Prop where
 bel:BQ W w
 rD:∀ g,oD=J g->W.heap.size<=g/\w.ownsRow W.heap.size 31 1 (D (J ⟨g,0,O⟩) n n) n (Fg n)
 rS:∀ g,oS=J g->W.heap.size<=g/\w.ownsRow W.heap.size 92 3 (D (J ⟨g,0,O⟩) m m) m (Fh m)
 rY:∀ g,oY=J g->W.heap.size<=g/\w.heap[g]?=J (C #[D O 0 0,D O 0 0] 44 (0,0))
 dS:∀ g,oD=J g->oS≠J g
 dY:∀ g,oD=J g->oY≠J g
 sY:∀ g,oS=J g->oY≠J g
theorem ll.lt {d w:β} {n m:Nat} {a b c:Option Nat} (h:ll d w n m a b c):(∀ g,a=J g->g<w.heap.size)/\(∀ g,b=J g->g<w.heap.size)/\(∀ g,c=J g->g<w.heap.size):=
 ⟨fun g hg=>(kk (h.rD g hg).2).2.2.2,fun g hg=>(kk (h.rS g hg).2).2.2.2,fun g hg=>ο (h.rY g hg).2⟩
theorem JQ (z:ε) (n:Nat):(madeCells #[z] (n*1)).toList=List.replicate n z:=by rw[nJ];exact rr z n
theorem ll.mkD {b w w':β} {n m:Nat} {d f:Option Nat} (h:ll b w n m O d f) (j:w'.ownsRow w.heap.size 31 1 (D (J ⟨w.heap.size,0,O⟩) n n) n (madeCells (Value.slice O 0 0).cells (n*1)).toList) (hg:w.grownBy w' O):ll b w' n m (J w.heap.size) d f:=by
 have a:BQ w w':=RZ.grown hg NZ (fun k i=>by cases i);obtain⟨l1,l2,l3⟩:=h.lt;have c:=ii j h.bel.size;rw[show(Value.slice O 0 0).cells=#[D O 0 0]from rfl,JQ]at c;refine⟨h.bel.trans (a.mono h.bel.size),fun g hg=>?_,fun g hg=>⟨(h.rS g hg).1,Υ (h.rS g hg).2 a⟩,fun g hg=>⟨(h.rY g hg).1,θ (h.rY g hg).2 a⟩,fun g hg e=>?_,fun g hg e=>?_,h.sY⟩
 .injection hg with hg;subst hg;exact⟨h.bel.size,c⟩
 .injection hg with hg;subst hg;have:=l2 _ e;omega
 .injection hg with hg;subst hg;have:=l3 _ e;omega
theorem ll.mkS {b w w':β} {n m:Nat} {d f:Option Nat} (h:ll b w n m d O f) (j:w'.ownsRow w.heap.size 92 3 (D (J ⟨w.heap.size,0,O⟩) m m) m (madeCells (Value.agg #[IZ 0,IZ 0,D O 0 0]).cells (m*3)).toList) (hg:w.grownBy w' O):ll b w' n m d (J w.heap.size) f:=by
 have a:BQ w w':=RZ.grown hg NZ (fun k i=>by cases i);obtain⟨l1,l2,l3⟩:=h.lt;have c:=ii j h.bel.size;rw[show(Value.agg #[IZ 0,IZ 0,D O 0 0]).cells=#[IZ 0,IZ 0,D O 0 0]from rfl]at c;refine⟨h.bel.trans (a.mono h.bel.size),fun g hg=>⟨(h.rD g hg).1,Υ (h.rD g hg).2 a⟩,fun g hg=>?_,fun g hg=>⟨(h.rY g hg).1,θ (h.rY g hg).2 a⟩,fun g hg e=>?_,h.dY,fun g hg e=>?_⟩
 .injection hg with hg;subst hg;exact⟨h.bel.size,c⟩
 .injection e with e;subst e;have:=l1 _ hg;omega
 .injection hg with hg;subst hg;have:=l3 _ e;omega
theorem ll.mkY {b w:β} {n m:Nat} {c d:Option Nat} (h:ll b w n m c d O):ll b (å w (C #[D O 0 0,D O 0 0] 44)) n m c d (J w.heap.size):=by
 have a:BQ w (å w (C #[D O 0 0,D O 0 0] 44)):=ġ;obtain⟨l1,l2,l3⟩:=h.lt;refine⟨h.bel.trans (a.mono h.bel.size),fun g hg=>⟨(h.rD g hg).1,Υ (h.rD g hg).2 a⟩,fun g hg=>⟨(h.rS g hg).1,Υ (h.rS g hg).2 a⟩,fun g hg=>?_,h.dS,fun g hg e=>?_,fun g hg e=>?_⟩
 .injection hg with hg;subst hg;exact⟨h.bel.size,χ _ _⟩
 .injection e with e;subst e;have:=l1 _ hg;omega
 .injection e with e;subst e;have:=l2 _ hg;omega
theorem ll.rowY {b w:β} {n m c d a:Nat} (h:ll b w n m (J c) (J d) (J a)):w.heap[a]?=J (C #[D O 0 0,D O 0 0] 44 (0,0)):=(h.rY a rfl).2
structure Aj (W wc:β) (n m gD gS gY:Nat):Prop where
 bel:BQ W wc
 rD:wc.ownsRow W.heap.size 31 1 (D (J ⟨gD,0,O⟩) n n) n (Fg n)
 rS:wc.ownsRow W.heap.size 92 3 (D (J ⟨gS,0,O⟩) m m) m (Fh m)
 rY:wc.heap[gY]?=J (C #[D (J ⟨gD,0,O⟩) n n,D (J ⟨gS,0,O⟩) m m] 44 (0,0))
 le:W.heap.size<=gD/\W.heap.size<=gS/\W.heap.size<=gY
 ne:gD≠gS/\gD≠gY/\gS≠gY
theorem vH {w:β} {base:Nat} {e:TypeId} {size g n a:Nat} {xs:List ε} (h:w.ownsRow base e size (D (J ⟨g,0,O⟩) n a) n xs) {p:Addr} (j:p.block≠g) (x:ε):(ŝ w p x).ownsRow base e size (D (J ⟨g,0,O⟩) n a) n xs:=by
 obtain⟨i,f⟩:=h;refine⟨i,?_⟩;rcases f with h|⟨c,b,cur,h,d,hg,k⟩
 .exact .inl h
 .refine .inr ⟨c,b,cur,h,d,?_,k⟩
  simp only[Ξ,Ο,Addr.mk.injEq,hR,Ϯ]at h;obtain⟨rfl,rfl⟩:=h;rw[ψ _ _ _ _ (fun e=>j e.symm)];exact hg
theorem ll.fin {i w:β} {n m a b c:Nat} (h:ll i w n m (J a) (J b) (J c)):Aj i (ŝ (ŝ w ⟨c,0,O⟩ (D (J ⟨a,0,O⟩) n n)) ⟨c,1,O⟩ (D (J ⟨b,0,O⟩) m m)) n m a b c:=by
 have j:=h.rD a rfl;have k:=h.rS b rfl;have d:=h.rY c rfl;have f:c≠a:=fun e=>h.dY a rfl (by rw[e]);have g:c≠b:=fun e=>h.sY b rfl (by rw[e]);have n3:a≠b:=fun e=>h.dS a rfl (by rw[e]);exact⟨fS h.bel d.1 _ _,vH (vH j.2 f _) f _,vH (vH k.2 g _) g _,Ϲ d.2 _ _,⟨j.1,k.1,d.1⟩,⟨n3,fun e=>f e.symm,fun e=>g e.symm⟩⟩
theorem vq:(prog.info? 92).map (fun i=>(i.zero,i.size,i.bytes))=J (J (ā #[IZ 0,IZ 0,D O 0 0]),3,40):=ϋ
theorem lW {w:β} {base:Nat} {e:TypeId} {size g n a:Nat} {xs:List ε} (h:w.ownsRow base e size (D (J ⟨g,0,O⟩) n a) n xs) (i:Nat) (hi:i<n*size) (x:ε):(ŝ w ⟨g,i,O⟩ x).ownsRow base e size (D (J ⟨g,0,O⟩) n a) n (xs.set i x):=by
 obtain⟨j,f⟩:=h;rcases f with ⟨h,_⟩|⟨o,m,cur,h,b,hg,k,c,d,l⟩
 .simp at h
 .simp only[Ξ,Ο,Addr.mk.injEq,hR,Ϯ]at h
  obtain⟨rfl,rfl⟩:=h;refine⟨by simpa using j,.inr ⟨g,a,_,rfl,b,π _ _ i _ _ x hg,k,c,by simpa using d,?_⟩⟩;rw[Array.toList_setIfInBounds,<-l,List.take_set]
theorem hG {w:β} {base:Nat} {e:TypeId} {size g n a:Nat} {xs:List ε} (h:w.ownsRow base e size (D (J ⟨g,0,O⟩) n a) n xs) (i:Nat) (hi:i<n*size):w.cell? ⟨g,i,O⟩=xs[i]?/\w.frozen? ⟨g,i,O⟩=false/\base<=g/\g<w.heap.size:=by
 obtain⟨m,c⟩:=h;rcases c with ⟨h,_⟩|⟨j,f,cur,h,b,hg,o,k,l,d⟩
 .simp at h
 .simp only[Ξ,Ο,Addr.mk.injEq,hR,Ϯ]at h
  obtain⟨rfl,rfl⟩:=h;refine⟨?_,ϥ _ _ _ _ _ hg,b,ο hg⟩;rw[ν _ _ i _ _ _ hg,<-d,hP];simp[hi]
theorem jT {w w':β} {base:Nat} {e:TypeId} {size n:Nat} {v:ε} {xs:List ε} (h:w.ownsRow base e size v n xs) (f:∀ g,v.ownBlock=J g->w'.heap[g]?=w.heap[g]?):w'.ownsRow base e size v n xs:=by
 obtain⟨i,d⟩:=h;refine⟨i,?_⟩;rcases d with h|⟨a,b,cur,rfl,c,hg,j⟩
 .exact .inl h
 .exact .inr ⟨a,b,cur,rfl,c,(f a rfl).trans hg,j⟩
def lj (docs:List (γ)) (c:List ε) (k:Nat) (w:β):Prop:= ∀ a (hi:a<L docs),a<k->∃ b,c[a]?=J b/\Rd w b (L docs[a]) 1 (η docs[a])
def kv (docs:List (γ)) (ps:List (Nat×Nat)) (b:List ε) (k:Nat) (w:β):Prop:= ∀ a (hi:a<L ps),a<k->b[a*3]?=J (IZ ps[a].1)/\b[a*3+1]?=J (IZ ps[a].2)/\∃ c,b[a*3+2]?=J c/\fY w c (L (Α docs ps[a])) (Α docs ps[a])
structure xk (base:Nat) (w:β) (v1 v2:ε) (docs:List (γ)) (ps:List (Nat×Nat)) (vs cells:List ε) (lo:Nat):Prop where
 rD:w.ownsRow base 31 1 v1 (L docs) vs
 rS:w.ownsRow base 92 3 v2 (L ps) cells
 l1:∀ g,v1.ownBlock=J g->g<lo
 l2:∀ g,v2.ownBlock=J g->g<lo
 bl:base<=lo
 el:Hi lo w (fun w2=>lj docs vs (L docs) w2/\kv docs ps cells (L ps) w2)
 ne:∀ g,v1.ownBlock=J g->v2.ownBlock≠J g
theorem xk.hi {base:Nat} {w:β} {d e:ε} {docs:List (γ)} {ps:List (Nat×Nat)} {f b:List ε} {lo:Nat} (h:xk base w d e docs ps f b lo):Hi base w (fun a=>Δ a d docs/\ϧ docs a e ps):=by
 have l:=(h.el.mono h.bl).and ((Hi.own h.rD).and (Hi.own h.rS));exact l.imp fun a ⟨⟨g,i⟩,j,k⟩=>⟨⟨f,j,fun m hi=>g m hi hi⟩,b,k,fun n c=>i n c c⟩
theorem vK (n m:Nat) (da:Option Addr) (dc:Nat) (sa:Option Addr) (sc:Nat) (docs:List (γ)) (ps:List (Nat×Nat)) (w:β) (cr:L docs=n) (cq:L ps=m) (cB:Δ w (D da n dc) docs) (cO:ϧ docs w (D sa m sc) ps) (fo:n<=1000) (fn:m<=1000)
  (cI:∀ d∈docs,L d<=100000) (cJ:∀ p∈ps,L (Α docs p)<=2000000/\∀ e∈Α docs p,L e.2<=1000) :
  Calls prog 301 #[ā #[D da n dc,D sa m sc]] w fun e w'=>∃ t j R aa lo,e=ŗ (ā #[D (J ⟨t,0,O⟩) n n,D (J ⟨j,0,O⟩) m m])/\xk w.heap.size w' (D (J ⟨t,0,O⟩) n n) (D (J ⟨j,0,O⟩) m m) docs ps R aa lo/\BQ w w':=by
 obtain⟨e9,fa,aJ,-,c8⟩:=ny cB;simp only[Ξ]at aJ;obtain⟨rfl,-,rfl⟩:=aJ;obtain⟨fF,fG,aJ,-,dx⟩:=rU cO;simp only[Ξ]at aJ;obtain⟨rfl,-,rfl⟩:=aJ;have dA:=Zh (fun i (ac:i<L docs)=>cI docs[i] (Χ ac));have dB:=Zh (fun i (ac:i<L ps)=>cJ ps[i] (Χ ac));clear cB cO cI cJ;have bf:=Zh cr;have be:=Zh cq;clear cr cq;obtain⟨aQ,aF,aL,aM,aN⟩:=ϯ vp;obtain⟨aR,ac,aG,aH,aI⟩:=ϯ vq;have ek:=fU (w:=w) (A:=C #[D da n dc,D sa m sc] 44) (Z:=C #[D O 0 0,D O 0 0] 44) (w1:=(å (å w (C #[D da n dc,D sa m sc] 44)) (C #[D O 0 0,D O 0 0] 44))) RZ;go_enter func301,ntmps301;go_upto_region 1 with (fail)
 generalize(å (å w (C #[D da n dc,D sa m sc] 44)) (C #[D O 0 0,D O 0 0] 44))=B at *;obtain⟨bL,cN,bT,e2,cz⟩:=ek;obtain⟨⟨aT,aU⟩,-,-⟩:=ι bL;go_cut [3] (fun eP wc=>∃ t j V,eP=þ (J ⟨V,0,O⟩)/\Aj B wc n m t j V)
 case first =>
  refine ϸ (fun E=>BQ B E) 10 ϋ ?_;have l:BQ B B.drew:=RZ.drew;have bl:ll B B.drew n m O O O:=⟨l,ύ,ύ,ύ,ύ,ύ,ύ⟩;generalize B.drew=wd at *;refine Ox (oi:=⟨J 10,_,_,_,_,_⟩) 0 rfl l ?_;simp only[Zp];refine Oz (oi:=⟨J 11,_,_,_,_,_⟩) 1 [2,3,8,10] rfl l ?_ (hy:=by intro E o;have ag:=ζ o aT;have G:=ζ o aU;go_simp;try with_reducible rfl);simp only[Zp];refine Ox (oi:=⟨J 12,_,_,_,_,_⟩) 2 rfl l ?_;simp only[Zp];refine Ox (oi:=⟨J 14,_,_,_,_,_⟩) 4 rfl l ?_;simp only[Zp];refine Oz (oi:=⟨J 15,_,_,_,_,_⟩) 5 [6,7,8,10] rfl l ?_ (hy:=by intro E o;have ag:=ζ o aT;have G:=ζ o aU;go_simp;try with_reducible rfl);simp only[Zp];refine Ox (oi:=⟨J 16,_,_,_,_,_⟩) 6 rfl l ?_;simp only[Zp];refine Fx (fuel:=4) 3 7 9 ϋ rfl rfl rfl ?_ ?_ ?_
  .skip
   intro K f;refine od rfl (.tmp 12) (.tmp 12) _ rfl wd.heap.size 31 aQ (D O 0 0) 1 kY aF aL aM .i64 .i64 _ _ n ϔ ϔ rfl rfl (by rw[aN];omega) ώ NZ ?_;intro c3 eG d4;have bp:=bl.mkD eG d4;refine f _ _ bp.bel ?_;clear f K;refine pZ (fuel:=3) 7 9 ϋ rfl rfl ?_ ?_
   .skip
    intro K f;refine od rfl (.tmp 16) (.tmp 16) _ rfl c3.heap.size 92 aR (ā #[IZ 0,IZ 0,D O 0 0]) 3 mG ac aG aH .i64 .i64 _ _ m ϔ ϔ rfl rfl (by rw[aI];omega) ώ NZ ?_;intro e0 eL d9;have br:=bp.mkS eL d9;refine f _ _ br.bel ?_;clear f K;refine Ox (oi:=⟨J 18,_,_,_,_,_⟩) 8 rfl br.bel ?_;simp only[Zp];refine Ψ (fuel:=1) 9 ϋ rfl ?_;intro K f;go_simp;have bs:=br.mkY;refine f _ _ bs.bel ?_;clear f K;generalize(e0.alloc (C #[D O 0 0,D O 0 0] 44))=fO at *;have dt:=Zh bs.fin;obtain⟨⟨c0,c1⟩,⟨az,f1⟩,-⟩:=ι bs.rowY;refine Zl ?_;refine Zd ?_;go_wp2_with fail
    go_meet;case rel=>exact⟨_,_,_,rfl,dt.o⟩
   .skip
    intro K f;go_simp;have cd:=bp.mkY;refine f _ _ cd.bel ?_;clear f K;generalize(c3.alloc (C #[D O 0 0,D O 0 0] 44))=e1 at *;refine Ψ (fuel:=2) 7 ϋ rfl ?_;intro K f;refine od rfl (.tmp 16) (.tmp 16) _ rfl e1.heap.size 92 aR (ā #[IZ 0,IZ 0,D O 0 0]) 3 mG ac aG aH .i64 .i64 _ _ m ϔ ϔ rfl rfl (by rw[aI];omega) ώ NZ ?_;intro fP eM ea;have a3:=cd.mkS eM ea;refine f _ _ a3.bel ?_;clear f K;refine Ox (oi:=⟨J 18,_,_,_,_,_⟩) 8 rfl a3.bel ?_;simp only[Zp];have dn:=Zh a3.fin;obtain⟨⟨c0,c1⟩,⟨az,f1⟩,-⟩:=ι a3.rowY;refine Zl ?_;refine Zd ?_;go_wp2_with fail
    go_meet;case rel=>exact⟨_,_,_,rfl,dn.o⟩
  .skip
   intro K f;refine od rfl (.tmp 16) (.tmp 16) _ rfl wd.heap.size 92 aR (ā #[IZ 0,IZ 0,D O 0 0]) 3 mG ac aG aH .i64 .i64 _ _ m ϔ ϔ rfl rfl (by rw[aI];omega) ώ NZ ?_;intro c2 eD d0;have bm:=bl.mkS eD d0;refine f _ _ bm.bel ?_;clear f K;refine pZ (fuel:=3) 3 9 ϋ rfl rfl ?_ ?_
   .skip
    intro K f;refine od rfl (.tmp 12) (.tmp 12) _ rfl c2.heap.size 31 aQ (D O 0 0) 1 kY aF aL aM .i64 .i64 _ _ n ϔ ϔ rfl rfl (by rw[aN];omega) ώ NZ ?_;intro eW eE d2;have bn:=bm.mkD eE d2;refine f _ _ bn.bel ?_;clear f K;refine Ox (oi:=⟨J 18,_,_,_,_,_⟩) 8 rfl bn.bel ?_;simp only[Zp];refine Ψ (fuel:=1) 9 ϋ rfl ?_;intro K f;go_simp;have bo:=bn.mkY;refine f _ _ bo.bel ?_;clear f K;generalize(eW.alloc (C #[D O 0 0,D O 0 0] 44))=fK at *;have dp:=Zh bo.fin;obtain⟨⟨c0,c1⟩,⟨az,f1⟩,-⟩:=ι bo.rowY;refine Zl ?_;refine Zd ?_;go_wp2_with fail
    go_meet;case rel=>exact⟨_,_,_,rfl,dp.o⟩
   .skip
    intro K f;go_simp;have ca:=bm.mkY;refine f _ _ ca.bel ?_;clear f K;generalize(c2.alloc (C #[D O 0 0,D O 0 0] 44))=eX at *;refine Ψ (fuel:=2) 3 ϋ rfl ?_;intro K f;refine od rfl (.tmp 12) (.tmp 12) _ rfl eX.heap.size 31 aQ (D O 0 0) 1 kY aF aL aM .i64 .i64 _ _ n ϔ ϔ rfl rfl (by rw[aN];omega) ώ NZ ?_;intro fL eF d3;have a0:=ca.mkD eF d3;refine f _ _ a0.bel ?_;clear f K;refine Ox (oi:=⟨J 18,_,_,_,_,_⟩) 8 rfl a0.bel ?_;simp only[Zp];have dq:=Zh a0.fin;obtain⟨⟨c0,c1⟩,⟨az,f1⟩,-⟩:=ι a0.rowY;refine Zl ?_;refine Zd ?_;go_wp2_with fail
    go_meet;case rel=>exact⟨_,_,_,rfl,dq.o⟩
  .skip
   intro K f;go_simp;have bq:=bl.mkY;refine f _ _ bq.bel ?_;clear f K;generalize(å wd (C #[D O 0 0,D O 0 0] 44))=c4 at *;refine pZ (fuel:=3) 3 7 ϋ rfl rfl ?_ ?_
   .skip
    intro K f;refine od rfl (.tmp 12) (.tmp 12) _ rfl c4.heap.size 31 aQ (D O 0 0) 1 kY aF aL aM .i64 .i64 _ _ n ϔ ϔ rfl rfl (by rw[aN];omega) ώ NZ ?_;intro eY eH d5;have cb:=bq.mkD eH d5;refine f _ _ cb.bel ?_;clear f K;refine Ψ (fuel:=2) 7 ϋ rfl ?_;intro K f;refine od rfl (.tmp 16) (.tmp 16) _ rfl eY.heap.size 92 aR (ā #[IZ 0,IZ 0,D O 0 0]) 3 mG ac aG aH .i64 .i64 _ _ m ϔ ϔ rfl rfl (by rw[aI];omega) ώ NZ ?_;intro fM eI d6;have a1:=cb.mkS eI d6;refine f _ _ a1.bel ?_;clear f K;refine Ox (oi:=⟨J 18,_,_,_,_,_⟩) 8 rfl a1.bel ?_;simp only[Zp];have dr:=Zh a1.fin;obtain⟨⟨c0,c1⟩,⟨az,f1⟩,-⟩:=ι a1.rowY;refine Zl ?_;refine Zd ?_;go_wp2_with fail
    go_meet;case rel=>exact⟨_,_,_,rfl,dr.o⟩
   .skip
    intro K f;refine od rfl (.tmp 16) (.tmp 16) _ rfl c4.heap.size 92 aR (ā #[IZ 0,IZ 0,D O 0 0]) 3 mG ac aG aH .i64 .i64 _ _ m ϔ ϔ rfl rfl (by rw[aI];omega) ώ NZ ?_;intro eZ eJ d7;have cc:=bq.mkS eJ d7;refine f _ _ cc.bel ?_;clear f K;refine Ψ (fuel:=2) 3 ϋ rfl ?_;intro K f;refine od rfl (.tmp 12) (.tmp 12) _ rfl eZ.heap.size 31 aQ (D O 0 0) 1 kY aF aL aM .i64 .i64 _ _ n ϔ ϔ rfl rfl (by rw[aN];omega) ώ NZ ?_;intro fN eK d8;have a2:=cc.mkD eK d8;refine f _ _ a2.bel ?_;clear f K;refine Ox (oi:=⟨J 18,_,_,_,_,_⟩) 8 rfl a2.bel ?_;simp only[Zp];have ds:=Zh a2.fin;obtain⟨⟨c0,c1⟩,⟨az,f1⟩,-⟩:=ι a2.rowY;refine Zl ?_;refine Zd ?_;go_wp2_with fail
    go_meet;case rel=>exact⟨_,_,_,rfl,ds.o⟩
 case rest =>
  obtain⟨t,j,V,rfl,dE⟩:=hcut;obtain⟨a6,bJ,bK,bM,⟨eB,le2,fA⟩,⟨cT,eC,cU⟩⟩:=dE;have cu:=θ bL a6;have cv:=θ cN a6;have ei:=cz.trans (a6.mono cz.size);have bG:t<wc.heap.size/\j<wc.heap.size/\V<wc.heap.size:=⟨(kk bJ).2.2.2,(kk bK).2.2.2,ο bM⟩;have fT:w.heap.size<B.heap.size:=bT;have bb:w.heap.size+1<B.heap.size:=e2;have b7:=Zh bM;have bk:=Zh cu;have b9:=Zh cv;have b4:=Zh bK;have bV:=Zh bJ;clear bM cu cv bK bJ a6 bL cN;obtain⟨⟨aT,aU⟩,-,-⟩:=ι bk.o;go_wp2;go_loopw [22] (fun c wr=>∃ (i:Nat) (R:List ε),i<=n/\c=IZ (i:Int)/\Hid (wr.ownsRow B.heap.size 31 1 (D (J ⟨t,0,O⟩) n n) n R)/\Hid (Hi wc.heap.size wr (lj docs R i))/\Hid (∀ b,b<wc.heap.size->b≠t->wr.heap[b]?=wc.heap[b]?)/\Below B.heap.size wc wr/\wc.heap.size<=wr.heap.size) (fun c _=>n - (intOf c).toNat)
  case atStart=>exact⟨0,_,Ι _,rfl,bV.o,(fun y _ c hi h=>ϊ),fun _ _ _=>rfl,φ _ _,NZ⟩
  case round =>
   obtain⟨i,R,fk,rfl,bj,bY,ao,cx,et⟩:=hrel;have bC:BQ w wr:=ei.trans (cx.mono ϊ);have bz:=(ao.o V bG.2.2 (fun e=>eC e.symm)).trans b7.o;have bx:=(ao.o w.heap.size ϊ ϊ).trans bk.o;obtain⟨⟨ba,an⟩,-,bU⟩:=ι bz;obtain⟨⟨aT,aU⟩,-,bT⟩:=ι bx;by_cases fl:i<n
   .have cH:i<L docs:=by have:=bf.o;omega
    obtain⟨eO,off,aq,ar,rfl,cA,bO⟩:=c8.o i cH;have ey:(i:Int)<(n:Int):=ϊ;have fw:(0:Int)<=(i:Int):=ϊ;have fz:=ζ bC cA;have dd:=Zh (qj (D aq (L docs[i]) ar) (L docs[i]) (η docs[i]) wr.drew (bO.below bC.drew) (mp _) (by have:=dA.o i cH;omega));obtain⟨bu,ck,-,fb⟩:=hG bj.o i ϊ;have e4:=Zh bO.1;generalize bD:L docs[i]=af at *;have bc:=Zh bD;clear cA bO bD;go_wp2_with fail
    have l:BQ wr wr.drew:=RZ.drew;refine ϸ (fun E=>BQ wr E) 6 ϋ ?_;refine Ox (oi:=⟨J 27,_,_,_,_,_⟩) 0 rfl l ?_;simp only[Zp];refine Oz (oi:=⟨J 28,_,_,_,_,_⟩) 1 [5,6] rfl l ?_ (hy:=by intro E o;have ag:=ζ o ba;go_simp;try with_reducible rfl);simp only[Zp];refine Ox (oi:=⟨J 29,_,_,_,_,_⟩) 2 rfl l ?_;simp only[Zp];refine Ox (oi:=⟨J 30,_,_,_,_,_⟩) 3 rfl l ?_;simp only[Zp];refine Ψ (fuel:=2) 4 ϋ rfl ?_;intro K f;go_simp;refine dd.o.mono ?_;rintro e ae ⟨eV,rfl,am,aC⟩;obtain⟨u,s,rfl⟩:=Θ am;have F:BQ wr ae:=l.trans aC;refine f _ _ F ?_;clear f K;try simp only[Act.put]
    refine Ox (oi:=⟨J 32,_,_,_,_,_⟩) 5 rfl F ?_;simp only[Zp];have aX:=Zh (Υ bj.o F);obtain⟨cj,dY,-,dZ⟩:=hG aX.o i ϊ;obtain⟨fD,cK⟩:∃ au,R[i]?=J au:=⟨_,Ρ (by have:=aX.o.1;omega)⟩;rw[cK]at cj;refine Zl ?_;refine Zd ?_;have dF:=Zh (lW aX.o i ϊ (D u af s));have dm:Hid (Hi wc.heap.size (ŝ ae ⟨t,i,O⟩ (D u af s)) (lj docs (R.set i (D u af s)) (i+1))):=by
     have bv:=(bY.o.below F).and ((Hi.own am).mono (show wc.heap.size<=wr.drew.heap.size from et));refine(bv.set (p:=⟨t,i,O⟩) bG.1 (D u af s)).imp fun y ⟨aB,ak⟩ c hi em=>?_;by_cases aE:c=i
     .subst aE
      refine⟨D u af s,by rw[lI (by have:=aX.o.1;omega)],?_⟩;rw[bc.o];exact ak
     .obtain⟨T,ai,ad⟩:=aB c hi ϊ
      exact⟨T,by rw[fW ϊ];exact ai,ad⟩
    have dw:Hid (∀ b,b<wc.heap.size->b≠t->(ŝ ae ⟨t,i,O⟩ (D u af s)).heap[b]?=wc.heap[b]?):=fun b ai ad=>by
     rw[ψ _ _ _ _ ad,F.block b ϊ];exact ao.o b ai ad
    have eg:=(cx.trans (F.mono ϊ)).setCell (p:=⟨t,i,O⟩) eB (D u af s);have bP:wc.heap.size<=(ŝ ae ⟨t,i,O⟩ (D u af s)).heap.size:=by
     have:=F.size;simp only[nf];omega
    clear am aC cK cj dY;go_wp2_with fail
    go_roundw;case rel=>exact⟨i+1,_,ϊ,ϕ,dF.o,dm.o,dw.o,eg,bP⟩
    case measure=>simp[intOf];omega
   .have ey:¬(i:Int)<(n:Int):=ϊ
    obtain rfl:i=n:=ϊ;obtain⟨H,ex⟩:∃ x:β,x=wr:=⟨wr,rfl⟩;subst ex;have ct:=jT b4.o (w':=H) (fun g hg=>by simp only[Value.ownBlock,Ο]at hg;subst hg;exact ao.o j bG.2.1 (fun e=>cT e.symm));have dK:=Zh ct;have dR:=Zh ((ao.o (w.heap.size+1) ϊ ϊ).trans b9.o);have dQ:=Zh bz;have dN:=Zh bx;have cE:t<H.heap.size/\j<H.heap.size/\V<H.heap.size:=ϊ;have fd:B.heap.size<=H.heap.size:=ϊ;clear ct bz bx ao b4 bk b7 b9 bV;go_wp2;go_loopw [37] (fun c wt=>∃ (q:Nat) (aa:List ε),q<=m/\c=IZ (q:Int)/\Hid (wt.ownsRow B.heap.size 92 3 (D (J ⟨j,0,O⟩) m m) m aa)/\Hid (Hi wc.heap.size wt (fun y=>lj docs R i y/\kv docs ps aa q y))/\Hid (∀ b,b<H.heap.size->b≠j->wt.heap[b]?=H.heap[b]?)/\Below B.heap.size H wt/\H.heap.size<=wt.heap.size) (fun c _=>m - (intOf c).toNat)
    case atStart=>exact⟨0,_,Ι _,rfl,dK.o,bY.o.imp fun y h=>⟨h,fun c hi h=>ϊ⟩,fun _ _ _=>rfl,φ _ _,NZ⟩
    case round =>
     obtain⟨wt,aK⟩:∃ x:β,x=wr:=⟨wr,rfl⟩;subst aK;obtain⟨q,aa,fp,rfl,b2,bZ,aw,cy,fu⟩:=hrel;have al:BQ w wt:=bC.trans (cy.mono ϊ);have bA:=(aw.o V cE.2.2 (fun e=>cU e.symm)).trans dQ.o;have ec:=(aw.o w.heap.size ϊ ϊ).trans dN.o;obtain⟨⟨ba,an⟩,-,bU⟩:=ι bA;obtain⟨⟨aT,aU⟩,-,bT⟩:=ι ec;by_cases fq:q<m
     .have cM:q<L ps:=by have:=be.o;omega
      obtain⟨eO,off,aq,ar,rfl,-,cX,cY,cZ,cC⟩:=dx.o q cM;have eA:(q:Int)<(m:Int):=ϊ;have fy:(0:Int)<=(q:Int):=ϊ;have cS:=ζ al cX;have l1:=ζ al cY;have l2:=ζ al cZ;have bh:=Zh (dB.o q cM);have bW:=Zh cC;generalize cs:ps[q]=cV at *;have bi:=Zh cs;generalize cm:Α docs cV=r at *;have de:=Zh cm;have bc:=Zh (show L r=L r from rfl);generalize cp:L r=ln at *;have ax:=Zh cp;obtain⟨M,N⟩:=cV;simp only at cS l1;have I:BQ wt (å wt (C #[IZ M,IZ N,D aq ln ar] 92)):=ġ;have bI:=χ wt (C #[IZ M,IZ N,D aq ln ar] 92);clear cX cY cZ cC cs cm cp bc;go_upto_region 10 with (fail)
      generalize(å wt (C #[IZ M,IZ N,D aq ln ar] 92))=z at *;obtain⟨⟨a8,ai,ad⟩,-,fQ⟩:=Β bI;have ed:=al.trans (I.mono al.size);have b8:=Zh (θ bA I);obtain⟨⟨ba,an⟩,-,bU⟩:=ι b8.o;have b3:=Zh (Υ b2.o I);obtain⟨bt,bE,gz⟩:=(bW.o.below ed.drew).2;have cL:∀ au∈bt,au.oneCell'=true:=by
       intro au ev;obtain⟨c,hi,rfl⟩:=pM ev;have fg:c<ln*2:=by rw[<-bE.1];exact hi
       have bD:L r=ln:=ax.o;obtain⟨G,T,U,a4⟩:=gz (c / 2) ϊ;rcases wL c with hm2|hm2
       .rw[show c / 2*2=c from ϊ,Ρ hi]at G
        injection G with G;rw[G];rfl
       .rw[show c / 2*2+1=c from ϊ,Ρ hi]at U
        injection U with U;rw[U];obtain⟨dT,dU,a7,-⟩:=jQ rfl a4;rw[a7];rfl
      have c9:=Zh (xT (D aq ln ar) ln bt z.drew bE cL (by have:=bh.o.1;omega));have df:=Zh gz;have c6:=Zh bI;have eq:B.heap.size<=wt.heap.size:=ϊ;have ep:B.heap.size<=z.heap.size:=by have:=I.size;omega
      clear bE gz cL bA bI;have l:BQ z z.drew:=RZ.drew;refine ϸ (fun E=>BQ z E) 10 ϋ ?_;refine Ox (oi:=⟨J 42,_,_,_,_,_⟩) 0 rfl l ?_;simp only[Zp];refine Oz (oi:=⟨J 43,_,_,_,_,_⟩) 1 [9,10] rfl l ?_ (hy:=by intro E o;have ag:=ζ o an;have G:=ζ o a8;have U:=ζ o ai;have a4:=ζ o ad;go_simp;try with_reducible rfl);simp only[Zp];refine Ox (oi:=⟨J 44,_,_,_,_,_⟩) 2 rfl l ?_;simp only[Zp];refine Ox (oi:=⟨J 45,_,_,_,_,_⟩) 3 rfl l ?_;simp only[Zp];refine Oz (oi:=⟨J 46,_,_,_,_,_⟩) 4 [8,10] rfl l ?_ (hy:=by intro E o;have ag:=ζ o an;have G:=ζ o a8;have U:=ζ o ai;have a4:=ζ o ad;go_simp;try with_reducible rfl);simp only[Zp];refine Ox (oi:=⟨J 47,_,_,_,_,_⟩) 5 rfl l ?_;simp only[Zp];refine Oz (oi:=⟨J 48,_,_,_,_,_⟩) 6 [7,8,10] rfl l ?_ (hy:=by intro E o;have ag:=ζ o an;have G:=ζ o a8;have U:=ζ o ai;have a4:=ζ o ad;go_simp;try with_reducible rfl);simp only[Zp];refine Ψ (fuel:=3) 7 ϋ rfl ?_;intro K f;go_simp;refine c9.o.mono ?_;rintro e ae ⟨eV,rfl,am,aC⟩;obtain⟨u,s,rfl⟩:=Θ am;have F:BQ z ae:=l.trans aC;refine f _ _ F ?_;clear f K;try simp only[Act.put]
      refine Ox (oi:=⟨J 50,_,_,_,_,_⟩) 8 rfl F ?_;simp only[Zp];refine Ox (oi:=⟨J 51,_,_,_,_,_⟩) 9 rfl F ?_;simp only[Zp];have ap:=Zh (Υ b3.o F);have fe:=ap.o.1;obtain⟨cg,dV,-,dZ⟩:=hG ap.o (q*3) ϊ;obtain⟨ch,dW,-,-⟩:=hG ap.o (q*3+1) ϊ;obtain⟨ci,dX,-,-⟩:=hG ap.o (q*3+2) ϊ;rw[Ρ ϊ]at cg ch ci;refine Zl ?_;refine Zd ?_;have dH:=Zh (lW (lW (lW ap.o (q*3) ϊ (IZ M)) (q*3+1) ϊ (IZ N)) (q*3+2) ϊ (D u ln s));have bF:j<z.drew.heap.size:=by have:=I.size;simp only[World.drew];omega
      have b0:=Zh (il (il (il am (a:=⟨j,q*3,O⟩) bF (IZ M)) (a:=⟨j,q*3+1,O⟩) bF (IZ N)) (a:=⟨j,q*3+2,O⟩) bF (D u ln s));have bd:Hid (∀ b,b<z.heap.size->b≠j->(ŝ (ŝ (ŝ ae ⟨j,q*3,O⟩ (IZ M)) ⟨j,q*3+1,O⟩ (IZ N)) ⟨j,q*3+2,O⟩ (D u ln s)).heap[b]?=z.heap[b]?):=fun b aB ak=>by
       rw[ψ _ _ _ _ ak,ψ _ _ _ _ ak,ψ _ _ _ _ ak];exact F.block b aB
      have cl:=((((I.mono eq).trans (F.mono ep)).setCell (p:=⟨j,q*3,O⟩) le2 (IZ M)).setCell (p:=⟨j,q*3+1,O⟩) le2 (IZ N)).setCell (p:=⟨j,q*3+2,O⟩) le2 (D u ln s);have bP:z.heap.size<=(ŝ (ŝ (ŝ ae ⟨j,q*3,O⟩ (IZ M)) ⟨j,q*3+1,O⟩ (IZ N)) ⟨j,q*3+2,O⟩ (D u ln s)).heap.size:=by
       have:=F.size;simp only[nf];omega
      clear am aC cg ch ci dV dW dX l F ap;generalize(ŝ (ŝ (ŝ ae ⟨j,q*3,O⟩ (IZ M)) ⟨j,q*3+1,O⟩ (IZ N)) ⟨j,q*3+2,O⟩ (D u ln s))=S at *;have ej:j<z.heap.size/\V<z.heap.size/\t<z.heap.size:=by have:=I.size;omega
      have c5:=Zh ((bd.o wt.heap.size (by have:=I.size;omega) ϊ).trans c6.o);have dO:=Zh ((bd.o V ej.2.1 (fun e=>cU e.symm)).trans b8.o);obtain⟨⟨a8,ai,ad⟩,-,fR⟩:=Β c5.o;have dM:Hid (∀ c (hi:c<L r),bt[c*2]?=J (ϴ r[c].1)):=fun c hi=>(df.o c hi).1;have cR:∀ g,(Value.slice u ln s).ownBlock=J g->z.heap.size<=g/\g<S.heap.size:=fun g hg=>Ν b0.o g hg;have aY:=Zh cR;clear cR;have fm:ln<=2000000:=bh.o.1;go_wp2_with fail
      go_loopw [55] (fun c aS=>∃ (k:Nat) (aj:List ε),k<=ln/\c=IZ (k:Int)/\Hid (aS.ownsRow z.heap.size 130 2 (D u ln s) ln aj)/\Hid (∀ c (hi:c<L r),aj[c*2]?=J (ϴ r[c].1))/\Hid (Hi S.heap.size aS (fun y=>∀ c (hi:c<L r),c<k->∃ T,aj[c*2+1]?=J T/\Rd y T (L r[c].2) 1 (τ r[c].2)))/\Hid (∀ b,b<S.heap.size->(∀ g,(Value.slice u ln s).ownBlock=J g->g≠b)->aS.heap[b]?=S.heap[b]?)/\Below z.heap.size S aS/\S.heap.size<=aS.heap.size) (fun c _=>ln - (intOf c).toNat)
      case atStart=>exact⟨0,_,Ι _,rfl,b0.o,dM.o,(fun y _ c hi h=>ϊ),fun _ _ _=>rfl,φ _ _,NZ⟩
      case round =>
       obtain⟨k,aj,fi,rfl,bg,b5,bX,aV,bB,er⟩:=hrel;have a5:BQ w wr:=(al.trans (cl.mono ϊ)).trans (bB.mono ϊ);have b6:=Zh (jT dH.o (w':=wr) (fun g hg=>by
        simp only[Value.ownBlock,Ο]at hg;subst hg
        exact aV.o j ϊ (fun aA aD=>by have:=(aY.o aA aD).1;omega)))
       have dP:=Zh ((aV.o V ϊ (fun aA aD=>by have:=(aY.o aA aD).1;omega)).trans dO.o);by_cases fj:k<ln
       .have cG:k<L r:=by have:=ax.o;omega
        obtain⟨dT,dU,a7,-,di⟩:=iF bW.o;simp only[Ξ]at a7;obtain⟨rfl,-,rfl⟩:=a7;obtain⟨fE,fC,aO,aP,rfl,ce,cf,cF⟩:=di.o k cG;obtain⟨W,e7,cQ⟩:=kz bg.o ϊ;simp only[Ξ,Ϯ]at cQ;obtain⟨rfl,rfl⟩:=cQ;have ez:(k:Int)<(ln:Int):=ϊ;have fx:(0:Int)<=(k:Int):=ϊ;have cS:=ζ a5 ce;have l1:=ζ a5 cf;have cD:=aY.o W rfl;have dh:=Zh (show L r[k].2<=1000 from bh.o.2 _ (Χ cG));have e5:=Zh (show(r[k].1,r[k].2)=r[k]from rfl);have dz:=Zh cF;generalize bw:ϴ r[k].1=eQ at *;have eo:∃ dS,eQ=š dS:=⟨_,bw.symm⟩;obtain⟨aZ,rfl⟩:=eo;have dy:=Zh (show L r[k].2=L r[k].2 from rfl);generalize co:L r[k].2=el at *;have dl:=Zh co;have e3:=Zh bw;obtain⟨av,ew⟩:∃ x:β,x=wr:=⟨wr,rfl⟩;subst ew;have ab:BQ av (å av (C #[š aZ,D aO el aP] 130)):=ġ;have en:=χ av (C #[š aZ,D aO el aP] 130);obtain⟨cW,-,-,-⟩:=hG b6.o (q*3+2) ϊ;have cP:(((aa.set (q*3) (IZ M)).set (q*3+1) (IZ N)).set (q*3+2) (D (J ⟨W,0,O⟩) ln s))[q*3+2]?=J (D (J ⟨W,0,O⟩) ln s):=by
         rw[lI (by simp only[List.length_set];omega)]
        rw[cP]at cW;obtain⟨⟨ba,an⟩,-,bU⟩:=ι dP.o;clear bw co dy ce cf cF cP;go_upto_region 14 with (fail)
        have ee:=a5.trans (ab.mono a5.size);have bR:=ζ ab cW;have bS:=ζ ab an;have b1:=Zh (Υ bg.o ab);have db:=Zh (uQ (D aO el aP) el (τ r[k].2) (å av (C #[š aZ,D aO el aP] 130)).drew (by have:=dz.o.below ee.drew;exact this) (tq _) (by have:=dh.o;omega));generalize(å av (C #[š aZ,D aO el aP] 130))=ay at *;obtain⟨⟨fB,bQ⟩,-,fS⟩:=ι en;have l:BQ ay ay.drew:=RZ.drew;have e6:ln<=s:=(kk b1.o).1;refine ϸ (fun E=>BQ ay E) 12 ϋ ?_;refine Ox (oi:=⟨J 60,_,_,_,_,_⟩) 0 rfl l ?_;simp only[Zp];refine Oz (oi:=⟨J 61,_,_,_,_,_⟩) 1 [3,4,5,10,11,12] rfl l ?_ (hy:=by intro E o;have ag:=ζ o bS;have G:=ζ o bR;have U:=ζ o bQ;go_simp;try with_reducible rfl);simp only[Zp];refine Ox (oi:=⟨J 62,_,_,_,_,_⟩) 2 rfl l ?_;simp only[Zp];refine Ox (oi:=⟨J 63,_,_,_,_,_⟩) 3 rfl l ?_;simp only[Zp];refine Ox (oi:=⟨J 64,_,_,_,_,_⟩) 4 rfl l ?_;simp only[Zp];refine Oz (oi:=⟨J 65,_,_,_,_,_⟩) 5 [10,11,12] rfl l ?_ (hy:=by intro E o;have ag:=ζ o bS;have G:=ζ o bR;have U:=ζ o bQ;go_simp;try with_reducible rfl);simp only[Zp];refine Ox (oi:=⟨J 66,_,_,_,_,_⟩) 6 rfl l ?_;simp only[Zp];refine Ox (oi:=⟨J 67,_,_,_,_,_⟩) 7 rfl l ?_;simp only[Zp];refine Oz (oi:=⟨J 68,_,_,_,_,_⟩) 8 [9,12] rfl l ?_ (hy:=by intro E o;have ag:=ζ o bS;have G:=ζ o bR;have U:=ζ o bQ;go_simp;try with_reducible rfl);simp only[Zp];refine Ψ (fuel:=3) 9 ϋ rfl ?_;intro K f;go_simp;refine db.o.mono ?_;rintro e a9 ⟨fJ,rfl,bH,cw⟩;obtain⟨X,Y,rfl⟩:=Θ bH;have ah:BQ ay a9:=l.trans cw;refine f _ _ ah ?_;clear f K;try simp only[Act.put]
        refine Ox (oi:=⟨J 70,_,_,_,_,_⟩) 10 rfl ah ?_;simp only[Zp];refine Ox (oi:=⟨J 71,_,_,_,_,_⟩) 11 rfl ah ?_;simp only[Zp];have aW:=Zh (Υ b1.o ah);obtain⟨bu,ck,-,fc⟩:=hG aW.o (k*2+1) ϊ;rw[Ρ (by have:=aW.o.1;omega)]at bu;refine Zl ?_;refine Zd ?_;have fv:=er;have ft:=ab.size;have fr:=ah.size;have dD:=Zh (lW aW.o (k*2+1) ϊ (D X el Y));have dL:Hid (∀ c (hi:c<L r),(aj.set (k*2+1) (D X el Y))[c*2]?=J (ϴ r[c].1)):=fun c hi=>by
         rw[fW ϊ];exact b5.o c hi
        have dj:Hid (Hi S.heap.size (ŝ a9 ⟨W,k*2+1,O⟩ (D X el Y)) (fun y=>∀ c (hi:c<L r),c<k+1->∃ T,(aj.set (k*2+1) (D X el Y))[c*2+1]?=J T/\Rd y T (L r[c].2) 1 (τ r[c].2))):=by
         have bv:=((bX.o.below ab).below ah).and ((Hi.own bH).mono (show S.heap.size<=ay.drew.heap.size by simp only[World.drew];omega));refine(bv.set (p:=⟨W,k*2+1,O⟩) cD.2 (D X el Y)).imp fun y ⟨aB,ak⟩ c hi em=>?_;by_cases aE:c=k
         .subst aE
          refine⟨D X el Y,by rw[lI (by have:=aW.o.1;omega)],?_⟩;rw[dl.o];exact ak
         .obtain⟨T,p1,p2⟩:=aB c hi ϊ
          exact⟨T,by rw[fW ϊ];exact p1,p2⟩
        have du:Hid (∀ b,b<S.heap.size->(∀ g,(Value.slice (J ⟨W,0,O⟩) ln s).ownBlock=J g->g≠b)->(ŝ a9 ⟨W,k*2+1,O⟩ (D X el Y)).heap[b]?=S.heap[b]?):=fun b p1 p2=>by
         rw[ψ _ _ _ _ (fun e=>p2 W rfl e.symm),ah.block b ϊ,ab.block b ϊ];exact aV.o b p1 p2
        have ef:=(bB.trans ((ab.trans (ah.mono ab.size)).mono (ϊ:z.heap.size<=av.heap.size))).setCell (p:=⟨W,k*2+1,O⟩) cD.1 (D X el Y);have es:S.heap.size<=(ŝ a9 ⟨W,k*2+1,O⟩ (D X el Y)).heap.size:=by simp only[nf];omega
        clear bH cw bu ck;go_wp2_with fail
        go_roundw;case rel=>exact⟨k+1,_,ϊ,ϕ,dD.o,dL.o,dj.o,du.o,ef,es⟩
        case measure=>simp[intOf];omega
       .have ez:¬(k:Int)<(ln:Int):=ϊ
        obtain rfl:k=ln:=ϊ;have aK:∀ b,b<wt.heap.size->b≠j->wr.heap[b]?=wt.heap[b]?:=fun b p1 p2=>by
         have:=I.size;rw[aV.o b ϊ (fun aA aD=>by have:=(aY.o aA aD).1;omega),bd.o b ϊ p2];exact I.block b p1
        have fs:=I.size;have dC:Hid (Hi z.heap.size wr (fun y=>fY y (D u k s) k r)):=by
         refine((Hi.own bg.o).and (bX.o.mono bP)).imp fun y ⟨p1,p2⟩=>⟨ax.o,aj,p1,fun c hi=>⟨b5.o c hi,p2 c hi (by have:=ax.o;omega)⟩⟩
        have dI:Hid (Hi wc.heap.size wr (fun y=>lj docs R i y/\kv docs ps (((aa.set (q*3) (IZ M)).set (q*3+1) (IZ N)).set (q*3+2) (D u k s)) (q+1) y)):=by
         have eb:Hi wc.heap.size wr (fun y=>lj docs R i y/\kv docs ps aa q y):=bZ.o.step ϊ fun b p1 p2=>aK b p2 ϊ;refine(eb.and (dC.o.mono (ϊ:wc.heap.size<=z.heap.size))).imp fun y ⟨⟨p1,p2⟩,eN⟩=>⟨p1,fun c hi fh=>?_⟩;have ff:=b3.o.1;by_cases aE:c=q
         .subst aE
          refine⟨?_,?_,D u k s,?_,?_⟩
          .rw[fW ϊ,fW ϊ,lI ϊ,bi.o]
          .rw[fW ϊ,lI (by simp only[List.length_set];omega),bi.o]
          .rw[lI (by simp only[List.length_set];omega)]
          .rw[bi.o,de.o,ax.o];exact eN
         .obtain⟨eR,eS,au,eT,eU⟩:=p2 c hi ϊ
          refine⟨?_,?_,au,?_,eU⟩
          .rw[fW ϊ,fW ϊ,fW ϊ];exact eR
          .rw[fW ϊ,fW ϊ,fW ϊ];exact eS
          .rw[fW ϊ,fW ϊ,fW ϊ];exact eT
        have dv:Hid (∀ b,b<H.heap.size->b≠j->wr.heap[b]?=H.heap[b]?):=fun b p1 p2=>(aK b ϊ p2).trans (aw.o b p1 p2);have eh:=(cy.trans cl).trans (bB.mono ϊ);have eu:H.heap.size<=wr.heap.size:=ϊ;clear aK;go_wp2;go_roundw;case rel=>exact⟨q+1,_,ϊ,ϕ,b6.o,dI.o,dv.o,eh,eu⟩
        case measure=>simp[intOf];omega
     .have eA:¬(q:Int)<(m:Int):=ϊ
      obtain rfl:q=m:=ϊ;have cn:=jT bj.o (w':=wt) (fun g hg=>by simp only[Value.ownBlock,Ο]at hg;subst hg;exact aw.o t cE.1 cT);have bN:=(aw.o (w.heap.size+1) ϊ ϊ).trans dR.o;obtain⟨⟨e8,d1⟩,⟨fH,fI⟩,fU⟩:=ι bN;have dG:=Zh (Ϲ bN (D (J ⟨t,0,O⟩) i i) (D (J ⟨j,0,O⟩) q q));have c7:=Zh (fS al (go _ 1) (D (J ⟨t,0,O⟩) i i) (D (J ⟨j,0,O⟩) q q));have dg:=Zh (ii (il (il cn (a:=⟨w.heap.size+1,0,O⟩) bb (D (J ⟨t,0,O⟩) i i)) (a:=⟨w.heap.size+1,1,O⟩) bb (D (J ⟨j,0,O⟩) q q)) (ϊ:w.heap.size<=B.heap.size));have dJ:=Zh (ii (il (il b2.o (a:=⟨w.heap.size+1,0,O⟩) bb (D (J ⟨t,0,O⟩) i i)) (a:=⟨w.heap.size+1,1,O⟩) bb (D (J ⟨j,0,O⟩) q q)) (ϊ:w.heap.size<=B.heap.size));have dk:=Zh ((bZ.o.set (p:=⟨w.heap.size+1,0,O⟩) (ϊ:w.heap.size+1<wc.heap.size) (D (J ⟨t,0,O⟩) i i)).set (p:=⟨w.heap.size+1,1,O⟩) (ϊ:w.heap.size+1<wc.heap.size) (D (J ⟨j,0,O⟩) q q));clear cn bN;go_wp2;exact ϟ (v:=ā #[D (J ⟨t,0,O⟩) i i,D (J ⟨j,0,O⟩) q q]) (jX (p:=2) (ty:=44) rfl _ _ (w.heap.size+1) 44 _ (0,0) _ rfl dG.o lh rfl ϋ) rfl ⟨t,j,rfl,⟨R,aa,wc.heap.size,⟨by rw[bf.o];exact dg.o,by rw[be.o];exact dJ.o,fun g hg=>by simp only[Value.ownBlock,Ο]at hg;omega,fun g hg=>by simp only[Value.ownBlock,Ο]at hg;omega,ϊ,by rw[bf.o,be.o];exact dk.o,fun g hg e=>by simp only[Value.ownBlock,Ο]at hg e;omega⟩⟩,c7.o⟩
