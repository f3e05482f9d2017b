/- Part 5 of the proof. -/
import Derived.Test.YtpilfbcffofheaaGreatDoorm03
import Derived.Test.YtpilfbcffofheaaGreatDoorm04
set_option linter.unusedVariables false
set_option linter.unusedSimpArgs false
set_option maxRecDepth 100000
set_option maxHeartbeats 4000000
namespace Go.Proofs.YtpilfbcffofheaaGreatDoor
open Go.Sort Go.Proofs.Tryz Go.RowKit
open List renaming length->L
open Value renaming int->ĭ,string->š,slice->D
open Option renaming some->J,none->O
open Ending renaming returned->ŗ
open Obj renaming cells->C
open World renaming alloc->å,setCell->ŝ
section
variable {α:Type} [Inhabited α] [DecidableEq α] {lt:α->α->Bool}
def lR (lt:α->α->Bool) (l:List α):Prop:=l.Pairwise fun x y=>lt x y=true
omit [Inhabited α]in
theorem DK (c:SWO lt):∀ {a b:List α},lR lt a->lR lt b->(∀ x,x∈a↔x∈b)->a=b:=by
 intro a;induction a with
 |nil =>
  intro b _ _ h;cases b with
  |nil=>rfl
  |cons y b=>exact absurd ((h y).2 ύ) ύ
 |cons x a r =>
  intro b o p h;cases b with
  |nil=>exact absurd ((h x).1 ύ) ύ
  |cons y b =>
   obtain⟨f,m⟩:=nK.1 o;obtain⟨i,n⟩:=nK.1 p;have q:x=y:=by
    by_cases e:x=y
    .exact e
    .have k:x∈b:=by have:=(h x).1 ύ;simpa[e] using this
     have l:y∈a:=by have:=(h y).2 ύ;simpa[Ne.symm e] using this
     have s:=i x k;have j:=f y l;rw[c.asymmA s]at j;cases j
   subst q
   congr 1
   refine r m n fun z=>?_;have d:=h z;simp only[gP]at d;constructor
   .intro g
    rcases d.1 (.inr g)with rfl|g'
    .have:=f z g;rw[c.irrefl]at this;cases this
    .exact g'
   .intro g
    rcases d.2 (.inr g)with rfl|g'
    .have:=i z g;rw[c.irrefl]at this;cases this
    .exact g'
def oa (lt:α->α->Bool) (l:List α):List α:=Lib.compact (l.mergeSort fun x y=>!lt y x)
theorem CQ (l:List α) (x:α):x∈oa lt l↔x∈l:=by
 unfold oa;generalize h:(l.mergeSort fun x y=>!lt y x)=s;have g:x∈l↔x∈s:=by rw[<-h];exact(List.mem_mergeSort).symm
 rw[g];unfold Lib.compact Lib.compactUpTo;simp only[hI,sF,pO];constructor
 .rintro⟨b,⟨c,_⟩,rfl⟩
  simp[c]
 .intro i
  obtain⟨a,hi,rfl⟩:=wP.1 i;have k:∀ a,a<L s->∃ b,b<=a/\Lib.keeps s.toArray b=true/\s.toArray[b]! =s.toArray[a]! :=by
   intro a;induction a with
   |zero=>intro _;exact⟨0,NZ,Lib.keeps_lt_one _ 0 ϐ,rfl⟩
   |succ a j =>
    intro hi;cases f:Lib.keeps s.toArray (a+1)with
    |true=>exact⟨_,NZ,f,rfl⟩
    |false =>
     obtain⟨b,c,d,e⟩:=j ϊ;refine⟨b,ϊ,d,?_⟩;have:s.toArray[a+1]! =s.toArray[a]! :=by
      simp only[Lib.keeps,sB,not_or,pK]at f;exact Classical.not_not.1 f.2
     rw[e,this]
  obtain⟨b,c,d,e⟩:=k a hi;exact⟨b,⟨ϊ,d⟩,by rw[e];simp[hi]⟩
theorem LO (j:SWO lt) (q:∀ x y,lt x y=false->lt y x=false->x=y) (l:List α):lR lt (oa lt l):=by
 unfold oa;generalize w:(l.mergeSort fun x y=>!lt y x)=s;have u:s.Pairwise fun x y=>lt y x=false:=by
  have:=List.pairwise_mergeSort (le:=fun x y=>!lt y x) (fun a b c i g=>by
   simp only[Bool.not_eq_true']at i g ⊢
   exact j.ntrans c b a g i) (fun a b=>by
   cases h:lt b a with
   |false=>simp
   |true=>simp[j.asymmA h]) l
  rw[w]at this;exact this.imp fun h=>by simpa using h
 have hg:∀ f d,f<d->d<L s->lt s.toArray[d]! s.toArray[f]! =false:=by
  intro f d i g;have:=pT.1 u f d ϊ g i;simpa[getElem!_pos,g,show f<L s by omega] using this
 unfold lR Lib.compact Lib.compactUpTo;refine List.Pairwise.map _ (R:=fun f d=>f<d/\d<L s/\Lib.keeps s.toArray d=true) ?_ ?_
 .rintro f d ⟨i,g,m⟩
  have t:s.toArray[d]!≠s.toArray[d - 1]! :=by
   simp only[Lib.keeps,ia]at m;rcases m with h|h
   .omega
   .exact h
  have k:lt s.toArray[d - 1]! s.toArray[d]! =true:=by
   cases h:lt s.toArray[d - 1]! s.toArray[d]! with
   |true=>rfl
   |false=>exact absurd (q _ _ (hg (d - 1) d ϊ g) h) t
  by_cases e:f=d - 1
  .rw[e];exact k
  .have p:=hg f (d - 1) ϊ ϊ
   cases h:lt s.toArray[f]! s.toArray[d]! with
   |true=>rfl
   |false=>rw[j.ntrans _ _ _ p h]at k;cases k
 .rw[pT]
  intro f d hi n r;have o:=sF.1 (Χ n);refine⟨?_,pO.1 o.1,o.2⟩;have v:((List.range (L s)).filter (Lib.keeps s.toArray)).Pairwise (· < ·):=List.Pairwise.filter _ List.pairwise_lt_range;exact pT.1 v f d hi n r
end
theorem pJ (x y:γ) (a:ltStr x y=false) (b:ltStr y x=false):x=y:=by
 simp only[ltStr,sB,List.not_lt]at a b;exact List.le_antisymm b a
def gd (l:List (γ)):List (γ):=oa ltStr l
theorem mQ {l:List (γ)} {t:γ}:t∈gd l↔t∈l:=CQ l t
theorem rO (l:List (γ)):lR ltStr (gd l):=LO swo_ltStr pJ l
theorem zo {l r:List (γ)} (a:lR ltStr r) (h:∀ t,t∈r↔t∈l):r=gd l:=
 DK swo_ltStr a (rO l) fun t=>(h t).trans mQ.symm
theorem IR:(prog.info? 5).map (fun i=>(i.zero,i.size,i.bytes))=J (J (ĭ .u8 0),1,1):=ϋ
theorem FX (a b:γ):η (a++b)=η a++η b:=by simp[η]
theorem oE (a:γ):L (η a)=L a:=by simp[η]
theorem mp (a:γ):∀ u∈η a,u.oneCell'=true:=by
 intro u c;simp only[η,hI]at c;obtain⟨b,_,rfl⟩:=c;rfl
theorem Cl (a b:List Int):τ (a++b)=τ a++τ b:=by simp[τ]
theorem tq (a:List Int):∀ u∈τ a,u.oneCell'=true:=by
 intro u c;simp only[τ,hI]at c;obtain⟨b,_,rfl⟩:=c;rfl
theorem vn (a:List Int):L (τ a)=L a:=by simp[τ]
theorem BN (c:Int):1<=L (enc c)/\L (enc c)<=4:=by
 unfold enc;(repeat' split)<;>simp
theorem MS {c:Int} (h:gt c=true):gt (ik c)=true:=by
 have e:=qw h;unfold ik;split
 .rename_i s b
  have d:=List.find?_some b;have a:=List.mem_of_find?_eq_some b;simp only[shifts,gP,List.not_mem_nil,or_false]at a;simp only[gs,ia]at d;rcases a with rfl|rfl|rfl|rfl|rfl|rfl|rfl<;>exact Cw (by simp only at *;omega) (by simp only at *;omega)
 .exact h
def An (l:γ) (w:β) (e:Ending) (w':β):Prop:=e=ŗ (š (δ l))/\Below w.heap.size w w'
theorem EA (v:ε) (l:List Int) (w:β) (af:Ϩ w) (h:Rd w v (L l) 1 (τ l)) (I:∀ c∈l,gt c=true) (aw:L l<=100000) :
  Calls prog 268 #[v] w (An (term l) w):=by
 obtain⟨aj,hi,ag,ah,ai⟩:=ϯ IR;obtain⟨j,c,rfl,ax,H⟩:∃ j c,v=D j (L l) c/\(L l<=9223372036854775807)/\Hid (∀ g (hi:g<L l),∃ b off,j=J ⟨b,off,O⟩/\w.cell? ⟨b,off+g,O⟩=J (IZ l[g])):=by
  obtain⟨-,-,⟨j,c,rfl,V⟩|⟨b,off,c,rfl,-,-,-,W⟩⟩:=h
  .exact⟨j,c,by rw[V],ϊ,fun g hi=>ϊ⟩
  .exact⟨_,c,rfl,ϊ,fun g hi=>⟨b,off,rfl,W g _ (by simp[τ,hi])⟩⟩
 have T:=Zh I;clear h I;go_enter func268,ntmps268;go_wp2;go_loopw [3,10] (fun o g wr=>∃ (d:Nat) (a:γ),d<=L l/\g=IZ d/\L a<=64/\Hid (term l=ma a (l.drop d))/\wr.ownsRow w.heap.size 5 1 o (L a) (η a)/\BQ w wr) (fun _ g _=>L l - (intOf g).toNat)
 case atStart=>exact⟨0,[],Ι _,rfl,ύ,rfl,hZ _ _ _ _,φ _ _⟩
 case round =>
  obtain⟨d,a,av,rfl,ay,u,r,i⟩:=hrel;have R:=i.size;obtain⟨an,ao,rfl⟩:=Θ r;by_cases N:d<L l
  .obtain⟨b,off,rfl,y⟩:=H.o d N
   have ar:=(i.cell (ib w _ y)).trans y;have G:gt l[d]=true:=T.o _ (Χ _);have aq:=qw G;have K:l.drop d=l[d]::l.drop (d+1):=mh N;have F:=MR l[d] wr (af.below (i.mono NZ)) ϊ ϊ;have E:=fun(z:β)=>yl (ik l[d]) z (MS G);have au:=BN (ik l[d]);have t:Hid (ma a (l.drop d)=if 64<L a+L (enc (ik l[d])) then a else ma (a++enc (ik l[d])) (l.drop (d+1))):=by
    show _=_;rw[K];rfl
   generalize M:enc (ik l[d])=f at *;have am:=Zh M;clear M;have B:=Zh F;clear F;have A:=Zh E;clear E;clear K H y;have ap:L a+L f<=68:=ϊ;by_cases q:64<L a+L f
   .have ac:(64:Int)<(L a:Int)+(L f:Int):=ϊ
    have p:Hid (term l=a):=by
     show _=_;rw[u.o,t.o,μ q]
    clear q t;go_wp2_with (first|(go_at_call 310;refine B.o.mono ?_;rintro e z ⟨rfl,m⟩)|(go_at_call 165;refine(A.o _).mono ?_;rintro e S ⟨al,rfl,s,x⟩;obtain⟨U,c2,rfl⟩:=Θ s;have n:=m.trans (x.mono m.size);have k:=i.trans (n.mono R);have ae:=(Rd.of_own r).below n;have Z:=qI (P:=prog) S 31 9 5 gu nH lK _ a ae))
    go_ret;exact⟨by rw[p.o];rfl,k⟩
   .have ac:¬(64:Int)<(L a:Int)+(L f:Int):=ϊ
    have Y:L (a++f)<=64:=ό;have p:Hid (term l=ma (a++f) (l.drop (d+1))):=by
     show _=_;rw[u.o,t.o,κ q]
    clear q t;go_wp2_with (first|(go_at_call 310;refine B.o.mono ?_;rintro e z ⟨rfl,m⟩)|(go_at_call 165;refine(A.o _).mono ?_;rintro e S ⟨al,rfl,s,x⟩;obtain⟨U,c2,rfl⟩:=Θ s;have n:=m.trans (x.mono m.size);have k:=i.trans (n.mono R);have Q:=Υ r n)|(at_builtin;refine gn rfl _ _ _ _ rfl w.heap.size 5 aj _ 1 1 gu hi ag ah ai rfl _ (L a) _ rfl Q _ (L f) (η f) rfl ((Rd.of_own s).src gu (mp f)) ώ ϊ k.size ?_;intro az aA ad aa _ _;have X:=k.grown aa k.size (fun ak ab=>(Q.lt ak ab).1)))
    go_roundw;case rel =>
     refine⟨d+1,a++f,ϊ,ϕ,Y,p,?_,X⟩;rw[ω,FX];exact ad
    case measure=>simp[intOf];omega
  .have p:Hid (term l=a):=by
    show _=_;rw[u.o,ng ϊ];rfl
   have Z:=qI (P:=prog) wr 31 9 5 gu nH lK _ a (Rd.of_own r);go_wp2;go_ret;exact⟨by rw[p.o];rfl,i⟩
theorem rn:(prog.info? 9).map (fun i=>(i.zero,i.size,i.bytes))=J (J (š ByteArray.empty),1,16):=ϋ
def σ (a:List (γ)):List ε:=a.map ϴ
theorem Mq (a:List (γ)):L (σ a)=L a:=by simp[σ]
theorem zl (a b:List (γ)):σ (a++b)=σ a++σ b:=by simp[σ]
theorem tV (a:List (γ)):∀ u∈σ a,u.oneCell'=true:=by
 intro u c;simp only[σ,hI]at c;obtain⟨b,_,rfl⟩:=c;rfl
theorem own_ne {w:β} {b i:Nat} {e c:TypeId} {s m:Nat} {v f:ε} {n l:Nat} {xs o:List ε} (h:w.ownsRow b e s v n xs) (j:w.ownsRow i c m f l o) (k:e≠c):v.ownBlock=O\/v.ownBlock≠f.ownBlock:=by
 rcases h.2 with ⟨rfl,_⟩|⟨g,p,cur,rfl,_,hg,_⟩
 .exact .inl rfl
 .right
  rcases j.2 with ⟨rfl,_⟩|⟨t,q,r,rfl,_,a,_⟩
  .simp[Value.ownBlock]
  .intro d
   simp only[Value.ownBlock,Ο]at d;subst d;rw[hg]at a;simp at a;exact k a.2
theorem zz (v:ε) (l:γ) (w:β) (aU:Ϩ w) (h:Rd w v (L l) 1 (η l)) (aT:L l<=100000) :
  Calls prog 199 #[v] w (jZ w 9 1 (L (Μ l)) (σ (Μ l))):=by
 obtain⟨aI,hi,aF,aG,aH⟩:=ϯ yC;obtain⟨aJ,B,aC,aD,aE⟩:=ϯ rn;have av:=Bv v l w h aT;have ar:=Bw l;have a2:=yb l;have aB:Μ l=(oU (gc l)).map term:=rfl;generalize gc l=g at *;have ak:=Zh aB;clear aB;have aN:=Zh ar;clear ar;have aO:=Zh av;clear av;go_enter func199,ntmps199;go_wp2_with (go_at_call 162;refine aO.o.mono ?_;rintro e k ⟨a3,rfl,ag,T⟩;obtain⟨aP,c1,rfl⟩:=Θ ag)
 have aq:Hid (∀ a (U:a<L g),∃ b off,aP=J ⟨b,off,O⟩/\k.cell? ⟨b,off+a,O⟩=J (IZ g[a])):=by
  obtain⟨-,-,⟨aX,c,ah,aY⟩|⟨b,off,c,ah,-,-,-,aQ⟩⟩:=Rd.of_own ag
  .intro a U;omega
  .simp only[Ξ]at ah
   exact fun a U=>⟨b,off,ah.1,aQ a _ (by simp[τ,U])⟩
 have aA:=aU.below T;clear ag;go_loopw [3,4,10] (fun o s ai wr=>∃ (a:Nat) (f:List (List Int)) (cur:List Int),a<=L g/\ai=IZ a/\Hid (oU g=f++jI cur (g.drop a))/\L f<=a/\L cur<=a/\Hid (∀ c∈cur,gt c=true)/\wr.ownsRow k.heap.size 9 1 o (L f) (σ (f.map term))/\wr.ownsRow k.heap.size 3 1 s (L cur) (τ cur)/\BQ k wr) (fun _ _ ai _=>L g - (intOf ai).toNat)
 case atStart=>exact⟨0,[],[],Ι _,rfl,rfl,NZ,NZ,fun _ h=>by simp at h,hZ _ _ _ _,hZ _ _ _ _,φ _ _⟩
 case round =>
  obtain⟨a,f,cur,U,rfl,HW,a1,aZ,Z,I,E,u⟩:=hrel;have W:=u.size;have X:=T.size;obtain⟨al,am,rfl⟩:=Θ E;by_cases az:a<L g
  .obtain⟨b,off,rfl,af⟩:=aq.o a az
   have a0:=(u.cell (ib k _ af)).trans af;have ao:gt g[a]=true:=aN.o _ (Χ _);have ax:g.drop a=g[a]::g.drop (a+1):=mh az;have Y:=aA.below u;have t:=CJ g[a] wr Y;have H:=fun(j:β)=>BC g[a] j;generalize aV:g[a]=x at *;have an:∀ s∈[IZ x],s.oneCell'=true:=by intro s F;simp at F;subst F;rfl
   have aj:=Zh an;clear an;have aa:=Zh ax;clear ax;clear aV aq af;have aM:=Zh ao;clear ao;by_cases A:gK x=true
   .have z:Hid (∀ (j i:β) (m:ε),BQ wr j->i.ownsRow k.heap.size 3 1 m (L cur+1) (τ cur++[IZ x])->(å j (C #[IZ x] 3)).grownBy i (Value.slice al (L cur) am).ownBlock ->
      i.ownsRow k.heap.size 3 1 m (L (cur++[x])) (τ (cur++[x]))/\i.ownsRow k.heap.size 9 1 u3 (L f) (σ (f.map term))/\BQ k i):=by
     intro j i m d ad S;have aK:=(Υ I d).alloc (C #[IZ x] 3);have aW:=(Υ E d).alloc (C #[IZ x] 3);refine⟨by rw[ω,Cl];exact ad,aK.kept S (own_ne aK aW ϐ),((u.trans (d.mono W)).alloc (by have:=d.size;omega) _).grown S (by have:=d.size;simp;omega) (fun Q B=>(E.lt Q B).1)⟩
    have M:Hid (oU g=f++jI (cur++[x]) (g.drop (a+1))):=by
     show _=_;rw[HW.o,aa.o,wF _ _ _ A]
    have ap:Hid (∀ c∈cur++[x],gt c=true):=by
     intro c hc;rcases mg.1 hc with hc|hc
     .exact Z.o c hc
     .simp at hc;subst hc;exact aM.o
    cases N:mu x with
    |true =>
     rw[N]at t;have K:=Zh t;clear t N A H;go_wp2_with (first|(go_at_call 163;refine K.o.mono ?_;rintro e j ⟨rfl,d⟩)|(at_builtin;refine gn rfl _ _ _ _ rfl k.heap.size 3 aI _ 1 8 jm hi aF aG aH rfl _ (L cur) _ rfl ((Υ E d).alloc _) _ 1 [IZ x] rfl (ig jm j _ 1 1 1 rfl aj.o) ώ ϊ (by have:=d.size;simp;omega) ?_;intro m i r p _ _))
     obtain⟨f1,f2,f3⟩:=z.o j i m d r p;clear r p;go_wp2;go_roundw;case rel=>exact⟨a+1,f,cur++[x],ϊ,ϕ,M,ϊ,ό,ap,f2,f1,f3⟩
     case measure=>simp[intOf];omega
    |false =>
     have au:nV x=true:=by unfold gK at A;rw[N]at A;simpa using A
     rw[N]at t;rw[au]at H;have K:=Zh t;have R:=Zh H;clear t N A H au;go_wp2_with (first|(go_at_call 163;refine K.o.mono ?_;rintro e j ⟨rfl,d⟩)|(go_at_call 164;refine(R.o _).mono ?_;rintro e aL ⟨rfl,rfl⟩)|(at_builtin;refine gn rfl _ _ _ _ rfl k.heap.size 3 aI _ 1 8 jm hi aF aG aH rfl _ (L cur) _ rfl ((Υ E d).alloc _) _ 1 [IZ x] rfl (ig jm j _ 1 1 1 rfl aj.o) ώ ϊ (by have:=d.size;simp;omega) ?_;intro m i r p _ _))
     obtain⟨f1,f2,f3⟩:=z.o j i m d r p;clear r p;go_wp2;go_roundw;case rel=>exact⟨a+1,f,cur++[x],ϊ,ϕ,M,ϊ,ό,ap,f2,f1,f3⟩
     case measure=>simp[intOf];omega
   .have q:gK x=false:=by simpa using A
    have ay:mu x=false:=by unfold gK at q;simp at q;exact q.1
    have aw:nV x=false:=by unfold gK at q;simp at q;exact q.2
    rw[ay]at t;rw[aw]at H;have K:=Zh t;have R:=Zh H;clear t ay A H aw;by_cases y:cur=[]
    .subst y
     have M:Hid (oU g=f++jI [] (g.drop (a+1))):=by
      show _=_;rw[HW.o,aa.o,zK _ _ q]
     clear q;go_wp2_with (first|(go_at_call 163;refine K.o.mono ?_;rintro e j ⟨rfl,d⟩)|(go_at_call 164;refine(R.o _).mono ?_;rintro e aL ⟨rfl,rfl⟩))
     go_roundw;case rel=>exact⟨a+1,f,[],ϊ,ϕ,M,ϊ,ύ,fun c h=>by simp at h,Υ I d,Υ E d,u.trans (d.mono W)⟩
     case measure=>simp[intOf];omega
    .have aS:0<L cur:=om.2 y
     have M:Hid (oU g=(f++[cur])++jI [] (g.drop (a+1))):=by
      show _=_;rw[HW.o,aa.o,zJ _ _ _ q y];simp
     have ac:Hid (∀ j,BQ wr j->Calls prog 268 #[D al (L cur) am] j (An (term cur) j)):=by
      intro j d;exact EA _ cur j (Y.below d) (Rd.of_own (Υ E d)) Z.o ϊ
     have P:∀ s∈[Value.string (δ (term cur))],s.oneCell'=true:=by intro s F;simp at F;subst F;rfl
     have ab:=Zh P;clear P;have z:Hid (∀ (G i:β) (m:ε),BQ wr G->i.ownsRow k.heap.size 9 1 m (L f+1) (σ (f.map term)++[Value.string (δ (term cur))])->(å G (C #[Value.string (δ (term cur))] 9)).grownBy i u3.ownBlock ->
       i.ownsRow k.heap.size 9 1 m (L (f++[cur])) (σ ((f++[cur]).map term))/\BQ k i):=by
      intro G i m n ad S;refine⟨?_,((u.trans (n.mono W)).alloc (by have:=n.size;omega) _).grown S (by have:=n.size;simp;omega) (fun Q B=>(I.lt Q B).1)⟩;rw[ω,ou,zl];exact ad
     clear q y;go_wp2_with (first|(go_at_call 163;refine K.o.mono ?_;rintro e j ⟨rfl,d⟩)|(go_at_call 164;refine(R.o _).mono ?_;rintro e aL ⟨rfl,rfl⟩)|(go_at_call 268;refine(ac.o _ d).mono ?_;rintro e G ⟨rfl,n⟩;have ae:=d.trans (n.mono d.size))|(at_builtin;refine gn rfl _ _ _ _ rfl k.heap.size 9 aJ _ 1 16 lL B aC aD aE rfl _ (L f) _ rfl ((Υ I ae).alloc _) _ 1 [Value.string (δ (term cur))] rfl (ig lL G _ 1 1 1 rfl ab.o) ώ ϊ (by have:=ae.size;simp;omega) ?_;intro m i r p _ _))
     obtain⟨f1,f2⟩:=z.o G i m ae r p;clear r p;go_wp2;go_roundw;case rel=>exact⟨a+1,f++[cur],[],ϊ,ϕ,M,ό,ύ,fun c h=>by simp at h,f1,hZ _ _ _ _,f2⟩
     case measure=>simp[intOf];omega
  .have V:g.drop a=[]:=ng ϊ
   have Y:=aA.below u;by_cases y:cur=[]
   .subst y
    have z:Hid (Μ l=f.map term):=by
     show _=_;rw[ak.o,HW.o,V,uf];simp
    clear V;go_wp2;go_ret;rw[z.o];exact⟨_,rfl,by rw[io];exact ii I X,T.trans (u.mono X)⟩
   .have aS:0<L cur:=om.2 y
    have z:Hid (Μ l=(f++[cur]).map term):=by
     show _=_;rw[ak.o,HW.o,V,uf,κ y]
    have ac:=Zh (EA _ cur wr Y (Rd.of_own E) Z.o ϊ);have P:∀ s∈[Value.string (δ (term cur))],s.oneCell'=true:=by intro s F;simp at F;subst F;rfl
    have ab:=Zh P;clear P;clear V y;go_wp2_with (first|(go_at_call 268;refine ac.o.mono ?_;rintro e G ⟨rfl,n⟩)|(at_builtin;refine gn rfl _ _ _ _ rfl k.heap.size 9 aJ _ 1 16 lL B aC aD aE rfl _ (L f) _ rfl ((Υ I n).alloc _) _ 1 [Value.string (δ (term cur))] rfl (ig lL G _ 1 1 1 rfl ab.o) ώ ϊ (by have:=n.size;simp;omega) ?_;intro m i r p _ _))
    have aR:BQ k i:=((u.trans (n.mono W)).alloc (by have:=n.size;omega) _).grown p (by have:=n.size;simp;omega) (fun Q B=>(I.lt Q B).1);clear p;go_wp2;go_ret;rw[z.o];refine⟨_,rfl,?_,T.trans (aR.mono X)⟩;rw[io,ω,ou,zl];exact ii r X
theorem Lp (w:β) (l:γ) (e:TypeId) (d:L l<=maxLen):Rd (å w.drew (C (bytesRow (δ l) (grownCap w (δ l).size 0 e)) e ((bytesRow (δ l) (grownCap w (δ l).size 0 e)).size,(bytesRow (δ l) (grownCap w (δ l).size 0 e)).size+1))) (D (J ⟨w.heap.size,0,O⟩) (δ l).size (grownCap w (δ l).size 0 e)) (L l) 1 (η l):=by
 have c:=jx l;have i:=grownCap_ge w (δ l).size 0 e;have h:=uu w (δ l).size 0 e (by rw[c];exact d);generalize grownCap w (δ l).size 0 e=a at *;refine⟨by rw[oE];omega,d,?_⟩;rcases oj (L l) with h0|h0
 .exact .inl ⟨_,a,by rw[c,h0],h0⟩
 .refine .inr ⟨w.heap.size,0,a,by rw[c],h0,ϊ,h,fun b j f=>?_⟩
  have g:(å w.drew (C (bytesRow (δ l) a) e ((bytesRow (δ l) a).size,(bytesRow (δ l) a).size+1))).heap[w.heap.size]?=J (C (bytesRow (δ l) a) e ((bytesRow (δ l) a).size,(bytesRow (δ l) a).size+1)):=χ w.drew _;rw[show 0+b=b from ϊ,ν _ w.heap.size b _ e _ g];have hi:b<L l:=by rw[<-oE];exact(lN.1 f).1
  unfold bytesRow;rw[Array.getElem?_append_left (by simp[δ];exact hi)];rw[<-f];simp[δ,η,ch]
theorem hC (l:γ):(δ l).toList=l:=by rw[wZ];simp[δ]
def it (l:γ):Bool:=Μ l==[l]
theorem LM {t:γ} (h:it t=true):L t<=64:=by
 have a:=eq_of_beq h;exact ww t t (by rw[a];simp)
theorem wB (l:γ) (w:β) (r:Ϩ w) (q:L l<=100000) :
  Calls prog 167 #[š (δ l)] w fun e w'=>e=ŗ (.bool (it l))/\BQ w w':=by
 have z:=run_bytes_of_string (P:=prog) w 9 31 5 (δ l) lK gu nH;have n:=Lp w l 5 ώ;generalize k:(å w.drew (C (bytesRow (δ l) (grownCap w (δ l).size 0 5)) 5 ((bytesRow (δ l) (grownCap w (δ l).size 0 5)).size,(bytesRow (δ l) (grownCap w (δ l).size 0 5)).size+1)))=i at *;have a:BQ w i:=by rw[<-k];exact(RZ.drew).alloc NZ _
 clear k;generalize(Value.slice (J ⟨w.heap.size,0,O⟩) (δ l).size (grownCap w (δ l).size 0 5))=s at *;have j:=zz s l i (r.below a) n q;have A:L (Μ l)<=100000:=by have:=ud l;omega
 have m:it l=(Μ l==[l]):=rfl;generalize Μ l=o at *;have g:=Zh j;have f:=Zh m;clear j n m;by_cases b:L o=1
 .obtain⟨B,rfl⟩:=List.length_eq_one_iff.1 b
  clear b;go_enter func167,ntmps167;go_wp2_with (go_at_call 199;refine g.o.mono ?_;rintro e u ⟨t,rfl,c,d⟩;obtain⟨x,c1,rfl⟩:=kz c ύ;have p:=c.cellAt 0 ύ;simp[σ,ϴ]at p)
  go_ret;refine⟨kS ?_,a.trans (d.mono a.size)⟩;rw[f.o];simp[hC]
 .have y:((L o:Int)==1)=false:=gl.2 ϊ
  go_enter func167,ntmps167;go_wp2_with (go_at_call 199;refine g.o.mono ?_;rintro e u ⟨t,rfl,c,d⟩;obtain⟨v,c1,rfl⟩:=Θ c)
  go_ret;refine⟨kS ?_,a.trans (d.mono a.size)⟩;rw[f.o];symm;rw[nk];intro h;have:=eq_of_beq h;rw[this]at b;exact b rfl
abbrev υ:=γ×List Int
def kh (e:υ):Bool:=!e.2.isEmpty && fT e.2 && it e.1
def rM:List υ->Bool
 |[]=>true
 |[_]=>true
 |a::b::r=>ltStr a.1 b.1 && rM (b::r)
def iq (d:List υ):Bool:=d.all kh && rM d
theorem zg:∀ d:List υ,rM d=true↔∀ i (h:i+1<L d),ltStr (d[i]' ϊ).1 d[i+1].1=true
 |[]=>by simp[rM]
 |[a]=>by simp[rM]
 |a::b::r=>by
  rw[rM,gs,zg (b::r)];constructor
  .rintro⟨c,e⟩ i hi
   cases i with
   |zero=>exact c
   |succ i=>exact e i (by simpa using hi)
  .intro h
   exact⟨h 0 ύ,fun i hi=>h (i+1) (by simpa using hi)⟩
theorem By {d:List υ} (a:∀ i (hi:i<L d),kh d[i]=true) (b:∀ i (h:i+1<L d),ltStr (d[i]' ϊ).1 d[i+1].1=true):iq d=true:=by
 unfold iq;rw[gs,kp,zg];refine⟨fun e c=>?_,b⟩;obtain⟨i,hi,rfl⟩:=wP.1 c;exact a i hi
theorem Ht {d:List υ} (i:Nat) (hi:i<L d) (h:kh d[i]=false):iq d=false:=by
 rw[nk];intro a;unfold iq at a;rw[gs,kp]at a;rw[a.1 _ (Χ hi)]at h;cases h
theorem Hu {d:List υ} (i:Nat) (hi:i+1<L d) (h:ltStr (d[i]' ϊ).1 d[i+1].1=false):iq d=false:=by
 rw[nk];intro a;unfold iq at a;rw[gs,zg]at a;rw[a.2 i hi]at h;cases h
theorem Hs {d:List υ} (h:iq d=true) (i:Nat) (hi:i<L d):kh d[i]=true:=by
 unfold iq at h;rw[gs,kp]at h;exact h.1 _ (Χ hi)
theorem ym (e:υ):kh e=true↔e.2≠[]/\fT e.2=true/\it e.1=true:=by
 unfold kh;simp[and_assoc]
def ly (f t:Int):Bool:=decide (0<=f) && decide (f<t) && decide (t<=1000)
def lH (f t:Int) (d:List υ):Bool:=ly f t && iq d && d.all fun e=>e.2.all (iG f t)
theorem HU (p:Int->Bool) (l:List Int):(L (l.filter p)=L l)↔l.all p=true:=by
 rw[kp];constructor
 .intro h
  exact List.length_filter_eq_length_iff.1 h
 .intro h
  exact List.length_filter_eq_length_iff.2 h
def jR:List (List υ)->Option (γ)
 |[]=>O
 |[]::r=>jR r
 |(e::_)::r=>match jR r with
  |none=>J e.1
  |some a=>J (if ltStr a e.1 then a else e.1)
def kg (t:γ):List (List υ)->List Int
 |[]=>[]
 |[]::r=>kg t r
 |(e::_)::r=>if e.1=t then e.2++kg t r else kg t r
def jO (t:γ):List υ->List υ
 |[]=>[]
 |e::d=>if e.1=t then d else e::d
def ji:Nat->List (List υ)->List υ
 |0,_=>[]
 |f+1,ds=>match jR ds with
  |none=>[]
  |some a=>(a,kg a ds)::ji f (ds.map (jO a))
theorem jQ {w:β} {v:ε} {n:Nat} {l:List Int} (g:L l=n) (h:Rd w v n 1 (τ l)) :
  ∃ a c,v=D a n c/\n<=9223372036854775807/\Hid (∀ i (hi:i<L l),∃ b off,a=J ⟨b,off,O⟩/\w.cell? ⟨b,off+i,O⟩=J (IZ l[i])):=by
 subst g;obtain⟨-,f,⟨a,c,rfl,d⟩|⟨b,off,c,rfl,-,-,-,e⟩⟩:=h
 .exact⟨a,c,by rw[d],ϊ,fun i hi=>ϊ⟩
 .exact⟨_,c,rfl,by unfold maxLen at f;omega,fun i hi=>⟨b,off,rfl,e i _ (by simp[τ,hi])⟩⟩
theorem rJ (v:ε) (n:Nat) (l:List Int) (w:β) (j:L l=n) (h:Rd w v n 1 (τ l)) :
  Calls prog 180 #[v] w fun e w'=>e=ŗ (.bool (fT l))/\w=w':=by
 obtain⟨z,c,rfl,F,r⟩:=jQ j h;have m:=Zh j;clear h j;go_enter func180,ntmps180;go_wp2;go_loopw [3,8] (fun y k wr=>∃ (a:Nat) (d:Int),a<=n/\k=IZ a/\y=IZ d/\Hid (fT l=mB d (l.drop a))/\wr=w) (fun _ k _=>n - (intOf k).toNat)
 case atStart=>exact⟨0,-1,Ι _,rfl,rfl,rfl,by first|rfl|trivial⟩
 case round =>
  obtain⟨a,d,B,rfl,rfl,g,rfl⟩:=hrel;by_cases E:a<n
  .have q:a<L l:=by have:=m.o;omega
   obtain⟨b,off,rfl,A⟩:=r.o a q;have u:(a:Int)<(n:Int):=ϊ;have i:Hid (mB d (l.drop a)=(decide (d<l[a]) && decide (l[a]<1000) && mB l[a] (l.drop (a+1)))):=by
    show _=_;rw[mh q,Do]
   generalize l[a]=x at *;by_cases o:d<x
   .have s:¬x<=d:=ϊ
    by_cases p:x<1000
    .have t:¬(1000:Int)<=x:=ϊ
     have f:Hid (fT l=mB x (l.drop (a+1))):=by show _=_;rw[g.o,i.o,kr o,kr p];rfl
     go_wp2;go_roundw;case rel=>exact⟨a+1,x,ϊ,ϕ,rfl,f.o,by first|rfl|trivial⟩
     case measure=>simp[intOf];omega
    .have t:(1000:Int)<=x:=ϊ
     have f:Hid (fT l=false):=by show _=_;rw[g.o,i.o,iC p];simp
     go_wp2;go_ret;exact⟨by rw[f.o];rfl,rfl⟩
   .have s:x<=d:=ϊ
    have f:Hid (fT l=false):=by show _=_;rw[g.o,i.o,iC o];simp
    go_wp2;go_ret;exact⟨by rw[f.o];rfl,rfl⟩
  .have f:Hid (fT l=true):=by show _=_;rw[g.o,ng (by have:=m.o;omega)];rfl
   have u:¬(a:Int)<(n:Int):=ϊ;go_wp2;go_ret;exact⟨by rw[f.o];rfl,rfl⟩
theorem Rd.part {w:β} {b off n c:Nat} {f:List ε} (h:Rd w (D (J ⟨b,off,O⟩) n c) n 1 f) (p m:Nat) (i:0<m) (s:p+m<=n) :
  Rd w (D (J ⟨b,off+p,O⟩) m (c - p)) m 1 ((f.drop p).take m):=by
 obtain⟨r,t,⟨k,g,d,o⟩|⟨l,x,g,d,u,v,q,j⟩⟩:=h
 .omega
 .simp only[Ξ,Ο,Addr.mk.injEq,hR,Ϯ]at d
  obtain⟨⟨rfl,rfl⟩,rfl⟩:=d;refine⟨by rw[gN,gb];omega,ϊ,.inr ⟨b,off+p,c - p,rfl,i,ϊ,ϊ,fun e y a=>?_⟩⟩;have hi:e<m:=by
   have:=(lN.1 a).1;rw[gN]at this;omega
  rw[ul hi,jo]at a;rw[show off+p+e=off+(p+e)from ϊ];exact j _ _ a
theorem pD {w:β} {b off n c:Nat} {x:Int} {l:List Int} (h:Rd w (D (J ⟨b,off,O⟩) (n+1) c) (n+1) 1 (τ (x::l))) :
  (c=1->Rd w (D (J ⟨b,off,O⟩) n 0) n 1 (τ l))/\(¬c=1->Rd w (D (J ⟨b,off+1,O⟩) n (c - 1)) n 1 (τ l)):=by
 have f:L l=n:=by have:=h.1;rw[vn]at this;simpa using this
 have o:n+1<=c:=by
  obtain⟨-,-,⟨e,d,g,a⟩|⟨k,p,d,g,-,m,-,-⟩⟩:=h
  .simp at a
  .simp only[Ξ]at g;omega
 have i:n=0->∀ e d,Rd w (D e n d) n 1 (τ l):=fun a e d=>by
  subst a;have:l=[]:=lM.1 f;subst this;exact⟨rfl,Ι _,.inl ⟨_,_,rfl,rfl⟩⟩
 constructor
 .intro j
  exact i ϊ _ _
 .intro j
  by_cases a:n=0
  .exact i a _ _
  .have:=h.part 1 n ϊ ϊ
   rw[show((τ (x::l)).drop 1).take n=τ l from by simp[τ,gW (show(L (l.map (Value.int .i64)))<=n by simp[f])]]at this;exact this
theorem Dv {w:β} {d:Option Addr} {n c:Nat} {x:Int} {l:List Int} (h:Rd w (D d n c) n 1 (τ (x::l))):∃ b off,d=J ⟨b,off,O⟩/\w.cell? ⟨b,off,O⟩=J (IZ x)/\n<=c:=by
 have e:=h.1;rw[vn]at e;obtain⟨-,-,⟨m,g,a,o⟩|⟨f,k,g,a,-,i,-,j⟩⟩:=h
 .simp at e;omega
 .simp only[Ξ]at a
  obtain⟨rfl,-,rfl⟩:=a;exact⟨f,k,rfl,j 0 _ rfl,i⟩
abbrev jc:=Int×γ
def jv (l:List jc):List ε:=l.flatMap fun s=>[IZ s.1,š (δ s.2)]
theorem Kk (xs ys:List jc):jv (xs++ys)=jv xs++jv ys:=by simp[jv]
theorem Db (xs:List jc) (k:Nat) (h:k<L xs):(jv xs)[k*2]?=J (IZ xs[k].1)/\(jv xs)[k*2+1]?=J (š (δ xs[k].2)):=by
 induction xs generalizing k with
 |nil=>simp at h
 |cons x xs a =>
  cases k with
  |zero=>simp[jv]
  |succ k =>
   have:=a k (by simpa using h);simp only[pP];rw[<-this.1,<-this.2];simp only[jv,lg];constructor
   .rw[show(k+1)*2=k*2+2 from ϊ];simp
   .rw[show(k+1)*2+1=(k*2+1)+2 from ϊ];simp
theorem vF {w:β} {v:ε} {l:List jc} (h:Rd w v (L l) 2 (jv l)):∃ a c,v=D a (L l) c/\L l<=maxLen/\∀ k (d:k<L l),∃ b off,a=J ⟨b,off,O⟩/\w.cell? ⟨b,off+k*2,O⟩=J (IZ l[k].1)/\w.cell? ⟨b,off+k*2+1,O⟩=J (š (δ l[k].2)):=by
 obtain⟨-,f,⟨a,c,rfl,g⟩|⟨b,off,c,rfl,-,-,-,e⟩⟩:=h
 .exact⟨a,c,by rw[g],f,fun k d=>ϊ⟩
 .exact⟨_,c,rfl,f,fun k d=>⟨b,off,rfl,e _ _ (Db l k d).1,e _ _ (Db l k d).2⟩⟩
def kT:Int->Int->List jc->Bool
 |h,w,[]=>decide (h=1) && decide (w<=16)
 |h,w,(k,t)::r =>
  if k=0 then(if it t=true then kT (h+1) (w+1) r else false)
  else if k=1\/k=2\/k=3 then(if t≠[]\/h<2 then false else kT (h - 1) w r)
  else false
def lG (l:List jc):Bool:=kT 0 0 l
theorem yZ (v:ε) (l:List jc) (w:β) (ae:Ϩ w) (h:Rd w v (L l) 2 (jv l)) (aj:L l<=100000) (W:∀ s∈l,L s.2<=100000) (ab:∀ s∈l,-9223372036854775808<=s.1/\s.1<=9223372036854775807) :
  Calls prog 95 #[v] w fun e w'=>e=ŗ (.bool (lG l))/\BQ w w':=by
 obtain⟨ag,c,rfl,ac,P⟩:=vF h;have Y:=Zh P;have Z:=Zh W;clear P h ac W;have af:Hid (lG l=kT 0 0 l):=rfl;go_enter func95,ntmps95;go_wp2;go_loopw [3,4,9] (fun x y N wr=>∃ (a:Nat) (d q:Int),a<=L l/\N=IZ a/\x=IZ d/\y=IZ q/\0<=d/\d<=a/\0<=q/\q<=a/\Hid (lG l=kT d q (l.drop a))/\BQ w wr) (fun _ _ N _=>L l - (intOf N).toNat)
 case atStart=>exact⟨0,0,0,Ι _,rfl,rfl,rfl,ϊ,ϊ,ϊ,ϊ,rfl,φ _ _⟩
 case round =>
  obtain⟨a,d,q,ah,rfl,rfl,rfl,ak,am,an,ao,A,g⟩:=hrel;have t:=g.size;by_cases T:a<L l
  .obtain⟨b,off,rfl,E,F⟩:=Y.o a T
   have c1:=(g.cell (ib w _ E)).trans E;have c2:=(g.cell (ib w _ F)).trans F;have I:l.drop a=l[a]::l.drop (a+1):=mh T;have M:=Z.o l[a] (Χ _);have S:=ab l[a] (Χ _);clear E F;obtain⟨⟨i,j⟩,X⟩:∃ s,s=l[a]:=⟨_,rfl⟩;rw[<-X]at I c1 c2 M S;simp only at c1 c2 M S;have V:lG l=kT d q ((i,j)::l.drop (a+1)):=by rw[A.o,I]
   have z:=Zh V;clear V I X A;have o:=fun(u:β) (aa:BQ wr u)=>wB j u ((ae.below g).below aa) M;by_cases m:i=0
   .subst m
    cases r:it j with
    |true =>
     rw[r]at o;have B:=Zh o;have f:Hid (lG l=kT (d+1) (q+1) (l.drop (a+1))):=by
      show _=_;rw[z.o];simp only[kT];rw[μ trivial,μ r]
     clear o r;go_wp2_with (go_at_call 167;refine(B.o _ (ġ)).mono ?_;rintro e u ⟨rfl,H⟩;have G:BQ wr u:=((ġ)).trans (H.mono ύ))
     go_roundw;case rel=>exact⟨a+1,d+1,q+1,ϊ,ϕ,rfl,rfl,ϊ,ϊ,ϊ,ϊ,f,g.trans (G.mono t)⟩
     case measure=>simp[intOf];omega
    |false =>
     rw[r]at o;have B:=Zh o;have f:Hid (lG l=false):=by
      show _=_;rw[z.o];simp only[kT];rw[μ trivial,κ (by simp[r])]
     clear o r;go_wp2_with (go_at_call 167;refine(B.o _ (ġ)).mono ?_;rintro e u ⟨rfl,H⟩;have G:BQ wr u:=((ġ)).trans (H.mono ύ))
     go_ret;exact⟨kS f.o.symm,g.trans (G.mono t)⟩
   .have R:(i==0)=false:=gl.2 m
    clear o;by_cases n:i=1\/i=2\/i=3
    .by_cases k:j≠[]\/d<2
     .have f:Hid (lG l=false):=by
       show _=_;rw[z.o];simp only[kT];rw[κ m,μ n,μ k]
      clear m R;by_cases p:j=[]
      .have ad:d<2:=by rcases k with h|h;exact absurd p h;exact h
       have Q:(δ j).toList.isEmpty=true:=by rw[hC,p];rfl
       clear k;subst p;rcases n with rfl|rfl|rfl;all_goals
        go_wp2;go_ret;exact⟨kS f.o.symm,g.alloc t _⟩
      .have Q:(δ j).toList.isEmpty=false:=by rw[hC];simp[p]
       clear k;rcases n with rfl|rfl|rfl;all_goals
        go_wp2;go_ret;exact⟨kS f.o.symm,g.alloc t _⟩
     .have p:j=[]:=zY fun e=>k (.inl e)
      have ad:2<=d:=by
       have:¬d<2:=fun h=>k (.inr h);omega
      have f:Hid (lG l=kT (d - 1) q (l.drop (a+1))):=by
       show _=_;rw[z.o];simp only[kT];rw[κ m,μ n,κ k]
      have Q:(δ j).toList.isEmpty=true:=by rw[hC,p];rfl
      clear m R k;subst p;rcases n with rfl|rfl|rfl;all_goals
       go_wp2;go_roundw;case rel=>exact⟨a+1,d - 1,q,ϊ,ϕ,rfl,rfl,ϊ,ϊ,ϊ,ϊ,f,g.alloc t _⟩
       case measure=>simp[intOf];omega
    .have f:Hid (lG l=false):=by
      show _=_;rw[z.o];simp only[kT];rw[κ m,κ n]
     have ap:(i==1)=false:=gl.2 ϊ;have aq:(i==2)=false:=gl.2 ϊ;have n3:(i==3)=false:=gl.2 ϊ;clear m n;go_wp2;go_ret;exact⟨kS f.o.symm,g.alloc t _⟩
  .have ai:a=L l:=ϊ
   have f:Hid (lG l=(decide (d=1) && decide (q<=16))):=by
    show _=_;rw[A.o,ng ϊ];rfl
   by_cases K:d=1
   .subst K
    by_cases U:q<=16
    .go_wp2
     go_ret;exact⟨kS (by rw[f.o];simp[U]),g⟩
    .go_wp2
     go_ret;exact⟨kS (by rw[f.o];simp[U]),g⟩
   .have al:(d==1)=false:=gl.2 K
    go_wp2;go_ret;exact⟨kS (by rw[f.o];simp[K]),g⟩
inductive QT where
 |leaf (t:γ)
 |node (k:Int) (a b:QT)
def QT.steps:QT->List jc
 |.leaf t=>[(0,t)]
 |.node k a b=>a.steps++(b.steps++[(k,[])])
def QT.ok:QT->Prop
 |.leaf t=>it t=true
 |.node k a b=>(k=1\/k=2\/k=3)/\a.ok/\b.ok
section
variable {α:Type} (find:γ->α) (op:Int->α->α->α)
def qr:List α->List jc->List α
 |st,[]=>st
 |st,(k,t)::r=>if k=0 then qr (find t::st) r else match st with
  |y::x::s=>qr (op k x y::s) r
  |_=>st
def QT.ev:QT->α
 |.leaf t=>find t
 |.node k a b=>op k a.ev b.ev
def oI (d:α) (l:List jc):α:=(qr find op [] l).headD d
end
def Φ (base:Nat) (w:β) (v:ε) (n:Nat) (l:γ):Prop:=L l=n/\w.ownsRow base 5 1 v n (η l)
theorem Φ.below {base:Nat} {w w':β} {v:ε} {n:Nat} {l:γ} (h:Φ base w v n l) (a:BQ w w'):Φ base w' v n l:=⟨h.1,Υ h.2 a⟩
theorem Φ.mono {base base':Nat} {w:β} {v:ε} {n:Nat} {l:γ} (h:Φ base w v n l) (a:base'<=base):Φ base' w v n l:=⟨h.1,ii h.2 a⟩
theorem Φ.alloc {base:Nat} {w:β} {v:ε} {n:Nat} {l:γ} (h:Φ base w v n l) (o:Obj):Φ base (å w o) v n l:=h.below (ġ)
theorem Φ.set {base:Nat} {w:β} {v:ε} {n:Nat} {l:γ} (h:Φ base w v n l) {p:Addr} (a:p.block<base) (x:ε):Φ base (ŝ w p x) v n l:=⟨h.1,il h.2 a x⟩
theorem Φ.nil (w:β) (base:Nat):Φ base w (D O 0 0) 0 []:=⟨rfl,hZ w base _ 1⟩
theorem Φ.rd {base:Nat} {w:β} {v:ε} {n:Nat} {l:γ} (h:Φ base w v n l):Rd w v n 1 (η l):=Rd.of_own h.2
theorem Φ.hi {base:Nat} {w:β} {v:ε} {n:Nat} {l:γ} (h:Φ base w v n l):Hi base w (fun a=>Rd a v n 1 (η l)):=Hi.own h.2
theorem Φ.le {base:Nat} {w:β} {v:ε} {n:Nat} {l:γ} (h:Φ base w v n l):n<=9223372036854775807:=by
 have:=h.rd.2.1;unfold maxLen at this;omega
theorem jG (w:β) (a:Array ε) (e:TypeId) (m:Nat) (l:γ) (b:L l=m) (h:a.toList=η l) (c:m<=maxLen):Rd (å w (C a e)) (D (J ⟨w.heap.size,0,O⟩) m m) m 1 (η l):=by
 by_cases d:m=0
 .subst d
  have:l=[]:=ko b;subst this;exact⟨rfl,c,.inl ⟨_,_,rfl,rfl⟩⟩
 .rw[<-h]
  refine tR w a e 1 m ?_ c ϊ;rw[<-qO,h];simp[η,b]
theorem sV (a b:γ):η (a++b)=η a++η b:=by simp[η]
theorem lF:(prog.info? 5).map (fun i=>(i.zero,i.size,i.bytes))=J (J (ĭ .u8 0),1,1):=ϋ
theorem iz {ops:Array Oper} {k:List Oper} {o:Oper} {a:Act} {Q:Exit->Act->β->Prop} {w:β} (p:o.guard=O) (s x:Operand)
  (q:o.op=.call {callee:=.builtin .append,args:= #[s,x],argTypes:= #[31,31]})
  (base:Nat) (v e:ε) (n m:Nat) (xs ys:γ) (t:a.eval s=v) (d:Φ base w v n xs) (u:a.eval x=e) (hy:L ys=m) (r:Rd w e m 1 (η ys))
  (H:n+m<=70368744177664) (i:base<=w.heap.size)
  (h:∀ b c w',Φ base w' (D b (n+m) c) (n+m) (xs++ys)->Below base w w'->wpList prog ops Q k (a.put o.dst (D b (n+m) c)) w'):wpList prog ops Q (o::k) a w:=by
 obtain⟨B,hi,y,z,A⟩:=ϯ lF;refine gn p s x 31 31 q base 5 B (ĭ .u8 0) 1 1 gu hi y z A rfl v n (η xs) t d.2 e m (η ys) u (r.src gu (mp ys)) ώ ϊ i ?_;intro K w' f l F G;obtain⟨b,c,rfl⟩:=Θ f;refine h b c w' ⟨by simp[d.1,hy],by rw[sV];exact f⟩ ?_;refine RZ.grown l i fun I j=>?_;rcases d.2.2 with ⟨rfl,-⟩|⟨g,E,cur,rfl,hg,-⟩
 .simp[Value.ownBlock]at j
 .simp[Value.ownBlock]at j;omega
theorem Nb {ops:Array Oper} {o:Oper} {a:Act} {w:β} {K:Act->β->Prop} {Q:Exit->Act->β->Prop} {k:Prop} (hg:o.guard=O) (s x:Operand)
  (p:o.op=.call {callee:=.builtin .append,args:= #[s,x],argTypes:= #[31,31]})
  (base:Nat) (v e:ε) (n m:Nat) (xs ys:γ) (t:a.eval s=v) (d:Φ base w v n xs) (y:a.eval x=e) (hy:L ys=m) (q:Rd w e m 1 (η ys))
  (M:n+m<=70368744177664) (i:base<=w.heap.size)
  (h:∀ b c w',Φ base w' (D b (n+m) c) (n+m) (xs++ys)->Below base w w'->K (a.put o.dst (D b (n+m) c)) w') :
  if Region.wanted o (yielded ops a.tmps)=true then Oper.wp prog o a w K Q else k:=by
 have u:Region.wanted o (yielded ops a.tmps)=true:=by simp[Region.wanted,hg]
 rw[μ u];obtain⟨E,hi,z,A,B⟩:=ϯ lF;obtain⟨R,w',r,f,l,G,H⟩:=wb (P:=prog) w base 31 31 o.type 5 E (ĭ .u8 0) 1 1 gu hi z A B rfl v n (η xs) d.2 e m (η ys) (q.src gu (mp ys)) ώ ϊ i;unfold Oper.wp execOp;simp only[p,resolve,invoke,builtin,Sem.run_bind,Sem.run_pure,pN,qP,iA,lf,t,y,r];obtain⟨b,c,rfl⟩:=Θ f;refine h b c w' ⟨by simp[d.1,hy],by rw[sV];exact f⟩ ?_;refine RZ.grown l i fun N j=>?_;rcases d.2.2 with ⟨rfl,-⟩|⟨g,F,cur,rfl,I,-⟩
 .simp[Value.ownBlock]at j
 .simp[Value.ownBlock]at j;omega
theorem EW {ops:Array Oper} {d:List Oper} {o:Oper} {a:Act} {Q:Exit->Act->β->Prop} {w:β} (j:o.guard=O) (l c:Operand) (p:o.op=Op.makeSlice 31 l c)
  (n:Nat) (b:Int) (m:a.eval l=IZ 0) (i:a.eval c=IZ b) (g:b=(n:Int)) (u:n<=70368744177664)
  (h:∀ w',Φ w.heap.size w' (D (J ⟨w.heap.size,0,O⟩) 0 n) 0 []->BQ w w'->wpList prog ops Q d (a.put o.dst (D (J ⟨w.heap.size,0,O⟩) 0 n)) w'):wpList prog ops Q (o::d) a w:=by
 obtain⟨t,hi,q,r,s⟩:=ϯ lF;refine wpList_make_own w j l c _ p w.heap.size 5 t _ 1 gu hi q r .i64 .i64 b n m i g (by rw[s];omega) ώ NZ ?_;intro w' e f;exact h w' ⟨rfl,e⟩ (RZ.grown f NZ (fun v k=>by cases k))
def ξ (v:Nat):γ:=if v<=127 then[UInt8.ofNat v]else UInt8.ofNat (v % 128+128)::ξ (v / 128)
 termination_by v
 decreasing_by omega
theorem tD {v:Nat} (h:v<=127):ξ v=[UInt8.ofNat v]:=by rw[ξ,μ h]
theorem vC {v:Nat} (h:127<v):ξ v=UInt8.ofNat (v % 128+128)::ξ (v / 128):=by rw[ξ,κ ϊ]
theorem qC (v:Nat):0<L (ξ v):=by
 rw[ξ];split<;>simp
theorem fQ:∀ (n v:Nat),v<128 ^ (n+1)->L (ξ v)<=n+1
 |0,v,h=>by rw[tD ϊ];simp
 |n+1,v,h=>by
  by_cases a:v<=127
  .rw[tD a];simp
  .rw[vC ϊ,Ϧ]
   have:=fQ n (v / 128) (by rw[Nat.div_lt_iff_lt_mul ϐ];rw[jn]at h;omega);omega
def Ζ (s:γ):γ:=ξ (L s)++s
def tm:Nat->Nat->γ->Int ⊕ (Nat×Nat)
 |n,v,[]=>if n=9 then .inl 2 else .inl 4
 |n,v,c::r =>
  if n=9 then .inl 2
  else if c.toNat<128 then
   if(0<n/\c=0)\/4611686018427387904<v+c.toNat*128 ^ n then .inl 2 else .inr (v+c.toNat*128 ^ n,n+1)
  else tm (n+1) (v+(c.toNat - 128)*128 ^ n) r
def yu (b:γ):Int ⊕ (Nat×Nat):=tm 0 0 b
theorem Ip:∀ (v n a:Nat) (r:γ),n+L (ξ v)<=9->(0<n->0<v)->a+v*128 ^ n<=4611686018427387904 ->
  tm n a (ξ v++r)=.inr (a+v*128 ^ n,n+L (ξ v)):=by
 intro v;induction v using Nat.strongRecOn with
 |_ v k =>
  intro n a r c h j;by_cases i:v<=127
  .rw[tD i]at c ⊢
   simp only[qN]at c;have b:(UInt8.ofNat v).toNat=v:=ό;rw[List.singleton_append,tm,κ ϊ,b,μ ϊ,κ]
   .rfl
   .rintro(⟨e,f⟩|g)
    .have:=h e
     rw[f]at b;simp at b;omega
    .omega
  .rw[vC ϊ]at c ⊢
   simp only[Ϧ]at c;have b:(UInt8.ofNat (v % 128+128)).toNat=v % 128+128:=ό;have l:=qC (v / 128);have d:v*128 ^ n=(v % 128)*128 ^ n+(v / 128)*128 ^ (n+1):=by
    rw[jn];have:v=v % 128+128*(v / 128):=(Nat.mod_add_div v 128).symm
    conv=>lhs;rw[this]
    rw[kX]
    congr 1
    rw[kt 128 (v / 128),oh,kt 128]
   rw[kq,tm,κ ϊ,b,κ ϊ,pK];rw[k (v / 128) ϊ (n+1) (a+v % 128*128 ^ n) r ϊ (fun _=>ϊ) (by rw[iW,<-d];exact j)];rw[iW,<-d,Ϧ]
   congr 2
   omega
structure jB where
 b:γ
 pos:Nat
 err:Int
def jB.start (r:jB):jB:={r with err:=if r.err=0/\L r.b<r.pos then 1 else r.err}
def yw (b:γ) (a c:Nat):Int ⊕ (γ×Nat):=
 match yu (b.drop a)with
 |.inl e=>.inl e
 |.inr (n,k)=>if c<n then .inl 2 else if L b - (a+k)<n then .inl 4 else .inr ((b.drop (a+k)).take n,a+k+n)
def jB.text (r:jB) (a:Nat):jB×γ:=
 if r.start.err≠0 then(r.start,[])
 else match yw r.b r.pos a with
  |.inl e=>({r.start with err:=e},[])
  |.inr (s,q)=>({r.start with pos:=q},s)
def jB.done (r:jB):Int:=if r.err≠0 then r.err else if L r.b<r.pos then 1 else if r.pos<L r.b then 2 else 0
def jB.At (r:jB) (a c:γ):Prop:=r.b=a++c/\r.pos=L a/\r.err=0
theorem jB.At.start {r:jB} {a c:γ} (h:r.At a c):r.start=r:=by
 obtain⟨b,d,e⟩:=h;cases r;simp only at b d e;subst b d e;simp[jB.start]
theorem jB.At.drop {r:jB} {a c:γ} (h:r.At a c):r.b.drop r.pos=c:=by
 rw[h.1,h.2.1];simp
theorem Iq (v:Nat) (r:γ) (h:v<=4611686018427387904):yu (ξ v++r)=.inr (v,L (ξ v)):=by
 have a:L (ξ v)<=9:=fQ 8 v ϊ;have:=Ip v 0 0 r ϊ (fun h=>ϊ) (by simpa using h);simpa[yu] using this
theorem jB.At.text {r:jB} {a c s:γ} {b:Nat} (h:r.At a (Ζ s++c)) (k:L s<=b) (j:b<=4611686018427387904):(r.text b).2=s/\(r.text b).1.At (a++Ζ s) c:=by
 have i:=h.start;have d:=h.drop;have e:yw r.b r.pos b=.inr (s,r.pos+L (ξ (L s))+L s):=by
  unfold yw;unfold Ζ at d;rw[gM]at d;rw[d,Iq (L s) (s++c) ϊ];simp only;have g:L r.b=L a+(L (ξ (L s))+L s+L c):=by
   rw[h.1];unfold Ζ;simp;omega
  have f:r.b.drop (r.pos+L (ξ (L s)))=s++c:=by
   rw[<-qQ,d];simp
  rw[κ ϊ,κ (by rw[g,h.2.1];omega),f];simp
 unfold jB.text;rw[i,κ (by simp[h.2.2]),e];refine⟨rfl,by simp[h.1],?_,h.2.2⟩;simp only[h.2.1];unfold Ζ;simp;omega
theorem jB.At.done {r:jB} {a:γ} (h:r.At a []):r.done=0:=by
 unfold jB.done;rw[κ (by simp[h.2.2]),κ (by rw[h.1,h.2.1];simp),κ (by rw[h.1,h.2.1];simp)]
