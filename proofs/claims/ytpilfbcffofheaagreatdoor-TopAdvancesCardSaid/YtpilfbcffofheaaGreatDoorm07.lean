/- Part 7 of the proof. -/
import Derived.Test.YtpilfbcffofheaaGreatDoorm04
import Derived.Test.YtpilfbcffofheaaGreatDoorm06
set_option linter.all false
set_option maxRecDepth 100000
set_option maxHeartbeats 16000000
namespace Go.Proofs.YtpilfbcffofheaaGreatDoor
open Go.RowKit Go.Proofs.Tryz Go.Sort
open Value renaming slice->D,string->š,pointer->þ
open Option renaming none->O,some->J
open List renaming length->L
open Obj renaming cells->C
open Ending renaming returned->ŗ
open World renaming alloc->å
abbrev nt:=Int×γ
def kz (l:List nt):List ε:=l.flatMap fun s=>[G s.1,š (δ s.2)]
def Mf (xs ys):kz (xs++ys)=kz xs++kz ys:=by simp[kz]
def Ep (xs k h):(kz xs)[k*2]?=J (G xs[k].1)/\(kz xs)[k*2+1]?=J (š (δ xs[k].2)):=by
 induction xs generalizing k with
 |nil=>simp at h
 |cons x xs a =>
  cases k with
  |zero=>simp[kz]
  |succ k =>
   have:=a k (by simpa using h);simp only[rn];rw[<-this.1,<-this.2];simp only[kz,lF];constructor
   .rw[show(k+1)*2=k*2+2 from U];simp
   .rw[show(k+1)*2+1=(k*2+1)+2 from U];simp
def xq {w:β} {v:ε} {l} (h:Rd w v (L l) 2 (kz l)):∃ a c,v=D a (L l) c/\L l<=maxLen/\∀ k (d:k<L l),∃ b off,a=J ⟨b,off,O⟩/\w.cell? ⟨b,off+k*2,O⟩=J (G l[k].1)/\w.cell? ⟨b,off+k*2+1,O⟩=J (š (δ l[k].2)):=by
 obtain⟨-,f,⟨a,c,rfl,g⟩|⟨b,off,c,rfl,-,-,-,e⟩⟩:=h
 .exact⟨a,c,by rw[g],f,fun k d=>U⟩
 .exact⟨_,c,rfl,f,fun k d=>⟨b,off,rfl,e _ _ (Ep l k d).1,e _ _ (Ep l k d).2⟩⟩
def lX:Int->Int->List nt->Bool
 |h,w,[]=>decide (h=1) && decide (w<=16)
 |h,w,(k,t)::r =>
  if k=0 then(if iT t=true then lX (h+1) (w+1) r else false)
  else if k=1\/k=2\/k=3 then(if t≠[]\/h<2 then false else lX (h - 1) w r)
  else false
def mW (l:List nt):Bool:=lX 0 0 l
def Ay (v:ε) (l) (w:β) (aa:ϭ w) (h:Rd w v (L l) 2 (kz l)) (ai:L l<=100000) (ab:∀ s∈l,L s.2<=100000) (X:∀ s∈l,-9223372036854775808<=s.1/\s.1<=9223372036854775807) :
  Calls prog 95 #[v] w fun e w'=>e=ŗ (.bool (mW l))/\BQ w w':=by
 obtain⟨ad,a1,rfl,ah,W⟩:=xq h;have⟨T,b⟩:=π W ab;go_enter func95,ntmps95;go_wp2;go_loopw [3,4,9] (fun x y H wr=>∃ (a:Nat) (g q:Int),a<=L l/\H=G a/\x=G g/\y=G q/\0<=g/\g<=a/\0<=q/\q<=a/\Hid (mW l=lX g q (l.drop a))/\BQ w wr) (fun _ _ H _=>L l - (intOf H).toNat)
 .exact⟨0,0,0,Ζ _,rfl,rfl,rfl,U,U,U,U,rfl,ρ _ _⟩
 obtain⟨a,g,q,ae,rfl,rfl,rfl,aj,al,am,an,I,f⟩:=hrel;have n:=f.size;by_cases R:a<L l
 .obtain⟨a0,off,rfl,K,M⟩:=T.o a R
  have c1:=(f.cell (ii w _ K)).trans K;have c2:=(f.cell (ii w _ M)).trans M;have N:=lL R;have c:=b.o l[a] (Ψ _);have Q:=X l[a] (Ψ _);obtain⟨⟨i,j⟩,ac⟩:∃ s,s=l[a]:=⟨_,rfl⟩;rw[<-ac]at N c1 c2 c Q;simp only at c1 c2 c Q;have Z:mW l=lX g q ((i,j)::l.drop (a+1)):=by rw[I.o,N]
  have p:=Zh Z;have z:=fun o (V:BQ wr o)=>xZ j o ((aa.B f).B V) c;by_cases r:i=0
  .subst r
   cases u:iT j with
   |true =>
    rw[u]at z;have A:=Zh z;have d:Hid (mW l=lX (g+1) (q+1) (l.drop (a+1))):=by
     show _=_;rw[p.o];simp only[lX];rw[μ trivial,μ u]
    go_wp2_with (go_at_call 167;refine(A.o _ (ġ)).M ?_;rintro e o ⟨rfl,E⟩;have B:BQ wr o:=((ġ)).trans (E.M ύ))
    go_roundw
    .exact⟨ _,_,_,U,ϕ,rfl,rfl,U,U,U,U,d,f.trans (B.M n)⟩
    exact ω
   |false =>
    rw[u]at z;have A:=Zh z;have d:Hid (mW l=false):=by
     show _=_;rw[p.o];simp only[lX];rw[μ trivial,κ (by simp[u])]
    go_wp2_with (go_at_call 167;refine(A.o _ (ġ)).M ?_;rintro e o ⟨rfl,E⟩;have B:BQ wr o:=((ġ)).trans (E.M ύ))
    go_ret;exact⟨jm d.o.symm,f.trans (B.M n)⟩
  .have af:=fU.2 r
   by_cases m:i=1\/i=2\/i=3
   .by_cases t:j≠[]\/g<2
    .have d:Hid (mW l=false):=by
      show _=_;rw[p.o];simp only[lX];rw[κ r,μ m,μ t]
     by_cases k:j=[]
     .have Y:g<2:=by rcases t with h|h;exact absurd k h;exact h
      have P:(δ j).toList.isEmpty=true:=by rw[hN,k];rfl
      subst k;rcases m with rfl|rfl|rfl;all_goals
       go_wp2;go_ret;exact⟨jm d.o.symm,f.A n _⟩
     .have P:(δ j).toList.isEmpty=false:=by rw[hN];simp[k]
      rcases m with rfl|rfl|rfl;all_goals
       go_wp2;go_ret;exact⟨jm d.o.symm,f.A n _⟩
    .have k:=GU fun e=>t (.inl e)
     have Y:2<=g:=by
      omega
     have d:Hid (mW l=lX (g - 1) q (l.drop (a+1))):=by
      show _=_;rw[p.o];simp only[lX];rw[κ r,μ m,κ t]
     have P:(δ j).toList.isEmpty=true:=by rw[hN,k];rfl
     subst k;rcases m with rfl|rfl|rfl;all_goals
      go_wp2;go_roundw
      .exact⟨ _,_,q,U,ϕ,rfl,rfl,U,U,U,U,d,f.A n _⟩
      exact ω
   .have d:Hid (mW l=false):=by
     show _=_;rw[p.o];simp only[lX];rw[κ r,κ m]
    have ao:(i==1)=false:=fU.2 U;have ap:(i==2)=false:=fU.2 U;have n3:(i==3)=false:=fU.2 U;go_wp2;go_ret;exact⟨jm d.o.symm,f.A n _⟩
 .have ag:a=L l:=U
  have d:Hid (mW l=(decide (g=1) && decide (q<=16))):=by
   show _=_;rw[I.o,mg U];rfl
  by_cases F:g=1
  .subst F
   by_cases S:q<=16
   .go_wp2
    go_ret;exact⟨jm (by rw[d.o];simp[S]),f⟩
   .go_wp2
    go_ret;exact⟨jm (by rw[d.o];simp[S]),f⟩
  .have ak:=fU.2 F
   go_wp2;go_ret;exact⟨jm (by rw[d.o];simp[F]),f⟩
def iU (l:List nt):List (γ):=(l.filter fun s=>s.1==0).map (·.2)
def Bj (l):L (iU l)<=L l:=by
 unfold iU;rw[hU];exact List.length_filter_le _ _
def QM (l s):iU (l++[s])=if s.1=0 then iU l++[s.2]else iU l:=by
 unfold iU;by_cases h:s.1=0
 .simp[h]
 .simp[h]
def FE (a:List (γ)):fW a=Lib.compact (a.mergeSort fun x y=>decide (x<=y)):=by
 have h:(fun x y:γ=>decide (x<=y))=fun x y=>!ltStr y x:=by
  funext x y;simp only[ltStr,<-decide_not,List.not_lt]
 unfold fW pt;rw[h]
def Ru (a:List (γ)) (h:0<L a):0<L (Lib.compact a):=by
 unfold Lib.compact Lib.compactUpTo;rw[hU];exact List.length_pos_of_mem (ud.2 ⟨rm.2 h,Lib.keeps_lt_one _ 0 ϐ⟩)
def wC {B} {a w:β} (h:Below B a w) (b:B<=w.heap.size) (os):Below B a (grow w os):=
 h.trans ⟨rfl,rfl,rfl,by simp[grow],fun d c=>heap_grow_old w os U⟩
def Az (v:ε) (l) (w:β) (h:Rd w v (L l) 2 (kz l)) (aJ:L l<=100000) :
  Calls prog 96 #[v] w (iJ w 9 1 (L (fW (iU l))) (χ (fW (iU l)))):=by
 obtain⟨aw,A,aq,ar,au⟩:=Ϩ pU;obtain⟨ay,a1,rfl,aI,aj⟩:=xq h;have Z:=Zh aj;go_enter func96,ntmps96;go_wp2;go_loopw [3,8] (fun o c wr=>∃ a:Nat,a<=L l/\c=G a/\wr.ownsRow w.heap.size 9 1 o (L (iU (l.take a))) (χ (iU (l.take a)))/\BQ w wr) (fun _ c _=>L l - (intOf c).toNat)
 .exact⟨0,Ζ _,rfl,gQ _ _ _ _,ρ _ _⟩
 obtain⟨a,aG,rfl,d,i⟩:=hrel;have V:=i.size;obtain⟨H,p,rfl⟩:=Η d;by_cases S:a<L l
 .obtain⟨a0,off,rfl,K,M⟩:=Z.o a S
  have c1:=(i.cell (ii w _ K)).trans K;have c2:=(i.cell (ii w _ M)).trans M;have F:iU (l.take (a+1))=if l[a].1=0 then iU (l.take a)++[l[a].2]else iU (l.take a):=by rw[jt S,QM]
  have ap:L (iU (l.take a))<=100000:=by have:=Bj (l.take a);rw[gp]at this;omega
  obtain⟨⟨ax,aQ⟩,r⟩:∃ s,s=l[a]:=⟨_,rfl⟩;rw[<-r]at c1 c2 F;simp only at c1 c2 F;have I:=Zh F;generalize iU (l.take a)=ws at *;by_cases B:ax=0
  .subst B
   go_wp2_with (at_builtin;refine ϻ rfl _ _ _ _ rfl _ 9 aw _ 1 _ ju A aq ar au rfl (D H _ p) _ _ rfl ((d.A _).A _) _ 1 [š _] rfl (oj ju _ _ 1 1 1 _ ύ rfl (by intro aR W;simp at W;subst W;rfl)) ώ U ό ?_;intro aS m T al _ _;have ai:BQ w m:=((i.A V _).A ό _).grown al ό (fun av A=>(d.lt av A).1);obtain⟨aO,aP,rfl⟩:=Η T)
   go_roundw
   .exact⟨a+1,U,ϕ,by rw[I.o,μ rfl,nE,σ];exact T,ai⟩
   exact ω
  .have aH:=fU.2 B
   have ac:=Zh B;go_wp2;go_roundw
   .exact⟨a+1,U,ϕ,by rw[I.o,κ ac.o];exact d.A _,i.A V _⟩
   exact ω
 .have am:a=L l:=U
  subst am;rw[nL]at d ⊢;have ap:L (iU l)<=100000:=ι (Bj l);generalize aM:iU l=ws at *;have aL:L (χ ws)=L ws:=Pl ws;generalize E:L ws=j at *;rcases nK j with h0|h0
  .obtain rfl:j=0:=h0
   have ae:=fun u=>Tryz.slices_Sort_string_none H p u;have Y:=fun u=>Tryz.slices_Compact_string_empty H p u;have⟨t,ab⟩:=π ae Y;go_wp2_with (first
    |(go_at_call 168;refine(t.o _).M ?_;rintro e m ⟨rfl,rfl⟩)
    |(go_at_call 169;refine(ab.o _).M ?_;rintro e m ⟨rfl,rfl⟩))
   go_ret;have X:=lJ.1 E;have an:fW ws=[]:=by rw[X];exact List.eq_nil_iff_forall_not_mem.2 fun x r=>by rw[nZ]at r;cases r
   rw[an];rw[X]at d;exact⟨_,rfl,d,i⟩
  .obtain⟨g,az,Q,P,ak,aK,aE,aN,af⟩:=yx (enc:=encStr)  d (by intro e;simp only[Χ]at e;omega)
   simp only[Χ]at Q;obtain⟨rfl,_,rfl⟩:=Q;have N:=Tryz.slices_Sort_string g 0 p ws wr af ak U;rw[E]at N;have t:=Zh N;have ao:=FE ws;have b:L (ws.mergeSort fun x y=>decide (x<=y))=j:=by rw[ub];exact E
   generalize(ws.mergeSort _)=f at *;have ad:=Zh ao;have ah:∀ n os,(grow (putRow encStr (Sort.ahead wr n) g 0 f.toArray) os).ownsRow w.heap.size 9 1 (D (J ⟨g,0,O⟩) j p) j (f.map encStr)/\BQ w (grow (putRow encStr (Sort.ahead wr n) g 0 f.toArray) os):=by
    intro n os;have o1:=yy (q:=n)    (enc:=encStr) d b NZ;rw[gF U]at o1;have b1:BQ w (putRow encStr (Sort.ahead wr n) g 0 f.toArray):=Lib.below_putRow i P;exact⟨ψ o1 (wC RZ NZ os),wC b1 b1.size os⟩
   have HW:=Zh ah;have aD:=Lib.compact_length_le f;go_wp2_with (first
    |(go_at_call 168;refine t.o.M ?_;rintro e m ⟨rfl,nq,os,rfl⟩;obtain⟨o1,b1⟩:=HW.o nq os;generalize(grow _ os)=m at *;obtain⟨aB,aA,R,aC,aF,_,_,_,ag⟩:=yx (enc:=encStr)  o1 (by intro e;simp only[Χ]at e;omega);simp only[Χ,Φ,Addr.mk.injEq]at R;obtain⟨⟨rfl,_,_⟩,_,rfl⟩:=R;have z:=Tryz.slices_Compact_string g 0 p f m ag U U;rw[b]at z;have aa:=Zh z;clear z)
    |(go_at_call 169;refine aa.o.M ?_;rintro e aT ⟨rfl,q,rfl⟩))
   go_ret;have o2:=yy (q:=q) (k:=L (Lib.compact f)) (ys:=Lib.compact f++List.replicate (j - L (Lib.compact f)) [])   o1 ό U;rw[tT]at o2;rw[ad.o];exact⟨_,rfl,o2,Lib.below_putRow b1 P⟩
def AX {w:β} {v:ε} {l:List (γ)} (h:Rd w v (L l) 1 (χ l)) :
  ∃ a c,v=D a (L l) c/\L l<=9223372036854775807/\Hid (∀ i (g:i<L l),∃ b off,a=J ⟨b,off,O⟩/\w.cell? ⟨b,off+i,O⟩=J (Ϫ l[i])):=by
 obtain⟨-,f,⟨a,c,rfl,d⟩|⟨b,off,c,rfl,-,-,-,e⟩⟩:=h
 .exact⟨a,c,by rw[d],U,fun i g=>U⟩
 .exact⟨_,c,rfl,by unfold maxLen at f;omega,fun i g=>⟨b,off,rfl,e i _ (by simp[χ,g])⟩⟩
def tL {w:β} {v:ε} {l:List (γ)} {n} (d:L l=n) (h:Rd w v n 1 (χ l)) :
  ∃ a c,v=D a n c/\n<=9223372036854775807/\Hid (∀ i (e:i<L l),∃ b off,a=J ⟨b,off,O⟩/\w.cell? ⟨b,off+i,O⟩=J (Ϫ l[i])):=by
 subst d;exact AX h
def Hh (l:List (γ)) (w:β) (e:Ending) (f:β):Prop:= ∃ (a:Nat) (d:a<L l),e=ŗ (G a)/\(∀ b (c:b<L l),ltStr l[b] l[a]=false)/\Below w.heap.size w f
def OA (v:ε) (n) (l:List (γ)) (w:β) (z:L l=n) (h:Rd w v n 1 (χ l)) (M:0<n) :
  Calls prog 341 #[v] w (Hh l w):=by
 obtain⟨a0,c,rfl,X,B⟩:=tL z h;have q:=Zh z;clear h z;go_enter func341,ntmps341;go_wp2;go_loopw [3,4] (fun P A wr=>∃ (a f:Nat) (r:f<L l),a<=n/\1<=a/\P=G f/\A=G a/\Hid (∀ d (g:d<L l),d<a->ltStr l[d] l[f]=false)/\BQ w wr) (fun _ A _=>n - (intOf A).toNat)
 .exact⟨1,0,ι q.o,M,NZ,rfl,rfl,fun d g E=>by obtain rfl:d=0:=U;exact swo_ltStr.irrefl _,ρ _ _⟩
 obtain⟨a,f,r,a1,V,rfl,rfl,s,m⟩:=hrel;have Y:f<n:=ι q.o;by_cases W:a<n
 .have S:a<L l:=ι q.o
  obtain⟨b,off,rfl,c1⟩:=B.o a S;obtain⟨T,ac,F,c2⟩:=B.o f r;simp only[Φ,Addr.mk.injEq,it]at F;obtain⟨rfl,rfl⟩:=F;have r1:=Ι (ζ m c1);have r2:=Ι (ζ m c2);have N:(a:Int)<(n:Int):=U;have Z:(0:Int)<=(a:Int):=U;have aa:(f:Int)<(n:Int):=U;have ab:(0:Int)<=(f:Int):=U;have k:=nX l[a] l[f];have t:Hid (ltStr l[a] l[f]=true->∀ d (g:d<L l),d<a+1->ltStr l[d] l[a]=false):=fun h d g E=>by
   by_cases e:d=a
   .subst e;exact swo_ltStr.irrefl _
   .exact swo_ltStr.ntrans _ _ _ (s.o d g U) (swo_ltStr.asymmA h)
  have u:Hid (ltStr l[a] l[f]=false->∀ d (g:d<L l),d<a+1->ltStr l[d] l[f]=false):=fun h d g E=>by
   by_cases e:d=a
   .subst e;exact h
   .exact s.o d g U
  cases j:ltStr l[a] l[f]with
  |true =>
   have H:=Zh (t.o j);rw[j]at k;obtain⟨Q,o⟩:∃ i,i=l[a]:=⟨_,rfl⟩;obtain⟨R,p⟩:∃ i,i=l[f]:=⟨_,rfl⟩;rw[<-o]at r1 k;rw[<-p]at r2 k;unfold Ϫ at r1 r2;clear c1 c2 t u j o p;go_wp2_with fail
   refine fY ?_;repeat (go_big_quiet_step (fail))
   refine gc fun K x=>?_;have y:=m.t x;clear r1 r2;go_wp2;go_roundw
   .exact⟨ _,a,S,U,U,rfl,ϕ,H.o,y⟩
   exact ω
  |false =>
   have I:=Zh (u.o j);rw[j]at k;obtain⟨Q,o⟩:∃ i,i=l[a]:=⟨_,rfl⟩;obtain⟨R,p⟩:∃ i,i=l[f]:=⟨_,rfl⟩;rw[<-o]at r1 k;rw[<-p]at r2 k;unfold Ϫ at r1 r2;clear c1 c2 t u j o p;go_wp2_with fail
   refine fY ?_;repeat (go_big_quiet_step (fail))
   refine gc fun K x=>?_;have y:=m.t x;clear r1 r2;go_wp2;go_roundw
   .exact⟨ _,f,r,U,U,rfl,ϕ,I.o,y⟩
   exact ω
 .have N:¬(a:Int)<(n:Int):=U
  go_wp2;go_ret;exact⟨f,r,rfl,fun d g=>s.o d g (ι q.o),m⟩
def oX (a c l:List (γ)):Prop:=mJ ltStr a/\(∀ x∈a,∀ y∈c,ltStr x y=true)/\∀ b,(b∈a\/b∈c)↔b∈l
def oX.start (l):oX [] l l:=⟨List.Pairwise.nil,ύ,ύ⟩
def oX.done {out l} (h:oX out [] l):out=fW l:=AO h.1 fun a=>by have:=h.2.2 a;simpa using this
def oX.step {g a l:List (γ)} {s} (d:s∈a) (n:∀ y∈a,ltStr y s=false) (h:oX g a l):oX (g++[s]) (a.filter (·!=s)) l:=by
 obtain⟨j,c,k⟩:=h;refine⟨?_,?_,?_⟩
 .refine List.pairwise_append.2 ⟨j,ύ,fun x hx y b=>?_⟩
  obtain rfl:=kF.1 b;exact c x hx _ d
 .intro x hx y b
  obtain⟨f,p⟩:=ud.1 b;rcases nj.1 hx with hx|hx
  .exact c x hx y f
  .obtain rfl:=kF.1 hx
   have o:y≠x:=by simpa using p
   cases m:ltStr x y with
   |true=>rfl
   |false=>exact absurd (rf y x (n y f) m) o
 .intro i
  rw[<-k i,nj,kF,ud];constructor
  .rintro((h|rfl)|h)
   .exact .inl h
   .exact .inr d
   .exact .inr h.1
  .rintro(h|h)
   .exact .inl (.inl h)
   .by_cases e:i=s
    .exact .inl (.inr e)
    .exact .inr ⟨h,by simpa using e⟩
def JU {l:List (γ)} {s} (a:s∈l):L (l.filter (·!=s))<L l:=by
 rw[List.length_filter_lt_length_iff_exists];exact⟨s,a,ύ⟩
def Rd.kept {w u:β} {v:ε} {n sz} {e:List ε} {r} (h:Rd w v n sz e) (x:w.grownBy u r) (q:∀ a m c,v=D (J a) m c->J a.block≠r):Rd u v n sz e:=by
 obtain⟨i,p,d⟩:=h;refine⟨i,p,?_⟩;rcases d with d|⟨b,off,c,g,j,k,l,o⟩
 .exact .inl d
 .refine .inr ⟨b,off,c,g,j,k,l,fun s t hi=>?_⟩
  have f:=o s t hi;rw[tX (x.block b (ii w _ f) (q _ _ _ g))];exact f
def GW (v o:ε):Prop:= ∀ a b c,v=D (J a) b c->J a.block≠o.ownBlock
def LP {l:List (γ)} {m} (c:m<L l) (h:∀ j (a:j<L l),ltStr l[j] l[m]=false):∀ y∈l,ltStr y l[m]=false:=by
 intro y b;obtain⟨j,a,rfl⟩:=wh.1 b;exact h j a
def JV (l:List (γ)) (s k hk):(l.take (k+1)).filter (·!=s)=(l.take k).filter (·!=s)++(if l[k]=s then[]else[l[k]]):=by
 rw[jt hk,List.filter_append]
 congr 1
 by_cases h:l[k]=s<;>simp[h]
def EJ {w:β} {ao c n} {l:List (γ)} (o:L l=n) (h:Rd w (D ao n c) n 1 (χ l)) (k:0<n) :
  ∃ b off,ao=J ⟨b,off,O⟩/\n<=c/\c<=maxLen/\∀ i (p:i<L l),w.cell? ⟨b,off+i,O⟩=J (Ϫ l[i]):=by
 obtain⟨-,-,⟨j,d,a,m⟩|⟨b,off,d,a,-,e,f,g⟩⟩:=h
 .omega
 .simp only[Χ]at a
  obtain⟨rfl,-,rfl⟩:=a;exact⟨b,off,rfl,e,f,fun i p=>g i _ (by simp[χ,p])⟩
def Fr (v:ε) (n:Nat) (l:List (γ)) (w:β) (R:L l=n) (h:Rd w v n 1 (χ l)) (ba:n<=100000) :
  Calls prog 334 #[v] w (iJ w 9 1 (L (fW l)) (χ (fW l))):=by
 obtain⟨ar,r,ao,ap,aq⟩:=Ϩ pU;obtain⟨aY,c0,rfl⟩:∃ I c,v=D I n c:=by
  obtain⟨a,c,h,-⟩:=tL R h;exact⟨a,c,h⟩
 have⟨aB,az⟩:=π h R;clear h R;go_enter func334,ntmps334;go_wp2;go_loopw [0,3] (fun z o wr=>∃ (q i:Nat) (f x:List (γ)),Hid (L f=q/\L x=i)/\q+i<=n/\Hid (Rd wr z q 1 (χ f))/\gn z=q/\wr.ownsRow w.heap.size 9 1 o i (χ x)/\Hid (GW z o)/\Hid (oX x f l)/\BQ w wr) (fun z _ _=>gn z)
 .refine⟨n,0,l,[],⟨az.o,rfl⟩,NZ,aB.o,rfl,gQ _ _ _ _,?_,oX.start l,ρ _ _⟩
  intro a i c _ h;simp[Value.ownBlock]at h
 obtain⟨q,i,f,x,g,bc,B,aI,y,aw,W,P⟩:=hrel;obtain⟨be,bf,rfl⟩:∃ I c,u0=D I q c:=by
  obtain⟨a,c,h,-⟩:=tL g.o.1 B.o;exact⟨a,c,h⟩
 have aK:=P.size;rcases nK q with h0|h0
 .subst h0
  have aG:Hid (fW l=x):=by
   have aO:f=[]:=lJ.1 g.o.1;have:=W.o;rw[aO]at this;exact this.done.symm
  go_wp2;go_ret;rw[aG.o];exact⟨_,rfl,by rw[g.o.2];exact y,P⟩
 .have bd:(0:Int)<(q:Int):=U
  have aA:=Zh (OA _ q f wr g.o.1 B.o h0);clear aI;obtain⟨aR,aS,rfl⟩:=Η y;have ab:∀ s:γ,∀ au∈[Value.string (δ s)],au.oneCell'=true:=by intro s au an;simp at an;subst an;rfl
  have Y:=Zh ab;clear ab;have a8:i<=100000:=U;go_wp2_with (first|(at_builtin;refine ϻ rfl _ _ _ _ rfl w.heap.size 9 ar _ 1 16 ju r ao ap aq rfl (D aR i aS) i _ rfl ((ψ y k).A _) _ 1 [Value.string (δ s)] rfl (gh ju av _ 1 1 1 rfl (Y.o s)) ώ U (by have:=k.size;simp;omega) ?_;intro bi A al Q ak _;have ad:BQ wr (å av (C #[Value.string (δ s)] 9)):=k.al _;have aC:=Zh ((B.o.B ad).kept Q aw.o);have N:BQ w A:=((P.trans (k.M aK)).A (ι k.size) _).grown Q (by have:=k.size;simp;omega) (fun b r=>(y.lt b r).1);clear Q)|(go_at_call 341;refine aA.o.M ?_;rintro b1 av ⟨F,S,rfl,aj,k⟩;have a9:F<q:=(ι g.o.1);obtain⟨b0,off,rfl,a0,a2,af⟩:=EJ g.o.1 B.o h0;have c1:=ζ k (af F S);have a7:(F:Int)<(q:Int):=U;have X:=Zh (LP S aj);have H:=Zh (Ψ S);obtain⟨s,am⟩:∃ s,s=f[F]:=⟨_,rfl⟩;rw[<-am]at c1 X H;clear af aj am;unfold Ϫ at c1))
  have⟨ac,aX,ax⟩:=ϲ al ak N;have aL:=N.size;clear al ak ad N y c1 k;obtain⟨b2,bh,ae,-,-,ag⟩:=EJ g.o.1 aC.o h0;simp only[Φ,Addr.mk.injEq,it]at ae;obtain⟨rfl,rfl⟩:=ae;have ay:=Zh ag;clear ag;go_loopw [5,6] (fun aV T Z=>∃ d:Nat,d<=q/\T=G d/\Z.ownsRow A.heap.size 9 1 aV (L ((f.take d).filter (·!=s))) (χ ((f.take d).filter (·!=s)))/\BQ A Z) (fun _ T _=>q - (intOf T).toNat)
  .exact⟨0,Ζ _,rfl,gQ _ _ _ _,ρ _ _⟩
  obtain⟨d,a4,rfl,m,p⟩:=hrel;have aM:=p.size;obtain⟨aT,aU,rfl⟩:=Η m;by_cases a5:d<q
  .have ai:d<L f:=ι g.o.1
   have c1:=ζ p (ay.o d ai);have aP:(d:Int)<(q:Int):=U;have V:=Zh (JV f s d ai);have a3:L ((f.take d).filter (·!=s))<=100000:=by
    have aa:=List.length_filter_le (·!=s) (f.take d);rw[gp]at aa;omega
   generalize(f.take d).filter (·!=s)=E at *;obtain⟨j,t⟩:∃ j,j=f[d]:=⟨_,rfl⟩;have K:=hN j;have M:=hN s;by_cases u:j=s
   .have aQ:((δ j).toList==(δ s).toList)=true:=by rw[u];exact vU _
    have e:Hid ((f.take (d+1)).filter (·!=s)=E):=by show _=_;rw[V.o,<-t,μ u,iy]
    rw[<-t]at c1;unfold Ϫ at c1;clear u t K M;go_wp2;go_roundw
    .exact⟨d+1,U,ϕ,by rw[e.o];exact m,p⟩
    exact ω
   .have aQ:((δ j).toList==(δ s).toList)=false:=by rw[K,M];simpa using u
    have e:Hid ((f.take (d+1)).filter (·!=s)=E++[j]):=by show _=_;rw[V.o,<-t,κ u]
    rw[<-t]at c1;unfold Ϫ at c1;clear u t K M;go_wp2_with (at_builtin;refine ϻ rfl _ _ _ _ rfl A.heap.size 9 ar _ 1 16 ju r ao ap aq rfl (D aT (L E) aU) (L E) _ rfl (m.A _) _ 1 [Value.string (δ j)] rfl (gh ju wr _ 1 1 1 rfl (Y.o j)) ώ U ό ?_;intro bj aW aJ ah _ _)
    have aD:BQ A aW:=(p.A aM _).grown ah ό (fun b r=>(m.lt b r).1);clear ah;go_wp2;go_roundw
    .exact⟨d+1,U,ϕ,by rw[e.o,σ,nE];exact aJ,aD⟩
    exact ω
  .have aH:d=q:=U
   subst aH;have aP:¬(d:Int)<(d:Int):=U;rw[show f.take d=f from gF (ι g.o.1)]at m ⊢;have a6:=JU H.o;have bb:=g.o.1;have aE:=Zh (oX.step H.o X.o W.o);go_wp2;go_roundw
   .refine⟨L (f.filter (·!=s)),i+1,f.filter (·!=s),x++[s],⟨rfl,by rw[σ,g.o.2];rfl⟩,U,Rd.of_own m,rfl,?_,?_,aE.o,ax.o.trans (p.M aL)⟩
    .rw[nE]
     exact ψ ac.o p
    .intro a bg aZ aN aF
     have aa:=m.lt a.block (by rw[aN];rfl);have a1:=ac.o.lt a.block aF.symm;omega
   show(L (f.filter (·!=s)))<d;omega
def mN (x y:γ):Int:=if ltStr x y then -1 else if ltStr y x then 1 else 0
def DL (x:γ) (w:β):Calls prog 269 #[Ϫ x] w fun e w'=>e=ŗ (.bool false)/\w=w':=by
 unfold Ϫ;go_enter func269,ntmps269;go_wp2;go_ret;exact⟨by first|rfl|simp,rfl⟩
def CI (x y:γ) (w:β):Calls prog 200 #[Ϫ x,Ϫ y] w fun e w'=>e=ŗ (G (mN x y))/\w=w':=by
 have i:=fun g=>DL x g;have k:=fun g=>DL y g;unfold Ϫ at *;have l1:=nX x y;have c:=hN x;have d:=hN y;cases a:ltStr x y with
 |true =>
  rw[a]at l1;have b:Hid (mN x y = -1):=by show _=_;unfold mN;rw[μ a]
  clear c d a;go_enter func200,ntmps200;go_wp2_with (first|(go_at_call 269;refine(i _).M ?_;rintro e w' ⟨rfl,rfl⟩)|(go_at_call 269;refine(k _).M ?_;rintro e w' ⟨rfl,rfl⟩))
  go_ret;exact⟨by rw[b.o];rfl,rfl⟩
 |false =>
  rw[a]at l1;by_cases f:x=y
  .subst f
   have b:Hid (mN x x=0):=by show _=_;unfold mN;rw[κ (by simp[a]),κ (by simp[a])]
   clear c d a;go_enter func200,ntmps200;go_wp2_with (first|(go_at_call 269;refine(i _).M ?_;rintro e w' ⟨rfl,rfl⟩))
   go_ret;exact⟨by rw[b.o];rfl,rfl⟩
  .have j:ltStr y x=true:=by
    cases h:ltStr y x with
    |true=>rfl
    |false=>exact absurd (rf x y a h) f
   have b:Hid (mN x y=1):=by show _=_;unfold mN;rw[κ (by simp[a]),μ j]
   have l:((δ x).toList==(δ y).toList)=false:=by rw[c,d];simpa using f
   clear c d a j f;go_enter func200,ntmps200;go_wp2_with (first|(go_at_call 269;refine(i _).M ?_;rintro e w' ⟨rfl,rfl⟩)|(go_at_call 269;refine(k _).M ?_;rintro e w' ⟨rfl,rfl⟩))
   go_ret;exact⟨by rw[b.o];rfl,rfl⟩
def IQ (x y):(mN x y==0)=decide (x=y):=by
 unfold mN;cases a:ltStr x y with
 |true =>
  have:x≠y:=by rintro rfl;rw[swo_ltStr.irrefl]at a;cases a
  simp[this]
 |false =>
  cases b:ltStr y x with
  |true =>
   have:x≠y:=by rintro rfl;rw[swo_ltStr.irrefl]at b;cases b
   simp[this]
  |false=>simp[rf x y a b]
def Af:ltOf mN=ltStr:=by
 funext x y;unfold ltOf mN;cases a:ltStr x y with
 |true=>simp
 |false=>cases b:ltStr y x<;>simp
def Fh (x y:γ) (bx) (a:β) (i:a.cell? ⟨bx,0,O⟩=J (.func (.func 200) #[] #[])) :
  Calls prog 267 #[Ϫ x,Ϫ y,þ (J ⟨bx,0,O⟩)] a fun e w'=>e=ŗ (.bool (decide (x=y)))/\BQ a w':=by
 have h:∀ b d,(callFunc 200 b).run prog d=.ok (.enter 200 b) d:=iW func200 ϋ rfl;have g:=CI x y a;have c:=IQ x y;generalize mN x y=r at *;unfold Ϫ at *;have f:=Zh c;clear c;go_enter func267,ntmps267;go_wp2_with (go_at_fn 200;refine g.M ?_;rintro e w' ⟨rfl,rfl⟩)
 go_ret;exact⟨jm f.o,ρ _ _⟩
def IX {α} [Inhabited α] [DecidableEq α] {e f:List α} {k} (h:Lib.CompInv e.toArray (L e) k f.toArray):Lib.compact e=f.take k:=by
 have d:L f=L e:=by simpa using h.size
 have c:=h.lt;unfold Lib.compact;apply List.ext_getElem?;intro a;by_cases b:a<k
 .rw[h.low a b,vS b]
  simp[show a<L f by omega]
 .rw[ls (by rw[h.len];omega),ls Ϝ]
def Re {P} {w:β} {ops rest o a} {Q:Exit->Act->β->Prop} (d:o.guard=O) (s t)
  (p:o.op=.call {callee:=.builtin .clear,args:= #[s],argTypes:= #[t]})
  (base) (e) (z:ε) (size) (x:P.underlying t=J (.slice e)) (y:∀ w,(zeroValue e).run P w=.ok z w)
  (A:z.cells.size=size) (b:∀ u∈z.cells.toList,u.oneCell'=true) (v:0<size)
  (g n cap) (B:List ε) (q:w.ownsRow base e size (D (J ⟨g,0,O⟩) n cap) n B) (k kc m c) (i:kc=k*size) (r:a.eval s=D (J ⟨g,kc,O⟩) m c) (f:n<=k) (j:k+m<=cap) (l:0<m)
  (h:∀ w',w'.ownsRow base e size (D (J ⟨g,0,O⟩) n cap) n B->w.grownBy w' (J g)->wpList P ops Q rest (a.put o.dst (.tuple #[])) w'):wpList P ops Q (o::rest) a w:=by
 subst i;exact Rf d s t p base e z size x y A b v g n cap B q k m c r f j l h
def vE {l:List (γ)} {k} (h:k<L l):(χ l)[k]?=J (Ϫ l[k]):=by simp[χ,h]
def Rm (w:β):(zeroValue 9).run prog w=.ok (š ByteArray.empty) w:=ϋ
theorem Rn:∀ u∈(Value.string ByteArray.empty).cells.toList,u.oneCell'=true:=by
 intro u a;simp[Value.cells]at a;subst a;rfl
def BB (b:Nat) (d:List (γ)) (w:β) (e:Ending) (c:β):Prop:=
 ∃ a,e=ŗ a/\c.ownsRow b 9 1 a (L (Lib.compact d)) (χ (Lib.compact d))/\Below b w c
def IY (z g t ď:Nat) (zs:List (γ)) (w:β) (ah:w.cell? ⟨z,0,O⟩=J (.func (.func 200) #[] #[])) (aA:z<ď)
  (E:w.ownsRow ď 9 1 (D (J ⟨g,0,O⟩) (L zs) t) (L zs) (χ zs)) :
  Calls prog 266 #[D (J ⟨g,0,O⟩) (L zs) t,.func (.func 267) #[] #[þ (J ⟨z,0,O⟩)]] w (BB ď zs w):=by
 obtain⟨aX,aB,ag,aR⟩:=oH E;unfold maxLen at aB;have aM:∀ ae w,(callFunc 267 ae).run prog w=.ok (.enter 267 ae) w:=iW func267 ϋ rfl;have an:(∀ f,f<L zs->Lib.keeps zs.toArray f=true)->Lib.compact zs=zs:=Lib.compact_all zs;have ac:=Zh an;clear an;by_cases aP:L zs<2
 .have q:=Zh E
  clear E;go_enter func266,ntmps266;go_wp2;go_ret;refine⟨_,rfl,?_,ρ _ _⟩;rw[ac.o (fun f V=>Lib.keeps_lt_one _ _ U)];exact q.o
 .have q:=Zh E
  clear E;go_enter func266,ntmps266;go_wp2;go_loopw [5] (fun s wr=>∃ a:Nat,1<=a/\a<=L zs/\s=G a/\Hid (∀ f,f<a->Lib.keeps zs.toArray f=true)/\BQ w wr) (fun s _=>L zs - (intOf s).toNat)
  .exact⟨1,NZ,U,rfl,Lib.keeps_lt_one _,ρ _ _⟩
  obtain⟨a,aT,aS,rfl,P,p⟩:=hrel;have u:=ζ p ah;by_cases aj:a<L zs
  .have ai:a - 1<L zs:=U
   have c1:=(ψ q.o p).cellAt a U;have c0:=(ψ q.o p).cellAt (a - 1) U;rw[vE aj]at c1;rw[vE ai]at c0;have N:Hid (zs.toArray[a]! =zs[a]/\zs.toArray[a - 1]! =zs[a - 1]):=⟨by simp[aj],by simp[ai]⟩;generalize zs[a]=x at *;generalize zs[a - 1]=y at *;have r:=fun d os=>Calls.regrown_of (Fh x y z (grow (redrawn wr d) os) (Ι u d os));have r1:=Ι c1;have r0:=Ι c0;have aY:(a:Int)<(L zs:Int):=U;have aZ:(0:Int)<=(a:Int) - 1:=U;have a0:(a:Int) - 1<(L zs:Int):=U;have a1:((a:Int) - 1).toNat=a - 1:=U;unfold Ϫ at *;clear c0 c1 u;by_cases e:x=y
   .subst e
    have h:decide (x=x)=true:=ύ;rw[h]at r;clear h;go_wp2_with fail
    refine fY ?_;repeat (go_big_quiet_step (first|(go_at_fn 267;with_reducible exact r _ _)))
    refine gc fun ay T=>?_;have M:=p.t T;clear r r0 r1;have a2:(0:Int)<=(a:Int):=U;have a3:(a:Int)<=(L zs:Int):=U;have Q:Hid (Lib.keeps zs.toArray a=false):=Lib.keeps_neg U (by rw[N.o.1,N.o.2]);go_wp2;go_loopw [5,7] (fun aJ Z ad=>∃ (c b:Nat) (dk:List (γ)),aJ=G c/\Z=G b/\1<=b/\a+b<=L zs/\Hid (Lib.CompInv zs.toArray (a+b) c dk.toArray)/\c<a+b/\Hid (L dk=L zs)/\ad.ownsRow ď 9 1 (D (J ⟨g,0,O⟩) (L zs) t) (L zs) (χ dk)/\Below ď w ad) (fun _ Z _=>L zs - (intOf Z).toNat)
    .exact⟨a,1,zs,rfl,rfl,NZ,U,Lib.CompInv.start P.o Q.o,U,rfl,ψ q.o M,M.M U⟩
    obtain⟨c,b,dk,rfl,rfl,aO,aV,v,aU,H,i,m⟩:=hrel;have u:=(m.cell aA).trans ah;by_cases aW:a+b<L zs
    .have aQ:=H.o
     have ap:a+b<L dk:=U;have ao:a+b - 1<L dk:=U;have c1:=i.cellAt (a+b) U;have c0:=i.cellAt (a+b - 1) U;rw[vE ap]at c1;rw[vE ao]at c0;have k:Hid (zs.toArray[a+b]! =dk[a+b]/\zs.toArray[a+b - 1]! =dk[a+b - 1]):=⟨by rw[<-v.o.high _ U];simp[ap],by rw[<-v.o.high _ U];simp[ao]⟩;have c0:wr.cell? ⟨g,a+(b - 1),O⟩=J (Ϫ dk[a+b - 1]):=by rw[show a+(b - 1)=a+b - 1 from U];exact c0
     have A:=i.cellAt c U;rw[vE (U:c<L dk)]at A;have af:=i.frozenAt c;generalize dk[c]=bb at *;obtain⟨j,al⟩:∃ aa,aa=dk[a+b]:=⟨_,rfl⟩;obtain⟨ab,am⟩:∃ aa,aa=dk[a+b - 1]:=⟨_,rfl⟩;rw[<-al]at c1 k;rw[<-am]at c0 k;have l:=fun d os=>Calls.regrown_of (Fh j ab z (grow (redrawn wr d) os) (Ι u d os));have r1:=Ι c1;have r0:=Ι c0;have aI:(b:Int)<((L zs - a:Nat):Int):=U;have a4:(0:Int)<=(b:Int) - 1:=U;have a5:(b:Int) - 1<((L zs - a:Nat):Int):=U;have a6:((b:Int) - 1).toNat=b - 1:=U;have I:=Zh i;unfold Ϫ at r0 r1 c1 A l;clear c0 u al am i;by_cases X:j=ab
     .subst X
      have h:decide (j=j)=true:=ύ;have av:=Zh (v.o.skip (Lib.keeps_neg U (by rw[k.o.1,k.o.2])));rw[h]at l;clear h A af;go_wp2_with fail
      refine fY ?_;repeat (go_big_quiet_step (first|(go_at_fn 267;with_reducible exact l _ _)))
      refine ru ?_;intro R Y;obtain⟨⟨S,osq⟩,F⟩:=Y;have n:BQ wr R:=by rw[F];exact oV wr S osq
      have B:=ψ I.o n;have K:=m.trans (n.M (gj U m.size));clear F l r0 r1 c1;go_wp2;go_roundw
      .exact⟨c,b+1,dk,rfl,ϕ,U,U,av.o,U,H.o,B,K⟩
      exact ω
     .have h:decide (j=ab)=false:=by simp[X]
      have ar:=Zh (v.o.keep ό (Lib.keeps_pos (by rw[k.o.1,k.o.2];exact X)));rw[h]at l;clear h;go_wp2_with fail
      refine fY ?_;repeat (go_big_quiet_step (first|(go_at_fn 267;with_reducible exact l _ _)))
      refine ru ?_;intro R Y;obtain⟨⟨S,osq⟩,F⟩:=Y;have n:BQ wr R:=by rw[F];exact oV wr S osq
      have B:=ψ I.o n;have K:=m.trans (n.M (gj U m.size));have aK:=ζ n c1;have aL:=ζ n A;have aN:=B.frozenAt c;have ak:=B.stored c (š (δ j));have⟨aw,b1⟩:=π ak K;clear F l r0 r1 c1 A af ak B K;go_wp2;go_roundw
      .refine⟨c+1,b+1,dk.set c j,ϕ,ϕ,U,U,?_,U,by show _=_;rw[List.length_set];exact H.o,?_,b1.o.S ag _⟩
       .have:=ar.o
        rw[k.o.1]at this;show Lib.CompInv _ _ _ _;rw[show a+(b+1)=a+b+1 from U];simpa using this
       .have:=aw.o.1
        rw[show(χ dk).set c (Value.string (δ j))=χ (dk.set c j)from by simp[χ,Ϫ]]at this;exact this
      exact ω
    .have aC:a+b=L zs:=U
     have aI:¬(b:Int)<((L zs - a:Nat):Int):=U;have a7:(0:Int)<=(c:Int):=U;have a8:(c:Int)<=(L zs:Int):=U;have a9:(c:Int)<=(t:Int):=U;have W:=Ap i (U:c<=L zs);rw[oR]at W;have aD:Hid (Lib.compact zs=dk.take c):=by
      have:=v.o;rw[aC]at this;exact IX this
     have aq:Hid (L (dk.take c)=c):=by show _=_;rw[gp];have:=H.o;omega
     have⟨ax,b1⟩:=π W m;have aE:=(oH i).2.2.2;clear W m u i;go_wp2_with (refine Re (o:=⟨O,_,_,_,_,_⟩) (by rfl) (.tmp 61) 143 (by rfl) ď 9 (š ByteArray.empty) 1 ju Rm rfl Rn U g c t _ ax.o c c (L zs - c) (t - c) U (by rfl) NZ U U ?_;intro bc aH aF;have az:=b1.o.grown aF (gj ag (mC aE)) (by intro f V;simp only[Φ]at V;omega))
     go_ret;refine⟨_,rfl,?_,az⟩;rw[aD.o,aq.o,show χ (dk.take c)=(χ dk).take c from by simp[χ,List.map_take]];exact aH
   .have h:decide (x=y)=false:=by simp[e]
    have Q:Hid (∀ f,f<a+1->Lib.keeps zs.toArray f=true):=fun f V=>by
     by_cases b0:f=a
     .subst b0;exact Lib.keeps_pos (by rw[N.o.1,N.o.2];exact e)
     .exact P.o f U
    rw[h]at r;clear h;go_wp2_with fail
    refine fY ?_;repeat (go_big_quiet_step (first|(go_at_fn 267;with_reducible exact r _ _)))
    refine gc fun ay T=>?_;have M:=p.t T;clear r r0 r1;go_wp2;go_roundw
    .exact⟨a+1,U,U,ϕ,Q.o,M⟩
    exact ω
  .have aG:a=L zs:=U
   subst aG;have ba:¬(L zs:Int)<(L zs:Int):=U;have⟨I,au⟩:=π (ψ q.o p) (ac.o P.o);go_wp2;go_ret;refine⟨_,rfl,?_,p.M U⟩;rw[au.o];exact I.o
def Hx (d:Nat) (a:TypeId) (c n:Nat) (v:ε) (b:List ε) (w:β) (e:Ending) (f:β):Prop:=
 e=ŗ (.tuple #[])/\f.ownsRow d a c v n b/\Below d w f
def PY (g cap n base) (l:List (γ)) (w:β) (c:L l=n) (E:n<=100000) (a:w.ownsRow base 9 1 (D (J ⟨g,0,O⟩) n cap) n (χ l)) :
  Calls prog 265 #[D (J ⟨g,0,O⟩) n cap,.func (.func 200) #[] #[]] w (Hx base 9 1 n (D (J ⟨g,0,O⟩) n cap) (χ (l.mergeSort fun x y=>!ltStr y x)) w):=by
 obtain⟨F,A,p,s⟩:=oH a;rcases nK n with h0|h0
 .subst h0
  have u:=lJ.1 c;subst u;refine(Tryz.slices_SortFunc_none (α:=Nat) _ cap _ w).M ?_;rintro e j ⟨rfl,rfl⟩;exact⟨rfl,by simpa using a,ρ _ _⟩
 .have k:∀ f w,(callFunc 200 f).run prog w=.ok (.enter 200 f) w:=iW func200 ϋ rfl
  have r:CmpLays1 prog 200 #[] encStr mN g 0 l.toArray.size w:=fun H os dk B x y=>(CI x y _).M fun e j ⟨m,o⟩=>⟨m,0,_,by rw[grow_empty];exact o.symm⟩;have b:Holds encStr w g 0 l.toArray:=by
   obtain⟨z,v,h,_,_,_,_,_,b⟩:=yx (enc:=encStr)  a (by intro e;cases e);simp only[Χ,Φ,Addr.mk.injEq,it,ϵ]at h;rw[h.1];exact b
  have d:=Tryz.slices_SortFunc_total encStr (fun _=>rfl) mN (by rw[Af];exact swo_ltStr) 200 _ g 0 cap _ w k r b s ό (by rw[Af];exact rf);rw[Af]at d;simp only[qk,c]at d;refine d.M ?_;rintro e j ⟨rfl,i,os,rfl⟩;have t:L (l.mergeSort fun x y=>!ltStr y x)=n:=by rw[ub];exact c
  have o1:=yy (q:=i)    (enc:=encStr) a t NZ;rw[gF U]at o1;have b1:Below base w (putRow encStr (Sort.ahead w i) g 0 (l.mergeSort fun x y=>!ltStr y x).toArray):=Lib.below_putRow RZ p;exact⟨rfl,ψ o1 (wC RZ NZ os),wC b1 (gj U b1.size) os⟩
def Es {w:β} {base e size} {v:ε} {n} {f:List ε} (h:w.ownsRow base e size v n f) (c:v≠D O 0 0):∃ g a,v=D (J ⟨g,0,O⟩) n a:=by
 rcases h.2 with ⟨b,_⟩|⟨g,a,cur,d,_⟩
 .exact absurd b c
 .exact⟨g,a,d⟩
def Ja (bx g cap base n) (e:List (γ)) (w:β) (c:L e=n) (b:w.cell? ⟨bx,0,O⟩=J (.func (.func 200) #[] #[])) (a:bx<base)
  (d:w.ownsRow base 9 1 (D (J ⟨g,0,O⟩) n cap) n (χ e)) :
  Calls prog 266 #[D (J ⟨g,0,O⟩) n cap,.func (.func 267) #[] #[þ (J ⟨bx,0,O⟩)]] w (BB base e w):=by
 subst c;exact IY bx g cap base e w b a d
def Jb (ao c) (a:ε) (w:β) :
  Calls prog 266 #[D ao 0 c,a] w fun e w'=>e=ŗ (D ao 0 c)/\w=w':=by
 go_enter func266,ntmps266;go_wp2;exact gH
def Oz (v:ε) (n base) (l:List (γ)) (w:β) (m:L l=n) (ah:n<=100000) (p:w.ownsRow base 9 1 v n (χ l)) :
  Calls prog 198 #[v,.func (.func 200) #[] #[]] w (iJ w 9 1 (L (pt ltStr l)) (χ (pt ltStr l))):=by
 obtain⟨ap,ad,am,an,ao⟩:=Ϩ pU;have d:BQ w (å w (C #[.func (.func 200) #[] #[]] 305)):=ġ;have z:(å w (C #[.func (.func 200) #[] #[]] 305)).cell? ⟨w.heap.size,0,O⟩=J (.func (.func 200) #[] #[]):=by
  rw[ξ _ _ _ _ _ _ (φ w _)];rfl
 have ak:(å w (C #[.func (.func 200) #[] #[]] 305)).heap.size=w.heap.size+1:=ύ;by_cases F:v=D O 0 0
 .subst F
  have af:l=[]:=by
   rcases p.2 with ⟨_,a1⟩|⟨g,c,cur,al,_⟩
   .exact lJ.1 (m.trans a1)
   .cases al
  subst af;have aj:Hid (pt ltStr []=[]):=List.eq_nil_iff_forall_not_mem.2 fun x H=>by rw[Ed]at H;cases H
  have V:=Zh (fun a=>Tryz.slices_Clone_nil 0 0 a);have W:=Zh (fun k a=>Tryz.slices_SortFunc_none (α:=Nat) O 0 k a);have X:=Zh (fun k a=>Jb O 0 k a);have j:=Zh d;go_enter func198,ntmps198;go_wp2_with (first
   |(go_at_call 264;refine(V.o _).M ?_;rintro e i ⟨rfl,rfl⟩)
   |(go_at_call 265;refine(W.o _ _).M ?_;rintro e i ⟨rfl,rfl⟩)
   |(go_at_call 266;refine(X.o _ _).M ?_;rintro e i ⟨rfl,rfl⟩))
  go_ret;rw[aj.o];exact⟨_,rfl,gQ _ _ _ _,j.o⟩
 .obtain⟨s,c0,rfl⟩:=Es p F
  have f:=ψ (gX p (Ζ _)) (d.M NZ);obtain⟨b,M⟩:∃ b,b=(å w (C #[.func (.func 200) #[] #[]] 305)):=⟨_,rfl⟩;rw[<-M]at d z ak f;have ac:=Tryz.slices_Clone ap _ 1 _ ad am an ao rfl U sizeOf9 s 0 n c0 _ b f.1 ώ U (fun I au E=>by
   have ae:I<n*1:=by rw[<-f.1];exact(lK.1 E).1
   rw[iI,f.cellAt I ae,E]) (tE l)
  have Q:Hid (pt ltStr l=Lib.compact (l.mergeSort fun x y=>!ltStr y x)):=rfl;have ag:L (l.mergeSort fun x y=>!ltStr y x)=n:=by rw[ub];exact m
  have S:=Zh (fun(g c) a h=>PY g c n b.heap.size l a m ah h);generalize(l.mergeSort _)=ar at *;have P:=Zh (fun(g c) a Z h=>Ja w.heap.size g c b.heap.size n ar a ag Z U h);have o:w.heap.size<b.heap.size:=U;have⟨j,T⟩:=π d z;have N:Hid (Calls prog 264 #[D (J ⟨s,0,O⟩) n c0] (å w (C #[.func (.func 200) #[] #[]] 305)) fun e K=>∃ r,e=ŗ r/\K.ownsRow b.heap.size 9 1 r n (χ l)/\r≠D O 0 0/\BQ b K):=by
   show Calls _ _ _ _ _;rw[<-M];exact ac
  go_enter func198,ntmps198;go_wp2_with (first
   |(go_at_call 264;refine N.o.M ?_;rintro e i ⟨av,rfl,q,A,t⟩;obtain⟨g,c,rfl⟩:=Es q A;have ab:=ζ t T.o;have R:=Zh (S.o g c i q);clear q A)
   |(go_at_call 265;refine R.o.M ?_;rintro e aq ⟨rfl,B,u⟩;have a0:=Zh (P.o g c aq ((u.cell o).trans ab) B);clear B)
   |(go_at_call 266;refine a0.o.M ?_;rintro e ax ⟨aw,rfl,ai,aa⟩))
  go_ret;rw[Q.o];have Y:=(t.trans u).trans aa;exact⟨_,rfl,gX ai (mC o),j.o.trans (Y.M (mC o))⟩
def Bb (l:γ) (a:L l<=100000):L (Θ l)<=100000:=ι (tN l)
def Qv (v:ε) (l:γ) (w:β) (m:ϭ w) (h:Rd w v (L l) 1 (η l)) (b:L l<=100000) :
  Calls prog 121 #[v] w (iJ w 9 1 (L (fW (Θ l))) (χ (fW (Θ l)))):=by
 have g:=Ba v l w m h b;have j:=Bb l b;generalize Θ l=n at *;have f:=Zh g;go_enter func121,ntmps121;go_wp2_with (first
  |(go_at_call 199;refine f.o.M ?_;rintro e p ⟨o,rfl,c,a⟩;have d:=Zh (Oz o _ _ n p rfl j c);clear c)
  |(go_at_call 198;refine d.o.M ?_;rintro e r ⟨q,rfl,k,i⟩))
 go_ret;exact⟨_,rfl,gX k a.size,a.t i⟩
section
open Go.RowKit Go.Sort Go.Maps
def xj:Keyed prog 9:=string_keyed kH
def GR (w:β):(zeroValue 23).run prog w=.ok (.slice O 0 0) w:=ϋ
def Hk (d:List (γ)) (f t:Nat) (w:β) (e:Ending) (g:β):Prop:= ∃ a,e=ŗ (.tuple #[a,G 0])/\(∀ c:β,(∀ b,w.heap.size<=b->b<g.heap.size->c.heap[b]?=g.heap[b]?)->fN c a (L (iw d f (t - f))) (iw d f (t - f)))/\Below w.heap.size w g
def jU {w w':β} {base e size} {v:ε} {n} {k:List ε} (h:w.ownsRow base e size v n k) (c:∀ g,v.ownBlock=J g->w'.heap[g]?=w.heap[g]?):w'.ownsRow base e size v n k:=by
 obtain⟨i,f⟩:=h;refine⟨i,?_⟩;rcases f with h|⟨g,b,cur,a,d,hg,j⟩
 .exact .inl h
 .exact .inr ⟨g,b,cur,a,d,by rw[c g (by rw[a];rfl)];exact hg,j⟩
def DX:∀ {a b:List Int},(Go.ChangeShapes.lits .i64 a:List (DataW Unit))=Go.ChangeShapes.lits .i64 b->a=b
 |[],[],_=>rfl
 |[],b::r,h=>by simp[Go.ChangeShapes.lits]at h
 |a::r,[],h=>by simp[Go.ChangeShapes.lits]at h
 |a::r,b::s,h=>by
  simp only[Go.ChangeShapes.lits,ij,List.cons.injEq,DataW.lit.injEq,Lit.int.injEq,ϵ]at h;rw[h.1,DX h.2]
def Fl {w:β} {base e} {v:ε} {zs l} (b:w.ownsInts base e .i64 v zs) (h:xl l=rowDatum .i64 v zs):zs=l:=by
 unfold xl at h;rcases b.datum (H:=Unit)with ⟨h1,rfl⟩|h1
 .rw[h1]at h
  split at h
  .rename_i a;exact a.symm
  .cases h
 .rw[h1]at h
  split at h
  .cases h
  .simp only[DataW.slice.injEq,it]at h
   exact(DX h).symm
def zX:(prog.info? 130).map (fun i=>(i.zero,i.size,i.bytes))=J (J (.agg #[.string ByteArray.empty,.slice O 0 0]),2,40):=ϋ
structure sC (base:Nat) (ws wq:β) (k:Nat) (dv:ε) (F:γ->List Int) (ts:List (γ)) (cells:List ε):Prop where
 own:wq.ownsRow ws.heap.size 130 2 dv k cells
 o:∀ i (hi:i<L ts),i<k->cells[i*2]?=J (Ϫ ts[i])/\∃ xv,cells[i*2+1]?=J xv/\wq.ownsRow base 3 1 xv (L (F ts[i])) (τ (F ts[i]))/\∀ g,xv.ownBlock=J g->g<ws.heap.size
 bel:BQ ws wq
def sC.step {base k m} {M d u b:β} {f t a:ε} {F ts cells s ds}
  (h:sC base M d k f F ts cells) (hk) (r:ts[k]=s) (z:ds=F s) (E:L ds=m) (A:d.ownsRow base 3 1 a m (τ ds)) (o:∀ g,a.ownBlock=J g->g<M.heap.size)
  (j:BQ d u) (y:b.ownsRow M.heap.size 130 2 t (k+1) (cells++[Ϫ s,a])) (B:u.grownBy b f.ownBlock):sC base M b (k+1) t F ts (cells++[Ϫ s,a]):=by
 have n:L cells=k*2:=h.own.1;have l:BQ M b:=(h.bel.t j).grown B (gw h.bel.size j.size) (fun q K=>(h.own.lt q K).1);have p:∀ g,g<M.heap.size->b.heap[g]?=d.heap[g]?:=fun g hg=>by rw[l.block g hg,h.bel.block g hg]
 refine⟨y,fun c hi I=>?_,l⟩;by_cases e:c=k
 .subst e
  refine⟨?_,a,?_,?_,o⟩
  .rw[hL U,n,kj,r];rfl
  .rw[hL U,n,show c*2+1 - c*2=1 from U];rfl
  .rw[r,<-z,E]
   exact jU A fun g hg=>p g (o g hg)
 .obtain⟨v,H,w,x,i⟩:=h.o c hi U
  refine⟨?_,H,?_,jU x fun g hg=>p g (i g hg),i⟩
  .rw[je U];exact v
  .rw[je U];exact w
def sC.later {base lo} {q c e:β} {k dv F ts cells} (h:sC base q c k dv F ts cells) (j:L ts=k) (o:lo<=base) (p:lo<=q.heap.size)
  (d:∀ b,lo<=b->b<c.heap.size->e.heap[b]?=c.heap[b]?):fN e dv (L (ts.map fun t=>(t,F t))) (ts.map fun t=>(t,F t)):=by
 refine⟨rfl,cells,?_,fun l hi=>?_⟩
 .rw[hU,j]
  exact Rd.of_own (jU h.own fun g hg=>d g (ι (h.own.lt g hg).1) (h.own.lt g hg).2)
 .rw[hU]at hi
  obtain⟨f,m,i,a,n⟩:=h.o l hi U;simp only[vV];exact⟨f,m,i,Rd.of_own (jU a fun g hg=>d g (ι (a.lt g hg).1) (a.lt g hg).2)⟩
def LM (ah:ε) (ď:List (γ)) (f t:Nat) (w:β) (bf:ϭ w) (a6:Ε w ah ď) (bE:L ď<=1000) (S:∀ d∈ď,L d<=2000) (cu:f<=t) (cv:t<=L ď) :
  Calls prog 64 #[ah,.agg #[G f,G t]] w (Hk ď f t w):=by
 obtain⟨cl,hi,ch,ci,cj⟩:=Ϩ oB;have cz:= @run_makeMap prog;have bv:=Zh bf;obtain⟨ct,c0,rfl,cy,a4⟩:=mr a6;have⟨aR,aa⟩:=π a4 S;have cL:¬(1000:Int)<(L ď:Int):=U;have cM:¬(f:Int)<0:=U;have n3:¬(t:Int)<(f:Int):=U;have cN:¬(L ď:Int)<(t:Int):=U;have T:BQ w (å w (C #[G f,G t] 89)):=ġ;have aH:=φ w (C #[G f,G t] 89);clear a4 a6 S bf;go_enter func64,ntmps64;go_wp2;generalize bH:(å w (C #[G f,G t] 89))=j at *;have bM:j.cell? ⟨w.heap.size,0,O⟩=J (G f):=by rw[ξ _ _ _ _ _ _ aH];rfl
 have a3:j.cell? ⟨w.heap.size,1,O⟩=J (G t):=by rw[ξ _ _ _ _ _ _ aH];rfl
 clear bH aH;go_loopw [39] (fun k wr=>∃ a:Nat,a<=L ď/\k=G a/\wr=j) (fun k _=>L ď - (intOf k).toNat)
 .exact⟨0,Ζ _,rfl,rfl⟩
 obtain⟨a,a9,rfl,rfl⟩:=hrel;by_cases K:a<L ď
 .obtain⟨c3,off,da,dc,rfl,c1,-⟩:=aR.o a K
  have c2:=ζ T c1;have bg:(a:Int)<(L ď:Int):=U;have bO:=aa.o _ (Ψ K);have cK:¬(2000:Int)<(L (ď[a]):Int):=U;generalize (L ď[a])=bC at *;clear c1;go_wp2;go_roundw
  .exact⟨a+1,U,ϕ,by first|rfl|trivial⟩
  exact ω
 .have bg:¬(a:Int)<(L ď:Int):=U
  have aC:BQ wr (å wr (.map #[] 0)):=ġ;have bN:=ζ aC bM;have a7:=ζ aC a3;have bZ:=World.ownsGroups_made (H:=Unit) wr prog 9 3 .i64;have cc:wr.heap.size+1<=(å wr (.map #[] 0)).heap.size:=ύ;have bp:=Zh (lu.start.congr fun B=>(show([]:List Int)=gb ď B f 0 from rfl));clear K a9;go_wp2
  rename β=>j
  generalize bI:å j (.map #[] 0)=cs at *;clear bI bN a7;go_loopw [9] (fun k r=>∃ (a:Nat) (l:DataW Unit) (m:Nat),a<=t - f/\k=G ((f+a:Nat):Int)/\r.ownsGroups prog 9 (j.heap.size+1) 3 .i64 j.heap.size m l/\Hid (lu l (fun B=>gb ď B f a))/\m<=a*2001/\BQ j r/\j.heap.size+1<=r.heap.size) (fun k _=>t - (intOf k).toNat)
  .exact⟨0,_,0,Ζ _,rfl,bZ,bp.o,U,aC,cc⟩
  obtain⟨a,l,m,a9,rfl,q,ac,bW,A,N⟩:=hrel;have a7:=ζ A a3;by_cases K:f+a<t
  .have an:f+a<L ď:=U
   obtain⟨c3,off,da,dc,rfl,c1,be⟩:=aR.o (f+a) an;have aD:BQ w wr:=T.t A;have c2:=ζ aD c1;have cJ:(0:Int)<=((f+a:Nat):Int):=U;have bt:=Zh (Qv (.slice da (L ď[f+a]) dc) ď[f+a] wr (bv.o.B aD) (be.B aD) (ι (aa.o _ (Ψ an))));have bO:=aa.o _ (Ψ an);have av:Hid (ď.getD (f+a) []=ď[f+a]):=by show _=_;rw[fX,Ρ an];rfl
   have cG:=tN ď[f+a];generalize (L ď[f+a])=bC at *;have ca:=qY (Θ ď[f+a]);have Q:Hid (lu l (oa ď f a 0)):=ac.o.congr fun B=>(LW ď f a B).symm;clear ac c1 be;go_wp2_with (go_at_call 121;refine bt.o.M ?_;rintro e aq ⟨cP,rfl,o3,b3⟩;obtain⟨ax,ag,rfl⟩:=Η o3)
   have am:wr.grownBy aq O:=⟨b3.1,b3.2,b3.3,b3.size,fun k hi _=>b3.block k hi⟩;have b0:=q.kept am ύ (q.rowsAbove (fun i I=>by cases I));have bX:BQ j aq:=A.t b3;have ce:j.heap.size+1<=aq.heap.size:=gj N b3.size;have ae:=Zh o3;obtain⟨o,aM⟩:∃ z,z=L (fW (Θ ď[f+a])):=⟨_,rfl⟩;rw[<-aM]at ae ca ⊢;have bd:=q;have cf:=N;clear q N o3 am;have b6:aq.Shuns j.heap.size (fun g=>(Value.slice ax o ag).ownBlock=J g):=by
    refine World.Shuns.kept (w:=wr) ?_ ⟨b3.1,b3.2,b3.3,b3.size,fun k hi _=>b3.block k hi⟩ (om (nJ _) cf) (row:=O) ύ;exact World.Shuns.reno (No:=fun _=>False) (fun _ _ _ _ _ _ _ h=>h) bd (fun g hg=>.inr (ae.o.lt g hg).1)
   clear bd;obtain⟨ar,aW⟩:∃ bk,bk=wr.heap.size:=⟨_,rfl⟩;rw[<-aW]at ae;have cI:j.heap.size+1<=ar:=U;have aw:=Zh aM;clear aM aW;go_loopw [62] (fun k r=>∃ (i:Nat) (l:DataW Unit) (m:Nat),i<=o/\k=G i/\r.ownsGroups prog 9 (j.heap.size+1) 3 .i64 j.heap.size m l/\Hid (lu l (oa ď f a i))/\m<=a*2001+i/\BQ j r/\j.heap.size+1<=r.heap.size/\Hid (r.ownsRow ar 9 1 (.slice ax o ag) o (χ (fW (Θ ď[f+a]))))/\r.Shuns j.heap.size (fun g=>(Value.slice ax o ag).ownBlock=J g)) (fun k _=>o - (intOf k).toNat)
   .exact⟨0,l,m,Ζ _,rfl,b0,Q.o,U,bX,ce,ae.o,b6⟩
   obtain⟨i,l,m,I,rfl,q,Q,bW,A,N,ad,aL⟩:=hrel;by_cases aG:i<o
   .have F:i<L (fW (Θ ď[f+a])):=by rw[<-aw.o];exact aG
    have aU:=Zh (LV ď f a i (fW (Θ ď[f+a]))[i] (by rw[av.o];exact F) (by simp only[av.o]));have aK:L ((fW (Θ ď[f+a]))[i])<=64:=xX _ _ (nZ.1 (Ψ F));obtain⟨bz,bB,Y,-,au⟩:=tL (n:=o) (ι aw.o) (Rd.of_own ad.o);simp only[Χ,ϵ]at Y;obtain⟨rfl,rfl⟩:=Y;obtain⟨bh,so,rfl,c⟩:=au.o i F;have bV:=Ψ F;obtain⟨s,p⟩:∃ s,s=(fW (Θ ď[f+a]))[i]:=⟨_,rfl⟩;rw[<-p]at aU aK c bV;change _=J (Value.string (δ s))at c;have ao:keyOf prog 9 (.string (δ s))=J (.string s):=by
     have:=Go.WideMaps.keyOf_string_mk (P:=prog) kH (s:=δ s) (by rw[iG];unfold maxLen;omega);rw[this];simp[δ]
    have aO:(i:Int)<(o:Int):=U;have cn:(0:Int)<=(i:Int):=U;have cB:m<=1000*2001+100000:=U;clear p;go_wp2_with (first
     |(at_lookup;refine wpList_lookup_groups_shuns _ rfl _ _ 219 rfl 9 23 3 .i64 xj underlying219 (GR _) (j.heap.size+1) j.heap.size m _ rfl q ώ _ _ rfl ao ?_;intro aP Z aB u ck a2 ap)
     |(at_builtin;refine wpList_append_own_at _ rfl _ _ 23 rfl (j.heap.size+1) 3 cl (G 0) 1 8 gl hi ch ci cj rfl ϐ _ _ _ rfl (u.1.A _) ⟨wr.heap.size,0,O⟩ 1 1 [G ((f+a:Nat):Int)] rfl rfl (cell_one_new _ _ _) (ints_oneCell .i64 [((f+a:Nat):Int)]) ώ U ό ?_;intro aQ cq bc a8 cA bb)
     |(at_mapUpdate;refine wpList_mapUpdate_back_shuns _ rfl _ _ _ 219 rfl xj underlying219 ao q ώ u aL (by intro g hg aZ;rcases bb with h|h;(exact ap _ aL g (h.symm.trans hg) aZ);(have bF:=h.symm.trans hg;have cw:=(ad.o.lt _ aZ).2;simp only[Φ,mh]at bF;omega)) a2 rfl rfl rfl ((World.grownBy_alloc _ _ _).trans a8) (u.appended bc (WalkArith.wf_i64 U)) ό (bb.imp id (fun h=>⟨_,h,ύ⟩)) ?_;intro cr b1 aF b7))
    have aN:=Fl u (((Q.o.2 s).1.symm).trans aB);have bY:=u.appended bc (WalkArith.wf_i64 U);have al:wr.grownBy cq aP.ownBlock:=(World.grownBy_alloc wr _ _).trans a8;have bq:Hid (lu (l.put (.string s) (rowDatum .i64 aQ (Z++[((f+a:Nat):Int)]))) (oa ď f a (i+1))):=by
     show lu _ _;rw[bY.datum_pos ύ,aN];exact(Q.o.put s _).congr aU.o.2
    have bG:Hid (cr.ownsRow ar 9 1 (.slice (J ⟨bh,so,O⟩) o ag) o (χ (fW (Θ ď[f+a])))):=by
     show World.ownsRow _ _ _ _ _ _ _;refine jU ad.o fun g hg=>?_;have K:=ad.o.lt g hg;rw[aF.block g (ι al.size) (by intro e;simp only[Φ]at e;omega)];exact al.block g K.2 (fun e=>ap _ aL g e.symm hg)
    go_roundw
    .refine⟨i+1,l.put (.string s) (rowDatum .i64 aQ (Z++[((f+a:Nat):Int)])),m+1,U,ϕ,b1,bq,U,A.groups u al aF A.size (Nat.le_succ _) NZ,gj N (gj al.size aF.size),bG.o,b7⟩
    exact ω
   .have V:i=o:=U
    have aO:¬(i:Int)<(o:Int):=U;have br:Hid (lu l (fun B=>gb ď B f (a+1))):=by
     show lu _ _;exact Q.o.congr (LU ď f a i (by rw[av.o,V,aw.o];exact NZ))
    clear V;go_wp2;go_roundw
    .exact⟨a+1,l,m,U,ϕ,q,br,U,A,N⟩
    exact ω
  .have ba:a=t - f:=U
   have bo:=Zh ba;have bg:¬((f+a:Nat):Int)<(t:Int):=U;have W:Hid (wr.ownsMap prog 9 (rowElem (H:=Unit) wr (j.heap.size+1) 3 .i64) j.heap.size m l):=by
    obtain⟨ai,bA,bJ,bl,p,aj,-⟩:=q;exact⟨ai,bA,bJ,bl,p,aj⟩
   have cb:=W.o.size_le;have aY:Hid (∀ v:List (γ),v.Perm (strKeys l)->v.mergeSort (fun x y=>decide (x<=y))=fW (gI ď f a)):=by
    intro v aJ;obtain⟨ai,aj,b5,-⟩:=W.o.entries xj;obtain⟨bD,aX,bU⟩:=W.o.keysOf;refine Ll ac.o ⟨ai,aj,b5,fun co aJ=>?_⟩ (fun t=>Ai) aJ;obtain rfl:ai=bD:=by rw[aj]at aX;simpa using aX
    obtain⟨aP,cd⟩:=bU co aJ;obtain⟨x,_,cg,_⟩:=Maps.keyOf_str kH cd;exact⟨x,cg⟩
   have cC:m<=2001000:=U;have⟨aS,aT⟩:=π (callsIn_wide.1 (Tryz.maps_Keys_M (J j.heap.size) wr)) (callsIn_wide.1 (Tryz.slices_Sorted_keys_M j.heap.size m l _ wr W.o ώ U));clear ba K cb;go_wp2_with (first
    |(go_at_call 123;refine aS.o.M ?_;rintro e cp ⟨rfl,rfl⟩)
    |(go_at_call 122;refine aT.o.M ?_;rintro e ws ⟨cO,v,rfl,a0,X,-,bL⟩;obtain⟨sa,sc,rfl⟩:=Η X))
   have bK:BQ wr (å wr (C #[.map (J j.heap.size)] 219)):=ġ;have b:BQ wr ws:=bK.t bL;have az:=aY.o v a0;have aA:L v=L (fW (gI ď f a)):=by rw[<-az,ub]
   have af:=Zh aA;rw[az]at X;have am:wr.grownBy ws O:=⟨b.1,b.2,b.3,b.size,fun k hi _=>b.block k hi⟩;have aI:=q.kept am ύ (q.rowsAbove (fun i I=>by cases I));have b8:ws.Shuns j.heap.size (fun g=>ws.heap.size<=g):=World.Shuns.reno (No:=fun _=>False) (fun _ _ _ _ _ _ _ h=>h) aI (fun g hg=>.inr hg);have cD:=b.size;obtain⟨R,ak⟩:∃ z,z=fW (gI ď f a):=⟨_,rfl⟩;rw[<-ak]at X af;have bs:Hid (ws.ownsRow (å wr (C #[.map (J j.heap.size)] 219)).heap.size 9 1 (.slice sa (L v) sc) (L v) (χ R)):=X;have bw:=Zh ak;have a1:∀ s∈R,L s<=64:=fun s p=>by
    rw[ak,nZ]at p;unfold gI at p;obtain⟨k,-,hi⟩:=List.mem_flatMap.1 p;exact xX _ _ (nZ.1 hi)
   have cx:L v<=2001000:=by
    rw[aA];have bE:=qY (gI ď f a);have S:L (gI ď f a)<=a*2000:=uz ď 2000 aa.o a f;omega
   generalize (L v)=M at *;have bx:=Zh a1;obtain⟨cm,bQ,bR,bS,bT⟩:=Ϩ zX;clear az aA X ak a1 a0 aY W aS aT;go_loopw [12,79] (fun ah k r=>∃ (i:Nat) (ay:List ε),i<=M/\k=G i/\Hid (sC (j.heap.size+1) ws r i ah (fun B=>gb ď B f a) R ay)) (fun _ k _=>M - (intOf k).toNat)
   .exact⟨0,[],Ζ _,rfl,⟨⟨rfl,.inl ⟨rfl,rfl⟩⟩,fun k hi h=>U,ρ _ _⟩⟩
   obtain⟨i,ay,I,rfl,ab⟩:=hrel;have E:=ab.o.bel;by_cases aG:i<M
   .have F:i<L R:=by rw[<-af.o];exact aG
    obtain⟨bz,bB,Y,-,au⟩:=tL (n:=M) af.o.symm (Rd.of_own bs.o);simp only[Χ,ϵ]at Y;obtain⟨rfl,rfl⟩:=Y;obtain⟨bh,so,rfl,c⟩:=au.o i F;have a5:=ζ E c;have aK:=bx.o _ (Ψ F);obtain⟨s,p⟩:∃ s,s=R[i]:=⟨_,rfl⟩;rw[<-p]at a5 aK;have bu:=Zh p.symm;change _=J (Value.string (δ s))at a5;have ao:keyOf prog 9 (.string (δ s))=J (.string s):=by
     have:=Go.WideMaps.keyOf_string_mk (P:=prog) kH (s:=δ s) (by rw[iG];unfold maxLen;omega);rw[this];simp[δ]
    have aO:(i:Int)<(M:Int):=U;have cn:(0:Int)<=(i:Int):=U;have aE:ws.grownBy wr O:=⟨E.1,E.2,E.3,E.size,fun k hi _=>E.block k hi⟩;have b4:=aI.kept aE ύ (aI.rowsAbove (fun i I=>by cases I));have b9:=b8.kept aE U ύ;have cE:=E.size;clear p c aE;go_wp2_with (first
     |(at_lookup;refine wpList_lookup_groups_shuns _ rfl _ _ 219 rfl 9 23 3 .i64 xj underlying219 (GR _) (j.heap.size+1) j.heap.size m _ rfl b4 ώ _ _ rfl ao ?_;intro aP Z aB u ck a2 ap;obtain⟨bi,bj,rfl⟩:=Η u.1)
     |(at_builtin;refine ϻ rfl _ _ _ _ rfl ws.heap.size 130 cm _ 2 40 rr bQ bR bS bT rfl _ i _ rfl (ψ ab.o.own (ġ)) _ 1 [.string (δ s),.slice bi (L Z) bj] rfl (gh rr wr _ 2 1 1 rfl Ϛ) ώ U ό ?_;intro aQ cQ b2 bP cH _))
    have aN:=Fl u (((ac.o.2 s).1.symm).trans aB);go_roundw
    .exact⟨i+1,ay++[Ϫ s,.slice bi (L Z) bj],U,ϕ,ab.o.step F bu.o aN rfl u.1 (fun g hg=>ι (ap _ b9 g hg)) (ġ) b2 bP⟩
    exact ω
   .have V:i=M:=U
    have aO:¬(i:Int)<(M:Int):=U;have aV:=(T.t A).trans ((b.t E).M (T.t A).size);have cF:=T.size;have⟨bm,bn⟩:=π aV V;clear aV V;go_wp2;go_ret2;refine⟨_,rfl,fun cp S=>?_,bm.o⟩;have:=ab.o.later (lo:=w.heap.size) (by rw[bn.o,af.o]) U U S;rw[bw.o,bo.o]at this;exact this
end
