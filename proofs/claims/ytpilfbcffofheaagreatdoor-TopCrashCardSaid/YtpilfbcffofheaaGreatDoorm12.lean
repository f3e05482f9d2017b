/- Part 12 of the proof. -/
import Derived.Test.YtpilfbcffofheaaGreatDoorm11
import Derived.Test.YtpilfbcffofheaaGreatDoormS
set_option linter.unusedVariables false
set_option linter.unusedSimpArgs false
set_option maxRecDepth 100000
set_option maxHeartbeats 8000000
namespace Go.Proofs.YtpilfbcffofheaaGreatDoor
open Go.Proofs.Tryz Go.RowKit Go.Sort
open List renaming length->L
open Value renaming slice->D,string->š,pointer->þ,agg->ā,int->ĭ
open Obj renaming cells->C
open Option renaming none->O,some->J
open World renaming alloc->å,setCell->ŝ
open Ending renaming returned->ŗ
def iy (l:List jc):List (γ):=(l.filter fun s=>s.1==0).map (·.2)
theorem zI (l:List jc):L (iy l)<=L l:=by
 unfold iy;rw[io];exact List.length_filter_le _ _
theorem NS (l:List jc) (s:jc):iy (l++[s])=if s.1=0 then iy l++[s.2]else iy l:=by
 unfold iy;by_cases h:s.1=0
 .simp[h]
 .simp[h]
theorem DY (ws:List (γ)):gd ws=Lib.compact (ws.mergeSort fun x y=>decide (x<=y)):=by
 have h:(fun x y:γ=>decide (x<=y))=fun x y=>!ltStr y x:=by
  funext x y;simp only[ltStr,<-decide_not,List.not_lt]
 unfold gd oa;rw[h]
theorem Hb (zs:List (γ)) (h:0<L zs):0<L (Lib.compact zs):=by
 unfold Lib.compact Lib.compactUpTo;rw[io];exact List.length_pos_of_mem (sF.2 ⟨pO.2 h,Lib.keeps_lt_one _ 0 ϐ⟩)
theorem AF {a:Nat} {b w:β} (h:Below a b w) (c:a<=w.heap.size) (os:Array Obj):Below a b (grow w os):=
 h.trans ⟨rfl,rfl,rfl,by simp[grow],fun e d=>heap_grow_old w os ϊ⟩
theorem za (v:ε) (l:List jc) (w:β) (h:Rd w v (L l) 2 (jv l)) (aL:L l<=100000) :
  Calls prog 96 #[v] w (jZ w 9 1 (L (gd (iy l))) (σ (gd (iy l)))):=by
 obtain⟨az,I,av,aw,ax⟩:=ϯ rn;obtain⟨aA,c,rfl,aq,U⟩:=vF h;have af:=Zh U;clear U h aq;go_enter func96,ntmps96;go_wp2;go_loopw [3,8] (fun o M wr=>∃ a:Nat,a<=L l/\M=IZ a/\wr.ownsRow w.heap.size 9 1 o (L (iy (l.take a))) (σ (iy (l.take a)))/\BQ w wr) (fun _ M _=>L l - (intOf M).toNat)
 case atStart=>exact⟨0,Ι _,rfl,hZ _ _ _ _,φ _ _⟩
 case round =>
  obtain⟨a,aJ,rfl,f,i⟩:=hrel;have ab:=i.size;obtain⟨N,p,rfl⟩:=Θ f;by_cases X:a<L l
  .obtain⟨b,off,rfl,E,F⟩:=af.o a X
   have c1:=(i.cell (ib w _ E)).trans E;have c2:=(i.cell (ib w _ F)).trans F;have u:iy (l.take (a+1))=if l[a].1=0 then iy (l.take a)++[l[a].2]else iy (l.take a):=by rw[kD X,NS]
   have au:L (iy (l.take a))<=100000:=by have:=zI (l.take a);rw[gN]at this;omega
   obtain⟨⟨ae,z⟩,r⟩:∃ s,s=l[a]:=⟨_,rfl⟩;rw[<-r]at c1 c2 u;simp only at c1 c2 u;have Q:=Zh u;clear r u E F;generalize iy (l.take a)=ws at *;by_cases t:ae=0
   .subst t
    go_wp2_with (at_builtin;refine gn rfl _ _ _ _ rfl w.heap.size 9 az _ 1 16 lL I av aw ax rfl (D N (L ws) p) (L ws) _ rfl ((f.alloc (C #[IZ 0,š (δ z)] 265)).alloc _) _ 1 [š (δ z)] rfl (mZ lL (å wr (C #[IZ 0,š (δ z)] 265)) #[š (δ z)] 1 1 1 (wr.heap.size+1) ύ rfl (by intro aS ac;simp at ac;subst ac;rfl)) ώ ϊ ό ?_;intro aT m Y ao _ _;have am:BQ w m:=((i.alloc ab _).alloc ό _).grown ao ό (fun ay I=>(f.lt ay I).1);obtain⟨aQ,aR,rfl⟩:=Θ Y)
    go_roundw;case rel=>exact⟨a+1,ϊ,ϕ,by rw[Q.o,μ rfl,zl,ω];exact Y,am⟩
    case measure=>simp[intOf];omega
   .have aK:(ae==0)=false:=gl.2 t
    have ai:=Zh t;clear t;go_wp2;go_roundw;case rel=>exact⟨a+1,ϊ,ϕ,by rw[Q.o,κ ai.o];exact f.alloc _,i.alloc ab _⟩
    case measure=>simp[intOf];omega
  .have ap:a=L l:=ϊ
   subst ap;rw[pa]at f ⊢;have au:L (iy l)<=100000:=by have:=zI l;omega
   generalize aO:iy l=ws at *;have aN:L (σ ws)=L ws:=Mq ws;generalize K:L ws=j at *;rcases oj j with h0|h0
   .obtain rfl:j=0:=h0
    have R:=fun B=>Tryz.slices_Sort_string_none N p B;have P:=fun B=>Tryz.slices_Compact_string_empty N p B;have A:=Zh R;have ah:=Zh P;clear R P;go_wp2_with (first
     |(go_at_call 168;refine(A.o _).mono ?_;rintro e m ⟨rfl,rfl⟩)
     |(go_at_call 169;refine(ah.o _).mono ?_;rintro e m ⟨rfl,rfl⟩))
    go_ret;have ad:ws=[]:=lM.1 K;have ar:gd ws=[]:=by rw[ad];exact List.eq_nil_iff_forall_not_mem.2 fun x r=>by rw[mQ]at r;cases r
    rw[ar];rw[ad]at f;exact⟨_,rfl,f,i⟩
   .obtain⟨g,aB,V,T,an,aM,aG,aP,ak⟩:=wW (enc:=encStr) (zs:=ws) f (by intro e;simp only[Ξ]at e;omega)
    simp only[Ξ]at V;obtain⟨rfl,_,rfl⟩:=V;have H:=Tryz.slices_Sort_string g 0 p ws wr ak an ϊ;rw[K]at H;have A:=Zh H;clear H;have aa:=DY ws;have Z:L (ws.mergeSort fun x y=>decide (x<=y))=j:=by rw[sE];exact K
    generalize(ws.mergeSort fun x y=>decide (x<=y))=d at *;have aj:=Zh aa;clear aa;have S:∀ n os,(grow (putRow encStr (Sort.ahead wr n) g 0 d.toArray) os).ownsRow w.heap.size 9 1 (D (J ⟨g,0,O⟩) j p) j (d.map encStr)/\BQ w (grow (putRow encStr (Sort.ahead wr n) g 0 d.toArray) os):=by
     intro n os;have o1:=wX (q:=n) (k:=j) (ys:=d) (zs:=ws) (enc:=encStr) f Z NZ;rw[gW ϊ]at o1;have b1:BQ w (putRow encStr (Sort.ahead wr n) g 0 d.toArray):=Lib.below_putRow i T;exact⟨Υ o1 (AF RZ NZ os),AF b1 b1.size os⟩
    have HW:=Zh S;have aF:=Lib.compact_length_le d;have aH:=Hb d ϊ;clear S;go_wp2_with (first
     |(go_at_call 168;refine A.o.mono ?_;rintro e m ⟨rfl,nq,os,rfl⟩;obtain⟨o1,b1⟩:=HW.o nq os;generalize(grow (putRow encStr (Sort.ahead wr nq) g 0 d.toArray) os)=m at *;obtain⟨aD,aC,W,aE,aI,_,_,_,al⟩:=wW (enc:=encStr) (zs:=d) o1 (by intro e;simp only[Ξ]at e;omega);simp only[Ξ,Ο,Addr.mk.injEq]at W;obtain⟨⟨rfl,_,_⟩,_,rfl⟩:=W;have G:=Tryz.slices_Compact_string g 0 p d m al ϊ ϊ;rw[Z]at G;have ag:=Zh G;clear G)
     |(go_at_call 169;refine ag.o.mono ?_;rintro e aU ⟨rfl,q,rfl⟩))
    go_ret;have o2:=wX (q:=q) (k:=L (Lib.compact d)) (ys:=Lib.compact d++List.replicate (j - L (Lib.compact d)) []) (zs:=d) (enc:=encStr) o1 ό ϊ;rw[sr]at o2;rw[aj.o];exact⟨_,rfl,o2,Lib.below_putRow b1 T⟩
theorem Ng {w:β} {v:ε} {l:List (γ)} (h:Rd w v (L l) 1 (σ l)) :
  ∃ a c,v=D a (L l) c/\L l<=9223372036854775807/\Hid (∀ i (hi:i<L l),∃ b off,a=J ⟨b,off,O⟩/\w.cell? ⟨b,off+i,O⟩=J (ϴ l[i])):=by
 obtain⟨-,f,⟨a,c,rfl,d⟩|⟨b,off,c,rfl,-,-,-,e⟩⟩:=h
 .exact⟨a,c,by rw[d],ϊ,fun i hi=>ϊ⟩
 .exact⟨_,c,rfl,by unfold maxLen at f;omega,fun i hi=>⟨b,off,rfl,e i _ (by simp[σ,hi])⟩⟩
def Fs (w:β) (r:List Int) (e:Ending) (w':β):Prop:= ∃ a,e=ŗ (.tuple #[a,IZ 0])/\w'.ownsRow w.heap.size 3 1 a (L r) (τ r)/\Below w.heap.size w w'
theorem yk (xs:List El) (k:Nat) (h:k<L xs):(kx xs)[k*3]?=J (IZ xs[k].kind)/\(kx xs)[k*3+1]?=J (IZ xs[k].pos)/\(kx xs)[k*3+2]?=J (š (δ xs[k].term)):=by
 induction xs generalizing k with
 |nil=>simp at h
 |cons x xs a =>
  cases k with
  |zero=>simp[kx]
  |succ k =>
   have:=a k (by simpa using h);simp only[pP];rw[<-this.1,<-this.2.1,<-this.2.2];simp only[kx,lg];refine⟨?_,?_,?_⟩
   .rw[show(k+1)*3=k*3+3 from ϊ];simp
   .rw[show(k+1)*3+1=(k*3+1)+3 from ϊ];simp
   .rw[show(k+1)*3+2=(k*3+2)+3 from ϊ];simp
def PM (w:β) (a:Nat) (b:ε) (nx wd:Int) (c:ε):Prop:=w.heap[a]?=J (C #[b,IZ nx,IZ wd,c] 174 (0,0))
theorem PM.cells {w:β} {a:Nat} {b c:ε} {nx wd:Int} (h:PM w a b nx wd c):w.cell? ⟨a,0,O⟩=J b/\w.cell? ⟨a,1,O⟩=J (IZ nx)/\w.cell? ⟨a,2,O⟩=J (IZ wd)/\w.cell? ⟨a,3,O⟩=J c:=by
 unfold PM at h;refine⟨?_,?_,?_,?_⟩<;>(rw[ν w a _ _ _ (0,0) h];rfl)
theorem PM.free {w:β} {a:Nat} {b c:ε} {nx wd:Int} (h:PM w a b nx wd c) (j:Nat):w.frozen? ⟨a,j,O⟩=false:=ϥ w a j _ _ h
structure EV (w:β) (ev:ε) (es:List El):Prop where
 rd:Rd w ev (L es) 3 (kx es)
 few:L es<=100000
theorem KD (l:Nat) (t M:ε) (d:List El) (nx:Nat) (wd:Int) (w:β) (h:PM w l t nx wd M) (r:EV w t d) (s:nx<L d) :
  Calls prog 94 #[þ (J ⟨l,0,O⟩)] w fun e w'=>e=ŗ (ā #[IZ d[nx].kind,IZ d[nx].pos,š (δ d[nx].term)])/\BQ w w':=by
 obtain⟨c0,c1,c2,y⟩:=h.cells;have U:=r.few;obtain⟨-,V,⟨N,c,rfl,S⟩|⟨b,off,c,rfl,-,W,T,m⟩⟩:=r.rd
 .omega
 have i:=m _ _ (yk d nx s).1;have j:=m _ _ (yk d nx s).2.1;have k:=m _ _ (yk d nx s).2.2;rw[<-iW]at j k;have I:=World.new_ne w _ c0;have K:=World.new_ne w _ i;have X:(0:Int)<=(nx:Int):=ϊ;have Y:(nx:Int)<(L d:Int):=ϊ;obtain⟨⟨n,o,q⟩,u⟩:∃ x,x=d[nx]:=⟨_,rfl⟩;rw[<-u]at i j k ⊢;simp only at i j k I K ⊢;clear u m h r;go_enter func94,ntmps94;go_wp2_with fail
 have g:BQ w (å w (C #[IZ 0,IZ 0,š {data:= #[]}] 177)):=ġ;have f:(å w (C #[IZ 0,IZ 0,š {data:= #[]}] 177)).heap[w.heap.size]?=J (C #[IZ 0,IZ 0,š {data:= #[]}] 177 (0,0)):=χ w _;generalize å w (C #[IZ 0,IZ 0,š {data:= #[]}] 177)=a at *;have z:=ζ g c0;have d1:=ζ g c1;have d2:=ζ g i;have A:=ζ g j;have B:=ζ g k;have Z:a.cell? ⟨w.heap.size,0,O⟩=J (IZ 0):=by rw[ν a _ _ _ _ (0,0) f];rfl
 have aa:a.cell? ⟨w.heap.size,1,O⟩=J (IZ 0):=by rw[ν a _ _ _ _ (0,0) f];rfl
 have ab:a.cell? ⟨w.heap.size,2,O⟩=J (š {data:= #[]}):=by rw[ν a _ _ _ _ (0,0) f];rfl
 have P:a.frozen? ⟨w.heap.size,0,O⟩=false:=ϥ a _ _ _ _ f;have Q:a.frozen? ⟨w.heap.size,1,O⟩=false:=ϥ a _ _ _ _ f;have R:a.frozen? ⟨w.heap.size,2,O⟩=false:=ϥ a _ _ _ _ f;clear c0 c1 c2 y i j k;go_region_held3 (fun w'=>w'.cell? ⟨l,0,O⟩=J (D (J ⟨b,off,O⟩) (L d) c)/\w'.cell? ⟨l,1,O⟩=J (IZ nx)/\w'.cell? ⟨b,off+nx*3,O⟩=J (IZ n)/\w'.cell? ⟨b,off+nx*3+1,O⟩=J (IZ o)/\w'.cell? ⟨b,off+nx*3+2,O⟩=J (š (δ q)))
  (first|exact⟨z,d1,d2,A,B⟩|go_keep)
  (fail)
 go_wp2_with fail
 have E:=π a w.heap.size 0 _ _ (IZ n) f;have F:=π _ w.heap.size 1 _ _ (IZ o) E;have G:=π _ w.heap.size 2 _ _ (š (δ q)) F;have H:BQ w (ŝ (ŝ (ŝ a ⟨w.heap.size,0,O⟩ (IZ n)) ⟨w.heap.size,1,O⟩ (IZ o)) ⟨w.heap.size,2,O⟩ (š (δ q))).drew:=(((g.setCell NZ _).setCell NZ _).setCell NZ _).drew;exact ϟ (v:=ā #[IZ n,IZ o,š (δ q)]) (jX (p:=2) (ty:=177) rfl _ _ w.heap.size 177 _ (0,0) _ rfl G underlying177 rfl ϋ) rfl ⟨rfl,H⟩
abbrev kl (p p2:Nat) (w:β):β:=å (å w (C #[.func (.func 181) #[] #[þ (J ⟨p,0,O⟩),þ (J ⟨p2,0,O⟩)],.func (.func 184) #[] #[],.func (.func 185) #[] #[],.func (.func 186) #[] #[]] 290)) (C #[D O 0 0] 196)
abbrev tL (w:β) (c:Nat):ε:=.func (.func 240) #[] #[þ (J ⟨w.heap.size+1,0,O⟩),þ (J ⟨c,0,O⟩)]
abbrev yT (w:β):ε:=.func (.func 241) #[] #[þ (J ⟨w.heap.size+1,0,O⟩),þ (J ⟨w.heap.size,0,O⟩)]
abbrev KE (p p2:Nat) (v:ε) (w:β):ε->ε->ε->ε->Array ε:=fun a b c d=>#[v,ā #[.func (.func 181) #[] #[þ (J ⟨p,0,O⟩),þ (J ⟨p2,0,O⟩)],.func (.func 184) #[] #[],.func (.func 185) #[] #[],.func (.func 186) #[] #[]],undef,þ (J ⟨w.heap.size,0,O⟩),D O 0 0,þ (J ⟨w.heap.size+1,0,O⟩),.func (.func 239) #[] #[þ (J ⟨w.heap.size+1,0,O⟩)],undef,undef,undef,.func (.func 239) #[] #[þ (J ⟨w.heap.size+1,0,O⟩)],a,.func (.func 241) #[] #[þ (J ⟨w.heap.size+1,0,O⟩),þ (J ⟨w.heap.size,0,O⟩)],.func (.func 239) #[] #[þ (J ⟨w.heap.size+1,0,O⟩)],þ (J ⟨w.heap.size,1,O⟩),.func (.func 184) #[] #[],b,.func (.func 239) #[] #[þ (J ⟨w.heap.size+1,0,O⟩)],þ (J ⟨w.heap.size,2,O⟩),.func (.func 185) #[] #[],c,.func (.func 239) #[] #[þ (J ⟨w.heap.size+1,0,O⟩)],þ (J ⟨w.heap.size,3,O⟩),.func (.func 186) #[] #[],d,undef,undef,undef,undef,undef,undef,undef,undef,undef,undef,undef,undef,undef,undef,undef,undef,undef,undef]
structure Dj (p p2:Nat) (w W:β) (mb:Nat) (es:Array MapEntry) (ck c1 c2 c3:Nat):Prop where
 bel:Below (kl p p2 w).heap.size (kl p p2 w) W
 mbl:(kl p p2 w).heap.size<=mb
 map:W.heap[mb]?=J (.map es ck)
 is:iP es (gC true true true true (yT w) (tL w c1) (tL w c2) (tL w c3))
 l1:(kl p p2 w).heap.size<=c1
 l2:(kl p p2 w).heap.size<=c2
 l3:(kl p p2 w).heap.size<=c3
 f1:W.heap[c1]?=J (C #[.func (.func 184) #[] #[]] 288 (0,0))
 f2:W.heap[c2]?=J (C #[.func (.func 185) #[] #[]] 288 (0,0))
 f3:W.heap[c3]?=J (C #[.func (.func 186) #[] #[]] 288 (0,0))
theorem KF (p p2:Nat) (v:ε) (l:List jc) (f:γ->List Int) (w:β) (h:Rd w v (L l) 2 (jv l)) (bN:L l<=100000) (au:lG l=true) (a7:∀ s∈l,s.1≠1/\s.1≠3) (a6:∀ t,fT (f t)=true)
  (a4:∀ (t:γ) (d:β),it t=true->BQ w d->Calls prog 181 #[š (δ t),þ (J ⟨p,0,O⟩),þ (J ⟨p2,0,O⟩)] d (jZ d 3 1 (L (f t)) (τ (f t)))) :
  Calls prog 183 #[v,ā #[.func (.func 181) #[] #[þ (J ⟨p,0,O⟩),þ (J ⟨p2,0,O⟩)],.func (.func 184) #[] #[],.func (.func 185) #[] #[],.func (.func 186) #[] #[]]] w (jZ w 3 1 (L (oI f kR [] l)) (τ (oI f kR [] l))):=by
 obtain⟨bs,c,rfl,Q,a3⟩:=vF h;have bg:=Zh a3;have bk:=Zh a4;have bo:=Zh a7;clear a7;have bm:=Zh a6;clear a6;have bq:Hid (kT 0 0 l=true):=au;unfold maxLen at Q;clear h a3 au a4;have bO:∀ (aV:Fn) (first ao:Array ε) (w:β),(Instr.makeFunc aV first ao).run prog w=.ok (.func aV first ao) w:=fun _ _ _ _=>rfl;have bA:= @run_makeMap prog;have aa:=χ w (C #[.func (.func 181) #[] #[þ (J ⟨p,0,O⟩),þ (J ⟨p2,0,O⟩)],.func (.func 184) #[] #[],.func (.func 185) #[] #[],.func (.func 186) #[] #[]] 290);have ab:Below (å w (C #[.func (.func 181) #[] #[þ (J ⟨p,0,O⟩),þ (J ⟨p2,0,O⟩)],.func (.func 184) #[] #[],.func (.func 185) #[] #[],.func (.func 186) #[] #[]] 290)).heap.size (å w (C #[.func (.func 181) #[] #[þ (J ⟨p,0,O⟩),þ (J ⟨p2,0,O⟩)],.func (.func 184) #[] #[],.func (.func 185) #[] #[],.func (.func 186) #[] #[]] 290)) (kl p p2 w):=ġ;have c0:(kl p p2 w).cell? ⟨w.heap.size,0,O⟩=J (.func (.func 181) #[] #[þ (J ⟨p,0,O⟩),þ (J ⟨p2,0,O⟩)]):=ζ ab (by rw[ν _ _ _ _ _ _ aa];rfl);have c1:(kl p p2 w).cell? ⟨w.heap.size,1,O⟩=J (.func (.func 184) #[] #[]):=ζ ab (by rw[ν _ _ _ _ _ _ aa];rfl);have c2:(kl p p2 w).cell? ⟨w.heap.size,2,O⟩=J (.func (.func 185) #[] #[]):=ζ ab (by rw[ν _ _ _ _ _ _ aa];rfl);have an:(kl p p2 w).cell? ⟨w.heap.size,3,O⟩=J (.func (.func 186) #[] #[]):=ζ ab (by rw[ν _ _ _ _ _ _ aa];rfl);clear aa ab;go_enter func183,ntmps183;go_wp2_with fail
 go_cut [7]from 8 (fun bI wc=>∃ (m:Nat) (F:Array MapEntry) (E d1 d2 Z:Nat),bI=.map (J m)/\Dj p p2 w wc m F E d1 d2 Z)
 case first =>
  refine ϸ (fun d=>Below (kl p p2 w).heap.size (kl p p2 w) d) 18 ϋ ?_;have G:Below (kl p p2 w).heap.size (kl p p2 w) (kl p p2 w).drew:=RZ.drew;refine gJ (fuel:=19) 1 (.func (.func 241) #[] #[þ (J ⟨w.heap.size+1,0,O⟩),þ (J ⟨w.heap.size,0,O⟩)]) rfl ϋ ϋ ϋ ϋ (fun _ _ _ h=>h) ϒ ?_ G ?_
  .intro d
   go_simp
  refine gJ (fuel:=18) 3 (.func (.func 239) #[] #[þ (J ⟨w.heap.size+1,0,O⟩)]) rfl ϋ ϋ ϋ ϋ (fun _ _ _ h=>h) ϒ ?_ G ?_
  .intro d
   go_simp
  refine gJ (fuel:=17) 4 (þ (J ⟨w.heap.size,1,O⟩)) rfl ϋ ϋ ϋ ϋ (fun _ _ _ h=>h) ϒ ?_ G ?_
  .intro d
   go_simp
  refine mn (fuel:=16) 5 [18] (.func (.func 184) #[] #[]) rfl ϋ ϋ ϋ ϋ (fun _ _ _ h=>h) ϒ ?_ G ?_
  .intro d A
   have bc:=ζ A c1;have bd:=ζ A c2;have be:=ζ A an;go_simp
  refine gJ (fuel:=15) 8 (.func (.func 239) #[] #[þ (J ⟨w.heap.size+1,0,O⟩)]) rfl ϋ ϋ ϋ ϋ (fun _ _ _ h=>h) ϒ ?_ G ?_
  .intro d
   go_simp
  refine gJ (fuel:=14) 9 (þ (J ⟨w.heap.size,2,O⟩)) rfl ϋ ϋ ϋ ϋ (fun _ _ _ h=>h) ϒ ?_ G ?_
  .intro d
   go_simp
  refine mn (fuel:=13) 10 [18] (.func (.func 185) #[] #[]) rfl ϋ ϋ ϋ ϋ (fun _ _ _ h=>h) ϒ ?_ G ?_
  .intro d A
   have bc:=ζ A c1;have bd:=ζ A c2;have be:=ζ A an;go_simp
  refine gJ (fuel:=12) 13 (.func (.func 239) #[] #[þ (J ⟨w.heap.size+1,0,O⟩)]) rfl ϋ ϋ ϋ ϋ (fun _ _ _ h=>h) ϒ ?_ G ?_
  .intro d
   go_simp
  refine gJ (fuel:=11) 14 (þ (J ⟨w.heap.size,3,O⟩)) rfl ϋ ϋ ϋ ϋ (fun _ _ _ h=>h) ϒ ?_ G ?_
  .intro d
   go_simp
  refine mn (fuel:=10) 15 [18] (.func (.func 186) #[] #[]) rfl ϋ ϋ ϋ ϋ (fun _ _ _ h=>h) ϒ ?_ G ?_
  .intro d A
   have bc:=ζ A c1;have bd:=ζ A c2;have be:=ζ A an;go_simp
  refine FV (listed':=ky false 0 false false false false) ϋ ?_;refine JM (I:=hh (kl p p2 w) 288 (yT w) (tL w) (.func (.func 184) #[] #[]) (.func (.func 185) #[] #[]) (.func (.func 186) #[] #[]) (KE p p2 (D bs (L l) c) w)) ?G ?au ?bD ?bt ?bu ?bv ?bE ?bF ?bG ?bH ?bw 8 false 0 false false false false _ _ ϊ rfl ?start;case G=>exact fun i=>i.bel
  case au=>decide+kernel
  case start =>
   refine hh.start G ?_;kernel_rfl
  case bD =>
   intro c b0 b1 b2 b3 a d i;obtain⟨X,aj,aw,rfl,z⟩:=i.made;refine li rfl (fun K o=>?_);go_simp;exact o _ _ z
  case bt =>
   intro bb b0 b1 b2 b3 a d i;have ac:=i.bel;obtain⟨bf,rfl,z⟩:=i.call1;refine li rfl (fun K o=>?_);go_simp;refine(zH _ _ _).mono ?_;rintro e am ⟨rfl,rfl⟩;go_simp;exact o _ _ z
  case bu =>
   intro bb b0 b1 b2 b3 a d i;have ac:=i.bel;obtain⟨bf,X,rfl,z⟩:=i.call2;refine li rfl (fun K o=>?_);go_simp;refine(zH _ _ _).mono ?_;rintro e am ⟨rfl,rfl⟩;go_simp;exact o _ _ z
  case bv =>
   intro bb b0 b1 b2 b3 a d i;have ac:=i.bel;obtain⟨bf,X,aj,rfl,z⟩:=i.call3;refine li rfl (fun K o=>?_);go_simp;refine(zH _ _ _).mono ?_;rintro e am ⟨rfl,rfl⟩;go_simp;exact o _ _ z
  case bE =>
   intro c b1 b2 b3 a d i;obtain⟨m,F,E,X,aj,aw,g,rfl,U,Q,hg,z⟩:=i.put0;have aJ:=fun v=>pF (P:=prog) (k:=0) sH ml U Q hg v;refine li rfl (fun K o=>?_);go_simp;exact o _ _ z
  case bF =>
   intro c b0 b2 b3 a d ag i;obtain⟨m,F,E,X,aj,aw,g,rfl,U,Q,hg,z⟩:=i.put1 ag;have aJ:=fun v=>pF (P:=prog) (k:=1) sH ml U Q hg v;refine li rfl (fun K o=>?_);go_simp;exact o _ _ z
  case bG =>
   intro c b0 b1 b3 a d ag i;obtain⟨m,F,E,X,aj,aw,g,rfl,U,Q,hg,z⟩:=i.put2 ag;have aJ:=fun v=>pF (P:=prog) (k:=2) sH ml U Q hg v;refine li rfl (fun K o=>?_);go_simp;exact o _ _ z
  case bH =>
   intro c b0 b1 b2 a d ag i;obtain⟨m,F,E,X,aj,aw,g,rfl,U,Q,hg,z⟩:=i.put3 ag;have aJ:=fun v=>pF (P:=prog) (k:=3) sH ml U Q hg v;refine li rfl (fun K o=>?_);go_simp;exact o _ _ z
  case bw =>
   intro a d i;have ac:=i.bel;obtain⟨m,F,E,d1,d2,Z,rfl,aW,aX,aY,aF,aG,aH⟩:=i.done;refine li rfl (fun K o=>?_);go_simp;refine o _ _ ?_;clear o K;refine Ze 19 ?_;refine Zd ?_;have bn:Hid (Dj p p2 w d m F E d1 d2 Z):=⟨ac,aW,aX,aY,aF.1,aG.1,aH.1,aF.2,aG.2,aH.2⟩;clear i ac aW aX aY aF aG aH;go_wp2;go_meet;case rel=>exact⟨m,F,E,d1,d2,Z,rfl,bn.o⟩
 case rest =>
  obtain⟨m,F,E,d1,d2,Z,rfl,ad⟩:=hcut;have ap:=χ (å w (C #[.func (.func 181) #[] #[þ (J ⟨p,0,O⟩),þ (J ⟨p2,0,O⟩)],.func (.func 184) #[] #[],.func (.func 185) #[] #[],.func (.func 186) #[] #[]] 290)) (C #[D O 0 0] 196);rw[show(å w (C #[.func (.func 181) #[] #[þ (J ⟨p,0,O⟩),þ (J ⟨p2,0,O⟩)],.func (.func 184) #[] #[],.func (.func 185) #[] #[],.func (.func 186) #[] #[]] 290)).heap.size=w.heap.size+1 from ύ]at ap;have aO:w.heap.size+1<(kl p p2 w).heap.size:=ο ap;have a9:wc.heap[w.heap.size+1]?=J (C #[D O 0 0] 196 (0,0)):=(ad.bel.block _ aO).trans ap;have a8:jq wc wc (w.heap.size+1) (D O 0 0) 0 []:=jq.start a9;have a2:BQ w (kl p p2 w):=((φ w.heap.size w).alloc NZ _).alloc ύ _;have a1:BQ w wc:=a2.trans (ad.bel.mono ϊ);have a5:=ζ ad.bel c0;have M:=Zh ad;have aT:=Zh a8;have aS:=Zh a1;have bl:=Zh a5;have aC:=Zh aO;clear c0 c1 c2 an ap aO a9 a8 a1 a2 a5 ad bA;go_wp2_with fail
  go_loopw [28] (fun aQ wr=>∃ (u n:Nat) (W:List (List Int)) (av:ε) (q:Int),u<=L l/\aQ=IZ u/\n<=u/\Hid (jq wc wr (w.heap.size+1) av n W)/\Hid (kT n q (l.drop u)=true)/\Hid (qr f kR [] l=qr f kR W (l.drop u))/\Hid (BQ w wr)) (fun aQ _=>L l - (intOf aQ).toNat)
  case atStart=>exact⟨0,0,[],_,0,Ι _,rfl,NZ,aT.o,bq.o,rfl,aS.o⟩
  case round =>
   obtain⟨u,n,W,av,q,bM,rfl,bQ,N,ak,al,S⟩:=hrel;by_cases aM:u<L l
   .obtain⟨b,off,rfl,aZ,a0⟩:=bg.o u aM
    have aE:=ζ S.o aZ;have aU:=ζ S.o a0;have aI:l.drop u=l[u]::l.drop (u+1):=mh aM;obtain⟨⟨ai,H⟩,ba⟩:∃ s,s=l[u]:=⟨_,rfl⟩;have aq:=bo.o _ (Χ aM);rw[<-ba]at aI aE aU aq;simp only at aE aU aq;have bp:=Zh aq;clear aq;have j:=ak.o;have r:=al.o;rw[aI]at j r;have bS:(u:Int)<(L l:Int):=ϊ;have bR:(0:Int)<=(u:Int):=ϊ;clear aI ba aZ a0 ak al;simp only[kT,qr]at j r;by_cases aK:ai=0
    .subst aK
     rw[μ rfl]at j r;have aN:it H=true:=by
      cases h:it H with
      |true=>rfl
      |false=>rw[κ (by simp[h])]at j;exact j
     rw[μ aN]at j;have ax:=Zh j;have aA:=Zh r;clear j r;have ay:Hid (∀ d:β,d.heap[m]?=J (.map F E)->(Instr.lookup 344 (.map (J m)) (IZ 0) false).run prog d=.ok (yT w) d):=fun d A=>DQ sH ml A M.o.is (by simp[gC]);have V:BQ wr (å wr (C #[IZ 0,š (δ H)] 265)):=ġ;have T:=Zh (N.o.below V);have Y:=Zh (S.o.trans (V.mono S.o.size));have az:Hid ((å wr (C #[IZ 0,š (δ H)] 265)).heap[m]?=J (.map F E)):=by show _=_;rw[T.o.keep m (ο M.o.map) (by have:=M.o.mbl;have:=aC.o;omega)];exact M.o.map
     have bi:=Zh (Lj wc (å wr (C #[IZ 0,š (δ H)] 265)) (w.heap.size+1) w.heap.size p p2 av n W H (f H) T.o ϊ (bm.o H) (by rw[T.o.cell_keep w.heap.size 0 (by have:=aT.o.lt;omega) ϊ];exact bl.o) (fun am bx=>bk.o H am aN (Y.o.trans (bx.mono Y.o.size))));clear V aN;go_wp2_with (first
      |(at_lookup;refine EU rfl _ _ _ rfl (.map (J m)) (IZ 0) (by rfl) (by rfl) _ (ay.o _ az.o) ?_)
      |(go_at_call 241;refine bi.o.mono ?_;rintro e bK ⟨rfl,aR,ah,af⟩;have aB:=Zh ah;have aD:=Zh (Y.o.trans (af.mono (ϊ:w.heap.size<=w.heap.size+1)));clear ah af))
     go_roundw;case rel=>exact⟨u+1,n+1,f H::W,aR,q+1,ϊ,ϕ,ϊ,aB.o,by have:=ax.o;rw[show((n+1:Nat):Int)=(n:Int)+1 from ϊ];exact this,aA.o,aD.o⟩
     case measure=>simp[intOf];omega
    .rw[κ aK]at j r
     by_cases aL:ai=1\/ai=2\/ai=3
     .rw[μ aL]at j
      by_cases ae:H≠[]\/(n:Int)<2
      .rw[μ ae]at j;simp at j
      .rw[κ ae]at j
       have bC:H=[]:=zY fun e=>ae (.inl e);have bP:¬(n:Int)<2:=fun e=>ae (.inr e);subst bC;have B:=N.o.len
       match W,B,N,r with
       |[],B,_,_=>simp at B;omega
       |[_],B,_,_=>simp at B;omega
       |y::x::s,B,N,r =>
        have ax:=Zh j;have aA:=Zh r;clear j r ae B;obtain rfl:ai=2:=by have:=bp.o;omega
        clear aK aL;have ay:Hid (∀ d:β,d.heap[m]?=J (.map F E)->(Instr.lookup 344 (.map (J m)) (IZ 2) false).run prog d=.ok (tL w d2) d):=fun d A=>DQ sH ml A M.o.is (by simp[gC]);have V:BQ wr (å wr (C #[IZ 2,š (δ [])] 265)):=ġ;have T:=Zh (N.o.below V);have Y:=Zh (S.o.trans (V.mono S.o.size));have az:Hid ((å wr (C #[IZ 2,š (δ [])] 265)).heap[m]?=J (.map F E)):=by show _=_;rw[T.o.keep m (ο M.o.map) (by have:=M.o.mbl;have:=aC.o;omega)];exact M.o.map
        have bh:=Zh (GW wc (å wr (C #[IZ 2,š (δ [])] 265)) (w.heap.size+1) d2 av n x y s T.o ϊ (by rw[T.o.cell_keep d2 0 (ο M.o.f2) (by have:=M.o.l2;have:=aC.o;omega),ν _ _ _ _ _ _ M.o.f2];rfl));clear V;go_wp2_with (first
         |(at_lookup;refine EU rfl _ _ _ rfl (.map (J m)) (IZ 2) (by rfl) (by rfl) _ (ay.o _ az.o) ?_)
         |(go_at_call 240;refine bh.o.mono ?_;rintro e bK ⟨rfl,aR,ah,af⟩;have aB:=Zh ah;have aD:=Zh (Y.o.trans (af.mono (ϊ:w.heap.size<=w.heap.size+1)));clear ah af))
        go_roundw;case rel=>exact⟨u+1,n - 2+1,kR 2 x y::s,aR,q,ϊ,ϕ,ϊ,aB.o,by have:=ax.o;rw[show((n - 2+1:Nat):Int)=(n:Int) - 1 from ϊ];exact this,aA.o,aD.o⟩
        case measure=>simp[intOf];omega
     .rw[κ aL]at j;simp at j
   .have bz:u=L l:=ϊ
    subst bz;have j:=ak.o;have r:=al.o;rw[List.drop_length]at j r;simp only[kT,qr,gs,ia]at j r;have bB:n=1:=ϊ;subst bB;have B:=N.o.len
    match W,B,N,r with
    |[],B,_,_=>simp at B
    |_::_::_,B,_,_=>simp at B
    |[x],B,N,r =>
     have bj:Hid (oI f kR [] l=x):=by show _=_;unfold oI;rw[r];rfl
     obtain⟨g,ao,rfl⟩:=kz N.o.own ϊ;have bL:wr.cell? ⟨w.heap.size+1,0,O⟩=J (D (J ⟨g,0,O⟩) 1 ao):=by rw[ν _ _ _ _ _ _ N.o.var];rfl
     obtain⟨bJ,ar,R⟩:=N.o.ex
     match bJ,R,ar with
     |[],R,_=>exact R.elim
     |_::_::_,R,_=>exact R.2.elim
     |[xv],R,ar =>
      have aE:wr.cell? ⟨g,0,O⟩=J xv:=by
       have:=ar.cellAt 0 ϊ;exact this
      have aP:=R.1.1;obtain⟨bT,bU,rfl⟩:=Θ aP;have br:=Zh aP;clear j r B ak al aP ar R;go_wp2;go_ret;exact⟨_,rfl,by rw[bj.o];exact ii br.o aS.o.size,S.o⟩
theorem re {T d:TypeId} {z:ε} {f b:Nat} (j:prog.underlying T=J (.slice d)) (l:(prog.info? d).map (fun i=>(i.zero,i.size,i.bytes))=J (J z,f,b)) {v:ε} {n:Nat} {g:List ε} {w:β} (h:Rd w v n f g) (k:∀ u∈g,u.oneCell'=true) :
  ∃ a,prog.info? d=J a/\a.zero=J z/\a.size=f/\a.bytes=b/\Hid (∀ w',BQ w w'->Src prog f T v n g w')/\(∀ w' e n c,(binOp .eql T (D e n c) (D O 0 0)).run prog w'=.ok (.bool e.isNone) w'):=by
 obtain⟨a,hi,o,p,q⟩:=ϯ l;exact⟨a,hi,o,p,q,fun w' m=>(h.below m).src j k,fun w' e n c=>Lib.run_eql_slice_nil w' T d e n c 0 0 j⟩
theorem yB:(prog.info? 31).map (fun i=>(i.zero,i.size,i.bytes))=J (J (D O 0 0),1,24):=ϋ
def mK (f:FuncId) (g:TypeId) (d b:Nat):Prop:= ∀ (e:ε) (n:Nat) (a:List ε) (c:β) (h:Rd c e n d a) (j:∀ i∈a,i.oneCell'=true) (k:n*b<=140737488355328),Calls prog f #[e] c (jZ c g d n a)
theorem rg:mK 33 5 1 1/\mK 59 3 1 8/\mK 118 31 1 24/\mK 32 84 2 32/\mK 57 92 3 40/\mK 58 130 2 40:=by
 refine⟨?_,?_,?_,?_,?_,?_⟩;all_goals
  intro A n r p h d G;obtain⟨g,o,c,y,w,t⟩:∃ g o c,A=D g o c/\n=o/\(g=O->n=0/\r=[]):=by
   obtain⟨v,-,⟨g,c,rfl,rfl⟩|⟨b,off,c,rfl,F,-,-,-⟩⟩:=h
   .exact⟨g,0,c,rfl,rfl,fun _=>⟨rfl,ko (by simpa using v)⟩⟩
   .exact⟨_,n,c,rfl,rfl,fun h=>by cases h⟩
  subst y w;have q:=Zh h.2.1;first
   |show Calls _ 33 _ _ _
    go_enter func33,ntmps33;have f:=Zh gu;obtain⟨l,hi,i,j,k,e,m⟩:=re (z:=ĭ .u8 0) (b:=1) gu ϋ h d
   |show Calls _ 59 _ _ _
    go_enter func59,ntmps59;have f:=Zh jm;obtain⟨l,hi,i,j,k,e,m⟩:=re (z:=IZ 0) (b:=8) jm ϋ h d
   |show Calls _ 118 _ _ _
    go_enter func118,ntmps118;have f:=Zh kY;obtain⟨l,hi,i,j,k,e,m⟩:=re (z:=D O 0 0) (b:=24) kY ϋ h d
   |show Calls _ 32 _ _ _
    go_enter func32,ntmps32;have f:=Zh sj;obtain⟨l,hi,i,j,k,e,m⟩:=re (z:=ā #[IZ 0,D O 0 0]) (b:=32) sj ϋ h d
   |show Calls _ 57 _ _ _
    go_enter func57,ntmps57;have f:=Zh mG;obtain⟨l,hi,i,j,k,e,m⟩:=re (z:=ā #[IZ 0,IZ 0,D O 0 0]) (b:=40) mG ϋ h d
   |show Calls _ 58 _ _ _
    go_enter func58,ntmps58;have f:=Zh sm;obtain⟨l,hi,i,j,k,e,m⟩:=re (z:=ā #[š ⟨#[]⟩,D O 0 0]) (b:=40) sm ϋ h d
  cases g with
  |none =>
   obtain⟨rfl,rfl⟩:=t rfl;clear h d e q;go_wp2;go_ret;exact⟨_,rfl,hZ _ _ _ _,φ _ _⟩
  |some a =>
   clear h t;go_wp2_with (at_builtin;refine gn rfl _ _ _ _ rfl p.heap.size _ l _ _ _ f.o hi i j k rfl _ 0 [] rfl (World.ownsRow_made p #[] 0 NZ (Ι _) rfl) _ n r rfl (e.o _ (ġ)) (by have:=q.o;omega) ϊ ύ ?_)
   intro B E x s _ _;have u:BQ p E:=ġ.grown s ύ ϛ;clear s;go_wp2;go_ret;exact⟨B,rfl,x,u⟩
theorem qj:mK 33 5 1 1:=rg.1
theorem uQ:mK 59 3 1 8:=rg.2.1
theorem Bl:mK 118 31 1 24:=rg.2.2.1
theorem Bn:mK 32 84 2 32:=rg.2.2.2.1
theorem Bm:mK 57 92 3 40:=rg.2.2.2.2.1
theorem xT:mK 58 130 2 40:=rg.2.2.2.2.2
def jM (t:γ):List (γ)->List (List Int)->List Int
 |x::xs,d::ds=>if x=t then d else jM t xs ds
 |_,_=>[]
theorem AB {t:γ}:∀ {xs:List (γ)} {ds:List (List Int)},t∉xs->jM t xs ds=[]
 |[],_,_=>by simp[jM]
 |x::xs,[],_=>by simp[jM]
 |x::xs,d::ds,h=>by
  simp only[gP,not_or]at h;simp only[jM];rw[κ (fun e=>h.1 e.symm),AB h.2]
theorem AA {t:γ}:∀ {xs:List (γ)} {ds:List (List Int)} (i:Nat) (hi:i<L xs) (a:i<L ds),lR ltStr xs->xs[i]=t->jM t xs ds=ds[i]
 |[],_,i,hi,_,_,_=>by simp at hi
 |_::_,[],i,_,a,_,_=>by simp at a
 |x::xs,d::ds,i,hi,a,hr,h=>by
  have b:=nK.1 hr;simp only[jM];cases i with
  |zero=>rw[μ (by simpa using h)];rfl
  |succ i =>
   simp only[pP]at h ⊢;have c:=b.1 t (by rw[<-h];exact Χ _);rw[κ (by rintro rfl;simp[swo_ltStr.irrefl]at c)];exact AA i (by simpa using hi) (by simpa using a) b.2 h
theorem AC {t:γ}:∀ {xs:List (γ)} {ds:List (List Int)},(∀ d∈ds,fT d=true)->fT (jM t xs ds)=true
 |[],_,_=>by simp[jM,fT,mB]
 |_::_,[],_=>by simp[jM,fT,mB]
 |x::xs,d::ds,h=>by
  simp only[jM];split
  .exact h d ύ
  .exact AC (fun a b=>h a (by simp[b]))
def vZ (l:List jc) (a:List (List Int)):List Int:=oI (fun b=>jM b (gd (iy l)) a) kR [] l
def pY (w:β) (v:ε) (a:List (List Int)):Prop:= ∃ d:List ε,Rd w v (L a) 1 d/\∀ b (hi:b<L a),∃ c,d[b]?=J c/\Rd w c (L a[b]) 1 (τ a[b])
theorem pY.below {w w':β} {v:ε} {a:List (List Int)} (h:pY w v a) (b:BQ w w'):pY w' v a:=by
 obtain⟨j,f,g⟩:=h;refine⟨j,f.below b,fun i hi=>?_⟩;obtain⟨c,d,e⟩:=g i hi;exact⟨c,d,e.below b⟩
theorem Cv {w:β} {v:ε} {a:List (List Int)} (h:pY w v a):∃ d c,v=D d (L a) c/\L a<=9223372036854775807 /\
  Hid (∀ i (hi:i<L a),∃ b off da dc,d=J ⟨b,off,O⟩/\w.cell? ⟨b,off+i,O⟩=J (D da (L a[i]) dc)/\Rd w (D da (L a[i]) dc) (L a[i]) 1 (τ a[i])):=by
 obtain⟨r,⟨p,m,l⟩,j⟩:=h;unfold maxLen at m;rcases l with ⟨d,c,rfl,f⟩|⟨b,off,c,rfl,f,q,o,k⟩
 .exact⟨d,c,by rw[f],ϊ,fun i hi=>ϊ⟩
 .refine⟨_,c,rfl,ϊ,fun i hi=>?_⟩
  obtain⟨n,g,e⟩:=j i hi;obtain⟨da,dc,rfl,-⟩:=jQ rfl e;exact⟨b,off,da,dc,rfl,k _ _ g,e⟩
theorem AE {a:Nat} {w:β} (n:Nat):Below a w (w.drewN n):=⟨rfl,rfl,rfl,NZ,fun _ _=>rfl⟩
theorem yE (x y:γ):Op.bytesLess (δ x).toList (δ y).toList=ltStr x y:=by
 rw[hC,hC,bytesLess_eq];rfl
theorem Gg {Μ:List (γ)} {t:γ} (h:t∉Μ) (I:Nat) (a:Nat->ByteArray) (d:∀ j (e:j<L Μ),a j=δ Μ[j]):decide (I<L Μ/\a I=δ t)=false:=by
 rw[sB];rintro⟨c,b⟩;rw[d I c]at b;have:=iY ByteArray.toList b;rw[hC,hC]at this;exact h (this ▸ Χ _)
theorem Gh {Μ:List (γ)} {t:γ} (g:lR ltStr Μ) (i:Nat) (hi:i<L Μ) (h:Μ[i]=t) (a:Nat->ByteArray) (b:∀ j (c:j<L Μ),a j=δ Μ[j]) (l:∀ j,L Μ<=j->a j=δ t) :
  Lib.bsGo (fun j=>Op.bytesLess (a j).toList (δ t).toList) (L Μ) 0 (L Μ)=i/\a i=δ t:=by
 refine⟨Lib.bsGo_spec _ i (fun j c=>?_) (fun j c=>?_) _ _ _ ϊ ϊ ϊ,by rw[b i hi,h]⟩
 .rw[b j ϊ,yE,<-h]
  exact pT.1 g j i ϊ hi c
 .by_cases f:j<L Μ
  .rw[b j f,yE]
   by_cases e:j=i
   .subst e;rw[h];exact swo_ltStr.irrefl t
   .have d:=pT.1 g i j hi f ϊ
    rw[h]at d;cases k:ltStr Μ[j] t with
    |false=>rfl
    |true=>have:=swo_ltStr.trans _ _ _ d k;rw[swo_ltStr.irrefl]at this;cases this
  .rw[l j ϊ,yE];exact swo_ltStr.irrefl t
theorem Mi (p p2:Nat) (aa S:ε) (Μ:List (γ)) (c:List (List Int)) (t:γ) (g:β) (w:lR ltStr Μ) (X:L c=L Μ) (al:L Μ<=100000) (H:∀ d∈c,L d<=100000)
  (M:Rd g aa (L Μ) 1 (σ Μ)) (I:pY g S c) (c1:g.cell? ⟨p,0,O⟩=J aa) (c2:g.cell? ⟨p2,0,O⟩=J S) :
  Calls prog 181 #[š (δ t),þ (J ⟨p,0,O⟩),þ (J ⟨p2,0,O⟩)] g (jZ g 3 1 (L (jM t Μ c)) (τ (jM t Μ c))):=by
 obtain⟨Z,x,rfl,-,m⟩:=Ng M;obtain⟨ah,ai,rfl,-,A⟩:=Cv I;by_cases s:t∈Μ
 .obtain⟨f,hi,K⟩:=wP.1 s
  have o:=AA (ds:=c) f hi ϊ w K;obtain⟨b,off,rfl,-⟩:=m.o f hi;obtain⟨b2,ao,da,dc,rfl,F,W⟩:=A.o f ϊ;have n:∀ a (i:a<L Μ),(fun a=>if h:a<L Μ then δ Μ[a]else δ t) a=δ Μ[a]:=fun a i=>by simp[i]
  obtain⟨T,U⟩:=Gh w f hi K (fun a=>if h:a<L Μ then δ Μ[a]else δ t) n (fun a i=>by simp[Nat.not_lt.2 i]);have j:=Tryz.slices_BinarySearch_string b off (L Μ) x (fun a=>if h:a<L Μ then δ Μ[a]else δ t) (δ t) g ϊ (fun a i=>by
   obtain⟨ad,ag,r,E⟩:=m.o a i
   simp only[Ο,Addr.mk.injEq,hR]at r
   obtain⟨rfl,rfl⟩:=r
   rw[E,dif_pos i];rfl)
  rw[T,kr (show f<L Μ/\_ from⟨hi,U⟩)]at j;have z:=Zh j;have V:Hid (∀ k,BQ g k->Calls prog 59 #[D da (L c[f]) dc] k (jZ k 3 1 (L c[f]) (τ c[f]))):=fun k v=>uQ _ (L c[f]) (τ c[f]) k (W.below v) (tq _) (by have:=H _ (Χ (ϊ:f<L c));omega);have y:Hid (jM t Μ c=c[f]):=o;generalize c[f]=R at *;obtain⟨B,G⟩:∃ B,B=L R:=⟨_,rfl⟩;rw[<-G]at V F;have ac:Hid (L R=B):=G.symm;have an:(f:Int)<(L c:Int):=ϊ;have am:(0:Int)<=(f:Int):=ϊ;have ab:=Zh (fun k (v:BQ g k)=>Γ (ζ v c2) (ζ v F));clear G s K o n T U j W w X H M I m A F hi;go_enter func181,ntmps181;go_wp2_with (first
   |(go_at_call 182;refine z.o.mono ?_;rintro e P ⟨rfl,q,Y⟩;have l:BQ g P:=(by rw[Y];exact AE q);obtain⟨aj,ak⟩:=ab.o P l;clear Y)
   |(go_at_call 59;refine(V.o _ l).mono ?_;rintro e aq ⟨ap,rfl,af,ae⟩))
  go_ret;rw[y.o,ac.o];exact⟨_,rfl,ii af l.size,l.trans (ae.mono l.size)⟩
 .have o:=AB (ds:=c) s
  have j:∃ Q:Nat,Calls prog 182 #[D Z (L Μ) x,š (δ t)] g fun e N=>e=ŗ (.tuple #[IZ Q,.bool false])/\BQ g N:=by
   rcases oj (L Μ) with h0|h0
   .refine⟨0,?_⟩
    rw[h0];refine(Tryz.slices_BinarySearch_string_empty Z x (δ t) g).mono ?_;rintro e N ⟨rfl,rfl⟩;exact⟨rfl,φ _ _⟩
   .obtain⟨b,off,rfl,-⟩:=m.o 0 h0
    obtain⟨u,n⟩:∃ u:Nat->ByteArray,∀ a (i:a<L Μ),u a=δ Μ[a]:=⟨fun a=>if h:a<L Μ then δ Μ[a]else δ t,fun a i=>by simp[i]⟩;have j:=Tryz.slices_BinarySearch_string b off (L Μ) x u (δ t) g ϊ (fun a i=>by
     obtain⟨ad,ag,r,E⟩:=m.o a i
     simp only[Ο,Addr.mk.injEq,hR]at r
     obtain⟨rfl,rfl⟩:=r
     rw[E,n a i];rfl)
    refine⟨Lib.bsGo (fun q=>Op.bytesLess (u q).toList (δ t).toList) (L Μ) 0 (L Μ),j.mono ?_⟩;rintro e N ⟨rfl,q,rfl⟩;exact⟨by rw[Gg s _ _ n],AE q⟩
  obtain⟨Q,j⟩:=j;have z:=Zh j;have y:=Zh o;clear s o j w X H M I m A;go_enter func181,ntmps181;go_wp2_with (go_at_call 182;refine z.o.mono ?_;rintro e P ⟨rfl,l⟩)
  go_ret;rw[y.o];exact⟨_,rfl,hZ _ _ _ _,l⟩
