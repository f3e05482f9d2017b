/- Part 47 of the proof. -/
import Derived.Test.YtpilfbcffofheaaGreatDoorm45
import Derived.Test.YtpilfbcffofheaaGreatDoorm46
import Derived.Test.YtpilfbcffofheaaGreatDoorRows
set_option linter.unusedVariables false
set_option linter.unusedSimpArgs false
set_option maxRecDepth 100000
set_option maxHeartbeats 4000000
namespace Go.Proofs.YtpilfbcffofheaaGreatDoor
open Go.Proofs.Tryz Go.RowKit Go.Sort
open Option renaming some->J,none->O
open List renaming length->L
open Obj renaming cells->C
open Value renaming slice->D
open Ending renaming returned->ŗ
section
open Go.ChangeShapes Go.WideShapes Go.RowKit
section
variable {H:Type} {enc:TypeId×ε->H} {P:Program} {w:β} {base:Nat} {sp:Nat->Bool} {held:Bool}
theorem GB {t:TypeId} {a:Array Field} {fuel:Nat} {c:List ε} {p:List MemPlace} {k:IntKind} {zs:List Int} (s:P.underlying t=J (.struct a))
  (q:∀ (j:Nat) (f:Field),a[j]?=J f->P.underlying f.type=J (.int k)/\P.cellsOf f.type=1/\f.offset=j) (B:P.cellsOf t=a.size)
  (h:DataW.trod enc P w base sp held fuel t c=J (.agg (zs.map fun z=>.lit (.int k z)),p)):c=zs.map fun z=>Value.int k z:=by
 obtain⟨i,n,_,v,A,E,hg⟩:=DataW.trod_struct s h;have g:i.map (·.1)=zs.map fun z=>(DataW.lit (.int k z):DataW H):=by
  have:=iY Prod.fst v;simpa using this.symm
 have F:L zs=a.size:=by
  have:=iY List.length g;simp at this;omega
 apply List.ext_getElem?;intro b;by_cases hi:b<a.size
 .obtain⟨u,m,r⟩:=q b _ (Array.getElem?_eq_getElem hi)
  have e:=hg b _ (Array.getElem?_eq_getElem hi);rw[m,r,Ρ ϊ]at e;obtain⟨z,x,o,_⟩:=DataW.trod_int u e;have l:c[b]?=J (.int k z):=by
   have:=iY (·[0]?) x;simpa[hP,jo] using this
  have d:(i.map (·.1))[b]?=J (DataW.lit (.int k z):DataW H):=by
   rw[jK,Ρ ϊ,o];rfl
  rw[g]at d;simp only[jK,Option.map_eq_some_iff,DataW.lit.injEq,Lit.int.injEq,Ϯ]at d;obtain⟨G,y,rfl⟩:=d;simp[l,y]
 .rw[kZ ϊ,kZ ό]
theorem GF {α e:Type} (g:e->List α) (m:Nat):∀ (zss:List e) (a:List α),L a=L zss*m->(∀ i (hi:i<L zss),(a.drop (i*m)).take m=g zss[i])->a=zss.flatMap g:=by
 intro zss;induction zss with
 |nil=>intro a b _;simp at b;simp[b]
 |cons z zss h =>
  intro a b d;have c:=d 0 ύ;simp only[pL,List.drop_zero,oq]at c;have f:=h (a.drop m) (by rw[gb,b,Ϧ,Nat.succ_mul];omega) (fun i hi=>by
   have:=d (i+1) ό
   rw[qQ,show m+i*m=(i+1)*m from by rw[Nat.succ_mul];omega]
   simpa using this)
  rw[lg,<-c,<-f,pd]
theorem Bc {t e:TypeId} {N:Nat} {a:Array Field} {fuel:Nat} {c:List ε} {p:List MemPlace} {k:IntKind} {zss:List (List Int)} (u:P.underlying t=J (.array N e)) (q:P.underlying e=J (.struct a))
  (r:∀ (j:Nat) (f:Field),a[j]?=J f->P.underlying f.type=J (.int k)/\P.cellsOf f.type=1/\f.offset=j) (l:P.cellsOf e=a.size) (o:P.cellsOf t=N*a.size)
  (h:DataW.trod enc P w base sp held fuel t c=J (.agg (zss.map fun zs=>.agg (zs.map fun z=>.lit (.int k z))),p)):c=zss.flatMap fun zs=>zs.map fun z=>Value.int k z:=by
 obtain⟨g,y,_,v,s,A,hg⟩:=DataW.trod_array u h;have m:g.map (·.1)=zss.map fun zs=>(DataW.agg (zs.map fun z=>.lit (.int k z)):DataW H):=by
  have:=iY Prod.fst v;simpa using this.symm
 have x:L zss=N:=by
  have:=iY List.length m;simp at this;omega
 refine GF _ a.size zss c (by rw[s,o,x]) (fun b hi=>?_);have i:=hg b ϊ;rw[l,Ρ ϊ]at i;have d:(g.map (·.1))[b]?=J (DataW.agg (zss[b].map fun z=>.lit (.int k z)):DataW H):=by
  rw[m,jK,Ρ hi];rfl
 rw[jK,Ρ ϊ]at d;simp only[Option.map_some,Ο]at d;have n:DataW.trod enc P w base sp held y e ((c.drop (b*a.size)).take a.size)=J (.agg (zss[b].map fun z=>.lit (.int k z)),(g[b]' ϊ).2):=by rw[i,<-d]
 exact GB q r l n
theorem Bb {t e:TypeId} {N:Nat} {fuel:Nat} {b:List ε} {p:List MemPlace} {k:IntKind} {zs:List Int} (n:P.underlying t=J (.array N e)) (l:P.underlying e=J (.int k)) (j:P.cellsOf e=1) (s:P.cellsOf t=N)
  (h:DataW.trod enc P w base sp held fuel t b=J (.agg (zs.map fun z=>.lit (.int k z)),p)):b=zs.map fun z=>Value.int k z:=by
 obtain⟨g,y,_,o,u,v,hg⟩:=DataW.trod_array n h;have f:g.map (·.1)=zs.map fun z=>(DataW.lit (.int k z):DataW H):=by
  have:=iY Prod.fst o;simpa using this.symm
 have x:L zs=N:=by
  have:=iY List.length f;simp at this;omega
 apply List.ext_getElem?;intro a;by_cases hi:a<N
 .have d:=hg a hi
  rw[j,Ρ ϊ,nJ]at d;obtain⟨z,q,m,_⟩:=DataW.trod_int l d;have i:b[a]?=J (.int k z):=by
   have:=iY (·[0]?) q;simpa[hP,jo] using this
  have c:(g.map (·.1))[a]?=J (DataW.lit (.int k z):DataW H):=by
   rw[jK,Ρ ϊ,m];rfl
  rw[f]at c;simp only[jK,Option.map_eq_some_iff,DataW.lit.injEq,Lit.int.injEq,Ϯ]at c;obtain⟨A,r,rfl⟩:=c;simp[i,r]
 .rw[kZ ϊ,kZ ό]
end
def FY:List Int:=[1779033703,3144134277,1013904242,2773480762,1359893119,2600822924,528734635,1541459225]
def CI:List (List Int):=[[65,90],[97,122],[192,214],[216,246],[248,255],[913,929],[931,937],[945,969],[1024,1119]]
def Ee:List (List Int):=[[65,90,32],[192,214,32],[216,222,32],[913,929,32],[931,937,32],[1024,1039,80],[1040,1071,32]]
theorem Cd:prog.globalNamed "rubrick/utf.letters" =J 0:=ϋ
theorem Cc:prog.globalNamed "rubrick/sha.begin" =J 1:=ϋ
theorem Ce:prog.globalNamed "rubrick/sha.rounds" =J 4:=ϋ
theorem Il:(prog.globals[1]?).map (·.type)=J 315:=ϋ
theorem In:(prog.globals[4]?).map (·.type)=J 418:=ϋ
theorem AX:prog.cellsOf 314=1:=ϋ
theorem Gn:prog.cellsOf 315=8:=ϋ
theorem Gs:prog.cellsOf 418=64:=ϋ
theorem Cf:prog.globalNamed "rubrick/utf.shifts" =J 3:=ϋ
theorem Im:(prog.globals[0]?).map (·.type)=J 334:=ϋ
theorem Io:(prog.globals[3]?).map (·.type)=J 417:=ϋ
theorem tc:prog.cellsOf 3=1:=ϋ
theorem Gv:prog.cellsOf 333=2:=ϋ
theorem Gt:prog.cellsOf 416=3:=ϋ
theorem Gw:prog.cellsOf 334=9*2:=ϋ
theorem Gu:prog.cellsOf 417=7*3:=ϋ
theorem vj {P:Program} {b:β} {n:String} {g:Nat} {d:Array ε} (hg:P.globalNamed n=J g) (h:b.var? P n=J d):∃ t a,b.heap[g]?=J (C d t a):=by
 simp only[World.var?,hg,sy]at h;split at h
 .rename_i c t a e
  cases h;exact⟨t,a,e⟩
 .cases h
theorem tabs_of_laid {b:β} (h:laidMet prog [("rubrick/sha.begin",Rows.laid_rubrick_sha_begin),("rubrick/sha.rounds",Rows.laid_rubrick_sha_rounds),("rubrick/utf.letters",Rows.laid_rubrick_utf_letters),("rubrick/utf.shifts",Rows.laid_rubrick_utf_shifts)] b):Ϩ b/\Ϡ b:=by
 obtain⟨Z,⟨V,ag,g,f3,X,ac,B,I,Q,v,⟨W,ah,i,S,Y,ad,E,K,R,x,⟨T,ae,c,f1,p1,aa,y,F,M,t,⟨U,af,d,f2,p2,ab,A,G,N,u,_,_⟩,_⟩,_⟩,_⟩,_⟩:=h;obtain rfl:=kF (Cc.symm.trans B);obtain rfl:=kF (Ce.symm.trans E);obtain rfl:=kF (Il.symm.trans I);obtain rfl:=kF (In.symm.trans K);obtain rfl:=kF (Cd.symm.trans y);obtain rfl:=kF (Cf.symm.trans A);obtain rfl:=kF (Im.symm.trans F);obtain rfl:=kF (Io.symm.trans G);have p:c.toList=CI.flatMap fun e=>e.map fun z=>Value.int .i64 z:=
  Bc (k:=.i64) (zss:=CI) underlying334 underlying333 (by
   intro j f a
   match j,a with
   |0,a=>simp at a;subst a;exact⟨ml,tc,rfl⟩
   |1,a=>simp at a;subst a;exact⟨ml,tc,rfl⟩
   |j+2,a=>simp at a) Gv Gw t
 have q:d.toList=Ee.flatMap fun e=>e.map fun z=>Value.int .i64 z:=
  Bc (k:=.i64) (zss:=Ee) underlying417 underlying416 (by
   intro j f a
   match j,a with
   |0,a=>simp at a;subst a;exact⟨ml,tc,rfl⟩
   |1,a=>simp at a;subst a;exact⟨ml,tc,rfl⟩
   |2,a=>simp at a;subst a;exact⟨ml,tc,rfl⟩
   |j+3,a=>simp at a) Gt Gu u
 have r:=Bb (k:=.u32) (zs:=FY) underlying315 underlying314 AX Gn v;have s:=Bb (k:=.u32) (zs:=rR) underlying418 underlying314 AX Gs x;have n:g=wk:=by rw[<-wU (xs:=g),r];rfl
 have o:i=wl:=by rw[<-wU (xs:=i),s];rfl
 subst n;subst o;have l:c=tw:=by rw[<-wU (xs:=c),p];rfl
 have m:d=tW:=by rw[<-wU (xs:=d),q];rfl
 subst l;subst m;exact⟨⟨vj Cd M,vj Cf N⟩,⟨vj Cc Q,vj Ce R⟩⟩
def wi (a:Array ε):Obj->Obj
 |C _ t frozen=>C a t frozen
 |o=>o
noncomputable def laidWorld (os:Os):β:=
 {World.holding prog os ⟨#[],#[],[]⟩with heap:=((((World.holding prog os ⟨#[],#[],[]⟩).heap.modify 1 (wi wk)).modify 4 (wi wl)).modify 0 (wi tw)).modify 3 (wi tW)}
end
theorem crash_all (N:Int) (j:Option Addr) (ln l:Nat) (b:List oy) (g:Option Addr) (a i:Nat) (ks:List Int) (w:β) (f:Ϩ w) (d:Ϡ w) (p:pV w (D j ln l) b) (s:L b=ln) (r:Rd w (D g a i) a 1 (τ ks)) (q:L ks=a) (m:∀ k (z:k<L b),-9223372036854775808<=b[k].N/\b[k].N<=9223372036854775807) :
  Calls prog 3 #[IZ N,D j ln l,D g a i] w fun e w'=>e=ŗ (.bool true)/\BQ w w':=by
 by_cases h:3<=N/\N<=150/\a<=300
 .obtain⟨n,rfl⟩:∃ n:Nat,N=(n:Int):=⟨N.toNat,ϊ⟩
  exact Hn n j ln l b g a i ks w f d ϊ ϊ h.2.2 p s r q m (fun u o=>EP u (f.below o) (d.below o))
 .have HW:=Zx (EP w f d)
  clear f d p s r q m;by_cases v:N<3
  .clear h
   go_enter func3,ntmps3;go_wp2_with fail
   refine HW.o.mono ?_;rintro e t ⟨rfl,c⟩;go_wp2;go_ret;exact⟨rfl,c⟩
  .by_cases x:150<N
   .clear h
    go_enter func3,ntmps3;go_wp2_with fail
    refine HW.o.mono ?_;rintro e t ⟨rfl,c⟩;go_wp2;go_ret;exact⟨rfl,c⟩
   .have y:(300:Int)<(a:Int):=ϊ
    clear h;go_enter func3,ntmps3;go_wp2_with fail
    refine HW.o.mono ?_;rintro e t ⟨rfl,c⟩;go_wp2;go_ret;exact⟨rfl,c⟩
section
open Go.ChangeShapes Go.WideShapes Go.RowKit Go.Deep
theorem Gx:prog.cellsOf 5=1:=ϋ
theorem qh:prog.cellsOf 3=1:=ϋ
theorem AW:prog.cellsOf 37=8:=ϋ
section
variable {H:Type} {enc:TypeId×ε->H} {w:β}
theorem wf_i64 {n:Int} (h:(Lit.int .i64 n).wf=true) : -9223372036854775808<=n/\n<=9223372036854775807:=by
 simp only[Lit.wf,gs,ia]at h;have a:IntKind.i64.min = -9223372036854775808:=ϐ;have b:IntKind.i64.max=9223372036854775807:=ϐ;omega
theorem NP {n:Int} (h:(Lit.int .u8 n).wf=true):0<=n/\n<256:=by
 simp only[Lit.wf,gs,ia]at h;have a:IntKind.u8.min=0:=ϐ;have b:IntKind.u8.max=255:=ϐ;omega
theorem uH (b off j:Nat):(⟨b,off,O⟩:Addr).add j=⟨b,off+j,O⟩:=by unfold Addr.add;split<;>simp_all
theorem Dw {fuel:Nat} {v:ε} {y:DataW H×List MemPlace} (h:DataW.trod enc prog w 0 (fun _=>true) true fuel 23 [v]=J y):∃ l:List Int,Rd w v (L l) 1 (τ l):=by
 rcases open_ints jm ml qh h with ⟨a,_⟩|⟨x,ln,c,e,a,_,m,n,o,_,g,q⟩
 .simp at a
  subst a;exact⟨[],rfl,Ι _,.inl ⟨_,_,rfl,rfl⟩⟩
 .simp at a
  subst a;simp only[if_true]at o;have i:L (e.take ln)=ln:=ό;refine⟨e.take ln,?_⟩;rw[i];refine⟨by rw[vn,i];omega,ϊ,?_⟩;rcases oj ln with h0|h0
  .subst h0;exact .inl ⟨_,_,rfl,rfl⟩
  .have j:x.spot=O:=by
    have:=World.cell?_spot (g 0 ϊ);simpa[Addr.add] using this
   obtain⟨b,off,r⟩:=x;simp only at j;subst j;refine .inr ⟨b,off,c,rfl,h0,m,n,fun d s k=>?_⟩;have hi:d<ln:=by
    have:=(lN.1 k).1;simp[τ]at this;omega
   have f:=g d ϊ;rw[uH]at f;rw[f,<-k];have p:d<L e:=ϊ;simp only[τ,jK,hP];rw[μ hi];simp[Ρ p,List.getD]
theorem Lq {fuel:Nat} {v:ε} {y:DataW H×List MemPlace} (h:DataW.trod enc prog w 0 (fun _=>true) true fuel 31 [v]=J y):∃ l:γ,Rd w v (L l) 1 (η l):=by
 rcases open_ints gu nH Gx h with ⟨a,_⟩|⟨x,ln,c,e,a,_,n,o,q,_,i,p⟩
 .simp at a
  subst a;exact⟨[],rfl,Ι _,.inl ⟨_,_,rfl,rfl⟩⟩
 .simp at a
  subst a;simp only[if_true]at q;refine⟨(e.take ln).map u8,?_⟩;have f:L ((e.take ln).map u8)=ln:=ό;rw[f];refine⟨by rw[oE,f];omega,ϊ,?_⟩;rcases oj ln with h0|h0
  .subst h0;exact .inl ⟨_,_,rfl,rfl⟩
  .have j:x.spot=O:=by
    have:=World.cell?_spot (i 0 ϊ);simpa[Addr.add] using this
   obtain⟨b,off,s⟩:=x;simp only at j;subst j;refine .inr ⟨b,off,c,rfl,h0,n,o,fun d t k=>?_⟩;have hi:d<ln:=by
    have:=(lN.1 k).1;rw[oE,f]at this;exact this
   have g:=i d ϊ;rw[uH]at g;rw[g,<-k];have m:d<L e:=ϊ;have r:=NP (p e[d] (Χ m));simp only[η,jK,hP];rw[μ hi];simp[Ρ m,List.getD];rw[kf _ ϊ ϊ]
theorem Gm:prog.cellsOf 35=7:=ϋ
theorem Gq:prog.cellsOf 33=4:=ϋ
theorem Gp:prog.cellsOf 31=1:=ϋ
theorem Gr:prog.cellsOf 23=1:=ϋ
theorem ro {fuel:Nat} {v:ε} {y:Option (DataW H×List MemPlace)} (h:DataW.trod enc prog w 0 (fun _=>true) true fuel 3 [v]=y) (hy:y.isSome=true):∃ z:Int,v=.int .i64 z /\ -9223372036854775808<=z/\z<=9223372036854775807:=by
 obtain⟨x,b⟩:=uv.1 hy;rw[b]at h;obtain⟨z,c,_,a⟩:=DataW.trod_int ml h;exact⟨z,by simpa using c,wf_i64 a⟩
theorem nW {α:Type} {xs:List α} {n i:Nat} (h:L xs=n) (hi:i<n):xs[i]?.isSome=true:=by rw[Ρ ϊ];rfl
instance:Inhabited oy:=⟨⟨0,0,0,0,0,0,[],[]⟩⟩
theorem Km {fuel:Nat} {l:List ε} {y:DataW H×List MemPlace} (h:DataW.trod enc prog w 0 (fun _=>true) true fuel 37 l=J y) :
  ∃ (a:oy) (x z:ε),l=[.int .i64 a.K,.int .i64 a.AK,.int .i64 a.N,.int .i64 a.kd,.int .i64 a.ei,.int .i64 a.em,x,z]/\Rd w x (L a.d) 1 (η a.d)/\Rd w z (L a.so) 1 (τ a.so) /\ -9223372036854775808<=a.N/\a.N<=9223372036854775807:=by
 obtain⟨P,n,_,_,t,u,hg⟩:=DataW.trod_struct underlying37 h;rw[AW]at t
 match l,t with
 |[a0,a1,a2,a3,a4,a5,a6,a7],_ =>
  have q:=hg 0 _ rfl;have c:=hg 1 _ rfl;change DataW.trod _ _ _ _ _ _ _ 3 (List.take (prog.cellsOf 3) (List.drop 0 _))=_ at q;rw[qh]at q;change DataW.trod _ _ _ _ _ _ _ 35 (List.take (prog.cellsOf 35) (List.drop 1 _))=_ at c;rw[Gm]at c;obtain⟨S,E⟩:=uv.1 (nW u (ϐ:1<_));rw[E]at c;obtain⟨Q,v,_,_,_,g,e⟩:=DataW.trod_struct underlying35 c;have r:=e 0 _ rfl;have s:=e 1 _ rfl;have j:=e 2 _ rfl;have k:=e 3 _ rfl;change DataW.trod _ _ _ _ _ _ _ 3 (List.take (prog.cellsOf 3) (List.drop 0 _))=_ at r;rw[qh]at r;change DataW.trod _ _ _ _ _ _ _ 3 (List.take (prog.cellsOf 3) (List.drop 1 _))=_ at s;rw[qh]at s;change DataW.trod _ _ _ _ _ _ _ 33 (List.take (prog.cellsOf 33) (List.drop 2 _))=_ at j;rw[Gq]at j;change DataW.trod _ _ _ _ _ _ _ 23 (List.take (prog.cellsOf 23) (List.drop 6 _))=_ at k;rw[Gr]at k;obtain⟨T,F⟩:=uv.1 (nW g (ϐ:2<_));rw[F]at j;obtain⟨R,n3,_,_,_,i,f⟩:=DataW.trod_struct underlying33 j;have m:=f 0 _ rfl;have o:=f 1 _ rfl;have p:=f 2 _ rfl;have b:=f 3 _ rfl;change DataW.trod _ _ _ _ _ _ _ 3 (List.take (prog.cellsOf 3) (List.drop 0 _))=_ at m;rw[qh]at m;change DataW.trod _ _ _ _ _ _ _ 3 (List.take (prog.cellsOf 3) (List.drop 1 _))=_ at o;rw[qh]at o;change DataW.trod _ _ _ _ _ _ _ 3 (List.take (prog.cellsOf 3) (List.drop 2 _))=_ at p;rw[qh]at p;change DataW.trod _ _ _ _ _ _ _ 31 (List.take (prog.cellsOf 31) (List.drop 3 _))=_ at b;rw[Gp]at b;obtain⟨K,rfl,-,-⟩:=ro q (nW u ϐ);obtain⟨AK,rfl,-,-⟩:=ro r (nW g ϐ);obtain⟨N,rfl,M,v⟩:=ro s (nW g ϐ);obtain⟨kd,rfl,-,-⟩:=ro m (nW i ϐ);obtain⟨ei,rfl,-,-⟩:=ro o (nW i ϐ);obtain⟨em,rfl,-,-⟩:=ro p (nW i ϐ);obtain⟨U,G⟩:=uv.1 (nW i (ϐ:3<_));rw[G]at b;obtain⟨d,A⟩:=Lq b;obtain⟨V,I⟩:=uv.1 (nW g (ϐ:3<_));rw[I]at k;obtain⟨so,B⟩:=Dw k;exact⟨⟨K,AK,N,kd,ei,em,d,so⟩,a6,a7,rfl,A,B,M,v⟩
theorem open_acts {F:Option Addr} {len G:Nat} {d:DataW H} {p:List MemPlace} (h:DataW.Trod enc prog w 0 (fun _=>true) true 22 (.slice F len G) d p) :
  ∃ l:List oy,L l=len/\pV w (.slice F len G) l/\∀ k (g:k<L l),-9223372036854775808<=l[k].N/\l[k].N<=9223372036854775807:=by
 obtain⟨ah,I⟩:=h;simp only[Value.cells]at I;rcases open_slice underlying22 I with ⟨f,_⟩|⟨a,ln,c,S,n,ae,af,f,_,Y,Z,K,_,Q⟩
 .simp at f
  obtain⟨rfl,rfl,rfl⟩:=f;exact⟨[],rfl,⟨[],⟨rfl,Ι _,.inl ⟨_,_,rfl,rfl⟩⟩,fun k g=>by simp at g⟩,fun k g=>by simp at g⟩
 .simp at f
  obtain⟨rfl,rfl,rfl⟩:=f;simp only[if_true]at K;subst K;rw[AW]at Q;have aa:∀ e,e<S->∃ q:oy,∃ m o,(w.cell? (a.add (e*8))=J (.int .i64 q.K)/\w.cell? (a.add (e*8+1))=J (.int .i64 q.AK)/\w.cell? (a.add (e*8+2))=J (.int .i64 q.N)/\w.cell? (a.add (e*8+3))=J (.int .i64 q.kd)/\w.cell? (a.add (e*8+4))=J (.int .i64 q.ei)/\w.cell? (a.add (e*8+5))=J (.int .i64 q.em)/\w.cell? (a.add (e*8+6))=J m/\w.cell? (a.add (e*8+7))=J o)/\Rd w m (L q.d) 1 (η q.d)/\Rd w o (L q.so) 1 (τ q.so) /\ -9223372036854775808<=q.N/\q.N<=9223372036854775807:=by
   intro e hi;obtain⟨ag,z,E⟩:=Q e hi;obtain⟨_,j,U⟩:=World.cells?_some z;obtain⟨q,m,o,rfl,r1,r2,ab,ac⟩:=Km E;have i:=fun R (X:R<8)=>U R X;refine⟨q,m,o,⟨?_,?_,?_,?_,?_,?_,?_,?_⟩,r1,r2,ab,ac⟩
   .have:=i 0 ϊ;rw[add_add]at this;simpa using this
   .have:=i 1 ϊ;rw[add_add]at this;simpa using this
   .have:=i 2 ϊ;rw[add_add]at this;simpa using this
   .have:=i 3 ϊ;rw[add_add]at this;simpa using this
   .have:=i 4 ϊ;rw[add_add]at this;simpa using this
   .have:=i 5 ϊ;rw[add_add]at this;simpa using this
   .have:=i 6 ϊ;rw[add_add]at this;simpa using this
   .have:=i 7 ϊ;rw[add_add]at this;simpa using this
  obtain⟨q,A⟩:=choose_lt aa;have j:L ((List.range len).map q)=len:=ύ;have T:∀ k (g:k<L ((List.range len).map q)),-9223372036854775808<=((List.range len).map q)[k].N/\((List.range len).map q)[k].N<=9223372036854775807:=fun k g=>by
   rw[j]at g;obtain⟨_,_,_,_,_,z,E⟩:=A k ϊ;simp only[uo,wQ];exact⟨z,E⟩
  refine⟨(List.range len).map q,j,?_,T⟩;rcases oj len with h0|h0
  .subst h0
   exact⟨[],⟨rfl,Ι _,.inl ⟨_,_,rfl,rfl⟩⟩,fun k g=>by simp at g⟩
  .have M:a.spot=O:=by
    obtain⟨_,_,⟨z,_⟩,_⟩:=A 0 ϊ;have:=World.cell?_spot z;simpa[Addr.add] using this
   obtain⟨b,off,aj⟩:=a;simp only at M;subst M;have V:∀ e,e<len*8->∃ s,w.cell? ⟨b,off+e,O⟩=J s:=by
    intro e hi;obtain⟨m,o,⟨c0,c1,c2,t,u,v,x,y⟩,_⟩:=A (e / 8) ϊ;simp only[uH]at c0 c1 c2 t u v x y;have ai:e % 8<8:=lJ _ ϊ;have W:e=e / 8*8+e % 8:=ϊ;rw[W];generalize e % 8=r at *;have:r=0\/r=1\/r=2\/r=3\/r=4\/r=5\/r=6\/r=7:=ϊ;rcases this with rfl|rfl|rfl|rfl|rfl|rfl|rfl|rfl
    .exact⟨_,c0⟩
    .exact⟨_,c1⟩
    .exact⟨_,c2⟩
    .exact⟨_,t⟩
    .exact⟨_,u⟩
    .exact⟨_,v⟩
    .exact⟨_,x⟩
    .exact⟨_,y⟩
   have f:∀ e s,e<len*8->w.cell? ⟨b,off+e,O⟩=J s->((List.range (len*8)).map fun e=>(w.cell? ⟨b,off+e,O⟩).getD (.bool false))[e]?=J s:=by
    intro e s hi B;rw[jK,List.getElem?_range hi];simp[B]
   refine⟨(List.range (len*8)).map fun e=>(w.cell? ⟨b,off+e,O⟩).getD (.bool false),⟨ύ,by rw[j];omega,.inr ⟨b,off,S,by rw[j],by rw[j];exact h0,by rw[j];exact Y,Z,fun e s B=>?_⟩⟩,fun k g=>?_⟩
   .have hi:e<len*8:=by
     have:=(lN.1 B).1;simpa using this
    obtain⟨ad,P⟩:=V e hi;have:=(f e ad hi P).symm.trans B;rw[P,kF this]
   .rw[j]at g
    obtain⟨m,o,⟨c0,c1,c2,t,u,v,x,y⟩,r1,r2,_⟩:=A k ϊ;simp only[uH]at c0 c1 c2 t u v x y;simp only[uo,wQ];exact⟨f _ _ ϊ c0,f _ _ ϊ c1,f _ _ ϊ c2,f _ _ ϊ t,f _ _ ϊ u,f _ _ ϊ v,⟨m,f _ _ ϊ x,r1⟩,o,f _ _ ϊ y,r2⟩
theorem open_nums {a:Option Addr} {len b:Nat} {d:DataW H} {p:List MemPlace} (h:DataW.Trod enc prog w 0 (fun _=>true) true 23 (.slice a len b) d p):∃ l:List Int,L l=len/\Rd w (.slice a len b) len 1 (τ l):=by
 obtain⟨j,c⟩:=h;simp only[Value.cells]at c;obtain⟨l,e⟩:=Dw (v:=.slice a len b) (by simpa using c);obtain⟨g,i,f,-⟩:=jQ rfl e;simp only[Ξ]at f;obtain⟨-,rfl,-⟩:=f;exact⟨l,rfl,e⟩
theorem open_i64 {r:Reach} {b0:Nat} {v:ε} {d:DataW H} {ps:List MemPlace} (c:Value.okWide prog w r b0 3 v) (b:DataW.Trod enc prog w 0 (fun _=>true) true 3 v d ps):∃ z:Int,v=.int .i64 z:=by
 obtain⟨n,a,_,_,e⟩:=open_int ml c b;exact⟨n,a⟩
end
end
