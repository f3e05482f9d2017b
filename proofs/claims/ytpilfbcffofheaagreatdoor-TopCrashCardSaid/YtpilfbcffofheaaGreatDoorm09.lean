/- Part 9 of the proof. -/
import Derived.Test.YtpilfbcffofheaaGreatDoorm06
import Derived.Test.YtpilfbcffofheaaGreatDoorm08
set_option linter.unusedVariables false
set_option linter.unusedSimpArgs false
set_option maxRecDepth 100000
set_option maxHeartbeats 8000000
namespace Go.Proofs.YtpilfbcffofheaaGreatDoor
open Go.Proofs.Tryz Go.RowKit Go.Sort
open Option renaming some->J,none->O
open List renaming length->L
open Obj renaming cells->C
open Value renaming slice->D,string->š,agg->ā,pointer->þ
open Ending renaming returned->ŗ
open World renaming alloc->å,setCell->ŝ
theorem qD {w w':β} {base:Nat} {e:TypeId} {size:Nat} {v:ε} {n:Nat} {xs:List ε} (h:w.ownsRow base e size v n xs) (c:∀ g,v.ownBlock=J g->w'.heap[g]?=w.heap[g]?):w'.ownsRow base e size v n xs:=by
 obtain⟨i,f⟩:=h;refine⟨i,?_⟩;rcases f with h|⟨g,b,cur,a,d,hg,j⟩
 .exact .inl h
 .exact .inr ⟨g,b,cur,a,d,by rw[c g (by rw[a];rfl)];exact hg,j⟩
structure qW (w:β) (g off m:Nat) (F T:Nat->Int) (V:Nat->ε) (D:Nat->List υ):Prop where
 c0:∀ i,i<m->w.cell? ⟨g,off+i*3,O⟩=J (IZ (F i))
 c1:∀ i,i<m->w.cell? ⟨g,off+i*3+1,O⟩=J (IZ (T i))
 c2:∀ i,i<m->w.cell? ⟨g,off+i*3+2,O⟩=J (V i)
 rd:∀ i,i<m->fY w (V i) (L (D i)) (D i)
theorem qW.below {w w':β} {g off m:Nat} {F T:Nat->Int} {d:Nat->ε} {c:Nat->List υ} (h:qW w g off m F T d c) (b:BQ w w'):qW w' g off m F T d c:=
 ⟨fun a hi=>ζ b (h.c0 a hi),fun a hi=>ζ b (h.c1 a hi),fun a hi=>ζ b (h.c2 a hi),fun a hi=>(h.rd a hi).below b⟩
def lk (w:β) (nb m:Nat) (p:Nat->Nat):Prop:= ∃ a:Array ε,w.heap[nb]?=J (C a 3 (0,0))/\a.size=m/\∀ b,b<m->a[b]?=J (IZ (p b))
theorem lk.cell {w:β} {nb m:Nat} {p:Nat->Nat} (h:lk w nb m p) {i:Nat} (hi:i<m):w.cell? ⟨nb,i,O⟩=J (IZ (p i))/\w.frozen? ⟨nb,i,O⟩=false/\nb<w.heap.size:=by
 obtain⟨c,a,d,b⟩:=h;exact⟨by rw[ν _ _ _ _ _ _ a];exact b i hi,ϥ _ _ _ _ _ a,ο a⟩
theorem lk.same {w w':β} {nb m:Nat} {p:Nat->Nat} (h:lk w nb m p) (e:w'.heap[nb]?=w.heap[nb]?):lk w' nb m p:=by
 obtain⟨a,b,c,d⟩:=h;exact⟨a,by rw[e];exact b,c,d⟩
theorem lk.congr {w:β} {nb m:Nat} {p q:Nat->Nat} (h:lk w nb m p) (e:∀ i,i<m->p i=q i):lk w nb m q:=by
 obtain⟨a,b,c,d⟩:=h;exact⟨a,b,c,fun i hi=>by rw[<-e i hi];exact d i hi⟩
theorem lk.set {w:β} {nb m:Nat} {p q:Nat->Nat} (h:lk w nb m p) (j:Nat) (x:Int) (k:x=(q j:Int)) (g:∀ i,i<m->i≠j->p i=q i):lk (ŝ w ⟨nb,j,O⟩ (IZ x)) nb m q:=by
 obtain⟨b,d,a,f⟩:=h;refine⟨_,π w nb j b _ _ d,by simpa using a,fun i hi=>?_⟩;by_cases e:i=j
 .subst e
  simp[a,hi,k]
 .rw[Array.getElem?_setIfInBounds_ne (fun c=>e c.symm),<-g i hi e]
  exact f i hi
def Fr (w:β) (e nb:Nat) (f:ε) (d:List υ) (c:List ε):Prop:=
 ∀ a (hi:a<L d),c[a*2]?=J (ϴ d[a].1)/\∃ b,c[a*2+1]?=J b/\w.ownsRow e 3 1 b (L d[a].2) (τ d[a].2)/\∀ g,b.ownBlock=J g->g≠nb/\f.ownBlock≠J g
structure pl (w wr:β) (m k:Nat) (p:Nat->Nat) (dv:ε) (d:List υ) (cells:List ε):Prop where
 own:wr.ownsRow w.heap.size 130 2 dv k cells
 o:Fr wr w.heap.size w.heap.size dv (d.take k) cells
 next:lk wr w.heap.size m p
 off:dv.ownBlock≠J w.heap.size
 bel:BQ w wr
theorem Cp:(prog.info? 3).map (fun i=>(i.zero,i.size,i.bytes))=J (J (IZ 0),1,8):=ϋ
theorem IS:(prog.info? 130).map (fun i=>(i.zero,i.size,i.bytes))=J (J (ā #[š ByteArray.empty,D O 0 0]),2,40):=ϋ
theorem pl.later {w wr j:β} {m n:Nat} {p:Nat->Nat} {e:ε} {d:List υ} {c:List ε} (h:pl w wr m n p e d c) (l:L d=n) (i:∀ b,w.heap.size<=b->b<wr.heap.size->j.heap[b]?=wr.heap[b]?):fY j e n d:=by
 refine⟨l,c,Rd.of_own (qD h.own fun g hg=>i g (h.own.lt g hg).1 (h.own.lt g hg).2),fun o hi=>?_⟩;obtain⟨f,q,k,a,-⟩:=h.o o Ϝ;simp only[oV]at f a;exact⟨f,q,k,Rd.of_own (qD a fun g hg=>i g (a.lt g hg).1 (a.lt g hg).2)⟩
structure oz (w W5:β) (eb m:Nat) (q:Nat->Nat) (tt:γ) (ds:List Int) (dv:ε) (wz:β):Prop where
 ent:wz.heap[eb]?=J (C #[š (δ tt),dv] 130 (0,0))
 next:lk wz w.heap.size m q
 own:wz.ownsRow W5.heap.size 3 1 dv (L ds) (τ ds)
 keep:∀ b,b<W5.heap.size->b≠eb->b≠w.heap.size->wz.heap[b]?=W5.heap[b]?
 bel:BQ w wz
 size:W5.heap.size<=wz.heap.size
theorem oz.below {w c i g:β} {e m:Nat} {q:Nat->Nat} {f:γ} {ds:List Int} {d:ε} (h:oz w c e m q f ds d i) (a:BQ i g):oz w c e m q f ds d g:=by
 obtain⟨o,n,p,n3⟩:=h.next;refine⟨by rw[a.block _ (ο h.ent)];exact h.ent,h.next.same (a.block _ (ο n)),mz h.own a,fun b j k l=>by rw[a.block b (by have:=h.size;omega)];exact h.keep b j k l,h.bel.trans (a.mono h.bel.size),by have:=h.size;have:=a.size;omega⟩
theorem oz.congr {w a g:β} {d m:Nat} {q e:Nat->Nat} {f:γ} {ds b:List Int} {c:ε} (h:oz w a d m q f ds c g) (k:∀ i,i<m->q i=e i) (j:ds=b):oz w a d m e f b c g:=by
 subst j;exact⟨h.ent,h.next.congr k,h.own,h.keep,h.bel,h.size⟩
theorem pl.step {w w1 y H v x:β} {k z m:Nat} {p q:Nat->Nat} {t s l:ε} {d:List υ} {j:List ε} {r:γ} {ds:List Int}
  (h:pl w w1 m k p t d j) (E:BQ w1 y) (T:w1.heap.size<=z) (U:k<L d) (G:d[k]=(r,ds)) (a:oz w y z m q r ds l H)
  (b:BQ H v) (K:x.ownsRow w.heap.size 130 2 s (k+1) (j++[ϴ r,l])) (o:v.grownBy x t.ownBlock) (hv:s.ownBlock=t.ownBlock\/s.ownBlock=J v.heap.size) :
  pl w x m (k+1) q s d (j++[ϴ r,l]):=by
 have V:w.heap.size<w1.heap.size:=by obtain⟨S,i,-⟩:=h.next;exact ο i
 have W:=E.size;have X:=a.size;have Y:=b.size;have F:L j=k*2:=h.own.1;have M:L (d.take k)=k:=Ϝ;refine⟨K,?_,?_,?_,?_⟩
 .intro f hi
  rw[gN]at hi;by_cases N:f=k
  .subst N
   refine⟨?_,l,?_,?_,?_⟩
   .simp only[oV,G]
    rw[gO ϊ,F,kE];rfl
   .rw[gO ϊ,F,show f*2+1 - f*2=1 from ϊ];rfl
   .simp only[oV,G]
    refine qD (ii (mz a.own b) ϊ) fun g hg=>?_;have c:=(mz a.own b).lt g hg;refine o.block g c.2 ?_;intro e;have:=(h.own.lt g e.symm).2;omega
   .intro g hg
    have c:=(mz a.own b).lt g hg;refine⟨ϊ,?_⟩;intro e;rcases hv with hv|hv
    .rw[hv]at e
     have:=(h.own.lt g e).2;omega
    .rw[hv]at e
     simp only[Ο]at e;omega
  .have P:f<k:=ϊ
   obtain⟨A,R,I,n,B⟩:=h.o f (by rw[M];exact P);simp only[oV]at A n;refine⟨?_,R,?_,?_,?_⟩
   .simp only[oV]
    rw[iX ϊ];exact A
   .rw[iX ϊ];exact I
   .simp only[oV]
    refine qD n fun g hg=>?_;have c:=(n.lt g hg).2;obtain⟨i,u⟩:=B g hg;rw[o.block g ϊ (fun e=>u e.symm),b.block g ϊ,a.keep g ϊ ϊ i,E.block g c]
   .intro g hg
    have c:=(n.lt g hg).2;obtain⟨i,u⟩:=B g hg;refine⟨i,?_⟩;rcases hv with hv|hv
    .rw[hv];exact u
    .rw[hv]
     intro e;simp only[Ο]at e;omega
 .refine a.next.same ?_
  rw[o.block _ ϊ (fun e=>h.off e.symm),b.block _ ϊ]
 .rcases hv with hv|hv
  .rw[hv];exact h.off
  .rw[hv]
   intro e;simp only[Ο]at e;omega
 .exact(a.bel.trans (b.mono a.bel.size)).grown o ϊ (fun q Q=>(h.own.lt q Q).1)
theorem JP (w:β) (m:Nat):lk (å w (C (madeCells #[IZ 0] m) 3)) w.heap.size m (fun _=>0):=by
 refine⟨_,χ w _,by simp[madeCells],fun a hi=>?_⟩;simp[madeCells,hi,Nat.mod_one]
theorem tp {a:Nat->List υ} {p:Nat->Nat} {j b:Nat} (h:b=p j) (c:b<L (a j)):(a j)[b]=gz a p j:=by
 subst h;unfold gz;rw[fR,Ρ c];rfl
def FJ (a:List υ) (w:β) (e:Ending) (w':β):Prop:= ∃ c,e=ŗ c/\(∀ d:β,(∀ b,w.heap.size<=b->b<w'.heap.size->d.heap[b]?=w'.heap[b]?)->fY d c (L a) a)/\Below w.heap.size w w'
theorem NH (g off m c:Nat) (F T:Nat->Int) (cW:Nat->ε) (a:Nat->List υ) (N:List υ) (aQ:Nat) (w:β) (h:qW w g off m F T cW a) (d6:m<=1000) (bJ:ji aQ (ir a (fun _=>0) m)=N) (cq:iU (ir a (fun _=>0) m)<=aQ) (hF:aQ<=1000000) (cD:∀ i,∀ e∈a i,L e.2<=1000) :
  Calls prog 321 #[D (J ⟨g,off,O⟩) m c] w (FJ N w):=by
 have ao:prog.follows .mixedOrders=true:=ϋ;have X:=Zh h;have cd:=Zh cD;have dV:L N<=1000000:=by rw[<-bJ];have:=EJ aQ (ir a (fun _=>0) m);omega
 have dq:∀ w,(Instr.makeSlice 23 (IZ m) (IZ m)).run prog w=.ok (D (J ⟨w.heap.size,0,O⟩) m m) (å w (C (madeCells #[IZ 0] m) 3)):=fun w=>run_make_row' 23 3 (IZ 0) 8 jm Cp rfl .i64 .i64 m ϊ ϊ w;have cw:BQ w (å w (C (madeCells #[IZ 0] m) 3)):=ġ;have cf:Hid (pl w (å w (C (madeCells #[IZ 0] m) 3)) m 0 (fun _=>0) (D O 0 0) N []):=⟨⟨rfl,.inl ⟨rfl,rfl⟩⟩,fun i hi=>by simp at hi,JP w m,by simp[Value.ownBlock],cw⟩;have ch:Hid (ji aQ (ir a (fun _=>0) m)=N.drop 0):=bJ;have ce:=Zh cq;clear h cD cw bJ cq;go_enter func321,ntmps321;go_wp2
 go_step3
 go_wp2;generalize c4:(å w (C (madeCells #[IZ 0] m) 3))=dR at *;clear c4 dq
 go_step3
 go_wp2
 go_loopg [3] aQ (fun cn dL wr=>∃ (U:Nat) (d:Nat->Nat) (bh:List ε),U<=L N/\Hid (ji cn (ir a d m)=N.drop U)/\Hid (iU (ir a d m)<=cn)/\Hid (∀ i,i<m->d i<=L (a i))/\Hid (pl w wr m U d dL N bh))
 case atStart=>exact⟨0,_,[],ϊ,ch,ce,fun i _=>Ι _,cf⟩
 case round =>
  obtain⟨U,d,bh,d5,bF,bE,bC,ae⟩:=hrel;clear cf ch ce;obtain⟨bk,cx⟩:∃ z,z=gk:=⟨_,rfl⟩;rw[<-cx]at bF bE;have d2:bk<=gk:=ϊ;have d3:gk<=bk:=ϊ;clear cx;have bq:=ae.o.bel
  rename β=>w1
  go_wp2
  go_loopg [5,16] m (fun a9 dM dK dO=>∃ (f:Nat) (x:Int),f+a9=m/\dM=IZ x/\dK=IZ f/\Hid (iJ a d f x)/\BQ w1 dO)
  case atStart=>exact⟨0,-1,ϊ,rfl,rfl,iJ.zero a d,φ _ _⟩
  case round =>
   obtain⟨f,x,d4,rfl,rfl,ar,ak⟩:=hrel;have ap:=bq.trans (ak.mono bq.size);cases gk with
   |zero =>
    obtain rfl:f=m:=ϊ;rcases ar.o.form with M|⟨p,M,cy,bP⟩
    .have cP:Hid (L N=U):=by
      show L N=U;have ah:=ar.o;rw[M]at ah;have ai:=bF.o;rw[NF ah.none]at ai;have aT:=iY List.length ai;rw[gb,gF]at aT;omega
     rw[M];clear M;go_wp2;try rw[Exit.noGoto_ret]
     go_ret;refine⟨_,rfl,fun ej ai=>?_,ap⟩;have:=ae.o;rw[<-cP.o]at this;exact this.later rfl fun b c2 a9=>(ai b c2 (by have:=ak.size;omega)).trans (ak.block b a9)
    .have aM:=cy
     have bA:=ar.o;rw[M]at bA;have bn:=bA.some;clear bA;obtain⟨k,bs⟩:∃ ad,ad=(gz a d p).1:=⟨_,rfl⟩;rw[<-bs]at bn;have de:=Kd bn;obtain⟨aS,rfl⟩:∃ aS,bk=aS+1:=⟨bk - 1,by have:=bE.o;omega⟩;have aV:=bF.o;rw[NG bn]at aV;have cz:U<L N:=by
      rcases ot U (L N) with h|h
      .exact h
      .rw[sw h]at aV;cases aV
     rw[mh cz]at aV;obtain⟨cu,cv⟩:=List.cons.inj aV;have cU:Hid (N[U]=(k,jd a d k f)):=cu.symm;have cV:Hid (ji aS (ir a (jC a d k f) f)=N.drop (U+1)):=by show _;rw[DD];exact cv
     have cT:Hid (iU (ir a (jC a d k f) f)<=aS):=by show iU _<=aS;rw[DD];have:=bE.o;omega
     have dQ:=Zh bs;clear bn de aV cu cv;have bS:=ζ ap (X.o.c2 p aM);obtain⟨cX,c0,bc,d7,aZ⟩:=iF ((X.o.rd p aM).below ap);obtain⟨b0,bV,cY,cZ,rfl,d1,-,-⟩:=aZ.o (d p) bP;rw[bc]at bS;rw[tp rfl,<-bs]at d1;unfold ϴ at d1;have aE:=ζ ak (ae.o.next.cell aM).1;clear bc aZ bs;generalize bO:d p=au at *;generalize bN:L (a p)=bu at *;clear bO bN;have dC:(au:Int)<(bu:Int):=ϊ;have dD:(0:Int)<=(au:Int):=ϊ;have dE:(p:Int)<(f:Int):=ϊ;have dF:(0:Int)<=(p:Int):=ϊ;have dG:¬(p:Int)<0:=ϊ;have ef:((au:Int)).toNat=au:=ϊ;have eg:((p:Int)).toNat=p:=ϊ;rw[M];clear M ar;go_wp2_with fail
     have du:=ak.size;go_region_held3 (fun t=>t.cell? ⟨g,off+p*3+2,O⟩=J (D (J ⟨b0,bV,O⟩) bu c0)/\t.cell? ⟨w.heap.size,p,O⟩=J (IZ au)/\t.cell? ⟨b0,bV+au*2,O⟩=J (š (δ k)))
      (first|exact⟨bS,aE,d1⟩|assumption|go_keep)
      (fail)
     have aU:BQ w1 (å wr (C #[š (δ k),D O 0 0] 130)).drew:=((ak.alloc du _).drew);have bI:(å wr (C #[š (δ k),D O 0 0] 130)).drew.heap[wr.heap.size]?=J (C #[š (δ k),D O 0 0] 130 (0,0)):=χ wr _;have d8:wr.heap.size<(å wr (C #[š (δ k),D O 0 0] 130)).drew.heap.size:=ο bI;generalize c5:(å wr (C #[š (δ k),D O 0 0] 130)).drew=Y at *;clear c5 bS aE d1;generalize c9:wr.heap.size=r at *;clear c9;have dy:w.heap.size<w1.heap.size:=by obtain⟨dS,bU,-⟩:=ae.o.next;exact ο bU
     have co:=bq.trans (aU.mono bq.size);have ca:Hid (∃ bj,oz w Y r f (jC a d k 0) k (jd a d k 0) bj Y):=⟨D O 0 0,bI,(ae.o.next.same (aU.block _ dy)).congr fun i _=>(Gi a d k i).symm,⟨rfl,.inl ⟨rfl,rfl⟩⟩,fun _ _ _ _=>rfl,co,NZ⟩;obtain⟨dz,df,dg,dh,di⟩:=ϯ Cp;obtain⟨dA,dj,dk,dl,dm⟩:=ϯ IS;clear bI;have dW:b0<w.heap.size\/True:=.inr trivial;go_wp2
     go_loopg [74] f (fun a9 dN dP=>∃ i:Nat,i+a9=f/\dN=IZ i/\Hid (∃ bj,oz w Y r f (jC a d k i) k (jd a d k i) bj dP))
     case atStart=>exact⟨0,ϊ,rfl,ca.o⟩
     case round =>
      obtain⟨i,hi,rfl,ci⟩:=hrel;clear ca;obtain⟨bj,ab⟩:=ci.o;obtain⟨Z,aa,rfl⟩:=Θ ab.own;have aq:=Zh ab;have cK:wr.cell? ⟨r,0,O⟩=J (š (δ k)):=by rw[ν _ _ _ _ _ _ ab.ent];rfl
      have b1:wr.cell? ⟨r,1,O⟩=J (D Z (L (jd a d k i)) aa):=by rw[ν _ _ _ _ _ _ ab.ent];rfl
      have c8:=BH a d k 1000 cd.o i;clear ci;cases gk with
      |zero =>
       obtain rfl:i=f:=ϊ;have c3:Hid (wr.ownsRow w.heap.size 130 2 u3 U bh):=qD ae.o.own fun g hg=>by
        have ah:=(ae.o.own.lt g hg).2;rw[ab.keep g (by have:=aU.size;omega) ϊ (fun e=>ae.o.off (by rw[hg,e])),aU.block g ah]
       have dw:w.heap.size<=wr.heap.size:=by have:=ab.size;have:=aU.size;omega
       have cS:Hid (∀ q,q<i->jC a d k i q<=L (a q)):=fun q an=>by
        have ah:=bC.o q an;unfold jC;rw[μ an];unfold qg;split
        .rename_i ai;have:=ai.1;omega
        .exact ah
       have cb:Hid (∃ o,o=L (jd a d k i)):=⟨_,rfl⟩;clear ab;go_wp2_with (at_builtin;refine gn rfl _ _ _ _ rfl w.heap.size 130 dA _ 2 40 sm dj dk dl dm rfl _ U _ rfl (mz c3.o (ġ)) _ 1 [š (δ k),D Z (L (jd a d k i)) aa] rfl (ig sm wr _ 2 1 1 rfl Ϛ) ώ ϊ ό ?_;intro ei ek ds db dx _)
       go_roundg aS
       case rel=>exact⟨U+1,jC a d k i,bh++[ϴ k,D Z (L (jd a d k i)) aa],ϊ,cV.o,cT.o,cS.o,pl.step ae.o aU ϊ cz cU.o aq.o (ġ) ds db dx⟩
       case measure=>omega
      |succ az =>
       have aD:i<f:=ϊ;have dI:(i:Int)<(f:Int):=ϊ;have dB:(0:Int)<=(i:Int):=ϊ;have aP:=ab.bel;have bR:=ζ aP (X.o.c0 i aD);have l1:=ζ aP (X.o.c1 i aD);have l2:=ζ aP (X.o.c2 i aD);obtain⟨Q,s,bd,bM,bx⟩:=iF (X.o.rd i aD);rw[bd]at l2;obtain⟨ax,-,dr⟩:=ab.next.cell aD;rw[AR]at ax;have dw:=ab.size;have bp:=ab.own;generalize F i=G at bR;generalize T i=H at l1;have a3:Hid (∃ l,l=d i):=⟨_,rfl⟩;obtain⟨l,aN⟩:=a3.o;have a1:Hid (∃ j,j=L (a i)):=⟨_,rfl⟩;obtain⟨j,P⟩:=a1.o;have bb:=bC.o i aD;rw[<-aN]at ax bb;rw[<-P]at l2 bM bb;have aj:=Zh aN;have av:=Zh P;obtain⟨o,bm⟩:∃ o,o=L (jd a d k i):=⟨_,rfl⟩;rw[<-bm]at c8 b1;have bB:=Zh bm;clear aN P a3 a1 bd ab;have y:BQ wr (å wr (C #[IZ G,IZ H,D Q j s] 92)):=ġ;have aY:=χ wr (C #[IZ G,IZ H,D Q j s] 92);have b2:(å wr (C #[IZ G,IZ H,D Q j s] 92)).cell? ⟨wr.heap.size,2,O⟩=J (D Q j s):=by rw[ν _ _ _ _ _ _ aY];rfl
       have d9:wr.heap.size<(å wr (C #[IZ G,IZ H,D Q j s] 92)).heap.size:=ο aY;have aE:=ζ y ax;have b4:=ζ y cK;have cL:=ζ y b1;have bD:Hid (∀ q,(Value.slice Z o aa).ownBlock=J q->q≠wr.heap.size/\Y.heap.size<=q):=fun q an=>by
        rw[bm]at an;have:=bp.lt q an;omega
       clear aY ax cK b1 bm bp;by_cases al:l<j
       .obtain⟨b,V,da,dc,rfl,I,aI,aL⟩:=bx.o l (by rw[<-av.o];exact al)
        rw[tp aj.o]at I aI aL;have dY:=ib _ _ I;replace I:=ζ aP I;replace aI:=ζ aP aI;replace aL:=aL.below aP;have cB:=cd.o i (gz a d i) (by rw[<-tp aj.o (by rw[<-av.o];exact al)];exact Χ _);obtain⟨B,aO⟩:∃ ad,ad=(gz a d i).1:=⟨_,rfl⟩;obtain⟨a7,bK⟩:∃ ad,ad=(gz a d i).2:=⟨_,rfl⟩;rw[<-aO]at I;rw[<-bK]at aI aL cB;have a4:=Zh aO;have b9:=Zh bK;clear aO bK;obtain⟨A,bL⟩:∃ ad,ad=L a7:=⟨_,rfl⟩;rw[<-bL]at aI aL cB;have cQ:=Zh bL;clear bL;unfold ϴ at I;have ay:=ζ y I;have cl:=ζ y aI;have cN:=Zh aL;have cF:(l:Int)<(j:Int):=ϊ;have dJ:(0:Int)<=(l:Int):=ϊ;have c7:decide ((l:Int)<(j:Int))=true:=kr cF;clear I aI aL;by_cases bt:B=k
        .subst bt
         have bU:((δ B).toList==(δ B).toList)=true:=un _;have aw:Hid (d i<L (a i)/\(gz a d i).1=B):=⟨by rw[<-aj.o,<-av.o];exact al,a4.o.symm⟩;go_wp2_with fail
         generalize ba:(å wr (C #[IZ G,IZ H,D (J ⟨b,V,O⟩) j s] 92))=a5 at *;clear ba;have r1:=ϻ aE;have r2:=ϻ b2;have r3:=ϻ ay;have r4:=ϻ b4;refine jj ao ϋ ?_;repeat (go_big_quiet_step (fail))
         refine jk ?_;intro aH v;obtain⟨⟨R,osq⟩,n⟩:=v;have S:=jl a5 R osq;rw[<-n]at S;clear n r1 r2 r3 r4;have cm:=ζ S cL;have cH:=ζ S b2;have cG:=ζ S aE;have ck:=ζ S cl;have b8:=y.trans (S.mono y.size);clear S b4 cL b2 aE ay cl y;go_wp2_with fail
         refine ϸ (fun t=>t.cell? ⟨r,1,O⟩=J (D Z o aa)/\t.cell? ⟨wr.heap.size,2,O⟩=J (D (J ⟨b,V,O⟩) j s)/\t.cell? ⟨w.heap.size,i,O⟩=J (IZ l)/\t.cell? ⟨b,V+l*2+1,O⟩=J (D da A dc)) 12 ϋ ?_;have E:aH.drew.cell? ⟨r,1,O⟩=J (D Z o aa)/\aH.drew.cell? ⟨wr.heap.size,2,O⟩=J (D (J ⟨b,V,O⟩) j s)/\aH.drew.cell? ⟨w.heap.size,i,O⟩=J (IZ l)/\aH.drew.cell? ⟨b,V+l*2+1,O⟩=J (D da A dc):=⟨cm,cH,cG,ck⟩;have aB:=b8.drew;clear b8 cm cH cG ck;generalize aH.drew=wd at *;refine gJ (fuel:=13) 0 (þ (J ⟨r,1,O⟩)) rfl ϋ ϋ ϋ ϋ (fun _ _ _ h=>h) ϋ ?_ E ?_
         .intro t
          go_simp
         refine lD (fuel:=12) 1 (D Z o aa) rfl ϋ ϋ ϋ ϋ (fun _ _ _ h=>h) ϋ ?_ E ?_
         .intro t aJ
          obtain⟨bf,bW,bX,bY⟩:=aJ;go_simp
         refine gJ (fuel:=11) 2 (þ (J ⟨wr.heap.size,2,O⟩)) rfl ϋ ϋ ϋ ϋ (fun _ _ _ h=>h) ϋ ?_ E ?_
         .intro t
          go_simp
         refine lD (fuel:=10) 3 (D (J ⟨b,V,O⟩) j s) rfl ϋ ϋ ϋ ϋ (fun _ _ _ h=>h) ϋ ?_ E ?_
         .intro t aJ
          obtain⟨bf,bW,bX,bY⟩:=aJ;go_simp
         refine gJ (fuel:=9) 4 (D (J ⟨w.heap.size,0,O⟩) f f) rfl ϋ ϋ ϋ ϋ (fun _ _ _ h=>h) ϋ ?_ E ?_
         .intro t
          go_simp
         refine gJ (fuel:=8) 5 (IZ i) rfl ϋ ϋ ϋ ϋ (fun _ _ _ h=>h) ϋ ?_ E ?_
         .intro t
          go_simp
         refine gJ (fuel:=7) 6 (þ (J ⟨w.heap.size,i,O⟩)) rfl ϋ ϋ ϋ ϋ (fun _ _ _ h=>h) ϋ ?_ E ?_
         .intro t
          go_simp
         refine lD (fuel:=6) 7 (IZ l) rfl ϋ ϋ ϋ ϋ (fun _ _ _ h=>h) ϋ ?_ E ?_
         .intro t aJ
          obtain⟨bf,bW,bX,bY⟩:=aJ;go_simp
         refine gJ (fuel:=5) 8 (þ (J ⟨b,V+l*2,O⟩)) rfl ϋ ϋ ϋ ϋ (fun _ _ _ h=>h) ϋ ?_ E ?_
         .intro t
          go_simp
         refine gJ (fuel:=4) 9 (þ (J ⟨b,V+l*2+1,O⟩)) rfl ϋ ϋ ϋ ϋ (fun _ _ _ h=>h) ϋ ?_ E ?_
         .intro t
          go_simp
         refine lD (fuel:=3) 10 (D da A dc) rfl ϋ ϋ ϋ ϋ (fun _ _ _ h=>h) ϋ ?_ E ?_
         .intro t aJ
          obtain⟨bf,bW,bX,bY⟩:=aJ;go_simp
         refine Ψ (fuel:=2) 11 ϋ rfl ?_;intro K cr;have bp:Hid (wr.ownsRow Y.heap.size 3 1 (D Z o aa) o (τ (jd a d B i))):=by
          show World.ownsRow _ _ _ _ _ _ _;rw[bB.o];exact aq.o.own
         have ec:=aB.size;have dX:w.heap.size<=Y.heap.size:=co.size;have ea:wr.heap.size<wd.heap.size:=ib _ _ E.2.1;refine lx (by rfl) (.tmp 102) (.tmp 111) _ _ (by rfl) Y.heap.size 3 dz _ 1 8 jm df dg dh di rfl (D Z o aa) o (τ (jd a d B i)) ϋ (mz bp.o aB) (D da A dc) A (τ a7) ϋ (Rd.src jm (cN.o.below aB) (fun ad cE=>by simp only[τ,hI]at cE;obtain⟨x,_,rfl⟩:=cE;rfl)) ώ ϊ ϊ ?_;intro dT W br am _;obtain⟨af,ag,rfl⟩:=Θ br;have P:∀ q,(q=r\/q=wr.heap.size\/q=w.heap.size\/q=b)->J q≠(Value.slice Z o aa).ownBlock:=fun q an e=>by
          have:=bD.o q e.symm;omega
         have bl:W.heap[r]?=J (C #[š (δ B),D Z o aa] 130 (0,0)):=by
          rw[am.block _ ϊ (P r (.inl rfl)),aB.block _ ϊ];have:=aq.o.ent;rw[<-bB.o]at this;exact this
         have ct:Hid (lk W w.heap.size f (jC a d B i)):=(aq.o.next.same (aB.block _ dr)).same (am.block _ ϊ (P _ (.inr (.inr (.inl rfl)))));have cs:Hid (∀ q,q<Y.heap.size->W.heap[q]?=wd.heap[q]?):=fun q an=>am.block q ϊ (fun e=>by have:=(bD.o q e.symm).2;omega);have eb:=am.size;have dd:=Zh am;refine cr _ _ ⟨am.cell E.1 (P r (.inl rfl)),am.cell E.2.1 (P _ (.inr (.inl rfl))),am.cell E.2.2.1 (P _ (.inr (.inr (.inl rfl)))),am.cell E.2.2.2 (P b (.inr (.inr (.inr rfl))))⟩ ?_;clear cr K am;have dH:W.cell? ⟨r,1,O⟩=J (D Z o aa):=by rw[ν _ _ _ _ _ _ bl];rfl
         have c1:W.frozen? ⟨r,1,O⟩=false:=ϥ _ _ _ _ _ bl;refine Ze 12 ?_;refine Ze 13 ?_;refine Zd ?_;have cp:(ŝ W ⟨r,1,O⟩ (D af (o+A) ag)).heap[r]?=J (C #[š (δ B),D af (o+A) ag] 130 (0,0)):=π W r 1 _ _ (D af (o+A) ag) bl;have bo:lk (ŝ W ⟨r,1,O⟩ (D af (o+A) ag)) w.heap.size f (jC a d B i):=ct.o.same (ψ _ _ _ _ ό);have cC:Hid ((ŝ W ⟨r,1,O⟩ (D af (o+A) ag)).ownsRow Y.heap.size 3 1 (D af (o+A) ag) (o+A) (τ (jd a d B i)++τ a7)):=qD br fun g hg=>ψ _ _ _ _ (by have:=(br.lt g hg).1;simp;omega);have dn:Hid (∀ q,q<Y.heap.size->q≠r->q≠w.heap.size->(ŝ W ⟨r,1,O⟩ (D af (o+A) ag)).heap[q]?=Y.heap[q]?):=fun q ah ai aT=>by
          rw[ψ _ _ _ _ (by simpa using ai),cs.o q ah,aB.block q ϊ];exact aq.o.keep q ah ai aT
         have c6:Hid (BQ w (ŝ W ⟨r,1,O⟩ (D af (o+A) ag))):=((aq.o.bel.trans (aB.mono aq.o.bel.size)).grown dd.o ϊ (fun q an=>by have:=(bD.o q an).2;omega)).setCell ό _;have dv:Y.heap.size<=(ŝ W ⟨r,1,O⟩ (D af (o+A) ag)).heap.size:=ό;generalize ŝ W ⟨r,1,O⟩ (D af (o+A) ag)=cJ at *;clear br bl ct cs dH c1 E aB;have eh:cJ.cell? ⟨w.heap.size,i,O⟩=J (IZ l):=by
          have:=(bo.cell aD).1;rw[AR,<-aj.o]at this;exact this
         have dU:cJ.frozen? ⟨w.heap.size,i,O⟩=false:=(bo.cell aD).2.1;have ed:IntKind.i64.wrap ((l:Int)+1)=(l:Int)+1:=Ϗ;have cO:=Zh cp;have cR:=Zh bo;clear cp bo;go_wp2
         go_roundg az
         case rel =>
          refine⟨i+1,ϊ,ϕ,⟨D af (o+A) ag,?_⟩⟩;have dp:L (jd a d B (i+1))=o+A:=by
           rw[yh aw.o.1 aw.o.2,ω,<-b9.o,<-cQ.o,<-bB.o]
          refine⟨?_,?_,?_,?_,?_,?_⟩
          .rw[ψ _ _ _ _ ό];exact cO.o
          .refine cR.o.set i _ ?_ fun q an dt=>?_
           .rw[AT aw.o.1 aw.o.2,μ rfl,<-aj.o];rfl
           .rw[AT aw.o.1 aw.o.2,κ dt]
          .rw[dp,yh aw.o.1 aw.o.2,<-b9.o,show τ (jd a d B i++a7)=τ (jd a d B i)++τ a7 from ou ..]
           exact qD cC.o fun g hg=>ψ _ _ _ _ (by have:=(cC.o.lt g hg).1;simp;omega)
          .intro q ah ai aT
           rw[ψ _ _ _ _ (by simpa using aT)];exact dn.o q ah ai aT
          .exact c6.o.setCell NZ _
          .simpa using dv
         case measure=>omega
        .have bU:((δ B).toList==(δ k).toList)=false:=by rw[hC,hC,gl];exact bt
         have a2:Hid (¬(d i<L (a i)/\(gz a d i).1=k)):=fun h=>bt (by rw[a4.o];exact h.2);clear bt;go_wp2_with fail
         generalize ba:(å wr (C #[IZ G,IZ H,D (J ⟨b,V,O⟩) j s] 92))=a5 at *;clear ba;have r1:=ϻ aE;have r2:=ϻ b2;have r3:=ϻ ay;have r4:=ϻ b4;refine jj ao ϋ ?_;repeat (go_big_quiet_step (fail))
         refine jk ?_;intro aH v;obtain⟨⟨R,osq⟩,n⟩:=v;have S:=y.trans ((jl a5 R osq).mono y.size);rw[<-n]at S;clear n r1 r2 r3 r4;go_wp2
         go_roundg az
         case rel=>exact⟨i+1,ϊ,ϕ,⟨_,(aq.o.below S).congr (fun q _=>(AS a2.o q).symm) (yg a2.o).symm⟩⟩
         case measure=>omega
       .have c7:decide ((l:Int)<(j:Int))=false:=iC ϊ
        have dZ:decide (l<j)=false:=iC al;have d0:¬(l:Int)<(j:Int):=ϊ;have a2:Hid (¬(d i<L (a i)/\(gz a d i).1=k)):=fun h=>al (by rw[aj.o,av.o];exact h.1);clear al;go_wp2_with fail
        generalize ba:(å wr (C #[IZ G,IZ H,D Q j s] 92))=a5 at *;clear ba;have r1:=ϻ aE;have r2:=ϻ b2;refine jj ao ϋ ?_;repeat (go_big_quiet_step (fail))
        refine jk ?_;intro aH v;obtain⟨⟨R,osq⟩,n⟩:=v;have S:=y.trans ((jl a5 R osq).mono y.size);rw[<-n]at S;clear n r1 r2;go_wp2
        go_roundg az
        case rel=>exact⟨i+1,ϊ,ϕ,⟨_,(aq.o.below S).congr (fun q _=>(AS a2.o q).symm) (yg a2.o).symm⟩⟩
        case measure=>omega
   |succ az =>
    have aW:f<m:=ϊ;have dI:(f:Int)<(m:Int):=ϊ;have dB:(0:Int)<=(f:Int):=ϊ;have bR:=ζ ap (X.o.c0 f aW);have l1:=ζ ap (X.o.c1 f aW);have l2:=ζ ap (X.o.c2 f aW);obtain⟨Q,s,bd,bM,bx⟩:=iF ((X.o.rd f aW).below ap);rw[bd]at l2;have ax:=ζ ak (ae.o.next.cell aW).1;have bb:=bC.o f aW;generalize F f=G at bR;generalize T f=H at l1;have a3:Hid (∃ l,l=d f):=⟨_,rfl⟩;obtain⟨l,aN⟩:=a3.o;have a1:Hid (∃ j,j=L (a f)):=⟨_,rfl⟩;obtain⟨j,P⟩:=a1.o;rw[<-aN]at ax bb;rw[<-P]at l2 bM bb;have aj:=Zh aN;have av:=Zh P;clear aN P a3 a1 bd;have y:BQ wr (å wr (C #[IZ G,IZ H,D Q j s] 92)):=ġ;have aA:BQ w1 (å wr (C #[IZ G,IZ H,D Q j s] 92)):=ak.alloc ak.size _;have aY:=χ wr (C #[IZ G,IZ H,D Q j s] 92);have b2:(å wr (C #[IZ G,IZ H,D Q j s] 92)).cell? ⟨wr.heap.size,2,O⟩=J (D Q j s):=by rw[ν _ _ _ _ _ _ aY];rfl
    have aF:=ζ y ax;clear aY ax;by_cases al:l<j
    .have bf:((l:Int)==(j:Int))=false:=gl.2 ϊ
     have cc:Hid (d f<L (a f)):=by show _;rw[<-aj.o,<-av.o];exact al
     obtain⟨b,V,da,dc,rfl,I,-,-⟩:=bx.o l (by rw[<-av.o];exact al);rw[tp aj.o]at I;obtain⟨B,aO⟩:∃ ad,ad=(gz a d f).1:=⟨_,rfl⟩;rw[<-aO]at I;have a4:=Zh aO;clear aO;unfold ϴ at I;have ay:=ζ y I;have cF:(l:Int)<(j:Int):=ϊ;have dJ:(0:Int)<=(l:Int):=ϊ;rcases ar.o.form with M|⟨p,M,cy,bP⟩
     .have a0:Hid (iJ a d (f+1) (f:Int)):=by
       show _;have:=ar.o;rw[M]at this;exact this.first cc.o
      rw[M];clear M I;go_wp2_with fail
      generalize aK:(å wr (C #[IZ G,IZ H,D (J ⟨b,V,O⟩) j s] 92))=aG at *;clear aK;have r1:=ϻ b2;have r2:=ϻ aF;refine jj ao ϋ ?_;repeat (go_big_quiet_step (fail))
      refine jk ?_;intro aR v;obtain⟨⟨R,osq⟩,n⟩:=v;have ac:=aA.trans ((jl aG R osq).mono aA.size);rw[<-n]at ac;clear n r1 r2;go_wp2_with fail
      refine jj ao ϋ ?_;repeat (go_big_quiet_step (fail))
      refine jk ?_;intro cj v;obtain⟨⟨a6,be⟩,n⟩:=v;have aC:=ac.trans ((jl aR a6 be).mono ac.size);rw[<-n]at aC;clear n;go_wp2
      go_roundg az
      case rel=>exact⟨f+1,f,ϊ,rfl,ϕ,a0.o,aC⟩
      case measure=>omega
     .have aM:p<m:=ϊ
      have b5:=ζ ap (X.o.c2 p aM);obtain⟨cX,c0,bc,-,aZ⟩:=iF ((X.o.rd p aM).below ap);obtain⟨b0,bV,cY,cZ,rfl,a8,-,-⟩:=aZ.o (d p) bP;rw[bc]at b5;rw[tp rfl]at a8;have cM:=ζ ak (ae.o.next.cell aM).1;obtain⟨cI,bQ⟩:∃ ad,ad=(gz a d p).1:=⟨_,rfl⟩;rw[<-bQ]at a8;have cg:=Zh bQ;unfold ϴ at a8;have bv:=ζ y b5;have bi:=ζ y a8;have bw:=ζ y cM;clear bQ bc b5 a8 cM I aZ;generalize bO:d p=au at *;generalize bN:L (a p)=bu at *;have dC:(au:Int)<(bu:Int):=ϊ;have dD:(0:Int)<=(au:Int):=ϊ;have dE:(p:Int)<(m:Int):=ϊ;have dF:(0:Int)<=(p:Int):=ϊ;have dG:decide ((p:Int)<0)=false:=iC ϊ;have ee:¬(p:Int)<0:=ϊ;have cA:=qy B cI;have bz:=ar.o;rw[M]at bz;have bg:=Zh bz;clear bz bO bN;rw[M];clear M ar;cases aX:ltStr B cI with
      |true =>
       rw[aX]at cA;have a0:Hid (iJ a d (f+1) (f:Int)):=by
        show _;exact bg.o.less cc.o (by rw[<-a4.o,<-cg.o];exact aX)
       clear aX bg;go_wp2_with fail
       generalize aK:(å wr (C #[IZ G,IZ H,D (J ⟨b,V,O⟩) j s] 92))=aG at *;clear aK;have r1:=ϻ b2;have r2:=ϻ aF;refine jj ao ϋ ?_;repeat (go_big_quiet_step (fail))
       refine jk ?_;intro aR v;obtain⟨⟨R,osq⟩,n⟩:=v;have u:=jl aG R osq;rw[<-n]at u;have ac:=aA.trans (u.mono aA.size);have b3:=ζ u b2;have bT:=ζ u aF;have bH:=ζ u ay;have b6:=ζ u bv;have bG:=ζ u bi;have b7:=ζ u bw;clear n r1 r2 b2 aF ay bv bi bw u;go_wp2_with fail
       have r1:=ϻ b3;have r2:=ϻ bT;have r3:=ϻ bH;have r4:=ϻ b6;have bZ:=ϻ bG;have r6:=ϻ b7;refine jj ao ϋ ?_;repeat (go_big_quiet_step (fail))
       refine jk ?_;intro cj v;obtain⟨⟨a6,be⟩,n⟩:=v;have aC:=ac.trans ((jl aR a6 be).mono ac.size);rw[<-n]at aC;clear n r1 r2 r3 r4 bZ r6;go_wp2
       go_roundg az
       case rel=>exact⟨f+1,f,ϊ,rfl,ϕ,a0.o,aC⟩
       case measure=>omega
      |false =>
       rw[aX]at cA;have a0:Hid (iJ a d (f+1) (p:Int)):=by
        show _;exact bg.o.stay (by rw[<-a4.o,<-cg.o];exact aX)
       clear aX bg;go_wp2_with fail
       generalize aK:(å wr (C #[IZ G,IZ H,D (J ⟨b,V,O⟩) j s] 92))=aG at *;clear aK;have r1:=ϻ b2;have r2:=ϻ aF;refine jj ao ϋ ?_;repeat (go_big_quiet_step (fail))
       refine jk ?_;intro aR v;obtain⟨⟨R,osq⟩,n⟩:=v;have u:=jl aG R osq;rw[<-n]at u;have ac:=aA.trans (u.mono aA.size);have b3:=ζ u b2;have bT:=ζ u aF;have bH:=ζ u ay;have b6:=ζ u bv;have bG:=ζ u bi;have b7:=ζ u bw;clear n r1 r2 b2 aF ay bv bi bw u;go_wp2_with fail
       have r1:=ϻ b3;have r2:=ϻ bT;have r3:=ϻ bH;have r4:=ϻ b6;have bZ:=ϻ bG;have r6:=ϻ b7;refine jj ao ϋ ?_;repeat (go_big_quiet_step (fail))
       refine jk ?_;intro cj v;obtain⟨⟨a6,be⟩,n⟩:=v;have aC:=ac.trans ((jl aR a6 be).mono ac.size);rw[<-n]at aC;clear n r1 r2 r3 r4 bZ r6;go_wp2
       go_roundg az
       case rel=>exact⟨f+1,p,ϊ,rfl,ϕ,a0.o,aC⟩
       case measure=>omega
    .have bf:((l:Int)==(j:Int))=true:=by rw[show l=j by omega];exact un _
     have cb:=Zh (ar.o.skip (by rw[<-aj.o,<-av.o];exact al));go_wp2_with fail
     generalize aK:(å wr (C #[IZ G,IZ H,D Q j s] 92))=aG at *;clear aK;have r1:=ϻ b2;have r2:=ϻ aF;refine jj ao ϋ ?_;repeat (go_big_quiet_step (fail))
     refine jk ?_;intro aR v;obtain⟨⟨R,osq⟩,n⟩:=v;have ac:=aA.trans ((jl aG R osq).mono aA.size);rw[<-n]at ac;clear n r1 r2;go_wp2
     go_roundg az
     case rel=>exact⟨f+1,x,ϊ,rfl,ϕ,cb.o,ac⟩
     case measure=>omega
