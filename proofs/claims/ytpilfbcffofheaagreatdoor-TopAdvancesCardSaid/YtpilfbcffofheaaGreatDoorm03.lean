/- Part 3 of the proof. -/
import Derived.Test.YtpilfbcffofheaaGreatDoorm01
import Derived.Test.YtpilfbcffofheaaGreatDoorm02
set_option linter.all false
set_option maxRecDepth 100000
set_option maxHeartbeats 16000000
namespace Go.Proofs.YtpilfbcffofheaaGreatDoor
open Go.RowKit Go.Proofs.Tryz Go.Sort
open Value renaming slice->D,int->ĭ,agg->ā,string->š,pointer->þ
open Option renaming none->O,some->J
open List renaming length->L
open Obj renaming cells->C
open Ending renaming returned->ŗ
open World renaming alloc->å,setCell->ŝ
def gZ (s:S8) (b:γ):S8×γ:=if L b<64 then(s,b)else gZ (lR s (b.take 64)) (b.drop 64)
 termination_by (L b)
 decreasing_by simp;omega
def tu (s) {b} (h:L b<64):gZ s b=(s,b):=by rw[gZ,μ h]
def vx (s) {b} (h:64<=L b):gZ s b=gZ (lR s (b.take 64)) (b.drop 64):=by rw[gZ,κ U]
def xy (n):∀ (s:S8) (b:γ),L b<=n->s.ok->(gZ s b).1.ok/\L (gZ s b).2=L b % 64:=by
 induction n with
 |zero =>
  intro s b h a;rw[tu s U];exact⟨a,by show L b=_;omega⟩
 |succ n d =>
  intro s b h a;by_cases c:L b<64
  .rw[tu s c];exact⟨a,by show L b=_;omega⟩
  .rw[vx s U]
   have:=d (lR s (b.take 64)) (b.drop 64) ό (zb _ _);refine⟨this.1,?_⟩;rw[this.2,fT];omega
def vA {w:β} {b off c n k} {l:γ} (h:Rd w (D (J ⟨b,off,O⟩) n c) n 1 (η l)) (s:k<=n):Rd w (D (J ⟨b,off,O⟩) k c) k 1 (η (l.take k)):=by
 obtain⟨f,u,j⟩:=h;have t:L l=n:=by simpa[η] using f
 refine⟨by simp[η];omega,U,?_⟩;by_cases m:k=0
 .subst m;exact .inl ⟨_,_,rfl,rfl⟩
 .rcases j with ⟨q,d,a,e⟩|⟨r,x,d,a,e,v,i,g⟩
  .omega
  .simp only[Χ,Φ,Addr.mk.injEq,it,ϵ]at a
   obtain⟨⟨rfl,rfl⟩,rfl⟩:=a;refine .inr ⟨b,off,c,rfl,U,U,i,fun o p hi=>g o p ?_⟩;simp only[η,List.map_take,iH]at hi ⊢;split at hi
   .exact hi
   .cases hi
def vz {w:β} {b off c n k} {l:γ} (h:Rd w (D (J ⟨b,off,O⟩) n c) n 1 (η l)) (r:k<=n):Rd w (D (J ⟨b,off+k,O⟩) (n - k) (c - k)) (n - k) 1 (η (l.drop k)):=by
 obtain⟨f,t,i⟩:=h;have s:L l=n:=by simpa[η] using f
 refine⟨by simp[η];omega,U,?_⟩;by_cases j:n - k=0
 .rw[j];exact .inl ⟨_,_,rfl,rfl⟩
 .rcases i with ⟨o,d,a,e⟩|⟨p,x,d,a,e,u,q,g⟩
  .omega
  .simp only[Χ,Φ,Addr.mk.injEq,it,ϵ]at a
   obtain⟨⟨rfl,rfl⟩,rfl⟩:=a;refine .inr ⟨b,off+k,c - k,rfl,U,U,U,fun v m hi=>?_⟩;rw[iX];refine g _ m ?_;simpa[η] using hi
def pX {w:β} (ao c):Rd w (D ao 0 c) 0 1 (η []):=⟨rfl,ώ,.inl ⟨_,_,rfl,rfl⟩⟩
def uH {w:β} {ao n c} {e:List ε} (h:Rd w (D ao n c) n 1 e) (l:0<n):∃ b off,ao=J ⟨b,off,O⟩/\n<=c/\c<=maxLen:=by
 obtain⟨-,-,⟨j,d,a,f⟩|⟨k,m,d,a,f,i,g,-⟩⟩:=h
 .omega
 .simp only[Χ,ϵ]at a
  obtain⟨rfl,rfl⟩:=a;exact⟨_,_,rfl,i,g⟩
def Fm {w:β} {g T} {j i f e d c b a:ε} (h:w.heap[g]?=J (C #[j,i,f,e,d,c,b,a] T (0,0))) (y0 y1 y2 y3 y4 y5 y6 y7) :
  (ŝ (ŝ (ŝ (ŝ (ŝ (ŝ (ŝ (ŝ w ⟨g,0,O⟩ (ĭ .u32 y0)) ⟨g,1,O⟩ (ĭ .u32 y1)) ⟨g,2,O⟩ (ĭ .u32 y2)) ⟨g,3,O⟩ (ĭ .u32 y3)) ⟨g,4,O⟩ (ĭ .u32 y4)) ⟨g,5,O⟩ (ĭ .u32 y5)) ⟨g,6,O⟩ (ĭ .u32 y6)) ⟨g,7,O⟩ (ĭ .u32 y7)).heap[g]?=J (C #[ĭ .u32 y0,ĭ .u32 y1,ĭ .u32 y2,ĭ .u32 y3,ĭ .u32 y4,ĭ .u32 y5,ĭ .u32 y6,ĭ .u32 y7] T (0,0)):=by
 have k:(ŝ w ⟨g,0,O⟩ (ĭ .u32 y0)).heap[g]?=J (C #[ĭ .u32 y0,i,f,e,d,c,b,a] T (0,0)):=υ _ g 0 _ _ _ h;have l:(ŝ (ŝ w ⟨g,0,O⟩ (ĭ .u32 y0)) ⟨g,1,O⟩ (ĭ .u32 y1)).heap[g]?=J (C #[ĭ .u32 y0,ĭ .u32 y1,f,e,d,c,b,a] T (0,0)):=υ _ g 1 _ _ _ k;have m:(ŝ (ŝ (ŝ w ⟨g,0,O⟩ (ĭ .u32 y0)) ⟨g,1,O⟩ (ĭ .u32 y1)) ⟨g,2,O⟩ (ĭ .u32 y2)).heap[g]?=J (C #[ĭ .u32 y0,ĭ .u32 y1,ĭ .u32 y2,e,d,c,b,a] T (0,0)):=υ _ g 2 _ _ _ l;have n:(ŝ (ŝ (ŝ (ŝ w ⟨g,0,O⟩ (ĭ .u32 y0)) ⟨g,1,O⟩ (ĭ .u32 y1)) ⟨g,2,O⟩ (ĭ .u32 y2)) ⟨g,3,O⟩ (ĭ .u32 y3)).heap[g]?=J (C #[ĭ .u32 y0,ĭ .u32 y1,ĭ .u32 y2,ĭ .u32 y3,d,c,b,a] T (0,0)):=υ _ g 3 _ _ _ m;have o:(ŝ (ŝ (ŝ (ŝ (ŝ w ⟨g,0,O⟩ (ĭ .u32 y0)) ⟨g,1,O⟩ (ĭ .u32 y1)) ⟨g,2,O⟩ (ĭ .u32 y2)) ⟨g,3,O⟩ (ĭ .u32 y3)) ⟨g,4,O⟩ (ĭ .u32 y4)).heap[g]?=J (C #[ĭ .u32 y0,ĭ .u32 y1,ĭ .u32 y2,ĭ .u32 y3,ĭ .u32 y4,c,b,a] T (0,0)):=υ _ g 4 _ _ _ n;have p:(ŝ (ŝ (ŝ (ŝ (ŝ (ŝ w ⟨g,0,O⟩ (ĭ .u32 y0)) ⟨g,1,O⟩ (ĭ .u32 y1)) ⟨g,2,O⟩ (ĭ .u32 y2)) ⟨g,3,O⟩ (ĭ .u32 y3)) ⟨g,4,O⟩ (ĭ .u32 y4)) ⟨g,5,O⟩ (ĭ .u32 y5)).heap[g]?=J (C #[ĭ .u32 y0,ĭ .u32 y1,ĭ .u32 y2,ĭ .u32 y3,ĭ .u32 y4,ĭ .u32 y5,b,a] T (0,0)):=υ _ g 5 _ _ _ o;have q:(ŝ (ŝ (ŝ (ŝ (ŝ (ŝ (ŝ w ⟨g,0,O⟩ (ĭ .u32 y0)) ⟨g,1,O⟩ (ĭ .u32 y1)) ⟨g,2,O⟩ (ĭ .u32 y2)) ⟨g,3,O⟩ (ĭ .u32 y3)) ⟨g,4,O⟩ (ĭ .u32 y4)) ⟨g,5,O⟩ (ĭ .u32 y5)) ⟨g,6,O⟩ (ĭ .u32 y6)).heap[g]?=J (C #[ĭ .u32 y0,ĭ .u32 y1,ĭ .u32 y2,ĭ .u32 y3,ĭ .u32 y4,ĭ .u32 y5,ĭ .u32 y6,a] T (0,0)):=υ _ g 6 _ _ _ p;have r:(ŝ (ŝ (ŝ (ŝ (ŝ (ŝ (ŝ (ŝ w ⟨g,0,O⟩ (ĭ .u32 y0)) ⟨g,1,O⟩ (ĭ .u32 y1)) ⟨g,2,O⟩ (ĭ .u32 y2)) ⟨g,3,O⟩ (ĭ .u32 y3)) ⟨g,4,O⟩ (ĭ .u32 y4)) ⟨g,5,O⟩ (ĭ .u32 y5)) ⟨g,6,O⟩ (ĭ .u32 y6)) ⟨g,7,O⟩ (ĭ .u32 y7)).heap[g]?=J (C #[ĭ .u32 y0,ĭ .u32 y1,ĭ .u32 y2,ĭ .u32 y3,ĭ .u32 y4,ĭ .u32 y5,ĭ .u32 y6,ĭ .u32 y7] T (0,0)):=υ _ g 7 _ _ _ q;exact r
def Ce {B} {a w:β} {g} (h:Below B a w) (b:B<=g) (y0 y1 y2 y3 y4 y5 y6 y7) :
  Below B a (ŝ (ŝ (ŝ (ŝ (ŝ (ŝ (ŝ (ŝ w ⟨g,0,O⟩ (ĭ .u32 y0)) ⟨g,1,O⟩ (ĭ .u32 y1)) ⟨g,2,O⟩ (ĭ .u32 y2)) ⟨g,3,O⟩ (ĭ .u32 y3)) ⟨g,4,O⟩ (ĭ .u32 y4)) ⟨g,5,O⟩ (ĭ .u32 y5)) ⟨g,6,O⟩ (ĭ .u32 y6)) ⟨g,7,O⟩ (ĭ .u32 y7)):=
 (((((((h.S b _).S b _).S b _).S b _).S b _).S b _).S b _).S b _
def Mj (w:β) (g k) (a:k≠g) (y0 y1 y2 y3 y4 y5 y6 y7) :
  (ŝ (ŝ (ŝ (ŝ (ŝ (ŝ (ŝ (ŝ w ⟨g,0,O⟩ (ĭ .u32 y0)) ⟨g,1,O⟩ (ĭ .u32 y1)) ⟨g,2,O⟩ (ĭ .u32 y2)) ⟨g,3,O⟩ (ĭ .u32 y3)) ⟨g,4,O⟩ (ĭ .u32 y4)) ⟨g,5,O⟩ (ĭ .u32 y5)) ⟨g,6,O⟩ (ĭ .u32 y6)) ⟨g,7,O⟩ (ĭ .u32 y7)).heap[k]?=w.heap[k]?:=by
 rw[Γ _ _ _ _ a,Γ _ _ _ _ a,Γ _ _ _ _ a,Γ _ _ _ _ a,Γ _ _ _ _ a,Γ _ _ _ _ a,Γ _ _ _ _ a,Γ _ _ _ _ a]
def gz {P fn} {p u:Tmp} {ty} (h:fn.results=#[.cell p ty,.tmp u]) (i:Array ε) (w:β) (g t) (a:Array ε) (fr d)
  (c:i.getD p undef=þ (J ⟨g,0,O⟩)) (j:w.heap[g]?=J (C a t fr))
  (f:P.underlying ty=J d) (b:(match d with|.struct _|.array _ _=>true|_=>false)=true) (k:(P.info? ty).map (·.size)=J a.size) :
  (results fn i).run P w=.ok (.tuple #[ā a,i.getD u undef]) w:=by
 have e:i[p]?.getD undef=þ (J ⟨g,0,O⟩):=by simpa using c
 simp[results,h,e,asAddr,vR w g t ty a fr d j f b k]
def Ho (s:S8) (b:γ) (w:β) (e:Ending) (d:β):Prop:= ∃ a c,e=ŗ (.tuple #[ā (gZ s b).1.cells,D a (L (gZ s b).2) c])/\Rd d (D a (L (gZ s b).2) c) (L (gZ s b).2) 1 (η (gZ s b).2)/\Below w.heap.size w d
def FI (h0 h1 h2 h3 h4 h5 h6 h7) (aZ:(S8.mk h0 h1 h2 h3 h4 h5 h6 h7).ok) (ao n cp) (b:γ) (w:β) (aQ:L b=n) (bg:n<=1099511627776) (a0:Rd w (D ao n cp) n 1 (η b)) (a2:Ϭ w) :
  Calls prog 278 #[ā #[ĭ .u32 h0,ĭ .u32 h1,ĭ .u32 h2,ĭ .u32 h3,ĭ .u32 h4,ĭ .u32 h5,ĭ .u32 h6,ĭ .u32 h7],D ao n cp] w (Ho ⟨h0,h1,h2,h3,h4,h5,h6,h7⟩ b w):=by
 have⟨aG,aI,aE,aC⟩:=hV a0 a2 aZ aQ;go_enter func278,ntmps278;go_wp2_with fail
 have aR:BQ w (å w (C #[ĭ .u32 h0,ĭ .u32 h1,ĭ .u32 h2,ĭ .u32 h3,ĭ .u32 h4,ĭ .u32 h5,ĭ .u32 h6,ĭ .u32 h7] 315)):=ġ;have aY:=φ w (C #[ĭ .u32 h0,ĭ .u32 h1,ĭ .u32 h2,ĭ .u32 h3,ĭ .u32 h4,ĭ .u32 h5,ĭ .u32 h6,ĭ .u32 h7] 315);have az:(å w (C #[ĭ .u32 h0,ĭ .u32 h1,ĭ .u32 h2,ĭ .u32 h3,ĭ .u32 h4,ĭ .u32 h5,ĭ .u32 h6,ĭ .u32 h7] 315)).heap.size=w.heap.size+1:=ύ;generalize(å w _)=z at *;have ax:BQ z (å z (C #[ĭ .u32 0,ĭ .u32 0,ĭ .u32 0,ĭ .u32 0,ĭ .u32 0,ĭ .u32 0,ĭ .u32 0,ĭ .u32 0] 315)):=ġ;have ay:=φ z (C #[ĭ .u32 0,ĭ .u32 0,ĭ .u32 0,ĭ .u32 0,ĭ .u32 0,ĭ .u32 0,ĭ .u32 0,ĭ .u32 0] 315);have bh:(å z (C #[ĭ .u32 0,ĭ .u32 0,ĭ .u32 0,ĭ .u32 0,ĭ .u32 0,ĭ .u32 0,ĭ .u32 0,ĭ .u32 0] 315)).heap.size=w.heap.size+2:=by simp[az]
 generalize(å z _)=aw at *;have aD:Hid (aw.heap[w.heap.size]?=J (C #[ĭ .u32 h0,ĭ .u32 h1,ĭ .u32 h2,ĭ .u32 h3,ĭ .u32 h4,ĭ .u32 h5,ĭ .u32 h6,ĭ .u32 h7] 315 (0,0))):=(ax.block _ U).trans aY;rw[az]at ay;have⟨S,aA⟩:=π ay (aR.t ax);go_loopw [1] (fun ae wr=>∃ (s:S8) (A:Option Addr) (g c:Nat) (i:γ),ae=D A g c/\g<=n/\Hid (gZ s i=gZ ⟨h0,h1,h2,h3,h4,h5,h6,h7⟩ b)/\Hid (L i=g)/\Hid (Rd w (D A g c) g 1 (η i))/\Hid (wr.heap[w.heap.size]?=J (C s.cells 315 (0,0)))/\Hid s.ok/\Hid (BQ w wr)/\Hid (wr.heap[w.heap.size+1]?=aw.heap[w.heap.size+1]?)) (fun ae _=>gn ae)
 .exact⟨ _,ao,n,cp,b,rfl,NZ,rfl,aC.o,aG.o,aD.o,aE.o,aA.o,rfl⟩
 obtain⟨⟨l,m,o,p,q,r,t,x⟩,A,g,c,i,rfl,bf,ap,j,F,E,aH,B,T⟩:=hrel;by_cases aX:64<=g
 .obtain⟨ad,off,rfl,be,aU⟩:=uH F.o U
  unfold maxLen at aU;have a5:(64:Int)<=(g:Int):=U;have bi:(64:Int)<=(c:Int):=U;have bj:(g:Int)<=(c:Int):=U;have a:=E.o;simp only[S8.cells]at a;have c0:=ξ _ _ 0 _ _ _ a;have c1:=ξ _ _ 1 _ _ _ a;have c2:=ξ _ _ 2 _ _ _ a;have I:=ξ _ _ 3 _ _ _ a;have M:=ξ _ _ 4 _ _ _ a;have N:=ξ _ _ 5 _ _ _ a;have P:=ξ _ _ 6 _ _ _ a;have Q:=ξ _ _ 7 _ _ _ a;simp only[mD,pB,ol]at c0 c1 c2 I M N P Q;go_wp2_with fail
  refine ϯ (fun H=>BQ wr H) 4 ϋ ?_;have ac:BQ wr wr.drew:=RZ.drew;refine km (fuel:=4) 0 (ā #[ĭ .u32 l,ĭ .u32 m,ĭ .u32 o,ĭ .u32 p,ĭ .u32 q,ĭ .u32 r,ĭ .u32 t,ĭ .u32 x]) rfl ϋ ϋ ϋ ϋ (fun _ _ _ h=>h) ϋ ?_ ac ?_
  .intro H k
   have a8:=ζ k c0;have d1:=ζ k c1;have d2:=ζ k c2;have a9:=ζ k I;have ba:=ζ k M;have bb:=ζ k N;have bc:=ζ k P;have bd:=ζ k Q;go_simp
  refine gq  1 (D (J ⟨ad,off,O⟩) g c) rfl ϋ ϋ ϋ ϋ (fun _ _ _ h=>h) ϋ ?_ ac ?_
  .intro H
   go_simp
  refine gq  2 (D (J ⟨ad,off,O⟩) 64 c) rfl ϋ ϋ ϋ ϋ (fun _ _ _ h=>h) ϋ ?_ ac ?_
  .intro H
   go_simp
  refine Κ  3 ϋ rfl ?_;intro b0 aP;go_simp;have a3:L (i.take 64)=64:=by have:=j.o;simp;omega
  refine(PD l m o p q r t x aH.o ad off c _ _ a3 (vA (F.o.B B.o.drew) U) (aI.o.B B.o.drew)).M ?_;rintro b1 af ⟨rfl,aS⟩;have R:BQ wr af:=(ρ _ wr).drew.trans aS;have av:Hid (S8.ok (lR ⟨l,m,o,p,q,r,t,x⟩ (i.take 64))):=zb _ _;have aq:Hid (gZ (lR ⟨l,m,o,p,q,r,t,x⟩ (i.take 64)) (i.drop 64)=gZ ⟨h0,h1,h2,h3,h4,h5,h6,h7⟩ b):=(vx _ (ι j.o)).symm.trans ap.o;generalize lR _ _=a6 at *;obtain⟨ag,ah,ai,aj,ak,al,am,an⟩:=a6;simp only[S8.cells];refine aP _ _ R ?_;have d:=(R.block _ (ς E.o)).trans E.o;simp only[S8.cells]at d;have a1:=(R.block _ (by rw[<-T.o]at S;exact ς S.o)).trans T.o;have aB:=Zh (B.o.t R);have K:=ξ _ _ 0 _ _ _ d;have V:=ξ _ _ 1 _ _ _ d;have W:=ξ _ _ 2 _ _ _ d;have X:=ξ _ _ 3 _ _ _ d;have Y:=ξ _ _ 4 _ _ _ d;have Z:=ξ _ _ 5 _ _ _ d;have aa:=ξ _ _ 6 _ _ _ d;have ab:=ξ _ _ 7 _ _ _ d;have aK:=ϧ _ _ 0 _ _ d;have f1:=ϧ _ _ 1 _ _ d;have f2:=ϧ _ _ 2 _ _ d;have f3:=ϧ _ _ 3 _ _ d;have aL:=ϧ _ _ 4 _ _ d;have aM:=ϧ _ _ 5 _ _ d;have aN:=ϧ _ _ 6 _ _ d;have aO:=ϧ _ _ 7 _ _ d;simp only[mD,pB,ol]at K V W X Y Z aa ab;have⟨e,y⟩:=π (Fm d ag ah ai aj ak al am an) (Ce aB.o NZ ag ah ai aj ak al am an);have aF:=Zh (fun a4 aV=>Mj af w.heap.size a4 aV ag ah ai aj ak al am an);have aJ:=Zh a1;refine Zl ?_;refine Zd ?_;have au:=Zh ((aF.o _ U).trans aJ.o);generalize(ŝ (ŝ (ŝ (ŝ (ŝ (ŝ (ŝ (ŝ af _ _) _ _) _ _) _ _) _ _) _ _) _ _) _ _)=a7 at *;by_cases aT:c=64
  .subst aT
   obtain rfl:g=64:=U;go_wp2;go_roundw
   .exact⟨ _,_,0,0,_,rfl,U,aq.o,by show _=_;have:=j.o;simp;omega,by rw[show i.drop 64=[]from sx (ι j.o)];exact pX _ _,e.o,av.o,y.o,au.o⟩
   simp[gn]
  .go_wp2
   go_roundw
   .exact⟨ _,_,_,_,_,rfl,U,aq.o,by show _=_;have:=j.o;simp;omega,vz F.o aX,e.o,av.o,y.o,au.o⟩
   simp[gn];omega
 .have a5:¬(64:Int)<=(g:Int):=U
  have aW:=tu ⟨l,m,o,p,q,r,t,x⟩ (b:=i) (ι j.o);have ar:=Zh (ap.o.symm.trans aW);have a:=E.o;simp only[S8.cells]at a;have c0:=ξ _ _ 0 _ _ _ a;have c1:=ξ _ _ 1 _ _ _ a;have c2:=ξ _ _ 2 _ _ _ a;have I:=ξ _ _ 3 _ _ _ a;have M:=ξ _ _ 4 _ _ _ a;have N:=ξ _ _ 5 _ _ _ a;have P:=ξ _ _ 6 _ _ _ a;have Q:=ξ _ _ 7 _ _ _ a;simp only[mD,pB,ol]at c0 c1 c2 I M N P Q;have f:=T.o.trans S.o;have aK:=ϧ _ _ 0 _ _ f;have f1:=ϧ _ _ 1 _ _ f;have f2:=ϧ _ _ 2 _ _ f;have f3:=ϧ _ _ 3 _ _ f;have aL:=ϧ _ _ 4 _ _ f;have aM:=ϧ _ _ 5 _ _ f;have aN:=ϧ _ _ 6 _ _ f;have aO:=ϧ _ _ 7 _ _ f;have K:=ξ _ _ 0 _ _ _ f;have V:=ξ _ _ 1 _ _ _ f;have W:=ξ _ _ 2 _ _ _ f;have X:=ξ _ _ 3 _ _ _ f;have Y:=ξ _ _ 4 _ _ _ f;have Z:=ξ _ _ 5 _ _ _ f;have aa:=ξ _ _ 6 _ _ _ f;have ab:=ξ _ _ 7 _ _ _ f;simp only[mD,pB,ol]at K V W X Y Z aa ab;have⟨e,y⟩:=π (Fm f l m o p q r t x) (Ce B.o (Nat.le_succ _) l m o p q r t x);go_wp2;rw[<-j.o];refine Ω (v:=.tuple #[ā _,D A _ c]) (gz  (u:=5)  rfl _ _ _ _ _ _ _ rfl e.o underlying315 rfl ϋ) rfl ?_;refine⟨A,c,?_,?_,y.o⟩
  .rw[ar.o];rfl
  .rw[ar.o]
   have:=F.o;rw[<-j.o]at this;exact this.B y.o
def ly:S8:=⟨1779033703,3144134277,1013904242,2773480762,1359893119,2600822924,528734635,1541459225⟩
def uC:ly.ok:=by constructor<;>exact⟨ϐ,ϐ⟩
def GV (b:γ) (w:β) (e:Ending) (f:β):Prop:= ∃ (s:S8) (r:γ) (d:Option Addr) (a c:Nat),gZ ly b=(s,r)/\e=ŗ (ā #[ĭ .u32 s.a,ĭ .u32 s.b,ĭ .u32 s.c,ĭ .u32 s.d,ĭ .u32 s.e,ĭ .u32 s.f,ĭ .u32 s.g,ĭ .u32 s.h,D d a c,G (L b)])/\L r=a/\Rd f (D d a c) a 1 (η r)/\Below w.heap.size w f
def PH (w:β):Calls prog 277 #[ā #[ĭ .u32 1779033703,ĭ .u32 3144134277,ĭ .u32 1013904242,ĭ .u32 2773480762,ĭ .u32 1359893119,ĭ .u32 2600822924,ĭ .u32 528734635,ĭ .u32 1541459225,D O 0 0,G 0]] w fun e w'=>e=ŗ (.bool true)/\BQ w w':=
 FJ 1779033703 3144134277 1013904242 2773480762 1359893119 2600822924 528734635 1541459225 O 0 0 0 w ϐ ϐ
def PC (Z:Option Addr) (n ab:Nat) (b:γ) (w:β) (ar:L b=n) (be:n<=1099511627776) (ax:Rd w (D Z n ab) n 1 (η b)) (aD:Ϭ w) :
  Calls prog 212 #[ā #[ĭ .u32 1779033703,ĭ .u32 3144134277,ĭ .u32 1013904242,ĭ .u32 2773480762,ĭ .u32 1359893119,ĭ .u32 2600822924,ĭ .u32 528734635,ĭ .u32 1541459225,D O 0 0,G 0],D Z n ab] w (GV b w):=by
 obtain⟨bG,hi,bA,bB,bC⟩:=Ϩ lh;have⟨aL,aR,e⟩:=ϲ ax aD ar;have bI:(n:Int)<=1099511627776:=U;have bH:(0:Int)<=(n:Int):=U;clear ax aD ar;go_enter func212,ntmps212;have aS:=Zh (fun A=>PH A);go_wp2_with fail
 refine(aS.o _).M ?_;rintro b0 u ⟨rfl,F⟩;obtain⟨a2,a7⟩:=oz F;have bg:=F.size;simp only[mh]at bg;have bk:w.heap.size<u.heap.size:=U;have bl:w.heap.size+1<u.heap.size:=U;have V:BQ w u:=(ġ.A ύ _).trans (F.M ϓ);go_wp2_with (first
  |(at_make;refine GG rfl _ _ rfl n _ rfl rfl ύ U ?_;intro bJ bf R;obtain⟨a3,a8⟩:=oz R;have bh:=R.size)
  |(at_builtin;refine hG rfl (.tmp 27) (.tmp 29) rfl u.heap.size _ _ 0 0 [] [] rfl bf rfl rfl (pX _ _) U R.size ?_;intro bm bn bK av aX;have q:=R.trans aX;have aF:=Zh (V.t q);clear a3 a8 bh;obtain⟨a4,a9⟩:=oz q;have bi:=q.size;simp only[kG,js]at av)
  |(at_builtin;refine hG rfl (.tmp 31) (.tmp 32) rfl u.heap.size _ _ 0 n [] b rfl av rfl e.o (by have:=aL.o;exact this.B (aF.o)) U q.size ?_;intro aT aU bj aw aY;have Q:=q.trans aY;clear a4 a9 bi;obtain⟨a5,ba⟩:=oz Q;have bD:=Q.size;simp only[iI,js]at aw))
 have a1:=V.t Q;refine(FI 1779033703 3144134277 1013904242 2773480762 1359893119 2600822924 528734635 1541459225 uC aT n aU b bj e.o be aw.rd (aR.o.B a1)).M ?_;rintro b0 z ⟨M,N,rfl,T,aZ⟩;have H:BQ u z:=Q.t aZ;clear a5 ba;obtain⟨a6,bb⟩:=oz H;have bE:=H.size;have X:=(xy (L b) ly b NZ uC).2;obtain⟨⟨⟨i,j,k,l,m,o,s,t⟩,r⟩,E⟩:∃ b1,b1=gZ ly b:=⟨_,rfl⟩;have aC:Rd z (D M (L r) N) (L r) 1 (η r):=by
  have:(gZ ly b).2=r:=by rw[<-E]
  change Rd z (D M (L (gZ ly b).2) N) (L (gZ ly b).2) 1 (η (gZ ly b).2)at T;rw[this]at T;exact T
 have bx:L r<=64:=by rw[<-E]at X;change (L r)=_ at X;omega
 rw[show gZ ⟨1779033703,3144134277,1013904242,2773480762,1359893119,2600822924,528734635,1541459225⟩ b=(⟨i,j,k,l,m,o,s,t⟩,r)from E.symm];have aK:=Zh E.symm;generalize au:L r=d at *;have⟨Y,aO⟩:=π au aC;clear E au T aC X;simp only[S8.cells];go_wp2_with fail
 have ay:u.heap[w.heap.size]?=J (C #[ĭ .u32 1779033703,ĭ .u32 3144134277,ĭ .u32 1013904242,ĭ .u32 2773480762,ĭ .u32 1359893119,ĭ .u32 2600822924,ĭ .u32 528734635,ĭ .u32 1541459225,D O 0 0,G 0] 317 (0,0)):=(F.block _ ϓ).trans ((hM _ _ _ ϓ).trans (φ w _));have aA:u.heap[w.heap.size+1]?=J (C #[ĭ .u32 0,ĭ .u32 0,ĭ .u32 0,ĭ .u32 0,ĭ .u32 0,ĭ .u32 0,ĭ .u32 0,ĭ .u32 0,D O 0 0,G 0] 317 (0,0)):=by
  have:=φ (å w (C #[ĭ .u32 1779033703,ĭ .u32 3144134277,ĭ .u32 1013904242,ĭ .u32 2773480762,ĭ .u32 1359893119,ĭ .u32 2600822924,ĭ .u32 528734635,ĭ .u32 1541459225,D O 0 0,G 0] 317)) (C #[ĭ .u32 0,ĭ .u32 0,ĭ .u32 0,ĭ .u32 0,ĭ .u32 0,ĭ .u32 0,ĭ .u32 0,ĭ .u32 0,D O 0 0,G 0] 317);simp only[mh]at this;exact(F.block _ ϓ).trans this
 obtain⟨c,P⟩:∃ c,c=å z (C #[ĭ .u32 i,ĭ .u32 j,ĭ .u32 k,ĭ .u32 l,ĭ .u32 m,ĭ .u32 o,ĭ .u32 s,ĭ .u32 t] 315):=⟨_,rfl⟩;rw[<-P];have I:BQ z c:=by rw[P];exact ġ
 have h:c.heap[z.heap.size]?=J (C #[ĭ .u32 i,ĭ .u32 j,ĭ .u32 k,ĭ .u32 l,ĭ .u32 m,ĭ .u32 o,ĭ .u32 s,ĭ .u32 t] 315 (0,0)):=by rw[P];exact φ z _
 have az:=(I.block _ U).trans ((H.block _ bk).trans ay);have aB:=(I.block _ U).trans ((H.block _ bl).trans aA);have aa:=ξ _ _ 9 _ _ _ az;have ac:=ξ _ _ 0 _ _ _ h;have d1:=ξ _ _ 1 _ _ _ h;have d2:=ξ _ _ 2 _ _ _ h;have ad:=ξ _ _ 3 _ _ _ h;have ae:=ξ _ _ 4 _ _ _ h;have af:=ξ _ _ 5 _ _ _ h;have ag:=ξ _ _ 6 _ _ _ h;have ah:=ξ _ _ 7 _ _ _ h;simp only[mD,pB,ol]at aa ac d1 d2 ad ae af ag ah;have⟨aM,aG⟩:=π aB (V.trans ((H.M U).trans (I.M U):Below w.heap.size u c));have bF:=I.size;have bd:w.heap.size+1<c.heap.size:=U;clear P h az aB ay aA a6 bb a2 a7;have bz:IntKind.i64.wrap (n:Int)=(n:Int):=Ϗ;refine ϯ (fun A=>BQ c A) 9 ϋ ?_;have f:BQ c c.drew:=RZ.drew;refine Zk 0 f ?_ (hy:=by intro A g;have ai:=ζ g ac;have aj:=ζ g d1;have ak:=ζ g d2;have al:=ζ g ad;have am:=ζ g ae;have an:=ζ g af;have ao:=ζ g ag;have ap:=ζ g ah;go_simp;try with_reducible rfl);refine Zf 1 f ?_;refine Zf 3 f ?_;refine Zk 4 f ?_ (hy:=by intro A g;have aq:=ζ g aa;go_simp;try with_reducible rfl);refine Zf 5 f ?_;refine Zf 6 f ?_;refine Zf 7 f ?_;refine Κ (fuel:=2) 2 ϋ rfl ?_;intro K B;have aW:Rd c.drew (D M d N) d 1 (η r):=((aO.o.B I).B f);have bc:c.heap.size<=c.drew.heap.size:=f.size
 (with_reducible refine xT rfl (.const (D O 0 0)) (.tmp 42) rfl c.heap.size (D O 0 0) (D M d N) 0 d [] r rfl (Μ.nil _ _) rfl Y.o aW U bc ?_)
 intro x y aE W a0;simp only[iI,js]at W;have S:=f.trans a0;refine B _ _ S ?_;clear B K;simp only[iI];try simp only[Act.put]
 refine Zf 8 S ?_;refine jF (fuel:=0) ϋ ϋ rfl ?_;intro K B;have a:=(S.block _ bd).trans aM.o;have ai:=ξ _ _ 0 _ _ _ a;have bo:=ϧ _ _ 0 _ _ a;have aj:=ξ _ _ 1 _ _ _ a;have f1:=ϧ _ _ 1 _ _ a;have ak:=ξ _ _ 2 _ _ _ a;have f2:=ϧ _ _ 2 _ _ a;have al:=ξ _ _ 3 _ _ _ a;have f3:=ϧ _ _ 3 _ _ a;have am:=ξ _ _ 4 _ _ _ a;have bp:=ϧ _ _ 4 _ _ a;have an:=ξ _ _ 5 _ _ _ a;have bq:=ϧ _ _ 5 _ _ a;have ao:=ξ _ _ 6 _ _ _ a;have br:=ϧ _ _ 6 _ _ a;have ap:=ξ _ _ 7 _ _ _ a;have bs:=ϧ _ _ 7 _ _ a;have aV:=ξ _ _ 8 _ _ _ a;have bt:=ϧ _ _ 8 _ _ a;have aq:=ξ _ _ 9 _ _ _ a;have bu:=ϧ _ _ 9 _ _ a;simp only[mD,pB,ol]at ai aj ak al am an ao ap aV aq;have⟨aH,aN,aJ⟩:=ϲ (aG.o.trans (S.M U)) a W;clear a W;go_simp;refine B _ _ ?_;clear B K;refine Zd ?_;have⟨aP,aI⟩:=π (OQ aN.o (ĭ .u32 i) (ĭ .u32 j) (ĭ .u32 k) (ĭ .u32 l) (ĭ .u32 m) (ĭ .u32 o) (ĭ .u32 s) (ĭ .u32 t) (D x d y) (G n)) (Ie aH.o (gu _ 1) (ĭ .u32 i) (ĭ .u32 j) (ĭ .u32 k) (ĭ .u32 l) (ĭ .u32 m) (ĭ .u32 o) (ĭ .u32 s) (ĭ .u32 t) (D x d y) (G n));have aQ:Hid (Rd ((ŝ (ŝ (ŝ (ŝ (ŝ (ŝ (ŝ (ŝ (ŝ (ŝ aE ⟨w.heap.size+1,0,O⟩ (ĭ .u32 i)) ⟨w.heap.size+1,1,O⟩ (ĭ .u32 j)) ⟨w.heap.size+1,2,O⟩ (ĭ .u32 k)) ⟨w.heap.size+1,3,O⟩ (ĭ .u32 l)) ⟨w.heap.size+1,4,O⟩ (ĭ .u32 m)) ⟨w.heap.size+1,5,O⟩ (ĭ .u32 o)) ⟨w.heap.size+1,6,O⟩ (ĭ .u32 s)) ⟨w.heap.size+1,7,O⟩ (ĭ .u32 t)) ⟨w.heap.size+1,8,O⟩ (D x d y)) ⟨w.heap.size+1,9,O⟩ (G n))) (D x d y) d 1 (η r)):=
  (aJ.o.hi.step ύ fun b bv bw=>Mk aE (w.heap.size+1) b U (ĭ .u32 i) (ĭ .u32 j) (ĭ .u32 k) (ĭ .u32 l) (ĭ .u32 m) (ĭ .u32 o) (ĭ .u32 s) (ĭ .u32 t) (D x d y) (G n)).now
 go_wp2;refine Ω (v:=ā #[ĭ .u32 i,ĭ .u32 j,ĭ .u32 k,ĭ .u32 l,ĭ .u32 m,ĭ .u32 o,ĭ .u32 s,ĭ .u32 t,D x d y,G n]) (jf (p:=4) (ty:=317) rfl _ _ (w.heap.size+1) 317 _ (0,0) _ rfl aP.o underlying317 rfl ϋ) rfl ?_;refine⟨⟨i,j,k,l,m,o,s,t⟩,r,x,d,y,aK.o,?_,Y.o,aQ.o,aI.o⟩;rw[e.o]
def iZ (v:Int):γ:=[u8 (v / 72057594037927936 % 256),u8 (v / 281474976710656 % 256),u8 (v / 1099511627776 % 256),u8 (v / 4294967296 % 256),u8 (v / 16777216 % 256),u8 (v / 65536 % 256),u8 (v / 256 % 256),u8 (v % 256)]
def jo (x:Int):γ:=[u8 (x / 16777216 % 256),u8 (x / 65536 % 256),u8 (x / 256 % 256),u8 (x % 256)]
def lf (s:S8):γ:=jo s.a++jo s.b++jo s.c++jo s.d++jo s.e++jo s.f++jo s.g++jo s.h
def pq (m:Nat):Nat:=if m<56 then 56 else 120
def qM (r:γ) (n:Nat):γ:=r++[128]++List.replicate (pq (L r) - (L r+1)) 0++iZ (8*n)
def sU (s:S8) (r:γ) (n:Nat):γ:=lf (gZ s (qM r n)).1
def kg (b:γ):γ:=sU (gZ ly b).1 (gZ ly b).2 (L b)
theorem iq (b):L (kg b)=32:=rfl
def pO (x):η [u8 (x % 256)]=[ĭ .u8 (x % 256)]:=by
 simp only[η,ij,jQ];rw[gs _ U U]
def pP (x):η (jo x)=[ĭ .u8 (x / 16777216 % 256),ĭ .u8 (x / 65536 % 256),ĭ .u8 (x / 256 % 256),ĭ .u8 (x % 256)]:=by
 simp only[η,jo,ij,jQ];rw[gs _ U U,gs _ U U,gs _ U U,gs _ U U]
def Mo (m L:Nat) (c:m<64) (b:m+1<=L) (a:L<=pq m):(L % 64=56↔L=pq m):=by
 unfold pq at *;split at a<;>rename_i h<;>simp only[h,if_true,if_false]<;>omega
def Mn (m) (a:m<64):m+1<=pq m/\pq m<=120:=by
 unfold pq;split<;>omega
def PE (V W X Y Z aa ab ac:Int) (a4:(S8.mk V W X Y Z aa ab ac).ok) (am:Option Addr) (m ao:Nat) (r:γ) (n:Nat) (w:β) (aX:L r=m) (bZ:n<=1099511627776) (a3:m=n % 64) (a9:Rd w (D am m ao) m 1 (η r)) (bb:Ϭ w) :
  Calls prog 211 #[ā #[ĭ .u32 V,ĭ .u32 W,ĭ .u32 X,ĭ .u32 Y,ĭ .u32 Z,ĭ .u32 aa,ĭ .u32 ab,ĭ .u32 ac,D am m ao,G n]] w fun e w'=>e=ŗ (š (δ (sU ⟨V,W,X,Y,Z,aa,ab,ac⟩ r n)))/\BQ w w':=by
 have bA:=Zh (fun bC=>FJ V W X Y Z aa ab ac am m ao n bC bZ a3);have⟨bu,bx,aM,aN⟩:=hV a9 bb aX a4;have a2:m<64:=U;clear a9 bb aX a3 a4;go_enter func211,ntmps211;go_wp2_with fail
 refine(bA.o _).M ?_;rintro e z ⟨rfl,aq⟩;obtain⟨bL,bS⟩:=oz aq;have b3:=aq.size;simp only[mh]at b3;have bi:w.heap.size<z.heap.size:=U;have aH:BQ w z:=ġ.trans (aq.M ϓ);have bv:=Zh (bu.o.B aH);go_wp2_with (first
  |(at_builtin;refine hG rfl (.const (D O 0 0)) (.tmp 16) rfl z.heap.size _ _ 0 m [] r rfl (Μ.nil _ _) rfl aM.o bv.o U NZ ?_;intro cn an ce aJ au;obtain⟨bM,bT⟩:=oz au;have be:=au.size;simp only[iI,js]at aJ)
  |(at_builtin;refine hG rfl (.tmp 18) (.tmp 19) rfl z.heap.size _ _ m 1 r [128] rfl (aJ.A _) rfl rfl (jl ce #[ĭ .u8 128] _ 1 [128] rfl rfl ϐ) U (by simp;omega) ?_;intro bD bE cv a6 aZ;have ar:=(au.A be _).trans aZ;clear bM bT;obtain⟨bN,bU⟩:=oz ar;have cs:=ar.size))
 have ba:z.heap[w.heap.size]?=J (C #[ĭ .u32 V,ĭ .u32 W,ĭ .u32 X,ĭ .u32 Y,ĭ .u32 Z,ĭ .u32 aa,ĭ .u32 ab,ĭ .u32 ac,D am m ao,G n] 317 (0,0)):=(aq.block _ ϓ).trans (φ w _);have aO:=Zh ba;clear ba bL bS bN bU be;have bJ:=Mn m a2;generalize bd:pq m=A at *;have az:=Zh bd;clear bd;go_loopw [3] (fun af wr=>∃ (y:Nat) (ak:Option Addr) (c:Nat),af=D ak y c/\m+1<=y/\y<=A/\Hid (Μ z.heap.size wr (D ak y c) y (r++[128]++List.replicate (y - (m+1)) 0))/\Hid (BQ z wr)) (fun af _=>A - gn af)
 .exact⟨m+1,bD,bE,rfl,NZ,bJ.1,by rw[kj,List.replicate_zero,iy];exact a6,ar⟩
 obtain⟨y,ak,c,rfl,bI,cr,ax,aw⟩:=hrel;have ah:=Mo m y a2 bI (ι az.o);rw[az.o]at ah;by_cases ap:y=A
 .have b5:((y:Int) % 64==56)=true:=by simp only[nm];have:=ah.2 ap;omega
  have bf:((y:Int) % 64 !=56)=false:=by simp only[bne_eq_false_iff_eq];have:=ah.2 ap;omega
  have ag:=aw.o;obtain⟨bO,bV⟩:=oz ag;have bw:=Zh ((ag.block _ bi).trans aO.o);have aB:=ξ _ _ 9 _ _ _ bw.o;simp only[mD,pB,ol]at aB;clear ah ar a6 aJ au aZ bO bV;obtain rfl:A=y:=ap.symm;have b1:IntKind.u64.wrap (n:Int)=n:=by rw[IntKind.wrap_u64];omega
  have b2:IntKind.u64.wrap ((n:Int)*8)=(n:Int)*8:=by rw[IntKind.wrap_u64];omega
  go_wp2;obtain⟨bh,rfl⟩:∃ bh:β,bh=wr:=⟨_,rfl⟩;obtain⟨q,aE⟩:∃ q,q=r++[128]++List.replicate (A - (m+1)) 0:=⟨_,rfl⟩;rw[<-aE]at ax;have bz:=Zh aE;clear aE aB b5 bf b1 b2 ag;go_loopw [3,32] (fun af ae ai=>∃ (b:Nat) (al:Option Addr) (c2:Nat),b<=8/\ae=G (b:Int)/\af=D al (A+b) c2/\Hid (Μ z.heap.size ai (D al (A+b) c2) (A+b) (q++(iZ ((n:Int)*8)).take b))/\Hid (BQ z ai)) (fun _ ae _=>8 - (intOf ae).toNat)
  .exact⟨0,ak,c,U,rfl,rfl,by rw[rq,iy];exact ax.o,aw.o⟩
  obtain⟨b,al,c2,bX,rfl,rfl,T,bl⟩:=hrel;have k:=bl.o;have B:=k.size;by_cases bY:b<8
  .obtain rfl|rfl|rfl|rfl|rfl|rfl|rfl|rfl:b=0\/b=1\/b=2\/b=3\/b=4\/b=5\/b=6\/b=7:=U
   .go_wp2_with (at_builtin;refine hG rfl (.tmp 35) (.tmp 42) rfl z.heap.size _ _ (A+0) 1 (q++(iZ ((n:Int)*8)).take 0) [u8 (((n:Int)*8) / 72057594037927936 % 256)] rfl (T.o.A _) rfl rfl (jl wr _ _ 1 _ rfl (by rw[pO]<;>(try simp)<;>omega) ϐ) U ό ?_;intro d f E a j;have i:=(k.A B _).trans j)
    go_roundw
    .exact⟨1,d,f,U,rfl,rfl,by rw[gP]at a;exact a,i⟩
    exact gG
   .go_wp2_with (at_builtin;refine hG rfl (.tmp 35) (.tmp 42) rfl z.heap.size _ _ (A+1) 1 (q++(iZ ((n:Int)*8)).take 1) [u8 (((n:Int)*8) / 281474976710656 % 256)] rfl (T.o.A _) rfl rfl (jl wr _ _ 1 _ rfl (by rw[pO]<;>(try simp)<;>omega) ϐ) U ό ?_;intro d f E a j;have i:=(k.A B _).trans j)
    go_roundw
    .exact⟨2,d,f,U,rfl,rfl,by rw[gP]at a;exact a,i⟩
    exact gG
   .go_wp2_with (at_builtin;refine hG rfl (.tmp 35) (.tmp 42) rfl z.heap.size _ _ (A+2) 1 (q++(iZ ((n:Int)*8)).take 2) [u8 (((n:Int)*8) / 1099511627776 % 256)] rfl (T.o.A _) rfl rfl (jl wr _ _ 1 _ rfl (by rw[pO]<;>(try simp)<;>omega) ϐ) U ό ?_;intro d f E a j;have i:=(k.A B _).trans j)
    go_roundw
    .exact⟨3,d,f,U,rfl,rfl,by rw[gP]at a;exact a,i⟩
    exact gG
   .go_wp2_with (at_builtin;refine hG rfl (.tmp 35) (.tmp 42) rfl z.heap.size _ _ (A+3) 1 (q++(iZ ((n:Int)*8)).take 3) [u8 (((n:Int)*8) / 4294967296 % 256)] rfl (T.o.A _) rfl rfl (jl wr _ _ 1 _ rfl (by rw[pO]<;>(try simp)<;>omega) ϐ) U ό ?_;intro d f E a j;have i:=(k.A B _).trans j)
    go_roundw
    .exact⟨4,d,f,U,rfl,rfl,by rw[gP]at a;exact a,i⟩
    exact gG
   .go_wp2_with (at_builtin;refine hG rfl (.tmp 35) (.tmp 42) rfl z.heap.size _ _ (A+4) 1 (q++(iZ ((n:Int)*8)).take 4) [u8 (((n:Int)*8) / 16777216 % 256)] rfl (T.o.A _) rfl rfl (jl wr _ _ 1 _ rfl (by rw[pO]<;>(try simp)<;>omega) ϐ) U ό ?_;intro d f E a j;have i:=(k.A B _).trans j)
    go_roundw
    .exact⟨5,d,f,U,rfl,rfl,by rw[gP]at a;exact a,i⟩
    exact gG
   .go_wp2_with (at_builtin;refine hG rfl (.tmp 35) (.tmp 42) rfl z.heap.size _ _ (A+5) 1 (q++(iZ ((n:Int)*8)).take 5) [u8 (((n:Int)*8) / 65536 % 256)] rfl (T.o.A _) rfl rfl (jl wr _ _ 1 _ rfl (by rw[pO]<;>(try simp)<;>omega) ϐ) U ό ?_;intro d f E a j;have i:=(k.A B _).trans j)
    go_roundw
    .exact⟨6,d,f,U,rfl,rfl,by rw[gP]at a;exact a,i⟩
    exact gG
   .go_wp2_with (at_builtin;refine hG rfl (.tmp 35) (.tmp 42) rfl z.heap.size _ _ (A+6) 1 (q++(iZ ((n:Int)*8)).take 6) [u8 (((n:Int)*8) / 256 % 256)] rfl (T.o.A _) rfl rfl (jl wr _ _ 1 _ rfl (by rw[pO]<;>(try simp)<;>omega) ϐ) U ό ?_;intro d f E a j;have i:=(k.A B _).trans j)
    go_roundw
    .exact⟨7,d,f,U,rfl,rfl,by rw[gP]at a;exact a,i⟩
    exact gG
   .go_wp2_with (at_builtin;refine hG rfl (.tmp 35) (.tmp 42) rfl z.heap.size _ _ (A+7) 1 (q++(iZ ((n:Int)*8)).take 7) [u8 (((n:Int)*8) % 256)] rfl (T.o.A _) rfl rfl (jl wr _ _ 1 _ rfl (by rw[pO]<;>(try simp)<;>omega) ϐ) U ό ?_;intro d f E a j;have i:=(k.A B _).trans j)
    go_roundw
    .exact⟨8,d,f,U,rfl,rfl,by rw[gP]at a;exact a,i⟩
    exact gG
  .obtain rfl:b=8:=U
   obtain⟨bP,bW⟩:=oz k;have ad:=Zh ((k.block _ bi).trans aO.o);have aP:=ξ _ _ 0 _ _ _ ad.o;have aQ:=ξ _ _ 1 _ _ _ ad.o;have aR:=ξ _ _ 2 _ _ _ ad.o;have aS:=ξ _ _ 3 _ _ _ ad.o;have aT:=ξ _ _ 4 _ _ _ ad.o;have aU:=ξ _ _ 5 _ _ _ ad.o;have aV:=ξ _ _ 6 _ _ _ ad.o;have aW:=ξ _ _ 7 _ _ _ ad.o;simp only[mD,pB,ol]at aP aQ aR aS aT aU aV aW;have bc:(iZ ((n:Int)*8)).take 8=iZ ((n:Int)*8):=rfl;have a7:q++iZ ((n:Int)*8)=qM r n:=by
    unfold qM;rw[bz.o,aM.o,az.o,Int.mul_comm]
   have av:=T.o;rw[bc,a7]at av;have a8:L (qM r n)=A+8:=av.1;have⟨bs,bt,bn⟩:=ϲ av a8 (aH.t k);clear bc a7 av a8 bP bW;go_wp2_with fail
   (with_reducible refine(FI V W X Y Z aa ab ac aN.o al (A+8) c2 (qM r n) wr bt.o U bs.o.rd (bx.o.B bn.o)).M ?_)
   rintro e bg ⟨co,aB,rfl,b0,a0⟩;clear aP aQ aR aS aT aU aV aW b0;obtain⟨⟨⟨l,o,p,s,t,u,v,x⟩,cu⟩,aD⟩:∃ c1,c1=gZ ⟨V,W,X,Y,Z,aa,ab,ac⟩ (qM r n):=⟨_,rfl⟩;have aK:=(xy _ ⟨V,W,X,Y,Z,aa,ab,ac⟩ (qM r n) NZ aN.o).1;rw[<-aD]at aK ⊢;have bo:Hid (sU ⟨V,W,X,Y,Z,aa,ab,ac⟩ r n=lf ⟨l,o,p,s,t,u,v,x⟩):=by show _=_;unfold sU;rw[<-aD]
   have bB:=Zh aK;have aG:=k.t a0;have ct:=aG.size;have ay:=Zh (aH.t aG);clear aD aK aG a0 k;simp only[S8.cells];obtain⟨⟨cf,b6⟩,⟨cg,b7⟩,⟨ch,b8⟩,⟨ci,b9⟩,⟨cj,ca⟩,⟨ck,cb⟩,⟨cl,cc⟩,⟨cm,cd⟩⟩:=bB.o;dsimp only at cf b6 cg b7 ch b8 ci b9 cj ca ck cb cl cc cm cd;go_wp2_with (at_make;refine GG rfl _ _ rfl 32 _ rfl rfl ύ U ?_;intro aL a5 aF;obtain⟨bK,bR⟩:=oz aF)
   have aY:Below w.heap.size bg aL:=(RZ.A (by have:=ay.o.size;exact this) _).trans (aF.M ϓ);have⟨bk,aj⟩:=π (ay.o.trans aY) a5;simp only[mh]at aj;have H:∀ w,(Instr.index 315 (ā #[ĭ .u32 l,ĭ .u32 o,ĭ .u32 p,ĭ .u32 s,ĭ .u32 t,ĭ .u32 u,ĭ .u32 v,ĭ .u32 x]) (G 0)).run prog w=.ok (ĭ .u32 l) w:=fun _=>ϋ;have I:∀ w,(Instr.index 315 (ā #[ĭ .u32 l,ĭ .u32 o,ĭ .u32 p,ĭ .u32 s,ĭ .u32 t,ĭ .u32 u,ĭ .u32 v,ĭ .u32 x]) (G 1)).run prog w=.ok (ĭ .u32 o) w:=fun _=>ϋ;have K:∀ w,(Instr.index 315 (ā #[ĭ .u32 l,ĭ .u32 o,ĭ .u32 p,ĭ .u32 s,ĭ .u32 t,ĭ .u32 u,ĭ .u32 v,ĭ .u32 x]) (G 2)).run prog w=.ok (ĭ .u32 p) w:=fun _=>ϋ;have M:∀ w,(Instr.index 315 (ā #[ĭ .u32 l,ĭ .u32 o,ĭ .u32 p,ĭ .u32 s,ĭ .u32 t,ĭ .u32 u,ĭ .u32 v,ĭ .u32 x]) (G 3)).run prog w=.ok (ĭ .u32 s) w:=fun _=>ϋ;have N:∀ w,(Instr.index 315 (ā #[ĭ .u32 l,ĭ .u32 o,ĭ .u32 p,ĭ .u32 s,ĭ .u32 t,ĭ .u32 u,ĭ .u32 v,ĭ .u32 x]) (G 4)).run prog w=.ok (ĭ .u32 t) w:=fun _=>ϋ;have Q:∀ w,(Instr.index 315 (ā #[ĭ .u32 l,ĭ .u32 o,ĭ .u32 p,ĭ .u32 s,ĭ .u32 t,ĭ .u32 u,ĭ .u32 v,ĭ .u32 x]) (G 5)).run prog w=.ok (ĭ .u32 u) w:=fun _=>ϋ;have R:∀ w,(Instr.index 315 (ā #[ĭ .u32 l,ĭ .u32 o,ĭ .u32 p,ĭ .u32 s,ĭ .u32 t,ĭ .u32 u,ĭ .u32 v,ĭ .u32 x]) (G 6)).run prog w=.ok (ĭ .u32 v) w:=fun _=>ϋ;have S:∀ w,(Instr.index 315 (ā #[ĭ .u32 l,ĭ .u32 o,ĭ .u32 p,ĭ .u32 s,ĭ .u32 t,ĭ .u32 u,ĭ .u32 v,ĭ .u32 x]) (G 7)).run prog w=.ok (ĭ .u32 x) w:=fun _=>ϋ;have bq:=Zh (Ν H (Ν I (Ν K (Ν M (Ν N (Ν Q (Ν R S)))))));clear bK bR a5 aF aY H I K M N Q R S;obtain⟨F,aC⟩:∃ bj,bj=bg.heap.size+1:=⟨_,rfl⟩;rw[<-aC]at aj;have bH:w.heap.size<=F:=ι ay.o.size;have bG:F<=aL.heap.size:=by
    rcases aj.o.2.2 with ⟨h,-⟩|⟨c0,cp,cur,-,cq,bF,-⟩
    .cases h
    .have:=ς bF;omega
   rw[<-aC];clear aC;go_loopw [8,54] (fun af ae ai=>∃ (b:Nat) (aA:Option Addr) (an:Nat),b<=8/\ae=G (b:Int)/\af=D aA (4*b) an/\Hid (Μ F ai (D aA (4*b) an) (4*b) ((lf ⟨l,o,p,s,t,u,v,x⟩).take (4*b)))/\Hid (Below F aL ai)) (fun _ ae _=>8 - (intOf ae).toNat)
   .exact⟨0,_,_,U,rfl,rfl,aj.o,ρ _ _⟩
   obtain⟨b,aA,an,bX,rfl,rfl,g,bm⟩:=hrel;have k:=bm.o;have B:=gj bG k.size;obtain⟨H,I,K,M,N,Q,R,S⟩:=bq.o;by_cases bY:b<8
   .obtain rfl|rfl|rfl|rfl|rfl|rfl|rfl|rfl:b=0\/b=1\/b=2\/b=3\/b=4\/b=5\/b=6\/b=7:=U
    .clear I K M N Q R S
     go_wp2_with (at_builtin;refine hG rfl (.tmp 57) (.tmp 69) rfl F _ _ 0 4 ((lf ⟨l,o,p,s,t,u,v,x⟩).take 0) (jo l) rfl (g.o.A _) rfl rfl (jl wr _ _ 4 _ rfl (by rw[pP]<;>(try simp)<;>(try omega)) ϐ) U ό ?_;intro d f E a j;have i:=(k.A B _).trans j)
     go_roundw
     .exact⟨1,d,f,U,rfl,rfl,a,i⟩
     exact gG
    .clear H K M N Q R S
     go_wp2_with (at_builtin;refine hG rfl (.tmp 57) (.tmp 69) rfl F _ _ 4 4 ((lf ⟨l,o,p,s,t,u,v,x⟩).take 4) (jo o) rfl (g.o.A _) rfl rfl (jl wr _ _ 4 _ rfl (by rw[pP]<;>(try simp)<;>(try omega)) ϐ) U ό ?_;intro d f E a j;have i:=(k.A B _).trans j)
     go_roundw
     .exact⟨2,d,f,U,rfl,rfl,a,i⟩
     exact gG
    .clear H I M N Q R S
     go_wp2_with (at_builtin;refine hG rfl (.tmp 57) (.tmp 69) rfl F _ _ 8 4 ((lf ⟨l,o,p,s,t,u,v,x⟩).take 8) (jo p) rfl (g.o.A _) rfl rfl (jl wr _ _ 4 _ rfl (by rw[pP]<;>(try simp)<;>(try omega)) ϐ) U ό ?_;intro d f E a j;have i:=(k.A B _).trans j)
     go_roundw
     .exact⟨3,d,f,U,rfl,rfl,a,i⟩
     exact gG
    .clear H I K N Q R S
     go_wp2_with (at_builtin;refine hG rfl (.tmp 57) (.tmp 69) rfl F _ _ 12 4 ((lf ⟨l,o,p,s,t,u,v,x⟩).take 12) (jo s) rfl (g.o.A _) rfl rfl (jl wr _ _ 4 _ rfl (by rw[pP]<;>(try simp)<;>(try omega)) ϐ) U ό ?_;intro d f E a j;have i:=(k.A B _).trans j)
     go_roundw
     .exact⟨4,d,f,U,rfl,rfl,a,i⟩
     exact gG
    .clear H I K M Q R S
     go_wp2_with (at_builtin;refine hG rfl (.tmp 57) (.tmp 69) rfl F _ _ 16 4 ((lf ⟨l,o,p,s,t,u,v,x⟩).take 16) (jo t) rfl (g.o.A _) rfl rfl (jl wr _ _ 4 _ rfl (by rw[pP]<;>(try simp)<;>(try omega)) ϐ) U ό ?_;intro d f E a j;have i:=(k.A B _).trans j)
     go_roundw
     .exact⟨5,d,f,U,rfl,rfl,a,i⟩
     exact gG
    .clear H I K M N R S
     go_wp2_with (at_builtin;refine hG rfl (.tmp 57) (.tmp 69) rfl F _ _ 20 4 ((lf ⟨l,o,p,s,t,u,v,x⟩).take 20) (jo u) rfl (g.o.A _) rfl rfl (jl wr _ _ 4 _ rfl (by rw[pP]<;>(try simp)<;>(try omega)) ϐ) U ό ?_;intro d f E a j;have i:=(k.A B _).trans j)
     go_roundw
     .exact⟨6,d,f,U,rfl,rfl,a,i⟩
     exact gG
    .clear H I K M N Q S
     go_wp2_with (at_builtin;refine hG rfl (.tmp 57) (.tmp 69) rfl F _ _ 24 4 ((lf ⟨l,o,p,s,t,u,v,x⟩).take 24) (jo v) rfl (g.o.A _) rfl rfl (jl wr _ _ 4 _ rfl (by rw[pP]<;>(try simp)<;>(try omega)) ϐ) U ό ?_;intro d f E a j;have i:=(k.A B _).trans j)
     go_roundw
     .exact⟨7,d,f,U,rfl,rfl,a,i⟩
     exact gG
    .clear H I K M N Q R
     go_wp2_with (at_builtin;refine hG rfl (.tmp 57) (.tmp 69) rfl F _ _ 28 4 ((lf ⟨l,o,p,s,t,u,v,x⟩).take 28) (jo x) rfl (g.o.A _) rfl rfl (jl wr _ _ 4 _ rfl (by rw[pP]<;>(try simp)<;>(try omega)) ϐ) U ό ?_;intro d f E a j;have i:=(k.A B _).trans j)
     go_roundw
     .exact⟨8,d,f,U,rfl,rfl,a,i⟩
     exact gG
   .obtain rfl:b=8:=U
    have a1:(lf ⟨l,o,p,s,t,u,v,x⟩).take (4*8)=lf ⟨l,o,p,s,t,u,v,x⟩:=rfl;have aI:=g.o;rw[a1]at aI;have bQ:=oM (P:=prog) wr 31 9 5 gv mA kH _ (lf ⟨l,o,p,s,t,u,v,x⟩) aI.rd;simp only[Nat.reduceMul]at bQ;have bp:=Zh (bk.o.trans (k.M bH));clear aI a1 H I K M N Q R S;go_wp2;go_ret;rw[bo.o];exact⟨rfl,bp.o⟩
 .have bf:((y:Int) % 64 !=56)=true:=by simp only[bne_iff_ne,ne_eq];intro h;exact ap (ah.1 U)
  have ag:=aw.o;have b4:=ag.size;clear ah;go_wp2_with (at_builtin;refine hG rfl (.tmp 25) (.tmp 26) rfl z.heap.size _ _ y 1 (r++[128]++List.replicate (y - (m+1)) 0) [0] rfl (ax.o.A _) rfl rfl (jl wr #[ĭ .u8 0] _ 1 [0] rfl rfl ϐ) U ό ?_;intro d f E a j;have i:=(ag.A b4 _).trans j)
  have br:Hid (Μ z.heap.size E (D d (y+1) f) (y+1) (r++[128]++List.replicate (y+1 - (m+1)) 0)):=by
   show Μ _ _ _ _ _;rw[show y+1 - (m+1)=(y - (m+1))+1 from U,List.replicate_succ',<-gP];exact a
  go_roundw
  .exact⟨y+1,d,f,rfl,U,U,br.o,i⟩
  simp[gn];omega
def Ϭ.later {w b:β} (h:Ϭ w) (a:BQ w b):Ϭ b:=h.B a
def tF (d:Option Addr) (n f:Nat) (b:γ) (w:β) (g:L b=n) (o:n<=1099511627776) (Q:Rd w (D d n f) n 1 (η b)) (a:Ϭ w) :
  Calls prog 144 #[D d n f] w fun e w'=>e=ŗ (š (δ (kg b)))/\BQ w w':=by
 have F:=Zh (PF w a);have A:=Zh (fun i (l:BQ w i)=>PC d n f b i g o (Q.B l) (a.B l));have⟨H,c⟩:=π a g;have p:=xy (L b) ly b NZ uC;have X:=Zh p;clear a g p;go_enter func144,ntmps144;go_wp2_with fail
 refine F.o.M ?_;rintro e W ⟨rfl,m⟩;go_wp2_with fail
 refine(A.o _ m).M ?_;rintro e T ⟨⟨q,s,t,u,v,x,y,z⟩,r,I,S,c2,k,rfl,P,R,M⟩;have h:=X.o;rw[k]at h;have j:=m.t M;have B:=Zh (PE q s t u v x y z h.1 I S c2 r n T P o (by have:=h.2;simp only at this;have:=c.o;omega) R (H.o.B j));have E:Hid (kg b=sU ⟨q,s,t,u,v,x,y,z⟩ r n):=by show _=_;unfold kg;rw[k,c.o]
 rw[c.o];go_wp2_with fail
 refine B.o.M ?_;rintro e V ⟨rfl,N⟩;have K:=j.t N;go_wp2;go_ret;rw[E.o];exact⟨rfl,K⟩
