/- Part 11 of the proof. -/
import Derived.Test.YtpilfbcffofheaaGreatDoorm09
import Derived.Test.YtpilfbcffofheaaGreatDoorm10
set_option linter.unusedVariables false
set_option linter.unusedSimpArgs false
set_option maxRecDepth 100000
set_option maxHeartbeats 8000000
namespace Go.Proofs.YtpilfbcffofheaaGreatDoor
open Go.Proofs.Tryz Go.RowKit Go.Sort
open Ending renaming returned->ŗ
open List renaming length->L
open Value renaming pointer->þ,slice->D,agg->ā,string->š
open Option renaming none->O,some->J
open Obj renaming cells->C
open World renaming alloc->å,setCell->ŝ
def Jd (_:Int) (x y:Bool):Bool:=x && y
def tu (_:Int) (x y:Bool):Bool:=x||y
def Je (_:Int) (x y:Bool):Bool:=x && !y
theorem HG (n:Int) (x y:Bool) (a:β):Calls prog 244 #[IZ n,.bool x,.bool y] a fun e w'=>e=ŗ (.bool (tu n x y))/\a=w':=by
 cases x<;>cases y;all_goals
  go_enter func244,ntmps244;go_wp2;go_ret;exact⟨rfl,rfl⟩
section
variable (va vb:ε) (na nb:Nat) (A B:List Int) (w:β) (hna:L A=na) (hnb:L B=nb) (ha:Rd w va na 1 (τ A)) (hb:Rd w vb nb 1 (τ B)) (hA:fT A=true) (hB:fT B=true) (hn:na+nb<=100000)
include hna hnb ha hb hA hB hn
theorem HH:Calls prog 185 #[va,vb] w (jZ w 3 1 (L (iH tu A B)) (τ (iH tu A B))):=by
 have b:∀ a w,(callFunc 244 a).run prog w=.ok (.enter 244 a) w:=iB func244 ϋ rfl;have c:=Zh (Dk tu 244 #[] va vb na nb A B w b (fun n x y d _=>HG n x y d) hna hnb ha hb hA hB hn);clear b ha hb hA hB hna hnb;go_enter func185,ntmps185;go_wp2_with (go_at_call 242;refine c.o.mono ?_;rintro e i ⟨h,rfl,g,f⟩)
 go_ret;exact⟨_,rfl,g,f⟩
end
theorem IJ (n:Int) (x y:Bool) (f t:Int) (g:Nat) (c:β) (h:c.cell? ⟨g,0,O⟩=J (IZ f)) (i:c.cell? ⟨g,1,O⟩=J (IZ t)) :
  Calls prog 323 #[IZ n,.bool x,.bool y,þ (J ⟨g,0,O⟩)] c fun e w'=>e=ŗ (.bool (iG f t n))/\c=w':=by
 by_cases a:f<=n
 .by_cases d:n<t
  .have b:Hid (iG f t n=true):=by show _=_;simp[iG,a,d]
   go_enter func323,ntmps323;go_wp2;go_ret;exact⟨by rw[b.o];first|rfl|simp[a,d],rfl⟩
  .have b:Hid (iG f t n=false):=by show _=_;simp[iG,d]
   go_enter func323,ntmps323;go_wp2;go_ret;exact⟨by rw[b.o];first|rfl|simp[a,d],rfl⟩
 .have b:Hid (iG f t n=false):=by show _=_;simp[iG,a]
  go_enter func323,ntmps323;go_wp2;go_ret;exact⟨by rw[b.o];first|rfl|simp[a],rfl⟩
theorem IP (va:ε) (na:Nat) (A:List Int) (f t:Int) (w:β) (hna:L A=na) (ha:Rd w va na 1 (τ A)) (hA:fT A=true) (hn:na<=100000) :
  Calls prog 307 #[va,ā #[IZ f,IZ t]] w (jZ w 3 1 (L (A.filter (iG f t))) (τ (A.filter (iG f t)))):=by
 have h:∀ g w,(callFunc 323 g).run prog w=.ok (.enter 323 g) w:=iB func323 ϋ rfl;have a:BQ w (å w (C #[IZ f,IZ t] 89)):=ġ;have b:=χ w (C #[IZ f,IZ t] 89);have c0:(å w (C #[IZ f,IZ t] 89)).cell? ⟨w.heap.size,0,O⟩=J (IZ f):=by rw[ν _ _ _ _ _ _ b];rfl
 have c1:(å w (C #[IZ f,IZ t] 89)).cell? ⟨w.heap.size,1,O⟩=J (IZ t):=by rw[ν _ _ _ _ _ _ b];rfl
 have c:=Dk (fun n _ _=>iG f t n) 323 #[þ (J ⟨w.heap.size,0,O⟩)] va (D O 0 0) na 0 A [] (å w (C #[IZ f,IZ t] 89)) h
  (fun n x y m i=>IJ n x y f t w.heap.size m (ζ i c0) (ζ i c1)) hna rfl (ha.below a) ⟨rfl,Ι _,.inl ⟨_,_,rfl,rfl⟩⟩ hA rfl ϊ
 rw[KP]at c;have l:=Zh c;have k:=Zh a;have j:w.heap.size<=(å w (C #[IZ f,IZ t] 89)).heap.size:=ύ;have d:=Zh j;clear h ha hA hna c a b c0 c1 j;go_enter func307,ntmps307;go_wp2_with (go_at_call 242;refine l.o.mono ?_;rintro e r ⟨q,rfl,p,o⟩)
 go_ret;exact⟨_,rfl,ii p d.o,k.o.trans (o.mono d.o)⟩
def xl (n:Nat) (e:Ending):Prop:= ∃ a c,e=ŗ (D a n c)
theorem Ja (b:ε) (a:Nat) (A:List Int) (f t:Int) (w:β) (k:L A=a) (h:Rd w b a 1 (τ A)) (g:fT A=true) (j:a<=100000) :
  Calls prog 307 #[b,ā #[IZ f,IZ t]] w fun e w'=>xl (L (A.filter (iG f t))) e/\BQ w w':=by
 refine(IP b a A f t w k h g j).mono ?_;rintro e n ⟨m,rfl,l,i⟩;obtain⟨d,c,rfl,-⟩:=jQ rfl (Rd.of_own l);exact⟨⟨d,c,rfl⟩,i⟩
theorem DT (f t:Int) (v:ε) (n:Nat) (d:List υ) (w:β) (ar:Ϩ w) (h:fY w v n d) (ah:∀ e∈d,L e.1<=100000/\L e.2<=100000) :
  Calls prog 259 #[ā #[IZ f,IZ t,v]] w fun e w'=>e=ŗ (.bool (lH f t d))/\BQ w w':=by
 obtain⟨m,c,rfl,a1,ax⟩:=iF h;have am:=Zh h.1;have aA:=Zh ah;have G:BQ w (å w (C #[IZ f,IZ t,D m n c] 92)):=ġ;have HW:=Zh (fun a=>EN f t a);have R:=Zh (fun a (V:BQ w a)=>yd (D m n c) n d a (ar.below V) (h.below V) (fun e ag=>(ah e ag).1));have Q:Hid (∀ b,(d.all fun e=>e.2.all (iG f t))=b->lH f t d=(ly f t && iq d && b)):=by rintro b rfl;rfl
 have r:=χ w (C #[IZ f,IZ t,D m n c] 92);have aC:(å w (C #[IZ f,IZ t,D m n c] 92)).cell? ⟨w.heap.size,0,O⟩=J (IZ f):=by rw[ν _ _ _ _ _ _ r];rfl
 have aD:(å w (C #[IZ f,IZ t,D m n c] 92)).cell? ⟨w.heap.size,1,O⟩=J (IZ t):=by rw[ν _ _ _ _ _ _ r];rfl
 have ae:(å w (C #[IZ f,IZ t,D m n c] 92)).cell? ⟨w.heap.size,2,O⟩=J (D m n c):=by rw[ν _ _ _ _ _ _ r];rfl
 have a2:w.heap.size<(å w (C #[IZ f,IZ t,D m n c] 92)).heap.size:=ύ;clear h ah ar r;go_enter func259,ntmps259;go_wp2_with fail
 generalize aG:(å w (C #[IZ f,IZ t,D m n c] 92))=aB at *;clear aG;cases p:ly f t with
 |false =>
  have B:Hid (lH f t d=false):=by show _=_;rw[Q.o _ rfl,p];rfl
  rw[p]at HW;clear p;go_wp2_with (go_at_call 306;refine(HW.o _).mono ?_;rintro e aw ⟨rfl,o⟩)
  go_ret;exact⟨by rw[B.o];rfl,G.trans (o.mono G.size)⟩
 |true =>
  cases z:iq d with
  |false =>
   have B:Hid (lH f t d=false):=by show _=_;rw[Q.o _ rfl,p,z];rfl
   rw[p]at HW;rw[z]at R;clear p z;go_wp2_with (first|(go_at_call 306;refine(HW.o _).mono ?_;rintro e aw ⟨rfl,o⟩;have u:=G.trans (o.mono G.size);have r2:=ζ o ae)|(go_at_call 230;refine(R.o _ u).mono ?_;rintro e q ⟨rfl,W⟩;have l:=u.trans (W.mono u.size)))
   go_ret;exact⟨by rw[B.o];rfl,l⟩
  |true =>
   have ay:Hid (∀ s (hi:s<L d),fT d[s].2=true):=fun s hi=>((ym _).1 (Hs z s hi)).2.1;have B:Hid (∀ b,(d.all fun e=>e.2.all (iG f t))=b->lH f t d=b):=by rintro b y;rw[Q.o _ y,p,z];rfl
   rw[p]at HW;rw[z]at R;clear p z Q;go_wp2_with (first|(go_at_call 306;refine(HW.o _).mono ?_;rintro e aw ⟨rfl,o⟩;have u:=G.trans (o.mono G.size);have r2:=ζ o ae)|(go_at_call 230;refine(R.o _ u).mono ?_;rintro e q ⟨rfl,W⟩;have l:=u.trans (W.mono u.size);have X:=o.trans (W.mono o.size);have aP:=ζ X aC;have aQ:=ζ X aD;have a5:=ζ X ae))
   have a3:aB.heap.size<=q.heap.size:=X.size;go_loopw [18] (fun s wr=>∃ j:Nat,j<=n/\s=IZ j/\Hid (∀ k (I:k<L d),k<j->d[k].2.all (iG f t)=true)/\BQ q wr) (fun s _=>n - (intOf s).toNat)
   case atStart=>exact⟨0,Ι _,rfl,fun k I h=>ϊ,φ _ _⟩
   case round =>
    obtain⟨j,aZ,rfl,ak,H⟩:=hrel;have aK:=H.size;by_cases a0:j<n
    .have Y:j<L d:=by have:=am.o;omega
     obtain⟨b,off,da,dc,rfl,c1,c2,M⟩:=ax.o j Y;have aL:(j:Int)<(n:Int):=ϊ;have a4:(0:Int)<=(j:Int):=ϊ;have ad:Hid (d[j].2.all (iG f t)=true->∀ k (I:k<L d),k<j+1->d[k].2.all (iG f t)=true):=fun g k I h=>by
      by_cases e:k=j
      .subst e;exact g
      .exact ak.o k I ϊ
     have ab:Hid (d[j].2.all (iG f t)=false->lH f t d=false):=fun g=>B.o false (by
      rw[nk]
      intro ap
      rw[kp]at ap
      rw[ap _ (Χ Y)]at g
      cases g)
     have aa:=ay.o j Y;have P:=(aA.o _ (Χ Y)).2;have aj:BQ w wr:=l.trans (H.mono l.size);have T:=ζ aj c1;have U:=ζ aj c2;obtain⟨⟨A,F⟩,au⟩:∃ x,x=d[j]:=⟨_,rfl⟩;rw[<-au]at T U ad ab aa P M;simp only at T U ad ab aa P M;clear au c1 c2;obtain⟨i,Z⟩:∃ i,i=L F:=⟨_,rfl⟩;rw[<-Z]at U M P;have al:Hid (∀ a,BQ w a->Calls prog 307 #[D da i dc,ā #[IZ f,IZ t]] a fun e w'=>xl (L (F.filter (iG f t))) e/\BQ a w'):=fun a V=>Ja (D da i dc) i F f t a Z.symm (M.below V) aa P;have ac:Hid (L (F.filter (iG f t))=i↔F.all (iG f t)=true):=by rw[Z];exact HU _ _
     clear Z aa P M;unfold ϴ at T;have av:=ζ H aP;have p1:=ζ H aQ;have r:=χ wr (C #[š (δ A),D da i dc] 130);have aY:(å wr (C #[š (δ A),D da i dc] 130)).cell? ⟨wr.heap.size,0,O⟩=J (š (δ A)):=by rw[ν _ _ _ _ _ _ r];rfl
     have aE:(å wr (C #[š (δ A),D da i dc] 130)).cell? ⟨wr.heap.size,1,O⟩=J (D da i dc):=by rw[ν _ _ _ _ _ _ r];rfl
     have af:BQ wr (å wr (C #[š (δ A),D da i dc] 130)):=ġ;have aN:=ζ af av;have aO:=ζ af p1;have aF:BQ q (å wr (C #[š (δ A),D da i dc] 130)):=H.alloc aK _;clear r af av p1;obtain⟨g,hg⟩:∃ g,g=L (F.filter (iG f t)):=⟨_,rfl⟩;rw[<-hg]at al ac;clear hg;go_wp2_with fail
     generalize aH:(å wr (C #[š (δ A),D da i dc] 130))=S at *;clear aH T U;go_wp2_with fail
     have az:Hid (∀ a,(BQ q a/\S.heap.size<=a.heap.size/\a.cell? ⟨w.heap.size,0,O⟩=J (IZ f)/\a.cell? ⟨w.heap.size,1,O⟩=J (IZ t)/\a.cell? ⟨wr.heap.size,1,O⟩=J (D da i dc))->Calls prog 307 #[D da i dc,ā #[IZ f,IZ t]] a fun e E=>xl g e/\(BQ q E/\S.heap.size<=E.heap.size/\E.cell? ⟨w.heap.size,0,O⟩=J (IZ f)/\E.cell? ⟨w.heap.size,1,O⟩=J (IZ t)/\E.cell? ⟨wr.heap.size,1,O⟩=J (D da i dc))):=fun a ⟨ai,aR,aS,aT,aU⟩=>by
      refine(al.o a (l.trans (ai.mono l.size))).mono ?_;rintro e E ⟨aI,y⟩;exact⟨aI,ai.trans (y.mono ai.size),gh aR y.size,ζ y aS,ζ y aT,ζ y aU⟩
     have aJ:BQ q S.drew:=aF.drew;go_region_held3 (fun a=>BQ q a/\S.heap.size<=a.heap.size/\a.cell? ⟨w.heap.size,0,O⟩=J (IZ f)/\a.cell? ⟨w.heap.size,1,O⟩=J (IZ t)/\a.cell? ⟨wr.heap.size,1,O⟩=J (D da i dc))
      (first|exact⟨aJ,NZ,aN,aO,aE⟩|exact an|assumption)
      ((go_at_call 307;refine(az.o _ Ϙ).mono ?_;rintro e aV ⟨⟨aW,aX,rfl⟩,an⟩))
     have ao:BQ q aV:=an.1;by_cases N:g=i
     .have aM:((g:Int) !=(i:Int))=false:=by rw[N];simp
      have K:=Zh (ad.o (ac.o.1 N));clear N;go_wp2;go_roundw;case rel=>exact⟨j+1,ϊ,ϕ,K.o,ao⟩
      case measure=>simp[intOf];omega
     .have aM:((g:Int) !=(i:Int))=true:=by rw[bne_iff_ne];omega
      have K:Hid (lH f t d=false):=ab.o (by rw[nk];exact fun g=>N (ac.o.2 g));clear N;go_wp2;go_ret;exact⟨by rw[K.o];rfl,l.trans (ao.mono l.size)⟩
    .have aL:¬(j:Int)<(n:Int):=ϊ
     have aq:(d.all fun e=>e.2.all (iG f t))=true:=by
      rw[kp];intro e ag;obtain⟨k,I,rfl⟩:=wP.1 ag;exact ak.o k I (by have:=am.o;omega)
     have K:=Zh (B.o _ aq);clear aq;go_wp2;go_ret;exact⟨by rw[K.o];rfl,l.trans (H.mono l.size)⟩
theorem DF {P:Program} {b:Func} {p u:Tmp} {ty:TypeId} (h:b.results=#[.cell p ty,.tmp u]) (tmps:Array ε) (w:β) (g:Nat) (t:TypeId) (a:Array ε) (c:Nat×Nat) (d:TypeDesc)
  (f:tmps.getD p undef=þ (J ⟨g,0,O⟩)) (hg:w.heap[g]?=J (C a t c))
  (j:P.underlying ty=J d) (e:(match d with|.struct _|.array _ _=>true|_=>false)=true) (hi:(P.info? ty).map (·.size)=J a.size) :
  (results b tmps).run P w=.ok (.tuple #[ā a,tmps.getD u undef]) w:=by
 have i:tmps[p]?.getD undef=þ (J ⟨g,0,O⟩):=by simpa using f
 simp[results,h,i,asAddr,uk w g t ty a c d hg j e hi]
def Ab (f t:Int) (a:List υ) (w:β) (e:Ending) (w':β):Prop:= ∃ c,e=ŗ (.tuple #[ā #[IZ f,IZ t,c],IZ 0])/\(∀ d:β,(∀ b,w.heap.size<=b->b<w'.heap.size->d.heap[b]?=w'.heap[b]?)->fY d c (L a) a)/\Below w.heap.size w w'
theorem FP (g off m c:Nat) (F T:Nat->Int) (aa:Nat->ε) (l:Nat->List υ) (j:List υ) (Q:Nat) (f t:Int) (w:β) (ay:Ϩ w) (h:qW w g off m F T aa l) (bp:0<m) (a0:m<=1000) (ao:ji Q (ir l (fun _=>0) m)=j) (am:iU (ir l (fun _=>0) m)<=Q) (hF:Q<=1000000) (X:∀ i,∀ e∈l i,L e.1<=100000/\L e.2<=1000)
  (aw:∀ i,i<m->lH (F i) (T i) (l i)=true) (ax:∀ i,i+1<m->F (i+1)=T i) (av:F 0=f) (az:T (m - 1)=t) :
  Calls prog 302 #[D (J ⟨g,off,O⟩) m c] w (Ab f t j w):=by
 have bb:prog.follows .mixedOrders=true:=ϋ;have aN:=Zh (fun(d:β) (E:BQ w d) (i:Nat) (hi:i<m) (aD:ε) (n:Nat) (a4:aa i=aD) (a1:L (l i)=n)=>DT (F i) (T i) aD n (l i) d (ay.below E) (by rw[<-a4,<-a1];exact(h.rd i hi).below E) (fun e W=>⟨(X i e W).1,by have:=(X i e W).2;omega⟩));have aP:=Zh (fun d (E:BQ w d)=>NH g off m c F T aa l j Q d (h.below E) a0 ao am hF (fun i e W=>(X i e W).2));have aL:=Zh aw;have aM:=Zh ax;have o:=Zh h;have aK:=Zh av;have aO:=Zh az;have G:BQ w (å w (C #[IZ 0,IZ 0,D O 0 0] 92)):=ġ;have an:=χ w (C #[IZ 0,IZ 0,D O 0 0] 92);have a3:w.heap.size<(å w (C #[IZ 0,IZ 0,D O 0 0] 92)).heap.size:=ο an;have be:((m:Int)==0)=false:=gl.2 ϊ;clear h X ay aw ax ao am av az;go_enter func302,ntmps302;go_wp2_with fail
 generalize aW:(å w (C #[IZ 0,IZ 0,D O 0 0] 92))=z at *;clear aW;go_loopw [14] (fun i wr=>∃ a:Nat,a<=m/\i=IZ a/\BQ z wr) (fun i _=>m - (intOf i).toNat)
 case atStart=>exact⟨0,ϊ,rfl,φ _ _⟩
 case round =>
  obtain⟨a,aZ,rfl,V⟩:=hrel;have I:=G.trans (V.mono G.size);by_cases y:a<m
  .have bv:(a:Int)<(m:Int):=ϊ
   have bu:(0:Int)<=(a:Int):=ϊ;have bx:=ζ I (o.o.c0 a y);have l1:=ζ I (o.o.c1 a y);have l2:=ζ I (o.o.c2 a y);obtain⟨aQ,aR,ag,bq,-⟩:=iF (o.o.rd a y);rw[ag]at l2;have aj:=Zh (fun d E=>aN.o d E a y _ _ ag rfl);rw[aL.o a y]at aj;generalize(L (l a))=bd at *;generalize F a=aT at *;generalize T a=bh at *;have ap:BQ wr (å wr (C #[IZ aT,IZ bh,D aQ bd aR] 92)):=ġ;have aE:=I.trans (ap.mono I.size);have ai:=V.trans (ap.mono V.size);clear ag;go_wp2_with (go_at_call 259;refine(aj.o _ aE).mono ?_;rintro e N ⟨rfl,aY⟩;have aG:=ai.trans (aY.mono ai.size))
   go_roundw;case rel=>exact⟨a+1,ϊ,ϕ,aG⟩
   case measure=>simp[intOf];omega
  .obtain rfl:a=m:=ϊ
   clear y aZ;go_wp2
   rename β=>w1
   go_loopw [6] (fun i bi=>∃ q:Nat,q+1<=a/\i=IZ ((q:Int)+1)/\BQ z bi) (fun i _=>a - (intOf i).toNat)
   case atStart=>exact⟨0,ϊ,ϕ,V⟩
   case round =>
    obtain⟨q,bs,rfl,M⟩:=hrel;have P:=G.trans (M.mono G.size);by_cases ae:q+1<a
    .have aB:=ζ P (o.o.c0 (q+1) ae)
     have bc:=ζ P (o.o.c1 q ϊ);rw[aM.o q ae]at aB;generalize T q=aC at *;have a9:(q:Int)+1<(a:Int):=ϊ;have ba:(q:Int)<(a:Int):=ϊ;have bf:(0:Int)<=(q:Int):=ϊ;have bz:(0:Int)<=(q:Int)+1:=ϊ;have bg:((q:Int)+1).toNat=q+1:=ϊ;have a6:IntKind.i64.wrap ((q:Int)+1 - 1)=(q:Int):=Ϗ;have a7:IntKind.i64.wrap (q:Int)=(q:Int):=Ϗ;have br:(aC !=aC)=false:=ύ;have r0:=ϻ aB;have r1:=ϻ bc;go_wp2_with fail
     refine jj bb ϋ ?_;repeat (go_big_quiet_step (fail))
     refine jk ?_;intro bm a5;obtain⟨⟨aS,osq⟩,aA⟩:=a5;have aq:=jl wr aS osq;rw[<-aA]at aq;clear aA r0 r1 a6 a7 bg;go_wp2;go_roundw;case rel=>exact⟨q+1,ϊ,ϕ,M.trans (aq.mono M.size)⟩
     case measure=>simp[intOf];omega
    .have ad:q+1=a:=ϊ
     have Y:=ζ P (o.o.c0 0 ϊ);have ah:=ζ P (o.o.c1 q ϊ);rw[aK.o]at Y;rw[show T q=t from by have:=aO.o;rwa [<-ad,pK]at this]at ah;simp only[pL,kW]at Y;have a9:¬(q:Int)+1<(a:Int):=ϊ;have ba:(q:Int)<(a:Int):=ϊ;have bw:(0:Int)<(a:Int):=ϊ;have bf:(0:Int)<=(q:Int):=ϊ;have a8:IntKind.i64.wrap ((a:Int) - 1)=(q:Int):=Ϗ;have a2:=M.size;have bl:=Zh ad;clear ad ae;go_wp2_with fail
     go_region_held3 (fun d=>d.cell? ⟨g,off,O⟩=J (IZ f)/\d.cell? ⟨g,off+q*3+1,O⟩=J (IZ t))
      (first|exact⟨Y,ah⟩|assumption|go_keep)
      (fail)
     clear a8;have af:=χ wr (C #[IZ f,IZ t] 89);have aV:BQ z (å wr (C #[IZ f,IZ t] 89)).drew:=(M.alloc a2 _).drew;have bj:(å wr (C #[IZ f,IZ t] 89)).drew.cell? ⟨wr.heap.size,0,O⟩=J (IZ f):=by rw[show(å wr (C #[IZ f,IZ t] 89)).drew.cell? ⟨wr.heap.size,0,O⟩=(å wr (C #[IZ f,IZ t] 89)).cell? ⟨wr.heap.size,0,O⟩from rfl,ν _ _ _ _ _ _ af];rfl
     have bk:(å wr (C #[IZ f,IZ t] 89)).drew.cell? ⟨wr.heap.size,1,O⟩=J (IZ t):=by rw[show(å wr (C #[IZ f,IZ t] 89)).drew.cell? ⟨wr.heap.size,1,O⟩=(å wr (C #[IZ f,IZ t] 89)).cell? ⟨wr.heap.size,1,O⟩from rfl,ν _ _ _ _ _ _ af];rfl
     generalize aX:(å wr (C #[IZ f,IZ t] 89)).drew=R at *;clear aX af Y ah;generalize wr.heap.size=H at *;go_wp2_with fail
     refine ϸ (fun d=>BQ z d/\d.cell? ⟨H,0,O⟩=J (IZ f)/\d.cell? ⟨H,1,O⟩=J (IZ t)) 4 ϋ ?_;have s:BQ z R.drew/\R.drew.cell? ⟨H,0,O⟩=J (IZ f)/\R.drew.cell? ⟨H,1,O⟩=J (IZ t):=⟨aV.drew,bj,bk⟩;generalize R.drew=wd at *;refine lD (fuel:=5) 0 (ā #[IZ f,IZ t]) rfl ϋ ϋ ϋ ϋ (fun _ _ _ h=>h) ϋ ?_ s ?_
     .rintro d ⟨be,bA,bB⟩
      go_simp
     refine gJ (fuel:=4) 1 (D (J ⟨g,off,O⟩) a c) rfl ϋ ϋ ϋ ϋ (fun _ _ _ h=>h) ϋ ?_ s ?_
     .intro d
      go_simp
     refine Ψ (fuel:=3) 2 ϋ rfl ?_;intro K r;go_simp;have Z:BQ w wd:=G.trans (s.1.mono G.size);refine(aP.o _ Z).mono ?_;rintro e k ⟨bC,rfl,ac,U⟩;obtain⟨A,B,rfl,-⟩:=iF (ac k fun _ _ _=>rfl);go_simp;have aI:=Zh ac;have ab:BQ z k/\k.cell? ⟨H,0,O⟩=J (IZ f)/\k.cell? ⟨H,1,O⟩=J (IZ t):=⟨s.1.trans (U.mono s.1.size),ζ U s.2.1,ζ U s.2.2⟩;refine r _ _ ab ?_;clear r K ac;have aF:BQ w k:=Z.trans (U.mono Z.size);have x:k.heap[w.heap.size]?=J (C #[IZ 0,IZ 0,D O 0 0] 92 (0,0)):=(ab.1.block _ a3).trans an;refine Ψ (fuel:=2) 3 ϋ rfl ?_;intro K r;go_simp;refine r _ _ ab ?_;clear r K;refine qU (fuel:=1) 4 ϋ rfl ϋ ?_;intro K r;have c0:=ν _ _ 0 _ _ _ x;have c1:=ν _ _ 1 _ _ _ x;have c2:=ν _ _ 2 _ _ _ x;have bn:=ϥ _ _ 0 _ _ x;have f1:=ϥ _ _ 1 _ _ x;have f2:=ϥ _ _ 2 _ _ x;go_simp;refine r _ _ ?_;clear r K;have ak:=π k w.heap.size 0 _ _ (IZ f) x;have S:=π _ w.heap.size 1 _ _ (IZ t) ak;have al:=π _ w.heap.size 2 _ _ (D A (L j) B) S;have ar:BQ w (ŝ (ŝ (ŝ k ⟨w.heap.size,0,O⟩ (IZ f)) ⟨w.heap.size,1,O⟩ (IZ t)) ⟨w.heap.size,2,O⟩ (D A (L j) B)):=(((aF.setCell NZ _).setCell NZ _).setCell NZ _);have bt:=s.1.size;have au:∀ N:β,(∀ b,w.heap.size<=b->b<(ŝ (ŝ (ŝ k ⟨w.heap.size,0,O⟩ (IZ f)) ⟨w.heap.size,1,O⟩ (IZ t)) ⟨w.heap.size,2,O⟩ (D A (L j) B)).heap.size->N.heap[b]?=(ŝ (ŝ (ŝ k ⟨w.heap.size,0,O⟩ (IZ f)) ⟨w.heap.size,1,O⟩ (IZ t)) ⟨w.heap.size,2,O⟩ (D A (L j) B)).heap[b]?)->fY N (D A (L j) B) (L j) j:=fun N S=>aI.o N fun b bo aU=>by
      rw[S b ϊ (by simpa using aU),ψ _ _ _ _ ό,ψ _ _ _ _ ό,ψ _ _ _ _ ό]
     refine Ze 5 ?_;refine Zd ?_;have aJ:=Zh au;have H3:=Zh al;have aH:=Zh ar;clear au ak S al ar;go_wp2;exact ϟ (v:=.tuple #[ā #[IZ f,IZ t,D A (L j) B],IZ 0]) (DF (p:=2) (u:=3) (ty:=92) rfl _ _ w.heap.size 92 _ (0,0) _ rfl H3.o underlying92 rfl ϋ) rfl ⟨_,rfl,aJ.o,aH.o⟩
theorem vG {w w':β} {base:Nat} {e:TypeId} {size:Nat} {v:ε} {n:Nat} {xs:List ε} (h:w.ownsRow base e size v n xs) (d:∀ g,v.ownBlock=J g->w'.heap[g]?=w.heap[g]?):w'.ownsRow base e size v n xs:=by
 obtain⟨j,i⟩:=h;refine⟨j,?_⟩;rcases i with h|⟨g,c,cur,a,f,hg,k⟩
 .exact .inl h
 .exact .inr ⟨g,c,cur,a,f,by rw[d g (by rw[a];rfl)];exact hg,k⟩
theorem MC (w:β) (a:Addr) (v:ε):(ŝ w a v).heap.size=w.heap.size:=by simp[World.setCell]
def iP (es:Array MapEntry) (g:Int->Option ε):Prop:= ∀ z:Int,∃ a:Nat,Instr.findNow (.int .i64) (IZ z) es.toList 0=J ((g z).map fun c=>(a,c))
theorem iP.none:iP #[] (fun _=>O):=fun z=>⟨0,rfl⟩
theorem BR (d:TypeDesc) (k:ε) (e:MapEntry):∀ (l:List MapEntry) (i:Nat),Instr.findNow d k (l++[e]) i=match Instr.findNow d k l i with
  |some O=>Instr.findNow d k [e] (i+L l)
  |r=>r:=by
 intro l;induction l with
 |nil=>intro i;simp[Instr.findNow]
 |cons x l a =>
  intro i;simp only[kq];rw[Instr.findNow,Instr.findNow];cases h:Instr.sameNow d k x.key with
  |none=>rfl
  |some b =>
   cases b with
   |true=>rfl
   |false =>
    simp only[a,Ϧ];rw[show i+1+L l=i+(L l+1)from ϊ]
theorem iP.push {es:Array MapEntry} {g:Int->Option ε} (h:iP es g) {k:Int} (d:g k=Option.none) (v:ε) (born:Nat):iP (es.push {key:=IZ k,val:=v,born:=born}) (fun z=>if z=k then J v else g z):=by
 intro z;obtain⟨e,a⟩:=h z;simp only[Array.toList_push];by_cases c:z=k
 .subst c
  rw[d]at a;refine⟨0+L es.toList,?_⟩;rw[BR,a];simp[Instr.findNow,Instr.sameNow]
 .refine⟨e,?_⟩
  rw[BR,a,κ c];cases hg:g z with
  |none =>
   simp only[Option.map_none];have:Instr.sameNow (.int .i64) (IZ z) (IZ k)=J false:=by simp[Instr.sameNow,c]
   simp[Instr.findNow,this]
  |some f=>simp
variable {P:Program} {w:β} {T K E:TypeId} {b:Nat} {es:Array MapEntry} {clock:Nat} {g:Int->Option ε}
theorem pF (f:P.underlying T=J (.map K E)) (d:P.underlying K=J (.int .i64)) (a:w.heap[b]?=J (.map es clock)) (e:iP es g) {k:Int} (hg:g k=Option.none) (v:ε) :
  (Instr.mapUpdate T (.map (J b)) (IZ k) v).run P w=.ok () (Go.ChangeMaps.setBlock w b (.map (es.push {key:=IZ k,val:=v,born:=clock}) (clock+1))):=by
 obtain⟨h,c⟩:=e k;rw[hg]at c;simp[Instr.mapUpdate,pf f,MapKept.run_getObj_map a,MapKept.run_checkKey d (show MapKept.IsKey (.int .i64) (IZ k)from rfl),MapKept.run_findKey d c,MapKept.run_setObj_map _ a,Result.andThen,Go.ChangeMaps.setBlock]
theorem DQ (f:P.underlying T=J (.map K E)) (c:P.underlying K=J (.int .i64)) (d:w.heap[b]?=J (.map es clock)) (e:iP es g) {k:Int} {v:ε} (hg:g k=J v) :
  (Instr.lookup T (.map (J b)) (IZ k) false).run P w=.ok v w:=by
 obtain⟨h,a⟩:=e k;rw[hg]at a;simp[Instr.lookup,pf f,MapKept.run_getObj_map d,MapKept.run_checkKey c (show MapKept.IsKey (.int .i64) (IZ k)from rfl),MapKept.run_findKey c a,Result.andThen]
def ky (m:Bool) (c:Nat) (b0 b1 b2 b3:Bool):Array Bool:=
 #[m,true,b0,true,true,true,decide (1<=c),b1,true,true,true,decide (2<=c),b2,true,true,true,decide (3<=c),b3,false,false]
def yF (m:Bool) (c:Nat) (b0 b1 b2 b3:Bool) (i:Nat):Bool:=
 (i==0 && !m)||(i==6 && c==0)||(i==11 && c==1)||(i==16 && c==2)||(i==2 && m && !b0)||(i==7 && m && !b1 && decide (1<=c))||(i==12 && m && !b2 && decide (2<=c))||(i==17 && m && !b3 && decide (3<=c))||(i==18 && m && c==3 && b0 && b1 && b2 && b3)
def mP (m:Bool) (c:Nat) (b0 b1 b2 b3:Bool):Nat:=(!m).toNat+(3 - c)+(!b0).toNat+(!b1).toNat+(!b2).toNat+(!b3).toNat
section
variable {ops:Array Oper} {Q:Exit->Act->β->Prop} {md:Region.Mode} {S:β->Prop}
theorem JM (I:Bool->Nat->Bool->Bool->Bool->Bool->Act->β->Prop) (H:∀ {m c b0 b1 b2 b3 a w},I m c b0 b1 b2 b3 a w->S w)
  (x:∀ (m b0 b1 b2 b3:Bool) (c:Fin 4),(!(Region.ready md ops (ky m c.val b0 b1 b2 b3)).isEmpty && (Region.ready md ops (ky m c.val b0 b1 b2 b3)).all (yF m c.val b0 b1 b2 b3))=true)
  (W:∀ c b0 b1 b2 b3 a w,I false c b0 b1 b2 b3 a w->wpOp P ops Q 0 (I true c b0 b1 b2 b3) a w)
  (y:∀ m b0 b1 b2 b3 a w,I m 0 b0 b1 b2 b3 a w->wpOp P ops Q 6 (I m 1 b0 b1 b2 b3) a w)
  (z:∀ m b0 b1 b2 b3 a w,I m 1 b0 b1 b2 b3 a w->wpOp P ops Q 11 (I m 2 b0 b1 b2 b3) a w)
  (A:∀ m b0 b1 b2 b3 a w,I m 2 b0 b1 b2 b3 a w->wpOp P ops Q 16 (I m 3 b0 b1 b2 b3) a w)
  (X:∀ c b1 b2 b3 a w,I true c false b1 b2 b3 a w->wpOp P ops Q 2 (I true c true b1 b2 b3) a w)
  (Y:∀ c b0 b2 b3 a w,1<=c->I true c b0 false b2 b3 a w->wpOp P ops Q 7 (I true c b0 true b2 b3) a w)
  (Z:∀ c b0 b1 b3 a w,2<=c->I true c b0 b1 false b3 a w->wpOp P ops Q 12 (I true c b0 b1 true b3) a w)
  (aa:∀ c b0 b1 b2 a w,3<=c->I true c b0 b1 b2 false a w->wpOp P ops Q 17 (I true c b0 b1 b2 true) a w)
  (B:∀ a w,I true 3 true true true true a w->wpOp P ops Q 18 (fun d w'=>ϫ P md ops Q S 18 1 ((ky true 3 true true true true).setIfInBounds 18 true) d w') a w) :
  ∀ n m c b0 b1 b2 b3 a w,c<=3->mP m c b0 b1 b2 b3=n->I m c b0 b1 b2 b3 a w->ϫ P md ops Q S 18 (n+2) (ky m c b0 b1 b2 b3) a w:=by
 intro n;induction n with
 |zero =>
  intro m c b0 b1 b2 b3 a w j f i;have U:m=true/\c=3/\b0=true/\b1=true/\b2=true/\b3=true:=by
   unfold mP at f;cases m<;>cases b0<;>cases b1<;>cases b2<;>cases b3<;>simp at f ⊢ <;>omega
  obtain⟨rfl,rfl,rfl,rfl,rfl,rfl⟩:=U;have h:=x true true true true true ⟨3,ϊ⟩;rw[gs]at h;refine⟨fun v=>?_,fun k hi=>?_⟩
  .simp only at h;rw[v]at h;simp at h
  .have p:=kp.1 h.2 k hi
   simp[yF]at p;subst p;refine mE (fun d w' F=>⟨fun N=>?_,F⟩) (B a w i);simp[ky]at N
 |succ n V =>
  intro m c b0 b1 b2 b3 a w j f i;have h:=x m b0 b1 b2 b3 ⟨c,ϊ⟩;rw[gs]at h;refine⟨fun v=>?_,fun k hi=>?_⟩
  .simp only at h;rw[v]at h;simp at h
  .have p:=kp.1 h.2 k hi
   simp only[yF,ol,gs,mH,Bool.not_eq_true',ia]at p;have next:∀ u l q r s t d w',l<=3->mP u l q r s t=n->(ky m c b0 b1 b2 b3).setIfInBounds k true=ky u l q r s t->I u l q r s t d w' ->
     ((((ky m c b0 b1 b2 b3).setIfInBounds k true).getD 18 true=false->S w')/\ϫ P md ops Q S 18 (n+2) ((ky m c b0 b1 b2 b3).setIfInBounds k true) d w'):=by
    intro u l q r s t d w' M R G e;rw[G];exact⟨fun _=>H e,V _ _ _ _ _ _ _ _ M R e⟩
   rcases p with (((((((⟨rfl,rfl⟩|⟨rfl,rfl⟩)|⟨rfl,rfl⟩)|⟨rfl,rfl⟩)|⟨⟨rfl,rfl⟩,rfl⟩)|⟨⟨⟨rfl,rfl⟩,rfl⟩,o⟩)|⟨⟨⟨rfl,rfl⟩,rfl⟩,o⟩)|⟨⟨⟨rfl,rfl⟩,rfl⟩,o⟩)|⟨⟨⟨⟨⟨⟨rfl,rfl⟩,rfl⟩,rfl⟩,rfl⟩,rfl⟩,rfl⟩
   .exact mE (fun d w' e=>next true c b0 b1 b2 b3 d w' j (by unfold mP at f ⊢;simp at f ⊢;omega) (by simp[ky]) e) (W c b0 b1 b2 b3 a w i)
   .exact mE (fun d w' e=>next m 1 b0 b1 b2 b3 d w' ϊ (by unfold mP at f ⊢;omega) (by simp[ky]) e) (y m b0 b1 b2 b3 a w i)
   .exact mE (fun d w' e=>next m 2 b0 b1 b2 b3 d w' ϊ (by unfold mP at f ⊢;omega) (by simp[ky]) e) (z m b0 b1 b2 b3 a w i)
   .exact mE (fun d w' e=>next m 3 b0 b1 b2 b3 d w' ϊ (by unfold mP at f ⊢;omega) (by simp[ky]) e) (A m b0 b1 b2 b3 a w i)
   .exact mE (fun d w' e=>next true c true b1 b2 b3 d w' j (by unfold mP at f ⊢;simp at f ⊢;omega) (by simp[ky]) e) (X c b1 b2 b3 a w i)
   .exact mE (fun d w' e=>next true c b0 true b2 b3 d w' j (by unfold mP at f ⊢;simp at f ⊢;omega) (by simp[ky]) e) (Y c b0 b2 b3 a w o i)
   .exact mE (fun d w' e=>next true c b0 b1 true b3 d w' j (by unfold mP at f ⊢;simp at f ⊢;omega) (by simp[ky]) e) (Z c b0 b1 b3 a w o i)
   .exact mE (fun d w' e=>next true c b0 b1 b2 true d w' j (by unfold mP at f ⊢;simp at f ⊢;omega) (by simp[ky]) e) (aa c b0 b1 b2 a w o i)
   .simp[mP]at f
end
theorem rC (keep:Int->Bool->Bool->Bool):∀ (f:Nat) (a b:List Int),∀ z∈hY keep f a b,z∈a\/z∈b:=by
 intro f;induction f with
 |zero=>intro a b z d;simp[hY]at d
 |succ f e =>
  intro a b z d;have g:∀ (c:Bool) (x:Int) (r:List Int),z∈(if c=true then[x]else[])++r->z=x\/z∈r:=by
   intro c x r h;rw[mg]at h;rcases h with h|h
   .split at h
    .exact .inl (by simpa using h)
    .cases h
   .exact .inr h
  match a,b with
  |[],[]=>simp[hY]at d
  |x::a,[] =>
   simp only[hY]at d;rcases g _ _ _ d with rfl|h
   .simp
   .rcases e _ _ _ h with h|h
    .simp[h]
    .cases h
  |[],y::b =>
   simp only[hY]at d;rcases g _ _ _ d with rfl|h
   .simp
   .rcases e _ _ _ h with h|h
    .simp at h
    .simp[h]
  |x::a,y::b =>
   simp only[hY]at d;split at d
   .rcases g _ _ _ d with rfl|h
    .simp
    .rcases e _ _ _ h with h|h
     .simp[h]
     .exact .inr h
   .split at d
    .rcases g _ _ _ d with rfl|h
     .simp
     .rcases e _ _ _ h with h|h
      .exact .inl h
      .simp[h]
    .rcases g _ _ _ d with rfl|h
     .simp
     .rcases e _ _ _ h with h|h<;>simp[h]
theorem KH (keep:Int->Bool->Bool->Bool):∀ (f:Nat) (a b:List Int),a.Pairwise (· < ·)->b.Pairwise (· < ·)->(hY keep f a b).Pairwise (· < ·):=by
 intro f;induction f with
 |zero=>intro a b _ _;simp[hY]
 |succ f i =>
  intro a b k l;have j:∀ (c:Bool) (x:Int) (r:List Int),r.Pairwise (· < ·)->(∀ z∈r,x<z)->((if c=true then[x]else[])++r).Pairwise (· < ·):=by
   intro c x r m p;split
   .exact nK.2 ⟨p,m⟩
   .exact m
  match a,b with
  |[],[]=>simp[hY]
  |x::a,[] =>
   simp only[hY];have e:=nK.1 k;refine j _ _ _ (i a [] e.2 l) fun z d=>?_;rcases rC keep f a [] z d with h|h
   .exact e.1 z h
   .cases h
  |[],y::b =>
   simp only[hY];have g:=nK.1 l;refine j _ _ _ (i [] b k g.2) fun z d=>?_;rcases rC keep f [] b z d with h|h
   .cases h
   .exact g.1 z h
  |x::a,y::b =>
   have e:=nK.1 k;have g:=nK.1 l;simp only[hY];split
   .rename_i n
    refine j _ _ _ (i a (y::b) e.2 l) fun z d=>?_;rcases rC keep f a (y::b) z d with h|h
    .exact e.1 z h
    .rcases gP.1 h with rfl|h
     .exact n
     .have:=g.1 z h;omega
   .split
    .rename_i o n
     refine j _ _ _ (i (x::a) b k g.2) fun z d=>?_;rcases rC keep f (x::a) b z d with h|h
     .rcases gP.1 h with rfl|h
      .exact n
      .have:=e.1 z h;omega
     .exact g.1 z h
    .rename_i o m
     refine j _ _ _ (i a b e.2 g.2) fun z d=>?_;rcases rC keep f a b z d with h|h
     .have:=e.1 z h;omega
     .exact g.1 z h
theorem KO (keep:Int->Bool->Bool->Bool) {a b:List Int} (c:fT a=true) (d:fT b=true):fT (iH keep a b)=true:=by
 rw[tP]at c d ⊢;refine⟨KH keep _ a b c.1 d.1,fun z e=>?_⟩;rcases rC keep _ a b z e with h|h
 .exact c.2 z h
 .exact d.2 z h
theorem LN:∀ (l:List Int) (p:Int),l.Pairwise (· < ·)->(∀ x∈l,p<=x/\x<1000)->(L l:Int)<=if p<1000 then 1000 - p else 0:=by
 intro l;induction l with
 |nil=>intro p _ _;simp;split<;>omega
 |cons x l e =>
  intro p d b;have a:=nK.1 d;have f:=b x ύ;have:=e (x+1) a.2 (fun z c=>⟨by have:=a.1 z c;omega,(b z (by simp[c])).2⟩);simp only[Ϧ];split at this<;>split<;>omega
theorem yU {l:List Int} (h:fT l=true):L l<=1000:=by
 rw[tP]at h;have:=LN l 0 h.1 (fun x a=>h.2 x a);simp at this;omega
def kR (k:Int) (x y:List Int):List Int:=iH (if k=1 then Jd else if k=2 then tu else Je) x y
theorem Kl (k:Int) {x y:List Int} (a:fT x=true) (hy:fT y=true):fT (kR k x y)=true:=KO _ a hy
theorem zH (g d:Nat) (a:β):Calls prog 239 #[.func (.func g) #[] #[],þ (J ⟨d,0,O⟩)] a fun e w' =>
  e=ŗ (.func (.func 240) #[] #[þ (J ⟨d,0,O⟩),þ (J ⟨a.heap.size,0,O⟩)])/\w'=å a (C #[.func (.func g) #[] #[]] 288):=by
 have h:∀ (c:Fn) (first b:Array ε) (f:β),(Instr.makeFunc c first b).run prog f=.ok (.func c first b) f:=fun _ _ _ _=>rfl;go_enter func239,ntmps239;go_wp2;go_ret;exact⟨rfl,rfl⟩
def uw (b:Nat) (c:β) (d a:ε) (x:List Int):Prop:=c.ownsRow b 3 1 a (L x) (τ x)/\fT x=true/\∀ g,a.ownBlock=J g->d.ownBlock≠J g
def nl (a:Nat) (b:β) (c:ε):List ε->List (List Int)->Prop
 |[],[]=>True
 |v::vs,x::xs=>uw a b c v x/\nl a b c vs xs
 |_,_=>False
theorem uw.keep {a:Nat} {b c:β} {e f i:ε} {x:List Int} (h:uw a b e i x) (d:∀ g,a<=g->g<b.heap.size->e.ownBlock≠J g->c.heap[g]?=b.heap[g]?/\f.ownBlock≠J g):uw a c f i x:=
 ⟨vG h.1 fun g hg=>(d g (h.1.lt g hg).1 (h.1.lt g hg).2 (h.2.2 g hg)).1,h.2.1,fun g hg=>(d g (h.1.lt g hg).1 (h.1.lt g hg).2 (h.2.2 g hg)).2⟩
theorem nl.keep {a:Nat} {b c:β} {e f:ε} (d:∀ g,a<=g->g<b.heap.size->e.ownBlock≠J g->c.heap[g]?=b.heap[g]?/\f.ownBlock≠J g):∀ {i:List ε} {xs:List (List Int)},nl a b e i xs->nl a c f i xs
 |[],[],_=>trivial
 |_::_,_::_,h=>⟨h.1.keep d,nl.keep d h.2⟩
 |[],_::_,h=>h.elim
 |_::_,[],h=>h.elim
theorem nl.len {b:Nat} {c:β} {d:ε}:∀ {a:List ε} {xs:List (List Int)},nl b c d a xs->L a=L xs
 |[],[],_=>rfl
 |_::_,_::_,h=>by simp[nl.len h.2]
 |[],_::_,h=>h.elim
 |_::_,[],h=>h.elim
structure jq (W1 W:β) (sb:Nat) (sv:ε) (n:Nat) (st:List (List Int)):Prop where
 var:W.heap[sb]?=J (C #[sv] 196 (0,0))
 ex:∃ vs,W.ownsRow W1.heap.size 23 1 sv n vs.reverse/\nl W1.heap.size W sv vs st
 len:L st=n
 keep:∀ b,b<W1.heap.size->b≠sb->W.heap[b]?=W1.heap[b]?
 size:W1.heap.size<=W.heap.size
 lt:sb<W1.heap.size
 bel:Below sb W1 W
theorem jq.own {b a:β} {d:Nat} {c:ε} {n:Nat} {e:List (List Int)} (h:jq b a d c n e):a.ownsRow b.heap.size 23 1 c n (Classical.choose h.ex).reverse:=(Classical.choose_spec h.ex).1
theorem jq.cell_keep {a c:β} {d:Nat} {i:ε} {n:Nat} {g:List (List Int)} (h:jq a c d i n g) (b o:Nat) (e:b<a.heap.size) (f:b≠d):c.cell? ⟨b,o,O⟩=a.cell? ⟨b,o,O⟩:=by
 have:=h.keep b e f;simp only[World.cell?,this]
theorem jq.start {a:β} {c:Nat} (b:a.heap[c]?=J (C #[D O 0 0] 196 (0,0))):jq a a c (D O 0 0) 0 []:=
 ⟨b,⟨[],hZ _ _ _ _,trivial⟩,rfl,fun _ _ _=>rfl,NZ,ο b,φ _ _⟩
theorem Cq:(prog.info? 23).map (fun i=>(i.zero,i.size,i.bytes))=J (J (D O 0 0),1,24):=ϋ
theorem jq.below {f d e:β} {i:Nat} {k:ε} {n:Nat} {j:List (List Int)} (h:jq f d i k n j) (a:BQ d e):jq f e i k n j:=by
 obtain⟨q,p,o⟩:=h.ex;exact⟨by rw[a.block _ (by have:=h.size;have:=h.lt;omega)];exact h.var,⟨q,mz p a,o.keep fun g _ c m=>⟨a.block g c,m⟩⟩,h.len,fun b l c=>by rw[a.block b (by have:=h.size;omega)];exact h.keep b l c,by have:=h.size;have:=a.size;omega,h.lt,h.bel.trans (a.mono (by have:=h.size;have:=h.lt;omega))⟩
theorem jq.next {l k o c:β} {a:Nat} {j i y:ε} {n u:Nat} {R v:List (List Int)} {w:List ε} {x:List Int} (h:jq l k a j n R) (m:BQ k o) {rv:ε} (f:rv.ownBlock=j.ownBlock) (hg:o.grownBy c rv.ownBlock)
  (hv:i.ownBlock=rv.ownBlock\/i.ownBlock=J o.heap.size) (H:nl l.heap.size k j w v) (s:o.ownsRow k.heap.size 3 1 y (L x) (τ x)) (P:fT x=true)
  (F:c.ownsRow l.heap.size 23 1 i u (w.reverse++[y])) (K:L v+1=u) :
  jq l (ŝ c ⟨a,0,O⟩ i) a i u (x::v):=by
 have U:=m.size;have T:=h.size;have I:=h.lt;have S:=hg.size;have t:∀ g,j.ownBlock=J g->l.heap.size<=g:=fun g hg=>(h.own.lt g hg).1;have G:∀ g,j.ownBlock=J g->g<k.heap.size:=fun g hg=>(h.own.lt g hg).2;have N:c.heap[a]?=J (C #[j] 196 (0,0)):=by
  rw[hg.block a ϊ (by rw[f];intro e;have:=t a e.symm;omega),m.block a ϊ];exact h.var
 have M:=π c a 0 _ _ i N;have r:∀ g,g≠a->(ŝ c ⟨a,0,O⟩ i).heap[g]?=c.heap[g]?:=fun g hg=>ψ _ _ _ _ (by simpa using hg);refine⟨by rw[M];rfl,⟨y::w,by rw[List.reverse_cons];exact vG F fun g d=>r g (by have:=(F.lt g d).1;omega),⟨?_,P,?_⟩,H.keep fun g z p A=>⟨?_,?_⟩⟩,by simpa using K,fun b z p=>?_,?_,I,?_⟩
 .refine vG (ii s ϊ |> fun q=>vG q (w':=c) fun g d=>?_) fun g d=>r g (by have:=(s.lt g d).1;omega)
  have E:=s.lt g d;exact hg.block g E.2 (by rw[f];intro e;have:=G g e.symm;omega)
 .intro g d
  have E:=s.lt g d;rcases hv with hv|hv
  .rw[hv,f];intro e;have:=G g e;omega
  .rw[hv];intro e;simp only[Ο]at e;omega
 .rw[r g ϊ,hg.block g ϊ (by rw[f];exact fun e=>A e.symm),m.block g p]
 .rcases hv with hv|hv
  .rw[hv,f];exact A
  .rw[hv];intro e;simp only[Ο]at e;omega
 .rw[r b p,hg.block b ϊ (by rw[f];intro e;have:=t b e.symm;omega),m.block b ϊ]
  exact h.keep b z p
 .rw[MC];omega
 .exact((h.bel.trans (m.mono ϊ)).grown hg ϊ (fun Q B=>by rw[f]at B;have:=t Q B;omega)).setCell NZ _
theorem jq.var7 {i c f d:β} {a:Nat} {b:ε} {n:Nat} {j:List (List Int)} (h:jq i c a b n j) (g:BQ c f) (hg:f.grownBy d b.ownBlock):d.heap[a]?=J (C #[b] 196 (0,0)):=by
 have:=g.size;have:=h.size;have:=h.lt;rw[hg.block a ϊ (by intro e;have:=(h.own.lt a e.symm).1;omega),g.block a ϊ];exact h.var
theorem jq.turned {g a d c:β} {b:Nat} {f:ε} {n:Nat} {m:List (List Int)} (h:jq g a b f n m) (e:BQ a d) (hg:d.grownBy c f.ownBlock) (v:ε):Below b a (ŝ c ⟨b,0,O⟩ v):=by
 have:=e.size;have:=h.size;have:=h.lt;have i:Below b a d:=e.mono ϊ;have j:Below b a c:=i.grown hg ϊ (fun l k=>by have:=(h.own.lt l k).1;omega);exact j.setCell NZ _
def Ap (d c:β) (b:Nat) (n:Nat) (f:List (List Int)) (e:Ending) (a:β):Prop:=e=ŗ (.tuple #[])/\∃ g,jq d a b g n f/\Below b c a
theorem Lj (m a:β) (d rb p p2:Nat) (af:ε) (n:Nat) (I:List (List Int)) (t:γ) (r:List Int) (h:jq m a d af n I) (ai:n<=100000) (z:fT r=true)
  (c1:a.cell? ⟨rb,0,O⟩=J (.func (.func 181) #[] #[þ (J ⟨p,0,O⟩),þ (J ⟨p2,0,O⟩)]))
  (x:∀ i,BQ a i->Calls prog 181 #[š (δ t),þ (J ⟨p,0,O⟩),þ (J ⟨p2,0,O⟩)] i (jZ i 3 1 (L r) (τ r))) :
  Calls prog 241 #[š (δ t),þ (J ⟨d,0,O⟩),þ (J ⟨rb,0,O⟩)] a (Ap m a d (n+1) (r::I)):=by
 obtain⟨ac,hi,Z,aa,ab⟩:=ϯ Cq;obtain⟨sa,sc,rfl⟩:=Θ h.own;obtain⟨al,y,w⟩:=h.ex;have R:=Zh y;have P:=Zh w;have c0:a.cell? ⟨d,0,O⟩=J (D sa n sc):=by rw[ν _ _ _ _ _ _ h.var];rfl
 have g:=Zh h;have Q:=Zh x;have T:=Zh z;clear h x y w z;go_enter func241,ntmps241;go_wp2_with fail
 refine ϸ (fun i=>BQ a i) 6 ϋ ?_;have c:BQ a a.drew:=RZ.drew;refine mn (fuel:=7) 0 [6] (D sa n sc) rfl ϋ ϋ ϋ ϋ (fun _ _ _ h=>h) ϒ ?_ c ?_
 .intro a j
  have ad:=ζ j c0;have ae:=ζ j c1;go_simp
 refine gJ (fuel:=6) 1 (þ (J ⟨rb,0,O⟩)) rfl ϋ ϋ ϋ ϋ (fun _ _ _ h=>h) ϒ ?_ c ?_
 .intro a
  go_simp
 refine mn (fuel:=5) 2 [6,4] (.func (.func 181) #[] #[þ (J ⟨p,0,O⟩),þ (J ⟨p2,0,O⟩)]) rfl ϋ ϋ ϋ ϋ (fun _ _ _ h=>h) ϒ ?_ c ?_
 .intro a j
  have ad:=ζ j c0;have ae:=ζ j c1;go_simp
 refine gJ (fuel:=4) 3 (š (δ t)) rfl ϋ ϋ ϋ ϋ (fun _ _ _ h=>h) ϒ ?_ c ?_
 .intro a
  go_simp
 refine Ψ (fuel:=3) 4 ϋ rfl ?_;intro K b;go_simp;refine(Q.o _ c).mono ?_;rintro e l ⟨H,rfl,s,X⟩;obtain⟨F,G,A⟩:=Θ s;have ag:Hid (H.oneCell'=true):=by show _=_;rw[A];rfl
 have S:Hid (l.ownsRow a.heap.size 3 1 H (L r) (τ r)):=ii s c.size;have o:BQ a l:=c.trans (X.mono c.size);clear s;subst A;go_simp;refine b _ _ o ?_;clear b K;have f:BQ a (å l (C #[D F (L r) G] 23)):=o.alloc o.size _;refine Ψ (fuel:=2) 5 ϋ rfl ?_;intro K b;go_simp;refine b _ _ f ?_;clear b K;have Y:=mz R.o f;refine qU (fuel:=1) 6 ϋ rfl ϋ ?_;intro K b;refine lx (by rfl) (.tmp 4) (.tmp 9) _ _ (by rfl) m.heap.size 23 ac _ 1 24 underlying196 hi Z aa ab rfl (D sa n sc) n _ (by rfl) Y _ 1 [D F (L r) G] (by rfl) (ig underlying196 l _ 1 1 1 rfl (by intro aj B;simp at B;subst B;rfl)) ώ ϊ (gh g.o.size f.size) ?_;intro ak M q k E;obtain⟨U,V,rfl⟩:=Θ q;have W:=Zh (g.o.next f (rv:=D sa n sc) rfl k E P.o (mz S.o (ġ)) T.o q (by simp[g.o.len]));have u:M.heap[d]?=J (C #[D sa n sc] 196 (0,0)):=g.o.var7 f k;have v:Below d a (ŝ M ⟨d,0,O⟩ (D U (n+1) V)):=g.o.turned f k _;have ah:=ν _ _ 0 _ _ _ u;have d1:=ϥ _ _ 0 _ _ u;clear q k u E;refine b _ _ ?_;clear b K;have N:=Zh v;clear v;refine Ze 7 ?_;refine Zd ?_;go_wp2
 go_end0
 exact⟨rfl,_,W.o,N.o⟩
theorem GW (G a:β) (l S:Nat) (aw:ε) (n:Nat) (x y:List Int) (s:List (List Int)) (h:jq G a l aw n (y::x::s)) (aF:n<=100000)
  (c1:a.cell? ⟨S,0,O⟩=J (.func (.func 185) #[] #[])) :
  Calls prog 240 #[š (δ []),þ (J ⟨l,0,O⟩),þ (J ⟨S,0,O⟩)] a (Ap G a l (n - 2+1) (kR 2 x y::s)):=by
 obtain⟨av,hi,aq,ar,au⟩:=ϯ Cq;have M:=h.len;simp only[Ϧ]at M;obtain⟨g,d,rfl⟩:=kz h.own ϊ;obtain⟨p1,p2,aT,aU⟩:=kk h.own;obtain⟨u,k,j⟩:=h.ex
 match u,j,k with
 |[],j,_=>exact j.elim
 |[_],j,_=>exact j.2.elim
 |yv::xv::u,j,k =>
  obtain⟨q,p,I⟩:=j;have Z:=nl.len I;have c0:a.cell? ⟨l,0,O⟩=J (D (J ⟨g,0,O⟩) n d):=by rw[ν _ _ _ _ _ _ h.var];rfl
  have W:(yv::xv::u).reverse=u.reverse++[xv]++[yv]:=ύ;rw[W]at k;have t:L u.reverse=L s:=by rw[pi,Z]
  have c2:a.cell? ⟨g,n - 2,O⟩=J xv:=by
   have:=k.cellAt (n - 2) ϊ;rw[iX (by rw[ω,t];simp;omega),gO ϊ,t,show n - 2 - L s=0 from ϊ]at this;exact this
  have m:a.cell? ⟨g,n - 1,O⟩=J yv:=by
   have:=k.cellAt (n - 1) ϊ;rw[gO (by rw[ω,t];simp;omega)]at this;simp only[ω,t,qN,show n - 1 - (L s+1)=0 from ϊ]at this;exact this
  have Q:=yR k (ϊ:n - 2<=n);rw[show(n - 2)*1=L u.reverse from by rw[t];omega,gM,sr]at Q;have af:Hid (∀ i,BQ a i->Calls prog 185 #[xv,yv] i (jZ i 3 1 (L (kR 2 x y)) (τ (kR 2 x y)))):=fun i T =>
   HH xv yv (L x) (L y) x y i rfl rfl ((Rd.of_own p.1).below T) ((Rd.of_own q.1).below T) p.2.1 q.2.1 (by have:=yU p.2.1;have:=yU q.2.1;omega)
  have aj:Hid (fT (kR 2 x y)=true):=Kl 2 p.2.1 q.2.1;obtain⟨ax,ay,rfl⟩:=Θ p.1;obtain⟨aA,aB,rfl⟩:=Θ q.1;generalize kR 2 x y=r at *;generalize (L x)=az at *;generalize (L y)=aC at *;have ak:=Zh Q;have ag:=Zh I;have B:=Zh h;have ah:=Zh M;have aG:2<=n:=ϊ;have aH:(0:Int)<=(n:Int) - 1:=ϊ;have aI:(0:Int)<=(n:Int) - 1 - 1:=ϊ;have aJ:(n:Int) - 1 - 1<=(d:Int):=ϊ;have aK:(n:Int) - 1<(n:Int):=ϊ;have aL:(n:Int) - 1 - 1<(n:Int):=ϊ;have aM:((n:Int) - 1).toNat=n - 1:=ϊ;have aN:((n:Int) - 1 - 1).toNat=n - 2:=ϊ;have aO:IntKind.i64.wrap ((n:Int) - 1)=(n:Int) - 1:=Ϗ;have aP:IntKind.i64.wrap ((n:Int) - 1 - 1)=(n:Int) - 1 - 1:=by rw[sn];unfold maxLen at p2;omega
  have aQ:(1:Int)<=(n:Int):=ϊ;have aR:(2:Int)<=(n:Int):=ϊ;have aS:(1:Int)<=(n:Int) - 1:=ϊ;clear h Q W M t k q p I Z;go_enter func240,ntmps240;go_wp2_with fail
  refine ϸ (fun i=>BQ a i) 16 ϋ ?_;have c:BQ a a.drew:=RZ.drew;refine mn (fuel:=17) 0 [16,3] (D (J ⟨g,0,O⟩) n d) rfl ϋ ϋ ϋ ϋ (fun _ _ _ h=>h) ϒ ?_ c ?_
  .intro a b
   have v:=ζ b c0;have w:=ζ b c1;have z:=ζ b c2;have A:=ζ b m;go_simp
  refine gJ (fuel:=16) 1 (IZ ((n:Int) - 1)) rfl ϋ ϋ ϋ ϋ (fun _ _ _ h=>h) ϒ ?_ c ?_
  .intro a
   go_simp
  refine gJ (fuel:=15) 2 (IZ ((n:Int) - 1 - 1)) rfl ϋ ϋ ϋ ϋ (fun _ _ _ h=>h) ϒ ?_ c ?_
  .intro a
   go_simp
  refine gJ (fuel:=14) 3 (D (J ⟨g,0,O⟩) (n - 2) d) rfl ϋ ϋ ϋ ϋ (fun _ _ _ h=>h) ϒ ?_ c ?_
  .intro a
   go_simp
  refine mn (fuel:=13) 4 [16,14] (.func (.func 185) #[] #[]) rfl ϋ ϋ ϋ ϋ (fun _ _ _ h=>h) ϒ ?_ c ?_
  .intro a b
   have v:=ζ b c0;have w:=ζ b c1;have z:=ζ b c2;have A:=ζ b m;go_simp
  refine mn (fuel:=12) 5 [16,14,9,8] (D (J ⟨g,0,O⟩) n d) rfl ϋ ϋ ϋ ϋ (fun _ _ _ h=>h) ϒ ?_ c ?_
  .intro a b
   have v:=ζ b c0;have w:=ζ b c1;have z:=ζ b c2;have A:=ζ b m;go_simp
  refine gJ (fuel:=11) 6 (IZ ((n:Int) - 1)) rfl ϋ ϋ ϋ ϋ (fun _ _ _ h=>h) ϒ ?_ c ?_
  .intro a
   go_simp
  refine gJ (fuel:=10) 7 (IZ ((n:Int) - 1 - 1)) rfl ϋ ϋ ϋ ϋ (fun _ _ _ h=>h) ϒ ?_ c ?_
  .intro a
   go_simp
  refine gJ (fuel:=9) 8 (þ (J ⟨g,n - 2,O⟩)) rfl ϋ ϋ ϋ ϋ (fun _ _ _ h=>h) ϒ ?_ c ?_
  .intro a
   go_simp
  refine mn (fuel:=8) 9 [16,14] (D ax az ay) rfl ϋ ϋ ϋ ϋ (fun _ _ _ h=>h) ϒ ?_ c ?_
  .intro a b
   have v:=ζ b c0;have w:=ζ b c1;have z:=ζ b c2;have A:=ζ b m;go_simp
  refine mn (fuel:=7) 10 [16,14,13,12] (D (J ⟨g,0,O⟩) n d) rfl ϋ ϋ ϋ ϋ (fun _ _ _ h=>h) ϒ ?_ c ?_
  .intro a b
   have v:=ζ b c0;have w:=ζ b c1;have z:=ζ b c2;have A:=ζ b m;go_simp
  refine gJ (fuel:=6) 11 (IZ ((n:Int) - 1)) rfl ϋ ϋ ϋ ϋ (fun _ _ _ h=>h) ϒ ?_ c ?_
  .intro a
   go_simp
  refine gJ (fuel:=5) 12 (þ (J ⟨g,n - 1,O⟩)) rfl ϋ ϋ ϋ ϋ (fun _ _ _ h=>h) ϒ ?_ c ?_
  .intro a
   go_simp
  refine mn (fuel:=4) 13 [16,14] (D aA aC aB) rfl ϋ ϋ ϋ ϋ (fun _ _ _ h=>h) ϒ ?_ c ?_
  .intro a b
   have v:=ζ b c0;have w:=ζ b c1;have z:=ζ b c2;have A:=ζ b m;go_simp
  refine Ψ (fuel:=3) 14 ϋ rfl ?_;intro K f;go_simp;refine(af.o _ c).mono ?_;rintro e F ⟨ac,rfl,P,ao⟩;obtain⟨aa,ab,V⟩:=Θ P;have aD:Hid (ac.oneCell'=true):=by show _=_;rw[V];rfl
  have ai:Hid (F.ownsRow a.heap.size 3 1 ac (L r) (τ r)):=ii P c.size;have H:BQ a F:=c.trans (ao.mono c.size);clear P;subst V;go_simp;refine f _ _ H ?_;clear f K;have o:BQ a (å F (C #[D aa (L r) ab] 23)):=H.alloc H.size _;refine Ψ (fuel:=2) 15 ϋ rfl ?_;intro K f;go_simp;refine f _ _ o ?_;clear f K;have ap:=mz ak.o o;refine qU (fuel:=1) 16 ϋ rfl ϋ ?_;intro K f;refine lx (by rfl) (.tmp 11) (.tmp 23) _ _ (by rfl) G.heap.size 23 av _ 1 24 underlying196 hi aq ar au rfl (D (J ⟨g,0,O⟩) (n - 2) d) (n - 2) _ (by rfl) ap _ 1 [D aa (L r) ab] (by rfl) (ig underlying196 F _ 1 1 1 rfl (by intro aV X;simp at X;subst X;rfl)) ώ ϊ (gh B.o.size o.size) ?_;intro aW ad N E Y;obtain⟨al,am,rfl⟩:=Θ N;have an:=Zh (B.o.next o (rv:=D (J ⟨g,0,O⟩) (n - 2) d) rfl E Y ag.o (mz ai.o (ġ)) aj.o N (by have:=ah.o;simp;omega));have R:ad.heap[l]?=J (C #[D (J ⟨g,0,O⟩) n d] 196 (0,0)):=B.o.var7 o E;have U:Below l a (ŝ ad ⟨l,0,O⟩ (D al ((n - 2)+1) am)):=B.o.turned o E _;have aE:=ν _ _ 0 _ _ _ R;have d1:=ϥ _ _ 0 _ _ R;clear N E R Y;refine f _ _ ?_;clear f K;have ae:=Zh U;clear U;refine Ze 17 ?_;refine Zd ?_;go_wp2
  go_end0
  exact⟨rfl,_,an.o,ae.o⟩
def gC (b0 b1 b2 b3:Bool) (v0 v1 v2 v3:ε):Int->Option ε:=fun z =>
 if z=0/\b0=true then J v0 else if z=1/\b1=true then J v1 else if z=2/\b2=true then J v2 else if z=3/\b3=true then J v3 else O
theorem JL (v0 v1 v2 v3:ε):gC false false false false v0 v1 v2 v3=fun _=>O:=by funext z;simp[gC]
theorem JH (b1 b2 b3:Bool) (v0 v1 v2 v3:ε):(fun z=>if z=0 then J v0 else gC false b1 b2 b3 v0 v1 v2 v3 z)=gC true b1 b2 b3 v0 v1 v2 v3:=by
 funext z;by_cases h:z=0<;>simp[gC,h]
theorem JI (b0 b2 b3:Bool) (v0 v1 v2 v3:ε):(fun z=>if z=1 then J v1 else gC b0 false b2 b3 v0 v1 v2 v3 z)=gC b0 true b2 b3 v0 v1 v2 v3:=by
 funext z;by_cases h:z=1<;>simp[gC,h]
theorem JJ (b0 b1 b3:Bool) (v0 v1 v2 v3:ε):(fun z=>if z=2 then J v2 else gC b0 b1 false b3 v0 v1 v2 v3 z)=gC b0 b1 true b3 v0 v1 v2 v3:=by
 funext z;by_cases h:z=2<;>simp[gC,h]
theorem JK (b0 b1 b2:Bool) (v0 v1 v2 v3:ε):(fun z=>if z=3 then J v3 else gC b0 b1 b2 false v0 v1 v2 v3 z)=gC b0 b1 b2 true v0 v1 v2 v3:=by
 funext z;by_cases h:z=3<;>simp[gC,h]
section
variable (W0:β) (TF:TypeId) (F0:ε) (V:Nat->ε) (fn1 fn2 fn3:ε) (T:ε->ε->ε->ε->Array ε)
def hh (m:Bool) (c:Nat) (b0 b1 b2 b3:Bool) (a:Act) (w:β):Prop:=
 ∃ mb es clock c1 c2 c3,Below W0.heap.size W0 w /\
  a={tmps:=T (if m=true then .map (J mb)else undef) (if 1<=c then V c1 else undef) (if 2<=c then V c2 else undef) (if 3<=c then V c3 else undef),defers:=[]} /\
  (m=true->W0.heap.size<=mb/\w.heap[mb]?=J (.map es clock)/\iP es (gC b0 b1 b2 b3 F0 (V c1) (V c2) (V c3))) /\
  (m=false->b0=false/\b1=false/\b2=false/\b3=false) /\
  (1<=c->W0.heap.size<=c1/\w.heap[c1]?=J (C #[fn1] TF (0,0)))/\(2<=c->W0.heap.size<=c2/\w.heap[c2]?=J (C #[fn2] TF (0,0)))/\(3<=c->W0.heap.size<=c3/\w.heap[c3]?=J (C #[fn3] TF (0,0))) /\
  (b1=true->1<=c)/\(b2=true->2<=c)/\(b3=true->3<=c)
variable {W0 TF F0 V fn1 fn2 fn3 T} {m:Bool} {c:Nat} {b0 b1 b2 b3:Bool} {a:Act} {w:β}
theorem hh.bel (h:hh W0 TF F0 V fn1 fn2 fn3 T m c b0 b1 b2 b3 a w):BQ W0 w:=by obtain⟨_,_,_,_,_,_,h,_⟩:=h;exact h
theorem hh.start (hb:BQ W0 w) (ha:a={tmps:=T undef undef undef undef,defers:=[]}):hh W0 TF F0 V fn1 fn2 fn3 T false 0 false false false false a w:=
 ⟨0,#[],0,0,0,0,hb,by rw[ha];simp,ύ,ύ,ύ,ύ,ύ,ύ,ύ,ύ⟩
theorem hh.made (h:hh W0 TF F0 V fn1 fn2 fn3 T false c b0 b1 b2 b3 a w):∃ x1 x2 x3,a={tmps:=T undef x1 x2 x3,defers:=[]} /\
  hh W0 TF F0 V fn1 fn2 fn3 T true c b0 b1 b2 b3 {tmps:=T (.map (J w.heap.size)) x1 x2 x3,defers:=[]} (å w (.map #[] 0)):=by
 obtain⟨mb,es,ck,c1,c2,c3,hB,ha,-,h2,h3,h4,h5,h6,h7,h8⟩:=h;refine⟨_,_,_,by rw[ha];rfl,w.heap.size,#[],0,c1,c2,c3,hB.alloc hB.size _,ύ,fun _=>⟨hB.size,χ w _,?_⟩,ύ,fun h=>?_,fun h=>?_,fun h=>?_,h6,h7,h8⟩
 .obtain⟨rfl,rfl,rfl,rfl⟩:=h2 rfl
  rw[JL];exact iP.none
 .exact⟨(h3 h).1,by rw[gX w _ _ (ο (h3 h).2)];exact(h3 h).2⟩
 .exact⟨(h4 h).1,by rw[gX w _ _ (ο (h4 h).2)];exact(h4 h).2⟩
 .exact⟨(h5 h).1,by rw[gX w _ _ (ο (h5 h).2)];exact(h5 h).2⟩
theorem hh.call1 (h:hh W0 TF F0 V fn1 fn2 fn3 T m 0 b0 b1 b2 b3 a w):∃ x0,a={tmps:=T x0 undef undef undef,defers:=[]} /\
  hh W0 TF F0 V fn1 fn2 fn3 T m 1 b0 b1 b2 b3 {tmps:=T x0 (V w.heap.size) undef undef,defers:=[]} (å w (C #[fn1] TF)):=by
 obtain⟨mb,es,ck,c1,c2,c3,hB,ha,h1,h2,h3,h4,h5,h6,h7,h8⟩:=h;have e1:b1=false:=by cases b1 with|true=>have:=h6 rfl;omega|false=>rfl
 refine⟨_,by rw[ha];rfl,mb,es,ck,w.heap.size,c2,c3,hB.alloc hB.size _,rfl,fun h=>⟨(h1 h).1,by rw[gX w _ _ (ο (h1 h).2.1)];exact(h1 h).2.1,?_⟩,h2,fun h=>⟨hB.size,χ w _⟩,ϊ,ϊ,fun _=>NZ,fun h=>by have:=h7 h;omega,fun h=>by have:=h8 h;omega⟩;have:=(h1 h).2.2;subst e1;have he:gC b0 false b2 b3 F0 (V w.heap.size) (V c2) (V c3)=gC b0 false b2 b3 F0 (V c1) (V c2) (V c3):=by funext z;simp[gC]
 rw[he];exact this
theorem hh.call2 (h:hh W0 TF F0 V fn1 fn2 fn3 T m 1 b0 b1 b2 b3 a w):∃ x0 x1,a={tmps:=T x0 x1 undef undef,defers:=[]} /\
  hh W0 TF F0 V fn1 fn2 fn3 T m 2 b0 b1 b2 b3 {tmps:=T x0 x1 (V w.heap.size) undef,defers:=[]} (å w (C #[fn2] TF)):=by
 obtain⟨mb,es,ck,c1,c2,c3,hB,ha,h1,h2,h3,h4,h5,h6,h7,h8⟩:=h;have e1:b2=false:=by cases b2 with|true=>have:=h7 rfl;omega|false=>rfl
 refine⟨_,_,by rw[ha];rfl,mb,es,ck,c1,w.heap.size,c3,hB.alloc hB.size _,rfl,fun h=>⟨(h1 h).1,by rw[gX w _ _ (ο (h1 h).2.1)];exact(h1 h).2.1,?_⟩,h2,fun _=>?_,fun h=>⟨hB.size,χ w _⟩,ϊ,fun _=>ϊ,fun _=>NZ,fun h=>by have:=h8 h;omega⟩
 .have:=(h1 h).2.2
  subst e1;have he:gC b0 b1 false b3 F0 (V c1) (V w.heap.size) (V c3)=gC b0 b1 false b3 F0 (V c1) (V c2) (V c3):=by funext z;simp[gC]
  rw[he];exact this
 .have h:=h3 NZ
  exact⟨h.1,by rw[gX w _ _ (ο h.2)];exact h.2⟩
theorem hh.call3 (h:hh W0 TF F0 V fn1 fn2 fn3 T m 2 b0 b1 b2 b3 a w):∃ x0 x1 x2,a={tmps:=T x0 x1 x2 undef,defers:=[]} /\
  hh W0 TF F0 V fn1 fn2 fn3 T m 3 b0 b1 b2 b3 {tmps:=T x0 x1 x2 (V w.heap.size),defers:=[]} (å w (C #[fn3] TF)):=by
 obtain⟨mb,es,ck,c1,c2,c3,hB,ha,h1,h2,h3,h4,h5,h6,h7,h8⟩:=h;have e1:b3=false:=by cases b3 with|true=>have:=h8 rfl;omega|false=>rfl
 refine⟨_,_,_,by rw[ha];rfl,mb,es,ck,c1,c2,w.heap.size,hB.alloc hB.size _,rfl,fun h=>⟨(h1 h).1,by rw[gX w _ _ (ο (h1 h).2.1)];exact(h1 h).2.1,?_⟩,h2,fun _=>?_,fun _=>?_,fun h=>⟨hB.size,χ w _⟩,fun _=>ϊ,fun _=>ϊ,fun _=>NZ⟩
 .have:=(h1 h).2.2
  subst e1;have he:gC b0 b1 b2 false F0 (V c1) (V c2) (V w.heap.size)=gC b0 b1 b2 false F0 (V c1) (V c2) (V c3):=by funext z;simp[gC]
  rw[he];exact this
 .have h:=h3 ϊ
  exact⟨h.1,by rw[gX w _ _ (ο h.2)];exact h.2⟩
 .have h:=h4 ϊ
  exact⟨h.1,by rw[gX w _ _ (ο h.2)];exact h.2⟩
theorem oP {w:β} {b:Nat} {o o':Obj} (hb:w.heap[b]?=J o):(Go.ChangeMaps.setBlock w b o').heap[b]?=J o'/\∀ b',b'≠b->(Go.ChangeMaps.setBlock w b o').heap[b']?=w.heap[b']?:=MapKept.heap_set hb
theorem pq {B:Nat} {W w:β} (h:Below B W w) {b:Nat} (hb:B<=b) (o:Obj):Below B W (Go.ChangeMaps.setBlock w b o):=
 ⟨h.os,h.tape,h.output,by have:=h.size;simpa[Go.ChangeMaps.setBlock] using this,fun k hk=>by
  rw[<-h.block k hk]
  simp[Go.ChangeMaps.setBlock,show b≠k from ϊ]⟩
theorem mN {w:β} {mb g:Nat} {es:Array MapEntry} {ck:Nat} {cs:Array ε} {t:TypeId} {o:Obj} (hm:w.heap[mb]?=J (.map es ck)) (hg:w.heap[g]?=J (C cs t (0,0))):(Go.ChangeMaps.setBlock w mb o).heap[g]?=J (C cs t (0,0)):=by
 rw[(oP hm).2 g (by rintro rfl;rw[hm]at hg;cases hg)];exact hg
theorem hh.put0 (h:hh W0 TF F0 V fn1 fn2 fn3 T true c false b1 b2 b3 a w):∃ mb es clock x1 x2 x3 g,a={tmps:=T (.map (J mb)) x1 x2 x3,defers:=[]}/\w.heap[mb]?=J (.map es clock)/\iP es g/\g 0=O /\
  hh W0 TF F0 V fn1 fn2 fn3 T true c true b1 b2 b3 {tmps:=T (.map (J mb)) x1 x2 x3,defers:=[]} (Go.ChangeMaps.setBlock w mb (.map (es.push {key:=IZ 0,val:=F0,born:=clock}) (clock+1))):=by
 obtain⟨mb,es,ck,c1,c2,c3,hB,ha,h1,h2,h3,h4,h5,h6,h7,h8⟩:=h;obtain⟨g1,g2,g3⟩:=h1 rfl;refine⟨mb,es,ck,_,_,_,_,by rw[ha];rfl,g2,g3,by simp[gC],mb,_,_,c1,c2,c3,pq hB g1 _,rfl,fun _=>⟨g1,(oP g2).1,?_⟩,ύ,fun h=>⟨(h3 h).1,mN g2 (h3 h).2⟩,fun h=>⟨(h4 h).1,mN g2 (h4 h).2⟩,fun h=>⟨(h5 h).1,mN g2 (h5 h).2⟩,h6,h7,h8⟩;rw[<-JH];exact g3.push (by simp[gC]) _ _
theorem hh.put1 (hc:1<=c) (h:hh W0 TF F0 V fn1 fn2 fn3 T true c b0 false b2 b3 a w):∃ mb es clock x1 x2 x3 g,a={tmps:=T (.map (J mb)) x1 x2 x3,defers:=[]}/\w.heap[mb]?=J (.map es clock)/\iP es g/\g 1=O /\
  hh W0 TF F0 V fn1 fn2 fn3 T true c b0 true b2 b3 {tmps:=T (.map (J mb)) x1 x2 x3,defers:=[]} (Go.ChangeMaps.setBlock w mb (.map (es.push {key:=IZ 1,val:=x1,born:=clock}) (clock+1))):=by
 obtain⟨mb,es,ck,c1,c2,c3,hB,ha,h1,h2,h3,h4,h5,h6,h7,h8⟩:=h;obtain⟨g1,g2,g3⟩:=h1 rfl;refine⟨mb,es,ck,V c1,_,_,_,by rw[ha,μ hc];rfl,g2,g3,by simp[gC],mb,_,_,c1,c2,c3,pq hB g1 _,by rw[μ hc];rfl,fun _=>⟨g1,(oP g2).1,?_⟩,ύ,fun h=>⟨(h3 h).1,mN g2 (h3 h).2⟩,fun h=>⟨(h4 h).1,mN g2 (h4 h).2⟩,fun h=>⟨(h5 h).1,mN g2 (h5 h).2⟩,fun _=>hc,h7,h8⟩;rw[<-JI];exact g3.push (by simp[gC]) _ _
theorem hh.put2 (hc:2<=c) (h:hh W0 TF F0 V fn1 fn2 fn3 T true c b0 b1 false b3 a w):∃ mb es clock x1 x2 x3 g,a={tmps:=T (.map (J mb)) x1 x2 x3,defers:=[]}/\w.heap[mb]?=J (.map es clock)/\iP es g/\g 2=O /\
  hh W0 TF F0 V fn1 fn2 fn3 T true c b0 b1 true b3 {tmps:=T (.map (J mb)) x1 x2 x3,defers:=[]} (Go.ChangeMaps.setBlock w mb (.map (es.push {key:=IZ 2,val:=x2,born:=clock}) (clock+1))):=by
 obtain⟨mb,es,ck,c1,c2,c3,hB,ha,h1,h2,h3,h4,h5,h6,h7,h8⟩:=h;obtain⟨g1,g2,g3⟩:=h1 rfl;refine⟨mb,es,ck,_,V c2,_,_,by rw[ha,μ hc];rfl,g2,g3,by simp[gC],mb,_,_,c1,c2,c3,pq hB g1 _,by rw[μ hc];rfl,fun _=>⟨g1,(oP g2).1,?_⟩,ύ,fun h=>⟨(h3 h).1,mN g2 (h3 h).2⟩,fun h=>⟨(h4 h).1,mN g2 (h4 h).2⟩,fun h=>⟨(h5 h).1,mN g2 (h5 h).2⟩,h6,fun _=>hc,h8⟩;rw[<-JJ];exact g3.push (by simp[gC]) _ _
theorem hh.put3 (hc:3<=c) (h:hh W0 TF F0 V fn1 fn2 fn3 T true c b0 b1 b2 false a w):∃ mb es clock x1 x2 x3 g,a={tmps:=T (.map (J mb)) x1 x2 x3,defers:=[]}/\w.heap[mb]?=J (.map es clock)/\iP es g/\g 3=O /\
  hh W0 TF F0 V fn1 fn2 fn3 T true c b0 b1 b2 true {tmps:=T (.map (J mb)) x1 x2 x3,defers:=[]} (Go.ChangeMaps.setBlock w mb (.map (es.push {key:=IZ 3,val:=x3,born:=clock}) (clock+1))):=by
 obtain⟨mb,es,ck,c1,c2,c3,hB,ha,h1,h2,h3,h4,h5,h6,h7,h8⟩:=h;obtain⟨g1,g2,g3⟩:=h1 rfl;refine⟨mb,es,ck,_,_,V c3,_,by rw[ha,μ hc];rfl,g2,g3,by simp[gC],mb,_,_,c1,c2,c3,pq hB g1 _,by rw[μ hc];rfl,fun _=>⟨g1,(oP g2).1,?_⟩,ύ,fun h=>⟨(h3 h).1,mN g2 (h3 h).2⟩,fun h=>⟨(h4 h).1,mN g2 (h4 h).2⟩,fun h=>⟨(h5 h).1,mN g2 (h5 h).2⟩,h6,h7,fun _=>hc⟩;rw[<-JK];exact g3.push (by simp[gC]) _ _
theorem hh.done (h:hh W0 TF F0 V fn1 fn2 fn3 T true 3 true true true true a w):∃ mb es clock c1 c2 c3,a={tmps:=T (.map (J mb)) (V c1) (V c2) (V c3),defers:=[]}/\W0.heap.size<=mb/\w.heap[mb]?=J (.map es clock)/\iP es (gC true true true true F0 (V c1) (V c2) (V c3)) /\
  (W0.heap.size<=c1/\w.heap[c1]?=J (C #[fn1] TF (0,0)))/\(W0.heap.size<=c2/\w.heap[c2]?=J (C #[fn2] TF (0,0)))/\(W0.heap.size<=c3/\w.heap[c3]?=J (C #[fn3] TF (0,0))):=by
 obtain⟨mb,es,ck,c1,c2,c3,hB,ha,h1,h2,h3,h4,h5,h6,h7,h8⟩:=h;obtain⟨g1,g2,g3⟩:=h1 rfl;exact⟨mb,es,ck,c1,c2,c3,by rw[ha];rfl,g1,g2,g3,h3 ϊ,h4 ϊ,h5 ϊ⟩
end
section
variable {P:Program} {ops:Array Oper} {Q:Exit->Act->β->Prop} {md:Region.Mode} {S:β->Prop}
theorem FV {last fuel:Nat} {listed listed':Array Bool} {a:Act} {w:β} (he:listed=listed') (h:ϫ P md ops Q S last fuel listed' a w):ϫ P md ops Q S last fuel listed a w:=by rw[he];exact h
theorem EU {w:β} {rest:List Oper} {o:Oper} {a:Act} (hgd:o.guard=O) (m x:Operand) (t:TypeId) (ho:o.op=.lookup t m x false) (mv xv:ε) (hm:a.eval m=mv) (hx:a.eval x=xv) (v:ε) (hr:(Instr.lookup t mv xv false).run P w=.ok v w)
  (h:wpList P ops Q rest (a.put o.dst v) w):wpList P ops Q (o::rest) a w:=by
 refine wpList_plain hgd fun K hK=>?_;unfold Oper.wp execOp;simp only[ho,hm,hx,Sem.run_bind,hr,pN,Sem.run_pure];exact hK _ _ h
end
