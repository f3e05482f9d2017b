/- Part 12 of the proof. -/
import Derived.Test.YtpilfbcffofheaaGreatDoorm08
import Derived.Test.YtpilfbcffofheaaGreatDoorm11
set_option linter.all false
set_option maxRecDepth 100000
set_option maxHeartbeats 16000000
namespace Go.Proofs.YtpilfbcffofheaaGreatDoor
open Go.RowKit Go.Proofs.Tryz Go.Sort
open Value renaming slice->D,agg->ā,string->š,pointer->þ
open Option renaming none->O,some->J
open List renaming length->L
open Obj renaming cells->C
open Ending renaming returned->ŗ
open World renaming alloc->å,setCell->ŝ
def Fv (B E:ε) (n m x y) (w:β) (v:L x=n) (hy:L y=m) (M:Rd w B n 1 (τ x)) (N:Rd w E m 1 (τ y)) :
  Calls prog 24 #[B,E] w fun e w'=>e=ŗ (.bool (x==y))/\BQ w w':=by
 obtain⟨a0,c,rfl,W,F⟩:=ku v M;obtain⟨R,T,rfl,X,Q⟩:=ku hy N;have d:=Zh (Ν v hy);by_cases g:n=m
 .have P:((n:Int) !=(m:Int))=false:=by rw[g];simp
  have k:=Zh g;clear g;go_enter func24,ntmps24;go_wp2;go_loopw [5] (fun p wr=>∃ (a:Nat),a<=n/\p=G a/\Hid (x.take a=y.take a)/\BQ w wr) (fun p _=>n - (intOf p).toNat)
  .exact⟨0,Ζ _,rfl,rfl,ρ _ _⟩
  obtain⟨a,a1,rfl,r,f⟩:=hrel;by_cases V:a<n
  .have t:a<L x:=ι d.o.1
   have u:a<L y:=gw d.o.2 k.o;obtain⟨b,off,rfl,c1⟩:=F.o a t;obtain⟨S,ad,rfl,c2⟩:=Q.o a u;have r1:=Ι (ζ f c1);have r2:=Ι (ζ f c2);have s:Hid (x.take (a+1)=x.take a++[x[a]]/\y.take (a+1)=y.take a++[y[a]]):=⟨jt t,jt u⟩;have I:Hid (x[a]≠y[a]->x≠y):=fun h e=>h (by subst e;rfl);have Y:(a:Int)<(n:Int):=U;have Z:(0:Int)<=(a:Int):=U;have aa:(a:Int)<(m:Int):=ι k.o;generalize x[a]=A at *;generalize y[a]=q at *;by_cases i:A=q
   .subst i
    go_wp2_with fail
    refine fY ?_;repeat (go_big_quiet_step (fail))
    refine gc fun K l=>?_;have o:=f.t l;go_wp2;go_roundw
    .exact⟨a+1,U,ϕ,by show _=_;rw[s.o.1,s.o.2,r.o],o⟩
    exact ω
   .have ac:(A !=q)=true:=by rw[bne_iff_ne];exact i
    have j:=Zh i;clear i;go_wp2_with fail
    refine fY ?_;repeat (go_big_quiet_step (fail))
    refine gc fun K l=>?_;have o:=f.t l;go_wp2;go_ret;exact⟨jm (by symm;simpa using I.o j.o),o⟩
  .have z:x=y:=by
    have:=r.o;rw[gF (ι d.o.1),gF (gw d.o.2 k.o)]at this;exact this
   have ab:¬(a:Int)<(n:Int):=U;have H:=Zh z;clear z;go_wp2;go_ret;exact⟨jm (by rw[H.o];simp),f⟩
 .have P:((n:Int) !=(m:Int))=true:=by rw[bne_iff_ne];omega
  have j:Hid ((x==y)=false):=by
   show _=_;rw[fU];rintro rfl;exact g (d.o.1.symm.trans d.o.2)
  clear g;go_enter func24,ntmps24;go_wp2;go_ret;exact⟨by rw[j.o];rfl,ρ _ _⟩
structure sF (w:β) (g off m:Nat) (F T:Nat->Int) (V:Nat->ε) (D:Nat->List ϰ):Prop where
 c0:∀ i,i<m->w.cell? ⟨g,off+i*3,O⟩=J (G (F i))
 c1:∀ i,i<m->w.cell? ⟨g,off+i*3+1,O⟩=J (G (T i))
 c2:∀ i,i<m->w.cell? ⟨g,off+i*3+2,O⟩=J (V i)
 rd:∀ i,i<m->fN w (V i) (L (D i)) (D i)
def sF.B {w w' g off m F T V D} (h:sF w g off m F T V D) (b:BQ w w'):sF w' g off m F T V D:=
 ⟨fun a hi=>ζ b (h.c0 a hi),fun a hi=>ζ b (h.c1 a hi),fun a hi=>ζ b (h.c2 a hi),fun a hi=>(h.rd a hi).B b⟩
def lO (w:β) (c m:Nat) (p:Nat->Nat):Prop:= ∃ a:Array ε,w.heap[c]?=J (C a 3 (0,0))/\a.size=m/\∀ b,b<m->a[b]?=J (G (p b))
def lO.cell {w nb m p} (h:lO w nb m p) {i} (e:i<m):w.cell? ⟨nb,i,O⟩=J (G (p i))/\w.frozen? ⟨nb,i,O⟩=false/\nb<w.heap.size:=by
 obtain⟨c,a,d,b⟩:=h;exact⟨by rw[ξ _ _ _ _ _ _ a];exact b i e,ϧ _ _ _ _ _ a,ς a⟩
def lO.same {w w' nb m p} (h:lO w nb m p) (e:w'.heap[nb]?=w.heap[nb]?):lO w' nb m p:=by
 obtain⟨a,b,c,d⟩:=h;exact⟨a,by rw[e];exact b,c,d⟩
def lO.congr {w nb m p q} (h:lO w nb m p) (e:∀ i,i<m->p i=q i):lO w nb m q:=by
 obtain⟨a,b,c,d⟩:=h;exact⟨a,b,c,fun i hi=>by rw[<-e i hi];exact d i hi⟩
def lO.set {w nb m p q} (h:lO w nb m p) (j x) (k:x=(q j:Int)) (g:∀ i,i<m->i≠j->p i=q i):lO (ŝ w ⟨nb,j,O⟩ (G x)) nb m q:=by
 obtain⟨b,d,a,f⟩:=h;refine⟨_,υ w nb j b _ _ d,by simpa using a,fun i hi=>?_⟩;by_cases e:i=j
 .subst e
  simp[a,hi,k]
 .rw[Array.getElem?_setIfInBounds_ne (fun c=>e c.symm),<-g i hi e]
  exact f i hi
def Hb (w:β) (e h:Nat) (f:ε) (d:List ϰ) (c:List ε):Prop:=
 ∀ a (hi:a<L d),c[a*2]?=J (Ϫ d[a].1)/\∃ b,c[a*2+1]?=J b/\w.ownsRow e 3 1 b (L d[a].2) (τ d[a].2)/\∀ g,b.ownBlock=J g->g≠h/\f.ownBlock≠J g
structure qw (w wr:β) (m k:Nat) (p:Nat->Nat) (dv:ε) (d:List ϰ) (cells:List ε):Prop where
 own:wr.ownsRow w.heap.size 130 2 dv k cells
 o:Hb wr w.heap.size w.heap.size dv (d.take k) cells
 next:lO wr w.heap.size m p
 off:dv.ownBlock≠J w.heap.size
 bel:BQ w wr
def qw.later {w o f:β} {m n p dv d cells} (h:qw w o m n p dv d cells) (j:L d=n) (e:∀ b,w.heap.size<=b->b<o.heap.size->f.heap[b]?=o.heap[b]?):fN f dv n d:=by
 refine⟨j,cells,Rd.of_own (jU h.own fun g hg=>e g (h.own.lt g hg).1 (h.own.lt g hg).2),fun k hi=>?_⟩;obtain⟨c,l,i,a,-⟩:=h.o k Ϝ;simp only[rh]at c a;exact⟨c,l,i,Rd.of_own (jU a fun g hg=>e g (a.lt g hg).1 (a.lt g hg).2)⟩
structure pJ (w W5:β) (eb m:Nat) (q:Nat->Nat) (tt:γ) (ds:List Int) (dv:ε) (wz:β):Prop where
 ent:wz.heap[eb]?=J (C #[š (δ tt),dv] 130 (0,0))
 next:lO wz w.heap.size m q
 own:wz.ownsRow W5.heap.size 3 1 dv (L ds) (τ ds)
 keep:∀ b,b<W5.heap.size->b≠eb->b≠w.heap.size->wz.heap[b]?=W5.heap[b]?
 bel:BQ w wz
 size:W5.heap.size<=wz.heap.size
def pJ.B {w W5 wz w2 eb m q tt ds dv} (h:pJ w W5 eb m q tt ds dv wz) (a:BQ wz w2):pJ w W5 eb m q tt ds dv w2:=by
 obtain⟨g,f,i,n3⟩:=h.next;refine⟨by rw[a.block _ (ς h.ent)];exact h.ent,h.next.same (a.block _ (ς f)),ψ h.own a,fun b c d e=>by rw[a.block b (ι h.size)];exact h.keep b c d e,h.bel.t a,gw h.size a.size⟩
def pJ.congr {w W5 wz eb m q q' tt ds ds' dv} (h:pJ w W5 eb m q tt ds dv wz) (b:∀ i,i<m->q i=q' i) (a:ds=ds'):pJ w W5 eb m q' tt ds' dv wz:=by
 subst a;exact⟨h.ent,h.next.congr b,h.own,h.keep,h.bel,h.size⟩
def qw.step {w Y x F u v:β} {k eb m p q} {s r j:ε} {d cells} {o:γ} {ds}
  (h:qw w Y m k p s d cells) (A:BQ Y x) (R:Y.heap.size<=eb) (hk) (E:d[k]=(o,ds)) (b:pJ w x eb m q o ds j F)
  (a:BQ F u) (H:v.ownsRow w.heap.size 130 2 r (k+1) (cells++[Ϫ o,j])) (n:u.grownBy v s.ownBlock) (hv:r.ownBlock=s.ownBlock\/r.ownBlock=J u.heap.size) :
  qw w v m (k+1) q r d (cells++[Ϫ o,j]):=by
 have S:w.heap.size<Y.heap.size:=by obtain⟨Q,i,-⟩:=h.next;exact ς i
 have T:=A.size;have W:=b.size;have V:=a.size;have B:L cells=k*2:=h.own.1;have I:L (d.take k)=k:=Ϝ;refine⟨H,?_,?_,?_,?_⟩
 .intro f hi
  rw[gp]at hi;by_cases K:f=k
  .subst K
   refine⟨?_,j,?_,?_,?_⟩
   .simp only[rh,E]
    rw[hL U,B,kj];rfl
   .rw[hL U,B,show f*2+1 - f*2=1 from U];rfl
   .simp only[rh,E]
    refine jU (gX (ψ b.own a) U) fun g hg=>?_;have c:=(ψ b.own a).lt g hg;refine n.block g c.2 ?_;intro e;have:=(h.own.lt g e.symm).2;omega
   .intro g hg
    have c:=(ψ b.own a).lt g hg;refine⟨U,?_⟩;intro e;rcases hv with hv|hv
    .rw[hv]at e
     have:=(h.own.lt g e).2;omega
    .rw[hv]at e
     simp only[Φ]at e;omega
  .have M:f<k:=U
   obtain⟨y,P,X,l,z⟩:=h.o f (by rw[I];exact M);simp only[rh]at y l;refine⟨?_,P,?_,?_,?_⟩
   .simp only[rh]
    rw[je U];exact y
   .rw[je U];exact X
   .simp only[rh]
    refine jU l fun g hg=>?_;have c:=(l.lt g hg).2;obtain⟨i,t⟩:=z g hg;rw[n.block g U (fun e=>t e.symm),a.block g U,b.keep g U U i,A.block g c]
   .intro g hg
    have c:=(l.lt g hg).2;obtain⟨i,t⟩:=z g hg;refine⟨i,?_⟩;rcases hv with hv|hv
    .rw[hv];exact t
    .rw[hv]
     intro e;simp only[Φ]at e;omega
 .refine b.next.same ?_
  rw[n.block _ U (fun e=>h.off e.symm),a.block _ U]
 .rcases hv with hv|hv
  .rw[hv];exact h.off
  .rw[hv]
   intro e;simp only[Φ]at e;omega
 .exact(b.bel.t a).grown n U (fun q N=>(h.own.lt q N).1)
def LJ (w:β) (m):lO (å w (C (madeCells #[G 0] m) 3)) w.heap.size m (fun _=>0):=by
 refine⟨_,φ w _,by simp[madeCells],fun a hi=>?_⟩;simp[madeCells,hi,Nat.mod_one]
theorem uV {D p j pj} (h:pj=p j) (hl):(D j)[pj]=hz D p j:=by
 subst h;unfold hz;rw[fX,Ρ hl];rfl
def Hz (a:List ϰ) (w:β) (e:Ending) (f:β):Prop:= ∃ c,e=ŗ c/\(∀ d:β,(∀ b,w.heap.size<=b->b<f.heap.size->d.heap[b]?=f.heap[b]?)->fN d c (L a) a)/\Below w.heap.size w f
def QA (g ď m e1:Nat) (bt bD:Nat->Int) (cV:Nat->ε) (a:Nat->List ϰ) (I:List ϰ) (aK:Nat) (w:β) (h:sF w g ď m bt bD cV a) (d3:m<=1000) (bH:jM aK (iS a (fun _=>0) m)=I) (cn:jL (iS a (fun _=>0) m)<=aK) (hF:aK<=1000000) (cB:∀ i,∀ e∈a i,L e.2<=1000) :
  Calls prog 321 #[D (J ⟨g,ď,O⟩) m e1] w (Hz I w):=by
 have⟨S,b9⟩:=π h cB;have dU:L I<=1000000:=by rw[<-bH];have:=Gp aK (iS a (fun _=>0) m);omega
 have dn:∀ w,(Instr.makeSlice 23 (G m) (G m)).run prog w=.ok (D (J ⟨w.heap.size,0,O⟩) m m) (å w (C (madeCells #[G 0] m) 3)):=fun w=>run_make_row' 23 3 (G 0) 8 gl oB rfl .i64 .i64 m U U w;have ct:BQ w (å w (C (madeCells #[G 0] m) 3)):=ġ;have cb:Hid (qw w (å w (C (madeCells #[G 0] m) 3)) m 0 (fun _=>0) (D O 0 0) I []):=⟨⟨rfl,.inl ⟨rfl,rfl⟩⟩,fun i hi=>by simp at hi,LJ w m,by simp[Value.ownBlock],ct⟩;have cd:Hid (jM aK (iS a (fun _=>0) m)=I.drop 0):=bH;have ca:=Zh cn;clear h cB ct bH cn;go_enter func321,ntmps321;go_wp2
 go_step3
 go_wp2;generalize c3:(å w (C (madeCells #[G 0] m) 3))=dQ at *;clear c3 dn
 go_step3
 go_wp2
 go_loopg [3] aK (fun ck dK wr=>∃ (P:Nat) (d:Nat->Nat) (be:List ε),P<=L I/\Hid (jM ck (iS a d m)=I.drop P)/\Hid (jL (iS a d m)<=ck)/\Hid (∀ i,i<m->d i<=L (a i))/\Hid (qw w wr m P d dK I be))
 .exact⟨0,_,[],U,cd,ca,fun i _=>Ζ _,cb⟩
 obtain⟨P,d,be,d2,bC,bB,bz,Y⟩:=hrel;clear cb cd ca;obtain⟨bh,cv⟩:∃ z,z=gk:=⟨_,rfl⟩;rw[<-cv]at bC bB;have dY:bh<=gk:=U;have dZ:gk<=bh:=U;clear cv;have cu:=Y.o.bel
 rename β=>w1
 go_wp2
 go_loopg [5,16] m (fun a4 dL dJ dN=>∃ (f:Nat) (x:Int),f+a4=m/\dL=G x/\dJ=G f/\Hid (jh a d f x)/\BQ w1 dN)
 .exact⟨0,-1,U,rfl,rfl,jh.zero a d,ρ _ _⟩
 obtain⟨f,x,d0,rfl,rfl,al,am⟩:=hrel;have ak:=cu.t am;cases gk with
 |zero =>
  obtain rfl:f=m:=U;rcases al.o.form with H|⟨o,H,cw,bN⟩
  .have cN:Hid (L I=P):=by
    show L I=P;have ab:=al.o;rw[H]at ab;have ac:=bC.o;rw[Qy ab.none]at ac;have aO:=jp List.length ac;rw[fT,gO]at aO;omega
   rw[H];clear H;go_wp2;try rw[Exit.noGoto_ret]
   go_ret;refine⟨_,rfl,fun ee ac=>?_,ak⟩;have:=Y.o;rw[<-cN.o]at this;exact this.later rfl fun b c1 a4=>(ac b c1 (ι am.size)).trans (am.block b a4)
  .have aG:=cw
   have bw:=al.o;rw[H]at bw;have bk:=bw.some;clear bw;obtain⟨k,bo⟩:∃ X,X=(hz a d o).1:=⟨_,rfl⟩;rw[<-bo]at bk;have db:=LY bk;obtain⟨aN,rfl⟩:∃ aN,bh=aN+1:=⟨bh - 1,ι bB.o⟩;have aQ:=bC.o;rw[Qz bk]at aQ;have cx:P<L I:=by
    rcases pC P (L I) with h|h
    .exact h
    .rw[sx h]at aQ;cases aQ
   rw[lL cx]at aQ;obtain⟨cr,cs⟩:=List.cons.inj aQ;have cT:Hid (I[P]=(k,jT a d k f)):=cr.symm;have cU:Hid (jM aN (iS a (jZ a d k f) f)=I.drop (P+1)):=by show _;rw[Fb];exact cs
   have cS:Hid (jL (iS a (jZ a d k f) f)<=aN):=by show jL _<=aN;rw[Fb];have:=bB.o;omega
   have dP:=Zh bo;clear bk db aQ cr cs;have bQ:=ζ ak (S.o.c2 o aG);obtain⟨cW,c0,a9,d4,aU⟩:=ic ((S.o.rd o aG).B ak);obtain⟨b0,bS,cX,cY,rfl,d1,-,-⟩:=aU.o (d o) bN;rw[a9]at bQ;rw[uV rfl,<-bo]at d1;unfold Ϫ at d1;have ay:=ζ am (Y.o.next.cell aG).1;clear a9 aU bo;generalize bM:d o=an at *;generalize bL:L (a o)=bq at *;clear bM bL;have dA:(an:Int)<(bq:Int):=U;have dB:(0:Int)<=(an:Int):=U;have dC:(o:Int)<(f:Int):=U;have dD:(0:Int)<=(o:Int):=U;have dE:¬(o:Int)<0:=U;have ea:((an:Int)).toNat=an:=U;have eb:((o:Int)).toNat=o:=U;rw[H];clear H al;go_wp2_with fail
   have ds:=am.size;go_region_held3 (fun s=>s.cell? ⟨g,ď+o*3+2,O⟩=J (D (J ⟨b0,bS,O⟩) bq c0)/\s.cell? ⟨w.heap.size,o,O⟩=J (G an)/\s.cell? ⟨b0,bS+an*2,O⟩=J (š (δ k)))
    (first|exact⟨bQ,ay,d1⟩|assumption|go_keep)
    (fail)
   have aP:BQ w1 (å wr (C #[š (δ k),D O 0 0] 130)).drew:=((am.A ds _).drew);have bG:(å wr (C #[š (δ k),D O 0 0] 130)).drew.heap[wr.heap.size]?=J (C #[š (δ k),D O 0 0] 130 (0,0)):=φ wr _;have d5:wr.heap.size<(å wr (C #[š (δ k),D O 0 0] 130)).drew.heap.size:=ς bG;generalize c4:(å wr (C #[š (δ k),D O 0 0] 130)).drew=T at *;clear c4 bQ ay d1;generalize c7:wr.heap.size=p at *;clear c7;have dw:w.heap.size<w1.heap.size:=by obtain⟨dR,cD,-⟩:=Y.o.next;exact ς cD
   have cl:=cu.t aP;have b7:Hid (∃ bg,pJ w T p f (jZ a d k 0) k (jT a d k 0) bg T):=⟨D O 0 0,bG,(Y.o.next.same (aP.block _ dw)).congr fun i _=>(Il a d k i).symm,⟨rfl,.inl ⟨rfl,rfl⟩⟩,fun _ _ _ _=>rfl,cl,NZ⟩;obtain⟨dx,dd,de,df,dg⟩:=Ϩ oB;obtain⟨dy,dh,di,dj,dk⟩:=Ϩ zX;clear bG;go_wp2
   go_loopg [74] f (fun a4 dM dO=>∃ i:Nat,i+a4=f/\dM=G i/\Hid (∃ bg,pJ w T p f (jZ a d k i) k (jT a d k i) bg dO))
   .exact⟨0,U,rfl,b7.o⟩
   obtain⟨i,hi,rfl,ce⟩:=hrel;clear b7;obtain⟨bg,W⟩:=ce.o;obtain⟨K,V,rfl⟩:=Η W.own;have ao:=Zh W;have cI:wr.cell? ⟨p,0,O⟩=J (š (δ k)):=by rw[ξ _ _ _ _ _ _ W.ent];rfl
   have bX:wr.cell? ⟨p,1,O⟩=J (D K (L (jT a d k i)) V):=by rw[ξ _ _ _ _ _ _ W.ent];rfl
   have c6:=Db a d k 1000 b9.o i;clear ce;cases gk with
   |zero =>
    obtain rfl:i=f:=U;have c2:Hid (wr.ownsRow w.heap.size 130 2 u3 P be):=jU Y.o.own fun g hg=>by
     have ab:=(Y.o.own.lt g hg).2;rw[W.keep g (ι aP.size) U (fun e=>Y.o.off (by rw[hg,e])),aP.block g ab]
    have du:w.heap.size<=wr.heap.size:=gw W.size aP.size;have cR:Hid (∀ q,q<i->jZ a d k i q<=L (a q)):=fun q aj=>by
     have ab:=bz.o q aj;unfold jZ;rw[μ aj];unfold rI;split
     .rename_i ac;have:=ac.1;omega
     .exact ab
    clear W;go_wp2_with (at_builtin;refine ϻ rfl _ _ _ _ rfl w.heap.size 130 dy _ 2 40 rr dh di dj dk rfl _ P _ rfl (ψ c2.o (ġ)) _ 1 [š (δ k),D K (L (jT a d k i)) V] rfl (gh rr wr _ 2 1 1 rfl Ϛ) ώ U ό ?_;intro ed ef dq c8 dv _)
    go_roundg aN
    .exact⟨P+1,jZ a d k i,be++[Ϫ k,D K (L (jT a d k i)) V],U,cU.o,cS.o,cR.o,qw.step Y.o aP U cx cT.o ao.o (ġ) dq c8 dv⟩
    omega
   |succ av =>
    have ax:i<f:=U;have dG:(i:Int)<(f:Int):=U;have dz:(0:Int)<=(i:Int):=U;have aJ:=W.bel;have bP:=ζ aJ (S.o.c0 i ax);have l1:=ζ aJ (S.o.c1 i ax);have l2:=ζ aJ (S.o.c2 i ax);obtain⟨N,r,ba,bK,bu⟩:=ic (S.o.rd i ax);rw[ba]at l2;obtain⟨ar,-,dp⟩:=W.next.cell ax;rw[Cn]at ar;have du:=W.size;have bm:=W.own;generalize bt i=A at bP;generalize bD i=B at l1;have aY:Hid (∃ l,l=d i):=⟨_,rfl⟩;obtain⟨l,aH⟩:=aY.o;have aW:Hid (∃ j,j=L (a i)):=⟨_,rfl⟩;obtain⟨j,M⟩:=aW.o;have a8:=bz.o i ax;rw[<-aH]at ar a8;rw[<-M]at l2 bK a8;have⟨af,ap⟩:=π aH M;obtain⟨n,bj⟩:∃ n,n=L (jT a d k i):=⟨_,rfl⟩;rw[<-bj]at c6 bX;have bx:=Zh bj;clear aH M aY aW ba W;have c:BQ wr (å wr (C #[G A,G B,D N j r] 92)):=ġ;have aT:=φ wr (C #[G A,G B,D N j r] 92);have b2:(å wr (C #[G A,G B,D N j r] 92)).cell? ⟨wr.heap.size,2,O⟩=J (D N j r):=by rw[ξ _ _ _ _ _ _ aT];rfl
    have d6:wr.heap.size<(å wr (C #[G A,G B,D N j r] 92)).heap.size:=ς aT;have ay:=ζ c ar;have bY:=ζ c cI;have cJ:=ζ c bX;have bA:Hid (∀ q,(Value.slice K n V).ownBlock=J q->q≠wr.heap.size/\T.heap.size<=q):=fun q aj=>by
     rw[bj]at aj;have:=bm.lt q aj;omega
    clear aT ar cI bX bj bm;by_cases ah:l<j
    .obtain⟨b,Q,da,dc,rfl,F,aB,aF⟩:=bu.o l (by rw[<-ap.o];exact ah)
     rw[uV af.o]at F aB aF;have dW:=ii _ _ F;replace F:=ζ aJ F;replace aB:=ζ aJ aB;replace aF:=aF.B aJ;have cz:=b9.o i (hz a d i) (by rw[<-uV af.o (by rw[<-ap.o];exact ah)];exact Ψ _);obtain⟨E,aI⟩:∃ X,X=(hz a d i).1:=⟨_,rfl⟩;obtain⟨a2,bI⟩:∃ X,X=(hz a d i).2:=⟨_,rfl⟩;rw[<-aI]at F;rw[<-bI]at aB aF cz;have⟨aZ,b6⟩:=π aI bI;clear aI bI;obtain⟨u,bJ⟩:∃ X,X=L a2:=⟨_,rfl⟩;rw[<-bJ]at aB aF cz;have cP:=Zh bJ;clear bJ;unfold Ϫ at F;have au:=ζ c F;have ci:=ζ c aB;have cL:=Zh aF;have dH:(l:Int)<(j:Int):=U;have dI:(0:Int)<=(l:Int):=U;clear F aB aF;by_cases bp:E=k
     .subst bp
      have aq:Hid (d i<L (a i)/\(hz a d i).1=E):=⟨by rw[<-af.o,<-ap.o];exact ah,aZ.o.symm⟩;go_wp2_with fail
      generalize a6:(å wr (C #[G A,G B,D (J ⟨b,Q,O⟩) j r] 92))=cg at *;clear a6;have r1:=Ι ay;have r2:=Ι b2;have r3:=Ι au;have r4:=Ι bY;refine fY ?_;repeat (go_big_quiet_step (fail))
      refine gc fun aA ag=>?_;clear r1 r2 r3 r4;have cj:=ζ ag cJ;have cF:=ζ ag b2;have cE:=ζ ag ay;have ch:=ζ ag ci;have b5:=c.t ag;clear ag bY cJ b2 ay au ci c;go_wp2_with fail
      refine ϯ (fun s=>s.cell? ⟨p,1,O⟩=J (D K n V)/\s.cell? ⟨wr.heap.size,2,O⟩=J (D (J ⟨b,Q,O⟩) j r)/\s.cell? ⟨w.heap.size,i,O⟩=J (G l)/\s.cell? ⟨b,Q+l*2+1,O⟩=J (D da u dc)) 12 ϋ ?_;have v:aA.drew.cell? ⟨p,1,O⟩=J (D K n V)/\aA.drew.cell? ⟨wr.heap.size,2,O⟩=J (D (J ⟨b,Q,O⟩) j r)/\aA.drew.cell? ⟨w.heap.size,i,O⟩=J (G l)/\aA.drew.cell? ⟨b,Q+l*2+1,O⟩=J (D da u dc):=⟨cj,cF,cE,ch⟩;have aC:=b5.drew;clear b5 cj cF cE ch;generalize aA.drew=wd at *;refine gq (fuel:=13) 0 (þ (J ⟨p,1,O⟩)) rfl ϋ ϋ ϋ ϋ (fun _ _ _ h=>h) ϋ ?_ v ?_
      .intro s
       go_simp
      refine km (fuel:=12) 1 (D K n V) rfl ϋ ϋ ϋ ϋ (fun _ _ _ h=>h) ϋ ?_ v ?_
      .intro s aD
       obtain⟨bc,bT,bU,bV⟩:=aD;go_simp
      refine gq (fuel:=11) 2 (þ (J ⟨wr.heap.size,2,O⟩)) rfl ϋ ϋ ϋ ϋ (fun _ _ _ h=>h) ϋ ?_ v ?_
      .intro s
       go_simp
      refine km (fuel:=10) 3 (D (J ⟨b,Q,O⟩) j r) rfl ϋ ϋ ϋ ϋ (fun _ _ _ h=>h) ϋ ?_ v ?_
      .intro s aD
       obtain⟨bc,bT,bU,bV⟩:=aD;go_simp
      refine gq (fuel:=9) 4 (D (J ⟨w.heap.size,0,O⟩) f f) rfl ϋ ϋ ϋ ϋ (fun _ _ _ h=>h) ϋ ?_ v ?_
      .intro s
       go_simp
      refine gq (fuel:=8) 5 (G i) rfl ϋ ϋ ϋ ϋ (fun _ _ _ h=>h) ϋ ?_ v ?_
      .intro s
       go_simp
      refine gq (fuel:=7) 6 (þ (J ⟨w.heap.size,i,O⟩)) rfl ϋ ϋ ϋ ϋ (fun _ _ _ h=>h) ϋ ?_ v ?_
      .intro s
       go_simp
      refine km (fuel:=6) 7 (G l) rfl ϋ ϋ ϋ ϋ (fun _ _ _ h=>h) ϋ ?_ v ?_
      .intro s aD
       obtain⟨bc,bT,bU,bV⟩:=aD;go_simp
      refine gq (fuel:=5) 8 (þ (J ⟨b,Q+l*2,O⟩)) rfl ϋ ϋ ϋ ϋ (fun _ _ _ h=>h) ϋ ?_ v ?_
      .intro s
       go_simp
      refine gq (fuel:=4) 9 (þ (J ⟨b,Q+l*2+1,O⟩)) rfl ϋ ϋ ϋ ϋ (fun _ _ _ h=>h) ϋ ?_ v ?_
      .intro s
       go_simp
      refine km (fuel:=3) 10 (D da u dc) rfl ϋ ϋ ϋ ϋ (fun _ _ _ h=>h) ϋ ?_ v ?_
      .intro s aD
       obtain⟨bc,bT,bU,bV⟩:=aD;go_simp
      refine Κ (fuel:=2) 11 ϋ rfl ?_;intro e0 co;have bm:Hid (wr.ownsRow T.heap.size 3 1 (D K n V) n (τ (jT a d E i))):=by
       show World.ownsRow _ _ _ _ _ _ _;rw[bx.o];exact ao.o.own
      have dV:w.heap.size<=T.heap.size:=cl.size;have d7:wr.heap.size<wd.heap.size:=ii _ _ v.2.1;refine lD (by rfl) (.tmp 102) (.tmp 111) _ _ (by rfl) T.heap.size 3 dx _ 1 8 gl dd de df dg rfl (D K n V) n (τ (jT a d E i)) ϋ (ψ bm.o aC) (D da u dc) u (τ a2) ϋ (Rd.src gl (cL.o.B aC) (fun X cC=>by simp only[τ,ih]at cC;obtain⟨x,_,rfl⟩:=cC;rfl)) ώ U U ?_;intro dS R bn ai _;obtain⟨Z,aa,rfl⟩:=Η bn;have M:∀ q,(q=p\/q=wr.heap.size\/q=w.heap.size\/q=b)->J q≠(Value.slice K n V).ownBlock:=fun q aj e=>by
       have:=bA.o q e.symm;omega
      have bi:R.heap[p]?=J (C #[š (δ E),D K n V] 130 (0,0)):=by
       rw[ai.block _ U (M p (.inl rfl)),aC.block _ U];have:=ao.o.ent;rw[<-bx.o]at this;exact this
      have cq:Hid (lO R w.heap.size f (jZ a d E i)):=(ao.o.next.same (aC.block _ dp)).same (ai.block _ U (M _ (.inr (.inr (.inl rfl)))));have cp:Hid (∀ q,q<T.heap.size->R.heap[q]?=wd.heap[q]?):=fun q aj=>ai.block q U (fun e=>ι (bA.o q e.symm).2);have d8:=ai.size;have c9:=Zh ai;refine co _ _ ⟨ai.cell v.1 (M p (.inl rfl)),ai.cell v.2.1 (M _ (.inr (.inl rfl))),ai.cell v.2.2.1 (M _ (.inr (.inr (.inl rfl)))),ai.cell v.2.2.2 (M b (.inr (.inr (.inr rfl))))⟩ ?_;clear co e0 ai;have dF:R.cell? ⟨p,1,O⟩=J (D K n V):=by rw[ξ _ _ _ _ _ _ bi];rfl
      have cZ:R.frozen? ⟨p,1,O⟩=false:=ϧ _ _ _ _ _ bi;refine Ze 12 ?_;refine Ze 13 ?_;refine Zd ?_;have cm:(ŝ R ⟨p,1,O⟩ (D Z (n+u) aa)).heap[p]?=J (C #[š (δ E),D Z (n+u) aa] 130 (0,0)):=υ R p 1 _ _ (D Z (n+u) aa) bi;have bl:lO (ŝ R ⟨p,1,O⟩ (D Z (n+u) aa)) w.heap.size f (jZ a d E i):=cq.o.same (Γ _ _ _ _ ό);have cA:Hid ((ŝ R ⟨p,1,O⟩ (D Z (n+u) aa)).ownsRow T.heap.size 3 1 (D Z (n+u) aa) (n+u) (τ (jT a d E i)++τ a2)):=jU bn fun g hg=>Γ _ _ _ _ (by have:=(bn.lt g hg).1;simp;omega);have dl:Hid (∀ q,q<T.heap.size->q≠p->q≠w.heap.size->(ŝ R ⟨p,1,O⟩ (D Z (n+u) aa)).heap[q]?=T.heap[q]?):=fun q ab ac aO=>by
       rw[Γ _ _ _ _ (by simpa using ac),cp.o q ab,aC.block q U];exact ao.o.keep q ab ac aO
      have c5:Hid (BQ w (ŝ R ⟨p,1,O⟩ (D Z (n+u) aa))):=((ao.o.bel.t aC).grown c9.o U (fun q aj=>ι (bA.o q aj).2)).S ό _;have dt:T.heap.size<=(ŝ R ⟨p,1,O⟩ (D Z (n+u) aa)).heap.size:=ό;generalize ŝ R ⟨p,1,O⟩ (D Z (n+u) aa)=cH at *;clear bn bi cq cp dF cZ v aC;have ec:cH.cell? ⟨w.heap.size,i,O⟩=J (G l):=by
       have:=(bl.cell ax).1;rw[Cn,<-af.o]at this;exact this
      have dT:cH.frozen? ⟨w.heap.size,i,O⟩=false:=(bl.cell ax).2.1;have d9:IntKind.i64.wrap ((l:Int)+1)=(l:Int)+1:=Ϗ;have⟨cM,cQ⟩:=π cm bl;clear cm bl;go_wp2
      go_roundg av
      .refine⟨i+1,U,ϕ,⟨D Z (n+u) aa,?_⟩⟩
       have dm:L (jT a d E (i+1))=n+u:=by
        rw[zD aq.o.1 aq.o.2,σ,<-b6.o,<-cP.o,<-bx.o]
       refine⟨?_,?_,?_,?_,?_,?_⟩
       .rw[Γ _ _ _ _ ό];exact cM.o
       .refine cQ.o.set i _ ?_ fun q aj dr=>?_
        .rw[Cp aq.o.1 aq.o.2,μ rfl,<-af.o];rfl
        .rw[Cp aq.o.1 aq.o.2,κ dr]
       .rw[dm,zD aq.o.1 aq.o.2,<-b6.o,show τ (jT a d E i++a2)=τ (jT a d E i)++τ a2 from ng ..]
        exact jU cA.o fun g hg=>Γ _ _ _ _ (by have:=(cA.o.lt g hg).1;simp;omega)
       .intro q ab ac aO
        rw[Γ _ _ _ _ (by simpa using aO)];exact dl.o q ab ac aO
       .exact c5.o.S NZ _
       .simpa using dt
      omega
     .have cD:((δ E).toList==(δ k).toList)=false:=by rw[hN,hN,fU];exact bp
      have aX:Hid (¬(d i<L (a i)/\(hz a d i).1=k)):=fun h=>bp (by rw[aZ.o];exact h.2);clear bp;go_wp2_with fail
      generalize a6:(å wr (C #[G A,G B,D (J ⟨b,Q,O⟩) j r] 92))=cg at *;clear a6;have r1:=Ι ay;have r2:=Ι b2;have r3:=Ι au;have r4:=Ι bY;refine fY ?_;repeat (go_big_quiet_step (fail))
      refine gc fun aA a7=>?_;have ag:=c.t a7;clear r1 r2 r3 r4;go_wp2
      go_roundg av
      .exact⟨i+1,U,ϕ,⟨_,(ao.o.B ag).congr (fun q _=>(Co aX.o q).symm) (zC aX.o).symm⟩⟩
      omega
    .have dX:decide (l<j)=false:=kE ah
     have aX:Hid (¬(d i<L (a i)/\(hz a d i).1=k)):=fun h=>ah (by rw[af.o,ap.o];exact h.1);clear ah;go_wp2_with fail
     generalize a6:(å wr (C #[G A,G B,D N j r] 92))=cg at *;clear a6;have r1:=Ι ay;have r2:=Ι b2;refine fY ?_;repeat (go_big_quiet_step (fail))
     refine gc fun aA a7=>?_;have ag:=c.t a7;clear r1 r2;go_wp2
     go_roundg av
     .exact⟨i+1,U,ϕ,⟨_,(ao.o.B ag).congr (fun q _=>(Co aX.o q).symm) (zC aX.o).symm⟩⟩
     omega
 |succ av =>
  have aR:f<m:=U;have dG:(f:Int)<(m:Int):=U;have dz:(0:Int)<=(f:Int):=U;have bP:=ζ ak (S.o.c0 f aR);have l1:=ζ ak (S.o.c1 f aR);have l2:=ζ ak (S.o.c2 f aR);obtain⟨N,r,ba,bK,bu⟩:=ic ((S.o.rd f aR).B ak);rw[ba]at l2;have ar:=ζ am (Y.o.next.cell aR).1;have a8:=bz.o f aR;generalize bt f=A at bP;generalize bD f=B at l1;have aY:Hid (∃ l,l=d f):=⟨_,rfl⟩;obtain⟨l,aH⟩:=aY.o;have aW:Hid (∃ j,j=L (a f)):=⟨_,rfl⟩;obtain⟨j,M⟩:=aW.o;rw[<-aH]at ar a8;rw[<-M]at l2 bK a8;have⟨af,ap⟩:=π aH M;clear aH M aY aW ba;have c:BQ wr (å wr (C #[G A,G B,D N j r] 92)):=ġ;have a5:BQ w1 (å wr (C #[G A,G B,D N j r] 92)):=am.al _;have aT:=φ wr (C #[G A,G B,D N j r] 92);have b2:(å wr (C #[G A,G B,D N j r] 92)).cell? ⟨wr.heap.size,2,O⟩=J (D N j r):=by rw[ξ _ _ _ _ _ _ aT];rfl
  have az:=ζ c ar;clear aT ar;by_cases ah:l<j
  .have bc:((l:Int)==(j:Int))=false:=fU.2 U
   have b8:Hid (d f<L (a f)):=by show _;rw[<-af.o,<-ap.o];exact ah
   obtain⟨b,Q,da,dc,rfl,F,-,-⟩:=bu.o l (by rw[<-ap.o];exact ah);rw[uV af.o]at F;obtain⟨E,aI⟩:∃ X,X=(hz a d f).1:=⟨_,rfl⟩;rw[<-aI]at F;have aZ:=Zh aI;clear aI;unfold Ϫ at F;have au:=ζ c F;have dH:(l:Int)<(j:Int):=U;have dI:(0:Int)<=(l:Int):=U;rcases al.o.form with H|⟨o,H,cw,bN⟩
   .have aV:Hid (jh a d (f+1) (f:Int)):=by
     show _;have:=al.o;rw[H]at this;exact this.first b8.o
    rw[H];clear H F;go_wp2_with fail
    generalize aE:(å wr (C #[G A,G B,D (J ⟨b,Q,O⟩) j r] 92))=aL at *;clear aE;have r1:=Ι b2;have r2:=Ι az;refine fY ?_;repeat (go_big_quiet_step (fail))
    refine ru ?_;intro aM ae;obtain⟨⟨a0,osq⟩,y⟩:=ae;have ad:=a5.trans ((oV aL a0 osq).M a5.size);rw[<-y]at ad;clear y r1 r2;go_wp2_with fail
    refine fY ?_;repeat (go_big_quiet_step (fail))
    refine ru ?_;intro cf ae;obtain⟨⟨a1,bb⟩,y⟩:=ae;have aw:=ad.trans ((oV aM a1 bb).M ad.size);rw[<-y]at aw;clear y;go_wp2
    go_roundg av
    .exact⟨f+1,f,U,rfl,ϕ,aV.o,aw⟩
    omega
   .have aG:o<m:=U
    have bZ:=ζ ak (S.o.c2 o aG);obtain⟨cW,c0,a9,-,aU⟩:=ic ((S.o.rd o aG).B ak);obtain⟨b0,bS,cX,cY,rfl,a3,-,-⟩:=aU.o (d o) bN;rw[a9]at bZ;rw[uV rfl]at a3;have cK:=ζ am (Y.o.next.cell aG).1;obtain⟨cG,bO⟩:∃ X,X=(hz a d o).1:=⟨_,rfl⟩;rw[<-bO]at a3;have cc:=Zh bO;unfold Ϫ at a3;have br:=ζ c bZ;have bf:=ζ c a3;have bs:=ζ c cK;clear bO a9 bZ a3 cK F aU;generalize bM:d o=an at *;generalize bL:L (a o)=bq at *;have dA:(an:Int)<(bq:Int):=U;have dB:(0:Int)<=(an:Int):=U;have dC:(o:Int)<(m:Int):=U;have dD:(0:Int)<=(o:Int):=U;have dE:decide ((o:Int)<0)=false:=kE U;have cy:=nX E cG;have bv:=al.o;rw[H]at bv;have bd:=Zh bv;clear bv bM bL;rw[H];clear H al;cases aS:ltStr E cG with
    |true =>
     rw[aS]at cy;have aV:Hid (jh a d (f+1) (f:Int)):=by
      show _;exact bd.o.less b8.o (by rw[<-aZ.o,<-cc.o];exact aS)
     clear aS bd;go_wp2_with fail
     generalize aE:(å wr (C #[G A,G B,D (J ⟨b,Q,O⟩) j r] 92))=aL at *;clear aE;have r1:=Ι b2;have r2:=Ι az;refine fY ?_;repeat (go_big_quiet_step (fail))
     refine ru ?_;intro aM ae;obtain⟨⟨a0,osq⟩,y⟩:=ae;have t:=oV aL a0 osq;rw[<-y]at t;have ad:=a5.t t;have b3:=ζ t b2;have bR:=ζ t az;have bF:=ζ t au;have b1:=ζ t br;have bE:=ζ t bf;have b4:=ζ t bs;clear y r1 r2 b2 az au br bf bs t;go_wp2_with fail
     have r1:=Ι b3;have r2:=Ι bR;have r3:=Ι bF;have r4:=Ι b1;have bW:=Ι bE;have r6:=Ι b4;refine fY ?_;repeat (go_big_quiet_step (fail))
     refine ru ?_;intro cf ae;obtain⟨⟨a1,bb⟩,y⟩:=ae;have aw:=ad.trans ((oV aM a1 bb).M ad.size);rw[<-y]at aw;clear y r1 r2 r3 r4 bW r6;go_wp2
     go_roundg av
     .exact⟨f+1,f,U,rfl,ϕ,aV.o,aw⟩
     omega
    |false =>
     rw[aS]at cy;have aV:Hid (jh a d (f+1) (o:Int)):=by
      show _;exact bd.o.stay (by rw[<-aZ.o,<-cc.o];exact aS)
     clear aS bd;go_wp2_with fail
     generalize aE:(å wr (C #[G A,G B,D (J ⟨b,Q,O⟩) j r] 92))=aL at *;clear aE;have r1:=Ι b2;have r2:=Ι az;refine fY ?_;repeat (go_big_quiet_step (fail))
     refine ru ?_;intro aM ae;obtain⟨⟨a0,osq⟩,y⟩:=ae;have t:=oV aL a0 osq;rw[<-y]at t;have ad:=a5.t t;have b3:=ζ t b2;have bR:=ζ t az;have bF:=ζ t au;have b1:=ζ t br;have bE:=ζ t bf;have b4:=ζ t bs;clear y r1 r2 b2 az au br bf bs t;go_wp2_with fail
     have r1:=Ι b3;have r2:=Ι bR;have r3:=Ι bF;have r4:=Ι b1;have bW:=Ι bE;have r6:=Ι b4;refine fY ?_;repeat (go_big_quiet_step (fail))
     refine ru ?_;intro cf ae;obtain⟨⟨a1,bb⟩,y⟩:=ae;have aw:=ad.trans ((oV aM a1 bb).M ad.size);rw[<-y]at aw;clear y r1 r2 r3 r4 bW r6;go_wp2
     go_roundg av
     .exact⟨f+1,o,U,rfl,ϕ,aV.o,aw⟩
     omega
  .have bc:((l:Int)==(j:Int))=true:=by rw[show l=j by omega];exact vU _
   have cO:=Zh (al.o.skip (by rw[<-af.o,<-ap.o];exact ah));go_wp2_with fail
   generalize aE:(å wr (C #[G A,G B,D N j r] 92))=aL at *;clear aE;have r1:=Ι b2;have r2:=Ι az;refine fY ?_;repeat (go_big_quiet_step (fail))
   refine gc fun aM a7=>?_;have ad:=a5.t a7;clear r1 r2;go_wp2
   go_roundg av
   .exact⟨f+1,x,U,rfl,ϕ,cO.o,ad⟩
   omega
def Ff {P fn} {p u:Tmp} {ty} (h:fn.results=#[.cell p ty,.tmp u]) (i:Array ε) (w:β) (g t) (a:Array ε) (fr d)
  (c:i.getD p undef=þ (J ⟨g,0,O⟩)) (j:w.heap[g]?=J (C a t fr))
  (f:P.underlying ty=J d) (b:(match d with|.struct _|.array _ _=>true|_=>false)=true) (k:(P.info? ty).map (·.size)=J a.size) :
  (results fn i).run P w=.ok (.tuple #[ā a,i.getD u undef]) w:=by
 have e:i[p]?.getD undef=þ (J ⟨g,0,O⟩):=by simpa using c
 simp[results,h,e,asAddr,vR w g t ty a fr d j f b k]
def By (f t:Int) (a:List ϰ) (w:β) (e:Ending) (g:β):Prop:= ∃ c,e=ŗ (.tuple #[ā #[G f,G t,c],G 0])/\(∀ d:β,(∀ b,w.heap.size<=b->b<g.heap.size->d.heap[b]?=g.heap[b]?)->fN d c (L a) a)/\Below w.heap.size w g
def HL (g off m c F T) (M:Nat->ε) (D K FU f t) (w:β) (aS:ϭ w) (h:sF w g off m F T M D) (bd:0<m) (aO:m<=1000) (aL:jM FU (iS D (fun _=>0) m)=K) (aK:jL (iS D (fun _=>0) m)<=FU) (hF:FU<=1000000) (V:∀ i,∀ e∈D i,L e.1<=100000/\L e.2<=1000)
  (af:∀ i,i<m->lZ (F i) (T i) (D i)=true) (ai:∀ i,i+1<m->F (i+1)=T i) (ae:F 0=f) (ak:T (m - 1)=t) :
  Calls prog 302 #[.slice (J ⟨g,off,O⟩) m c] w (By f t K w):=by
 have aB:=Zh (fun d (r:BQ w d) i hi ao n (aT:M i=ao) (aP:L (D i)=n)=>Fz (F i) (T i) ao n _ d (aS.B r) (by rw[<-aT,<-aP];exact(h.rd i hi).B r) (fun e I=>⟨(V i e I).1,ι (V i e I).2⟩));have aD:=Zh (fun d (r:BQ w d)=>QA g off m c F T M D K FU d (h.B r) aO aL aK hF (fun i e I=>(V i e I).2));have⟨az,aA,k,ay,aC⟩:=kW af ai h ae ak;have Q:BQ w (å w (C #[G 0,G 0,.slice O 0 0] 92)):=ġ;have aa:=φ w (C #[G 0,G 0,.slice O 0 0] 92);have aR:=ς aa;have a1:((m:Int)==0)=false:=fU.2 U;clear h af ai ae ak;go_enter func302,ntmps302;go_wp2_with fail
 generalize ba:(å w _)=p at *;go_loopw [14] (fun i wr=>∃ a:Nat,a<=m/\i=G a/\BQ p wr) (fun i _=>m - (intOf i).toNat)
 .exact⟨0,U,rfl,ρ _ _⟩
 obtain⟨a,bc,rfl,R⟩:=hrel;have B:=Q.t R;by_cases s:a<m
 .have bi:(a:Int)<(m:Int):=U
  have bh:(0:Int)<=(a:Int):=U;have bj:=ζ B (k.o.c0 a s);have l1:=ζ B (k.o.c1 a s);have l2:=ζ B (k.o.c2 a s);obtain⟨aE,aF,al,be,-⟩:=ic (k.o.rd a s);rw[al]at l2;have Y:=Zh (fun d r=>aB.o d r a s _ _ al rfl);rw[az.o a s]at Y;generalize(L (D a))=a0 at *;generalize F a=aG at *;generalize T a=a3 at *;have ab:BQ wr (å wr (C #[G aG,G a3,.slice aE a0 aF] 92)):=ġ;have ap:=B.t ab;have ar:=R.t ab;go_wp2_with (go_at_call 259;refine(Y.o _ ap).M ?_;rintro e z ⟨rfl,aM⟩;have au:=ar.t aM)
  go_roundw
  .exact⟨a+1,U,ϕ,au⟩
  exact ω
 .obtain rfl:a=m:=U
  go_wp2
  rename β=>w1
  go_loopw [6] (fun i a4=>∃ q:Nat,q+1<=a/\i=G ((q:Int)+1)/\BQ p a4) (fun i _=>a - (intOf i).toNat)
  .exact⟨0,U,ϕ,R⟩
  obtain⟨q,bf,rfl,H⟩:=hrel;have A:=Q.t H;by_cases ah:q+1<a
  .have an:=ζ A (k.o.c0 _ ah)
   have aZ:=ζ A (k.o.c1 q U);rw[aA.o q ah]at an;generalize T q=bo at *;have aX:(q:Int)+1<(a:Int):=U;have aY:(q:Int)<(a:Int):=U;have a2:(0:Int)<=(q:Int):=U;have bk:(0:Int)<=(q:Int)+1:=U;have bl:((q:Int)+1).toNat=q+1:=U;have aU:IntKind.i64.wrap ((q:Int)+1 - 1)=(q:Int):=Ϗ;have aV:IntKind.i64.wrap (q:Int)=(q:Int):=Ϗ;have r0:=Ι an;have r1:=Ι aZ;go_wp2_with fail
   refine fY ?_;repeat (go_big_quiet_step (fail))
   refine gc fun a7 aN=>?_;clear aU aV;go_wp2;go_roundw
   .exact⟨q+1,U,ϕ,H.t aN⟩
   exact ω
  .have ag:q+1=a:=U
   have W:=ζ A (k.o.c0 0 U);have am:=ζ A (k.o.c1 q U);rw[ay.o]at W;rw[show T q=t from by have:=aC.o;rwa [<-ag,qo]at this]at am;simp only[rj,kG]at W;have aX:¬(q:Int)+1<(a:Int):=U;have aY:(q:Int)<(a:Int):=U;have a2:(0:Int)<=(q:Int):=U;have aW:IntKind.i64.wrap ((a:Int) - 1)=(q:Int):=Ϗ;have aQ:=H.size;clear ag;go_wp2_with fail
   go_region_held3 (fun d=>d.cell? ⟨g,off,O⟩=J (G f)/\d.cell? ⟨g,off+q*3+1,O⟩=J (G t))
    (first|exact⟨W,am⟩|assumption|go_keep)
    (fail)
   clear aW;have aj:=φ wr (C #[G f,G t] 89);have aJ:BQ p (å wr (C #[G f,G t] 89)).drew:=(H.A aQ _).drew;have a5:(å wr (C #[G f,G t] 89)).drew.cell? ⟨wr.heap.size,0,O⟩=J (G f):=by rw[show(å wr (C #[G f,G t] 89)).drew.cell? ⟨wr.heap.size,0,O⟩=(å wr (C #[G f,G t] 89)).cell? ⟨wr.heap.size,0,O⟩from rfl,ξ _ _ _ _ _ _ aj];rfl
   have a6:(å wr (C #[G f,G t] 89)).drew.cell? ⟨wr.heap.size,1,O⟩=J (G t):=by rw[show(å wr (C #[G f,G t] 89)).drew.cell? ⟨wr.heap.size,1,O⟩=(å wr (C #[G f,G t] 89)).cell? ⟨wr.heap.size,1,O⟩from rfl,ξ _ _ _ _ _ _ aj];rfl
   generalize bb:(å wr (C #[G f,G t] 89)).drew=E at *;generalize wr.heap.size=u at *;go_wp2_with fail
   refine ϯ (fun d=>BQ p d/\d.cell? ⟨u,0,O⟩=J (G f)/\d.cell? ⟨u,1,O⟩=J (G t)) 4 ϋ ?_;have o:BQ p E.drew/\E.drew.cell? ⟨u,0,O⟩=J (G f)/\E.drew.cell? ⟨u,1,O⟩=J (G t):=⟨aJ.drew,a5,a6⟩;generalize E.drew=wd at *;refine km (fuel:=5) 0 (ā #[G f,G t]) rfl ϋ ϋ ϋ ϋ (fun _ _ _ h=>h) ϋ ?_ o ?_
   .rintro d ⟨a1,bm,bn⟩
    go_simp
   refine gq  1 (.slice (J ⟨g,off,O⟩) a c) rfl ϋ ϋ ϋ ϋ (fun _ _ _ h=>h) ϋ ?_ o ?_
   .intro d
    go_simp
   refine Κ  2 ϋ rfl ?_;intro b0 y;go_simp;have b1:BQ w wd:=Q.t o.1;refine(aD.o _ b1).M ?_;rintro e j ⟨bp,rfl,S,X⟩;obtain⟨v,x,rfl,-⟩:=ic (S j fun _ _ _=>rfl);go_simp;have aw:=Zh S;have P:BQ p j/\j.cell? ⟨u,0,O⟩=J (G f)/\j.cell? ⟨u,1,O⟩=J (G t):=⟨o.1.t X,ζ X o.2.1,ζ X o.2.2⟩;refine y _ _ P ?_;clear S;have aq:BQ w j:=b1.t X;have l:=(P.1.block _ aR).trans aa;refine Κ  3 ϋ rfl ?_;intro b0 y;go_simp;refine y _ _ P ?_;refine rC  4 ϋ rfl ϋ ?_;intro b0 y;have c0:=ξ _ _ 0 _ _ _ l;have c1:=ξ _ _ 1 _ _ _ l;have c2:=ξ _ _ 2 _ _ _ l;have a8:=ϧ _ _ 0 _ _ l;have f1:=ϧ _ _ 1 _ _ l;have f2:=ϧ _ _ 2 _ _ l;go_simp;refine y _ _ ?_;have aI:=υ j _ 0 _ _ (G f) l;have N:=υ _ _ 1 _ _ (G t) aI;have Z:=υ _ _ 2 _ _ (.slice v (L K) x) N;have ac:BQ w (ŝ (ŝ (ŝ j ⟨w.heap.size,0,O⟩ (G f)) ⟨w.heap.size,1,O⟩ (G t)) ⟨w.heap.size,2,O⟩ (.slice v (L K) x)):=(((aq.S NZ _).S NZ _).S NZ _);have bg:=o.1.size;have ad:∀ z:β,(∀ b,w.heap.size<=b->b<(ŝ (ŝ (ŝ j ⟨w.heap.size,0,O⟩ (G f)) ⟨w.heap.size,1,O⟩ (G t)) ⟨w.heap.size,2,O⟩ (.slice v (L K) x)).heap.size->z.heap[b]?=(ŝ (ŝ (ŝ j ⟨w.heap.size,0,O⟩ (G f)) ⟨w.heap.size,1,O⟩ (G t)) ⟨w.heap.size,2,O⟩ (.slice v (L K) x)).heap[b]?)->fN z (.slice v (L K) x) (L K) K:=fun z N=>aw.o z fun b a9 aH=>by
    rw[N b U (by simpa using aH),Γ _ _ _ _ ό,Γ _ _ _ _ ό,Γ _ _ _ _ ό]
   refine Ze 5 ?_;refine Zd ?_;have⟨ax,H3,av⟩:=ϲ ad Z ac;clear ad Z ac;go_wp2;exact Ω  (Ff    rfl _ _ _ _ _ _ _ rfl H3.o underlying92 rfl ϋ) rfl ⟨_,rfl,ax.o,av.o⟩
def Pg (W X:ε) (n p x y) (w:β) (P:fN w W n x) (Q:fN w X p y) :
  Calls prog 312 #[W,X] w fun e w'=>e=ŗ (.bool (x==y))/\BQ w w':=by
 obtain⟨aj,a0,rfl,ap,a1⟩:=ic P;obtain⟨ak,am,rfl,aq,Z⟩:=ic Q;have g:=Zh (Ν P.1 Q.1);by_cases o:n=p
 .have ae:((n:Int) !=(p:Int))=false:=by rw[o];simp
  have v:=Zh o;clear o;go_enter func312,ntmps312;go_wp2;go_loopw [5] (fun Y wr=>∃ (a:Nat),a<=n/\Y=G a/\Hid (x.take a=y.take a)/\BQ w wr) (fun Y _=>n - (intOf Y).toNat)
  .exact⟨0,Ζ _,rfl,rfl,ρ _ _⟩
  obtain⟨a,an,rfl,K,f⟩:=hrel;by_cases ao:a<n
  .have S:a<L x:=ι g.o.1
   have T:a<L y:=gw g.o.2 v.o;obtain⟨b,off,da,dc,rfl,c1,c2,E⟩:=a1.o a S;obtain⟨al,az,ac,ad,rfl,A,B,F⟩:=Z.o a T;have r:Hid (x.take (a+1)=x.take a++[x[a]]/\y.take (a+1)=y.take a++[y[a]]):=⟨jt S,jt T⟩;have s:Hid (x[a]≠y[a]->x≠y):=fun h e=>h (by subst e;rfl);have ar:(a:Int)<(n:Int):=U;have au:(0:Int)<=(a:Int):=U;have av:(a:Int)<(p:Int):=ι v.o;obtain⟨⟨H,j⟩,af⟩:∃ q,q=x[a]:=⟨_,rfl⟩;obtain⟨⟨I,k⟩,ag⟩:∃ q,q=y[a]:=⟨_,rfl⟩;rw[<-af]at c1 c2 E r s;rw[<-ag]at A B F r s;simp only at c1 c2 E A B F;have r1:=Ι (ζ f c1);have r2:=Ι (ζ f c2);have r3:=Ι (ζ f A);have r4:=Ι (ζ f B);unfold Ϫ at r1 r3;have M:Hid (∀ b,(j==k)=b->∀ d os,Calls prog 24 #[D da (L j) dc,D ac (L k) ad] (grow (redrawn wr d) os) fun e ai=>e=ŗ (.bool b)/\∃ V:Regrown,ai=grow (redrawn wr V.d) V.os):=by
    rintro b rfl d os;have R:BQ w (grow (redrawn wr d) os):=f.trans ((oV wr d os).M f.size);exact Calls.regrown_of (Fv _ _ _ _ j k _ rfl rfl (E.B R) (F.B R))
   generalize (L j)=ax at *;generalize (L k)=ay at *;by_cases u:H=I
   .have ah:((δ H).toList==(δ I).toList)=true:=by rw[u];exact vU _
    by_cases t:j=k
    .have z:=M.o true (by rw[t];simp)
     have i:Hid (x.take (a+1)=y.take (a+1)):=by show _=_;rw[r.o.1,r.o.2,K.o,u,t]
     go_wp2_with fail
     refine fY ?_;repeat (go_big_quiet_step ((go_at_call 24;with_reducible exact z _ _)))
     refine gc fun N l=>?_;have m:=f.t l;go_wp2;go_roundw
     .exact⟨ _,U,ϕ,i.o,m⟩
     exact ω
    .have z:=M.o false (by rw[fU];exact t)
     have i:=Zh (s.o (by rintro h;exact t (by cases h;rfl)));go_wp2_with fail
     refine fY ?_;repeat (go_big_quiet_step ((go_at_call 24;with_reducible exact z _ _)))
     refine gc fun N l=>?_;have m:=f.t l;go_wp2;go_ret;exact⟨jm (fU.2 i.o).symm,m⟩
   .have ah:((δ H).toList==(δ I).toList)=false:=by rw[hN,hN,fU];exact u
    have i:=Zh (s.o (by rintro h;exact u (by cases h;rfl)));go_wp2_with fail
    refine fY ?_;repeat (go_big_quiet_step (fail))
    refine gc fun N l=>?_;have m:=f.t l;go_wp2;go_ret;exact⟨jm (fU.2 i.o).symm,m⟩
  .have c:x=y:=by
    have:=K.o;rw[gF (ι g.o.1),gF (gw g.o.2 v.o)]at this;exact this
   have aw:¬(a:Int)<(n:Int):=U;have ab:=Zh c;clear c;go_wp2;go_ret;exact⟨jm (by rw[ab.o];simp),f⟩
 .have ae:((n:Int) !=(p:Int))=true:=by rw[bne_iff_ne];omega
  have aa:Hid ((x==y)=false):=by
   show _=_;rw[fU];rintro rfl;exact o (g.o.1.symm.trans g.o.2)
  clear o;go_enter func312,ntmps312;go_wp2;go_ret;exact⟨by rw[aa.o];rfl,ρ _ _⟩
def HU (f t ao n c) (w:β) :
  Calls prog 47 #[ā #[G f,G t,D ao n c]] w fun e w'=>e=ŗ (ā #[G f,G t,D ao n c])/\BQ w w':=by
 go_enter func47,ntmps47;go_wp2;have a:=φ (å w (C #[G f,G t,D ao n c] 92)) (C #[G f,G t,D ao n c] 107);rw[show(å w (C #[G f,G t,D ao n c] 92)).heap.size=w.heap.size+1 from ύ]at a;have b:BQ w (å (å w (C #[G f,G t,D ao n c] 92)) (C #[G f,G t,D ao n c] 107)):=ġ.A ύ _;exact Ω  (jf   rfl _ _ _ _ _ _ _ rfl a underlying107 rfl ϋ) rfl ⟨rfl,b⟩
def Ph (f t f2 t2) (a c:ε) (n n2 x y) (w:β) (k:fN w a n x) (l:fN w c n2 y) :
  Calls prog 284 #[ā #[G f,G t,a],ā #[G f2,G t2,c]] w fun e w'=>e=ŗ (.bool ((f==f2) && (t==t2) && (x==y)))/\BQ w w':=by
 have g:BQ w (å (å w (C #[G f,G t,a] 107)) (C #[G f2,G t2,c] 107)):=ġ.A ύ _;have m:Hid (Calls prog 312 #[a,c] (å (å w (C #[G f,G t,a] 107)) (C #[G f2,G t2,c] 107)) fun e w'=>e=ŗ (.bool (x==y))/\BQ w w'):=by
  refine(Pg a c n n2 x y _ (k.B g) (l.B g)).M ?_;rintro e w' ⟨rfl,h⟩;exact⟨rfl,g.t h⟩
 by_cases i:f=f2
 .subst i
  by_cases j:t=t2
  .subst j
   have d:Hid (((f==f) && (t==t) && (x==y))=(x==y)):=by show _=_;simp
   generalize(x==y)=b at *;go_enter func284,ntmps284;go_wp2_with (go_at_call 312;refine m.o.M ?_;rintro e p ⟨rfl,o⟩)
   go_ret;exact⟨by rw[d.o];rfl,o⟩
  .have d:Hid (((f==f) && (t==t2) && (x==y))=false):=by show _=_;simp[j]
   go_enter func284,ntmps284;go_wp2;go_ret;exact⟨by rw[d.o];rfl,g⟩
 .have d:Hid (((f==f2) && (t==t2) && (x==y))=false):=by show _=_;simp[i]
  go_enter func284,ntmps284;go_wp2;go_ret;exact⟨by rw[d.o];rfl,g⟩
