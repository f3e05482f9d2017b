/- Part 31 of the proof. -/
import Derived.Test.YtpilfbcffofheaaGreatDoorm22
set_option linter.all false
set_option maxRecDepth 100000
set_option maxHeartbeats 16000000
namespace Go.Proofs.YtpilfbcffofheaaGreatDoor
open Go.RowKit Go.Proofs.Tryz Go.Sort
open Value renaming slice->D,agg->ā,string->š
open Option renaming none->O,some->J
open List renaming length->L
open Obj renaming cells->C
open Ending renaming returned->ŗ
open World renaming alloc->å,setCell->ŝ
def OX (v:ε) (l:γ) (w:β) (h:Rd w v (L l) 1 (η l)) (b:L l<=100000) :
  Calls prog 333 #[v] w (iJ w 9 1 (L (fW (Θ l))) (χ (fW (Θ l)))):=by
 have g:=Ft v l w h b;have j:=Bb l b;generalize Θ l=m at *;have f:=Zh g;go_enter func333,ntmps333;go_wp2_with (first
  |(go_at_call 340;refine f.o.M ?_;rintro e o ⟨n,rfl,c,a⟩;have d:=Zh (Fr n _ m o rfl (Rd.of_own c) j);clear c)
  |(go_at_call 334;refine d.o.M ?_;rintro e q ⟨p,rfl,k,i⟩))
 go_ret;exact⟨_,rfl,gX k a.size,a.t i⟩
def MN (t:γ) (l:List (γ)) (k hk):jI 0 t (l.take (k+1))=jI 0 t (l.take k)++(if l[k]=t then[(k:Int)]else[]):=by
 rw[jt hk,ML]
 congr 1
 simp only[jI];rw[gp,mi (mC hk),iI]
def OW (v:ε) (l t:γ) (w:β) (h:Rd w v (L l) 1 (η l)) (c:L l<=100000) :
  Calls prog 342 #[v,š (δ t)] w (iJ w 3 1 (L (jI 0 t (Θ l))) (τ (jI 0 t (Θ l)))):=by
 obtain⟨ac,hi,Z,aa,ab⟩:=Ϩ oB;have s:=Ft v l w h c;have am:=Bb l c;generalize Θ l=d at *;have b:=Zh s;have S:Hid (∀ z:Int,∀ Q∈[G z],Q.oneCell'=true):=fun z Q K=>by simp at K;subst K;rfl
 clear s h;go_enter func342,ntmps342;go_wp2_with (go_at_call 340;refine b.o.M ?_;rintro e k ⟨ap,rfl,q,u⟩;obtain⟨aj,c1,rfl⟩:=Η q)
 obtain⟨ak,a1,M,an,R⟩:=AX (Rd.of_own q);simp only[Χ,ϵ]at M;obtain⟨rfl,rfl⟩:=M;have I:=u.size;clear q;go_loopw [6,7] (fun o r wr=>∃ a:Nat,a<=L d/\r=G a/\wr.ownsRow k.heap.size 3 1 o (L (jI 0 t (d.take a))) (τ (jI 0 t (d.take a)))/\BQ k wr) (fun _ r _=>L d - (intOf r).toNat)
 .exact⟨0,Ζ _,rfl,gQ _ _ _ _,ρ _ _⟩
 obtain⟨a,al,rfl,f,j⟩:=hrel;have Y:=j.size;obtain⟨ag,ah,rfl⟩:=Η f;by_cases F:a<L d
 .obtain⟨a0,off,rfl,y⟩:=R.o a F
  have A:=ζ j y;have H:=MM t (d.take a) 0;have g:=MN t d a F;have ao:L (jI 0 t (d.take a))<=100000:=by rw[gp]at H;omega
  have ae:(a:Int)<(L d:Int):=U;generalize jI 0 t (d.take a)=P at *;obtain⟨x,N⟩:∃ x,x=d[a]:=⟨_,rfl⟩;rw[<-N]at A g;have n:=hN x;have p:=hN t;unfold Ϫ at A;clear N y H;by_cases i:x=t
  .have af:((δ x).toList==(δ t).toList)=true:=by rw[i];exact vU _
   rw[μ i]at g;have m:=Zh g;clear g i n p;go_wp2_with (at_builtin;refine ϻ rfl _ _ _ _ rfl k.heap.size 3 ac _ 1 8 gl hi Z aa ab rfl (D ag (L P) ah) (L P) _ rfl (f.A _) _ 1 [G a] rfl (gh gl wr _ 1 1 1 rfl (S.o a)) ώ U ό ?_;intro aq ai X B _ _)
   have V:BQ k ai:=(j.A Y _).grown B ό (fun ad W=>(f.lt ad W).1);clear B;go_wp2;go_roundw
   .exact⟨a+1,U,ϕ,by rw[m.o,σ,mP];exact X,V⟩
   exact ω
  .have af:((δ x).toList==(δ t).toList)=false:=by rw[n,p];simpa using i
   rw[κ i,iy]at g;have m:=Zh g;clear g i n p;go_wp2;go_roundw
   .exact⟨a+1,U,ϕ,by rw[m.o];exact f,j⟩
   exact ω
 .have E:d.take a=d:=gF U
  have ae:¬(a:Int)<(L d:Int):=U;rw[E]at f ⊢;have T:=Zh f;clear f E;go_wp2;go_ret;exact⟨_,rfl,gX T.o I,u.trans (j.M I)⟩
section
open Go.RowKit Go.Sort Go.Maps
theorem EB (t:γ):∀ (l:List (γ)) (k:Nat),0<L (jI k t l)↔t∈l
 |[],k=>by simp[jI]
 |x::r,k=>by
  have a:=EB t r (k+1);unfold jI;by_cases h:x=t
  .subst h;simp
  .simp only[κ h,hH]
   simp[a,Ne.symm h]
def Ou (v:ε) (l t:γ) (w:β) (b) (h:Rd w v (L l) 1 (η l)) (g:L l<=100000) (d:b=decide (t∈Θ l)) :
  Calls prog 335 #[v,š (δ t)] w fun e w'=>e=ŗ (.bool b)/\BQ w w':=by
 have c:=Zh (OW v l t w h g);have a:Hid (b=decide (0<L (jI 0 t (Θ l)))):=by
  show _=_;rw[d]
  congr 1
  exact propext (EB t _ 0).symm
 generalize jI 0 t _=k at *;go_enter func335,ntmps335;go_wp2_with (go_at_call 342;refine c.o.M ?_;rintro e n ⟨m,rfl,i,f⟩;obtain⟨j,c1,rfl⟩:=Η i)
 go_ret;exact⟨by rw[a.o];first|rfl|simp,f⟩
def HM (a:List (γ)) (lo n):gI a lo (n+1)=gI a lo n++fW (Θ (a.getD (lo+n) [])):=by
 unfold gI;rw[List.range'_concat,pI,pF];simp
structure sD (ws wr:β) (k:Nat) (dv:ε) (d:List ϰ) (cells:List ε):Prop where
 own:wr.ownsRow ws.heap.size 130 2 dv k cells
 o:∀ i (hi:i<L d),i<k->cells[i*2]?=J (Ϫ d[i].1)/\∃ xv,cells[i*2+1]?=J xv/\wr.ownsRow ws.heap.size 3 1 xv (L d[i].2) (τ d[i].2)/\∀ g,xv.ownBlock=J g->dv.ownBlock≠J g
 bel:BQ ws wr
structure sE (ws W5:β) (eb:Nat) (tt:γ) (ds:List Int) (dv:ε) (wz:β):Prop where
 ent:wz.heap[eb]?=J (C #[š (δ tt),dv] 130 (0,0))
 own:wz.ownsRow W5.heap.size 3 1 dv (L ds) (τ ds)
 keep:∀ b,b<W5.heap.size->b≠eb->wz.heap[b]?=W5.heap[b]?
 bel:BQ ws wz
 size:W5.heap.size<=wz.heap.size
def sE.B {ws W5 wz w2 eb tt ds dv} (h:sE ws W5 eb tt ds dv wz) (a:BQ wz w2):sE ws W5 eb tt ds dv w2:=
 ⟨by rw[a.block _ (ς h.ent)];exact h.ent,ψ h.own a,fun b c d=>by rw[a.block b (ι h.size)];exact h.keep b c d,h.bel.t a,gw h.size a.size⟩
def sD.step {R S t y r s:β} {k eb} {m l i:ε} {d cells} {j:γ} {ds}
  (h:sD R S k m d cells) (v:BQ S t) (H:S.heap.size<=eb) (hk) (x:d[k]=(j,ds)) (b:sE R t eb j ds i y)
  (a:BQ y r) (B:s.ownsRow R.heap.size 130 2 l (k+1) (cells++[Ϫ j,i])) (o:r.grownBy s m.ownBlock) (hv:l.ownBlock=m.ownBlock\/l.ownBlock=J r.heap.size) :
  sD R s (k+1) l d (cells++[Ϫ j,i]):=by
 have K:=h.bel.size;have M:=v.size;have N:=b.size;have P:=a.size;have w:L cells=k*2:=h.own.1;refine⟨B,fun f hi I=>?_,(b.bel.t a).grown o U (fun q F=>(h.own.lt q F).1)⟩;by_cases e:f=k
 .subst e
  refine⟨?_,i,?_,?_,?_⟩
  .simp only[x]
   rw[hL U,w,kj];rfl
  .rw[hL U,w,show f*2+1 - f*2=1 from U];rfl
  .simp only[x]
   refine jU (gX (ψ b.own a) U) fun g hg=>?_;have c:=(ψ b.own a).lt g hg;refine o.block g c.2 ?_;intro e;have:=(h.own.lt g e.symm).2;omega
  .intro g hg
   have c:=(ψ b.own a).lt g hg;intro e;rcases hv with hv|hv
   .rw[hv]at e
    have:=(h.own.lt g e).2;omega
   .rw[hv]at e
    simp only[Φ]at e;omega
 .have E:f<k:=U
  obtain⟨z,Q,A,n,u⟩:=h.o f hi E;refine⟨?_,Q,?_,?_,?_⟩
  .rw[je U];exact z
  .rw[je U];exact A
  .refine jU n fun g hg=>?_
   have c:=(n.lt g hg).2;have p:=u g hg;rw[o.block g U (fun e=>p e.symm),a.block g U,b.keep g U U,v.block g c]
  .intro g hg
   have c:=(n.lt g hg).2;have p:=u g hg;rcases hv with hv|hv
   .rw[hv];exact p
   .rw[hv]
    intro e;simp only[Φ]at e;omega
def sD.later {p o e:β} {lo k dv d cells} (h:sD p o k dv d cells) (j:L d=k) (n:lo<=p.heap.size) (c:∀ b,lo<=b->b<o.heap.size->e.heap[b]?=o.heap[b]?):fN e dv (L d) d:=by
 refine⟨rfl,cells,?_,fun l hi=>?_⟩
 .rw[j]
  exact Rd.of_own (jU h.own fun g hg=>c g (ι (h.own.lt g hg).1) (h.own.lt g hg).2)
 .obtain⟨f,m,i,a,-⟩:=h.o l hi U
  exact⟨f,m,i,Rd.of_own (jU a fun g hg=>c g (ι (a.lt g hg).1) (a.lt g hg).2)⟩
def Ht (a:List ϰ) (w:β) (e:Ending) (f:β):Prop:= ∃ c,e=ŗ c/\(∀ d:β,(∀ b,w.heap.size<=b->b<f.heap.size->d.heap[b]?=f.heap[b]?)->fN d c (L a) a)/\Below w.heap.size w f
def OD (a3:ε) (ď:List (γ)) (lo n:Nat) (w:β) (bb:Ε w a3 ď) (bi:lo+n<=L ď) (Q:L ď<=40) (h:∀ d∈ď,L d<=2000) :
  Calls prog 313 #[a3,ā #[G lo,G ((lo+n:Nat):Int)]] w (Ht (iw ď lo n) w):=by
 obtain⟨m,aJ⟩:∃ m,m=lo+n:=⟨_,rfl⟩;have a6:BQ w (å w (C #[G lo,G m] 89)):=ġ;have aI:=φ w (C #[G lo,G m] 89);obtain⟨cn,c0,rfl,cx,ba⟩:=mr bb;have cy:m<=40:=U;have cz:n<=40:=U;rw[<-aJ];have aO:=ba;have⟨ac,v⟩:=π h aJ;obtain⟨ca,bR,bS,bT,bU⟩:=Ϩ pU;obtain⟨cb,bV,bW,bX,bY⟩:=Ϩ oB;obtain⟨cc,bZ,b0,b1,b2⟩:=Ϩ zX;have aR:=Zh bi;clear ba bb h aJ bi;go_enter func313,ntmps313;go_wp2_with fail
 generalize bN:(å w (C #[G lo,G m] 89))=X at *;have a8:X.cell? ⟨w.heap.size,0,O⟩=J (G lo):=by rw[ξ _ _ _ _ _ _ aI];rfl
 have a9:X.cell? ⟨w.heap.size,1,O⟩=J (G m):=by rw[ξ _ _ _ _ _ _ aI];rfl
 clear bN aI;go_loopw [5,6] (fun bF o wr=>∃ f z:Nat,f<=n/\z=lo+f/\o=G z/\Hid (wr.ownsRow X.heap.size 9 1 bF (L (gI ď lo f)) (χ (gI ď lo f)))/\BQ X wr) (fun _ o _=>m - (intOf o).toNat)
 .exact⟨0,lo,Ζ _,rfl,rfl,⟨rfl,.inl ⟨rfl,rfl⟩⟩,ρ _ _⟩
 obtain⟨f,z,cv,bo,rfl,u,S⟩:=hrel;have p:=Zh bo;clear bo;have bG:=ζ S a8;have d1:=ζ S a9;have aN:=a6.t S;by_cases cw:f<n
 .have aH:z<L ď:=gw aR.o p.o
  obtain⟨b,off,da,dc,rfl,c1,Z⟩:=aO.o z aH;have c2:=ζ aN c1;have aM:(z:Int)<(m:Int):=gw v.o p.o;have cH:(0:Int)<=(z:Int):=U;have bc:=ac.o _ (Ψ aH);have aU:=Zh (OX (D da (L ď[z]) dc) ď[z] wr (Z.B aN) U);have aC:L (gI ď lo f)<=f*2000:=uz ď 2000 ac.o f lo;have b9:=qY (Θ ď[z]);have cE:=tN ď[z];have af:Hid (gI ď lo (f+1)=gI ď lo f++fW (Θ ď[z])):=by
   show _=_;rw[HM,<-p.o];rw[fX,Ρ aH];rfl
  generalize (L ď[z])=B at *;generalize fW (Θ ď[z])=br at *;obtain⟨aY,aZ,rfl⟩:=Η u.o;obtain⟨a0,aD⟩:∃ z,z=L (gI ď lo f):=⟨_,rfl⟩;rw[<-aD]at u aC ⊢;have bv:=Zh aD;obtain⟨ci,aK⟩:∃ z,z=L br:=⟨_,rfl⟩;rw[<-aK]at b9 aU;have bE:=Zh aK;have cC:=S.size;clear c1 Z aD aK;go_wp2_with (first
   |(go_at_call 333;refine aU.o.M ?_;rintro e cN ⟨cL,rfl,o3,b3⟩;obtain⟨cm,cp,rfl⟩:=Η o3;have bC:=Zh o3;clear o3)
   |(at_builtin;refine ϻ rfl _ _ _ _ rfl X.heap.size 9 ca _ 1 16 ju bR bS bT bU rfl _ a0 _ rfl (ψ u.o b3) _ ci (χ br) rfl ((Rd.of_own bC.o).src ju (tE _)) ώ U (ι b3.size) ?_;intro bu ab M r aL _))
  go_roundw
  .refine⟨f+1,z+1,U,ι p.o,ϕ,?_,(S.t b3).grown r (ι b3.size) (fun q au=>(u.o.lt q au).1)⟩
   rw[af.o,σ,<-bv.o,<-bE.o,nE];exact M
  simp[intOf];have:=v.o;omega
 .have bh:f=n:=U
  have aM:¬(z:Int)<(m:Int):=gw v.o p.o;have aC:L (gI ď lo f)<=f*2000:=uz ď 2000 ac.o f lo;obtain⟨aY,aZ,rfl⟩:=Η u.o;have az:=Zh (Fr (D aY (L (gI ď lo f)) aZ) (L (gI ď lo f)) (gI ď lo f) wr rfl (Rd.of_own u.o) U);have aV:Hid ((fW (gI ď lo f)).map (fun bs=>(bs,gb ď bs lo n))=iw ď lo n):=by show _=_;rw[bh];rfl
  have bL:L (fW (gI ď lo f))<=80000:=ι (qY (gI ď lo f));generalize iw ď lo n=ag at *;generalize fW (gI ď lo f)=W at *;generalize(L (gI ď lo f))=a0 at *;obtain⟨t,ar⟩:∃ z,z=L W:=⟨_,rfl⟩;rw[<-ar]at az bL;have aS:=Zh ar;have aX:Hid (L ag=t):=by show _=_;rw[<-aV.o,hU,ar]
  clear bh u ar aC;go_wp2_with (go_at_call 334;refine az.o.M ?_;rintro e ws ⟨cJ,rfl,os,a1⟩;obtain⟨sa,sc,rfl⟩:=Η os)
  have aF:=S.t a1;have ax:=a6.t aF;have bD:=Zh os;clear os az a1 bG d1;go_loopw [7,8] (fun cf o cj=>∃ (j:Nat) (ai:List ε),j<=t/\o=G j/\Hid (sD ws cj j cf ag ai)) (fun _ o _=>t - (intOf o).toNat)
  .exact⟨0,[],Ζ _,rfl,⟨⟨rfl,.inl ⟨rfl,rfl⟩⟩,fun i hi c3=>U,ρ _ _⟩⟩
  obtain⟨j,ai,cu,rfl,c⟩:=hrel
  rename β=>w1
  have R:=c.o.bel;by_cases bg:j<t
  .have b5:j<L W:=by rw[<-aS.o];exact bg
   have b4:j<L ag:=by rw[aX.o];exact bg
   obtain⟨co,cq,bm,-,bx⟩:=tL (n:=t) aS.o.symm (Rd.of_own bD.o);simp only[Χ,ϵ]at bm;obtain⟨rfl,rfl⟩:=bm;obtain⟨aa,so,rfl,aq⟩:=bx.o j b5;have aW:Hid (ag[j]=(W[j],gb ď W[j] lo n)):=by
    show _=_;have Q:=aV.o;subst Q;simp
   obtain⟨a,bk⟩:∃ s,s=W[j]:=⟨_,rfl⟩;rw[<-bk]at aq aW;change _=J (Value.string (δ a))at aq;have cs:=ζ R aq;have ce:(j:Int)<(t:Int):=U;have cG:(0:Int)<=(j:Int):=U;have bq:=ζ (aF.t R) a8;have Y:BQ w1 (å w1 (C #[š (δ a),D O 0 0] 130)):=ġ;have aB:(å w1 (C #[š (δ a),D O 0 0] 130)).heap[w1.heap.size]?=J (C #[š (δ a),D O 0 0] 130 (0,0)):=φ w1 _;have cA:w1.heap.size<(å w1 (C #[š (δ a),D O 0 0] 130)).heap.size:=ς aB;have cI:=ζ Y bq;clear bk bq;go_wp2_with fail
   generalize bO:(å w1 (C #[š (δ a),D O 0 0] 130))=P at *;clear bO;have aP:Hid (∃ aj,sE ws P w1.heap.size a (gb ď a lo 0) aj P):=⟨D O 0 0,aB,⟨rfl,.inl ⟨rfl,rfl⟩⟩,fun _ _ _=>rfl,R.t Y,NZ⟩;have bP:=R.t Y;clear aB;go_loopw [10] (fun o ck=>∃ i y:Nat,i<=n/\y=lo+i/\o=G y/\Hid (∃ aj,sE ws P w1.heap.size a (gb ď a lo i) aj ck)) (fun o _=>m - (intOf o).toNat)
   .exact⟨0,lo,Ζ _,rfl,rfl,aP.o⟩
   obtain⟨i,y,hi,bn,rfl,p⟩:=hrel;have x:=Zh bn;clear bn;clear aP;obtain⟨aj,H⟩:=p.o;obtain⟨E,F,rfl⟩:=Η H.own;have ae:=Zh H;have ap:=H.bel;have bQ:=aF.t ap;have a7:=ax.t ap;have cr:=ζ bQ a9;have cl:wr.cell? ⟨w1.heap.size,0,O⟩=J (š (δ a)):=by rw[ξ _ _ _ _ _ _ H.ent];rfl
   have aw:wr.cell? ⟨w1.heap.size,1,O⟩=J (D E (L (gb ď a lo i)) F):=by rw[ξ _ _ _ _ _ _ H.ent];rfl
   have bd:=DB ď a lo i;clear p;by_cases ct:i<n
   .have hid:y<L ď:=gw aR.o x.o
    obtain⟨b,off,da,dc,rfl,a2,Z⟩:=aO.o y hid;have aA:=ζ a7 a2;have bt:=ζ ap aq;have aM:(y:Int)<(m:Int):=gw v.o x.o;have cF:(0:Int)<=(y:Int):=U;have bc:=ac.o _ (Ψ hid);have aT:=Zh (Z.B a7);have af:Hid (gb ď a lo (i+1)=gb ď a lo i++(if a∈Θ ď[y]then[(y:Int)]else[])):=by
     show _=_;rw[DC,<-x.o];rw[fX,Ρ hid];rfl
    have aQ:=Zh (fun(k:β) (bM:BQ wr k) (A:Bool) (aG:A=decide (a∈Θ ď[y]))=>Ou (D da (L ď[y]) dc) ď[y] a k A (aT.o.B bM) U aG);obtain⟨B,be⟩:∃ z,z=L ď[y]:=⟨_,rfl⟩;rw[<-be]at aA aQ bc;clear be Z a2 aT;have al:Hid (∀ (k:β) (A:Bool),A=decide (a∈Θ ď[y])->(BQ wr k/\k.cell? ⟨b,off+y,O⟩=J (D da B dc)/\k.cell? ⟨aa,so+j,O⟩=J (š (δ a)))->Calls prog 335 #[D da B dc,š (δ a)] k fun e ah=>e=ŗ (.bool A)/\(BQ wr ah/\ah.cell? ⟨b,off+y,O⟩=J (D da B dc)/\ah.cell? ⟨aa,so+j,O⟩=J (š (δ a)))):=fun k A aG ⟨bp,cg,ch⟩=>by
     refine(aQ.o k bp A aG).M ?_;rintro e ah ⟨rfl,aE⟩;exact⟨rfl,bp.t aE,ζ aE cg,ζ aE ch⟩
    have an:(BQ wr wr.drew/\wr.drew.cell? ⟨b,off+y,O⟩=J (D da B dc)/\wr.drew.cell? ⟨aa,so+j,O⟩=J (š (δ a))):=⟨RZ.drew,aA,bt⟩;obtain⟨l,I⟩:∃ l,l=L (gb ď a lo i):=⟨_,rfl⟩;rw[<-I]at bd aw;have V:=Zh I;clear I H;go_wp2_with fail
    by_cases T:a∈Θ ď[y]
    .have ay:Hid (true=decide (a∈Θ ď[y])):=(kU T).symm
     have ad:Hid (gb ď a lo (i+1)=gb ď a lo i++[(y:Int)]):=by show _=_;rw[af.o,μ T]
     clear T;go_region_held3 (fun k=>(BQ wr k/\k.cell? ⟨b,off+y,O⟩=J (D da B dc)/\k.cell? ⟨aa,so+j,O⟩=J (š (δ a))))
      (first|exact an|exact K|assumption)
      ((go_at_call 335;with_reducible refine(al.o _ true ay.o Ϙ).M ?_;rintro e av ⟨rfl,K⟩))
     have ao:=K.1;have N:=Zh (ae.o.B ao);have cO:=ζ ao aw;have a5:=N.o.ent;rw[<-V.o]at a5;have am:Hid (av.ownsRow P.heap.size 3 1 (D E l F) l (τ (gb ď a lo i))):=by
      show World.ownsRow _ _ _ _ _ _ _;rw[V.o];exact N.o.own
     have cB:=N.o.size;clear K an al cl aw aA bt;go_wp2_with (at_builtin;refine ϻ rfl _ _ _ _ rfl P.heap.size 3 cb _ 1 8 gl bV bW bX bY rfl _ l _ rfl (ψ am.o (ġ)) _ 1 [G y] rfl (gh gl av _ 1 1 1 rfl (by intro cK bl;simp at bl;subst bl;rfl)) ώ U ό ?_;intro bu ab M r aL _;obtain⟨bH,bI,rfl⟩:=Η M;have b8:J w1.heap.size≠(Value.slice E l F).ownBlock:=(fun e=>ι (am.o.lt w1.heap.size e.symm).1);have ak:ab.heap[w1.heap.size]?=J (C #[š (δ a),D E l F] 130 (0,0)):=(by rw[r.block w1.heap.size ό b8,hM _ _ _ U];exact a5);have cd:=ξ _ _ 1 _ _ _ ak;have bJ:=ϧ _ _ 1 _ _ ak)
     have bz:=Zh ak;clear ak cd bJ;go_roundw
     .refine⟨i+1,y+1,U,ι x.o,ϕ,⟨D bH (l+1) bI,?_⟩⟩
      have b7:∀ q,q<P.heap.size->J q≠(Value.slice E l F).ownBlock:=fun q au e=>by
       have:=(am.o.lt q e.symm).1;omega
      have b6:L (gb ď a lo (i+1))=l+1:=by rw[ad.o,σ,<-V.o];rfl
      have bj:av.heap.size+1<=ab.heap.size:=by have:=r.size;simpa using this
      refine⟨υ ab w1.heap.size 1 _ _ _ bz.o,?_,?_,?_,?_⟩
      .rw[b6,ad.o,show τ (gb ď a lo i++[(y:Int)])=τ (gb ď a lo i)++[G y]from ng ..]
       exact jU M fun g hg=>Γ _ _ _ _ (by have:=(M.lt g hg).1;simp;omega)
      .intro q Q h
       rw[Γ _ _ _ _ (by simpa using h),r.block q ό (b7 q Q),hM _ _ _ U];exact N.o.keep q Q h
      .exact(((N.o.bel.al _).grown r (by have:=N.o.bel.size;simp;omega) (fun q au=>gw (am.o.lt q au).1 bP.size))).S (by have:=R.size;simp;omega) _
      .simp;omega
     simp[intOf];have:=x.o;have:=v.o;omega
    .have ay:Hid (false=decide (a∈Θ ď[y])):=(kE T).symm
     have ad:Hid (gb ď a lo i=gb ď a lo (i+1)):=by show _=_;rw[af.o,κ T,iy]
     clear T;go_region_held3 (fun k=>(BQ wr k/\k.cell? ⟨b,off+y,O⟩=J (D da B dc)/\k.cell? ⟨aa,so+j,O⟩=J (š (δ a))))
      (first|exact an|exact K|assumption)
      ((go_at_call 335;with_reducible refine(al.o _ false ay.o Ϙ).M ?_;rintro e av ⟨rfl,K⟩))
     have ao:=K.1;clear K an al;go_wp2;go_roundw
     .exact⟨i+1,y+1,U,ι x.o,ϕ,⟨_,ad.o ▸ ae.o.B ao⟩⟩
     simp[intOf];have:=v.o;omega
   .have bA:Hid (i=n):=by show i=n;omega
    have aM:¬(y:Int)<(m:Int):=gw v.o x.o;obtain⟨l,I⟩:∃ l,l=L (gb ď a lo i):=⟨_,rfl⟩;rw[<-I]at bd aw;have V:=Zh I;clear I H;have bK:Hid (wr.ownsRow ws.heap.size 130 2 u7 j ai):=jU c.o.own fun g hg=>by
     have Q:=(c.o.own.lt g hg).2;rw[ae.o.keep g U U,Y.block g U]
    have cD:=ap.size;go_wp2_with (at_builtin;refine ϻ rfl _ _ _ _ rfl ws.heap.size 130 cc _ 2 40 rr bZ b0 b1 b2 rfl _ j _ rfl (ψ bK.o (ġ)) _ 1 [š (δ a),D E l F] rfl (gh rr wr _ 2 1 1 rfl Ϛ) ώ U ό ?_;intro bu ab M r aL _)
    go_roundw
    .exact⟨j+1,ai++[Ϫ a,D E l F],U,ϕ,c.o.step Y NZ b4 aW.o (by rw[<-bA.o,V.o];exact ae.o) (ġ) M r aL⟩
    exact ω
  .have bf:j=t:=U
   have ce:¬(j:Int)<(t:Int):=U;have a4:=ax.t R;have bj:=ax.size;have⟨bw,bB⟩:=π a4 bf;clear a4 bf;go_wp2;go_ret;refine⟨_,rfl,fun cM h=>?_,bw.o⟩;exact c.o.later (lo:=w.heap.size) (by rw[aX.o,bB.o]) bj h
end
section
open Go.RowKit Go.Sort Go.Maps
def Hr (d n:Int) (a:List ϰ) (w:β) (e:Ending) (c:β):Prop:= ∃ b,e=ŗ (ā #[G d,G n,b])/\fN c b (L a) a/\Below w.heap.size w c
def Nr (s:ε) (ď:List (γ)) (lo nn) (w:β) (B:Ε w s ď) (Y:lo+nn<=L ď) (u:L ď<=40) (v:∀ d∈ď,L d<=2000) :
  Calls prog 285 #[s,ā #[G lo,G ((lo+nn:Nat):Int)]] w (Hr lo ((lo+nn:Nat):Int) (iw ď lo nn) w):=by
 have T:BQ w (å w (C #[G lo,G ((lo+nn:Nat):Int)] 89)):=ġ;have F:=φ w (C #[G lo,G ((lo+nn:Nat):Int)] 89);have m:(å w (C #[G lo,G ((lo+nn:Nat):Int)] 89)).heap.size=w.heap.size+1:=ύ;have z:=φ (å w (C #[G lo,G ((lo+nn:Nat):Int)] 89)) (C #[G 0,G 0,D O 0 0] 107);have y:Below (w.heap.size+1) (å w (C #[G lo,G ((lo+nn:Nat):Int)] 89)) (å (å w (C #[G lo,G ((lo+nn:Nat):Int)] 89)) (C #[G 0,G 0,D O 0 0] 107)):=by rw[<-m];exact ġ
 rw[m]at z;have V:(å (å w (C #[G lo,G ((lo+nn:Nat):Int)] 89)) (C #[G 0,G 0,D O 0 0] 107)).cell? ⟨w.heap.size,0,O⟩=J (G lo):=ζ (by rw[m];exact y) (by rw[ξ _ _ _ _ _ _ F];rfl);have W:(å (å w (C #[G lo,G ((lo+nn:Nat):Int)] 89)) (C #[G 0,G 0,D O 0 0] 107)).cell? ⟨w.heap.size,1,O⟩=J (G ((lo+nn:Nat):Int)):=ζ (by rw[m];exact y) (by rw[ξ _ _ _ _ _ _ F];rfl);have R:=T.trans (y.M U);have N:=Zh (fun a (S:BQ w a)=>OD s ď lo nn a (B.B S) Y u v);obtain⟨P,c,rfl,-,-⟩:=mr B;generalize iw ď lo nn=o at *;generalize ak:L ď=aa at *;generalize ai:((lo+nn:Nat):Int)=n at *;generalize aj:(lo:Int)=q at *;go_enter func285,ntmps285;go_wp2_with fail
 generalize ah:(å (å w _) _)=i at *;have Z:=ς z;refine ϯ (fun a=>BQ i a/\a.cell? ⟨w.heap.size,0,O⟩=J (G q)/\a.cell? ⟨w.heap.size,1,O⟩=J (G n)) 5 ϋ ?_;have f:BQ i i.drew/\i.drew.cell? ⟨w.heap.size,0,O⟩=J (G q)/\i.drew.cell? ⟨w.heap.size,1,O⟩=J (G n):=⟨RZ.drew,V,W⟩;generalize i.drew=wd at *;refine km (fuel:=5) 0 (ā #[G q,G n]) rfl ϋ ϋ ϋ ϋ (fun _ _ _ h=>h) ϋ ?_ f ?_
 .rintro a ⟨ab,ac,ad⟩
  go_simp
 refine gq  1 (D P aa c) rfl ϋ ϋ ϋ ϋ (fun _ _ _ h=>h) ϋ ?_ f ?_
 .intro a
  go_simp
 refine km  2 (ā #[G q,G n]) rfl ϋ ϋ ϋ ϋ (fun _ _ _ h=>h) ϋ ?_ f ?_
 .rintro a ⟨ab,ac,ad⟩
  go_simp
 refine Κ  3 ϋ rfl ?_;intro K k;go_simp;have A:BQ w wd:=R.t f.1;refine(N.o _ A).M ?_;rintro a1 g ⟨am,rfl,E,l⟩;obtain⟨p,r,rfl,-⟩:=ic (E g fun _ _ _=>rfl);go_simp;have I:=Zh E;have x:BQ i g/\g.cell? ⟨w.heap.size,0,O⟩=J (G q)/\g.cell? ⟨w.heap.size,1,O⟩=J (G n):=⟨f.1.t l,ζ l f.2.1,ζ l f.2.2⟩;refine k _ _ x ?_;have e:BQ w g:=A.t l;have j:=(x.1.block _ Z).trans z;refine Κ  4 ϋ rfl ?_;intro K k;go_simp;refine k _ _ x ?_;refine rC  5 ϋ rfl ϋ ?_;intro K k;have c0:=ξ _ _ 0 _ _ _ j;have c1:=ξ _ _ 1 _ _ _ j;have c2:=ξ _ _ 2 _ _ _ j;have ae:=ϧ _ _ 0 _ _ j;have f1:=ϧ _ _ 1 _ _ j;have f2:=ϧ _ _ 2 _ _ j;go_simp;refine k _ _ ?_;have u:=υ g _ 0 _ _ (G q) j;have v:=υ _ _ 1 _ _ (G n) u;have Q:=υ _ _ 2 _ _ (D p (L o) r) v;have b:BQ w (ŝ (ŝ (ŝ g ⟨w.heap.size+1,0,O⟩ (G q)) ⟨w.heap.size+1,1,O⟩ (G n)) ⟨w.heap.size+1,2,O⟩ (D p (L o) r)):=(((e.S ύ _).S ύ _).S ύ _);have al:=f.1.size;have X:=I.o (ŝ (ŝ (ŝ g ⟨w.heap.size+1,0,O⟩ (G q)) ⟨w.heap.size+1,1,O⟩ (G n)) ⟨w.heap.size+1,2,O⟩ (D p (L o) r)) (fun a0 af ag=>by
  rw[Γ _ _ _ _ ό,Γ _ _ _ _ ό,Γ _ _ _ _ ό])
 refine Zd ?_;have⟨M,H3,H⟩:=ϲ X Q b;go_wp2;exact Ω  (jf   rfl _ _ _ _ _ _ _ rfl H3.o underlying107 rfl ϋ) rfl ⟨_,rfl,M.o,H.o⟩
end
def NX (da dc sa sc) (ď:List (γ)) (ps b0) (w:β) (r:Ε w (D da (L ď) dc) ď) (ay:ϣ ď w (D sa (L ps) sc) ps) (i:Ϻ ď ps b0) (aL:L ď<=40) :
  Calls prog 217 #[ā #[D da (L ď) dc,D sa (L ps) sc]] w fun e w'=>e=ŗ (.bool true)/\BQ w w':=by
 have ac:Hid (∀ f,BQ w f->Calls prog 282 #[D da (L ď) dc,ā #[G 0,G 0]] f fun e w'=>e=ŗ (.bool true)/\BQ f w'):=fun f g=>EU _ ď 0 0 f (r.B g) i.nd i.ld NZ (Ζ _);have aI:=Zh (fun l s f (g:BQ w f)=>NL _ ď _ _ f (r.B g) i.nd i.ld (nU i.ch l s).2.2.1 (gj (nU i.ch l s).2.2.2 i.le));have aG:=Zh (fun l (s:l<L ps) f (g:BQ w f)=>Nr _ ď ps[l].1 (ps[l].2 - ps[l].1) f (r.B g) (gw (nU i.ch l s) i.le) aL i.ld);have ab:=Zh (fun l s=>nU i.ch l s);obtain⟨bm,bn,aT,bg,Z⟩:=qX ay;injection aT with hv1 hv2 hv3;subst hv1 hv3;obtain⟨M,br,am⟩:=fO (w:=w) (A:=C #[D da (L ď) dc,D sa (L ps) sc] 64) RZ;have bd:¬(64:Int)<(L ps:Int):=ι i.np;obtain⟨⟨c0,c1⟩,-,-⟩:=ν M;clear r ay i;go_enter func217,ntmps217;go_upto_region 1 with fail
 generalize å w _=a2 at *;go_wp2_with fail
 refine(ac.o _ am).M ?_;rintro e a1 ⟨rfl,X⟩;have aQ:=am.t X;have N:=θ M X;clear c0 c1 M ac X;obtain⟨⟨c0,c1⟩,-,-⟩:=ν N;go_wp2_with fail
 go_loopw [3] (fun P wr=>∃ q:Nat,q<=L ps/\P=G (q:Int)/\BQ a1 wr) (fun P _=>L ps - (intOf P).toNat)
 .exact⟨0,Ζ _,rfl,ρ _ _⟩
 obtain⟨q,bf,rfl,x⟩:=hrel;have p:=aQ.t x;obtain⟨⟨aE,aF⟩,-,-⟩:=ν (θ N x);by_cases B:q<L ps
 .obtain⟨b,off,ai,aj,rfl,be,ao,ap,aq,au⟩:=Z.o q B
  obtain⟨p1,-,bj,bk⟩:=ab.o q B;have aU:(q:Int)<(L ps:Int):=U;have bh:(0:Int)<=(q:Int):=U;have aA:=ζ p ao;have l1:=ζ p ap;have l2:=ζ p aq;have F:=Zh p1;have af:Hid (iw ď ps[q].1 (ps[q].2 - ps[q].1)=Δ ď ps[q]):=rfl;have az:ps[q].1+(ps[q].2 - ps[q].1)=ps[q].2:=U;have E:=aG.o q B;have ae:=aI.o q B;rw[az,af.o]at E;have aa:=Zh au;generalize Δ ď _=j at *;generalize ps[q].2=k at *;generalize ps[q].1=h at *;have H:BQ w (å wr (C #[G h,G k] 89)):=p.al _;have ax:=φ wr (C #[G h,G k] 89);have y:=(ρ _ wr).A NZ (C #[G h,G k] 89);have ad:=Zh (fun f g=>ae f g);have b1:=Zh (fun f g=>E f g);clear ae E au p1 az af ao ap aq;go_upto_region 7 with fail
  generalize å wr _=u at *;obtain⟨⟨aC,aD⟩,-,-⟩:=ν ax;have aV:=Ι (ζ y aE);have aW:=Ι (ζ y aF);have aX:=Ι aC;have aY:=Ι aD;have ag:Hid (∀ d os,Calls prog 283 #[D da (L ď) dc,ā #[G h,G k]] (grow (redrawn u d) os) fun e a0=>e=ŗ (.bool true)/\∃ aB:Regrown,a0=grow (redrawn u aB.d) aB.os):=by
   intro d os;have aM:BQ w (grow (redrawn u d) os):=H.trans ((oV u d os).M H.size);exact Calls.regrown_of (ad.o _ aM)
  go_cut [59] (fun aZ wc=>aZ=.bool false/\Hid (BQ u wc))
  case first =>
   have t:=ag.o;by_cases aS:q=0
   .subst aS
    have hF:(h:Int)=0:=by have:=F.o;rw[this];rfl
    rw[hF]at t;go_wp2_with fail
    refine fY ?_;repeat (go_big_quiet_step ((go_at_call 283;with_reducible exact t _ _)))
    refine gc fun aK I=>?_;clear t;go_wp2_with fail
    go_meet;case rel=>exact⟨rfl,I⟩
   .obtain⟨n,av⟩:∃ n,q=n+1:=⟨q - 1,U⟩
    have aw:n<L ps:=U;obtain⟨a4,bi,bb,bc,aR,-,-,K,-,-⟩:=Z.o n aw;injection aR with he1;injection he1 with he2 he3 _;subst he2 he3;have ah:h=ps[n].2:=by have:=F.o;have v:=(ab.o n aw).2.1;rw[this,av,v]
    rw[<-ah]at K;have bl:=Ι (ζ y (ζ p K));have a6:IntKind.i64.wrap ((q:Int) - 1)=(n:Int):=Ϗ;have a7:((q:Int)==0)=false:=fU.2 U;have a8:decide (0<q)=true:=kU U;have a9:(0:Int)<=(n:Int):=U;have ba:(n:Int)<(L ps:Int):=U;clear av ah K;go_wp2_with fail
    refine fY ?_;repeat (go_big_quiet_step ((go_at_call 283;with_reducible exact t _ _)))
    refine gc fun aK I=>?_;clear t;go_wp2_with fail
    go_meet;case rel=>exact⟨rfl,I⟩
  case rest =>
   obtain⟨rfl,Y⟩:=hcut;have z:=Y.o;have an:=H.t z;have o:=y.t z;obtain⟨⟨V,W⟩,-,-⟩:=ν (θ (θ N x) o);obtain⟨⟨T,m⟩,-,-⟩:=ν (θ ax z);have Q:=ζ o aA;have R:=ζ o l1;have S:=ζ o l2;have aH:Hid (∀ f,BQ wc f->Calls prog 285 #[D da (L ď) dc,ā #[G h,G k]] f fun e w'=>∃ a c,e=ŗ (ā #[G h,G k,D a (L j) c])/\fN w' (D a (L j) c) (L j) j/\BQ wc w'):=fun f g=>by
    refine(b1.o f (an.t g)).M ?_;rintro e w' ⟨bo,rfl,ak,v⟩;obtain⟨a,c,rfl,-⟩:=ic ak;exact⟨a,c,rfl,ak,g.t v⟩
   have aJ:Hid (∀ a c f,BQ wc f->fN f (D a (L j) c) (L j) j->Calls prog 284 #[ā #[G h,G k,D ai (L j) aj],ā #[G h,G k,D a (L j) c]] f fun e w'=>e=ŗ (.bool true)/\BQ wc w'):=fun a c f g r=>by
    refine(Ph h k h k _ _ _ _ j j f (aa.o.B (an.t g)) r).M ?_;rintro e w' ⟨rfl,v⟩;exact⟨ύ,g.t v⟩
   clear aa F aA l1 l2 aE aF aC aD aV aW aX aY ag ad b1 z Y;go_upto_region 9 with fail
   have al:BQ wc wc.drew:=RZ.drew;go_region_held3 (fun f=>BQ wc f/\f.cell? ⟨w.heap.size,0,O⟩=J (D da (L ď) dc)/\f.cell? ⟨w.heap.size,1,O⟩=J (D (J ⟨b,off,O⟩) (L ps) sc)/\f.cell? ⟨wr.heap.size,0,O⟩=J (G h)/\f.cell? ⟨wr.heap.size,1,O⟩=J (G k)/\f.cell? ⟨b,off+q*3,O⟩=J (G h)/\f.cell? ⟨b,off+q*3+1,O⟩=J (G k)/\f.cell? ⟨b,off+q*3+2,O⟩=J (D ai (L j) aj))
    (first|exact⟨al,V,W,T,m,Q,R,S⟩|assumption|exact⟨Ϙ,ζ Ϙ V,ζ Ϙ W,ζ Ϙ T,ζ Ϙ m,ζ Ϙ Q,ζ Ϙ R,ζ Ϙ S⟩)
    (first|(go_at_call 285;refine(aH.o _ Ϙ).M ?_;rintro e bp ⟨a3,a5,rfl,ar,aO⟩)|(go_at_call 284;refine(aJ.o _ _ _ Ϙ ar).M ?_;rintro e bq ⟨rfl,aP⟩))
   have aN:=(x.t o).trans (aP.M (x.t o).size);clear V W T m Q R S al aO ar;go_wp2_with fail
   go_roundw
   .exact⟨q+1,U,ϕ,aN⟩
   exact ω
 .obtain rfl:q=L ps:=U
  have aU:¬(L ps:Int)<(L ps:Int):=U;go_wp2;go_ret;exact⟨rfl,p⟩
