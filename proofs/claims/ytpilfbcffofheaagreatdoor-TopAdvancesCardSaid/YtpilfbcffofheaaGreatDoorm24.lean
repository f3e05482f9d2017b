/- Part 24 of the proof. -/
import Derived.Test.YtpilfbcffofheaaGreatDoorm23
set_option linter.all false
set_option maxRecDepth 100000
set_option maxHeartbeats 16000000
namespace Go.Proofs.YtpilfbcffofheaaGreatDoor
open Go.RowKit Go.Proofs.Tryz Go.Sort
open Value renaming slice->D,agg->ā,string->š,pointer->þ
open Option renaming none->O,some->J
open List renaming length->L
open Obj renaming cells->C
open Ending renaming returned->ŗ
open World renaming alloc->å,setCell->ŝ
theorem wT (bl):∀ (a b:ht),iv (bl,b) (jV a)=(bl,b++a)
 |[],b=>by simp[iv,jV]
 |x::a,b=>by
  show iv (bl,b++[(x.1,x.2)]) (jV a)=_;rw[wT bl a];simp
def CY (d l1 l2):iv d (l1++l2)=iv (iv d l1) l2:=by simp[iv]
def kQ (d:ϸ) (c a:Nat) (b:γ):ht:=((c+1) % 2,ms)::ig d (L b+1) a b
theorem wI (bl seq a) (b:γ):jx bl seq a b=jV (kQ bl seq a b)++[.sync,.put ((seq+1) % 2) (iN (seq+1) (a+L b)),.sync]:=rfl
def Ax (V):L (jV V)=L V:=by simp[jV]
theorem GM (bl):∀ (f p:Nat) (b:γ),L (ig bl f p b)<=(p % 64+L b+63) / 64
 |0,p,b=>by simp[ig]
 |f+1,p,b=>by
  unfold ig;split
  .simp
  .rename_i a
   have c:=pA.2 a;simp only[ϥ];by_cases d:L b<=64 - p % 64
   .rw[show min (64 - p % 64) (L b)=L b from U,List.drop_length]
    have:L (ig bl f (p+L b) [])=0:=by rw[GO];rfl
    omega
   .have:=GM bl f (p+min (64 - p % 64) (L b)) (b.drop (min (64 - p % 64) (L b)))
    rw[fT]at this;omega
def zk (bl seq a) (b:γ):L (jx bl seq a b)=L (kQ bl seq a b)+3/\L (kQ bl seq a b)<=1+(L b / 64+2):=by
 rw[wI,σ,Ax];refine⟨rfl,?_⟩;have:=GM bl (L b+1) a b;simp only[kQ,ϥ];omega
def AZ {a d:γ} (b:L a=64) (c:L d=64):jn 64 a d=a:=Qj U U
def xA {bl seq} {L b:γ} (h:gr bl seq L) (i:L.length+b.length<=Ϯ bl):∀ x∈kQ bl seq L.length b,x.1<bl.length/\x.2.length=64/\∀ n a,(gr a seq L/\a.length=bl.length)->gr (a.set x.1 (jn n x.2 (a.getD x.1 []))) seq L/\(a.set x.1 (jn n x.2 (a.getD x.1 []))).length=bl.length:=by
 intro x hx;have j:=h.n3;rcases hH.1 hx with rfl|hx
 .exact⟨by have:(seq+1) % 2<2:=lI _ ϐ;simp only;omega,by simp[ms],fun n a ⟨c,d⟩=>⟨c.ff n,by simpa using d⟩⟩
 .obtain⟨f,g,e⟩:=Br h.l64 L h.log _ _ _ NZ i x hx
  exact⟨g,e.1,fun n a ⟨c,d⟩=>⟨c.wr n _ _ f U e,by simpa using d⟩⟩
def CD {bl seq} {L b:γ} (h:gr bl seq L) (a:L.length+b.length<=Ϯ bl):∀ c∈jx bl seq L.length b,c.ok bl.length:=by
 intro c hc;have e:=h.n3;have f:(seq+1) % 2<2:=lI _ ϐ;rw[wI]at hc;rcases nj.1 hc with hc|hc
 .obtain⟨x,d,rfl⟩:=ih.1 hc
  exact⟨(xA h a x d).1,(xA h a x d).2.1⟩
 .simp only[hH,List.not_mem_nil,or_false]at hc
  rcases hc with rfl|rfl|rfl
  .exact trivial
  .exact⟨U,qd _ _⟩
  .exact trivial
def Np {bl seq} {L b:γ} (h:gr bl seq L) (d:L.length+b.length<=Ϯ bl) (ks ws) (e:∀ x∈ws,x∈kQ bl seq L.length b):gr (iB ks bl ws) seq L:=
 (zv (P:=fun a=>gr a seq L/\a.length=bl.length) ks bl ws ⟨h,rfl⟩ (fun x f n a c=>(xA h d x (e x f)).2.2 n a c) ws.length).1
def Nn {bl seq} {L b:γ} (h:gr bl seq L) (f:L.length+b.length<=Ϯ bl) (ws) (g:∀ x∈ws,x∈kQ bl seq L.length b):gr (gB bl ws) seq L:=by
 refine(vL (P:=fun a=>gr a seq L/\a.length=bl.length) bl ws ⟨h,rfl⟩ (fun x i a c=>?_) ws.length).1;obtain⟨j,d,e⟩:=xA h f x (g x i);have:=e 64 a c;rwa [AZ d (c.1.at64 U)]at this
def xV (bl ws):L (gB bl ws)=L bl:=tM bl ws _
def EG {bl seq} {L b:γ} (h:gr bl seq L) (a:L.length+b.length<=Ϯ bl):uk (gB bl (kQ bl seq L.length b)) seq L (L++b):=by
 have k:Ϯ (gB bl (kQ bl seq L.length b))=Ϯ bl:=by unfold Ϯ;rw[xV]
 have s:(seq+1) % 2<2:=lI _ ϐ;have r:=h.n3;refine⟨Nn h a _ fun x e=>e,?_,by rw[k];simpa using a,?_⟩
 .unfold kQ
  rw[AY];refine vL (P:=fun f=>f.getD ((seq+1) % 2) []=ms) _ _ (td _ _ _ _ U) (fun x e f g=>?_) _;obtain⟨n,o,p⟩:=Br h.l64 L h.log _ _ _ NZ a x e;rw[mR _ _ _ _ _ U];exact g
 .intro c j
  unfold kQ;rw[AY];have i:∀ q,2+L.length / 64<=q->(bl.set ((seq+1) % 2) ms).getD q []=bl.getD q []:=fun q t=>mR _ _ _ _ _ U;obtain⟨l,m⟩:=Gb h.l64 (b.length+1) _ b _ U a ύ i;by_cases d:c<L.length
  .rw[l c d]
   unfold lb;rw[mR _ _ _ _ _ U];have:=h.log c d;unfold lb at this;rw[this];simp only[fX];rw[je d]
  .simp only[σ]at j
   rw[m c U U];simp only[fX];rw[hL U]
def Nk {bl seq} {L b:γ} (h:gr bl seq L) (c:L.length+b.length<=Ϯ bl) (d:seq+1<=4611686018427387904):(iv (bl,[]) (jx bl seq L.length b)).2=[]/\(iv (bl,[]) (jx bl seq L.length b)).1.length=bl.length/\gr (iv (bl,[]) (jx bl seq L.length b)).1 (seq+1) (L++b):=by
 rw[wI,CY,wT];have a:=(EG h c).done d;rw[σ]at a;refine⟨rfl,?_,?_⟩
 .show(gB (gB bl ([]++kQ bl seq L.length b)) _).length=_
  rw[xV,xV]
 .simpa[iv,tI,gB,kh] using a
def Nl {bl seq} {L b:γ} (h:gr bl seq L) (c:L.length+b.length<=Ϯ bl) (i:seq+1<=4611686018427387904) (F) (q:F<(jx bl seq L.length b).length) (ks) :
  gr (iB ks (iv (bl,[]) ((jx bl seq L.length b).take F)).1 (iv (bl,[]) ((jx bl seq L.length b).take F)).2) seq L\/gr (iB ks (iv (bl,[]) ((jx bl seq L.length b).take F)).1 (iv (bl,[]) ((jx bl seq L.length b).take F)).2) (seq+1) (L++b):=by
 have f:=(zk bl seq L.length b).1;rw[f]at q;rw[wI,List.take_append,Ax];generalize p:(kQ bl seq _ b).length=n at *;by_cases k:F<=n
 .left
  rw[show F - n=0 from U,rq,iy,show(jV (kQ bl seq L.length b)).take F=jV ((kQ bl seq L.length b).take F)from by simp[jV],wT];exact Np h c ks _ fun x j=>mz (by simpa using j)
 .have a:=EG h c
  rw[gF (by rw[Ax];omega),CY,wT,js];by_cases d:F=n+1
  .left
   rw[d,show n+1 - n=1 from U];exact a.inv
  .have e:F=n+2:=U
   rw[e,show n+2 - n=2 from U];show gr ((gB bl (kQ bl seq L.length b)).set ((seq+1) % 2) (jn (jb ks 0) (iN (seq+1) (L.length+b.length)) ((gB bl (kQ bl seq L.length b)).getD ((seq+1) % 2) []))) seq L\/gr ((gB bl (kQ bl seq L.length b)).set ((seq+1) % 2) (jn (jb ks 0) (iN (seq+1) (L.length+b.length)) ((gB bl (kQ bl seq L.length b)).getD ((seq+1) % 2) []))) (seq+1) (L++b);have m:jb ks 0<=64:=by
    unfold jb;cases ks[0]? with
    |none=>simp
    |some x=>simp only;omega
   by_cases g:jb ks 0<64
   .left;exact a.torn _ g _ (qd _ _)
   .right
    have l:=a.inv.n3;have o:(seq+1) % 2<2:=lI _ ϐ;rw[show jb ks 0=64 from U,AZ (qd _ _) (a.inv.at64 U)];have:=a.done i;rwa [σ]at this
structure gR where
 bl:ϸ
 ws:ht
 seq:Int
 len:Int
 x:Ix
 up:Bool
 fuse:Int
structure lN where
 ba:Option Addr
 bc:Nat
 wa:Option Addr
 wc:Nat
 da:Option Addr
 dc:Nat
 sa:Option Addr
 sc:Nat
def gy (p:lN) (L:gR):Array ε:= #[D p.ba L.bl.length p.bc,D p.wa L.ws.length p.wc,G L.seq,G L.len,D p.da L.x.1.length p.dc,D p.sa L.x.2.length p.sc,.bool L.up,G L.fuse]
structure kn (w:β) (p:lN) (L:gR):Prop where
 b:Ε w (D p.ba L.bl.length p.bc) L.bl
 wt:iu w (D p.wa L.ws.length p.wc) L.ws
 d:Ε w (D p.da L.x.1.length p.dc) L.x.1
 s:ϣ L.x.1 w (D p.sa L.x.2.length p.sc) L.x.2
structure rG (L:gR):Prop where
 dk:jg L.bl L.ws
 x:kk L.x
def kn.B {w w' p L} (h:kn w p L) (a:BQ w w'):kn w' p L:=⟨h.b.B a,h.wt.B a,h.d.B a,h.s.B a⟩
def wx (d:ht) (b:List ε) (k:Nat) (w:β):Prop:= ∀ a (hi:a<L d),a<k->b[a*2]?=J (G d[a].1)/\∃ c,b[a*2+1]?=J c/\Rd w c (L d[a].2) 1 (η d[a].2)
def wk (b:List ϰ) (c:List ε) (k:Nat) (w:β):Prop:= ∀ a (hi:a<L b),a<k->c[a*2]?=J (Ϫ b[a].1)/\∃ d,c[a*2+1]?=J d/\Rd w d (L b[a].2) 1 (τ b[a].2)
def Α.own {H} {w:β} {base e size} {v:ε} {n} {k:List ε} (h:w.ownsRow base e size v n k) (j:∀ g,v.ownBlock=J g->¬H g):Α H w (fun b=>Rd b v n size k):=by
 intro b d;refine Rd.of_own (base:=base) (e:=e) ⟨h.1,?_⟩;rcases h.2 with g|⟨g,c,cur,a,f,hg,i⟩
 .exact .inl g
 .exact .inr ⟨g,c,cur,a,f,by rw[d g (ς hg) (j g (by rw[a];rfl))];exact hg,i⟩
theorem Da {w:β} {ao n c} {r:List (γ)} (l:L r=n) (h:Ε w (D ao n c) r):∃ d,Rd w (D ao n c) n 1 d/\(∀ u∈d,u.oneCell'=true)/\Hid (∀ k (e:k<L r),∃ a c,d[k]?=J (D a (L r[k]) c)/\Rd w (D a (L r[k]) c) (L r[k]) 1 (η r[k])):=by
 subst l;obtain⟨d,g,j⟩:=h;have i:∀ k (e:k<L r),∃ a c,d[k]?=J (D a (L r[k]) c)/\Rd w (D a (L r[k]) c) (L r[k]) 1 (η r[k]):=by
  intro k e;obtain⟨q,b,f⟩:=j k e;obtain⟨p,c,rfl,-⟩:=f.from
  exact⟨p,c,b,f⟩
 refine⟨d,g,fun u m=>?_,i⟩;obtain⟨o,hi,rfl⟩:=rk m;obtain⟨a,c,b,-⟩:=i o (ι g.1);rw[Ρ hi]at b;injection b with b;rw[b];rfl
theorem Gr {w:β} {ao n c} {s:ht} (o:L s=n) (h:iu w (D ao n c) s):∃ b,Rd w (D ao n c) n 2 b/\(∀ u∈b,u.oneCell'=true)/\Hid (∀ k (g:k<L s),∃ a c,b[k*2]?=J (G s[k].1)/\b[k*2+1]?=J (D a (L s[k].2) c)/\Rd w (D a (L s[k].2) c) (L s[k].2) 1 (η s[k].2)):=by
 subst o;obtain⟨b,j,m⟩:=h;have l:∀ k (g:k<L s),∃ a c,b[k*2]?=J (G s[k].1)/\b[k*2+1]?=J (D a (L s[k].2) c)/\Rd w (D a (L s[k].2) c) (L s[k].2) 1 (η s[k].2):=by
  intro k g;obtain⟨d,r,e,i⟩:=m k g;obtain⟨q,c,rfl,-⟩:=i.from
  exact⟨q,c,d,e,i⟩
 refine⟨b,j,fun u p=>?_,l⟩;obtain⟨f,hi,rfl⟩:=rk p;obtain⟨a,c,d,e,-⟩:=l (f / 2) (ι j.1);rcases ym f with h|h
 .rw[show f / 2*2=f from U,Ρ hi]at d
  injection d with d;rw[d];rfl
 .rw[show f / 2*2+1=f from U,Ρ hi]at e
  injection e with e;rw[e];rfl
theorem FB {r:List (γ)} {w:β} {ao n c ps} (p:L ps=n) (h:ϣ r w (D ao n c) ps):∃ d,Rd w (D ao n c) n 3 d/\(∀ u∈d,u.oneCell'=true)/\Hid (∀ k (i:k<L ps),∃ a c,d[k*3]?=J (G ps[k].1)/\d[k*3+1]?=J (G ps[k].2)/\d[k*3+2]?=J (D a (L (Δ r ps[k])) c)/\fN w (D a (L (Δ r ps[k])) c) (L (Δ r ps[k])) (Δ r ps[k])):=by
 subst p;obtain⟨d,l,o⟩:=h;have m:∀ k (i:k<L ps),∃ a c,d[k*3]?=J (G ps[k].1)/\d[k*3+1]?=J (G ps[k].2)/\d[k*3+2]?=J (D a (L (Δ r ps[k])) c)/\fN w (D a (L (Δ r ps[k])) c) (L (Δ r ps[k])) (Δ r ps[k]):=by
  intro k i;obtain⟨e,f,u,g,j⟩:=o k i;obtain⟨a,c,rfl,-⟩:=ic j;exact⟨a,c,e,f,g,j⟩
 refine⟨d,l,fun u q=>?_,m⟩;obtain⟨b,hi,rfl⟩:=rk q;obtain⟨a,c,e,f,g,-⟩:=m (b / 3) (ι l.1);rcases(U:b % 3=0\/b % 3=1\/b % 3=2)with h|h|h
 .rw[show b / 3*3=b from U,Ρ hi]at e
  injection e with e;rw[e];rfl
 .rw[show b / 3*3+1=b from U,Ρ hi]at f
  injection f with f;rw[f];rfl
 .rw[show b / 3*3+2=b from U,Ρ hi]at g
  injection g with g;rw[g];rfl
theorem CV {w:β} {ao n c d} (p:L d=n) (h:fN w (D ao n c) n d):∃ b,Rd w (D ao n c) n 2 b/\(∀ u∈b,u.oneCell'=true)/\Hid (∀ k (i:k<L d),∃ a c,b[k*2]?=J (Ϫ d[k].1)/\b[k*2+1]?=J (D a (L d[k].2) c)/\Rd w (D a (L d[k].2) c) (L d[k].2) 1 (τ d[k].2)):=by
 subst p;obtain⟨-,b,l,o⟩:=h;have m:∀ k (i:k<L d),∃ a c,b[k*2]?=J (Ϫ d[k].1)/\b[k*2+1]?=J (D a (L d[k].2) c)/\Rd w (D a (L d[k].2) c) (L d[k].2) 1 (τ d[k].2):=by
  intro k i;obtain⟨e,r,f,j⟩:=o k i;obtain⟨a,c,rfl,-⟩:=ku rfl j;exact⟨a,c,e,f,j⟩
 refine⟨b,l,fun u q=>?_,m⟩;obtain⟨g,hi,rfl⟩:=rk q;obtain⟨a,c,e,f,-⟩:=m (g / 2) (ι l.1);rcases ym g with h|h
 .rw[show g / 2*2=g from U,Ρ hi]at e
  injection e with e;rw[e];rfl
 .rw[show g / 2*2+1=g from U,Ρ hi]at f
  injection f with f;rw[f];rfl
def Ϲ {w:β} {g} {a b c d e f i j:ε} {T} (h:w.heap[g]?=J (C #[a,b,c,d,e,f,i,j] T (0,0))):(w.cell? ⟨g,0,O⟩=J a/\w.cell? ⟨g,1,O⟩=J b/\w.cell? ⟨g,2,O⟩=J c/\w.cell? ⟨g,3,O⟩=J d/\w.cell? ⟨g,4,O⟩=J e/\w.cell? ⟨g,5,O⟩=J f/\w.cell? ⟨g,6,O⟩=J i/\w.cell? ⟨g,7,O⟩=J j)/\(∀ o,w.frozen? ⟨g,o,O⟩=false)/\g<w.heap.size:=
 ⟨⟨ξ _ _ 0 _ _ _ h,ξ _ _ 1 _ _ _ h,ξ _ _ 2 _ _ _ h,ξ _ _ 3 _ _ _ h,ξ _ _ 4 _ _ _ h,ξ _ _ 5 _ _ _ h,ξ _ _ 6 _ _ _ h,ξ _ _ 7 _ _ _ h⟩,fun o=>ϧ _ _ o _ _ h,ς h⟩
def yE (L:gR) (w:β) (e:Ending) (d:β):Prop:= ∃ (g:Nat) (a:lN),e=ŗ (þ (J ⟨g,0,O⟩))/\d.heap[g]?=J (C (gy a L) 136 (0,0))/\w.heap.size<=g/\Α (fun b=>b<w.heap.size\/b=g) d (fun c=>kn c a L)/\Below w.heap.size w d
def Lo (nb nw nd t:Nat) (ba:Option Addr) (bc:Nat) (wa:Option Addr) (wc:Nat) (da:Option Addr) (dc:Nat) (sa:Option Addr) (sc:Nat) (sq ln aB:Int) (up:Bool) (bl:ϸ) (ws:ht) (ď:List (γ)) (ps:List (Nat×Nat)) (w:β)
  (bK:L bl=nb) (bN:L ws=nw) (bL:L ď=nd) (bM:L ps=t) (dI:Ε w (D ba nb bc) bl) (cY:iu w (D wa nw wc) ws) (dR:Ε w (D da nd dc) ď) (dZ:ϣ ď w (D sa t sc) ps) (bP:jg bl ws) (cf:kk (ď,ps)) :
  Calls prog 60 #[ā #[D ba nb bc,D wa nw wc,G sq,G ln,D da nd dc,D sa t sc,.bool up,G aB]] w (yE ⟨bl,ws,sq,ln,(ď,ps),up,aB⟩ w):=by
 obtain⟨dP,dQ,-⟩:=tb cf;have dt:=Zh (fun c (bh:c<L bl)=>show L bl[c]<=100000 by have:=bP.lb _ (Ψ bh);omega);have dv:=Zh (fun c (bh:c<L ws)=>show L ws[c].2<=100000 by have:=(bP.lw _ (Ψ bh)).2;omega);have du:=Zh (fun c (bh:c<L ď)=>dP ď[c] (Ψ bh));have cB:=Zh (fun c (bh:c<L ps)=>dQ ps[c] (Ψ bh));have dV:=bP.nb;have dW:=bP.nw;have cT:=cf.nd;have cU:=cf.np;simp only at cT cU cB;rw[bK]at dV;rw[bN]at dW;rw[bL]at cT;rw[bM]at cU;have⟨bs,bv,bt,bu⟩:=hV bK bN bL bM;obtain⟨cm,ee,d9,dn⟩:=Da bK dI;obtain⟨cp,ef,ec,dr⟩:=Gr bN cY;obtain⟨cn,rD,ea,dp⟩:=Da bL dR;obtain⟨co,rS,eb,dq⟩:=FB bM dZ;have c6:=Zh (fun z (V:BQ w z)=>CF (D ba nb bc) nb cm z (ee.B V) d9 U);have dd:=Zh (fun z (V:BQ w z)=>CH (D wa nw wc) nw cp z (ef.B V) ec U);have c7:=Zh (fun z (V:BQ w z)=>CF (D da nd dc) nd cn z (rD.B V) ea U);have db:=Zh (fun z (V:BQ w z)=>CG (D sa t sc) t co z (rS.B V) eb U);clear cY bK bN bL bM;obtain⟨-,cW,-,T,dM⟩:=fZ (w:=w) (A:=C #[D ba nb bc,D wa nw wc,G sq,G ln,D da nd dc,D sa t sc,.bool up,G aB] 48) (Z:=C #[D ba nb bc,D wa nw wc,G sq,G ln,D da nd dc,D sa t sc,.bool up,G aB] 136) RZ;go_enter func60,ntmps60;go_upto_region 2 with fail
 generalize å (å w (C #[D ba nb bc,D wa nw wc,G sq,G ln,D da nd dc,D sa t sc,.bool up,G aB] 48)) (C #[D ba nb bc,D wa nw wc,G sq,G ln,D da nd dc,D sa t sc,.bool up,G aB] 136)=bm at *;have ah:=Zh cW;have aO:Hid (Α (fun b=>b<w.heap.size\/b=w.heap.size+1) bm (fun l=>True)):=fun _ _=>trivial;have ag:=dM;clear cW;obtain⟨⟨c0,c1,c2,aw,ax,f,ay,az⟩,aG,T⟩:=Ϲ ah.o;have aM:=T;go_wp2_with fail
 refine(c6.o _ ag).M ?_;rintro e bV ⟨ck,rfl,aK,I⟩;obtain⟨F,B,rfl⟩:=Η aK;have aI:=θ ah.o I;obtain⟨⟨c0,c1,c2,aw,ax,f,ay,az⟩,aG,T⟩:=Ϲ aI;go_upto_region 3 with fail
 have aE:(ŝ bV ⟨w.heap.size+1,0,O⟩ (D F nb B)).heap[w.heap.size+1]?=J (C #[D F nb B,D wa nw wc,G sq,G ln,D da nd dc,D sa t sc,.bool up,G aB] 136 (0,0)):=υ _ _ 0 _ _ _ aI;have aL:=hR aK (a:=⟨w.heap.size+1,0,O⟩) aM (D F nb B);have bb:=(I.M (mC aM)).S (p:=⟨w.heap.size+1,0,O⟩) NZ (D F nb B);have cg:bm.heap.size<=(ŝ bV ⟨w.heap.size+1,0,O⟩ (D F nb B)).heap.size:=by have:=I.size;simpa using this
 have aF:∀ b,b<bm.heap.size->b≠w.heap.size+1->(ŝ bV ⟨w.heap.size+1,0,O⟩ (D F nb B)).heap[b]?=bm.heap[b]?:=fun b m n=>by rw[Γ _ _ _ _ n];exact I.block b m
 generalize(ŝ bV ⟨w.heap.size+1,0,O⟩ (D F nb B))=aq at *;have⟨K,ap,aZ⟩:=ϲ aE aL aF;have aD:=ag.trans (bb.M (U:w.heap.size<=w.heap.size+1));clear aE aL aF;obtain⟨⟨c0,c1,c2,aw,ax,f,ay,az⟩,aG,T⟩:=Ϲ K.o;go_wp2;go_loopw [30] (fun i wr=>∃ (c:Nat) (r:List ε),c<=nb/\i=G (c:Int)/\Hid (wr.ownsRow bm.heap.size 31 1 (D F nb B) nb r)/\Hid (∀ d,c*1<=d->r[d]?=cm[d]?)/\Hid (Hi aq.heap.size wr (ml bl r c))/\Hid (∀ b,b<aq.heap.size->(∀ g,(Value.slice F nb B).ownBlock=J g->b≠g)->wr.heap[b]?=aq.heap[b]?)/\Below bm.heap.size aq wr/\aq.heap.size<=wr.heap.size) (fun i _=>nb - (intOf i).toNat)
 .exact⟨0,_,Ζ _,rfl,ap.o,fun _ _=>rfl,(fun l _ i hi e1=>U),fun _ _ _=>rfl,ρ _ _,NZ⟩
 obtain⟨aa,bj⟩:∃ x:β,x=wr:=⟨wr,rfl⟩;subst bj;obtain⟨c,r,cb,rfl,o,P,ao,h,W,bo⟩:=hrel;have bf:BQ w aa:=aD.trans (W.M U);by_cases cc:c<nb
 .skip
  have aH:c<L bl:=ι bs.o;obtain⟨ac,ad,al,bD⟩:=dn.o c aH;obtain⟨k,b4,aJ⟩:=kO o.o U;simp only[Χ,ϵ]at aJ;obtain⟨rfl,rfl⟩:=aJ;have bg:=Ϡ o.o k rfl;have a9:=(h.o (w.heap.size+1) U (fun g hg=>ι (Ϡ o.o g hg).1)).trans K.o;obtain⟨⟨bZ,b0,cr,cs,b1,ct,cu,cv⟩,b9,cw⟩:=Ϲ a9;have bk:(c:Int)<(nb:Int):=U;have ch:(0:Int)<=(c:Int):=U;obtain⟨aC,bx,-,b6⟩:=im o.o c U;rw[P.o c U,al]at aC;have bp:=Zh (rK (D ac (L bl[c]) ad) (L bl[c]) (η bl[c]) aa.drew (bD.B bf.drew) (mM _) (ι (dt.o c aH)));generalize aW:L bl[c]=s at *;have bq:=Zh aW;clear aW;go_wp2_with fail
  have u:BQ aa aa.drew:=RZ.drew;refine ϯ (fun z=>BQ aa z) 8 ϋ ?_;refine Zf 0 u ?_;refine Zf 1 u ?_;refine Zf 2 u ?_;refine Zb 3 [7,8] u ?_ (hy:=by intro z V;have bn:=ζ V bZ;go_simp;try with_reducible rfl);refine Zf 4 u ?_;refine Zf 5 u ?_;refine Κ (fuel:=2) 6 ϋ rfl ?_;intro e0 bz;go_simp;refine bp.o.M ?_;rintro e v ⟨cl,rfl,am,aN⟩;obtain⟨j,f,rfl⟩:=Η am;have y:BQ aa v:=u.trans aN;refine bz _ _ y ?_;try simp only[Act.put]
  refine Zf 7 y ?_;have aj:=Zh (ψ o.o y);obtain⟨bw,cH,-,cI⟩:=im aj.o c U;obtain⟨d8,cd⟩:∃ bE,r[c]?=J bE:=⟨_,Ρ (ι aj.o.1)⟩;rw[cd]at bw;refine Zl ?_;refine Zd ?_;have a4:=Zh (mU aj.o c U (D j s f));have a5:Hid (∀ d,(c+1)*1<=d->(r.set c (D j s f))[d]?=cm[d]?):=fun d ca=>by rw[gi U];exact P.o d U
  have aY:Hid (Hi aq.heap.size (ŝ v ⟨k,c,O⟩ (D j s f)) (ml bl (r.set c (D j s f)) (c+1))):=by
   have R:=(ao.o.B y).and ((Hi.own am).M (show aq.heap.size<=aa.drew.heap.size from bo));have bC:k<aq.heap.size:=(Ϡ ap.o k rfl).2;refine(R.set (p:=⟨k,c,O⟩) bC (D j s f)).imp fun l ⟨m,n⟩ i hi bR=>?_;by_cases aT:i=c
   .subst aT
    refine⟨D j s f,by rw[mB (ι aj.o.1)],?_⟩;rw[bq.o];exact n
   .obtain⟨a7,ae,N⟩:=m i hi U
    exact⟨a7,by rw[gi U];exact ae,N⟩
  have a0:Hid (∀ b,b<aq.heap.size->(∀ g,(Value.slice (J ⟨k,0,O⟩) nb B).ownBlock=J g->b≠g)->(ŝ v ⟨k,c,O⟩ (D j s f)).heap[b]?=aq.heap[b]?):=fun b ae N=>by
   rw[Γ _ _ _ _ (N k rfl),y.block b U];exact h.o b ae N
  have be:=(W.trans (y.M U)).S (p:=⟨k,c,O⟩) bg.1 (D j s f);have bi:aq.heap.size<=(ŝ v ⟨k,c,O⟩ (D j s f)).heap.size:=by
   have:=y.size;simp only[nc];omega
  go_wp2_with fail
  go_roundw
  .exact⟨c+1,_,U,ϕ,a4.o,a5.o,aY.o,a0.o,be,bi⟩
  exact ω
 .skip
  have bk:¬(c:Int)<(nb:Int):=U;obtain rfl:nb=c:=U;have X:=Ϡ o.o;have a1:=Zh ((h.o (w.heap.size+1) U (fun g hg=>ι (X g hg).1)).trans K.o);have a3:Hid (Α (fun b=>b<w.heap.size\/b=w.heap.size+1) aa (fun l=>(True)/\Ε l (D F nb B) bl)):=by
   have R:Α (fun b=>b<w.heap.size\/b=w.heap.size+1) aa (fun l=>True):=aO.o.step U (fun b m n=>(h.o b U (fun g hg=>ι (X g hg).1)).trans (aZ.o b m (fun e=>n (.inr e)))) (fun b _ g=>g);refine(R.and ((ao.o.off (fun b _ g=>by rcases g with g|g<;>omega)).and (Α.own o.o (H:=(fun b=>b<w.heap.size\/b=w.heap.size+1)) (fun g hg e=>by have:=(X g hg).1;rcases e with e|e<;>omega)))).imp fun l ⟨m,n,aR⟩=>⟨m,?_⟩;exact⟨r,by rw[bs.o];exact aR,fun i hi=>n i hi (ι bs.o)⟩
  have a8:=aD.trans (W.M U);have cK:w.heap.size+1<aa.heap.size:=U;have ah:=a1;have aO:=a3;have ag:=a8;obtain⟨⟨c0,c1,c2,aw,ax,f,ay,az⟩,aG,T⟩:=Ϲ ah.o;have aM:=T;go_wp2_with fail
  refine(dd.o _ ag).M ?_;rintro e bY ⟨ck,rfl,aK,I⟩;obtain⟨Q,M,rfl⟩:=Η aK;have aI:=θ ah.o I;obtain⟨⟨c0,c1,c2,aw,ax,f,ay,az⟩,aG,T⟩:=Ϲ aI;go_upto_region 9 with fail
  have aE:(ŝ bY ⟨w.heap.size+1,1,O⟩ (D Q nw M)).heap[w.heap.size+1]?=J (C #[D F nb B,D Q nw M,G sq,G ln,D da nd dc,D sa t sc,.bool up,G aB] 136 (0,0)):=υ _ _ 1 _ _ _ aI;have aL:=hR aK (a:=⟨w.heap.size+1,1,O⟩) aM (D Q nw M);have bb:=(I.M (mC aM)).S (p:=⟨w.heap.size+1,1,O⟩) NZ (D Q nw M);have cg:aa.heap.size<=(ŝ bY ⟨w.heap.size+1,1,O⟩ (D Q nw M)).heap.size:=by have:=I.size;simpa using this
  have aF:∀ b,b<aa.heap.size->b≠w.heap.size+1->(ŝ bY ⟨w.heap.size+1,1,O⟩ (D Q nw M)).heap[b]?=aa.heap[b]?:=fun b m n=>by rw[Γ _ _ _ _ n];exact I.block b m
  generalize(ŝ bY ⟨w.heap.size+1,1,O⟩ (D Q nw M))=au at *;have⟨K,ap,aZ⟩:=ϲ aE aL aF;have aD:=ag.trans (bb.M (U:w.heap.size<=w.heap.size+1));clear aE aL aF;obtain⟨⟨c0,c1,c2,aw,ax,f,ay,az⟩,aG,T⟩:=Ϲ K.o;go_wp2;go_loopw [57] (fun i wr=>∃ (c:Nat) (r:List ε),c<=nw/\i=G (c:Int)/\Hid (wr.ownsRow aa.heap.size 84 2 (D Q nw M) nw r)/\Hid (∀ d,c*2<=d->r[d]?=cp[d]?)/\Hid (Hi au.heap.size wr (wx ws r c))/\Hid (∀ b,b<au.heap.size->(∀ g,(Value.slice Q nw M).ownBlock=J g->b≠g)->wr.heap[b]?=au.heap[b]?)/\Below aa.heap.size au wr/\au.heap.size<=wr.heap.size) (fun i _=>nw - (intOf i).toNat)
  .exact⟨0,_,Ζ _,rfl,ap.o,fun _ _=>rfl,(fun l _ i hi e1=>U),fun _ _ _=>rfl,ρ _ _,NZ⟩
  obtain⟨af,bj⟩:∃ x:β,x=wr:=⟨wr,rfl⟩;subst bj;obtain⟨c,r,cb,rfl,o,P,ao,h,W,bo⟩:=hrel;have bf:BQ w af:=aD.trans (W.M U);by_cases cc:c<nw
  .skip
   have aH:c<L ws:=ι bv.o;obtain⟨ac,ad,al,bB,bD⟩:=dr.o c aH;obtain⟨k,b4,aJ⟩:=kO o.o U;simp only[Χ,ϵ]at aJ;obtain⟨rfl,rfl⟩:=aJ;have bg:=Ϡ o.o k rfl;have a9:=(h.o (w.heap.size+1) U (fun g hg=>ι (Ϡ o.o g hg).1)).trans K.o;have bk:(c:Int)<(nw:Int):=U;have ch:(0:Int)<=(c:Int):=U;obtain⟨bO,dE,-,b6⟩:=im o.o (c*2) U;obtain⟨aC,bx,-,-⟩:=im o.o (c*2+1) U;rw[P.o (c*2) U,al]at bO;rw[P.o (c*2+1) U,bB]at aC;have bI:=Zh al;generalize cO:ws[c].1=bJ at *;have c5:=Zh cO;have ai:BQ af (å af (C #[G (bJ:Int),D ac (L ws[c].2) ad] 84)):=ġ;have ce:=φ af (C #[G (bJ:Int),D ac (L ws[c].2) ad] 84);have eo:=o.o.1;have bp:=Zh (rK (D ac (L ws[c].2) ad) (L ws[c].2) (η ws[c].2) (å af (C #[G (bJ:Int),D ac (L ws[c].2) ad] 84)).drew (bD.B (bf.al _).drew) (mM _) (ι (dv.o c aH)));generalize aW:L ws[c].2=s at *;have bq:=Zh aW;clear aW al cO;go_upto_region 12 with fail
   generalize å af (C #[G (bJ:Int),D ac s ad] 84)=aV at *;have dG:=θ a9 ai;obtain⟨⟨bZ,b0,cr,cs,b1,ct,cu,cv⟩,b9,cw⟩:=Ϲ dG;obtain⟨⟨d7,cZ⟩,-,em⟩:=ν ce;have dB:=Zh (ψ o.o ai);have u:BQ aV aV.drew:=RZ.drew;refine ϯ (fun z=>BQ aV z) 10 ϋ ?_;refine Zf 0 u ?_;refine Zf 1 u ?_;refine Zf 2 u ?_;refine Zb 3 [8,9,10] u ?_ (hy:=by intro z V;have bn:=ζ V b0;go_simp;try with_reducible rfl);refine Zf 4 u ?_;refine Zf 5 u ?_;refine Zb 6 [7,10] u ?_ (hy:=by intro z V;have cF:=ζ V cZ;go_simp;try with_reducible rfl);refine Κ (fuel:=3) 7 ϋ rfl ?_;intro e0 bz;go_simp;refine bp.o.M ?_;rintro e v ⟨cl,rfl,am,aN⟩;obtain⟨j,f,rfl⟩:=Η am;have y:BQ aV v:=u.trans aN;refine bz _ _ y ?_;try simp only[Act.put]
   refine Zf 8 y ?_;refine Zf 9 y ?_;have aj:=Zh (ψ dB.o y);obtain⟨bw,cH,-,cI⟩:=im aj.o (c*2+1) U;rw[Ρ (by omega)]at bw;refine Zl ?_;refine Zd ?_;have bS:=ai.size;have a4:=Zh (mU aj.o (c*2+1) U (D j s f));have a5:Hid (∀ d,(c+1)*2<=d->(r.set (c*2+1) (D j s f))[d]?=cp[d]?):=fun d ca=>by rw[gi U];exact P.o d U
   have aY:Hid (Hi au.heap.size (ŝ v ⟨k,c*2+1,O⟩ (D j s f)) (wx ws (r.set (c*2+1) (D j s f)) (c+1))):=by
    have R:=((ao.o.B ai).B y).and ((Hi.own am).M (show au.heap.size<=aV.drew.heap.size from gj bo bS));have bC:k<au.heap.size:=(Ϡ ap.o k rfl).2;refine(R.set (p:=⟨k,c*2+1,O⟩) bC (D j s f)).imp fun l ⟨m,n⟩ i hi bR=>?_;by_cases aT:i=c
    .subst aT
     refine⟨?_,D j s f,by rw[mB (by omega)],?_⟩
     .rw[gi U,P.o (i*2) U,c5.o];exact bI.o
     .rw[bq.o];exact n
    .obtain⟨c4,a7,ae,N⟩:=m i hi U
     exact⟨by rw[gi U];exact c4,a7,by rw[gi U];exact ae,N⟩
   have a0:Hid (∀ b,b<au.heap.size->(∀ g,(Value.slice (J ⟨k,0,O⟩) nw M).ownBlock=J g->b≠g)->(ŝ v ⟨k,c*2+1,O⟩ (D j s f)).heap[b]?=au.heap[b]?):=fun b ae N=>by
    rw[Γ _ _ _ _ (N k rfl),y.block b U,ai.block b U];exact h.o b ae N
   have be:=(W.trans ((ai.trans (y.M bS)).M U)).S (p:=⟨k,c*2+1,O⟩) bg.1 (D j s f);have bi:au.heap.size<=(ŝ v ⟨k,c*2+1,O⟩ (D j s f)).heap.size:=by
    have:=y.size;simp only[nc];omega
   go_wp2_with fail
   go_roundw
   .exact⟨c+1,_,U,ϕ,a4.o,a5.o,aY.o,a0.o,be,bi⟩
   exact ω
  .skip
   have bk:¬(c:Int)<(nw:Int):=U;obtain rfl:nw=c:=U;have X:=Ϡ o.o;have a1:=Zh ((h.o (w.heap.size+1) U (fun g hg=>ι (X g hg).1)).trans K.o);have a3:Hid (Α (fun b=>b<w.heap.size\/b=w.heap.size+1) af (fun l=>((True)/\Ε l (D F nb B) bl)/\iu l (D Q nw M) ws)):=by
    have R:Α (fun b=>b<w.heap.size\/b=w.heap.size+1) af (fun l=>(True)/\Ε l (D F nb B) bl):=aO.o.step U (fun b m n=>(h.o b U (fun g hg=>ι (X g hg).1)).trans (aZ.o b m (fun e=>n (.inr e)))) (fun b _ g=>g);refine(R.and ((ao.o.off (fun b _ g=>by rcases g with g|g<;>omega)).and (Α.own o.o (H:=(fun b=>b<w.heap.size\/b=w.heap.size+1)) (fun g hg e=>by have:=(X g hg).1;rcases e with e|e<;>omega)))).imp fun l ⟨m,n,aR⟩=>⟨m,?_⟩;exact⟨r,by rw[bv.o];exact aR,fun i hi=>n i hi (ι bv.o)⟩
   have a8:=aD.trans (W.M U);have cK:w.heap.size+1<af.heap.size:=U;have ah:=a1;have aO:=a3;have ag:=a8;obtain⟨⟨c0,c1,c2,aw,ax,f,ay,az⟩,aG,T⟩:=Ϲ ah.o;have aM:=T;go_wp2_with fail
   refine(c7.o _ ag).M ?_;rintro e bW ⟨ck,rfl,aK,I⟩;obtain⟨ab,Y,rfl⟩:=Η aK;have aI:=θ ah.o I;obtain⟨⟨c0,c1,c2,aw,ax,f,ay,az⟩,aG,T⟩:=Ϲ aI;go_upto_region 15 with fail
   have aE:(ŝ bW ⟨w.heap.size+1,4,O⟩ (D ab nd Y)).heap[w.heap.size+1]?=J (C #[D F nb B,D Q nw M,G sq,G ln,D ab nd Y,D sa t sc,.bool up,G aB] 136 (0,0)):=υ _ _ 4 _ _ _ aI;have aL:=hR aK (a:=⟨w.heap.size+1,4,O⟩) aM (D ab nd Y);have bb:=(I.M (mC aM)).S (p:=⟨w.heap.size+1,4,O⟩) NZ (D ab nd Y);have cg:af.heap.size<=(ŝ bW ⟨w.heap.size+1,4,O⟩ (D ab nd Y)).heap.size:=by have:=I.size;simpa using this
   have aF:∀ b,b<af.heap.size->b≠w.heap.size+1->(ŝ bW ⟨w.heap.size+1,4,O⟩ (D ab nd Y)).heap[b]?=af.heap[b]?:=fun b m n=>by rw[Γ _ _ _ _ n];exact I.block b m
   generalize(ŝ bW ⟨w.heap.size+1,4,O⟩ (D ab nd Y))=ar at *;have⟨K,ap,aZ⟩:=ϲ aE aL aF;have aD:=ag.trans (bb.M (U:w.heap.size<=w.heap.size+1));clear aE aL aF;obtain⟨⟨c0,c1,c2,aw,ax,f,ay,az⟩,aG,T⟩:=Ϲ K.o;go_wp2;go_loopw [89] (fun i wr=>∃ (c:Nat) (r:List ε),c<=nd/\i=G (c:Int)/\Hid (wr.ownsRow af.heap.size 31 1 (D ab nd Y) nd r)/\Hid (∀ d,c*1<=d->r[d]?=cn[d]?)/\Hid (Hi ar.heap.size wr (ml ď r c))/\Hid (∀ b,b<ar.heap.size->(∀ g,(Value.slice ab nd Y).ownBlock=J g->b≠g)->wr.heap[b]?=ar.heap[b]?)/\Below af.heap.size ar wr/\ar.heap.size<=wr.heap.size) (fun i _=>nd - (intOf i).toNat)
   .exact⟨0,_,Ζ _,rfl,ap.o,fun _ _=>rfl,(fun l _ i hi e1=>U),fun _ _ _=>rfl,ρ _ _,NZ⟩
   obtain⟨S,bj⟩:∃ x:β,x=wr:=⟨wr,rfl⟩;subst bj;obtain⟨c,r,cb,rfl,o,P,ao,h,W,bo⟩:=hrel;have bf:BQ w S:=aD.trans (W.M U);by_cases cc:c<nd
   .skip
    have aH:c<L ď:=ι bt.o;obtain⟨ac,ad,al,bD⟩:=dp.o c aH;obtain⟨k,b4,aJ⟩:=kO o.o U;simp only[Χ,ϵ]at aJ;obtain⟨rfl,rfl⟩:=aJ;have bg:=Ϡ o.o k rfl;have a9:=(h.o (w.heap.size+1) U (fun g hg=>ι (Ϡ o.o g hg).1)).trans K.o;obtain⟨⟨bZ,b0,cr,cs,b1,ct,cu,cv⟩,b9,cw⟩:=Ϲ a9;have bk:(c:Int)<(nd:Int):=U;have ch:(0:Int)<=(c:Int):=U;obtain⟨aC,bx,-,b6⟩:=im o.o c U;rw[P.o c U,al]at aC;have bp:=Zh (rK (D ac (L ď[c]) ad) (L ď[c]) (η ď[c]) S.drew (bD.B bf.drew) (mM _) (ι (du.o c aH)));generalize aW:L ď[c]=s at *;have bq:=Zh aW;clear aW al;go_wp2_with fail
    have u:BQ S S.drew:=RZ.drew;refine ϯ (fun z=>BQ S z) 9 ϋ ?_;refine Zf 0 u ?_;refine Zf 1 u ?_;refine Zf 2 u ?_;refine Zf 3 u ?_;refine Zb 4 [8,9] u ?_ (hy:=by intro z V;have bn:=ζ V b1;go_simp;try with_reducible rfl);refine Zf 5 u ?_;refine Zf 6 u ?_;refine Κ (fuel:=2) 7 ϋ rfl ?_;intro e0 bz;go_simp;refine bp.o.M ?_;rintro e v ⟨cl,rfl,am,aN⟩;obtain⟨j,f,rfl⟩:=Η am;have y:BQ S v:=u.trans aN;refine bz _ _ y ?_;try simp only[Act.put]
    refine Zf 8 y ?_;have aj:=Zh (ψ o.o y);obtain⟨bw,cH,-,cI⟩:=im aj.o c U;obtain⟨d8,cd⟩:∃ bE,r[c]?=J bE:=⟨_,Ρ (ι aj.o.1)⟩;rw[cd]at bw;refine Zl ?_;refine Zd ?_;have a4:=Zh (mU aj.o c U (D j s f));have a5:Hid (∀ d,(c+1)*1<=d->(r.set c (D j s f))[d]?=cn[d]?):=fun d ca=>by rw[gi U];exact P.o d U
    have aY:Hid (Hi ar.heap.size (ŝ v ⟨k,c,O⟩ (D j s f)) (ml ď (r.set c (D j s f)) (c+1))):=by
     have R:=(ao.o.B y).and ((Hi.own am).M (show ar.heap.size<=S.drew.heap.size from bo));have bC:k<ar.heap.size:=(Ϡ ap.o k rfl).2;refine(R.set (p:=⟨k,c,O⟩) bC (D j s f)).imp fun l ⟨m,n⟩ i hi bR=>?_;by_cases aT:i=c
     .subst aT
      refine⟨D j s f,by rw[mB (ι aj.o.1)],?_⟩;rw[bq.o];exact n
     .obtain⟨a7,ae,N⟩:=m i hi U
      exact⟨a7,by rw[gi U];exact ae,N⟩
    have a0:Hid (∀ b,b<ar.heap.size->(∀ g,(Value.slice (J ⟨k,0,O⟩) nd Y).ownBlock=J g->b≠g)->(ŝ v ⟨k,c,O⟩ (D j s f)).heap[b]?=ar.heap[b]?):=fun b ae N=>by
     rw[Γ _ _ _ _ (N k rfl),y.block b U];exact h.o b ae N
    have be:=(W.trans (y.M U)).S (p:=⟨k,c,O⟩) bg.1 (D j s f);have bi:ar.heap.size<=(ŝ v ⟨k,c,O⟩ (D j s f)).heap.size:=by
     have:=y.size;simp only[nc];omega
    go_wp2_with fail
    go_roundw
    .exact⟨c+1,_,U,ϕ,a4.o,a5.o,aY.o,a0.o,be,bi⟩
    exact ω
   .skip
    have bk:¬(c:Int)<(nd:Int):=U;obtain rfl:nd=c:=U;have X:=Ϡ o.o;have a1:=Zh ((h.o (w.heap.size+1) U (fun g hg=>ι (X g hg).1)).trans K.o);have a3:Hid (Α (fun b=>b<w.heap.size\/b=w.heap.size+1) S (fun l=>(((True)/\Ε l (D F nb B) bl)/\iu l (D Q nw M) ws)/\Ε l (D ab nd Y) ď)):=by
     have R:Α (fun b=>b<w.heap.size\/b=w.heap.size+1) S (fun l=>((True)/\Ε l (D F nb B) bl)/\iu l (D Q nw M) ws):=aO.o.step U (fun b m n=>(h.o b U (fun g hg=>ι (X g hg).1)).trans (aZ.o b m (fun e=>n (.inr e)))) (fun b _ g=>g);refine(R.and ((ao.o.off (fun b _ g=>by rcases g with g|g<;>omega)).and (Α.own o.o (H:=(fun b=>b<w.heap.size\/b=w.heap.size+1)) (fun g hg e=>by have:=(X g hg).1;rcases e with e|e<;>omega)))).imp fun l ⟨m,n,aR⟩=>⟨m,?_⟩;exact⟨r,by rw[bt.o];exact aR,fun i hi=>n i hi (ι bt.o)⟩
    have a8:=aD.trans (W.M U);have cK:w.heap.size+1<S.heap.size:=U;have ah:=a1;have aO:=a3;have ag:=a8;obtain⟨⟨c0,c1,c2,aw,ax,f,ay,az⟩,aG,T⟩:=Ϲ ah.o;have aM:=T;go_wp2_with fail
    refine(db.o _ ag).M ?_;rintro e bX ⟨ck,rfl,aK,I⟩;obtain⟨av,an,rfl⟩:=Η aK;have aI:=θ ah.o I;obtain⟨⟨c0,c1,c2,aw,ax,f,ay,az⟩,aG,T⟩:=Ϲ aI;go_upto_region 21 with fail
    have aE:(ŝ bX ⟨w.heap.size+1,5,O⟩ (D av t an)).heap[w.heap.size+1]?=J (C #[D F nb B,D Q nw M,G sq,G ln,D ab nd Y,D av t an,.bool up,G aB] 136 (0,0)):=υ _ _ 5 _ _ _ aI;have aL:=hR aK (a:=⟨w.heap.size+1,5,O⟩) aM (D av t an);have bb:=(I.M (mC aM)).S (p:=⟨w.heap.size+1,5,O⟩) NZ (D av t an);have cg:S.heap.size<=(ŝ bX ⟨w.heap.size+1,5,O⟩ (D av t an)).heap.size:=by have:=I.size;simpa using this
    have aF:∀ b,b<S.heap.size->b≠w.heap.size+1->(ŝ bX ⟨w.heap.size+1,5,O⟩ (D av t an)).heap[b]?=S.heap[b]?:=fun b m n=>by rw[Γ _ _ _ _ n];exact I.block b m
    generalize(ŝ bX ⟨w.heap.size+1,5,O⟩ (D av t an))=ak at *;have⟨K,ap,aZ⟩:=ϲ aE aL aF;have aD:=ag.trans (bb.M (U:w.heap.size<=w.heap.size+1));clear aE aL aF;obtain⟨⟨c0,c1,c2,aw,ax,f,ay,az⟩,aG,T⟩:=Ϲ K.o;go_wp2;go_loopw [120] (fun i wr=>∃ (c:Nat) (r:List ε),c<=t/\i=G (c:Int)/\Hid (wr.ownsRow S.heap.size 92 3 (D av t an) t r)/\Hid (∀ d,c*3<=d->r[d]?=co[d]?)/\Hid (Hi ak.heap.size wr (lx ď ps r c))/\Hid (∀ b,b<ak.heap.size->(∀ g,(Value.slice av t an).ownBlock=J g->b≠g)->wr.heap[b]?=ak.heap[b]?)/\Below S.heap.size ak wr/\ak.heap.size<=wr.heap.size) (fun i _=>t - (intOf i).toNat)
    .exact⟨0,_,Ζ _,rfl,ap.o,fun _ _=>rfl,(fun l _ i hi e1=>U),fun _ _ _=>rfl,ρ _ _,NZ⟩
    obtain⟨aX,bj⟩:∃ x:β,x=wr:=⟨wr,rfl⟩;subst bj;obtain⟨c,r,cb,rfl,o,P,ao,h,W,bo⟩:=hrel;have bf:BQ w aX:=aD.trans (W.M U);by_cases cc:c<t
    .skip
     have aH:c<L ps:=ι bu.o;obtain⟨ac,ad,al,bB,dO,cQ⟩:=dq.o c aH;obtain⟨k,b4,aJ⟩:=kO o.o U;simp only[Χ,ϵ]at aJ;obtain⟨rfl,rfl⟩:=aJ;have bg:=Ϡ o.o k rfl;have a9:=(h.o (w.heap.size+1) U (fun g hg=>ι (Ϡ o.o g hg).1)).trans K.o;have bk:(c:Int)<(t:Int):=U;have ch:(0:Int)<=(c:Int):=U;obtain⟨bO,dE,-,b6⟩:=im o.o (c*3) U;obtain⟨cG,eq,-,-⟩:=im o.o (c*3+1) U;obtain⟨aC,bx,-,-⟩:=im o.o (c*3+2) U;rw[P.o (c*3) U,al]at bO;rw[P.o (c*3+1) U,bB]at cG;rw[P.o (c*3+2) U,dO]at aC;have⟨bI,cE,cD⟩:=ϲ al bB (cB.o c aH);have ex:=cQ;generalize cN:ps[c]=c3 at *;have b2:=Zh cN;generalize cJ:Δ ď c3=aA at *;have de:=Zh cJ;generalize cM:L aA=ln at *;have br:=Zh cM;obtain⟨ci,cj⟩:=c3;simp only at bO cG bI cE;obtain⟨b5,dS,dX,df⟩:=CV br.o cQ;have bd:BQ aX (å aX (C #[G (ci:Int),G (cj:Int),D ac ln ad] 92)):=ġ;have dY:=φ aX (C #[G (ci:Int),G (cj:Int),D ac ln ad] 92);have ew:ln<=2000000:=cD.o.1;clear al bB cN cJ cM;go_upto_region 24 with fail
     generalize å aX (C #[G (ci:Int),G (cj:Int),D ac ln ad] 92)=aU at *;have cP:=bf.t bd;have⟨cA,dA,c8⟩:=ϲ (θ a9 bd) (ψ o.o bd) (zo (D ac ln ad) ln b5 aU (dS.B cP) dX U);obtain⟨⟨c4,ae,N⟩,-,eF⟩:=Β dY;have d2:=bd.size;go_wp2_with fail
     refine c8.o.M ?_;rintro e v ⟨cl,rfl,am,aN⟩;obtain⟨j,f,rfl⟩:=Η am;have cC:=Zh am;have d1:=aN.size;have dN:=cP.t aN;have cx:=Zh aN;clear am aN;go_wp2_with fail
     go_loopw [130] (fun i E=>∃ (d:Nat) (a6:List ε),d<=ln/\i=G (d:Int)/\Hid (E.ownsRow aU.heap.size 130 2 (D j ln f) ln a6)/\Hid (∀ q,d*2<=q->a6[q]?=b5[q]?)/\Hid (Hi v.heap.size E (wk aA a6 d))/\Hid (∀ b,b<v.heap.size->(∀ g,(Value.slice j ln f).ownBlock=J g->b≠g)->E.heap[b]?=v.heap[b]?)/\Below aU.heap.size v E/\v.heap.size<=E.heap.size) (fun i _=>ln - (intOf i).toNat)
     .exact⟨0,_,Ζ _,rfl,cC.o,fun _ _=>rfl,(fun l _ i hi e1=>U),fun _ _ _=>rfl,ρ _ _,NZ⟩
     obtain⟨E,d4⟩:∃ x:β,x=wr:=⟨wr,rfl⟩;subst d4;obtain⟨d,a6,eu,rfl,a2,bG,cy,cz,b8,eA⟩:=hrel;have dL:BQ w E:=dN.trans (b8.M U);by_cases ev:d<ln
     .skip
      have cS:d<L aA:=ι br.o;obtain⟨bT,bU,bn,cF,cR⟩:=df.o d cS;obtain⟨aS,ep,cX⟩:=kO a2.o U;simp only[Χ,ϵ]at cX;obtain⟨rfl,rfl⟩:=cX;have dT:=Ϡ a2.o aS rfl;have d5:(d:Int)<(ln:Int):=U;have eB:(0:Int)<=(d:Int):=U;obtain⟨d6,eC,-,-⟩:=im a2.o (d*2) U;obtain⟨l1,eD,-,-⟩:=im a2.o (d*2+1) U;rw[bG.o (d*2) U,bn]at d6;rw[bG.o (d*2+1) U,cF]at l1;have⟨dg,dh,dm,en⟩:=hV (show L aA[d].2<=1000 from cD.o.2 _ (Ψ cS)) bn cR (show L aA[d].2=L aA[d].2 from rfl);generalize b7:Ϫ aA[d].1=eg at *;have d0:∃ dC,eg=š dC:=⟨_,b7.symm⟩;obtain⟨b3,rfl⟩:=d0;have di:=Zh b7;generalize cL:L aA[d].2=el at *;have ds:=Zh cL;have ai:BQ E (å E (C #[š b3,D bT el bU] 130)):=ġ;have ce:=φ E (C #[š b3,D bT el bU] 130);clear b7 cL bn cR;go_upto_region 28 with fail
      generalize å E (C #[š b3,D bT el bU] 130)=aV at *;have dJ:=dL.t ai;have⟨dy,c9⟩:=π (ψ a2.o ai) (uM (D bT el bU) el (τ aA[d].2) aV (dm.o.B dJ) (sW _) (ι dg.o));obtain⟨⟨d7,cZ⟩,-,em⟩:=ν ce;have bS:=ai.size;go_wp2_with fail
      refine c9.o.M ?_;rintro e cq ⟨eE,rfl,cV,bA⟩;obtain⟨aP,aQ,rfl⟩:=Η cV;have bF:=Zh (ψ dy.o bA);obtain⟨aC,bx,-,er⟩:=im bF.o (d*2+1) U;rw[Ρ (ι bF.o.1)]at aC;have ez:=bA.size;have dx:=Zh (mU bF.o (d*2+1) U (D aP el aQ));have dz:Hid (∀ q,(d+1)*2<=q->(a6.set (d*2+1) (D aP el aQ))[q]?=b5[q]?):=fun q ey=>by rw[gi U];exact bG.o q U
      have dj:Hid (Hi v.heap.size (ŝ cq ⟨aS,d*2+1,O⟩ (D aP el aQ)) (wk aA (a6.set (d*2+1) (D aP el aQ)) (d+1))):=by
       have R:=((cy.o.B ai).B bA).and ((Hi.own cV).M (U:v.heap.size<=aV.heap.size));refine(R.set (p:=⟨aS,d*2+1,O⟩) (Ϡ cC.o aS rfl).2 (D aP el aQ)).imp fun l ⟨m,n⟩ i hi bR=>?_;by_cases aT:i=d
       .subst aT
        refine⟨?_,D aP el aQ,by rw[mB (ι bF.o.1)],?_⟩
        .rw[gi U,bG.o (i*2) U,di.o];exact dh.o
        .rw[ds.o];exact n
       .obtain⟨ed,a7,p1,p2⟩:=m i hi U
        exact⟨by rw[gi U];exact ed,a7,by rw[gi U];exact p1,p2⟩
      have dk:Hid (∀ b,b<v.heap.size->(∀ g,(Value.slice (J ⟨aS,0,O⟩) ln f).ownBlock=J g->b≠g)->(ŝ cq ⟨aS,d*2+1,O⟩ (D aP el aQ)).heap[b]?=v.heap[b]?):=fun b p1 p2=>by
       rw[Γ _ _ _ _ (p2 aS rfl),bA.block b U,ai.block b U];exact cz.o b p1 p2
      have dK:=(b8.trans ((ai.trans (bA.M bS)).M (U:aU.heap.size<=E.heap.size))).S (p:=⟨aS,d*2+1,O⟩) dT.1 (D aP el aQ);have d3:v.heap.size<=(ŝ cq ⟨aS,d*2+1,O⟩ (D aP el aQ)).heap.size:=by simp only[nc];omega
      go_wp2_with fail
      go_roundw
      .exact⟨d+1,_,U,ϕ,dx.o,dz.o,dj.o,dk.o,dK,d3⟩
      exact ω
     .skip
      have d5:¬(d:Int)<(ln:Int):=U;obtain rfl:ln=d:=U;have dU:=Ϡ a2.o;have bQ:∀ b,b<aU.heap.size->E.heap[b]?=aU.heap[b]?:=fun b m=>by
       rw[cz.o b U (fun g hg=>ι (dU g hg).1)];exact cx.o.block b m
      have dH:E.heap[w.heap.size+1]?=_:=(bQ _ (ς cA.o)).trans cA.o;obtain⟨⟨bZ,b0,cr,cs,b1,ct,cu,cv⟩,b9,cw⟩:=Ϲ dH;have bH:=Zh (kA dA.o (w':=E) (fun g hg=>by simp only[Value.ownBlock,Φ]at hg;subst hg;exact bQ _ U));obtain⟨aC,bx,-,es⟩:=im bH.o (c*3+2) U;rw[Ρ (ι bH.o.1)]at aC;have dw:Hid (Hi aU.heap.size E (fun l=>fN l (D j ln f) ln aA)):=by
       refine((Hi.own a2.o).and (cy.o.M d1)).imp fun l ⟨p1,p2⟩=>⟨br.o,a6,p1,fun i hi=>p2 i hi (ι br.o)⟩
      have a4:=Zh (mU bH.o (c*3+2) U (D j ln f));have a5:Hid (∀ d,(c+1)*3<=d->(r.set (c*3+2) (D j ln f))[d]?=co[d]?):=fun d ca=>by rw[gi U];exact P.o d U
      have aY:Hid (Hi ak.heap.size (ŝ E ⟨k,c*3+2,O⟩ (D j ln f)) (lx ď ps (r.set (c*3+2) (D j ln f)) (c+1))):=by
       have dF:Hi ak.heap.size E (lx ď ps r c):=ao.o.step U fun b m n=>(bQ b U).trans (bd.block b n);have R:=dF.and (dw.o.M (U:ak.heap.size<=aU.heap.size));refine(R.set (p:=⟨k,c*3+2,O⟩) (Ϡ ap.o k rfl).2 (D j ln f)).imp fun l ⟨m,n⟩ i hi bR=>?_;have et:=bH.o.1;by_cases aT:i=c
       .subst aT
        refine⟨?_,?_,D j ln f,?_,?_⟩
        .rw[gi U,P.o (i*3) U,b2.o];exact bI.o
        .rw[gi U,P.o (i*3+1) U,b2.o];exact cE.o
        .rw[mB U]
        .rw[b2.o,de.o,br.o];exact n
       .obtain⟨eh,ei,bE,ej,ek⟩:=m i hi U
        exact⟨by rw[gi U];exact eh,by rw[gi U];exact ei,bE,by rw[gi U];exact ej,ek⟩
      have a0:Hid (∀ b,b<ak.heap.size->(∀ g,(Value.slice (J ⟨k,0,O⟩) t an).ownBlock=J g->b≠g)->(ŝ E ⟨k,c*3+2,O⟩ (D j ln f)).heap[b]?=ak.heap[b]?):=fun b ae N=>by
       rw[Γ _ _ _ _ (N k rfl),bQ b U,bd.block b U];exact h.o b ae N
      have be:Below S.heap.size ak (ŝ E ⟨k,c*3+2,O⟩ (D j ln f)):=((W.trans (((bd.trans (cx.o.M d2)).trans (b8.M U)).M U))).S (p:=⟨k,c*3+2,O⟩) bg.1 (D j ln f);have bi:ak.heap.size<=(ŝ E ⟨k,c*3+2,O⟩ (D j ln f)).heap.size:=by simp only[nc];omega
      go_wp2_with fail
      go_roundw
      .exact⟨c+1,_,U,ϕ,a4.o,a5.o,aY.o,a0.o,be,bi⟩
      exact ω
    .skip
     have bk:¬(c:Int)<(t:Int):=U;obtain rfl:t=c:=U;have X:=Ϡ o.o;have a1:=Zh ((h.o (w.heap.size+1) U (fun g hg=>ι (X g hg).1)).trans K.o);have a3:Hid (Α (fun b=>b<w.heap.size\/b=w.heap.size+1) aX (fun l=>((((True)/\Ε l (D F nb B) bl)/\iu l (D Q nw M) ws)/\Ε l (D ab nd Y) ď)/\ϣ ď l (D av t an) ps)):=by
      have R:Α (fun b=>b<w.heap.size\/b=w.heap.size+1) aX (fun l=>(((True)/\Ε l (D F nb B) bl)/\iu l (D Q nw M) ws)/\Ε l (D ab nd Y) ď):=aO.o.step U (fun b m n=>(h.o b U (fun g hg=>ι (X g hg).1)).trans (aZ.o b m (fun e=>n (.inr e)))) (fun b _ g=>g);refine(R.and ((ao.o.off (fun b _ g=>by rcases g with g|g<;>omega)).and (Α.own o.o (H:=(fun b=>b<w.heap.size\/b=w.heap.size+1)) (fun g hg e=>by have:=(X g hg).1;rcases e with e|e<;>omega)))).imp fun l ⟨m,n,aR⟩=>⟨m,?_⟩;exact⟨r,by rw[bu.o];exact aR,fun i hi=>n i hi (ι bu.o)⟩
     have a8:=aD.trans (W.M U);have ah:=a1;have aO:=a3;have ag:=a8;have dl:Hid (yE ⟨bl,ws,sq,ln,(ď,ps),up,aB⟩ w (ŗ (þ (J ⟨w.heap.size+1,0,O⟩))) aX):=by
      refine⟨w.heap.size+1,⟨F,B,Q,M,ab,Y,av,an⟩,rfl,?_,U,?_,ag⟩
      .simp only[gy];rw[bs.o,bv.o,bt.o,bu.o];exact ah.o
      .refine aO.o.imp fun l ⟨⟨⟨⟨_,m⟩,n⟩,aR⟩,dD⟩=>⟨?_,?_,?_,?_⟩
       .simp only;rw[bs.o];exact m
       .simp only;rw[bv.o];exact n
       .simp only;rw[bt.o];exact aR
       .simp only;rw[bu.o];exact dD
     go_wp2;go_ret;exact dl.o
def DU (p L) (w:β) (h:kn w p L) (a:rG L):Calls prog 60 #[ā (gy p L)] w (yE L w):=
 Lo _ _ _ _ p.ba p.bc p.wa p.wc p.da p.dc p.sa p.sc L.seq L.len L.fuse L.up L.bl L.ws L.x.1 L.x.2 w rfl rfl rfl rfl h.b h.wt h.d h.s a.dk a.x
def Ο (g:Nat) (w a:β):Prop:=w.heap.size<=a.heap.size/\(∀ b,b<w.heap.size->b≠g->a.heap[b]?=w.heap[b]?)/\Below 0 w a
def Ο.refl (g w):Ο g w w:=⟨NZ,fun _ _ _=>rfl,ρ _ _⟩
def Ο.B {g w w' w2} (h:Ο g w w') (a:BQ w' w2):Ο g w w2:=
 ⟨gj h.1 a.size,fun b c d=>(a.block b (om c h.1)).trans (h.2.1 b c d),h.2.2.trans (a.M (Ζ _))⟩
def Ο.set {g w w'} (h:Ο g w w') (o) (x:ε):Ο g w (ŝ w' ⟨g,o,O⟩ x):=
 ⟨by simpa using h.1,fun b c a=>(Γ _ _ _ _ a).trans (h.2.1 b c a),h.2.2.S (Ζ _) x⟩
def Ο.trans {g w w' w2} (h:Ο g w w') (a:Ο g w' w2):Ο g w w2:=
 ⟨gj h.1 a.1,fun b c d=>(a.2.1 b (om c h.1) d).trans (h.2.1 b c d),h.2.2.trans a.2.2⟩
def Ο.to {g B} {a w f:β} (h:Ο g w f) (c:Below B a w) (d:B<=w.heap.size) (i:B<=g):Below B a f:=by
 refine c.trans ?_;exact⟨h.2.2.os,h.2.2.tape,h.2.2.output,h.1,fun b e=>h.2.1 b U U⟩
def Α.oneCh {H g} {w f:β} {R:β->Prop} (h:Α H w R) (i:H g) (a:Ο g w f):Α H f R:=h.step a.1 (fun b c d=>a.2.1 b c fun e=>d (e ▸ i)) fun _ _ g=>g
def OU {w:β} {g T} {a b c d e f i j:ε} (h:w.heap[g]?=J (C #[a,b,c,d,e,f,i,j] T (0,0))) (x y:ε):(ŝ (ŝ w ⟨g,6,O⟩ x) ⟨g,7,O⟩ y).heap[g]?=J (C #[a,b,c,d,e,f,x,y] T (0,0)):=by
 have k:(ŝ w ⟨g,6,O⟩ x).heap[g]?=J (C #[a,b,c,d,e,f,x,j] T (0,0)):=υ _ g 6 _ _ x h;have l:(ŝ (ŝ w ⟨g,6,O⟩ x) ⟨g,7,O⟩ y).heap[g]?=J (C #[a,b,c,d,e,f,x,y] T (0,0)):=υ _ g 7 _ _ y k;exact l
def AI {w:β} {g T} {a b c d e f i j:ε} (h:w.heap[g]?=J (C #[a,b,c,d,e,f,i,j] T (0,0))) (x y:ε):(ŝ (ŝ w ⟨g,0,O⟩ x) ⟨g,1,O⟩ y).heap[g]?=J (C #[x,y,c,d,e,f,i,j] T (0,0)):=by
 have k:(ŝ w ⟨g,0,O⟩ x).heap[g]?=J (C #[x,b,c,d,e,f,i,j] T (0,0)):=υ _ g 0 _ _ x h;have l:(ŝ (ŝ w ⟨g,0,O⟩ x) ⟨g,1,O⟩ y).heap[g]?=J (C #[x,y,c,d,e,f,i,j] T (0,0)):=υ _ g 1 _ _ y k;exact l
def OV {w:β} {g T} {a b c d e f i j:ε} (h:w.heap[g]?=J (C #[a,b,c,d,e,f,i,j] T (0,0))) (y:ε):(ŝ w ⟨g,7,O⟩ y).heap[g]?=J (C #[a,b,c,d,e,f,i,y] T (0,0)):=υ _ g 7 _ _ y h
def OT {w:β} {g T} {a b c d e f i j:ε} (h:w.heap[g]?=J (C #[a,b,c,d,e,f,i,j] T (0,0))) (k l m n:ε):(ŝ (ŝ (ŝ (ŝ w ⟨g,2,O⟩ k) ⟨g,3,O⟩ l) ⟨g,4,O⟩ m) ⟨g,5,O⟩ n).heap[g]?=J (C #[a,b,k,l,m,n,i,j] T (0,0)):=by
 have o:(ŝ w ⟨g,2,O⟩ k).heap[g]?=J (C #[a,b,k,d,e,f,i,j] T (0,0)):=υ _ g 2 _ _ k h;have p:(ŝ (ŝ w ⟨g,2,O⟩ k) ⟨g,3,O⟩ l).heap[g]?=J (C #[a,b,k,l,e,f,i,j] T (0,0)):=υ _ g 3 _ _ l o;have q:(ŝ (ŝ (ŝ w ⟨g,2,O⟩ k) ⟨g,3,O⟩ l) ⟨g,4,O⟩ m).heap[g]?=J (C #[a,b,k,l,m,f,i,j] T (0,0)):=υ _ g 4 _ _ m p;have r:(ŝ (ŝ (ŝ (ŝ w ⟨g,2,O⟩ k) ⟨g,3,O⟩ l) ⟨g,4,O⟩ m) ⟨g,5,O⟩ n).heap[g]?=J (C #[a,b,k,l,m,n,i,j] T (0,0)):=υ _ g 5 _ _ n q;exact r
def Hj (g:Nat) (p:lN) (L:gR) (w:β) (e:Ending) (a:β):Prop:=e=ŗ (.tuple #[])/\a.heap[g]?=J (C (gy p {L with up:=false,fuse:= -1}) 136 (0,0))/\Ο g w a
def DV (g p L) (w:β) (k:w.heap[g]?=J (C (gy p L) 136 (0,0))) :
  Calls prog 62 #[þ (J ⟨g,0,O⟩)] w (Hj g p L w):=by
 have a:=k;unfold gy at a;have b:=Zh (OU a (.bool false) (G (-1)));obtain⟨⟨c0,c1,c2,c,d,e,f,h⟩,i,j⟩:=Ϲ a;go_enter func62,ntmps62;go_wp2
 go_returns
 exact⟨rfl,b.o,((Ο.refl g w).set 6 _).set 7 _⟩
def lB (a:Int) (n:Nat):Nat:=if a<0 then n else a.toNat
def vp (L:gR) (d:ϸ×ht) (a:Nat):gR:={L with bl:=d.1,ws:=d.2,fuse:=if L.fuse<0 then L.fuse else L.fuse - (a:Int)}
def yQ (H:Nat->Prop) (g:Nat) (L:gR) (d:ϸ×ht) (a n:Nat) (w:β) (e:Ending) (f:β):Prop:= ∃ b:lN,e=ŗ (.bool ((a:Int)==(n:Int)))/\f.heap[g]?=J (C (gy b (vp L d a)) 136 (0,0))/\Α H f (fun c=>kn c b (vp L d a))/\Ο g w f
def Lr (H:Nat->Prop) (g:Nat) (p:lN) (ab:Option Addr) (ac:Nat) (l:List jw) (bl:ϸ) (ws:ht) (sq ln a:Int) (x:Ix) (up:Bool) (w:β) (hg:w.heap[g]?=J (C (gy p ⟨bl,ws,sq,ln,x,up,a⟩) 136 (0,0)))
  (af:∀ b,H b->b<w.heap.size) (u:H g) (aa:Α H w (fun R=>kn R p ⟨bl,ws,sq,ln,x,up,a⟩)) (aj:jg bl ws) (ae:0<L bl) (ah:rv w (D ab (L l) ac) l) (ai:∀ a0∈l,a0.ok (L bl)) (al:L ws+L l<=900) (au : -9223372036854775808<=a) (av:a<=9223372036854775807) :
  Calls prog 91 #[þ (J ⟨g,0,O⟩),D ab (L l) ac] w (yQ H g ⟨bl,ws,sq,ln,x,up,a⟩ (iv (bl,ws) (l.take (lB a (L l)))) (min (lB a (L l)) (L l)) (L l) w):=by
 have s:=Zh (Lf H (lB a (L l)) ab ac l p.ba p.bc p.wa p.wc bl ws w af (aa.imp fun R h=>⟨h.b,h.wt⟩) aj ah ai al ae);have ad:=Zh aa;unfold gy at hg;simp only at hg;have P:=hg;obtain⟨⟨c0,c1,c2,E,F,e,I,K⟩,N,S⟩:=Ϲ hg;have ao:min (lB a (L l)) (L l)<=L l:=Nat.min_le_right _ _;generalize iv (bl,ws) (l.take (lB a (L l)))=d at *;obtain⟨m,M⟩:∃ m,m=min (lB a (L l)) (L l):=⟨_,rfl⟩;rw[<-M]at s ao ⊢;have ap:Hid (a<0->m=L l):=fun h=>by rw[M];unfold lB;rw[μ h];simp
 have ag:Hid (¬a<0->(lB a (L l):Int)=a):=fun h=>by unfold lB;rw[κ h];omega
 have am:Hid (¬a<0->(m:Int)<=a):=fun h=>by have:=ag.o h;rw[M];omega
 clear aa aj ae ah ai M af;by_cases Q:a<0
 .have an:lB a (L l)=L l:=by unfold lB;rw[μ Q]
  rw[an]at s;go_enter func91,ntmps91;go_wp2_with fail
  refine s.o.M ?_;rintro a1 r ⟨f,j,i,k,rfl,A,v⟩;have n:BQ w (å r (C #[D f (L d.1) j,D i (L d.2) k] 41)):=v.al _;have z:=φ r (C #[D f (L d.1) j,D i (L d.2) k] 41);go_upto_region 5 with fail
  have B:=A.A (C #[D f (L d.1) j,D i (L d.2) k] 41);generalize å r (C #[D f (L d.1) j,D i (L d.2) k] 41)=W at *;have o:=θ P n;obtain⟨⟨ak,d1⟩,-,-⟩:=ν z;have q:=AI o (D f (L d.1) j) (D i (L d.2) k);have y:=(((Ο.refl g w).B n).set 0 (D f (L d.1) j)).set 1 (D i (L d.2) k);have V:=Zh (((B.and (ad.o.B n)).set (p:=⟨g,0,O⟩) u (D f (L d.1) j)).set (p:=⟨g,1,O⟩) u (D i (L d.2) k));obtain⟨⟨c0,c1,c2,E,F,e,I,K⟩,N,S⟩:=Ϲ o;go_upto_region 6 with fail
  generalize ŝ (ŝ W ⟨g,0,O⟩ (D f (L d.1) j)) ⟨g,1,O⟩ (D i (L d.2) k)=X at *;have c:=Zh q;obtain⟨⟨c0,c1,c2,E,F,e,I,K⟩,N,S⟩:=Ϲ q;have T:Hid (yQ H g ⟨bl,ws,sq,ln,x,up,a⟩ d m (L l) w (ŗ (.bool ((m:Int)==(L l:Int)))) X):=by
   refine⟨⟨f,j,i,k,p.da,p.dc,p.sa,p.sc⟩,rfl,?_,?_,y⟩
   .unfold gy vp;simp only[μ Q];exact c.o
   .exact V.o.imp fun R ⟨⟨Y,Z⟩,t⟩=>⟨Y,Z,t.d,t.s⟩
  clear o q y A B v n z hg P;go_wp2;go_ret;exact T.o
 .have aw:(0:Int)<=a:=U
  rw[ag.o Q]at s;have ar:=am.o Q;have aq:IntKind.i64.wrap (a - (m:Int))=a - (m:Int):=Ϗ;go_enter func91,ntmps91;go_wp2_with fail
  refine s.o.M ?_;rintro a1 r ⟨f,j,i,k,rfl,A,v⟩;have n:BQ w (å r (C #[D f (L d.1) j,D i (L d.2) k] 41)):=v.al _;have z:=φ r (C #[D f (L d.1) j,D i (L d.2) k] 41);go_upto_region 5 with fail
  have B:=A.A (C #[D f (L d.1) j,D i (L d.2) k] 41);generalize å r (C #[D f (L d.1) j,D i (L d.2) k] 41)=W at *;have o:=θ P n;obtain⟨⟨ak,d1⟩,-,-⟩:=ν z;have q:=AI o (D f (L d.1) j) (D i (L d.2) k);have y:=(((Ο.refl g w).B n).set 0 (D f (L d.1) j)).set 1 (D i (L d.2) k);have V:=Zh (((B.and (ad.o.B n)).set (p:=⟨g,0,O⟩) u (D f (L d.1) j)).set (p:=⟨g,1,O⟩) u (D i (L d.2) k));obtain⟨⟨c0,c1,c2,E,F,e,I,K⟩,N,S⟩:=Ϲ o;go_upto_region 6 with fail
  generalize ŝ (ŝ W ⟨g,0,O⟩ (D f (L d.1) j)) ⟨g,1,O⟩ (D i (L d.2) k)=X at *;obtain⟨⟨c0,c1,c2,E,F,e,I,K⟩,N,S⟩:=Ϲ q;have c:=Zh (OV q (G (a - (m:Int))));have T:Hid (yQ H g ⟨bl,ws,sq,ln,x,up,a⟩ d m (L l) w (ŗ (.bool ((m:Int)==(L l:Int)))) (ŝ X ⟨g,7,O⟩ (G (a - (m:Int))))):=by
   refine⟨⟨f,j,i,k,p.da,p.dc,p.sa,p.sc⟩,rfl,?_,?_,y.set 7 _⟩
   .unfold gy vp;simp only[κ (U:¬a<0)];exact c.o
   .exact(V.o.set (p:=⟨g,7,O⟩) u _).imp fun R ⟨⟨Y,Z⟩,t⟩=>⟨Y,Z,t.d,t.s⟩
  clear o q y A B v n z hg P;go_wp2;go_ret;exact T.o
