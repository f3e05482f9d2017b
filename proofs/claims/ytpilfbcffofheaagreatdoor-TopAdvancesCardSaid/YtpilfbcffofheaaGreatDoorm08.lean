/- Part 8 of the proof. -/
import Derived.Test.YtpilfbcffofheaaGreatDoorm05
import Derived.Test.YtpilfbcffofheaaGreatDoorm07
set_option linter.all false
set_option maxRecDepth 100000
set_option maxHeartbeats 16000000
namespace Go.Proofs.YtpilfbcffofheaaGreatDoor
open Go.RowKit Go.Proofs.Tryz Go.Sort
open Value renaming slice->D,int->ĭ,agg->ā,string->š,pointer->þ
open Option renaming none->O,some->J
open List renaming length->L
open Obj renaming cells->C
open Ending renaming returned->ŗ
open World renaming alloc->å,setCell->ŝ
def jN:γ:=List.replicate 64 0
theorem Ro (n):(List.replicate n jN).flatten=List.replicate (n*64) 0:=by
 induction n with
 |zero=>rfl
 |succ n a=>rw[List.replicate_succ,qi,a,lr,pF,Nat.add_comm (n*64),<-List.replicate_append_replicate];rfl
def pr (a n k:Nat):List ε:=(pe a n).take k++List.replicate (n - k) (D O 0 0)
theorem Mv (g1 n k) (c:k<n):(pr g1 n k).set k (D (J ⟨g1,k*64,O⟩) 64 64)=pr g1 n (k+1):=by
 have a:=wF g1 n;unfold pr;rw[List.set_append_right _ _ (by simp[a];omega)];rw[jt U,gP]
 congr 1
 have:(pe g1 n)[k]' U=D (J ⟨g1,k*64,O⟩) 64 64:=by simp[pe]
 rw[this];simp only[gp,a,mi (by omega:k<=n),kj];obtain⟨q,b⟩:∃ q,n - k=q+1:=⟨n - k - 1,U⟩;rw[b,show n - (k+1)=q from U,List.replicate_succ];rfl
def Mu (g1 n):pr g1 n n=pe g1 n:=by
 unfold pr;rw[gF (by rw[wF];exact NZ)];simp
def te (z:ε) (n):(madeCells #[z] n).toList=List.replicate n z:=by
 unfold madeCells;apply List.ext_getElem
 .simp
 .intro c a b
  simp[Nat.mod_one]
def Ch (n:Nat) (w:β) (W:0<n) (B:n<=4096) :
  Calls prog 107 #[G n] w fun e w'=>∃ s l,e=ŗ (D (J ⟨l,0,O⟩) n n)/\hY w.heap.size w' s l (List.replicate n jN)/\BQ w w':=by
 obtain⟨R,hi,N,P,Q⟩:=Ϩ lh;obtain⟨S,z,I,K,M⟩:=Ϩ uW;have Z:(0:Int)<=(n:Int):=U;have aa:(n:Int)<=4096:=U;go_enter func107,ntmps107;go_wp2_with (first
  |(at_make;refine tQ w rfl _ _ _ rfl _ 5 R _ 1 gv hi N P _ _ _ _ (n*64) rfl rfl ύ ύ (by rw[Q];omega) ώ NZ ?_;intro c E x;have m:BQ w c:=RZ.grown x NZ (fun a d=>by cases d))
  |(at_make;refine tQ c rfl _ _ _ rfl _ 31 S _ 1 nM z I K _ _ _ _ n rfl rfl ύ ύ (by rw[M];omega) ώ NZ ?_;intro o F y;have u:BQ c o:=RZ.grown y NZ (fun a d=>by cases d)))
 have k:Hid (c.heap[w.heap.size]?=J (C (η (List.replicate n jN).flatten).toArray 5 (0,0))):=by
  have h:=E;rw[show(Value.int IntKind.u8 0).cells=#[ĭ .u8 0]from rfl,te]at h;have:=tm h;rw[Ro];simpa[Hid,η,show ch 0=0 from rfl] using this
 have A:=ς k.o;have r:Hid (o.ownsRow c.heap.size 31 1 (D (J ⟨c.heap.size,0,O⟩) n n) n (pr w.heap.size n 0)):=by
  have h:=F;rw[show(Value.slice O 0 0).cells=#[D O 0 0]from rfl,te]at h;simpa[Hid,pr] using h
 go_loopw [15] (fun j wr=>∃ a:Nat,a<=n/\j=G (a:Int)/\Hid (wr.ownsRow c.heap.size 31 1 (D (J ⟨c.heap.size,0,O⟩) n n) n (pr w.heap.size n a))/\BQ c wr) (fun j _=>n - (intOf j).toNat)
 .exact⟨0,Ζ _,rfl,r,u⟩
 obtain⟨a,d,rfl,f,g⟩:=hrel;by_cases i:a<n
 .obtain⟨c0,a1,X,Y,-,-⟩:=vl f.o a i
  have V:a<L (pr w.heap.size n a):=by simp[pr,wF];omega
  rw[Ρ V]at c0;have q:=Zh (Mv _ n a i ▸ Et f.o a i _);have v:=g.S (p:=⟨c.heap.size,a,O⟩) NZ (D (J ⟨w.heap.size,a*64,O⟩) 64 64);have T:(a:Int)<(n:Int):=U;have a0:(a+1)*64 - a*64=64:=U;go_wp2;go_roundw
  .exact⟨ _,U,ϕ,q,v⟩
  exact ω
 .have T:¬(a:Int)<(n:Int):=U
  obtain rfl:a=n:=U;go_wp2;go_ret;have H:=tm (Mu _ a ▸ f.o);exact⟨ _,_,rfl,⟨(g.block _ A).trans k.o,by simpa using H,by intro b t;rw[List.eq_of_mem_replicate t];rfl,by simpa using B,NZ,m.size,U⟩,m.t g⟩
def zf (v:ε) (b:γ) (w:β) (h:Rd w v 64 1 (η b)) :
  Calls prog 246 #[v] w fun e w'=>∃ g,e=ŗ (D (J ⟨g,0,O⟩) 64 64)/\Μ w.heap.size w' (D (J ⟨g,0,O⟩) 64 64) 64 b/\BQ w w':=by
 obtain⟨y,hi,t,u,x⟩:=Ϩ lh;have k:=Zh h;have a:L b=64:=by have:=h.1;simpa[η] using this
 go_enter func246,ntmps246;go_wp2_with (at_make;refine tQ w rfl _ _ _ rfl _ 5 y _ 1 gv hi t u _ _ _ _ 64 rfl rfl ύ ύ (by rw[x];omega) ώ NZ ?_;intro d r o;have c:BQ w d:=RZ.grown o NZ (fun z q=>by cases q))
 have i:Hid (d.heap[w.heap.size]?=J (C (η (List.replicate 64 0)).toArray 5 (0,0))):=by
  have h:=r;rw[show(Value.int IntKind.u8 0).cells=#[ĭ .u8 0]from rfl,te]at h;have:=tm h;simpa[Hid,η,show ch 0=0 from rfl] using this
 have l:=Zh (k.o.B c);obtain⟨f,s,p,m,-,-⟩:=AL _ 0 64 64 _ i.o v _ b l.o U ύ;rw[s];go_wp2;have n:BQ w f:=c.trans m;have j:Hid (Μ w.heap.size f (D (J ⟨w.heap.size,0,O⟩) 64 64) 64 b):=by
  refine⟨a,by simp[η,a],.inr ⟨ _,_,_,rfl,NZ,p.o,NZ,ώ,?_,?_⟩⟩
  .simp[η,a]
  .simp[η]
   exact gF (by simp[a])
 go_ret;exact⟨ _,rfl,j.o,n⟩
def mV (a:ϸ) (k:Nat):ϸ:=a.take k++List.replicate (L a - k) jN
def Mr (bl) {k} (a:k<=L bl):L (mV bl k)=L bl:=by simp[mV];omega
theorem Ms {bl} (d:∀ b∈bl,L b=64) {k} (hk):(mV bl k).set k (bl[k]++((mV bl k).getD k []).drop 64)=mV bl (k+1):=by
 have c:((mV bl k).getD k []).drop 64=[]:=by
  unfold mV;rw[fX,hL ό,gp,mi U,kj,List.getElem?_replicate,μ U];rfl
 rw[c,iy];unfold mV;rw[List.set_append_right _ _ ό,jt hk,gP]
 congr 1
 simp only[gp,mi (by omega:k<=L bl),kj];obtain⟨q,a⟩:∃ q,L bl - k=q+1:=⟨L bl - k - 1,U⟩;rw[a,show L bl - (k+1)=q from U,List.replicate_succ];rfl
def Mq (bl):mV bl (L bl)=bl:=by simp[mV]
def yJ (c:ϸ) (w:β) (e:Ending) (d:β):Prop:= ∃ b a,e=ŗ (ā #[D (J ⟨a,0,O⟩) (L c) (L c),D O 0 0])/\hY w.heap.size d b a c/\Below w.heap.size w d
def zh (ba bc) (an:ε) (bl:ϸ) (w:β) (e:Ε w (D ba (L bl) bc) bl) (T:0<L bl) (ae:L bl<=4096) (q:∀ b∈bl,L b=64) :
  Calls prog 120 #[ā #[D ba (L bl) bc,an]] w (yJ bl w):=by
 obtain⟨ap,aq,y,-,B⟩:=mr e;simp only[Χ,ϵ]at y;obtain⟨rfl,rfl⟩:=y;have M:=Zh (fun S=>Ch _ S T ae);have n:=Zh (fun a l=>q bl[a] (Ψ l));have a1:=Zh q;go_enter func120,ntmps120;go_wp2_with fail
 refine(M.o _).M ?_;rintro a0 f ⟨g,d,rfl,hF,V⟩;obtain⟨ag,ah,aI,ao,Z⟩:=fZ V;obtain⟨⟨az,aA⟩,⟨au,f1⟩,-⟩:=ν ag;have ab:=hF.b1;simp only[mh]at ab;have ax:=ς hF.arr;have A:Hid (hY (w.heap.size+1+1) f g d (mV bl 0)):=by
  have:=hF.M (ύ:w.heap.size+1+1<=(å (å w _) _).heap.size);simpa[Hid,mV] using this
 have N:=Zh ah;have X:BQ f (å f (C #[D (J ⟨d,0,O⟩) (L bl) (L bl),D O 0 0] 41)):=ġ;have E:=Zh (Z.t X);go_wp2;go_loopw [14] (fun m wr=>∃ a:Nat,a<=L bl/\m=G (a:Int)/\Hid (hY (w.heap.size+1+1) wr g d (mV bl a))/\Hid (∀ c,c<f.heap.size+1->c≠g->wr.heap[c]?=(å f (C #[D (J ⟨d,0,O⟩) (L bl) (L bl),D O 0 0] 41)).heap[c]?)/\BQ w wr) (fun m _=>L bl - (intOf m).toNat)
 .exact⟨0,Ζ _,rfl,A.o.A _,fun _ _ _=>rfl,E.o⟩
 obtain⟨a,l,rfl,h,k,i⟩:=hrel;have ai:=(k.o _ U U).trans (φ f _);obtain⟨⟨c0,c1⟩,⟨aG,aH⟩,aJ⟩:=ν ai;by_cases j:a<L bl
 .obtain⟨b,off,aE,aF,rfl,s,aj⟩:=B.o a j
  have ad:=n.o a j;have x:=aj.B i;rw[ad]at s x;have ak:(a:Int)<(L bl:Int):=U;have aB:(0:Int)<=(a:Int):=U;have av:=ζ i s;have af:=Mr bl l;have aw:=h.o.cell a U;have⟨P,R⟩:=π x (Ms a1.o j);have aa:=zN h.o.l64;rw[af]at aa;go_wp2_with (refine Rg (o:=⟨J 25,_,_,_,_,_⟩) rfl (.tmp 23) (.tmp 24) rfl g (a*64) 64 64 (mV bl a).flatten h.o.arr rfl _ 64 bl[a] rfl P.o U U ?_;intro am ac W u ay)
  have r:=h.o.copied  U (n.o a j) U ac.o u;rw[R.o]at r;have H:=Zh r;have K:Hid (∀ c,c<f.heap.size+1->c≠g->am.heap[c]?=(å f (C #[D (J ⟨d,0,O⟩) (L bl) (L bl),D O 0 0] 41)).heap[c]?):=fun c al z=>(u c z).trans (k.o c al z);have Y:=i.trans (W.M U);go_roundw
  .exact⟨ _,U,ϕ,H.o,K.o,Y⟩
  exact ω
 .have ak:¬(a:Int)<(L bl:Int):=U
  obtain rfl:a=L bl:=U;have t:=h.o;rw[Mq]at t;have v:=(k.o _ U U).trans ((hM _ _ _ ao).trans N.o);obtain⟨⟨ar,d1⟩,⟨aC,aD⟩,aK⟩:=ν v;have⟨Q,F,I⟩:=ϲ (fS v (D (J ⟨d,0,O⟩) (L bl) (L bl)) (D O 0 0)) (ga i (gu _ 1) (D (J ⟨d,0,O⟩) (L bl) (L bl)) (D O 0 0)) (((t.set (p:=⟨w.heap.size+1,0,O⟩) ύ (D (J ⟨d,0,O⟩) (L bl) (L bl))).set (p:=⟨w.heap.size+1,1,O⟩) ύ (D O 0 0)).M (U:w.heap.size<=w.heap.size+1+1));go_wp2;exact Ω  (jf   rfl _ _ _ _ _ _ _ rfl Q.o qh rfl ϋ) rfl ⟨g,d,rfl,I.o,F.o⟩
def Ig (n:Nat) (w:β) (j:0<n) (o:n<=4096) :
  Calls prog 53 #[G n] w fun e w'=>∃ b a,e=ŗ (.tuple #[ā #[D (J ⟨a,0,O⟩) n n,D O 0 0],G 0])/\hY w.heap.size w' b a (List.replicate n jN)/\BQ w w':=by
 have g:=Zh (fun i=>Ch n i j o);have r:¬(n:Int)<0:=U;have s:¬(4096:Int)<(n:Int):=U;go_enter func53,ntmps53;go_wp2_with fail
 refine(g.o _).M ?_;rintro e v ⟨b,a,rfl,hF,k⟩;obtain⟨c,x,l⟩:=fO k;obtain⟨⟨t,u⟩,⟨q,f1⟩,-⟩:=ν c;have⟨h,d⟩:=π (fS c (D (J ⟨a,0,O⟩) n n) (D O 0 0)) (ga l NZ (D (J ⟨a,0,O⟩) n n) (D O 0 0));have m:=hF.b1;simp only[mh]at m;have f:=Zh (((hF.set (p:=⟨w.heap.size,0,O⟩) ύ (D (J ⟨a,0,O⟩) n n)).set (p:=⟨w.heap.size,1,O⟩) ύ (D O 0 0)).M (ύ:w.heap.size<=_));go_wp2;exact Ω  (gz    rfl _ _ _ _ _ _ _ rfl h.o qh rfl ϋ) rfl ⟨b,a,rfl,f.o,d.o⟩
theorem Kf (x y:ε) (a:x.oneCell'=true) (b:y.oneCell'=true):∀ w:β,(Instr.field 41 (ā #[x,y]) 0).run prog w=.ok x w:=fun _=>by
 cases x<;>cases a<;>cases y<;>cases b<;>kernel_rfl
def Ci (ba bc wa wc) (m:ϸ) (n:ht) (w:β) (f:Ε w (D ba (L m) bc) m) (j:iu w (D wa (L n) wc) n) (i:jg m n) :
  Calls prog 109 #[ā #[D ba (L m) bc,D wa (L n) wc]] w fun e w'=>e=ŗ (G (L m))/\BQ w w':=by
 have d:=Zh (fun a (b:BQ w a)=>uF ba _ bc wa _ wc m n a (f.B b) (j.B b) i);have c:BQ w (å w (C #[D ba (L m) bc,D wa (L n) wc] 41)):=ġ;have k:=Kf (D ba (L m) bc) (D wa (L n) wc) rfl rfl;go_enter func109,ntmps109;go_wp2_with fail
 refine(d.o _ c).M ?_;rintro e l ⟨rfl,g⟩;have h:=c.t g;go_wp2;go_ret;exact⟨rfl,h⟩
def zg (i ba bc wa wc) (bl:ϸ) (w:β) (hi:i<L bl) (j:Ε w (D ba (L bl) bc) bl) (T:L bl<=4096) (h:∀ b∈bl,L b=64) :
  Calls prog 187 #[ā #[D ba (L bl) bc,D wa 0 wc],G i] w fun e w'=>∃ g,e=ŗ (.tuple #[D (J ⟨g,0,O⟩) 64 64,G 0])/\Μ w.heap.size w' (D (J ⟨g,0,O⟩) 64 64) 64 (bl.getD i [])/\BQ w w':=by
 have H:jg bl []:=⟨T,ύ,h,ύ⟩;have M:∀ a,iu a (D wa 0 wc) []:=fun a=>⟨[],⟨rfl,Ζ _,.inl ⟨_,_,rfl,rfl⟩⟩,fun Y E=>by simp at E⟩;have s:=Zh (fun a (d:BQ w a)=>uF ba _ bc wa 0 wc bl _ a (j.B d) (M a) H);have v:BQ w (å w (C #[D ba (L bl) bc,D wa 0 wc] 41)):=ġ;obtain⟨a0,a1,n,-,o⟩:=mr j;simp only[Χ,ϵ]at n;obtain⟨rfl,rfl⟩:=n;obtain⟨b,off,R,S,rfl,k,m⟩:=o.o i hi;have F:=h bl[i] (Ψ hi);rw[F]at k m;have B:bl.getD i []=bl[i]:=by rw[fX,Ρ hi];rfl
 rw[B];have p:=Zh (fun a (d:BQ w a)=>zf _ bl[i] a (m.B d));have q:=Zh (fun a (d:BQ w a)=>ζ d k);have W:(0:Int)<=(i:Int):=U;have X:(i:Int)<(L bl:Int):=U;go_enter func187,ntmps187;go_wp2_with fail
 refine(s.o _ v).M ?_;rintro e Q ⟨rfl,x⟩;obtain⟨l,aa,A⟩:=fO x;obtain⟨⟨N,P⟩,⟨u,f1⟩,-⟩:=ν l;have K:=fS l (D (J ⟨b,off,O⟩) (L bl) bc) (D wa 0 wc);have f:=ga A NZ (D (J ⟨b,off,O⟩) (L bl) bc) (D wa 0 wc);have V:=q.o _ f;go_upto_region 2 with fail
 generalize ŝ (ŝ Q _ _) _ _=t at *;obtain⟨⟨N,P⟩,⟨u,f1⟩,-⟩:=ν K;go_wp2;go_loopw [6,28] (fun c i wr=>c=D R 64 S/\i=G 0/\wr=t) (fun _ _ _=>0)
 .exact⟨rfl,rfl,rfl⟩
 obtain⟨rfl,rfl,rfl⟩:=hrel;go_wp2_with fail
 refine(p.o _ f).M ?_;rintro e Z ⟨g,rfl,I,y⟩;have r:=Zh (I.M f.size);have z:=f.t y;go_wp2;go_ret2;exact⟨g,rfl,r.o,z⟩
def Qf {bl ws k} (hk):kh bl ws (k+1)=(kh bl ws k).set ws[k].1 ws[k].2:=by
 rw[kh,Ρ hk]
def Jl {ks bl ws k} (hk):kZ ks bl ws (k+1)=(kZ ks bl ws k).set ws[k].1 (jn (jb ks k) ws[k].2 ((kZ ks bl ws k).getD ws[k].1 [])):=by
 rw[kZ,Ρ hk]
def Ck (ba bc wa wc) (bl:ϸ) (ws:ht) (w:β) (F:Ε w (D ba (L bl) bc) bl) (K:iu w (D wa (L ws) wc) ws) (m:jg bl ws) (ap:0<L bl) :
  Calls prog 63 #[ā #[D ba (L bl) bc,D wa (L ws) wc]] w (yJ (gB bl ws) w):=by
 have an:=Zh (fun i (o:BQ w i)=>uF ba _ bc wa _ wc bl ws i (F.B o) (K.B o) m);have al:=Zh (fun i (o:BQ w i)=>zh ba bc (D wa (L ws) wc) bl i (F.B o) ap m.nb m.lb);obtain⟨a1,a2,T,HW⟩:=yg K;simp only[Χ,ϵ]at T;obtain⟨rfl,rfl⟩:=T;have ag:=Zh (fun c H=>m.lw ws[c] (Ψ H));have aR:=m.nw;have ar:BQ w (å (å w (C #[D ba (L bl) bc,D wa (L ws) wc] 41)) (C #[D O 0 0,D O 0 0] 41)):=ġ.A ύ _;go_enter func63,ntmps63;go_wp2_with fail
 refine(an.o _ ar).M ?_;rintro e X ⟨rfl,au⟩;obtain⟨M,aE,a5,a6,aA⟩:=fZ au;obtain⟨⟨V,W⟩,⟨B,f1⟩,-⟩:=ν M;have N:=fS M (D ba (L bl) bc) (D wa (L ws) wc);have Q:=(jH X w.heap.size _ U (D ba (L bl) bc) (D wa (L ws) wc)).trans aE;have b:=ga aA NZ (D ba (L bl) bc) (D wa (L ws) wc);go_upto_region 2 with fail
 generalize ŝ (ŝ X _ _) _ _=n at *;obtain⟨⟨V,W⟩,⟨B,f1⟩,a9⟩:=ν N;obtain⟨-,-,bb⟩:=ν Q;go_wp2_with fail
 refine(al.o n b).M ?_;rintro e f ⟨j,d,rfl,hF,q⟩;have aP:=hF.b1;have aQ:=ς hF.arr;have P:=θ N q;obtain⟨⟨V,W⟩,⟨B,f1⟩,bd⟩:=ν P;have aT:=q.size;have aa:Hid (hY n.heap.size (å f (C #[D (J ⟨d,0,O⟩) (L bl) (L bl),D O 0 0] 41)) j d (kh bl ws 0)):=hF.A _;have ax:BQ f (å f (C #[D (J ⟨d,0,O⟩) (L bl) (L bl),D O 0 0] 41)):=ġ;have av:=b.t q;obtain⟨Y,aM,ai⟩:=ϲ (av.t ax) P (θ Q q);go_wp2;go_loopw [13] (fun z wr=>∃ c:Nat,c<=L ws/\z=G (c:Int)/\Hid (hY n.heap.size wr j d (kh bl ws c))/\Hid (∀ a,a<f.heap.size+1->a≠j->wr.heap[a]?=(å f (C #[D (J ⟨d,0,O⟩) (L bl) (L bl),D O 0 0] 41)).heap[a]?)/\BQ w wr) (fun z _=>L ws - (intOf z).toNat)
 .exact⟨0,Ζ _,rfl,aa.o,fun _ _ _=>rfl,Y.o⟩
 obtain⟨c,H,rfl,A,t,l⟩:=hrel;have aG:=(t.o _ U U).trans (φ f _);obtain⟨⟨c0,c1⟩,⟨a3,a4⟩,a7⟩:=ν aG;have aD:=tM bl ws c;by_cases y:c<L ws
 .obtain⟨b1,off,da,dc,rfl,aK,aL,aH⟩:=HW.o c y
  obtain⟨p1,p2⟩:=ag.o c y;have aI:(c:Int)<(L ws:Int):=U;have aW:(0:Int)<=(c:Int):=U;have aX:=ζ l aK;have l1:=ζ l aL;have S:=aH.B l;rw[p2]at l1 S;obtain⟨aj,am,ah⟩:=ϲ (S.B ((ρ _ wr).A NZ (C #[G ws[c].1,D da 64 dc] 84))) (Qf (bl:=bl) y) p2;generalize ws[c].1=g at *;generalize ws[c].2=v at *;have x:BQ wr (å wr (C #[G g,D da 64 dc] 84)):=ġ;have k:=Zh (A.o.A (C #[G g,D da 64 dc] 84));have az:=l.t x;have ao:=k.o.cell g U;have aU:(0:Int)<=(g:Int):=U;have aV:(g:Int)<(L bl:Int):=U;have aO:=zN k.o.l64;have ae:Hid (∀ a,a<f.heap.size+1->a≠j->(å wr (C #[G g,D da 64 dc] 84)).heap[a]?=(å f (C #[D (J ⟨d,0,O⟩) (L bl) (L bl),D O 0 0] 41)).heap[a]?):=fun a r s=>(x.block a U).trans (t.o a r s);have aN:=ζ x c0;go_wp2_with fail
  have aF:=φ wr (C #[G g,D da 64 dc] 84);generalize(å wr _)=u at *;obtain⟨⟨aY,r⟩,-,-⟩:=ν aF;have h:u.drew=u.drew:=rfl;refine ϯ (fun i=>i=u.drew) 8 ϋ ?_;refine Zf 0 h ?_;refine Zb 1 [4,5,8] h ?_;refine Zf 2 h ?_;refine Zb 3 [4,5,8] h ?_;refine Zf 4 h ?_;refine Zk 5 h ?_;refine Zf 6 h ?_;refine Zk 7 h ?_;refine jF (fuel:=0) ϋ ϋ rfl ?_;intro b0 aq;refine AT rfl _ _ rfl j (g*64) 64 64 _ k.o.arr ϔ _ _ v ϔ aj.o U U ?_;intro aJ aC aw I aS;refine aq _ _ ?_;refine Zd ?_;have E:=k.o.copied  U ah.o U aC.o I;rw[show v++((kh bl ws c).getD g []).drop 64=v from by rw[mg (by rw[k.o.l64 _ (qI _ _ _ U)];exact NZ),iy],<-am.o]at E;have ab:=Zh E;have ad:Hid (∀ a,a<f.heap.size+1->a≠j->aJ.heap[a]?=(å f (C #[D (J ⟨d,0,O⟩) (L bl) (L bl),D O 0 0] 41)).heap[a]?):=fun a r s=>(I a s).trans (ae.o a r s);have ay:=az.drew.trans (aw.M U);go_wp2_with fail
  go_roundw
  .exact⟨ _,U,ϕ,ab.o,ad.o,ay⟩
  exact ω
 .have aI:¬(c:Int)<(L ws:Int):=U
  obtain rfl:c=L ws:=U;have aB:=A.o;have R:=(t.o _ U U).trans ((hM _ _ _ U).trans ai.o);obtain⟨⟨ao,d1⟩,⟨aZ,a0⟩,a8⟩:=ν R;obtain⟨ak,Z,ac,af⟩:=hV (fS R (D (J ⟨d,0,O⟩) (L bl) (L bl)) (D O 0 0)) (ga l (gu _ 1) (D (J ⟨d,0,O⟩) (L bl) (L bl)) (D O 0 0)) (((aB.set (p:=⟨ _,0,O⟩) ϑ (D (J ⟨d,0,O⟩) (L bl) (L bl))).set (p:=⟨ _,1,O⟩) ϑ (D O 0 0)).M (U:w.heap.size<=n.heap.size)) aD;go_wp2;exact Ω  (jf   rfl _ _ _ _ _ _ _ rfl ak.o qh rfl ϋ) rfl ⟨j,d,by rw[show(L (gB bl ws))=L bl from af.o],ac.o,Z.o⟩
def If (ag:ε) (ks ba bc wa wc) (bl:ϸ) (ws:ht) (w:β) (R:Ε w (D ba (L bl) bc) bl) (ad:iu w (D wa (L ws) wc) ws) (r:jg bl ws) (e:0<L bl) (aS:Rd w ag (L ks) 1 (τ ks)) :
  Calls prog 61 #[ā #[D ba (L bl) bc,D wa (L ws) wc],ag] w (yJ (iB ks bl ws) w):=by
 have aD:=Zh (fun m (x:BQ w m)=>uF ba _ bc wa _ wc bl ws m (R.B x) (ad.B x) r);have az:=Zh (fun m (x:BQ w m)=>zh ba bc (D wa (L ws) wc) bl m (R.B x) e r.nb r.lb);obtain⟨bv,bw,j,HW⟩:=yg ad;simp only[Χ,ϵ]at j;obtain⟨rfl,rfl⟩:=j;have aw:=Zh (fun a K=>r.lw ws[a] (Ψ K));have bh:=r.nw;have aI:BQ w (å (å w (C #[D ba (L bl) bc,D wa (L ws) wc] 41)) (C #[D O 0 0,D O 0 0] 41)):=ġ.A ύ _;obtain⟨a0,bn,rfl,bf,ar⟩:=ku rfl aS;go_enter func61,ntmps61;go_wp2_with fail
 refine(aD.o _ aI).M ?_;rintro b1 ai ⟨rfl,aJ⟩;obtain⟨X,aW,bA,bB,aO⟩:=fZ aJ;obtain⟨⟨ae,af⟩,⟨P,f1⟩,-⟩:=ν X;have Y:=fS X (D ba (L bl) bc) (D wa (L ws) wc);have aa:=(jH ai w.heap.size _ U (D ba (L bl) bc) (D wa (L ws) wc)).trans aW;have S:=ga aO NZ (D ba (L bl) bc) (D wa (L ws) wc);go_upto_region 2 with fail
 generalize ŝ (ŝ ai _ _) _ _=u at *;obtain⟨⟨ae,af⟩,⟨P,f1⟩,bE⟩:=ν Y;obtain⟨-,-,bF⟩:=ν aa;go_wp2_with fail
 refine(az.o u S).M ?_;rintro b1 k ⟨o,i,rfl,hF,y⟩;have bd:=hF.b1;have be:=ς hF.arr;have Z:=θ Y y;obtain⟨⟨ae,af⟩,⟨P,f1⟩,bG⟩:=ν Z;have bj:=y.size;have am:Hid (hY u.heap.size (å k (C #[D (J ⟨i,0,O⟩) (L bl) (L bl),D O 0 0] 41)) o i (kZ ks bl ws 0)):=hF.A _;have aM:BQ k (å k (C #[D (J ⟨i,0,O⟩) (L bl) (L bl),D O 0 0] 41)):=ġ;have aK:=S.t y;obtain⟨aj,a7,ax⟩:=ϲ (aK.t aM) Z (θ aa y);go_wp2;go_loopw [16] (fun l wr=>∃ a:Nat,a<=L ws/\l=G (a:Int)/\Hid (hY u.heap.size wr o i (kZ ks bl ws a))/\Hid (∀ d,d<k.heap.size+1->d≠o->wr.heap[d]?=(å k (C #[D (J ⟨i,0,O⟩) (L bl) (L bl),D O 0 0] 41)).heap[d]?)/\BQ w wr) (fun l _=>L ws - (intOf l).toNat)
 .exact⟨0,Ζ _,rfl,am.o,fun _ _ _=>rfl,aj.o⟩
 obtain⟨a,K,rfl,N,E,q⟩:=hrel;have aY:=(E.o _ U U).trans (φ k _);obtain⟨⟨c0,c1⟩,⟨bx,bz⟩,bC⟩:=ν aY;have aU:=zw ks bl ws a;by_cases M:a<L ws
 .obtain⟨b,off,da,dc,rfl,a4,a5,aZ⟩:=HW.o a M
  obtain⟨p1,p2⟩:=aw.o a M;have a1:(a:Int)<(L ws:Int):=U;have bo:(0:Int)<=(a:Int):=U;have br:=ζ q a4;have l1:=ζ q a5;have ac:=aZ.B q;rw[p2]at l1 ac;obtain⟨F,aA,a6⟩:=ϲ (ac.B ((ρ _ wr).A NZ (C #[G ws[a].1,D da 64 dc] 84))) (Jl (ks:=ks) (bl:=bl) M) p2;generalize ws[a].1=f at *;generalize ws[a].2=v at *;have H:BQ wr (å wr (C #[G f,D da 64 dc] 84)):=ġ;have t:=Zh (N.o.A (C #[G f,D da 64 dc] 84));have T:=q.t H;have aG:=t.o.cell f U;have bk:(0:Int)<=(f:Int):=U;have bm:(f:Int)<(L bl:Int):=U;have bb:=zN t.o.l64;have aq:Hid (∀ d,d<k.heap.size+1->d≠o->(å wr (C #[G f,D da 64 dc] 84)).heap[d]?=(å k (C #[D (J ⟨i,0,O⟩) (L bl) (L bl),D O 0 0] 41)).heap[d]?):=fun d z A=>(H.block d U).trans (E.o d z A);have a8:=ζ H c0
  go_upto_if 24 with fail
  have aX:=φ wr (C #[G f,D da 64 dc] 84);have au:Hid (∀ l (hi:l<L ks),∃ b off,a0=J ⟨b,off,O⟩/\(å wr (C #[G f,D da 64 dc] 84)).cell? ⟨b,off+l,O⟩=J (G ks[l])):=fun l hi=>by
   obtain⟨b2,ah,rfl,g⟩:=ar.o l hi;exact⟨b2,ah,rfl,ζ T g⟩
  generalize(å wr _)=aE at *;obtain⟨⟨bs,z⟩,-,-⟩:=ν aX;go_cut [8] (fun a2 wc=>a2=G ((jb ks a:Nat):Int)/\wc=aE)
  case first =>
   by_cases V:a<L ks
   .obtain⟨b2,ah,rfl,g⟩:=au.o a V
    have bp:(a:Int)<(L ks:Int):=U;have I:((jb ks a:Nat):Int)=min (max ks[a] 0) 64:=by
     unfold jb;rw[Ρ V];simp only;omega
    have B:=Zh I;generalize ks[a]=bq at *;go_wp2;go_meet;case rel=>exact⟨by rw[B.o],rfl⟩
   .have I:((jb ks a:Nat):Int)=0:=by
     unfold jb;rw[ls U];rfl
    have B:=Zh I;go_wp2;go_meet;case rel=>exact⟨by rw[B.o],rfl⟩
  case rest =>
  obtain⟨rfl,rfl⟩:=hcut;have aV:jb ks a<=64:=by
   unfold jb;split<;>omega
  have aC:Hid (Rd wc (D da (jb ks a) dc) (jb ks a) 1 (η (v.take (jb ks a)))):=by
   have h:=F.o;obtain⟨-,-,⟨aF,c,j,e⟩|⟨b3,s,c,j,-,-⟩⟩:=h
   .omega
   .simp only[Χ,ϵ]at j
    obtain⟨rfl,rfl⟩:=j;exact vA F.o aV
  have aP:∃ b3 s,da=J ⟨b3,s,O⟩/\64<=dc:=by
   obtain⟨-,-,⟨aF,c,j,e⟩|⟨b3,s,c,j,-,aT,-⟩⟩:=F.o
   .omega
   .simp only[Χ,ϵ]at j
    obtain⟨rfl,rfl⟩:=j;exact⟨b3,s,rfl,aT⟩
  obtain⟨b3,s,rfl,a9⟩:=aP;have al:Hid (L (v.take (jb ks a))=jb ks a):=by show _=_;simp;omega
  have aB:Hid (v.take (jb ks a)++((kZ ks bl ws a).getD f []).drop (jb ks a)=jn (jb ks a) v ((kZ ks bl ws a).getD f [])):=rfl;generalize jb ks a=n at *;have bg:n<=dc:=U;go_wp2_with fail
  refine ϯ (fun m=>m=wc.drew) 10 ϋ ?_;refine Zf 0 rfl ?_;refine Zb 1 [4,5,10] rfl ?_;refine Zf 2 rfl ?_;refine Zb 3 [4,5,10] rfl ?_;refine Zf 4 rfl ?_;refine Zk 5 rfl ?_;refine Zf 6 rfl ?_;refine Zb 7 [9,10] rfl ?_;refine Zf 8 rfl ?_;refine Zf 9 rfl ?_;refine jF (fuel:=0) ϋ ϋ rfl ?_;intro b0 aH;refine AT rfl _ _ rfl o (f*64) 64 64 _ t.o.arr ϔ _ n _ ϔ aC.o U U ?_;intro a3 aR aL W bi;refine aH _ _ ?_;refine Zd ?_;have Q:=t.o.copied  U al.o U aR.o W;rw[aB.o,<-aA.o]at Q;have an:=Zh Q;have ap:Hid (∀ d,d<k.heap.size+1->d≠o->a3.heap[d]?=(å k (C #[D (J ⟨i,0,O⟩) (L bl) (L bl),D O 0 0] 41)).heap[d]?):=fun d z A=>(W d A).trans (aq.o d z A);have aN:=T.drew.trans (aL.M U);go_wp2_with fail
  go_roundw
  .exact⟨ _,U,ϕ,an.o,ap.o,aN⟩
  exact ω
 .have a1:¬(a:Int)<(L ws:Int):=U
  obtain rfl:a=L ws:=U;have aQ:=N.o;have ab:=(E.o _ U U).trans ((hM _ _ _ U).trans ax.o);obtain⟨⟨aG,d1⟩,⟨bt,bu⟩,bD⟩:=ν ab;obtain⟨ay,ak,ao,av⟩:=hV (fS ab (D (J ⟨i,0,O⟩) (L bl) (L bl)) (D O 0 0)) (ga q (gu _ 1) (D (J ⟨i,0,O⟩) (L bl) (L bl)) (D O 0 0)) (((aQ.set (p:=⟨ _,0,O⟩) ϑ (D (J ⟨i,0,O⟩) (L bl) (L bl))).set (p:=⟨ _,1,O⟩) ϑ (D O 0 0)).M (U:w.heap.size<=u.heap.size)) aU;go_wp2;exact Ω  (jf   rfl _ _ _ _ _ _ _ rfl ay.o qh rfl ϋ) rfl ⟨o,i,by rw[show(L (iB ks bl ws))=L bl from av.o],ao.o,ak.o⟩
def lD {P ops o} {a:Act} {w:β} {K:Act->β->Prop} {Q:Exit->Act->β->Prop} {E} (r:o.guard=O) (s x t tx)
  (u:o.op=.call {callee:=.builtin .append,args:= #[s,x],argTypes:= #[t,tx]})
  (base) (e) (i:TypeInfo) (z:ε) (size bytes) (H:P.underlying t=J (.slice e)) (W:P.info? e=J i) (N:i.zero=J z)
  (F:i.size=size) (p:i.bytes=bytes) (R:z.cells.size=size)
  (v:ε) (n) (V:List ε) (B:a.eval s=v) (y:w.ownsRow base e size v n V)
  (d:ε) (m) (c:List ε) (M:a.eval x=d) (T:Src P size tx d m c w)
  (k:n+m<=maxLen) (q:(n+m)*bytes<=140737488355328) (l:base<=w.heap.size)
  (h:∀ b w',w'.ownsRow base e size b (n+m) (V++c)->w.grownBy w' v.ownBlock->(b.ownBlock=v.ownBlock\/b.ownBlock=J w.heap.size)->K (a.put o.dst b) w') :
  if Region.wanted o (yielded ops a.tmps)=true then Oper.wp P o a w K Q else E:=by
 have I:Region.wanted o (yielded ops a.tmps)=true:=by simp[Region.wanted,r]
 rw[μ I];obtain⟨b,w',A,f,g,j,S⟩:=tD  w base t tx o.type e i z size bytes H W N F p R v n V y d m c T k q l;unfold Oper.wp execOp;simp only[u,resolve,invoke,builtin,Sem.run_bind,Sem.run_pure,pH,qs,ij,jQ,B,M,A];exact h b w' f g j
def Α.of_ownB {base lo} {v a:ε} {w:β} {n} {l:γ} (h:Μ lo w a n l) (b:base<=lo) (c:∀ g,v.ownBlock=J g->g<lo):Α (kJ base v) w (fun d=>Rd d a (L l) 1 (η l)):=by
 rw[h.1];exact h.hi.rowH b c
def kK (f:Nat) (w:β) (v:ε) (g:ht):Prop:= ∃ b,w.ownsRow f 84 2 v (L g) b/\(∀ a (d:a<L g),b[a*2]?=J (G g[a].1)) /\
 Α (kJ f v) w (fun e=>∀ a (d:a<L g),∃ c,b[a*2+1]?=J c/\Rd e c (L g[a].2) 1 (η g[a].2))
def kK.nil (w base):kK base w (D O 0 0) []:=⟨[],gQ w base _ 2,fun b a=>by simp at a,fun _ _ b a=>by simp at a⟩
def kK.hi {base w v ws} (h:kK base w v ws):Hi base w (fun c=>iu c v ws):=by
 obtain⟨d,e,f,i⟩:=h;refine(i.rowHi e).imp fun c g=>⟨d,g.2,fun b a=>⟨f b a,g.1 b a⟩⟩
def kK.B {base w w' v ws} (h:kK base w v ws) (a:BQ w w'):kK base w' v ws:=by
 obtain⟨b,c,d,e⟩:=h;exact⟨b,ψ c a,d,e.B a⟩
def kK.set {base w v ws} (h:kK base w v ws) {p} (a:p.block<base) (x:ε):kK base (ŝ w p x) v ws:=by
 obtain⟨b,c,d,e⟩:=h;exact⟨b,hR c a x,d,e.set (.inl a) x⟩
theorem kK.snoc {base} {w t:β} {v f e:ε} {s:ht} {a:List ε} {h:Nat} {b:γ} (p:w.ownsRow base 84 2 v (L s) a) (n:∀ k (c:k<L s),a[k*2]?=J (G s[k].1))
  (m:Α (kJ base v) w (fun g=>∀ k (c:k<L s),∃ u,a[k*2+1]?=J u/\Rd g u (L s[k].2) 1 (η s[k].2)))
  (o:Α (kJ base v) w (fun g=>Rd g e (L b) 1 (η b))) (q:t.ownsRow base 84 2 f (L s+1) (a++[G h,e])) (x:w.grownBy t v.ownBlock) (r:f.ownBlock=v.ownBlock\/f.ownBlock=J w.heap.size):kK base t f (s++[(h,b)]):=by
 have i:=p.1;refine⟨a++[G h,e],by simpa using q,fun k c=>?_,((m.and o).grown x r).imp fun g ⟨j,l⟩ k c=>?_⟩
 .by_cases d:k<L s
  .rw[je U,qm d];exact n k d
  .have:k=L s:=by simp at c;omega
   subst this;rw[hL U,i,kj];simp
 .by_cases d:k<L s
  .rw[je U]
   simp only[qm d];exact j k d
  .have:k=L s:=by simp at c;omega
   subst this;refine⟨e,?_,by simpa using l⟩;rw[hL U,i,show L s*2+1 - L s*2=1 from U];rfl
def re (l:γ):γ:=(Θ l).headD []
def Qm (v:ε) (l:γ) (w:β) (r:ϭ w) (h:Rd w v (L l) 1 (η l)) (m:L l<=100000) :
  Calls prog 161 #[v] w fun e w'=>e=ŗ (š (δ (re l)))/\Below w.heap.size w w':=by
 have j:=Ba v l w r h m;have y:=tN l;have q:re l=(Θ l).headD []:=rfl;generalize Θ l=a at *;have⟨g,f⟩:=π j q;cases a with
 |nil =>
  go_enter func161,ntmps161;go_wp2_with (go_at_call 199;refine g.o.M ?_;rintro e t ⟨s,rfl,c,d⟩;obtain⟨u,c1,rfl⟩:=Η c)
  go_ret;exact⟨by rw[f.o];rfl,d⟩
 |cons b a =>
  have A:((L (b::a):Int)==0)=false:=fU.2 (by simp only[ϥ];omega);have z:(0:Int)<(L (b::a):Int):=by simp only[ϥ];omega
  have k:Hid (χ (b::a)=š (δ b)::χ a):=rfl;generalize o:L (b::a)=n at *;have p:0<n:=by simp only[ϥ]at o;omega
  go_enter func161,ntmps161;go_wp2_with (go_at_call 199;refine g.o.M ?_;rintro e t ⟨s,rfl,c,d⟩;obtain⟨x,c1,rfl⟩:=kO c p;have i:=c.cellAt 0 U;rw[k.o]at i;simp only[pB]at i)
  go_ret;exact⟨by rw[f.o];rfl,d⟩
structure El where
 kind:Int
 pos:Int
 term:γ
def lg (l:List El):List ε:=l.flatMap fun s=>[G s.kind,G s.pos,š (δ s.term)]
def zF (xs ys):lg (xs++ys)=lg xs++lg ys:=by simp[lg]
def DE:(prog.info? 177).map (fun i=>(i.zero,i.size,i.bytes))=J (J (ā #[G 0,G 0,š ByteArray.empty]),3,32):=ϋ
structure EM (w:β) (B:Nat) (v l:ε) (pos st:Int):Prop where
 b0:w.heap[B]?=J (C #[v] 31 (0,0))
 b1:w.heap[B+1]?=J (C #[l] 171 (0,0))
 b2:w.heap[B+1+1]?=J (C #[G pos] 3 (0,0))
 b3:w.heap[B+1+1+1]?=J (C #[G st] 3 (0,0))
def EM.B {w b:β} {B v l pos st} (h:EM w B v l pos st) (a:Below w.heap.size w b):EM b B v l pos st:=
 ⟨by rw[a.block _ (ς h.b0)];exact h.b0,by rw[a.block _ (ς h.b1)];exact h.b1,by rw[a.block _ (ς h.b2)];exact h.b2,by rw[a.block _ (ς h.b3)];exact h.b3⟩
def EM.A {w B v l pos st} (h:EM w B v l pos st) (o):EM (å w o) B v l pos st:=h.B (RZ.A NZ o)
def EM.grown {w o:β} {B base} {v l u:ε} {pos st n} {q:List ε} (h:EM w B v l pos st) (j:w.ownsRow base 177 3 u n q) (p:w.grownBy o u.ownBlock):EM o B v l pos st:=by
 have c:∀ (b:Nat) (f:Array ε) (d:TypeId),d≠177->w.heap[b]?=J (Obj.cells f d (0,0))->o.heap[b]?=J (Obj.cells f d (0,0)):=by
  intro b f d k a;rw[p.block b (ς a) (fun e=>?_)]
  .exact a
  .rcases j.2 with ⟨rfl,_⟩|⟨g,m,cur,rfl,_,i,_⟩
   .simp[Value.ownBlock]at e
   .simp only[Value.ownBlock,Φ]at e
    subst e;rw[i]at a;simp only[Φ,Obj.cells.injEq]at a;exact k a.2.1.symm
 exact⟨c _ _ _ ϐ h.b0,c _ _ _ ϐ h.b1,c _ _ _ ϐ h.b2,c _ _ _ ϐ h.b3⟩
def EM.set1 {w B v l pos st} (h:EM w B v l pos st) (a:ε):EM (ŝ w ⟨B+1,0,O⟩ a) B v a pos st:=
 ⟨by rw[nO _ _ _ _ ϑ];exact h.b0,one_setCell h.b1,by rw[nO _ _ _ _ ϑ];exact h.b2,by rw[nO _ _ _ _ ϑ];exact h.b3⟩
def EM.set2 {w B v l pos st} (h:EM w B v l pos st) (q):EM (ŝ w ⟨B+1+1,0,O⟩ (G q)) B v l q st:=
 ⟨by rw[nO _ _ _ _ ϑ];exact h.b0,by rw[nO _ _ _ _ ϑ];exact h.b1,one_setCell h.b2,by rw[nO _ _ _ _ ϑ];exact h.b3⟩
def EM.set3 {w B v l pos st} (h:EM w B v l pos st) (q):EM (ŝ w ⟨B+1+1+1,0,O⟩ (G q)) B v l pos q:=
 ⟨by rw[nO _ _ _ _ ϑ];exact h.b0,by rw[nO _ _ _ _ ϑ];exact h.b1,by rw[nO _ _ _ _ ϑ];exact h.b2,one_setCell h.b3⟩
def EM.own_ne {w B base} {v l u:ε} {pos st n} {q:List ε} (h:EM w B v l pos st) (m:w.ownsRow base 177 3 u n q) (j) (k:j<=3):u.ownBlock≠J (B+j):=by
 have a:∀ (c:Nat) (f:Array ε) (d:TypeId),d≠177->w.heap[c]?=J (Obj.cells f d (0,0))->u.ownBlock≠J c:=by
  intro c f d o b e;rcases m.2 with ⟨rfl,_⟩|⟨g,p,cur,rfl,_,i,_⟩
  .simp[Value.ownBlock]at e
  .simp only[Value.ownBlock,Φ]at e
   subst e;rw[i]at b;simp only[Φ,Obj.cells.injEq]at b;exact o b.2.1.symm
 match j,k with
 |0,_=>exact a _ _ _ ϐ h.b0
 |1,_=>exact a _ _ _ ϐ h.b1
 |2,_=>exact a _ _ _ ϐ h.b2
 |3,_=>exact a _ _ _ ϐ h.b3
def Kg (B v l pos st w) (h:EM w B v l pos st) (b:st<0) :
  Calls prog 160 #[þ (J ⟨B+1+1+1,0,O⟩),þ (J ⟨B+1,0,O⟩),þ (J ⟨B,0,O⟩),þ (J ⟨B+1+1,0,O⟩)] w fun e w'=>e=ŗ (.tuple #[])/\w=w':=by
 have a:=jO h.b3;go_enter func160,ntmps160;go_wp2
 go_end0
 exact⟨rfl,rfl⟩
structure gK (B:Nat) (w w':β):Prop where
 os:w'.os=w.os
 tape:w'.tape=w.tape
 output:w'.output=w.output
 size:w.heap.size<=w'.heap.size
 low:∀ k,k<B->w'.heap[k]?=w.heap[k]?
 high:∀ k o,B+3<k->w.heap[k]?=J o->(∀ cs fr,o≠C cs 177 fr)->w'.heap[k]?=J o
def gK.refl (B w):gK B w w:=⟨rfl,rfl,rfl,NZ,fun _ _=>rfl,fun _ _ _ h _=>h⟩
def gK.trans {B a b c} (h:gK B a b) (k:gK B b c):gK B a c:=
 ⟨k.os.trans h.os,k.tape.trans h.tape,k.output.trans h.output,gj h.size k.size,fun d hi=>(k.low d hi).trans (h.low d hi),fun d o hi f e=>k.high d o hi (h.high d o hi f e) e⟩
def gK.of_below {B} {w e:β} (h:Below w.heap.size w e) (c:B<=w.heap.size):gK B w e:=
 ⟨h.os,h.tape,h.output,h.size,fun a d=>h.block a U,fun a o _ b _=>by rw[h.block a (ς b)];exact b⟩
def gK.B {B w w'} (h:gK B w w'):Below B w w':=⟨h.os,h.tape,h.output,h.size,h.low⟩
def gK.set {B j} (w) (u:ε) (d:B<=j) (e:j<=B+3):gK B w (ŝ w ⟨j,0,O⟩ u):=
 ⟨rfl,rfl,rfl,by simp[World.setCell],fun c a=>nO _ _ _ _ ϑ,fun c o a b _=>by rw[nO _ _ _ _ ϑ];exact b⟩
def gK.grown {B w w'} {v:ε} {n} {k:List ε} (c:w.ownsRow B 177 3 v n k) (h:w.grownBy w' v.ownBlock) (j:B<=w.heap.size):gK B w w':=by
 refine⟨h.os,h.tape,h.output,h.size,fun b d=>?_,fun b o d a f=>?_⟩
 .refine h.block b U (fun e=>?_)
  have:=(c.lt b e.symm).1;omega
 .rw[h.block b (ς a) (fun e=>?_)]
  .exact a
  .rcases c.2 with ⟨rfl,_⟩|⟨g,i,cur,rfl,_,hg,_⟩
   .simp[Value.ownBlock]at e
   .simp only[Value.ownBlock,Φ]at e
    subst e;rw[hg]at a;exact f cur _ (lq a).symm
def wl (a:Nat) (v:ε) (b:List El) (f:Int) (w:β) (e:Ending) (d:β):Prop:=
 e=ŗ (.tuple #[])/\∃ c,EM d a v c f (-1)/\d.ownsRow a 177 3 c (L b) (lg b)/\gK a w d
def Kh (B bb boff n c l els) (m:γ) (s p:Nat) (w:β) (Z:ϭ w) (h:EM w B (D (J ⟨bb,boff,O⟩) n c) l p s) (af:B+3<w.heap.size)
  (Y:w.ownsRow B 177 3 l (L els) (lg els)) (o:∀ i (hi:i<L m),w.cell? ⟨bb,boff+i,O⟩=J (ĭ .u8 (ch m[i]))) (ag:bb<B) (ai:L m=n) (ak:n<=c) (X:c<=maxLen) (am:s<p) (al:p<=n) (aj:n<=100000) (ah:L els<=100000) :
  Calls prog 160 #[þ (J ⟨B+1+1+1,0,O⟩),þ (J ⟨B+1,0,O⟩),þ (J ⟨B,0,O⟩),þ (J ⟨B+1+1,0,O⟩)] w (wl B (D (J ⟨bb,boff,O⟩) n c) (els++[⟨-1,s,re ((m.drop s).take (p - s))⟩]) p w):=by
 obtain⟨ad,hi,aa,ab,ac⟩:=Ϩ DE;unfold maxLen at X;have c0:=jO h.b0;have c1:=jO h.b1;have c2:=jO h.b2;have a0:=jO h.b3;have ap:(0:Int)<=(s:Int):=U;have aq:(s:Int)<=(p:Int):=U;have ar:(p:Int)<=(c:Int):=U;have au:¬c=s:=U;have a1:Hid (∀ d,Below w.heap.size w d->Calls prog 161 #[D (J ⟨bb,boff+s,O⟩) (p - s) (c - s)] d fun e b=>e=ŗ (š (δ (re ((m.drop s).take (p - s)))))/\Below d.heap.size d b):=by
  intro d I;refine Qm _ _ d (Z.B I) ?_ ό;have z:L ((m.drop s).take (p - s))=p - s:=ό;rw[z];refine⟨by rw[oA,z];omega,ώ,.inr ⟨bb,boff+s,c - s,rfl,U,U,ώ,fun i av P=>?_⟩⟩;have hi:i<p - s:=by rw[<-z,<-oA];exact(lK.1 P).1
  have R:=o (s+i) U;rw[iX,I.cell (ii w _ R),R,<-P];simp only[η,jP];rw[vS hi,jr,Ρ U];rfl
 go_enter func160,ntmps160;go_wp2_with fail
 have H:∀ b,Below w.heap.size w b->(fun b:β=>b.cell? ⟨B,0,O⟩=J (D (J ⟨bb,boff,O⟩) n c)/\b.cell? ⟨B+1,0,O⟩=J l/\b.cell? ⟨B+1+1,0,O⟩=J (G p)/\b.cell? ⟨B+1+1+1,0,O⟩=J (G s)) b:=
  fun b o=>⟨ζ o c0,ζ o c1,ζ o c2,ζ o a0⟩
 have f:=Zh H;clear H;refine ϯ (fun b:β=>b.cell? ⟨B,0,O⟩=J (D (J ⟨bb,boff,O⟩) n c)/\b.cell? ⟨B+1,0,O⟩=J l/\b.cell? ⟨B+1+1,0,O⟩=J (G p)/\b.cell? ⟨B+1+1+1,0,O⟩=J (G s)) 10 ϋ ?_;refine km (fuel:=10) 0 l rfl ϋ ϋ ϋ ϋ (fun _ _ _ h=>h) (by rfl) ?_ (f.o _ RZ.drew) ?_
 .rintro d ⟨u,v,x,y⟩
  go_simp
 refine km  1 (G s) rfl ϋ ϋ ϋ ϋ (fun _ _ _ h=>h) (by rfl) ?_ (f.o _ RZ.drew) ?_
 .rintro d ⟨u,v,x,y⟩
  go_simp
 refine km  2 (D (J ⟨bb,boff,O⟩) n c) rfl ϋ ϋ ϋ ϋ (fun _ _ _ h=>h) (by rfl) ?_ (f.o _ RZ.drew) ?_
 .rintro d ⟨u,v,x,y⟩
  go_simp
 refine km  3 (G s) rfl ϋ ϋ ϋ ϋ (fun _ _ _ h=>h) (by rfl) ?_ (f.o _ RZ.drew) ?_
 .rintro d ⟨u,v,x,y⟩
  go_simp
 refine km  4 (G p) rfl ϋ ϋ ϋ ϋ (fun _ _ _ h=>h) (by rfl) ?_ (f.o _ RZ.drew) ?_
 .rintro d ⟨u,v,x,y⟩
  go_simp
 refine Κ  5 ϋ rfl ?_;intro K g;go_simp;refine g _ _ (f.o _ RZ.drew) ?_;refine Κ  6 ϋ rfl ?_;intro K g;go_simp;refine(a1.o _ RZ.drew).M ?_;rintro e Q ⟨rfl,V⟩;have k:Below w.heap.size w Q:=(RZ.drew).trans V;go_simp;refine g _ _ (f.o _ k) ?_;refine Κ  7 ϋ rfl ?_;intro K g;go_simp;refine g _ _ (f.o _ k) ?_;have A:=ψ Y k;have W:=k.size;refine Κ  8 ϋ rfl ?_;intro K g;go_simp;refine g _ _ (f.o _ (k.A W _)) ?_;refine Κ  9 ϋ rfl ?_;intro K g;refine lD (by rfl) _ _ _ _ (by rfl) B 177 ad _ 3 _ tW hi aa ab ac rfl l _ _ (by rfl) (A.A _) _ 1 [G _,G s,š _] (by rfl) (gh tW Q _ 3 1 1 rfl ϙ) ώ U ό ?_;intro l2 F E M _;have j:=((h.B k).A _).grown (A.A _) M;have S:=((gK.of_below k U).trans (gK.of_below (ġ) U)).trans (gK.grown (A.A _) M ό);obtain⟨q,r,rfl⟩:=Η E;refine g _ _ (⟨jO j.b0,jO j.b1,jO j.b2,jO j.b3⟩) ?_;have f1:=ni j.b1;have an:=jO j.b1;refine Zl ?_;refine Zd ?_;have t:EM (ŝ F ⟨B+1,0,O⟩ (D q (L els+1) r)) B (D (J ⟨bb,boff,O⟩) n c) (D q (L els+1) r) p s:=j.set1 _;have N:=nk E (a:=⟨ _,0,O⟩) (j.own_ne E 1 U) (D q (L els+1) r);have T:=S.trans (gK.set F (D q (L els+1) r) (U:B<=B+1) U);have f3:=ni t.b3;have ao:=jO t.b3;generalize ŝ F _ _=ae at *;go_wp2
 go_end0
 refine⟨rfl,_,t.set3 _,?_,T.trans (gK.set ae _ U U)⟩;have:=nk N (a:=⟨B+1+1+1,0,O⟩) (t.own_ne N 3 U) (G (-1));rw[σ,zF];exact this
