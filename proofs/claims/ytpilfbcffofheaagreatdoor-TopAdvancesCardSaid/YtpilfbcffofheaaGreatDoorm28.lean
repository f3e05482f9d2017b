/- Part 28 of the proof. -/
import Derived.Test.YtpilfbcffofheaaGreatDoorm08
import Derived.Test.YtpilfbcffofheaaGreatDoorm09
set_option linter.all false
set_option maxRecDepth 100000
set_option maxHeartbeats 16000000
namespace Go.Proofs.YtpilfbcffofheaaGreatDoor
open Go.RowKit Go.Proofs.Tryz Go.Sort
open Value renaming slice->D,int->ĭ,agg->ā,string->š,pointer->þ
open Option renaming none->O,some->J
open List renaming length->L
open Obj renaming cells->C
open Ending renaming returned->ŗ
open World renaming alloc->å,setCell->ŝ
def Μ.fresh (w:β) (x b) (h:[Value.int .u8 x]=η [b]):Μ w.heap.size (å w (C #[ĭ .u8 x] 5)) (D (J ⟨w.heap.size,0,O⟩) 1 1) 1 [b]:=
 ⟨rfl,by rw[<-h];exact mT w _ 5 1 1 rfl ϐ⟩
def jC (l:γ) (w:β) (e:Ending) (b:β):Prop:= ∃ a c,e=ŗ (D a (L l) c)/\Μ w.heap.size b (D a (L l) c) (L l) l/\Below w.heap.size w b
def EY (v:Nat) (w:β) (h:v<=127):Calls prog 148 #[G v] w (jC (ο v) w):=by
 have a:[Value.int .u8 (v:Int)]=η [UInt8.ofNat v]:=by rw[sI _ U]
 have b:=Zh (Μ.fresh w v _ a);have kx:(v:Int)<128:=U;have c:IntKind.u8.wrap (v:Int)=(v:Int):=by rw[IntKind.wrap_u8];omega
 unfold jC;rw[tk h];clear a;go_enter func148,ntmps148;go_wp2;go_ret;exact⟨_,_,rfl,b.o,ġ⟩
def NT (v:Nat) (w:β) (h:127<v) (B:v<=9223372036854775807) (o:L (ο (v / 128))<=1000)
  (q:∀ a:β,Calls prog 148 #[G ((v / 128:Nat):Int)] a (jC (ο (v / 128)) a)) :
  Calls prog 148 #[G v] w (jC (ο v) w):=by
 have n:[Value.int .u8 ((v:Int) % 128+128)]=η [UInt8.ofNat (v % 128+128)]:=by rw[sI _ U];simp
 have j:=Zh (Μ.fresh w _ _ n);have k:(v:Int) / 128=((v / 128:Nat):Int):=U;have i:=Zh (fun a=>(show Calls prog 148 #[G ((v:Int) / 128)] a (jC (ο (v / 128)) a)by rw[k];exact q a));have r:=Zh o;have d:BQ w (å w (C #[ĭ .u8 ((v:Int) % 128+128)] 5)):=ġ;have kx:¬(v:Int)<128:=U;have z:IntKind.i64.wrap ((v:Int) % 128+128)=(v:Int) % 128+128:=Ϗ;have A:IntKind.u8.wrap ((v:Int) % 128+128)=(v:Int) % 128+128:=by rw[IntKind.wrap_u8];omega
 unfold jC;rw[vi h,ϥ,Nat.add_comm (L (ο (v / 128))) 1];clear n q o k;go_enter func148,ntmps148;go_wp2_with fail
 refine(i.o _).M ?_;rintro e E ⟨y,c,rfl,l,b⟩;have⟨s,f,t⟩:=ϲ (j.o.B b) (d.t b) l.rd;clear l b d i j;go_wp2_with (at_builtin;refine hG rfl (.tmp 12) (.tmp 15) rfl w.heap.size _ _ 1 (L (ο (v / 128))) [UInt8.ofNat (v % 128+128)] (ο (v / 128)) rfl s.o rfl rfl t.o (ι r.o) f.o.size ?_;intro u x F p m)
 have g:=Zh (Ν p (f.o.trans (m)));clear p m;go_ret;exact⟨u,x,rfl,g.o.1,g.o.2⟩
def si:∀ (k v:Nat) (w:β),k<=8->v<128 ^ (k+1)->Calls prog 148 #[G v] w (jC (ο v) w)
 |0,v,w,hk,h=>EY v w (by simp at h;omega)
 |k+1,v,w,hk,h=>by
  by_cases c:v<=127
  .exact EY v w c
  .have d:v<128 ^ (8+1):=om h (wg ϐ U)
   have a:v / 128<128 ^ (k+1):=by rw[Nat.div_lt_iff_lt_mul ϐ];simpa[jq] using h
   exact NT v w U U (ι (Ϸ k _ a)) fun b=>si k _ b U a
def Py (c:Int):Bool:=c==40||c==41||c==124||c==38||c==33
def flush (b:γ) (c:Int) (d:Nat) (a:List El):List El:=if c<0 then a else a++[⟨-1,c,re ((b.drop c.toNat).take (d - c.toNat))⟩]
def qC (b:γ):Nat->Int->List El->List Int->List El
 |pos,st,acc,[]=>flush b st pos acc++[⟨-2,L b,[]⟩]
 |pos,st,acc,c::r =>
  if gm c=true then qC b (pos+L (enc c)) (if st<0 then pos else st) acc r
  else if c=32 then qC b (pos+1) (-1) (flush b st pos acc) r
  else if Py c=true then qC b (pos+1) (-1) (flush b st pos acc++[⟨c,pos,[]⟩]) r
  else flush b st pos acc++[⟨-3,pos,[]⟩]
def uR (b:γ):List El:=qC b 0 (-1) [] (gg b)
def Dq (b st pos acc):L (flush b st pos acc)<=L acc+1:=by
 unfold flush;split<;>simp
def Dp (B) (v l:ε) (els) (a:γ) (st) (p:Nat) (w:β) (x:ϭ w) (h:EM w B v l p st) (j:B+3<w.heap.size)
  (d:w.ownsRow B 177 3 l (L els) (lg els)) (r:Rd w v (L a) 1 (η a)) (k:∀ b off n c,v=D (J ⟨b,off,O⟩) n c->0<n->b<B) (u:st = -1\/∃ s:Nat,st=s/\s<p) (q:p<=L a) (o:L a<=100000) (m:L els<=100000) :
  Calls prog 160 #[þ (J ⟨B+1+1+1,0,O⟩),þ (J ⟨B+1,0,O⟩),þ (J ⟨B,0,O⟩),þ (J ⟨B+1+1,0,O⟩)] w (wl B v (flush a st p els) p w):=by
 rcases u with rfl|⟨s,rfl,t⟩
 .refine(Kg B v l p _ w h U).M ?_
  rintro e y ⟨rfl,rfl⟩;exact⟨rfl,l,h,by unfold flush;rw[μ U];exact d,gK.refl _ _⟩
 .obtain⟨b,off,c,rfl,f,g,i⟩:=uG r U
  have:=Kh B b off _ c l els a s p w x h j d i (k b off _ c rfl U) rfl f g t q o m;unfold flush;rw[κ U];exact this
def JG (w:β) (v:ε):EM (å (å (å (å w (C #[v] 31)) (C #[D O 0 0] 171)) (C #[G 0] 3)) (C #[G (-1)] 3)) w.heap.size v (D O 0 0) 0 (-1):=by
 refine⟨?_,?_,?_,?_⟩
 .rw[hM _ _ _ (by simp<;>omega),hM _ _ _ (by simp<;>omega),hM _ _ _ (by simp<;>omega)];exact φ w _
 .rw[hM _ _ _ (by simp<;>omega),hM _ _ _ (by simp<;>omega)]
  have:=φ (å w (C #[v] 31)) (C #[D O 0 0] 171);simpa using this
 .rw[hM _ _ _ (by simp<;>omega)]
  have:=φ (å (å w (C #[v] 31)) (C #[D O 0 0] 171)) (C #[G 0] 3);simpa using this
 .have:=φ (å (å (å w (C #[v] 31)) (C #[D O 0 0] 171)) (C #[G 0] 3)) (C #[G (-1)] 3)
  simpa using this
def JF (v:ε) (d:γ) (w:β) (bG:ϭ w) (h:Rd w v (L d) 1 (η d)) (b5:L d<=10000) (aP:∀ c∈gg d,li c=true\/c=32\/c=124) :
  Calls prog 92 #[v] w (iJ w 177 3 (L (uR d)) (lg (uR d))):=by
 obtain⟨a2,hi,aZ,a0,a1⟩:=Ϩ DE;have bF:∃ o c,v=D o (L d) c:=by
  obtain⟨-,-,⟨o,c,rfl,an⟩|⟨b,off,c,rfl,-⟩⟩:=h
  .exact⟨o,c,by rw[an]⟩
  .exact⟨_,c,rfl⟩
 obtain⟨o,r,u⟩:=bF;have bn:Hid (∀ X,Below w.heap.size w X->Calls prog 162 #[v] X (iJ X 3 1 (L (gg d)) (τ (gg d)))):=fun X br=>CQ v d X (h.B br) U;subst u;go_enter func92,ntmps92;go_wp2_with fail
 have aq:Below w.heap.size w (å (å (å (å w (C #[D o (L d) r] 31)) (C #[D O 0 0] 171)) (C #[G 0] 3)) (C #[G (-1)] 3)):=((ġ.A ύ _).A ό _).A ό _;have bo:EM (å (å (å (å w (C #[D o (L d) r] 31)) (C #[D O 0 0] 171)) (C #[G 0] 3)) (C #[G (-1)] 3)) w.heap.size (D o (L d) r) (D O 0 0) 0 (-1):=JG w _;have aC:(å (å (å (å w (C #[D o (L d) r] 31)) (C #[D O 0 0] 171)) (C #[G 0] 3)) (C #[G (-1)] 3)).heap.size=w.heap.size+4:=ύ;refine(bn.o _ aq).M ?_;rintro e N ⟨ca,rfl,ah,au⟩;rw[aC]at ah au;generalize(å (å (å (å w (C #[D o (L d) r] 31)) (C #[D O 0 0] 171)) (C #[G 0] 3)) (C #[G (-1)] 3))=a3 at *;have bE:=au.size;rw[aC]at bE;have av:Below a3.heap.size a3 N:=by rw[aC];exact au
 have bp:=bo.B av;have aR:=zy d;have b4:=wR d;have aS:gg d=gg (d.drop 0):=rfl;have aU:uR d=qC d 0 (-1) [] (gg d):=rfl;have bD:Rd N (D o (L d) r) (L d) 1 (η d):=(h.B aq).B av;have aW:∀ am off c3 c,Value.slice o (L d) r=D (J ⟨am,off,O⟩) c3 c->0<c3->am<w.heap.size:=by
  intro am off c3 c ax b6;obtain⟨-,-,⟨bM,bb,u,an⟩|⟨bN,b9,bb,u,bX,_,_,bm⟩⟩:=h
  .simp only[Χ]at ax u;omega
  .simp only[Χ]at ax u
   rw[ax.1]at u;simp only[Φ,Addr.mk.injEq]at u;obtain⟨⟨rfl,rfl,-⟩,-,-⟩:=u;exact ii w _ (bm 0 _ (Ρ (show 0<L (η d) by rw[oA];omega)))
 have aI:=Zh aW;have aJ:Hid (∀ ab,Below w.heap.size w ab->Rd ab (D o (L d) r) (L d) 1 (η d)):=fun ab bs=>h.B bs;have ad:=aq.t av;obtain⟨ba,c1,rfl⟩:=Η ah;generalize gg d=m at *;have bw:Hid (∀ i (ay:i<L m),∃ b off,ba=J ⟨b,off,O⟩/\w.heap.size+3<b/\∃ cur,N.heap[b]?=J (C cur 3 (0,0))/\N.cell? ⟨b,off+i,O⟩=J (G m[i])):=by
  intro i ay;rcases ah.2 with ⟨u,an⟩|⟨c0,bR,cur,u,bZ,hg,-⟩
  .omega
  .simp only[Χ]at u
   refine⟨c0,0,u.1,U,cur,hg,?_⟩;have bC:N.ownsRow (w.heap.size+4) 3 1 (D (J ⟨c0,0,O⟩) (L m) c1) (L m) (τ m):=by rw[<-u.1];exact ah
   rw[show 0+i=i from U,bC.cellAt i U];simp[τ,ay]
 have⟨a4,a7,a6,a8⟩:=hV aP aR aS aU;clear aP aR aS aU aW bD;go_wp2_with fail
 go_loopw [15] (fun aE wr=>∃ (i pos:Nat) (st:Int) (l:ε) (j:List El),i<=L m/\aE=G i/\EM wr w.heap.size (D o (L d) r) l pos st/\wr.ownsRow w.heap.size 177 3 l (L j) (lg j)/\Hid (uR d=qC d pos st j (m.drop i))/\Hid (m.drop i=gg (d.drop pos))/\pos<=L d/\Hid (st = -1\/∃ s:Nat,st=s/\s<pos)/\L j<=2*i/\gK w.heap.size N wr) (fun aE _=>L m - (intOf aE).toNat)
 .exact⟨0,0,-1,_,[],Ζ _,rfl,bp,gQ _ _ _ _,a8.o,a6.o,Ζ _,.inl rfl,NZ,gK.refl _ _⟩
 obtain⟨i,pos,st,l,j,ay,rfl,S,aa,aG,a9,aY,al,b2,y⟩:=hrel;have V:w.heap.size<=wr.heap.size:=ι y.size;have aD:ϭ wr:=by
  obtain⟨⟨bJ,bj,aM⟩,⟨bK,bk,aN⟩⟩:=bG;have bl:=ad.trans y.B;exact⟨⟨bJ,bj,by rw[bl.block _ (ς aM)];exact aM⟩,⟨bK,bk,by rw[bl.block _ (ς aN)];exact aN⟩⟩
 by_cases az:i<L m
 .obtain⟨b,off,rfl,bt,cur,aQ,bv⟩:=bw.o i az
  have bu:=y.high b _ bt aQ (by intro bS bW e;simp only[Obj.cells.injEq]at e;exact absurd e.2.1 ϐ);have b0:wr.cell? ⟨b,off+i,O⟩=J (G m[i]):=by rw[tX (w:=N) (w':=wr) (by simp only;rw[bu,aQ])];exact bv
  have aw:fR m[i]=true:=a7.o _ (Ψ _);have bz:m.drop i=m[i]::m.drop (i+1):=lL az;have T:=DW m[i] wr aD;have ar:=a4.o _ (Ψ az);have bY:=qH aw;generalize b8:m[i]=x at *;have hg:=aG.o;have aX:=a9.o;rw[bz]at hg aX;have aT:=fun aA:x≠65533=>Jo aX.symm aA;have ai:=Zh aT;clear aT;have aF:=Zh aw;clear aw;simp only[qC]at hg;have b3:i<=10000:=U;by_cases g:gm x=true
  .rw[μ g]at hg
   have aA:x≠65533:=by intro e;rw[e,Cb]at g;exact absurd g ϐ
   have bq:li x=true:=by
    rcases ar with h|rfl|rfl
    .exact h
    all_goals exact absurd g Ϟ
   rw[bq]at T;have W:=Zh T;clear T;obtain⟨K,B⟩:=ai.o aA;rw[fT]at K;rw[qt]at B;have⟨Q,aH⟩:=π B K;have b1:=zH x;clear B K;rcases al.o with rfl|⟨st,rfl,b7⟩
   .rw[μ U]at hg
    have E:=Zh hg;have ak:Hid ((pos:Int) = -1\/∃ s:Nat,(pos:Int)=s/\s<pos+L (enc x)):=.inr ⟨pos,rfl,U⟩;clear hg;go_wp2_with (first|(go_at_call 163;refine W.o.M ?_;rintro e k ⟨rfl,f⟩;have p:=S.B f;have bc:=jO p.b3;have f3:=ni p.b3;have c2:=jO p.b2;have f1:=ni p.b1)|(go_at_call 165;refine(zI x _ aF.o).M ?_;rintro e P ⟨bL,rfl,F,I⟩;obtain⟨R,bf,rfl⟩:=Η F;have q:=(p.set3 pos).B I;have bg:=jO q.b2;have bi:=ni q.b2))
    have n:=ψ (nk (ψ aa f) (a:=⟨w.heap.size+1+1+1,0,O⟩) (p.own_ne (ψ aa f) 3 U) (G pos)) I;have M:=nk n (a:=⟨w.heap.size+1+1,0,O⟩) (q.own_ne n 2 U) (G ((pos:Int)+(L (enc x):Int)));have ap:=q.set2 ((pos:Int)+(L (enc x):Int));have H:=(((y.trans (gK.of_below f V)).trans (gK.set k (G pos) (U:w.heap.size<=w.heap.size+1+1+1) U)).trans (gK.of_below I (by have:=f.size;simp;omega))).trans (gK.set P (G ((pos:Int)+(L (enc x):Int))) (U:w.heap.size<=w.heap.size+1+1) U);go_roundw
    .exact⟨i+1,pos+L (enc x),_,l,j,U,ϕ,by rw[show((pos+L (enc x):Nat):Int)=(pos:Int)+(L (enc x):Int)from U];exact ap,M,E.o,Q.o,ι aH.o,ak.o,U,H⟩
    exact ω
   .rw[κ U]at hg
    have E:=Zh hg;have ak:Hid ((st:Int) = -1\/∃ s:Nat,(st:Int)=s/\s<pos+L (enc x)):=.inr ⟨st,rfl,U⟩;clear hg;go_wp2_with (first|(go_at_call 163;refine W.o.M ?_;rintro e k ⟨rfl,f⟩;have p:=S.B f;have bc:=jO p.b3;have f1:=ni p.b1)|(go_at_call 165;refine(zI x _ aF.o).M ?_;rintro e P ⟨bL,rfl,F,I⟩;obtain⟨R,bf,rfl⟩:=Η F;have q:=(p).B I;have bg:=jO q.b2;have bi:=ni q.b2))
    have n:=ψ (ψ aa f) I;have M:=nk n (a:=⟨w.heap.size+1+1,0,O⟩) (q.own_ne n 2 U) (G ((pos:Int)+(L (enc x):Int)));have ap:=q.set2 ((pos:Int)+(L (enc x):Int));have H:=((y.trans (gK.of_below f V)).trans (gK.of_below I (by have:=f.size;simp;omega))).trans (gK.set P (G ((pos:Int)+(L (enc x):Int))) (U:w.heap.size<=w.heap.size+1+1) U);go_roundw
    .exact⟨i+1,pos+L (enc x),_,l,j,U,ϕ,by rw[show((pos+L (enc x):Nat):Int)=(pos:Int)+(L (enc x):Int)from U];exact ap,M,E.o,Q.o,ι aH.o,ak.o,U,H⟩
    exact ω
  .have aV:li x=false:=by
    cases h:li x with
    |false=>rfl
    |true=>exact absurd (by unfold gm;rw[h];rfl) g
   have bH:x=32\/x=124:=by rw[aV]at ar;simpa using ar
   rw[aV]at T;have W:=Zh T;have aj:=Zh (fun(k:β)=>CW x k);have bx:oC x=false:=by rcases bH with rfl|rfl<;>decide
   rw[κ g]at hg;have Y:∀ k,Below wr.heap.size wr k->Calls prog 160 #[þ (J ⟨w.heap.size+1+1+1,0,O⟩),þ (J ⟨w.heap.size+1,0,O⟩),þ (J ⟨w.heap.size,0,O⟩),þ (J ⟨w.heap.size+1+1,0,O⟩)] k (wl w.heap.size (D o (L d) r) (flush d st pos j) pos k):=by
    intro k f;have aB:Rd k (D o (L d) r) (L d) 1 (η d):=(aJ.o _ ((ad.trans y.B).trans (f.M V)));exact Dp w.heap.size _ l j d st pos k (aD.B f) (S.B f) (gw y.size f.size) (ψ aa f) aB aI.o al.o aY U U
   have ae:=Zh Y;have bA:=Dq d st pos j;rw[bx]at aj;clear T Y;by_cases aO:x=32
   .subst aO
    rw[μ rfl]at hg;have E:=Zh hg;obtain⟨K,B⟩:=ai.o U;rw[fT,show(L (enc 32))=1 from rfl]at K;rw[qt,show(L (enc 32))=1 from rfl]at B;have Q:=Zh B;clear hg B;go_wp2_with (first|(go_at_call 163;refine W.o.M ?_;rintro e k ⟨rfl,f⟩;have p:=S.B f;have f1:=ni p.b1)|(go_at_call 164;refine(aj.o _).M ?_;rintro e ab ⟨rfl,rfl⟩)|(go_at_call 160;refine(ae.o _ f).M ?_;rintro e ac ⟨rfl,l3,t,z,A⟩;obtain⟨aK,aL,rfl⟩:=Η z;have be:=jO t.b2;have bT:=ni t.b2;have bh:=ni t.b1))
    have M:=nk z (a:=⟨w.heap.size+1+1,0,O⟩) (t.own_ne z 2 U) (G ((pos:Int)+1));have H:=((y.trans (gK.of_below f V)).trans A).trans (gK.set ac (G ((pos:Int)+1)) (U:w.heap.size<=w.heap.size+1+1) U);go_roundw
    .exact⟨i+1,pos+1,-1,_,flush d st pos j,U,ϕ,by rw[show((pos+1:Nat):Int)=(pos:Int)+1 from U];exact t.set2 _,M,E.o,Q.o,U,.inl rfl,U,H⟩
    exact ω
   .obtain rfl:x=124:=U
    rw[κ aO,μ ϐ]at hg;have E:=Zh hg;obtain⟨K,B⟩:=ai.o U;rw[fT,show(L (enc 124))=1 from rfl]at K;rw[qt,show(L (enc 124))=1 from rfl]at B;have Q:=Zh B;clear hg B;go_wp2_with (first|(go_at_call 163;refine W.o.M ?_;rintro e k ⟨rfl,f⟩;have p:=S.B f;have f1:=ni p.b1)|(go_at_call 164;refine(aj.o _).M ?_;rintro e ab ⟨rfl,rfl⟩)|(go_at_call 160;refine(ae.o _ f).M ?_;rintro e ac ⟨rfl,l3,t,z,A⟩;obtain⟨aK,aL,rfl⟩:=Η z;have be:=jO t.b2;have bd:=jO t.b1;have bh:=ni t.b1)|(at_builtin;refine ϻ rfl _ _ _ _ rfl w.heap.size 177 a2 _ 3 32 tW hi aZ a0 a1 rfl _ (L (flush d st pos j)) _ rfl (z.A _) _ 1 [G 124,G pos,š {data:= #[]}] rfl (gh tW ac _ 3 1 1 rfl ϙ) ώ U (by have:=A.size;have:=f.size;simp;omega) ?_;intro bI P F Z _ _;have q:=(t.A _).grown (z.A _) Z;have ao:=((A.trans (gK.of_below (ġ) (gw A.size f.size))).trans (gK.grown (z.A _) Z (by have:=A.size;have:=f.size;simp;omega)));obtain⟨R,af,rfl⟩:=Η F;have bP:=jO q.b1;have bU:=ni q.b1;have ag:=q.set1 (D R (L (flush d st pos j)+1) af);have bQ:=jO ag.b2;have bV:=ni ag.b2;clear Z))
    have n:=nk F (a:=⟨w.heap.size+1,0,O⟩) (q.own_ne F 1 U) (D R (L (flush d st pos j)+1) af);have M:=nk n (a:=⟨w.heap.size+1+1,0,O⟩) (ag.own_ne n 2 U) (G ((pos:Int)+1));have H:=(((y.trans (gK.of_below f V)).trans ao).trans (gK.set P (D R (L (flush d st pos j)+1) af) (U:w.heap.size<=w.heap.size+1) U)).trans (gK.set (ŝ P ⟨w.heap.size+1,0,O⟩ (D R (L (flush d st pos j)+1) af)) (G ((pos:Int)+1)) (U:w.heap.size<=w.heap.size+1+1) U);go_roundw
    .refine⟨i+1,pos+1,-1,_,flush d st pos j++[(⟨124,(pos:Int),[]⟩:El)],U,ϕ,by rw[show((pos+1:Nat):Int)=(pos:Int)+1 from U];exact ag.set2 _,?_,E.o,Q.o,U,.inl rfl,ό,H⟩
     rw[σ,zF];exact M
    exact ω
 .have bB:m.drop i=[]:=mg U
  have hg:=aG.o;rw[bB]at hg;simp only[qC]at hg;have E:=Zh hg;have Y:∀ k,Below wr.heap.size wr k->Calls prog 160 #[þ (J ⟨w.heap.size+1+1+1,0,O⟩),þ (J ⟨w.heap.size+1,0,O⟩),þ (J ⟨w.heap.size,0,O⟩),þ (J ⟨w.heap.size+1+1,0,O⟩)] k (wl w.heap.size (D o (L d) r) (flush d st pos j) pos k):=by
   intro k f;have aB:Rd k (D o (L d) r) (L d) 1 (η d):=(aJ.o _ ((ad.trans y.B).trans (f.M V)));exact Dp w.heap.size _ l j d st pos k (aD.B f) (S.B f) (gw y.size f.size) (ψ aa f) aB aI.o al.o aY U U
  have ae:=Zh Y;have bA:=Dq d st pos j;have f:=ρ wr.heap.size wr;have a5:=Zh f;clear hg Y f;go_wp2_with (first|(go_at_call 160;refine(ae.o _ a5.o).M ?_;rintro e ac ⟨rfl,l3,t,z,A⟩;obtain⟨aK,aL,rfl⟩:=Η z;have bO:=jO t.b0;have bd:=jO t.b1)|(at_builtin;refine ϻ rfl _ _ _ _ rfl w.heap.size 177 a2 _ 3 32 tW hi aZ a0 a1 rfl _ (L (flush d st pos j)) _ rfl (z.A _) _ 1 [G (-2),G (L d),š {data:= #[]}] rfl (gh tW ac _ 3 1 1 rfl ϙ) ώ U (by have:=A.size;simp;omega) ?_;intro bI P F Z _ _))
  have ao:=((A.trans (gK.of_below (ġ) (ι A.size))).trans (gK.grown (z.A _) Z (by have:=A.size;simp;omega)));go_wp2;go_ret;refine⟨_,rfl,?_,ad.trans (y.trans ao).B⟩;rw[E.o,σ,zF];exact F
def zG (xs k h):(lg xs)[k*3]?=J (G xs[k].kind)/\(lg xs)[k*3+1]?=J (G xs[k].pos)/\(lg xs)[k*3+2]?=J (š (δ xs[k].term)):=by
 induction xs generalizing k with
 |nil=>simp at h
 |cons x xs a =>
  cases k with
  |zero=>simp[lg]
  |succ k =>
   have:=a k (by simpa using h);simp only[rn];rw[<-this.1,<-this.2.1,<-this.2.2];simp only[lg,lF];refine⟨?_,?_,?_⟩
   .rw[show(k+1)*3=k*3+3 from U];simp
   .rw[show(k+1)*3+1=(k*3+1)+3 from U];simp
   .rw[show(k+1)*3+2=(k*3+2)+3 from U];simp
def PM (w:β) (a:Nat) (b:ε) (d e:Int) (c:ε):Prop:=w.heap[a]?=J (C #[b,G d,G e,c] 174 (0,0))
def PM.cells {w B ev ov nx wd} (h:PM w B ev nx wd ov):w.cell? ⟨B,0,O⟩=J ev/\w.cell? ⟨B,1,O⟩=J (G nx)/\w.cell? ⟨B,2,O⟩=J (G wd)/\w.cell? ⟨B,3,O⟩=J ov:=by
 unfold PM at h;refine⟨?_,?_,?_,?_⟩<;>(rw[ξ w B _ _ _ (0,0) h];rfl)
def PM.free {w B ev ov nx wd} (h:PM w B ev nx wd ov) (j):w.frozen? ⟨B,j,O⟩=false:=ϧ w B j _ _ h
structure EV (w:β) (ev:ε) (es:List El):Prop where
 rd:Rd w ev (L es) 3 (lg es)
 few:L es<=100000
def My (B ev ov es) (X:Nat) (wd w) (h:PM w B ev X wd ov) (u:EV w ev es) (hnx) :
  Calls prog 94 #[þ (J ⟨B,0,O⟩)] w fun e w'=>e=ŗ (ā #[G es[X].kind,G es[X].pos,š (δ es[X].term)])/\BQ w w':=by
 obtain⟨c0,c1,c2,F⟩:=h.cells;obtain⟨-,N,⟨E,c,rfl,K⟩|⟨b,off,c,rfl,-,P,M,k⟩⟩:=u.rd
 .omega
 have g:=k _ _ (zG es X hnx).1;have i:=k _ _ (zG es X hnx).2.1;have j:=k _ _ (zG es X hnx).2.2;rw[<-iX]at i j;have z:=World.new_ne w _ c0;have A:=World.new_ne w _ g;have Q:(0:Int)<=(X:Int):=U;have R:(X:Int)<(L es:Int):=U;obtain⟨⟨l,m,n⟩,y⟩:∃ x,x=es[X]:=⟨_,rfl⟩;rw[<-y]at g i j ⊢;simp only at g i j z A ⊢;go_enter func94,ntmps94;go_wp2_with fail
 have f:BQ w (å w (C #[G 0,G 0,š {data:= #[]}] 177)):=ġ;have d:(å w (C #[G 0,G 0,š {data:= #[]}] 177)).heap[w.heap.size]?=J (C #[G 0,G 0,š {data:= #[]}] 177 (0,0)):=φ w _;generalize å w _=a at *;have o:=ζ f c0;have d1:=ζ f c1;have d2:=ζ f g;have p:=ζ f i;have q:=ζ f j;have S:a.cell? ⟨w.heap.size,0,O⟩=J (G 0):=by rw[ξ a _ _ _ _ (0,0) d];rfl
 have T:a.cell? ⟨w.heap.size,1,O⟩=J (G 0):=by rw[ξ a _ _ _ _ (0,0) d];rfl
 have V:a.cell? ⟨w.heap.size,2,O⟩=J (š {data:= #[]}):=by rw[ξ a _ _ _ _ (0,0) d];rfl
 have W:a.frozen? ⟨w.heap.size,0,O⟩=false:=ϧ a _ _ _ _ d;have H:a.frozen? ⟨w.heap.size,1,O⟩=false:=ϧ a _ _ _ _ d;have I:a.frozen? ⟨w.heap.size,2,O⟩=false:=ϧ a _ _ _ _ d;go_region_held3 (fun w'=>w'.cell? ⟨B,0,O⟩=J (D (J ⟨b,off,O⟩) (L es) c)/\w'.cell? ⟨B,1,O⟩=J (G X)/\w'.cell? ⟨b,off+X*3,O⟩=J (G l)/\w'.cell? ⟨b,off+X*3+1,O⟩=J (G m)/\w'.cell? ⟨b,off+X*3+2,O⟩=J (š (δ n)))
  (first|exact⟨o,d1,d2,p,q⟩|go_keep)
  (fail)
 go_wp2_with fail
 have r:=υ a _ 0 _ _ (G l) d;have s:=υ _ _ 1 _ _ (G m) r;have t:=υ _ _ 2 _ _ (š (δ n)) s;have v:BQ w (ŝ (ŝ (ŝ a ⟨w.heap.size,0,O⟩ (G l)) ⟨w.heap.size,1,O⟩ (G m)) ⟨w.heap.size,2,O⟩ (š (δ n))).drew:=(((f.S NZ _).S NZ _).S NZ _).drew;exact Ω  (jf   rfl _ _ _ _ _ _ _ rfl t underlying177 rfl ϋ) rfl ⟨rfl,v⟩
structure PS where
 nx:Nat
 wd:Nat
 ops:List nt
def rX (a:List El) (n:Nat):Int:=match a[n]? with|some e=>e.kind|none => -2
def mc (a:List El) (n:Nat):γ:=match a[n]? with|some e=>e.term|none=>[]
def qP (a:List El) (n:Nat):Int:=match a[n]? with|some e=>e.pos|none=>0
def su (a:List El) (s:PS):PS:=⟨s.nx+1,s.wd+1,s.ops++[(0,mc a s.nx)]⟩
def ϳ:γ:=[104,97,121]
def oI:γ:=[111,120]
def uA:γ:=[104,97,121,32,124,32,111,120]
def mL:List nt:=[(0,ϳ),(0,oI),(2,[])]
def nv:List El:=[⟨-1,0,ϳ⟩,⟨124,4,[]⟩,⟨-1,6,oI⟩,⟨-2,8,[]⟩]
def DF:(prog.info? 265).map (fun i=>(i.zero,i.size,i.bytes))=J (J (ā #[G 0,š ByteArray.empty]),2,24):=ϋ
structure ji (b0 B:Nat) (es:List El) (ev:ε) (w:β) (s:PS) (ov:ε):Prop where
 pm:PM w B ev s.nx s.wd ov
 own:w.ownsRow b0 265 2 ov (L s.ops) (kz s.ops)
 el:w.ownsRow b0 177 3 ev (L es) (lg es)
 le:b0<=B
def ji.B {b0 B es ev ov w w' s} (h:ji b0 B es ev w s ov) (a:BQ w w'):ji b0 B es ev w' s ov:=
 ⟨by have:=h.pm;unfold PM at this ⊢;rw[a.block _ (ς this)];exact this,ψ h.own a,ψ h.el a,h.le⟩
def ji.size {b0 B es ev ov w s} (h:ji b0 B es ev w s ov):b0<=w.heap.size/\B<w.heap.size:=by
 have:=ς h.pm;have:=h.le;omega
def vk {w:β} {base B e t sz} {v:ε} {n} {f:List ε} {i:Array ε} {fr} (b:w.heap[B]?=J (C i t fr)) (c:w.ownsRow base e sz v n f) (h:e≠t):v.ownBlock≠J B:=by
 intro a;rcases c.2 with ⟨rfl,_⟩|⟨g,d,cur,rfl,_,hg,_⟩
 .simp[Value.ownBlock]at a
 .simp only[Value.ownBlock,Φ]at a
  subst a;rw[hg]at b;simp only[Φ,Obj.cells.injEq]at b;exact h b.2.1
def vv {w:β} {base B e sz} {v b d:ε} {nx wd n} {f:List ε} (a:PM w B b nx wd d) (c:w.ownsRow base e sz v n f) (h:e≠174):v.ownBlock≠J B:=by
 unfold PM at a;exact vk a c h
def ji.setNx {b0 B es ev ov w s} (h:ji b0 B es ev w s ov) (n:Nat):ji b0 B es ev (ŝ w ⟨B,1,O⟩ (G n)) {s with nx:=n} ov:=
 ⟨υ w B 1 _ _ _ h.pm,nk h.own (a:=⟨B,1,O⟩) (vv h.pm h.own ϐ) _,nk h.el (a:=⟨B,1,O⟩) (vv h.pm h.el ϐ) _,h.le⟩
def ji.setWd {b0 B es ev ov w s} (h:ji b0 B es ev w s ov) (n:Nat):ji b0 B es ev (ŝ w ⟨B,2,O⟩ (G n)) {s with wd:=n} ov:=
 ⟨υ w B 2 _ _ _ h.pm,nk h.own (a:=⟨B,2,O⟩) (vv h.pm h.own ϐ) _,nk h.el (a:=⟨B,2,O⟩) (vv h.pm h.el ϐ) _,h.le⟩
def ji.grownOps {b0 B es} {b d e:ε} {w r:β} {s op} (h:ji b0 B es b w s d) (j:r.ownsRow b0 265 2 e (L s.ops+1) (kz s.ops++kz [op])) (t:w.grownBy r d.ownBlock) :
  PM r B b s.nx s.wd d/\ji b0 B es b (ŝ r ⟨B,3,O⟩ e) {s with ops:=s.ops++[op]} e:=by
 have c:r.heap[B]?=J (C #[b,G s.nx,G s.wd,d] 174 (0,0)):=(t.block B h.size.2 (vv h.pm h.own ϐ).symm).trans h.pm;have i:r.ownsRow b0 177 3 b (L es) (lg es):=by
  obtain⟨o,n⟩:=h.el;refine⟨o,?_⟩;rcases n with l|⟨g,k,cur,q,m,f,p⟩
  .exact .inl l
  .exact .inr ⟨g,k,cur,q,m,(t.block g (ς f) (vk f h.own ϐ).symm).trans f,p⟩
 refine⟨c,υ r B 3 _ _ _ c,?_,nk i  (vk c i ϐ) _,h.le⟩;have:=nk j (a:=⟨B,3,O⟩) (vk c j ϐ) e;simp only[σ,Mf];exact this
def yU (g a:Nat) (b:List El) (c:ε) (s:PS) (w:β) (e:Ending) (f:β):Prop:=
 e=ŗ (G 0)/\∃ d,ji g a b c f s d/\Below g w f
def vo {b0 B es ev ov w s} (h:ji b0 B es ev w s ov) (b:L es<=20000) (a:s.nx<L es) :
  Calls prog 94 #[þ (J ⟨B,0,O⟩)] w fun e w'=>e=ŗ (ā #[G (rX es s.nx),G (qP es s.nx),š (δ (mc es s.nx))])/\BQ w w':=by
 have:=My B ev ov es _ _ w h.pm ⟨Rd.of_own h.el,U⟩ a;unfold rX qP mc;rw[Ρ a];exact this
def QC (es) (P:L es<=20000) (b0 B ev ov s w) (h:ji b0 B es ev w s ov) (S:s.nx<L es) (ad:L s.ops<=100) (ae:s.wd<16) (R:rX es s.nx = -1) :
  Calls prog 227 #[þ (J ⟨B,0,O⟩),G 0] w (yU b0 B es ev (su es s) w):=by
 obtain⟨W,hi,T,e,V⟩:=Ϩ DF;have y:=vo h P S;rw[R]at y;have a1:=Zh y;go_enter func227,ntmps227;go_wp2_with (go_at_call 94;refine a1.o.M ?_;rintro a0 a ⟨rfl,m⟩;have k:=h.B (m.al (C #[G (-1),G (qP es s.nx),š (δ (mc es s.nx))] 177));obtain⟨c0,c1,c2,ab⟩:=k.pm.cells;have f2:=k.pm.free 2;have f1:=k.pm.free 1)
 have l:=(k.setWd (s.wd+1)).setNx (s.nx+1);rw[show((s.wd+1:Nat):Int)=(s.wd:Int)+1 from U,show((s.nx+1:Nat):Int)=(s.nx:Int)+1 from U]at l;have I:Below b0 w (ŝ (ŝ (å a (C #[G (-1),G (qP es s.nx),š (δ (mc es s.nx))] 177)) ⟨B,2,O⟩ (G ((s.wd:Int)+1))) ⟨B,1,O⟩ (G ((s.nx:Int)+1))):=(((m.al _).M h.size.1).S h.le _).S h.le _;have ac:B≠a.heap.size:=gw h.size m.size;have q:(ŝ (ŝ (å a (C #[G (-1),G (qP es s.nx),š (δ (mc es s.nx))] 177)) ⟨B,2,O⟩ (G ((s.wd:Int)+1))) ⟨B,1,O⟩ (G ((s.nx:Int)+1))).heap[a.heap.size]?=J (C #[G (-1),G (qP es s.nx),š (δ (mc es s.nx))] 177 (0,0)):=by
  rw[nO _ _ _ _ ϑ,nO _ _ _ _ ϑ];exact φ a _
 have Y:(ŝ (ŝ (å a (C #[G (-1),G (qP es s.nx),š (δ (mc es s.nx))] 177)) ⟨B,2,O⟩ (G ((s.wd:Int)+1))) ⟨B,1,O⟩ (G ((s.nx:Int)+1))).cell? ⟨a.heap.size,2,O⟩=J (š (δ (mc es s.nx))):=by
  rw[ξ _ a.heap.size 2 _ _ (0,0) q];rfl
 generalize(ŝ (ŝ (å a _) _ _) _ _)=j at *;obtain⟨-,-,-,A⟩:=l.pm.cells;have u:∀ d,BQ j d->(fun d:β=>d.cell? ⟨B,3,O⟩=J ov/\d.cell? ⟨a.heap.size,2,O⟩=J (š (δ (mc es s.nx)))) d:=
  fun d v=>⟨ζ v A,ζ v Y⟩
 have b:=Zh u;clear u;refine ϯ (fun d:β=>d.cell? ⟨B,3,O⟩=J ov/\d.cell? ⟨a.heap.size,2,O⟩=J (š (δ (mc es s.nx)))) 12 ϋ ?_;refine gq (fuel:=12) 0 (þ (J ⟨B,0,O⟩)) rfl ϋ ϋ ϋ ϋ (fun _ _ _ h=>h) (by rfl) ?_ (b.o _ RZ.drew) ?_
 .intro f
  go_simp
 refine gq  1 (þ (J ⟨B,0,O⟩)) rfl ϋ ϋ ϋ ϋ (fun _ _ _ h=>h) (by rfl) ?_ (b.o _ RZ.drew) ?_
 .intro f
  go_simp
 refine gq  2 (þ (J ⟨B,0,O⟩)) rfl ϋ ϋ ϋ ϋ (fun _ _ _ h=>h) (by rfl) ?_ (b.o _ RZ.drew) ?_
 .intro f
  go_simp
 refine gq  3 (þ (J ⟨B,3,O⟩)) rfl ϋ ϋ ϋ ϋ (fun _ _ _ h=>h) (by rfl) ?_ (b.o _ RZ.drew) ?_
 .intro f
  go_simp
 refine km  4 (ov) rfl ϋ ϋ ϋ ϋ (fun _ _ _ h=>h) (by rfl) ?_ (b.o _ RZ.drew) ?_
 .rintro f ⟨Z,aa⟩
  go_simp
 refine gq  5 (þ (J ⟨a.heap.size,2,O⟩)) rfl ϋ ϋ ϋ ϋ (fun _ _ _ h=>h) (by rfl) ?_ (b.o _ RZ.drew) ?_
 .intro f
  go_simp
 refine km  6 (š (δ (mc es s.nx))) rfl ϋ ϋ ϋ ϋ (fun _ _ _ h=>h) (by rfl) ?_ (b.o _ RZ.drew) ?_
 .rintro f ⟨Z,aa⟩
  go_simp
 refine Κ  7 ϋ rfl ?_;intro K c;go_simp;refine c _ _ (b.o _ RZ.drew) ?_;refine Κ  8 ϋ rfl ?_;intro K c;go_simp;refine c _ _ (b.o _ (RZ.drew.A NZ _)) ?_;have n:=(ρ j.heap.size j).drew.A NZ (C #[G 0,š (δ (mc es s.nx))] 265);have g:=l.B n;refine Κ  9 ϋ rfl ?_;intro K c;refine lD (by rfl) _ _ _ _ (by rfl) b0 265 W _ 2 _ underlying110 hi T e V rfl ov (L s.ops) _ (by rfl) g.own _ 1 [G 0,š _] (by rfl) (gh underlying110 j.drew _ 2 1 1 rfl Ϛ) ώ U g.size.1 ?_;intro ag z x r _;obtain⟨i,H⟩:=g.grownOps (op:=(0,mc es _)) x r;have M:=(I.trans (n.M l.size.1)).grown r g.size.1 (fun X Q=>(g.own.lt X Q).1);have t:z.cell? ⟨a.heap.size,2,O⟩=J (š (δ (mc es s.nx))):=by
  have o:=(n.block _ (ς q)).trans q;rw[ξ _ a.heap.size 2 _ _ (0,0) ((r.block _ (ς o) (vk o g.own ϐ).symm).trans o)];rfl
 obtain⟨E,F,rfl⟩:=Η x;refine c _ _ ⟨i.cells.2.2.2,t⟩ ?_;refine Κ  10 ϋ rfl ?_;intro K c;go_simp;refine c _ _ ⟨i.cells.2.2.2,t⟩ ?_;refine Κ  11 ϋ rfl ?_;intro K c;go_simp;refine c _ _ ⟨i.cells.2.2.2,t⟩ ?_;have f1:=i.free 3;have af:=i.cells.2.2.2;refine Zl ?_;refine Zd ?_;have N:=M.S h.le (D E (L s.ops+1) F) (p:=⟨B,3,O⟩);generalize ŝ z _ _=ah at *;go_wp2;go_ret;exact⟨rfl,_,H,N⟩
def wY (a b c):∀ w:β,(Instr.field 177 (ā #[G a,G b,š c]) 0).run prog w=.ok (G a) w:=fun _=>ϋ
def CE (es) (c:L es<=20000) (b0 B ev ov s w) (h:ji b0 B es ev w s ov) (k:s.nx+1<L es) (j:L s.ops<=100) (l:s.wd<16) (i:rX es s.nx = -1) (o:(rX es (su es s).nx==38)=false) (p:(rX es (su es s).nx==33)=false) :
  Calls prog 166 #[þ (J ⟨B,0,O⟩),G 0] w (yU b0 B es ev (su es s) w):=by
 have f:=Zh (QC es c b0 B ev ov s w h U j l i);have n:=wY (rX es (su es s).nx) (qP es (su es s).nx) (δ (mc es (su es s).nx));go_enter func166,ntmps166;go_wp2_with (go_at_call 227;refine f.o.M ?_;rintro e q ⟨rfl,m,a,g⟩;have d:=Zh (vo a c k))
 refine wp_loop_rounds 1 ?_;rw[rounds_succ];go_wp2_with (go_at_call 94;refine d.o.M ?_;rintro e r ⟨rfl,b⟩)
 go_ret;exact⟨rfl,m,a.B b,g.trans (b.M a.size.1)⟩
def Nq (b0 B ev d w) (h:ji b0 B nv ev w ⟨0,0,[]⟩ d):Calls prog 93 #[þ (J ⟨B,0,O⟩),G 0] w (yU b0 B nv ev ⟨3,2,mL⟩ w):=by
 obtain⟨W,hi,T,Z,V⟩:=Ϩ DF;have i:L nv<=20000:=ϐ;have K:=Zh (CE nv i b0 B ev d _ w h ϐ ϐ ϐ rfl rfl rfl);have M:=Zh (fun d o (g:ji b0 B nv ev o (PS.mk 2 1 [(0,ϳ)]) d)=>CE nv i b0 B ev d _ o g ϐ ϐ ϐ rfl rfl rfl);have aa:=wY 124 4 (δ []);have ab:=wY (-2) 8 (δ []);go_enter func93,ntmps93;go_wp2_with (go_at_call 166;refine K.o.M ?_;rintro e y ⟨rfl,v,b,P⟩;have b:ji b0 B nv ev y ⟨1,1,[(0,ϳ)]⟩ v:=b;have H:=Zh (vo b i ϐ))
 refine wp_loop_rounds 2 ?_;rw[rounds_succ];go_wp2_with (first|(go_at_call 94;refine Calls.M (R:=fun e n=>e=ŗ (ā #[G 124,G 4,š (δ [])])/\BQ y n) H.o ?_;rintro e z ⟨rfl,q⟩;have m:=b.B q;have c1:z.cell? ⟨B,1,O⟩=J (G 1):=m.pm.cells.2.1;have f1:=m.pm.free 1;have N:ji b0 B nv ev (ŝ z ⟨B,1,O⟩ (G 2)) ⟨2,1,[(0,ϳ)]⟩ v:=m.setNx 2)|(go_at_call 166;refine(M.o _ _ N).M ?_;rintro e j ⟨rfl,x,a,Q⟩;have a:ji b0 B nv ev j ⟨3,2,[(0,ϳ),(0,oI)]⟩ x:=a;have a0:=a.pm.cells.2.2.2;have a1:=((P.trans (q.M b.size.1)).S b.le _).trans Q)|(at_builtin;refine ϻ rfl _ _ _ _ rfl b0 265 W _ 2 _ underlying110 hi T Z V rfl x 2 _ rfl (a.B ((ρ _ j).A NZ _)).own _ 1 [G 2,š ByteArray.empty] rfl (gh underlying110 j _ 2 1 1 rfl Ϛ) ώ U (by have:=a.size;simp;omega) ?_;intro ae A t s _ _;have f:=(ρ _ j).A NZ (C #[G 2,š ByteArray.empty] 265);obtain⟨u,c⟩:=(a.B f).grownOps (op:=(2,[])) t s;have F:=(a1.trans (f.M a.size.1)).grown s (a.B f).size.1 (fun X S=>((a.B f).own.lt X S).1);obtain⟨k,l,rfl⟩:=Η t;have ac:=u.cells.2.2.2;have ad:=u.free 3))
 have E:=F.S a.le (D k 3 l) (p:=⟨B,3,O⟩);have c:ji b0 B nv ev (ŝ A ⟨B,3,O⟩ (D k 3 l)) ⟨3,2,mL⟩ (D k 3 l):=c;generalize ŝ A _ _=Y at *;have I:=Zh (vo c i ϐ);rw[rounds_succ];go_wp2_with (go_at_call 94;refine Calls.M (R:=fun e n=>e=ŗ (ā #[G (-2),G 8,š (δ [])])/\BQ Y n) I.o ?_;rintro e af ⟨rfl,r⟩)
 go_ret;exact⟨rfl,_,c.B r,E.trans (r.M c.size.1)⟩
def Ni (b w:β) (a:ε) (es) (c:b.heap.size<=w.heap.size) (d:w.ownsRow b.heap.size 177 3 a (L es) (lg es)) :
  ji b.heap.size w.heap.size es a (å w (C #[a,G 0,G 0,D O 0 0] 174)) ⟨0,0,[]⟩ (D O 0 0):=
 ⟨φ w _,⟨rfl,.inl ⟨rfl,rfl⟩⟩,d.A _,c⟩
def Hn (w:β) (e:Ending) (b:β):Prop:=
 Below w.heap.size w b/\∃ a,e=ŗ (.tuple #[a,G 0,G 0])/\b.ownsRow w.heap.size 265 2 a 3 (kz mL)
def Mp (ao c) (w:β) (p:ϭ w) (h:Rd w (D ao 8 c) 8 1 (η uA)) :
  Calls prog 49 #[D ao 8 c] w (Hn w):=by
 have n:uR uA=nv:=ϋ;have d:=JF _ uA w p h ϐ Ϟ;rw[n]at d;have j:=Zh d;have o:L nv<=20000:=ϐ;have z:=wY (-2) 8 (δ []);go_enter func49,ntmps49;go_wp2_with (first|(go_at_call 92;refine j.o.M ?_;rintro e s ⟨y,rfl,i,f⟩;obtain⟨v,x,rfl⟩:=Η i;have l:=Ni w s _ nv f.size i)|(go_at_call 93;refine(Nq _ _ _ _ _ l).M ?_;rintro e t ⟨rfl,q,a,m⟩;have k:=Zh (vo a o ϐ))|(go_at_call 94;refine Calls.M (R:=fun e r=>e=ŗ (ā #[G (-2),G 8,š (δ [])])/\BQ t r) k.o ?_;rintro e A ⟨rfl,g⟩;have b:=a.B g;obtain⟨c0,c1,c2,u⟩:=b.pm.cells))
 go_ret3
 exact⟨((f.al _).trans m).trans (g.M a.size.1),q,rfl,b.own⟩
