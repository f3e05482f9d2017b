/- Part 28 of the proof. -/
import Derived.Test.YtpilfbcffofheaaGreatDoorm27
set_option linter.unusedVariables false
set_option linter.unusedSimpArgs false
set_option maxRecDepth 100000
set_option maxHeartbeats 8000000
namespace Go.Proofs.YtpilfbcffofheaaGreatDoor
open Go.Proofs.Tryz Go.RowKit Go.Sort
open Value renaming int->ĭ,slice->D,agg->ā
open Ending renaming returned->ŗ
open List renaming length->L
open Obj renaming cells->C
open Option renaming none->O,some->J
open World renaming alloc->å
theorem Kf (w:β):Calls prog 289 #[ĭ .u64 1,ĭ .u64 64] w fun e w'=>e=ŗ (.tuple #[ĭ .u64 0,ĭ .u64 64])/\w=w':=by
 go_enter func289,ntmps289;go_wp2;go_ret2;exact⟨rfl,rfl⟩
theorem Kg (w:β):Calls prog 220 #[ĭ .u64 1,ĭ .u64 64] w fun e w'=>e=ŗ (.tuple #[ĭ .u64 0,ĭ .u64 64])/\w=w':=by
 have a:=Zh (Kf w);go_enter func220,ntmps220;go_wp2_with fail
 refine a.o.mono ?_;rintro e b ⟨rfl,rfl⟩;go_wp2;go_ret2;exact⟨rfl,rfl⟩
theorem BD:∀ (n t:Nat) (a:γ),∃ b,Extern.BytealgMakeNoZero.digits n t (η a).toArray=(η (a++b)).toArray/\L b=n
 |0,t,a=>⟨[],by simp[Extern.BytealgMakeNoZero.digits],rfl⟩
 |n+1,t,a=>by
  have d:(η a).toArray.push (ĭ .u8 (Int.ofNat (t % 256)))=(η (a++[UInt8.ofNat (t % 256)])).toArray:=by
   have h:=xF (t % 256) (lJ _ ϐ);rw[List.push_toArray]
   congr 1
   have c:η (a++[UInt8.ofNat (t % 256)])=η a++η [UInt8.ofNat (t % 256)]:=by simp[η]
   rw[c,h];rfl
  obtain⟨b,c,e⟩:=BD n (t / 256) (a++[UInt8.ofNat (t % 256)]);refine⟨UInt8.ofNat (t % 256)::b,?_,by simp[e]⟩;rw[Extern.BytealgMakeNoZero.digits,d,c];simp
theorem JU (n:Nat) (p:n<=1000000) (w:β):∃ (b:γ) (c:β),n<=L b/\L b<=maxLen/\(callFunc 221 #[IZ n]).run prog w=.ok (.value (D (J ⟨w.heap.size,0,O⟩) n (L b))) c/\c.heap[w.heap.size]?=J (C (η b).toArray 5 (0,0))/\BQ w c/\c.heap.size=w.heap.size+1:=by
 obtain⟨b,g,h⟩:=BD (grownCap w n 0 5) ((Question.extern "internal/bytealg.MakeNoZero.bytes" 0).cut (w.tape (w.drawn+1) (.extern "internal/bytealg.MakeNoZero.bytes" 0))) [];have m:=grownCap_ge w n 0 5;have o:=uu w n 0 5 ώ;refine⟨b,w.drew.drew.alloc (C (η b).toArray 5),ϊ,ϊ,?_,χ w.drew.drew _,(RZ.drew.drew.alloc NZ _),ύ⟩;rw[run_callFunc_extern func221 ϋ ϋ ϋ (e:=Extern.BytealgMakeNoZero.makeNoZero #[3] #[31]) ϋ];have l:Extern.BytealgMakeNoZero.makeNoZero #[3] #[31] #[IZ n] =
   (do
    let .slice f <-underlying 31|stuck "bytealg.MakeNoZero: slice type expected"
    if(n:Int)<0||(n:Int)>2 ^ 48 then runtimePanic (.error "makeslice: len out of range")
    let d <-choose (.appendCap (n:Int).toNat 0 f)
    askRoom d
    let bytes <-choose (.extern "internal/bytealg.MakeNoZero.bytes" 0)
    let a <-newRow f (Extern.BytealgMakeNoZero.digits d bytes #[])
    pure (D (J a) (n:Int).toNat d)):=rfl
 have i:¬(n:Int)<0:=ϊ;have j:¬(281474976710656:Int)<(n:Int):=ϊ;have k:Extern.BytealgMakeNoZero.digits (grownCap w n 0 5) ((Question.extern "internal/bytealg.MakeNoZero.bytes" 0).cut (w.tape (w.drawn+1) (.extern "internal/bytealg.MakeNoZero.bytes" 0))) #[]=(η b).toArray:=by simpa[η] using g
 rw[l,<-k,h];simp[pf gu,i,j,Question.forced,newRow,Lib.size_digits,grownCap]
def ki (k:Nat):γ:=List.replicate k 255
theorem LH (m:Option Addr) (c:Nat) (w:β) (A:Rd w (D m 1 c) 1 1 (η [255])) :
  Calls prog 156 #[D m 1 c,IZ 64] w fun e w'=>∃ g,e=ŗ (D (J ⟨g,0,O⟩) 64 64)/\Hi w.heap.size w' (fun k=>Rd k (D (J ⟨g,0,O⟩) 64 64) 64 1 (η (ki 64)))/\BQ w w':=by
 obtain⟨b,H,Z,ab,z,h,u,ah⟩:=JU 64 ϊ w;have E:=Zh (Kg w);have aa:(64:Int)<=(L b:Int):=ϊ;have F:=Zh (A.below u);clear A;have R:(callFunc 221 #[IZ 64]).run prog w=.ok (.value (D (J ⟨w.heap.size,0,O⟩) 64 (L b))) H:=z;clear z;go_enter func156,ntmps156;go_wp2_with fail
 refine E.o.mono ?_;rintro e ao ⟨rfl,rfl⟩;go_upto_region 17 with (fail)
 obtain⟨I,ag,V,v,-,-⟩:=zk w.heap.size 0 64 64 b h (D m 1 c) 1 [255] F.o ϊ ϊ;have P:BQ w I:=u.trans v;clear R h v;have r:L (b.take 0++([255]++b.drop (0+1)))=L b/\(b.take 0++([255]++b.drop (0+1))).take 1=ki 1:=⟨ό,by simp[ki]⟩;go_wp2;go_loopw [10] (fun q wr=>∃ (a:Nat) (i:γ),q=IZ (a:Int)/\(a=1\/a=2\/a=4\/a=8\/a=16\/a=32\/a=64)/\L i=L b/\i.take a=ki a/\Hid (wr.heap[w.heap.size]?=J (C (η i).toArray 5 (0,0)))/\BQ w wr) (fun q _=>64 - (intOf q).toNat)
 case atStart=>exact⟨1,_,rfl,.inl rfl,r.1,r.2,V,P⟩
 case round =>
  obtain⟨a,i,rfl,ac,ad,p,l,y⟩:=hrel;by_cases S:a=64
  .subst S
   have h:=l.o;have B:Hid (Hi w.heap.size wr (fun k=>Rd k (D (J ⟨w.heap.size,0,O⟩) 64 64) 64 1 (η (ki 64)))):=by
    intro k N;have o:=(N _ NZ (ο h)).trans h;refine⟨by simp[η,ki],ώ,.inr ⟨w.heap.size,0,64,rfl,ϊ,ϊ,ώ,fun j x d=>?_⟩⟩;have n:j<64:=by have:=(lN.1 d).1;simpa[η,ki] using this
    rw[ν _ _ _ _ _ _ o,jJ];rw[<-p]at d;simp only[η,mj,jK,hP,μ n]at d ⊢;exact d
   clear h;have am:¬((64:Nat):Int)<64:=ϊ;go_wp2;go_ret;exact⟨w.heap.size,rfl,B.o,y⟩
  .have aj:(a:Int)<64:=ϊ
   have ak:(a:Int)<=64:=ϊ;have al:a<=32:=ϊ;have ae:min (a:Int) 64=(a:Int):=ϊ;have an:(0:Int)<=(a:Int):=ϊ;have X:a<=64:=ϊ;go_upto_region 20 with (fail)
   have f:BQ w wr.drew:=y.drew;refine ϸ (fun G=>BQ w G) 7 ϋ ?_;refine Zf 0 f ?_;refine Zf 1 f ?_;refine Zf 2 f ?_;refine Zf 3 f ?_;refine Zf 4 f ?_;refine Zf 5 f ?_;refine Zf 6 f ?_;refine jp (fuel:=2) ϋ ϋ rfl ?_;intro K s;have U:Rd wr.drew (D (J ⟨w.heap.size,0,O⟩) a 64) a 1 (η (ki a)):=by
    refine⟨by simp[η,ki],ώ,.inr ⟨w.heap.size,0,64,rfl,ϊ,X,ώ,fun j x d=>?_⟩⟩;have o:=l.o;have n:j<a:=by have:=(lN.1 d).1;simpa[η,ki] using this
    rw[show wr.drew.cell? ⟨w.heap.size,0+j,O⟩=wr.cell? ⟨w.heap.size,0+j,O⟩from rfl,ν _ _ _ _ _ _ o,jJ];rw[<-p]at d;simp only[η,mj,jK,hP,μ n]at d ⊢;exact d
   refine zt rfl (.tmp 70) (.tmp 73) rfl w.heap.size a (64 - a) (64 - a) i l.o (by simp[Act.eval,Act.put];omega) (D (J ⟨w.heap.size,0,O⟩) a 64) a (ki a) ϔ U ϊ ϊ ?_;intro M W Q af ai;refine s _ _ ?_;clear s K;have t:BQ w M:=f.trans Q;have Y:IntKind.i64.wrap ((a:Int)+(a:Int))=((2*a:Nat):Int):=Ϗ;refine Zf 8 t ?_;refine Zf 9 t ?_;refine Zd ?_;go_wp2;go_roundw;case rel =>
    refine⟨2*a,ϊ,ϊ,_,?_,?_,W⟩
    .simp only[ω,gN,gb,ki,List.length_replicate];omega
    .have T:L (ki a)=a:=by simp[ki]
     rw[p,<-gM,List.take_left' (by simp[T];omega)];simp only[ki];rw[List.replicate_append_replicate]
     congr 1;omega
   case measure=>simp[intOf];omega
theorem Mk {w:β} (g off d i:Nat) (a:γ) (hg:w.heap[g]?=J (C (η a).toArray 5 (0,0)))
  (t:ε) (m:Nat) (xs:γ) (p:Rd w t m 1 (η xs)) (n:Nat) (Q:n=min d m) (N:off+n<=L a) :
  ∃ w',(Builtin.copy_ #[31,31] 3 #[D (J ⟨g,off,O⟩) d i,t]).run prog w=.ok (IZ n) w'/\Hid (w'.heap[g]?=J (C (η (a.take off++(xs.take n++a.drop (off+n)))).toArray 5 (0,0)))/\Below g w w'/\(∀ k,k≠g->w'.heap[k]?=w.heap[k]?)/\w'.heap.size=w.heap.size:=by
 have l:=p.1;have R:L xs=m:=by simpa[η] using l
 have E:L (xs.take n)=n:=Ϝ;have o:L (η (xs.take n))=n:=by simp[η];omega
 obtain⟨I,c,rfl,G⟩:=p.from
 obtain⟨U,hi,S,H,T⟩:=ϯ lF;have r:(prog.info? 5).map (·.size)=J 1:=by rw[hi];simp[H]
 have M:L (η a)=L a:=by simp[η]
 have q:=wn a (xs.take n) off;rw[E]at q;by_cases v:n=0
 .subst v
  have f:=run_copy_none (P:=prog) w 31 31 3 _ (J ⟨g,off,O⟩) I d i m c gu r (by show min m d=0;omega);refine⟨w,f,?_,φ _ _,fun _ _=>rfl,rfl⟩;show _=_;simpa using hg
 .obtain⟨u,rfl,z⟩:=G (by rw[l];omega)
  have F:∀ K∈η (xs.take n),K.oneCell'=true:=by
   intro V s;simp only[η,hI]at s;obtain⟨b,-,rfl⟩:=s;rfl
  have A:=fun j x (h:(η (xs.take n))[j]?=J x)=>z j x (by
   have y:j<n:=by have:=(lN.1 h).1;omega
   simp only[η,jK,hP,μ y]at h ⊢
   exact h)
  have f:=run_copy_row (P:=prog) w 31 31 3 _ g off d i u m c (η a).toArray 5 (η (xs.take n)) gu r hg (by rw[o];show n=min m d;omega) A (by simp only[pe];omega) F;have e:(goInt (L (η (xs.take n))))=IZ n:=by rw[o];rfl
  rw[e]at f;refine⟨_,f,?_,below_setRow RZ NZ _,fun k B=>sC w g k _ (fun e=>B e),by simp[World.setRow]⟩;show _=_;rw[<-q];have:=setRow_heap w g (η a).toArray (splice (η a) off (η (xs.take n))).toArray 5 (0,0) hg;simpa[splice] using this
theorem lO.congr {w:β} {c1 c2:List ε} {k j:Nat} {d:gQ} (h:lO w c1 k d) (e:∀ i,i<3->c2[j*3+i]?=c1[k*3+i]?):lO w c2 j d:=by
 have c:=e 0 ϊ;have f:=e 1 ϊ;have g:=e 2 ϊ;simp only[kW]at c;cases d with
 |sync=>exact⟨c.trans h.1,f.trans h.2.1,g.trans h.2.2⟩
 |put a b=>obtain⟨l,m,p,n,o⟩:=h;exact⟨c.trans l,f.trans m,p,g.trans n,o⟩
def iZ (base:Nat) (w:β) (v:ε) (l:List gQ):Prop:= ∃ b,w.ownsRow base 256 3 v (L l) b/\ς (kb base v) w (fun c=>∀ a (d:a<L l),lO c b a l[a])
theorem iZ.nil (w:β) (base:Nat):iZ base w (D O 0 0) []:=⟨[],hZ w base _ 3,fun _ _ b a=>by simp at a⟩
theorem iZ.hi {base:Nat} {w:β} {v:ε} {l:List gQ} (h:iZ base w v l):Hi base w (fun a=>pW a v l):=by
 obtain⟨b,c,d⟩:=h;exact(d.rowHi c).imp fun a g=>⟨b,g.2,g.1⟩
theorem iZ.below {base:Nat} {w w':β} {v:ε} {l:List gQ} (h:iZ base w v l) (a:BQ w w'):iZ base w' v l:=by
 obtain⟨b,c,d⟩:=h;exact⟨b,Υ c a,d.below a⟩
theorem iZ.app {base:Nat} {w w':β} {v b:ε} {l l2:List gQ} {a e:List ε} (n:w.ownsRow base 256 3 v (L l) a) (j:ς (kb base v) w (fun c=>∀ k (d:k<L l),lO c a k l[k]))
  (i:ς (kb base v) w (fun c=>∀ k (d:k<L l2),lO c e k l2[k])) (o:w'.ownsRow base 256 3 b (L l+L l2) (a++e)) (hg:w.grownBy w' v.ownBlock) (p:b.ownBlock=v.ownBlock\/b.ownBlock=J w.heap.size):iZ base w' b (l++l2):=by
 have m:=n.1;refine⟨a++e,by simpa using o,((j.and i).grown hg p).imp fun c ⟨g,h⟩ k d=>?_⟩;by_cases f:k<L l
 .rw[ph f]
  exact(g k f).congr fun q hi=>iX ϊ
 .simp only[ω]at d
  rw[zX ϊ];refine(h (k - L l) ϊ).congr fun q hi=>?_;rw[gO ϊ,m]
  congr 1;omega
theorem Cm:(prog.info? 256).map (fun i=>(i.zero,i.size,i.bytes))=J (J (ā #[.bool false,IZ 0,D O 0 0]),3,40):=ϋ
def jw (ws:fV):List gQ:=ws.map fun x=>.put x.1 x.2
theorem Ff (bl:Ε) (f p:Nat):gV bl f p []=[]:=by cases f<;>simp[gV]
theorem Nl (p:Nat) (h:p<=1000000000):IntKind.i64.wrap ((p:Int).tdiv 64)=((p / 64:Nat):Int):=by
 rw[Int.tdiv_eq_ediv_of_nonneg ϊ,sn];omega
theorem Ny (p:Nat) (h:p<=1000000000):IntKind.i64.wrap ((p:Int).tmod 64)=((p % 64:Nat):Int):=by
 rw[Int.tmod_eq_emod_of_nonneg ϊ,sn];omega
theorem iZ.mono {base base':Nat} {w:β} {v:ε} {l:List gQ} (h:iZ base w v l) (e:base'<=base):iZ base' w v l:=by
 obtain⟨a,c,d⟩:=h;exact⟨a,ii c e,d.sub fun b _ g=>by rcases g with g|g;exact .inl ϊ;exact .inr g⟩
theorem Jq (p:Nat) (ap:Option Addr) (k aq:Nat) (v:γ) (ba:Option Addr) (bc:Nat) (wa:Option Addr) (E:Nat) (bl:Ε) (w:β) (aJ:Δ w (D ba (L bl) bc) bl) (bw:L bl<=4096) (af:∀ b∈bl,L b=64) (bL:3<=L bl) (G:Rd w (D ap k aq) k 1 (η v)) (aG:L v=k) (bq:p+k<=Ϥ bl) :
  Calls prog 157 #[ā #[D ba (L bl) bc,D wa 0 E],IZ p,D ap k aq] w fun e w'=>∃ a n c,e=ŗ (D a n c)/\L (jw (gV bl (k+1) p v))=n/\iZ w.heap.size w' (D a n c) (jw (gV bl (k+1) p v))/\BQ w w':=by
 have bY:Ϥ bl<=262016:=by unfold Ϥ;omega
 have be:=Zh (fun y (M:y<L bl) az (bn:BQ w az)=>xJ y ba bc wa E bl az M (aJ.below bn) bw af);have a3:=Zh af;have bf:=Zh G;have H:=Zh aG;have aA:IntKind.i64.wrap ((p:Int)+(k:Int))=((p+k:Nat):Int):=Ϗ;obtain⟨aZ,bF,aP⟩:=Ϻ (w:=w) (A:=C #[D ba (L bl) bc,D wa 0 E] 41) RZ;obtain⟨K,aF⟩:∃ K:Nat,K=p+k:=⟨_,rfl⟩;rw[<-aF]at aA;clear aJ af G aG;go_enter func157,ntmps157;go_wp2;generalize å w (C #[D ba (L bl) bc,D wa 0 E] 41)=bG at *;go_loopw [1,2,7] (fun bE ad bD wr=>∃ (d:Nat) (b:γ) (f:Nat) (i:List gQ) (U:Option Addr) (l:Nat) (t:Option Addr) (u:Nat),bE=IZ (d:Int)/\ad=D U (L b) l/\bD=D t (L i) u/\d+L b=K/\L b<f/\L i+L b<=k/\i++jw (gV bl f d b)=jw (gV bl (k+1) p v)/\Hid (Rd w (D U (L b) l) (L b) 1 (η b))/\Hid (wr.heap[w.heap.size]?=J (C #[D ba (L bl) bc,D wa 0 E] 41 (0,0)))/\Hid (iZ (w.heap.size+1) wr (D t (L i) u) i)/\BQ w wr) (fun _ ad _ _=>ju ad)
 case atStart=>exact⟨p,v,k+1,[],ap,aq,O,0,rfl,by rw[H.o],rfl,by rw[H.o,aF],by rw[H.o];omega,by rw[H.o];simp,rfl,by show _;rw[H.o];exact bf.o,aZ,iZ.nil _ _,aP⟩
 case round =>
  obtain⟨d,b,f,i,U,l,t,u,rfl,rfl,rfl,bW,bP,bM,N,X,av,W,F⟩:=hrel;obtain⟨⟨bJ,d1⟩,-,b4⟩:=ι av.o;clear aZ bF aP;by_cases al:L b=0
  .have bA:¬(d:Int)<(K:Int):=ϊ
   have aK:b=[]:=ko al;have aH:i=jw (gV bl (k+1) p v):=by rw[<-N,aK,Ff];simp[jw]
   have a4:=Zh aH;clear aH N aK al;go_wp2;go_ret;rw[<-a4.o];exact⟨t,L i,u,rfl,rfl,W.o.mono (go _ 1),F⟩
  .have bA:(d:Int)<(K:Int):=ϊ
   obtain⟨B,rfl⟩:∃ B,f=B+1:=⟨f - 1,ϊ⟩;obtain⟨q,aX⟩:∃ q:Nat,q=2+d / 64:=⟨_,rfl⟩;obtain⟨o,aU⟩:∃ o:Nat,o=d % 64:=⟨_,rfl⟩;obtain⟨n,am⟩:∃ n:Nat,n=min (64 - o) (L b):=⟨_,rfl⟩;have bX:2+(d:Int) / 64=(q:Int):=ϊ;have bU:(d:Int) % 64=(o:Int):=ϊ;have bV:o<64:=ϊ;have aY:q<L bl:=by unfold Ϥ at bq;omega
   have bi:=Nl d ϊ;have bj:IntKind.i64.wrap (2+(d:Int) / 64)=(q:Int):=Ϗ;have bk:=Ny d ϊ;have aO:b≠[]:=fun h=>al (by rw[h];rfl);have aC:=a3.o _ (pw bl q [] aY);obtain⟨I,ag⟩:∃ I,I=bl.getD q []:=⟨_,rfl⟩;obtain⟨m,R⟩:∃ x,x=I.take o++(b.take n++I.drop (o+n)):=⟨_,rfl⟩;have a2:gV bl (B+1) d b=(q,m)::gV bl B (d+n) (b.drop n):=by
    rw[gV,κ aO];simp only[<-aX,<-aU,<-am,<-ag,<-R]
   have aI:(i++[.put q m])++jw (gV bl B (d+n) (b.drop n))=jw (gV bl (k+1) p v):=by
    rw[<-N,a2,gM];rfl
   have au:=Zh aI;have ay:=Zh (be.o q aY wr F);rw[<-ag]at aC ay;have S:L m=64:=by rw[R,ω,ω,gN,gN,gb];omega
   have a8:=Zh R;have a9:=Zh am;have bx:n<=L b:=ϊ;have bS:n<=64 - o:=ϊ;have bN:0<L b:=ϊ;have bR:0<n:=ϊ;clear aX aU ag R a2 N aI aO am;go_wp2_with fail
   refine ay.o.mono ?_;rintro e b3 ⟨g,rfl,T,ah⟩;have a0:=rB T.2;have aT:=(Ν T.2 g rfl).1;have bQ:=(Ν T.2 g rfl).2;have bp:=F.trans (ah.mono F.size);obtain⟨z,bB,ak,aL,bz,-⟩:=Mk g o (64 - o) (64 - o) I a0 (D U (L b) l) (L b) b (X.o.below bp) n a9.o (by rw[aC];omega);rw[<-a8.o]at ak;have ai:BQ wr z:=ah.trans (aL.mono aT);have a5:=Zh (θ av.o ai);have aB:=W.o.below ai;have P:=F.trans (ai.mono F.size);have aW:Φ wr.heap.size z (D (J ⟨g,0,O⟩) 64 64) 64 m:=
    ⟨S,by simp[η,S],.inr ⟨g,64,_,rfl,aT,ak.o,NZ,ώ,by simp[η,S],by simp only[List.toList_toArray];rw[gW (by simp[η,S])]⟩⟩
   obtain⟨bC,br,bs,bt,bu⟩:=ϯ Cm;obtain⟨bh,aV,aE⟩:=aB.below (((φ z.heap.size z).alloc NZ (C #[.bool false,IZ (q:Int),D (J ⟨g,0,O⟩) 64 64] 256)));have aM:∀ s,(Value.slice t (L i) u).ownBlock=J s->s<wr.heap.size:=by
    obtain⟨bI,bm,-⟩:=W.o;exact fun g hg=>(Ν bm g hg).2
   have aS:ς (kb (w.heap.size+1) (D t (L i) u)) (å z (C #[.bool false,IZ (q:Int),D (J ⟨g,0,O⟩) 64 64] 256)) (fun V=>Rd V (D (J ⟨g,0,O⟩) 64 64) (L m) 1 (η m)):=
    ς.of_ownB (aW.alloc _) ϊ aM
   have aD:ς (kb (w.heap.size+1) (D t (L i) u)) (å z (C #[.bool false,IZ (q:Int),D (J ⟨g,0,O⟩) 64 64] 256)) (fun V=>∀ y (M:y<L [gQ.put q m]),lO V [.bool false,IZ (q:Int),D (J ⟨g,0,O⟩) 64 64] y [gQ.put q m][y]):=
    aS.imp fun V h y M=>by
     obtain rfl:y=0:=by simp at M;exact M
     exact⟨rfl,rfl,_,rfl,h⟩
   have Y:=Zh aV;have bd:=Zh aE;have a7:=Zh aD;clear T a0 ak aL bz aB aW aV aE aM aS aD ah;obtain⟨-,-,⟨bH,bg,G,bv⟩|⟨ac,off,bg,G,bv,bT,bO,-⟩⟩:=X.o
   .omega
   simp only[Ξ,Ϯ]at G;obtain⟨rfl,rfl⟩:=G;have bZ:(n:Int)<=(l:Int):=ϊ;have b0:(n:Int)<=(L b:Int):=ϊ;go_upto_region 9 with (fail)
   clear bB;go_upto_region 10 with (at_builtin;go_loud (refine gn rfl _ _ _ _ rfl (w.heap.size+1) 256 bC _ 3 40 sD br bs bt bu rfl (D t (L i) u) (L i) bh rfl Y.o _ 1 [.bool false,IZ (q:Int),D (J ⟨g,0,O⟩) 64 64] rfl (ig sD z #[.bool false,IZ (q:Int),D (J ⟨g,0,O⟩) 64 64] 3 1 1 rfl ϗ) ώ ϊ (by have:=P.size;simp;omega) ?_);intro b2 ar ao Q a1 _)
   obtain⟨ab,ae,rfl⟩:=Θ ao;have aj:BQ w (å z (C #[.bool false,IZ (q:Int),D (J ⟨g,0,O⟩) 64 64] 256)):=P.alloc P.size _;have an:∀ s,(Value.slice t (L i) u).ownBlock=J s->w.heap.size+1<=s:=fun s hg=>(Ν Y.o s hg).1;have bo:=aj.grown Q aj.size (fun s hg=>by have:=an s hg;omega);have a6:Hid (ar.heap[w.heap.size]?=J (C #[D ba (L bl) bc,D wa 0 E] 41 (0,0))):=by
    show _=_;rw[Q.block _ (by have:=P.size;simp;omega) (fun e=>by have:=an _ e.symm;omega)];exact θ a5.o (ġ)
   have bb:Hid (iZ (w.heap.size+1) ar (D ab (L i+1) ae) (i++[.put q m])):=iZ.app Y.o bd.o a7.o ao Q a1;have bK:IntKind.i64.wrap ((d:Int)+(n:Int))=((d+n:Nat):Int):=Ϗ;have r:L (b.drop n)=L b - n:=gb ..;clear ao Q a1 aj an bi bj bk aA;have j:=bo.drew;have aw:Hid (ar.drew.heap[w.heap.size]?=J (C #[D ba (L bl) bc,D wa 0 E] 41 (0,0))):=a6.o;have ax:=Zh (bb.o.below RZ.drew);have b1:(0:Int)<=(n:Int):=ϊ;by_cases aQ:n=l
   .have aN:L b=n:=ϊ
    have aR:l=n:=aQ.symm;subst aR;have Z:Hid (Rd w (D (J ⟨ac,off,O⟩) 0 0) 0 1 (η (b.drop l))):=by
     rw[show b.drop l=[]from sw ϊ];exact pC _ _
    refine ϸ (fun aa=>BQ w aa) 7 ϋ ?_;refine Zf 0 j ?_;refine Zf 1 j ?_;refine Zf 2 j ?_;refine Zf 3 j ?_;refine Zf 4 j ?_;refine Zf 5 j ?_;refine Zf 6 j ?_;refine Zl ?_;refine Zd ?_;go_wp2;go_roundw;case rel =>
     refine⟨d+l,b.drop l,B,i++[.put q m],J ⟨ac,off,O⟩,0,ab,ae,ϕ,by rw[r,aN,kE],ύ,by rw[r];omega,by rw[r];omega,by rw[r];simp;omega,au.o,?_,aw.o,?_,j⟩
     .rw[r,aN,kE];exact Z.o
     .rw[ω];exact ax.o
    case measure =>
     simp only[ju];omega
   .have aR:¬l=n:=fun h=>aQ h.symm
    have Z:=Zh (vO X.o bx);refine ϸ (fun aa=>BQ w aa) 7 ϋ ?_;refine Zf 0 j ?_;refine Zf 1 j ?_;refine Zf 2 j ?_;refine Zf 3 j ?_;refine Zf 4 j ?_;refine Zf 5 j ?_;refine Zf 6 j ?_;refine Zl ?_;refine Zd ?_;go_wp2;go_roundw;case rel =>
     refine⟨d+n,b.drop n,B,i++[.put q m],J ⟨ac,off+n,O⟩,l - n,ab,ae,ϕ,by rw[r],ύ,by rw[r];omega,by rw[r];omega,by rw[r];simp;omega,au.o,?_,aw.o,?_,j⟩
     .rw[r];exact Z.o
     .rw[ω];exact ax.o
    case measure =>
     simp only[ju];omega
