/- Part 33 of the proof. -/
import Derived.Test.YtpilfbcffofheaaGreatDoorm29
import Derived.Test.YtpilfbcffofheaaGreatDoorm32
set_option linter.all false
set_option maxRecDepth 100000
set_option maxHeartbeats 16000000
namespace Go.Proofs.YtpilfbcffofheaaGreatDoor
open Go.RowKit Go.Proofs.Tryz Go.Sort
open Value renaming slice->D,int->ĭ,pointer->þ
open Option renaming none->O,some->J
open List renaming length->L
open Obj renaming cells->C
open Ending renaming returned->ŗ
open World renaming alloc->å
section
open Go.RowKit Go.Lib
def S8.list (s:S8):List Int:=[s.a,s.b,s.c,s.d,s.e,s.f,s.g,s.h]
theorem OZ {w:β} {g ty} (h:w.heap[g]?=J (C pv ty (0,0))) (i) (b:i<64):w.cell? ⟨g,i,O⟩=J (ĭ .u32 (oL i)):=by
 rw[ξ _ _ i _ _ _ h];have a:L sj=64:=ϐ;unfold pv oL;rw[fX,mD,jP,Ρ U];rfl
def tv (n:Nat) (N A a:Int) (g:N=n) (b:0<n) (c:n<32) (d:A=2 ^ (32 - n)) (f:a=2 ^ n) (x) (j:jj x) {w0 w} (i:BQ w0 w) :
  Calls prog 281 #[ĭ .u32 x,G N] w fun e w'=>e=ŗ (ĭ .u32 (gN A a x))/\BQ w0 w':=by
 subst g;exact(vB n A a b c d f x j w).M fun e w' h=>⟨h.1,i.t h.2⟩
def NH (h0 h1 m h3 h4 n h6 h7) (z:(S8.mk h0 h1 m h3 h4 n h6 h7).ok) (la lc pb off cp) (p:γ) (w:β) (V:Rd w (D la 8 lc) 8 1 (nG [h0,h1,m,h3,h4,n,h6,h7])) (aN:L p=64) (aO:Rd w (D (J ⟨pb,off,O⟩) 64 cp) 64 1 (η p)) :
  Calls prog 216 #[D la 8 lc,D (J ⟨pb,off,O⟩) 64 cp] w fun e w'=>∃ Y c,e=ŗ (D Y 8 c)/\jR w.heap.size w' (D Y 8 c) 8 (lR ⟨h0,h1,m,h3,h4,n,h6,h7⟩ p).list/\BQ w w':=by
 obtain⟨lb,lo,rfl,aJ⟩:=yf V ϐ;have q:=Zh (fun A aR h=>aJ A aR h);have⟨al,ak⟩:=π (Ob pb off cp p w aN aO) z;go_enter func216,ntmps216;go_wp2_with fail
 refine al.o.M ?_;rintro e X ⟨sa,sc,rfl,aG,aI⟩;have an:=Zh aG;go_wp2_with fail
 refine(NJ X).M ?_;rintro e ae ⟨rfl,aF,ac⟩;have ab:=aI.t ac;have⟨ao,ai⟩:=π (an.o.B ac) aF;have c0:=q.o 0 h0 rfl;have c1:=q.o 1 h1 rfl;have c2:=q.o 2 m rfl;have Q:=q.o 3 h3 rfl;have R:=q.o 4 h4 rfl;have S:=q.o 5 n rfl;have T:=q.o 6 h6 rfl;have a:=q.o 7 h7 rfl;rw[kG]at c0;go_upto_region 3 with fail
 have i:BQ w ae.drew:=ab.drew;refine ϯ (fun ay=>BQ w ay) 31 ϋ ?_;refine Zf (oi:=⟨ _,_,_,_,_,_⟩) 0 i ?_;refine Zf (oi:=⟨ _,_,_,_,_,_⟩) 1 i ?_;refine Zb (oi:=⟨J 24,_,_,_,_,_⟩) 2 [31] i ?_ (v:=ĭ .u32 h0) (hy:=?m);case m=>intro j k;have r:=ζ k c0;exact gx
 refine Zf (oi:=⟨ _,_,_,_,_,_⟩) 3 i ?_;refine Zf (oi:=⟨ _,_,_,_,_,_⟩) 4 i ?_;refine Zb (oi:=⟨J 27,_,_,_,_,_⟩) 5 [31] i ?_ (v:=ĭ .u32 h1) (hy:=?n);case n=>intro j k;have r:=ζ k c1;exact gx
 refine Zf (oi:=⟨ _,_,_,_,_,_⟩) 6 i ?_;refine Zf (oi:=⟨ _,_,_,_,_,_⟩) 7 i ?_;refine Zb (oi:=⟨J 30,_,_,_,_,_⟩) 8 [31] i ?_ (v:=ĭ .u32 m) (hy:=?aE);case aE=>intro j k;have r:=ζ k c2;exact gx
 refine Zf (oi:=⟨ _,_,_,_,_,_⟩) 9 i ?_;refine Zf (oi:=⟨ _,_,_,_,_,_⟩) 10 i ?_;refine Zb (oi:=⟨J 33,_,_,_,_,_⟩) 11 [31] i ?_ (v:=ĭ .u32 h3) (hy:=?az);case az=>intro j k;have r:=ζ k Q;exact gx
 refine Zf (oi:=⟨ _,_,_,_,_,_⟩) 12 i ?_;refine Zf (oi:=⟨ _,_,_,_,_,_⟩) 13 i ?_;refine Zb (oi:=⟨J 36,_,_,_,_,_⟩) 14 [31] i ?_ (v:=ĭ .u32 h4) (hy:=?aA);case aA=>intro j k;have r:=ζ k R;exact gx
 refine Zf (oi:=⟨ _,_,_,_,_,_⟩) 15 i ?_;refine Zf (oi:=⟨ _,_,_,_,_,_⟩) 16 i ?_;refine Zb (oi:=⟨J 39,_,_,_,_,_⟩) 17 [31] i ?_ (v:=ĭ .u32 n) (hy:=?aB);case aB=>intro j k;have r:=ζ k S;exact gx
 refine Zf (oi:=⟨ _,_,_,_,_,_⟩) 18 i ?_;refine Zf (oi:=⟨ _,_,_,_,_,_⟩) 19 i ?_;refine Zb (oi:=⟨J 42,_,_,_,_,_⟩) 20 [31] i ?_ (v:=ĭ .u32 h6) (hy:=?aC);case aC=>intro j k;have r:=ζ k T;exact gx
 refine Zf (oi:=⟨ _,_,_,_,_,_⟩) 21 i ?_;refine Zf (oi:=⟨ _,_,_,_,_,_⟩) 22 i ?_;refine Zb (oi:=⟨J 45,_,_,_,_,_⟩) 23 [31] i ?_ (v:=ĭ .u32 h7) (hy:=?aD);case aD=>intro j k;have r:=ζ k a;exact gx
 refine Zf (oi:=⟨ _,_,_,_,_,_⟩) 24 i ?_;refine Zf (oi:=⟨ _,_,_,_,_,_⟩) 25 i ?_;refine Zf (oi:=⟨ _,_,_,_,_,_⟩) 26 i ?_;refine Zf (oi:=⟨ _,_,_,_,_,_⟩) 27 i ?_;refine Zf (oi:=⟨ _,_,_,_,_,_⟩) 28 i ?_;refine Zf (oi:=⟨ _,_,_,_,_,_⟩) 29 i ?_;refine Zf (oi:=⟨ _,_,_,_,_,_⟩) 30 i ?_;refine Zl ?_;refine Zd ?_;obtain⟨y,F⟩:∃ y,y=ae.drew:=⟨_,rfl⟩;have af:Hid (BQ w y):=by rw[F];exact ab.drew
 have ap:Hid (jR w.heap.size y (D sa 64 sc) 64 (pZ p 64)):=by rw[F];exact ao.o.B RZ.drew
 have aj:Hid (y.heap[X.heap.size]?=J (C pv 314 (0,0))):=by rw[F];exact ai.o
 rw[<-F];go_wp2_with fail
 go_loopw [7,8,9,10,11,12,13,14,15] (fun a7 a8 c d e f g h A aS=>∃ (l:Nat) (s:S8),l<=64/\A=G (l:Int)/\a7=ĭ .u32 s.a/\a8=ĭ .u32 s.b/\c=ĭ .u32 s.c/\d=ĭ .u32 s.d/\e=ĭ .u32 s.e/\f=ĭ .u32 s.f/\g=ĭ .u32 s.g/\h=ĭ .u32 s.h/\Hid (qe ⟨h0,h1,m,h3,h4,n,h6,h7⟩ p l=s)/\BQ y aS) (fun _ _ _ _ _ _ _ _ A _=>64 - (RowKit.intOf A).toNat)
 .exact⟨0,_,U,rfl,rfl,rfl,rfl,rfl,rfl,rfl,rfl,rfl,rfl,ρ _ _⟩
 obtain⟨l,⟨u,b,H,I,x,K,M,N⟩,aY,rfl,rfl,rfl,rfl,rfl,rfl,rfl,rfl,rfl,P,E⟩:=hrel;by_cases ad:l<64
 .have a1:(l:Int)<64:=U
  have a0:(0:Int)<=(l:Int):=U;have z:=(ak.o.st p) l;rw[P.o]at z;have W:jj x:=z.e;have r:jj u:=z.a;obtain⟨g,o,aP,aK⟩:=yf ap.o.rd ϐ;subst aP;have aa:=ζ E (aK l _ (vF p _ l ad));have Z:=ζ E (OZ aj.o l ad);have am:Hid (qe ⟨h0,h1,m,h3,h4,n,h6,h7⟩ p (l+1)=pY (oL l) (gd p 48 l) ⟨u,b,H,I,x,K,M,N⟩):=by show _=_;unfold qe;rw[P.o]
  generalize oL l=kx at *;generalize gd p _ l=aT at *;have ax:=Zh (fun j (k:BQ wr j)=>tv 6 6 67108864 64 rfl ϐ ϐ ϐ ϐ x W k);have aq:=Zh (fun j (k:BQ wr j)=>tv _ 11 2097152 2048 rfl ϐ ϐ ϐ ϐ x W k);have aw:=Zh (fun j (k:BQ wr j)=>tv _ 25 128 33554432 rfl ϐ ϐ ϐ ϐ x W k);go_upto_region 8 with fail
  have i:BQ wr wr.drew:=RZ.drew;go_region_held3 (fun j=>BQ wr j/\j.cell? ⟨g,o+l,O⟩=J (ĭ .u32 aT)/\j.cell? ⟨X.heap.size,l,O⟩=J (ĭ .u32 kx)) (first|exact⟨i,aa,Z⟩|assumption|exact⟨Ϙ,ζ Ϙ aa,ζ Ϙ Z⟩) (first
   |(go_at_call 281;(with_reducible refine(ax.o _ Ϙ).M ?_);rintro e a6 ⟨rfl,aX⟩)
   |(go_at_call 281;(with_reducible refine(aq.o _ Ϙ).M ?_);rintro e a2 ⟨rfl,aU⟩)
   |(go_at_call 281;(with_reducible refine(aw.o _ Ϙ).M ?_);rintro e B ⟨rfl,aM⟩))
  have aQ:=E.t aM;have au:=Zh (fun j (k:BQ B j)=>tv 2 2 1073741824 4 rfl ϐ ϐ ϐ ϐ u r k);have ar:=Zh (fun j (k:BQ B j)=>tv _ 13 524288 8192 rfl ϐ ϐ ϐ ϐ u r k);have av:=Zh (fun j (k:BQ B j)=>tv _ 22 1024 4194304 rfl ϐ ϐ ϐ ϐ u r k);have aZ:BQ B B:=ρ _ _;go_wp2_with (first
   |(go_at_call 281;(with_reducible refine(au.o _ Ϙ).M ?_);rintro e a4 ⟨rfl,aW⟩)
   |(go_at_call 281;(with_reducible refine(ar.o _ Ϙ).M ?_);rintro e a3 ⟨rfl,aV⟩)
   |(go_at_call 281;(with_reducible refine(av.o _ Ϙ).M ?_);rintro e a5 ⟨rfl,aL⟩))
  go_roundw
  .refine⟨ _,_,U,ϕ,?_,rfl,rfl,rfl,?_,rfl,rfl,rfl,am.o,aQ.t aL⟩
   .exact jp _ (by simp only[pY,tl,vK,uI,FZ,Ea,show IntKind.u32.max=4294967295 from rfl];omega)
   .exact jp _ (by simp only[pY,tl,vK,uI,show IntKind.u32.max=4294967295 from rfl];omega)
  simp[RowKit.intOf];omega
 .obtain rfl:l=64:=U
  have t:=af.o.t E;have ah:Hid (wr.cell? ⟨lb,lo,O⟩=J (ĭ .u32 h0)/\wr.cell? ⟨lb,lo+1,O⟩=J (ĭ .u32 h1)/\wr.cell? ⟨lb,lo+2,O⟩=J (ĭ .u32 m)/\wr.cell? ⟨lb,lo+3,O⟩=J (ĭ .u32 h3)/\wr.cell? ⟨lb,lo+4,O⟩=J (ĭ .u32 h4)/\wr.cell? ⟨lb,lo+5,O⟩=J (ĭ .u32 n)/\wr.cell? ⟨lb,lo+6,O⟩=J (ĭ .u32 h6)/\wr.cell? ⟨lb,lo+7,O⟩=J (ĭ .u32 h7)):=⟨ζ t (q.o 0 h0 rfl),ζ t (q.o 1 h1 rfl),ζ t (q.o 2 m rfl),ζ t (q.o 3 h3 rfl),ζ t (q.o 4 h4 rfl),ζ t (q.o 5 n rfl),ζ t (q.o 6 h6 rfl),ζ t (q.o 7 h7 rfl)⟩;have ag:Hid (lR ⟨h0,h1,m,h3,h4,n,h6,h7⟩ p=uy ⟨h0,h1,m,h3,h4,n,h6,h7⟩ ⟨u,b,H,I,x,K,M,N⟩):=by show _=_;unfold lR;rw[P.o]
  obtain⟨c0,c1,c2,Q,R,S,T,a⟩:=ah.o;go_upto_region 18 with fail
  go_region_held3 (fun j=>j.cell? ⟨lb,lo,O⟩=J (ĭ .u32 h0)/\j.cell? ⟨lb,lo+1,O⟩=J (ĭ .u32 h1)/\j.cell? ⟨lb,lo+2,O⟩=J (ĭ .u32 m)/\j.cell? ⟨lb,lo+3,O⟩=J (ĭ .u32 h3)/\j.cell? ⟨lb,lo+4,O⟩=J (ĭ .u32 h4)/\j.cell? ⟨lb,lo+5,O⟩=J (ĭ .u32 n)/\j.cell? ⟨lb,lo+6,O⟩=J (ĭ .u32 h6)/\j.cell? ⟨lb,lo+7,O⟩=J (ĭ .u32 h7)) (first|exact⟨c0,c1,c2,Q,R,S,T,a⟩|assumption|go_keep) (fail)
  go_wp2;go_ret;have V:(lR ⟨h0,h1,m,h3,h4,n,h6,h7⟩ p).list=[IntKind.u32.wrap (h0+u),IntKind.u32.wrap (h1+b),IntKind.u32.wrap (m+H),IntKind.u32.wrap (h3+I),IntKind.u32.wrap (h4+x),IntKind.u32.wrap (n+K),IntKind.u32.wrap (h6+M),IntKind.u32.wrap (h7+N)]:=by rw[ag.o];simp only[iV,S8.list,uy]
  rw[V];have aH:=(ρ _ wr).A NZ (C #[ĭ .u32 (IntKind.u32.wrap (h0+u)),ĭ .u32 (IntKind.u32.wrap (h1+b)),ĭ .u32 (IntKind.u32.wrap (m+H)),ĭ .u32 (IntKind.u32.wrap (h3+I)),ĭ .u32 (IntKind.u32.wrap (h4+x)),ĭ .u32 (IntKind.u32.wrap (n+K)),ĭ .u32 (IntKind.u32.wrap (h6+M)),ĭ .u32 (IntKind.u32.wrap (h7+N))] 314);exact⟨_,8,rfl,jR.B  ⟨rfl,gX (mT wr _ _ 1 8 rfl ϐ) t.size⟩ RZ.drew,(t.t aH).drew⟩
end
def pV (b:γ):γ:=b++[128]++List.replicate (kR (L b)) 0++iZ (8*L b)
def MZ (n):∀ (s:S8) (b t:γ),L b<=n->gZ s (b++t)=gZ (gZ s b).1 ((gZ s b).2++t):=by
 induction n with
 |zero=>intro s b t h;rw[tu s (b:=b) U]
 |succ n c =>
  intro s b t h;by_cases a:L b<64
  .rw[tu s a]
  .rw[vx s (b:=b) U,vx s (b:=b++t) ό,Bw U,List.drop_append_of_le_length U]
   exact c _ _ _ ό
def PG (b):lf (gZ ly (pV b)).1=kg b:=by
 have h:=(xy _ ly b NZ uC).2;unfold kg sU qM pV;rw[gP,gP,MZ (L b) _ _ _ NZ,h];have:pq (L b % 64) - (L b % 64+1)=kR (L b):=by unfold pq kR;split<;>omega
 rw[this,gP,gP]
def Mm (b):∃ a,L (pV b)=64*a:=⟨(L b+1+kR (L b)+8) / 64,by
 have:L (iZ (8*(L b:Int)))=8:=rfl
 unfold pV
 simp only[σ,List.length_replicate,this,ϥ,gO]
 unfold kR;omega⟩
def Jv (s):lf s=s.list.flatMap jo:=by simp[lf,S8.list]
def S8.ok.all {s:S8} (h:s.ok):∀ u∈s.list,jj u:=by
 intro u a;simp only[S8.list,hH,List.not_mem_nil,or_false]at a;rcases a with rfl|rfl|rfl|rfl|rfl|rfl|rfl|rfl
 .exact h.a
 .exact h.b
 .exact h.c
 .exact h.d
 .exact h.e
 .exact h.f
 .exact h.g
 .exact h.h
def tw:pL:=by
 intro H b0 aW b l bd bi aJ;subst bd;have A:=Zh (fun i (p:BQ l i)=>NU H aW b i bi (aJ.B p));obtain⟨m,M⟩:=Mm b;have aO:=Zh (PG b);have R:BQ l (å l (C #[ĭ .u32 1779033703,ĭ .u32 3144134277,ĭ .u32 1013904242,ĭ .u32 2773480762,ĭ .u32 1359893119,ĭ .u32 2600822924,ĭ .u32 528734635,ĭ .u32 1541459225] 314)):=ġ;have w:Hid (jR l.heap.size (å l (C #[ĭ .u32 1779033703,ĭ .u32 3144134277,ĭ .u32 1013904242,ĭ .u32 2773480762,ĭ .u32 1359893119,ĭ .u32 2600822924,ĭ .u32 528734635,ĭ .u32 1541459225] 314)) (D (J ⟨l.heap.size,0,O⟩) 8 8) 8 ly.list):=⟨rfl,mT l _ 314 1 8 rfl ϐ⟩;unfold jC at A;change Hid (∀ i,BQ l i->Calls _ _ _ i (fun e aL=>∃ H c,e=ŗ (D H (L (pV b)) c)/\Μ i.heap.size aL (D H (L (pV b)) c) (L (pV b)) (pV b)/\BQ i aL))at A;unfold iK;clear aJ;go_enter func146,ntmps146;go_upto_region 2 with fail
 generalize å l (C #[ĭ .u32 1779033703,ĭ .u32 3144134277,ĭ .u32 1013904242,ĭ .u32 2773480762,ĭ .u32 1359893119,ĭ .u32 2600822924,ĭ .u32 528734635,ĭ .u32 1541459225] 314)=bm at *;generalize pV b=j at *;rw[M]at A;go_wp2_with fail
 refine(A.o _ R).M ?_;rintro e bk ⟨aU,c1,rfl,aa,r⟩;have aw:=R.t r;have⟨V,aA⟩:=π aa.rd (w.o.B r);have br:64*m<=9223372036854775807:=aa.le;clear r aa w A R;go_wp2_with fail
 go_loopw [3,5] (fun ar t z=>∃ (d:Nat) (a:Option Addr) (c:Nat) (s:S8),d<=m/\t=G ((64*d:Nat):Int)/\ar=D a 8 c/\Hid (jR l.heap.size z (D a 8 c) 8 s.list)/\Hid s.ok/\Hid (gZ s (j.drop (64*d))=gZ ly j)/\BQ l z/\BQ bk z) (fun _ t _=>64*m - (RowKit.intOf t).toNat)
 .exact⟨0,_,8,ly,Ζ _,rfl,rfl,aA,uC,rfl,aw,ρ _ _⟩
 obtain⟨d,a,c,s,bh,rfl,rfl,w,F,K,ad,r⟩:=hrel;by_cases bq:d<m
 .have aG:L j=64*m:=M
  obtain⟨y,off,bb,bo⟩:∃ y off,aU=J ⟨y,off,O⟩/\64*m<=c1:=by
   rcases V.o.2.2 with ⟨_,_,h,aY⟩|⟨y,off,bn,h,aY,aD,_⟩
   .injection h with _ h2 _;omega
   .injection h with Y aE h3;exact⟨y,off,Y,U⟩
  subst bb;have B:Hid (Rd wr (D (J ⟨y,off+64*d,O⟩) 64 (c1 - 64*d)) 64 1 (η ((j.drop (64*d)).take 64))):=by
   have aD:=vA (vz (V.o.B r) (k:=64*d) U) (k:=64) U;exact aD
  have az:Hid (L ((j.drop (64*d)).take 64)=64):=by show _=_;rw[gp,fT,aG];omega
  have n:Hid (gZ (lR s ((j.drop (64*d)).take 64)) (j.drop (64*(d+1)))=gZ ly j):=by show _=_;rw[<-K.o,vx s (b:=j.drop (64*d)) (by rw[fT];omega),qt];rfl
  obtain⟨aj,ak,al,am,an,ao,ap,aq⟩:=s;have T:=Zh (NH aj ak al am an ao ap aq F.o a c y (off+64*d) (c1 - 64*d) _ wr w.o.rd az.o B.o);have aS:Hid (lR ⟨aj,ak,al,am,an,ao,ap,aq⟩ ((j.drop (64*d)).take 64)).ok:=zb _ _;generalize lR ⟨aj,ak,al,am,an,ao,ap,aq⟩ ((j.drop (64*d)).take 64)=av at *;obtain⟨q,Q⟩:∃ q,64*d=q:=⟨_,rfl⟩;have bs:q+64<=64*m:=U;have aB:=Zh Q;rw[Q]at T;rw[Q];generalize 64*m=bj at *;clear Q B az F w K aG;have aM:(q:Int)<(bj:Int):=U;have aN:IntKind.i64.wrap ((q:Int)+64)=(q:Int)+64:=Ϗ;have bB:¬c1=q:=U;have bC:((q:Int)+64).toNat=q+64:=U;have bD:(0:Int)<=(q:Int):=U;have bE:(q:Int)+64<=(c1:Int):=U;have bF:(q:Int)<=(q:Int)+64:=U;have bG:q+64 - q=64:=U;go_wp2_with fail
  refine T.o.M ?_;rintro e bl ⟨aC,c2,rfl,ab,ae⟩;have aQ:=Zh (show jR l.heap.size bl (D aC 8 c2) 8 av.list from⟨ab.1,gX ab.2 ad.size⟩);have be:=ad.t ae;have bc:=r.t ae;have bA:IntKind.i64.wrap ((q:Int)+64)=((64*(d+1):Nat):Int):=by rw[aN];have:=aB.o;omega
  clear ab ae T aN;go_wp2_with fail
  go_roundw
  .exact⟨d+1,aC,c2,av,U,rfl,rfl,aQ,aS,n,be,bc⟩
  simp[RowKit.intOf];have:=aB.o;omega
 .obtain rfl:d=m:=U
  have aM:¬((64*d:Nat):Int)<((64*d:Nat):Int):=U;have aI:j.drop (64*d)=[]:=sx (by rw[M];exact NZ);have ay:Hid (lf s=kg b):=by
   have h:=K.o;rw[aI,tu s (b:=[]) ύ]at h;show _=_;rw[<-aO.o,<-h]
  rw[Jv]at ay;have HW:=Zh F.o.all;have bt:L s.list=8:=rfl;generalize s.list=ws at *;obtain⟨u,rfl⟩:∃ u:β,u=wr:=⟨_,rfl⟩;clear K F aI V aA aw M r;go_wp2_with fail
  clear aM;go_loopw [6,7] (fun ar t z=>∃ (d:Nat) (W:Option Addr) (X:Nat),d<=8/\t=G (d:Int)/\ar=D W (4*d) X/\Hid (Μ u.heap.size z (D W (4*d) X) (4*d) ((ws.take d).flatMap jo))/\BQ u z) (fun _ t _=>8 - (RowKit.intOf t).toNat)
  .exact⟨0,O,0,U,rfl,rfl,Μ.nil _ _,ρ _ _⟩
  obtain⟨d,W,X,bh,rfl,rfl,S,af⟩:=hrel;by_cases bp:d<8
  .have bw:(d:Int)<8:=U
   have bu:(0:Int)<=(d:Int):=U;obtain⟨g,o,rfl,bf⟩:=yf w.o.rd ϐ;have ag:d<L ws:=U;have I:=bf d _ (Ρ ag);obtain⟨au,bz⟩:=HW.o _ (Ψ ag);have n:Hid ((ws.take (d+1)).flatMap jo=(ws.take d).flatMap jo++jo ws[d]):=by show _=_;rw[jt ag,pI];simp
   generalize ws[d]=x at *;go_upto_region 11 with fail
   have f:BQ u wr.drew:=af.drew;refine ϯ (fun aT=>BQ u aT) 29 ϋ ?_;refine Zf (oi:=⟨J 28,_,_,_,_,_⟩) 0 f ?_;refine Zf (oi:=⟨J 29,_,_,_,_,_⟩) 1 f ?_;refine Zf (oi:=⟨J 30,_,_,_,_,_⟩) 2 f ?_;refine Zf (oi:=⟨J 31,_,_,_,_,_⟩) 3 f ?_ (v:=þ (J ⟨g,o+d,O⟩));refine Zb (oi:=⟨J 32,_,_,_,_,_⟩) 4 [5,6,27,28,29] f ?_ (v:=ĭ .u32 x) (hy:=?Y);case Y=>intro i p;have ai:=ζ p I;exact gx
   refine Zf (oi:=⟨J 33,_,_,_,_,_⟩) 5 f ?_ (v:=ĭ .u32 (x / 16777216)) (hy:=?aE);case aE=>intro i;go_simp;rw[Int.tdiv_eq_ediv_of_nonneg au,iV];omega
   refine Zf (oi:=⟨J 34,_,_,_,_,_⟩) 6 f ?_ (v:=ĭ .u8 (x / 16777216 % 256)) (hy:=?ba);case ba=>intro i;go_simp;rw[IntKind.wrap_u8]
   refine Zf (oi:=⟨J 35,_,_,_,_,_⟩) 7 f ?_;refine Zf (oi:=⟨J 36,_,_,_,_,_⟩) 8 f ?_;refine Zf (oi:=⟨J 37,_,_,_,_,_⟩) 9 f ?_ (v:=þ (J ⟨g,o+d,O⟩));refine Zb (oi:=⟨J 38,_,_,_,_,_⟩) 10 [11,12,13,27,28,29] f ?_ (v:=ĭ .u32 x) (hy:=?aZ);case aZ=>intro i p;have ai:=ζ p I;exact gx
   refine Zf (oi:=⟨J 39,_,_,_,_,_⟩) 11 f ?_ (v:=ĭ .u32 (x / 65536)) (hy:=?a0);case a0=>intro i;go_simp;rw[Int.tdiv_eq_ediv_of_nonneg au,iV];omega
   refine Zf (oi:=⟨J 40,_,_,_,_,_⟩) 12 f ?_ (v:=ĭ .u32 (x / 65536 % 256)) (hy:=?a1);case a1=>intro i;go_simp;rw[Int.tmod_eq_emod_of_nonneg U]
   refine Zf (oi:=⟨J 41,_,_,_,_,_⟩) 13 f ?_ (v:=ĭ .u8 (x / 65536 % 256)) (hy:=?a2);case a2=>intro i;go_simp;rw[IntKind.wrap_u8];omega
   refine Zf (oi:=⟨J 42,_,_,_,_,_⟩) 14 f ?_;refine Zf (oi:=⟨J 43,_,_,_,_,_⟩) 15 f ?_;refine Zf (oi:=⟨J 44,_,_,_,_,_⟩) 16 f ?_ (v:=þ (J ⟨g,o+d,O⟩));refine Zb (oi:=⟨J 45,_,_,_,_,_⟩) 17 [18,19,20,27,28,29] f ?_ (v:=ĭ .u32 x) (hy:=?a3);case a3=>intro i p;have ai:=ζ p I;exact gx
   refine Zf (oi:=⟨J 46,_,_,_,_,_⟩) 18 f ?_ (v:=ĭ .u32 (x / 256)) (hy:=?a4);case a4=>intro i;go_simp;rw[Int.tdiv_eq_ediv_of_nonneg au,iV];omega
   refine Zf (oi:=⟨J 47,_,_,_,_,_⟩) 19 f ?_ (v:=ĭ .u32 (x / 256 % 256)) (hy:=?a5);case a5=>intro i;go_simp;rw[Int.tmod_eq_emod_of_nonneg U]
   refine Zf (oi:=⟨J 48,_,_,_,_,_⟩) 20 f ?_ (v:=ĭ .u8 (x / 256 % 256)) (hy:=?a6);case a6=>intro i;go_simp;rw[IntKind.wrap_u8];omega
   refine Zf (oi:=⟨J 49,_,_,_,_,_⟩) 21 f ?_;refine Zf (oi:=⟨J 50,_,_,_,_,_⟩) 22 f ?_;refine Zf (oi:=⟨J 51,_,_,_,_,_⟩) 23 f ?_ (v:=þ (J ⟨g,o+d,O⟩));refine Zb (oi:=⟨J 52,_,_,_,_,_⟩) 24 [25,26,27,28,29] f ?_ (v:=ĭ .u32 x) (hy:=?a7);case a7=>intro i p;have ai:=ζ p I;exact gx
   refine Zf (oi:=⟨J 53,_,_,_,_,_⟩) 25 f ?_ (v:=ĭ .u32 (x % 256)) (hy:=?a8);case a8=>intro i;go_simp;rw[Int.tmod_eq_emod_of_nonneg U]
   refine Zf (oi:=⟨J 54,_,_,_,_,_⟩) 26 f ?_ (v:=ĭ .u8 (x % 256)) (hy:=?a9);case a9=>intro i;go_simp;rw[IntKind.wrap_u8];omega
   refine Κ (fuel:=2) 27 ϋ rfl ?_;intro b1 E;go_simp;have Z:BQ wr (å wr.drew (C #[ĭ .u8 (x / 16777216 % 256),ĭ .u8 (x / 65536 % 256),ĭ .u8 (x / 256 % 256),ĭ .u8 (x % 256)] 5)):=(ρ wr.heap.size wr).drew.A NZ _;have N:=af.t Z;refine E _ _ N ?_;clear E b1 f;have⟨B,ax⟩:=π (jl wr.drew #[ĭ .u8 (x / 16777216 % 256),ĭ .u8 (x / 65536 % 256),ĭ .u8 (x / 256 % 256),ĭ .u8 (x % 256)] 5 4 (jo x) rfl (pP x).symm ϐ) (S.o.B Z);refine Κ (fuel:=1) 28 ϋ rfl ?_;intro b1 E;refine xT rfl (.tmp 28) (.tmp 55) rfl u.heap.size _ _ (4*d) 4 _ (jo x) rfl ax.o rfl rfl B.o U N.size ?_;intro aV aX bx ac aH;rw[<-n.o]at ac;have aF:=N.trans aH;have aR:=Zh ac;refine E _ _ aF ?_;clear E b1 aH ac B ax Z N;refine Zl ?_;refine Zd ?_;go_wp2_with fail
   go_roundw
   .exact⟨d+1,aV,aX,U,ϕ,rfl,aR.o,aF⟩
   simp[RowKit.intOf];omega
  .have bv:¬(d:Int)<8:=U
   obtain rfl:d=8:=U;have aK:ws.take 8=ws:=gF U;have ah:=S.o;rw[aK,ay.o]at ah;have bg:=oM (P:=prog) wr 31 9 5 gv mA kH _ (kg b) ah.rd;simp only[Nat.reduceMul]at bg;have aP:=Zh (ad.t af);clear ah aK S;go_wp2;go_ret;exact⟨rfl,aP.o⟩
