/- Part 34 of the proof. -/
import Derived.Test.YtpilfbcffofheaaGreatDoorm31
import Derived.Test.YtpilfbcffofheaaGreatDoorm33
set_option linter.all false
set_option maxRecDepth 100000
set_option maxHeartbeats 16000000
namespace Go.Proofs.YtpilfbcffofheaaGreatDoor
open Go.RowKit Go.Proofs.Tryz Go.Sort
open Value renaming slice->D,agg->ā,string->š
open Option renaming none->O,some->J
open List renaming length->L
open Obj renaming cells->C
open Ending renaming returned->ŗ
open World renaming alloc->å,setCell->ŝ
structure mo (w0:β) (g:Nat) (a b c:γ) (W:β):Prop where
 row:W.heap[g]?=J (C #[š (δ a),š (δ b),š (δ c)] 374 (0,0))
 b:BQ w0 W
 lo:w0.heap.size<=g
def mo.call {w0 g a b c W W'} (h:mo w0 g a b c W) (d:BQ W W'):mo w0 g a b c W':=⟨θ h.row d,h.b.t d,h.lo⟩
def mo.set0 {w0 g a b c W} (h:mo w0 g a b c W) (x):mo w0 g x b c (ŝ W ⟨g,0,O⟩ (š (δ x))):=⟨υ _ g 0 _ _ _ h.row,h.b.S h.lo _,h.lo⟩
def mo.set1 {w0 g a b c W} (h:mo w0 g a b c W) (x):mo w0 g a x c (ŝ W ⟨g,1,O⟩ (š (δ x))):=⟨υ _ g 1 _ _ _ h.row,h.b.S h.lo _,h.lo⟩
def mo.set2 {w0 g a b c W} (h:mo w0 g a b c W) (x):mo w0 g a b x (ŝ W ⟨g,2,O⟩ (š (δ x))):=⟨υ _ g 2 _ _ _ h.row,h.b.S h.lo _,h.lo⟩
def EX (v:ε) (n d) (w:β) (h:fN w v n d) (aF:iC d=true) (aJ:∀ e∈d,L e.1<=64) (aX:n<=100000000) :
  Calls prog 218 #[v] w fun e w'=>∃ a c,e=ŗ (D a (n+1) c)/\iY w.heap.size w' (D a (n+1) c) (n+1) (iD d)/\BQ w w':=by
 have x:=Zh h.1;obtain⟨aP,c,rfl,aW,Y⟩:=ic h;have Z:=Zh (fun u=>wS aF aJ u);have ad:=Zh (fun v a6 aw aI t=>NW tw v a6 aw aI t);clear aF aJ h;unfold iD;rw[x.o];go_enter func218,ntmps218;go_wp2;go_loopw [3,4] (fun v u wr=>∃ (f:Nat) (z:Int) (E:Option Addr) (c1:Nat),f<=n+1/\z+1=f/\u=G z/\v=D E f c1/\Hid (iY w.heap.size wr (D E f c1) f (oG d f))/\BQ w wr) (fun _ u _=>(n - intOf u).toNat)
 .exact⟨0,_,O,0,Ζ _,rfl,rfl,rfl,iY.nil _ _,ρ _ _⟩
 obtain⟨f,z,E,c1,aR,aZ,rfl,rfl,l,r⟩:=hrel;by_cases aT:f<n+1
 .have a1:z<(n:Int):=U
  obtain⟨H,ah⟩:∃ V,Ϣ []=V:=⟨_,rfl⟩;have ab:=Zh (ad.o _ _ wr (sZ wr) rfl);rw[ah]at ab;go_wp2_with fail
  refine ab.o.M ?_;rintro e o ⟨rfl,ai⟩;have aA:BQ wr (å o (C #[š ⟨#[]⟩,š ⟨#[]⟩,š (δ H)] 374)):=ai.al _;have g:Hid (mo wr o.heap.size [] [] H (å o (C #[š ⟨#[]⟩,š ⟨#[]⟩,š (δ H)] 374))):=⟨φ o _,aA,ai.size⟩
  clear ab
  go_upto_if 15 with fail
  generalize å o _=aN at *;go_cut [] (fun wc=>Hid (mo wr o.heap.size (mx d f) [] (Ϣ (mq d f)) wc))
  case first =>
   by_cases aK:0<=z
   .obtain⟨m,rfl⟩:=Int.eq_ofNat_of_zero_le aK
    have aG:f=m+1:=U;have s:m<L d:=ι x.o;obtain⟨a5,off,da,dc,rfl,I,az,r2⟩:=Y.o m s;have aj:=r.t g.o.b;have f1:=ζ aj I;have f2:=ζ aj az;have p:Hid (mx d f=d[m].1/\mq d f=d[m].2):=by
     show _/\_;unfold mx mq;rw[κ U,κ U,aG,qo,fX,Ρ s];exact⟨rfl,rfl⟩
    have t:=(Z.o f).1;have av:=Zh r2;rw[p.o.2]at t;have aq:=Zh t;generalize d[m].1=q at *;generalize d[m].2=X at *;obtain⟨k,i⟩:∃ V,Ϣ X=V:=⟨_,rfl⟩;have y:=Zh (g.o.set0 q);have ac:=Zh (ad.o _ X _ (av.o.B (r.t y.o.b)) aq.o);rw[i]at ac;have ar:=Zh i;clear i;obtain⟨⟨S,T,b⟩,⟨K,M,N⟩,aU⟩:=Β g.o.row;unfold Ϫ at f1;clear I az ai aG aZ r2 t;go_wp2_with fail
    refine ac.o.M ?_;rintro e a2 ⟨rfl,aC⟩;have j:=Zh (y.o.call aC);have A:=Zh (j.o.set2 k);obtain⟨⟨S,T,b⟩,⟨K,M,N⟩,aH⟩:=Β j.o.row;clear aC ac;go_wp2_with fail
    go_meet;case rel=>rw[p.o.1,p.o.2,ar.o];exact A
   .have p:Hid (mx d f=[]/\mq d f=[]):=by
     obtain rfl:f=0:=U;exact⟨rfl,rfl⟩
    go_wp2_with fail
    go_meet;case rel=>rw[p.o.1,p.o.2,ah];exact g
  case rest =>
   have g:=hcut;clear hcut;obtain⟨q,P⟩:∃ W,mx d f=W:=⟨_,rfl⟩;obtain⟨k,i⟩:∃ W,Ϣ (mq d f)=W:=⟨_,rfl⟩;rw[P,i]at g
   go_upto_if 33 with fail
   go_cut [] (fun wc=>Hid (mo wr o.heap.size q (ll d f) k wc))
   obtain⟨⟨S,T,b⟩,⟨K,M,N⟩,aH⟩:=Β g.o.row;case first =>
    by_cases aS:f<n
    .have s:f<L d:=ι x.o
     obtain⟨a5,off,da,dc,rfl,I,-,-⟩:=Y.o f s;have f1:=ζ (r.t g.o.b) I;have F:Hid (ll d f=d[f].1):=by show _=_;unfold ll;rw[fX,Ρ s];rfl
     generalize d[f].1=B at *;have y:=Zh (g.o.set1 B);have a4:IntKind.i64.wrap (z+1)=(f:Int):=Ϗ;unfold Ϫ at f1;clear I aZ;go_wp2_with fail
     go_meet;case rel=>rw[F.o];exact y
    .have F:Hid (ll d f=[]):=by show _=_;unfold ll;rw[fX,ls (ι x.o)];rfl
     go_wp2_with fail
     go_meet;case rel=>rw[F.o];exact g
   case rest =>
    have j:=hcut;clear hcut;obtain⟨⟨S,T,b⟩,⟨K,M,N⟩,aV⟩:=Β j.o.row;have au:Hid (L k=32):=by show _=_;rw[<-i];exact iq _
    have Q:=Z.o f;rw[P]at Q;have an:Hid (mS d f=gJ q (ll d f) k):=by show _=_;unfold mS;rw[P,i]
    have ae:=Zh (vd d f);rw[an.o]at ae;have aa:=Zh Q;clear P Q i;generalize ll d f=B at *;have HW:=Zh (NR q B k wc aa.o.2.1 aa.o.2.2 au.o);unfold jC at HW;generalize gJ q B k=af at *;generalize aY:L af=aL at *;go_wp2_with fail
    refine HW.o.M ?_;rintro e aM ⟨aO,aQ,rfl,ag,aD⟩;have A:=Zh (j.o.call aD);have am:=Zh (l.o.B A.o.b);have ak:=r.t A.o.b;have⟨al,ao⟩:=π (ag.apart l.o j.o.b.size) (ag.M (gj r.size j.o.b.size));clear ag aD HW S T b K M N aV;go_wp2_with (at_builtin;refine vO rfl _ _ rfl _ _ _ f aL _ af aM _ rfl rfl am.o ao.o al.o rfl U ak.size ?_;intro ax ay a3 R aE;have aB:=(ak.al _).trans aE)
    rw[<-ae.o]at R;have ap:=Zh R;clear aE R;go_roundw
    .exact⟨ _,z+1,ax,ay,U,U,ϕ,rfl,ap.o,aB⟩
    exact ω
 .obtain rfl:f=n+1:=U
  obtain rfl:z=(n:Int):=U;have a0:¬(n:Int)<(n:Int):=U;go_wp2;go_ret;exact⟨E,c1,rfl,l.o,r⟩
def NK (v:ε) (n d) (w:β) (h:fN w v n d) (i:iC d=true) (k:∀ e∈d,L e.1<=64) (y:n<=100000000) :
  Calls prog 219 #[v] w (iK (ib d) w):=by
 have m:=Zh (EX v n d w h i k y);have g:Hid (L (iD d)=n+1):=by show _=_;rw[qJ,h.1]
 have o:Hid (∀ x∈iD d,L x<=200):=fun x a=>by
  unfold iD oG at a;obtain⟨A,-,rfl⟩:=ih.1 a;exact Ab i k A
 obtain⟨H,c,rfl,I,-⟩:=ic h;unfold iK;go_enter func219,ntmps219;go_wp2_with fail
 refine m.o.M ?_;rintro e B ⟨F,c1,rfl,z,r⟩;have f:=Zh (EW tw _ _ B z.rd (by rw[g.o];omega) (fun x a=>ι (o.o x a)));unfold rA at f;go_wp2_with fail
 refine f.o.M ?_;rintro e E ⟨N,K,c2,rfl,j,s⟩;have p:=r.t s;have u:=j.1;have b:=Zh (AE tw _ _ _ E NZ (by rw[hU,g.o];omega) (kv _) (by rw[u];exact j.rd));have l:Hid (Υ ((iD d).map ϴ)=ib d):=rfl;rw[l.o]at b;unfold iK at b;go_wp2_with fail
 refine b.o.M ?_;rintro e M ⟨rfl,t⟩;have q:=p.t t;go_wp2;go_ret;exact⟨rfl,q⟩
def Oc (f t ao n c d) (w:β) (h:fN w (D ao n c) n d) (q:iC d=true) (u:∀ e∈d,L e.1<=64) (r:n<=100000000) :
  Calls prog 153 #[ā #[G f,G t,D ao n c]] w fun e w'=>e=ŗ (ā #[G f,G t,G ((n+1:Nat):Int),š (δ (ib d))])/\BQ w w':=by
 have z:=Zh (fun b (a:BQ w b)=>EX _ n d b (h.B a) q u r);have p:=Zh (fun b (a:BQ w b)=>NK _ n d b (h.B a) q u r);obtain⟨P,Q,ad,ae,m⟩:=fZ (w:=w) (A:=C #[G f,G t,D ao n c] 107) (Z:=C #[G 0,G 0,G 0,š ⟨#[]⟩] 250) RZ;unfold iK at p;generalize ib d=o at *;go_enter func153,ntmps153;go_upto_region 1 with fail
 generalize å (å w _) _=k at *;obtain⟨⟨c0,c1,c2⟩,-,-⟩:=Β P;have g:BQ k k.drew:=RZ.drew;refine ϯ (fun E=>BQ k E) 10 ϋ ?_;refine Zf (oi:=⟨ _,_,_,_,_,_⟩) 0 g ?_;refine Zb (oi:=⟨J 4,_,_,_,_,_⟩) 1 [9,10] g ?_ (v:=ā #[G f,G t]) (hy:=?F);case F=>intro b a;have x:=ζ a c0;have aa:=ζ a c1;exact gx
 refine Zf (oi:=⟨ _,_,_,_,_,_⟩) 2 g ?_;refine Zb (oi:=⟨J 6,_,_,_,_,_⟩) 3 [4,5,8,9,10] g ?_ (v:=D ao n c) (hy:=?R);case R=>intro b a;have x:=ζ a c2;exact gx
 refine Zf (oi:=⟨ _,_,_,_,_,_⟩) 6 g ?_;refine Zb (oi:=⟨J 10,_,_,_,_,_⟩) 7 [8,9,10] g ?_ (v:=D ao n c) (hy:=?H);case H=>intro b a;have x:=ζ a c2;exact gx
 refine Κ (fuel:=4) 4 ϋ rfl ?_;intro K l;go_simp;refine(z.o _ (m.t g)).M ?_;rintro e ab ⟨a0,a1,rfl,-,M⟩;have i:=g.t M;refine l _ _ i ?_;refine Zf (oi:=⟨ _,_,_,_,_,_⟩) 5 i ?_;refine Κ  8 ϋ rfl ?_;intro K l;go_simp;refine(p.o _ (m.t i)).M ?_;rintro e ac ⟨rfl,N⟩;have j:=i.t N;refine l _ _ j ?_;refine Zf (oi:=⟨ _,_,_,_,_,_⟩) 9 j ?_;have s:=θ Q j;have I:=m.t j;have⟨B,y⟩:=π (oh s (G f) (G t) (G (n+1)) (š (δ o))) (pd I (gu _ 1) (G f) (G t) (G (n+1)) (š (δ o)));obtain⟨⟨S,d1,d2,T⟩,⟨V,W,X,Y⟩,-⟩:=ϩ s;refine Zl ?_;refine Zd ?_;go_wp2;exact Ω  (jf   rfl _ _ _ _ _ _ _ rfl B.o underlying250 rfl ϋ) rfl ⟨rfl,y.o⟩
def NM (da dc sa sc) (x:List (γ)) (ps m) (w:β) (l:Ε w (D da (L x) dc) x) (p:ϣ x w (D sa (L ps) sc) ps) (n:Ϻ x ps m) (i:L x<=40) :
  Calls prog 152 #[ā #[D da (L x) dc,D sa (L ps) sc]] w fun e w'=>e=ŗ (ā #[D da (L x) dc,D sa (L ps) sc])/\BQ w w':=by
 obtain⟨d,o,u,v,b⟩:=fZ (w:=w) (A:=C #[D da (L x) dc,D sa (L ps) sc] 64) (Z:=C #[D O 0 0,D O 0 0] 64) RZ;have g:=Zh (NX da dc sa sc x ps m _ (l.B b) (p.B b) n i);obtain⟨⟨c0,c1⟩,-,-⟩:=ν d;generalize (L x)=nd at *;generalize (L ps)=np at *;go_enter func152,ntmps152;go_upto_region 1 with fail
 generalize å (å w _) _=q at *;go_wp2_with fail
 refine g.o.M ?_;rintro e t ⟨rfl,a⟩;have k:=b.t a;have j:=θ d a;have c:=θ o a;have⟨h,f⟩:=π (fS c (D da nd dc) (D sa np sc)) (ga k (gu _ 1) (D da nd dc) (D sa np sc));obtain⟨⟨c0,c1⟩,-,-⟩:=ν j;obtain⟨⟨r,d1⟩,⟨s,f1⟩,-⟩:=ν c;go_wp2;exact Ω  (jf   rfl _ _ _ _ _ _ _ rfl h.o underlying64 rfl ϋ) rfl ⟨rfl,f.o⟩
def KP:(prog.info? 250).map (fun i=>(i.zero,i.size,i.bytes))=J (J (ā #[G 0,G 0,G 0,š ⟨#[]⟩]),4,40):=ϋ
def Od (da dc sa sc) (ď:List (γ)) (ps m) (w:β) (ah:Ε w (D da (L ď) dc) ď) (I:ϣ ď w (D sa (L ps) sc) ps) (g:Ϻ ď ps m) (ac:L ď<=40) :
  Calls prog 89 #[ā #[D da (L ď) dc,D sa (L ps) sc]] w fun e w'=>∃ j c,e=ŗ (D j (L ps) c)/\w'.ownsRow w.heap.size 250 4 (D j (L ps) c) (L ps) (fP ď ps)/\BQ w w':=by
 obtain⟨ap,hi,am,an,ao⟩:=Ϩ KP;obtain⟨H,aQ,d⟩:=fO (w:=w) (A:=C #[D da (L ď) dc,D sa (L ps) sc] 64) RZ;have X:=Zh (NM da dc sa sc ď ps m _ (ah.B d) (I.B d) g ac);have Q:=Zh (fun a k j c l (aD:BQ w l) (h:fN l _ _ _)=>Oc (ps[a].1:Int) (ps[a].2:Int) j (L (Δ ď ps[a])) c (Δ ď ps[a]) l h (by have h:=(nC g k).1;simp only[lZ,gt]at h;simp[h]) (fun e aj=>((nC g k).2.1 e aj).1) (ι (nC g k).2.2));obtain⟨aM,aN,K,aG,a1⟩:=qX I;simp only[Χ,ϵ]at K;obtain⟨rfl,rfl⟩:=K;have aE:=g.np;obtain⟨⟨c0,c1⟩,-,-⟩:=ν H;generalize (L ď)=nd at *;go_enter func89,ntmps89;go_upto_region 1 with fail
 generalize å w _=aA at *;go_wp2_with fail
 refine X.o.M ?_;rintro e aw ⟨rfl,B⟩;have z:=θ H B;have ag:=d.t B;have af:=fS z (D da nd dc) (D sa (L ps) sc);have F:=ga ag NZ (D da nd dc) (D sa (L ps) sc);obtain⟨⟨c0,c1⟩,⟨aB,f1⟩,-⟩:=ν z;go_upto_region 2 with fail
 generalize ŝ (ŝ aw _ _) _ _=x at *;obtain⟨⟨aH,ar⟩,-,-⟩:=ν af;go_wp2_with fail
 go_loopw [3,4] (fun av r wr=>∃ (a:Nat) (i:Option Addr) (c1:Nat),a<=L ps/\r=G (a:Int)/\av=D i a c1/\Hid (wr.ownsRow x.heap.size 250 4 (D i a c1) a (fP ď (ps.take a)))/\BQ x wr) (fun _ r _=>L ps - (intOf r).toNat)
 .exact⟨0,O,0,Ζ _,rfl,rfl,gQ _ _ _ _,ρ _ _⟩
 obtain⟨a,i,c1,k,rfl,rfl,s,o⟩:=hrel;have d:=F.t o;have aK:=ζ o ar;by_cases p:a<L ps
 .obtain⟨a0,off,aa,ab,rfl,aF,ax,ay,az,ai⟩:=a1.o a p
  have au:(a:Int)<(L ps:Int):=U;have aI:(0:Int)<=(a:Int):=U;have aJ:=ζ d ax;have l1:=ζ d ay;have l2:=ζ d az;have⟨W,T⟩:=π (AP ď ps a p) (Q.o a p aa ab wr d (ai.B d));have V:Hid (ma ď ps[a]=[G ps[a].1,G ps[a].2,G ((L (Δ ď ps[a])+1:Nat):Int),š (δ (ib (Δ ď ps[a])))]):=rfl;generalize ma ď _=sg at *;generalize δ _=v at *;generalize aC:((L (Δ ď _)+1:Nat):Int)=u at *;generalize(L (Δ ď _))=aL at *;generalize ps[a].1=f at *;generalize ps[a].2=M at *;go_wp2_with fail
  refine T.o.M ?_;rintro e N ⟨rfl,E⟩;have ad:=o.t E;have b:=Zh (ψ s.o E);have y:=(ρ _ N).A NZ (C #[G f,G M,G u,š v] 250);have t:=Zh (ψ b.o y);have n:=ad.t y;go_wp2_with (at_builtin;refine ϻ rfl _ _ _ _ rfl _ 250 ap _ 4 _ underlying103 hi am an ao rfl _ a _ rfl t.o _ 1 [G f,G M,G u,š v] rfl (gh underlying103 N _ 4 1 1 rfl ϗ) ώ U n.size ?_;intro aO aP q ak _ _;have ae:=n.grown ak n.size (fun aq al=>(t.o.lt aq al).1))
  obtain⟨Y,Z,rfl⟩:=Η q;rw[<-V.o,<-W.o]at q;have S:=Zh q;go_roundw
  .exact⟨ _,Y,Z,U,ϕ,rfl,S.o,ae⟩
  exact ω
 .obtain rfl:a=L ps:=U
  have au:¬(L ps:Int)<(L ps:Int):=U;have P:=s.o;rw[nL]at P;have R:=Zh (gX P F.size);go_wp2;go_ret;exact⟨i,c1,rfl,R.o,d⟩
def NO (da dc sa sc) (ď:List (γ)) (ps m) (w:β) (z:Ε w (D da (L ď) dc) ď) (aj:ϣ ď w (D sa (L ps) sc) ps) (E:Ϻ ď ps m) (W:L ď<=40) :
  Calls prog 46 #[ā #[D da (L ď) dc,D sa (L ps) sc]] w fun e w'=>∃ x c,e=ŗ (ā #[G (L ď),š (δ (ϡ ď)),D x (L ps) c])/\Rd w' (D x (L ps) c) (L ps) 4 (fP ď ps)/\BQ w w':=by
 obtain⟨ah,ai,aB,t,s⟩:=fZ (w:=w) (A:=C #[D da (L ď) dc,D sa (L ps) sc] 64) (Z:=C #[G 0,š ⟨#[]⟩,D O 0 0] 105) RZ;have u:=Zh (fun b (f:BQ w b)=>EW tw _ ď b (z.B f) (by omega) (fun d h=>ι (E.ld d h)));have p:=Zh (fun H n b (ae:L ď=n) (h:Rd b H n 1 _)=>AE tw _ (ď.map ϴ) H b NZ (by rw[hU];omega) (kv _) (by rw[hU,ae];exact h));have S:=Zh (fun b (f:BQ w b)=>Od da dc sa sc ď ps m b (z.B f) (aj.B f) E W);have ad:Υ (ď.map ϴ)=ϡ ď:=rfl;rw[ad]at p;unfold iK at p;unfold rA at u;obtain⟨⟨c0,c1⟩,-,-⟩:=ν ah;have al:Hid (L ď=L ď):=rfl;have M:Hid (L (ď.map ϴ)=L ď):=hU ..;generalize ϡ ď=q at *;generalize ď.map ϴ=ak at *;generalize au:L ď=nd at *;generalize fP ď ps=am at *;generalize (L ps)=np at *;go_enter func46,ntmps46;go_upto_region 1 with fail
 generalize å (å w _) _=r at *;have g:BQ r r.drew:=RZ.drew;refine ϯ (fun T=>BQ r T) 10 ϋ ?_;refine Zf (oi:=⟨ _,_,_,_,_,_⟩) 0 g ?_;refine Zb (oi:=⟨J 4,_,_,_,_,_⟩) 1 [2,9,10] g ?_ (v:=D da nd dc) (hy:=?a1);case a1=>intro b f;have I:=ζ f c0;exact gx
 refine Zf (oi:=⟨ _,_,_,_,_,_⟩) 2 g ?_;refine Zf (oi:=⟨ _,_,_,_,_,_⟩) 3 g ?_;refine Zb (oi:=⟨J 7,_,_,_,_,_⟩) 4 [5,6,8,9,10] g ?_ (v:=D da nd dc) (hy:=?V);case V=>intro b f;have I:=ζ f c0;exact gx
 refine Zb (oi:=⟨J 10,_,_,_,_,_⟩) 7 [8,9,10] g ?_ (v:=ā #[D da nd dc,D sa np sc]) (hy:=?X);case X=>intro b f;have I:=ζ f c0;have ax:=ζ f c1;exact gx
 refine Κ (fuel:=4) 5 ϋ rfl ?_;intro K i;go_simp;refine(u.o _ (s.t g)).M ?_;rintro e ay ⟨an,aw,av,rfl,B,aa⟩;have y:=g.t aa;have af:=M.o.symm.trans B.1;subst af;have R:=Zh (p.o _ _ _ rfl B.rd);refine i _ _ y ?_;refine Κ  6 ϋ rfl ?_;intro K i;go_simp;refine R.o.M ?_;rintro e az ⟨rfl,ab⟩;have k:=y.t ab;refine i _ _ k ?_;refine Κ  8 ϋ rfl ?_;intro K i;go_simp;refine(S.o _ (s.t k)).M ?_;rintro e aA ⟨j,o,rfl,ag,ac⟩;have l:=k.t ac;have N:=Zh (gX ag k.size);refine i _ _ l ?_;refine Zf (oi:=⟨ _,_,_,_,_,_⟩) 9 l ?_;have F:=θ ai l;have Y:=s.t l;have⟨Q,a0,P⟩:=ϲ (jz F (G nd) (š (δ q)) (D j np o)) (kY Y (gu _ 1) (G nd) (š (δ q)) (D j np o)) (hR (hR (hR N.o (a:=⟨ _,0,O⟩) t (G nd)) (a:=⟨ _,1,O⟩) t (š (δ q))) (a:=⟨ _,2,O⟩) t (D j np o));obtain⟨⟨ao,d1,d2⟩,⟨ap,aq,ar⟩,-⟩:=Β F;refine Zl ?_;refine Zd ?_;go_wp2;exact Ω  (jf   rfl _ _ _ _ _ _ _ rfl Q.o underlying105 rfl ϋ) rfl ⟨j,o,rfl,Rd.of_own P.o,a0.o⟩
def GF {ops rest o} {a:Act} {Q:Exit->Act->β->Prop} {w:β} (q:o.guard=O) (s x)
  (t:o.op=.call {callee:=.builtin .append,args:= #[s,x],argTypes:= #[31,31]})
  (base) (v f:ε) (n m) (P N:γ) (g0) (p:g0<w.heap.size) (k:v.ownBlock≠J g0) (y:a.eval s=v) (d:Μ base w v n P) (z:a.eval x=f) (R:L N=m) (u:Rd w f m 1 (η N))
  (I:n+m<=70368744177664) (j:base<=w.heap.size)
  (h:∀ b c w',Μ base w' (D b (n+m) c) (n+m) (P++N)->Below base w w'->w'.heap[g0]?=w.heap[g0]?->(Value.slice b (n+m) c).ownBlock≠J g0->wpList prog ops Q rest (a.put o.dst (D b (n+m) c)) w'):wpList prog ops Q (o::rest) a w:=by
 obtain⟨F,hi,A,B,E⟩:=Ϩ lh;refine ϻ q s x _ _ t base 5 F _ 1 1 gv hi A B E rfl v n _ y d.2 f m _ z (u.src gv (mM N)) ώ U j ?_;intro K w' g i l H;obtain⟨b,c,rfl⟩:=Η g;refine h b c w' ⟨by simp[d.1,R],by rw[qx];exact g⟩ (RZ.grown i j fun M r=>(d.2.lt M r).1) (i.block g0 p fun e=>k e.symm) ?_;rcases l with e|e<;>rw[e]
 .exact k
 .intro e;injection e with e;omega
def NP (v:ε) (ď:List (γ)) (ps m) (w:β) (h:Rd w v (L ps) 4 (fP ď ps)) (k:Ϻ ď ps m) :
  Calls prog 86 #[ā #[G (L ď),š (δ (ϡ ď)),v]] w (jC (fV ď ps) w):=by
 have r:L (ϡ ď)=32:=mY (kv _);obtain⟨sa,sc,rfl,aA⟩:=tG h;have bG:=k.nd;have bI:=k.np;have aB:=Zh (fun d N=>Ν (nC k N).2.2 (gj (nU k.ch d N).2.2.2 k.le));obtain⟨s,b7,M⟩:=fO (w:=w) (A:=C #[G (L ď),š (δ (ϡ ď)),D sa (L ps) sc] 105) RZ;have V:=Zh (fun f=>si 8 (L ď) f U U);have W:=Zh (fun f=>si 8 (L ps) f U U);have bD:=Ϸ 8 (L ď) U;have bE:=Ϸ 8 (L ps) U;have ae:fV ď ps=ο (L ď)++ϡ ď++ο (L ps)++(ps.take (L ps)).flatMap (ip ď):=by rw[nL];rfl
 generalize fV ď ps=aD at *;unfold jC at V W ⊢;have⟨aE,aP⟩:=π r ae;clear ae r;generalize ϡ ď=y at *;generalize ο _=T at *;generalize ο _=t at *;obtain⟨⟨c0,c1,c2⟩,-,-⟩:=Β s;go_enter func86,ntmps86;go_upto_region 1 with fail
 generalize å w _=g at *;generalize (L ď)=nd at *;have i:BQ g g.drew:=RZ.drew;refine ϯ (fun aV=>BQ g aV) 6 ϋ ?_;refine Zf (oi:=⟨ _,_,_,_,_,_⟩) 0 i ?_;refine Zb (oi:=⟨J 7,_,_,_,_,_⟩) 1 [2,5,6] i ?_ (v:=G nd) (hy:=?aX);case aX=>intro f F;have bk:=ζ F c0;exact gx
 refine Zf (oi:=⟨ _,_,_,_,_,_⟩) 3 i ?_;refine Zb (oi:=⟨J 10,_,_,_,_,_⟩) 4 [5,6] i ?_ (v:=š (δ y)) (hy:=?aY);case aY=>intro f F;have bk:=ζ F c1;exact gx
 refine Κ (fuel:=2) 2 ϋ rfl ?_;intro b9 z;go_simp;refine(V.o _).M ?_;rintro e bW ⟨bs,bL,rfl,bf,a1⟩;have B:=i.t a1;have aF:=Zh (bf.M i.size);refine z _ _ B ?_;refine Κ  5 ϋ rfl ?_;intro b9 z;refine FP rfl _ _ rfl _ _ _ _ _ y rfl aF.o rfl aE.o U B.size ?_;intro bt bM bX ak a2;have E:=B.trans a2;have aG:=Zh ak;refine z _ _ E ?_;clear ak;refine Zl ?_;refine Zd ?_;generalize bA:L T+32=aw at *;have ag:=θ s E;have aU:=Zh s;clear s;obtain⟨⟨c0,c1,c2⟩,-,-⟩:=Β ag;go_wp2_with fail
 refine(W.o _).M ?_;rintro e bY ⟨bu,bN,rfl,al,K⟩;have af:=E.t K;have⟨aH,aQ⟩:=π (aG.o.B K) al.rd;have a0:=θ ag K;clear al;obtain⟨⟨c0,c1,c2⟩,-,-⟩:=Β a0;go_wp2_with (at_builtin;refine hG rfl _ _ rfl _ _ _ aw _ _ t rfl aH.o rfl rfl aQ.o U af.size ?_;intro aW bi bZ am a3)
 have⟨az,aI⟩:=π (af.trans a3) am;clear am;generalize T++y++t=aa at *;generalize bB:aw+L t=ax at *;have bF:ax<=100:=U;go_loopw [3,4] (fun v S ay=>∃ (d n:Nat) (a:Option Addr) (c:Nat),d<=L ps/\n<=100+60*d/\S=G (d:Int)/\v=D a n c/\Hid (Μ g.heap.size ay (D a n c) n (aa++(ps.take d).flatMap (ip ď)))/\BQ g ay) (fun _ S _=>L ps - (intOf S).toNat)
 .exact⟨0,ax,aW,bi,Ζ _,U,rfl,rfl,by simpa using aI,az.o⟩
 obtain⟨d,n,a,c,N,bC,rfl,rfl,j,p⟩:=hrel;obtain⟨⟨b4,b5,b6⟩,-,-⟩:=Β (θ aU.o p);by_cases P:d<L ps
 .obtain⟨b8,off,rfl,bm,bn,bo,bp⟩:=aA.o d P
  obtain⟨bJ,bK⟩:=aB.o d P;have q:=M.t p;have bj:(d:Int)<(L ps:Int):=U;have bS:(0:Int)<=(d:Int):=U;have bT:=ζ q bm;have l1:=ζ q bn;have l2:=ζ q bo;have l3:=ζ q bp;have aT:Hid ((ps.take (d+1)).flatMap (ip ď)=(ps.take d).flatMap (ip ď)++(ο ps[d].2++ο (L (Δ ď ps[d])+1)++ib (Δ ď ps[d]))):=by show _=_;rw[jt P,pI];simp[ip]
  have ba:=qB (Δ ď ps[d]);have Y:=Zh (fun f=>si 8 ps[d].2 f U U);have Z:=Zh (fun f=>si 8 (L (Δ ď ps[d])+1) f U U);have bU:=Ϸ 8 ps[d].2 U;have bV:=Ϸ 8 (L (Δ ď ps[d])+1) U;generalize ib _=x at *;generalize r:((L (Δ ď _)+1:Nat):Int)=X at *;generalize ο (L (Δ ď _)+1)=u at *;generalize ps[d].1=b at *;generalize ο _=BT at *;generalize ps[d].2=ab at *;generalize(ps.take d).flatMap _=bq at *;unfold jC at Y Z;have ad:=(ρ _ wr).A NZ (C #[G b,G ab,G X,š (δ x)] 250);have au:=φ wr (C #[G b,G ab,G X,š (δ x)] 250);have aN:=Zh (j.o.B ad);have a9:=p.t ad;have bd:(Value.slice a n c).ownBlock≠J wr.heap.size:=fun e=>absurd (j.o.2.lt _ e).2 (Nat.lt_irrefl _);clear r;go_upto_region 7 with fail
  generalize å wr _=br at *;obtain⟨⟨l,d1,d2,o⟩,-,-⟩:=ϩ au;go_wp2_with fail
  refine(Y.o _).M ?_;rintro e b0 ⟨bv,bO,rfl,an,H⟩;have⟨aO,aR⟩:=π (aN.o.B H) an.rd;have ah:=a9.t H;have Q:=θ au H;clear an;obtain⟨⟨l,d1,d2,o⟩,-,-⟩:=ϩ Q;go_upto_region 8 with (at_builtin;refine GF rfl _ _ rfl _ _ _ n _ _ BT _ (ς Q) bd rfl aO.o rfl rfl aR.o U ah.size ?_;intro bw bP b1 ao a4 bb be)
  have a5:=ah.trans a4;have aJ:=Zh ao;have ar:=bb.trans Q;clear ao;obtain⟨⟨l,d1,d2,o⟩,-,-⟩:=ϩ ar;go_wp2_with fail
  refine(Z.o _).M ?_;rintro e b2 ⟨bx,bQ,rfl,ap,I⟩;have⟨aK,aS⟩:=π (aJ.o.B I) ap.rd;have ai:=a5.t I;have R:=θ ar I;clear ap;obtain⟨⟨l,d1,d2,o⟩,-,-⟩:=ϩ R;go_upto_region 9 with (at_builtin;refine GF rfl _ _ rfl _ _ _ _ _ _ u _ (ς R) be rfl aK.o rfl rfl aS.o U ai.size ?_;intro bz bR b3 aq a6 bc bH)
  have aj:=ai.trans a6;have aL:=Zh aq;have bh:=bc.trans R;clear aq;obtain⟨⟨l,d1,d2,o⟩,-,-⟩:=ϩ bh;go_wp2_with (at_builtin;refine vP rfl _ _ rfl _ _ _ _ _ x rfl aL.o rfl ba U aj.size ?_;intro ac av bl bg a7)
  have a8:=aj.trans a7;have aM:Hid (Μ g.heap.size bl (D ac (n+L BT+L u+32) av) (n+L BT+L u+32) (aa++(ps.take (d+1)).flatMap (ip ď))):=by
   show Μ _ _ _ _ _;rw[aT.o];simpa only[gP] using bg
  go_roundw
  .exact⟨ _,_,ac,av,U,U,ϕ,rfl,aM,a8⟩
  exact ω
 .obtain rfl:d=L ps:=U
  have bj:¬(L ps:Int)<(L ps:Int):=U;rw[<-aP.o]at j;have aZ:=M.t p;have aC:=Zh (j.o.M M.size);obtain rfl:L aD=n:=j.o.1;go_wp2;go_ret;exact⟨a,c,rfl,aC.o,aZ⟩
def NN (v:ε) (E:List (γ)) (ps m) (w:β) (h:Rd w v (L ps) 4 (fP E ps)) (g:Ϻ E ps m) :
  Calls prog 45 #[ā #[G (L E),š (δ (ϡ E)),v]] w (iK (hh E ps) w):=by
 obtain⟨sa,sc,rfl,-⟩:=tG h;obtain⟨o,B,f⟩:=fO (w:=w) (A:=C #[G (L E),š (δ (ϡ E)),D sa (L ps) sc] 105) RZ;have HW:=Zh (NP _ E ps m _ (h.B f) g);have d:Hid (∀ a c b,Rd b (D a (L (fV E ps)) c) (L (fV E ps)) 1 (η (fV E ps))->Calls prog 85 #[G 3,D a (L (fV E ps)) c] b (iK (kg (UInt8.ofNat 3::fV E ps)) b)):=fun a c b h=>xE tw 3 a _ c _ b ϐ rfl (ι (ke g)) h;have p:kg (UInt8.ofNat 3::fV E ps)=hh E ps:=rfl;rw[p]at d;unfold jC at HW;unfold iK at d ⊢;obtain⟨⟨c0,c1,c2⟩,-,-⟩:=Β o;generalize hh E ps=s at *;generalize fV E ps=q at *;generalize (L E)=nd at *;generalize ϡ E=r at *;go_enter func45,ntmps45;go_upto_region 1 with fail
 generalize å w _=t at *;go_wp2_with fail
 refine HW.o.M ?_;rintro e y ⟨u,x,rfl,n,j⟩;have i:=Zh (d.o _ _ _ n.rd);have k:=f.t j;go_wp2_with fail
 refine i.o.M ?_;rintro e z ⟨rfl,l⟩;have hF:=k.t l;go_wp2;go_ret;exact⟨rfl,hF⟩
def NY (da dc sa sc) (F:List (γ)) (ps m) (w:β) (o:Ε w (D da (L F) dc) F) (r:ϣ F w (D sa (L ps) sc) ps) (d:Ϻ F ps m) (j:L F<=40) :
  Calls prog 20 #[ā #[D da (L F) dc,D sa (L ps) sc]] w (iK (hh F ps) w):=by
 obtain⟨q,E,a⟩:=fO (w:=w) (A:=C #[D da (L F) dc,D sa (L ps) sc] 64) RZ;have g:=Zh (NO da dc sa sc F ps m _ (o.B a) (r.B a) d j);have b:=Zh (fun f c (h:Rd c f _ 4 _)=>NN f F ps m c h d);obtain⟨⟨c0,c1⟩,-,-⟩:=ν q;unfold iK at b ⊢;generalize hh F ps=t at *;generalize (L F)=nd at *;generalize ϡ F=s at *;generalize fP F ps=u at *;generalize (L ps)=np at *;go_enter func20,ntmps20;go_upto_region 1 with fail
 generalize å w _=v at *;go_wp2_with fail
 refine g.o.M ?_;rintro e z ⟨x,y,rfl,p,k⟩;have i:=Zh (b.o _ _ p);have l:=a.t k;go_wp2_with fail
 refine i.o.M ?_;rintro e B ⟨rfl,n⟩;have hF:=l.t n;go_wp2;go_ret;exact⟨rfl,hF⟩
def sL {B} {w b:β} {a} {v:ε} (d:Below B w b) (c:a.block<B) (h:w.cell? a=J v):b.cell? a=J v:=(tX (d.block _ c)).trans h
def KO:(prog.info? 107).map (fun i=>(i.zero,i.size,i.bytes))=J (J (ā #[G 0,G 0,D O 0 0]),3,40):=ϋ
def Qh {l:List ε} {k a b c} (d:l[k*3]?=J a) (f:l[k*3+1]?=J b) (g:l[k*3+2]?=J c):l.take ((k+1)*3)=l.take (k*3)++[a,b,c]:=by
 have e:(k+1)*3=k*3+1+1+1:=U;rw[e,List.take_add_one,List.take_add_one,List.take_add_one,d,f,g];simp
structure yC (w W1:β) (D:ε) (O k:Nat) (v:ε) (cs:List ε) (W:β):Prop where
 row:W.heap[O]?=J (C #[D,v] 64 (0,0))
 own:W.ownsRow W1.heap.size 107 3 v k (cs.take (k*3))
 keep:∀ g,g<W1.heap.size->g≠O->W.heap[g]?=W1.heap[g]?
 b:BQ w W
 s:W1.heap.size<=W.heap.size
def Ln (da nd dc sa sc) (ď:List (γ)) (ps) (w:β) (aK:Ε w (D da nd dc) ď) (am:ϣ ď w (D sa (L ps) sc) ps) (a2:L ps<=64) :
  Calls prog 21 #[ā #[D da nd dc,D sa (L ps) sc]] w fun e w'=>∃ a c,e=ŗ (ā #[D da nd dc,D a (L ps) c])/\Ε w' (D da nd dc) ď/\ϣ ď w' (D a (L ps) c) ps/\BQ w w':=by
 have⟨ap,a0⟩:=π aK am;obtain⟨r,aO,aF⟩:=am;have⟨b1,Y⟩:=π aF aO;obtain⟨aS,hi,aP,aQ,aR⟩:=Ϩ KO;obtain⟨al,aN,bd,be,ah⟩:=fZ (w:=w) (A:=C #[D da nd dc,D sa (L ps) sc] 44) (Z:=C #[D O 0 0,D O 0 0] 64) RZ;obtain⟨⟨c0,c1⟩,-,-⟩:=ν al;go_enter func21,ntmps21;go_upto_region 1 with fail
 generalize å (å w _) _=j at *;have N:=(ρ _ j).A NZ (C #[D da nd dc,D O 0 0] 64);have ak:=φ j (C #[D da nd dc,D O 0 0] 64);go_upto_region 2 with fail
 generalize å j _=i at *;have aG:=θ al N;have aH:=θ aN N;have ag:=ah.t N;have B:=ς ak;have aq:Hid (yC w i (D da nd dc) j.heap.size 0 (D O 0 0) r i):=⟨ak,gQ _ _ _ _,fun _ _ _=>rfl,ag,NZ⟩;go_wp2_with fail
 go_loopw [4] (fun n aW=>∃ (d:Nat) (a:Option Addr) (c:Nat),d<=L ps/\n=G (d:Int)/\Hid (yC w i (D da nd dc) j.heap.size d (D a d c) r aW)) (fun n _=>L ps - (intOf n).toNat)
 .exact⟨0,O,0,Ζ _,rfl,aq⟩
 obtain⟨d,a,c,ai,rfl,f⟩:=hrel;obtain⟨⟨a5,o1⟩,⟨a6,p1⟩,-⟩:=ν f.o.row;obtain⟨⟨a8,aX⟩,-,-⟩:=ν ((f.o.keep _ U U).trans aG);by_cases aM:d<L ps
 .obtain⟨o,S,x,T,aV⟩:=b1.o d aM
  obtain⟨y,z,rfl,-⟩:=ic aV;have aT:(d:Int)<(L ps:Int):=U;have a4:(0:Int)<=(d:Int):=U;obtain⟨b,off,rfl,F⟩:∃ b off,sa=J ⟨b,off,O⟩/\∀ n x,r[n]?=J x->w.cell? ⟨b,off+n,O⟩=J x:=by
   rcases Y.o.2.2 with ⟨_,_,h,aD⟩|⟨b,off,a1,h,aD,s,E,M⟩
   .injection h with _ E _;omega
   .injection h with h4 _ _;exact⟨b,off,h4,M⟩
  have aU:=ζ f.o.b (F _ _ o);have l1:=ζ f.o.b (F _ _ S);have l2:=ζ f.o.b (F _ _ T);rw[<-iX]at l1 l2;have ax:=Zh (Qh o S T);have Q:b<i.heap.size:=by have:=ii w _ (F _ _ o);simp only at this;omega
  generalize(L (Δ ď _))=u at *;generalize ps[d].1=p at *;generalize ps[d].2=q at *;go_upto_region 5 with fail
  have k:Below i.heap.size wr wr.drew:=RZ.drew;refine ϯ (fun ay=>Below i.heap.size wr ay) 11 ϋ ?_;refine Zf (oi:=⟨ _,_,_,_,_,_⟩) 0 k ?_;refine Zb (oi:=⟨J 16,_,_,_,_,_⟩) 1 [9,11] k ?_ (v:=D a d c) (hy:=?s);case s=>intro aa m;have o:=sL m B o1;exact gx
  refine Zf (oi:=⟨ _,_,_,_,_,_⟩) 2 k ?_;refine Zb (oi:=⟨J 18,_,_,_,_,_⟩) 3 [5,6,7,8,9,11] k ?_ (v:=D (J ⟨b,off,O⟩) (L ps) sc) (hy:=?M);case M=>intro aa m;have o:=sL m ϑ aX;exact gx
  refine Zf (oi:=⟨ _,_,_,_,_,_⟩) 4 k ?_;refine Zf (oi:=⟨ _,_,_,_,_,_⟩) 5 k ?_;refine Zb (oi:=⟨J 21,_,_,_,_,_⟩) 6 [7,8,9,11] k ?_ (v:=ā #[G p,G q,D y u z]) (hy:=?aE);case aE=>intro aa m;have o:=sL m Q aU;have S:=sL m Q l1;have T:=sL m Q l2;exact gx
  refine Κ (fuel:=4) 7 ϋ rfl ?_;intro b0 t;go_simp;refine(HU p q y u z _).M ?_;rintro e K ⟨rfl,P⟩;have ao:i.heap.size<=wr.drew.heap.size:=f.o.s;have ac:=k.trans (P.M ao);refine t _ _ ac ?_;have av:=Zh (ψ (ψ f.o.own RZ.drew) P);have an:=gj ao P.size;refine Κ  8 ϋ rfl ?_;intro b0 t;go_simp;have ad:Below i.heap.size wr (å K (C #[G p,G q,D y u z] 107)):=ac.A an _;have ab:=(ρ _ K).A NZ (C #[G p,G q,D y u z] 107);refine t _ _ ad ?_;have X:=Zh (ψ av.o ab);refine Κ  9 ϋ rfl ?_;intro b0 t;refine lD rfl _ _ _ _ rfl _ 107 aS _ 3 _ underlying62 hi aP aQ aR rfl (D a d c) d _ rfl X.o _ 1 [G p,G q,D y u z] rfl (gh underlying62 K _ 3 1 1 rfl ϗ) ώ U ό ?_;intro a7 V R aL a3;obtain⟨H,I,rfl⟩:=Η R;rw[<-ax.o]at R;have l:=ad.grown aL (gj an ab.size) (fun g hg=>(X.o.lt g hg).1);refine t _ _ l ?_;refine Zf (oi:=⟨J 25,_,_,_,_,_⟩) 10 l ?_;have r1:=sL l B o1;have r2:V.frozen? ⟨j.heap.size,1,O⟩=false:=by rw[World.frozen?_of_block (l.block _ B)];exact p1
  have aY:=ag.size;have aZ:=ah.size;have ar:Hid (yC w i (D da nd dc) j.heap.size (d+1) (D H (d+1) I) r (ŝ V ⟨j.heap.size,1,O⟩ (D H (d+1) I))):=
   ⟨υ V _ 1 _ _ _ ((l.block _ B).trans f.o.row),hR R B _,fun g s E=>(Γ _ _ _ _ E).trans ((l.block g s).trans (f.o.keep g s E)),(f.o.b.trans (l.M aY)).S aZ _,by rw[nc];exact gj f.o.s l.size⟩
  refine Zl ?_;refine Zd ?_;go_wp2_with fail
  go_roundw
  .exact⟨ _,H,I,U,ϕ,ar⟩
  exact ω
 .obtain rfl:d=L ps:=U
  have aT:¬(L ps:Int)<(L ps:Int):=U;have aI:=f.o.b;have af:=(f.o.keep _ U U).trans aH;have⟨aw,W⟩:=π (fS af (D da nd dc) (D a (L ps) c)) (ga aI (gu _ 1) (D da nd dc) (D a (L ps) c));have aJ:=Y.o.1;have aj:=f.o.own;rw[gF (Nat.le_of_eq aJ)]at aj;have ae:w.heap.size+1<i.heap.size:=U;have au:=Zh (Rd.of_own (hR (hR aj (a:=⟨ _,0,O⟩) ae (D da nd dc)) (a:=⟨ _,1,O⟩) ae (D a (L ps) c)));obtain⟨⟨a9,ba⟩,⟨bb,bc⟩,-⟩:=ν af;go_wp2;exact Ω  (jf   rfl _ _ _ _ _ _ _ rfl aw.o underlying64 rfl ϋ) rfl ⟨a,c,rfl,ap.o.B W.o,⟨r,au.o,fun d ai=>by
   obtain⟨az,aA,x,aB,aC⟩:=b1.o d ai
   exact⟨az,aA,x,aB,aC.B W.o⟩⟩,W.o⟩
