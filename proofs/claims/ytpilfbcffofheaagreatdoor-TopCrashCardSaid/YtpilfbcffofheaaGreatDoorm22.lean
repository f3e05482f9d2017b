/- Part 22 of the proof. -/
import Derived.Test.YtpilfbcffofheaaGreatDoorm20
set_option linter.unusedVariables false
set_option linter.unusedSimpArgs false
set_option maxRecDepth 100000
set_option maxHeartbeats 8000000
namespace Go.Proofs.YtpilfbcffofheaaGreatDoor
open Go.Proofs.Tryz Go.RowKit Go.Sort
open Value renaming slice->D,agg->ā,string->š
open Obj renaming cells->C
open Ending renaming returned->ŗ
open Option renaming none->O,some->J
open List renaming length->L
open World renaming alloc->å,setCell->ŝ
theorem rE (da:Option Addr) (nd dc:Nat) (sa:Option Addr) (a sc:Nat) (docs:List (γ)) (ps:List (Nat×Nat)) (m:Nat) (w:β) (n:Ϩ w) (i:Δ w (D da nd dc) docs) (l:ϧ docs w (D sa a sc) ps) (j:ϵ docs ps m) :
  Calls prog 39 #[ā #[D da nd dc,D sa a sc]] w fun e w'=>e=ŗ (ā #[D da nd dc,D sa a sc])/\BQ w w':=by
 have q:=Zh (fun d (b:BQ w d)=>vL (D da nd dc) (D sa a sc) docs ps m d (n.below b) (i.below b) (l.below b) j);clear i l j n;have f:BQ w (å (å w (C #[D da nd dc,D sa a sc] 44)) (C #[D O 0 0,D O 0 0] 44)):=ġ.alloc ύ _;go_enter func39,ntmps39;go_wp2_with fail
 refine(q.o _ f).mono ?_;rintro e A ⟨rfl,g⟩;obtain⟨k,c,B,E,h⟩:=fU g;obtain⟨⟨y,z⟩,⟨t,f1⟩,-⟩:=ι k;obtain⟨⟨s,d1⟩,⟨u,x⟩,-⟩:=ι c;have r:=Zh (Ϲ c (D da nd dc) (D sa a sc));have o:=Zh (fS h (go _ 1) (D da nd dc) (D sa a sc));clear k c g f h;go_wp2;exact ϟ (v:=ā #[D da nd dc,D sa a sc]) (jX (p:=2) (ty:=44) rfl _ _ (w.heap.size+1) 44 _ (0,0) _ rfl r.o lh rfl ϋ) rfl ⟨rfl,o.o⟩
theorem Dl (v:ε) (k:ε) (docs:List (γ)) (ps:List (Nat×Nat)) (m:Nat) (w:β) (j:ϧ docs w k ps) (c:hE 0 ps m) :
  Calls prog 38 #[ā #[v,k]] w fun e w'=>e=ŗ (IZ m)/\BQ w w':=by
 obtain⟨sa,sc,rfl,q,f⟩:=rU j;clear j;by_cases h:L ps=0
 .have p:ps=[]:=ko h
  subst p;have l:m=0:=by have:=oH c;first|exact c.symm|(simp[hE]at c;omega)
  subst l;have g:BQ w (å w (C #[v,D sa 0 sc] 44)):=ġ;clear c f;simp only[gF];go_enter func38,ntmps38;go_wp2;go_ret;exact⟨rfl,g⟩
 .obtain⟨b,off,da,dc,rfl,o,c0,c1,c2,-⟩:=f.o (L ps - 1) ϊ
  have d:=uN c ϊ;rw[fR,Ρ ϊ]at d;simp only[Option.getD_some]at d;rw[d]at c1;have n:((L ps:Int)==0)=false:=by simp only[gl,ne_eq];omega
  obtain⟨a,i⟩:∃ a,L ps=a+1:=⟨L ps - 1,ϊ⟩;rw[i]at c1 n q o ⊢;simp only[pK]at c1;have r:=ζ ((φ w.heap.size w).alloc NZ (C #[v,D (J ⟨b,off,O⟩) (a+1) sc] 44)) c1;have g:BQ w (å w (C #[v,D (J ⟨b,off,O⟩) (a+1) sc] 44)):=ġ;have x:IntKind.i64.wrap ((a:Int)+1 - 1)=(a:Int):=Ϗ;have y:IntKind.i64.wrap (a:Int)=(a:Int):=Ϗ;have s:(a:Int)<(a:Int)+1:=ϊ;have t:(0:Int)<=(a:Int):=ϊ;have u:¬(a:Int)+1=0:=ϊ;clear f c d i c0 c2 h;go_enter func38,ntmps38;go_wp2;go_ret;exact⟨rfl,g⟩
theorem Dm (da:Option Addr) (nd dc:Nat) (sa:Option Addr) (c sc:Nat) (docs:List (γ)) (ps:List (Nat×Nat)) (m:Nat) (w:β) (k:Ϩ w) (j:Δ w (D da nd dc) docs) (g:ϧ docs w (D sa c sc) ps) (f:ϵ docs ps m) :
  Calls prog 17 #[ā #[D da nd dc,D sa c sc]] w fun e w'=>e=ŗ (IZ m)/\BQ w w':=by
 have n:=Zh (fun a (b:BQ w a)=>rE da nd dc sa c sc docs ps m a (k.below b) (j.below b) (g.below b) f);have l:=Zh (fun a (b:BQ w a)=>Dl (D da nd dc) (D sa c sc) docs ps m a (g.below b) f.ch);clear j g f k;have h:BQ w (å w (C #[D da nd dc,D sa c sc] 44)):=ġ;go_enter func17,ntmps17;go_wp2_with fail
 refine(n.o _ h).mono ?_;rintro e q ⟨rfl,i⟩;obtain⟨-,s,d⟩:=Ϻ i;clear i h;go_wp2_with fail
 refine(l.o _ d).mono ?_;rintro e r ⟨rfl,p⟩;have o:=d.trans (p.mono d.size);go_wp2;go_ret;exact⟨rfl,o⟩
def lZ (docs:List (γ)) (p:Nat×Nat):List ε:=[IZ p.1,IZ p.2,IZ ((L (Α docs p)+1:Nat):Int),š (δ (hV (Α docs p)))]
def Ϸ (docs:List (γ)) (ps:List (Nat×Nat)):List ε:=ps.flatMap (lZ docs)
theorem ML (docs:List (γ)) (ps:List (Nat×Nat)):L (Ϸ docs ps)=L ps*4:=by
 induction ps with
 |nil=>rfl
 |cons b ps a=>simp only[Ϸ,lg,ω,Ϧ]at a ⊢;rw[a];simp[lZ];omega
theorem Ef (docs:List (γ)) (ps:List (Nat×Nat)) (k:Nat) (a:k<L ps):Ϸ docs (ps.take (k+1))=Ϸ docs (ps.take k)++lZ docs ps[k]:=by
 unfold Ϸ;rw[kD a,qS];simp
theorem Cu:(prog.info? 198).map (fun i=>(i.zero,i.size,i.bytes))=J (J (ā #[IZ 0,IZ 0,IZ 0,š ⟨#[]⟩]),4,40):=ϋ
theorem oL {docs:List (γ)} {ps:List (Nat×Nat)} {m:Nat} (a:ϵ docs ps m) {k:Nat} (d:k<L ps):lH (ps[k].1:Int) (ps[k].2:Int) (Α docs ps[k])=true/\(∀ e∈Α docs ps[k],L e.1<=64/\L e.2<=1000)/\L (Α docs ps[k])<=2000000:=by
 obtain⟨p1,p2,f,i⟩:=qi a.ch k d;have:=a.nd;have:=a.le;refine⟨Df docs ps[k] f ϊ,fun e c=>?_,?_⟩
 .obtain⟨-,b,-,h,-⟩:=vy (show e∈iN docs ps[k].1 (ps[k].2 - ps[k].1)from c)
  exact⟨b,ϊ⟩
 .have g:=CO docs 2000 a.ld ps[k].1 (ps[k].2 - ps[k].1)
  have:(ps[k].2 - ps[k].1)*2000<=1000*2000:=pQ _ ϊ;show(L (iN docs ps[k].1 (ps[k].2 - ps[k].1)))<=_;omega
theorem KU (da:Option Addr) (nd dc:Nat) (sa:Option Addr) (sc:Nat) (docs:List (γ)) (ps:List (Nat×Nat)) (m:Nat) (w:β) (M:Ϩ w) (ad:Ϡ w) (Y:Δ w (D da nd dc) docs) (K:ϧ docs w (D sa (L ps) sc) ps) (p:ϵ docs ps m) :
  Calls prog 115 #[ā #[D da nd dc,D sa (L ps) sc]] w fun e w'=>∃ R c,e=ŗ (D R (L ps) c)/\w'.ownsRow w.heap.size 198 4 (D R (L ps) c) (L ps) (Ϸ docs ps)/\BQ w w':=by
 obtain⟨ai,hi,af,ag,ah⟩:=ϯ Cu;have aC:=Zh (fun l (n:BQ w l)=>rE da nd dc sa (L ps) sc docs ps m l (M.below n) (Y.below n) (K.below n) p);have ar:=Zh (fun a (o:a<L ps) s l (n:BQ w l) (h:fY l s (L (Α docs ps[a])) (Α docs ps[a]))=>My (ps[a].1:Int) (ps[a].2:Int) s (L (Α docs ps[a])) (Α docs ps[a]) l (ad.below n) (M.below n) h (oL p o).1 (oL p o).2.1 (by have:=(oL p o).2.2;omega));obtain⟨aY,aZ,ae,aT,aq⟩:=rU K;simp only[Ξ,Ϯ]at ae;obtain⟨rfl,rfl⟩:=ae;have aR:=p.np;clear Y K p M ad;have U:BQ w (å w (C #[D da nd dc,D sa (L ps) sc] 44)):=ġ;go_enter func115,ntmps115;go_wp2_with fail
 refine(aC.o _ U).mono ?_;rintro e al ⟨rfl,V⟩;obtain⟨H,a2,d⟩:=Ϻ V;obtain⟨⟨aj,ak⟩,⟨S,f1⟩,-⟩:=ι H;have I:=Ϲ H (D da nd dc) (D sa (L ps) sc);have W:=fS d NZ (D da nd dc) (D sa (L ps) sc);have aU:w.heap.size<(ŝ (ŝ al ⟨w.heap.size,0,O⟩ (D da nd dc)) ⟨w.heap.size,1,O⟩ (D sa (L ps) sc)).heap.size:=ό;clear U V H d;go_upto_region 2 with (fail)
 generalize ŝ (ŝ al ⟨w.heap.size,0,O⟩ (D da nd dc)) ⟨w.heap.size,1,O⟩ (D sa (L ps) sc)=g at *;obtain⟨⟨aj,ak⟩,⟨S,f1⟩,-⟩:=ι I;have az:=Zh I;clear I;go_wp2_with (at_make;refine wpList_make_own g rfl _ _ _ rfl g.heap.size 198 ai _ 4 underlying121 hi af ag .i64 .i64 _ (L ps) rfl rfl ύ (by rw[ah];omega) ώ NZ ?_;intro aQ ac aa;have z:BQ g aQ:=RZ.grown aa NZ (fun a o=>by cases o);obtain⟨⟨aN,aO⟩,⟨aF,aG⟩,-⟩:=ι (θ az.o z))
 have av:=Zh ac;have ap:=Zh z;have u:=Zh W;clear ac aa z W aj ak S f1 aN aO aF aG;go_loopw [3,17] (fun s N wr=>∃ (a:Nat) (q:Option Addr) (c1:Nat),a<=L ps/\N=IZ (a:Int)/\s=D q a c1/\Hid (wr.ownsRow g.heap.size 198 4 (D q a c1) a (Ϸ docs (ps.take a)))/\BQ g wr) (fun _ N _=>L ps - (intOf N).toNat)
 case atStart=>exact⟨0,_,_,Ι _,rfl,rfl,av.o,ap.o⟩
 case round =>
  obtain⟨a,q,c1,o,rfl,rfl,P,y⟩:=hrel;have d:=u.o.trans (y.mono u.o.size);by_cases F:a<L ps
  .obtain⟨b,off,v,x,rfl,aS,am,an,ao,Z⟩:=aq.o a F
   have aP:(a:Int)<(L ps:Int):=ϊ;have aV:(0:Int)<=(a:Int):=ϊ;have aW:=ζ d am;have l1:=ζ d an;have l2:=ζ d ao;have aB:=Zh (Ef docs ps a F);have E:BQ w (å wr (C #[IZ ps[a].1,IZ ps[a].2,D v (L (Α docs ps[a])) x] 92)):=d.alloc d.size _;have A:BQ wr (å wr (C #[IZ ps[a].1,IZ ps[a].2,D v (L (Α docs ps[a])) x] 92)):=ġ;have ax:=Zh (ar.o a F (D v (L (Α docs ps[a])) x) _ E (Z.below E));have aA:Hid (lZ docs ps[a]=[IZ ps[a].1,IZ ps[a].2,IZ ((L (Α docs ps[a])+1:Nat):Int),š (δ (hV (Α docs ps[a])))]):=rfl;generalize lZ docs ps[a]=sg at *;generalize δ (hV (Α docs ps[a]))=j at *;generalize aJ:((L (Α docs ps[a])+1:Nat):Int)=i at *;generalize(L (Α docs ps[a]))=aX at *;generalize ps[a].1=f at *;generalize ps[a].2=k at *;clear am an ao Z aJ;go_wp2_with fail
   refine ax.o.mono ?_;rintro e t ⟨rfl,X⟩;have B:=A.trans (X.mono A.size);have ay:=Zh (Υ P.o B);have T:=y.trans (B.mono y.size);have aL:g.heap.size<=t.heap.size:=T.size;have Q:=Zh (Υ (Υ ay.o (RZ.alloc NZ (C #[IZ f,IZ k,IZ i,š j] 198))) (RZ.alloc NZ (C #[IZ f,IZ k,IZ i,š j] 198)));have aH:BQ g (å (å t (C #[IZ f,IZ k,IZ i,š j] 198)) (C #[IZ f,IZ k,IZ i,š j] 198)):=(T.alloc aL _).alloc ό _;clear X B A E;go_wp2_with (at_builtin;refine gn rfl _ _ _ _ rfl g.heap.size 198 ai _ 4 40 underlying121 hi af ag ah rfl _ a _ rfl Q.o _ 1 [IZ f,IZ k,IZ i,š j] rfl (mZ underlying121 (å t (C #[IZ f,IZ k,IZ i,š j] 198)) #[IZ f,IZ k,IZ i,š j] 4 1 1 (t.heap.size+1) ύ rfl ϗ) ώ ϊ ό ?_;intro a0 a1 r ab _ _;have aI:=aH.grown ab ό (fun aM aK=>(Q.o.lt aM aK).1))
   obtain⟨aD,aE,rfl⟩:=Θ r;rw[<-aA.o,<-aB.o]at r;have aw:=Zh r;clear r ab;go_roundw;case rel=>exact⟨a+1,aD,aE,ϊ,ϕ,rfl,aw.o,aI⟩
   case measure=>simp[intOf];omega
  .obtain rfl:a=L ps:=ϊ
   have aP:¬(L ps:Int)<(L ps:Int):=ϊ;have G:=P.o;rw[pa]at G;have au:=Zh (ii G u.o.size);clear G;go_wp2;go_ret;exact⟨q,c1,rfl,au.o,d⟩
theorem wm {docs:List (γ)} {w:β} {v:ε} {ps:List (Nat×Nat)} (h:Rd w v (L ps) 4 (Ϸ docs ps)):∃ d c,v=D d (L ps) c /\
  Hid (∀ k (a:k<L ps),∃ b off,d=J ⟨b,off,O⟩/\w.cell? ⟨b,off+k*4,O⟩=J (IZ ps[k].1)/\w.cell? ⟨b,off+k*4+1,O⟩=J (IZ ps[k].2)/\w.cell? ⟨b,off+k*4+2,O⟩=J (IZ ((L (Α docs ps[k])+1:Nat):Int))/\w.cell? ⟨b,off+k*4+3,O⟩=J (š (δ (hV (Α docs ps[k]))))):=by
 have g:∀ k (a:k<L ps),∀ f,f<4->(Ϸ docs ps)[k*4+f]?=(lZ docs ps[k])[f]?:=by
  intro k a f n;have l:Ϸ docs ps=Ϸ docs (ps.take k)++(lZ docs ps[k]++Ϸ docs (ps.drop (k+1))):=by
   have:ps=ps.take k++ps[k]::ps.drop (k+1):=by rw[List.getElem_cons_drop,pd]
   conv=>lhs;rw[this]
   unfold Ϸ;rw[qS,lg]
  have i:=ML docs (ps.take k);rw[gN,me ϊ]at i;rw[l,gO ϊ,i,Nat.add_sub_cancel_left,iX (by simp[lZ];omega)]
 obtain⟨i,o,⟨d,c,rfl,j⟩|⟨b,off,c,rfl,j,p,m,e⟩⟩:=h
 .exact⟨d,c,by rw[j],fun k a=>ϊ⟩
 .refine⟨_,c,rfl,fun k a=>⟨b,off,rfl,?_,?_,?_,?_⟩⟩
  .exact e (k*4) _ (by have:=g k a 0 ϊ;simpa[lZ] using this)
  .rw[iW];exact e (k*4+1) _ (by have:=g k a 1 ϊ;simpa[lZ] using this)
  .rw[iW];exact e (k*4+2) _ (by have:=g k a 2 ϊ;simpa[lZ] using this)
  .rw[iW];exact e (k*4+3) _ (by have:=g k a 3 ϊ;simpa[lZ] using this)
theorem Mz (v:ε) (docs:List (γ)) (ps:List (Nat×Nat)) (m:Nat) (w:β) (h:Rd w v (L ps) 4 (Ϸ docs ps)) (g:ϵ docs ps m) :
  Calls prog 261 #[v,IZ m] w fun e w'=>e=ŗ (.bool true)/\BQ w w':=by
 obtain⟨R,c,rfl,y⟩:=wm h;have z:=Zh (fun a (i:a<L ps)=>qi g.ch a i);have F:=Zh (fun a (i:a<L ps)=>oL g i);have A:Hid (je ps (L ps)=m):=by
  show _=_;have j:=g.ch;cases q:L ps with
  |zero =>
   have:ps=[]:=ko q;subst this;have:=oH j;first|exact j|(simp[hE,je]at *;omega)
  |succ n =>
   show(ps.getD n (0,0)).2=m;have:=uN j ϊ;rw[q,pK]at this;exact this
 have V:=g.np;have T:=g.le;have U:=g.nd;clear h g;go_enter func261,ntmps261;go_wp2;go_loopw [5,14] (fun H l wr=>∃ a:Nat,a<=L ps/\l=IZ (a:Int)/\H=IZ ((je ps a:Nat):Int)/\BQ w wr) (fun _ l _=>L ps - (intOf l).toNat)
 case atStart=>exact⟨0,Ι _,rfl,rfl,φ _ _⟩
 case round =>
  obtain⟨a,i,rfl,rfl,d⟩:=hrel;by_cases k:a<L ps
  .obtain⟨b,off,rfl,s,t,u,x⟩:=y.o a k
   obtain⟨p1,p2,ac,ad⟩:=z.o a k;have M:=(F.o a k).2.2;have N:(a:Int)<(L ps:Int):=ϊ;have aa:(0:Int)<=(a:Int):=ϊ;have ab:=ζ d s;have l1:=ζ d t;have l2:=ζ d u;have l3:=ζ d x;have p:((je ps a:Nat):Int)=(ps[a].1:Int):=ϊ;rw[p];have E:=Zh p2;have B:=Zh (fun G=>Mx (ps[a].1:Int) (ps[a].2:Int) ((L (Α docs ps[a])+1:Nat):Int) (hV (Α docs ps[a])) G (by unfold ly;simp;omega) ϊ ϊ (qp _));generalize δ (hV (Α docs ps[a]))=Q at *;generalize((L (Α docs ps[a])+1:Nat):Int)=P at *;generalize ps[a].1=f at *;generalize ps[a].2=ae at *;clear s t u x p p1 p2 M;go_wp2_with fail
   refine(B.o _).mono ?_;rintro e af ⟨rfl,o⟩;obtain⟨r,ag,K⟩:=Ϻ o;obtain⟨⟨W,X,Y,Z⟩,⟨S,f1,f2,f3⟩,-⟩:=Ϫ r;have I:=d.trans (K.mono d.size);clear r o;go_wp2;go_roundw;case rel=>exact⟨a+1,ϊ,ϕ,by rw[<-E.o],I⟩
   case measure=>simp[intOf];omega
  .obtain rfl:a=L ps:=ϊ
   have N:¬(L ps:Int)<(L ps:Int):=ϊ;rw[A.o];go_wp2;go_ret;exact⟨by first|rfl|simp,d⟩
theorem Ch (a:Nat) (d:γ) (v:ε) (docs:List (γ)) (ps:List (Nat×Nat)) (w:β) (i:L d=32) (h:Rd w v (L ps) 4 (Ϸ docs ps)) (b:ϵ docs ps a) :
  Calls prog 193 #[ā #[IZ a,š (δ d),v]] w fun e w'=>e=ŗ (.bool true)/\BQ w w':=by
 have j:=Zh (fun f (m:BQ w f)=>Mz v docs ps a f (h.below m) b);have s:(δ d).size=32:=by rw[jx,i]
 have t:=b.le;have u:=b.nd;obtain⟨l,c,rfl,-⟩:=wm h;generalize δ d=k at *;have q:(0:Int)<=(a:Int):=ϊ;have r:(a:Int)<=1000:=ϊ;have n:BQ w (å w (C #[IZ a,š k,D l (L ps) c] 123)):=ġ;clear h b i;go_enter func193,ntmps193;go_wp2_with fail
 refine(j.o _ n).mono ?_;rintro e x ⟨rfl,g⟩;obtain⟨p,y,o⟩:=Ϻ g;clear g p;go_wp2;go_ret;exact⟨by first|rfl|simp[q,r],o⟩
theorem zG (n:Nat) (w:β) (j:2<=n) (v:n<=1000000000):Calls prog 135 #[IZ n] w fun e w'=>e=ŗ (IZ ((Κ n:Nat):Int))/\w=w':=by
 have x:¬(n:Int)<2:=ϊ;have y:¬(1099511627776:Int)<(n:Int):=ϊ;go_enter func135,ntmps135;go_wp2;go_loop [3] (fun h=>∃ (K f a:Nat),h=IZ (K:Int)/\K<n/\1<=K/\Hid (K=2 ^ a/\n<=2 ^ (a+f)/\pH n f K=Κ n)) (fun h=>n - (intOf h).toNat)
 case atStart=>exact⟨1,n,0,rfl,ϊ,NZ,rfl,by simp;exact mc Nat.lt_two_pow_self,rfl⟩
 case round =>
  obtain⟨K,f,a,rfl,t,u,i⟩:=hrel;have r:IntKind.i64.wrap (2*(K:Int))=2*(K:Int):=Ϗ;have s:IntKind.i64.wrap ((K:Int)*2)=(K:Int)*2:=Ϗ;by_cases g:2*K<n
  .have q:2*(K:Int)<(n:Int):=ϊ
   have k:Hid (∃ b,2*K=2 ^ (a+1)/\n<=2 ^ (a+1+b)/\pH n b (2*K)=Κ n):=by
    obtain⟨m,d,c⟩:=i.o;cases f with
    |zero=>simp at d;omega
    |succ b =>
     rw[pH,μ g]at c;exact⟨b,by rw[jn];omega,by rw[show a+1+b=a+(b+1)from ϊ];exact d,c⟩
   go_wp2
   go_round
   case rel =>
    obtain⟨b,o,j,p⟩:=k.o;exact⟨2*K,b,a+1,ϕ,g,ϊ,o,j,p⟩
   case measure=>simp[intOf];omega
  .have q:¬2*(K:Int)<(n:Int):=ϊ
   have l:Hid (K=Κ n):=by
    obtain⟨m,d,c⟩:=i.o;show _=_;rw[<-c];cases f with
    |zero=>rfl
    |succ b=>rw[pH,κ g]
   go_wp2;go_ret;rw[<-l.o];exact⟨rfl,rfl⟩
def qf (l:List Bool):List ε:=l.map .bool
def sR (base:Nat) (w:β) (v:ε) (n:Nat) (l:List Bool):Prop:=L l=n/\w.ownsRow base 4 1 v n (qf l)
theorem IQ:(prog.info? 4).map (fun i=>(i.zero,i.size,i.bytes))=J (J (.bool false),1,1):=ϋ
def Am (i n:Nat) (w:β) (e:Ending) (w':β):Prop:= ∃ b a c,e=ŗ (D b a c)/\sR w.heap.size w' (D b a c) a (jh n i n).reverse/\Below w.heap.size w w'
theorem NB (l h:Nat) (w:β) (R:l<h) (ag:h<=1000000):Calls prog 142 #[IZ l,IZ h] w (Am l h w):=by
 obtain⟨Q,I,M,N,P⟩:=ϯ IQ;go_enter func142,ntmps142;go_wp2;go_loopw [0,1,5] (fun S B V wr=>∃ (j n d f:Nat) (i:List Bool) (a:Option Addr) (c:Nat),S=IZ (j:Int)/\B=IZ (n:Int)/\V=D a d c/\j<n/\n<=f/\f<=h/\d+n<=h/\Hid (jh f j n++i.reverse=jh h l h)/\Hid (sR w.heap.size wr (D a d c) d i)/\BQ w wr) (fun _ B _ _=>(intOf B).toNat)
 case atStart=>exact⟨l,h,0,h,[],O,0,rfl,rfl,rfl,R,NZ,NZ,ϊ,by show _=_;simp,⟨rfl,hZ w _ _ 1⟩,φ _ _⟩
 case round =>
  obtain⟨j,n,d,f,i,a,c,rfl,rfl,rfl,ae,ah,ad,af,F,t,x⟩:=hrel;by_cases H:2<=n
  .have U:(1:Int)<(n:Int):=ϊ
   obtain⟨aa,ab,ac⟩:=tY H;obtain⟨m,rfl⟩:∃ m,f=m+1:=⟨f - 1,ϊ⟩;have G:=Zh (zG n wr H ϊ);have k:=F.o;rw[jh,κ ϊ]at k;have u:∀ b:Bool,Hid ((å wr (C #[.bool b] 4)).ownsRow w.heap.size 4 1 (D a d c) d (qf i)):=fun b=>Υ t.o.2 (ġ);have v:∀ b:Bool,BQ w (å wr (C #[.bool b] 4)):=fun b=>x.alloc x.size _;have ai:=x.size;by_cases A:j<Κ n
   .rw[μ A,gM]at k
    have y:Hid (jh m j (Κ n)++(i++[false]).reverse=jh h l h):=by show _=_;rw[<-k];simp
    generalize Κ n=K at *;have T:(j:Int)<(K:Int):=ϊ;clear k;go_wp2_with fail
    refine G.o.mono ?_;rintro e X ⟨rfl,rfl⟩;go_wp2_with (at_builtin;go_loud (refine gn rfl _ _ _ _ rfl w.heap.size 4 Q _ 1 1 underlying245 I M N P rfl (D a d c) d (qf i) (by rfl) (u false).o _ 1 [.bool false] (by rfl) (ig underlying245 wr #[.bool false] 1 1 1 rfl ϗ) ώ ϊ ό ?_;intro W E p s _ _;have z:=(v false).grown s (v false).size (fun g hg=>(Ν (u false).o g hg).1)))
    obtain⟨r,c2,rfl⟩:=Θ p;have q:Hid (sR w.heap.size E (D r (d+1) c2) (d+1) (i++[false])):=⟨by simp[t.o.1],by simpa[qf] using p⟩;clear p s;go_roundw;case rel=>exact⟨j,K,d+1,m,i++[false],r,c2,rfl,rfl,rfl,A,ϊ,ϊ,ϊ,y.o,q.o,z⟩
    case measure=>simp[intOf];omega
   .rw[κ A,gM]at k
    have y:Hid (jh m (j - Κ n) (n - Κ n)++(i++[true]).reverse=jh h l h):=by show _=_;rw[<-k];simp
    generalize Κ n=K at *;have T:¬(j:Int)<(K:Int):=ϊ;have Y:IntKind.i64.wrap ((j:Int) - (K:Int))=((j - K:Nat):Int):=Ϗ;have Z:IntKind.i64.wrap ((n:Int) - (K:Int))=((n - K:Nat):Int):=Ϗ;clear k;go_wp2_with fail
    refine G.o.mono ?_;rintro e X ⟨rfl,rfl⟩;go_wp2_with (at_builtin;go_loud (refine gn rfl _ _ _ _ rfl w.heap.size 4 Q _ 1 1 underlying245 I M N P rfl (D a d c) d (qf i) (by rfl) (u true).o _ 1 [.bool true] (by rfl) (ig underlying245 wr #[.bool true] 1 1 1 rfl ϗ) ώ ϊ ό ?_;intro W E p s _ _;have z:=(v true).grown s (v true).size (fun g hg=>(Ν (u true).o g hg).1)))
    obtain⟨r,c2,rfl⟩:=Θ p;have q:Hid (sR w.heap.size E (D r (d+1) c2) (d+1) (i++[true])):=⟨by simp[t.o.1],by simpa[qf] using p⟩;clear p s;go_roundw;case rel=>exact⟨j - K,n - K,d+1,m,i++[true],r,c2,ϕ,ϕ,rfl,ϊ,ϊ,ϊ,ϊ,y.o,q.o,z⟩
    case measure=>simp[intOf];omega
  .have U:¬(1:Int)<(n:Int):=ϊ
   have k:i=(jh h l h).reverse:=by
    rw[<-F.o];cases f with
    |zero=>simp[jh]
    |succ m=>rw[jh,μ ϊ];simp
   have q:Hid (sR w.heap.size wr (D a d c) d (jh h l h).reverse):=by rw[<-k];exact t.o
   clear k;go_wp2;go_ret;exact⟨a,d,c,rfl,q.o,x⟩
def uC (l:List (γ)) (w:β) (e:Ending) (w':β):Prop:= ∃ b a c,e=ŗ (.tuple #[D b a c,IZ 0])/\fZ w.heap.size w' (D b a c) a l/\Below w.heap.size w w'
theorem LK (base:Nat) (a:Option Addr) (k c:Nat) (l:List (γ)) (w:β) (b:fZ base w (D a k c) k l) :
  Calls prog 137 #[D a k c] w fun e w'=>e=ŗ (.tuple #[])/\fZ base w' (D a k c) k l.reverse/\Below base w w':=by
 by_cases m:k=0
 .subst m
  have n:l=[]:=ko b.1;subst n;refine(Tryz.slices_Reverse_string_empty a c w).mono ?_;rintro e w' ⟨rfl,rfl⟩;exact⟨rfl,b,φ _ _⟩
 .obtain⟨g,p,d⟩:=kz b.2 ϊ
  simp only[Ξ,Ϯ]at d;obtain⟨rfl,rfl⟩:=d;have i:=b.2;have h:=b.1;have f:Holds encStr w g 0 l.toArray:=by
   obtain⟨s,r,d,_,_,_,_,_,f⟩:=wW (enc:=encStr) (zs:=l) i (by intro e;cases e);simp only[Ξ,Ο,Addr.mk.injEq,hR,Ϯ]at d;rw[d.1];exact f
  have o:=b.rd.2.1;unfold maxLen at o;have j:=Tryz.slices_Reverse_string g 0 c l w f ϊ;rw[h]at j;refine j.mono ?_;rintro e w' ⟨rfl,q,rfl⟩;have o1:=wX (q:=q) (k:=k) (ys:=l.reverse) (zs:=l) (enc:=encStr) i (by simpa using h) NZ;rw[gW ό]at o1;exact⟨rfl,⟨by simpa using h,o1⟩,Lib.below_putRow RZ (Ν i g rfl).1⟩
theorem rL {w:β} {b off c n i j:Nat} {l:List (γ)} (h:Rd w (D (J ⟨b,off,O⟩) n c) n 1 (σ l)) (z:i+j<=n) (a:Nat) (o:j<=a) (r:a<=maxLen):Rd w (D (J ⟨b,off+i,O⟩) j a) j 1 (σ ((l.drop i).take j)):=by
 obtain⟨m,B,s⟩:=h;have A:L l=n:=by simpa[σ] using m
 refine⟨by simp[σ];omega,ϊ,?_⟩;by_cases f:j=0
 .exact .inl ⟨_,a,by rw[f],f⟩
 .rcases s with ⟨v,g,e,k⟩|⟨x,F,g,e,k,E,y,p⟩
  .omega
  .simp only[Ξ,Ο,Addr.mk.injEq,hR,Ϯ]at e
   obtain⟨⟨rfl,rfl⟩,rfl⟩:=e;refine .inr ⟨b,off+i,a,rfl,ϊ,o,r,fun q u d=>?_⟩;have t:(σ l)[i+q]?=J u:=by
    simp only[σ,jK,hP,jo]at d ⊢;split at d
    .exact d
    .simp at d
   have:=p _ _ t;rw[<-iW]at this;exact this
theorem EI (R:Option Addr) (b c0:Nat) (ds:List (γ)) (m:Nat) (w:β) (V:L ds=b) (h:Rd w (D R b c0) b 1 (σ ds)) (S:ϭ ds) (an:m<b) (aP:b<=1000000) (af:Ϡ w) :
  Calls prog 78 #[D R b c0,IZ m] w (uC (gG b ds m) w):=by
 have ah:=Zh (zD R b c0 ds w V h S);obtain⟨-,-,⟨aD,ak,X,aI⟩|⟨q,aA,ak,X,-,aq,am,-⟩⟩:=id h
 .omega
 simp only[Ξ,Ϯ]at X;obtain⟨rfl,rfl⟩:=X;unfold maxLen at am;have ac:=Zh af;have aj:=Zh h;have ag:=Zh S;have ao:¬(m:Int)<0:=ϊ;have aK:¬(b:Int)<=(m:Int):=ϊ;have aL:decide ((m:Int)<0)=false:=iC ao;have ap:¬b<=m:=ϊ;have aM:decide (b<=m)=false:=iC ap;have ai:=Zh V;clear af h S V;go_enter func78,ntmps78;go_wp2_with fail
 refine ah.o.mono ?_;rintro e aS ⟨rfl,rfl⟩;go_wp2;go_loopw [0,1,6] (fun Y ar aB wr=>∃ (k n o f off c:Nat) (l p:List (γ)) (a:Option Addr) (c1:Nat),ar=IZ (k:Int)/\Y=D (J ⟨q,off,O⟩) n c/\aB=D a o c1/\k<n/\n<=f/\f<=b/\o+n<=b/\n<=c/\c<=9223372036854775807/\Hid (L l=n/\ϭ l/\Rd w (D (J ⟨q,off,O⟩) n c) n 1 (σ l))/\Hid (gG f l k++p.reverse=gG b ds m)/\Hid (fZ w.heap.size wr (D a o c1) o p)/\BQ w wr) (fun Y _ _ _=>ju Y)
 case atStart=>exact⟨m,b,0,b,aA,c0,ds,[],O,0,rfl,rfl,rfl,an,NZ,NZ,ϊ,aq,ϊ,⟨ai.o,ag.o,aj.o⟩,by show _=_;simp,fZ.nil _ _,φ _ _⟩
 case round =>
  obtain⟨k,n,o,f,off,c,l,p,a,c1,rfl,rfl,rfl,aN,aR,aJ,aO,aQ,al,g,aa,M,t⟩:=hrel;by_cases ad:2<=n
  .have az:(1:Int)<(n:Int):=ϊ
   have ab:=Zh (zG n wr ad ϊ);obtain⟨v,rfl⟩:∃ v,f=v+1:=⟨f - 1,ϊ⟩;have r:=aa.o;rw[gG,g.o.1,κ ϊ]at r;obtain⟨aF,aG,aH⟩:=tY ad;by_cases W:k<Κ n
   .rw[μ W,gM]at r
    generalize Κ n=K at *;have G:Rd w (D (J ⟨q,off,O⟩) K c) K 1 (σ (l.take K)):=by
     have:=rL (i:=0) (j:=K) g.o.2.2 ϊ c ϊ ώ;simpa using this
    have H:Rd w (D (J ⟨q,off+K,O⟩) (n - K) (c - K)) (n - K) 1 (σ (l.drop K)):=by
     have:=rL (i:=K) (j:=n - K) g.o.2.2 ϊ (c - K) ϊ ώ;rwa [gW (by rw[gb,g.o.1];omega)]at this
    have E:ϭ (l.take K):=fun d z=>g.o.2.1 d (ni z);have s:ϭ (l.drop K):=fun d z=>g.o.2.1 d (su z);have I:Hid (L (l.take K)=K/\ϭ (l.take K)/\Rd w (D (J ⟨q,off,O⟩) K c) K 1 (σ (l.take K))):=⟨by rw[gN,g.o.1];omega,E,G⟩;have Q:=Zh (zF (J ⟨q,off+K,O⟩) (n - K) (c - K) (l.drop K) wr (by rw[gb,g.o.1]) (H.below t) s ϊ (ac.o.below t));have P:Hid (gG v (l.take K) k++(p++[Τ (l.drop K)]).reverse=gG b ds m):=by show _=_;rw[<-r];simp
    have av:(k:Int)<(K:Int):=ϊ;have aw:(K:Int)<=(n:Int):=ϊ;have au:(K:Int)<=(c:Int):=ϊ;have ax:¬c=K:=ϊ;have ay:¬(c:Int)=(K:Int):=ϊ;generalize Τ (l.drop K)=u at *;clear r G H E s;go_wp2_with fail
    refine ab.o.mono ?_;rintro e A ⟨rfl,rfl⟩;go_wp2_with fail
    refine Q.o.mono ?_;rintro e A ⟨rfl,y⟩;have x:=t.trans (y.mono t.size);have N:=Zh ((M.o.below y).alloc (C #[š (δ u)] 9));go_wp2_with (at_builtin;go_loud (refine uh rfl _ _ rfl w.heap.size (D a o c1) _ o 1 p [u] (by rfl) N.o (by rfl) rfl (qF A _ _) ϊ (by have:=x.size;simp;omega) ?_;intro s c2 aC F U;have T:=(x.alloc x.size _).trans U))
    have B:=Zh F;clear F;go_roundw;case rel=>exact⟨k,K,o+1,v,off,c,l.take K,p++[u],s,c2,rfl,rfl,rfl,W,ϊ,ϊ,ϊ,ϊ,al,I.o,P.o,B.o,T⟩
    case measure=>simp only[ju];omega
   .rw[κ W,gM]at r
    generalize Κ n=K at *;have G:Rd w (D (J ⟨q,off,O⟩) K c) K 1 (σ (l.take K)):=by
     have:=rL (i:=0) (j:=K) g.o.2.2 ϊ c ϊ ώ;simpa using this
    have H:Rd w (D (J ⟨q,off+K,O⟩) (n - K) (c - K)) (n - K) 1 (σ (l.drop K)):=by
     have:=rL (i:=K) (j:=n - K) g.o.2.2 ϊ (c - K) ϊ ώ;rwa [gW (by rw[gb,g.o.1];omega)]at this
    have E:ϭ (l.take K):=fun d z=>g.o.2.1 d (ni z);have s:ϭ (l.drop K):=fun d z=>g.o.2.1 d (su z);have I:Hid (L (l.drop K)=n - K/\ϭ (l.drop K)/\Rd w (D (J ⟨q,off+K,O⟩) (n - K) (c - K)) (n - K) 1 (σ (l.drop K))):=⟨by rw[gb,g.o.1],s,H⟩;have Q:=Zh (zF (J ⟨q,off,O⟩) K c (l.take K) wr (by rw[gN,g.o.1];omega) (G.below t) E ϊ (ac.o.below t));have P:Hid (gG v (l.drop K) (k - K)++(p++[Τ (l.take K)]).reverse=gG b ds m):=by show _=_;rw[<-r];simp
    have av:¬(k:Int)<(K:Int):=ϊ;have aw:(K:Int)<=(n:Int):=ϊ;have au:(K:Int)<=(c:Int):=ϊ;have ax:¬c=K:=ϊ;have ay:¬(c:Int)=(K:Int):=ϊ;have aE:IntKind.i64.wrap ((k:Int) - (K:Int))=((k - K:Nat):Int):=Ϗ;generalize Τ (l.take K)=u at *;clear r G H E s;go_wp2_with fail
    refine ab.o.mono ?_;rintro e A ⟨rfl,rfl⟩;go_wp2_with fail
    refine Q.o.mono ?_;rintro e A ⟨rfl,y⟩;have x:=t.trans (y.mono t.size);have N:=Zh ((M.o.below y).alloc (C #[š (δ u)] 9));go_wp2_with (at_builtin;go_loud (refine uh rfl _ _ rfl w.heap.size (D a o c1) _ o 1 p [u] (by rfl) N.o (by rfl) rfl (qF A _ _) ϊ (by have:=x.size;simp;omega) ?_;intro s c2 aC F U;have T:=(x.alloc x.size _).trans U))
    have B:=Zh F;clear F;go_roundw;case rel=>exact⟨k - K,n - K,o+1,v,off+K,c - K,l.drop K,p++[u],s,c2,ϕ,rfl,rfl,ϊ,ϊ,ϊ,ϊ,ϊ,ϊ,I.o,P.o,B.o,T⟩
    case measure=>simp only[ju];omega
  .have az:¬(1:Int)<(n:Int):=ϊ
   have r:p.reverse=gG b ds m:=by
    rw[<-aa.o];cases f with
    |zero=>simp[gG]
    |succ v=>rw[gG,g.o.1,μ ϊ];simp
   have Z:=Zh (LK w.heap.size a o c1 p wr M.o);rw[r]at Z;clear r;go_wp2_with fail
   refine Z.o.mono ?_;rintro e A ⟨rfl,ae,y⟩;have B:=Zh ae;clear ae;go_wp2;go_ret2;exact⟨a,o,c1,rfl,B.o,t.trans y⟩
theorem GK {b:List Bool} {a:List (γ)} (j:Nat) (c:j<L b) (e:j<L a) (d:γ):kN (b.drop j) (a.drop j) d=kN (b.drop (j+1)) (a.drop (j+1)) (if b[j]then gw a[j] d else gw d a[j]):=by
 rw[mh c,mh e];rfl
theorem EH (h:γ) (i n:Nat) (path:List (γ)) (z:Option Addr) (k c:Nat) (w:β) (H:L h=32) (hi:i<n) (ay:n<=1000000) (q:L path=k) (K:L path=L (jh n i n)) (t:Rd w (D z k c) k 1 (σ path)) (A:ϭ path) (ae:Ϡ w) :
  Calls prog 83 #[š (δ h),IZ i,IZ n,D z k c] w fun e w'=>e=ŗ (.tuple #[š (δ (kN (jh n i n) path h)),IZ 0])/\BQ w w':=by
 have s:=NB i n w hi ay;unfold Am at s;obtain⟨f,ad⟩:∃ f,jh n i n=f:=⟨_,rfl⟩;rw[ad]at s K ⊢;clear ad;have S:=Zh s;have R:=Zh (fun V (aq:BQ w V)=>zD z k c path V q (t.below aq) A);have ah:=Zh (fun a j=>qL t q a j);have ag:=Zh (fun a (j:a<L path)=>A path[a] (Χ j));have aN:(δ h).size=32:=by rw[jx];exact H
 have au:¬(n:Int)<1:=ϊ;have av:¬(1099511627776:Int)<(n:Int):=ϊ;have aw:¬(i:Int)<0:=ϊ;have aL:¬(n:Int)<=(i:Int):=ϊ;have ax:¬n<=i:=ϊ;have aM:¬n<1:=ϊ;have aF:decide ((n:Int)<1)=false:=iC au;have aG:decide ((1099511627776:Int)<(n:Int))=false:=iC av;have aH:decide ((i:Int)<0)=false:=iC aw;have aI:decide (n<=i)=false:=iC ax;have ai:=Zh H;have al:=Zh q;have an:=Zh ae;have ar:=t.2.1;unfold maxLen at ar;have p:Hid (L (f)=k):=K.symm.trans q;clear t A H q ae K s;go_enter func83,ntmps83;go_wp2_with fail
 refine S.o.mono ?_;rintro e P ⟨sa,aT,sc,rfl,⟨ac,u⟩,W⟩;rw[pi,p.o]at ac;subst ac;have am:Hid (∀ a (j:a<L (f)),∃ b off,sa=J ⟨b,off,O⟩/\k<=sc/\P.cell? ⟨b,off+(k - 1 - a),O⟩=J (.bool (f)[a])):=by
  intro a j;obtain⟨g,aC,af⟩:=kz u (by have:=p.o;omega);simp only[Ξ,Ϯ]at af;obtain⟨rfl,rfl⟩:=af;have aO:=p.o;obtain⟨ap,-,-,-⟩:=tF u (k - 1 - a) ϊ;refine⟨g,0,rfl,(kk u).1,?_⟩;rw[jJ,ap];simp only[qf,jK,List.getElem?_reverse (l:=f) (i:=k - 1 - a) ϊ];rw[show(L (f)) - 1 - (k - 1 - a)=a from ϊ,Ρ j];rfl
 have aj:=Zh (R.o P W);have Q:=Zh W;clear u R;clear S;go_wp2_with fail
 refine aj.o.mono ?_;rintro e aU ⟨rfl,rfl⟩;go_wp2_with fail
 go_loopw [11,49] (fun ao N wr=>∃ (a:Nat) (d:γ),a<=k/\N=IZ (a:Int)/\ao=š (δ d)/\Hid (L d=32)/\Hid (kN (f.drop a) (path.drop a) d=kN f path h)/\BQ P wr) (fun _ N _=>k - (intOf N).toNat)
 case atStart=>exact⟨0,h,Ι _,rfl,rfl,ai.o,rfl,φ _ _⟩
 case round =>
  obtain⟨a,d,j,rfl,rfl,T,v,m⟩:=hrel;have F:BQ w wr:=Q.o.trans (m.mono Q.o.size);by_cases aJ:a<k
  .have aa:a<L f:=by have:=p.o;omega
   have I:a<L path:=by have:=al.o;omega
   obtain⟨b,off,rfl,aK,Z⟩:=am.o a aa;obtain⟨b2,aS,rfl,Y⟩:=ah.o a I;have l1:=ζ m Z;have l2:=ζ F Y;have ab:=ag.o a I;have M:=GK a aa I d;rw[v.o]at M;have r:=Zh M.symm;have az:(a:Int)<(k:Int):=ϊ;have aR:(0:Int)<=(a:Int):=ϊ;have aD:IntKind.i64.wrap ((k:Int) - 1)=(k:Int) - 1:=Ϗ;have aE:IntKind.i64.wrap ((k:Int) - 1 - (a:Int))=((k - 1 - a:Nat):Int):=Ϗ;have aP:k - 1 - a<k:=ϊ;have aQ:((k - 1 - a:Nat):Int)<(k:Int):=ϊ;have U:=Zh (an.o.below F);clear M Z Y;generalize f[a]=aA at *;generalize path[a]=o at *;cases aA with
   |true =>
    have x:=Zh (zE o d wr ab T.o U.o);have y:Hid (kN (f.drop (a+1)) (path.drop (a+1)) (gw o d)=kN f path h):=r.o;clear r;go_wp2_with fail
    refine x.o.mono ?_;rintro e aB ⟨rfl,E⟩;have B:=m.trans (E.mono m.size);go_wp2;go_roundw;case rel=>exact⟨a+1,gw o d,ϊ,ϕ,rfl,hO _,y.o,B⟩
    case measure=>simp[intOf];omega
   |false =>
    have x:=Zh (zE d o wr T.o ab U.o);have y:Hid (kN (f.drop (a+1)) (path.drop (a+1)) (gw d o)=kN f path h):=r.o;clear r;go_wp2_with fail
    refine x.o.mono ?_;rintro e aB ⟨rfl,E⟩;have B:=m.trans (E.mono m.size);go_wp2;go_roundw;case rel=>exact⟨a+1,gw d o,ϊ,ϕ,rfl,hO _,y.o,B⟩
    case measure=>simp[intOf];omega
  .have az:¬(a:Int)<(k:Int):=ϊ
   have G:=v.o;rw[sw (by have:=p.o;omega)]at G;have X:d=kN f path h:=by rw[<-G];rfl
   have ak:=Zh X;clear G X v;go_wp2;go_ret2;rw[<-ak.o];exact⟨rfl,F⟩
