/- Part 5 of the proof. -/
import Derived.Test.YtpilfbcffofheaaGreatDoorm03
import Derived.Test.YtpilfbcffofheaaGreatDoorm04
set_option linter.all false
set_option maxRecDepth 100000
set_option maxHeartbeats 16000000
namespace Go.Proofs.YtpilfbcffofheaaGreatDoor
open Go.RowKit Go.Proofs.Tryz Go.Sort
open Value renaming slice->D,int->ĭ,agg->ā,string->š
open Option renaming none->O,some->J
open List renaming length->L
open Obj renaming cells->C
open Ending renaming returned->ŗ
open World renaming alloc->å,setCell->ŝ
def rz (l:γ) (w:β) (e:Ending) (b:β):Prop:= ∃ a n c,e=ŗ (D a n c)/\Μ w.heap.size b (D a n c) n l/\Below w.heap.size w b
def qV (w:β) (l:γ) (n) (m:L l=n) (p:n<=70368744177664):∃ c a,(convert 9 31 (š (δ l))).run prog w=.ok (D (J ⟨w.heap.size,0,O⟩) n c) a/\BQ w a/\Hi w.heap.size a (fun f=>Rd f (D (J ⟨w.heap.size,0,O⟩) n c) n 1 (η l))/\a.heap.size=w.heap.size+1:=by
 subst m;have b:=Lib.run_convert_string_bytes  w 9 31 5 (δ l) kH gv mA;rw[iG]at b;refine⟨_,_,b,⟨rfl,rfl,rfl,by rw[Lib.bytesWorld_size];omega,fun o k=>Lib.bytesWorld_at_old w _ _ o k⟩,?_,Lib.bytesWorld_size _ _ _⟩;intro f g;have hg:=(g _ NZ (by rw[Lib.bytesWorld_size];omega)).trans (Lib.bytesWorld_at_new w 5 _);have i:=grownCap_ge w (L l) 0 5;have h:=wb w (L l) 0 5 ώ;refine⟨by simp[η],ώ,?_⟩;by_cases d:L l=0
 .exact .inl ⟨J ⟨w.heap.size,0,O⟩,grownCap w (L l) 0 5,by simp[d],d⟩
 .refine .inr ⟨w.heap.size,0,_,rfl,U,i,h,fun e q hi=>?_⟩
  rw[iI,ξ _ _ e _ _ _ hg];have j:e<L l:=by
   have:=(lK.1 hi).1;simpa[η] using this
  simp only[Lib.bytesCells];rw[Array.getElem?_append_left (by simpa[δ,ByteArray.size] using j)];rw[<-hi];simp[δ,η,ch]
def wU (w:β) (b:Array ε) (T) (a:List (γ)) (g:b.size=L a) (j:L a<=maxLen) (f:0<L a) (h:∀ i (k:i<L a),∃ c,b[i]?=J c/\Rd w c (L a[i]) 1 (η a[i])) :
  Ε (å w (C b T)) (D (J ⟨w.heap.size,0,O⟩) (L a) (L a)) a:=by
 refine⟨b.toList,AA w b T 1 (L a) (by simpa using g) j f,fun i k=>?_⟩;obtain⟨c,d,e⟩:=h i k;exact⟨c,by simpa using d,e.B (ġ)⟩
def Ke (a:List (γ)) (k hk):(a.take (k+1)).flatten=(a.take k).flatten++a[k]:=by
 rw[jt hk,yz,qi,List.flatten_nil,iy]
def Do (a:List (γ)) (k):L (a.take k).flatten<=L a.flatten:=by
 have:a.flatten=(a.take k).flatten++(a.drop k).flatten:=by rw[<-yz,pG]
 rw[this];simp
def xN (e:UInt8) (z:ε) (a:List (γ)) (w:β) (h:Ε w z a) (V:L a.flatten<=1099511627776) :
  Calls prog 214 #[ĭ .u8 (ch e),z] w (rz (e::a.flatten) w):=by
 obtain⟨S,c,rfl,Y,A⟩:=mr h;clear h;have I:BQ w (å w (C #[ĭ .u8 (ch e)] 5)):=ġ;have B:Hid (Μ w.heap.size (å w (C #[ĭ .u8 (ch e)] 5)) (D (J ⟨w.heap.size,0,O⟩) 1 1) 1 [e]):=⟨rfl,mT w #[ĭ .u8 (ch e)] 5 1 1 rfl ϐ⟩;go_enter func214,ntmps214;go_wp2;go_loopw [5,12] (fun Q p wr=>∃ (d n:Nat) (g:Option Addr) (c1:Nat),d<=L a/\p=G (d:Int)/\Q=D g n c1/\Hid (Μ w.heap.size wr (D g n c1) n (e::(a.take d).flatten))/\BQ w wr) (fun _ p _=>L a - (intOf p).toNat)
 .exact⟨0,1,_,_,Ζ _,rfl,rfl,B,I⟩
 obtain⟨d,n,g,c1,T,rfl,rfl,i,f⟩:=hrel;have v:=Do a d;have k:=i.o.1;simp only[ϥ]at k;have W:n<=1099511627777:=U;by_cases u:d<L a
 .obtain⟨b,off,da,dc,rfl,t,y⟩:=A.o d u
  have P:(d:Int)<(L a:Int):=U;have X:(0:Int)<=(d:Int):=U;have Z:=ζ f t;have r:=Zh (y.B f);have x:=Do a (d+1);have o:=Ke a d u;have N:L a[d]<=1099511627776:=by rw[o,σ]at x;omega
  have F:=Zh o;obtain⟨q,m⟩:∃ q,q=L a[d]:=⟨_,rfl⟩;rw[<-m]at Z r N;have E:=Zh m.symm;clear v x k o m t y;go_wp2_with (at_builtin;refine hG rfl (.tmp 16) (.tmp 17) rfl w.heap.size _ _ n q _ a[d] rfl i.o rfl E.o r.o U f.size ?_;intro s c2 R M K;have H:=f.trans K)
  have j:Hid (Μ w.heap.size R (D s (n+q) c2) (n+q) (e::(a.take (d+1)).flatten)):=by show Μ _ _ _ _ _;rw[F.o];exact M
  go_roundw
  .exact⟨d+1,n+q,s,c2,U,ϕ,rfl,j.o,H⟩
  exact ω
 .obtain rfl:d=L a:=U
  have P:¬(L a:Int)<(L a:Int):=U;have l:=i.o;rw[nL]at l;have j:=Zh l;clear l v k;go_wp2;go_ret;exact⟨g,n,c1,rfl,j.o,f⟩
def ϴ (b:γ):γ:=kg (0::b)
def iR (l r:γ):γ:=kg (1::(l++r))
def vw (b:γ):γ:=kg (2::b)
def zR (b:γ):γ:=kg (3::b)
def Pq (ao n cp) (b:γ) (w:β) (h:L b=n) (q:n<=1099511627776) (m:Rd w (D ao n cp) n 1 (η b)) :
  Calls prog 145 #[D ao n cp] w (rz (0::b) w):=by
 have k:=wU w #[D ao n cp] 31 [b] rfl (by simp[maxLen]) ύ (fun o hi=>by
  obtain rfl:o=0:=by simp at hi;omega
  exact⟨_,rfl,by simp only[oU];rw[h];exact m⟩)
 have d:=Zh (xN 0 _ _ _ k ό);have i:BQ w (å w (C #[D ao n cp] 31)):=ġ;go_enter func145,ntmps145;go_wp2_with fail
 refine d.o.M ?_;rintro e p ⟨c,a,c2,rfl,l,j⟩;have g:=i.trans (j.M ύ);have f:Hid (Μ w.heap.size p (D c a c2) a (0::b)):=by show Μ _ _ _ _ _;have:=l.M (show w.heap.size<=_ by simp:w.heap.size<=(å w _).heap.size);simpa using this
 go_wp2;go_ret;exact⟨c,a,c2,rfl,f.o,g⟩
def Ps (ao n cp) (b:γ) (w:β) (h:L b=n) (q:n<=1099511627776) (m:Rd w (D ao n cp) n 1 (η b)) :
  Calls prog 300 #[D ao n cp] w (rz (2::b) w):=by
 have k:=wU w #[D ao n cp] 31 [b] rfl (by simp[maxLen]) ύ (fun o hi=>by
  obtain rfl:o=0:=by simp at hi;omega
  exact⟨_,rfl,by simp only[oU];rw[h];exact m⟩)
 have d:=Zh (xN 2 _ _ _ k ό);have i:BQ w (å w (C #[D ao n cp] 31)):=ġ;go_enter func300,ntmps300;go_wp2_with fail
 refine d.o.M ?_;rintro e p ⟨c,a,c2,rfl,l,j⟩;have g:=i.trans (j.M ύ);have f:Hid (Μ w.heap.size p (D c a c2) a (2::b)):=by show Μ _ _ _ _ _;have:=l.M (show w.heap.size<=_ by simp:w.heap.size<=(å w _).heap.size);simpa using this
 go_wp2;go_ret;exact⟨c,a,c2,rfl,f.o,g⟩
def Pp (ao n cp) (b:γ) (w:β) (h:L b=n) (q:n<=1099511627776) (m:Rd w (D ao n cp) n 1 (η b)) :
  Calls prog 197 #[D ao n cp] w (rz (3::b) w):=by
 have k:=wU w #[D ao n cp] 31 [b] rfl (by simp[maxLen]) ύ (fun o hi=>by
  obtain rfl:o=0:=by simp at hi;omega
  exact⟨_,rfl,by simp only[oU];rw[h];exact m⟩)
 have d:=Zh (xN 3 _ _ _ k ό);have i:BQ w (å w (C #[D ao n cp] 31)):=ġ;go_enter func197,ntmps197;go_wp2_with fail
 refine d.o.M ?_;rintro e p ⟨c,a,c2,rfl,l,j⟩;have g:=i.trans (j.M ύ);have f:Hid (Μ w.heap.size p (D c a c2) a (3::b)):=by show Μ _ _ _ _ _;have:=l.M (show w.heap.size<=_ by simp:w.heap.size<=(å w _).heap.size);simpa using this
 go_wp2;go_ret;exact⟨c,a,c2,rfl,f.o,g⟩
def AM (ao n cp) (b:γ) (w:β) (c:L b=n) (s:n<=1000000000) (o:Rd w (D ao n cp) n 1 (η b)) (p:Ϭ w) :
  Calls prog 84 #[D ao n cp] w fun e w'=>e=ŗ (š (δ (ϴ b)))/\BQ w w':=by
 have⟨g,i,f⟩:=ϲ (Pq ao n cp b w c U o) p c;go_enter func84,ntmps84;go_wp2_with fail
 refine g.o.M ?_;rintro e r ⟨j,q,c2,rfl,a,d⟩;have m:=a.1;simp only[ϥ,f.o]at m;have h:=Zh (tF j q c2 _ r a.1 U a.rd (i.o.B d));go_wp2_with fail
 refine h.o.M ?_;rintro e t ⟨rfl,l⟩;have k:=d.t l;go_wp2;go_ret;exact⟨rfl,k⟩
def Fy (ao n cp) (b:γ) (w:β) (c:L b=n) (s:n<=1000000000) (o:Rd w (D ao n cp) n 1 (η b)) (p:Ϭ w) :
  Calls prog 235 #[D ao n cp] w fun e w'=>e=ŗ (š (δ (vw b)))/\BQ w w':=by
 have⟨g,i,f⟩:=ϲ (Ps ao n cp b w c U o) p c;go_enter func235,ntmps235;go_wp2_with fail
 refine g.o.M ?_;rintro e r ⟨j,q,c2,rfl,a,d⟩;have m:=a.1;simp only[ϥ,f.o]at m;have h:=Zh (tF j q c2 _ r a.1 U a.rd (i.o.B d));go_wp2_with fail
 refine h.o.M ?_;rintro e t ⟨rfl,l⟩;have k:=d.t l;go_wp2;go_ret;exact⟨rfl,k⟩
def Po (ao n cp) (b:γ) (w:β) (c:L b=n) (s:n<=1000000000) (o:Rd w (D ao n cp) n 1 (η b)) (p:Ϭ w) :
  Calls prog 117 #[D ao n cp] w fun e w'=>e=ŗ (š (δ (zR b)))/\BQ w w':=by
 have⟨g,i,f⟩:=ϲ (Pp ao n cp b w c U o) p c;go_enter func117,ntmps117;go_wp2_with fail
 refine g.o.M ?_;rintro e r ⟨j,q,c2,rfl,a,d⟩;have m:=a.1;simp only[ϥ,f.o]at m;have h:=Zh (tF j q c2 _ r a.1 U a.rd (i.o.B d));go_wp2_with fail
 refine h.o.M ?_;rintro e t ⟨rfl,l⟩;have k:=d.t l;go_wp2;go_ret;exact⟨rfl,k⟩
def Pr (l r:γ) (w:β) (d:L l=32) (f:L r=32) :
  Calls prog 276 #[š (δ l),š (δ r)] w (rz (1::(l++r)) w):=by
 obtain⟨c1,b,A,k,n,x⟩:=qV w l 32 d U;obtain⟨c2,c,B,a,o,y⟩:=qV b r 32 f U;have m:=wU c #[D (J ⟨w.heap.size,0,O⟩) 32 c1,D (J ⟨b.heap.size,0,O⟩) 32 c2] 31 [l,r] rfl (by simp[maxLen]) ύ (fun s hi=>by
  obtain rfl|rfl:s=0\/s=1:=by simp at hi;omega
  .exact⟨_,rfl,by simp only[oU];rw[d];exact n.now.B a⟩
  .exact⟨_,rfl,by simp only[oU,rn];rw[f];exact o.now⟩)
 have t:=Zh (xN 1 _ [l,r] _ m ό);have i:=k.t a;have j:BQ w (å c (C #[D (J ⟨w.heap.size,0,O⟩) 32 c1,D (J ⟨b.heap.size,0,O⟩) 32 c2] 31)):=i.al _;have p:w.heap.size<=(å c (C #[D (J ⟨w.heap.size,0,O⟩) 32 c1,D (J ⟨b.heap.size,0,O⟩) 32 c2] 31)).heap.size:=j.size;clear m n o k a i d f x y;go_enter func276,ntmps276;go_wp2_with fail
 refine t.o.M ?_;rintro e z ⟨h,g,c2,rfl,q,a⟩;have v:=j.trans (a.M p);have u:Hid (Μ w.heap.size z (D h g c2) g (1::(l++r))):=by show Μ _ _ _ _ _;have:=q.M p;simpa using this
 clear q;go_wp2;go_ret;exact⟨h,g,c2,rfl,u.o,v⟩
def Fx (l r:γ) (w:β) (a:L l=32) (c:L r=32) (f:Ϭ w) :
  Calls prog 210 #[š (δ l),š (δ r)] w fun e w'=>e=ŗ (.tuple #[š (δ (iR l r)),G 0])/\BQ w w':=by
 have⟨g,j⟩:=π (Pr l r w a c) f;have p:(δ l).size=32:=by rw[iG,a]
 have q:(δ r).size=32:=by rw[iG,c]
 have h:Hid (L (1::(l++r))=65):=by show _=_;simp[a,c]
 clear f a c;go_enter func210,ntmps210;go_wp2_with fail
 refine g.o.M ?_;rintro e s ⟨k,o,c2,rfl,b,d⟩;have a:=b.1.symm.trans h.o;have i:=Zh (tF k o c2 (1::(l++r)) s b.1 U b.rd (j.o.B d));clear b a p q;go_wp2_with fail
 refine i.o.M ?_;rintro e t ⟨rfl,n⟩;have m:=d.t n;go_wp2;go_ret2;exact⟨rfl,m⟩
def gf (a:Nat) (w:β) (v:ε) (n:Nat) (l:List (γ)):Prop:=L l=n/\w.ownsRow a 9 1 v n (χ l)
def gf.B {base w w' v n l} (h:gf base w v n l) (a:BQ w w'):gf base w' v n l:=⟨h.1,ψ h.2 a⟩
def gf.M {base base' w v n l} (h:gf base w v n l) (a:base'<=base):gf base' w v n l:=⟨h.1,gX h.2 a⟩
def gf.A {base w v n l} (h:gf base w v n l) (o):gf base (å w o) v n l:=h.B (ġ)
def gf.nil (w base):gf base w (D O 0 0) 0 []:=⟨rfl,gQ w base _ 1⟩
def gf.rd {base w v n l} (h:gf base w v n l):Rd w v n 1 (χ l):=Rd.of_own h.2
def gf.hi {base w v n l} (h:gf base w v n l):Hi base w (fun a=>Rd a v n 1 (χ l)):=Hi.own h.2
def tP {ops rest o} {a:Act} {Q:Exit->Act->β->Prop} {w} (l:o.guard=O) (s x)
  (p:o.op=.call {callee:=.builtin .append,args:= #[s,x],argTypes:= #[143,143]})
  (base) (v e:ε) (n m) (N M:List (γ)) (r:a.eval s=v) (d:gf base w v n N) (t:a.eval x=e) (P:L M=m) (q:Rd w e m 1 (χ M))
  (K:n+m<=4398046511104) (i:base<=w.heap.size)
  (h:∀ b c w',gf base w' (D b (n+m) c) (n+m) (N++M)->Below base w w'->wpList prog ops Q rest (a.put o.dst (D b (n+m) c)) w'):wpList prog ops Q (o::rest) a w:=by
 obtain⟨A,hi,u,y,z⟩:=Ϩ pU;refine ϻ l s x _ _ p base 9 A _ 1 _ ju hi u y z rfl v n _ r d.2 e m _ t (q.src ju (tE M)) ώ U i ?_;intro I w' f k E F;obtain⟨b,c,rfl⟩:=Η f;refine h b c w' ⟨by simp[d.1,P],by rw[nE];exact f⟩ ?_;refine RZ.grown k i fun H j=>?_;rcases d.2.2 with ⟨rfl,-⟩|⟨g,B,cur,rfl,hg,-⟩
 .simp[Value.ownBlock]at j
 .simp[Value.ownBlock]at j;omega
def qR (w:β) (e) (l:γ):Rd (å w (C #[š (δ l)] e)) (D (J ⟨w.heap.size,0,O⟩) 1 1) 1 1 (χ [l]):=
 AA w #[š (δ l)] e 1 1 rfl ϐ ϐ
def Et {w:β} {base e g n cap} {o:List ε} (h:w.ownsRow base e 1 (D (J ⟨g,0,O⟩) n cap) n o) (i) (p:i<n) (x:ε):(ŝ w ⟨g,i,O⟩ x).ownsRow base e 1 (D (J ⟨g,0,O⟩) n cap) n (o.set i x):=by
 obtain⟨f,d⟩:=h;rcases d with ⟨h,_⟩|⟨m,l,cur,h,a,hg,j,b,c,k⟩
 .simp at h
 .simp only[Χ,Φ,Addr.mk.injEq,it,ϵ]at h
  obtain⟨rfl,rfl⟩:=h;refine⟨by simpa using f,.inr ⟨g,cap,_,rfl,a,υ _ _ i _ _ x hg,j,b,by simpa using c,?_⟩⟩;rw[Array.toList_setIfInBounds,<-k,List.take_set]
def vl {w:β} {base e g n cap} {o:List ε} (h:w.ownsRow base e 1 (D (J ⟨g,0,O⟩) n cap) n o) (i) (p:i<n):w.cell? ⟨g,i,O⟩=o[i]?/\w.frozen? ⟨g,i,O⟩=false/\base<=g/\g<w.heap.size/\n<=cap/\cap<=maxLen:=by
 obtain⟨m,c⟩:=h;rcases c with ⟨h,_⟩|⟨k,j,cur,h,a,hg,d,b,l,f⟩
 .simp at h
 .simp only[Χ,Φ,Addr.mk.injEq,it,ϵ]at h
  obtain⟨rfl,rfl⟩:=h;refine⟨?_,ϧ _ _ _ _ _ hg,a,ς hg,d,b⟩;rw[ξ _ _ i _ _ _ hg,<-f,iH];simp[p]
def iY (e:Nat) (w:β) (v:ε) (n:Nat) (L:List (γ)):Prop:=L.length=n/\∃ c:List ε,w.ownsRow e 31 1 v n c/\∀ a (d:a<L.length),∃ b,c[a]?=J b/\Μ e w b L[a].length L[a]/\∀ g,b.ownBlock=J g->v.ownBlock≠J g
def iY.B {base w w' v n L} (h:iY base w v n L) (a:BQ w w'):iY base w' v n L:=by
 obtain⟨f,l,g,i⟩:=h;refine⟨f,l,ψ g a,fun k j=>?_⟩;obtain⟨b,c,d,e⟩:=i k j;exact⟨b,c,d.B a,e⟩
def iY.A {base w v n L} (h:iY base w v n L) (o):iY base (å w o) v n L:=h.B (ġ)
def iY.set {base w v n L} (h:iY base w v n L) {p} (a:p.block<base) (x:ε):iY base (ŝ w p x) v n L:=by
 obtain⟨f,l,g,i⟩:=h;refine⟨f,l,hR g a x,fun k j=>?_⟩;obtain⟨b,c,d,e⟩:=i k j;exact⟨b,c,d.set a x,e⟩
def iY.M {base base' w v n L} (h:iY base w v n L) (a:base'<=base):iY base' w v n L:=by
 obtain⟨f,l,g,i⟩:=h;refine⟨f,l,gX g a,fun k j=>?_⟩;obtain⟨b,c,d,e⟩:=i k j;exact⟨b,c,d.M a,e⟩
def iY.nil (w base):iY base w (D O 0 0) 0 []:=⟨rfl,[],gQ w base _ 1,fun b a=>by simp at a⟩
def iY.rd {base w v n L} (h:iY base w v n L):Ε w v L:=by
 obtain⟨d,j,e,f⟩:=h;refine⟨j,by rw[d];exact Rd.of_own e,fun i g=>?_⟩;obtain⟨a,b,c,-⟩:=f i g;exact⟨a,b,c.rd⟩
def iY.hi {base w v n L} (h:iY base w v n L):Hi base w (fun a=>Ε a v L):=by
 intro a b;obtain⟨f,l,g,i⟩:=h;refine⟨l,by rw[f];exact(Hi.own g) a b,fun k j=>?_⟩;obtain⟨c,d,e,-⟩:=i k j;exact⟨c,d,e.hi a b⟩
def Μ.grown {base} {w p:β} {v:ε} {n} {l:γ} {row} (h:Μ base w v n l) (q:w.grownBy p row) (m:∀ g,v.ownBlock=J g->row≠J g):Μ base p v n l:=by
 obtain⟨f,i,a⟩:=h;refine⟨f,i,?_⟩;rcases a with a|⟨g,d,cur,c,j,b,o⟩
 .exact .inl a
 .refine .inr ⟨g,d,cur,c,j,?_,o⟩
  have k:=m g (by rw[c];rfl);rw[q.block g (ς b) (fun e=>k e.symm)];exact b
def vO {ops rest o} {a:Act} {Q:Exit->Act->β->Prop} {w:β} (T:o.guard=O) (s x)
  (X:o.op=.call {callee:=.builtin .append,args:= #[s,x],argTypes:= #[29,29]})
  (base) (v d:ε) (n m) (L) (l:γ) (b:β) (e) (ae:å b (C #[d] e)=w) (ab:a.eval s=v) (aa:iY base b v n L) (j:Μ base b d m l) (B:∀ g,d.ownBlock=J g->v.ownBlock≠J g) (af:a.eval x=D (J ⟨b.heap.size,0,O⟩) 1 1)
  (ao:n<=1000000000) (an:base<=b.heap.size)
  (h:∀ f i w',iY base w' (D f (n+1) i) (n+1) (L++[l])->Below base w w'->wpList prog ops Q rest (a.put o.dst (D f (n+1) i)) w'):wpList prog ops Q (o::rest) a w:=by
 obtain⟨aj,hi,ag,ah,ai⟩:=Ϩ uW;obtain⟨P,u,k,R⟩:=aa;subst ae;have p:BQ b (å b (C #[d] e)):=ġ;have Z:d.oneCell'=true:=by
  obtain⟨f,i,rfl⟩:=Η j.2;rfl
 refine ϻ T s x _ _ X base 31 aj _ 1 _ nM hi ag ah ai rfl v n u ab (ψ k p) _ 1 [d] af (gh nM b _ 1 1 1 rfl (by simpa using Z)) ώ U ό ?_;intro aq w' I t k3 ap;obtain⟨f,i,rfl⟩:=Η I;have ac:∀ g,v.ownBlock=J g->base<=g/\g<b.heap.size:=by
  intro g hg;rcases k.2 with ⟨rfl,-⟩|⟨N,a0,cur,rfl,E,q,-⟩
  .cases hg
  .simp only[Value.ownBlock,Φ]at hg
   subst hg;exact⟨E,ς q⟩
 have H:∀ c:ε,(∀ g,c.ownBlock=J g->v.ownBlock≠J g)->(∀ g,c.ownBlock=J g->g<b.heap.size)->∀ g,c.ownBlock=J g->(Value.slice f (n+1) i).ownBlock≠J g:=by
  intro c al am g hg;rcases k3 with k3|k3
  .rw[k3];exact al g hg
  .rw[k3]
   have:=am g hg;simp only[mh];intro e;injection e with e;omega
 have M:∀ c K l2,Μ base b c K l2->∀ g,c.ownBlock=J g->g<b.heap.size:=by
  intro c K l2 Y g hg;rcases Y.2.2 with ⟨rfl,-⟩|⟨N,a0,cur,rfl,E,q,-⟩
  .cases hg
  .simp only[Value.ownBlock,Φ]at hg
   subst hg;exact ς q
 refine h f i w' ⟨by simp[P],u++[d],I,fun r a1=>?_⟩ ?_
 .by_cases F:r<L.length
  .obtain⟨c,y,z,A⟩:=R r F
   refine⟨c,?_,?_,H c A (M _ _ _ z)⟩
   .rw[je]
    .exact y
    .have:=(lK.1 y).1;exact this
   .rw[qm F]
    exact(z.B p).grown t A
  .have V:r=L.length:=by simp at a1;omega
   subst V;have ad:u.length=L.length:=ι k.1;refine⟨d,?_,?_,H d B (M _ _ _ j)⟩
   .rw[hL U,ad,kj];rfl
   .have S:(L++[l])[L.length]=l:=ύ
    rw[S,j.1];exact(j.B p).grown t B
 .exact RZ.grown t ό fun ak W=>(ac ak W).1
def Μ.apart {b1} {p:β} {v:ε} {n} {l:γ} (h:Μ b1 p v n l) {b2 w2 v2 n2 L2} (f:iY b2 w2 v2 n2 L2) (m:w2.heap.size<=b1):∀ g,v.ownBlock=J g->v2.ownBlock≠J g:=by
 intro g hg e;have j:b1<=g:=by
  rcases h.2.2 with ⟨rfl,-⟩|⟨d,c,cur,rfl,a,b,-⟩
  .cases hg
  .simp only[Value.ownBlock,Φ]at hg
   subst hg;exact a
 have k:g<w2.heap.size:=by
  obtain⟨-,o,i,-⟩:=f;rcases i.2 with ⟨rfl,-⟩|⟨d,c,cur,rfl,a,b,-⟩
  .cases e
  .simp only[Value.ownBlock,Φ]at e
   subst e;exact ς b
 omega
def iu (w:β) (v:ε) (e:List (Nat×γ)):Prop:= ∃ b,Rd w v (L e) 2 b/\∀ a (d:a<L e),b[a*2]?=J (G e[a].1)/\∃ c,b[a*2+1]?=J c/\Rd w c (L e[a].2) 1 (η e[a].2)
def iu.B {w w' v ws} (h:iu w v ws) (a:BQ w w'):iu w' v ws:=by
 obtain⟨b,f,g⟩:=h;refine⟨b,f.B a,fun j i=>?_⟩;obtain⟨c,k,d,e⟩:=g j i;exact⟨c,k,d,e.B a⟩
def yg {w v ws} (h:iu w v ws):∃ a c,v=D a (L ws) c /\
  Hid (∀ k (g:k<L ws),∃ b off da dc,a=J ⟨b,off,O⟩/\w.cell? ⟨b,off+k*2,O⟩=J (G ws[k].1)/\w.cell? ⟨b,off+k*2+1,O⟩=J (D da (L ws[k].2) dc)/\Rd w (D da (L ws[k].2) dc) (L ws[k].2) 1 (η ws[k].2)):=by
 obtain⟨n,⟨p,q,m⟩,l⟩:=h;rcases m with ⟨a,c,rfl,e⟩|⟨b,off,c,rfl,e,r,o,f⟩
 .exact⟨a,c,by rw[e],fun s hi=>U⟩
 .refine⟨_,c,rfl,fun k g=>?_⟩
  obtain⟨i,t,j,d⟩:=l k g;obtain⟨da,dc,rfl⟩:=sK d;exact⟨b,off,da,dc,rfl,f _ _ i,by rw[iX];exact f _ _ j,d⟩
structure jg (bl:List (γ)) (ws:List (Nat×γ)):Prop where
 nb:L bl<=4096
 nw:L ws<=1000
 lb:∀ b∈bl,L b=64
 lw:∀ x∈ws,x.1<L bl/\L x.2=64
def Cj (j n:ε) (bl:List (γ)) (ws) (w:β) (x:Ε w j bl) (M:iu w n ws) (f:jg bl ws) :
  Calls prog 108 #[ā #[j,n]] w fun e w'=>e=ŗ (.bool true)/\BQ w w':=by
 obtain⟨ba,bc,rfl,-,o⟩:=mr x;obtain⟨wa,wc,rfl,HW⟩:=yg M;have N:=f.nb;have P:=f.nw;have p:=Zh (fun a d=>f.lb bl[a] (Ψ d));have r:=Zh (fun a d=>f.lw ws[a] (Ψ d));go_enter func108,ntmps108;go_wp2;go_loopw [20] (fun c wr=>∃ a:Nat,a<=L bl/\c=G (a:Int)/\wr=å w (C #[D ba (L bl) bc,D wa (L ws) wc] 41)) (fun c _=>L bl - (intOf c).toNat)
 .exact⟨0,Ζ _,rfl,by first|rfl|trivial⟩
 obtain⟨a,d,rfl,rfl⟩:=hrel;by_cases l:a<L bl
 .obtain⟨b,off,Y,Z,rfl,k,-⟩:=o.o a l
  have E:=p.o a l;rw[E]at k;have H:(a:Int)<(L bl:Int):=U;have a1:(0:Int)<=(a:Int):=U;have a0:=ζ ((ρ _ w).A NZ (C #[D (J ⟨b,off,O⟩) (L bl) bc,D wa (L ws) wc] 41)) k;go_wp2;go_roundw
  .exact⟨a+1,U,ϕ,by first|rfl|trivial⟩
  exact ω
 .have H:¬(a:Int)<(L bl:Int):=U
  have y:BQ w (å w (C #[D ba (L bl) bc,D wa (L ws) wc] 41)):=ġ;have F:=φ w (C #[D ba (L bl) bc,D wa (L ws) wc] 41);go_wp2;generalize(å w _)=t at *;have s:=Zh F;go_loopw [31] (fun c K=>∃ q:Nat,q<=L ws/\c=G (q:Int)/\BQ t K) (fun c _=>L ws - (intOf c).toNat)
  .exact⟨0,Ζ _,rfl,ρ _ _⟩
  obtain⟨q,Q,rfl,i⟩:=hrel;have h:=y.t i;by_cases m:q<L ws
  .obtain⟨b,off,u,v,rfl,A,B,-⟩:=HW.o q m
   obtain⟨p1,p2⟩:=r.o q m;have I:(q:Int)<(L ws:Int):=U;have V:=ζ h A;have l1:=ζ h B;rw[p2]at l1;obtain⟨⟨W,X⟩,⟨aa,ab⟩,R⟩:=ν (θ s.o i);generalize ws[q].1=g at *;have S:¬(g:Int)<0:=U;have T:¬(L bl:Int)<=(g:Int):=U;have z:=i.al (C #[G g,D u 64 v] 84);go_wp2;go_roundw
   .exact⟨q+1,U,ϕ,z⟩
   exact ω
  .have I:¬(q:Int)<(L ws:Int):=U
   go_wp2;go_ret;exact⟨rfl,h⟩
def uF (ba nb bc wa nw wc) (y:List (γ)) (ws) (w:β) (h:Ε w (D ba nb bc) y) (n:iu w (D wa nw wc) ws) (l:jg y ws) :
  Calls prog 119 #[ā #[D ba nb bc,D wa nw wc]] w fun e w'=>e=ŗ (ā #[D ba nb bc,D wa nw wc])/\BQ w w':=by
 have f:=Zh (fun a (b:BQ w a)=>Cj _ _ y ws a (h.B b) (n.B b) l);have i:BQ w (å (å w (C #[D ba nb bc,D wa nw wc] 41)) (C #[D O 0 0,D O 0 0] 41)):=ġ.A ύ _;go_enter func119,ntmps119;go_wp2_with fail
 refine(f.o _ i).M ?_;rintro e u ⟨rfl,j⟩;obtain⟨m,c,v,x,k⟩:=fZ j;obtain⟨⟨s,t⟩,⟨p,f1⟩,-⟩:=ν m;obtain⟨⟨o,d1⟩,⟨q,r⟩,-⟩:=ν c;have⟨g,d⟩:=π (fS c (D ba nb bc) (D wa nw wc)) (ga k (gu _ 1) (D ba nb bc) (D wa nw wc));go_wp2;exact Ω  (jf   rfl _ _ _ _ _ _ _ rfl g.o qh rfl ϋ) rfl ⟨rfl,d.o⟩
def pe (a n:Nat):List ε:=(List.range n).map fun b=>D (J ⟨a,b*64,O⟩) 64 64
def wF (g1 n):L (pe g1 n)=n:=by simp[pe]
def zN {d:ϸ} (h:∀ b∈d,L b=64):L d.flatten=L d*64:=by
 induction d with
 |nil=>rfl
 |cons b r c =>
  simp only[qi,σ,ϥ];rw[c fun x a=>h x (by simp[a]),h b ύ];omega
def Dn:∀ {bl:ϸ} (h:∀ b∈bl,L b=64) (i j:Nat) (e:i<L bl) (a:j<64),bl.flatten[i*64+j]?=(bl[i])[j]?
 |[],h,i,j,e,a=>by simp at e
 |b::r,h,0,j,e,a=>by
  have:=h b ύ;simp only[qi,rj,iI,oU];rw[je U]
 |b::r,h,i+1,j,e,a=>by
  have c:=h b ύ;have:=Dn (bl:=r) (fun x d=>h x (by simp[d])) i j (by simpa using e) a;simp only[qi,rn];rw[hL U,c,show(i+1)*64+j - 64=i*64+j from U,this]
def FN:∀ {bl:ϸ} (h:∀ b∈bl,L b=64) (i:Nat) (d:γ) (e:i<L bl) (a:L d<=64),bl.flatten.take (i*64)++(d++bl.flatten.drop (i*64+L d))=(bl.set i (d++(bl.getD i []).drop (L d))).flatten
 |[],h,i,d,e,a=>by simp at e
 |b::r,h,0,d,e,a=>by
  have c:=h b ύ;simp only[qi,rj,iI,rq,js,vX,List.getD_cons_zero,gP];rw[List.drop_append_of_le_length U]
 |b::r,h,i+1,d,e,a=>by
  have c:=h b ύ;have:=FN (bl:=r) (fun x a=>h x (by simp[a])) i d (by simpa using e) a;simp only[qi,vY,List.getD_cons_succ];rw[<-this,show(i+1)*64=L b+i*64 from U,List.take_append,gF U,show L b+i*64 - L b=i*64 from U,iX,List.drop_append,mg U,show L b+(i*64+L d) - L b=i*64+L d from U];simp
def xS (L a:γ) (off):splice (η L) off (η a)=η (L.take off++(a++L.drop (off+a.length))):=by
 simp[splice,η,List.map_drop]
structure hY (base:Nat) (w:β) (g1 g2:Nat) (bl:ϸ):Prop where
 arr:w.heap[g1]?=J (C (η bl.flatten).toArray 5 (0,0))
 row:w.heap[g2]?=J (C (pe g1 (L bl)).toArray 31 (0,0))
 l64:∀ b∈bl,L b=64
 nb:L bl<=4096
 b1:base<=g1
 b2:base<=g2
 ne:g1≠g2
def hY.keep {base w w' g1 g2 bl} (h:hY base w g1 g2 bl) (a:w'.heap[g1]?=w.heap[g1]?) (b:w'.heap[g2]?=w.heap[g2]?):hY base w' g1 g2 bl:=
 ⟨a.trans h.arr,b.trans h.row,h.l64,h.nb,h.b1,h.b2,h.ne⟩
def hY.B {base w w' g1 g2 bl} (h:hY base w g1 g2 bl) (a:BQ w w'):hY base w' g1 g2 bl:=h.keep (a.block _ (ς h.arr)) (a.block _ (ς h.row))
def hY.set {base w g1 g2 bl} (h:hY base w g1 g2 bl) {p} (a:p.block<base) (x:ε):hY base (ŝ w p x) g1 g2 bl:=
 h.keep (Γ _ _ _ _ (ι h.b1)) (Γ _ _ _ _ (ι h.b2))
def hY.A {base w g1 g2 bl} (h:hY base w g1 g2 bl) (o):hY base (å w o) g1 g2 bl:=h.B (ġ)
def hY.M {base base' w g1 g2 bl} (h:hY base w g1 g2 bl) (a:base'<=base):hY base' w g1 g2 bl:=⟨h.arr,h.row,h.l64,h.nb,gj a h.b1,gj a h.b2,h.ne⟩
def hY.rd {base w g1 g2 bl} (h:hY base w g1 g2 bl):Ε w (D (J ⟨g2,0,O⟩) (L bl) (L bl)) bl:=by
 obtain⟨g,j,d,n,l,m,o⟩:=h;refine⟨pe g1 (L bl),⟨by rw[wF];omega,ώ,?_⟩,fun b hi=>?_⟩
 .by_cases c:L bl=0
  .exact .inl ⟨ _,_,by rw[c],c⟩
  .refine .inr ⟨g2,0,L bl,rfl,U,NZ,ώ,fun b k a=>?_⟩
   rw[ξ _ _ _ _ _ _ j];simpa using a
 .refine⟨D (J ⟨g1,b*64,O⟩) 64 64,by simp[pe,hi],?_⟩
  have e:=d bl[b] (Ψ hi);rw[e];refine⟨by simp[η,e],ώ,.inr ⟨g1,b*64,64,rfl,U,U,ώ,fun f k a=>?_⟩⟩;have i:f<64:=by
   have:=(lK.1 a).1;simpa[η,e] using this
  rw[ξ _ _ _ _ _ _ g];simp only[η,mD,jP]at a ⊢;rw[Dn d b f hi i];exact a
def hY.hi {base w g1 g2 bl} (h:hY base w g1 g2 bl):Hi base w (fun b=>Ε b (D (J ⟨g2,0,O⟩) (L bl) (L bl)) bl):=
 fun b a=>(h.keep (a _ h.b1 (ς h.arr)) (a _ h.b2 (ς h.row))).rd
def hY.cell {base w g1 g2 bl} (h:hY base w g1 g2 bl) (i) (a:i<L bl):w.cell? ⟨g2,i,O⟩=J (D (J ⟨g1,i*64,O⟩) 64 64):=by
 rw[ξ _ _ _ _ _ _ h.row];simp[pe,a]
def Rd.from {w:β} {e:ε} {m} {s:γ} (k:Rd w e m 1 (η s)):∃ d c,e=D d m c/\(0<L (η s)->∃ a,d=J a/\∀ j v,(η s)[j]?=J v->w.cell? (a.add j)=J v):=by
 obtain⟨p,q,⟨f,c,rfl,rfl⟩|⟨b,off,c,rfl,n,r,o,i⟩⟩:=k
 .exact⟨f,c,rfl,fun h=>U⟩
 .refine⟨_,c,rfl,fun _=>⟨_,rfl,fun j v l=>?_⟩⟩
  have g:(⟨b,off,O⟩:Addr).add j=⟨b,off+j,O⟩:=by unfold Addr.add;split<;>simp_all
  rw[g];exact i j v l
def Rg {ops rest o} {a:Act} {Q:Exit->Act->β->Prop} {w:β} (j:o.guard=O) (d s)
  (l:o.op=.call {callee:=.builtin .copy,args:= #[d,s],argTypes:= #[31,31]})
  (g off dLen dCap) (L:γ) (X:w.heap[g]?=J (C (η L).toArray 5 (0,0))) (i:a.eval d=D (J ⟨g,off,O⟩) dLen dCap)
  (v:ε) (m) (W:γ) (p:a.eval s=v) (n:Rd w v m 1 (η W)) (B:m<=dLen) (M:off+m<=L.length)
  (h:∀ w',Hid (w'.heap[g]?=J (C (η (L.take off++(W++L.drop (off+m)))).toArray 5 (0,0)))->Below g w w'->(∀ k,k≠g->w'.heap[k]?=w.heap[k]?)->w'.heap.size=w.heap.size->wpList prog ops Q rest (a.put o.dst (G m)) w'):wpList prog ops Q (o::rest) a w:=by
 have f:=n.1;have u:W.length=m:=by simpa[η] using f
 obtain⟨S,c,rfl,F⟩:=n.from
 obtain⟨R,hi,N,H,P⟩:=Ϩ lh;have r:(prog.info? 5).map (·.size)=J 1:=by rw[hi];simp[H]
 have K:(η L).length=L.length:=by simp[η]
 have E:∀ I∈η W,I.oneCell'=true:=by
  intro T t;simp only[η,ih]at t;obtain⟨b,-,rfl⟩:=t;rfl
 have q:=xS L W off;rw[u]at q;by_cases y:m=0
 .subst y
  have V:W=[]:=kS u;subst V;refine wpList_copy_nothing j d s _ _ l _ gv r _ _ _ _ _ _ i p ύ ?_;refine h w ?_ RZ (fun _ _=>rfl) rfl;show _=_;simpa using X
 .obtain⟨x,rfl,z⟩:=F (by rw[f];omega)
  refine wpList_copy_own j d s _ _ l _ gv r g off dLen dCap x m c i p _ _ X _ (by rw[f,oR];exact(mi B).symm) z (by simp only[qk];omega) E ?_;have e:(goInt (η W).length)=G m:=by rw[f,oR];rfl
  rw[e];refine h _ ?_ (below_setRow RZ NZ _) (fun k A=>tY w g k _ (fun e=>A e)) (by simp[World.setRow]);show _=_;rw[<-q];have:=setRow_heap w g _ (splice (η L) off (η W)).toArray 5 _ X;simpa[splice] using this
def AT {ops o} {a:Act} {w:β} {K:Act->β->Prop} {Q:Exit->Act->β->Prop} {E} (A:o.guard=O) (d s)
  (l:o.op=.call {callee:=.builtin .copy,args:= #[d,s],argTypes:= #[31,31]})
  (g off dLen dCap) (L:γ) (hg:w.heap[g]?=J (C (η L).toArray 5 (0,0))) (j:a.eval d=D (J ⟨g,off,O⟩) dLen dCap)
  (v:ε) (m) (xs:γ) (p:a.eval s=v) (n:Rd w v m 1 (η xs)) (F:m<=dLen) (Z:off+m<=L.length)
  (h:∀ w',Hid (w'.heap[g]?=J (C (η (L.take off++(xs++L.drop (off+m)))).toArray 5 (0,0)))->Below g w w'->(∀ k,k≠g->w'.heap[k]?=w.heap[k]?)->w'.heap.size=w.heap.size->K (a.put o.dst (G m)) w') :
  if Region.wanted o (yielded ops a.tmps)=true then Oper.wp prog o a w K Q else E:=by
 have I:Region.wanted o (yielded ops a.tmps)=true:=by simp[Region.wanted,A]
 rw[μ I];have f:=n.1;have u:xs.length=m:=by simpa[η] using f
 obtain⟨R,c,rfl,H⟩:=n.from
 obtain⟨X,hi,V,N,W⟩:=Ϩ lh;have r:(prog.info? 5).map (·.size)=J 1:=by rw[hi];simp[N]
 have a0:(η L).length=L.length:=by simp[η]
 have T:∀ S∈η xs,S.oneCell'=true:=by
  intro Y t;simp only[η,ih]at t;obtain⟨b,-,rfl⟩:=t;rfl
 have q:=xS L xs off;rw[u]at q;by_cases y:m=0
 .subst y
  have M:xs=[]:=kS u;subst M;have i:=run_copy_none  w 31 31 o.type _ (J ⟨g,off,O⟩) R dLen dCap 0 c gv r ύ;unfold Oper.wp;simp[execOp,l,resolve,invoke,builtin,j,p,i];refine h w ?_ RZ (fun _ _=>rfl) rfl;show _=_;simpa using hg
 .obtain⟨x,rfl,z⟩:=H (by rw[f];omega)
  have i:=run_copy_row (P:=prog) w 31 31 o.type _ g off dLen dCap x m c _ 5 _ gv r hg (by rw[f,oR];exact(mi F).symm) z (by simp only[qk];omega) T;unfold Oper.wp;simp only[execOp,l,resolve,invoke,builtin,Sem.run_bind,Sem.run_pure,qs,ij,jQ,j,p,i,pH];have e:(goInt (η xs).length)=G m:=by rw[f,oR];rfl
  rw[e];refine h _ ?_ (below_setRow RZ NZ _) (fun k B=>tY w g k _ (fun e=>B e)) (by simp[World.setRow]);show _=_;rw[<-q];have:=setRow_heap w g _ (splice (η L) off (η xs)).toArray 5 _ hg;simpa[splice] using this
def AL {w:β} (g off dLen dCap) (L:γ) (M:w.heap[g]?=J (C (η L).toArray 5 (0,0)))
  (n:ε) (m) (K:γ) (f:Rd w n m 1 (η K)) (s:m<=dLen) (B:off+m<=L.length) :
  ∃ w',(Builtin.copy_ #[31,31] 3 #[D (J ⟨g,off,O⟩) dLen dCap,n]).run prog w=.ok (G m) w'/\Hid (w'.heap[g]?=J (C (η (L.take off++(K++L.drop (off+m)))).toArray 5 (0,0)))/\Below g w w'/\(∀ k,k≠g->w'.heap[k]?=w.heap[k]?)/\w'.heap.size=w.heap.size:=by
 have a:=f.1;have l:K.length=m:=by simpa[η] using a
 obtain⟨y,c,rfl,u⟩:=f.from
 obtain⟨I,hi,E,x,F⟩:=Ϩ lh;have i:(prog.info? 5).map (·.size)=J 1:=by rw[hi];simp[x]
 have A:(η L).length=L.length:=by simp[η]
 have h:=xS L K off;rw[l]at h;by_cases p:m=0
 .subst p
  have v:K=[]:=kS l;subst v;have d:=run_copy_none  w 31 31 3 _ (J ⟨g,off,O⟩) y dLen dCap 0 c gv i ύ;refine⟨w,d,?_,ρ _ _,fun _ _=>rfl,rfl⟩;show _=_;simpa using M
 .obtain⟨o,rfl,q⟩:=u (by rw[a];omega)
  have t:∀ z∈η K,z.oneCell'=true:=by
   intro H j;simp only[η,ih]at j;obtain⟨b,-,rfl⟩:=j;rfl
  have d:=run_copy_row (P:=prog) w 31 31 3 _ g off dLen dCap o m c _ 5 _ gv i M (by rw[a,oR];exact(mi s).symm) q (by simp only[qk];omega) t;have e:(goInt (η K).length)=G m:=by rw[a,oR];rfl
  rw[e]at d;refine⟨_,d,?_,below_setRow RZ NZ _,fun k r=>tY w g k _ (fun e=>r e),by simp[World.setRow]⟩;show _=_;rw[<-h];have:=setRow_heap w g _ (splice (η L) off (η K)).toArray 5 _ M;simpa[splice] using this
def hY.copied {base w w' g1 g2 i m bl} {d:γ} (h:hY base w g1 g2 bl) (g:i<L bl) (a:L d=m) (b:m<=64)
  (f:w'.heap[g1]?=J (C (η (bl.flatten.take (i*64)++(d++bl.flatten.drop (i*64+m)))).toArray 5 (0,0))) (c:∀ k,k≠g1->w'.heap[k]?=w.heap[k]?):hY base w' g1 g2 (bl.set i (d++(bl.getD i []).drop m)):=by
 subst a;rw[FN h.l64 i d g b]at f;refine⟨f,?_,?_,by simpa using h.nb,h.b1,h.b2,h.ne⟩
 .rw[c _ (fun e=>h.ne e.symm)];simpa using h.row
 .have:=h.l64 _ (qI bl i [] g)
  exact tf h.l64 (by rw[σ,fT];omega)
