/- Part 14 of the proof. -/
import Derived.Test.YtpilfbcffofheaaGreatDoorm08
set_option linter.unusedVariables false
set_option linter.unusedSimpArgs false
set_option maxRecDepth 100000
set_option maxHeartbeats 4000000
namespace Go.Proofs.YtpilfbcffofheaaGreatDoor
open Go.Proofs.Tryz Go.RowKit Go.Sort
open List renaming length->L
open Value renaming slice->D,string->š,agg->ā,int->ĭ
open Option renaming none->O,some->J
open Obj renaming cells->C
open World renaming alloc->å,setCell->ŝ
open Ending renaming returned->ŗ
def fZ (base:Nat) (w:β) (v:ε) (n:Nat) (l:List (γ)):Prop:=L l=n/\w.ownsRow base 9 1 v n (σ l)
theorem fZ.below {base:Nat} {w w':β} {v:ε} {n:Nat} {l:List (γ)} (h:fZ base w v n l) (a:BQ w w'):fZ base w' v n l:=⟨h.1,Υ h.2 a⟩
theorem fZ.mono {base base':Nat} {w:β} {v:ε} {n:Nat} {l:List (γ)} (h:fZ base w v n l) (a:base'<=base):fZ base' w v n l:=⟨h.1,ii h.2 a⟩
theorem fZ.alloc {base:Nat} {w:β} {v:ε} {n:Nat} {l:List (γ)} (h:fZ base w v n l) (o:Obj):fZ base (å w o) v n l:=h.below (ġ)
theorem fZ.nil (w:β) (base:Nat):fZ base w (D O 0 0) 0 []:=⟨rfl,hZ w base _ 1⟩
theorem fZ.rd {base:Nat} {w:β} {v:ε} {n:Nat} {l:List (γ)} (h:fZ base w v n l):Rd w v n 1 (σ l):=Rd.of_own h.2
theorem fZ.hi {base:Nat} {w:β} {v:ε} {n:Nat} {l:List (γ)} (h:fZ base w v n l):Hi base w (fun a=>Rd a v n 1 (σ l)):=Hi.own h.2
theorem tU (a b:List (γ)):σ (a++b)=σ a++σ b:=by simp[σ]
theorem uh {ops:Array Oper} {k:List Oper} {o:Oper} {a:Act} {Q:Exit->Act->β->Prop} {w:β} (p:o.guard=O) (s x:Operand)
  (q:o.op=.call {callee:=.builtin .append,args:= #[s,x],argTypes:= #[143,143]})
  (base:Nat) (v e:ε) (n m:Nat) (xs ys:List (γ)) (t:a.eval s=v) (d:fZ base w v n xs) (u:a.eval x=e) (hy:L ys=m) (r:Rd w e m 1 (σ ys))
  (H:n+m<=4398046511104) (i:base<=w.heap.size)
  (h:∀ b c w',fZ base w' (D b (n+m) c) (n+m) (xs++ys)->Below base w w'->wpList prog ops Q k (a.put o.dst (D b (n+m) c)) w'):wpList prog ops Q (o::k) a w:=by
 obtain⟨B,hi,y,z,A⟩:=ϯ rn;refine gn p s x 143 143 q base 9 B (š ⟨#[]⟩) 1 16 lL hi y z A rfl v n (σ xs) t d.2 e m (σ ys) u (r.src lL (tV ys)) ώ ϊ i ?_;intro K w' f l F G;obtain⟨b,c,rfl⟩:=Θ f;refine h b c w' ⟨by simp[d.1,hy],by rw[tU];exact f⟩ ?_;refine RZ.grown l i fun I j=>?_;rcases d.2.2 with ⟨rfl,-⟩|⟨g,E,cur,rfl,hg,-⟩
 .simp[Value.ownBlock]at j
 .simp[Value.ownBlock]at j;omega
theorem qF (w:β) (e:TypeId) (l:γ):Rd (å w (C #[š (δ l)] e)) (D (J ⟨w.heap.size,0,O⟩) 1 1) 1 1 (σ [l]):=
 tR w #[š (δ l)] e 1 1 rfl ϐ ϐ
theorem De {w:β} {base:Nat} {e:TypeId} {g n a:Nat} {xs:List ε} (h:w.ownsRow base e 1 (D (J ⟨g,0,O⟩) n a) n xs) (i:Nat) (hi:i<n) (x:ε):(ŝ w ⟨g,i,O⟩ x).ownsRow base e 1 (D (J ⟨g,0,O⟩) n a) n (xs.set i x):=by
 obtain⟨j,f⟩:=h;rcases f with ⟨h,_⟩|⟨o,m,cur,h,b,hg,k,c,d,l⟩
 .simp at h
 .simp only[Ξ,Ο,Addr.mk.injEq,hR,Ϯ]at h
  obtain⟨rfl,rfl⟩:=h;refine⟨by simpa using j,.inr ⟨g,a,_,rfl,b,π _ _ i _ _ x hg,k,c,by simpa using d,?_⟩⟩;rw[Array.toList_setIfInBounds,<-l,List.take_set]
theorem tF {w:β} {base:Nat} {e:TypeId} {g n a:Nat} {xs:List ε} (h:w.ownsRow base e 1 (D (J ⟨g,0,O⟩) n a) n xs) (i:Nat) (hi:i<n):w.cell? ⟨g,i,O⟩=xs[i]?/\w.frozen? ⟨g,i,O⟩=false/\base<=g/\g<w.heap.size/\n<=a/\a<=maxLen:=by
 obtain⟨o,d⟩:=h;rcases d with ⟨h,_⟩|⟨l,k,cur,h,b,hg,f,c,m,j⟩
 .simp at h
 .simp only[Ξ,Ο,Addr.mk.injEq,hR,Ϯ]at h
  obtain⟨rfl,rfl⟩:=h;refine⟨?_,ϥ _ _ _ _ _ hg,b,ο hg,f,c⟩;rw[ν _ _ i _ _ _ hg,<-j,hP];simp[hi]
def jb (base:Nat) (w:β) (v:ε) (n:Nat) (a:List (γ)):Prop:=L a=n/\∃ d:List ε,w.ownsRow base 31 1 v n d/\∀ b (e:b<L a),∃ c,d[b]?=J c/\Φ base w c (L a[b]) a[b]/\∀ g,c.ownBlock=J g->v.ownBlock≠J g
theorem jb.below {base:Nat} {w w':β} {v:ε} {n:Nat} {a:List (γ)} (h:jb base w v n a) (b:BQ w w'):jb base w' v n a:=by
 obtain⟨g,m,i,j⟩:=h;refine⟨g,m,Υ i b,fun l k=>?_⟩;obtain⟨c,d,e,f⟩:=j l k;exact⟨c,d,e.below b,f⟩
theorem jb.alloc {base:Nat} {w:β} {v:ε} {n:Nat} {a:List (γ)} (h:jb base w v n a) (o:Obj):jb base (å w o) v n a:=h.below (ġ)
theorem jb.set {base:Nat} {w:β} {v:ε} {n:Nat} {a:List (γ)} (h:jb base w v n a) {p:Addr} (b:p.block<base) (x:ε):jb base (ŝ w p x) v n a:=by
 obtain⟨g,m,i,j⟩:=h;refine⟨g,m,il i b x,fun l k=>?_⟩;obtain⟨c,d,e,f⟩:=j l k;exact⟨c,d,e.set b x,f⟩
theorem jb.mono {base base':Nat} {w:β} {v:ε} {n:Nat} {a:List (γ)} (h:jb base w v n a) (b:base'<=base):jb base' w v n a:=by
 obtain⟨g,m,i,j⟩:=h;refine⟨g,m,ii i b,fun l k=>?_⟩;obtain⟨c,d,e,f⟩:=j l k;exact⟨c,d,e.mono b,f⟩
theorem jb.nil (w:β) (base:Nat):jb base w (D O 0 0) 0 []:=⟨rfl,[],hZ w base _ 1,fun b a=>by simp at a⟩
theorem jb.rd {base:Nat} {w:β} {v:ε} {n:Nat} {a:List (γ)} (h:jb base w v n a):Δ w v a:=by
 obtain⟨e,k,f,g⟩:=h;refine⟨k,by rw[e];exact Rd.of_own f,fun j i=>?_⟩;obtain⟨b,c,d,-⟩:=g j i;exact⟨b,c,d.rd⟩
theorem jb.hi {base:Nat} {w:β} {v:ε} {n:Nat} {b:List (γ)} (h:jb base w v n b):Hi base w (fun a=>Δ a v b):=by
 intro a c;obtain⟨g,m,i,j⟩:=h;refine⟨m,by rw[g];exact(Hi.own i) a c,fun l k=>?_⟩;obtain⟨d,e,f,-⟩:=j l k;exact⟨d,e,f.hi a c⟩
theorem vp:(prog.info? 31).map (fun i=>(i.zero,i.size,i.bytes))=J (J (D O 0 0),1,24):=ϋ
theorem Φ.grown {base:Nat} {w w':β} {v:ε} {n:Nat} {l:γ} {row:Option Nat} (h:Φ base w v n l) (hg:w.grownBy w' row) (m:∀ g,v.ownBlock=J g->row≠J g):Φ base w' v n l:=by
 obtain⟨f,i,a⟩:=h;refine⟨f,i,?_⟩;rcases a with a|⟨g,d,cur,c,j,b,o⟩
 .exact .inl a
 .refine .inr ⟨g,d,cur,c,j,?_,o⟩
  have k:=m g (by rw[c];rfl);rw[hg.block g (ο b) (fun e=>k e.symm)];exact b
theorem wH {ops:Array Oper} {N:List Oper} {o:Oper} {a:Act} {Q:Exit->Act->β->Prop} {w:β} (V:o.guard=O) (s x:Operand)
  (Z:o.op=.call {callee:=.builtin .append,args:= #[s,x],argTypes:= #[29,29]})
  (base:Nat) (v d:ε) (n m:Nat) (f:List (γ)) (l:γ) (b:β) (e:TypeId) (ag:å b (C #[d] e)=w) (ad:a.eval s=v) (ac:jb base b v n f) (k:Φ base b d m l) (E:∀ g,d.ownBlock=J g->v.ownBlock≠J g) (ah:a.eval x=D (J ⟨b.heap.size,0,O⟩) 1 1)
  (aq:n<=1000000000) (ap:base<=b.heap.size)
  (h:∀ i j w',jb base w' (D i (n+1) j) (n+1) (f++[l])->Below base w w'->wpList prog ops Q N (a.put o.dst (D i (n+1) j)) w'):wpList prog ops Q (o::N) a w:=by
 obtain⟨al,hi,ai,aj,ak⟩:=ϯ vp;obtain⟨S,y,p,T⟩:=ac;subst ag;have q:BQ b (å b (C #[d] e)):=ġ;have ab:d.oneCell'=true:=by
  obtain⟨i,j,rfl⟩:=Θ k.2;rfl
 refine gn V s x 29 29 Z base 31 al (D O 0 0) 1 24 kY hi ai aj ak rfl v n y ad (Υ p q) (D (J ⟨b.heap.size,0,O⟩) 1 1) 1 [d] ah (ig kY b #[d] 1 1 1 rfl (by simpa using ab)) ώ ϊ ό ?_;intro au w' K u k3 ar;obtain⟨i,j,rfl⟩:=Θ K;have ae:∀ g,v.ownBlock=J g->base<=g/\g<b.heap.size:=by
  intro g hg;rcases p.2 with ⟨rfl,-⟩|⟨R,P,cur,rfl,F,r,-⟩
  .cases hg
  .simp only[Value.ownBlock,Ο]at hg
   subst hg;exact⟨F,ο r⟩
 have I:∀ c:ε,(∀ g,c.ownBlock=J g->v.ownBlock≠J g)->(∀ g,c.ownBlock=J g->g<b.heap.size)->∀ g,c.ownBlock=J g->(Value.slice i (n+1) j).ownBlock≠J g:=by
  intro c an ao g hg;rcases k3 with k3|k3
  .rw[k3];exact an g hg
  .rw[k3]
   have:=ao g hg;simp only[lz];intro e;injection e with e;omega
 have H:∀ c M l2,Φ base b c M l2->∀ g,c.ownBlock=J g->g<b.heap.size:=by
  intro c M l2 aa g hg;rcases aa.2.2 with ⟨rfl,-⟩|⟨R,P,cur,rfl,F,r,-⟩
  .cases hg
  .simp only[Value.ownBlock,Ο]at hg
   subst hg;exact ο r
 refine h i j w' ⟨by simp[S],y++[d],K,fun t W=>?_⟩ ?_
 .by_cases G:t<L f
  .obtain⟨c,z,A,B⟩:=T t G
   refine⟨c,?_,?_,I c B (H _ _ _ A)⟩
   .rw[iX]
    .exact z
    .have:=(lN.1 z).1;exact this
   .rw[ph G]
    exact(A.below q).grown u B
  .have X:t=L f:=by simp at W;omega
   subst X;have af:L y=L f:=by have:=p.1;omega
   refine⟨d,?_,?_,I d E (H _ _ _ k)⟩
   .rw[gO ϊ,af,kE];rfl
   .have U:(f++[l])[L f]=l:=ύ
    rw[U,k.1];exact(k.below q).grown u E
 .exact RZ.grown u ό fun am Y=>(ae am Y).1
theorem Φ.apart {b1:Nat} {w1:β} {v:ε} {n:Nat} {l:γ} (h:Φ b1 w1 v n l) {b2:Nat} {a:β} {d:ε} {o:Nat} {f:List (γ)} (k:jb b2 a d o f) (r:a.heap.size<=b1):∀ g,v.ownBlock=J g->d.ownBlock≠J g:=by
 intro g hg e;have p:b1<=g:=by
  rcases h.2.2 with ⟨rfl,-⟩|⟨j,i,cur,rfl,b,c,-⟩
  .cases hg
  .simp only[Value.ownBlock,Ο]at hg
   subst hg;exact b
 have q:g<a.heap.size:=by
  obtain⟨-,s,m,-⟩:=k;rcases m.2 with ⟨rfl,-⟩|⟨j,i,cur,rfl,b,c,-⟩
  .cases e
  .simp only[Value.ownBlock,Ο]at e
   subst e;exact ο c
 omega
def hL (w:β) (v:ε) (ws:List (Nat×γ)):Prop:= ∃ b,Rd w v (L ws) 2 b/\∀ a (d:a<L ws),b[a*2]?=J (IZ ws[a].1)/\∃ c,b[a*2+1]?=J c/\Rd w c (L ws[a].2) 1 (η ws[a].2)
theorem hL.below {w w':β} {v:ε} {ws:List (Nat×γ)} (h:hL w v ws) (a:BQ w w'):hL w' v ws:=by
 obtain⟨b,f,g⟩:=h;refine⟨b,f.below a,fun j i=>?_⟩;obtain⟨c,k,d,e⟩:=g j i;exact⟨c,k,d,e.below a⟩
theorem wE {w:β} {v:ε} {ws:List (Nat×γ)} (h:hL w v ws):∃ a c,v=D a (L ws) c /\
  Hid (∀ k (g:k<L ws),∃ b off da dc,a=J ⟨b,off,O⟩/\w.cell? ⟨b,off+k*2,O⟩=J (IZ ws[k].1)/\w.cell? ⟨b,off+k*2+1,O⟩=J (D da (L ws[k].2) dc)/\Rd w (D da (L ws[k].2) dc) (L ws[k].2) 1 (η ws[k].2)):=by
 obtain⟨n,⟨p,q,m⟩,l⟩:=h;rcases m with ⟨a,c,rfl,e⟩|⟨b,off,c,rfl,e,r,o,f⟩
 .exact⟨a,c,by rw[e],fun s hi=>ϊ⟩
 .refine⟨_,c,rfl,fun k g=>?_⟩
  obtain⟨i,t,j,d⟩:=l k g;obtain⟨da,dc,rfl⟩:=ra d;exact⟨b,off,da,dc,rfl,f _ _ i,by rw[iW];exact f _ _ j,d⟩
structure ja (bl:List (γ)) (ws:List (Nat×γ)):Prop where
 nb:L bl<=4096
 nw:L ws<=1000
 lb:∀ b∈bl,L b=64
 lw:∀ x∈ws,x.1<L bl/\L x.2=64
theorem AN (l v:ε) (bl:List (γ)) (ws:List (Nat×γ)) (w:β) (m:Δ w l bl) (u:hL w v ws) (f:ja bl ws) :
  Calls prog 108 #[ā #[l,v]] w fun e w'=>e=ŗ (.bool true)/\BQ w w':=by
 obtain⟨ba,bc,rfl,-,x⟩:=ny m;obtain⟨wa,wc,rfl,HW⟩:=wE u;have N:=f.nb;have P:=f.nw;have y:=Zh (fun a (d:a<L bl)=>f.lb bl[a] (Χ d));have z:=Zh (fun a (d:a<L ws)=>f.lw ws[a] (Χ d));clear m u f;go_enter func108,ntmps108;go_wp2;go_loopw [20] (fun c wr=>∃ a:Nat,a<=L bl/\c=IZ (a:Int)/\wr=å w (C #[D ba (L bl) bc,D wa (L ws) wc] 41)) (fun c _=>L bl - (intOf c).toNat)
 case atStart=>exact⟨0,Ι _,rfl,by first|rfl|trivial⟩
 case round =>
  obtain⟨a,d,rfl,rfl⟩:=hrel;by_cases k:a<L bl
  .obtain⟨b,off,Y,Z,rfl,j,-⟩:=x.o a k
   have r:=y.o a k;rw[r]at j;have H:(a:Int)<(L bl:Int):=ϊ;have U:(0:Int)<=(a:Int):=ϊ;have M:=ζ ((φ w.heap.size w).alloc NZ (C #[D (J ⟨b,off,O⟩) (L bl) bc,D wa (L ws) wc] 41)) j;clear j r;go_wp2;go_roundw;case rel=>exact⟨a+1,ϊ,ϕ,by first|rfl|trivial⟩
   case measure=>simp[intOf];omega
  .have H:¬(a:Int)<(L bl:Int):=ϊ
   have n:BQ w (å w (C #[D ba (L bl) bc,D wa (L ws) wc] 41)):=ġ;have t:=χ w (C #[D ba (L bl) bc,D wa (L ws) wc] 41);clear d k;go_wp2;generalize(å w (C #[D ba (L bl) bc,D wa (L ws) wc] 41))=B at *;have A:=Zh t;clear t;go_loopw [31] (fun c K=>∃ q:Nat,q<=L ws/\c=IZ (q:Int)/\BQ B K) (fun c _=>L ws - (intOf c).toNat)
   case atStart=>exact⟨0,Ι _,rfl,φ _ _⟩
   case round =>
    obtain⟨q,Q,rfl,g⟩:=hrel;have i:=n.trans (g.mono n.size);by_cases s:q<L ws
    .obtain⟨b,off,E,F,rfl,o,p,-⟩:=HW.o q s
     obtain⟨p1,p2⟩:=z.o q s;have I:(q:Int)<(L ws:Int):=ϊ;have V:=ζ i o;have l1:=ζ i p;rw[p2]at l1;obtain⟨⟨W,X⟩,⟨aa,ab⟩,R⟩:=ι (θ A.o g);generalize ws[q].1=h at *;have S:¬(h:Int)<0:=ϊ;have T:¬(L bl:Int)<=(h:Int):=ϊ;have G:=g.alloc g.size (C #[IZ h,D E 64 F] 84);clear o p p2;go_wp2;go_roundw;case rel=>exact⟨q+1,ϊ,ϕ,G⟩
     case measure=>simp[intOf];omega
    .have I:¬(q:Int)<(L ws:Int):=ϊ
     go_wp2;go_ret;exact⟨rfl,i⟩
theorem sZ (ba:Option Addr) (nb bc:Nat) (wa:Option Addr) (nw wc:Nat) (bl:List (γ)) (ws:List (Nat×γ)) (w:β) (d:Δ w (D ba nb bc) bl) (k:hL w (D wa nw wc) ws) (i:ja bl ws) :
  Calls prog 119 #[ā #[D ba nb bc,D wa nw wc]] w fun e w'=>e=ŗ (ā #[D ba nb bc,D wa nw wc])/\BQ w w':=by
 have m:=Zh (fun b (c:BQ w b)=>AN (D ba nb bc) (D wa nw wc) bl ws b (d.below c) (k.below c) i);clear d k i;have f:BQ w (å (å w (C #[D ba nb bc,D wa nw wc] 41)) (C #[D O 0 0,D O 0 0] 41)):=ġ.alloc ύ _;go_enter func119,ntmps119;go_wp2_with fail
 refine(m.o _ f).mono ?_;rintro e x ⟨rfl,g⟩;obtain⟨j,a,y,z,h⟩:=fU g;obtain⟨⟨t,u⟩,⟨q,f1⟩,-⟩:=ι j;obtain⟨⟨o,d1⟩,⟨r,s⟩,-⟩:=ι a;have n:=Zh (Ϲ a (D ba nb bc) (D wa nw wc));have l:=Zh (fS h (go _ 1) (D ba nb bc) (D wa nw wc));clear j a g f h;go_wp2;exact ϟ (v:=ā #[D ba nb bc,D wa nw wc]) (jX (p:=2) (ty:=41) rfl _ _ (w.heap.size+1) 41 _ (0,0) _ rfl n.o oW rfl ϋ) rfl ⟨rfl,l.o⟩
abbrev Ε:=List (γ)
abbrev fV:=List (Nat×γ)
def ϱ:Nat->Nat->γ->Nat
 |0,v,_=>v
 |k+1,v,[]=>v
 |k+1,v,c::r=>ϱ k (v*256+c.toNat) r
def gy (v i:Nat):UInt8:=UInt8.ofNat (v / 256 ^ (7 - i) % 256)
def ry (v:Nat):γ:=(List.range 8).map (gy v)
def lT (s u:Nat):γ:=ry s++(ry u++List.replicate 16 0)
def ie (s u:Nat):γ:=lT s u++lT s u
theorem qA (v:Nat):L (ry v)=8:=by simp[ry]
theorem qv (s u:Nat):L (lT s u)=32:=by simp[lT,qA]
theorem oQ (s u:Nat):L (ie s u)=64:=by simp[ie,qv]
def sW:Nat->Nat->γ
 |0,_=>[]
 |k+1,v=>UInt8.ofNat (v / 256 ^ k % 256)::sW k v
theorem Kh (v:Nat):ry v=sW 8 v:=rfl
theorem CT:∀ (k a v:Nat) (r:γ),ϱ k a (sW k v++r)=a*256 ^ k+v % 256 ^ k
 |0,a,v,r=>by simp[ϱ,sW,Nat.mod_one]
 |k+1,a,v,r=>by
  have b:(UInt8.ofNat (v / 256 ^ k % 256)).toNat=v / 256 ^ k % 256:=by
   rw[wN];exact Nat.mod_eq_of_lt (lJ _ ϐ)
  simp only[sW,kq,ϱ,b];rw[CT k,show(256:Nat) ^ (k+1)=256 ^ k*256 from jn ..,Nat.mod_mul,kX,oh,kt 256 (256 ^ k),kt (v / 256 ^ k % 256)];generalize 256 ^ k*(v / 256 ^ k % 256)=c;generalize a*(256 ^ k*256)=d;omega
theorem CW (v:Nat) (h:v<256 ^ 8) (r:γ):ϱ 8 0 (ry v++r)=v:=by
 rw[Kh,CT,Nat.mod_eq_of_lt h];simp
theorem CU:∀ (k v:Nat) (l:γ),L l=k->v*256 ^ k<=ϱ k v l
 |0,v,l,h=>by simp[ϱ]
 |k+1,v,[],h=>by simp at h
 |k+1,v,c::r,h=>by
  have:=CU k (v*256+c.toNat) r (by simpa using h);rw[ϱ];refine gh ?_ this;rw[jn,kX,show v*(256 ^ k*256)=v*256*256 ^ k from by rw[oh,kt (256 ^ k)]];exact go _ _
theorem CX:∀ (k v:Nat) (l r:γ),L l=k->ϱ k v (l++r)=ϱ k v l
 |0,v,l,r,h=>by simp[ϱ]
 |k+1,v,[],r,h=>by simp at h
 |k+1,v,c::l,r,h=>by simp only[kq,ϱ];exact CX k _ l r (by simpa using h)
def ic (b:γ) (a:Nat):Option (Nat×Nat):=
 if ϱ 8 0 b<=4611686018427387904/\ϱ 8 0 (b.drop 8)<=4611686018427387904/\ϱ 8 0 (b.drop 8)<=a/\b=ie (ϱ 8 0 b) (ϱ 8 0 (b.drop 8))then J (ϱ 8 0 b,ϱ 8 0 (b.drop 8))else O
theorem DB (s u a:Nat) (e:s<=4611686018427387904) (f:u<=a) (d:a<=4611686018427387904):ic (ie s u) a=J (s,u):=by
 have b:ϱ 8 0 (ie s u)=s:=by
  unfold ie lT;rw[gM,CW s ϊ]
 have c:ϱ 8 0 ((ie s u).drop 8)=u:=by
  unfold ie lT;rw[gM,List.drop_append,qA,ng (by rw[qA];omega),kE,List.drop_zero,jy,gM,CW u ϊ]
 unfold ic;rw[b,c,μ ⟨ϊ,ϊ,ϊ,rfl⟩]
theorem DA {b:γ} {c s u:Nat} (h:ic b c=J (s,u)):s<=4611686018427387904/\u<=c/\b=ie s u:=by
 unfold ic at h;split at h
 .rename_i a
  simp only[Ο,Prod.mk.injEq]at h;obtain⟨rfl,rfl⟩:=h;exact⟨a.1,a.2.2.1,a.2.2.2⟩
 .cases h
def iO (n:Nat) (a old:γ):γ:=a.take n++old.drop n
theorem wv {n:Nat} {a old:γ} (b:L a=64) (c:L old=64):L (iO n a old)=64:=by simp[iO];omega
theorem Np (a old:γ):iO 0 a old=old:=by simp[iO]
theorem Nn {n:Nat} {a old:γ} (b:L a<=n) (c:L old<=n):iO n a old=a:=by
 unfold iO;rw[gW b,ng c,im]
theorem Ey {n:Nat} {b old:γ} (c:L b=64) (d:L old=64) (o:Nat):(iO n b old).getD o 0=if o<n then b.getD o 0 else old.getD o 0:=by
 unfold iO;simp only[fR,List.getElem?_append,gN,hP,jo];by_cases a:o<n
 .by_cases e:o<64
  .rw[μ ϊ,μ a,μ a]
  .rw[κ ϊ,μ a,kZ ϊ,kZ ϊ]
 .rw[κ ϊ,κ a]
  by_cases f:n<=64
  .rw[show n+(o - min n (L b))=o from ϊ]
  .rw[kZ ϊ,kZ ϊ]
def lq:γ:=List.replicate 64 255
theorem Lt {b:γ} {f:Nat} {r:γ} (h:b=255::r) (e:L b=64):ic b f=O:=by
 unfold ic;rw[κ];rintro⟨a,-⟩;subst h;simp only[Ϧ]at e;have c:ϱ 8 0 (255::r)=ϱ 7 255 r:=by simp[ϱ]
 have d:ϱ 7 255 r=ϱ 7 255 (r.take 7):=by
  have:=CX 7 255 (r.take 7) (r.drop 7) ό;rwa [pd]at this
 have g:=CU 7 255 (r.take 7) ό;rw[c,d]at a;have:(255:Nat)*256 ^ 7=18374686479671623680:=ϐ;omega
theorem Lv (n:Nat) (old:γ) (b:Nat) (a:L old=64):iO n lq old=old\/ic (iO n lq old) b=O:=by
 cases n with
 |zero=>exact .inl (Np _ _)
 |succ n =>
  right;refine Lt (r:=(List.replicate 63 255).take n++old.drop (n+1)) ?_ (wv (by simp[lq]) a);unfold iO lq;rw[show List.replicate 64 (255:UInt8)=255::List.replicate 63 255 from rfl,wO,kq]
theorem MN (s u:Nat):(ie s u).getD 63 0=0:=by
 unfold ie lT;simp only[fR];rw[gO (by simp[qA]),gO (by simp[qA]),gO (by simp[qA])];simp[qA]
theorem Lw (n:Nat) (a:γ) (c:Nat) (g:n<64) (e:L a=64):ic (iO n a lq) c=O:=by
 cases h:ic (iO n a lq) c with
 |none=>rfl
 |some f =>
  obtain⟨s,i⟩:=f;obtain⟨-,-,d⟩:=DA h;have b:=Ey (n:=n) (old:=lq) e (by simp[lq]) 63;rw[d,MN,κ ϊ]at b;exact absurd b ϐ
def lb (bl:Ε) (p:Nat):UInt8:=(bl.getD (2+p / 64) []).getD (p % 64) 0
def Ϥ (bl:Ε):Nat:=(L bl - 2)*64
def mr (bl:Ε) (n:Nat):γ:=(List.range n).map (lb bl)
def qn (bl:Ε):Option (Nat×Nat):=
 match ic (bl.getD 0 []) (Ϥ bl),ic (bl.getD 1 []) (Ϥ bl)with
 |none,r=>r
 |some a,O=>J a
 |some a,J b=>if a.1<b.1 then J b else J a
structure ga (bl:Ε) (seq:Nat) (L:γ):Prop where
 n3:3<=bl.length
 nb:bl.length<=4096
 l64:∀ b∈bl,b.length=64
 cur:ic (bl.getD (seq % 2) []) (Ϥ bl)=J (seq,L.length)
 oth:∀ m,ic (bl.getD ((seq+1) % 2) []) (Ϥ bl)=J m->m.1<seq\/m=(seq,L.length)
 le:L.length<=Ϥ bl
 log:∀ p,p<L.length->lb bl p=L.getD p 0
 sq:seq<=4611686018427387904
theorem ga.current {bl:Ε} {seq:Nat} {f:γ} (h:ga bl seq f):qn bl=J (seq,L f):=by
 have a:=h.cur;have c:=h.oth;unfold qn;rcases wL seq with he|he
 .have d:(seq+1) % 2=1:=ϊ
  rw[he]at a;rw[d]at c;rw[a];cases e:ic (bl.getD 1 []) (Ϥ bl)with
  |none=>rfl
  |some b =>
   have:=c b e;simp only;rw[κ];rcases this with h|h
   .show ¬seq<b.1
    omega
   .rw[h];simp
 .have d:(seq+1) % 2=0:=ϊ
  rw[he]at a;rw[d]at c;rw[a];cases e:ic (bl.getD 0 []) (Ϥ bl)with
  |none=>rfl
  |some b =>
   have:=c b e;simp only;rcases this with h|h
   .rw[μ (by simpa using h)]
   .rw[h,κ ύ]
theorem ga.logIs {bl:Ε} {seq:Nat} {a:γ} (h:ga bl seq a):mr bl (L a)=a:=by
 apply List.ext_getElem
 .simp[mr]
 .intro c d b
  simp only[mr,uo,wQ];rw[h.log c b,fR,Ρ b];rfl
theorem lV {α:Type} (l:List α) (i j:Nat) (x d:α) (h:i≠j):(l.set i x).getD j d=l.getD j d:=by
 simp[fR,fW h]
theorem rq {α:Type} (l:List α) (i:Nat) (x d:α) (h:i<L l):(l.set i x).getD i d=x:=by
 simp[fR,h]
theorem pw {α:Type} (l:List α) (i:Nat) (d:α) (h:i<L l):l.getD i d∈l:=by
 rw[fR,Ρ h];exact Χ h
theorem mX (bl:Ε) (i:Nat) (x:γ):Ϥ (bl.set i x)=Ϥ bl:=by simp[Ϥ]
theorem rt {bl:Ε} {i:Nat} {x:γ} (h:∀ b∈bl,L b=64) (c:L x=64):∀ b∈bl.set i x,L b=64:=by
 intro b a;rcases List.mem_or_eq_of_mem_set a with h1|h1
 .exact h b h1
 .rw[h1];exact c
theorem ga.at64 {bl:Ε} {seq:Nat} {a:γ} (h:ga bl seq a) {i:Nat} (hi:i<L bl):L (bl.getD i [])=64:=h.l64 _ (pw _ _ _ hi)
theorem ga.ff {bl:Ε} {seq:Nat} {b:γ} (h:ga bl seq b) (n:Nat):ga (bl.set ((seq+1) % 2) (iO n lq (bl.getD ((seq+1) % 2) []))) seq b:=by
 have d:=h.n3;have l:(seq+1) % 2<2:=lJ _ ϐ;have c:=h.at64 (i:=(seq+1) % 2) ϊ;have e:(seq+1) % 2≠seq % 2:=ϊ;refine⟨by simpa using d,by simpa using h.nb,rt h.l64 (wv (by simp[lq]) c),?_,?_,by rw[mX];exact h.le,?_,h.sq⟩
 .rw[lV _ _ _ _ _ e,mX];exact h.cur
 .intro j a
  rw[rq _ _ _ _ ϊ,mX]at a;rcases Lv n _ (Ϥ bl) c with g|g
  .rw[g]at a;exact h.oth j a
  .rw[g]at a;cases a
 .intro k f
  unfold lb;rw[lV _ _ _ _ _ ϊ];exact h.log k f
def Aa (a:γ) (q:Nat) (c:γ):Prop:=L c=64/\∀ o,o<64->(q - 2)*64+o<L a->c.getD o 0=a.getD ((q - 2)*64+o) 0
theorem ga.wr {bl:Ε} {seq:Nat} {b:γ} (h:ga bl seq b) (n q:Nat) (c:γ) (p:2<=q) (f:q<L bl) (d:Aa b q c):ga (bl.set q (iO n c (bl.getD q []))) seq b:=by
 have l:=h.n3;have m:(seq+1) % 2<2:=lJ _ ϐ;have o:seq % 2<2:=lJ _ ϐ;have g:=h.at64 (i:=q) f;refine⟨by simpa using l,by simpa using h.nb,rt h.l64 (wv d.1 g),?_,?_,by rw[mX];exact h.le,?_,h.sq⟩
 .rw[lV _ _ _ _ _ ϊ,mX];exact h.cur
 .rw[lV _ _ _ _ _ ϊ,mX];exact h.oth
 .intro a j
  by_cases e:2+a / 64=q
  .unfold lb
   rw[e,rq _ _ _ _ f,Ey d.1 g];have k:(q - 2)*64+a % 64=a:=ϊ;split
   .rw[d.2 _ ϊ ϊ,k]
   .have:=h.log a j
    unfold lb at this;rw[e]at this;exact this
  .unfold lb
   rw[lV _ _ _ _ _ ϊ];exact h.log a j
structure sK (bl:Ε) (seq:Nat) (L L2:γ):Prop where
 inv:ga bl seq L
 blank:bl.getD ((seq+1) % 2) []=lq
 le2:L2.length<=Ϥ bl
 log2:∀ p,p<L2.length->lb bl p=L2.getD p 0
theorem sK.torn {bl:Ε} {seq:Nat} {a d:γ} (h:sK bl seq a d) (n:Nat) (f:n<64) (x:γ) (c:L x=64):ga (bl.set ((seq+1) % 2) (iO n x (bl.getD ((seq+1) % 2) []))) seq a:=by
 have e:=h.inv.n3;have l:(seq+1) % 2<2:=lJ _ ϐ;have g:=h.inv.at64 (i:=(seq+1) % 2) ϊ;refine⟨by simpa using e,by simpa using h.inv.nb,rt h.inv.l64 (wv c g),?_,?_,by rw[mX];exact h.inv.le,?_,h.inv.sq⟩
 .rw[lV _ _ _ _ _ ϊ,mX];exact h.inv.cur
 .intro m b
  rw[rq _ _ _ _ ϊ,mX,h.blank,Lw n x _ f c]at b;cases b
 .intro k j
  unfold lb;rw[lV _ _ _ _ _ ϊ];exact h.inv.log k j
theorem sK.done {bl:Ε} {seq:Nat} {d b:γ} (h:sK bl seq d b) (c:seq+1<=4611686018427387904):ga (bl.set ((seq+1) % 2) (ie (seq+1) (L b))) (seq+1) b:=by
 have e:=h.inv.n3;have f:=h.inv.nb;have k:(seq+1) % 2<2:=lJ _ ϐ;have i:Ϥ bl<=4611686018427387904:=by unfold Ϥ;omega
 refine⟨by simpa using e,by simpa using f,rt h.inv.l64 (oQ _ _),?_,?_,by rw[mX];exact h.le2,?_,c⟩
 .rw[rq _ _ _ _ ϊ,mX]
  exact DB _ _ _ c h.le2 i
 .intro l a
  rw[show(seq+1+1) % 2=seq % 2 from ϊ,lV _ _ _ _ _ ϊ,mX,h.inv.cur]at a;injection a with a;left;rw[<-a];simp
 .intro j g
  unfold lb;rw[lV _ _ _ _ _ ϊ];exact h.log2 j g
def gV (bl:Ε):Nat->Nat->γ->fV
 |0,from_,b=>[]
 |f+1,from_,b=>if b=[]then[]else
  let q:=2+from_ / 64;let o:=from_ % 64;let n:=min (64 - o) (L b)
  (q,(bl.getD q []).take o++(b.take n++(bl.getD q []).drop (o+n)))::gV bl f (from_+n) (b.drop n)
theorem Eh {c b:γ} {o n:Nat} (e:L c=64) (f:n<=L b) (g:o+n<=64) (x:Nat):(c.take o++(b.take n++c.drop (o+n))).getD x 0=if x<o then c.getD x 0 else if x<o+n then b.getD (x - o) 0 else c.getD x 0:=by
 simp only[fR,List.getElem?_append,gN,hP,jo];by_cases a:x<o
 .rw[μ ϊ,μ a,μ a]
 .rw[κ ϊ,κ a]
  by_cases d:x<o+n
  .rw[μ ϊ,μ d,μ ϊ,show x - min o (L c)=x - o from ϊ]
  .rw[κ ϊ,κ d,show o+n+(x - min o (L c) - min n (L b))=x from ϊ]
theorem Fe (bl:Ε):∀ (f from_:Nat) (b:γ),L (gV bl f from_ b)<=f
 |0,_,_=>by simp[gV]
 |f+1,from_,b=>by
  unfold gV;split
  .simp
  .simp only[Ϧ]
   have:=Fe bl f (from_+min (64 - from_ % 64) (L b)) (b.drop (min (64 - from_ % 64) (L b)));omega
theorem zS {bl:Ε} (c:∀ b∈bl,L b=64) (a:γ) (d:∀ p,p<L a->lb bl p=a.getD p 0):∀ (f from_:Nat) (b:γ),L a<=from_->from_+L b<=Ϥ bl->∀ x∈gV bl f from_ b,2<=x.1/\x.1<L bl/\Aa a x.1 x.2
 |0,from_,b,h1,h2,x,hx=>by simp[gV]at hx
 |f+1,from_,b,h1,h2,x,hx=>by
  unfold gV at hx;split at hx
  .simp at hx
  .rename_i h
   have j:0<L b:=om.2 h;simp only[gP]at hx;unfold Ϥ at h2;have g:2+from_ / 64<L bl:=ϊ;have i:=c _ (pw bl (2+from_ / 64) [] g);rcases hx with rfl|hx
   .refine⟨ϑ,g,?_,?_⟩
    .simp only[ω,gN,gb];omega
    .intro o k e
     simp only at e ⊢;rw[Eh i ϊ ϊ,μ ϊ];have:=d ((2+from_ / 64 - 2)*64+o) e;rw[<-this];unfold lb;rw[show 2+((2+from_ / 64 - 2)*64+o) / 64=2+from_ / 64 from ϊ,show((2+from_ / 64 - 2)*64+o) % 64=o from ϊ]
   .refine zS c a d f _ _ ϊ ?_ x hx
    unfold Ϥ;simp only[gb];omega
def kn (bl:Ε) (ws:fV):Nat->Ε
 |0=>bl
 |k+1=>match ws[k]? with
  |some x=>(kn bl ws k).set x.1 x.2
  |none=>kn bl ws k
def gg (bl:Ε) (ws:fV):Ε:=kn bl ws (L ws)
def iR (ks:List Int) (k:Nat):Nat:=match ks[k]? with|some x=>min x.toNat 64|none=>0
def kO (ks:List Int) (bl:Ε) (ws:fV):Nat->Ε
 |0=>bl
 |k+1=>match ws[k]? with
  |some x=>(kO ks bl ws k).set x.1 (iO (iR ks k) x.2 ((kO ks bl ws k).getD x.1 []))
  |none=>kO ks bl ws k
def gU (ks:List Int) (bl:Ε) (ws:fV):Ε:=kO ks bl ws (L ws)
theorem uc (bl:Ε) (ws:fV):∀ k,L (kn bl ws k)=L bl
 |0=>rfl
 |k+1=>by
  unfold kn;split
  .simp[uc bl ws k]
  .exact uc bl ws k
theorem xZ (ks:List Int) (bl:Ε) (ws:fV):∀ k,L (kO ks bl ws k)=L bl
 |0=>rfl
 |k+1=>by
  unfold kO;split
  .simp[xZ ks bl ws k]
  .exact xZ ks bl ws k
theorem xY {P:Ε->Prop} (ks:List Int) (bl:Ε) (ws:fV) (a:P bl) (c:∀ x∈ws,∀ n b,P b->P (b.set x.1 (iO n x.2 (b.getD x.1 [])))):∀ k,P (kO ks bl ws k)
 |0=>a
 |k+1=>by
  unfold kO;split
  .rename_i x d
   exact c x (List.mem_of_getElem? d) _ _ (xY ks bl ws a c k)
  .exact xY ks bl ws a c k
theorem ub {P:Ε->Prop} (bl:Ε) (ws:fV) (a:P bl) (c:∀ x∈ws,∀ b,P b->P (b.set x.1 x.2)):∀ k,P (kn bl ws k)
 |0=>a
 |k+1=>by
  unfold kn;split
  .rename_i x d
   exact c x (List.mem_of_getElem? d) _ (ub bl ws a c k)
  .exact ub bl ws a c k
theorem Eu (bl:Ε) (x:Nat×γ) (ws:fV):∀ k,kn bl (x::ws) (k+1)=kn (bl.set x.1 x.2) ws k
 |0=>rfl
 |k+1=>by
  rw[kn,Eu bl x ws k];simp only[nh];rw[kn]
theorem zy (bl:Ε) (x:Nat×γ) (ws:fV):gg bl (x::ws)=gg (bl.set x.1 x.2) ws:=Eu bl x ws (L ws)
theorem Ni (bl:Ε):gg bl []=bl:=rfl
theorem Ew {bl:Ε} (l:∀ b∈bl,L b=64):∀ (f from_:Nat) (b:γ) (b0:Ε),L b<f->from_+L b<=Ϥ bl->L b0=L bl->(∀ q,2+from_ / 64<=q->b0.getD q []=bl.getD q []) ->
  (∀ p,p<from_->lb (gg b0 (gV bl f from_ b)) p=lb b0 p)/\(∀ p,from_<=p->p<from_+L b->lb (gg b0 (gV bl f from_ b)) p=b.getD (p - from_) 0)
 |0,from_,b,b0,hf,h2,hl,hq=>ϊ
 |f+1,from_,b,b0,hf,h2,hl,hq=>by
  unfold gV;split
  .rename_i i
   subst i;refine⟨fun p e=>rfl,fun p k h=>by simp at h;omega⟩
  .rename_i i
   have w:0<L b:=om.2 i;have u:2+from_ / 64<L bl:=by unfold Ϥ at h2;omega
   have r:=l _ (pw bl (2+from_ / 64) [] u);simp only;rw[zy];generalize z:min (64 - from_ % 64) (L b)=n at *;generalize o:(bl.getD (2+from_ / 64) []).take (from_ % 64)++(b.take n++(bl.getD (2+from_ / 64) []).drop (from_ % 64+n))=c at *;have d:∀ x,c.getD x 0=if x<from_ % 64 then(bl.getD (2+from_ / 64) []).getD x 0 else if x<from_ % 64+n then b.getD (x - from_ % 64) 0 else(bl.getD (2+from_ / 64) []).getD x 0:=by
    intro x;rw[<-o];exact Eh r ϊ ϊ x
   have g:∀ p,lb (b0.set (2+from_ / 64) c) p=if p / 64=from_ / 64 then c.getD (p % 64) 0 else lb b0 p:=by
    intro p;unfold lb;by_cases a:p / 64=from_ / 64
    .rw[μ a,a,rq _ _ _ _ ϊ]
    .rw[κ a,lV _ _ _ _ _ ϊ]
   by_cases t:n=L b
   .
    have s:b.drop n=[]:=by rw[t];simp
    have v:gV bl f (from_+n) (b.drop n)=[]:=by
     rw[s];cases f<;>simp[gV]
    rw[v,Ni];refine⟨fun p e=>?_,fun p k h=>?_⟩
    .rw[g]
     split
     .rename_i a
      rw[d,μ ϊ,<-hq _ NZ];unfold lb;rw[a]
     .rfl
    .rw[g,μ ϊ,d,κ ϊ,μ ϊ,show p % 64 - from_ % 64=p - from_ from ϊ]
   .have y:n=64 - from_ % 64:=ϊ
    obtain⟨j,m⟩:=Ew l f (from_+n) (b.drop n) (b0.set (2+from_ / 64) c) ό ό (by simpa using hl) (fun q A=>by rw[lV _ _ _ _ _ ϊ];exact hq q ϊ);refine⟨fun p e=>?_,fun p k h=>?_⟩
    .rw[j p ϊ,g]
     split
     .rename_i a
      rw[d,μ ϊ,<-hq _ NZ];unfold lb;rw[a]
     .rfl
    .by_cases e:p<from_+n
     .rw[j p e,g,μ ϊ,d,κ ϊ,μ ϊ,show p % 64 - from_ % 64=p - from_ from ϊ]
     .rw[m p ϊ ό]
      simp only[fR,jo];rw[show n+(p - (from_+n))=p - from_ from ϊ]
def nN (a n:Nat):List ε:=(List.range n).map fun b=>D (J ⟨a,b*64,O⟩) 64 64
theorem uL (a n:Nat):L (nN a n)=n:=by simp[nN]
theorem yq {bl:Ε} (h:∀ b∈bl,L b=64):L bl.flatten=L bl*64:=by
 induction bl with
 |nil=>rfl
 |cons b r c =>
  simp only[oX,ω,Ϧ];rw[c fun x a=>h x (by simp[a]),h b ύ];omega
theorem BU:∀ {bl:Ε} (h:∀ b∈bl,L b=64) (i j:Nat) (hi:i<L bl) (a:j<64),bl.flatten[i*64+j]?=(bl[i])[j]?
 |[],h,i,j,hi,a=>by simp at hi
 |b::r,h,0,j,hi,a=>by
  have:=h b ύ;simp only[oX,pL,jJ,oq];rw[iX ϊ]
 |b::r,h,i+1,j,hi,a=>by
  have c:=h b ύ;have:=BU (bl:=r) (fun x d=>h x (by simp[d])) i j (by simpa using hi) a;simp only[oX,pP];rw[gO ϊ,c,show(i+1)*64+j - 64=i*64+j from ϊ,this]
theorem Ei:∀ {bl:Ε} (h:∀ b∈bl,L b=64) (i:Nat) (xs:γ) (hi:i<L bl) (a:L xs<=64),bl.flatten.take (i*64)++(xs++bl.flatten.drop (i*64+L xs))=(bl.set i (xs++(bl.getD i []).drop (L xs))).flatten
 |[],h,i,xs,hi,a=>by simp at hi
 |b::r,h,0,xs,hi,a=>by
  have c:=h b ύ;simp only[oX,pL,jJ,qR,jy,ur,List.getD_cons_zero,gM];rw[List.drop_append_of_le_length ϊ]
 |b::r,h,i+1,xs,hi,a=>by
  have c:=h b ύ;have:=Ei (bl:=r) (fun x a=>h x (by simp[a])) i xs (by simpa using hi) a;simp only[oX,us,List.getD_cons_succ];rw[<-this,show(i+1)*64=L b+i*64 from ϊ,List.take_append,gW ϊ,show L b+i*64 - L b=i*64 from ϊ,iW,List.drop_append,ng ϊ,show L b+(i*64+L xs) - L b=i*64+L xs from ϊ];simp
theorem wn (a xs:γ) (off:Nat):splice (η a) off (η xs)=η (a.take off++(xs++a.drop (off+L xs))):=by
 simp[splice,η,List.map_take,List.map_drop]
structure gR (base:Nat) (w:β) (g1 g2:Nat) (bl:Ε):Prop where
 arr:w.heap[g1]?=J (C (η bl.flatten).toArray 5 (0,0))
 row:w.heap[g2]?=J (C (nN g1 (L bl)).toArray 31 (0,0))
 l64:∀ b∈bl,L b=64
 nb:L bl<=4096
 b1:base<=g1
 b2:base<=g2
 ne:g1≠g2
theorem gR.keep {base:Nat} {w w':β} {a b:Nat} {bl:Ε} (h:gR base w a b bl) (c:w'.heap[a]?=w.heap[a]?) (d:w'.heap[b]?=w.heap[b]?):gR base w' a b bl:=
 ⟨c.trans h.arr,d.trans h.row,h.l64,h.nb,h.b1,h.b2,h.ne⟩
theorem gR.below {base:Nat} {w w':β} {a b:Nat} {bl:Ε} (h:gR base w a b bl) (c:BQ w w'):gR base w' a b bl:=h.keep (c.block _ (ο h.arr)) (c.block _ (ο h.row))
theorem gR.set {base:Nat} {w:β} {a b:Nat} {bl:Ε} (h:gR base w a b bl) {p:Addr} (c:p.block<base) (x:ε):gR base (ŝ w p x) a b bl:=
 h.keep (ψ _ _ _ _ (by have:=h.b1;omega)) (ψ _ _ _ _ (by have:=h.b2;omega))
theorem gR.alloc {base:Nat} {w:β} {a b:Nat} {bl:Ε} (h:gR base w a b bl) (o:Obj):gR base (å w o) a b bl:=h.below (ġ)
theorem gR.mono {base base':Nat} {w:β} {a b:Nat} {bl:Ε} (h:gR base w a b bl) (c:base'<=base):gR base' w a b bl:=⟨h.arr,h.row,h.l64,h.nb,gh c h.b1,gh c h.b2,h.ne⟩
theorem gR.rd {base:Nat} {w:β} {c d:Nat} {bl:Ε} (h:gR base w c d bl):Δ w (D (J ⟨d,0,O⟩) (L bl) (L bl)) bl:=by
 obtain⟨j,l,g,p,n,o,q⟩:=h;refine⟨nN c (L bl),⟨by rw[uL];omega,ώ,?_⟩,fun b hi=>?_⟩
 .by_cases f:L bl=0
  .exact .inl ⟨J ⟨d,0,O⟩,L bl,by rw[f],f⟩
  .refine .inr ⟨d,0,L bl,rfl,ϊ,NZ,ώ,fun b m a=>?_⟩
   rw[ν _ _ _ _ _ _ l];simpa using a
 .refine⟨D (J ⟨c,b*64,O⟩) 64 64,by simp[nN,hi],?_⟩
  have e:=g bl[b] (Χ hi);rw[e];refine⟨by simp[η,e],ώ,.inr ⟨c,b*64,64,rfl,ϊ,ϊ,ώ,fun i m a=>?_⟩⟩;have k:i<64:=by
   have:=(lN.1 a).1;simpa[η,e] using this
  rw[ν _ _ _ _ _ _ j];simp only[η,mj,jK]at a ⊢;rw[BU g b i hi k];exact a
theorem gR.hi {base:Nat} {w:β} {d a:Nat} {bl:Ε} (h:gR base w d a bl):Hi base w (fun c=>Δ c (D (J ⟨a,0,O⟩) (L bl) (L bl)) bl):=
 fun c b=>(h.keep (b _ h.b1 (ο h.arr)) (b _ h.b2 (ο h.row))).rd
theorem gR.cell {base:Nat} {w:β} {a b:Nat} {bl:Ε} (h:gR base w a b bl) (i:Nat) (hi:i<L bl):w.cell? ⟨b,i,O⟩=J (D (J ⟨a,i*64,O⟩) 64 64):=by
 rw[ν _ _ _ _ _ _ h.row];simp[nN,hi]
theorem Rd.from {w:β} {e:ε} {m:Nat} {xs:γ} (k:Rd w e m 1 (η xs)):∃ d c,e=D d m c/\(0<L (η xs)->∃ a,d=J a/\∀ j v,(η xs)[j]?=J v->w.cell? (a.add j)=J v):=by
 obtain⟨p,q,⟨f,c,rfl,rfl⟩|⟨b,off,c,rfl,n,r,o,i⟩⟩:=k
 .exact⟨f,c,rfl,fun h=>ϊ⟩
 .refine⟨_,c,rfl,fun _=>⟨_,rfl,fun j v l=>?_⟩⟩
  have g:(⟨b,off,O⟩:Addr).add j=⟨b,off+j,O⟩:=by unfold Addr.add;split<;>simp_all
  rw[g];exact i j v l
theorem Oi {ops:Array Oper} {z:List Oper} {o:Oper} {a:Act} {Q:Exit->Act->β->Prop} {w:β} (p:o.guard=O) (d s:Operand)
  (q:o.op=.call {callee:=.builtin .copy,args:= #[d,s],argTypes:= #[31,31]})
  (g off j l:Nat) (f:γ) (hg:w.heap[g]?=J (C (η f).toArray 5 (0,0))) (n:a.eval d=D (J ⟨g,off,O⟩) j l)
  (A:ε) (m:Nat) (xs:γ) (t:a.eval s=A) (r:Rd w A m 1 (η xs)) (H:m<=j) (S:off+m<=L f)
  (h:∀ w',Hid (w'.heap[g]?=J (C (η (f.take off++(xs++f.drop (off+m)))).toArray 5 (0,0)))->Below g w w'->(∀ k,k≠g->w'.heap[k]?=w.heap[k]?)->w'.heap.size=w.heap.size->wpList prog ops Q z (a.put o.dst (IZ m)) w'):wpList prog ops Q (o::z) a w:=by
 have i:=r.1;have y:L xs=m:=by simpa[η] using i
 obtain⟨W,c,rfl,K⟩:=r.from
 obtain⟨V,hi,T,N,U⟩:=ϯ lF;have v:(prog.info? 5).map (·.size)=J 1:=by rw[hi];simp[N]
 have R:L (η f)=L f:=by simp[η]
 have I:∀ P∈η xs,P.oneCell'=true:=by
  intro X x;simp only[η,hI]at x;obtain⟨b,-,rfl⟩:=x;rfl
 have u:=wn f xs off;rw[y]at u;by_cases E:m=0
 .subst E
  have M:xs=[]:=ko y;subst M;refine wpList_copy_nothing p d s _ _ q _ gu v _ _ _ _ _ _ n t ύ ?_;refine h w ?_ RZ (fun _ _=>rfl) rfl;show _=_;simpa using hg
 .obtain⟨B,rfl,F⟩:=K (by rw[i];omega)
  refine wpList_copy_own p d s _ _ q _ gu v g off j l B m c n t (η f).toArray _ hg (η xs) (by rw[i,nJ];exact(me H).symm) F (by simp only[pe];omega) I ?_;have e:(goInt (L (η xs)))=IZ m:=by rw[i,nJ];rfl
  rw[e];refine h _ ?_ (below_setRow RZ NZ _) (fun k G=>sC w g k _ (fun e=>G e)) (by simp[World.setRow]);show _=_;rw[<-u];have:=setRow_heap w g (η f).toArray (splice (η f) off (η xs)).toArray 5 (0,0) hg;simpa[splice] using this
theorem zt {ops:Array Oper} {o:Oper} {a:Act} {w:β} {K:Act->β->Prop} {Q:Exit->Act->β->Prop} {A:Prop} (G:o.guard=O) (d s:Operand)
  (q:o.op=.call {callee:=.builtin .copy,args:= #[d,s],argTypes:= #[31,31]})
  (g off i l:Nat) (f:γ) (hg:w.heap[g]?=J (C (η f).toArray 5 (0,0))) (p:a.eval d=D (J ⟨g,off,O⟩) i l)
  (z:ε) (m:Nat) (xs:γ) (t:a.eval s=z) (r:Rd w z m 1 (η xs)) (I:m<=i) (X:off+m<=L f)
  (h:∀ w',Hid (w'.heap[g]?=J (C (η (f.take off++(xs++f.drop (off+m)))).toArray 5 (0,0)))->Below g w w'->(∀ k,k≠g->w'.heap[k]?=w.heap[k]?)->w'.heap.size=w.heap.size->K (a.put o.dst (IZ m)) w') :
  if Region.wanted o (yielded ops a.tmps)=true then Oper.wp prog o a w K Q else A:=by
 have R:Region.wanted o (yielded ops a.tmps)=true:=by simp[Region.wanted,G]
 rw[μ R];have j:=r.1;have y:L xs=m:=by simpa[η] using j
 obtain⟨U,c,rfl,N⟩:=r.from
 obtain⟨aa,hi,Y,T,Z⟩:=ϯ lF;have v:(prog.info? 5).map (·.size)=J 1:=by rw[hi];simp[T]
 have W:L (η f)=L f:=by simp[η]
 have M:∀ V∈η xs,V.oneCell'=true:=by
  intro ab x;simp only[η,hI]at x;obtain⟨b,-,rfl⟩:=x;rfl
 have u:=wn f xs off;rw[y]at u;by_cases E:m=0
 .subst E
  have S:xs=[]:=ko y;subst S;have n:=run_copy_none (P:=prog) w 31 31 o.type _ (J ⟨g,off,O⟩) U i l 0 c gu v ύ;unfold Oper.wp;simp[execOp,q,resolve,invoke,builtin,p,t,n,Result.andThen];refine h w ?_ RZ (fun _ _=>rfl) rfl;show _=_;simpa using hg
 .obtain⟨B,rfl,F⟩:=N (by rw[j];omega)
  have n:=run_copy_row (P:=prog) w 31 31 o.type _ g off i l B m c (η f).toArray 5 (η xs) gu v hg (by rw[j,nJ];exact(me I).symm) F (by simp only[pe];omega) M;unfold Oper.wp;simp only[execOp,q,resolve,invoke,builtin,Sem.run_bind,Sem.run_pure,qP,iA,lf,p,t,n,pN];have e:(goInt (L (η xs)))=IZ m:=by rw[j,nJ];rfl
  rw[e];refine h _ ?_ (below_setRow RZ NZ _) (fun k H=>sC w g k _ (fun e=>H e)) (by simp[World.setRow]);show _=_;rw[<-u];have:=setRow_heap w g (η f).toArray (splice (η f) off (η xs)).toArray 5 (0,0) hg;simpa[splice] using this
theorem zk {w:β} (g off d i:Nat) (a:γ) (hg:w.heap[g]?=J (C (η a).toArray 5 (0,0)))
  (q:ε) (m:Nat) (xs:γ) (j:Rd w q m 1 (η xs)) (v:m<=d) (G:off+m<=L a) :
  ∃ w',(Builtin.copy_ #[31,31] 3 #[D (J ⟨g,off,O⟩) d i,q]).run prog w=.ok (IZ m) w'/\Hid (w'.heap[g]?=J (C (η (a.take off++(xs++a.drop (off+m)))).toArray 5 (0,0)))/\Below g w w'/\(∀ k,k≠g->w'.heap[k]?=w.heap[k]?)/\w'.heap.size=w.heap.size:=by
 have f:=j.1;have p:L xs=m:=by simpa[η] using f
 obtain⟨B,c,rfl,y⟩:=j.from
 obtain⟨K,hi,H,A,I⟩:=ϯ lF;have n:(prog.info? 5).map (·.size)=J 1:=by rw[hi];simp[A]
 have F:L (η a)=L a:=by simp[η]
 have l:=wn a xs off;rw[p]at l;by_cases s:m=0
 .subst s
  have z:xs=[]:=ko p;subst z;have h:=run_copy_none (P:=prog) w 31 31 3 _ (J ⟨g,off,O⟩) B d i 0 c gu n ύ;refine⟨w,h,?_,φ _ _,fun _ _=>rfl,rfl⟩;show _=_;simpa using hg
 .obtain⟨r,rfl,t⟩:=y (by rw[f];omega)
  have x:∀ E∈η xs,E.oneCell'=true:=by
   intro M o;simp only[η,hI]at o;obtain⟨b,-,rfl⟩:=o;rfl
  have h:=run_copy_row (P:=prog) w 31 31 3 _ g off d i r m c (η a).toArray 5 (η xs) gu n hg (by rw[f,nJ];exact(me v).symm) t (by simp only[pe];omega) x;have e:(goInt (L (η xs)))=IZ m:=by rw[f,nJ];rfl
  rw[e]at h;refine⟨_,h,?_,below_setRow RZ NZ _,fun k u=>sC w g k _ (fun e=>u e),by simp[World.setRow]⟩;show _=_;rw[<-l];have:=setRow_heap w g (η a).toArray (splice (η a) off (η xs)).toArray 5 (0,0) hg;simpa[splice] using this
theorem gR.copied {base:Nat} {w w':β} {a b i m:Nat} {bl:Ε} {xs:γ} (h:gR base w a b bl) (hi:i<L bl) (c:L xs=m) (d:m<=64)
  (hg:w'.heap[a]?=J (C (η (bl.flatten.take (i*64)++(xs++bl.flatten.drop (i*64+m)))).toArray 5 (0,0))) (f:∀ k,k≠a->w'.heap[k]?=w.heap[k]?):gR base w' a b (bl.set i (xs++(bl.getD i []).drop m)):=by
 subst c;rw[Ei h.l64 i xs hi d]at hg;refine⟨hg,?_,?_,by simpa using h.nb,h.b1,h.b2,h.ne⟩
 .rw[f _ (fun e=>h.ne e.symm)];simpa using h.row
 .have:=h.l64 _ (pw bl i [] hi)
  exact rt h.l64 (by rw[ω,gb];omega)
def iV:γ:=List.replicate 64 0
theorem Ot (n:Nat):(List.replicate n iV).flatten=List.replicate (n*64) 0:=by
 induction n with
 |zero=>rfl
 |succ n a=>rw[List.replicate_succ,oX,a,kX,oZ,Nat.add_comm (n*64),<-List.replicate_append_replicate];rfl
def nZ (a n k:Nat):List ε:=(nN a n).take k++List.replicate (n - k) (D O 0 0)
theorem Kz (a n k:Nat) (d:k<n):(nZ a n k).set k (D (J ⟨a,k*64,O⟩) 64 64)=nZ a n (k+1):=by
 have b:=uL a n;unfold nZ;rw[List.set_append_right _ _ (by simp[b];omega)];rw[kD ϊ,gM]
 congr 1
 have:(nN a n)[k]' ϊ=D (J ⟨a,k*64,O⟩) 64 64:=by simp[nN]
 rw[this];simp only[gN,b,me (by omega:k<=n),kE];obtain⟨q,c⟩:∃ q,n - k=q+1:=⟨n - k - 1,ϊ⟩;rw[c,show n - (k+1)=q from ϊ,List.replicate_succ];rfl
theorem Ky (a n:Nat):nZ a n n=nN a n:=by
 unfold nZ;rw[gW (by rw[uL];exact NZ)];simp
theorem rr (z:ε) (n:Nat):(madeCells #[z] n).toList=List.replicate n z:=by
 unfold madeCells;apply List.ext_getElem
 .simp
 .intro c a b
  simp[Nat.mod_one]
theorem AL (n:Nat) (w:β) (W:0<n) (F:n<=4096) :
  Calls prog 107 #[IZ n] w fun e w'=>∃ x m,e=ŗ (D (J ⟨m,0,O⟩) n n)/\gR w.heap.size w' x m (List.replicate n iV)/\BQ w w':=by
 obtain⟨R,hi,N,P,Q⟩:=ϯ lF;obtain⟨S,B,I,K,M⟩:=ϯ vp;have Z:(0:Int)<=(n:Int):=ϊ;have aa:(n:Int)<=4096:=ϊ;go_enter func107,ntmps107;go_wp2_with (first
  |(at_make;refine si w rfl (.tmp 9) (.tmp 9) _ rfl w.heap.size 5 R _ 1 gu hi N P .i64 .i64 _ _ (n*64) rfl rfl ύ ύ (by rw[Q];omega) ώ NZ ?_;intro c r o;have g:BQ w c:=RZ.grown o NZ (fun a d=>by cases d))
  |(at_make;refine si c rfl (.tmp 11) (.tmp 11) _ rfl c.heap.size 31 S _ 1 kY B I K .i64 .i64 _ _ n rfl rfl ύ ύ (by rw[M];omega) ώ NZ ?_;intro t s q;have z:BQ c t:=RZ.grown q NZ (fun a d=>by cases d)))
 have l:Hid (c.heap[w.heap.size]?=J (C (η (List.replicate n iV).flatten).toArray 5 (0,0))):=by
  have h:=r;rw[show(Value.int IntKind.u8 0).cells=#[ĭ .u8 0]from rfl,rr]at h;have:=rB h;rw[Ot];simpa[Hid,η,show ch 0=0 from rfl] using this
 have E:w.heap.size<c.heap.size:=ο l.o;have v:Hid (t.ownsRow c.heap.size 31 1 (D (J ⟨c.heap.size,0,O⟩) n n) n (nZ w.heap.size n 0)):=by
  have h:=s;rw[show(Value.slice O 0 0).cells=#[D O 0 0]from rfl,rr]at h;simpa[Hid,nZ] using h
 clear r s o q;go_loopw [15] (fun k wr=>∃ a:Nat,a<=n/\k=IZ (a:Int)/\Hid (wr.ownsRow c.heap.size 31 1 (D (J ⟨c.heap.size,0,O⟩) n n) n (nZ w.heap.size n a))/\BQ c wr) (fun k _=>n - (intOf k).toNat)
 case atStart=>exact⟨0,Ι _,rfl,v,z⟩
 case round =>
  obtain⟨a,d,rfl,f,i⟩:=hrel;by_cases j:a<n
  .obtain⟨c0,V,X,Y,-,-⟩:=tF f.o a j
   have G:a<L (nZ w.heap.size n a):=by simp[nZ,uL];omega
   rw[Ρ G]at c0;have u:=Zh (Kz w.heap.size n a j ▸ De f.o a j (D (J ⟨w.heap.size,a*64,O⟩) 64 64));have A:=i.setCell (p:=⟨c.heap.size,a,O⟩) NZ (D (J ⟨w.heap.size,a*64,O⟩) 64 64);have T:(a:Int)<(n:Int):=ϊ;have U:(a+1)*64 - a*64=64:=ϊ;go_wp2;go_roundw;case rel=>exact⟨a+1,ϊ,ϕ,u,A⟩
   case measure=>simp[intOf];omega
  .have T:¬(a:Int)<(n:Int):=ϊ
   obtain rfl:a=n:=ϊ;go_wp2;go_ret;have H:=rB (Ky w.heap.size a ▸ f.o);exact⟨w.heap.size,c.heap.size,rfl,⟨(i.block _ E).trans l.o,by simpa using H,by intro b y;rw[List.eq_of_mem_replicate y];rfl,by simpa using F,NZ,g.size,ϊ⟩,g.trans (i.mono g.size)⟩
theorem xI (v:ε) (b:γ) (w:β) (h:Rd w v 64 1 (η b)) :
  Calls prog 246 #[v] w fun e w'=>∃ g,e=ŗ (D (J ⟨g,0,O⟩) 64 64)/\Φ w.heap.size w' (D (J ⟨g,0,O⟩) 64 64) 64 b/\BQ w w':=by
 obtain⟨y,hi,t,u,x⟩:=ϯ lF;have n:=Zh h;have a:L b=64:=by have:=h.1;simpa[η] using this
 clear h;go_enter func246,ntmps246;go_wp2_with (at_make;refine si w rfl _ _ _ rfl w.heap.size 5 y _ 1 gu hi t u .i64 .i64 _ _ 64 rfl rfl ύ ύ (by rw[x];omega) ώ NZ ?_;intro c k i;have f:BQ w c:=RZ.grown i NZ (fun A r=>by cases r))
 have d:Hid (c.heap[w.heap.size]?=J (C (η (List.replicate 64 0)).toArray 5 (0,0))):=by
  have h:=k;rw[show(Value.int IntKind.u8 0).cells=#[ĭ .u8 0]from rfl,rr]at h;have:=rB h;simpa[Hid,η,show ch 0=0 from rfl] using this
 have o:=Zh (n.o.below f);clear k i;obtain⟨l,s,j,p,-,-⟩:=zk w.heap.size 0 64 64 (List.replicate 64 0) d.o v 64 b o.o ϊ ύ;rw[s];go_wp2;have z:w.heap.size<c.heap.size:=ο d.o;have q:BQ w l:=f.trans p;have m:Hid (Φ w.heap.size l (D (J ⟨w.heap.size,0,O⟩) 64 64) 64 b):=by
  refine⟨a,by simp[η,a],.inr ⟨w.heap.size,64,_,rfl,NZ,j.o,NZ,ώ,?_,?_⟩⟩
  .simp[η,a]
  .simp[η,a]
   exact gW (by simp[a])
 clear j;go_ret;exact⟨w.heap.size,rfl,m.o,q⟩
def lX (bl:Ε) (k:Nat):Ε:=bl.take k++List.replicate (L bl - k) iV
theorem Kv (bl:Ε) {k:Nat} (a:k<=L bl):L (lX bl k)=L bl:=by simp[lX];omega
theorem Kw {bl:Ε} (e:∀ b∈bl,L b=64) {k:Nat} (a:k<L bl):(lX bl k).set k (bl[k]++((lX bl k).getD k []).drop 64)=lX bl (k+1):=by
 have d:((lX bl k).getD k []).drop 64=[]:=by
  unfold lX;rw[fR,gO ό,gN,me ϊ,kE,List.getElem?_replicate,μ ϊ];rfl
 rw[d,im];unfold lX;rw[List.set_append_right _ _ ό,kD a,gM]
 congr 1
 simp only[gN,me (by omega:k<=L bl),kE];obtain⟨q,c⟩:∃ q,L bl - k=q+1:=⟨L bl - k - 1,ϊ⟩;rw[c,show L bl - (k+1)=q from ϊ,List.replicate_succ];rfl
theorem Ku (bl:Ε):lX bl (L bl)=bl:=by simp[lX]
def xi (bl:Ε) (w:β) (e:Ending) (w':β):Prop:= ∃ b a,e=ŗ (ā #[D (J ⟨a,0,O⟩) (L bl) (L bl),D O 0 0])/\gR w.heap.size w' b a bl/\Below w.heap.size w w'
theorem xK (ba:Option Addr) (bc:Nat) (P:ε) (bl:Ε) (w:β) (B:Δ w (D ba (L bl) bc) bl) (ae:0<L bl) (ak:L bl<=4096) (m:∀ b∈bl,L b=64) :
  Calls prog 120 #[ā #[D ba (L bl) bc,P]] w (xi bl w):=by
 obtain⟨ar,au,M,-,R⟩:=ny B;simp only[Ξ,Ϯ]at M;obtain⟨rfl,rfl⟩:=M;have Y:=Zh (fun ad=>AL (L bl) ad ae ak);have A:=Zh (fun a (s:a<L bl)=>m bl[a] (Χ s));have Q:=Zh m;clear B m;go_enter func120,ntmps120;go_wp2_with fail
 refine(Y.o _).mono ?_;rintro e f ⟨g,d,rfl,hF,E⟩;obtain⟨am,I,aK,aq,F⟩:=fU E;obtain⟨⟨aB,aC⟩,⟨aw,f1⟩,-⟩:=ι am;have aj:=hF.b1;simp only[lz]at aj;have az:g<f.heap.size:=ο hF.arr;have U:Hid (gR (w.heap.size+1+1) f g d (lX bl 0)):=by
  have:=hF.mono (ύ:w.heap.size+1+1<=(å (å w (C #[D ba (L bl) bc,P] 41)) (C #[D O 0 0,D O 0 0] 41)).heap.size);simpa[Hid,lX] using this
 have Z:=Zh I;have ag:BQ f (å f (C #[D (J ⟨d,0,O⟩) (L bl) (L bl),D O 0 0] 41)):=ġ;have S:=Zh (F.trans (ag.mono F.size));clear hF I E;go_wp2;go_loopw [14] (fun z wr=>∃ a:Nat,a<=L bl/\z=IZ (a:Int)/\Hid (gR (w.heap.size+1+1) wr g d (lX bl a))/\Hid (∀ c,c<f.heap.size+1->c≠g->wr.heap[c]?=(å f (C #[D (J ⟨d,0,O⟩) (L bl) (L bl),D O 0 0] 41)).heap[c]?)/\BQ w wr) (fun z _=>L bl - (intOf z).toNat)
 case atStart=>exact⟨0,Ι _,rfl,U.o.alloc _,fun _ _ _=>rfl,S.o⟩
 case round =>
  obtain⟨a,s,rfl,h,l,j⟩:=hrel;have u:=(l.o f.heap.size ϊ ϊ).trans (χ f _);obtain⟨⟨c0,c1⟩,⟨aI,aJ⟩,aL⟩:=ι u;by_cases k:a<L bl
  .obtain⟨b,off,aG,aH,rfl,q,K⟩:=R.o a k
   have H:=A.o a k;have y:=K.below j;rw[H]at q y;have an:(a:Int)<(L bl:Int):=ϊ;have aD:(0:Int)<=(a:Int):=ϊ;have ax:=ζ j q;have al:=Kv bl s;have ay:=h.o.cell a ϊ;have aa:=Zh y;have ac:=Zh (Kw Q.o k);have ai:=yq h.o.l64;rw[al]at ai;clear q H K y u;go_wp2_with (refine Oi (o:=⟨J 25,_,_,_,_,_⟩) rfl (.tmp 23) (.tmp 24) rfl g (a*64) 64 64 (lX bl a).flatten h.o.arr rfl _ 64 bl[a] rfl aa.o ϊ ϊ ?_;intro ap G af t aA)
   have n:=h.o.copied (i:=a) ϊ (A.o a k) ϊ G.o t;rw[ac.o]at n;have V:=Zh n;have X:Hid (∀ c,c<f.heap.size+1->c≠g->ap.heap[c]?=(å f (C #[D (J ⟨d,0,O⟩) (L bl) (L bl),D O 0 0] 41)).heap[c]?):=fun c ao N=>(t c N).trans (l.o c ao N);have ah:=j.trans (af.mono ϊ);clear n G t;go_roundw;case rel=>exact⟨a+1,ϊ,ϕ,V.o,X.o,ah⟩
   case measure=>simp[intOf];omega
  .have an:¬(a:Int)<(L bl:Int):=ϊ
   obtain rfl:a=L bl:=ϊ;have r:=h.o;rw[Ku]at r;have x:=(l.o (w.heap.size+1) ϊ ϊ).trans ((gX _ _ _ aq).trans Z.o);obtain⟨⟨av,d1⟩,⟨aE,aF⟩,aM⟩:=ι x;have ab:=Zh (Ϲ x (D (J ⟨d,0,O⟩) (L bl) (L bl)) (D O 0 0));have T:=Zh (fS j (go _ 1) (D (J ⟨d,0,O⟩) (L bl) (L bl)) (D O 0 0));have W:=Zh (((r.set (p:=⟨w.heap.size+1,0,O⟩) ύ (D (J ⟨d,0,O⟩) (L bl) (L bl))).set (p:=⟨w.heap.size+1,1,O⟩) ύ (D O 0 0)).mono (ϊ:w.heap.size<=w.heap.size+1+1));clear r x u;go_wp2;exact ϟ (v:=ā #[D (J ⟨d,0,O⟩) (L bl) (L bl),D O 0 0]) (jX (p:=2) (ty:=41) rfl _ _ (w.heap.size+1) 41 _ (0,0) _ rfl ab.o oW rfl ϋ) rfl ⟨g,d,rfl,W.o,T.o⟩
theorem Gd (n:Nat) (w:β) (l:0<n) (o:n<=4096) :
  Calls prog 53 #[IZ n] w fun e w'=>∃ b a,e=ŗ (.tuple #[ā #[D (J ⟨a,0,O⟩) n n,D O 0 0],IZ 0])/\gR w.heap.size w' b a (List.replicate n iV)/\BQ w w':=by
 have i:=Zh (fun k=>AL n k l o);have r:¬(n:Int)<0:=ϊ;have s:¬(4096:Int)<(n:Int):=ϊ;go_enter func53,ntmps53;go_wp2_with fail
 refine(i.o _).mono ?_;rintro e y ⟨b,a,rfl,hF,d⟩;obtain⟨c,z,f⟩:=Ϻ d;obtain⟨⟨t,x⟩,⟨q,f1⟩,-⟩:=ι c;have j:=Zh (Ϲ c (D (J ⟨a,0,O⟩) n n) (D O 0 0));have g:=Zh (fS f NZ (D (J ⟨a,0,O⟩) n n) (D O 0 0));have m:=hF.b1;simp only[lz]at m;have h:=Zh (((hF.set (p:=⟨w.heap.size,0,O⟩) ύ (D (J ⟨a,0,O⟩) n n)).set (p:=⟨w.heap.size,1,O⟩) ύ (D O 0 0)).mono (ύ:w.heap.size<=_));clear c d f hF;go_wp2;exact ϟ (v:=.tuple #[ā #[D (J ⟨a,0,O⟩) n n,D O 0 0],IZ 0]) (gf (p:=2) (u:=3) (ty:=41) rfl _ _ w.heap.size 41 _ (0,0) _ rfl j.o oW rfl ϋ) rfl ⟨b,a,rfl,h.o,g.o⟩
theorem Ig (x y:ε) (a:x.oneCell'=true) (b:y.oneCell'=true):∀ w:β,(Instr.field 41 (ā #[x,y]) 0).run prog w=.ok x w:=fun _=>by
 cases x<;>cases a<;>cases y<;>cases b<;>kernel_rfl
theorem AM (ba:Option Addr) (bc:Nat) (wa:Option Addr) (wc:Nat) (bl:Ε) (ws:fV) (w:β) (d:Δ w (D ba (L bl) bc) bl) (g:hL w (D wa (L ws) wc) ws) (f:ja bl ws) :
  Calls prog 109 #[ā #[D ba (L bl) bc,D wa (L ws) wc]] w fun e w'=>e=ŗ (IZ (L bl))/\BQ w w':=by
 have h:=Zh (fun b (c:BQ w b)=>sZ ba (L bl) bc wa (L ws) wc bl ws b (d.below c) (g.below c) f);have a:BQ w (å w (C #[D ba (L bl) bc,D wa (L ws) wc] 41)):=ġ;have k:=Ig (D ba (L bl) bc) (D wa (L ws) wc) rfl rfl;clear d g f;go_enter func109,ntmps109;go_wp2_with fail
 refine(h.o _ a).mono ?_;rintro e l ⟨rfl,i⟩;have j:=a.trans (i.mono a.size);go_wp2;go_ret;exact⟨rfl,j⟩
theorem xJ (i:Nat) (ba:Option Addr) (bc:Nat) (wa:Option Addr) (wc:Nat) (bl:Ε) (w:β) (hi:i<L bl) (h:Δ w (D ba (L bl) bc) bl) (N:L bl<=4096) (n:∀ b∈bl,L b=64) :
  Calls prog 187 #[ā #[D ba (L bl) bc,D wa 0 wc],IZ i] w fun e w'=>∃ g,e=ŗ (.tuple #[D (J ⟨g,0,O⟩) 64 64,IZ 0])/\Φ w.heap.size w' (D (J ⟨g,0,O⟩) 64 64) 64 (bl.getD i [])/\BQ w w':=by
 have q:ja bl []:=⟨N,ύ,n,ύ⟩;have t:∀ a,hL a (D wa 0 wc) []:=fun a=>⟨[],⟨rfl,Ι _,.inl ⟨_,_,rfl,rfl⟩⟩,fun aa K=>by simp at K⟩;have A:=Zh (fun a (d:BQ w a)=>sZ ba (L bl) bc wa 0 wc bl [] a (h.below d) (t a) q);have o:BQ w (å w (C #[D ba (L bl) bc,D wa 0 wc] 41)):=ġ;obtain⟨T,U,s,-,m⟩:=ny h;simp only[Ξ,Ϯ]at s;obtain⟨rfl,rfl⟩:=s;obtain⟨b,off,u,v,rfl,j,l⟩:=m.o i hi;have M:=n bl[i] (Χ hi);rw[M]at j l;have I:bl.getD i []=bl[i]:=by rw[fR,Ρ hi];rfl
 rw[I];have x:=Zh (fun a (d:BQ w a)=>xI (D u 64 v) bl[i] a (l.below d));have y:=Zh (fun a (d:BQ w a)=>ζ d j);have W:¬(i:Int)<0:=ϊ;have X:¬(L bl:Int)<=(i:Int):=ϊ;have Y:(0:Int)<=(i:Int):=ϊ;have Z:(i:Int)<(L bl:Int):=ϊ;clear h t q j l m;go_enter func187,ntmps187;go_wp2_with fail
 refine(A.o _ o).mono ?_;rintro e S ⟨rfl,p⟩;obtain⟨k,ac,H⟩:=Ϻ p;obtain⟨⟨Q,R⟩,⟨E,f1⟩,-⟩:=ι k;have r:=Ϲ k (D (J ⟨b,off,O⟩) (L bl) bc) (D wa 0 wc);have f:=fS H NZ (D (J ⟨b,off,O⟩) (L bl) bc) (D wa 0 wc);have V:=y.o _ f;clear o p k;go_upto_region 2 with (fail)
 generalize ŝ (ŝ S ⟨w.heap.size,0,O⟩ (D (J ⟨b,off,O⟩) (L bl) bc)) ⟨w.heap.size,1,O⟩ (D wa 0 wc)=B at *;obtain⟨⟨Q,R⟩,⟨E,f1⟩,-⟩:=ι r;clear r;go_wp2;go_loopw [6,28] (fun c i wr=>c=D u 64 v/\i=IZ 0/\wr=B) (fun _ _ _=>0)
 case atStart=>exact⟨rfl,rfl,rfl⟩
 case round =>
  obtain⟨rfl,rfl,rfl⟩:=hrel;go_wp2_with fail
  refine(x.o _ f).mono ?_;rintro e ab ⟨g,rfl,P,F⟩;have z:=Zh (P.mono f.size);have G:=f.trans (F.mono f.size);go_wp2;go_ret2;exact⟨g,rfl,z.o,G⟩
