/- Part 13 of the proof. -/
import Derived.Test.YtpilfbcffofheaaGreatDoorm08
import Derived.Test.YtpilfbcffofheaaGreatDoorm09
set_option linter.all false
set_option maxRecDepth 100000
set_option maxHeartbeats 16000000
namespace Go.Proofs.YtpilfbcffofheaaGreatDoor
open Go.RowKit Go.Proofs.Tryz Go.Sort
open Value renaming slice->D,agg->ā,string->š
open Option renaming none->O,some->J
open List renaming length->L
open Obj renaming cells->C
open Ending renaming returned->ŗ
open World renaming alloc->å
def px (b):u8 (ch b)=b:=by
 unfold u8 ch;simp
def xg {c} (h:gm c=true):48<=c/\c<1120:=by
 unfold gm li oC at h;simp[sl]at h;omega
def PX:(List.range 1120).all (fun n=>!(gm (n:Int))||(gm (gE (n:Int)) && (gE (gE (n:Int))==gE (n:Int))))=true:=Ϟ
def PU {c} (h:gm c=true):gm (gE c)=true/\gE (gE c)=gE c:=by
 obtain⟨a,b⟩:=xg h;obtain⟨n,rfl⟩:∃ n:Nat,c=n:=⟨c.toNat,U⟩;have:=kT.1 PX n (rm.2 U);rw[h]at this;simpa using this
theorem JI {c} (h:gm c=true):L (enc c)=1\/L (enc c)=2:=by
 obtain⟨a,b⟩:=xg h;unfold enc;split
 .exact .inl rfl
 .rw[μ U];exact .inr rfl
def Dk {c} (e:0<=c) (f:c<2048) (r:γ):first (enc c++r)=(c,L (enc c)):=by
 by_cases h:c<128
 .have a:enc c=[u8 c]:=by unfold enc;rw[μ h]
  rw[a];have g:=gs c e U;simp only[jW,js,first];rw[g,μ h];rfl
 .have a:enc c=[u8 (192+c / 64),u8 (128+c % 64)]:=by unfold enc;rw[κ h,μ f]
  rw[a];have d:=gs (192+c / 64) U U;have b:=gs (128+c % 64) U U;have i:gW (u8 (128+c % 64))=true:=by unfold gW;rw[b];simp;omega
  simp only[jW,js,first,qD];rw[κ (U:¬ch (u8 (192+c / 64))<128),κ (U:¬ch (u8 (192+c / 64))<192),μ (U:ch (u8 (192+c / 64))<224),i,d,b,nh,μ (kU U)];simp only[ϥ,gO,Prod.mk.injEq];exact⟨U,by first|rfl|trivial⟩
def Dh {c} (a:c<2048):enc c≠[]:=by
 unfold enc;split
 .simp
 .simp
def Jp {c} (b:0<=c) (a:c<2048) (r:γ):gg (enc c++r)=c::gg r:=by
 rw[rU _ (by simp[Dh a]),Dk b a];simp
def jy (l:List Int):γ:=l.flatMap enc
def CR (l) (h:∀ c∈l,gm c=true) (r:γ):gg (jy l++r)=l++gg r:=by
 induction l with
 |nil=>rfl
 |cons c l b =>
  have d:=xg (h c ύ);simp only[jy,lF,gP,jW];rw[Jp U U];have:=b (fun x a=>h x (by simp[a]));simp only[jy]at this;rw[this]
def Gd:∀ (l:List Int) (t:γ),(∀ c∈l,gm c=true)->∃ m,lp t l=t++jy m/\(∀ c∈m,gm c=true/\gE c=c)/\(m=[]->l=[]\/62<L t):=by
 intro l;induction l with
 |nil=>intro t h;exact⟨[],by simp[lp,jy],ύ,fun _=>.inl rfl⟩
 |cons c l f =>
  intro t h;have a:=PU (h c ύ);simp only[lp];split
  .rename_i i
   refine⟨[],by simp[jy],ύ,fun _=>.inr ?_⟩;have:=JI a.1;omega
  .obtain⟨m,b,d,g⟩:=f (t++enc (gE c)) (fun x hx=>h x (by simp[hx]))
   refine⟨gE c::m,?_,?_,fun e=>by simp at e⟩
   .rw[b];simp[jy]
   .intro x hx
    simp only[hH]at hx;rcases hx with rfl|hx
    .exact a
    .exact d x hx
def Gt:∀ (l h:List Int),(∀ c∈h,gm c=true)->∀ w∈iP h l,w≠[]/\∀ c∈w,gm c=true:=by
 intro l;induction l with
 |nil =>
  intro h a w hw;rw[rg]at hw;split at hw
  .simp at hw
  .simp only[kF]at hw;subst hw;exact⟨Ϙ,a⟩
 |cons c l f =>
  intro h a w hw;by_cases e:gm c=true
  .rw[vN _ _ _ e]at hw
   refine f _ ?_ w hw;intro x b;simp only[nj,kF]at b;rcases b with b|rfl
   .exact a x b
   .exact e
  .have g:gm c=false:=by simpa using e
   by_cases d:h=[]
   .subst d
    rw[yi _ _ g]at hw;exact f _ ύ w hw
   .rw[yh _ _ _ g d]at hw
    simp only[hH]at hw;rcases hw with rfl|hw
    .exact⟨d,a⟩
    .exact f _ ύ w hw
def Ov {t:γ} (h:iT t=true):∃ m,t=jy m/\m≠[]/\(∀ c∈m,gm c=true/\gE c=c)/\re t=t:=by
 have a:=eq_of_beq h;have n:re t=t:=by unfold re;rw[a];rfl
 unfold Θ at a;obtain⟨b,ws,o,p,_⟩:=List.map_eq_cons_iff.1 a;have k:b∈nI (gg t):=by rw[o];simp
 obtain⟨l,j⟩:=Gt _ _ ύ b k;obtain⟨m,d,g,i⟩:=Gd b [] j;have f:t=jy m:=by rw[<-p];unfold term;rw[d];simp
 refine⟨m,f,?_,g,n⟩;intro e;rcases i e with h|h
 .exact l h
 .simp at h
theorem Ka {c} (h:fR c=true) (r:γ):first (enc c++r)=(c,L (enc c)):=by
 have m:=h;simp only[fR,gt,oo,hP]at m;by_cases l:c<2048
 .exact Dk U l r
 .by_cases k:c<65536
  .have g:enc c=[u8 (224+c / 4096),u8 (128+c / 64 % 64),u8 (128+c % 64)]:=by unfold enc;rw[κ U,κ U,μ k]
   rw[g];have d:=gs (224+c / 4096) U U;have a:=gs (128+c / 64 % 64) U U;have b:=gs (128+c % 64) U U;have e:gW (u8 (128+c / 64 % 64))=true:=by unfold gW;rw[a];simp;omega
   have f:gW (u8 (128+c % 64))=true:=by unfold gW;rw[b];simp;omega
   have i:(((224+c / 4096) - 224)*64+((128+c / 64 % 64) - 128))*64+((128+c % 64) - 128)=c:=U;simp only[jW,js,first,qE];rw[κ (U:¬ch (u8 (224+c / 4096))<128),κ (U:¬ch (u8 (224+c / 4096))<192),κ (U:¬ch (u8 (224+c / 4096))<224),μ (U:ch (u8 (224+c / 4096))<240),e,f,d,a,b,i,h,nh,nh,nh,μ (kU U)];rfl
  .have g:enc c=[u8 (240+c / 262144),u8 (128+c / 4096 % 64),u8 (128+c / 64 % 64),u8 (128+c % 64)]:=by unfold enc;rw[κ U,κ U,κ k]
   rw[g];have d:=gs (240+c / 262144) U U;have a:=gs (128+c / 4096 % 64) U U;have b:=gs (128+c / 64 % 64) U U;have j:=gs (128+c % 64) U U;have e:gW (u8 (128+c / 4096 % 64))=true:=by unfold gW;rw[a];simp;omega
   have f:gW (u8 (128+c / 64 % 64))=true:=by unfold gW;rw[b];simp;omega
   have n:gW (u8 (128+c % 64))=true:=by unfold gW;rw[j];simp;omega
   have i:((((240+c / 262144) - 240)*64+((128+c / 4096 % 64) - 128))*64+((128+c / 64 % 64) - 128))*64+((128+c % 64) - 128)=c:=U;simp only[jW,js,first,qF];rw[κ (U:¬ch (u8 (240+c / 262144))<128),κ (U:¬ch (u8 (240+c / 262144))<192),κ (U:¬ch (u8 (240+c / 262144))<224),κ (U:¬ch (u8 (240+c / 262144))<240),μ (U:ch (u8 (240+c / 262144))<248),e,f,n,d,a,b,j,i,h,nh,nh,nh,nh,μ (kU U)];rfl
theorem JJ (c):L (enc c)=if c<128 then 1 else if c<2048 then 2 else if c<65536 then 3 else 4:=by
 unfold enc;repeat' split
 all_goals rfl
def Dl (b:γ) (h:b≠[]):first b=(65533,1)\/(fR (first b).1=true/\b.take (first b).2=enc (first b).1):=by
 rcases b with _|⟨b0,_|⟨b1,_|⟨b2,_|⟨b3,r⟩⟩⟩⟩
 .exact absurd rfl h
 all_goals
  have c:=nT b0;simp only[first,qD,qE,qF,jS]
  repeat' split
 all_goals first
  |exact .inl rfl
  |(right;rename_i a;constructor
    .simp only[fR,gt,oo,hP];omega
    .unfold enc;rw[μ Ϙ,px];rfl)
  |(right;rename_i a;simp only[gt,hP,gW]at a;refine⟨by simp only[fR,gt,oo,hP];omega,?_⟩;unfold enc;rw[κ U,μ U,show 192+((ch b0 - 192)*64+(ch b1 - 128)) / 64=ch b0 from U,show 128+((ch b0 - 192)*64+(ch b1 - 128)) % 64=ch b1 from U,px,px];rfl)
  |(right;rename_i a;simp only[gt,hP,gW]at a;refine⟨a.1.2,?_⟩;unfold enc;rw[κ U,κ U,μ U,show 224+(((ch b0 - 224)*64+(ch b1 - 128))*64+(ch b2 - 128)) / 4096=ch b0 from U,show 128+(((ch b0 - 224)*64+(ch b1 - 128))*64+(ch b2 - 128)) / 64 % 64=ch b1 from U,show 128+(((ch b0 - 224)*64+(ch b1 - 128))*64+(ch b2 - 128)) % 64=ch b2 from U,px,px,px];rfl)
  |(right;rename_i a;simp only[gt,hP,gW]at a;refine⟨a.1.2,?_⟩;unfold enc;rw[κ U,κ U,κ U,show 240+((((ch b0 - 240)*64+(ch b1 - 128))*64+(ch b2 - 128))*64+(ch b3 - 128)) / 262144=ch b0 from U,show 128+((((ch b0 - 240)*64+(ch b1 - 128))*64+(ch b2 - 128))*64+(ch b3 - 128)) / 4096 % 64=ch b1 from U,show 128+((((ch b0 - 240)*64+(ch b1 - 128))*64+(ch b2 - 128))*64+(ch b3 - 128)) / 64 % 64=ch b2 from U,show 128+((((ch b0 - 240)*64+(ch b1 - 128))*64+(ch b2 - 128))*64+(ch b3 - 128)) % 64=ch b3 from U,px,px,px,px];rfl)
def mQ (n:Nat):Int:=if n=2 then 192 else if n=3 then 224 else if n=4 then 240 else 0
def beg (l:γ) (n:Nat):Nat->Int
 |0=>ch (l.getD 0 0) - mQ n
 |i+1=>beg l n i*64+ch (l.getD (i+1) 0) - 128
def kp (l:γ) (n:Nat):Int:=if L l<n then -1 else beg l n (n - 1)
def qG (l:γ) (k:Nat):Bool:=fR (kp l k) && enc (kp l k)==l.take k
def mw (l:γ):Nat->Int×Nat
 |0=>(65533,1)
 |k+1=>if qG l (k+1)then(kp l (k+1),k+1)else mw l k
def Kc (l k) (f:1<=k) (h:qG l k=true):first l=(kp l k,k):=by
 unfold qG at h;simp only[gt,nm]at h;obtain⟨a,b⟩:=h;have g:¬L l<k:=by
  intro d;unfold kp at a;rw[μ d]at a;exact absurd a ϐ
 have e:L (enc (kp l k))=k:=by rw[b,gp];omega
 have c:=Ka a (l.drop k);rw[b,pG,<-b,e]at c;exact c
def JH (c) (h:fR c=true) (l) (g:l.take (L (enc c))=enc c):kp l (L (enc c))=c:=by
 have i:=h;simp only[fR,gt,oo,hP]at i;have j:¬L l<L (enc c):=by
  have:=jp List.length g;rw[gp]at this;omega
 have hg:∀ d,d<L (enc c)->l.getD d 0=(enc c).getD d 0:=by
  intro d hi;rw[<-g];simp only[List.getD,iH];rw[μ hi]
 unfold kp;rw[κ j];by_cases b:c<128
 .have a:enc c=[u8 c]:=by unfold enc;rw[μ b]
  rw[a]at hg ⊢;simp only[qr,kj,beg];rw[hg 0 ύ];simp only[List.getD_cons_zero,mQ];rw[gs _ U U];simp
 .by_cases e:c<2048
  .have a:enc c=[u8 (192+c / 64),u8 (128+c % 64)]:=by unfold enc;rw[κ b,μ e]
   rw[a]at hg ⊢;simp only[ϥ,gO,Nat.reduceAdd,beg];rw[hg 0 ύ,hg 1 ύ];simp only[List.getD_cons_zero,List.getD_cons_succ,mQ];rw[gs _ U U,gs _ U U];simp;omega
  .by_cases f:c<65536
   .have a:enc c=[u8 (224+c / 4096),u8 (128+c / 64 % 64),u8 (128+c % 64)]:=by unfold enc;rw[κ b,κ e,μ f]
    rw[a]at hg ⊢;simp only[ϥ,gO,Nat.reduceAdd,beg];rw[hg 0 ύ,hg 1 ύ,hg 2 ύ];simp only[List.getD_cons_zero,List.getD_cons_succ,mQ];rw[gs _ U U,gs _ U U,gs _ U U];simp;omega
   .have a:enc c=[u8 (240+c / 262144),u8 (128+c / 4096 % 64),u8 (128+c / 64 % 64),u8 (128+c % 64)]:=by unfold enc;rw[κ b,κ e,κ f]
    rw[a]at hg ⊢;simp only[ϥ,gO,Nat.reduceAdd,beg];rw[hg 0 ύ,hg 1 ύ,hg 2 ύ,hg 3 ύ];simp only[List.getD_cons_zero,List.getD_cons_succ,mQ];rw[gs _ U U,gs _ U U,gs _ U U,gs _ U U];simp;omega
def NF (l:γ) (h:l≠[]):mw l 4=first l:=by
 have r:∀ a,mw l a=first l\/(mw l a=(65533,1)/\∀ b,1<=b->b<=a->qG l b=false):=by
  intro a;induction a with
  |zero=>exact .inr ⟨rfl,fun b d e=>U⟩
  |succ a g =>
   simp only[mw];by_cases c:qG l (a+1)=true
   .left;rw[μ c,Kc l (a+1) U c]
   .rw[κ c]
    rcases g with g|⟨n,o⟩
    .exact .inl g
    .right
     refine⟨n,fun b d e=>?_⟩;by_cases m:b=a+1
     .subst m;simpa using c
     .exact o b d U
 rcases r 4 with a|⟨p,q⟩
 .exact a
 .rcases Dl l h with c|⟨d,e⟩
  .rw[p,c]
  .exfalso
   have k:=pR l h;have f:L (enc (first l).1)=(first l).2:=by rw[<-e,gp];omega
   have i:=JH _ d l (by rw[f];exact e);rw[f]at i;have j:(first l).2<=4:=by rw[<-f,JJ];(repeat' split)<;>omega
   have:=q (first l).2 k.1 j;unfold qG at this;rw[i,d,e]at this;simp at this
def xD (s:γ):Bool:=(gg s).all (fun c=>gm c && gE c==c) && decide (0<L (gg s)) && decide (L s<=64)
def Im:∀ (n:Nat) (s:γ),L s<=n->(∀ c∈gg s,gm c=true)->s=jy (gg s):=by
 intro n;induction n with
 |zero=>intro s k h;have:s=[]:=kS U;subst this;rfl
 |succ n l =>
  intro s k h;by_cases a:s=[]
  .subst a;rfl
  .have b:=rU s a
   have o:=pR s a;have d:gm (first s).1=true:=h _ (by rw[b];simp);rcases Dl s a with i|⟨m,e⟩
   .rw[i]at d;simp[Cb]at d
   .have j:s.drop (first s).2=jy (gg (s.drop (first s).2)):=l _ (by rw[fT];omega) (fun c g=>h c (by rw[b];simp[g]))
    rw[b];have f:jy ((first s).1::gg (s.drop (first s).2))=enc (first s).1++jy (gg (s.drop (first s).2)):=by simp[jy]
    rw[f,<-j,<-e];exact(pG _ _).symm
def Ql:∀ (l:List Int) (t:γ),(∀ c∈l,gE c=c)->L (t++jy l)<=64->lp t l=t++jy l:=by
 intro l;induction l with
 |nil=>intro t _ _;simp[lp,jy]
 |cons c l d =>
  intro t h e;have a:=h c ύ;simp only[lp];rw[a];have f:L (t++jy (c::l))=L t+L (enc c)+L (jy l):=by simp[jy];omega
  rw[κ U,d _ (fun x b=>h x (by simp[b])) (by rw[σ,σ];omega)];simp[jy]
def QL:∀ (l d:List Int),(∀ c∈l,gm c=true)->iP d l=if d++l=[]then[]else[d++l]:=by
 intro l;induction l with
 |nil=>intro d _;rw[rg,iy]
 |cons c l b =>
  intro d h;rw[vN _ _ _ (h c ύ),b _ (fun x a=>h x (by simp[a]))];simp
def NG (s):xD s=iT s:=by
 rw[Bool.eq_iff_iff];constructor
 .intro h
  unfold xD at h;simp only[gt,kT,hP,nm]at h;obtain⟨⟨b,d⟩,f⟩:=h;have g:=Im _ s NZ (fun c a=>(b c a).1);unfold iT Θ nI;rw[QL _ _ (fun c a=>(b c a).1),js,κ (by intro e;rw[e]at d;simp at d)];simp only[ij,jQ,term];rw[Ql _ _ (fun c a=>(b c a).2) (by rw[js,<-g];exact f),js,<-g];simp
 .intro h
  obtain⟨i,b,d,f,k⟩:=Ov h;have j:gg s=i:=by
   have:=CR i (fun c a=>(f c a).1) [];rw[iy,<-b,rT,iy]at this;exact this
  unfold xD;rw[j];simp only[gt,kT,hP,nm];exact⟨⟨f,pA.2 d⟩,Ow h⟩
def QK {m} (h:∀ c∈m,gm c=true) (l:m≠[]):iT (term m)=true/\term m≠[]:=by
 obtain⟨a,i,b,j⟩:=Gd m [] h;have n:term m=jy a:=by unfold term;rw[i];rfl
 have f:L (term m)<=64:=Gf _ m ϐ;have g:a≠[]:=by
  intro e;rcases j e with h|h
  .exact l h
  .simp at h
 rw[n]at f ⊢;constructor
 .rw[<-NG]
  have k:gg (jy a)=a:=by
   have:=CR a (fun c d=>(b c d).1) [];rw[iy,rT,iy]at this;exact this
  unfold xD;rw[k];simp only[gt,kT,hP,nm];exact⟨⟨b,pA.2 g⟩,f⟩
 .cases a with
  |nil=>exact absurd rfl g
  |cons c a =>
   intro e;have d:=xg (b c ύ).1;have:=Dh (c:=c) U;simp only[jy,lF,List.append_eq_nil_iff]at e;exact this e.1
def Qp (b:γ):∀ t∈Θ b,iT t=true/\0<L t/\L t<=64:=by
 intro t a;have g:=xX b t a;unfold Θ at a;obtain⟨i,h,rfl⟩:=ih.1 a;obtain⟨c,d⟩:=Gt _ _ ύ i h;obtain⟨e,f⟩:=QK d c;exact⟨e,pA.2 f,g⟩
def Eb (b:List (γ)) (B) (a:∀ d∈b,L d<=B) (lo n):L (iw b lo n)<=n*B:=by
 unfold iw;rw[hU];exact gj (qY _) (uz b B a n lo)
def LO {c:List (γ)} {t:γ} {lo n} (h:t∈gI c lo n):∃ b,t∈Θ b:=by
 unfold gI at h;obtain⟨a,-,hi⟩:=List.mem_flatMap.1 h;exact⟨_,nZ.1 hi⟩
def KI (c:List (γ)) (t:γ) (lo n):(gb c t lo n).Pairwise (· < ·):=by
 unfold gb;refine List.Pairwise.map _ (R:=(· < ·)) (fun a b h=>U) ?_;exact List.Pairwise.filter _ List.pairwise_lt_range'
def xn {o:List (γ)} {p n e} (h:e∈iw o p n):iT e.1=true/\L e.1<=64/\e.2≠[]/\L e.2<=n/\e.2.Pairwise (· < ·)/\∀ z∈e.2,(p:Int)<=z/\z<((p+n:Nat):Int):=by
 have d:=Ah o p n e h;unfold iw at h;obtain⟨j,g,rfl⟩:=ih.1 h;obtain⟨b,f⟩:=LO (nZ.1 g);obtain⟨a,-,c⟩:=Qp b j f;refine⟨a,c,d,DB _ _ _ _,KI _ _ _ _,fun z i=>?_⟩;obtain⟨m,rfl,k,l,-⟩:=zW.1 i;omega
def Eu (r:List (γ)) (p) (o:p.1<p.2) (q:p.2<=1000):lZ (p.1:Int) (p.2:Int) (Δ r p)=true:=by
 have n:me (p.1:Int) (p.2:Int)=true:=by
  unfold me;simp only[gt,hP];omega
 have j:∀ e∈Δ r p,iT e.1=true/\L e.1<=64/\e.2≠[]/\L e.2<=p.2 - p.1/\e.2.Pairwise (· < ·)/\∀ z∈e.2,(p.1:Int)<=z/\z<(p.2:Int):=fun e g=>by
  obtain⟨b,h,c,i,d,f⟩:=xn (show e∈iw r _ _ from g);refine⟨b,h,c,i,d,fun z a=>?_⟩;have:=f z a;omega
 have m:iC (Δ r p)=true:=by
  refine CS (fun l hi=>?_) (fun l hi=>?_)
  .obtain⟨b,h,c,i,d,f⟩:=j _ (Ψ hi)
   rw[zJ];refine⟨c,(xx _).2 ⟨d,fun z a=>?_⟩,b⟩;have:=f z a;omega
  .have k:lm (Δ r p):=xo _ _ _
   unfold lm mJ at k;have:=rp.1 k l _ ό (by simpa using hi) U;simpa using this
 unfold lZ;rw[n,m,nh,nh,kT];intro e g;rw[kT];intro z a;have:=(j e g).2.2.2.2.2 z a;unfold jd;simp only[gt,hP];exact this
theorem Gk (j:List (γ)) (B) (b:∀ d∈j,L d<=B):∀ {m:List (Nat×Nat)} {l k:Nat},il l m k->jL (m.map (Δ j))<=(k - l)*B
 |[],l,k,h=>by simp[jL]
 |p::r,l,k,h=>by
  obtain⟨rfl,c,a⟩:=h;have i:=Gk j B b a;have e:=rJ a;have f:=Eb j B b p.1 (p.2 - p.1);unfold jL at *;simp only[ij,List.sum_cons];have g:(k - p.1)*B=(p.2 - p.1)*B+(k - p.2)*B:=by rw[<-lr];congr 1;omega
  unfold Δ at *;omega
def pk:Nat->Int->Int
 |0,_=>0
 |f+1,n=>if 1<n then 1+pk f (n / 2)else 0
def qf (a b:Int):Int:=if a<0\/b<0\/b<=a then -1 else pk 64 (b - a)
def Kr (f n) (h:n<=1):pk f n=0:=by
 cases f with
 |zero=>rfl
 |succ f=>simp only[pk];rw[κ U]
def Qq (a b) (w:β) (h:a<0\/b<0\/b<=a) :
  Calls prog 322 #[ā #[G a,G b]] w fun e w'=>e=ŗ (G (qf a b))/\BQ w w':=by
 have d:qf a b = -1:=by unfold qf;rw[μ h]
 have c:=Zh d;clear d;by_cases f:a<0
 .go_enter func322,ntmps322
  go_wp2;go_ret;exact⟨tz c.o.symm,ġ⟩
 .by_cases g:b<0
  .go_enter func322,ntmps322
   go_wp2;go_ret;exact⟨tz c.o.symm,ġ⟩
  .have i:b<=a:=U
   go_enter func322,ntmps322;go_wp2;go_ret;exact⟨tz c.o.symm,ġ⟩
def Qr (a b) (w:β) (t:0<=a) (v:0<=b) (u:a<b) (y:b<=9223372036854775807) :
  Calls prog 322 #[ā #[G a,G b]] w fun e w'=>e=ŗ (G (qf a b))/\BQ w w':=by
 have l:qf a b=pk 64 (b - a):=by unfold qf;rw[κ U]
 have o:=Zh l;clear l;have B:b - a<2 ^ 63:=U;go_enter func322,ntmps322;go_wp2;go_loop [3,4] (fun s i=>∃ (f:Nat) (q n:Int),f<=64/\0<=q/\q+f<=64/\1<=n/\n<=9223372036854775807/\n<2 ^ f/\pk 64 (b - a)=q+pk f n/\s=G q/\i=G n) (fun _ i=>(intOf i).toNat)
 .exact⟨64,0,_,U,U,U,U,U,U,U,rfl,rfl⟩
 obtain⟨f,q,n,x,E,F,z,A,d,c,rfl,rfl⟩:=hrel;by_cases p:1<n
 .have step:∃ g:Nat,f=g+1/\n / 2<2 ^ g/\pk f n=1+pk g (n / 2):=by
   cases f with
   |zero=>simp at d;omega
   |succ g=>exact⟨g,rfl,by rw[Int.pow_succ]at d;omega,by simp only[pk];rw[μ p]⟩
  obtain⟨g,r,j,k⟩:=step;subst r;have m:=Zh k;clear k;have h:=Zh c;clear c;clear d;have H3:=Zh j;clear j;go_wp2
  go_round
  .exact⟨g,_,_,U,U,U,U,U,H3.o,by rw[h.o,m.o];omega,rfl,rfl⟩
  exact ω
 .have h:=Zh c;clear c
  clear d;go_wp2;go_ret;exact⟨tz (by rw[o.o,h.o,Kr _ _ U];simp),ġ⟩
def Gi (a b) (w:β) (c:b<=9223372036854775807) :
  Calls prog 322 #[ā #[G a,G b]] w fun e w'=>e=ŗ (G (qf a b))/\BQ w w':=by
 by_cases h:a<0\/b<0\/b<=a
 .exact Qq a b w h
 .exact Qr a b w U U U c
def oN (a:List (Int×Int)):List ε:=a.flatMap fun s=>[G s.1,G s.2]
def FL (xs k h):(oN xs)[k*2]?=J (G xs[k].1)/\(oN xs)[k*2+1]?=J (G xs[k].2):=by
 induction xs generalizing k with
 |nil=>simp at h
 |cons x xs a =>
  cases k with
  |zero=>simp[oN]
  |succ k =>
   have:=a k (by simpa using h);simp only[rn];rw[<-this.1,<-this.2];simp only[oN,lF];constructor
   .rw[show(k+1)*2=k*2+2 from U];simp
   .rw[show(k+1)*2+1=(k*2+1)+2 from U];simp
def PZ {w:β} {xs b off} (a:∀ i u,(oN xs)[i]?=J u->w.cell? ⟨b,off+i,O⟩=J u) (k hk) :
  w.cell? ⟨b,off+k*2,O⟩=J (G xs[k].1)/\w.cell? ⟨b,off+k*2+1,O⟩=J (G xs[k].2):=
 ⟨a _ _ (FL xs k hk).1,a _ _ (FL xs k hk).2⟩
def xY (a:List (Int×Int)) (k:Nat):Int:=match a[k]? with|some s=>qf s.1 s.2|none=>0
def pn (a:List (Int×Int)):Nat->Int×Bool
 |0=>(0,false)
 |k+1=>if xY a k<=xY a (k+1)then(k,true)else pn a k
def ky (a:List (Int×Int)):Int×Bool:=pn a (L a - 1)
def Gh (xs k h):xY xs k=qf xs[k].1 xs[k].2:=by
 unfold xY;rw[Ρ h]
theorem Me (v:ε) (xs) (w:β) (h:Rd w v (L xs) 2 (oN xs)) (o:∀ s∈xs,s.2<=9223372036854775807) :
  Calls prog 304 #[v] w fun e w'=>e=ŗ (.tuple #[G (ky xs).1,.bool (ky xs).2])/\BQ w w':=by
 obtain⟨-,B,⟨I,c,rfl,k⟩|⟨b,off,c,rfl,K,M,z,y⟩⟩:=h
 .have F:=lJ.1 k
  subst F;go_enter func304,ntmps304;go_wp2;refine wp_loop_rounds 1 ?_;rw[rounds_succ];go_wp2;go_ret2;exact⟨rfl,ρ _ _⟩
 .unfold maxLen at B z
  go_enter func304,ntmps304;go_wp2;go_loopw [4] (fun i wr=>∃ q:Int,-2<=q/\q<=(L xs:Int) - 2/\ky xs=pn xs (q+1).toNat/\i=G q/\BQ w wr) (fun i _=>(intOf i+2).toNat)
  .exact⟨ _,U,U,by unfold ky;congr 1;omega,rfl,ρ _ _⟩
  obtain⟨q,N,P,k,rfl,g⟩:=hrel;have l:=Zh k;clear k;by_cases E:0<=q
  .obtain⟨a,rfl⟩:=Int.eq_ofNat_of_zero_le E
   have j:a+1<L xs:=U;have f:=fun i hi=>PZ y i hi;have r1:=Ι ((g.cell (ii w _ (f a U).1)).trans (f a U).1);have r2:=Ι ((g.cell (ii w _ (f a U).2)).trans (f a U).2);have r3:=Ι ((g.cell (ii w _ (f _ j).1)).trans (f _ j).1);have r4:=Ι ((g.cell (ii w _ (f _ j).2)).trans (f _ j).2);have b1:=o xs[a] (Ψ _);have b2:=o xs[a+1] (Ψ _);have T:=Gh xs a U;have H:=Gh xs _ U;have r:=fun d os=>Calls.regrown_of (Gi xs[a].1 xs[a].2 (grow (redrawn wr d) os) b1);have t:=fun d os=>Calls.regrown_of (Gi xs[a+1].1 _ (grow (redrawn wr d) os) b2);have Q:(a:Int)<(L xs:Int):=U;have R:(0:Int)<=(a:Int)+1:=U;have S:(a:Int)+1<(L xs:Int):=U;have m:=Zh T;have n:=Zh H;go_wp2_with fail
   refine ui ϋ ϋ ?_;repeat (go_big_quiet_step (first|(go_at_call 322;with_reducible exact r _ _)|(go_at_call 322;with_reducible exact t _ _)))
   refine gc fun u x=>?_;have p:BQ w u:=g.t x;go_wp2
   .go_ret2
    have A:=Ϙ;refine⟨?_,p⟩;rw[l.o,show((a:Int)+1).toNat=a+1 from U];simp only[pn];rw[m.o,n.o,μ A];rfl
   .go_roundw
    .refine⟨ _,U,U,?_,rfl,p⟩
     rw[l.o,show((a:Int)+1).toNat=a+1 from U,show((a:Int) - 1+1).toNat=a from U];simp only[pn];rw[m.o,n.o,κ U]
    exact ω
  .go_wp2
   go_ret2;refine⟨?_,g⟩;rw[l.o,show(q+1).toNat=0 from U];rfl
def ra (n:Nat):Nat->Nat->Nat
 |0,k=>k
 |f+1,k=>if 2*k<n then ra n f (2*k)else k
def Τ (n:Nat):Nat:=ra n n 1
theorem FO (n):∀ (f a:Nat),2 ^ a<n->n<=2 ^ (a+f)->∃ h,ra n f (2 ^ a)=2 ^ h/\2 ^ h<n/\n<=2 ^ (h+1)
 |0,a,h1,h2=>by simp at h2;omega
 |f+1,a,h1,h2=>by
  rw[ra];split
  .rename_i b
   rw[show 2*2 ^ a=2 ^ (a+1)from by rw[jq];omega]at b ⊢;exact FO n f _ b (by rw[show a+1+f=a+(f+1)from U];exact h2)
  .rename_i b
   exact⟨a,rfl,h1,by rw[jq];omega⟩
def sm {n} (h:2<=n):∃ h,Τ n=2 ^ h/\2 ^ h<n/\n<=2 ^ (h+1):=by
 have:=FO n n 0 ό (by simp;exact mC Nat.lt_two_pow_self);simpa[Τ] using this
def tH {n} (h:2<=n):0<Τ n/\Τ n<n/\n<=2*Τ n:=by
 obtain⟨a,e,b,c⟩:=sm h;rw[e];refine⟨kV ϐ,b,by rw[jq]at c;omega⟩
def MY {a b n} (c:2 ^ a<n) (d:n<=2 ^ (a+1)) (e:2 ^ b<n) (f:n<=2 ^ (b+1)):a=b:=by
 have g:=(vT ϐ).1 (om c f);have h:=(vT ϐ).1 (om e d);omega
def AS {n h} (d:2 ^ h<n) (f:n<=2 ^ (h+1)):Τ n=2 ^ h:=by
 obtain⟨a,e,b,c⟩:=sm (n:=n) U;rw[e,MY b c d f]
section
variable {α:Type} (T:List α->α) (nd:α->α->α)
def hE:Nat->List α->Nat->Bool->List α
 |0,_,_,_=>[]
 |f+1,l,m,p =>
  if m=L l then(if p=true then[T l]else[])
  else if m<=Τ (L l) then hE f (l.take (Τ (L l))) m p++[T (l.drop (Τ (L l)))]
  else hE f (l.drop (Τ (L l))) (m - Τ (L l)) true++[T (l.take (Τ (L l)))]
theorem pW (f:Nat) (l:List α) (m:Nat) (p:Bool):hE T (f+1) l m p=if m=L l then(if p=true then[T l]else[])else if m<=Τ (L l) then hE T f (l.take (Τ (L l))) m p++[T (l.drop (Τ (L l)))]else hE T f (l.drop (Τ (L l))) (m - Τ (L l)) true++[T (l.take (Τ (L l)))]:=rfl
def vy:∀ (f:Nat) (l:List α) (m:Nat) (p:Bool),L (hE T f l m p)<=f
 |0,l,m,p=>by simp[hE]
 |f+1,l,m,p=>by
  unfold hE;split
  .split<;>simp
  .split
   .have:=vy f (l.take (Τ (L l))) m p;simp;omega
   .have:=vy f (l.drop (Τ (L l))) (m - Τ (L l)) true;simp;omega
def kC:Nat->Nat->Nat->Nat×Nat
 |0,i,j=>(i,j)
 |f+1,i,j=>if i % 2=1 then kC f (i / 2) (j / 2)else(i,j)
def jA:Nat->Nat->Nat->Nat×Nat
 |0,i,j=>(i,j)
 |f+1,i,j=>if i % 2=0/\i≠0 then jA f (i / 2) (j / 2)else(i,j)
def kq:List α->Nat->Nat->α->α->Option (Nat×Nat×α×α)
 |[],i,j,a,b=>J (i,j,a,b)
 |d::r,i,j,a,b =>
  if j=0 then O
  else if i % 2=0/\i≠j then kq r (i / 2) (j / 2) a (nd b d)
  else kq r ((jA i i j).1 / 2) ((jA i i j).2 / 2) (nd d a) (nd d b)
def sO:∀ (x:List α) (d:α) (i j:Nat) (a b:α),kq nd (x++[d]) i j a b=(kq nd x i j a b).bind fun s=>kq nd [d] s.1 s.2.1 s.2.2.1 s.2.2.2
 |[],d,i,j,a,b=>rfl
 |e::r,d,i,j,a,b=>by
  simp only[jW,kq];split
  .rfl
  .split
   .exact sO r d _ _ _ _
   .exact sO r d _ _ _ _
def uL (i j:Nat):List α->Option (Nat×Nat×α×α)
 |[]=>O
 |s::t=>kq nd t (kC i i j).1 (kC i i j).2 s s
def vJ {i:Nat} (f j:Nat) (h:i % 2≠1):kC f i j=(i,j):=by cases f<;>simp[kC,h]
def FY:∀ (h f X a:Nat),X % 2=0->X*2 ^ h+(2 ^ h - 1)<=f->kC f (X*2 ^ h+(2 ^ h - 1)) a=(X,a / 2 ^ h)
 |0,f,X,a,hX,hf=>by simp;exact vJ f a U
 |h+1,f,X,a,hX,hf=>by
  have b:0<2 ^ h:=kV ϐ;have e:X*2 ^ (h+1)+(2 ^ (h+1) - 1)=2*(X*2 ^ h+(2 ^ h - 1))+1:=by
   rw[jq,show X*(2 ^ h*2)=2*(X*2 ^ h)from by rw[<-pz,ki]];omega
  rw[e]at hf ⊢;obtain⟨g,rfl⟩:∃ g,f=g+1:=⟨f - 1,U⟩;rw[kC,μ U,show(2*(X*2 ^ h+(2 ^ h - 1))+1) / 2=X*2 ^ h+(2 ^ h - 1)from U,FY h g X (a / 2) hX U,Nat.div_div_eq_div_mul,jq,ki 2]
def AW:∀ (f i j:Nat),i<=f->kC f i j=kC i i j
 |0,i,j,h=>by
  obtain rfl:i=0:=U;rfl
 |f+1,i,j,h=>by
  by_cases a:i % 2=1
  .obtain⟨g,rfl⟩:∃ g,i=g+1:=⟨i - 1,U⟩
   rw[kC,μ a,kC,μ a,AW f _ _ U,AW g _ _ U]
  .rw[vJ _ _ a,vJ _ _ a]
def FV {i} (f j) (h:i % 2=1):jA f i j=(i,j):=by
 cases f with
 |zero=>rfl
 |succ f=>rw[jA,κ U]
def FW:∀ (s f c:Nat),c % 2=1->c*2 ^ s<=f->jA f (c*2 ^ s) (c*2 ^ s)=(c,c)
 |0,f,c,hc,hf=>by simp;exact FV f c hc
 |s+1,f,c,hc,hf=>by
  have a:0<2 ^ s:=kV ϐ;have b:0<c*2 ^ s:=Nat.mul_pos U a;have e:c*2 ^ (s+1)=2*(c*2 ^ s):=by rw[jq,<-pz,ki]
  rw[e]at hf ⊢;obtain⟨g,rfl⟩:∃ g,f=g+1:=⟨f - 1,U⟩;rw[jA,μ U,show 2*(c*2 ^ s) / 2=c*2 ^ s from U];exact FW s g c hc U
variable (hT:∀ l:List α,2<=L l->T l=nd (T (l.take (Τ (L l)))) (T (l.drop (Τ (L l)))))
include hT
def yZ {l:List α} (h:2<=L l):nd (T (l.take (Τ (L l)))) (T (l.drop (Τ (L l))))=T l:=(hT l h).symm
def BL {l:List α} (h:2<=L l) {m:Nat} (b:Τ (L l)<m) (i:m<=L l):nd (T (l.take (Τ (L l)))) (T ((l.drop (Τ (L l))).take (m - Τ (L l))))=T (l.take m):=by
 obtain⟨a,e,f,g⟩:=sm h;have j:0<2 ^ a:=kV ϐ;have c:L (l.take m)=m:=Ϝ;have d:Τ m=Τ (L l):=by rw[e]at b ⊢;exact AS b U
 rw[hT (l.take m) (by rw[c];omega),c,d,tU,mi U,List.drop_take]
def IN:∀ (h:Nat) (l:List α) (m X a f:Nat),L l=2 ^ h->1<=m->m<=2 ^ h->(m<2 ^ h\/X % 2=0)->X<a / 2 ^ h->L l<=f ->
  ∃ s t,hE T f l m true=s::t/\kq nd t (kC (X*2 ^ h+(m - 1)) (X*2 ^ h+(m - 1)) a).1 (kC (X*2 ^ h+(m - 1)) (X*2 ^ h+(m - 1)) a).2 s s=J (X,a / 2 ^ h,T (l.take m),T l):=by
 intro h;induction h with
 |zero =>
  intro l m X a f j o p h3 w y;simp at j p;obtain rfl:m=1:=U;obtain⟨g,rfl⟩:∃ g,f=g+1:=⟨f - 1,U⟩;refine⟨ _,_,by rw[hE,μ U,μ rfl],?_⟩;rcases h3 with h3|h3
  .simp at h3
  .simp only[Nat.pow_zero,oR,kj,kG,yA]
   rw[vJ _ _ U,kq,gF U]
 |succ h r =>
  intro l m X a f j o p h3 w y;have A:0<2 ^ h:=kV ϐ;have n:2 ^ (h+1)=2 ^ h*2:=jq ..;obtain⟨g,rfl⟩:∃ g,f=g+1:=⟨f - 1,U⟩;have c:Τ (L l)=2 ^ h:=by rw[j];exact AS U NZ
  have i:2<=L l:=U;have q:a / 2 ^ h / 2=a / 2 ^ (h+1):=by rw[Nat.div_div_eq_div_mul,n]
  by_cases z:m=2 ^ (h+1)
  .have x:X % 2=0:=U
   refine⟨ _,_,by rw[hE,μ U,μ rfl],?_⟩;rw[z,FY (h+1) _ X a x NZ,kq,gF U]
  .by_cases b:m<=2 ^ h
   .have k:L (l.take (2 ^ h))=2 ^ h:=Ϝ
    obtain⟨s,t,d,e⟩:=r _ m (2*X) a g k o b (.inr U) U U;refine⟨s,t++[T _],by rw[hE,κ U,c,μ b,d];rfl,?_⟩;rw[show X*2 ^ (h+1)=2*X*2 ^ h from by rw[n,ki 2 X,pz,ki 2],sO,e,tV];simp only[kq];rw[κ U,μ U,q,show 2*X / 2=X from U,tU,mi b];have:=yZ T nd hT i;rw[c]at this;rw[this]
   .have k:L (l.drop (2 ^ h))=2 ^ h:=by rw[fT];omega
    obtain⟨s,t,d,e⟩:=r _ (m - 2 ^ h) (2*X+1) a g k U U (.inl U) U U;refine⟨s,t++[T _],by rw[hE,κ U,c,κ b,d];rfl,?_⟩;rw[show X*2 ^ (h+1)+(m - 1)=(2*X+1)*2 ^ h+(m - 2 ^ h - 1)from by rw[n,lr,pF,show X*(2 ^ h*2)=2*X*2 ^ h from by rw[ki 2 X,pz,ki 2]];omega,sO,e,tV];simp only[kq];rw[κ U,κ U,FV _ _ U];simp only;have u:=yZ T nd hT i;have v:=BL T nd hT i (m:=m) U U;rw[c]at u v;rw[u,v,q,show(2*X+1) / 2=X from U]
def IM:∀ (n:Nat) (l:List α) (m c H f:Nat),L l=n->1<=m->m<n->n<=2 ^ H->n<=f ->
  ∃ s t k,hE T f l m true=s::t/\k<=H/\kq nd t (kC (c*2 ^ H+(m - 1)) (c*2 ^ H+(m - 1)) (c*2 ^ H+(n - 1))).1 (kC (c*2 ^ H+(m - 1)) (c*2 ^ H+(m - 1)) (c*2 ^ H+(n - 1))).2 s s=J (c*2 ^ k,c*2 ^ k,T (l.take m),T l):=by
 intro n;induction n using Nat.strongRecOn with
 |_ n E =>
  intro l m c H f N v P S I;have o:2<=L l:=U;obtain⟨g,rfl⟩:∃ g,f=g+1:=⟨f - 1,U⟩;obtain⟨h,e,F,R⟩:=sm o;have A:0<2 ^ h:=kV ϐ;have B:2 ^ (h+1)=2 ^ h*2:=jq ..;have K:h<H:=(vT ϐ).1 (om F U);obtain⟨d,rfl⟩:∃ d,H=h+1+d:=⟨H - (h+1),U⟩;have p:c*2 ^ (h+1+d)=2*(c*2 ^ d)*2 ^ h:=by
   rw[Nat.pow_add,B,ki 2 (c*2 ^ d),pz (c*2 ^ d),ki 2,pz c,ki (2 ^ d)]
  generalize r:c*2 ^ d=a at p;have x:(2*a*2 ^ h+(n - 1)) / 2 ^ h=2*a+1:=by
   have w:(n - 1) / 2 ^ h=1:=Nat.div_eq_of_lt_le (by rw[pF];omega) (by show n - 1<2*2 ^ h;omega);rw[Nat.add_comm,Nat.add_mul_div_right _ _ A,w,Nat.add_comm]
  have z:L (l.take (2 ^ h))=2 ^ h:=Ϝ;have y:L (l.drop (2 ^ h))=n - 2 ^ h:=by rw[fT];omega
  have q:=yZ T nd hT o;rw[e]at q;by_cases b:m<=2 ^ h
  .obtain⟨s,t,i,j⟩:=IN T nd hT h _ m (2*a) (2*a*2 ^ h+(n - 1)) g z v b (.inr U) U U
   refine⟨s,t++[T _],d,by rw[hE,κ U,e,μ b,i];rfl,U,?_⟩;rw[p,sO,j,tV];simp only[kq];rw[κ U,μ U,q,x,tU,mi b,r,show 2*a / 2=a from U,show(2*a+1) / 2=a from U]
  .obtain⟨s,t,k,i,M,j⟩:=E _ U _ (m - 2 ^ h) (2*a+1) h g y U U U U
   refine⟨s,t++[T _],d,by rw[hE,κ U,e,κ b,i];rfl,U,?_⟩;rw[p,show 2*a*2 ^ h+(m - 1)=(2*a+1)*2 ^ h+(m - 2 ^ h - 1)from by rw[lr,pF];omega,show 2*a*2 ^ h+(n - 1)=(2*a+1)*2 ^ h+(n - 2 ^ h - 1)from by rw[lr,pF];omega,sO,j,tV];have Q:0<(2*a+1)*2 ^ k:=Nat.mul_pos U (kV ϐ);simp only[kq];rw[κ U,κ ύ,FW k _ (2*a+1) U NZ];simp only;have u:=BL T nd hT o (m:=m) U U;rw[e]at u;rw[q,u,r,show(2*a+1) / 2=a from U]
def IP {l:List α} {m f:Nat} (c:1<=m) (d:m<L l) (e:L l<=f):uL nd (m - 1) (L l - 1) (hE T f l m true)=J (0,0,T (l.take m),T l):=by
 obtain⟨s,h,g,b,-,a⟩:=IM T nd hT _ l m 0 _ f rfl c d (mC Nat.lt_two_pow_self) e;rw[b];simp only[rj,iI]at a;exact a
omit hT
theorem Na:∀ (h f:Nat) (l:List α),2 ^ h<L l->L l<=f->hE T f l (2 ^ h) true=T (l.take (2 ^ h))::hE T f l (2 ^ h) false:=by
 intro h f;have p:0<2 ^ h:=kV ϐ;induction f with
 |zero=>intro l d j;omega
 |succ f m =>
  intro l d j;obtain⟨a,k,q,o⟩:=sm (n:=L l) U;have c:2 ^ h<=2 ^ a:=by
   have:=(vT ϐ).1 (om d o);exact wg ϐ U
  have e:L (l.take (2 ^ a))=2 ^ a:=Ϝ;have i:¬2 ^ h=L l:=U;rw[pW T f l _ true,pW T f l _ false,κ i,κ i,k,μ c,μ c];by_cases b:2 ^ h=2 ^ a
  .obtain⟨g,rfl⟩:∃ g,f=g+1:=⟨f - 1,U⟩
   rw[pW T g _ _ true,pW T g _ _ false,μ (b.trans e.symm),μ rfl,μ (b.trans e.symm),κ ϐ,b];rfl
  .rw[m (l.take (2 ^ a)) U U,tU,mi c];rfl
def Nb:∀ (f:Nat) (l:List α) (m:Nat),1<=m->m<L l->L l<=f->(∀ h,m≠2 ^ h)->hE T f l m true=hE T f l m false:=by
 intro f;induction f with
 |zero=>intro l m d g i c;omega
 |succ f k =>
  intro l m d g i c;obtain⟨a,j,p,q⟩:=sm (n:=L l) U;have o:L (l.take (2 ^ a))=2 ^ a:=Ϝ;have e:¬m=L l:=U;rw[pW T f l _ true,pW T f l _ false,κ e,κ e,j];by_cases b:m<=2 ^ a
  .have:=c a
   rw[μ b,μ b,k (l.take (2 ^ a)) m d U U c]
  .rw[κ b,κ b]
end
def Cu:∀ (h X r:Nat) (l:List (γ)),r<2 ^ h->r≠2 ^ h - 1->ja (X*2 ^ h+r) l=ja r l
 |0,X,r,l,h1,h2=>by simp at h1;omega
 |h+1,X,r,l,h1,h2=>by
  have b:0<2 ^ h:=kV ϐ;have e:X*2 ^ (h+1)=2*(X*2 ^ h):=by rw[jq,<-pz,ki]
  rw[jq]at h1 h2;rw[e];by_cases a:r % 2=1
  .rw[pg U,pg a,show(2*(X*2 ^ h)+r) / 2=X*2 ^ h+r / 2 from U]
   exact Cu h X _ _ U U
  .rw[pf U,pf a]
theorem CN {l:List (γ)} (c:γ) (h:2<=L l):kr (l++[c])=kr l++[c]:=by
 obtain⟨b,a,d,rfl⟩:=wN h;rfl
def IC (b:γ):∀ (r:Nat) (l:List (γ)),L l=pc r+1->ja r (l++[b])=ja r l++[b]:=by
 intro r;induction r using Nat.strongRecOn with
 |_ r d =>
  intro l e;by_cases a:r % 2=1
  .have f:=oJ r U
   have c:2<=L l:=U;rw[pg a,pg a,CN b c];exact d _ U _ (by rw[uN c];omega)
  .rw[pf a,pf a]
def Ao (h):(2 ^ (h+1) - 1) % 2=1/\(2 ^ (h+1) - 1) / 2=2 ^ h - 1:=by
 have a:0<2 ^ h:=kV ϐ;rw[jq];omega
theorem Cv (a:γ):∀ (h:Nat) (l:List (γ)),L l=h+1->ja (2 ^ (h+1) - 1) (l++[a])=kr (ja (2 ^ h - 1) l++[a])
 |0,l,hl=>by
  rw[pg ϐ,pf ϐ];show kr (l++[a])=kr (ja 0 l++[a]);rw[pf ϐ]
 |h+1,l,hl=>by
  obtain⟨o1,o2⟩:=Ao (h+1);obtain⟨p1,p2⟩:=Ao h;rw[pg o1,o2,CN a U,Cv a h (kr l) (by rw[uN U];omega),pg p1,p2]
def Ex:∀ h:Nat,pc (2 ^ h - 1)=h
 |0=>vm
 |h+1=>by
  obtain⟨o1,o2⟩:=Ao h;rw[oJ _ U,o1,o2,Ex h];omega
theorem Fq9 {b a:List (γ)}:∀ k,(∀ i,i<k->b.getD i []=a.getD i [])->ir b k=ir a k
 |0,_=>rfl
 |k+1,h=>by
  unfold ir;rw[h k U,Fq9 k fun i hi=>h i U]
def Ey:∀ h:Nat,pc (2 ^ h)=1
 |0=>by rw[oJ _ ϐ];simp[vm]
 |h+1=>by
  rw[oJ _ (kV ϐ),jq,show 2 ^ h*2 % 2=0 from U,show 2 ^ h*2 / 2=2 ^ h from U,Ey h]
def FT (d:List (γ)) (h):ir d (2 ^ h)=[iA (ir d (2 ^ h))]:=by
 have b:=rc d (2 ^ h);rw[Ey]at b;obtain⟨a,c⟩:=List.length_eq_one_iff.1 b;rw[c,qA]
def zO (a:List (γ)) (k i):(a.drop k).getD i []=a.getD (k+i) []:=by simp[fX]
theorem AU (b:List (γ)) (h):∀ r,r<2 ^ h->ir b (2 ^ h+r)=ir (b.drop (2 ^ h)) r++[iA (ir b (2 ^ h))]
 |0,_=>by
  rw[kG];exact FT b h
 |r+1,hr=>by
  have a:=AU b h r U;show ja (2 ^ h+r) (b.getD (2 ^ h+r) []::ir b (2 ^ h+r))=ja r ((b.drop (2 ^ h)).getD r []::ir (b.drop (2 ^ h)) r)++_;have:=Cu h 1 r (b.getD (2 ^ h+r) []::ir b (2 ^ h+r)) U U;rw[pF]at this;rw[this,a,zO,<-jW];exact IC _ r _ (by simp[rc])
theorem Qc (j:List (γ)) (h):ir j (2 ^ h+2 ^ h)=[iR (iA (ir j (2 ^ h))) (iA (ir (j.drop (2 ^ h)) (2 ^ h)))]:=by
 have i:0<2 ^ h:=kV ϐ;have f:=AU j h (2 ^ h - 1) U;have e:2 ^ h+2 ^ h=(2 ^ h+(2 ^ h - 1))+1:=U;have a:2 ^ h+(2 ^ h - 1)=2 ^ (h+1) - 1:=by rw[jq];omega
 have d:ja (2 ^ h - 1) ((j.drop (2 ^ h)).getD (2 ^ h - 1) []::ir (j.drop (2 ^ h)) (2 ^ h - 1))=ir (j.drop (2 ^ h)) (2 ^ h):=by
  obtain⟨q,c⟩:∃ q,2 ^ h=q+1:=⟨2 ^ h - 1,U⟩;rw[c];rfl
 rw[e];show ja (2 ^ h+(2 ^ h - 1)) (j.getD (2 ^ h+(2 ^ h - 1)) []::ir j (2 ^ h+(2 ^ h - 1)))=_;rw[f,<-zO,<-jW,a,Cv _ h _ (by simp[rc,Ex]),d];have b:=FT (j.drop (2 ^ h)) h;generalize iA (ir (j.drop _) _)=g at *;rw[b];rfl
def IV (c:γ):∀ (n:Nat) (l:List (γ)),L l=n->l≠[]->iA (l++[c])=iR c (iA l):=by
 intro n;induction n using Nat.strongRecOn with
 |_ n f =>
  intro l d e
  match l,d,e with
  |[a],d,e =>
   show iA [a,c]=_;rw[qA a,CM (l:=[a,c]) ύ];exact qA _
  |b::a::t,d,e =>
   show iA (b::a::(t++[c]))=_;rw[iA,iA,<-jW];exact f (L t+1) (by simp at d;omega) _ rfl ύ
def yb {ds:List (γ)} (h:0<L ds):Υ ds=iA (ir ds (L ds)):=by
 unfold Υ;rw[κ (by rintro rfl;simp at h)]
def Gl (a:γ):Υ [a]=a:=by
 rw[yb ύ];show iA (ja 0 ([a].getD 0 []::ir [a] 0))=a;rw[pf ϐ];exact qA a
def yd (p:List (γ)) (h:2<=L p):Υ p=iR (Υ (p.take (Τ (L p)))) (Υ (p.drop (Τ (L p)))):=by
 obtain⟨a,g,o,j⟩:=sm h;have l:0<2 ^ a:=kV ϐ;rw[jq]at j;have i:L (p.take (2 ^ a))=2 ^ a:=Ϝ;have e:L (p.drop (2 ^ a))=L p - 2 ^ a:=fT ..;rw[g,yb U,yb (ds:=p.take (2 ^ a)) U,yb (ds:=p.drop (2 ^ a)) U,i,e];have d:ir (p.take (2 ^ a)) (2 ^ a)=ir p (2 ^ a):=Fq9 _ fun m hi=>by simp[hi]
 rw[d];by_cases f:L p=2 ^ a+2 ^ a
 .rw[f,Qc,qA,qo]
 .have:=AU p a (L p - 2 ^ a) U
  rw[show 2 ^ a+(L p - 2 ^ a)=L p from U]at this;rw[this];refine IV _ _ _ rfl fun c=>?_;have b:=rc (p.drop (2 ^ a)) (L p - 2 ^ a);have k:=xu (n:=L p - 2 ^ a) U;rw[c]at b;simp at b;omega
def ie:Nat->List (γ)->Nat->List (γ)
 |0,_,_=>[]
 |f+1,l,i=>if L l<=1 then[]else
  if i<Τ (L l) then ie f (l.take (Τ (L l))) i++[Υ (l.drop (Τ (L l)))]
  else ie f (l.drop (Τ (L l))) (i - Τ (L l))++[Υ (l.take (Τ (L l)))]
def jK:Nat->Nat->Nat->List Bool
 |0,_,_=>[]
 |f+1,i,n=>if n<=1 then[]else
  if i<Τ n then jK f i (Τ n)++[false]else jK f (i - Τ n) (n - Τ n)++[true]
def lz:List Bool->List (γ)->γ->γ
 |s::ss,p::pp,d=>lz ss pp (if s then iR p d else iR d p)
 |_,_,d=>d
def zn:∀ (e:List Bool) (c:List (γ)) (s:Bool) (p d:γ),L e=L c->lz (e++[s]) (c++[p]) d=if s then iR p (lz e c d)else iR (lz e c d) p
 |[],[],s,p,d,_=>rfl
 |a::e,b::c,s,p,d,h=>by
  simp only[jW,lz];exact zn e c s p _ (by simpa using h)
 |[],_::_,s,p,d,h=>by simp at h
 |_::_,[],s,p,d,h=>by simp at h
def qO:∀ (f:Nat) (l:List (γ)) (i:Nat),L (ie f l i)=L (jK f i (L l))/\L (ie f l i)<=f
 |0,l,i=>⟨rfl,NZ⟩
 |f+1,l,i=>by
  unfold ie jK;split
  .exact⟨rfl,Ζ _⟩
  .obtain⟨c,d,e⟩:=tH (n:=L l) U
   split
   .obtain⟨a,b⟩:=qO f (l.take (Τ (L l))) i
    rw[gp,mi U]at a;simp only[σ,ϥ,gO];omega
   .obtain⟨a,b⟩:=qO f (l.drop (Τ (L l))) (i - Τ (L l))
    rw[fT]at a;simp only[σ,ϥ,gO];omega
def xt:∀ (f:Nat) (l:List (γ)) (i:Nat),i<L l->L l<=f->lz (jK f i (L l)) (ie f l i) (l.getD i [])=Υ l
 |0,l,i,h1,h2=>U
 |f+1,l,i,h1,h2=>by
  unfold ie jK;split
  .rename_i h
   obtain⟨a,rfl⟩:=List.length_eq_one_iff.1 (U:L l=1);obtain rfl:i=0:=by simpa using h1
   rw[Gl];rfl
  .obtain⟨g,j,k⟩:=tH (n:=L l) U
   have e:L (l.take (Τ (L l)))=Τ (L l):=Ϝ;have d:L (l.drop (Τ (L l)))=L l - Τ (L l):=fT ..;split
   .rename_i hi
    have b:=(qO f (l.take (Τ (L l))) i).1;have c:=xt f (l.take (Τ (L l))) i U U;rw[e]at b c;rw[zn _ _ _ _ _ b.symm,κ ϐ,yd l U,<-c]
    congr 2
    simp[hi]
   .rename_i hi
    have b:=(qO f (l.drop (Τ (L l))) (i - Τ (L l))).1;have c:=xt f (l.drop (Τ (L l))) (i - Τ (L l)) U U;rw[d]at b c;rw[zn _ _ _ _ _ b.symm,μ rfl,yd l U,<-c,zO,show Τ (L l)+(i - Τ (L l))=i from U]
def Bh (n:Nat) (w:β) (j:2<=n) (v:n<=1000000000):Calls prog 135 #[G n] w fun e w'=>e=ŗ (G ((Τ n:Nat):Int))/\w=w':=by
 have x:¬(n:Int)<2:=U;have y:¬(1099511627776:Int)<(n:Int):=U;go_enter func135,ntmps135;go_wp2;go_loop [3] (fun h=>∃ (K f a:Nat),h=G (K:Int)/\K<n/\1<=K/\Hid (K=2 ^ a/\n<=2 ^ (a+f)/\ra n f K=Τ n)) (fun h=>n - (intOf h).toNat)
 .exact⟨1,n,0,rfl,U,NZ,rfl,by simp;exact mC Nat.lt_two_pow_self,rfl⟩
 obtain⟨K,f,a,rfl,t,u,i⟩:=hrel;have r:IntKind.i64.wrap (2*(K:Int))=2*(K:Int):=Ϗ;have s:IntKind.i64.wrap ((K:Int)*2)=(K:Int)*2:=Ϗ;by_cases g:2*K<n
 .have q:2*(K:Int)<(n:Int):=U
  have k:Hid (∃ b,2*K=2 ^ (a+1)/\n<=2 ^ (a+1+b)/\ra n b (2*K)=Τ n):=by
   obtain⟨m,d,c⟩:=i.o;cases f with
   |zero=>simp at d;omega
   |succ b =>
    rw[ra,μ g]at c;exact⟨b,by rw[jq];omega,by rw[show a+1+b=a+(b+1)from U];exact d,c⟩
  go_wp2
  go_round
  .obtain⟨b,o,j,p⟩:=k.o
   exact⟨ _,b,_,ϕ,g,U,o,j,p⟩
  exact ω
 .have q:¬2*(K:Int)<(n:Int):=U
  have l:Hid (K=Τ n):=by
   obtain⟨m,d,c⟩:=i.o;show _=_;rw[<-c];cases f with
   |zero=>rfl
   |succ b=>rw[ra,κ g]
  go_wp2;go_ret;rw[<-l.o];exact⟨rfl,rfl⟩
def uE (l:List Bool):List ε:=l.map .bool
def uv (a:Nat) (w:β) (v:ε) (n:Nat) (l:List Bool):Prop:=L l=n/\w.ownsRow a 4 1 v n (uE l)
def KM:(prog.info? 4).map (fun i=>(i.zero,i.size,i.bytes))=J (J (.bool false),1,1):=ϋ
def BK (i n:Nat) (w:β) (e:Ending) (d:β):Prop:= ∃ b a c,e=ŗ (D b a c)/\uv w.heap.size d (D b a c) a (jK n i n).reverse/\Below w.heap.size w d
def Qu (k d:Nat) (w:β) (R:k<d) (af:d<=1000000):Calls prog 142 #[G k,G d] w (BK k d w):=by
 obtain⟨Q,I,M,N,P⟩:=Ϩ KM;go_enter func142,ntmps142;go_wp2;go_loopw [0,1,5] (fun S B o wr=>∃ (i n h f:Nat) (j:List Bool) (a:Option Addr) (c:Nat),S=G (i:Int)/\B=G (n:Int)/\o=D a h c/\i<n/\n<=f/\f<=d/\h+n<=d/\Hid (jK f i n++j.reverse=jK d k d)/\Hid (uv w.heap.size wr (D a h c) h j)/\BQ w wr) (fun _ B _ _=>(intOf B).toNat)
 .exact⟨k,d,0,d,[],O,0,rfl,rfl,rfl,R,NZ,NZ,U,by show _=_;simp,⟨rfl,gQ w _ _ 1⟩,ρ _ _⟩
 obtain⟨i,n,h,f,j,a,c,rfl,rfl,rfl,ad,ag,ac,ae,F,s,y⟩:=hrel;by_cases H:2<=n
 .have T:(1:Int)<(n:Int):=U
  obtain⟨Z,aa,ab⟩:=tH H;obtain⟨l,rfl⟩:∃ l,f=l+1:=⟨f - 1,U⟩;have X:=Zh (Bh n wr H U);have m:=F.o;rw[jK,κ U]at m;have t:∀ b:Bool,Hid ((å wr (C #[.bool b] 4)).ownsRow w.heap.size 4 1 (D a h c) h (uE j)):=fun b=>ψ s.o.2 (ġ);have u:∀ b:Bool,BQ w (å wr (C #[.bool b] 4)):=fun b=>y.al _;have ah:=y.size;by_cases A:i<Τ n
  .rw[μ A,gP]at m
   have v:Hid (jK l i (Τ n)++(j++[false]).reverse=jK d k d):=by show _=_;rw[<-m];simp
   generalize Τ n=K at *;have ai:(i:Int)<(K:Int):=U;go_wp2_with fail
   refine X.o.M ?_;rintro e W ⟨rfl,rfl⟩;go_wp2_with (at_builtin;go_loud (refine ϻ rfl _ _ _ _ rfl _ 4 Q _ 1 1 underlying245 I M N P rfl _ h _ (by rfl) (t false).o _ 1 [.bool false] (by rfl) (gh underlying245 wr _ 1 1 1 rfl ϗ) ώ U ό ?_;intro V E r z _ _;have x:=(u false).grown z (u false).size (fun g hg=>(Ϡ (t false).o g hg).1)))
   obtain⟨q,c2,rfl⟩:=Η r;have p:Hid (uv w.heap.size E (D q (h+1) c2) (h+1) (j++[false])):=⟨by simp[s.o.1],by simpa[uE] using r⟩;go_roundw
   .exact⟨i,K,_,l,_,q,c2,rfl,rfl,rfl,A,U,U,U,v.o,p.o,x⟩
   exact ω
  .rw[κ A,gP]at m
   have v:Hid (jK l (i - Τ n) (n - Τ n)++(j++[true]).reverse=jK d k d):=by show _=_;rw[<-m];simp
   generalize Τ n=K at *;have a0:IntKind.i64.wrap ((i:Int) - (K:Int))=((i - K:Nat):Int):=Ϗ;have Y:IntKind.i64.wrap ((n:Int) - (K:Int))=((n - K:Nat):Int):=Ϗ;go_wp2_with fail
   refine X.o.M ?_;rintro e W ⟨rfl,rfl⟩;go_wp2_with (at_builtin;go_loud (refine ϻ rfl _ _ _ _ rfl _ 4 Q _ 1 1 underlying245 I M N P rfl _ h _ (by rfl) (t true).o _ 1 [.bool true] (by rfl) (gh underlying245 wr _ 1 1 1 rfl ϗ) ώ U ό ?_;intro V E r z _ _;have x:=(u true).grown z (u true).size (fun g hg=>(Ϡ (t true).o g hg).1)))
   obtain⟨q,c2,rfl⟩:=Η r;have p:Hid (uv w.heap.size E (D q (h+1) c2) (h+1) (j++[true])):=⟨by simp[s.o.1],by simpa[uE] using r⟩;go_roundw
   .exact⟨ _,_,_,l,_,q,c2,ϕ,ϕ,rfl,U,U,U,U,v.o,p.o,x⟩
   exact ω
 .have T:¬(1:Int)<(n:Int):=U
  have m:j=(jK d k d).reverse:=by
   rw[<-F.o];cases f with
   |zero=>simp[jK]
   |succ l=>rw[jK,μ U];simp
  have p:Hid (uv w.heap.size wr (D a h c) h (jK d k d).reverse):=by rw[<-m];exact s.o
  go_wp2;go_ret;exact⟨a,h,c,rfl,p.o,y⟩
def wo (l:List (γ)) (w:β) (e:Ending) (d:β):Prop:= ∃ b a c,e=ŗ (.tuple #[D b a c,G 0])/\gf w.heap.size d (D b a c) a l/\Below w.heap.size w d
def Ot (base a k c) (l:List (γ)) (w:β) (b:gf base w (D a k c) k l) :
  Calls prog 137 #[D a k c] w fun e w'=>e=ŗ (.tuple #[])/\gf base w' (D a k c) k l.reverse/\Below base w w':=by
 by_cases m:k=0
 .subst m
  have n:l=[]:=kS b.1;subst n;refine(Tryz.slices_Reverse_string_empty a c w).M ?_;rintro e w' ⟨rfl,rfl⟩;exact⟨rfl,b,ρ _ _⟩
 .obtain⟨g,p,d⟩:=kO b.2 U
  simp only[Χ,ϵ]at d;obtain⟨rfl,rfl⟩:=d;have i:=b.2;have h:=b.1;have f:Holds encStr w g 0 l.toArray:=by
   obtain⟨s,r,d,_,_,_,_,_,f⟩:=yx (enc:=encStr)  i (by intro e;cases e);simp only[Χ,Φ,Addr.mk.injEq,it,ϵ]at d;rw[d.1];exact f
  have o:=b.rd.2.1;unfold maxLen at o;have j:=Tryz.slices_Reverse_string g 0 c l w f U;rw[h]at j;refine j.M ?_;rintro e w' ⟨rfl,q,rfl⟩;have o1:=yy (q:=q)  (ys:=l.reverse)  (enc:=encStr) i (by simpa using h) NZ;rw[gF ό]at o1;exact⟨rfl,⟨by simpa using h,o1⟩,Lib.below_putRow RZ (Ϡ i g rfl).1⟩
def qS {w:β} {b off c n i j} {l:List (γ)} (h:Rd w (D (J ⟨b,off,O⟩) n c) n 1 (χ l)) (y:i+j<=n) (c') (m:j<=c') (p:c'<=maxLen):Rd w (D (J ⟨b,off+i,O⟩) j c') j 1 (χ ((l.drop i).take j)):=by
 obtain⟨k,A,r⟩:=h;have z:L l=n:=by simpa[χ] using k
 refine⟨by simp[χ];omega,U,?_⟩;by_cases e:j=0
 .exact .inl ⟨_,c',by rw[e],e⟩
 .rcases r with ⟨u,f,d,g⟩|⟨v,E,f,d,g,B,x,o⟩
  .omega
  .simp only[Χ,Φ,Addr.mk.injEq,it,ϵ]at d
   obtain⟨⟨rfl,rfl⟩,rfl⟩:=d;refine .inr ⟨b,off+i,c',rfl,U,m,p,fun q t a=>?_⟩;have s:(χ l)[i+q]?=J t:=by
    simp only[χ,jP,iH,jr]at a ⊢;split at a
    .exact a
    .simp at a
   have:=o _ _ s;rw[<-iX]at this;exact this
def Gn (ao n0 c0) (ds:List (γ)) (k) (w:β) (aa:L ds=n0) (h:Rd w (D ao n0 c0) n0 1 (χ ds)) (Z:ϱ ds) (aj:k<n0) (aK:n0<=1000000) (an:Ϭ w) :
  Calls prog 78 #[D ao n0 c0,G k] w (wo (ie n0 ds k) w):=by
 have ad:=Zh (Be ao n0 c0 ds w aa h Z);obtain⟨-,-,⟨az,ag,T,aE⟩|⟨p,aw,ag,T,-,al,ai,-⟩⟩:=id h
 .omega
 simp only[Χ,ϵ]at T;obtain⟨rfl,rfl⟩:=T;unfold maxLen at ai;have⟨Y,af,ac⟩:=ϲ an h Z;have ak:¬(k:Int)<0:=U;have aG:=kE ak;have aH:¬n0<=k:=U;have ae:=Zh aa;go_enter func78,ntmps78;go_wp2_with fail
 refine ad.o.M ?_;rintro e aO ⟨rfl,rfl⟩;go_wp2;go_loopw [0,1,6] (fun V ap ax wr=>∃ (g n o f off c:Nat) (l m:List (γ)) (a:Option Addr) (c1:Nat),ap=G (g:Int)/\V=D (J ⟨p,off,O⟩) n c/\ax=D a o c1/\g<n/\n<=f/\f<=n0/\o+n<=n0/\n<=c/\c<=9223372036854775807/\Hid (L l=n/\ϱ l/\Rd w (D (J ⟨p,off,O⟩) n c) n 1 (χ l))/\Hid (ie f l g++m.reverse=ie n0 ds k)/\Hid (gf w.heap.size wr (D a o c1) o m)/\BQ w wr) (fun V _ _ _=>gn V)
 .exact⟨k,n0,0,n0,aw,c0,ds,_,O,0,rfl,rfl,rfl,aj,NZ,NZ,U,al,U,⟨ae.o,ac.o,af.o⟩,by show _=_;simp,gf.nil _ _,ρ _ _⟩
 obtain⟨g,n,o,f,off,c,l,m,a,c1,rfl,rfl,rfl,aI,aM,aF,aJ,aL,ah,b,a1,E,t⟩:=hrel;by_cases ab:2<=n
 .have av:(1:Int)<(n:Int):=U
  have X:=Zh (Bh n wr ab U);obtain⟨r,rfl⟩:∃ r,f=r+1:=⟨f - 1,U⟩;have v:=a1.o;rw[ie,b.o.1,κ U]at v;obtain⟨aB,aC,aD⟩:=tH ab;by_cases P:g<Τ n
  .rw[μ P,gP]at v
   generalize Τ n=K at *;have R:Rd w (D (J ⟨p,off,O⟩) K c) K 1 (χ (l.take K)):=by
    have:=qS (i:=0) (j:=K) b.o.2.2 U c U ώ;simpa using this
   have S:Rd w (D (J ⟨p,off+K,O⟩) (n - K) (c - K)) (n - K) 1 (χ (l.drop K)):=by
    have:=qS (i:=K) (j:=n - K) b.o.2.2 U (c - K) U ώ;rwa [gF (by rw[fT,b.o.1];omega)]at this
   have I:ϱ (l.take K):=fun d u=>b.o.2.1 d (mz u);have q:ϱ (l.drop K):=fun d u=>b.o.2.1 d (qu u);have B:Hid (L (l.take K)=K/\ϱ (l.take K)/\Rd w (D (J ⟨p,off,O⟩) K c) K 1 (χ (l.take K))):=⟨by rw[gp,b.o.1];omega,I,R⟩;have H:=Zh (Bg _ _ _ _ wr (by rw[fT,b.o.1]) (S.B t) q U (Y.o.B t));have W:Hid (ie r (l.take K) g++(m++[Υ (l.drop K)]).reverse=ie n0 ds k):=by show _=_;rw[<-v];simp
   have aN:(g:Int)<(K:Int):=U;have ar:(K:Int)<=(n:Int):=U;have aq:(K:Int)<=(c:Int):=U;have au:¬c=K:=U;generalize Υ _=A at *;go_wp2_with fail
   refine X.o.M ?_;rintro e x ⟨rfl,rfl⟩;go_wp2_with fail
   refine H.o.M ?_;rintro e x ⟨rfl,s⟩;have z:=t.t s;have F:=Zh ((E.o.B s).A (C #[š (δ A)] 9));go_wp2_with (at_builtin;go_loud (refine tP rfl _ _ rfl _ _ _ o 1 m _ (by rfl) F.o (by rfl) rfl (qR x _ _) U (by have:=z.size;simp;omega) ?_;intro q c2 ay Q N;have M:=(z.al _).trans N))
   have y:=Zh Q;go_roundw
   .exact⟨g,K,_,r,off,c,_,_,q,c2,rfl,rfl,rfl,P,U,U,U,U,ah,B.o,W.o,y.o,M⟩
   simp only[gn];omega
  .rw[κ P,gP]at v
   generalize Τ n=K at *;have R:Rd w (D (J ⟨p,off,O⟩) K c) K 1 (χ (l.take K)):=by
    have:=qS (i:=0) (j:=K) b.o.2.2 U c U ώ;simpa using this
   have S:Rd w (D (J ⟨p,off+K,O⟩) (n - K) (c - K)) (n - K) 1 (χ (l.drop K)):=by
    have:=qS (i:=K) (j:=n - K) b.o.2.2 U (c - K) U ώ;rwa [gF (by rw[fT,b.o.1];omega)]at this
   have I:ϱ (l.take K):=fun d u=>b.o.2.1 d (mz u);have q:ϱ (l.drop K):=fun d u=>b.o.2.1 d (qu u);have B:Hid (L (l.drop K)=n - K/\ϱ (l.drop K)/\Rd w (D (J ⟨p,off+K,O⟩) (n - K) (c - K)) (n - K) 1 (χ (l.drop K))):=⟨by rw[fT,b.o.1],q,S⟩;have H:=Zh (Bg _ K c _ wr (by rw[gp,b.o.1];omega) (R.B t) I U (Y.o.B t));have W:Hid (ie r (l.drop K) (g - K)++(m++[Υ (l.take K)]).reverse=ie n0 ds k):=by show _=_;rw[<-v];simp
   have ar:(K:Int)<=(n:Int):=U;have aq:(K:Int)<=(c:Int):=U;have au:¬c=K:=U;have aA:IntKind.i64.wrap ((g:Int) - (K:Int))=((g - K:Nat):Int):=Ϗ;generalize Υ _=A at *;go_wp2_with fail
   refine X.o.M ?_;rintro e x ⟨rfl,rfl⟩;go_wp2_with fail
   refine H.o.M ?_;rintro e x ⟨rfl,s⟩;have z:=t.t s;have F:=Zh ((E.o.B s).A (C #[š (δ A)] 9));go_wp2_with (at_builtin;go_loud (refine tP rfl _ _ rfl _ _ _ o 1 m _ (by rfl) F.o (by rfl) rfl (qR x _ _) U (by have:=z.size;simp;omega) ?_;intro q c2 ay Q N;have M:=(z.al _).trans N))
   have y:=Zh Q;go_roundw
   .exact⟨ _,_,_,r,_,_,_,_,q,c2,ϕ,rfl,rfl,U,U,U,U,U,U,B.o,W.o,y.o,M⟩
   simp only[gn];omega
 .have av:¬(1:Int)<(n:Int):=U
  have v:m.reverse=ie n0 ds k:=by
   rw[<-a1.o];cases f with
   |zero=>simp[ie]
   |succ r=>rw[ie,b.o.1,μ U];simp
  have a0:=Zh (Ot _ a o c1 m wr E.o);rw[v]at a0;go_wp2_with fail
  refine a0.o.M ?_;rintro e x ⟨rfl,am,s⟩;have y:=Zh am;go_wp2;go_ret2;exact⟨a,o,c1,rfl,y.o,t.trans s⟩
def Oe (n:Nat) (w:β) (k:2<=n) (o:n<=1099511627776):Calls prog 149 #[G n] w fun e w'=>e=ŗ (G (Τ n))/\BQ w w':=by
 have r:¬(n:Int)<2:=U;have s:¬(1099511627776:Int)<(n:Int):=U;go_enter func149,ntmps149;go_wp2;go_loopw [3] (fun c wr=>∃ a:Nat,c=G ((2 ^ a:Nat):Int)/\2 ^ a<n/\BQ w wr) (fun c _=>n - (intOf c).toNat)
 .exact⟨0,rfl,by omega,ρ _ _⟩
 obtain⟨a,rfl,g,d⟩:=hrel;have p:0<2 ^ a:=kV ϐ;have i:2 ^ (a+1)=2 ^ a*2:=jq ..;have f:=Zh (fun h=>AS g h);have q:=i;generalize l:2 ^ a=b at *;by_cases m:b*2<n
 .have j:(2:Int)*(b:Int)<(n:Int):=U
  go_wp2;go_roundw
  .exact⟨a+1,ϕ,U,d⟩
  exact ω
 .have j:¬(2:Int)*(b:Int)<(n:Int):=U
  have e:=f.o U;go_wp2;go_ret;exact⟨rfl,d⟩
inductive QT where
 |leaf (t:γ)
 |node (k:Int) (a b:QT)
def QT.steps:QT->List nt
 |.leaf t=>[(0,t)]
 |.node k a b=>a.steps++(b.steps++[(k,[])])
def QT.ok:QT->Prop
 |.leaf t=>iT t=true
 |.node k a b=>(k=1\/k=2\/k=3)/\a.ok/\b.ok
section
variable {α:Type} (find:γ->α) (op:Int->α->α->α)
def rV:List α->List nt->List α
 |st,[]=>st
 |st,(k,t)::r=>if k=0 then rV (find t::st) r else match st with
  |y::x::s=>rV (op k x y::s) r
  |_=>st
def QT.ev:QT->α
 |.leaf t=>find t
 |.node k a b=>op k a.ev b.ev
def pQ (d:α) (l:List nt):α:=(rV find op [] l).headD d
end
def Hc (w:β) (r:List Int) (e:Ending) (b:β):Prop:= ∃ a,e=ŗ (.tuple #[a,G 0])/\b.ownsRow w.heap.size 3 1 a (L r) (τ r)/\Below w.heap.size w b
