/- Part 6 of the proof. -/
import Derived.Test.YtpilfbcffofheaaGreatDoorm05
set_option linter.unusedVariables false
set_option linter.unusedSimpArgs false
set_option maxRecDepth 100000
set_option maxHeartbeats 4000000
namespace Go.Proofs.YtpilfbcffofheaaGreatDoor
open Go.RowKit Go.Sort Go.Proofs.Tryz
open List renaming length->L
open Option renaming none->O,some->J
open Value renaming string->š,agg->ā,pointer->þ,slice->D,int->ĭ
open Ending renaming returned->ŗ
open Obj renaming cells->C
open World renaming alloc->å,setCell->ŝ
section
open Go.RowKit Go.Sort Go.Maps
open Go.ChangeShapes (lits)
def gB (docs:List (γ)) (t:γ) (lo n:Nat):List Int:=((List.range' lo n).filter fun a:Nat=>decide (t∈Μ (docs.getD a []))).map fun a:Nat=>(a:Int)
theorem rV (ws:List (γ)):L (gd ws)<=L ws:=by
 have h:gd ws=Lib.compactUpTo (ws.mergeSort fun x y=>!ltStr y x).toArray (L (ws.mergeSort fun x y=>!ltStr y x)):=rfl;rw[h,Lib.compactUpTo,io];refine gh (List.length_filter_le _ _) ?_;rw[List.length_range,sE];exact NZ
def jr (docs:List (γ)) (lo n:Nat):List (γ):=(List.range' lo n).flatMap fun a=>gd (Μ (docs.getD a []))
def iN (docs:List (γ)) (lo n:Nat):List υ:=(gd (jr docs lo n)).map fun a=>(a,gB docs a lo n)
theorem xC (docs:List (γ)) (a:Nat) (b:∀ d∈docs,L d<=a):∀ (n lo:Nat),L (jr docs lo n)<=n*a
 |0,lo=>by simp[jr]
 |n+1,lo=>by
  have i:=xC docs a b n (lo+1);have c:jr docs lo (n+1)=gd (Μ (docs.getD lo []))++jr docs (lo+1) n:=by
   unfold jr;rw[List.range'_succ,lg]
  have e:L (docs.getD lo [])<=a:=by
   rw[fR];rcases ot lo (L docs) with h|h
   .rw[Ρ h];exact b _ (Χ h)
   .rw[kZ h];exact Ι _
  have f:=rV (Μ (docs.getD lo []));have g:=ud (docs.getD lo []);rw[c,ω,Nat.succ_mul];omega
theorem IN (docs:List (γ)) (t:γ) (lo n:Nat):gB docs t lo (n+1)=gB docs t lo n++(if t∈Μ (docs.getD (lo+n) [])then[((lo+n:Nat):Int)]else[]):=by
 unfold gB;rw[List.range'_concat,List.filter_append,ou,oZ]
 congr 1
 by_cases h:t∈Μ (docs.getD (lo+n) [])
 .rw[μ h,List.filter_cons_of_pos (by simpa using h)];rfl
 .rw[κ h,List.filter_cons_of_neg (by simpa using h)];rfl
theorem yA {docs:List (γ)} {t:γ} {lo n:Nat} {z:Int}:z∈gB docs t lo n↔∃ i:Nat,z=(i:Int)/\lo<=i/\i<lo+n/\t∈Μ (docs.getD i []):=by
 unfold gB;simp only[hI,sF,List.mem_range'_1,ia];constructor
 .rintro⟨i,⟨⟨a,b⟩,c⟩,rfl⟩;exact⟨i,rfl,a,b,c⟩
 .rintro⟨i,rfl,a,b,c⟩;exact⟨i,⟨⟨a,b⟩,c⟩,rfl⟩
theorem yK {docs:List (γ)} {t:γ} {lo n:Nat}:t∈jr docs lo n↔gB docs t lo n≠[]:=by
 rw[show(gB docs t lo n≠[])=∃ z,z∈gB docs t lo n from propext ⟨fun h=>List.exists_mem_of_ne_nil _ h,fun⟨z,a⟩ e=>by rw[e]at a;cases a⟩];unfold jr;simp only[List.mem_flatMap,List.mem_range'_1,mQ];constructor
 .rintro⟨b,⟨c,d⟩,f⟩;exact⟨(b:Int),yA.2 ⟨b,rfl,c,d,f⟩⟩
 .rintro⟨z,a⟩
  obtain⟨b,-,c,d,f⟩:=yA.1 a;exact⟨b,⟨c,d⟩,f⟩
theorem IL (docs:List (γ)) (t:γ) (lo n:Nat):L (gB docs t lo n)<=n:=by
 unfold gB;rw[io];exact gh (List.length_filter_le _ _) ύ
def vw (zs:List Int):DataW Unit:=if zs=[]then .nil else .slice (lits .i64 zs) []
def kH (b:DataW Unit) (F:γ->List Int):Prop:=IsMap b/\∀ a,b.atKey (.string a) .nil=vw (F a)/\Maps.has b (.string a)=decide (F a≠[])
theorem kH.start:kH (.map []) (fun _=>[]):=⟨isMap_empty,fun a=>⟨rfl,by simp[Maps.has]⟩⟩
theorem kH.congr {b:DataW Unit} {F a:γ->List Int} (h:kH b F) (hg:∀ t,F t=a t):kH b a:=by
 obtain rfl:F=a:=funext hg;exact h
theorem kH.put {a:DataW Unit} {F:γ->List Int} (h:kH a F) (s:γ) (x:Int):kH (a.put (.string s) (.slice (lits .i64 (F s++[x])) [])) (fun t=>if t=s then F s++[x]else F t):=by
 have b:∀ d:γ,WideAt.IsKeyLit (.string d):=fun _=>trivial;refine⟨h.1.put _ _,fun t=>?_⟩;by_cases e:t=s
 .subst e
  simp only[if_true];refine⟨?_,?_⟩
  .rw[atKey_put_same h.1 (b _)]
   unfold vw;rw[κ ύ]
  .rw[has_put_same h.1 (b _)];simp
 .have c:Lit.string t≠Lit.string s:=fun h=>e (by cases h;rfl)
  simp only[κ e];exact⟨by rw[atKey_put_other c];exact(h.2 t).1,by rw[has_put_other c];exact(h.2 t).2⟩
def mR (docs:List (γ)) (lo n j:Nat) (t:γ):List Int:=gB docs t lo n++(if t∈(gd (Μ (docs.getD (lo+n) []))).take j then[((lo+n:Nat):Int)]else[])
theorem Kb (docs:List (γ)) (lo n:Nat) (t:γ):mR docs lo n 0 t=gB docs t lo n:=by simp[mR]
theorem JZ (docs:List (γ)) (lo n j:Nat) (a:L (gd (Μ (docs.getD (lo+n) [])))<=j) (t:γ):mR docs lo n j t=gB docs t lo (n+1):=by
 unfold mR;rw[IN,gW a];simp only[mQ]
theorem DJ {l:List (γ)} (h:lR ltStr l):l.Nodup:=by
 refine h.imp ?_;rintro a b c rfl;simp[swo_ltStr.irrefl]at c
theorem Ka (docs:List (γ)) (lo n j:Nat) (s:γ) (d:j<L (gd (Μ (docs.getD (lo+n) [])))) (h:(gd (Μ (docs.getD (lo+n) [])))[j]=s) :
  mR docs lo n j s=gB docs s lo n/\∀ t,(if t=s then mR docs lo n j s++[((lo+n:Nat):Int)]else mR docs lo n j t)=mR docs lo n (j+1) t:=by
 have g:=DJ (rO (Μ (docs.getD (lo+n) [])));unfold mR;generalize gd (Μ (docs.getD (lo+n) []))=l at *;have c:l.take (j+1)=l.take j++[s]:=by rw[kD d,h]
 have b:s∉l.take j:=by
  intro f;have a:(l.take (j+1)).Nodup:=g.sublist (List.take_sublist _ _);rw[c]at a;exact(List.nodup_append.1 a).2.2 s f s ύ rfl
 refine⟨by rw[κ b,im],fun t=>?_⟩;rw[c];by_cases e:t=s
 .subst e
  rw[μ rfl,κ b,im,μ ύ]
 .rw[κ e]
  congr 1
  simp[e]
theorem Jr {d:DataW Unit} {F:γ->List Int} (h:kH d F) (j:∃ c,d=.map c/\c.Pairwise (fun p q=>p.1≠q.1)/\∀ p∈c,∃ x,p.1=.string x) {l e:List (γ)} (k:∀ t,t∈l↔F t≠[]) (m:e.Perm (strKeys d)) :
  e.mergeSort (fun x y=>decide (x<=y))=gd l:=by
 obtain⟨c,rfl,f,g⟩:=j;have n:(gd l).Perm (strKeys (.map c)):=perm_strKeys f g (DJ (rO l)) fun x=>by rw[mQ,k,(h.2 x).2,ia]
 rw[mergeSort_of_perm (m.trans n.symm)];refine List.mergeSort_of_pairwise ((rO l).imp ?_);intro a b i;simp only[ia];exact List.le_of_lt (by simpa[ltStr] using i)
end
theorem yI {a b:γ} (h:ltStr a b=false) (c:a≠b):ltStr b a=true:=by
 cases d:ltStr b a with
 |true=>rfl
 |false=>exact absurd (pJ _ _ h d) c
theorem tA:∀ {ds:List (List υ)},jR ds=O↔∀ d∈ds,d=[]
 |[]=>by simp[jR]
 |[]::r=>by
  rw[jR,tA];simp
 |(e::d)::r=>by
  rw[jR];constructor
  .intro h;split at h<;>cases h
  .intro h;exact absurd (h _ (ox ..)) ύ
theorem tB:∀ {ds:List (List υ)} {t:γ},jR ds=J t->(∃ e r,(e::r)∈ds/\e.1=t)/\∀ e r,(e::r)∈ds->ltStr e.1 t=false
 |[],t,h=>by simp[jR]at h
 |[]::q,t,h=>by
  rw[jR]at h;obtain⟨⟨e,r,i,j⟩,c⟩:=tB h;refine⟨⟨e,r,nI _ i,j⟩,fun a b hm=>?_⟩;rcases gP.1 hm with hm|hm
  .cases hm
  .exact c a b hm
 |(e::d)::q,t,h=>by
  rw[jR]at h;cases g:jR q with
  |none =>
   rw[g]at h;simp only[Ο]at h;subst h;refine⟨⟨e,d,ox ..,rfl⟩,fun a b hm=>?_⟩;rcases gP.1 hm with hm|hm
   .obtain⟨rfl,rfl⟩:=List.cons.inj hm
    exact swo_ltStr.irrefl _
   .have:=tA.1 g _ hm
    cases this
  |some l =>
   rw[g]at h;simp only[Ο]at h;obtain⟨⟨k,r1,i,j⟩,c⟩:=tB g;cases f:ltStr l e.1 with
   |true =>
    rw[f,μ rfl]at h;subst h;refine⟨⟨k,r1,nI _ i,j⟩,fun a b hm=>?_⟩;rcases gP.1 hm with hm|hm
    .obtain⟨rfl,rfl⟩:=List.cons.inj hm
     exact swo_ltStr.asymmA f
    .exact c a b hm
   |false =>
    rw[f,κ ϐ]at h;subst h;refine⟨⟨e,d,ox ..,rfl⟩,fun a b hm=>?_⟩;rcases gP.1 hm with hm|hm
    .obtain⟨rfl,rfl⟩:=List.cons.inj hm
     exact swo_ltStr.irrefl _
    .exact swo_ltStr.ntrans _ _ _ (c a b hm) f
theorem Kc {ds:List (List υ)} {t:γ} (c:∃ e r,(e::r)∈ds/\e.1=t) (i:∀ e r,(e::r)∈ds->ltStr e.1 t=false):jR ds=J t:=by
 cases h:jR ds with
 |none =>
  obtain⟨e,r,j,-⟩:=c;have:=tA.1 h _ j;cases this
 |some n =>
  obtain⟨⟨e,r,d,f⟩,g⟩:=tB h;obtain⟨m,r1,k,l⟩:=c;have a:=g _ _ k;have b:=i _ _ d;rw[l]at a;rw[f]at b;rw[pJ _ _ a b]
def jF (d:List υ) (t:γ):List Int:=match d with
 |[]=>[]
 |e::r=>if e.1=t then e.2++jF r t else jF r t
def kA (d:List υ):Prop:=lR ltStr (d.map (·.1))
theorem vx {d:List υ} {t:γ} (h:∀ e∈d,e.1≠t):jF d t=[]:=by
 induction d with
 |nil=>rfl
 |cons e r b=>rw[jF,κ (h e (ox ..)),b fun x a=>h x (nI _ a)]
theorem rN {e:υ} {d:List υ}:kA (e::d)↔(∀ x∈d,ltStr e.1 x.1=true)/\kA d:=by
 unfold kA lR;rw[iA,nK];simp
theorem vA {a b:γ} (h:ltStr a b=true):b≠a:=by
 rintro rfl;rw[swo_ltStr.irrefl]at h;cases h
theorem yG {e:υ} {d:List υ} (h:kA (e::d)):jF (e::d) e.1=e.2:=by
 rw[jF,μ rfl,vx fun x a=>vA ((rN.1 h).1 x a),im]
theorem CM {d:List υ} (h:kA d):∀ e∈d,jF d e.1=e.2:=by
 induction d with
 |nil=>intro e he;cases he
 |cons x r f =>
  intro e he;obtain⟨b,c⟩:=rN.1 h;rcases gP.1 he with rfl|he
  .exact yG h
  .rw[jF,κ (fun a=>vA (b e he) a.symm),f c e he]
theorem CN {d:List υ} (b:∀ e∈d,e.2≠[]) (t:γ):jF d t≠[]↔t∈d.map (·.1):=by
 induction d with
 |nil=>simp[jF]
 |cons e r a =>
  have a:=a fun x c=>b x (nI _ c);rw[jF,iA,gP];by_cases h:e.1=t
  .rw[μ h]
   have:=b e (ox ..);simp[h,this]
  .rw[κ h,a]
   simp[Ne.symm h]
theorem HP {a b:List υ} (c:kA a) (f:kA b) (l:∀ e∈a,e.2≠[]) (nb:∀ e∈b,e.2≠[]) (h:∀ t,jF a t=jF b t):a=b:=by
 have g:∀ {d:List υ},kA d->d=(d.map (·.1)).map fun t=>(t,jF d t):=by
  intro d i;rw[List.map_map]
  conv=>lhs;rw[<-List.map_id d]
  refine uq fun e j=>?_;simp only[id,Function.comp,CM i e j]
 have k:a.map (·.1)=b.map (·.1):=DK swo_ltStr c f fun t=>by rw[<-CN l,<-CN nb,h]
 rw[g c,g f,k];refine uq fun t _=>by rw[h]
def looks (ds:List (List υ)) (t:γ):List Int:=ds.flatMap fun d=>jF d t
theorem rl (t:γ) (x:υ) (r:List υ):jO t (x::r)=if x.1=t then r else x::r:=rfl
theorem BK {t:γ} {d:List υ} {e:υ} (h:e∈jO t d):e∈d:=by
 cases d with
 |nil=>cases h
 |cons x r =>
  rw[rl]at h;split at h
  .exact nI _ h
  .exact h
theorem HE {t:γ} {d:List υ} (h:kA d):kA (jO t d):=by
 cases d with
 |nil=>exact h
 |cons x r =>
  rw[rl];split
  .exact(rN.1 h).2
  .exact h
theorem HD {t:γ} {d:List υ} (h:kA d) (f:∀ e r,d=e::r->ltStr e.1 t=false):∀ e∈jO t d,ltStr t e.1=true:=by
 cases d with
 |nil=>intro e he;cases he
 |cons x r =>
  obtain⟨b,i⟩:=rN.1 h;have g:=f x r rfl;intro e he;rw[rl]at he;split at he
  .rename_i a
   rw[<-a];exact b e he
  .rename_i a
   have c:ltStr t x.1=true:=yI g a;rcases gP.1 he with rfl|he
   .exact c
   .exact swo_ltStr.trans _ _ _ c (b e he)
theorem yf {t:γ}:∀ {ds:List (List υ)},(∀ d∈ds,kA d)->(∀ e r,(e::r)∈ds->ltStr e.1 t=false)->kg t ds=looks ds t
 |[],_,_=>rfl
 |[]::q,h1,h2=>by
  rw[kg,yf (fun d b=>h1 d (nI _ b)) (fun e r c=>h2 e r (nI _ c))];rfl
 |(e::d)::q,h1,h2=>by
  have g:=yf (t:=t) (ds:=q) (fun d b=>h1 d (nI _ b)) (fun e r c=>h2 e r (nI _ c));have f:=h1 _ (ox ..);unfold looks at g ⊢;rw[kg,g,lg];split
  .rename_i a
   rw[<-a,yG f]
  .rename_i a
   rw[vx (d:=e::d) fun x hx=>?_]
   .rfl
   .have h:ltStr t e.1=true:=yI (h2 _ _ (ox ..)) a
    rcases gP.1 hx with rfl|hx
    .exact a
    .exact vA (swo_ltStr.trans _ _ _ h ((rN.1 f).1 x hx))
theorem JN {t u:γ} (a:u≠t) (d:List υ):jF (jO t d) u=jF d u:=by
 cases d with
 |nil=>rfl
 |cons x r =>
  rw[rl];split
  .rename_i b
   rw[jF,κ (fun e=>a (e.symm.trans b))]
  .rfl
theorem BJ (t:γ) (d:List υ):L (jO t d)<=L d:=by
 cases d with
 |nil=>exact NZ
 |cons x r=>rw[rl];split<;>simp
def iU (ds:List (List υ)):Nat:=(ds.map List.length).sum
theorem CF {d:List υ}:∀ {ds:List (List υ)},d∈ds->L d<=iU ds
 |[],h=>by cases h
 |x::q,h=>by
  unfold iU;simp only[iA,List.sum_cons];rcases gP.1 h with rfl|h
  .omega
  .have:=CF h
   unfold iU at this;omega
theorem yp {α c:Type} {f g:α->List c}:∀ {l:List α},(∀ x∈l,f x=g x)->l.flatMap f=l.flatMap g
 |[],_=>rfl
 |a::l,h=>by rw[lg,lg,h a (ox ..),yp fun x b=>h x (nI _ b)]
theorem EJ:∀ (f:Nat) (ds:List (List υ)),L (ji f ds)<=f
 |0,_=>NZ
 |f+1,ds=>by
  rw[ji];split
  .exact Ι _
  .exact Nat.succ_le_succ (EJ f _)
theorem EF (t:γ):∀ ds:List (List υ),iU (ds.map (jO t))<=iU ds
 |[]=>NZ
 |d::q=>by
  have:=EF t q;have:=BJ t d;unfold iU at *;simp only[iA,List.sum_cons];omega
theorem zB {t:γ}:∀ {ds:List (List υ)},(∃ e r,(e::r)∈ds/\e.1=t)->iU (ds.map (jO t))<iU ds
 |[],h=>by obtain⟨e,r,hm,-⟩:=h;cases hm
 |d::q,h=>by
  obtain⟨e,r,hm,a⟩:=h;rcases gP.1 hm with hm|hm
  .have:=EF t q
   subst hm;have b:jO t (e::r)=r:=by rw[rl,μ a]
   unfold iU at *;simp only[iA,List.sum_cons,b,Ϧ];omega
  .have:=zB ⟨e,r,hm,a⟩
   have:=BJ t d;unfold iU at *;simp only[iA,List.sum_cons];omega
theorem EK:∀ (f:Nat) (ds:List (List υ)),iU ds<=f->(∀ d∈ds,kA d)->(∀ d∈ds,∀ e∈d,e.2≠[]) ->
  kA (ji f ds)/\(∀ e∈ji f ds,e.2≠[]/\∃ d∈ds,∃ i∈d,i.1=e.1)/\∀ u,jF (ji f ds) u=looks ds u
 |0,ds,hf,hr,hn=>by
  have q:∀ d∈ds,d=[]:=by
   intro d b;have j:L d<=iU ds:=CF b;exact ko ϊ
  refine⟨List.Pairwise.nil,fun e he=>(by cases he),fun u=>?_⟩;have h:looks ds u=[]:=by
   unfold looks;rw[List.flatMap_eq_nil_iff];intro d b;rw[q d b];rfl
  rw[h];rfl
 |f+1,ds,hf,hr,hn=>by
  cases k:jR ds with
  |none =>
   have q:=tA.1 k;have l:ji (f+1) ds=[]:=by rw[ji,k]
   rw[l];refine⟨List.Pairwise.nil,fun e he=>(by cases he),fun u=>?_⟩;have h:looks ds u=[]:=by
    unfold looks;rw[List.flatMap_eq_nil_iff];intro d b;rw[q d b];rfl
   rw[h];rfl
  |some g =>
   obtain⟨w,t⟩:=tB k;have l:ji (f+1) ds=(g,kg g ds)::ji f (ds.map (jO g)):=by rw[ji,k]
   have F:=zB w;obtain⟨B,z,E⟩:=EK f (ds.map (jO g)) ϊ (fun d b=>by
    obtain⟨c,a,rfl⟩:=hI.1 b
    exact HE (hr c a)) (fun d b e he=>by
    obtain⟨c,a,rfl⟩:=hI.1 b
    exact hn c a e (BK he))
   have v:=yf hr t;have y:∀ e∈ji f (ds.map (jO g)),ltStr g e.1=true:=fun e he=>by
    obtain⟨-,d,b,i,m,n⟩:=z e he;obtain⟨c,a,rfl⟩:=hI.1 b;rw[<-n];exact HD (hr c a) (fun x r p=>t x r (p ▸ a)) i m
   rw[l];refine⟨rN.2 ⟨y,B⟩,fun e he=>?_,fun u=>?_⟩
   .rcases gP.1 he with rfl|he
    .obtain⟨s,r0,a,j⟩:=w
     refine⟨?_,_,a,s,ox ..,j⟩;rw[v];unfold looks;intro A;have h:=(List.flatMap_eq_nil_iff.1 A) _ a;rw[<-j,yG (hr _ a)]at h;exact hn _ a s (ox ..) h
    .obtain⟨a,d,b,i,m,n⟩:=z e he
     obtain⟨c,j,rfl⟩:=hI.1 b;exact⟨a,c,j,i,BK m,n⟩
   .rw[jF]
    by_cases o:g=u
    .subst o
     rw[μ rfl,vx fun x p=>vA (y x p),im,v]
    .rw[κ o,E]
     unfold looks;rw[List.flatMap_map];refine yp fun d _=>JN (fun e=>o e.symm) d
theorem vz (docs:List (γ)) (lo n:Nat):kA (iN docs lo n):=by
 unfold kA iN;rw[List.map_map];rw[show((fun e:υ=>e.1) ∘ fun a=>(a,gB docs a lo n))=id from rfl,List.map_id];exact rO _
theorem yJ (docs:List (γ)) (lo n:Nat):∀ e∈iN docs lo n,e.2≠[]:=by
 intro e a;unfold iN at a;obtain⟨c,b,rfl⟩:=hI.1 a;exact yK.1 (mQ.1 b)
theorem CP (docs:List (γ)) (lo n:Nat) (t:γ):jF (iN docs lo n) t=gB docs t lo n:=by
 by_cases h:t∈gd (jr docs lo n)
 .have g:(t,gB docs t lo n)∈iN docs lo n:=hI.2 ⟨t,h,rfl⟩
  exact CM (vz docs lo n) _ g
 .have d:gB docs t lo n=[]:=by
   cases f:gB docs t lo n with
   |nil=>rfl
   |cons a b=>exact absurd (mQ.2 (yK.2 (by rw[f];simp))) h
  rw[d];refine vx fun e c=>?_;unfold iN at c;obtain⟨j,i,rfl⟩:=hI.1 c;rintro rfl;exact h i
theorem IK (docs:List (γ)) (t:γ) (lo a b:Nat):gB docs t lo (a+b)=gB docs t lo a++gB docs t (lo+a) b:=by
 unfold gB;rw[<-ou,<-List.filter_append]
 congr 2
 have:=List.range'_append (s:=lo) (m:=a) (n:=b) (step:=1);rw[oZ]at this;exact this.symm
def hE:Nat->List (Nat×Nat)->Nat->Prop
 |lo,[],hi=>lo=hi
 |lo,p::r,hi=>p.1=lo/\p.1<p.2/\hE p.2 r hi
def Α (docs:List (γ)) (p:Nat×Nat):List υ:=iN docs p.1 (p.2 - p.1)
theorem oH:∀ {ps:List (Nat×Nat)} {lo hi:Nat},hE lo ps hi->lo<=hi
 |[],lo,hi,h=>Nat.le_of_eq h
 |p::r,lo,hi,h=>by
  obtain⟨b,c,a⟩:=h;have:=oH a;omega
theorem Bg (docs:List (γ)) (t:γ):∀ {ps:List (Nat×Nat)} {lo hi:Nat},hE lo ps hi->looks (ps.map (Α docs)) t=gB docs t lo (hi - lo)
 |[],lo,hi,h=>by
  obtain rfl:lo=hi:=h;rw[kE];rfl
 |p::r,lo,hi,h=>by
  obtain⟨rfl,c,a⟩:=h;have d:=oH a;have b:=Bg docs t a;unfold looks at *;rw[iA,lg,b];unfold Α;rw[CP,show hi - p.1=(p.2 - p.1)+(hi - p.2)by omega,IK,show p.1+(p.2 - p.1)=p.2 by omega]
theorem NI (docs:List (γ)) {ps:List (Nat×Nat)} {lo hi:Nat} (h:hE lo ps hi) (f:Nat) (j:iU (ps.map (Α docs))<=f):ji f (ps.map (Α docs))=iN docs lo (hi - lo):=by
 obtain⟨b,c,g⟩:=EK f (ps.map (Α docs)) j (fun d a=>by
  obtain⟨k,-,rfl⟩:=hI.1 a
  exact vz _ _ _) (fun d a=>by
  obtain⟨k,-,rfl⟩:=hI.1 a
  exact yJ _ _ _)
 refine HP b (vz _ _ _) (fun e i=>(c e i).1) (yJ _ _ _) fun l=>?_;rw[g,CP,Bg docs l h]
def gz (a:Nat->List υ) (p:Nat->Nat) (i:Nat):υ:=(a i).getD (p i) ([],[])
def ir (b:Nat->List υ) (p:Nat->Nat) (m:Nat):List (List υ):=(List.range m).map fun a=>(b a).drop (p a)
def sU (a:Nat->List υ) (p:Nat->Nat) (t:γ) (i:Nat):Prop:=p i<L (a i)/\(gz a p i).1=t
instance (D:Nat->List υ) (p:Nat->Nat) (t:γ) (i:Nat):Decidable (sU D p t i):=inferInstanceAs (Decidable (_/\_))
def qg (a:Nat->List υ) (p:Nat->Nat) (t:γ) (i:Nat):Nat:=if sU a p t i then p i+1 else p i
def jC (a:Nat->List υ) (p:Nat->Nat) (t:γ) (j i:Nat):Nat:=if i<j then qg a p t i else p i
theorem tj {a:Nat->List υ} {p:Nat->Nat} {i:Nat} (h:p i<L (a i)):(a i).drop (p i)=gz a p i::(a i).drop (p i+1):=by
 rw[mh h];unfold gz;rw[fR,Ρ h];rfl
theorem ve {a:Nat->List υ} {p:Nat->Nat} {i:Nat} (h:¬p i<L (a i)):(a i).drop (p i)=[]:=sw ϊ
theorem HF (a:Nat->List υ) (p:Nat->Nat) (t:γ) (i:Nat):(a i).drop (qg a p t i)=jO t ((a i).drop (p i)):=by
 unfold qg;by_cases h:p i<L (a i)
 .rw[tj h]
  by_cases b:(gz a p i).1=t
  .rw[μ ⟨h,b⟩,jO,μ b]
  .rw[κ (fun g=>b g.2),jO,κ b,tj h]
 .rw[κ (fun g=>h g.1),ve h];rfl
theorem LD (a:Nat->List υ) (p:Nat->Nat) (t:γ) (m:Nat):ir a (qg a p t) m=(ir a p m).map (jO t):=by
 unfold ir;rw[List.map_map];exact uq fun b _=>HF a p t b
theorem DE {b:Nat->List υ} {p:Nat->Nat} {m:Nat} {e:υ} {r:List υ}:(e::r)∈ir b p m↔∃ i,i<m/\p i<L (b i)/\e=gz b p i/\r=(b i).drop (p i+1):=by
 unfold ir;simp only[hI,pO];constructor
 .rintro⟨i,c,a⟩
  by_cases h:p i<L (b i)
  .rw[tj h]at a
   obtain⟨d,f⟩:=List.cons.inj a;exact⟨i,c,h,d.symm,f.symm⟩
  .rw[ve h]at a;cases a
 .rintro⟨i,c,a,rfl,rfl⟩
  exact⟨i,c,tj a⟩
theorem LF {a:Nat->List υ} {p q:Nat->Nat} {m:Nat} (h:∀ i,i<m->p i=q i):ir a p m=ir a q m:=by
 unfold ir;exact uq fun i hi=>by rw[h i (pO.1 hi)]
def iJ (b:Nat->List υ) (p:Nat->Nat) (j:Nat) (x:Int):Prop:=
 (x = -1/\∀ a,a<j->¬p a<L (b a))\/∃ c:Nat,x=(c:Int)/\c<j/\p c<L (b c)/\∀ a,a<j->p a<L (b a)->ltStr (gz b p a).1 (gz b p c).1=false
theorem iJ.zero (a:Nat->List υ) (p:Nat->Nat):iJ a p 0 (-1):=.inl ⟨rfl,fun b hi=>ϊ⟩
theorem iJ.skip {b:Nat->List υ} {p:Nat->Nat} {j:Nat} {x:Int} (h:iJ b p j x) (f:¬p j<L (b j)):iJ b p (j+1) x:=by
 rcases h with ⟨c,d⟩|⟨l,c,d,i,k⟩
 .refine .inl ⟨c,fun a hi=>?_⟩
  by_cases e:a=j
  .subst e;exact f
  .exact d a ϊ
 .refine .inr ⟨l,c,ϊ,i,fun a hi g=>?_⟩
  by_cases e:a=j
  .subst e;exact absurd g f
  .exact k a ϊ g
theorem iJ.first {a:Nat->List υ} {p:Nat->Nat} {j:Nat} (h:iJ a p j (-1)) (f:p j<L (a j)):iJ a p (j+1) (j:Int):=by
 rcases h with ⟨c,d⟩|⟨i,c,-,-,-⟩
 .refine .inr ⟨j,rfl,ϊ,f,fun b hi g=>?_⟩
  by_cases e:b=j
  .subst e;exact swo_ltStr.irrefl _
  .exact absurd g (d b ϊ)
 .omega
theorem iJ.less {a:Nat->List υ} {p:Nat->Nat} {j b:Nat} (h:iJ a p j (b:Int)) (g:p j<L (a j)) (i:ltStr (gz a p j).1 (gz a p b).1=true):iJ a p (j+1) (j:Int):=by
 rcases h with ⟨d,-⟩|⟨l,d,m,n,f⟩
 .omega
 .obtain rfl:b=l:=ϊ
  refine .inr ⟨j,rfl,ϊ,g,fun c hi k=>?_⟩;by_cases e:c=j
  .subst e;exact swo_ltStr.irrefl _
  .exact swo_ltStr.ntrans _ _ _ (f c ϊ k) (swo_ltStr.asymmA i)
theorem iJ.stay {b:Nat->List υ} {p:Nat->Nat} {j a:Nat} (h:iJ b p j (a:Int)) (i:ltStr (gz b p j).1 (gz b p a).1=false):iJ b p (j+1) (a:Int):=by
 rcases h with ⟨d,-⟩|⟨l,d,m,f,g⟩
 .omega
 .obtain rfl:a=l:=ϊ
  refine .inr ⟨a,rfl,ϊ,f,fun c hi k=>?_⟩;by_cases e:c=j
  .subst e;exact i
  .exact g c ϊ k
theorem iJ.form {c:Nat->List υ} {p:Nat->Nat} {j:Nat} {x:Int} (h:iJ c p j x):x = -1\/∃ a:Nat,x=(a:Int)/\a<j/\p a<L (c a):=by
 rcases h with ⟨b,-⟩|⟨a,b,d,e,-⟩
 .exact .inl b
 .exact .inr ⟨a,b,d,e⟩
theorem iJ.none {a:Nat->List υ} {p:Nat->Nat} {m:Nat} (h:iJ a p m (-1)):jR (ir a p m)=O:=by
 rcases h with ⟨-,c⟩|⟨g,f,-,-,-⟩
 .rw[tA]
  intro d b;unfold ir at b;obtain⟨e,hi,rfl⟩:=hI.1 b;exact ve (c e (pO.1 hi))
 .omega
theorem iJ.some {b:Nat->List υ} {p:Nat->Nat} {m a:Nat} (h:iJ b p m (a:Int)):jR (ir b p m)=J (gz b p a).1:=by
 rcases h with ⟨f,-⟩|⟨n,f,g,i,j⟩
 .omega
 .obtain rfl:a=n:=ϊ
  refine Kc ⟨_,_,DE.2 ⟨a,g,i,rfl,rfl⟩,rfl⟩ fun e r k=>?_;obtain⟨l,c,d,rfl,-⟩:=DE.1 k;exact j l c d
def jd (a:Nat->List υ) (p:Nat->Nat) (t:γ) (j:Nat):List Int:=kg t (ir a p j)
theorem ye (t:γ):∀ a b:List (List υ),kg t (a++b)=kg t a++kg t b
 |[],b=>rfl
 |[]::a,b=>by rw[kq,kg,kg,ye t a b]
 |(e::d)::a,b=>by
  rw[kq,kg,kg,ye t a b];split<;>simp
theorem HC (a:Nat->List υ) (p:Nat->Nat) (t:γ):jd a p t 0=[]:=rfl
theorem BI (a:Nat->List υ) (p:Nat->Nat) (t:γ) (j:Nat):jd a p t (j+1)=jd a p t j++(if sU a p t j then(gz a p j).2 else[]):=by
 unfold jd ir;rw[List.range_succ,ou,ye,iA,lf]
 congr 1
 by_cases h:p j<L (a j)
 .rw[tj h,kg]
  by_cases b:(gz a p j).1=t
  .rw[μ b,μ ⟨h,b⟩];simp[kg]
  .rw[κ b,κ (fun g=>b g.2)];rfl
 .rw[ve h,κ (fun g=>h g.1)];rfl
theorem yh {a:Nat->List υ} {p:Nat->Nat} {t:γ} {j:Nat} (h:p j<L (a j)) (b:(gz a p j).1=t):jd a p t (j+1)=jd a p t j++(gz a p j).2:=by rw[BI,μ ⟨h,b⟩]
theorem yg {a:Nat->List υ} {p:Nat->Nat} {t:γ} {j:Nat} (h:¬(p j<L (a j)/\(gz a p j).1=t)):jd a p t (j+1)=jd a p t j:=by rw[BI,κ (show ¬sU a p t j from h),im]
theorem BH (a:Nat->List υ) (p:Nat->Nat) (t:γ) (b:Nat) (c:∀ i,∀ e∈a i,L e.2<=b):∀ j,L (jd a p t j)<=j*b
 |0=>by simp[HC]
 |j+1=>by
  have d:=BH a p t b c j;rw[Nat.succ_mul];by_cases h:p j<L (a j)/\(gz a p j).1=t
  .rw[yh h.1 h.2,ω]
   have:L (gz a p j).2<=b:=by
    refine c j _ ?_;unfold gz;rw[fR,Ρ h.1];exact Χ h.1
   omega
  .rw[yg h];omega
theorem Gi (a:Nat->List υ) (p:Nat->Nat) (t:γ) (i:Nat):jC a p t 0 i=p i:=by simp[jC]
theorem AR (a:Nat->List υ) (p:Nat->Nat) (t:γ) (j:Nat):jC a p t j j=p j:=by simp[jC]
theorem AT {a:Nat->List υ} {p:Nat->Nat} {t:γ} {j:Nat} (h:p j<L (a j)) (c:(gz a p j).1=t) (i:Nat):jC a p t (j+1) i=if i=j then p j+1 else jC a p t j i:=by
 unfold jC;by_cases e:i=j
 .subst e
  rw[μ rfl,μ ϊ];unfold qg;rw[μ ⟨h,c⟩]
 .rw[κ e]
  by_cases b:i<j
  .rw[μ b,μ ϊ]
  .rw[κ b,κ ϊ]
theorem AS {a:Nat->List υ} {p:Nat->Nat} {t:γ} {j:Nat} (h:¬(p j<L (a j)/\(gz a p j).1=t)) (i:Nat):jC a p t (j+1) i=jC a p t j i:=by
 unfold jC;by_cases e:i=j
 .subst e
  rw[μ ϊ,κ ϊ];unfold qg;rw[κ (show ¬sU a p t i from h)]
 .by_cases b:i<j
  .rw[μ b,μ ϊ]
  .rw[κ b,κ ϊ]
theorem DD (a:Nat->List υ) (p:Nat->Nat) (t:γ) (m:Nat):ir a (jC a p t m) m=(ir a p m).map (jO t):=by
 rw[<-LD];exact LF fun b hi=>by unfold jC;rw[μ hi]
theorem NF {f:Nat} {ds:List (List υ)} (h:jR ds=O):ji f ds=[]:=by
 cases f with
 |zero=>rfl
 |succ f=>rw[ji,h]
theorem NG {f:Nat} {ds:List (List υ)} {t:γ} (h:jR ds=J t):ji (f+1) ds=(t,kg t ds)::ji f (ds.map (jO t)):=by rw[ji,h]
theorem Kd {ds:List (List υ)} {t:γ} (h:jR ds=J t):iU (ds.map (jO t))<iU ds:=zB (tB h).1
def oR (l:γ):γ:=(Μ l).headD []
theorem Nr (v:ε) (l:γ) (w:β) (r:Ϩ w) (h:Rd w v (L l) 1 (η l)) (p:L l<=100000) :
  Calls prog 161 #[v] w fun e w'=>e=ŗ (š (δ (oR l)))/\Below w.heap.size w w':=by
 have i:=zz v l w r h p;have y:=ud l;have m:oR l=(Μ l).headD []:=rfl;generalize Μ l=a at *;have g:=Zh i;have f:=Zh m;clear i m h;cases a with
 |nil =>
  go_enter func161,ntmps161;go_wp2_with (go_at_call 199;refine g.o.mono ?_;rintro e t ⟨s,rfl,c,d⟩;obtain⟨u,c1,rfl⟩:=Θ c)
  go_ret;exact⟨by rw[f.o];rfl,d⟩
 |cons b a =>
  have A:((L (b::a):Int)==0)=false:=gl.2 (by simp only[Ϧ];omega);have z:(0:Int)<(L (b::a):Int):=by simp only[Ϧ];omega
  have o:Hid (σ (b::a)=š (δ b)::σ a):=rfl;generalize k:L (b::a)=n at *;have q:0<n:=by simp only[Ϧ]at k;omega
  clear k;go_enter func161,ntmps161;go_wp2_with (go_at_call 199;refine g.o.mono ?_;rintro e t ⟨s,rfl,c,d⟩;obtain⟨x,c1,rfl⟩:=kz c q;have j:=c.cellAt 0 ϊ;rw[o.o]at j;simp only[oo]at j)
  go_ret;exact⟨by rw[f.o];rfl,d⟩
structure El where
 kind:Int
 pos:Int
 term:γ
def kx (l:List El):List ε:=l.flatMap fun s=>[IZ s.kind,IZ s.pos,š (δ s.term)]
theorem yj (xs ys:List El):kx (xs++ys)=kx xs++kx ys:=by simp[kx]
theorem Cn:(prog.info? 177).map (fun i=>(i.zero,i.size,i.bytes))=J (J (ā #[IZ 0,IZ 0,š ByteArray.empty]),3,32):=ϋ
theorem lx {P:Program} {ops:Array Oper} {o:Oper} {a:Act} {w:β} {K:Act->β->Prop} {Q:Exit->Act->β->Prop} {f:Prop}
  (hg:o.guard=O) (s x:Operand) (t tx:TypeId) (u:o.op=Op.call {callee:=Callee.builtin Builtin.append,args:= #[s,x],argTypes:= #[t,tx]})
  (base:Nat) (e:TypeId) (i:TypeInfo) (z:ε) (size bytes:Nat) (G:P.underlying t=J (.slice e)) (hi:P.info? e=J i) (M:i.zero=J z)
  (E:i.size=size) (q:i.bytes=bytes) (N:z.cells.size=size)
  (v:ε) (n:Nat) (xs:List ε) (B:a.eval s=v) (y:w.ownsRow base e size v n xs)
  (d:ε) (m:Nat) (c:List ε) (I:a.eval x=d) (F:Src P size tx d m c w)
  (k:n+m<=maxLen) (r:(n+m)*bytes<=140737488355328) (p:base<=w.heap.size)
  (l:∀ b w',w'.ownsRow base e size b (n+m) (xs++c)->w.grownBy w' v.ownBlock->(b.ownBlock=v.ownBlock\/b.ownBlock=J w.heap.size)->K (a.put o.dst b) w') :
  if Region.wanted o (yielded ops a.tmps)=true then Oper.wp P o a w K Q else f:=by
 have H:Region.wanted o (yielded ops a.tmps)=true:=by simp[Region.wanted,hg]
 rw[μ H];obtain⟨b,w',A,g,h,j,R⟩:=wb (P:=P) w base t tx o.type e i z size bytes G hi M E q N v n xs y d m c F k r p;unfold Oper.wp execOp;simp only[u,resolve,invoke,builtin,Sem.run_bind,Sem.run_pure,pN,qP,iA,lf,B,I,A];exact l b w' g h j
structure EM (w:β) (B:Nat) (v l:ε) (pos st:Int):Prop where
 b0:w.heap[B]?=J (C #[v] 31 (0,0))
 b1:w.heap[B+1]?=J (C #[l] 171 (0,0))
 b2:w.heap[B+1+1]?=J (C #[IZ pos] 3 (0,0))
 b3:w.heap[B+1+1+1]?=J (C #[IZ st] 3 (0,0))
theorem EM.below {w w':β} {b:Nat} {v l:ε} {pos c:Int} (h:EM w b v l pos c) (a:Below w.heap.size w w'):EM w' b v l pos c:=
 ⟨by rw[a.block _ (ο h.b0)];exact h.b0,by rw[a.block _ (ο h.b1)];exact h.b1,by rw[a.block _ (ο h.b2)];exact h.b2,by rw[a.block _ (ο h.b3)];exact h.b3⟩
theorem EM.alloc {w:β} {a:Nat} {v l:ε} {pos b:Int} (h:EM w a v l pos b) (o:Obj):EM (å w o) a v l pos b:=h.below (RZ.alloc NZ o)
theorem EM.grown {w w':β} {i base:Nat} {v l u:ε} {pos j:Int} {n:Nat} {xs:List ε} (h:EM w i v l pos j) (m:w.ownsRow base 177 3 u n xs) (hg:w.grownBy w' u.ownBlock):EM w' i v l pos j:=by
 have c:∀ (b:Nat) (f:Array ε) (d:TypeId),d≠177->w.heap[b]?=J (Obj.cells f d (0,0))->w'.heap[b]?=J (Obj.cells f d (0,0)):=by
  intro b f d o a;rw[hg.block b (ο a) (fun e=>?_)]
  .exact a
  .rcases m.2 with ⟨rfl,_⟩|⟨g,p,cur,rfl,_,k,_⟩
   .simp[Value.ownBlock]at e
   .simp only[Value.ownBlock,Ο]at e
    subst e;rw[k]at a;simp only[Ο,Obj.cells.injEq]at a;exact o a.2.1.symm
 exact⟨c _ _ _ ϐ h.b0,c _ _ _ ϐ h.b1,c _ _ _ ϐ h.b2,c _ _ _ ϐ h.b3⟩
theorem EM.set1 {w:β} {a:Nat} {v l:ε} {pos c:Int} (h:EM w a v l pos c) (b:ε):EM (ŝ w ⟨a+1,0,O⟩ b) a v b pos c:=
 ⟨by rw[mI _ _ _ _ ϑ];exact h.b0,one_setCell h.b1,by rw[mI _ _ _ _ ϑ];exact h.b2,by rw[mI _ _ _ _ ϑ];exact h.b3⟩
theorem EM.set2 {w:β} {a:Nat} {v l:ε} {pos b:Int} (h:EM w a v l pos b) (q:Int):EM (ŝ w ⟨a+1+1,0,O⟩ (IZ q)) a v l q b:=
 ⟨by rw[mI _ _ _ _ ϑ];exact h.b0,by rw[mI _ _ _ _ ϑ];exact h.b1,one_setCell h.b2,by rw[mI _ _ _ _ ϑ];exact h.b3⟩
theorem EM.set3 {w:β} {a:Nat} {v l:ε} {pos b:Int} (h:EM w a v l pos b) (q:Int):EM (ŝ w ⟨a+1+1+1,0,O⟩ (IZ q)) a v l pos q:=
 ⟨by rw[mI _ _ _ _ ϑ];exact h.b0,by rw[mI _ _ _ _ ϑ];exact h.b1,by rw[mI _ _ _ _ ϑ];exact h.b2,one_setCell h.b3⟩
theorem EM.own_ne {w:β} {f base:Nat} {v l u:ε} {pos q:Int} {n:Nat} {xs:List ε} (h:EM w f v l pos q) (o:w.ownsRow base 177 3 u n xs) (j:Nat) (m:j<=3):u.ownBlock≠J (f+j):=by
 have a:∀ (c:Nat) (i:Array ε) (d:TypeId),d≠177->w.heap[c]?=J (Obj.cells i d (0,0))->u.ownBlock≠J c:=by
  intro c i d p b e;rcases o.2 with ⟨rfl,_⟩|⟨g,r,cur,rfl,_,k,_⟩
  .simp[Value.ownBlock]at e
  .simp only[Value.ownBlock,Ο]at e
   subst e;rw[k]at b;simp only[Ο,Obj.cells.injEq]at b;exact p b.2.1.symm
 match j,m with
 |0,_=>exact a _ _ _ ϐ h.b0
 |1,_=>exact a _ _ _ ϐ h.b1
 |2,_=>exact a _ _ _ ϐ h.b2
 |3,_=>exact a _ _ _ ϐ h.b3
theorem Ih (a:Nat) (v l:ε) (pos b:Int) (w:β) (h:EM w a v l pos b) (d:b<0) :
  Calls prog 160 #[þ (J ⟨a+1+1+1,0,O⟩),þ (J ⟨a+1,0,O⟩),þ (J ⟨a,0,O⟩),þ (J ⟨a+1+1,0,O⟩)] w fun e w'=>e=ŗ (.tuple #[])/\w=w':=by
 have c:=gZ h.b3;clear h;go_enter func160,ntmps160;go_wp2
 go_end0
 exact⟨rfl,rfl⟩
structure gp (B:Nat) (w w':β):Prop where
 os:w'.os=w.os
 tape:w'.tape=w.tape
 output:w'.output=w.output
 size:w.heap.size<=w'.heap.size
 low:∀ k,k<B->w'.heap[k]?=w.heap[k]?
 high:∀ k o,B+3<k->w.heap[k]?=J o->(∀ cs fr,o≠C cs 177 fr)->w'.heap[k]?=J o
theorem gp.refl (a:Nat) (w:β):gp a w w:=⟨rfl,rfl,rfl,NZ,fun _ _=>rfl,fun _ _ _ h _=>h⟩
theorem gp.trans {e:Nat} {a b c:β} (h:gp e a b) (k:gp e b c):gp e a c:=
 ⟨k.os.trans h.os,k.tape.trans h.tape,k.output.trans h.output,gh h.size k.size,fun d hi=>(k.low d hi).trans (h.low d hi),fun d o hi g f=>k.high d o hi (h.high d o hi g f) f⟩
theorem gp.of_below {b:Nat} {w w':β} (h:Below w.heap.size w w') (d:b<=w.heap.size):gp b w w':=
 ⟨h.os,h.tape,h.output,h.size,fun a e=>h.block a ϊ,fun a o _ c _=>by rw[h.block a (ο c)];exact c⟩
theorem gp.below {a:Nat} {w w':β} (h:gp a w w'):Below a w w':=⟨h.os,h.tape,h.output,h.size,h.low⟩
theorem gp.set {a j:Nat} (w:β) (u:ε) (e:a<=j) (f:j<=a+3):gp a w (ŝ w ⟨j,0,O⟩ u):=
 ⟨rfl,rfl,rfl,by simp[World.setCell],fun d b=>mI _ _ _ _ ϑ,fun d o b c _=>by rw[mI _ _ _ _ ϑ];exact c⟩
theorem gp.grown {c:Nat} {w w':β} {v:ε} {n:Nat} {xs:List ε} (d:w.ownsRow c 177 3 v n xs) (h:w.grownBy w' v.ownBlock) (k:c<=w.heap.size):gp c w w':=by
 refine⟨h.os,h.tape,h.output,h.size,fun b f=>?_,fun b o f a i=>?_⟩
 .refine h.block b ϊ (fun e=>?_)
  have:=(d.lt b e.symm).1;omega
 .rw[h.block b (ο a) (fun e=>?_)]
  .exact a
  .rcases d.2 with ⟨rfl,_⟩|⟨g,j,cur,rfl,_,hg,_⟩
   .simp[Value.ownBlock]at e
   .simp only[Value.ownBlock,Ο]at e
    subst e;rw[hg]at a;exact i cur (0,0) (kF a).symm
def uy (a:Nat) (v:ε) (b:List El) (pos:Int) (w:β) (e:Ending) (w':β):Prop:=
 e=ŗ (.tuple #[])/\∃ c,EM w' a v c pos (-1)/\w'.ownsRow a 177 3 c (L b) (kx b)/\gp a w w'
theorem Ii (b j o n c:Nat) (l:ε) (k:List El) (q:γ) (s p:Nat) (w:β) (ac:Ϩ w) (h:EM w b (D (J ⟨j,o,O⟩) n c) l p s) (ai:b+3<w.heap.size)
  (ab:w.ownsRow b 177 3 l (L k) (kx k)) (u:∀ i (hi:i<L q),w.cell? ⟨j,o+i,O⟩=J (ĭ .u8 (ch q[i]))) (aj:j<b) (al:L q=n) (an:n<=c) (aa:c<=maxLen) (ap:s<p) (ao:p<=n) (am:n<=100000) (ak:L k<=100000) :
  Calls prog 160 #[þ (J ⟨b+1+1+1,0,O⟩),þ (J ⟨b+1,0,O⟩),þ (J ⟨b,0,O⟩),þ (J ⟨b+1+1,0,O⟩)] w (uy b (D (J ⟨j,o,O⟩) n c) (k++[⟨-1,s,oR ((q.drop s).take (p - s))⟩]) p w):=by
 obtain⟨ag,hi,ad,ae,af⟩:=ϯ Cn;unfold maxLen at aa;have c0:=gZ h.b0;have c1:=gZ h.b1;have c2:=gZ h.b2;have U:=gZ h.b3;have au:(0:Int)<=(s:Int):=ϊ;have av:(s:Int)<=(p:Int):=ϊ;have aw:(p:Int)<=(c:Int):=ϊ;have ax:¬c=s:=ϊ;have ay:s<=p:=ϊ;have az:p<=c:=ϊ;have X:Hid (∀ g,Below w.heap.size w g->Calls prog 161 #[D (J ⟨j,o+s,O⟩) (p - s) (c - s)] g fun e d=>e=ŗ (š (δ (oR ((q.drop s).take (p - s)))))/\Below g.heap.size g d):=by
  intro g Q;refine Nr _ ((q.drop s).take (p - s)) g (ac.below Q) ?_ ό;have H:L ((q.drop s).take (p - s))=p - s:=ό;rw[H];refine⟨by rw[oE,H];omega,ώ,.inr ⟨j,o+s,c - s,rfl,ϊ,ϊ,ώ,fun i aA S=>?_⟩⟩;have hi:i<p - s:=by rw[<-H,<-oE];exact(lN.1 S).1
  have N:=u (s+i) ϊ;rw[iW,Q.cell (ib w _ N),N,<-S];simp only[η,jK];rw[ul hi,jo,Ρ ϊ];rfl
 go_enter func160,ntmps160;go_wp2_with fail
 have P:∀ d,Below w.heap.size w d->(fun d:β=>d.cell? ⟨b,0,O⟩=J (D (J ⟨j,o,O⟩) n c)/\d.cell? ⟨b+1,0,O⟩=J l/\d.cell? ⟨b+1+1,0,O⟩=J (IZ p)/\d.cell? ⟨b+1+1+1,0,O⟩=J (IZ s)) d:=
  fun d u=>⟨ζ u c0,ζ u c1,ζ u c2,ζ u U⟩
 have m:=Zh P;clear P;refine ϸ (fun d:β=>d.cell? ⟨b,0,O⟩=J (D (J ⟨j,o,O⟩) n c)/\d.cell? ⟨b+1,0,O⟩=J l/\d.cell? ⟨b+1+1,0,O⟩=J (IZ p)/\d.cell? ⟨b+1+1+1,0,O⟩=J (IZ s)) 10 ϋ ?_;refine lD (fuel:=10) 0 l rfl ϋ ϋ ϋ ϋ (fun _ _ _ h=>h) (by rfl) ?_ (m.o _ RZ.drew) ?_
 .rintro g ⟨z,A,B,E⟩
  go_simp
 refine lD (fuel:=9) 1 (IZ s) rfl ϋ ϋ ϋ ϋ (fun _ _ _ h=>h) (by rfl) ?_ (m.o _ RZ.drew) ?_
 .rintro g ⟨z,A,B,E⟩
  go_simp
 refine lD (fuel:=8) 2 (D (J ⟨j,o,O⟩) n c) rfl ϋ ϋ ϋ ϋ (fun _ _ _ h=>h) (by rfl) ?_ (m.o _ RZ.drew) ?_
 .rintro g ⟨z,A,B,E⟩
  go_simp
 refine lD (fuel:=7) 3 (IZ s) rfl ϋ ϋ ϋ ϋ (fun _ _ _ h=>h) (by rfl) ?_ (m.o _ RZ.drew) ?_
 .rintro g ⟨z,A,B,E⟩
  go_simp
 refine lD (fuel:=6) 4 (IZ p) rfl ϋ ϋ ϋ ϋ (fun _ _ _ h=>h) (by rfl) ?_ (m.o _ RZ.drew) ?_
 .rintro g ⟨z,A,B,E⟩
  go_simp
 refine Ψ (fuel:=5) 5 ϋ rfl ?_;intro K f;go_simp;refine f _ _ (m.o _ RZ.drew) ?_;clear f K;refine Ψ (fuel:=4) 6 ϋ rfl ?_;intro K f;go_simp;refine(X.o _ RZ.drew).mono ?_;rintro e T ⟨rfl,Y⟩;have t:Below w.heap.size w T:=(RZ.drew).trans Y;go_simp;refine f _ _ (m.o _ t) ?_;clear f K;refine Ψ (fuel:=3) 7 ϋ rfl ?_;intro K f;go_simp;refine f _ _ (m.o _ t) ?_;clear f K;have I:=Υ ab t;have Z:=t.size;refine Ψ (fuel:=2) 8 ϋ rfl ?_;intro K f;go_simp;refine f _ _ (m.o _ (t.alloc Z _)) ?_;clear f K;refine Ψ (fuel:=1) 9 ϋ rfl ?_;intro K f;refine lx (by rfl) (.tmp 6) (.tmp 14) _ _ (by rfl) b 177 ag _ 3 32 sz hi ad ae af rfl l (L k) _ (by rfl) (I.alloc _) _ 1 [IZ (-1),IZ s,š (δ (oR ((q.drop s).take (p - s))))] (by rfl) (ig sz T _ 3 1 1 rfl ϙ) ώ ϊ ό ?_;intro l2 F M G _;have r:=((h.below t).alloc _).grown (I.alloc _) G;have V:gp b w F:=((gp.of_below t ϊ).trans (gp.of_below (ġ) ϊ)).trans (gp.grown (I.alloc _) G ό);obtain⟨v,x,rfl⟩:=Θ M;refine f _ _ (⟨gZ r.b0,gZ r.b1,gZ r.b2,gZ r.b3⟩) ?_;clear f K G;have f1:=jz r.b1;have aq:=gZ r.b1;refine Zl ?_;refine Zd ?_;have y:EM (ŝ F ⟨b+1,0,O⟩ (D v (L k+1) x)) b (D (J ⟨j,o,O⟩) n c) (D v (L k+1) x) p s:=r.set1 _;have R:=mi M (a:=⟨b+1,0,O⟩) (r.own_ne M 1 ϊ) (D v (L k+1) x);have W:=V.trans (gp.set F (D v (L k+1) x) (ϊ:b<=b+1) ϊ);have f3:=jz y.b3;have ar:=gZ y.b3;generalize ŝ F ⟨b+1,0,O⟩ (D v (L k+1) x)=ah at *;go_wp2
 go_end0
 refine⟨rfl,_,y.set3 _,?_,W.trans (gp.set ah _ (ϊ:b<=b+3) ϊ)⟩;have:=mi R (a:=⟨b+1+1+1,0,O⟩) (y.own_ne R 3 ϊ) (IZ (-1));rw[ω,yj];exact this
def MB (c:Int):Bool:=c==40||c==41||c==124||c==38||c==33
def flush (b:γ) (a:Int) (pos:Nat) (c:List El):List El:=if a<0 then c else c++[⟨-1,a,oR ((b.drop a.toNat).take (pos - a.toNat))⟩]
def pt (b:γ):Nat->Int->List El->List Int->List El
 |pos,st,acc,[]=>flush b st pos acc++[⟨-2,L b,[]⟩]
 |pos,st,acc,c::r =>
  if gK c=true then pt b (pos+L (enc c)) (if st<0 then pos else st) acc r
  else if c=32 then pt b (pos+1) (-1) (flush b st pos acc) r
  else if MB c=true then pt b (pos+1) (-1) (flush b st pos acc++[⟨c,pos,[]⟩]) r
  else flush b st pos acc++[⟨-3,pos,[]⟩]
def tk (b:γ):List El:=pt b 0 (-1) [] (gc b)
theorem Ca (b:γ) (c:Int) (pos:Nat) (a:List El):L (flush b c pos a)<=L a+1:=by
 unfold flush;split<;>simp
theorem BZ (a:Nat) (v l:ε) (f:List El) (b:γ) (g:Int) (p:Nat) (w:β) (A:Ϩ w) (h:EM w a v l p g) (o:a+3<w.heap.size)
  (i:w.ownsRow a 177 3 l (L f) (kx f)) (x:Rd w v (L b) 1 (η b)) (q:∀ d off n c,v=D (J ⟨d,off,O⟩) n c->0<n->d<a) (z:g = -1\/∃ s:Nat,g=s/\s<p) (u:p<=L b) (t:L b<=100000) (r:L f<=100000) :
  Calls prog 160 #[þ (J ⟨a+1+1+1,0,O⟩),þ (J ⟨a+1,0,O⟩),þ (J ⟨a,0,O⟩),þ (J ⟨a+1+1,0,O⟩)] w (uy a v (flush b g p f) p w):=by
 rcases z with rfl|⟨s,rfl,y⟩
 .refine(Ih a v l p (-1) w h ϊ).mono ?_
  rintro e B ⟨rfl,rfl⟩;exact⟨rfl,l,h,by unfold flush;rw[μ ϊ];exact i,gp.refl _ _⟩
 .obtain⟨d,off,c,rfl,j,k,m⟩:=AU x ϊ
  have:=Ii a d off (L b) c l f b s p w A h o i m (q d off _ c rfl ϊ) rfl j k y u t r;unfold flush;rw[κ ϊ];exact this
theorem HJ (w:β) (v:ε):EM (å (å (å (å w (C #[v] 31)) (C #[D O 0 0] 171)) (C #[IZ 0] 3)) (C #[IZ (-1)] 3)) w.heap.size v (D O 0 0) 0 (-1):=by
 refine⟨?_,?_,?_,?_⟩
 .rw[gX _ _ _ (by simp<;>omega),gX _ _ _ (by simp<;>omega),gX _ _ _ (by simp<;>omega)];exact χ w _
 .rw[gX _ _ _ (by simp<;>omega),gX _ _ _ (by simp<;>omega)]
  have:=χ (å w (C #[v] 31)) (C #[D O 0 0] 171);simpa using this
 .rw[gX _ _ _ (by simp<;>omega)]
  have:=χ (å (å w (C #[v] 31)) (C #[D O 0 0] 171)) (C #[IZ 0] 3);simpa using this
 .have:=χ (å (å (å w (C #[v] 31)) (C #[D O 0 0] 171)) (C #[IZ 0] 3)) (C #[IZ (-1)] 3)
  simpa using this
theorem HI (v:ε) (d:γ) (w:β) (bd:Ϩ w) (h:Rd w v (L d) 1 (η d)) (b9:L d<=10000) (a0:∀ c∈gc d,mu c=true\/c=32\/c=124) :
  Calls prog 92 #[v] w (jZ w 177 3 (L (tk d)) (kx (tk d))):=by
 obtain⟨bh,hi,be,bf,bg⟩:=ϯ Cn;have bJ:∃ q c,v=D q (L d) c:=by
  obtain⟨-,-,⟨q,c,rfl,ay⟩|⟨b,off,c,rfl,-⟩⟩:=h
  .exact⟨q,c,by rw[ay]⟩
  .exact⟨_,c,rfl⟩
 obtain⟨q,u,y⟩:=bJ;have aX:Hid (∀ aa,Below w.heap.size w aa->Calls prog 162 #[v] aa (jZ aa 3 1 (L (gc d)) (τ (gc d)))):=fun aa bC=>Bv v d aa (h.below bC) ϊ;subst y;go_enter func92,ntmps92;go_wp2_with fail
 have ac:Below w.heap.size w (å (å (å (å w (C #[D q (L d) u] 31)) (C #[D O 0 0] 171)) (C #[IZ 0] 3)) (C #[IZ (-1)] 3)):=((ġ.alloc ύ _).alloc ό _).alloc ό _;have aY:EM (å (å (å (å w (C #[D q (L d) u] 31)) (C #[D O 0 0] 171)) (C #[IZ 0] 3)) (C #[IZ (-1)] 3)) w.heap.size (D q (L d) u) (D O 0 0) 0 (-1):=HJ w _;have ao:(å (å (å (å w (C #[D q (L d) u] 31)) (C #[D O 0 0] 171)) (C #[IZ 0] 3)) (C #[IZ (-1)] 3)).heap.size=w.heap.size+4:=ύ;refine(aX.o _ ac).mono ?_;rintro e Q ⟨cd,rfl,af,al⟩;rw[ao]at af al;generalize(å (å (å (å w (C #[D q (L d) u] 31)) (C #[D O 0 0] 171)) (C #[IZ 0] 3)) (C #[IZ (-1)] 3))=bi at *;have bI:=al.size;rw[ao]at bI;have am:Below bi.heap.size bi Q:=by rw[ao];exact al
 have bB:=aY.below am;have a3:=Bw d;have b8:=yb d;have a4:gc d=gc (d.drop 0):=rfl;have a8:tk d=pt d 0 (-1) [] (gc d):=rfl;have bc:Rd Q (D q (L d) u) (L d) 1 (η d):=(h.below ac).below am;have ba:∀ aw off n c,Value.slice q (L d) u=D (J ⟨aw,off,O⟩) n c->0<n->aw<w.heap.size:=by
  intro aw off n c aE ca;obtain⟨-,-,⟨bR,bq,y,ay⟩|⟨bS,cc,bq,y,b1,_,_,bA⟩⟩:=h
  .simp only[Ξ]at aE y;omega
  .simp only[Ξ]at aE y
   rw[aE.1]at y;simp only[Ο,Addr.mk.injEq]at y;obtain⟨⟨rfl,rfl,-⟩,-,-⟩:=y;exact ib w _ (bA 0 _ (Ρ (show 0<L (η d) by rw[oE];omega)))
 have aP:=Zh ba;have bP:=Zh bc;have aR:Hid (∀ ag,Below w.heap.size w ag->Rd ag (D q (L d) u) (L d) 1 (η d)):=fun ag bD=>h.below bD;have S:=ac.trans (am.mono ac.size);have bQ:=Zh (bd.below S);obtain⟨bp,c1,rfl⟩:=Θ af;generalize gc d=p at *;have bF:Hid (∀ j (aF:j<L p),∃ b off,bp=J ⟨b,off,O⟩/\w.heap.size+3<b/\∃ cur,Q.heap[b]?=J (C cur 3 (0,0))/\Q.cell? ⟨b,off+j,O⟩=J (IZ p[j])):=by
  intro j aF;rcases af.2 with ⟨y,ay⟩|⟨g,bW,cur,y,b3,hg,-⟩
  .omega
  .simp only[Ξ]at y
   refine⟨g,0,y.1,ϊ,cur,hg,?_⟩;have bH:Q.ownsRow (w.heap.size+4) 3 1 (D (J ⟨g,0,O⟩) (L p) c1) (L p) (τ p):=by rw[<-y.1];exact af
   rw[show 0+j=j from ϊ,bH.cellAt j ϊ];simp[τ,aF]
 have bj:=Zh a0;have bn:=Zh a3;have bm:=Zh a4;have bo:=Zh a8;clear a0 a3 a4 a8 ba bc aY al am ac ao af h aX;go_wp2_with fail
 go_loopw [15] (fun aM wr=>∃ (j pos:Nat) (k:Int) (l:ε) (m:List El),j<=L p/\aM=IZ j/\EM wr w.heap.size (D q (L d) u) l pos k/\wr.ownsRow w.heap.size 177 3 l (L m) (kx m)/\Hid (tk d=pt d pos k m (p.drop j))/\Hid (p.drop j=gc (d.drop pos))/\pos<=L d/\Hid (k = -1\/∃ s:Nat,k=s/\s<pos)/\L m<=2*j/\gp w.heap.size Q wr) (fun aM _=>L p - (intOf aM).toNat)
 case atStart=>exact⟨0,0,-1,_,[],Ι _,rfl,bB,hZ _ _ _ _,bo.o,bm.o,Ι _,.inl rfl,NZ,gp.refl _ _⟩
 case round =>
  obtain⟨j,pos,k,l,m,aF,rfl,V,ae,ar,aQ,bb,av,b6,z⟩:=hrel;have Y:w.heap.size<=wr.heap.size:=by have:=z.size;have:=S.size;omega
  have aK:Ϩ wr:=by
   obtain⟨⟨bM,bx,aV⟩,⟨bN,bz,aW⟩⟩:=bd;have bl:=S.trans z.below;exact⟨⟨bM,bx,by rw[bl.block _ (vi aV)];exact aV⟩,⟨bN,bz,by rw[bl.block _ (vi aW)];exact aW⟩⟩
  by_cases aH:j<L p
  .obtain⟨b,off,rfl,bE,cur,aC,a2⟩:=bF.o j aH
   have a1:=z.high b _ bE aC (by intro bX b0 e;simp only[Obj.cells.injEq]at e;exact absurd e.2.1 ϐ);have b4:wr.cell? ⟨b,off+j,O⟩=J (IZ p[j]):=by rw[sA (w:=Q) (w':=wr) (by simp only;rw[a1,aC])];exact a2
   have aD:gt p[j]=true:=bn.o _ (Χ _);have a7:p.drop j=p[j]::p.drop (j+1):=mh aH;have W:=CJ p[j] wr aK;have ad:=bj.o _ (Χ aH);have b2:=qw aD;generalize bK:p[j]=x at *;have hg:=ar.o;have aI:=aQ.o;rw[a7]at hg aI;have a5:=fun an:x≠65533=>Hq aI.symm an;have ap:=Zh a5;clear bK a7 a2 aC a1 a5 aI aQ ar;have aN:=Zh aD;clear aD;simp only[pt]at hg;have b7:j<=10000:=ϊ;by_cases H:gK x=true
   .rw[μ H]at hg
    have an:x≠65533:=by intro e;rw[e,AD]at H;exact absurd H ϐ
    have aZ:mu x=true:=by
     rcases ad with h|rfl|rfl
     .exact h
     all_goals exact absurd H Ϟ
    rw[aZ]at W;have Z:=Zh W;clear W aZ H ad;obtain⟨N,E⟩:=ap.o an;rw[gb]at N;rw[qQ]at E;have T:=Zh E;have aO:=Zh N;have b5:=BN x;clear E N an;rcases av.o with rfl|⟨k,rfl,cb⟩
    .rw[μ ϊ]at hg
     have F:=Zh hg;have au:Hid ((pos:Int) = -1\/∃ s:Nat,(pos:Int)=s/\s<pos+L (enc x)):=.inr ⟨pos,rfl,ϊ⟩;clear hg;go_wp2_with (first|(go_at_call 163;refine Z.o.mono ?_;rintro e o ⟨rfl,f⟩;have i:=V.below f;have ax:=gZ i.b3;have f3:=jz i.b3;have c2:=gZ i.b2;have f2:=jz i.b2;have c1:=gZ i.b1;have f1:=jz i.b1)|(go_at_call 165;refine(yl x _ aN.o).mono ?_;rintro e R ⟨bO,rfl,G,M⟩;obtain⟨U,bs,rfl⟩:=Θ G;have t:=(i.set3 pos).below M;have bt:=gZ t.b2;have bw:=jz t.b2))
     have I:=Υ (mi (Υ ae f) (a:=⟨w.heap.size+1+1+1,0,O⟩) (i.own_ne (Υ ae f) 3 ϊ) (IZ pos)) M;have P:=mi I (a:=⟨w.heap.size+1+1,0,O⟩) (t.own_ne I 2 ϊ) (IZ ((pos:Int)+(L (enc x):Int)));have aB:=t.set2 ((pos:Int)+(L (enc x):Int));have K:=(((z.trans (gp.of_below f Y)).trans (gp.set o (IZ pos) (ϊ:w.heap.size<=w.heap.size+1+1+1) ϊ)).trans (gp.of_below M (by have:=f.size;simp;omega))).trans (gp.set R (IZ ((pos:Int)+(L (enc x):Int))) (ϊ:w.heap.size<=w.heap.size+1+1) ϊ);go_roundw;case rel=>exact⟨j+1,pos+L (enc x),_,l,m,ϊ,ϕ,by rw[show((pos+L (enc x):Nat):Int)=(pos:Int)+(L (enc x):Int)from ϊ];exact aB,P,F.o,T.o,by have:=aO.o;omega,au.o,ϊ,K⟩
     case measure=>simp[intOf];omega
    .rw[κ ϊ]at hg
     have F:=Zh hg;have au:Hid ((k:Int) = -1\/∃ s:Nat,(k:Int)=s/\s<pos+L (enc x)):=.inr ⟨k,rfl,ϊ⟩;clear hg;go_wp2_with (first|(go_at_call 163;refine Z.o.mono ?_;rintro e o ⟨rfl,f⟩;have i:=V.below f;have ax:=gZ i.b3;have f3:=jz i.b3;have c2:=gZ i.b2;have f2:=jz i.b2;have c1:=gZ i.b1;have f1:=jz i.b1)|(go_at_call 165;refine(yl x _ aN.o).mono ?_;rintro e R ⟨bO,rfl,G,M⟩;obtain⟨U,bs,rfl⟩:=Θ G;have t:=(i).below M;have bt:=gZ t.b2;have bw:=jz t.b2))
     have I:=Υ (Υ ae f) M;have P:=mi I (a:=⟨w.heap.size+1+1,0,O⟩) (t.own_ne I 2 ϊ) (IZ ((pos:Int)+(L (enc x):Int)));have aB:=t.set2 ((pos:Int)+(L (enc x):Int));have K:=((z.trans (gp.of_below f Y)).trans (gp.of_below M (by have:=f.size;simp;omega))).trans (gp.set R (IZ ((pos:Int)+(L (enc x):Int))) (ϊ:w.heap.size<=w.heap.size+1+1) ϊ);go_roundw;case rel=>exact⟨j+1,pos+L (enc x),_,l,m,ϊ,ϕ,by rw[show((pos+L (enc x):Nat):Int)=(pos:Int)+(L (enc x):Int)from ϊ];exact aB,P,F.o,T.o,by have:=aO.o;omega,au.o,ϊ,K⟩
     case measure=>simp[intOf];omega
   .have aG:mu x=false:=by
     cases h:mu x with
     |false=>rfl
     |true=>exact absurd (by unfold gK;rw[h];rfl) H
    have aL:x=32\/x=124:=by rw[aG]at ad;simpa using ad
    rw[aG]at W;have Z:=Zh W;have aq:=Zh (fun(o:β)=>BC x o);have a6:nV x=false:=by rcases aL with rfl|rfl<;>decide
    rw[κ H]at hg;have ab:∀ o,Below wr.heap.size wr o->Calls prog 160 #[þ (J ⟨w.heap.size+1+1+1,0,O⟩),þ (J ⟨w.heap.size+1,0,O⟩),þ (J ⟨w.heap.size,0,O⟩),þ (J ⟨w.heap.size+1+1,0,O⟩)] o (uy w.heap.size (D q (L d) u) (flush d k pos m) pos o):=by
     intro o f;have aJ:Rd o (D q (L d) u) (L d) 1 (η d):=(aR.o _ ((S.trans z.below).trans (f.mono Y)));exact BZ w.heap.size _ l m d k pos o (aK.below f) (V.below f) (by have:=z.size;have:=f.size;omega) (Υ ae f) aJ aP.o av.o bb ϊ ϊ
    have ai:=Zh ab;have bG:=Ca d k pos m;rw[a6]at aq;clear W aG a6 H ab ad;by_cases az:x=32
    .subst az
     rw[μ rfl]at hg;have F:=Zh hg;obtain⟨N,E⟩:=ap.o ϊ;rw[gb,show(L (enc 32))=1 from rfl]at N;rw[qQ,show(L (enc 32))=1 from rfl]at E;have T:=Zh E;clear hg E aL;go_wp2_with (first|(go_at_call 163;refine Z.o.mono ?_;rintro e o ⟨rfl,f⟩;have i:=V.below f;have ax:=gZ i.b3;have f3:=jz i.b3;have c2:=gZ i.b2;have f2:=jz i.b2;have c1:=gZ i.b1;have f1:=jz i.b1)|(go_at_call 164;refine(aq.o _).mono ?_;rintro e ag ⟨rfl,rfl⟩)|(go_at_call 160;refine(ai.o _ f).mono ?_;rintro e ah ⟨rfl,l3,r,A,B⟩;obtain⟨aS,aU,rfl⟩:=Θ A;have br:=gZ r.b2;have bv:=jz r.b2;have aT:=gZ r.b1;have bu:=jz r.b1))
     have P:=mi A (a:=⟨w.heap.size+1+1,0,O⟩) (r.own_ne A 2 ϊ) (IZ ((pos:Int)+1));have K:=((z.trans (gp.of_below f Y)).trans B).trans (gp.set ah (IZ ((pos:Int)+1)) (ϊ:w.heap.size<=w.heap.size+1+1) ϊ);go_roundw;case rel=>exact⟨j+1,pos+1,-1,_,flush d k pos m,ϊ,ϕ,by rw[show((pos+1:Nat):Int)=(pos:Int)+1 from ϊ];exact r.set2 _,P,F.o,T.o,ϊ,.inl rfl,ϊ,K⟩
     case measure=>simp[intOf];omega
    .obtain rfl:x=124:=ϊ
     rw[κ az,μ ϐ]at hg;have F:=Zh hg;obtain⟨N,E⟩:=ap.o ϊ;rw[gb,show(L (enc 124))=1 from rfl]at N;rw[qQ,show(L (enc 124))=1 from rfl]at E;have T:=Zh E;clear hg E az aL;go_wp2_with (first|(go_at_call 163;refine Z.o.mono ?_;rintro e o ⟨rfl,f⟩;have i:=V.below f;have ax:=gZ i.b3;have f3:=jz i.b3;have c2:=gZ i.b2;have f2:=jz i.b2;have c1:=gZ i.b1;have f1:=jz i.b1)|(go_at_call 164;refine(aq.o _).mono ?_;rintro e ag ⟨rfl,rfl⟩)|(go_at_call 160;refine(ai.o _ f).mono ?_;rintro e ah ⟨rfl,l3,r,A,B⟩;obtain⟨aS,aU,rfl⟩:=Θ A;have br:=gZ r.b2;have bv:=jz r.b2;have aT:=gZ r.b1;have bu:=jz r.b1)|(at_builtin;refine gn rfl _ _ _ _ rfl w.heap.size 177 bh _ 3 32 sz hi be bf bg rfl _ (L (flush d k pos m)) _ rfl (A.alloc _) _ 1 [IZ 124,IZ pos,š {data:= #[]}] rfl (ig sz ah _ 3 1 1 rfl ϙ) ώ ϊ (by have:=B.size;have:=f.size;simp;omega) ?_;intro bL R G X _ _;have t:=(r.alloc _).grown (A.alloc _) X;have aA:=((B.trans (gp.of_below (ġ) (by have:=B.size;have:=f.size;omega))).trans (gp.grown (A.alloc _) X (by have:=B.size;have:=f.size;simp;omega)));obtain⟨U,aj,rfl⟩:=Θ G;have bU:=gZ t.b1;have bY:=jz t.b1;have ak:=t.set1 (D U (L (flush d k pos m)+1) aj);have bV:=gZ ak.b2;have bZ:=jz ak.b2;clear X))
     have I:=mi G (a:=⟨w.heap.size+1,0,O⟩) (t.own_ne G 1 ϊ) (D U (L (flush d k pos m)+1) aj);have P:=mi I (a:=⟨w.heap.size+1+1,0,O⟩) (ak.own_ne I 2 ϊ) (IZ ((pos:Int)+1));have K:=(((z.trans (gp.of_below f Y)).trans aA).trans (gp.set R (D U (L (flush d k pos m)+1) aj) (ϊ:w.heap.size<=w.heap.size+1) ϊ)).trans (gp.set (ŝ R ⟨w.heap.size+1,0,O⟩ (D U (L (flush d k pos m)+1) aj)) (IZ ((pos:Int)+1)) (ϊ:w.heap.size<=w.heap.size+1+1) ϊ);go_roundw;case rel =>
      refine⟨j+1,pos+1,-1,_,flush d k pos m++[(⟨124,(pos:Int),[]⟩:El)],ϊ,ϕ,by rw[show((pos+1:Nat):Int)=(pos:Int)+1 from ϊ];exact ak.set2 _,?_,F.o,T.o,ϊ,.inl rfl,ό,K⟩;rw[ω,yj];exact P
     case measure=>simp[intOf];omega
  .have a9:p.drop j=[]:=ng ϊ
   have hg:=ar.o;rw[a9]at hg;simp only[pt]at hg;have F:=Zh hg;have ab:∀ o,Below wr.heap.size wr o->Calls prog 160 #[þ (J ⟨w.heap.size+1+1+1,0,O⟩),þ (J ⟨w.heap.size+1,0,O⟩),þ (J ⟨w.heap.size,0,O⟩),þ (J ⟨w.heap.size+1+1,0,O⟩)] o (uy w.heap.size (D q (L d) u) (flush d k pos m) pos o):=by
    intro o f;have aJ:Rd o (D q (L d) u) (L d) 1 (η d):=(aR.o _ ((S.trans z.below).trans (f.mono Y)));exact BZ w.heap.size _ l m d k pos o (aK.below f) (V.below f) (by have:=z.size;have:=f.size;omega) (Υ ae f) aJ aP.o av.o bb ϊ ϊ
   have ai:=Zh ab;have bG:=Ca d k pos m;have f:=φ wr.heap.size wr;have bk:=Zh f;clear hg a9 ab f;go_wp2_with (first|(go_at_call 160;refine(ai.o _ bk.o).mono ?_;rintro e ah ⟨rfl,l3,r,A,B⟩;obtain⟨aS,aU,rfl⟩:=Θ A;have bT:=gZ r.b0;have aT:=gZ r.b1)|(at_builtin;refine gn rfl _ _ _ _ rfl w.heap.size 177 bh _ 3 32 sz hi be bf bg rfl _ (L (flush d k pos m)) _ rfl (A.alloc _) _ 1 [IZ (-2),IZ (L d),š {data:= #[]}] rfl (ig sz ah _ 3 1 1 rfl ϙ) ώ ϊ (by have:=B.size;simp;omega) ?_;intro bL R G X _ _))
   have aA:=((B.trans (gp.of_below (ġ) (by have:=B.size;omega))).trans (gp.grown (A.alloc _) X (by have:=B.size;simp;omega)));clear X;go_wp2;go_ret;refine⟨_,rfl,?_,S.trans (z.trans aA).below⟩;rw[F.o,ω,yj];exact G
theorem og (b:UInt8):u8 (ch b)=b:=by
 unfold u8 ch;simp
theorem vo {c:Int} (h:gK c=true):48<=c/\c<1120:=by
 unfold gK mu nV at h;simp[rX]at h;omega
theorem MX:(List.range 1120).all (fun n=>!(gK (n:Int))||(gK (ik (n:Int)) && (ik (ik (n:Int))==ik (n:Int))))=true:=Ϟ
theorem MU {c:Int} (h:gK c=true):gK (ik c)=true/\ik (ik c)=ik c:=by
 obtain⟨a,b⟩:=vo h;obtain⟨n,rfl⟩:∃ n:Nat,c=n:=⟨c.toNat,ϊ⟩;have:=kp.1 MX n (pO.2 ϊ);rw[h]at this;simpa using this
theorem HK {c:Int} (h:gK c=true):L (enc c)=1\/L (enc c)=2:=by
 obtain⟨a,b⟩:=vo h;unfold enc;split
 .exact .inl rfl
 .rw[μ ϊ];exact .inr rfl
theorem Ia {c:Int} (e:0<=c) (f:c<2048) (r:γ):first (enc c++r)=(c,L (enc c)):=by
 by_cases h:c<128
 .have a:enc c=[u8 c]:=by unfold enc;rw[μ h]
  rw[a];have g:=kf c e ϊ;simp only[kq,jy,first];rw[g,μ h];rfl
 .have a:enc c=[u8 (192+c / 64),u8 (128+c % 64)]:=by unfold enc;rw[κ h,μ f]
  rw[a];have d:=kf (192+c / 64) ϊ ϊ;have b:=kf (128+c % 64) ϊ ϊ;have i:ip (u8 (128+c % 64))=true:=by unfold ip;rw[b];simp;omega
  simp only[kq,jy,first,pu];rw[κ (ϊ:¬ch (u8 (192+c / 64))<128),κ (ϊ:¬ch (u8 (192+c / 64))<192),μ (ϊ:ch (u8 (192+c / 64))<224),i,d,b,sl,μ (kr ϊ)];simp only[Ϧ,gF,Prod.mk.injEq];exact⟨ϊ,by first|rfl|trivial⟩
theorem BO {c:Int} (a:c<2048):enc c≠[]:=by
 unfold enc;split
 .simp
 .simp
theorem Hr {c:Int} (b:0<=c) (a:c<2048) (r:γ):gc (enc c++r)=c::gc r:=by
 rw[rj _ (by simp[BO a]),Ia b a];simp
def iS (l:List Int):γ:=l.flatMap enc
theorem Bx (l:List Int) (h:∀ c∈l,gK c=true) (r:γ):gc (iS l++r)=l++gc r:=by
 induction l with
 |nil=>rfl
 |cons c l b =>
  have d:=vo (h c ύ);simp only[iS,lg,gM,kq];rw[Hr ϊ ϊ];have:=b (fun x a=>h x (by simp[a]));simp only[iS]at this;rw[this]
theorem Ez:∀ (l:List Int) (t:γ),(∀ c∈l,gK c=true)->∃ m,ma t l=t++iS m/\(∀ c∈m,gK c=true/\ik c=c)/\(m=[]->l=[]\/62<L t):=by
 intro l;induction l with
 |nil=>intro t h;exact⟨[],by simp[ma,iS],ύ,fun _=>.inl rfl⟩
 |cons c l f =>
  intro t h;have a:=MU (h c ύ);simp only[ma];split
  .rename_i i
   refine⟨[],by simp[iS],ύ,fun _=>.inr ?_⟩;have:=HK a.1;omega
  .obtain⟨m,b,d,g⟩:=f (t++enc (ik c)) (fun x hx=>h x (by simp[hx]))
   refine⟨ik c::m,?_,?_,fun e=>by simp at e⟩
   .rw[b];simp[iS]
   .intro x hx
    simp only[gP]at hx;rcases hx with rfl|hx
    .exact a
    .exact d x hx
theorem EO:∀ (l cur:List Int),(∀ c∈cur,gK c=true)->∀ w∈jI cur l,w≠[]/\∀ c∈w,gK c=true:=by
 intro l;induction l with
 |nil =>
  intro cur a w hw;rw[uf]at hw;split at hw
  .simp at hw
  .simp only[jW]at hw;subst hw;exact⟨Ϙ,a⟩
 |cons c l f =>
  intro cur a w hw;by_cases e:gK c=true
  .rw[wF _ _ _ e]at hw
   refine f _ ?_ w hw;intro x b;simp only[mg,jW]at b;rcases b with b|rfl
   .exact a x b
   .exact e
  .have g:gK c=false:=by simpa using e
   by_cases d:cur=[]
   .subst d
    rw[zK _ _ g]at hw;exact f [] ύ w hw
   .rw[zJ _ _ _ g d]at hw
    simp only[gP]at hw;rcases hw with rfl|hw
    .exact⟨d,a⟩
    .exact f [] ύ w hw
theorem LL {t:γ} (h:it t=true):∃ m,t=iS m/\m≠[]/\(∀ c∈m,gK c=true/\ik c=c)/\oR t=t:=by
 have a:=eq_of_beq h;have n:oR t=t:=by unfold oR;rw[a];rfl
 unfold Μ at a;obtain⟨b,ws,o,p,_⟩:=List.map_eq_cons_iff.1 a;have k:b∈oU (gc t):=by rw[o];simp
 obtain⟨l,j⟩:=EO (gc t) [] ύ b k;obtain⟨m,d,g,i⟩:=Ez b [] j;have f:t=iS m:=by rw[<-p];unfold term;rw[d];simp
 refine⟨m,f,?_,g,n⟩;intro e;rcases i e with h|h
 .exact l h
 .simp at h
theorem Ic (b:γ) (h:b≠[]):first b=(65533,1)\/(gt (first b).1=true/\b.take (first b).2=enc (first b).1):=by
 rcases b with _|⟨b0,_|⟨b1,_|⟨b2,_|⟨b3,r⟩⟩⟩⟩
 .exact absurd rfl h
 all_goals
  have c:=xL b0;simp only[first,pu,qs,qt,js]
  repeat' split
 all_goals first
  |exact .inl rfl
  |(right;rename_i a;constructor
    .simp only[gt,gs,ol,ia];omega
    .unfold enc;rw[μ Ϙ,og];rfl)
  |(right;rename_i a;simp only[gs,ia,ip]at a;refine⟨by simp only[gt,gs,ol,ia];omega,?_⟩;unfold enc;rw[κ ϊ,μ ϊ,show 192+((ch b0 - 192)*64+(ch b1 - 128)) / 64=ch b0 from ϊ,show 128+((ch b0 - 192)*64+(ch b1 - 128)) % 64=ch b1 from ϊ,og,og];rfl)
  |(right;rename_i a;simp only[gs,ia,ip]at a;refine⟨a.1.2,?_⟩;unfold enc;rw[κ ϊ,κ ϊ,μ ϊ,show 224+(((ch b0 - 224)*64+(ch b1 - 128))*64+(ch b2 - 128)) / 4096=ch b0 from ϊ,show 128+(((ch b0 - 224)*64+(ch b1 - 128))*64+(ch b2 - 128)) / 64 % 64=ch b1 from ϊ,show 128+(((ch b0 - 224)*64+(ch b1 - 128))*64+(ch b2 - 128)) % 64=ch b2 from ϊ,og,og,og];rfl)
  |(right;rename_i a;simp only[gs,ia,ip]at a;refine⟨a.1.2,?_⟩;unfold enc;rw[κ ϊ,κ ϊ,κ ϊ,show 240+((((ch b0 - 240)*64+(ch b1 - 128))*64+(ch b2 - 128))*64+(ch b3 - 128)) / 262144=ch b0 from ϊ,show 128+((((ch b0 - 240)*64+(ch b1 - 128))*64+(ch b2 - 128))*64+(ch b3 - 128)) / 4096 % 64=ch b1 from ϊ,show 128+((((ch b0 - 240)*64+(ch b1 - 128))*64+(ch b2 - 128))*64+(ch b3 - 128)) / 64 % 64=ch b2 from ϊ,show 128+((((ch b0 - 240)*64+(ch b1 - 128))*64+(ch b2 - 128))*64+(ch b3 - 128)) % 64=ch b3 from ϊ,og,og,og,og];rfl)
def Jv (n:Nat):Int:=if n=2 then 192 else if n=3 then 224 else if n=4 then 240 else 0
def beg (l:γ) (n:Nat):Nat->Int
 |0=>ch (l.getD 0 0) - Jv n
 |i+1=>beg l n i*64+ch (l.getD (i+1) 0) - 128
def Ow (l:γ) (n:Nat):Int:=if L l<n then -1 else beg l n (n - 1)
def vS (s:γ):Bool:=(gc s).all (fun c=>gK c && ik c==c) && decide (0<L (gc s)) && decide (L s<=64)
theorem Gk:∀ (n:Nat) (s:γ),L s<=n->(∀ c∈gc s,gK c=true)->s=iS (gc s):=by
 intro n;induction n with
 |zero=>intro s k h;have:s=[]:=ko ϊ;subst this;rfl
 |succ n l =>
  intro s k h;by_cases a:s=[]
  .subst a;rfl
  .have b:=rj s a
   have o:=qu s a;have d:gK (first s).1=true:=h _ (by rw[b];simp);rcases Ic s a with i|⟨m,e⟩
   .rw[i]at d;simp[AD]at d
   .have j:s.drop (first s).2=iS (gc (s.drop (first s).2)):=l _ (by rw[gb];omega) (fun c g=>h c (by rw[b];simp[g]))
    rw[b];have f:iS ((first s).1::gc (s.drop (first s).2))=enc (first s).1++iS (gc (s.drop (first s).2)):=by simp[iS]
    rw[f,<-j,<-e];exact(pd _ _).symm
theorem Nq:∀ (l:List Int) (t:γ),(∀ c∈l,ik c=c)->L (t++iS l)<=64->ma t l=t++iS l:=by
 intro l;induction l with
 |nil=>intro t _ _;simp[ma,iS]
 |cons c l d =>
  intro t h e;have a:=h c ύ;simp only[ma];rw[a];have f:L (t++iS (c::l))=L t+L (enc c)+L (iS l):=by simp[iS];omega
  rw[κ ϊ,d _ (fun x b=>h x (by simp[b])) (by rw[ω,ω];omega)];simp[iS]
theorem NR:∀ (l cur:List Int),(∀ c∈l,gK c=true)->jI cur l=if cur++l=[]then[]else[cur++l]:=by
 intro l;induction l with
 |nil=>intro cur _;rw[uf,im]
 |cons c l b =>
  intro cur h;rw[wF _ _ _ (h c ύ),b _ (fun x a=>h x (by simp[a]))];simp
theorem LB (s:γ):vS s=it s:=by
 rw[Bool.eq_iff_iff];constructor
 .intro h
  unfold vS at h;simp only[gs,kp,ia,mH]at h;obtain⟨⟨b,d⟩,f⟩:=h;have g:=Gk _ s NZ (fun c a=>(b c a).1);unfold it Μ oU;rw[NR _ _ (fun c a=>(b c a).1),jy,κ (by intro e;rw[e]at d;simp at d)];simp only[iA,lf,term];rw[Nq _ _ (fun c a=>(b c a).2) (by rw[jy,<-g];exact f),jy,<-g];simp
 .intro h
  obtain⟨i,b,d,f,k⟩:=LL h;have j:gc s=i:=by
   have:=Bx i (fun c a=>(f c a).1) [];rw[im,<-b,ri,im]at this;exact this
  unfold vS;rw[j];simp only[gs,kp,ia,mH];exact⟨⟨f,om.2 d⟩,LM h⟩
theorem NQ {m:List Int} (h:∀ c∈m,gK c=true) (l:m≠[]):it (term m)=true/\term m≠[]:=by
 obtain⟨a,i,b,j⟩:=Ez m [] h;have n:term m=iS a:=by unfold term;rw[i];rfl
 have f:L (term m)<=64:=EB [] m ϐ;have g:a≠[]:=by
  intro e;rcases j e with h|h
  .exact l h
  .simp at h
 rw[n]at f ⊢;constructor
 .rw[<-LB]
  have k:gc (iS a)=a:=by
   have:=Bx a (fun c d=>(b c d).1) [];rw[im,ri,im]at this;exact this
  unfold vS;rw[k];simp only[gs,kp,ia,mH];exact⟨⟨b,om.2 g⟩,f⟩
 .cases a with
  |nil=>exact absurd rfl g
  |cons c a =>
   intro e;have d:=vo (b c ύ).1;have:=BO (c:=c) ϊ;simp only[iS,lg,List.append_eq_nil_iff]at e;exact this e.1
theorem Nu (b:γ):∀ t∈Μ b,it t=true/\0<L t/\L t<=64:=by
 intro t a;have g:=ww b t a;unfold Μ at a;obtain⟨i,h,rfl⟩:=hI.1 a;obtain⟨c,d⟩:=EO (gc b) [] ύ i h;obtain⟨e,f⟩:=NQ d c;exact⟨e,om.2 f,g⟩
theorem CO (docs:List (γ)) (a:Nat) (b:∀ d∈docs,L d<=a) (lo n:Nat):L (iN docs lo n)<=n*a:=by
 unfold iN;rw[io];exact gh (rV _) (xC docs a b n lo)
theorem JV {docs:List (γ)} {t:γ} {lo n:Nat} (h:t∈jr docs lo n):∃ b,t∈Μ b:=by
 unfold jr at h;obtain⟨a,-,hi⟩:=List.mem_flatMap.1 h;exact⟨_,mQ.1 hi⟩
theorem IM (docs:List (γ)) (t:γ) (lo n:Nat):(gB docs t lo n).Pairwise (· < ·):=by
 unfold gB;refine List.Pairwise.map _ (R:=(· < ·)) (fun a b h=>ϊ) ?_;exact List.Pairwise.filter _ List.pairwise_lt_range'
theorem vy {docs:List (γ)} {lo n:Nat} {e:υ} (h:e∈iN docs lo n):it e.1=true/\L e.1<=64/\e.2≠[]/\L e.2<=n/\e.2.Pairwise (· < ·)/\∀ z∈e.2,(lo:Int)<=z/\z<((lo+n:Nat):Int):=by
 have d:=yJ docs lo n e h;unfold iN at h;obtain⟨j,g,rfl⟩:=hI.1 h;obtain⟨b,f⟩:=JV (mQ.1 g);obtain⟨a,-,c⟩:=Nu b j f;refine⟨a,c,d,IL _ _ _ _,IM _ _ _ _,fun z i=>?_⟩;obtain⟨m,rfl,k,l,-⟩:=yA.1 i;omega
theorem Df (docs:List (γ)) (p:Nat×Nat) (o:p.1<p.2) (q:p.2<=1000):lH (p.1:Int) (p.2:Int) (Α docs p)=true:=by
 have n:ly (p.1:Int) (p.2:Int)=true:=by
  unfold ly;simp only[gs,ia];omega
 have k:∀ e∈Α docs p,it e.1=true/\L e.1<=64/\e.2≠[]/\L e.2<=p.2 - p.1/\e.2.Pairwise (· < ·)/\∀ z∈e.2,(p.1:Int)<=z/\z<(p.2:Int):=fun e g=>by
  obtain⟨b,i,c,j,d,f⟩:=vy (show e∈iN docs p.1 (p.2 - p.1)from g);refine⟨b,i,c,j,d,fun z a=>?_⟩;have:=f z a;omega
 have m:iq (Α docs p)=true:=by
  refine By (fun h hi=>?_) (fun h hi=>?_)
  .obtain⟨b,i,c,j,d,f⟩:=k _ (Χ hi)
   rw[ym];refine⟨c,(tP _).2 ⟨d,fun z a=>?_⟩,b⟩;have:=f z a;omega
  .have l:kA (Α docs p):=vz _ _ _
   unfold kA lR at l;have:=pT.1 l h (h+1) ό (by simpa using hi) ϊ;simpa using this
 unfold lH;rw[n,m,sl,sl,kp];intro e g;rw[kp];intro z a;have:=(k e g).2.2.2.2.2 z a;unfold iG;simp only[gs,ia];exact this
theorem EG (docs:List (γ)) (a:Nat) (c:∀ d∈docs,L d<=a):∀ {ps:List (Nat×Nat)} {lo hi:Nat},hE lo ps hi->iU (ps.map (Α docs))<=(hi - lo)*a
 |[],lo,hi,h=>by simp[iU]
 |p::r,lo,hi,h=>by
  obtain⟨rfl,e,b⟩:=h;have j:=EG docs a c b;have f:=oH b;have g:=CO docs a c p.1 (p.2 - p.1);unfold iU at *;simp only[iA,List.sum_cons];have i:(hi - p.1)*a=(p.2 - p.1)*a+(hi - p.2)*a:=by rw[<-kX];congr 1;omega
  unfold Α at *;omega
