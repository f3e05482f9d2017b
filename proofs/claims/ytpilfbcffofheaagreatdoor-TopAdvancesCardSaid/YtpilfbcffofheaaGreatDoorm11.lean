/- Part 11 of the proof. -/
import Derived.Test.YtpilfbcffofheaaGreatDoorm04
set_option linter.all false
set_option maxRecDepth 100000
set_option maxHeartbeats 16000000
namespace Go.Proofs.YtpilfbcffofheaaGreatDoor
open Go.RowKit Go.Proofs.Tryz Go.Sort
open Value renaming slice->D,agg->ā,string->š,pointer->þ
open Option renaming none->O,some->J
open List renaming length->L
open Obj renaming cells->C
open Ending renaming returned->ŗ
open World renaming alloc->å
def EA (keep) (g:Nat) (aK:Array ε) (aC aD:ε) (na nb A B w) (a5:∀ args w,(callFunc g args).run prog w=.ok (.enter g args) w)
  (aL:∀ b3 x y af,BQ w af->Calls prog g (#[G b3,.bool x,.bool y]++aK) af fun e w'=>e=ŗ (.bool (keep b3 x y))/\af=w')
  (av:L A=na) (aw:L B=nb) (an:Rd w aC na 1 (τ A)) (ao:Rd w aD nb 1 (τ B)) (aZ:ge A=true) (a0:ge B=true) (bb:na+nb<=100000) :
  Calls prog 242 #[aC,aD,.func (.func g) #[] aK] w (iJ w 3 1 (L (hD keep A B)) (τ (hD keep A B))):=by
 obtain⟨ab,hi,Y,Z,aa⟩:=Ϩ oB;have aI:=Zh (fun af (au:BQ w af)=>tr aC na A af av (an.B au));have aJ:=Zh (fun af (au:BQ w af)=>tr aD nb B af aw (ao.B au));rw[aZ]at aI;rw[a0]at aJ;obtain⟨a3,a4,rfl,a8,-⟩:=ku av an;obtain⟨ba,bc,rfl,a9,-⟩:=ku aw ao;have ak:=Zh aL;have X:Hid (∀ z:Int,∀ aN∈[G z],aN.oneCell'=true):=fun z aN aM=>by simp at aM;subst aM;rfl
 have⟨aW,aX,aH⟩:=ϲ an ao (Ν av aw);clear aL an ao;go_enter func242,ntmps242;go_wp2_with (first|(go_at_call 180;with_reducible refine(aI.o _ RZ).M ?_;rintro e w' ⟨rfl,rfl⟩)|(go_at_call 180;with_reducible refine(aJ.o _ RZ).M ?_;rintro e w' ⟨rfl,rfl⟩))
 go_loopw [0,1,7] (fun ap aq b0 wr=>∃ (x y z:Nat) (r l p:List Int),Hid (L r=x/\L l=y/\L p=z)/\x+y+z<=100000/\Hid (hD keep A B=p++hD keep r l)/\Hid (Rd w ap x 1 (τ r))/\Hid (Rd w aq y 1 (τ l))/\gn ap=x/\gn aq=y/\wr.ownsRow w.heap.size 3 1 b0 z (τ p)/\BQ w wr) (fun ap aq _ _=>gn ap+gn aq)
 .exact⟨na,nb,0,A,B,[],⟨aH.o.1,aH.o.2,rfl⟩,U,rfl,aW.o,aX.o,rfl,rfl,gQ _ _ _ _,ρ _ _⟩
 obtain⟨x,y,z,r,l,p,a,bd,aj,t,u,a6,a7,ai,o⟩:=hrel;obtain⟨be,aE,rfl,-,-⟩:=ku a.o.1 t.o;obtain⟨bf,ar,rfl,-,-⟩:=ku a.o.2.1 u.o;obtain⟨ac,ad,rfl⟩:=Η ai;cases r with
 |nil =>
  obtain rfl:0=x:=a.o.1;cases l with
  |nil =>
   obtain rfl:0=y:=a.o.2.1;have a1:Hid (hD keep A B=p):=by show _=_;rw[aj.o,MI,iy]
   have aY:=Zh a.o.2.2;go_wp2;go_ret;rw[a1.o];exact⟨_,rfl,by rw[aY.o];exact ai,o⟩
  |cons q l =>
   obtain⟨i,rfl⟩:∃ i,y=i+1:=⟨L l,by have:=a.o.2.1;simp at this;omega⟩;obtain⟨b2,aB,rfl,F,az⟩:=qQ u.o;have aV:(0:Int)<((i+1:Nat):Int):=U;have aS:(((i+1:Nat):Int)==0)=false:=fU.2 U;have aG:((i:Int)+1==0)=false:=fU.2 U;have aT:¬(i:Int)+1=0:=U;have aU:(1:Int)<=((i+1:Nat):Int):=U;have d:=Zh (ak.o q false true);have f:Hid (hD keep A B=p++((if keep q false true then[q]else[])++hD keep [] l)):=by show _=_;rw[aj.o,ME keep q l]
   have rb:=Ι (ζ o F);go_wp2_with fail
   refine fY ?_;repeat (go_big_quiet_step (fail))
   refine gc fun al b=>?_;have R:=o.t b;have ag:=ψ ai b;have rb:=Ι (ζ R F);go_wp2_with fail
   refine fY ?_;repeat (go_big_quiet_step (fail))
   refine gc fun am b=>?_;have s:=R.t b;have V:=ψ ag b;by_cases T:ar=1
   .subst T
    obtain rfl:i=0:=U;have rb:=Ι (ζ s F);go_wp2_with fail
    refine fY ?_;repeat (go_big_quiet_step (fail))
    refine gc fun Q b=>?_;have c:=s.t b;have k:=ψ V b;cases m:keep q false true with
    |true =>
     rw[m]at d f;go_wp2_with (first|(go_at_fn g;refine(d.o _ c).M ?_;rintro e w' ⟨rfl,rfl⟩)|(at_builtin;refine ϻ rfl _ _ _ _ rfl _ 3 ab _ 1 8 gl hi Y Z aa rfl (D ac z ad) z _ rfl (k.A _) _ 1 [G q] rfl (gh gl Q _ 1 1 1 rfl (X.o q)) ώ U (by have:=c.size;simp;omega) ?_;intro ae N K H _ _))
     have n:BQ w N:=(c.al _).grown H (by have:=c.size;simp;omega) (fun M I=>(k.lt M I).1);go_wp2;go_roundw
     .exact⟨0,0,z+1,_,l,p++[q],⟨a.o.1,by have:=a.o.2.1;simpa using this,by rw[σ,a.o.2.2];rfl⟩,U,by show _=_;rw[f.o];simp,t.o,(io u.o).1 rfl,rfl,rfl,by rw[mP];exact K,n⟩
     simp[gn];try omega
    |false =>
     rw[m]at d f;go_wp2_with (go_at_fn g;refine(d.o _ c).M ?_;rintro e w' ⟨rfl,rfl⟩)
     go_roundw
     .exact⟨0,0,z,_,l,p,⟨a.o.1,by have:=a.o.2.1;simpa using this,a.o.2.2⟩,U,by show _=_;rw[f.o];simp,t.o,(io u.o).1 rfl,rfl,rfl,k,c⟩
     simp[gn];try omega
   .have rb:=Ι (ζ s F)
    go_wp2_with fail
    refine fY ?_;repeat (go_big_quiet_step (fail))
    refine gc fun Q b=>?_;have c:=s.t b;have k:=ψ V b;cases m:keep q false true with
    |true =>
     rw[m]at d f;go_wp2_with (first|(go_at_fn g;refine(d.o _ c).M ?_;rintro e w' ⟨rfl,rfl⟩)|(at_builtin;refine ϻ rfl _ _ _ _ rfl _ 3 ab _ 1 8 gl hi Y Z aa rfl (D ac z ad) z _ rfl (k.A _) _ 1 [G q] rfl (gh gl Q _ 1 1 1 rfl (X.o q)) ώ U (by have:=c.size;simp;omega) ?_;intro ae N K H _ _))
     have n:BQ w N:=(c.al _).grown H (by have:=c.size;simp;omega) (fun M I=>(k.lt M I).1);go_wp2;go_roundw
     .exact⟨0,i,z+1,_,l,p++[q],⟨a.o.1,by have:=a.o.2.1;simpa using this,by rw[σ,a.o.2.2];rfl⟩,U,by show _=_;rw[f.o];simp,t.o,(io u.o).2 T,rfl,rfl,by rw[mP];exact K,n⟩
     simp[gn];try omega
    |false =>
     rw[m]at d f;go_wp2_with (go_at_fn g;refine(d.o _ c).M ?_;rintro e w' ⟨rfl,rfl⟩)
     go_roundw
     .exact⟨0,i,z,_,l,p,⟨a.o.1,by have:=a.o.2.1;simpa using this,a.o.2.2⟩,U,by show _=_;rw[f.o];simp,t.o,(io u.o).2 T,rfl,rfl,k,c⟩
     simp[gn];try omega
 |cons h r =>
  cases l with
  |nil =>
   obtain rfl:0=y:=a.o.2.1;obtain⟨j,rfl⟩:∃ j,x=j+1:=⟨L r,by have:=a.o.1;simp at this;omega⟩;obtain⟨b1,aA,rfl,E,ay⟩:=qQ t.o;have aR:(0:Int)<((j+1:Nat):Int):=U;have aO:(((j+1:Nat):Int)==0)=false:=fU.2 U;have aF:((j:Int)+1==0)=false:=fU.2 U;have aP:¬(j:Int)+1=0:=U;have aQ:(1:Int)<=((j+1:Nat):Int):=U;have d:=Zh (ak.o h true false);have f:Hid (hD keep A B=p++((if keep h true false then[h]else[])++hD keep r [])):=by show _=_;rw[aj.o,MD keep h r]
   have P:=Ι (ζ o E);go_wp2_with fail
   refine fY ?_;repeat (go_big_quiet_step (fail))
   refine gc fun al b=>?_;have R:=o.t b;have ag:=ψ ai b;have P:=Ι (ζ R E);go_wp2_with fail
   refine fY ?_;repeat (go_big_quiet_step (fail))
   refine gc fun am b=>?_;have s:=R.t b;have V:=ψ ag b;by_cases W:aE=1
   .subst W
    obtain rfl:j=0:=U;have P:=Ι (ζ s E);go_wp2_with fail
    refine fY ?_;repeat (go_big_quiet_step (fail))
    refine gc fun Q b=>?_;have c:=s.t b;have k:=ψ V b;cases m:keep h true false with
    |true =>
     rw[m]at d f;go_wp2_with (first|(go_at_fn g;refine(d.o _ c).M ?_;rintro e w' ⟨rfl,rfl⟩)|(at_builtin;refine ϻ rfl _ _ _ _ rfl _ 3 ab _ 1 8 gl hi Y Z aa rfl (D ac z ad) z _ rfl (k.A _) _ 1 [G h] rfl (gh gl Q _ 1 1 1 rfl (X.o h)) ώ U (by have:=c.size;simp;omega) ?_;intro ae N K H _ _))
     have n:BQ w N:=(c.al _).grown H (by have:=c.size;simp;omega) (fun M I=>(k.lt M I).1);go_wp2;go_roundw
     .exact⟨0,0,z+1,r,_,p++[h],⟨by have:=a.o.1;simpa using this,a.o.2.1,by rw[σ,a.o.2.2];rfl⟩,U,by show _=_;rw[f.o];simp,(io t.o).1 rfl,u.o,rfl,rfl,by rw[mP];exact K,n⟩
     simp[gn];try omega
    |false =>
     rw[m]at d f;go_wp2_with (go_at_fn g;refine(d.o _ c).M ?_;rintro e w' ⟨rfl,rfl⟩)
     go_roundw
     .exact⟨0,0,z,r,_,p,⟨by have:=a.o.1;simpa using this,a.o.2.1,a.o.2.2⟩,U,by show _=_;rw[f.o];simp,(io t.o).1 rfl,u.o,rfl,rfl,k,c⟩
     simp[gn];try omega
   .have P:=Ι (ζ s E)
    go_wp2_with fail
    refine fY ?_;repeat (go_big_quiet_step (fail))
    refine gc fun Q b=>?_;have c:=s.t b;have k:=ψ V b;cases m:keep h true false with
    |true =>
     rw[m]at d f;go_wp2_with (first|(go_at_fn g;refine(d.o _ c).M ?_;rintro e w' ⟨rfl,rfl⟩)|(at_builtin;refine ϻ rfl _ _ _ _ rfl _ 3 ab _ 1 8 gl hi Y Z aa rfl (D ac z ad) z _ rfl (k.A _) _ 1 [G h] rfl (gh gl Q _ 1 1 1 rfl (X.o h)) ώ U (by have:=c.size;simp;omega) ?_;intro ae N K H _ _))
     have n:BQ w N:=(c.al _).grown H (by have:=c.size;simp;omega) (fun M I=>(k.lt M I).1);go_wp2;go_roundw
     .exact⟨j,0,z+1,r,_,p++[h],⟨by have:=a.o.1;simpa using this,a.o.2.1,by rw[σ,a.o.2.2];rfl⟩,U,by show _=_;rw[f.o];simp,(io t.o).2 W,u.o,rfl,rfl,by rw[mP];exact K,n⟩
     simp[gn];try omega
    |false =>
     rw[m]at d f;go_wp2_with (go_at_fn g;refine(d.o _ c).M ?_;rintro e w' ⟨rfl,rfl⟩)
     go_roundw
     .exact⟨j,0,z,r,_,p,⟨by have:=a.o.1;simpa using this,a.o.2.1,a.o.2.2⟩,U,by show _=_;rw[f.o];simp,(io t.o).2 W,u.o,rfl,rfl,k,c⟩
     simp[gn];try omega
  |cons q l =>
   by_cases ax:h<q
   .obtain⟨j,rfl⟩:∃ j,x=j+1:=⟨L r,by have:=a.o.1;simp at this;omega⟩
    obtain⟨b1,aA,rfl,E,ay⟩:=qQ t.o;have aR:(0:Int)<((j+1:Nat):Int):=U;have aO:(((j+1:Nat):Int)==0)=false:=fU.2 U;have aF:((j:Int)+1==0)=false:=fU.2 U;have aP:¬(j:Int)+1=0:=U;have aQ:(1:Int)<=((j+1:Nat):Int):=U;obtain⟨i,rfl⟩:∃ i,y=i+1:=⟨L l,by have:=a.o.2.1;simp at this;omega⟩;obtain⟨b2,aB,rfl,F,az⟩:=qQ u.o;have aG:((i:Int)+1==0)=false:=fU.2 U;have l1:h<=q:=U;have l2:decide (q<=h)=false:=kE U;have d:=Zh (ak.o h true false);have f:Hid (hD keep A B=p++((if keep h true false then[h]else[])++hD keep r (q::l))):=by show _=_;rw[aj.o,MH keep r l ax]
    have P:=Ι (ζ o E);have rb:=Ι (ζ o F);go_wp2_with fail
    refine fY ?_;repeat (go_big_quiet_step (fail))
    refine gc fun al b=>?_;have R:=o.t b;have ag:=ψ ai b;have P:=Ι (ζ R E);have rb:=Ι (ζ R F);go_wp2_with fail
    refine fY ?_;repeat (go_big_quiet_step (fail))
    refine gc fun am b=>?_;have s:=R.t b;have V:=ψ ag b;by_cases W:aE=1
    .subst W
     obtain rfl:j=0:=U;have P:=Ι (ζ s E);have rb:=Ι (ζ s F);go_wp2_with fail
     refine fY ?_;repeat (go_big_quiet_step (fail))
     refine gc fun Q b=>?_;have c:=s.t b;have k:=ψ V b;cases m:keep h true false with
     |true =>
      rw[m]at d f;go_wp2_with (first|(go_at_fn g;refine(d.o _ c).M ?_;rintro e w' ⟨rfl,rfl⟩)|(at_builtin;refine ϻ rfl _ _ _ _ rfl _ 3 ab _ 1 8 gl hi Y Z aa rfl (D ac z ad) z _ rfl (k.A _) _ 1 [G h] rfl (gh gl Q _ 1 1 1 rfl (X.o h)) ώ U (by have:=c.size;simp;omega) ?_;intro ae N K H _ _))
      have n:BQ w N:=(c.al _).grown H (by have:=c.size;simp;omega) (fun M I=>(k.lt M I).1);go_wp2;go_roundw
      .exact⟨0,_,z+1,r,_,p++[h],⟨by have:=a.o.1;simpa using this,a.o.2.1,by rw[σ,a.o.2.2];rfl⟩,U,by show _=_;rw[f.o];simp,(io t.o).1 rfl,u.o,rfl,rfl,by rw[mP];exact K,n⟩
      simp[gn];try omega
     |false =>
      rw[m]at d f;go_wp2_with (go_at_fn g;refine(d.o _ c).M ?_;rintro e w' ⟨rfl,rfl⟩)
      go_roundw
      .exact⟨0,_,z,r,_,p,⟨by have:=a.o.1;simpa using this,a.o.2.1,a.o.2.2⟩,U,by show _=_;rw[f.o];simp,(io t.o).1 rfl,u.o,rfl,rfl,k,c⟩
      simp[gn];try omega
    .have P:=Ι (ζ s E)
     have rb:=Ι (ζ s F);go_wp2_with fail
     refine fY ?_;repeat (go_big_quiet_step (fail))
     refine gc fun Q b=>?_;have c:=s.t b;have k:=ψ V b;cases m:keep h true false with
     |true =>
      rw[m]at d f;go_wp2_with (first|(go_at_fn g;refine(d.o _ c).M ?_;rintro e w' ⟨rfl,rfl⟩)|(at_builtin;refine ϻ rfl _ _ _ _ rfl _ 3 ab _ 1 8 gl hi Y Z aa rfl (D ac z ad) z _ rfl (k.A _) _ 1 [G h] rfl (gh gl Q _ 1 1 1 rfl (X.o h)) ώ U (by have:=c.size;simp;omega) ?_;intro ae N K H _ _))
      have n:BQ w N:=(c.al _).grown H (by have:=c.size;simp;omega) (fun M I=>(k.lt M I).1);go_wp2;go_roundw
      .exact⟨j,_,z+1,r,_,p++[h],⟨by have:=a.o.1;simpa using this,a.o.2.1,by rw[σ,a.o.2.2];rfl⟩,U,by show _=_;rw[f.o];simp,(io t.o).2 W,u.o,rfl,rfl,by rw[mP];exact K,n⟩
      simp[gn];try omega
     |false =>
      rw[m]at d f;go_wp2_with (go_at_fn g;refine(d.o _ c).M ?_;rintro e w' ⟨rfl,rfl⟩)
      go_roundw
      .exact⟨j,_,z,r,_,p,⟨by have:=a.o.1;simpa using this,a.o.2.1,a.o.2.2⟩,U,by show _=_;rw[f.o];simp,(io t.o).2 W,u.o,rfl,rfl,k,c⟩
      simp[gn];try omega
   .by_cases a2:q<h
    .have ax:=a2
     obtain⟨j,rfl⟩:∃ j,x=j+1:=⟨L r,by have:=a.o.1;simp at this;omega⟩;obtain⟨b1,aA,rfl,E,ay⟩:=qQ t.o;have aF:((j:Int)+1==0)=false:=fU.2 U;obtain⟨i,rfl⟩:∃ i,y=i+1:=⟨L l,by have:=a.o.2.1;simp at this;omega⟩;obtain⟨b2,aB,rfl,F,az⟩:=qQ u.o;have aV:(0:Int)<((i+1:Nat):Int):=U;have aS:(((i+1:Nat):Int)==0)=false:=fU.2 U;have aG:((i:Int)+1==0)=false:=fU.2 U;have aT:¬(i:Int)+1=0:=U;have aU:(1:Int)<=((i+1:Nat):Int):=U;have l1:decide (h<=q)=false:=kE U;have l2:q<=h:=U;have d:=Zh (ak.o q false true);have f:Hid (hD keep A B=p++((if keep q false true then[q]else[])++hD keep (h::r) l)):=by show _=_;rw[aj.o,MG keep r l ax]
     have P:=Ι (ζ o E);have rb:=Ι (ζ o F);go_wp2_with fail
     refine fY ?_;repeat (go_big_quiet_step (fail))
     refine gc fun al b=>?_;have R:=o.t b;have ag:=ψ ai b;have P:=Ι (ζ R E);have rb:=Ι (ζ R F);go_wp2_with fail
     refine fY ?_;repeat (go_big_quiet_step (fail))
     refine gc fun am b=>?_;have s:=R.t b;have V:=ψ ag b;by_cases T:ar=1
     .subst T
      obtain rfl:i=0:=U;have P:=Ι (ζ s E);have rb:=Ι (ζ s F);go_wp2_with fail
      refine fY ?_;repeat (go_big_quiet_step (fail))
      refine gc fun Q b=>?_;have c:=s.t b;have k:=ψ V b;cases m:keep q false true with
      |true =>
       rw[m]at d f;go_wp2_with (first|(go_at_fn g;refine(d.o _ c).M ?_;rintro e w' ⟨rfl,rfl⟩)|(at_builtin;refine ϻ rfl _ _ _ _ rfl _ 3 ab _ 1 8 gl hi Y Z aa rfl (D ac z ad) z _ rfl (k.A _) _ 1 [G q] rfl (gh gl Q _ 1 1 1 rfl (X.o q)) ώ U (by have:=c.size;simp;omega) ?_;intro ae N K H _ _))
       have n:BQ w N:=(c.al _).grown H (by have:=c.size;simp;omega) (fun M I=>(k.lt M I).1);go_wp2;go_roundw
       .exact⟨ _,0,z+1,_,l,p++[q],⟨a.o.1,by have:=a.o.2.1;simpa using this,by rw[σ,a.o.2.2];rfl⟩,U,by show _=_;rw[f.o];simp,t.o,(io u.o).1 rfl,rfl,rfl,by rw[mP];exact K,n⟩
       simp[gn];try omega
      |false =>
       rw[m]at d f;go_wp2_with (go_at_fn g;refine(d.o _ c).M ?_;rintro e w' ⟨rfl,rfl⟩)
       go_roundw
       .exact⟨ _,0,z,_,l,p,⟨a.o.1,by have:=a.o.2.1;simpa using this,a.o.2.2⟩,U,by show _=_;rw[f.o];simp,t.o,(io u.o).1 rfl,rfl,rfl,k,c⟩
       simp[gn];try omega
     .have P:=Ι (ζ s E)
      have rb:=Ι (ζ s F);go_wp2_with fail
      refine fY ?_;repeat (go_big_quiet_step (fail))
      refine gc fun Q b=>?_;have c:=s.t b;have k:=ψ V b;cases m:keep q false true with
      |true =>
       rw[m]at d f;go_wp2_with (first|(go_at_fn g;refine(d.o _ c).M ?_;rintro e w' ⟨rfl,rfl⟩)|(at_builtin;refine ϻ rfl _ _ _ _ rfl _ 3 ab _ 1 8 gl hi Y Z aa rfl (D ac z ad) z _ rfl (k.A _) _ 1 [G q] rfl (gh gl Q _ 1 1 1 rfl (X.o q)) ώ U (by have:=c.size;simp;omega) ?_;intro ae N K H _ _))
       have n:BQ w N:=(c.al _).grown H (by have:=c.size;simp;omega) (fun M I=>(k.lt M I).1);go_wp2;go_roundw
       .exact⟨ _,i,z+1,_,l,p++[q],⟨a.o.1,by have:=a.o.2.1;simpa using this,by rw[σ,a.o.2.2];rfl⟩,U,by show _=_;rw[f.o];simp,t.o,(io u.o).2 T,rfl,rfl,by rw[mP];exact K,n⟩
       simp[gn];try omega
      |false =>
       rw[m]at d f;go_wp2_with (go_at_fn g;refine(d.o _ c).M ?_;rintro e w' ⟨rfl,rfl⟩)
       go_roundw
       .exact⟨ _,i,z,_,l,p,⟨a.o.1,by have:=a.o.2.1;simpa using this,a.o.2.2⟩,U,by show _=_;rw[f.o];simp,t.o,(io u.o).2 T,rfl,rfl,k,c⟩
       simp[gn];try omega
    .obtain rfl:h=q:=U
     obtain⟨j,rfl⟩:∃ j,x=j+1:=⟨L r,by have:=a.o.1;simp at this;omega⟩;obtain⟨b1,aA,rfl,E,ay⟩:=qQ t.o;have aR:(0:Int)<((j+1:Nat):Int):=U;have aO:(((j+1:Nat):Int)==0)=false:=fU.2 U;have aF:((j:Int)+1==0)=false:=fU.2 U;have aP:¬(j:Int)+1=0:=U;have aQ:(1:Int)<=((j+1:Nat):Int):=U;obtain⟨i,rfl⟩:∃ i,y=i+1:=⟨L l,by have:=a.o.2.1;simp at this;omega⟩;obtain⟨b2,aB,rfl,F,az⟩:=qQ u.o;have aV:(0:Int)<((i+1:Nat):Int):=U;have aS:(((i+1:Nat):Int)==0)=false:=fU.2 U;have aG:((i:Int)+1==0)=false:=fU.2 U;have aT:¬(i:Int)+1=0:=U;have aU:(1:Int)<=((i+1:Nat):Int):=U;have d:=Zh (ak.o h true true);have f:Hid (hD keep A B=p++((if keep h true true then[h]else[])++hD keep r l)):=by show _=_;rw[aj.o,MF keep h r l]
     have P:=Ι (ζ o E);have rb:=Ι (ζ o F);go_wp2_with fail
     refine fY ?_;repeat (go_big_quiet_step (fail))
     refine gc fun al b=>?_;have R:=o.t b;have ag:=ψ ai b;have P:=Ι (ζ R E);have rb:=Ι (ζ R F);go_wp2_with fail
     refine fY ?_;repeat (go_big_quiet_step (fail))
     refine gc fun am b=>?_;have s:=R.t b;have V:=ψ ag b;by_cases W:aE=1
     .subst W
      obtain rfl:j=0:=U;have P:=Ι (ζ s E);have rb:=Ι (ζ s F);go_wp2_with fail
      refine fY ?_;repeat (go_big_quiet_step (fail))
      refine gc fun Q b=>?_;have c:=s.t b;have k:=ψ V b;by_cases T:ar=1
      .subst T
       obtain rfl:i=0:=U;have P:=Ι (ζ c E);have rb:=Ι (ζ c F);go_wp2_with fail
       refine fY ?_;repeat (go_big_quiet_step (fail))
       refine gc fun ah b=>?_;have v:=c.t b;have S:=ψ k b;cases m:keep h true true with
       |true =>
        rw[m]at d f;go_wp2_with (first|(go_at_fn g;refine(d.o _ v).M ?_;rintro e w' ⟨rfl,rfl⟩)|(at_builtin;refine ϻ rfl _ _ _ _ rfl _ 3 ab _ 1 8 gl hi Y Z aa rfl (D ac z ad) z _ rfl (S.A _) _ 1 [G h] rfl (gh gl ah _ 1 1 1 rfl (X.o h)) ώ U (by have:=v.size;simp;omega) ?_;intro ae N K H _ _))
        have n:BQ w N:=(v.al _).grown H (by have:=v.size;simp;omega) (fun M I=>(S.lt M I).1);go_wp2;go_roundw
        .exact⟨0,0,z+1,r,l,p++[h],⟨by have:=a.o.1;simpa using this,by have:=a.o.2.1;simpa using this,by rw[σ,a.o.2.2];rfl⟩,U,by show _=_;rw[f.o];simp,(io t.o).1 rfl,(io u.o).1 rfl,rfl,rfl,by rw[mP];exact K,n⟩
        simp[gn];try omega
       |false =>
        rw[m]at d f;go_wp2_with (go_at_fn g;refine(d.o _ v).M ?_;rintro e w' ⟨rfl,rfl⟩)
        go_roundw
        .exact⟨0,0,z,r,l,p,⟨by have:=a.o.1;simpa using this,by have:=a.o.2.1;simpa using this,a.o.2.2⟩,U,by show _=_;rw[f.o];simp,(io t.o).1 rfl,(io u.o).1 rfl,rfl,rfl,S,v⟩
        simp[gn];try omega
      .have P:=Ι (ζ c E)
       have rb:=Ι (ζ c F);go_wp2_with fail
       refine fY ?_;repeat (go_big_quiet_step (fail))
       refine gc fun ah b=>?_;have v:=c.t b;have S:=ψ k b;cases m:keep h true true with
       |true =>
        rw[m]at d f;go_wp2_with (first|(go_at_fn g;refine(d.o _ v).M ?_;rintro e w' ⟨rfl,rfl⟩)|(at_builtin;refine ϻ rfl _ _ _ _ rfl _ 3 ab _ 1 8 gl hi Y Z aa rfl (D ac z ad) z _ rfl (S.A _) _ 1 [G h] rfl (gh gl ah _ 1 1 1 rfl (X.o h)) ώ U (by have:=v.size;simp;omega) ?_;intro ae N K H _ _))
        have n:BQ w N:=(v.al _).grown H (by have:=v.size;simp;omega) (fun M I=>(S.lt M I).1);go_wp2;go_roundw
        .exact⟨0,i,z+1,r,l,p++[h],⟨by have:=a.o.1;simpa using this,by have:=a.o.2.1;simpa using this,by rw[σ,a.o.2.2];rfl⟩,U,by show _=_;rw[f.o];simp,(io t.o).1 rfl,(io u.o).2 T,rfl,rfl,by rw[mP];exact K,n⟩
        simp[gn];try omega
       |false =>
        rw[m]at d f;go_wp2_with (go_at_fn g;refine(d.o _ v).M ?_;rintro e w' ⟨rfl,rfl⟩)
        go_roundw
        .exact⟨0,i,z,r,l,p,⟨by have:=a.o.1;simpa using this,by have:=a.o.2.1;simpa using this,a.o.2.2⟩,U,by show _=_;rw[f.o];simp,(io t.o).1 rfl,(io u.o).2 T,rfl,rfl,S,v⟩
        simp[gn];try omega
     .have P:=Ι (ζ s E)
      have rb:=Ι (ζ s F);go_wp2_with fail
      refine fY ?_;repeat (go_big_quiet_step (fail))
      refine gc fun Q b=>?_;have c:=s.t b;have k:=ψ V b;by_cases T:ar=1
      .subst T
       obtain rfl:i=0:=U;have P:=Ι (ζ c E);have rb:=Ι (ζ c F);go_wp2_with fail
       refine fY ?_;repeat (go_big_quiet_step (fail))
       refine gc fun ah b=>?_;have v:=c.t b;have S:=ψ k b;cases m:keep h true true with
       |true =>
        rw[m]at d f;go_wp2_with (first|(go_at_fn g;refine(d.o _ v).M ?_;rintro e w' ⟨rfl,rfl⟩)|(at_builtin;refine ϻ rfl _ _ _ _ rfl _ 3 ab _ 1 8 gl hi Y Z aa rfl (D ac z ad) z _ rfl (S.A _) _ 1 [G h] rfl (gh gl ah _ 1 1 1 rfl (X.o h)) ώ U (by have:=v.size;simp;omega) ?_;intro ae N K H _ _))
        have n:BQ w N:=(v.al _).grown H (by have:=v.size;simp;omega) (fun M I=>(S.lt M I).1);go_wp2;go_roundw
        .exact⟨j,0,z+1,r,l,p++[h],⟨by have:=a.o.1;simpa using this,by have:=a.o.2.1;simpa using this,by rw[σ,a.o.2.2];rfl⟩,U,by show _=_;rw[f.o];simp,(io t.o).2 W,(io u.o).1 rfl,rfl,rfl,by rw[mP];exact K,n⟩
        simp[gn];try omega
       |false =>
        rw[m]at d f;go_wp2_with (go_at_fn g;refine(d.o _ v).M ?_;rintro e w' ⟨rfl,rfl⟩)
        go_roundw
        .exact⟨j,0,z,r,l,p,⟨by have:=a.o.1;simpa using this,by have:=a.o.2.1;simpa using this,a.o.2.2⟩,U,by show _=_;rw[f.o];simp,(io t.o).2 W,(io u.o).1 rfl,rfl,rfl,S,v⟩
        simp[gn];try omega
      .have P:=Ι (ζ c E)
       have rb:=Ι (ζ c F);go_wp2_with fail
       refine fY ?_;repeat (go_big_quiet_step (fail))
       refine gc fun ah b=>?_;have v:=c.t b;have S:=ψ k b;cases m:keep h true true with
       |true =>
        rw[m]at d f;go_wp2_with (first|(go_at_fn g;refine(d.o _ v).M ?_;rintro e w' ⟨rfl,rfl⟩)|(at_builtin;refine ϻ rfl _ _ _ _ rfl _ 3 ab _ 1 8 gl hi Y Z aa rfl (D ac z ad) z _ rfl (S.A _) _ 1 [G h] rfl (gh gl ah _ 1 1 1 rfl (X.o h)) ώ U (by have:=v.size;simp;omega) ?_;intro ae N K H _ _))
        have n:BQ w N:=(v.al _).grown H (by have:=v.size;simp;omega) (fun M I=>(S.lt M I).1);go_wp2;go_roundw
        .exact⟨j,i,z+1,r,l,p++[h],⟨by have:=a.o.1;simpa using this,by have:=a.o.2.1;simpa using this,by rw[σ,a.o.2.2];rfl⟩,U,by show _=_;rw[f.o];simp,(io t.o).2 W,(io u.o).2 T,rfl,rfl,by rw[mP];exact K,n⟩
        simp[gn];try omega
       |false =>
        rw[m]at d f;go_wp2_with (go_at_fn g;refine(d.o _ v).M ?_;rintro e w' ⟨rfl,rfl⟩)
        go_roundw
        .exact⟨j,i,z,r,l,p,⟨by have:=a.o.1;simpa using this,by have:=a.o.2.1;simpa using this,a.o.2.2⟩,U,by show _=_;rw[f.o];simp,(io t.o).2 W,(io u.o).2 T,rfl,rfl,S,v⟩
        simp[gn];try omega
def KX (_:Int) (x y:Bool):Bool:=x && y
def uX (_:Int) (x y:Bool):Bool:=x||y
def KY (_:Int) (x y:Bool):Bool:=x && !y
def JD (n x y) (a:β):Calls prog 244 #[G n,.bool x,.bool y] a fun e w'=>e=ŗ (.bool (uX n x y))/\a=w':=by
 cases x<;>cases y;all_goals
  go_enter func244,ntmps244;go_wp2;exact gH
section
variable (va vb:ε) (na nb:Nat) (A B:List Int) (w:β) (hna:L A=na) (hnb:L B=nb) (ha:Rd w va na 1 (τ A)) (hb:Rd w vb nb 1 (τ B)) (hA:ge A=true) (hB:ge B=true) (hn:na+nb<=100000)
include hna hnb ha hb hA hB hn
def JE:Calls prog 185 #[va,vb] w (iJ w 3 1 (L (hD uX A B)) (τ (hD uX A B))):=by
 have d:∀ a w,(callFunc 244 a).run prog w=.ok (.enter 244 a) w:=iW func244 ϋ rfl;have b:=Zh (EA uX 244 #[] va vb na nb A B w d (fun n x y c _=>JD n x y c) hna hnb ha hb hA hB hn);go_enter func185,ntmps185;go_wp2_with (go_at_call 242;refine b.o.M ?_;rintro e i ⟨h,rfl,g,f⟩)
 go_ret;exact⟨_,rfl,g,f⟩
end
def KG (n x y f t bx) (c:β) (g:c.cell? ⟨bx,0,O⟩=J (G f)) (h:c.cell? ⟨bx,1,O⟩=J (G t)) :
  Calls prog 323 #[G n,.bool x,.bool y,þ (J ⟨bx,0,O⟩)] c fun e w'=>e=ŗ (.bool (jd f t n))/\c=w':=by
 by_cases a:f<=n
 .by_cases d:n<t
  .have b:Hid (jd f t n=true):=by show _=_;simp[jd,a,d]
   go_enter func323,ntmps323;go_wp2;go_ret;exact⟨by rw[b.o];first|rfl|simp[a,d],rfl⟩
  .have b:Hid (jd f t n=false):=by show _=_;simp[jd,d]
   go_enter func323,ntmps323;go_wp2;go_ret;exact⟨by rw[b.o];first|rfl|simp[a,d],rfl⟩
 .have b:Hid (jd f t n=false):=by show _=_;simp[jd,a]
  go_enter func323,ntmps323;go_wp2;go_ret;exact⟨by rw[b.o];first|rfl|simp[a],rfl⟩
def KJ (u:ε) (na A f t) (w:β) (s:L A=na) (v:Rd w u na 1 (τ A)) (z:ge A=true) (B:na<=100000) :
  Calls prog 307 #[u,ā #[G f,G t]] w (iJ w 3 1 (L (A.filter (jd f t))) (τ (A.filter (jd f t)))):=by
 have l:∀ b w,(callFunc 323 b).run prog w=.ok (.enter 323 b) w:=iW func323 ϋ rfl;have d:BQ w (å w (C #[G f,G t] 89)):=ġ;have g:=φ w (C #[G f,G t] 89);have c0:(å w (C #[G f,G t] 89)).cell? ⟨w.heap.size,0,O⟩=J (G f):=by rw[ξ _ _ _ _ _ _ g];rfl
 have c1:(å w (C #[G f,G t] 89)).cell? ⟨w.heap.size,1,O⟩=J (G t):=by rw[ξ _ _ _ _ _ _ g];rfl
 have h:=EA (fun n _ _=>jd f t n) 323 #[þ (J ⟨w.heap.size,0,O⟩)] u (D O 0 0) na 0 A [] (å w (C #[G f,G t] 89)) l
  (fun n x y k c=>KG n x y f t w.heap.size k (ζ c c0) (ζ c c1)) s rfl (v.B d) ⟨rfl,Ζ _,.inl ⟨_,_,rfl,rfl⟩⟩ z rfl U
 rw[MK]at h;have⟨j,i⟩:=π h d;have p:w.heap.size<=(å w (C #[G f,G t] 89)).heap.size:=ύ;have a:=Zh p;go_enter func307,ntmps307;go_wp2_with (go_at_call 242;refine j.o.M ?_;rintro e r ⟨q,rfl,o,m⟩)
 go_ret;exact⟨_,rfl,gX o a.o,i.o.trans (m.M a.o)⟩
def yM (n:Nat) (e:Ending):Prop:= ∃ a c,e=ŗ (D a n c)
def KT (a:ε) (na A f t) (w:β) (j:L A=na) (g:Rd w a na 1 (τ A)) (d:ge A=true) (i:na<=100000) :
  Calls prog 307 #[a,ā #[G f,G t]] w fun e w'=>yM (L (A.filter (jd f t))) e/\BQ w w':=by
 refine(KJ a na A f t w j g d i).M ?_;rintro e m ⟨l,rfl,k,h⟩;obtain⟨b,c,rfl,-⟩:=ku rfl (Rd.of_own k);exact⟨⟨b,c,rfl⟩,h⟩
def Fz (f t:Int) (a6:ε) (n:Nat) (d:List ϰ) (w:β) (aq:ϭ w) (h:fN w a6 n d) (ah:∀ e∈d,L e.1<=100000/\L e.2<=100000) :
  Calls prog 259 #[ā #[G f,G t,a6]] w fun e w'=>e=ŗ (.bool (lZ f t d))/\BQ w w':=by
 obtain⟨l,c,rfl,a1,ax⟩:=ic h;have⟨al,aA⟩:=π h.1 ah;have ad:BQ w (å w (C #[G f,G t,D l n c] 92)):=ġ;have HW:=Zh (fun a=>Gs f t a);have Q:=Zh (fun a (x:BQ w a)=>zz (D l n c) n d a (aq.B x) (h.B x) (fun e ag=>(ah e ag).1));have P:Hid (∀ b,(d.all fun e=>e.2.all (jd f t))=b->lZ f t d=(me f t && iC d && b)):=by rintro b rfl;rfl
 have p:=φ w (C #[G f,G t,D l n c] 92);have aB:(å w (C #[G f,G t,D l n c] 92)).cell? ⟨w.heap.size,0,O⟩=J (G f):=by rw[ξ _ _ _ _ _ _ p];rfl
 have aC:(å w (C #[G f,G t,D l n c] 92)).cell? ⟨w.heap.size,1,O⟩=J (G t):=by rw[ξ _ _ _ _ _ _ p];rfl
 have ac:(å w (C #[G f,G t,D l n c] 92)).cell? ⟨w.heap.size,2,O⟩=J (D l n c):=by rw[ξ _ _ _ _ _ _ p];rfl
 have a2:w.heap.size<(å w (C #[G f,G t,D l n c] 92)).heap.size:=ύ;clear h ah aq p;go_enter func259,ntmps259;go_wp2_with fail
 generalize aF:(å w (C #[G f,G t,D l n c] 92))=aV at *;clear aF;cases m:me f t with
 |false =>
  have A:Hid (lZ f t d=false):=by show _=_;rw[P.o _ rfl,m];rfl
  rw[m]at HW;clear m;go_wp2_with (go_at_call 306;refine(HW.o _).M ?_;rintro e aw ⟨rfl,o⟩)
  go_ret;exact⟨by rw[A.o];rfl,ad.t o⟩
 |true =>
  cases u:iC d with
  |false =>
   have A:Hid (lZ f t d=false):=by show _=_;rw[P.o _ rfl,m,u];rfl
   rw[m]at HW;rw[u]at Q;clear m u;go_wp2_with (first|(go_at_call 306;refine(HW.o _).M ?_;rintro e aw ⟨rfl,o⟩;have H:=ad.t o;have r2:=ζ o ac)|(go_at_call 230;refine(Q.o _ H).M ?_;rintro e r ⟨rfl,V⟩;have z:=H.t V))
   go_ret;exact⟨by rw[A.o];rfl,z⟩
  |true =>
   have ay:Hid (∀ q (hi:q<L d),ge d[q].2=true):=fun q hi=>((zJ _).1 (Jq u q hi)).2.1;have A:Hid (∀ b,(d.all fun e=>e.2.all (jd f t))=b->lZ f t d=b):=by rintro b s;rw[P.o _ s,m,u];rfl
   rw[m]at HW;rw[u]at Q;clear m u P;go_wp2_with (first|(go_at_call 306;refine(HW.o _).M ?_;rintro e aw ⟨rfl,o⟩;have H:=ad.t o;have r2:=ζ o ac)|(go_at_call 230;refine(Q.o _ H).M ?_;rintro e r ⟨rfl,V⟩;have z:=H.t V;have ae:=o.t V;have aO:=ζ ae aB;have aP:=ζ ae aC;have a4:=ζ ae ac))
   go_loopw [18] (fun q wr=>∃ j:Nat,j<=n/\q=G j/\Hid (∀ k (v:k<L d),k<j->d[k].2.all (jd f t)=true)/\BQ r wr) (fun q _=>n - (intOf q).toNat)
   .exact⟨0,Ζ _,rfl,fun k v h=>U,ρ _ _⟩
   obtain⟨j,aZ,rfl,aj,F⟩:=hrel;have aJ:=F.size;by_cases a0:j<n
   .have W:j<L d:=ι al.o
    obtain⟨b,off,da,dc,rfl,c1,c2,K⟩:=ax.o j W;have aK:(j:Int)<(n:Int):=U;have a3:(0:Int)<=(j:Int):=U;have ab:Hid (d[j].2.all (jd f t)=true->∀ k (v:k<L d),k<j+1->d[k].2.all (jd f t)=true):=fun g k v h=>by
     by_cases e:k=j
     .subst e;exact g
     .exact aj.o k v U
    have Z:Hid (d[j].2.all (jd f t)=false->lZ f t d=false):=fun g=>A.o false (by
     rw[nf]
     intro ao
     rw[kT]at ao
     rw[ao _ (Ψ W)]at g
     cases g)
    have Y:=ay.o j W;have N:=(aA.o _ (Ψ W)).2;have ai:BQ w wr:=z.t F;have S:=ζ ai c1;have T:=ζ ai c2;obtain⟨⟨y,E⟩,ar⟩:∃ a5,a5=d[j]:=⟨_,rfl⟩;rw[<-ar]at S T ab Z Y N K;simp only at S T ab Z Y N K;clear ar c1 c2;obtain⟨i,X⟩:∃ i,i=L E:=⟨_,rfl⟩;rw[<-X]at T K N;have ak:Hid (∀ a,BQ w a->Calls prog 307 #[D da i dc,ā #[G f,G t]] a fun e w'=>yM (L (E.filter (jd f t))) e/\BQ a w'):=fun a x=>KT (D da i dc) i E f t a X.symm (K.B x) Y N;have aa:Hid (L (E.filter (jd f t))=i↔E.all (jd f t)=true):=by rw[X];exact JT _ _
    clear X Y N K;unfold Ϫ at S;have au:=ζ F aO;have p1:=ζ F aP;have p:=φ wr (C #[š (δ y),D da i dc] 130);have aY:(å wr (C #[š (δ y),D da i dc] 130)).cell? ⟨wr.heap.size,0,O⟩=J (š (δ y)):=by rw[ξ _ _ _ _ _ _ p];rfl
    have aD:(å wr (C #[š (δ y),D da i dc] 130)).cell? ⟨wr.heap.size,1,O⟩=J (D da i dc):=by rw[ξ _ _ _ _ _ _ p];rfl
    have af:BQ wr (å wr (C #[š (δ y),D da i dc] 130)):=ġ;have aM:=ζ af au;have aN:=ζ af p1;have aE:BQ r (å wr (C #[š (δ y),D da i dc] 130)):=F.A aJ _;clear p af au p1;obtain⟨g,hg⟩:∃ g,g=L (E.filter (jd f t)):=⟨_,rfl⟩;rw[<-hg]at ak aa;clear hg;go_wp2_with fail
    generalize aG:(å wr (C #[š (δ y),D da i dc] 130))=R at *;clear aG S T;go_wp2_with fail
    have az:Hid (∀ a,(BQ r a/\R.heap.size<=a.heap.size/\a.cell? ⟨w.heap.size,0,O⟩=J (G f)/\a.cell? ⟨w.heap.size,1,O⟩=J (G t)/\a.cell? ⟨wr.heap.size,1,O⟩=J (D da i dc))->Calls prog 307 #[D da i dc,ā #[G f,G t]] a fun e B=>yM g e/\(BQ r B/\R.heap.size<=B.heap.size/\B.cell? ⟨w.heap.size,0,O⟩=J (G f)/\B.cell? ⟨w.heap.size,1,O⟩=J (G t)/\B.cell? ⟨wr.heap.size,1,O⟩=J (D da i dc))):=fun a ⟨av,aQ,aR,aS,aT⟩=>by
     refine(ak.o a (z.t av)).M ?_;rintro e B ⟨aH,s⟩;exact⟨aH,av.t s,gj aQ s.size,ζ s aR,ζ s aS,ζ s aT⟩
    have aI:BQ r R.drew:=aE.drew;go_region_held3 (fun a=>BQ r a/\R.heap.size<=a.heap.size/\a.cell? ⟨w.heap.size,0,O⟩=J (G f)/\a.cell? ⟨w.heap.size,1,O⟩=J (G t)/\a.cell? ⟨wr.heap.size,1,O⟩=J (D da i dc))
     (first|exact⟨aI,NZ,aM,aN,aD⟩|exact am|assumption)
     ((go_at_call 307;refine(az.o _ Ϙ).M ?_;rintro e aU ⟨⟨aW,aX,rfl⟩,am⟩))
    have an:BQ r aU:=am.1;by_cases M:g=i
    .have aL:((g:Int) !=(i:Int))=false:=by rw[M];simp
     have I:=Zh (ab.o (aa.o.1 M));clear M;go_wp2;go_roundw
     .exact⟨j+1,U,ϕ,I.o,an⟩
     exact ω
    .have aL:((g:Int) !=(i:Int))=true:=by rw[bne_iff_ne];omega
     have I:Hid (lZ f t d=false):=Z.o (by rw[nf];exact fun g=>M (aa.o.2 g));clear M;go_wp2;go_ret;exact⟨by rw[I.o];rfl,z.t an⟩
   .have aK:¬(j:Int)<(n:Int):=U
    have ap:(d.all fun e=>e.2.all (jd f t))=true:=by
     rw[kT];intro e ag;obtain⟨k,v,rfl⟩:=wh.1 ag;exact aj.o k v (ι al.o)
    have I:=Zh (A.o _ ap);clear ap;go_wp2;go_ret;exact⟨by rw[I.o];rfl,z.t F⟩
