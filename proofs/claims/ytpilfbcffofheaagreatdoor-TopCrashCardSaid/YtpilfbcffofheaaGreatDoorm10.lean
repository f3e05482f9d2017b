/- Part 10 of the proof. -/
import Derived.Test.YtpilfbcffofheaaGreatDoorm05
set_option linter.unusedVariables false
set_option linter.unusedSimpArgs false
set_option maxRecDepth 100000
set_option maxHeartbeats 16000000
namespace Go.Proofs.YtpilfbcffofheaaGreatDoor
open Go.Proofs.Tryz Go.RowKit Go.Sort
open Value renaming slice->D
open Ending renaming returned->ŗ
open List renaming length->L
theorem Dk (keep:Int->Bool->Bool->Bool) (g:Nat) (aW:Array ε) (aG aH:ε) (aq nb:Nat) (A aa:List Int) (w:β) (bd:∀ args w,(callFunc g args).run prog w=.ok (.enter g args) w)
  (aZ:∀ n x y am,BQ w am->Calls prog g (#[IZ n,.bool x,.bool y]++aW) am fun e w'=>e=ŗ (.bool (keep n x y))/\am=w')
  (av:L A=aq) (aw:L aa=nb) (ar:Rd w aG aq 1 (τ A)) (au:Rd w aH nb 1 (τ aa)) (aX:fT A=true) (aY:fT aa=true) (bg:aq+nb<=100000) :
  Calls prog 242 #[aG,aH,.func (.func g) #[] aW] w (jZ w 3 1 (L (iH keep A aa)) (τ (iH keep A aa))):=by
 obtain⟨ai,hi,af,ag,ah⟩:=ϯ yC;have N:prog.follows .mixedOrders=true:=ϋ;have aU:=Zh (fun am (aA:BQ w am)=>rJ aG aq A am av (ar.below aA));have aV:=Zh (fun am (aA:BQ w am)=>rJ aH nb aa am aw (au.below aA));rw[aX]at aU;rw[aY]at aV;obtain⟨a9,bb,rfl,be,-⟩:=jQ av ar;obtain⟨ba,bc,rfl,bf,-⟩:=jQ aw au;have ap:=Zh aZ;have ad:Hid (∀ z:Int,∀ a1∈[IZ z],a1.oneCell'=true):=fun z a1 a0=>by simp at a0;subst a0;rfl
 have a2:=Zh ar;have a3:=Zh au;have aT:=Zh (Γ av aw);clear aX aY aZ ar au av aw;go_enter func242,ntmps242;go_wp2_with (first|(go_at_call 180;with_reducible refine(aU.o _ RZ).mono ?_;rintro e w' ⟨rfl,rfl⟩)|(go_at_call 180;with_reducible refine(aV.o _ RZ).mono ?_;rintro e w' ⟨rfl,rfl⟩))
 go_loopw [0,1,7] (fun ax ay o wr=>∃ (x y z:Nat) (u s E:List Int),Hid (L u=x/\L s=y/\L E=z)/\x+y+z<=100000/\Hid (iH keep A aa=E++iH keep u s)/\Hid (Rd w ax x 1 (τ u))/\Hid (Rd w ay y 1 (τ s))/\ju ax=x/\ju ay=y/\wr.ownsRow w.heap.size 3 1 o z (τ E)/\BQ w wr) (fun ax ay _ _=>ju ax+ju ay)
 case atStart=>exact⟨aq,nb,0,A,aa,[],⟨aT.o.1,aT.o.2,rfl⟩,ϊ,rfl,a2.o,a3.o,rfl,rfl,hZ _ _ _ _,φ _ _⟩
 case round =>
  obtain⟨x,y,z,u,s,E,b,bh,ao,F,G,a6,a7,ae,W⟩:=hrel;have bi:=W.size;obtain⟨bj,aI,rfl,-,-⟩:=jQ b.o.1 F.o;obtain⟨bk,az,rfl,-,-⟩:=jQ b.o.2.1 G.o;obtain⟨aj,ak,rfl⟩:=Θ ae;clear a6 a7;cases u with
  |nil =>
   obtain rfl:0=x:=b.o.1;cases s with
   |nil =>
    obtain rfl:0=y:=b.o.2.1;have a5:Hid (iH keep A aa=E):=by show _=_;rw[ao.o,KN,im]
    have a4:=Zh b.o.2.2;go_wp2;go_ret;rw[a5.o];exact⟨_,rfl,by rw[a4.o];exact ae,W⟩
   |cons q s =>
    obtain⟨m,rfl⟩:∃ m,y=m+1:=⟨L s,by have:=b.o.2.1;simp at this;omega⟩;obtain⟨b2,aF,rfl,Q,aD⟩:=Dv G.o;have aS:(0:Int)<((m+1:Nat):Int):=ϊ;have aO:(((m+1:Nat):Int)==0)=false:=gl.2 ϊ;have aP:((m:Int)+1==0)=false:=gl.2 ϊ;have aQ:¬(m:Int)+1=0:=ϊ;have aR:(1:Int)<=((m+1:Nat):Int):=ϊ;have i:=Zh (ap.o q false true);have j:Hid (iH keep A aa=E++((if keep q false true then[q]else[])++iH keep [] s)):=by show _=_;rw[ao.o,KJ keep q s]
    have rb:=ϻ (ζ W Q);go_wp2_with fail
    refine jj N ϋ ?_;repeat (go_big_quiet_step (fail))
    refine jk ?_;intro ab l;obtain⟨⟨c,osq⟩,d⟩:=l;have I:=W.trans ((jl wr c osq).mono W.size);have X:=Υ ae (jl wr c osq);rw[<-d]at I X;clear d ae rb;have rb:=ϻ (ζ I Q);go_wp2_with fail
    refine jj N ϋ ?_;repeat (go_big_quiet_step (fail))
    refine jk ?_;intro M l;obtain⟨⟨c,osq⟩,d⟩:=l;have r:=I.trans ((jl ab c osq).mono I.size);have H:=Υ X (jl ab c osq);rw[<-d]at r H;clear d X rb;by_cases Z:az=1
    .subst Z
     obtain rfl:m=0:=ϊ;have rb:=ϻ (ζ r Q);go_wp2_with fail
     refine jj N ϋ ?_;repeat (go_big_quiet_step (fail))
     refine jk ?_;intro K l;obtain⟨⟨c,osq⟩,d⟩:=l;have a:=r.trans ((jl M c osq).mono r.size);have k:=Υ H (jl M c osq);rw[<-d]at a k;clear d H rb;cases f:keep q false true with
     |true =>
      rw[f]at i j;clear f;go_wp2_with (first|(go_at_fn g;refine(i.o _ a).mono ?_;rintro e w' ⟨rfl,rfl⟩)|(at_builtin;refine gn rfl _ _ _ _ rfl w.heap.size 3 ai _ 1 8 jm hi af ag ah rfl (D aj z ak) z _ rfl (k.alloc _) _ 1 [IZ q] rfl (ig jm K _ 1 1 1 rfl (ad.o q)) ώ ϊ (by have:=a.size;simp;omega) ?_;intro al V T B _ _))
      have R:BQ w V:=(a.alloc a.size _).grown B (by have:=a.size;simp;omega) (fun U S=>(k.lt U S).1);clear B;go_wp2;go_roundw;case rel=>exact⟨0,0,z+1,[],s,E++[q],⟨b.o.1,by have:=b.o.2.1;simpa using this,by rw[ω,b.o.2.2];rfl⟩,ϊ,by show _=_;rw[j.o];simp,F.o,(pD G.o).1 rfl,rfl,rfl,by rw[Cl];exact T,R⟩
      case measure=>simp[ju];try omega
     |false =>
      rw[f]at i j;clear f;go_wp2_with (go_at_fn g;refine(i.o _ a).mono ?_;rintro e w' ⟨rfl,rfl⟩)
      go_roundw;case rel=>exact⟨0,0,z,[],s,E,⟨b.o.1,by have:=b.o.2.1;simpa using this,b.o.2.2⟩,ϊ,by show _=_;rw[j.o];simp,F.o,(pD G.o).1 rfl,rfl,rfl,k,a⟩
      case measure=>simp[ju];try omega
    .have rb:=ϻ (ζ r Q)
     go_wp2_with fail
     refine jj N ϋ ?_;repeat (go_big_quiet_step (fail))
     refine jk ?_;intro K l;obtain⟨⟨c,osq⟩,d⟩:=l;have a:=r.trans ((jl M c osq).mono r.size);have k:=Υ H (jl M c osq);rw[<-d]at a k;clear d H rb;cases f:keep q false true with
     |true =>
      rw[f]at i j;clear f;go_wp2_with (first|(go_at_fn g;refine(i.o _ a).mono ?_;rintro e w' ⟨rfl,rfl⟩)|(at_builtin;refine gn rfl _ _ _ _ rfl w.heap.size 3 ai _ 1 8 jm hi af ag ah rfl (D aj z ak) z _ rfl (k.alloc _) _ 1 [IZ q] rfl (ig jm K _ 1 1 1 rfl (ad.o q)) ώ ϊ (by have:=a.size;simp;omega) ?_;intro al V T B _ _))
      have R:BQ w V:=(a.alloc a.size _).grown B (by have:=a.size;simp;omega) (fun U S=>(k.lt U S).1);clear B;go_wp2;go_roundw;case rel=>exact⟨0,m,z+1,[],s,E++[q],⟨b.o.1,by have:=b.o.2.1;simpa using this,by rw[ω,b.o.2.2];rfl⟩,ϊ,by show _=_;rw[j.o];simp,F.o,(pD G.o).2 Z,rfl,rfl,by rw[Cl];exact T,R⟩
      case measure=>simp[ju];try omega
     |false =>
      rw[f]at i j;clear f;go_wp2_with (go_at_fn g;refine(i.o _ a).mono ?_;rintro e w' ⟨rfl,rfl⟩)
      go_roundw;case rel=>exact⟨0,m,z,[],s,E,⟨b.o.1,by have:=b.o.2.1;simpa using this,b.o.2.2⟩,ϊ,by show _=_;rw[j.o];simp,F.o,(pD G.o).2 Z,rfl,rfl,k,a⟩
      case measure=>simp[ju];try omega
  |cons h u =>
   cases s with
   |nil =>
    obtain rfl:0=y:=b.o.2.1;obtain⟨p,rfl⟩:∃ p,x=p+1:=⟨L u,by have:=b.o.1;simp at this;omega⟩;obtain⟨b1,aE,rfl,P,aC⟩:=Dv F.o;have aN:(0:Int)<((p+1:Nat):Int):=ϊ;have aJ:(((p+1:Nat):Int)==0)=false:=gl.2 ϊ;have aK:((p:Int)+1==0)=false:=gl.2 ϊ;have aL:¬(p:Int)+1=0:=ϊ;have aM:(1:Int)<=((p+1:Nat):Int):=ϊ;have i:=Zh (ap.o h true false);have j:Hid (iH keep A aa=E++((if keep h true false then[h]else[])++iH keep u [])):=by show _=_;rw[ao.o,KI keep h u]
    have t:=ϻ (ζ W P);go_wp2_with fail
    refine jj N ϋ ?_;repeat (go_big_quiet_step (fail))
    refine jk ?_;intro ab l;obtain⟨⟨c,osq⟩,d⟩:=l;have I:=W.trans ((jl wr c osq).mono W.size);have X:=Υ ae (jl wr c osq);rw[<-d]at I X;clear d ae t;have t:=ϻ (ζ I P);go_wp2_with fail
    refine jj N ϋ ?_;repeat (go_big_quiet_step (fail))
    refine jk ?_;intro M l;obtain⟨⟨c,osq⟩,d⟩:=l;have r:=I.trans ((jl ab c osq).mono I.size);have H:=Υ X (jl ab c osq);rw[<-d]at r H;clear d X t;by_cases ac:aI=1
    .subst ac
     obtain rfl:p=0:=ϊ;have t:=ϻ (ζ r P);go_wp2_with fail
     refine jj N ϋ ?_;repeat (go_big_quiet_step (fail))
     refine jk ?_;intro K l;obtain⟨⟨c,osq⟩,d⟩:=l;have a:=r.trans ((jl M c osq).mono r.size);have k:=Υ H (jl M c osq);rw[<-d]at a k;clear d H t;cases f:keep h true false with
     |true =>
      rw[f]at i j;clear f;go_wp2_with (first|(go_at_fn g;refine(i.o _ a).mono ?_;rintro e w' ⟨rfl,rfl⟩)|(at_builtin;refine gn rfl _ _ _ _ rfl w.heap.size 3 ai _ 1 8 jm hi af ag ah rfl (D aj z ak) z _ rfl (k.alloc _) _ 1 [IZ h] rfl (ig jm K _ 1 1 1 rfl (ad.o h)) ώ ϊ (by have:=a.size;simp;omega) ?_;intro al V T B _ _))
      have R:BQ w V:=(a.alloc a.size _).grown B (by have:=a.size;simp;omega) (fun U S=>(k.lt U S).1);clear B;go_wp2;go_roundw;case rel=>exact⟨0,0,z+1,u,[],E++[h],⟨by have:=b.o.1;simpa using this,b.o.2.1,by rw[ω,b.o.2.2];rfl⟩,ϊ,by show _=_;rw[j.o];simp,(pD F.o).1 rfl,G.o,rfl,rfl,by rw[Cl];exact T,R⟩
      case measure=>simp[ju];try omega
     |false =>
      rw[f]at i j;clear f;go_wp2_with (go_at_fn g;refine(i.o _ a).mono ?_;rintro e w' ⟨rfl,rfl⟩)
      go_roundw;case rel=>exact⟨0,0,z,u,[],E,⟨by have:=b.o.1;simpa using this,b.o.2.1,b.o.2.2⟩,ϊ,by show _=_;rw[j.o];simp,(pD F.o).1 rfl,G.o,rfl,rfl,k,a⟩
      case measure=>simp[ju];try omega
    .have t:=ϻ (ζ r P)
     go_wp2_with fail
     refine jj N ϋ ?_;repeat (go_big_quiet_step (fail))
     refine jk ?_;intro K l;obtain⟨⟨c,osq⟩,d⟩:=l;have a:=r.trans ((jl M c osq).mono r.size);have k:=Υ H (jl M c osq);rw[<-d]at a k;clear d H t;cases f:keep h true false with
     |true =>
      rw[f]at i j;clear f;go_wp2_with (first|(go_at_fn g;refine(i.o _ a).mono ?_;rintro e w' ⟨rfl,rfl⟩)|(at_builtin;refine gn rfl _ _ _ _ rfl w.heap.size 3 ai _ 1 8 jm hi af ag ah rfl (D aj z ak) z _ rfl (k.alloc _) _ 1 [IZ h] rfl (ig jm K _ 1 1 1 rfl (ad.o h)) ώ ϊ (by have:=a.size;simp;omega) ?_;intro al V T B _ _))
      have R:BQ w V:=(a.alloc a.size _).grown B (by have:=a.size;simp;omega) (fun U S=>(k.lt U S).1);clear B;go_wp2;go_roundw;case rel=>exact⟨p,0,z+1,u,[],E++[h],⟨by have:=b.o.1;simpa using this,b.o.2.1,by rw[ω,b.o.2.2];rfl⟩,ϊ,by show _=_;rw[j.o];simp,(pD F.o).2 ac,G.o,rfl,rfl,by rw[Cl];exact T,R⟩
      case measure=>simp[ju];try omega
     |false =>
      rw[f]at i j;clear f;go_wp2_with (go_at_fn g;refine(i.o _ a).mono ?_;rintro e w' ⟨rfl,rfl⟩)
      go_roundw;case rel=>exact⟨p,0,z,u,[],E,⟨by have:=b.o.1;simpa using this,b.o.2.1,b.o.2.2⟩,ϊ,by show _=_;rw[j.o];simp,(pD F.o).2 ac,G.o,rfl,rfl,k,a⟩
      case measure=>simp[ju];try omega
   |cons q s =>
    by_cases aB:h<q
    .obtain⟨p,rfl⟩:∃ p,x=p+1:=⟨L u,by have:=b.o.1;simp at this;omega⟩
     obtain⟨b1,aE,rfl,P,aC⟩:=Dv F.o;have aN:(0:Int)<((p+1:Nat):Int):=ϊ;have aJ:(((p+1:Nat):Int)==0)=false:=gl.2 ϊ;have aK:((p:Int)+1==0)=false:=gl.2 ϊ;have aL:¬(p:Int)+1=0:=ϊ;have aM:(1:Int)<=((p+1:Nat):Int):=ϊ;obtain⟨m,rfl⟩:∃ m,y=m+1:=⟨L s,by have:=b.o.2.1;simp at this;omega⟩;obtain⟨b2,aF,rfl,Q,aD⟩:=Dv G.o;have aS:(0:Int)<((m+1:Nat):Int):=ϊ;have aO:(((m+1:Nat):Int)==0)=false:=gl.2 ϊ;have aP:((m:Int)+1==0)=false:=gl.2 ϊ;have aQ:¬(m:Int)+1=0:=ϊ;have aR:(1:Int)<=((m+1:Nat):Int):=ϊ;have l1:h<=q:=ϊ;have l2:decide (q<=h)=false:=iC ϊ;have i:=Zh (ap.o h true false);have j:Hid (iH keep A aa=E++((if keep h true false then[h]else[])++iH keep u (q::s))):=by show _=_;rw[ao.o,KM keep u s aB]
     have t:=ϻ (ζ W P);have rb:=ϻ (ζ W Q);go_wp2_with fail
     refine jj N ϋ ?_;repeat (go_big_quiet_step (fail))
     refine jk ?_;intro ab l;obtain⟨⟨c,osq⟩,d⟩:=l;have I:=W.trans ((jl wr c osq).mono W.size);have X:=Υ ae (jl wr c osq);rw[<-d]at I X;clear d ae t rb;have t:=ϻ (ζ I P);have rb:=ϻ (ζ I Q);go_wp2_with fail
     refine jj N ϋ ?_;repeat (go_big_quiet_step (fail))
     refine jk ?_;intro M l;obtain⟨⟨c,osq⟩,d⟩:=l;have r:=I.trans ((jl ab c osq).mono I.size);have H:=Υ X (jl ab c osq);rw[<-d]at r H;clear d X t rb;by_cases ac:aI=1
     .subst ac
      obtain rfl:p=0:=ϊ;have t:=ϻ (ζ r P);have rb:=ϻ (ζ r Q);go_wp2_with fail
      refine jj N ϋ ?_;repeat (go_big_quiet_step (fail))
      refine jk ?_;intro K l;obtain⟨⟨c,osq⟩,d⟩:=l;have a:=r.trans ((jl M c osq).mono r.size);have k:=Υ H (jl M c osq);rw[<-d]at a k;clear d H t rb;cases f:keep h true false with
      |true =>
       rw[f]at i j;clear f;go_wp2_with (first|(go_at_fn g;refine(i.o _ a).mono ?_;rintro e w' ⟨rfl,rfl⟩)|(at_builtin;refine gn rfl _ _ _ _ rfl w.heap.size 3 ai _ 1 8 jm hi af ag ah rfl (D aj z ak) z _ rfl (k.alloc _) _ 1 [IZ h] rfl (ig jm K _ 1 1 1 rfl (ad.o h)) ώ ϊ (by have:=a.size;simp;omega) ?_;intro al V T B _ _))
       have R:BQ w V:=(a.alloc a.size _).grown B (by have:=a.size;simp;omega) (fun U S=>(k.lt U S).1);clear B;go_wp2;go_roundw;case rel=>exact⟨0,(m+1),z+1,u,(q::s),E++[h],⟨by have:=b.o.1;simpa using this,b.o.2.1,by rw[ω,b.o.2.2];rfl⟩,ϊ,by show _=_;rw[j.o];simp,(pD F.o).1 rfl,G.o,rfl,rfl,by rw[Cl];exact T,R⟩
       case measure=>simp[ju];try omega
      |false =>
       rw[f]at i j;clear f;go_wp2_with (go_at_fn g;refine(i.o _ a).mono ?_;rintro e w' ⟨rfl,rfl⟩)
       go_roundw;case rel=>exact⟨0,(m+1),z,u,(q::s),E,⟨by have:=b.o.1;simpa using this,b.o.2.1,b.o.2.2⟩,ϊ,by show _=_;rw[j.o];simp,(pD F.o).1 rfl,G.o,rfl,rfl,k,a⟩
       case measure=>simp[ju];try omega
     .have t:=ϻ (ζ r P)
      have rb:=ϻ (ζ r Q);go_wp2_with fail
      refine jj N ϋ ?_;repeat (go_big_quiet_step (fail))
      refine jk ?_;intro K l;obtain⟨⟨c,osq⟩,d⟩:=l;have a:=r.trans ((jl M c osq).mono r.size);have k:=Υ H (jl M c osq);rw[<-d]at a k;clear d H t rb;cases f:keep h true false with
      |true =>
       rw[f]at i j;clear f;go_wp2_with (first|(go_at_fn g;refine(i.o _ a).mono ?_;rintro e w' ⟨rfl,rfl⟩)|(at_builtin;refine gn rfl _ _ _ _ rfl w.heap.size 3 ai _ 1 8 jm hi af ag ah rfl (D aj z ak) z _ rfl (k.alloc _) _ 1 [IZ h] rfl (ig jm K _ 1 1 1 rfl (ad.o h)) ώ ϊ (by have:=a.size;simp;omega) ?_;intro al V T B _ _))
       have R:BQ w V:=(a.alloc a.size _).grown B (by have:=a.size;simp;omega) (fun U S=>(k.lt U S).1);clear B;go_wp2;go_roundw;case rel=>exact⟨p,(m+1),z+1,u,(q::s),E++[h],⟨by have:=b.o.1;simpa using this,b.o.2.1,by rw[ω,b.o.2.2];rfl⟩,ϊ,by show _=_;rw[j.o];simp,(pD F.o).2 ac,G.o,rfl,rfl,by rw[Cl];exact T,R⟩
       case measure=>simp[ju];try omega
      |false =>
       rw[f]at i j;clear f;go_wp2_with (go_at_fn g;refine(i.o _ a).mono ?_;rintro e w' ⟨rfl,rfl⟩)
       go_roundw;case rel=>exact⟨p,(m+1),z,u,(q::s),E,⟨by have:=b.o.1;simpa using this,b.o.2.1,b.o.2.2⟩,ϊ,by show _=_;rw[j.o];simp,(pD F.o).2 ac,G.o,rfl,rfl,k,a⟩
       case measure=>simp[ju];try omega
    .by_cases a8:q<h
     .have aB:=a8
      obtain⟨p,rfl⟩:∃ p,x=p+1:=⟨L u,by have:=b.o.1;simp at this;omega⟩;obtain⟨b1,aE,rfl,P,aC⟩:=Dv F.o;have aN:(0:Int)<((p+1:Nat):Int):=ϊ;have aJ:(((p+1:Nat):Int)==0)=false:=gl.2 ϊ;have aK:((p:Int)+1==0)=false:=gl.2 ϊ;have aL:¬(p:Int)+1=0:=ϊ;have aM:(1:Int)<=((p+1:Nat):Int):=ϊ;obtain⟨m,rfl⟩:∃ m,y=m+1:=⟨L s,by have:=b.o.2.1;simp at this;omega⟩;obtain⟨b2,aF,rfl,Q,aD⟩:=Dv G.o;have aS:(0:Int)<((m+1:Nat):Int):=ϊ;have aO:(((m+1:Nat):Int)==0)=false:=gl.2 ϊ;have aP:((m:Int)+1==0)=false:=gl.2 ϊ;have aQ:¬(m:Int)+1=0:=ϊ;have aR:(1:Int)<=((m+1:Nat):Int):=ϊ;have l1:decide (h<=q)=false:=iC ϊ;have l2:q<=h:=ϊ;have i:=Zh (ap.o q false true);have j:Hid (iH keep A aa=E++((if keep q false true then[q]else[])++iH keep (h::u) s)):=by show _=_;rw[ao.o,KL keep u s aB]
      have t:=ϻ (ζ W P);have rb:=ϻ (ζ W Q);go_wp2_with fail
      refine jj N ϋ ?_;repeat (go_big_quiet_step (fail))
      refine jk ?_;intro ab l;obtain⟨⟨c,osq⟩,d⟩:=l;have I:=W.trans ((jl wr c osq).mono W.size);have X:=Υ ae (jl wr c osq);rw[<-d]at I X;clear d ae t rb;have t:=ϻ (ζ I P);have rb:=ϻ (ζ I Q);go_wp2_with fail
      refine jj N ϋ ?_;repeat (go_big_quiet_step (fail))
      refine jk ?_;intro M l;obtain⟨⟨c,osq⟩,d⟩:=l;have r:=I.trans ((jl ab c osq).mono I.size);have H:=Υ X (jl ab c osq);rw[<-d]at r H;clear d X t rb;by_cases Z:az=1
      .subst Z
       obtain rfl:m=0:=ϊ;have t:=ϻ (ζ r P);have rb:=ϻ (ζ r Q);go_wp2_with fail
       refine jj N ϋ ?_;repeat (go_big_quiet_step (fail))
       refine jk ?_;intro K l;obtain⟨⟨c,osq⟩,d⟩:=l;have a:=r.trans ((jl M c osq).mono r.size);have k:=Υ H (jl M c osq);rw[<-d]at a k;clear d H t rb;cases f:keep q false true with
       |true =>
        rw[f]at i j;clear f;go_wp2_with (first|(go_at_fn g;refine(i.o _ a).mono ?_;rintro e w' ⟨rfl,rfl⟩)|(at_builtin;refine gn rfl _ _ _ _ rfl w.heap.size 3 ai _ 1 8 jm hi af ag ah rfl (D aj z ak) z _ rfl (k.alloc _) _ 1 [IZ q] rfl (ig jm K _ 1 1 1 rfl (ad.o q)) ώ ϊ (by have:=a.size;simp;omega) ?_;intro al V T B _ _))
        have R:BQ w V:=(a.alloc a.size _).grown B (by have:=a.size;simp;omega) (fun U S=>(k.lt U S).1);clear B;go_wp2;go_roundw;case rel=>exact⟨(p+1),0,z+1,(h::u),s,E++[q],⟨b.o.1,by have:=b.o.2.1;simpa using this,by rw[ω,b.o.2.2];rfl⟩,ϊ,by show _=_;rw[j.o];simp,F.o,(pD G.o).1 rfl,rfl,rfl,by rw[Cl];exact T,R⟩
        case measure=>simp[ju];try omega
       |false =>
        rw[f]at i j;clear f;go_wp2_with (go_at_fn g;refine(i.o _ a).mono ?_;rintro e w' ⟨rfl,rfl⟩)
        go_roundw;case rel=>exact⟨(p+1),0,z,(h::u),s,E,⟨b.o.1,by have:=b.o.2.1;simpa using this,b.o.2.2⟩,ϊ,by show _=_;rw[j.o];simp,F.o,(pD G.o).1 rfl,rfl,rfl,k,a⟩
        case measure=>simp[ju];try omega
      .have t:=ϻ (ζ r P)
       have rb:=ϻ (ζ r Q);go_wp2_with fail
       refine jj N ϋ ?_;repeat (go_big_quiet_step (fail))
       refine jk ?_;intro K l;obtain⟨⟨c,osq⟩,d⟩:=l;have a:=r.trans ((jl M c osq).mono r.size);have k:=Υ H (jl M c osq);rw[<-d]at a k;clear d H t rb;cases f:keep q false true with
       |true =>
        rw[f]at i j;clear f;go_wp2_with (first|(go_at_fn g;refine(i.o _ a).mono ?_;rintro e w' ⟨rfl,rfl⟩)|(at_builtin;refine gn rfl _ _ _ _ rfl w.heap.size 3 ai _ 1 8 jm hi af ag ah rfl (D aj z ak) z _ rfl (k.alloc _) _ 1 [IZ q] rfl (ig jm K _ 1 1 1 rfl (ad.o q)) ώ ϊ (by have:=a.size;simp;omega) ?_;intro al V T B _ _))
        have R:BQ w V:=(a.alloc a.size _).grown B (by have:=a.size;simp;omega) (fun U S=>(k.lt U S).1);clear B;go_wp2;go_roundw;case rel=>exact⟨(p+1),m,z+1,(h::u),s,E++[q],⟨b.o.1,by have:=b.o.2.1;simpa using this,by rw[ω,b.o.2.2];rfl⟩,ϊ,by show _=_;rw[j.o];simp,F.o,(pD G.o).2 Z,rfl,rfl,by rw[Cl];exact T,R⟩
        case measure=>simp[ju];try omega
       |false =>
        rw[f]at i j;clear f;go_wp2_with (go_at_fn g;refine(i.o _ a).mono ?_;rintro e w' ⟨rfl,rfl⟩)
        go_roundw;case rel=>exact⟨(p+1),m,z,(h::u),s,E,⟨b.o.1,by have:=b.o.2.1;simpa using this,b.o.2.2⟩,ϊ,by show _=_;rw[j.o];simp,F.o,(pD G.o).2 Z,rfl,rfl,k,a⟩
        case measure=>simp[ju];try omega
     .obtain rfl:h=q:=ϊ
      obtain⟨p,rfl⟩:∃ p,x=p+1:=⟨L u,by have:=b.o.1;simp at this;omega⟩;obtain⟨b1,aE,rfl,P,aC⟩:=Dv F.o;have aN:(0:Int)<((p+1:Nat):Int):=ϊ;have aJ:(((p+1:Nat):Int)==0)=false:=gl.2 ϊ;have aK:((p:Int)+1==0)=false:=gl.2 ϊ;have aL:¬(p:Int)+1=0:=ϊ;have aM:(1:Int)<=((p+1:Nat):Int):=ϊ;obtain⟨m,rfl⟩:∃ m,y=m+1:=⟨L s,by have:=b.o.2.1;simp at this;omega⟩;obtain⟨b2,aF,rfl,Q,aD⟩:=Dv G.o;have aS:(0:Int)<((m+1:Nat):Int):=ϊ;have aO:(((m+1:Nat):Int)==0)=false:=gl.2 ϊ;have aP:((m:Int)+1==0)=false:=gl.2 ϊ;have aQ:¬(m:Int)+1=0:=ϊ;have aR:(1:Int)<=((m+1:Nat):Int):=ϊ;have l1:h<=h:=ϊ;have i:=Zh (ap.o h true true);have j:Hid (iH keep A aa=E++((if keep h true true then[h]else[])++iH keep u s)):=by show _=_;rw[ao.o,KK keep h u s]
      have t:=ϻ (ζ W P);have rb:=ϻ (ζ W Q);go_wp2_with fail
      refine jj N ϋ ?_;repeat (go_big_quiet_step (fail))
      refine jk ?_;intro ab l;obtain⟨⟨c,osq⟩,d⟩:=l;have I:=W.trans ((jl wr c osq).mono W.size);have X:=Υ ae (jl wr c osq);rw[<-d]at I X;clear d ae t rb;have t:=ϻ (ζ I P);have rb:=ϻ (ζ I Q);go_wp2_with fail
      refine jj N ϋ ?_;repeat (go_big_quiet_step (fail))
      refine jk ?_;intro M l;obtain⟨⟨c,osq⟩,d⟩:=l;have r:=I.trans ((jl ab c osq).mono I.size);have H:=Υ X (jl ab c osq);rw[<-d]at r H;clear d X t rb;by_cases ac:aI=1
      .subst ac
       obtain rfl:p=0:=ϊ;have t:=ϻ (ζ r P);have rb:=ϻ (ζ r Q);go_wp2_with fail
       refine jj N ϋ ?_;repeat (go_big_quiet_step (fail))
       refine jk ?_;intro K l;obtain⟨⟨c,osq⟩,d⟩:=l;have a:=r.trans ((jl M c osq).mono r.size);have k:=Υ H (jl M c osq);rw[<-d]at a k;clear d H t rb;by_cases Z:az=1
       .subst Z
        obtain rfl:m=0:=ϊ;have t:=ϻ (ζ a P);have rb:=ϻ (ζ a Q);go_wp2_with fail
        refine jj N ϋ ?_;repeat (go_big_quiet_step (fail))
        refine jk ?_;intro an l;obtain⟨⟨c,osq⟩,d⟩:=l;have v:=a.trans ((jl K c osq).mono a.size);have Y:=Υ k (jl K c osq);rw[<-d]at v Y;clear d k t rb;cases f:keep h true true with
        |true =>
         rw[f]at i j;clear f;go_wp2_with (first|(go_at_fn g;refine(i.o _ v).mono ?_;rintro e w' ⟨rfl,rfl⟩)|(at_builtin;refine gn rfl _ _ _ _ rfl w.heap.size 3 ai _ 1 8 jm hi af ag ah rfl (D aj z ak) z _ rfl (Y.alloc _) _ 1 [IZ h] rfl (ig jm an _ 1 1 1 rfl (ad.o h)) ώ ϊ (by have:=v.size;simp;omega) ?_;intro al V T B _ _))
         have R:BQ w V:=(v.alloc v.size _).grown B (by have:=v.size;simp;omega) (fun U S=>(Y.lt U S).1);clear B;go_wp2;go_roundw;case rel=>exact⟨0,0,z+1,u,s,E++[h],⟨by have:=b.o.1;simpa using this,by have:=b.o.2.1;simpa using this,by rw[ω,b.o.2.2];rfl⟩,ϊ,by show _=_;rw[j.o];simp,(pD F.o).1 rfl,(pD G.o).1 rfl,rfl,rfl,by rw[Cl];exact T,R⟩
         case measure=>simp[ju];try omega
        |false =>
         rw[f]at i j;clear f;go_wp2_with (go_at_fn g;refine(i.o _ v).mono ?_;rintro e w' ⟨rfl,rfl⟩)
         go_roundw;case rel=>exact⟨0,0,z,u,s,E,⟨by have:=b.o.1;simpa using this,by have:=b.o.2.1;simpa using this,b.o.2.2⟩,ϊ,by show _=_;rw[j.o];simp,(pD F.o).1 rfl,(pD G.o).1 rfl,rfl,rfl,Y,v⟩
         case measure=>simp[ju];try omega
       .have t:=ϻ (ζ a P)
        have rb:=ϻ (ζ a Q);go_wp2_with fail
        refine jj N ϋ ?_;repeat (go_big_quiet_step (fail))
        refine jk ?_;intro an l;obtain⟨⟨c,osq⟩,d⟩:=l;have v:=a.trans ((jl K c osq).mono a.size);have Y:=Υ k (jl K c osq);rw[<-d]at v Y;clear d k t rb;cases f:keep h true true with
        |true =>
         rw[f]at i j;clear f;go_wp2_with (first|(go_at_fn g;refine(i.o _ v).mono ?_;rintro e w' ⟨rfl,rfl⟩)|(at_builtin;refine gn rfl _ _ _ _ rfl w.heap.size 3 ai _ 1 8 jm hi af ag ah rfl (D aj z ak) z _ rfl (Y.alloc _) _ 1 [IZ h] rfl (ig jm an _ 1 1 1 rfl (ad.o h)) ώ ϊ (by have:=v.size;simp;omega) ?_;intro al V T B _ _))
         have R:BQ w V:=(v.alloc v.size _).grown B (by have:=v.size;simp;omega) (fun U S=>(Y.lt U S).1);clear B;go_wp2;go_roundw;case rel=>exact⟨0,m,z+1,u,s,E++[h],⟨by have:=b.o.1;simpa using this,by have:=b.o.2.1;simpa using this,by rw[ω,b.o.2.2];rfl⟩,ϊ,by show _=_;rw[j.o];simp,(pD F.o).1 rfl,(pD G.o).2 Z,rfl,rfl,by rw[Cl];exact T,R⟩
         case measure=>simp[ju];try omega
        |false =>
         rw[f]at i j;clear f;go_wp2_with (go_at_fn g;refine(i.o _ v).mono ?_;rintro e w' ⟨rfl,rfl⟩)
         go_roundw;case rel=>exact⟨0,m,z,u,s,E,⟨by have:=b.o.1;simpa using this,by have:=b.o.2.1;simpa using this,b.o.2.2⟩,ϊ,by show _=_;rw[j.o];simp,(pD F.o).1 rfl,(pD G.o).2 Z,rfl,rfl,Y,v⟩
         case measure=>simp[ju];try omega
      .have t:=ϻ (ζ r P)
       have rb:=ϻ (ζ r Q);go_wp2_with fail
       refine jj N ϋ ?_;repeat (go_big_quiet_step (fail))
       refine jk ?_;intro K l;obtain⟨⟨c,osq⟩,d⟩:=l;have a:=r.trans ((jl M c osq).mono r.size);have k:=Υ H (jl M c osq);rw[<-d]at a k;clear d H t rb;by_cases Z:az=1
       .subst Z
        obtain rfl:m=0:=ϊ;have t:=ϻ (ζ a P);have rb:=ϻ (ζ a Q);go_wp2_with fail
        refine jj N ϋ ?_;repeat (go_big_quiet_step (fail))
        refine jk ?_;intro an l;obtain⟨⟨c,osq⟩,d⟩:=l;have v:=a.trans ((jl K c osq).mono a.size);have Y:=Υ k (jl K c osq);rw[<-d]at v Y;clear d k t rb;cases f:keep h true true with
        |true =>
         rw[f]at i j;clear f;go_wp2_with (first|(go_at_fn g;refine(i.o _ v).mono ?_;rintro e w' ⟨rfl,rfl⟩)|(at_builtin;refine gn rfl _ _ _ _ rfl w.heap.size 3 ai _ 1 8 jm hi af ag ah rfl (D aj z ak) z _ rfl (Y.alloc _) _ 1 [IZ h] rfl (ig jm an _ 1 1 1 rfl (ad.o h)) ώ ϊ (by have:=v.size;simp;omega) ?_;intro al V T B _ _))
         have R:BQ w V:=(v.alloc v.size _).grown B (by have:=v.size;simp;omega) (fun U S=>(Y.lt U S).1);clear B;go_wp2;go_roundw;case rel=>exact⟨p,0,z+1,u,s,E++[h],⟨by have:=b.o.1;simpa using this,by have:=b.o.2.1;simpa using this,by rw[ω,b.o.2.2];rfl⟩,ϊ,by show _=_;rw[j.o];simp,(pD F.o).2 ac,(pD G.o).1 rfl,rfl,rfl,by rw[Cl];exact T,R⟩
         case measure=>simp[ju];try omega
        |false =>
         rw[f]at i j;clear f;go_wp2_with (go_at_fn g;refine(i.o _ v).mono ?_;rintro e w' ⟨rfl,rfl⟩)
         go_roundw;case rel=>exact⟨p,0,z,u,s,E,⟨by have:=b.o.1;simpa using this,by have:=b.o.2.1;simpa using this,b.o.2.2⟩,ϊ,by show _=_;rw[j.o];simp,(pD F.o).2 ac,(pD G.o).1 rfl,rfl,rfl,Y,v⟩
         case measure=>simp[ju];try omega
       .have t:=ϻ (ζ a P)
        have rb:=ϻ (ζ a Q);go_wp2_with fail
        refine jj N ϋ ?_;repeat (go_big_quiet_step (fail))
        refine jk ?_;intro an l;obtain⟨⟨c,osq⟩,d⟩:=l;have v:=a.trans ((jl K c osq).mono a.size);have Y:=Υ k (jl K c osq);rw[<-d]at v Y;clear d k t rb;cases f:keep h true true with
        |true =>
         rw[f]at i j;clear f;go_wp2_with (first|(go_at_fn g;refine(i.o _ v).mono ?_;rintro e w' ⟨rfl,rfl⟩)|(at_builtin;refine gn rfl _ _ _ _ rfl w.heap.size 3 ai _ 1 8 jm hi af ag ah rfl (D aj z ak) z _ rfl (Y.alloc _) _ 1 [IZ h] rfl (ig jm an _ 1 1 1 rfl (ad.o h)) ώ ϊ (by have:=v.size;simp;omega) ?_;intro al V T B _ _))
         have R:BQ w V:=(v.alloc v.size _).grown B (by have:=v.size;simp;omega) (fun U S=>(Y.lt U S).1);clear B;go_wp2;go_roundw;case rel=>exact⟨p,m,z+1,u,s,E++[h],⟨by have:=b.o.1;simpa using this,by have:=b.o.2.1;simpa using this,by rw[ω,b.o.2.2];rfl⟩,ϊ,by show _=_;rw[j.o];simp,(pD F.o).2 ac,(pD G.o).2 Z,rfl,rfl,by rw[Cl];exact T,R⟩
         case measure=>simp[ju];try omega
        |false =>
         rw[f]at i j;clear f;go_wp2_with (go_at_fn g;refine(i.o _ v).mono ?_;rintro e w' ⟨rfl,rfl⟩)
         go_roundw;case rel=>exact⟨p,m,z,u,s,E,⟨by have:=b.o.1;simpa using this,by have:=b.o.2.1;simpa using this,b.o.2.2⟩,ϊ,by show _=_;rw[j.o];simp,(pD F.o).2 ac,(pD G.o).2 Z,rfl,rfl,Y,v⟩
         case measure=>simp[ju];try omega
