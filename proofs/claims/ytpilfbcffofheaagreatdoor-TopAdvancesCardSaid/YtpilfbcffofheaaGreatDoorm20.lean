/- Part 20 of the proof. -/
import Derived.Test.YtpilfbcffofheaaGreatDoorm00
set_option linter.all false
set_option maxRecDepth 100000
set_option maxHeartbeats 16000000
namespace Go.Proofs.YtpilfbcffofheaaGreatDoor
open Go.RowKit Go.Proofs.Tryz Go.Sort
open Value renaming int->ĭ
open List renaming length->L
open Ending renaming returned->ŗ
def lV (c x y) (w:β) (b:x<=c) (a:c<=y):Calls prog 353 #[G c,G x,G y] w fun e w'=>e=ŗ (.bool true)/\w=w':=by
 go_enter func353,ntmps353;go_wp2;go_ret;exact⟨by first|rfl|exact jm (kU a),rfl⟩
def KL (c x y) (w:β) (a:c<x):Calls prog 353 #[G c,G x,G y] w fun e w'=>e=ŗ (.bool false)/\w=w':=by
 have b:¬x<=c:=U;go_enter func353,ntmps353;go_wp2;exact gH
def KK (c x y) (w:β) (b:x<=c) (d:y<c):Calls prog 353 #[G c,G x,G y] w fun e w'=>e=ŗ (.bool false)/\w=w':=by
 have a:¬c<=y:=U;go_enter func353,ntmps353;go_wp2;go_ret;exact⟨by first|rfl|exact jm (kE a),rfl⟩
def Ϧ (c x y) (w:β) (h:c<x\/y<c):Calls prog 353 #[G c,G x,G y] w fun e w'=>e=ŗ (.bool false)/\w=w':=by
 by_cases a:c<x
 .exact KL c x y w a
 .exact KK c x y w U U
def KW (c):li c=true↔(65<=c/\c<=90)\/(97<=c/\c<=122)\/(192<=c/\c<=214)\/(216<=c/\c<=246)\/(248<=c/\c<=255)\/(913<=c/\c<=929)\/(931<=c/\c<=937)\/(945<=c/\c<=969)\/(1024<=c/\c<=1119):=by
 simp[li,sl]
def OC (c) (w:β):Calls prog 351 #[G c] w fun e w'=>e=ŗ (.bool (li c))/\w=w':=by
 have h:=KW c;by_cases m:65<=c/\c<=90
 .have b:=h.2 U
  rw[b];have a:=Zh (lV c _ _ w m.1 m.2);go_enter func351,ntmps351;go_wp2_with (first|(go_at_call 353;with_reducible refine a.o.M ?_;rintro e w' ⟨rfl,rfl⟩))
  exact gH
 by_cases n:97<=c/\c<=122
 .have b:=h.2 U
  rw[b];have⟨a,d⟩:=π (Ϧ c 65 90 w U) (lV c _ _ w n.1 n.2);go_enter func351,ntmps351;go_wp2_with (first|(go_at_call 353;with_reducible refine a.o.M ?_;rintro e w' ⟨rfl,rfl⟩)|(go_at_call 353;with_reducible refine d.o.M ?_;rintro e w' ⟨rfl,rfl⟩))
  exact gH
 by_cases o:192<=c/\c<=214
 .have b:=h.2 U
  rw[b];have⟨a,d,f⟩:=ϲ (Ϧ c 65 90 w U) (Ϧ c 97 122 w U) (lV c _ _ w o.1 o.2);go_enter func351,ntmps351;go_wp2_with (first|(go_at_call 353;with_reducible refine a.o.M ?_;rintro e w' ⟨rfl,rfl⟩)|(go_at_call 353;with_reducible refine d.o.M ?_;rintro e w' ⟨rfl,rfl⟩)|(go_at_call 353;with_reducible refine f.o.M ?_;rintro e w' ⟨rfl,rfl⟩))
  exact gH
 by_cases p:216<=c/\c<=246
 .have b:=h.2 U
  rw[b];have⟨a,d,f,H3⟩:=hV (Ϧ c 65 90 w U) (Ϧ c 97 122 w U) (Ϧ c 192 214 w U) (lV c _ _ w p.1 p.2);go_enter func351,ntmps351;go_wp2_with (first|(go_at_call 353;with_reducible refine a.o.M ?_;rintro e w' ⟨rfl,rfl⟩)|(go_at_call 353;with_reducible refine d.o.M ?_;rintro e w' ⟨rfl,rfl⟩)|(go_at_call 353;with_reducible refine f.o.M ?_;rintro e w' ⟨rfl,rfl⟩)|(go_at_call 353;with_reducible refine H3.o.M ?_;rintro e w' ⟨rfl,rfl⟩))
  exact gH
 by_cases q:248<=c/\c<=255
 .have b:=h.2 U
  rw[b];have⟨a,d,f,H3,g⟩:=kW (Ϧ c 65 90 w U) (Ϧ c 97 122 w U) (Ϧ c 192 214 w U) (Ϧ c 216 246 w U) (lV c _ _ w q.1 q.2);go_enter func351,ntmps351;go_wp2_with (first|(go_at_call 353;with_reducible refine a.o.M ?_;rintro e w' ⟨rfl,rfl⟩)|(go_at_call 353;with_reducible refine d.o.M ?_;rintro e w' ⟨rfl,rfl⟩)|(go_at_call 353;with_reducible refine f.o.M ?_;rintro e w' ⟨rfl,rfl⟩)|(go_at_call 353;with_reducible refine H3.o.M ?_;rintro e w' ⟨rfl,rfl⟩)|(go_at_call 353;with_reducible refine g.o.M ?_;rintro e w' ⟨rfl,rfl⟩))
  exact gH
 by_cases r:913<=c/\c<=929
 .have b:=h.2 U
  rw[b];have⟨a,d,f,H3,g⟩:=kW (Ϧ c 65 90 w U) (Ϧ c 97 122 w U) (Ϧ c 192 214 w U) (Ϧ c 216 246 w U) (Ϧ c 248 255 w U);have i:=Zh (lV c _ _ w r.1 r.2);go_enter func351,ntmps351;go_wp2_with (first|(go_at_call 353;with_reducible refine a.o.M ?_;rintro e w' ⟨rfl,rfl⟩)|(go_at_call 353;with_reducible refine d.o.M ?_;rintro e w' ⟨rfl,rfl⟩)|(go_at_call 353;with_reducible refine f.o.M ?_;rintro e w' ⟨rfl,rfl⟩)|(go_at_call 353;with_reducible refine H3.o.M ?_;rintro e w' ⟨rfl,rfl⟩)|(go_at_call 353;with_reducible refine g.o.M ?_;rintro e w' ⟨rfl,rfl⟩)|(go_at_call 353;with_reducible refine i.o.M ?_;rintro e w' ⟨rfl,rfl⟩))
  exact gH
 by_cases s:931<=c/\c<=937
 .have b:=h.2 U
  rw[b];have⟨a,d,f,H3,g⟩:=kW (Ϧ c 65 90 w U) (Ϧ c 97 122 w U) (Ϧ c 192 214 w U) (Ϧ c 216 246 w U) (Ϧ c 248 255 w U);have⟨i,j⟩:=π (Ϧ c 913 929 w U) (lV c _ _ w s.1 s.2);go_enter func351,ntmps351;go_wp2_with (first|(go_at_call 353;with_reducible refine a.o.M ?_;rintro e w' ⟨rfl,rfl⟩)|(go_at_call 353;with_reducible refine d.o.M ?_;rintro e w' ⟨rfl,rfl⟩)|(go_at_call 353;with_reducible refine f.o.M ?_;rintro e w' ⟨rfl,rfl⟩)|(go_at_call 353;with_reducible refine H3.o.M ?_;rintro e w' ⟨rfl,rfl⟩)|(go_at_call 353;with_reducible refine g.o.M ?_;rintro e w' ⟨rfl,rfl⟩)|(go_at_call 353;with_reducible refine i.o.M ?_;rintro e w' ⟨rfl,rfl⟩)|(go_at_call 353;with_reducible refine j.o.M ?_;rintro e w' ⟨rfl,rfl⟩))
  exact gH
 by_cases t:945<=c/\c<=969
 .have b:=h.2 U
  rw[b];have⟨a,d,f,H3,g⟩:=kW (Ϧ c 65 90 w U) (Ϧ c 97 122 w U) (Ϧ c 192 214 w U) (Ϧ c 216 246 w U) (Ϧ c 248 255 w U);have⟨i,j,k⟩:=ϲ (Ϧ c 913 929 w U) (Ϧ c 931 937 w U) (lV c _ _ w t.1 t.2);go_enter func351,ntmps351;go_wp2_with (first|(go_at_call 353;with_reducible refine a.o.M ?_;rintro e w' ⟨rfl,rfl⟩)|(go_at_call 353;with_reducible refine d.o.M ?_;rintro e w' ⟨rfl,rfl⟩)|(go_at_call 353;with_reducible refine f.o.M ?_;rintro e w' ⟨rfl,rfl⟩)|(go_at_call 353;with_reducible refine H3.o.M ?_;rintro e w' ⟨rfl,rfl⟩)|(go_at_call 353;with_reducible refine g.o.M ?_;rintro e w' ⟨rfl,rfl⟩)|(go_at_call 353;with_reducible refine i.o.M ?_;rintro e w' ⟨rfl,rfl⟩)|(go_at_call 353;with_reducible refine j.o.M ?_;rintro e w' ⟨rfl,rfl⟩)|(go_at_call 353;with_reducible refine k.o.M ?_;rintro e w' ⟨rfl,rfl⟩))
  exact gH
 by_cases u:1024<=c/\c<=1119
 .have b:=h.2 U
  rw[b];have⟨a,d,f,H3,g⟩:=kW (Ϧ c 65 90 w U) (Ϧ c 97 122 w U) (Ϧ c 192 214 w U) (Ϧ c 216 246 w U) (Ϧ c 248 255 w U);have⟨i,j,k,l⟩:=hV (Ϧ c 913 929 w U) (Ϧ c 931 937 w U) (Ϧ c 945 969 w U) (lV c _ _ w u.1 u.2);go_enter func351,ntmps351;go_wp2_with (first|(go_at_call 353;with_reducible refine a.o.M ?_;rintro e w' ⟨rfl,rfl⟩)|(go_at_call 353;with_reducible refine d.o.M ?_;rintro e w' ⟨rfl,rfl⟩)|(go_at_call 353;with_reducible refine f.o.M ?_;rintro e w' ⟨rfl,rfl⟩)|(go_at_call 353;with_reducible refine H3.o.M ?_;rintro e w' ⟨rfl,rfl⟩)|(go_at_call 353;with_reducible refine g.o.M ?_;rintro e w' ⟨rfl,rfl⟩)|(go_at_call 353;with_reducible refine i.o.M ?_;rintro e w' ⟨rfl,rfl⟩)|(go_at_call 353;with_reducible refine j.o.M ?_;rintro e w' ⟨rfl,rfl⟩)|(go_at_call 353;with_reducible refine k.o.M ?_;rintro e w' ⟨rfl,rfl⟩)|(go_at_call 353;with_reducible refine l.o.M ?_;rintro e w' ⟨rfl,rfl⟩))
  exact gH
 have b:li c=false:=by rw[nf];intro e;have:=h.1 e;omega
 rw[b];have⟨a,d,f,H3,g⟩:=kW (Ϧ c 65 90 w U) (Ϧ c 97 122 w U) (Ϧ c 192 214 w U) (Ϧ c 216 246 w U) (Ϧ c 248 255 w U);have⟨i,j,k,l⟩:=hV (Ϧ c 913 929 w U) (Ϧ c 931 937 w U) (Ϧ c 945 969 w U) (Ϧ c 1024 1119 w U);go_enter func351,ntmps351;go_wp2_with (first|(go_at_call 353;with_reducible refine a.o.M ?_;rintro e w' ⟨rfl,rfl⟩)|(go_at_call 353;with_reducible refine d.o.M ?_;rintro e w' ⟨rfl,rfl⟩)|(go_at_call 353;with_reducible refine f.o.M ?_;rintro e w' ⟨rfl,rfl⟩)|(go_at_call 353;with_reducible refine H3.o.M ?_;rintro e w' ⟨rfl,rfl⟩)|(go_at_call 353;with_reducible refine g.o.M ?_;rintro e w' ⟨rfl,rfl⟩)|(go_at_call 353;with_reducible refine i.o.M ?_;rintro e w' ⟨rfl,rfl⟩)|(go_at_call 353;with_reducible refine j.o.M ?_;rintro e w' ⟨rfl,rfl⟩)|(go_at_call 353;with_reducible refine k.o.M ?_;rintro e w' ⟨rfl,rfl⟩)|(go_at_call 353;with_reducible refine l.o.M ?_;rintro e w' ⟨rfl,rfl⟩))
 exact gH
def PR (c):gE c=if 65<=c/\c<=90 then c+32 else if 192<=c/\c<=214 then c+32 else if 216<=c/\c<=222 then c+32 else if 913<=c/\c<=929 then c+32 else if 931<=c/\c<=937 then c+32 else if 1024<=c/\c<=1039 then c+80 else if 1040<=c/\c<=1071 then c+32 else c:=by
 unfold gE;simp only[shifts,List.find?_cons,List.find?_nil];by_cases a:65<=c/\c<=90
 .rw[μ a];simp[a.1,a.2]
 rw[κ a,show(decide (65<=c) && decide (c<=90))=false from ό];simp only;by_cases b:192<=c/\c<=214
 .rw[μ b];simp[b.1,b.2]
 rw[κ b,show(decide (192<=c) && decide (c<=214))=false from ό];simp only;by_cases d:216<=c/\c<=222
 .rw[μ d];simp[d.1,d.2]
 rw[κ d,show(decide (216<=c) && decide (c<=222))=false from ό];simp only;by_cases e:913<=c/\c<=929
 .rw[μ e];simp[e.1,e.2]
 rw[κ e,show(decide (913<=c) && decide (c<=929))=false from ό];simp only;by_cases f:931<=c/\c<=937
 .rw[μ f];simp[f.1,f.2]
 rw[κ f,show(decide (931<=c) && decide (c<=937))=false from ό];simp only;by_cases g:1024<=c/\c<=1039
 .rw[μ g];simp[g.1,g.2]
 rw[κ g,show(decide (1024<=c) && decide (c<=1039))=false from ό];simp only;by_cases h:1040<=c/\c<=1071
 .rw[μ h];simp[h.1,h.2]
 rw[κ h,show(decide (1040<=c) && decide (c<=1071))=false from ό]
def OY (c) (w:β) (r : -1000000000<=c) (s:c<=1000000000):Calls prog 352 #[G c] w fun e w'=>e=ŗ (G (gE c))/\w=w':=by
 have g:=PR c;by_cases k:1024<=c/\c<=1039
 .have b:gE c=c+80:=by rw[g];repeat' split;all_goals omega
  rw[b];have a:=Zh (lV c _ _ w k.1 k.2);go_enter func352,ntmps352;go_wp2_with (first|(go_at_call 353;with_reducible refine a.o.M ?_;rintro e w' ⟨rfl,rfl⟩))
  exact gH
 by_cases l:65<=c/\c<=90
 .have b:gE c=c+32:=by rw[g];repeat' split;all_goals omega
  rw[b];have⟨a,d⟩:=π (Ϧ c 1024 1039 w U) (lV c _ _ w l.1 l.2);go_enter func352,ntmps352;go_wp2_with (first|(go_at_call 353;with_reducible refine a.o.M ?_;rintro e w' ⟨rfl,rfl⟩)|(go_at_call 353;with_reducible refine d.o.M ?_;rintro e w' ⟨rfl,rfl⟩))
  exact gH
 by_cases m:192<=c/\c<=214
 .have b:gE c=c+32:=by rw[g];repeat' split;all_goals omega
  rw[b];have⟨a,d,f⟩:=ϲ (Ϧ c 1024 1039 w U) (Ϧ c 65 90 w U) (lV c _ _ w m.1 m.2);go_enter func352,ntmps352;go_wp2_with (first|(go_at_call 353;with_reducible refine a.o.M ?_;rintro e w' ⟨rfl,rfl⟩)|(go_at_call 353;with_reducible refine d.o.M ?_;rintro e w' ⟨rfl,rfl⟩)|(go_at_call 353;with_reducible refine f.o.M ?_;rintro e w' ⟨rfl,rfl⟩))
  exact gH
 by_cases n:216<=c/\c<=222
 .have b:gE c=c+32:=by rw[g];repeat' split;all_goals omega
  rw[b];have⟨a,d,f,H3⟩:=hV (Ϧ c 1024 1039 w U) (Ϧ c 65 90 w U) (Ϧ c 192 214 w U) (lV c _ _ w n.1 n.2);go_enter func352,ntmps352;go_wp2_with (first|(go_at_call 353;with_reducible refine a.o.M ?_;rintro e w' ⟨rfl,rfl⟩)|(go_at_call 353;with_reducible refine d.o.M ?_;rintro e w' ⟨rfl,rfl⟩)|(go_at_call 353;with_reducible refine f.o.M ?_;rintro e w' ⟨rfl,rfl⟩)|(go_at_call 353;with_reducible refine H3.o.M ?_;rintro e w' ⟨rfl,rfl⟩))
  exact gH
 by_cases o:913<=c/\c<=929
 .have b:gE c=c+32:=by rw[g];repeat' split;all_goals omega
  rw[b];have⟨a,d,f,H3,h⟩:=kW (Ϧ c 1024 1039 w U) (Ϧ c 65 90 w U) (Ϧ c 192 214 w U) (Ϧ c 216 222 w U) (lV c _ _ w o.1 o.2);go_enter func352,ntmps352;go_wp2_with (first|(go_at_call 353;with_reducible refine a.o.M ?_;rintro e w' ⟨rfl,rfl⟩)|(go_at_call 353;with_reducible refine d.o.M ?_;rintro e w' ⟨rfl,rfl⟩)|(go_at_call 353;with_reducible refine f.o.M ?_;rintro e w' ⟨rfl,rfl⟩)|(go_at_call 353;with_reducible refine H3.o.M ?_;rintro e w' ⟨rfl,rfl⟩)|(go_at_call 353;with_reducible refine h.o.M ?_;rintro e w' ⟨rfl,rfl⟩))
  exact gH
 by_cases p:931<=c/\c<=937
 .have b:gE c=c+32:=by rw[g];repeat' split;all_goals omega
  rw[b];have⟨a,d,f,H3,h⟩:=kW (Ϧ c 1024 1039 w U) (Ϧ c 65 90 w U) (Ϧ c 192 214 w U) (Ϧ c 216 222 w U) (Ϧ c 913 929 w U);have i:=Zh (lV c _ _ w p.1 p.2);go_enter func352,ntmps352;go_wp2_with (first|(go_at_call 353;with_reducible refine a.o.M ?_;rintro e w' ⟨rfl,rfl⟩)|(go_at_call 353;with_reducible refine d.o.M ?_;rintro e w' ⟨rfl,rfl⟩)|(go_at_call 353;with_reducible refine f.o.M ?_;rintro e w' ⟨rfl,rfl⟩)|(go_at_call 353;with_reducible refine H3.o.M ?_;rintro e w' ⟨rfl,rfl⟩)|(go_at_call 353;with_reducible refine h.o.M ?_;rintro e w' ⟨rfl,rfl⟩)|(go_at_call 353;with_reducible refine i.o.M ?_;rintro e w' ⟨rfl,rfl⟩))
  exact gH
 by_cases q:1040<=c/\c<=1071
 .have b:gE c=c+32:=by rw[g];repeat' split;all_goals omega
  rw[b];have⟨a,d,f,H3,h⟩:=kW (Ϧ c 1024 1039 w U) (Ϧ c 65 90 w U) (Ϧ c 192 214 w U) (Ϧ c 216 222 w U) (Ϧ c 913 929 w U);have⟨i,j⟩:=π (Ϧ c 931 937 w U) (lV c _ _ w q.1 q.2);go_enter func352,ntmps352;go_wp2_with (first|(go_at_call 353;with_reducible refine a.o.M ?_;rintro e w' ⟨rfl,rfl⟩)|(go_at_call 353;with_reducible refine d.o.M ?_;rintro e w' ⟨rfl,rfl⟩)|(go_at_call 353;with_reducible refine f.o.M ?_;rintro e w' ⟨rfl,rfl⟩)|(go_at_call 353;with_reducible refine H3.o.M ?_;rintro e w' ⟨rfl,rfl⟩)|(go_at_call 353;with_reducible refine h.o.M ?_;rintro e w' ⟨rfl,rfl⟩)|(go_at_call 353;with_reducible refine i.o.M ?_;rintro e w' ⟨rfl,rfl⟩)|(go_at_call 353;with_reducible refine j.o.M ?_;rintro e w' ⟨rfl,rfl⟩))
  exact gH
 have b:gE c=c:=by rw[g];repeat' split;all_goals omega
 rw[b];have⟨a,d,f,H3,h⟩:=kW (Ϧ c 1024 1039 w U) (Ϧ c 65 90 w U) (Ϧ c 192 214 w U) (Ϧ c 216 222 w U) (Ϧ c 913 929 w U);have⟨i,j⟩:=π (Ϧ c 931 937 w U) (Ϧ c 1040 1071 w U);go_enter func352,ntmps352;go_wp2_with (first|(go_at_call 353;with_reducible refine a.o.M ?_;rintro e w' ⟨rfl,rfl⟩)|(go_at_call 353;with_reducible refine d.o.M ?_;rintro e w' ⟨rfl,rfl⟩)|(go_at_call 353;with_reducible refine f.o.M ?_;rintro e w' ⟨rfl,rfl⟩)|(go_at_call 353;with_reducible refine H3.o.M ?_;rintro e w' ⟨rfl,rfl⟩)|(go_at_call 353;with_reducible refine h.o.M ?_;rintro e w' ⟨rfl,rfl⟩)|(go_at_call 353;with_reducible refine i.o.M ?_;rintro e w' ⟨rfl,rfl⟩)|(go_at_call 353;with_reducible refine j.o.M ?_;rintro e w' ⟨rfl,rfl⟩))
 exact gH
def Fp (c) (w:β):Calls prog 348 #[G c] w fun e w'=>e=ŗ (.bool (fR c))/\w=w':=by
 have g:(¬0<=c/\¬57343<c/\fR c=false)\/(0<=c/\c<55296/\fR c=true)\/(0<=c/\¬c<55296/\¬57343<c/\fR c=false)\/(0<=c/\¬c<55296/\57343<c/\c<1114112/\fR c=true)\/(0<=c/\¬c<55296/\57343<c/\¬c<1114112/\fR c=false):=by
  simp only[fR,gt,oo,hP,Bool.and_eq_false_iff,Bool.or_eq_false_iff,rt];omega
 rcases g with ⟨b,f,a⟩|⟨d,b,a⟩|⟨d,b,f,a⟩|⟨d,b,f,h,a⟩|⟨d,b,f,h,a⟩;all_goals
  rw[a];go_enter func348,ntmps348;go_wp2;go_ret;refine⟨jm ?_,rfl⟩;first|rfl|(simp;omega)|(simp;done)
def OB (x y) (w:β):Calls prog 350 #[G x,G y] w fun e w'=>e=ŗ (G (if x<y then x else y))/\w=w':=by
 by_cases h:x<y
 .rw[μ h]
  go_enter func350,ntmps350;go_wp2;exact gH
 .rw[κ h]
  go_enter func350,ntmps350;go_wp2;exact gH
def Ox (c) (w:β):Calls prog 345 #[G c] w fun e w'=>e=ŗ (.bool (gm c))/\w=w':=by
 have a:=OC c w;cases b:li c with
 |true =>
  rw[b]at a;have d:=Zh a;have j:gm c=true:=by unfold gm;rw[b];rfl
  rw[j];go_enter func345,ntmps345;go_wp2_with (go_at_call 351;with_reducible refine d.o.M ?_;rintro e w' ⟨rfl,rfl⟩)
  exact gH
 |false =>
  rw[b]at a;have d:=Zh a;have h:(¬48<=c/\gm c=false)\/(48<=c/\¬c<=57/\gm c=false)\/(48<=c/\c<=57/\gm c=true):=by
   unfold gm;rw[b];simp only[oC,Bool.false_or,gt,hP,Bool.and_eq_false_iff,rt];omega
  rcases h with ⟨g,f⟩|⟨i,g,f⟩|⟨i,g,f⟩;all_goals
   rw[f];go_enter func345,ntmps345;go_wp2_with (go_at_call 351;with_reducible refine d.o.M ?_;rintro e w' ⟨rfl,rfl⟩)
   go_ret;first|exact⟨rfl,rfl⟩|exact⟨jm (kE U),rfl⟩|exact⟨jm (kU U),rfl⟩
def Oh (c) (w:β) (h:0<=c) (j:c<=1114111) (i:c<128):Calls prog 349 #[G c] w (iJ w 5 1 (L (enc c)) (η (enc c))):=by
 have a:enc c=[u8 (c)]:=by unfold enc;rw[μ U]
 have e:η (enc c)=[ĭ .u8 (c)]:=by
  rw[a];simp only[η,ij,jQ];rw[gs (c) U U]
 have f:L (enc c)=1:=by rw[a];rfl
 have g:=my _ U U;have⟨b,d⟩:=π e f;go_enter func349,ntmps349;go_wp2;go_ret;refine⟨_,rfl,?_,ġ⟩;rw[b.o,d.o];exact mT _ _ _ 1 1 rfl ϐ
def Oi (c:Int) (w:β) (b:0<=c) (k:c<=1114111) (j:128<=c/\c<2048):Calls prog 349 #[G c] w (iJ w 5 1 (L (enc c)) (η (enc c))):=by
 have a:enc c=[u8 (192+c / 64),u8 (128+c % 64)]:=by unfold enc;rw[κ U];rw[μ U]
 have d:η (enc c)=[ĭ .u8 (192+c / 64),ĭ .u8 (128+c % 64)]:=by
  rw[a];simp only[η,ij,jQ];rw[gs (192+c / 64) U U,gs (128+c % 64) U U]
 have e:L (enc c)=2:=by rw[a];rfl
 have h:IntKind.u8.wrap (192+c / 64)=192+c / 64:=my _ U U;have i:IntKind.u8.wrap (128+c % 64)=128+c % 64:=my _ U U;have l:¬c<128:=U;have m:Int.tdiv c 64=c / 64:=Int.tdiv_eq_ediv_of_nonneg b;have n:Int.tmod c 64=c % 64:=Int.tmod_eq_emod_of_nonneg b;have⟨f,g⟩:=π d e;clear d e a;go_enter func349,ntmps349;go_wp2;go_ret;refine⟨_,rfl,?_,ġ⟩;rw[f.o,g.o];exact mT _ #[ĭ .u8 (192+c / 64),ĭ .u8 (128+c % 64)] _ 1 2 rfl ϐ
def Oj (c:Int) (w:β) (a:0<=c) (l:c<=1114111) (k:2048<=c/\c<65536):Calls prog 349 #[G c] w (iJ w 5 1 (L (enc c)) (η (enc c))):=by
 have b:enc c=[u8 (224+c / 4096),u8 (128+c / 64 % 64),u8 (128+c % 64)]:=by unfold enc;rw[κ U];rw[κ U];rw[μ U]
 have d:η (enc c)=[ĭ .u8 (224+c / 4096),ĭ .u8 (128+c / 64 % 64),ĭ .u8 (128+c % 64)]:=by
  rw[b];simp only[η,ij,jQ];rw[gs (224+c / 4096) U U,gs (128+c / 64 % 64) U U,gs (128+c % 64) U U]
 have e:L (enc c)=3:=by rw[b];rfl
 have h:IntKind.u8.wrap (224+c / 4096)=224+c / 4096:=my _ U U;have i:IntKind.u8.wrap (128+c / 64 % 64)=128+c / 64 % 64:=my _ U U;have j:IntKind.u8.wrap (128+c % 64)=128+c % 64:=my _ U U;have m:¬c<128:=U;have n:¬c<2048:=U;have o:Int.tdiv c 64=c / 64:=Int.tdiv_eq_ediv_of_nonneg a;have p:Int.tmod c 64=c % 64:=Int.tmod_eq_emod_of_nonneg a;have q:Int.tdiv c 4096=c / 4096:=Int.tdiv_eq_ediv_of_nonneg a;have r:Int.tmod (c / 64) 64=c / 64 % 64:=Int.tmod_eq_emod_of_nonneg U;have⟨f,g⟩:=π d e;clear d e b;go_enter func349,ntmps349;go_wp2;go_ret;refine⟨_,rfl,?_,ġ⟩;rw[f.o,g.o];exact mT _ #[ĭ .u8 (224+c / 4096),ĭ .u8 (128+c / 64 % 64),ĭ .u8 (128+c % 64)] _ 1 3 rfl ϐ
def Ol (c:Int) (w:β) (a:0<=c) (m:c<=1114111) (l:65536<=c):Calls prog 349 #[G c] w (iJ w 5 1 (L (enc c)) (η (enc c))):=by
 have b:enc c=[u8 (240+c / 262144),u8 (128+c / 4096 % 64),u8 (128+c / 64 % 64),u8 (128+c % 64)]:=by unfold enc;rw[κ U];rw[κ U];rw[κ U]
 have d:η (enc c)=[ĭ .u8 (240+c / 262144),ĭ .u8 (128+c / 4096 % 64),ĭ .u8 (128+c / 64 % 64),ĭ .u8 (128+c % 64)]:=by
  rw[b];simp only[η,ij,jQ];rw[gs (240+c / 262144) U U,gs (128+c / 4096 % 64) U U,gs (128+c / 64 % 64) U U,gs (128+c % 64) U U]
 have e:L (enc c)=4:=by rw[b];rfl
 have h:IntKind.u8.wrap (240+c / 262144)=240+c / 262144:=my _ U U;have i:IntKind.u8.wrap (128+c / 4096 % 64)=128+c / 4096 % 64:=my _ U U;have j:IntKind.u8.wrap (128+c / 64 % 64)=128+c / 64 % 64:=my _ U U;have k:IntKind.u8.wrap (128+c % 64)=128+c % 64:=my _ U U;have n:¬c<128:=U;have o:¬c<2048:=U;have p:¬c<65536:=U;have q:Int.tdiv c 64=c / 64:=Int.tdiv_eq_ediv_of_nonneg a;have r:Int.tmod c 64=c % 64:=Int.tmod_eq_emod_of_nonneg a;have s:Int.tdiv c 4096=c / 4096:=Int.tdiv_eq_ediv_of_nonneg a;have u:Int.tmod (c / 64) 64=c / 64 % 64:=Int.tmod_eq_emod_of_nonneg U;have t:Int.tdiv c 262144=c / 262144:=Int.tdiv_eq_ediv_of_nonneg a;have v:Int.tmod (c / 4096) 64=c / 4096 % 64:=Int.tmod_eq_emod_of_nonneg U;have⟨f,g⟩:=π d e;clear d e b;go_enter func349,ntmps349;go_wp2;go_ret;refine⟨_,rfl,?_,ġ⟩;rw[f.o,g.o];exact mT _ #[ĭ .u8 (240+c / 262144),ĭ .u8 (128+c / 4096 % 64),ĭ .u8 (128+c / 64 % 64),ĭ .u8 (128+c % 64)] _ 1 4 rfl ϐ
def Fe (c) (w:β) (a:0<=c) (b:c<=1114111):Calls prog 349 #[G c] w (iJ w 5 1 (L (enc c)) (η (enc c))):=by
 by_cases d:c<128
 .exact Oh c w a b d
 .by_cases e:c<2048
  .exact Oi c w a b ⟨U,e⟩
  .by_cases f:c<65536
   .exact Oj c w a b ⟨U,f⟩
   .exact Ol c w a b U
