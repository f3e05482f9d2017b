/- Part 39 of the proof. -/
import Derived.Test.YtpilfbcffofheaaGreatDoorm35
import Derived.Test.YtpilfbcffofheaaGreatDoorm38
set_option linter.all false
set_option maxRecDepth 100000
set_option maxHeartbeats 16000000
namespace Go.Proofs.YtpilfbcffofheaaGreatDoor
open Go.RowKit Go.Proofs.Tryz Go.Sort
open Value renaming slice->D
open List renaming length->L
open Ending renaming returned->ŗ
def Rt (N la ln lc acts) (w:β) (c:ϭ w) (b:Ϭ w) (i:wi w (D la ln lc) acts) (j:L acts=ln) (g:∀ k (p:k<L acts),-9223372036854775808<=acts[k].N/\acts[k].N<=9223372036854775807) :
  Calls prog 4 #[G N,D la ln lc] w fun e w'=>e=ŗ (.bool true)/\BQ w w':=by
 by_cases h:3<=N/\N<=150
 .obtain⟨n,rfl⟩:∃ n:Nat,N=(n:Int):=⟨N.toNat,U⟩
  exact HI n la ln lc acts w c b U U i j g (fun f d=>Gv f (c.B d) (b.B d))
 .have HW:=Zx (Gv w c b)
  by_cases m:N<3
  .go_enter func4,ntmps4
   go_wp2_with fail
   refine HW.o.M ?_;rintro e l ⟨rfl,a⟩;go_wp2;go_ret;exact⟨rfl,a⟩
  .have o:150<N:=U
   go_enter func4,ntmps4;go_wp2_with fail
   refine HW.o.M ?_;rintro e l ⟨rfl,a⟩;go_wp2;go_ret;exact⟨rfl,a⟩
