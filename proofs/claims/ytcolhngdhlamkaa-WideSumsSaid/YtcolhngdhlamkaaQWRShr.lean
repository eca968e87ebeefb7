import Derived.Test.YtcolhngdhlamkaaQWBase
import Derived.Test.YtcolhngdhlamkaaQWSh
import Derived.Test.YtcolhngdhlamkaaGWx10
namespace Go.Proofs.Ytcolhngdhlamkaa.Q
open Go.RowKit Go.Proofs.Ytcolhngdhlamkaa.GW Go.Proofs.YtcolhngdhlamkaaW.PrintWords Go.Proofs.YtcolhngdhlamkaaW.PrintLast Go.Proofs.YtcolhngdhlamkaaW.PrintMore

theorem rshr {h l : Int} (hh : U h) (hl : U l) (n : Nat) (h0 : 0 < n) (h1 : n < 64) : backfillref01_Shr.f h l (n : Int) = some (shrV h l n) := by
  unfold backfillref01_Shr.f shrV
  rw [if_neg (by omega), if_neg (by omega), if_neg (by omega), if_pos (by omega), wrap64_in (by omega) (by omega), if_pos (by omega)]
  rw [show (64 - (n : Int)) = ((64 - n : Nat) : Int) by omega, shr_at n (by omega), shr_at n (by omega), shl_at (64 - n) (by omega)]
  have d := shl_sum hh hl (64 - n) (by omega)
  rw [show 64 - (64 - n) = n by omega] at d
  rw [Int.add_comm] at d
  rw [w64_in d.1 d.2, Int.add_comm]
end Go.Proofs.Ytcolhngdhlamkaa.Q
