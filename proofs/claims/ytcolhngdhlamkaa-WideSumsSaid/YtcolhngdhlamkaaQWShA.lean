import Derived.Test.YtcolhngdhlamkaaQWWShl
import Derived.Test.YtcolhngdhlamkaaQWWShr
import Derived.Test.YtcolhngdhlamkaaQWRShl
import Derived.Test.YtcolhngdhlamkaaQWRShr
import Derived.Test.YtcolhngdhlamkaaGWx10
import Derived.Test.YtcolhngdhlamkaaGWx4
import Derived.Test.YtcolhngdhlamkaaGWx9
namespace Go.Proofs.Ytcolhngdhlamkaa.Q
open Go.RowKit Go.Proofs.Ytcolhngdhlamkaa.GW Go.Proofs.YtcolhngdhlamkaaW.PrintWords Go.Proofs.YtcolhngdhlamkaaW.PrintLast Go.Proofs.YtcolhngdhlamkaaW.PrintMore
/-- A shift by any number. -/
def shlA (h l n : Int) : Int × Int := if n ≤ 0 then (h, l) else if n < 64 then shlV h l n.toNat else if n < 128 then (shl .u64 l (n - 64), 0) else (0, 0)
def shrA (h l n : Int) : Int × Int := if n ≤ 0 then (h, l) else if n < 64 then shrV h l n.toNat else if n < 128 then (0, shr .u64 h (n - 64)) else (0, 0)
theorem wshl_all {h l : Int} (hh : U h) (hl : U l) (n : Int) : wide_Shl.f h l n = some (shlA h l n) := by
  unfold shlA
  by_cases c1 : n ≤ 0
  · rw [if_pos c1]; unfold wide_Shl.f; rw [if_pos c1]
  · by_cases c2 : n < 64
    · rw [if_neg c1, if_pos c2]
      have := wshl hh hl n.toNat (by omega) (by omega)
      rw [show ((n.toNat : Nat) : Int) = n by omega] at this
      exact this
    · rw [if_neg c1, if_neg c2]; unfold wide_Shl.f; rw [if_neg c1, if_neg c2]
      by_cases c3 : n < 128
      · rw [if_pos c3, if_pos c3, wrap64_in (by omega) (by omega), if_pos (by omega)]
      · rw [if_neg c3, if_neg c3]
theorem wshr_all {h l : Int} (hh : U h) (hl : U l) (n : Int) : wide_Shr.f h l n = some (shrA h l n) := by
  unfold shrA
  by_cases c1 : n ≤ 0
  · rw [if_pos c1]; unfold wide_Shr.f; rw [if_pos c1]
  · by_cases c2 : n < 64
    · rw [if_neg c1, if_pos c2]
      have := wshr hh hl n.toNat (by omega) (by omega)
      rw [show ((n.toNat : Nat) : Int) = n by omega] at this
      exact this
    · rw [if_neg c1, if_neg c2]; unfold wide_Shr.f; rw [if_neg c1, if_neg c2]
      by_cases c3 : n < 128
      · rw [if_pos c3, if_pos c3, wrap64_in (by omega) (by omega), if_pos (by omega)]
      · rw [if_neg c3, if_neg c3]
theorem rshl_all {h l : Int} (hh : U h) (hl : U l) (n : Int) : backfillref01_Shl.f h l n = some (shlA h l n) := by
  unfold shlA
  by_cases c1 : n ≤ 0
  · rw [if_pos c1]; unfold backfillref01_Shl.f; rw [if_pos (by omega)]
  · by_cases c2 : n < 64
    · rw [if_neg c1, if_pos c2]
      have := rshl hh hl n.toNat (by omega) (by omega)
      rw [show ((n.toNat : Nat) : Int) = n by omega] at this
      exact this
    · rw [if_neg c1, if_neg c2]; unfold backfillref01_Shl.f; rw [if_neg (by omega)]
      by_cases c3 : n < 128
      · rw [if_pos c3, if_neg (by omega), if_pos (by omega), wrap64_in (by omega) (by omega), if_pos (by omega)]
      · rw [if_neg c3, if_pos (by omega)]
theorem rshr_all {h l : Int} (hh : U h) (hl : U l) (n : Int) : backfillref01_Shr.f h l n = some (shrA h l n) := by
  unfold shrA
  by_cases c1 : n ≤ 0
  · rw [if_pos c1]; unfold backfillref01_Shr.f; rw [if_pos (by omega)]
  · by_cases c2 : n < 64
    · rw [if_neg c1, if_pos c2]
      have := rshr hh hl n.toNat (by omega) (by omega)
      rw [show ((n.toNat : Nat) : Int) = n by omega] at this
      exact this
    · rw [if_neg c1, if_neg c2]; unfold backfillref01_Shr.f; rw [if_neg (by omega)]
      by_cases c3 : n < 128
      · rw [if_pos c3, if_neg (by omega), if_pos (by omega), wrap64_in (by omega) (by omega), if_pos (by omega)]
      · rw [if_neg c3, if_pos (by omega)]
end Go.Proofs.Ytcolhngdhlamkaa.Q
