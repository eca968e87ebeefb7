import Derived.Test.YtmgmggkebmgafaaDoorQLLad
import Derived.Test.YtmgmggkebmgafaaDoorGLx2
namespace Go.Proofs.YtmgmggkebmgafaaDoor.Q
open Go.RowKit Go.Proofs.YtmgmggkebmgafaaDoor.GL Go.Proofs.YtmgmggkebmgafaaDoorW.PrintWords Go.Proofs.YtmgmggkebmgafaaDoorW.PrintLast Go.Proofs.YtmgmggkebmgafaaDoorW.PrintMore
/-- The upper bound. -/
def hiN (E : Nat) : Nat := if HH E + 81 < 9223372036854775808 then HH E + 81 else 9223372036854775808
theorem bounds_i {e : Int} (h : U e) : ladder_Bounds.f e = some (((HH e.toNat : Nat) : Int), ((hiN e.toNat : Nat) : Int)) := by
  unfold ladder_Bounds.f hiN mn
  rw [half_i h]
  simp only [Option.bind_some]
  have := HH_le e.toNat
  rw [w64_in (by omega) (by omega)]
  congr 2
  split <;> split <;> omega
end Go.Proofs.YtmgmggkebmgafaaDoor.Q
