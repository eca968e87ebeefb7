import Derived.Test.YtmgmggkebmgafaaDoorQLBase
import Derived.Test.YtmgmggkebmgafaaDoorQLSh
import Derived.Test.YtmgmggkebmgafaaDoorQLRShl
import Derived.Test.YtmgmggkebmgafaaDoorGLx5
namespace Go.Proofs.YtmgmggkebmgafaaDoor.Q
open Go.RowKit Go.Proofs.YtmgmggkebmgafaaDoor.GL Go.Proofs.YtmgmggkebmgafaaDoorW.PrintWords Go.Proofs.YtmgmggkebmgafaaDoorW.PrintLast Go.Proofs.YtmgmggkebmgafaaDoorW.PrintMore

theorem shl1V {h l : Int} (hh : U h) (hl : U l) : backfillref01_Shl.f h l 1 = some (2 * V h l % 340282366920938463463374607431768211456 / 18446744073709551616, 2 * V h l % 18446744073709551616) := by
  have := rshl hh hl 1 (by decide) (by decide)
  rw [show ((1 : Nat) : Int) = 1 from rfl] at this
  rw [this]
  unfold shlV V
  obtain ⟨a, b⟩ := hh; obtain ⟨c, d⟩ := hl
  congr 2 <;> simp <;> omega
end Go.Proofs.YtmgmggkebmgafaaDoor.Q
