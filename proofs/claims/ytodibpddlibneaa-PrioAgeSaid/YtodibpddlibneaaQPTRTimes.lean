import Derived.Test.YtodibpddlibneaaQPTTimes
import Derived.Test.YtodibpddlibneaaQPTRAdd
import Derived.Test.YtodibpddlibneaaQPTRMul
import Derived.Test.YtodibpddlibneaaGPTx11
namespace Go.Proofs.Ytodibpddlibneaa.Q
open Go.RowKit Go.Proofs.Ytodibpddlibneaa.GPT Go.Proofs.YtodibpddlibneaaW.PrintWords Go.Proofs.YtodibpddlibneaaW.PrintLast Go.Proofs.YtodibpddlibneaaW.PrintMore
theorem rtimes {h l y : Int} (hh : U h) (hl : U l) (hy : U y) : backfillref01_Times.f h l y = some (timesV h l y) := by
  unfold backfillref01_Times.f timesV
  rw [rmul hl hy, rmul hh hy]
  simp only [Option.bind_some]
  have m1 := mul_bd hl hy
  by_cases c : h * y / 18446744073709551616 > 0
  · rw [if_pos c, if_pos c]; rfl
  · rw [if_neg c, if_neg c, radd ⟨by omega, by omega⟩ (umod' _) (umod' _) ⟨by omega, by omega⟩]
    simp only [Option.bind_some]
    rw [show V (l * y / 18446744073709551616) (l * y % 18446744073709551616) = l * y by unfold V; omega]
end Go.Proofs.Ytodibpddlibneaa.Q
