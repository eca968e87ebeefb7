import Derived.Test.YtcolhngdhlamkaaQWDiv
import Derived.Test.YtcolhngdhlamkaaQWAdd
import Derived.Test.YtcolhngdhlamkaaQWMul
import Derived.Test.YtcolhngdhlamkaaQWSqrt
import Derived.Test.YtcolhngdhlamkaaQWShA
import Derived.Test.YtcolhngdhlamkaaGWx5
namespace Go.Proofs.Ytcolhngdhlamkaa.Q
open Go.RowKit Go.Proofs.Ytcolhngdhlamkaa.GW Go.Proofs.YtcolhngdhlamkaaW.PrintWords Go.Proofs.YtcolhngdhlamkaaW.PrintLast Go.Proofs.YtcolhngdhlamkaaW.PrintMore
theorem ref01 (h l : Int) : backfilllaw01_ref.f h l = some (h, l) := rfl
theorem num01 (h l : Int) : backfilllaw01_num.f h l = some (h, l) := rfl
theorem shown01 (k : Nat) (hk : 100 ≤ k) : backfilllaw01_shown.f k = some true := by
  unfold backfilllaw01_shown.f
  rw [wdiv k (by omega) ⟨by omega, by omega⟩ ⟨by omega, by omega⟩ ⟨by omega, by omega⟩ (by omega), wadd ⟨by omega, by omega⟩ ⟨by omega, by omega⟩ ⟨by omega, by omega⟩ ⟨by omega, by omega⟩, wmul ⟨by omega, by omega⟩ ⟨by omega, by omega⟩, wsqrt k (by omega) ⟨by omega, by omega⟩, wshl_all ⟨by omega, by omega⟩ ⟨by omega, by omega⟩]
  decide +kernel
end Go.Proofs.Ytcolhngdhlamkaa.Q
