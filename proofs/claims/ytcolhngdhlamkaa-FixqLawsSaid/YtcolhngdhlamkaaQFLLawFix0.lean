import Derived.Test.YtcolhngdhlamkaaQFLBase
import Derived.Test.YtcolhngdhlamkaaQFLFixq
import Derived.Test.YtcolhngdhlamkaaGFLx3
import Derived.Test.YtcolhngdhlamkaaGFLx6
namespace Go.Proofs.Ytcolhngdhlamkaa.Q
open Go.RowKit Go.Proofs.Ytcolhngdhlamkaa.GFL Go.Proofs.YtcolhngdhlamkaaW.PrintWords Go.Proofs.YtcolhngdhlamkaaW.PrintLast Go.Proofs.YtcolhngdhlamkaaW.PrintMore

theorem shown04 (k : Nat) (hk : 40 ≤ k) : backfilllaw04_shown.f k = some true := by
  unfold backfilllaw04_shown.f backfilllaw04_of.f
  rw [fq_Of (by omega), fq_divUp k (by omega) ⟨by omega, by omega⟩ ⟨by omega, by omega⟩, fq_divDown k (by omega) ⟨by omega, by omega⟩ ⟨by omega, by omega⟩, fq_mulUp k (by omega) ⟨by omega, by omega⟩ ⟨by omega, by omega⟩, fq_sub ⟨by omega, by omega⟩ ⟨by omega, by omega⟩, fq_part ⟨by omega, by omega⟩ ⟨by omega, by omega⟩, fq_floor ⟨by omega, by omega⟩]
  rfl
end Go.Proofs.Ytcolhngdhlamkaa.Q
