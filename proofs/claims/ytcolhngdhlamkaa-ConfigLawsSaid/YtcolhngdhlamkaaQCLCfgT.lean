import Derived.Test.YtcolhngdhlamkaaQCLCfgP
import Derived.Test.YtcolhngdhlamkaaGCLx9
namespace Go.Proofs.Ytcolhngdhlamkaa.Q
open Go.RowKit Go.Proofs.Ytcolhngdhlamkaa.GCL Go.Proofs.YtcolhngdhlamkaaW.PrintWords Go.Proofs.YtcolhngdhlamkaaW.PrintLast Go.Proofs.YtcolhngdhlamkaaW.PrintMore
theorem shown11 : backfilllaw11_shown.f 10 = some true := by decide +kernel
theorem check_ok {N Q L A F S P H : Int} (c : checkV N Q L A F S P H = 0) : Bds N Q L A F S P H ∧ mostV N P H ≤ 2147483648 ∧ offV N Q L A F S P H = 0 := by
  unfold checkV at c
  by_cases d : inR N Q L A F S P H = true
  · rw [if_pos d] at c
    refine ⟨bds (inR_cfg d), ?_⟩
    by_cases e : mostV N P H > 2147483648
    · rw [if_pos e] at c
      omega
    · rw [if_neg e] at c
      by_cases f : A * 1099511627776 + fsV N F S ≥ 4611686018427387904
      · rw [if_pos f] at c
        omega
      · rw [if_neg f] at c
        exact ⟨by omega, c⟩
  · rw [if_neg d] at c
    omega
end Go.Proofs.Ytcolhngdhlamkaa.Q
