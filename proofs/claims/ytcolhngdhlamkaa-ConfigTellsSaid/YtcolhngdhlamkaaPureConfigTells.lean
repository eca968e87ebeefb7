/-
  ConfigTells answers true at every config: the program's Check, Lead, Bound, Most, Floor and Off are the document's. No condition.
-/
import Derived.Test.YtcolhngdhlamkaaQCTCfgT
import Derived.Test.YtcolhngdhlamkaaQCTCfgP
import Derived.Test.YtcolhngdhlamkaaQCTCfgR
import Derived.Test.YtcolhngdhlamkaaGCTx14
import Derived.Test.YtcolhngdhlamkaaGCTx15
import Derived.Test.YtcolhngdhlamkaaGCTx9
namespace Go.Proofs.Ytcolhngdhlamkaa.Pure
open Go.RowKit Go.Proofs.Ytcolhngdhlamkaa.GCT Go.Proofs.Ytcolhngdhlamkaa.Q
theorem tells (N Q L A F S P H : Int) : backfilllaw11_ConfigTells.f 10 N Q L A F S P H = some true := by
  unfold backfilllaw11_ConfigTells.f config_Off.f backfillref11_Off.f config_Lead.f backfillref11_Lead.f config_Bound.f backfillref11_Bound.f config_Most.f backfillref11_Most.f config_Floor.f backfillref11_Floor.f
  rw [shown11, p_check 10 (by omega), r_check 10 (by omega)]
  simp only [Option.bind_some]
  by_cases c : checkV N Q L A F S P H = 0
  · obtain ⟨B, hm, _⟩ := check_ok c
    simp only [if_pos c]
    rw [p_bounds B hm, r_bounds B hm, p_lead B, r_lead B, p_bound B, r_bound B, p_most B, r_M B, p_area B, r_C B]
    simp only [Option.bind_some, if_true, backfilllaw11_num.f, beq_self_eq_true, Bool.and_self]
  · simp only [if_neg c]
    simp only [Option.bind_some, if_true, backfilllaw11_num.f, beq_self_eq_true, Bool.and_self]
theorem ConfigTells (N Q L A F S P H : Int) (_ : (Lit.int .i64 N).wf = true) (_ : (Lit.int .i64 Q).wf = true) (_ : (Lit.int .i64 L).wf = true) (_ : (Lit.int .i64 A).wf = true) (_ : (Lit.int .i64 F).wf = true) (_ : (Lit.int .i64 S).wf = true) (_ : (Lit.int .i64 P).wf = true) (_ : (Lit.int .i64 H).wf = true) : ∃ k, backfilllaw11_ConfigTells.f k N Q L A F S P H = some true := ⟨10, tells N Q L A F S P H⟩
end Go.Proofs.Ytcolhngdhlamkaa.Pure
