import Derived.Test.YtcolhngdhlamkaaQFTBase
import Derived.Test.YtcolhngdhlamkaaQFTFixq
import Derived.Test.YtcolhngdhlamkaaQFTRFixq
import Derived.Test.YtcolhngdhlamkaaGFTx3
import Derived.Test.YtcolhngdhlamkaaGFTx6
import Derived.Test.YtcolhngdhlamkaaGFTx9
namespace Go.Proofs.Ytcolhngdhlamkaa.Q
open Go.RowKit Go.Proofs.Ytcolhngdhlamkaa.GFT Go.Proofs.YtcolhngdhlamkaaW.PrintWords Go.Proofs.YtcolhngdhlamkaaW.PrintLast Go.Proofs.YtcolhngdhlamkaaW.PrintMore

theorem shown04 (k : Nat) (hk : 40 ≤ k) : backfilllaw04_shown.f k = some true := by
  unfold backfilllaw04_shown.f backfilllaw04_of.f
  rw [fq_Of (by omega), fq_divUp k (by omega) ⟨by omega, by omega⟩ ⟨by omega, by omega⟩, fq_divDown k (by omega) ⟨by omega, by omega⟩ ⟨by omega, by omega⟩, fq_mulUp k (by omega) ⟨by omega, by omega⟩ ⟨by omega, by omega⟩, fq_sub ⟨by omega, by omega⟩ ⟨by omega, by omega⟩, fq_part ⟨by omega, by omega⟩ ⟨by omega, by omega⟩, fq_floor ⟨by omega, by omega⟩]
  rfl
theorem fixqTells {a b n : Int} (ha : U a) (hb : U b) (hn : n ≤ 9223372036854775807) : backfilllaw04_FixqTells.f 200 a b n = some true := by
  unfold backfilllaw04_FixqTells.f backfilllaw04_of.f
  rw [shown04 200 (by omega), fq_add ha hb, rq_add ha hb, fq_sub ha hb, rq_sub ha hb]
  simp only [Option.bind_some, beq_self_eq_true, Bool.and_self, if_true]
  simp only [backfilllaw04_FixqTells.j0, backfilllaw04_of.f]
  rw [fq_mulDown _ (by omega) ha hb, rq_mulDown _ (by omega) ha hb, fq_mulUp _ (by omega) ha hb, rq_mulUp _ (by omega) ha hb]
  simp only [Option.bind_some, beq_self_eq_true, Bool.and_self, if_true]
  simp only [backfilllaw04_FixqTells.j1, backfilllaw04_of.f]
  rw [fq_divDown _ (by omega) ha hb, rq_divDown _ (by omega) ha hb, fq_divUp _ (by omega) ha hb, rq_divUp _ (by omega) ha hb]
  simp only [Option.bind_some, beq_self_eq_true, Bool.and_self, if_true]
  simp only [backfilllaw04_FixqTells.j2, backfilllaw04_of.f]
  rw [fq_Of hn, rq_Of hn, fq_floor ha, rq_floor ha, fq_part ha hb, rq_part _ (by omega) ha hb]
  simp only [Option.bind_some, beq_self_eq_true, Bool.and_self, if_true]
end Go.Proofs.Ytcolhngdhlamkaa.Q
