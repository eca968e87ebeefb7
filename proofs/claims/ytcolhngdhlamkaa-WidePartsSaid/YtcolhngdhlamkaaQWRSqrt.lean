import Derived.Test.YtcolhngdhlamkaaQWSqrt
import Derived.Test.YtcolhngdhlamkaaQWRMul
import Derived.Test.YtcolhngdhlamkaaQWRCmp
import Derived.Test.YtcolhngdhlamkaaGWx10
namespace Go.Proofs.Ytcolhngdhlamkaa.Q
open Go.RowKit Go.Proofs.Ytcolhngdhlamkaa.GW Go.Proofs.YtcolhngdhlamkaaW.PrintWords Go.Proofs.YtcolhngdhlamkaaW.PrintLast Go.Proofs.YtcolhngdhlamkaaW.PrintMore
theorem cmp_npos {x y : Int} : cmpV x y ≤ 0 ↔ x ≤ y := by unfold cmpV; (split; omega; split <;> omega)
theorem rsqrt_l0 {h l : Int} (hl : U l) : ∀ (d k : Nat) {r i : Int}, d < k → i = (d : Int) - 1 → d ≤ 64 → 0 ≤ r → r % 2 ^ d = 0 → r + 2 ^ d ≤ 18446744073709551616 → backfillref01_Sqrt.l0 k r i h l = some (sqrtV d r (V h l))
  | 0, k, r, i, hk, hi, _, _, _, _ => by
    obtain ⟨k, rfl⟩ : ∃ m, k = m + 1 := ⟨k - 1, by omega⟩
    simp only [backfillref01_Sqrt.l0, sqrtV]
    rw [if_neg (by omega)]
  | d + 1, k, r, i, hk, hi, hd, h0, hm, hb => by
    obtain ⟨k, rfl⟩ : ∃ m, k = m + 1 := ⟨k - 1, by omega⟩
    obtain ⟨s1, s2, s3, s4, s5, s6⟩ := sq_step h0 hm hb
    have p := pow_pos_ d
    simp only [backfillref01_Sqrt.l0, sqrtV]
    obtain rfl : i = (d : Int) := by omega
    rw [if_pos (by omega), if_pos (by omega), shl_one d (by omega), w64_in s5 s6, rmul ⟨s5, s6⟩ ⟨s5, s6⟩]
    simp only [Option.bind_some]
    rw [rcmp k (by omega) (umod _) hl]
    simp only [Option.bind_some]
    have hv : V ((r + 2 ^ d) * (r + 2 ^ d) / 18446744073709551616) ((r + 2 ^ d) * (r + 2 ^ d) % 18446744073709551616) = (r + 2 ^ d) * (r + 2 ^ d) := by unfold V; omega
    rw [hv, wrap64_in (by omega) (by omega)]
    by_cases c : (r + 2 ^ d) * (r + 2 ^ d) ≤ V h l
    · rw [if_pos (cmp_npos.2 c), if_pos c]
      exact rsqrt_l0 hl d k (by omega) rfl (by omega) s5 s3 s4
    · rw [if_neg (fun x => c (cmp_npos.1 x)), if_neg c]
      exact rsqrt_l0 hl d k (by omega) rfl (by omega) h0 s1 s2
theorem rsqrt {h l : Int} (k : Nat) (hk : 66 ≤ k) (hl : U l) : backfillref01_Sqrt.f k h l = some (sqrtV 64 0 (V h l)) := by
  unfold backfillref01_Sqrt.f
  exact rsqrt_l0 hl 64 k (by omega) (by omega) (by omega) (by omega) (by decide) (by decide)
end Go.Proofs.Ytcolhngdhlamkaa.Q
