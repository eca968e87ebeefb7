/-
  WideBack answers true at every two numbers and shift: what is added is taken away again, what is divided comes back with its rest, what is shifted is shifted back, and a root's square is the last that is not above. No condition.
-/
import Derived.Test.YtcolhngdhlamkaaQWLawWide
import Derived.Test.YtcolhngdhlamkaaQWShVal
import Derived.Test.YtcolhngdhlamkaaQWTimes
import Derived.Test.YtcolhngdhlamkaaQWSub
import Derived.Test.YtcolhngdhlamkaaQWSqrtSq
import Derived.Test.YtcolhngdhlamkaaGWx12
import Derived.Test.YtcolhngdhlamkaaGWx7
namespace Go.Proofs.Ytcolhngdhlamkaa.Pure
open Go.RowKit Go.Proofs.Ytcolhngdhlamkaa.GW Go.Proofs.Ytcolhngdhlamkaa.Q Go.Proofs.YtcolhngdhlamkaaW.PrintWords
theorem U_words {x : Int} (h0 : 0 ≤ x) (h1 : x < 340282366920938463463374607431768211456) : U (x / 18446744073709551616) ∧ U (x % 18446744073709551616) := ⟨⟨by omega, by omega⟩, ⟨by omega, by omega⟩⟩
theorem back_j4 (k : Nat) (hk : 101 ≤ k) {h l : Int} (hh : U h) (hl : U l) : backfilllaw01_WideBack.j4 k true h l = some true := by
  obtain ⟨k, rfl⟩ : ∃ m, k = m + 1 := ⟨k - 1, by omega⟩
  simp only [backfilllaw01_WideBack.j4]
  rw [wsqrt k (by omega) hl]
  simp only [Option.bind_some, if_true]
  have hb := V_bd hh hl
  have hs := sqrtV_sq (v := V h l) 64 (r := 0) (by omega) (by omega) (by have e : (2 : Int) ^ 64 = 18446744073709551616 := (by decide); rw [e]; omega)
  have hu := sqrtV_bd (v := V h l) 64 (r := 0) (by omega) (by decide)
  generalize sqrtV 64 0 (V h l) = s at *
  have e1 := V_words (s * s)
  obtain ⟨s0, s1⟩ := hu
  rw [wmul (a := s) (b := s) ⟨s0, s1⟩ ⟨s0, s1⟩]
  simp only [Option.bind_some]
  by_cases c : s = 18446744073709551615
  · have hw : U (IntKind.u64.wrap (s + 1)) := by rw [w64]; exact ⟨by omega, by omega⟩
    rw [wmul hw hw]
    simp only [Option.bind_some]
    rw [wcmp (umod _) hl, e1]
    simp only [Option.bind_some]
    rw [if_pos (by unfold cmpV; split; omega; split <;> omega), if_pos c]
  · rw [w64_in (x := s + 1) (by omega) (by omega), wmul (a := s + 1) (b := s + 1) ⟨by omega, by omega⟩ ⟨by omega, by omega⟩]
    simp only [Option.bind_some]
    rw [wcmp (umod _) hl, e1]
    simp only [Option.bind_some]
    rw [if_pos (by unfold cmpV; split; omega; split <;> omega), if_neg c, wcmp (umod _) hl, V_words]
    simp only [Option.bind_some]
    rw [decide_eq_true (cmp_pos.2 (by omega))]
theorem back_j3 (k : Nat) (hk : 102 ≤ k) {h l n : Int} (hh : U h) (hl : U l) (n0 : 0 ≤ n) (b : Bool) (hb : b = true → n < 128) : backfilllaw01_WideBack.j3 k n true b h l = some true := by
  obtain ⟨k, rfl⟩ : ∃ m, k = m + 1 := ⟨k - 1, by omega⟩
  simp only [backfilllaw01_WideBack.j3]
  cases b with
  | false => rw [if_neg (by decide)]; exact back_j4 k (by omega) hh hl
  | true =>
    have n1 := hb rfl
    rw [if_pos rfl]
    have vb := V_bd hh hl
    have p := pow_pos_ n.toNat
    have q0 : 0 ≤ V h l / 2 ^ n.toNat := Int.ediv_nonneg vb.1 (by omega)
    have q1 : V h l / 2 ^ n.toNat ≤ V h l := Int.ediv_le_self _ vb.1
    have lo := Int.ediv_mul_le (V h l) (show (2 : Int) ^ n.toNat ≠ 0 by omega)
    have lp : 0 ≤ V h l / 2 ^ n.toNat * 2 ^ n.toNat := Int.mul_nonneg q0 (by omega)
    have em := Int.emod_lt_of_pos (V h l) p
    have e0 := Int.emod_nonneg (V h l) (show (2 : Int) ^ n.toNat ≠ 0 by omega)
    have ed := Int.ediv_mul_add_emod (V h l) (2 ^ n.toNat)
    obtain ⟨uq1, uq2⟩ := U_words q0 (by omega)
    obtain ⟨ul1, ul2⟩ := U_words lp (by omega)
    have er : V h l / 2 ^ n.toNat * 2 ^ n.toNat / 2 ^ n.toNat = V h l / 2 ^ n.toNat := Int.mul_ediv_cancel _ (by omega)
    have hshl : wide_Shl.f (V h l / 2 ^ n.toNat / 18446744073709551616) (V h l / 2 ^ n.toNat % 18446744073709551616) n = some (wordsV (V h l / 2 ^ n.toNat * 2 ^ n.toNat)) := by
      rw [wshl_all uq1 uq2, shlA_val uq1 uq2 n0 n1, V_words, Int.emod_eq_of_lt lp (by omega)]
    have hshr : wide_Shr.f (V h l / 2 ^ n.toNat * 2 ^ n.toNat / 18446744073709551616) (V h l / 2 ^ n.toNat * 2 ^ n.toNat % 18446744073709551616) n = some (wordsV (V h l / 2 ^ n.toNat)) := by
      rw [wshr_all ul1 ul2, shrA_val ul1 ul2 n0 n1, V_words, er]
    have hsub : subV (V h l) (V h l / 2 ^ n.toNat * 2 ^ n.toNat) = (V h l % 2 ^ n.toNat / 18446744073709551616, V h l % 2 ^ n.toNat % 18446744073709551616, true) := by
      unfold subV
      rw [if_neg (by omega), show V h l - V h l / 2 ^ n.toNat * 2 ^ n.toNat = V h l % 2 ^ n.toNat by omega]
    obtain ⟨ur1, ur2⟩ := U_words e0 (by omega)
    rw [wshr_all hh hl, shrA_val hh hl n0 n1]
    simp only [Option.bind_some, wordsV]
    rw [hshl]
    simp only [Option.bind_some, wordsV]
    rw [wsub hh hl ul1 ul2, V_words, hsub, wcmp ul2 hl, V_words]
    simp only [Option.bind_some]
    rw [if_neg (by rw [cmp_pos]; omega), wshr_all ur1 ur2, shrA_val ur1 ur2 n0 n1, V_words, Int.ediv_eq_zero_of_lt e0 em]
    simp only [Option.bind_some, wordsV]
    rw [if_neg (by decide), hshr]
    simp only [Option.bind_some, wordsV]
    rw [if_neg (by simp)]
    exact back_j4 k (by omega) hh hl
theorem back_j2 (k : Nat) (hk : 103 ≤ k) {h l n : Int} (hh : U h) (hl : U l) : backfilllaw01_WideBack.j2 k n true false h l = some true := by
  obtain ⟨k, rfl⟩ : ∃ m, k = m + 1 := ⟨k - 1, by omega⟩
  simp only [backfilllaw01_WideBack.j2]
  rw [if_neg (by decide)]
  by_cases c : n ≥ 0
  · rw [if_pos c]
    exact back_j3 k (by omega) hh hl c _ (fun x => by simpa using x)
  · rw [if_neg c]
    obtain ⟨k, rfl⟩ : ∃ m, k = m + 1 := ⟨k - 1, by omega⟩
    simp only [backfilllaw01_WideBack.j3]
    rw [if_neg (by decide)]
    exact back_j4 k (by omega) hh hl
theorem back_j1 (k : Nat) (hk : 104 ≤ k) {h l g b n : Int} (hh : U h) (hl : U l) (hb : U b) (hb0 : b ≠ 0) : backfilllaw01_WideBack.j1 k n true (V h l % b) true false h l g b (V h l / b / 18446744073709551616) (V h l / b % 18446744073709551616) = some true := by
  obtain ⟨k, rfl⟩ : ∃ m, k = m + 1 := ⟨k - 1, by omega⟩
  simp only [backfilllaw01_WideBack.j1]
  have vb := V_bd hh hl
  obtain ⟨b0, b1⟩ := hb
  have q0 : 0 ≤ V h l / b := Int.ediv_nonneg vb.1 b0
  have q1 : V h l / b ≤ V h l := Int.ediv_le_self _ vb.1
  have m0 : 0 ≤ V h l % b := Int.emod_nonneg _ hb0
  have m1 : V h l % b < b := Int.emod_lt_of_pos _ (by omega)
  have ed := Int.ediv_mul_add_emod (V h l) b
  obtain ⟨uq1, uq2⟩ := U_words q0 (by omega)
  have lp : 0 ≤ V h l / b * b := Int.mul_nonneg q0 b0
  obtain ⟨ul1, ul2⟩ := U_words lp (by omega)
  rw [if_neg (by decide), wtimes uq1 uq2 ⟨b0, b1⟩, times_fits q0 b0 (by omega)]
  simp only [Option.bind_some, wide_Of.f]
  rw [wadd ul1 ul2 ⟨by omega, by omega⟩ ⟨m0, by omega⟩, V_words, show V 0 (V h l % b) = V h l % b by unfold V; omega]
  unfold addV
  rw [ed, if_pos vb.2, V_hi hl, V_lo hl]
  simp only [Option.bind_some, if_true, beq_self_eq_true, Bool.not_true, Bool.or_self]
  exact back_j2 k (by omega) hh hl
theorem back_j0 (k : Nat) (hk : 105 ≤ k) {h l g b n : Int} (hh : U h) (hl : U l) (hb : U b) : backfilllaw01_WideBack.j0 k n true false h l g b = some true := by
  obtain ⟨k, rfl⟩ : ∃ m, k = m + 1 := ⟨k - 1, by omega⟩
  simp only [backfilllaw01_WideBack.j0]
  rw [if_neg (by decide)]
  by_cases c : b = 0
  · subst c
    rw [wdiv0]
    simp only [Option.bind_some]
    rw [if_neg (by decide), if_neg (by decide)]
    obtain ⟨k, rfl⟩ : ∃ m, k = m + 1 := ⟨k - 1, by omega⟩
    simp only [backfilllaw01_WideBack.j1]
    rw [if_neg (by decide), wtimes ⟨by omega, by omega⟩ ⟨by omega, by omega⟩ ⟨by omega, by omega⟩]
    simp only [Option.bind_some, wide_Of.f]
    rw [show timesV 0 0 0 = (0, 0, true) by decide +kernel]
    dsimp only
    rw [wadd ⟨by omega, by omega⟩ ⟨by omega, by omega⟩ ⟨by omega, by omega⟩ ⟨by omega, by omega⟩]
    simp only [Option.bind_some]
    rw [if_neg (by decide)]
    exact back_j2 k (by omega) hh hl
  · have m1 : V h l % b < b := Int.emod_lt_of_pos _ (by obtain ⟨b0, b1⟩ := hb; omega)
    rw [wdiv k (by omega) hh hl hb c]
    simp only [Option.bind_some]
    rw [if_neg (by simp [c]), if_pos trivial, decide_eq_false (by omega)]
    exact back_j1 k (by omega) hh hl hb c
theorem WideBack (h l g b n : Int) (w0 : (Lit.int .u64 h).wf = true) (w1 : (Lit.int .u64 l).wf = true) (w2 : (Lit.int .u64 g).wf = true) (w3 : (Lit.int .u64 b).wf = true) (_ : (Lit.int .i64 n).wf = true) : ∃ k, backfilllaw01_WideBack.f k h l g b n = some true := by
  have hh := wf_u w0
  have hl := wf_u w1
  have hg := wf_u w2
  have hb := wf_u w3
  refine ⟨200, ?_⟩
  unfold backfilllaw01_WideBack.f
  rw [shown01 200 (by omega), wadd hh hl hg hb]
  have va := V_bd hh hl
  have vb := V_bd hg hb
  simp only [Option.bind_some]
  unfold addV
  by_cases c : V h l + V g b < 340282366920938463463374607431768211456
  · rw [if_pos c]
    obtain ⟨us1, us2⟩ := U_words (x := V h l + V g b) (by omega) c
    simp only [if_true]
    rw [wsub us1 us2 hg hb, V_words]
    unfold subV
    rw [if_neg (by omega), show V h l + V g b - V g b = V h l by omega, V_hi hl, V_lo hl]
    simp only [Option.bind_some, beq_self_eq_true, Bool.not_true, Bool.or_self]
    rw [if_neg (by decide), wcmp us2 hl, V_words]
    simp only [Option.bind_some]
    rw [decide_eq_false (by unfold cmpV; rw [if_neg (by omega)]; split <;> omega)]
    exact back_j0 200 (by omega) hh hl hb
  · rw [if_neg c]
    dsimp only
    rw [wsub ⟨by omega, by omega⟩ ⟨by omega, by omega⟩ hg hb]
    simp only [Option.bind_some]
    rw [if_neg (by decide)]
    exact back_j0 200 (by omega) hh hl hb
end Go.Proofs.Ytcolhngdhlamkaa.Pure
