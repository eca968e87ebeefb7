/- PrioAge answers true: age wins, the priority does not fall as the clock or the factor rises. Conditions: the words' own ranges. -/
import Derived.Test.YtodibpddlibneaaQPTPrioP
import Derived.Test.YtodibpddlibneaaGPTx10
import Derived.Test.YtodibpddlibneaaGPTx12
import Derived.Test.YtodibpddlibneaaGPTx15
import Derived.Test.YtodibpddlibneaaGPTx16
namespace Go.Proofs.Ytodibpddlibneaa.Q
open Go.RowKit Go.Proofs.Ytodibpddlibneaa.GPT Go.Proofs.YtodibpddlibneaaW.PrintWords Go.Proofs.YtodibpddlibneaaW.PrintLast Go.Proofs.YtodibpddlibneaaW.PrintMore
set_option linter.unusedVariables false
set_option linter.unusedSimpArgs false
theorem c_readsA {w : World} {k : IntKind} {A : Option Addr} {n : Nat} {xs : List Int} (h : ReadsInt w k A n xs) : Kd.C (Kd.int k) w A n xs := Kd.C_of_reads (d := 0) h
theorem wf_u64A {x : Int} (h : (Lit.int .u64 x).wf = true) : 0 ≤ x ∧ x < 18446744073709551616 := by
  have := h
  simp [Lit.wf, IntKind.min, IntKind.max, IntKind.bits, IntKind.signed] at this
  omega
theorem age_f (k : Nat) (N Q L A F S P H now el la : Int) (a0 n1 a2 a3 a4 a5 a6 : Int) (l1 : List Int) (b0 n2 b2 b3 b4 b5 b6 : Int) (l2 : List Int) (f1 f2 : Int) (g1 : 0 ≤ f1) (g1' : f1 < 18446744073709551616) (g2 : 0 ≤ f2) (g2' : f2 < 18446744073709551616) :
    backfilllaw14_PrioAge.f (k + 8) N Q L A F S P H now el la a0 n1 a2 a3 a4 a5 a6 l1 b0 n2 b2 b3 b4 b5 b6 l2 f1 f2 = some true := by
  unfold backfilllaw14_PrioAge.f backfilllaw14_shown.f
  rw [r_check _ (by omega)]
  have jt : backfilllaw14_PrioAge.j0 (k + 8) now el la f1 f2 true N Q L A F S P H a0 n1 a2 a3 a4 a5 a6 l1 b0 n2 b2 b3 b4 b5 b6 l2 = some true := by
    rw [show k + 8 = (k + 7) + 1 from rfl, backfilllaw14_PrioAge.j0, if_pos rfl]
  simp only [Option.bind_some, if_true]
  by_cases c0 : checkV N Q L A F S P H = 0
  · rw [if_pos c0]
    by_cases c1 : now < 0
    · rw [if_pos c1]; exact jt
    rw [if_neg c1]
    by_cases c2 : now > 1099511627776
    · rw [if_pos c2]; exact jt
    rw [if_neg c2]
    by_cases c3 : el < 0
    · rw [if_pos c3]; exact jt
    rw [if_neg c3]
    by_cases c4 : la > now
    · rw [if_pos c4]; exact jt
    rw [if_neg c4]
    by_cases c5 : la ≤ el
    · rw [if_pos c5]; exact jt
    rw [if_neg c5]
    by_cases c6 : n1 < 1
    · rw [if_pos c6]; exact jt
    rw [if_neg c6]
    by_cases c7 : n1 > N
    · rw [if_pos c7]; exact jt
    rw [if_neg c7]
    by_cases c8 : n2 < 1
    · rw [if_pos c8]; exact jt
    rw [if_neg c8]
    by_cases c9 : n2 > N
    · rw [if_pos c9]; exact jt
    rw [if_neg c9]
    by_cases c10 : f1 > f2
    · rw [if_pos c10]; exact jt
    rw [if_neg c10]
    by_cases c11 : f2 > 9223372036854775808
    · rw [decide_eq_true c11]; exact jt
    rw [decide_eq_false c11]
    obtain ⟨B, _⟩ := check_all c0
    obtain ⟨w1, w2, w3⟩ := age_wins (now := now) (el := el) (la := la) (n1 := n1) (n2 := n2) (f1 := f1) (f2 := f2) c0 (by omega) (by omega) (by omega) (by omega) (by omega) (by omega) (by omega) (by omega) (by omega) g1 (by omega) (by omega)
    have hlead : backfillref11_Lead.f (k + 7) N Q L A F S P H = some (leadV N A F S) := by
      unfold backfillref11_Lead.f
      rw [r_check _ (by omega)]
      simp only [Option.bind_some]
      rw [if_pos c0, r_lead B]
      rfl
    have j1t : backfilllaw14_PrioAge.j1 (k + 7) now f1 f2 (prioV N Q L A F S P H now el n1 f1) false N Q L A F S P H a0 n1 a2 el a4 a5 a6 l1 = some true := by
      rw [show k + 7 = (k + 6) + 1 from rfl, backfilllaw14_PrioAge.j1, if_neg (by decide)]
      rw [show k + 6 = (k + 2) + 4 from rfl, p_prio (k + 2) _ _ _ _ _ _ _ _ _ _ _ _ _ _ _ _ _ _ g2 g2']
      simp only [Option.bind_some]
      rw [if_pos (by omega)]
      by_cases c12 : now = 1099511627776
      · rw [if_pos c12]
      · rw [if_neg c12, wrap64_in (by omega) (by omega), p_prio (k + 2) _ _ _ _ _ _ _ _ _ _ _ _ _ _ _ _ _ _ g1 g1']
        simp only [Option.bind_some]
        rw [decide_eq_true (w3 c12)]
    rw [show k + 8 = (k + 7) + 1 from rfl, backfilllaw14_PrioAge.j0, if_neg (by decide), hlead]
    rw [show k + 7 = (k + 3) + 4 from rfl, p_prio (k + 3) _ _ _ _ _ _ _ _ _ _ _ _ _ _ _ _ _ _ g1 g1', p_prio (k + 3) _ _ _ _ _ _ _ _ _ _ _ _ _ _ _ _ _ _ g2 g2']
    simp only [Option.bind_some]
    rw [wrap64_in (by omega) (by omega)]
    by_cases c13 : la - el > leadV N A F S
    · rw [if_pos c13, decide_eq_false (by have := w1 c13; omega)]
      exact j1t
    · rw [if_neg c13]
      exact j1t
  · rw [if_neg c0]; exact jt
theorem age_calls (w : World) (a0 : Int) (h0 : (Lit.int .i64 a0).wf = true) (a1 : Int) (h1 : (Lit.int .i64 a1).wf = true) (a2 : Int) (h2 : (Lit.int .i64 a2).wf = true) (a3 : Int) (h3 : (Lit.int .i64 a3).wf = true) (a4 : Int) (h4 : (Lit.int .i64 a4).wf = true) (a5 : Int) (h5 : (Lit.int .i64 a5).wf = true) (a6 : Int) (h6 : (Lit.int .i64 a6).wf = true) (a7 : Int) (h7 : (Lit.int .i64 a7).wf = true)
    (now : Int) (hn : (Lit.int .i64 now).wf = true) (el : Int) (he : (Lit.int .i64 el).wf = true) (la : Int) (hl : (Lit.int .i64 la).wf = true)
    (b0 : Int) (k0 : (Lit.int .i64 b0).wf = true) (b1 : Int) (k1 : (Lit.int .i64 b1).wf = true) (b2 : Int) (k2 : (Lit.int .i64 b2).wf = true) (b3 : Int) (k3 : (Lit.int .i64 b3).wf = true) (b4 : Int) (k4 : (Lit.int .i64 b4).wf = true) (b5 : Int) (k5 : (Lit.int .i64 b5).wf = true) (b6 : Int) (k6 : (Lit.int .i64 b6).wf = true)
    (A : Option Addr) (c : Nat) (l : List Int) (hr : ReadsInt w .i64 A l.length l) (hc : l.length ≤ c) (hlw : ∀ x ∈ l, (Lit.int .i64 x).wf = true)
    (d0 : Int) (q0 : (Lit.int .i64 d0).wf = true) (d1 : Int) (q1 : (Lit.int .i64 d1).wf = true) (d2 : Int) (q2 : (Lit.int .i64 d2).wf = true) (d3 : Int) (q3 : (Lit.int .i64 d3).wf = true) (d4 : Int) (q4 : (Lit.int .i64 d4).wf = true) (d5 : Int) (q5 : (Lit.int .i64 d5).wf = true) (d6 : Int) (q6 : (Lit.int .i64 d6).wf = true)
    (D : Option Addr) (cd : Nat) (m : List Int) (hrd : ReadsInt w .i64 D m.length m) (hcd : m.length ≤ cd) (hmw : ∀ x ∈ m, (Lit.int .i64 x).wf = true)
    (f1 : Int) (hf1 : (Lit.int .u64 f1).wf = true) (f2 : Int) (hf2 : (Lit.int .u64 f2).wf = true) :
    Calls Try.prog 5 #[.agg #[.int .i64 a0, .int .i64 a1, .int .i64 a2, .int .i64 a3, .int .i64 a4, .int .i64 a5, .int .i64 a6, .int .i64 a7], .int .i64 now, .int .i64 el, .int .i64 la, .agg #[.int .i64 b0, .int .i64 b1, .int .i64 b2, .int .i64 b3, .int .i64 b4, .int .i64 b5, .int .i64 b6, .slice A l.length c], .agg #[.int .i64 d0, .int .i64 d1, .int .i64 d2, .int .i64 d3, .int .i64 d4, .int .i64 d5, .int .i64 d6, .slice D m.length cd], .int .u64 f1, .int .u64 f2] w fun e w' => e = .returned (.bool true) ∧ Below w.heap.size w w' := by
  obtain ⟨g1, g1'⟩ := wf_u64A hf1
  obtain ⟨g2, g2'⟩ := wf_u64A hf2
  exact backfilllaw14_PrioAge.calls 8 a0 a1 a2 a3 a4 a5 a6 a7 now el la b0 b1 b2 b3 b4 b5 b6 A c l d0 d1 d2 d3 d4 d5 d6 D cd m f1 f2 true w (c_readsA hr) hc (c_readsA hrd) hcd (age_f 0 a0 a1 a2 a3 a4 a5 a6 a7 now el la b0 b1 b2 b3 b4 b5 b6 l d0 d1 d2 d3 d4 d5 d6 m f1 f2 g1 g1' g2 g2')
end Go.Proofs.Ytodibpddlibneaa.Q
