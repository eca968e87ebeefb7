/- PrioTells answers true: the program's priority is the document's, at every config, clock, job and factor. Conditions: the words' own ranges. -/
import Derived.Test.YtodibpddlibneaaQPTPrioP
import Derived.Test.YtodibpddlibneaaGPTx10
import Derived.Test.YtodibpddlibneaaGPTx14
namespace Go.Proofs.Ytodibpddlibneaa.Q
open Go.RowKit Go.Proofs.Ytodibpddlibneaa.GPT Go.Proofs.YtodibpddlibneaaW.PrintWords Go.Proofs.YtodibpddlibneaaW.PrintLast Go.Proofs.YtodibpddlibneaaW.PrintMore
set_option linter.unusedVariables false
set_option linter.unusedSimpArgs false
theorem c_reads {w : World} {k : IntKind} {A : Option Addr} {n : Nat} {xs : List Int} (h : ReadsInt w k A n xs) : Kd.C (Kd.int k) w A n xs := Kd.C_of_reads (d := 0) h
theorem wf_u64 {x : Int} (h : (Lit.int .u64 x).wf = true) : 0 ≤ x ∧ x < 18446744073709551616 := by
  have := h
  simp [Lit.wf, IntKind.min, IntKind.max, IntKind.bits, IntKind.signed] at this
  omega
theorem tells_calls (w : World) (a0 : Int) (h0 : (Lit.int .i64 a0).wf = true) (a1 : Int) (h1 : (Lit.int .i64 a1).wf = true) (a2 : Int) (h2 : (Lit.int .i64 a2).wf = true) (a3 : Int) (h3 : (Lit.int .i64 a3).wf = true) (a4 : Int) (h4 : (Lit.int .i64 a4).wf = true) (a5 : Int) (h5 : (Lit.int .i64 a5).wf = true) (a6 : Int) (h6 : (Lit.int .i64 a6).wf = true) (a7 : Int) (h7 : (Lit.int .i64 a7).wf = true)
    (now : Int) (hn : (Lit.int .i64 now).wf = true) (b0 : Int) (k0 : (Lit.int .i64 b0).wf = true) (b1 : Int) (k1 : (Lit.int .i64 b1).wf = true) (b2 : Int) (k2 : (Lit.int .i64 b2).wf = true) (b3 : Int) (k3 : (Lit.int .i64 b3).wf = true) (b4 : Int) (k4 : (Lit.int .i64 b4).wf = true) (b5 : Int) (k5 : (Lit.int .i64 b5).wf = true) (b6 : Int) (k6 : (Lit.int .i64 b6).wf = true)
    (A : Option Addr) (c : Nat) (l : List Int) (hr : ReadsInt w .i64 A l.length l) (hc : l.length ≤ c) (hl : ∀ x ∈ l, (Lit.int .i64 x).wf = true) (fac : Int) (hf : (Lit.int .u64 fac).wf = true) :
    Calls Try.prog 4 #[.agg #[.int .i64 a0, .int .i64 a1, .int .i64 a2, .int .i64 a3, .int .i64 a4, .int .i64 a5, .int .i64 a6, .int .i64 a7], .int .i64 now, .agg #[.int .i64 b0, .int .i64 b1, .int .i64 b2, .int .i64 b3, .int .i64 b4, .int .i64 b5, .int .i64 b6, .slice A l.length c], .int .u64 fac] w fun e w' => e = .returned (.bool true) ∧ Below w.heap.size w w' := by
  obtain ⟨g0, g1⟩ := wf_u64 hf
  refine backfilllaw14_PrioTells.calls 10 a0 a1 a2 a3 a4 a5 a6 a7 now b0 b1 b2 b3 b4 b5 b6 A c l fac true w (c_reads hr) hc ?_
  unfold backfilllaw14_PrioTells.f backfilllaw14_shown.f
  rw [show 10 = 6 + 4 from rfl, p_prio 6 _ _ _ _ _ _ _ _ _ _ _ _ _ _ _ _ _ _ g0 g1, r_prio 6 _ _ _ _ _ _ _ _ _ _ _ _ _ _ _ _ _ _ g0]
  simp
end Go.Proofs.Ytodibpddlibneaa.Q
