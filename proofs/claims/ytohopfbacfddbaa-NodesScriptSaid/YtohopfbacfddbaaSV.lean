/- NodesScript answers true at every input. Conditions: each theorem's own. -/
import Derived.Test.YtohopfbacfddbaaSU
namespace Go.Proofs.Ytohopfbacfddbaa.S
open Go.RowKit Go.Proofs.YtohopfbacfddbaaW.PrintWords Go.Proofs.YtohopfbacfddbaaW.PrintLast Go.Proofs.Ytohopfbacfddbaa.H
open Go.Proofs.Ytohopfbacfddbaa.N hiding gb_setCell gb_drewN gb_drew gb_refl gb_any gb_of_below below_of_gb below_gb own_open ne_of_ge cut_at
set_option linter.unusedVariables false
set_option linter.unusedSimpArgs false
set_option maxHeartbeats 8000000 in
set_option maxRecDepth 100000 in
theorem Script_bb (w : World) (n : Int) (m : Int) (hn : n < 1 ∨ 256 < n) (hm : m < 1 ∨ 256 < m) (A : Option Addr) (len cap : Nat) :
    Calls Try.prog 5 #[.int .i64 n, .int .i64 m, .slice A len cap] w fun e w' => e = .returned (.bool true) ∧ Below w.heap.size w w' := by
  have HNx := Aside0.mk hn
  have HMx := Aside0.mk hm
  clear hn hm
  go_enter Try.func5, Try.ntmps5
  go_wp2_with fail
  refine (shown_calls w).mono ?_
  rintro e w1 ⟨rfl, hb1⟩
  have HB1 := Aside0.mk hb1
  clear hb1
  go_wp2_with fail
  refine (New_bad _ n HNx.out).mono ?_
  rintro e w2 ⟨rfl, rfl⟩
  go_wp2_with fail
  refine (rNew_bad _ n HNx.out).mono ?_
  rintro e w3 ⟨rfl, rfl⟩
  go_wp2_with fail
  refine (New_bad _ m HMx.out).mono ?_
  rintro e w4 ⟨rfl, rfl⟩
  go_wp2_with fail
  refine (rNew_bad _ m HMx.out).mono ?_
  rintro e w5 ⟨rfl, rfl⟩
  go_wp2_with fail
  go_ret
  exact ⟨rfl, HB1.out⟩
set_option maxHeartbeats 8000000 in
set_option maxRecDepth 100000 in
theorem Script_bo (w : World) (n : Int) (m : Nat) (hn : n < 1 ∨ 256 < n) (hm : 1 ≤ m ∧ m ≤ 256) (A : Option Addr) (len cap : Nat) :
    Calls Try.prog 5 #[.int .i64 n, .int .i64 m, .slice A len cap] w fun e w' => e = .returned (.bool true) ∧ Below w.heap.size w w' := by
  have HNx := Aside0.mk hn
  have HMx := Aside0.mk hm
  clear hn hm
  go_enter Try.func5, Try.ntmps5
  go_wp2_with fail
  refine (shown_calls w).mono ?_
  rintro e w1 ⟨rfl, hb1⟩
  have HB1 := Aside0.mk hb1
  clear hb1
  go_wp2_with fail
  refine (New_bad _ n HNx.out).mono ?_
  rintro e w2 ⟨rfl, rfl⟩
  go_wp2_with fail
  refine (rNew_bad _ n HNx.out).mono ?_
  rintro e w3 ⟨rfl, rfl⟩
  go_wp2_with fail
  refine (new_ex _ m HMx.out.1 HMx.out.2).mono ?_
  rintro e w4 ⟨g4, rfl, -, -, hg⟩
  have HG4 := Aside0.mk (below_gb HB1.out hg HB1.out.size (by simp))
  clear hg
  go_wp2_with fail
  refine (rNew_ok _ m HMx.out.1 HMx.out.2).mono ?_
  rintro e w5 ⟨r5, ab5, c5, rfl, -, hg⟩
  have HB5 := Aside0.mk (below_gb HG4.out hg HG4.out.size (by simp))
  clear hg
  go_wp2_with fail
  go_ret
  exact ⟨rfl, HB5.out⟩
set_option maxHeartbeats 8000000 in
set_option maxRecDepth 100000 in
theorem Script_ob (w : World) (n : Nat) (m : Int) (hn : 1 ≤ n ∧ n ≤ 256) (hm : m < 1 ∨ 256 < m) (A : Option Addr) (len cap : Nat) :
    Calls Try.prog 5 #[.int .i64 n, .int .i64 m, .slice A len cap] w fun e w' => e = .returned (.bool true) ∧ Below w.heap.size w w' := by
  have HNx := Aside0.mk hn
  have HMx := Aside0.mk hm
  clear hn hm
  go_enter Try.func5, Try.ntmps5
  go_wp2_with fail
  refine (shown_calls w).mono ?_
  rintro e w1 ⟨rfl, hb1⟩
  have HB1 := Aside0.mk hb1
  clear hb1
  go_wp2_with fail
  refine (new_ex _ n HNx.out.1 HNx.out.2).mono ?_
  rintro e w2 ⟨g2, rfl, -, -, hg⟩
  have HG2 := Aside0.mk (below_gb HB1.out hg HB1.out.size (by simp))
  clear hg
  go_wp2_with fail
  refine (rNew_ok _ n HNx.out.1 HNx.out.2).mono ?_
  rintro e w3 ⟨r3, ab3, c3, rfl, -, hg⟩
  have HB3 := Aside0.mk (below_gb HG2.out hg HG2.out.size (by simp))
  clear hg
  go_wp2_with fail
  refine (New_bad _ m HMx.out).mono ?_
  rintro e w4 ⟨rfl, rfl⟩
  go_wp2_with fail
  refine (rNew_bad _ m HMx.out).mono ?_
  rintro e w5 ⟨rfl, rfl⟩
  go_wp2_with fail
  go_ret
  exact ⟨rfl, HB3.out⟩
theorem Script_all (w : World) (n : Int) (wn : (Lit.int .i64 n).wf = true) (m : Int) (wm : (Lit.int .i64 m).wf = true) (A : Option Addr) (len cap : Nat) (ls : List OpV) (hops : Ops w A len ls) (hc : len ≤ cap) (hs : len * 48 ≤ 140737488351232) :
    Calls Try.prog 5 #[.int .i64 n, .int .i64 m, .slice A len cap] w fun e w' => e = .returned (.bool true) ∧ Below w.heap.size w w' := by
  by_cases h1 : n < 1 ∨ 256 < n
  · by_cases h2 : m < 1 ∨ 256 < m
    · exact Script_bb w n m h1 h2 A len cap
    · obtain ⟨m', rfl⟩ : ∃ k : Nat, m = k := ⟨m.toNat, by omega⟩
      exact Script_bo w n m' h1 (by omega) A len cap
  · obtain ⟨n', rfl⟩ : ∃ k : Nat, n = k := ⟨n.toNat, by omega⟩
    by_cases h2 : m < 1 ∨ 256 < m
    · exact Script_ob w n' m (by omega) h2 A len cap
    · obtain ⟨m', rfl⟩ : ∃ k : Nat, m = k := ⟨m.toNat, by omega⟩
      exact Script_ok w n' m' (by omega) (by omega) (by omega) (by omega) A len cap ls hops hc hs
end Go.Proofs.Ytohopfbacfddbaa.S
