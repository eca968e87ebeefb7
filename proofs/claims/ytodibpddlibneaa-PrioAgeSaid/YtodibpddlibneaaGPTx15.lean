-- Laid by a program of this session (wip/tools/pr.py): contracts and pure functions; Lean checks it.
import Derived.Test.YtodibpddlibneaaGPTx0
import Derived.Test.YtodibpddlibneaaGPTx9
import Derived.Test.YtodibpddlibneaaGPTx10
import Derived.Test.YtodibpddlibneaaGPTx13
import Derived.Test.YtodibpddlibneaaGPTx16
namespace Go.Proofs.Ytodibpddlibneaa.GPT
open Go.RowKit Go.Proofs.YtodibpddlibneaaW.PrintWords Go.Proofs.YtodibpddlibneaaW.PrintLast Go.Proofs.YtodibpddlibneaaW.PrintMore
attribute [local go_sem] max2_int min2_int max_two min_two max_three min_three max_four min_four   -- for this text's walks alone
set_option linter.unusedVariables false
set_option linter.unusedSimpArgs false

/-! ### backfilllaw14_PrioAge: function 5 -/
mutual
def backfilllaw14_PrioAge.j0 : Nat → Int → Int → Int → Int → Int → Bool → Int → Int → Int → Int → Int → Int → Int → Int → Int → Int → Int → Int → Int → Int → Int → List Int → Int → Int → Int → Int → Int → Int → Int → List Int → Option (Bool)
 | 0, _, _, _, _, _, _, _, _, _, _, _, _, _, _, _, _, _, _, _, _, _, _, _, _, _, _, _, _, _, _ => none
 | k + 1, x1, x2, x3, x6, x7, x78, x323000, x323001, x323002, x323003, x323004, x323005, x323006, x323007, x324000, x324001, x324002, x324003, x324004, x324005, x324006, x324007, x325000, x325001, x325002, x325003, x325004, x325005, x325006, x325007 => if x78 = true then (some true) else ((prio_Priority.f k x323000 x323001 x323002 x323003 x323004 x323005 x323006 x323007 x1 x324000 x324001 x324002 x2 x324004 x324005 x324006 x324007 x6).bind fun t327 => ((prio_Priority.f k x323000 x323001 x323002 x323003 x323004 x323005 x323006 x323007 x1 x325000 x325001 x325002 x3 x325004 x325005 x325006 x325007 x7).bind fun t328 => ((backfillref11_Lead.f k x323000 x323001 x323002 x323003 x323004 x323005 x323006 x323007).bind fun t329 => (if (wrap64 (x3 - x2)) > t329 then (backfilllaw14_PrioAge.j1 k x1 x6 x7 t327 (decide (t327 ≤ t328)) x323000 x323001 x323002 x323003 x323004 x323005 x323006 x323007 x324000 x324001 x324002 x2 x324004 x324005 x324006 x324007) else (backfilllaw14_PrioAge.j1 k x1 x6 x7 t327 false x323000 x323001 x323002 x323003 x323004 x323005 x323006 x323007 x324000 x324001 x324002 x2 x324004 x324005 x324006 x324007)))))
def backfilllaw14_PrioAge.j1 : Nat → Int → Int → Int → Int → Bool → Int → Int → Int → Int → Int → Int → Int → Int → Int → Int → Int → Int → Int → Int → Int → List Int → Option (Bool)
 | 0, _, _, _, _, _, _, _, _, _, _, _, _, _, _, _, _, _, _, _, _, _ => none
 | k + 1, x1, x6, x7, x17, x103, x323000, x323001, x323002, x323003, x323004, x323005, x323006, x323007, x324000, x324001, x324002, x324003, x324004, x324005, x324006, x324007 => if x103 = true then (none) else ((prio_Priority.f k x323000 x323001 x323002 x323003 x323004 x323005 x323006 x323007 x1 x324000 x324001 x324002 x324003 x324004 x324005 x324006 x324007 x7).bind fun t330 => (if t330 ≥ x17 then (if x1 = 1099511627776 then (some true) else ((prio_Priority.f k x323000 x323001 x323002 x323003 x323004 x323005 x323006 x323007 (wrap64 (x1 + 1)) x324000 x324001 x324002 x324003 x324004 x324005 x324006 x324007 x6).bind fun t331 => (some (decide (t331 > x17))))) else (none)))
end
def backfilllaw14_PrioAge.f (k : Nat) (a0_0 : Int) (a0_1 : Int) (a0_2 : Int) (a0_3 : Int) (a0_4 : Int) (a0_5 : Int) (a0_6 : Int) (a0_7 : Int) (a1 : Int) (a2 : Int) (a3 : Int) (a4_0 : Int) (a4_1 : Int) (a4_2 : Int) (a4_3 : Int) (a4_4 : Int) (a4_5 : Int) (a4_6 : Int) (l4_7 : List Int) (a5_0 : Int) (a5_1 : Int) (a5_2 : Int) (a5_3 : Int) (a5_4 : Int) (a5_5 : Int) (a5_6 : Int) (l5_7 : List Int) (a6 : Int) (a7 : Int) : Option (Bool) := (backfilllaw14_shown.f).bind fun t325 => (if t325 = true then ((backfillref11_Check.f k a0_0 a0_1 a0_2 a0_3 a0_4 a0_5 a0_6 a0_7).bind fun t326 => (if t326 = 0 then (if a1 < 0 then (backfilllaw14_PrioAge.j0 k a1 a2 a3 a6 a7 true a0_0 a0_1 a0_2 a0_3 a0_4 a0_5 a0_6 a0_7 a4_0 a4_1 a4_2 a4_3 a4_4 a4_5 a4_6 l4_7 a5_0 a5_1 a5_2 a5_3 a5_4 a5_5 a5_6 l5_7) else (if a1 > 1099511627776 then (backfilllaw14_PrioAge.j0 k a1 a2 a3 a6 a7 true a0_0 a0_1 a0_2 a0_3 a0_4 a0_5 a0_6 a0_7 a4_0 a4_1 a4_2 a4_3 a4_4 a4_5 a4_6 l4_7 a5_0 a5_1 a5_2 a5_3 a5_4 a5_5 a5_6 l5_7) else (if a2 < 0 then (backfilllaw14_PrioAge.j0 k a1 a2 a3 a6 a7 true a0_0 a0_1 a0_2 a0_3 a0_4 a0_5 a0_6 a0_7 a4_0 a4_1 a4_2 a4_3 a4_4 a4_5 a4_6 l4_7 a5_0 a5_1 a5_2 a5_3 a5_4 a5_5 a5_6 l5_7) else (if a3 > a1 then (backfilllaw14_PrioAge.j0 k a1 a2 a3 a6 a7 true a0_0 a0_1 a0_2 a0_3 a0_4 a0_5 a0_6 a0_7 a4_0 a4_1 a4_2 a4_3 a4_4 a4_5 a4_6 l4_7 a5_0 a5_1 a5_2 a5_3 a5_4 a5_5 a5_6 l5_7) else (if a3 ≤ a2 then (backfilllaw14_PrioAge.j0 k a1 a2 a3 a6 a7 true a0_0 a0_1 a0_2 a0_3 a0_4 a0_5 a0_6 a0_7 a4_0 a4_1 a4_2 a4_3 a4_4 a4_5 a4_6 l4_7 a5_0 a5_1 a5_2 a5_3 a5_4 a5_5 a5_6 l5_7) else (if a4_1 < 1 then (backfilllaw14_PrioAge.j0 k a1 a2 a3 a6 a7 true a0_0 a0_1 a0_2 a0_3 a0_4 a0_5 a0_6 a0_7 a4_0 a4_1 a4_2 a4_3 a4_4 a4_5 a4_6 l4_7 a5_0 a5_1 a5_2 a5_3 a5_4 a5_5 a5_6 l5_7) else (if a4_1 > a0_0 then (backfilllaw14_PrioAge.j0 k a1 a2 a3 a6 a7 true a0_0 a0_1 a0_2 a0_3 a0_4 a0_5 a0_6 a0_7 a4_0 a4_1 a4_2 a4_3 a4_4 a4_5 a4_6 l4_7 a5_0 a5_1 a5_2 a5_3 a5_4 a5_5 a5_6 l5_7) else (if a5_1 < 1 then (backfilllaw14_PrioAge.j0 k a1 a2 a3 a6 a7 true a0_0 a0_1 a0_2 a0_3 a0_4 a0_5 a0_6 a0_7 a4_0 a4_1 a4_2 a4_3 a4_4 a4_5 a4_6 l4_7 a5_0 a5_1 a5_2 a5_3 a5_4 a5_5 a5_6 l5_7) else (if a5_1 > a0_0 then (backfilllaw14_PrioAge.j0 k a1 a2 a3 a6 a7 true a0_0 a0_1 a0_2 a0_3 a0_4 a0_5 a0_6 a0_7 a4_0 a4_1 a4_2 a4_3 a4_4 a4_5 a4_6 l4_7 a5_0 a5_1 a5_2 a5_3 a5_4 a5_5 a5_6 l5_7) else (if a6 > a7 then (backfilllaw14_PrioAge.j0 k a1 a2 a3 a6 a7 true a0_0 a0_1 a0_2 a0_3 a0_4 a0_5 a0_6 a0_7 a4_0 a4_1 a4_2 a4_3 a4_4 a4_5 a4_6 l4_7 a5_0 a5_1 a5_2 a5_3 a5_4 a5_5 a5_6 l5_7) else (backfilllaw14_PrioAge.j0 k a1 a2 a3 a6 a7 (decide (a7 > 9223372036854775808)) a0_0 a0_1 a0_2 a0_3 a0_4 a0_5 a0_6 a0_7 a4_0 a4_1 a4_2 a4_3 a4_4 a4_5 a4_6 l4_7 a5_0 a5_1 a5_2 a5_3 a5_4 a5_5 a5_6 l5_7))))))))))) else (backfilllaw14_PrioAge.j0 k a1 a2 a3 a6 a7 true a0_0 a0_1 a0_2 a0_3 a0_4 a0_5 a0_6 a0_7 a4_0 a4_1 a4_2 a4_3 a4_4 a4_5 a4_6 l4_7 a5_0 a5_1 a5_2 a5_3 a5_4 a5_5 a5_6 l5_7))) else (none))
theorem backfilllaw14_PrioAge.mono_l : ∀ k, (∀ y0 y1 y2 y3 y4 y5 y6 y7 y8 y9 y10 y11 y12 y13 y14 y15 y16 y17 y18 y19 y20 y21 y22 y23 y24 y25 y26 y27 y28 y29, LeO (backfilllaw14_PrioAge.j0 k y0 y1 y2 y3 y4 y5 y6 y7 y8 y9 y10 y11 y12 y13 y14 y15 y16 y17 y18 y19 y20 y21 y22 y23 y24 y25 y26 y27 y28 y29) (backfilllaw14_PrioAge.j0 (k + 1) y0 y1 y2 y3 y4 y5 y6 y7 y8 y9 y10 y11 y12 y13 y14 y15 y16 y17 y18 y19 y20 y21 y22 y23 y24 y25 y26 y27 y28 y29)) ∧ (∀ y0 y1 y2 y3 y4 y5 y6 y7 y8 y9 y10 y11 y12 y13 y14 y15 y16 y17 y18 y19 y20, LeO (backfilllaw14_PrioAge.j1 k y0 y1 y2 y3 y4 y5 y6 y7 y8 y9 y10 y11 y12 y13 y14 y15 y16 y17 y18 y19 y20) (backfilllaw14_PrioAge.j1 (k + 1) y0 y1 y2 y3 y4 y5 y6 y7 y8 y9 y10 y11 y12 y13 y14 y15 y16 y17 y18 y19 y20))
 | 0 => ⟨fun _ _ _ _ _ _ _ _ _ _ _ _ _ _ _ _ _ _ _ _ _ _ _ _ _ _ _ _ _ _ r h => by simp [backfilllaw14_PrioAge.j0] at h, fun _ _ _ _ _ _ _ _ _ _ _ _ _ _ _ _ _ _ _ _ _ r h => by simp [backfilllaw14_PrioAge.j1] at h⟩
 | k + 1 => by
  obtain ⟨ih0, ih1⟩ := backfilllaw14_PrioAge.mono_l k
  refine ⟨?_, ?_⟩
  ·intro y0 y1 y2 y3 y4 y5 y6 y7 y8 y9 y10 y11 y12 y13 y14 y15 y16 y17 y18 y19 y20 y21 y22 y23 y24 y25 y26 y27 y28 y29
   unfold backfilllaw14_PrioAge.j0
   repeat' first
   | (with_reducible exact ih0 _ _ _ _ _ _ _ _ _ _ _ _ _ _ _ _ _ _ _ _ _ _ _ _ _ _ _ _ _ _)
   | (with_reducible exact ih1 _ _ _ _ _ _ _ _ _ _ _ _ _ _ _ _ _ _ _ _ _)
   | (with_reducible exact backfillref11_Check.mono _ _ _ _ _ _ _ _ _)
   | (with_reducible exact backfillref11_Lead.mono _ _ _ _ _ _ _ _ _)
   | (with_reducible exact prio_Priority.mono _ _ _ _ _ _ _ _ _ _ _ _ _ _ _ _ _ _ _)
   | (with_reducible exact LeO.refl _)
   | (with_reducible exact LeO.none _)
   | (with_reducible refine LeO.ite ?_ ?_)
   | (with_reducible refine LeO.bind ?_ (fun _ => ?_))
   | exact ih0 _ _ _ _ _ _ _ _ _ _ _ _ _ _ _ _ _ _ _ _ _ _ _ _ _ _ _ _ _ _
   | exact ih1 _ _ _ _ _ _ _ _ _ _ _ _ _ _ _ _ _ _ _ _ _
   | exact backfillref11_Check.mono _ _ _ _ _ _ _ _ _
   | exact backfillref11_Lead.mono _ _ _ _ _ _ _ _ _
   | exact prio_Priority.mono _ _ _ _ _ _ _ _ _ _ _ _ _ _ _ _ _ _ _
   | exact LeO.none _
   | refine LeO.ite ?_ ?_
   | refine LeO.bind ?_ (fun _ => ?_)
  ·intro y0 y1 y2 y3 y4 y5 y6 y7 y8 y9 y10 y11 y12 y13 y14 y15 y16 y17 y18 y19 y20
   unfold backfilllaw14_PrioAge.j1
   repeat' first
   | (with_reducible exact ih0 _ _ _ _ _ _ _ _ _ _ _ _ _ _ _ _ _ _ _ _ _ _ _ _ _ _ _ _ _ _)
   | (with_reducible exact ih1 _ _ _ _ _ _ _ _ _ _ _ _ _ _ _ _ _ _ _ _ _)
   | (with_reducible exact backfillref11_Check.mono _ _ _ _ _ _ _ _ _)
   | (with_reducible exact backfillref11_Lead.mono _ _ _ _ _ _ _ _ _)
   | (with_reducible exact prio_Priority.mono _ _ _ _ _ _ _ _ _ _ _ _ _ _ _ _ _ _ _)
   | (with_reducible exact LeO.refl _)
   | (with_reducible exact LeO.none _)
   | (with_reducible refine LeO.ite ?_ ?_)
   | (with_reducible refine LeO.bind ?_ (fun _ => ?_))
   | exact ih0 _ _ _ _ _ _ _ _ _ _ _ _ _ _ _ _ _ _ _ _ _ _ _ _ _ _ _ _ _ _
   | exact ih1 _ _ _ _ _ _ _ _ _ _ _ _ _ _ _ _ _ _ _ _ _
   | exact backfillref11_Check.mono _ _ _ _ _ _ _ _ _
   | exact backfillref11_Lead.mono _ _ _ _ _ _ _ _ _
   | exact prio_Priority.mono _ _ _ _ _ _ _ _ _ _ _ _ _ _ _ _ _ _ _
   | exact LeO.none _
   | refine LeO.ite ?_ ?_
   | refine LeO.bind ?_ (fun _ => ?_)
theorem backfilllaw14_PrioAge.mono : ∀ a0 a1 a2 a3 a4 a5 a6 a7 a8 a9 a10 a11 a12 a13 a14 a15 a16 a17 a18 a19 a20 a21 a22 a23 a24 a25 a26 a27 a28 k, LeO (backfilllaw14_PrioAge.f k a0 a1 a2 a3 a4 a5 a6 a7 a8 a9 a10 a11 a12 a13 a14 a15 a16 a17 a18 a19 a20 a21 a22 a23 a24 a25 a26 a27 a28) (backfilllaw14_PrioAge.f (k + 1) a0 a1 a2 a3 a4 a5 a6 a7 a8 a9 a10 a11 a12 a13 a14 a15 a16 a17 a18 a19 a20 a21 a22 a23 a24 a25 a26 a27 a28) := by
 intro a0 a1 a2 a3 a4 a5 a6 a7 a8 a9 a10 a11 a12 a13 a14 a15 a16 a17 a18 a19 a20 a21 a22 a23 a24 a25 a26 a27 a28 k
 obtain ⟨ih0, ih1⟩ := backfilllaw14_PrioAge.mono_l k
 unfold backfilllaw14_PrioAge.f
 repeat' first
   | (with_reducible exact ih0 _ _ _ _ _ _ _ _ _ _ _ _ _ _ _ _ _ _ _ _ _ _ _ _ _ _ _ _ _ _)
   | (with_reducible exact ih1 _ _ _ _ _ _ _ _ _ _ _ _ _ _ _ _ _ _ _ _ _)
   | (with_reducible exact backfillref11_Check.mono _ _ _ _ _ _ _ _ _)
   | (with_reducible exact backfillref11_Lead.mono _ _ _ _ _ _ _ _ _)
   | (with_reducible exact prio_Priority.mono _ _ _ _ _ _ _ _ _ _ _ _ _ _ _ _ _ _ _)
   | (with_reducible exact LeO.refl _)
   | (with_reducible exact LeO.none _)
   | (with_reducible refine LeO.ite ?_ ?_)
   | (with_reducible refine LeO.bind ?_ (fun _ => ?_))
   | exact ih0 _ _ _ _ _ _ _ _ _ _ _ _ _ _ _ _ _ _ _ _ _ _ _ _ _ _ _ _ _ _
   | exact ih1 _ _ _ _ _ _ _ _ _ _ _ _ _ _ _ _ _ _ _ _ _
   | exact backfillref11_Check.mono _ _ _ _ _ _ _ _ _
   | exact backfillref11_Lead.mono _ _ _ _ _ _ _ _ _
   | exact prio_Priority.mono _ _ _ _ _ _ _ _ _ _ _ _ _ _ _ _ _ _ _
   | exact LeO.none _
   | refine LeO.ite ?_ ?_
   | refine LeO.bind ?_ (fun _ => ?_)
set_option maxHeartbeats 8000000 in
set_option maxRecDepth 100000 in
theorem backfilllaw14_PrioAge.calls (k : Nat) (a0_0 : Int) (a0_1 : Int) (a0_2 : Int) (a0_3 : Int) (a0_4 : Int) (a0_5 : Int) (a0_6 : Int) (a0_7 : Int) (a1 : Int) (a2 : Int) (a3 : Int) (a4_0 : Int) (a4_1 : Int) (a4_2 : Int) (a4_3 : Int) (a4_4 : Int) (a4_5 : Int) (a4_6 : Int) (A4_7 : Option Addr) (c4_7 : Nat) (l4_7 : List Int) (a5_0 : Int) (a5_1 : Int) (a5_2 : Int) (a5_3 : Int) (a5_4 : Int) (a5_5 : Int) (a5_6 : Int) (A5_7 : Option Addr) (c5_7 : Nat) (l5_7 : List Int) (a6 : Int) (a7 : Int) (r : Bool) (w : World) (hr4_7 : Kd.C (Kd.int .i64) w A4_7 l4_7.length l4_7) (hc4_7 : l4_7.length ≤ c4_7) (hr5_7 : Kd.C (Kd.int .i64) w A5_7 l5_7.length l5_7) (hc5_7 : l5_7.length ≤ c5_7) (h : backfilllaw14_PrioAge.f k a0_0 a0_1 a0_2 a0_3 a0_4 a0_5 a0_6 a0_7 a1 a2 a3 a4_0 a4_1 a4_2 a4_3 a4_4 a4_5 a4_6 l4_7 a5_0 a5_1 a5_2 a5_3 a5_4 a5_5 a5_6 l5_7 a6 a7 = some r) :
  Calls Try.prog 5 #[.agg #[.int .i64 a0_0, .int .i64 a0_1, .int .i64 a0_2, .int .i64 a0_3, .int .i64 a0_4, .int .i64 a0_5, .int .i64 a0_6, .int .i64 a0_7], .int .i64 a1, .int .i64 a2, .int .i64 a3, .agg #[.int .i64 a4_0, .int .i64 a4_1, .int .i64 a4_2, .int .i64 a4_3, .int .i64 a4_4, .int .i64 a4_5, .int .i64 a4_6, .slice A4_7 l4_7.length c4_7], .agg #[.int .i64 a5_0, .int .i64 a5_1, .int .i64 a5_2, .int .i64 a5_3, .int .i64 a5_4, .int .i64 a5_5, .int .i64 a5_6, .slice A5_7 l5_7.length c5_7], .int .u64 a6, .int .u64 a7] w fun e w' => e = .returned (.bool r) ∧ Below w.heap.size w w' := by
 have hu31 := Try.underlying31
 have hu34 := Try.underlying34
 have HR4_7 := Aside0.mk hr4_7
 have HC4_7 := Aside0.mk hc4_7
 clear hr4_7 hc4_7
 have HR5_7 := Aside0.mk hr5_7
 have HC5_7 := Aside0.mk hc5_7
 clear hr5_7 hc5_7; have HB := Aside0.mk (Below.refl w.heap.size w)
 have H : ((backfilllaw14_shown.f).bind fun t325 => (if t325 = true then ((backfillref11_Check.f k a0_0 a0_1 a0_2 a0_3 a0_4 a0_5 a0_6 a0_7).bind fun t326 => (if t326 = 0 then (if a1 < 0 then (backfilllaw14_PrioAge.j0 k a1 a2 a3 a6 a7 true a0_0 a0_1 a0_2 a0_3 a0_4 a0_5 a0_6 a0_7 a4_0 a4_1 a4_2 a4_3 a4_4 a4_5 a4_6 l4_7 a5_0 a5_1 a5_2 a5_3 a5_4 a5_5 a5_6 l5_7) else (if a1 > 1099511627776 then (backfilllaw14_PrioAge.j0 k a1 a2 a3 a6 a7 true a0_0 a0_1 a0_2 a0_3 a0_4 a0_5 a0_6 a0_7 a4_0 a4_1 a4_2 a4_3 a4_4 a4_5 a4_6 l4_7 a5_0 a5_1 a5_2 a5_3 a5_4 a5_5 a5_6 l5_7) else (if a2 < 0 then (backfilllaw14_PrioAge.j0 k a1 a2 a3 a6 a7 true a0_0 a0_1 a0_2 a0_3 a0_4 a0_5 a0_6 a0_7 a4_0 a4_1 a4_2 a4_3 a4_4 a4_5 a4_6 l4_7 a5_0 a5_1 a5_2 a5_3 a5_4 a5_5 a5_6 l5_7) else (if a3 > a1 then (backfilllaw14_PrioAge.j0 k a1 a2 a3 a6 a7 true a0_0 a0_1 a0_2 a0_3 a0_4 a0_5 a0_6 a0_7 a4_0 a4_1 a4_2 a4_3 a4_4 a4_5 a4_6 l4_7 a5_0 a5_1 a5_2 a5_3 a5_4 a5_5 a5_6 l5_7) else (if a3 ≤ a2 then (backfilllaw14_PrioAge.j0 k a1 a2 a3 a6 a7 true a0_0 a0_1 a0_2 a0_3 a0_4 a0_5 a0_6 a0_7 a4_0 a4_1 a4_2 a4_3 a4_4 a4_5 a4_6 l4_7 a5_0 a5_1 a5_2 a5_3 a5_4 a5_5 a5_6 l5_7) else (if a4_1 < 1 then (backfilllaw14_PrioAge.j0 k a1 a2 a3 a6 a7 true a0_0 a0_1 a0_2 a0_3 a0_4 a0_5 a0_6 a0_7 a4_0 a4_1 a4_2 a4_3 a4_4 a4_5 a4_6 l4_7 a5_0 a5_1 a5_2 a5_3 a5_4 a5_5 a5_6 l5_7) else (if a4_1 > a0_0 then (backfilllaw14_PrioAge.j0 k a1 a2 a3 a6 a7 true a0_0 a0_1 a0_2 a0_3 a0_4 a0_5 a0_6 a0_7 a4_0 a4_1 a4_2 a4_3 a4_4 a4_5 a4_6 l4_7 a5_0 a5_1 a5_2 a5_3 a5_4 a5_5 a5_6 l5_7) else (if a5_1 < 1 then (backfilllaw14_PrioAge.j0 k a1 a2 a3 a6 a7 true a0_0 a0_1 a0_2 a0_3 a0_4 a0_5 a0_6 a0_7 a4_0 a4_1 a4_2 a4_3 a4_4 a4_5 a4_6 l4_7 a5_0 a5_1 a5_2 a5_3 a5_4 a5_5 a5_6 l5_7) else (if a5_1 > a0_0 then (backfilllaw14_PrioAge.j0 k a1 a2 a3 a6 a7 true a0_0 a0_1 a0_2 a0_3 a0_4 a0_5 a0_6 a0_7 a4_0 a4_1 a4_2 a4_3 a4_4 a4_5 a4_6 l4_7 a5_0 a5_1 a5_2 a5_3 a5_4 a5_5 a5_6 l5_7) else (if a6 > a7 then (backfilllaw14_PrioAge.j0 k a1 a2 a3 a6 a7 true a0_0 a0_1 a0_2 a0_3 a0_4 a0_5 a0_6 a0_7 a4_0 a4_1 a4_2 a4_3 a4_4 a4_5 a4_6 l4_7 a5_0 a5_1 a5_2 a5_3 a5_4 a5_5 a5_6 l5_7) else (backfilllaw14_PrioAge.j0 k a1 a2 a3 a6 a7 (decide (a7 > 9223372036854775808)) a0_0 a0_1 a0_2 a0_3 a0_4 a0_5 a0_6 a0_7 a4_0 a4_1 a4_2 a4_3 a4_4 a4_5 a4_6 l4_7 a5_0 a5_1 a5_2 a5_3 a5_4 a5_5 a5_6 l5_7))))))))))) else (backfilllaw14_PrioAge.j0 k a1 a2 a3 a6 a7 true a0_0 a0_1 a0_2 a0_3 a0_4 a0_5 a0_6 a0_7 a4_0 a4_1 a4_2 a4_3 a4_4 a4_5 a4_6 l4_7 a5_0 a5_1 a5_2 a5_3 a5_4 a5_5 a5_6 l5_7))) else (none))) = some r := h
 clear h; replace H := Option.bind_eq_some_iff.mp H; obtain ⟨t325, A90, H⟩ := H; replace H : (if t325 = true then ((backfillref11_Check.f k a0_0 a0_1 a0_2 a0_3 a0_4 a0_5 a0_6 a0_7).bind fun t326 => (if t326 = 0 then (if a1 < 0 then (backfilllaw14_PrioAge.j0 k a1 a2 a3 a6 a7 true a0_0 a0_1 a0_2 a0_3 a0_4 a0_5 a0_6 a0_7 a4_0 a4_1 a4_2 a4_3 a4_4 a4_5 a4_6 l4_7 a5_0 a5_1 a5_2 a5_3 a5_4 a5_5 a5_6 l5_7) else (if a1 > 1099511627776 then (backfilllaw14_PrioAge.j0 k a1 a2 a3 a6 a7 true a0_0 a0_1 a0_2 a0_3 a0_4 a0_5 a0_6 a0_7 a4_0 a4_1 a4_2 a4_3 a4_4 a4_5 a4_6 l4_7 a5_0 a5_1 a5_2 a5_3 a5_4 a5_5 a5_6 l5_7) else (if a2 < 0 then (backfilllaw14_PrioAge.j0 k a1 a2 a3 a6 a7 true a0_0 a0_1 a0_2 a0_3 a0_4 a0_5 a0_6 a0_7 a4_0 a4_1 a4_2 a4_3 a4_4 a4_5 a4_6 l4_7 a5_0 a5_1 a5_2 a5_3 a5_4 a5_5 a5_6 l5_7) else (if a3 > a1 then (backfilllaw14_PrioAge.j0 k a1 a2 a3 a6 a7 true a0_0 a0_1 a0_2 a0_3 a0_4 a0_5 a0_6 a0_7 a4_0 a4_1 a4_2 a4_3 a4_4 a4_5 a4_6 l4_7 a5_0 a5_1 a5_2 a5_3 a5_4 a5_5 a5_6 l5_7) else (if a3 ≤ a2 then (backfilllaw14_PrioAge.j0 k a1 a2 a3 a6 a7 true a0_0 a0_1 a0_2 a0_3 a0_4 a0_5 a0_6 a0_7 a4_0 a4_1 a4_2 a4_3 a4_4 a4_5 a4_6 l4_7 a5_0 a5_1 a5_2 a5_3 a5_4 a5_5 a5_6 l5_7) else (if a4_1 < 1 then (backfilllaw14_PrioAge.j0 k a1 a2 a3 a6 a7 true a0_0 a0_1 a0_2 a0_3 a0_4 a0_5 a0_6 a0_7 a4_0 a4_1 a4_2 a4_3 a4_4 a4_5 a4_6 l4_7 a5_0 a5_1 a5_2 a5_3 a5_4 a5_5 a5_6 l5_7) else (if a4_1 > a0_0 then (backfilllaw14_PrioAge.j0 k a1 a2 a3 a6 a7 true a0_0 a0_1 a0_2 a0_3 a0_4 a0_5 a0_6 a0_7 a4_0 a4_1 a4_2 a4_3 a4_4 a4_5 a4_6 l4_7 a5_0 a5_1 a5_2 a5_3 a5_4 a5_5 a5_6 l5_7) else (if a5_1 < 1 then (backfilllaw14_PrioAge.j0 k a1 a2 a3 a6 a7 true a0_0 a0_1 a0_2 a0_3 a0_4 a0_5 a0_6 a0_7 a4_0 a4_1 a4_2 a4_3 a4_4 a4_5 a4_6 l4_7 a5_0 a5_1 a5_2 a5_3 a5_4 a5_5 a5_6 l5_7) else (if a5_1 > a0_0 then (backfilllaw14_PrioAge.j0 k a1 a2 a3 a6 a7 true a0_0 a0_1 a0_2 a0_3 a0_4 a0_5 a0_6 a0_7 a4_0 a4_1 a4_2 a4_3 a4_4 a4_5 a4_6 l4_7 a5_0 a5_1 a5_2 a5_3 a5_4 a5_5 a5_6 l5_7) else (if a6 > a7 then (backfilllaw14_PrioAge.j0 k a1 a2 a3 a6 a7 true a0_0 a0_1 a0_2 a0_3 a0_4 a0_5 a0_6 a0_7 a4_0 a4_1 a4_2 a4_3 a4_4 a4_5 a4_6 l4_7 a5_0 a5_1 a5_2 a5_3 a5_4 a5_5 a5_6 l5_7) else (backfilllaw14_PrioAge.j0 k a1 a2 a3 a6 a7 (decide (a7 > 9223372036854775808)) a0_0 a0_1 a0_2 a0_3 a0_4 a0_5 a0_6 a0_7 a4_0 a4_1 a4_2 a4_3 a4_4 a4_5 a4_6 l4_7 a5_0 a5_1 a5_2 a5_3 a5_4 a5_5 a5_6 l5_7))))))))))) else (backfilllaw14_PrioAge.j0 k a1 a2 a3 a6 a7 true a0_0 a0_1 a0_2 a0_3 a0_4 a0_5 a0_6 a0_7 a4_0 a4_1 a4_2 a4_3 a4_4 a4_5 a4_6 l4_7 a5_0 a5_1 a5_2 a5_3 a5_4 a5_5 a5_6 l5_7))) else (none)) = some r := H; have A9 := Aside0.mk A90; clear A90
 by_cases c10 : t325 = true
 ·subst c10
  have H1 : ((backfillref11_Check.f k a0_0 a0_1 a0_2 a0_3 a0_4 a0_5 a0_6 a0_7).bind fun t326 => (if t326 = 0 then (if a1 < 0 then (backfilllaw14_PrioAge.j0 k a1 a2 a3 a6 a7 true a0_0 a0_1 a0_2 a0_3 a0_4 a0_5 a0_6 a0_7 a4_0 a4_1 a4_2 a4_3 a4_4 a4_5 a4_6 l4_7 a5_0 a5_1 a5_2 a5_3 a5_4 a5_5 a5_6 l5_7) else (if a1 > 1099511627776 then (backfilllaw14_PrioAge.j0 k a1 a2 a3 a6 a7 true a0_0 a0_1 a0_2 a0_3 a0_4 a0_5 a0_6 a0_7 a4_0 a4_1 a4_2 a4_3 a4_4 a4_5 a4_6 l4_7 a5_0 a5_1 a5_2 a5_3 a5_4 a5_5 a5_6 l5_7) else (if a2 < 0 then (backfilllaw14_PrioAge.j0 k a1 a2 a3 a6 a7 true a0_0 a0_1 a0_2 a0_3 a0_4 a0_5 a0_6 a0_7 a4_0 a4_1 a4_2 a4_3 a4_4 a4_5 a4_6 l4_7 a5_0 a5_1 a5_2 a5_3 a5_4 a5_5 a5_6 l5_7) else (if a3 > a1 then (backfilllaw14_PrioAge.j0 k a1 a2 a3 a6 a7 true a0_0 a0_1 a0_2 a0_3 a0_4 a0_5 a0_6 a0_7 a4_0 a4_1 a4_2 a4_3 a4_4 a4_5 a4_6 l4_7 a5_0 a5_1 a5_2 a5_3 a5_4 a5_5 a5_6 l5_7) else (if a3 ≤ a2 then (backfilllaw14_PrioAge.j0 k a1 a2 a3 a6 a7 true a0_0 a0_1 a0_2 a0_3 a0_4 a0_5 a0_6 a0_7 a4_0 a4_1 a4_2 a4_3 a4_4 a4_5 a4_6 l4_7 a5_0 a5_1 a5_2 a5_3 a5_4 a5_5 a5_6 l5_7) else (if a4_1 < 1 then (backfilllaw14_PrioAge.j0 k a1 a2 a3 a6 a7 true a0_0 a0_1 a0_2 a0_3 a0_4 a0_5 a0_6 a0_7 a4_0 a4_1 a4_2 a4_3 a4_4 a4_5 a4_6 l4_7 a5_0 a5_1 a5_2 a5_3 a5_4 a5_5 a5_6 l5_7) else (if a4_1 > a0_0 then (backfilllaw14_PrioAge.j0 k a1 a2 a3 a6 a7 true a0_0 a0_1 a0_2 a0_3 a0_4 a0_5 a0_6 a0_7 a4_0 a4_1 a4_2 a4_3 a4_4 a4_5 a4_6 l4_7 a5_0 a5_1 a5_2 a5_3 a5_4 a5_5 a5_6 l5_7) else (if a5_1 < 1 then (backfilllaw14_PrioAge.j0 k a1 a2 a3 a6 a7 true a0_0 a0_1 a0_2 a0_3 a0_4 a0_5 a0_6 a0_7 a4_0 a4_1 a4_2 a4_3 a4_4 a4_5 a4_6 l4_7 a5_0 a5_1 a5_2 a5_3 a5_4 a5_5 a5_6 l5_7) else (if a5_1 > a0_0 then (backfilllaw14_PrioAge.j0 k a1 a2 a3 a6 a7 true a0_0 a0_1 a0_2 a0_3 a0_4 a0_5 a0_6 a0_7 a4_0 a4_1 a4_2 a4_3 a4_4 a4_5 a4_6 l4_7 a5_0 a5_1 a5_2 a5_3 a5_4 a5_5 a5_6 l5_7) else (if a6 > a7 then (backfilllaw14_PrioAge.j0 k a1 a2 a3 a6 a7 true a0_0 a0_1 a0_2 a0_3 a0_4 a0_5 a0_6 a0_7 a4_0 a4_1 a4_2 a4_3 a4_4 a4_5 a4_6 l4_7 a5_0 a5_1 a5_2 a5_3 a5_4 a5_5 a5_6 l5_7) else (backfilllaw14_PrioAge.j0 k a1 a2 a3 a6 a7 (decide (a7 > 9223372036854775808)) a0_0 a0_1 a0_2 a0_3 a0_4 a0_5 a0_6 a0_7 a4_0 a4_1 a4_2 a4_3 a4_4 a4_5 a4_6 l4_7 a5_0 a5_1 a5_2 a5_3 a5_4 a5_5 a5_6 l5_7))))))))))) else (backfilllaw14_PrioAge.j0 k a1 a2 a3 a6 a7 true a0_0 a0_1 a0_2 a0_3 a0_4 a0_5 a0_6 a0_7 a4_0 a4_1 a4_2 a4_3 a4_4 a4_5 a4_6 l4_7 a5_0 a5_1 a5_2 a5_3 a5_4 a5_5 a5_6 l5_7))) = some r := by rw [if_pos rfl] at H; exact H
  clear H
  have H := H1
  clear H1
  have HC11 := Aside0.mk H
  clear H
  go_enter Try.func5, Try.ntmps5
  go_upto_region 3 with (first | ((with_reducible refine gate_dst (N := 8) rfl ?_); refine bxA 8 #[.int .i64 a0_0, .int .i64 a0_1, .int .i64 a0_2, .int .i64 a0_3, .int .i64 a0_4, .int .i64 a0_5, .int .i64 a0_6, .int .i64 a0_7] 31 ?_; intro gb322 hg w12 hbox hb; have n0_ := Aside0.mk (below_step bA hb); have n1_ := Aside0.mk (hbox); have n2_ := Aside0.mk (gwA hg bA); have n3_ := Aside0.mk (gwA hg bA); clear HB; have HB := n0_; have BK322 := n1_; have GW322 := n2_; have GE322 := n3_; clear n0_ n1_ n2_ n3_ hb hbox hg) | ((with_reducible refine gate_dst (N := 12) rfl ?_); refine bxA 12 #[.int .i64 a4_0, .int .i64 a4_1, .int .i64 a4_2, .int .i64 a4_3, .int .i64 a4_4, .int .i64 a4_5, .int .i64 a4_6, .slice A4_7 l4_7.length c4_7] 34 ?_; intro gb323 hg w13 hbox hb; have n0_ := Aside0.mk (blk_below (g := gb322) kA hb); have n1_ := Aside0.mk (below_step bA hb); have n2_ := Aside0.mk (hbox); have n3_ := Aside0.mk (gwA hg bA); have n4_ := Aside0.mk (gwA hg bA); have n5_ := Aside0.mk (neA (g := gb322) hg kA); have n6_ := Aside0.mk (neB (g := gb322) hg kA); clear BK322 HB; have BK322 := n0_; have HB := n1_; have BK323 := n2_; have GW323 := n3_; have GE323 := n4_; have NB322_323 := n5_; have NB323_322 := n6_; clear n0_ n1_ n2_ n3_ n4_ n5_ n6_ hb hbox hg) | ((with_reducible refine gate_dst (N := 13) rfl ?_); refine bxA 13 #[.int .i64 a5_0, .int .i64 a5_1, .int .i64 a5_2, .int .i64 a5_3, .int .i64 a5_4, .int .i64 a5_5, .int .i64 a5_6, .slice A5_7 l5_7.length c5_7] 34 ?_; intro gb324 hg w14 hbox hb; have n0_ := Aside0.mk (blk_below (g := gb322) kA hb); have n1_ := Aside0.mk (blk_below (g := gb323) kA hb); have n2_ := Aside0.mk (below_step bA hb); have n3_ := Aside0.mk (hbox); have n4_ := Aside0.mk (gwA hg bA); have n5_ := Aside0.mk (gwA hg bA); have n6_ := Aside0.mk (neA (g := gb322) hg kA); have n7_ := Aside0.mk (neB (g := gb322) hg kA); have n8_ := Aside0.mk (neA (g := gb323) hg kA); have n9_ := Aside0.mk (neB (g := gb323) hg kA); clear BK322 BK323 HB; have BK322 := n0_; have BK323 := n1_; have HB := n2_; have BK324 := n3_; have GW324 := n4_; have GE324 := n5_; have NB322_324 := n6_; have NB324_322 := n7_; have NB323_324 := n8_; have NB324_323 := n9_; clear n0_ n1_ n2_ n3_ n4_ n5_ n6_ n7_ n8_ n9_ hb hbox hg) | ((with_reducible refine gate_callee (f := 6) rfl ?_); refine goesL_ (some 19) rfl rfl Try.func6 (by kernel_rfl) rfl #[] rfl aA ?_; (with_reducible refine (backfilllaw14_shown.calls  true _ A9.out).mono ?_); rintro e w15 ⟨rfl, hb⟩; refine ⟨_, rfl, ?_⟩; have n0_ := Aside0.mk (blk_below (g := gb322) kA hb); have n1_ := Aside0.mk (blk_below (g := gb323) kA hb); have n2_ := Aside0.mk (blk_below (g := gb324) kA hb); have n3_ := Aside0.mk (below_step bA hb); clear BK322 BK323 BK324 HB; have BK322 := n0_; have BK323 := n1_; have BK324 := n2_; have HB := n3_; clear n0_ n1_ n2_ n3_; (try clear hb)))
  (try simp only [Act.put, List.setIfInBounds_toArray, List.set_cons_zero, List.set_cons_succ])
  go_cut [78] (fun v78 wc => ∃ (kq : Nat) (x78_10 : Bool), v78 = .bool x78_10 ∧ Aside0 (backfilllaw14_PrioAge.j0 kq a1 a2 a3 a6 a7 x78_10 a0_0 a0_1 a0_2 a0_3 a0_4 a0_5 a0_6 a0_7 a4_0 a4_1 a4_2 a4_3 a4_4 a4_5 a4_6 l4_7 a5_0 a5_1 a5_2 a5_3 a5_4 a5_5 a5_6 l5_7 = some r) ∧ Aside0 (kq ≤ k) ∧ Aside0 (wc.heap[gb322]? = some (.cells #[.int .i64 a0_0, .int .i64 a0_1, .int .i64 a0_2, .int .i64 a0_3, .int .i64 a0_4, .int .i64 a0_5, .int .i64 a0_6, .int .i64 a0_7] 31 (0, 0))) ∧ Aside0 (wc.heap[gb323]? = some (.cells #[.int .i64 a4_0, .int .i64 a4_1, .int .i64 a4_2, .int .i64 a4_3, .int .i64 a4_4, .int .i64 a4_5, .int .i64 a4_6, (.slice A4_7 l4_7.length c4_7)] 34 (0, 0))) ∧ Aside0 (wc.heap[gb324]? = some (.cells #[.int .i64 a5_0, .int .i64 a5_1, .int .i64 a5_2, .int .i64 a5_3, .int .i64 a5_4, .int .i64 a5_5, .int .i64 a5_6, (.slice A5_7 l5_7.length c5_7)] 34 (0, 0))) ∧ Aside0 (Below w.heap.size w wc))
  case first =>
   have H := HC11.out
   clear HC11; replace H := Option.bind_eq_some_iff.mp H; obtain ⟨t326, A160, H⟩ := H; replace H : (if t326 = 0 then (if a1 < 0 then (backfilllaw14_PrioAge.j0 k a1 a2 a3 a6 a7 true a0_0 a0_1 a0_2 a0_3 a0_4 a0_5 a0_6 a0_7 a4_0 a4_1 a4_2 a4_3 a4_4 a4_5 a4_6 l4_7 a5_0 a5_1 a5_2 a5_3 a5_4 a5_5 a5_6 l5_7) else (if a1 > 1099511627776 then (backfilllaw14_PrioAge.j0 k a1 a2 a3 a6 a7 true a0_0 a0_1 a0_2 a0_3 a0_4 a0_5 a0_6 a0_7 a4_0 a4_1 a4_2 a4_3 a4_4 a4_5 a4_6 l4_7 a5_0 a5_1 a5_2 a5_3 a5_4 a5_5 a5_6 l5_7) else (if a2 < 0 then (backfilllaw14_PrioAge.j0 k a1 a2 a3 a6 a7 true a0_0 a0_1 a0_2 a0_3 a0_4 a0_5 a0_6 a0_7 a4_0 a4_1 a4_2 a4_3 a4_4 a4_5 a4_6 l4_7 a5_0 a5_1 a5_2 a5_3 a5_4 a5_5 a5_6 l5_7) else (if a3 > a1 then (backfilllaw14_PrioAge.j0 k a1 a2 a3 a6 a7 true a0_0 a0_1 a0_2 a0_3 a0_4 a0_5 a0_6 a0_7 a4_0 a4_1 a4_2 a4_3 a4_4 a4_5 a4_6 l4_7 a5_0 a5_1 a5_2 a5_3 a5_4 a5_5 a5_6 l5_7) else (if a3 ≤ a2 then (backfilllaw14_PrioAge.j0 k a1 a2 a3 a6 a7 true a0_0 a0_1 a0_2 a0_3 a0_4 a0_5 a0_6 a0_7 a4_0 a4_1 a4_2 a4_3 a4_4 a4_5 a4_6 l4_7 a5_0 a5_1 a5_2 a5_3 a5_4 a5_5 a5_6 l5_7) else (if a4_1 < 1 then (backfilllaw14_PrioAge.j0 k a1 a2 a3 a6 a7 true a0_0 a0_1 a0_2 a0_3 a0_4 a0_5 a0_6 a0_7 a4_0 a4_1 a4_2 a4_3 a4_4 a4_5 a4_6 l4_7 a5_0 a5_1 a5_2 a5_3 a5_4 a5_5 a5_6 l5_7) else (if a4_1 > a0_0 then (backfilllaw14_PrioAge.j0 k a1 a2 a3 a6 a7 true a0_0 a0_1 a0_2 a0_3 a0_4 a0_5 a0_6 a0_7 a4_0 a4_1 a4_2 a4_3 a4_4 a4_5 a4_6 l4_7 a5_0 a5_1 a5_2 a5_3 a5_4 a5_5 a5_6 l5_7) else (if a5_1 < 1 then (backfilllaw14_PrioAge.j0 k a1 a2 a3 a6 a7 true a0_0 a0_1 a0_2 a0_3 a0_4 a0_5 a0_6 a0_7 a4_0 a4_1 a4_2 a4_3 a4_4 a4_5 a4_6 l4_7 a5_0 a5_1 a5_2 a5_3 a5_4 a5_5 a5_6 l5_7) else (if a5_1 > a0_0 then (backfilllaw14_PrioAge.j0 k a1 a2 a3 a6 a7 true a0_0 a0_1 a0_2 a0_3 a0_4 a0_5 a0_6 a0_7 a4_0 a4_1 a4_2 a4_3 a4_4 a4_5 a4_6 l4_7 a5_0 a5_1 a5_2 a5_3 a5_4 a5_5 a5_6 l5_7) else (if a6 > a7 then (backfilllaw14_PrioAge.j0 k a1 a2 a3 a6 a7 true a0_0 a0_1 a0_2 a0_3 a0_4 a0_5 a0_6 a0_7 a4_0 a4_1 a4_2 a4_3 a4_4 a4_5 a4_6 l4_7 a5_0 a5_1 a5_2 a5_3 a5_4 a5_5 a5_6 l5_7) else (backfilllaw14_PrioAge.j0 k a1 a2 a3 a6 a7 (decide (a7 > 9223372036854775808)) a0_0 a0_1 a0_2 a0_3 a0_4 a0_5 a0_6 a0_7 a4_0 a4_1 a4_2 a4_3 a4_4 a4_5 a4_6 l4_7 a5_0 a5_1 a5_2 a5_3 a5_4 a5_5 a5_6 l5_7))))))))))) else (backfilllaw14_PrioAge.j0 k a1 a2 a3 a6 a7 true a0_0 a0_1 a0_2 a0_3 a0_4 a0_5 a0_6 a0_7 a4_0 a4_1 a4_2 a4_3 a4_4 a4_5 a4_6 l4_7 a5_0 a5_1 a5_2 a5_3 a5_4 a5_5 a5_6 l5_7)) = some r := H; have A16 := Aside0.mk A160; clear A160
   by_cases c17 : t326 = 0
   ·rw [if_pos c17] at H
    have c17b0 : (t326 == 0) = true := beq_iff_eq.mpr c17
    have c17b1 : (t326 != 0) = false := bne_eq_false_iff_eq.mpr c17
    clear c17
    (first | rw [c17b0] | (simp only [i64_w, i32_w]; rw [c17b0]) | skip)
    by_cases c18 : a1 < 0
    ·rw [if_pos c18] at H
     have c18b0 : decide (a1 < 0) = true := decide_eq_true c18
     clear c18
     have H' := Aside0.mk H
     clear H
     have hnb19 := NB322_323.out
     have hnc19 := NB323_322.out
     have hnb20 := NB322_324.out
     have hnc20 := NB324_322.out
     have hcz21_0 : w15.cell? ⟨gb322, 0, none⟩ = some (.int .i64 a0_0) := (blk_cell BK322.out 0).trans rfl
     have hcz21_1 : w15.cell? ⟨gb322, 1, none⟩ = some (.int .i64 a0_1) := (blk_cell BK322.out 1).trans rfl
     have hcz21_2 : w15.cell? ⟨gb322, 2, none⟩ = some (.int .i64 a0_2) := (blk_cell BK322.out 2).trans rfl
     have hcz21_3 : w15.cell? ⟨gb322, 3, none⟩ = some (.int .i64 a0_3) := (blk_cell BK322.out 3).trans rfl
     have hcz21_4 : w15.cell? ⟨gb322, 4, none⟩ = some (.int .i64 a0_4) := (blk_cell BK322.out 4).trans rfl
     have hcz21_5 : w15.cell? ⟨gb322, 5, none⟩ = some (.int .i64 a0_5) := (blk_cell BK322.out 5).trans rfl
     have hcz21_6 : w15.cell? ⟨gb322, 6, none⟩ = some (.int .i64 a0_6) := (blk_cell BK322.out 6).trans rfl
     have hcz21_7 : w15.cell? ⟨gb322, 7, none⟩ = some (.int .i64 a0_7) := (blk_cell BK322.out 7).trans rfl
     have hfz21_0 := blk_frozen BK322.out 0
     have hfz21_1 := blk_frozen BK322.out 1
     have hfz21_2 := blk_frozen BK322.out 2
     have hfz21_3 := blk_frozen BK322.out 3
     have hfz21_4 := blk_frozen BK322.out 4
     have hfz21_5 := blk_frozen BK322.out 5
     have hfz21_6 := blk_frozen BK322.out 6
     have hfz21_7 := blk_frozen BK322.out 7
     go_wp2_with (first | ((with_reducible refine gate_callee (f := 14) rfl ?_); refine goesL_ (some 22) rfl rfl Try.func14 (by kernel_rfl) rfl #[.agg #[.int .i64 a0_0, .int .i64 a0_1, .int .i64 a0_2, .int .i64 a0_3, .int .i64 a0_4, .int .i64 a0_5, .int .i64 a0_6, .int .i64 a0_7]] rfl aA ?_; (with_reducible refine (backfillref11_Check.calls k a0_0 a0_1 a0_2 a0_3 a0_4 a0_5 a0_6 a0_7 t326 _ A16.out).mono ?_); rintro e w22 ⟨rfl, hb⟩; refine ⟨_, rfl, ?_⟩; have n0_ := Aside0.mk (blk_below (g := gb322) kA hb); have n1_ := Aside0.mk (blk_below (g := gb323) kA hb); have n2_ := Aside0.mk (blk_below (g := gb324) kA hb); have n3_ := Aside0.mk (below_step bA hb); clear BK322 BK323 BK324 HB; have BK322 := n0_; have BK323 := n1_; have BK324 := n2_; have HB := n3_; clear n0_ n1_ n2_ n3_; (try clear hb)))
     go_meet
     case rel => exact ⟨_, (true), (by first | rfl | (simp; done) | (simp [*]; done)), H', ⟨by first | omega | exact Nat.le_refl _⟩, ⟨by exact kA⟩, ⟨by exact kA⟩, ⟨by exact kA⟩, ⟨bA⟩⟩
    ·rw [if_neg c18] at H
     have c18b0 : decide (a1 < 0) = false := decide_eq_false c18
     clear c18
     by_cases c23 : a1 > 1099511627776
     ·rw [if_pos c23] at H
      have c23b0 : decide (1099511627776 < a1) = true := decide_eq_true c23
      clear c23
      have H' := Aside0.mk H
      clear H
      have hnb24 := NB322_323.out
      have hnc24 := NB323_322.out
      have hnb25 := NB322_324.out
      have hnc25 := NB324_322.out
      have hcz26_0 : w15.cell? ⟨gb322, 0, none⟩ = some (.int .i64 a0_0) := (blk_cell BK322.out 0).trans rfl
      have hcz26_1 : w15.cell? ⟨gb322, 1, none⟩ = some (.int .i64 a0_1) := (blk_cell BK322.out 1).trans rfl
      have hcz26_2 : w15.cell? ⟨gb322, 2, none⟩ = some (.int .i64 a0_2) := (blk_cell BK322.out 2).trans rfl
      have hcz26_3 : w15.cell? ⟨gb322, 3, none⟩ = some (.int .i64 a0_3) := (blk_cell BK322.out 3).trans rfl
      have hcz26_4 : w15.cell? ⟨gb322, 4, none⟩ = some (.int .i64 a0_4) := (blk_cell BK322.out 4).trans rfl
      have hcz26_5 : w15.cell? ⟨gb322, 5, none⟩ = some (.int .i64 a0_5) := (blk_cell BK322.out 5).trans rfl
      have hcz26_6 : w15.cell? ⟨gb322, 6, none⟩ = some (.int .i64 a0_6) := (blk_cell BK322.out 6).trans rfl
      have hcz26_7 : w15.cell? ⟨gb322, 7, none⟩ = some (.int .i64 a0_7) := (blk_cell BK322.out 7).trans rfl
      have hfz26_0 := blk_frozen BK322.out 0
      have hfz26_1 := blk_frozen BK322.out 1
      have hfz26_2 := blk_frozen BK322.out 2
      have hfz26_3 := blk_frozen BK322.out 3
      have hfz26_4 := blk_frozen BK322.out 4
      have hfz26_5 := blk_frozen BK322.out 5
      have hfz26_6 := blk_frozen BK322.out 6
      have hfz26_7 := blk_frozen BK322.out 7
      go_wp2_with (first | ((with_reducible refine gate_callee (f := 14) rfl ?_); refine goesL_ (some 22) rfl rfl Try.func14 (by kernel_rfl) rfl #[.agg #[.int .i64 a0_0, .int .i64 a0_1, .int .i64 a0_2, .int .i64 a0_3, .int .i64 a0_4, .int .i64 a0_5, .int .i64 a0_6, .int .i64 a0_7]] rfl aA ?_; (with_reducible refine (backfillref11_Check.calls k a0_0 a0_1 a0_2 a0_3 a0_4 a0_5 a0_6 a0_7 t326 _ A16.out).mono ?_); rintro e w27 ⟨rfl, hb⟩; refine ⟨_, rfl, ?_⟩; have n0_ := Aside0.mk (blk_below (g := gb322) kA hb); have n1_ := Aside0.mk (blk_below (g := gb323) kA hb); have n2_ := Aside0.mk (blk_below (g := gb324) kA hb); have n3_ := Aside0.mk (below_step bA hb); clear BK322 BK323 BK324 HB; have BK322 := n0_; have BK323 := n1_; have BK324 := n2_; have HB := n3_; clear n0_ n1_ n2_ n3_; (try clear hb)))
      go_meet
      case rel => exact ⟨_, (true), (by first | rfl | (simp; done) | (simp [*]; done)), H', ⟨by first | omega | exact Nat.le_refl _⟩, ⟨by exact kA⟩, ⟨by exact kA⟩, ⟨by exact kA⟩, ⟨bA⟩⟩
     ·rw [if_neg c23] at H
      have c23b0 : decide (1099511627776 < a1) = false := decide_eq_false c23
      clear c23
      by_cases c28 : a2 < 0
      ·rw [if_pos c28] at H
       have c28b0 : decide (a2 < 0) = true := decide_eq_true c28
       clear c28
       have H' := Aside0.mk H
       clear H
       have hnb29 := NB322_323.out
       have hnc29 := NB323_322.out
       have hnb30 := NB322_324.out
       have hnc30 := NB324_322.out
       have hcz31_0 : w15.cell? ⟨gb322, 0, none⟩ = some (.int .i64 a0_0) := (blk_cell BK322.out 0).trans rfl
       have hcz31_1 : w15.cell? ⟨gb322, 1, none⟩ = some (.int .i64 a0_1) := (blk_cell BK322.out 1).trans rfl
       have hcz31_2 : w15.cell? ⟨gb322, 2, none⟩ = some (.int .i64 a0_2) := (blk_cell BK322.out 2).trans rfl
       have hcz31_3 : w15.cell? ⟨gb322, 3, none⟩ = some (.int .i64 a0_3) := (blk_cell BK322.out 3).trans rfl
       have hcz31_4 : w15.cell? ⟨gb322, 4, none⟩ = some (.int .i64 a0_4) := (blk_cell BK322.out 4).trans rfl
       have hcz31_5 : w15.cell? ⟨gb322, 5, none⟩ = some (.int .i64 a0_5) := (blk_cell BK322.out 5).trans rfl
       have hcz31_6 : w15.cell? ⟨gb322, 6, none⟩ = some (.int .i64 a0_6) := (blk_cell BK322.out 6).trans rfl
       have hcz31_7 : w15.cell? ⟨gb322, 7, none⟩ = some (.int .i64 a0_7) := (blk_cell BK322.out 7).trans rfl
       have hfz31_0 := blk_frozen BK322.out 0
       have hfz31_1 := blk_frozen BK322.out 1
       have hfz31_2 := blk_frozen BK322.out 2
       have hfz31_3 := blk_frozen BK322.out 3
       have hfz31_4 := blk_frozen BK322.out 4
       have hfz31_5 := blk_frozen BK322.out 5
       have hfz31_6 := blk_frozen BK322.out 6
       have hfz31_7 := blk_frozen BK322.out 7
       go_wp2_with (first | ((with_reducible refine gate_callee (f := 14) rfl ?_); refine goesL_ (some 22) rfl rfl Try.func14 (by kernel_rfl) rfl #[.agg #[.int .i64 a0_0, .int .i64 a0_1, .int .i64 a0_2, .int .i64 a0_3, .int .i64 a0_4, .int .i64 a0_5, .int .i64 a0_6, .int .i64 a0_7]] rfl aA ?_; (with_reducible refine (backfillref11_Check.calls k a0_0 a0_1 a0_2 a0_3 a0_4 a0_5 a0_6 a0_7 t326 _ A16.out).mono ?_); rintro e w32 ⟨rfl, hb⟩; refine ⟨_, rfl, ?_⟩; have n0_ := Aside0.mk (blk_below (g := gb322) kA hb); have n1_ := Aside0.mk (blk_below (g := gb323) kA hb); have n2_ := Aside0.mk (blk_below (g := gb324) kA hb); have n3_ := Aside0.mk (below_step bA hb); clear BK322 BK323 BK324 HB; have BK322 := n0_; have BK323 := n1_; have BK324 := n2_; have HB := n3_; clear n0_ n1_ n2_ n3_; (try clear hb)))
       go_meet
       case rel => exact ⟨_, (true), (by first | rfl | (simp; done) | (simp [*]; done)), H', ⟨by first | omega | exact Nat.le_refl _⟩, ⟨by exact kA⟩, ⟨by exact kA⟩, ⟨by exact kA⟩, ⟨bA⟩⟩
      ·rw [if_neg c28] at H
       have c28b0 : decide (a2 < 0) = false := decide_eq_false c28
       clear c28
       by_cases c33 : a3 > a1
       ·rw [if_pos c33] at H
        have c33b0 : decide (a1 < a3) = true := decide_eq_true c33
        clear c33
        have H' := Aside0.mk H
        clear H
        have hnb34 := NB322_323.out
        have hnc34 := NB323_322.out
        have hnb35 := NB322_324.out
        have hnc35 := NB324_322.out
        have hcz36_0 : w15.cell? ⟨gb322, 0, none⟩ = some (.int .i64 a0_0) := (blk_cell BK322.out 0).trans rfl
        have hcz36_1 : w15.cell? ⟨gb322, 1, none⟩ = some (.int .i64 a0_1) := (blk_cell BK322.out 1).trans rfl
        have hcz36_2 : w15.cell? ⟨gb322, 2, none⟩ = some (.int .i64 a0_2) := (blk_cell BK322.out 2).trans rfl
        have hcz36_3 : w15.cell? ⟨gb322, 3, none⟩ = some (.int .i64 a0_3) := (blk_cell BK322.out 3).trans rfl
        have hcz36_4 : w15.cell? ⟨gb322, 4, none⟩ = some (.int .i64 a0_4) := (blk_cell BK322.out 4).trans rfl
        have hcz36_5 : w15.cell? ⟨gb322, 5, none⟩ = some (.int .i64 a0_5) := (blk_cell BK322.out 5).trans rfl
        have hcz36_6 : w15.cell? ⟨gb322, 6, none⟩ = some (.int .i64 a0_6) := (blk_cell BK322.out 6).trans rfl
        have hcz36_7 : w15.cell? ⟨gb322, 7, none⟩ = some (.int .i64 a0_7) := (blk_cell BK322.out 7).trans rfl
        have hfz36_0 := blk_frozen BK322.out 0
        have hfz36_1 := blk_frozen BK322.out 1
        have hfz36_2 := blk_frozen BK322.out 2
        have hfz36_3 := blk_frozen BK322.out 3
        have hfz36_4 := blk_frozen BK322.out 4
        have hfz36_5 := blk_frozen BK322.out 5
        have hfz36_6 := blk_frozen BK322.out 6
        have hfz36_7 := blk_frozen BK322.out 7
        go_wp2_with (first | ((with_reducible refine gate_callee (f := 14) rfl ?_); refine goesL_ (some 22) rfl rfl Try.func14 (by kernel_rfl) rfl #[.agg #[.int .i64 a0_0, .int .i64 a0_1, .int .i64 a0_2, .int .i64 a0_3, .int .i64 a0_4, .int .i64 a0_5, .int .i64 a0_6, .int .i64 a0_7]] rfl aA ?_; (with_reducible refine (backfillref11_Check.calls k a0_0 a0_1 a0_2 a0_3 a0_4 a0_5 a0_6 a0_7 t326 _ A16.out).mono ?_); rintro e w37 ⟨rfl, hb⟩; refine ⟨_, rfl, ?_⟩; have n0_ := Aside0.mk (blk_below (g := gb322) kA hb); have n1_ := Aside0.mk (blk_below (g := gb323) kA hb); have n2_ := Aside0.mk (blk_below (g := gb324) kA hb); have n3_ := Aside0.mk (below_step bA hb); clear BK322 BK323 BK324 HB; have BK322 := n0_; have BK323 := n1_; have BK324 := n2_; have HB := n3_; clear n0_ n1_ n2_ n3_; (try clear hb)))
        go_meet
        case rel => exact ⟨_, (true), (by first | rfl | (simp; done) | (simp [*]; done)), H', ⟨by first | omega | exact Nat.le_refl _⟩, ⟨by exact kA⟩, ⟨by exact kA⟩, ⟨by exact kA⟩, ⟨bA⟩⟩
       ·rw [if_neg c33] at H
        have c33b0 : decide (a1 < a3) = false := decide_eq_false c33
        clear c33
        by_cases c38 : a3 ≤ a2
        ·rw [if_pos c38] at H
         have c38b0 : decide (a3 ≤ a2) = true := decide_eq_true c38
         clear c38
         have H' := Aside0.mk H
         clear H
         have hnb39 := NB322_323.out
         have hnc39 := NB323_322.out
         have hnb40 := NB322_324.out
         have hnc40 := NB324_322.out
         have hcz41_0 : w15.cell? ⟨gb322, 0, none⟩ = some (.int .i64 a0_0) := (blk_cell BK322.out 0).trans rfl
         have hcz41_1 : w15.cell? ⟨gb322, 1, none⟩ = some (.int .i64 a0_1) := (blk_cell BK322.out 1).trans rfl
         have hcz41_2 : w15.cell? ⟨gb322, 2, none⟩ = some (.int .i64 a0_2) := (blk_cell BK322.out 2).trans rfl
         have hcz41_3 : w15.cell? ⟨gb322, 3, none⟩ = some (.int .i64 a0_3) := (blk_cell BK322.out 3).trans rfl
         have hcz41_4 : w15.cell? ⟨gb322, 4, none⟩ = some (.int .i64 a0_4) := (blk_cell BK322.out 4).trans rfl
         have hcz41_5 : w15.cell? ⟨gb322, 5, none⟩ = some (.int .i64 a0_5) := (blk_cell BK322.out 5).trans rfl
         have hcz41_6 : w15.cell? ⟨gb322, 6, none⟩ = some (.int .i64 a0_6) := (blk_cell BK322.out 6).trans rfl
         have hcz41_7 : w15.cell? ⟨gb322, 7, none⟩ = some (.int .i64 a0_7) := (blk_cell BK322.out 7).trans rfl
         have hfz41_0 := blk_frozen BK322.out 0
         have hfz41_1 := blk_frozen BK322.out 1
         have hfz41_2 := blk_frozen BK322.out 2
         have hfz41_3 := blk_frozen BK322.out 3
         have hfz41_4 := blk_frozen BK322.out 4
         have hfz41_5 := blk_frozen BK322.out 5
         have hfz41_6 := blk_frozen BK322.out 6
         have hfz41_7 := blk_frozen BK322.out 7
         go_wp2_with (first | ((with_reducible refine gate_callee (f := 14) rfl ?_); refine goesL_ (some 22) rfl rfl Try.func14 (by kernel_rfl) rfl #[.agg #[.int .i64 a0_0, .int .i64 a0_1, .int .i64 a0_2, .int .i64 a0_3, .int .i64 a0_4, .int .i64 a0_5, .int .i64 a0_6, .int .i64 a0_7]] rfl aA ?_; (with_reducible refine (backfillref11_Check.calls k a0_0 a0_1 a0_2 a0_3 a0_4 a0_5 a0_6 a0_7 t326 _ A16.out).mono ?_); rintro e w42 ⟨rfl, hb⟩; refine ⟨_, rfl, ?_⟩; have n0_ := Aside0.mk (blk_below (g := gb322) kA hb); have n1_ := Aside0.mk (blk_below (g := gb323) kA hb); have n2_ := Aside0.mk (blk_below (g := gb324) kA hb); have n3_ := Aside0.mk (below_step bA hb); clear BK322 BK323 BK324 HB; have BK322 := n0_; have BK323 := n1_; have BK324 := n2_; have HB := n3_; clear n0_ n1_ n2_ n3_; (try clear hb)))
         go_meet
         case rel => exact ⟨_, (true), (by first | rfl | (simp; done) | (simp [*]; done)), H', ⟨by first | omega | exact Nat.le_refl _⟩, ⟨by exact kA⟩, ⟨by exact kA⟩, ⟨by exact kA⟩, ⟨bA⟩⟩
        ·rw [if_neg c38] at H
         have c38b0 : decide (a3 ≤ a2) = false := decide_eq_false c38
         clear c38
         by_cases c43 : a4_1 < 1
         ·rw [if_pos c43] at H
          have c43b0 : decide (a4_1 < 1) = true := decide_eq_true c43
          clear c43
          have H' := Aside0.mk H
          clear H
          have hnb44 := NB322_323.out
          have hnc44 := NB323_322.out
          have hnb45 := NB322_324.out
          have hnc45 := NB324_322.out
          have hcz46_0 : w15.cell? ⟨gb322, 0, none⟩ = some (.int .i64 a0_0) := (blk_cell BK322.out 0).trans rfl
          have hcz46_1 : w15.cell? ⟨gb322, 1, none⟩ = some (.int .i64 a0_1) := (blk_cell BK322.out 1).trans rfl
          have hcz46_2 : w15.cell? ⟨gb322, 2, none⟩ = some (.int .i64 a0_2) := (blk_cell BK322.out 2).trans rfl
          have hcz46_3 : w15.cell? ⟨gb322, 3, none⟩ = some (.int .i64 a0_3) := (blk_cell BK322.out 3).trans rfl
          have hcz46_4 : w15.cell? ⟨gb322, 4, none⟩ = some (.int .i64 a0_4) := (blk_cell BK322.out 4).trans rfl
          have hcz46_5 : w15.cell? ⟨gb322, 5, none⟩ = some (.int .i64 a0_5) := (blk_cell BK322.out 5).trans rfl
          have hcz46_6 : w15.cell? ⟨gb322, 6, none⟩ = some (.int .i64 a0_6) := (blk_cell BK322.out 6).trans rfl
          have hcz46_7 : w15.cell? ⟨gb322, 7, none⟩ = some (.int .i64 a0_7) := (blk_cell BK322.out 7).trans rfl
          have hfz46_0 := blk_frozen BK322.out 0
          have hfz46_1 := blk_frozen BK322.out 1
          have hfz46_2 := blk_frozen BK322.out 2
          have hfz46_3 := blk_frozen BK322.out 3
          have hfz46_4 := blk_frozen BK322.out 4
          have hfz46_5 := blk_frozen BK322.out 5
          have hfz46_6 := blk_frozen BK322.out 6
          have hfz46_7 := blk_frozen BK322.out 7
          go_wp2_with (first | ((with_reducible refine gate_callee (f := 14) rfl ?_); refine goesL_ (some 22) rfl rfl Try.func14 (by kernel_rfl) rfl #[.agg #[.int .i64 a0_0, .int .i64 a0_1, .int .i64 a0_2, .int .i64 a0_3, .int .i64 a0_4, .int .i64 a0_5, .int .i64 a0_6, .int .i64 a0_7]] rfl aA ?_; (with_reducible refine (backfillref11_Check.calls k a0_0 a0_1 a0_2 a0_3 a0_4 a0_5 a0_6 a0_7 t326 _ A16.out).mono ?_); rintro e w47 ⟨rfl, hb⟩; refine ⟨_, rfl, ?_⟩; have n0_ := Aside0.mk (blk_below (g := gb322) kA hb); have n1_ := Aside0.mk (blk_below (g := gb323) kA hb); have n2_ := Aside0.mk (blk_below (g := gb324) kA hb); have n3_ := Aside0.mk (below_step bA hb); clear BK322 BK323 BK324 HB; have BK322 := n0_; have BK323 := n1_; have BK324 := n2_; have HB := n3_; clear n0_ n1_ n2_ n3_; (try clear hb); have hnb48 := NB323_324.out; have hnc48 := NB324_323.out; have hcz49_0 : w47.cell? ⟨gb323, 0, none⟩ = some (.int .i64 a4_0) := (blk_cell BK323.out 0).trans rfl; have hcz49_1 : w47.cell? ⟨gb323, 1, none⟩ = some (.int .i64 a4_1) := (blk_cell BK323.out 1).trans rfl; have hcz49_2 : w47.cell? ⟨gb323, 2, none⟩ = some (.int .i64 a4_2) := (blk_cell BK323.out 2).trans rfl; have hcz49_3 : w47.cell? ⟨gb323, 3, none⟩ = some (.int .i64 a4_3) := (blk_cell BK323.out 3).trans rfl; have hcz49_4 : w47.cell? ⟨gb323, 4, none⟩ = some (.int .i64 a4_4) := (blk_cell BK323.out 4).trans rfl; have hcz49_5 : w47.cell? ⟨gb323, 5, none⟩ = some (.int .i64 a4_5) := (blk_cell BK323.out 5).trans rfl; have hcz49_6 : w47.cell? ⟨gb323, 6, none⟩ = some (.int .i64 a4_6) := (blk_cell BK323.out 6).trans rfl; have hcz49_7 : w47.cell? ⟨gb323, 7, none⟩ = some (.slice A4_7 l4_7.length c4_7) := (blk_cell BK323.out 7).trans rfl; have hfz49_0 := blk_frozen BK323.out 0; have hfz49_1 := blk_frozen BK323.out 1; have hfz49_2 := blk_frozen BK323.out 2; have hfz49_3 := blk_frozen BK323.out 3; have hfz49_4 := blk_frozen BK323.out 4; have hfz49_5 := blk_frozen BK323.out 5; have hfz49_6 := blk_frozen BK323.out 6; have hfz49_7 := blk_frozen BK323.out 7))
          go_meet
          case rel => exact ⟨_, (true), (by first | rfl | (simp; done) | (simp [*]; done)), H', ⟨by first | omega | exact Nat.le_refl _⟩, ⟨by exact kA⟩, ⟨by exact kA⟩, ⟨by exact kA⟩, ⟨bA⟩⟩
         ·rw [if_neg c43] at H
          have c43b0 : decide (a4_1 < 1) = false := decide_eq_false c43
          clear c43
          by_cases c50 : a4_1 > a0_0
          ·rw [if_pos c50] at H
           have c50b0 : decide (a0_0 < a4_1) = true := decide_eq_true c50
           clear c50
           have H' := Aside0.mk H
           clear H
           have hnb51 := NB322_323.out
           have hnc51 := NB323_322.out
           have hnb52 := NB322_324.out
           have hnc52 := NB324_322.out
           have hcz53_0 : w15.cell? ⟨gb322, 0, none⟩ = some (.int .i64 a0_0) := (blk_cell BK322.out 0).trans rfl
           have hcz53_1 : w15.cell? ⟨gb322, 1, none⟩ = some (.int .i64 a0_1) := (blk_cell BK322.out 1).trans rfl
           have hcz53_2 : w15.cell? ⟨gb322, 2, none⟩ = some (.int .i64 a0_2) := (blk_cell BK322.out 2).trans rfl
           have hcz53_3 : w15.cell? ⟨gb322, 3, none⟩ = some (.int .i64 a0_3) := (blk_cell BK322.out 3).trans rfl
           have hcz53_4 : w15.cell? ⟨gb322, 4, none⟩ = some (.int .i64 a0_4) := (blk_cell BK322.out 4).trans rfl
           have hcz53_5 : w15.cell? ⟨gb322, 5, none⟩ = some (.int .i64 a0_5) := (blk_cell BK322.out 5).trans rfl
           have hcz53_6 : w15.cell? ⟨gb322, 6, none⟩ = some (.int .i64 a0_6) := (blk_cell BK322.out 6).trans rfl
           have hcz53_7 : w15.cell? ⟨gb322, 7, none⟩ = some (.int .i64 a0_7) := (blk_cell BK322.out 7).trans rfl
           have hfz53_0 := blk_frozen BK322.out 0
           have hfz53_1 := blk_frozen BK322.out 1
           have hfz53_2 := blk_frozen BK322.out 2
           have hfz53_3 := blk_frozen BK322.out 3
           have hfz53_4 := blk_frozen BK322.out 4
           have hfz53_5 := blk_frozen BK322.out 5
           have hfz53_6 := blk_frozen BK322.out 6
           have hfz53_7 := blk_frozen BK322.out 7
           go_wp2_with (first | ((with_reducible refine gate_callee (f := 14) rfl ?_); refine goesL_ (some 22) rfl rfl Try.func14 (by kernel_rfl) rfl #[.agg #[.int .i64 a0_0, .int .i64 a0_1, .int .i64 a0_2, .int .i64 a0_3, .int .i64 a0_4, .int .i64 a0_5, .int .i64 a0_6, .int .i64 a0_7]] rfl aA ?_; (with_reducible refine (backfillref11_Check.calls k a0_0 a0_1 a0_2 a0_3 a0_4 a0_5 a0_6 a0_7 t326 _ A16.out).mono ?_); rintro e w54 ⟨rfl, hb⟩; refine ⟨_, rfl, ?_⟩; have n0_ := Aside0.mk (blk_below (g := gb322) kA hb); have n1_ := Aside0.mk (blk_below (g := gb323) kA hb); have n2_ := Aside0.mk (blk_below (g := gb324) kA hb); have n3_ := Aside0.mk (below_step bA hb); clear BK322 BK323 BK324 HB; have BK322 := n0_; have BK323 := n1_; have BK324 := n2_; have HB := n3_; clear n0_ n1_ n2_ n3_; (try clear hb); have hnb55 := NB323_324.out; have hnc55 := NB324_323.out; have hcz56_0 : w54.cell? ⟨gb323, 0, none⟩ = some (.int .i64 a4_0) := (blk_cell BK323.out 0).trans rfl; have hcz56_1 : w54.cell? ⟨gb323, 1, none⟩ = some (.int .i64 a4_1) := (blk_cell BK323.out 1).trans rfl; have hcz56_2 : w54.cell? ⟨gb323, 2, none⟩ = some (.int .i64 a4_2) := (blk_cell BK323.out 2).trans rfl; have hcz56_3 : w54.cell? ⟨gb323, 3, none⟩ = some (.int .i64 a4_3) := (blk_cell BK323.out 3).trans rfl; have hcz56_4 : w54.cell? ⟨gb323, 4, none⟩ = some (.int .i64 a4_4) := (blk_cell BK323.out 4).trans rfl; have hcz56_5 : w54.cell? ⟨gb323, 5, none⟩ = some (.int .i64 a4_5) := (blk_cell BK323.out 5).trans rfl; have hcz56_6 : w54.cell? ⟨gb323, 6, none⟩ = some (.int .i64 a4_6) := (blk_cell BK323.out 6).trans rfl; have hcz56_7 : w54.cell? ⟨gb323, 7, none⟩ = some (.slice A4_7 l4_7.length c4_7) := (blk_cell BK323.out 7).trans rfl; have hfz56_0 := blk_frozen BK323.out 0; have hfz56_1 := blk_frozen BK323.out 1; have hfz56_2 := blk_frozen BK323.out 2; have hfz56_3 := blk_frozen BK323.out 3; have hfz56_4 := blk_frozen BK323.out 4; have hfz56_5 := blk_frozen BK323.out 5; have hfz56_6 := blk_frozen BK323.out 6; have hfz56_7 := blk_frozen BK323.out 7; have hcz57_0 : w54.cell? ⟨gb322, 0, none⟩ = some (.int .i64 a0_0) := (blk_cell BK322.out 0).trans rfl; have hcz57_1 : w54.cell? ⟨gb322, 1, none⟩ = some (.int .i64 a0_1) := (blk_cell BK322.out 1).trans rfl; have hcz57_2 : w54.cell? ⟨gb322, 2, none⟩ = some (.int .i64 a0_2) := (blk_cell BK322.out 2).trans rfl; have hcz57_3 : w54.cell? ⟨gb322, 3, none⟩ = some (.int .i64 a0_3) := (blk_cell BK322.out 3).trans rfl; have hcz57_4 : w54.cell? ⟨gb322, 4, none⟩ = some (.int .i64 a0_4) := (blk_cell BK322.out 4).trans rfl; have hcz57_5 : w54.cell? ⟨gb322, 5, none⟩ = some (.int .i64 a0_5) := (blk_cell BK322.out 5).trans rfl; have hcz57_6 : w54.cell? ⟨gb322, 6, none⟩ = some (.int .i64 a0_6) := (blk_cell BK322.out 6).trans rfl; have hcz57_7 : w54.cell? ⟨gb322, 7, none⟩ = some (.int .i64 a0_7) := (blk_cell BK322.out 7).trans rfl; have hfz57_0 := blk_frozen BK322.out 0; have hfz57_1 := blk_frozen BK322.out 1; have hfz57_2 := blk_frozen BK322.out 2; have hfz57_3 := blk_frozen BK322.out 3; have hfz57_4 := blk_frozen BK322.out 4; have hfz57_5 := blk_frozen BK322.out 5; have hfz57_6 := blk_frozen BK322.out 6; have hfz57_7 := blk_frozen BK322.out 7))
           go_meet
           case rel => exact ⟨_, (true), (by first | rfl | (simp; done) | (simp [*]; done)), H', ⟨by first | omega | exact Nat.le_refl _⟩, ⟨by exact kA⟩, ⟨by exact kA⟩, ⟨by exact kA⟩, ⟨bA⟩⟩
          ·rw [if_neg c50] at H
           have c50b0 : decide (a0_0 < a4_1) = false := decide_eq_false c50
           clear c50
           by_cases c58 : a5_1 < 1
           ·rw [if_pos c58] at H
            have c58b0 : decide (a5_1 < 1) = true := decide_eq_true c58
            clear c58
            have H' := Aside0.mk H
            clear H
            have hnb59 := NB322_323.out
            have hnc59 := NB323_322.out
            have hnb60 := NB322_324.out
            have hnc60 := NB324_322.out
            have hcz61_0 : w15.cell? ⟨gb322, 0, none⟩ = some (.int .i64 a0_0) := (blk_cell BK322.out 0).trans rfl
            have hcz61_1 : w15.cell? ⟨gb322, 1, none⟩ = some (.int .i64 a0_1) := (blk_cell BK322.out 1).trans rfl
            have hcz61_2 : w15.cell? ⟨gb322, 2, none⟩ = some (.int .i64 a0_2) := (blk_cell BK322.out 2).trans rfl
            have hcz61_3 : w15.cell? ⟨gb322, 3, none⟩ = some (.int .i64 a0_3) := (blk_cell BK322.out 3).trans rfl
            have hcz61_4 : w15.cell? ⟨gb322, 4, none⟩ = some (.int .i64 a0_4) := (blk_cell BK322.out 4).trans rfl
            have hcz61_5 : w15.cell? ⟨gb322, 5, none⟩ = some (.int .i64 a0_5) := (blk_cell BK322.out 5).trans rfl
            have hcz61_6 : w15.cell? ⟨gb322, 6, none⟩ = some (.int .i64 a0_6) := (blk_cell BK322.out 6).trans rfl
            have hcz61_7 : w15.cell? ⟨gb322, 7, none⟩ = some (.int .i64 a0_7) := (blk_cell BK322.out 7).trans rfl
            have hfz61_0 := blk_frozen BK322.out 0
            have hfz61_1 := blk_frozen BK322.out 1
            have hfz61_2 := blk_frozen BK322.out 2
            have hfz61_3 := blk_frozen BK322.out 3
            have hfz61_4 := blk_frozen BK322.out 4
            have hfz61_5 := blk_frozen BK322.out 5
            have hfz61_6 := blk_frozen BK322.out 6
            have hfz61_7 := blk_frozen BK322.out 7
            go_wp2_with (first | ((with_reducible refine gate_callee (f := 14) rfl ?_); refine goesL_ (some 22) rfl rfl Try.func14 (by kernel_rfl) rfl #[.agg #[.int .i64 a0_0, .int .i64 a0_1, .int .i64 a0_2, .int .i64 a0_3, .int .i64 a0_4, .int .i64 a0_5, .int .i64 a0_6, .int .i64 a0_7]] rfl aA ?_; (with_reducible refine (backfillref11_Check.calls k a0_0 a0_1 a0_2 a0_3 a0_4 a0_5 a0_6 a0_7 t326 _ A16.out).mono ?_); rintro e w62 ⟨rfl, hb⟩; refine ⟨_, rfl, ?_⟩; have n0_ := Aside0.mk (blk_below (g := gb322) kA hb); have n1_ := Aside0.mk (blk_below (g := gb323) kA hb); have n2_ := Aside0.mk (blk_below (g := gb324) kA hb); have n3_ := Aside0.mk (below_step bA hb); clear BK322 BK323 BK324 HB; have BK322 := n0_; have BK323 := n1_; have BK324 := n2_; have HB := n3_; clear n0_ n1_ n2_ n3_; (try clear hb); have hnb63 := NB323_324.out; have hnc63 := NB324_323.out; have hcz64_0 : w62.cell? ⟨gb323, 0, none⟩ = some (.int .i64 a4_0) := (blk_cell BK323.out 0).trans rfl; have hcz64_1 : w62.cell? ⟨gb323, 1, none⟩ = some (.int .i64 a4_1) := (blk_cell BK323.out 1).trans rfl; have hcz64_2 : w62.cell? ⟨gb323, 2, none⟩ = some (.int .i64 a4_2) := (blk_cell BK323.out 2).trans rfl; have hcz64_3 : w62.cell? ⟨gb323, 3, none⟩ = some (.int .i64 a4_3) := (blk_cell BK323.out 3).trans rfl; have hcz64_4 : w62.cell? ⟨gb323, 4, none⟩ = some (.int .i64 a4_4) := (blk_cell BK323.out 4).trans rfl; have hcz64_5 : w62.cell? ⟨gb323, 5, none⟩ = some (.int .i64 a4_5) := (blk_cell BK323.out 5).trans rfl; have hcz64_6 : w62.cell? ⟨gb323, 6, none⟩ = some (.int .i64 a4_6) := (blk_cell BK323.out 6).trans rfl; have hcz64_7 : w62.cell? ⟨gb323, 7, none⟩ = some (.slice A4_7 l4_7.length c4_7) := (blk_cell BK323.out 7).trans rfl; have hfz64_0 := blk_frozen BK323.out 0; have hfz64_1 := blk_frozen BK323.out 1; have hfz64_2 := blk_frozen BK323.out 2; have hfz64_3 := blk_frozen BK323.out 3; have hfz64_4 := blk_frozen BK323.out 4; have hfz64_5 := blk_frozen BK323.out 5; have hfz64_6 := blk_frozen BK323.out 6; have hfz64_7 := blk_frozen BK323.out 7; have hcz65_0 : w62.cell? ⟨gb322, 0, none⟩ = some (.int .i64 a0_0) := (blk_cell BK322.out 0).trans rfl; have hcz65_1 : w62.cell? ⟨gb322, 1, none⟩ = some (.int .i64 a0_1) := (blk_cell BK322.out 1).trans rfl; have hcz65_2 : w62.cell? ⟨gb322, 2, none⟩ = some (.int .i64 a0_2) := (blk_cell BK322.out 2).trans rfl; have hcz65_3 : w62.cell? ⟨gb322, 3, none⟩ = some (.int .i64 a0_3) := (blk_cell BK322.out 3).trans rfl; have hcz65_4 : w62.cell? ⟨gb322, 4, none⟩ = some (.int .i64 a0_4) := (blk_cell BK322.out 4).trans rfl; have hcz65_5 : w62.cell? ⟨gb322, 5, none⟩ = some (.int .i64 a0_5) := (blk_cell BK322.out 5).trans rfl; have hcz65_6 : w62.cell? ⟨gb322, 6, none⟩ = some (.int .i64 a0_6) := (blk_cell BK322.out 6).trans rfl; have hcz65_7 : w62.cell? ⟨gb322, 7, none⟩ = some (.int .i64 a0_7) := (blk_cell BK322.out 7).trans rfl; have hfz65_0 := blk_frozen BK322.out 0; have hfz65_1 := blk_frozen BK322.out 1; have hfz65_2 := blk_frozen BK322.out 2; have hfz65_3 := blk_frozen BK322.out 3; have hfz65_4 := blk_frozen BK322.out 4; have hfz65_5 := blk_frozen BK322.out 5; have hfz65_6 := blk_frozen BK322.out 6; have hfz65_7 := blk_frozen BK322.out 7; have hcz66_0 : w62.cell? ⟨gb324, 0, none⟩ = some (.int .i64 a5_0) := (blk_cell BK324.out 0).trans rfl; have hcz66_1 : w62.cell? ⟨gb324, 1, none⟩ = some (.int .i64 a5_1) := (blk_cell BK324.out 1).trans rfl; have hcz66_2 : w62.cell? ⟨gb324, 2, none⟩ = some (.int .i64 a5_2) := (blk_cell BK324.out 2).trans rfl; have hcz66_3 : w62.cell? ⟨gb324, 3, none⟩ = some (.int .i64 a5_3) := (blk_cell BK324.out 3).trans rfl; have hcz66_4 : w62.cell? ⟨gb324, 4, none⟩ = some (.int .i64 a5_4) := (blk_cell BK324.out 4).trans rfl; have hcz66_5 : w62.cell? ⟨gb324, 5, none⟩ = some (.int .i64 a5_5) := (blk_cell BK324.out 5).trans rfl; have hcz66_6 : w62.cell? ⟨gb324, 6, none⟩ = some (.int .i64 a5_6) := (blk_cell BK324.out 6).trans rfl; have hcz66_7 : w62.cell? ⟨gb324, 7, none⟩ = some (.slice A5_7 l5_7.length c5_7) := (blk_cell BK324.out 7).trans rfl; have hfz66_0 := blk_frozen BK324.out 0; have hfz66_1 := blk_frozen BK324.out 1; have hfz66_2 := blk_frozen BK324.out 2; have hfz66_3 := blk_frozen BK324.out 3; have hfz66_4 := blk_frozen BK324.out 4; have hfz66_5 := blk_frozen BK324.out 5; have hfz66_6 := blk_frozen BK324.out 6; have hfz66_7 := blk_frozen BK324.out 7))
            go_meet
            case rel => exact ⟨_, (true), (by first | rfl | (simp; done) | (simp [*]; done)), H', ⟨by first | omega | exact Nat.le_refl _⟩, ⟨by exact kA⟩, ⟨by exact kA⟩, ⟨by exact kA⟩, ⟨bA⟩⟩
           ·rw [if_neg c58] at H
            have c58b0 : decide (a5_1 < 1) = false := decide_eq_false c58
            clear c58
            by_cases c67 : a5_1 > a0_0
            ·rw [if_pos c67] at H
             have c67b0 : decide (a0_0 < a5_1) = true := decide_eq_true c67
             clear c67
             have H' := Aside0.mk H
             clear H
             have hnb68 := NB322_323.out
             have hnc68 := NB323_322.out
             have hnb69 := NB322_324.out
             have hnc69 := NB324_322.out
             have hcz70_0 : w15.cell? ⟨gb322, 0, none⟩ = some (.int .i64 a0_0) := (blk_cell BK322.out 0).trans rfl
             have hcz70_1 : w15.cell? ⟨gb322, 1, none⟩ = some (.int .i64 a0_1) := (blk_cell BK322.out 1).trans rfl
             have hcz70_2 : w15.cell? ⟨gb322, 2, none⟩ = some (.int .i64 a0_2) := (blk_cell BK322.out 2).trans rfl
             have hcz70_3 : w15.cell? ⟨gb322, 3, none⟩ = some (.int .i64 a0_3) := (blk_cell BK322.out 3).trans rfl
             have hcz70_4 : w15.cell? ⟨gb322, 4, none⟩ = some (.int .i64 a0_4) := (blk_cell BK322.out 4).trans rfl
             have hcz70_5 : w15.cell? ⟨gb322, 5, none⟩ = some (.int .i64 a0_5) := (blk_cell BK322.out 5).trans rfl
             have hcz70_6 : w15.cell? ⟨gb322, 6, none⟩ = some (.int .i64 a0_6) := (blk_cell BK322.out 6).trans rfl
             have hcz70_7 : w15.cell? ⟨gb322, 7, none⟩ = some (.int .i64 a0_7) := (blk_cell BK322.out 7).trans rfl
             have hfz70_0 := blk_frozen BK322.out 0
             have hfz70_1 := blk_frozen BK322.out 1
             have hfz70_2 := blk_frozen BK322.out 2
             have hfz70_3 := blk_frozen BK322.out 3
             have hfz70_4 := blk_frozen BK322.out 4
             have hfz70_5 := blk_frozen BK322.out 5
             have hfz70_6 := blk_frozen BK322.out 6
             have hfz70_7 := blk_frozen BK322.out 7
             go_wp2_with (first | ((with_reducible refine gate_callee (f := 14) rfl ?_); refine goesL_ (some 22) rfl rfl Try.func14 (by kernel_rfl) rfl #[.agg #[.int .i64 a0_0, .int .i64 a0_1, .int .i64 a0_2, .int .i64 a0_3, .int .i64 a0_4, .int .i64 a0_5, .int .i64 a0_6, .int .i64 a0_7]] rfl aA ?_; (with_reducible refine (backfillref11_Check.calls k a0_0 a0_1 a0_2 a0_3 a0_4 a0_5 a0_6 a0_7 t326 _ A16.out).mono ?_); rintro e w71 ⟨rfl, hb⟩; refine ⟨_, rfl, ?_⟩; have n0_ := Aside0.mk (blk_below (g := gb322) kA hb); have n1_ := Aside0.mk (blk_below (g := gb323) kA hb); have n2_ := Aside0.mk (blk_below (g := gb324) kA hb); have n3_ := Aside0.mk (below_step bA hb); clear BK322 BK323 BK324 HB; have BK322 := n0_; have BK323 := n1_; have BK324 := n2_; have HB := n3_; clear n0_ n1_ n2_ n3_; (try clear hb); have hnb72 := NB323_324.out; have hnc72 := NB324_323.out; have hcz73_0 : w71.cell? ⟨gb323, 0, none⟩ = some (.int .i64 a4_0) := (blk_cell BK323.out 0).trans rfl; have hcz73_1 : w71.cell? ⟨gb323, 1, none⟩ = some (.int .i64 a4_1) := (blk_cell BK323.out 1).trans rfl; have hcz73_2 : w71.cell? ⟨gb323, 2, none⟩ = some (.int .i64 a4_2) := (blk_cell BK323.out 2).trans rfl; have hcz73_3 : w71.cell? ⟨gb323, 3, none⟩ = some (.int .i64 a4_3) := (blk_cell BK323.out 3).trans rfl; have hcz73_4 : w71.cell? ⟨gb323, 4, none⟩ = some (.int .i64 a4_4) := (blk_cell BK323.out 4).trans rfl; have hcz73_5 : w71.cell? ⟨gb323, 5, none⟩ = some (.int .i64 a4_5) := (blk_cell BK323.out 5).trans rfl; have hcz73_6 : w71.cell? ⟨gb323, 6, none⟩ = some (.int .i64 a4_6) := (blk_cell BK323.out 6).trans rfl; have hcz73_7 : w71.cell? ⟨gb323, 7, none⟩ = some (.slice A4_7 l4_7.length c4_7) := (blk_cell BK323.out 7).trans rfl; have hfz73_0 := blk_frozen BK323.out 0; have hfz73_1 := blk_frozen BK323.out 1; have hfz73_2 := blk_frozen BK323.out 2; have hfz73_3 := blk_frozen BK323.out 3; have hfz73_4 := blk_frozen BK323.out 4; have hfz73_5 := blk_frozen BK323.out 5; have hfz73_6 := blk_frozen BK323.out 6; have hfz73_7 := blk_frozen BK323.out 7; have hcz74_0 : w71.cell? ⟨gb322, 0, none⟩ = some (.int .i64 a0_0) := (blk_cell BK322.out 0).trans rfl; have hcz74_1 : w71.cell? ⟨gb322, 1, none⟩ = some (.int .i64 a0_1) := (blk_cell BK322.out 1).trans rfl; have hcz74_2 : w71.cell? ⟨gb322, 2, none⟩ = some (.int .i64 a0_2) := (blk_cell BK322.out 2).trans rfl; have hcz74_3 : w71.cell? ⟨gb322, 3, none⟩ = some (.int .i64 a0_3) := (blk_cell BK322.out 3).trans rfl; have hcz74_4 : w71.cell? ⟨gb322, 4, none⟩ = some (.int .i64 a0_4) := (blk_cell BK322.out 4).trans rfl; have hcz74_5 : w71.cell? ⟨gb322, 5, none⟩ = some (.int .i64 a0_5) := (blk_cell BK322.out 5).trans rfl; have hcz74_6 : w71.cell? ⟨gb322, 6, none⟩ = some (.int .i64 a0_6) := (blk_cell BK322.out 6).trans rfl; have hcz74_7 : w71.cell? ⟨gb322, 7, none⟩ = some (.int .i64 a0_7) := (blk_cell BK322.out 7).trans rfl; have hfz74_0 := blk_frozen BK322.out 0; have hfz74_1 := blk_frozen BK322.out 1; have hfz74_2 := blk_frozen BK322.out 2; have hfz74_3 := blk_frozen BK322.out 3; have hfz74_4 := blk_frozen BK322.out 4; have hfz74_5 := blk_frozen BK322.out 5; have hfz74_6 := blk_frozen BK322.out 6; have hfz74_7 := blk_frozen BK322.out 7; have hcz75_0 : w71.cell? ⟨gb324, 0, none⟩ = some (.int .i64 a5_0) := (blk_cell BK324.out 0).trans rfl; have hcz75_1 : w71.cell? ⟨gb324, 1, none⟩ = some (.int .i64 a5_1) := (blk_cell BK324.out 1).trans rfl; have hcz75_2 : w71.cell? ⟨gb324, 2, none⟩ = some (.int .i64 a5_2) := (blk_cell BK324.out 2).trans rfl; have hcz75_3 : w71.cell? ⟨gb324, 3, none⟩ = some (.int .i64 a5_3) := (blk_cell BK324.out 3).trans rfl; have hcz75_4 : w71.cell? ⟨gb324, 4, none⟩ = some (.int .i64 a5_4) := (blk_cell BK324.out 4).trans rfl; have hcz75_5 : w71.cell? ⟨gb324, 5, none⟩ = some (.int .i64 a5_5) := (blk_cell BK324.out 5).trans rfl; have hcz75_6 : w71.cell? ⟨gb324, 6, none⟩ = some (.int .i64 a5_6) := (blk_cell BK324.out 6).trans rfl; have hcz75_7 : w71.cell? ⟨gb324, 7, none⟩ = some (.slice A5_7 l5_7.length c5_7) := (blk_cell BK324.out 7).trans rfl; have hfz75_0 := blk_frozen BK324.out 0; have hfz75_1 := blk_frozen BK324.out 1; have hfz75_2 := blk_frozen BK324.out 2; have hfz75_3 := blk_frozen BK324.out 3; have hfz75_4 := blk_frozen BK324.out 4; have hfz75_5 := blk_frozen BK324.out 5; have hfz75_6 := blk_frozen BK324.out 6; have hfz75_7 := blk_frozen BK324.out 7))
             go_meet
             case rel => exact ⟨_, (true), (by first | rfl | (simp; done) | (simp [*]; done)), H', ⟨by first | omega | exact Nat.le_refl _⟩, ⟨by exact kA⟩, ⟨by exact kA⟩, ⟨by exact kA⟩, ⟨bA⟩⟩
            ·rw [if_neg c67] at H
             have c67b0 : decide (a0_0 < a5_1) = false := decide_eq_false c67
             clear c67
             by_cases c76 : a6 > a7
             ·rw [if_pos c76] at H
              have c76b0 : decide (a7 < a6) = true := decide_eq_true c76
              clear c76
              have H' := Aside0.mk H
              clear H
              have hnb77 := NB322_323.out
              have hnc77 := NB323_322.out
              have hnb78 := NB322_324.out
              have hnc78 := NB324_322.out
              have hcz79_0 : w15.cell? ⟨gb322, 0, none⟩ = some (.int .i64 a0_0) := (blk_cell BK322.out 0).trans rfl
              have hcz79_1 : w15.cell? ⟨gb322, 1, none⟩ = some (.int .i64 a0_1) := (blk_cell BK322.out 1).trans rfl
              have hcz79_2 : w15.cell? ⟨gb322, 2, none⟩ = some (.int .i64 a0_2) := (blk_cell BK322.out 2).trans rfl
              have hcz79_3 : w15.cell? ⟨gb322, 3, none⟩ = some (.int .i64 a0_3) := (blk_cell BK322.out 3).trans rfl
              have hcz79_4 : w15.cell? ⟨gb322, 4, none⟩ = some (.int .i64 a0_4) := (blk_cell BK322.out 4).trans rfl
              have hcz79_5 : w15.cell? ⟨gb322, 5, none⟩ = some (.int .i64 a0_5) := (blk_cell BK322.out 5).trans rfl
              have hcz79_6 : w15.cell? ⟨gb322, 6, none⟩ = some (.int .i64 a0_6) := (blk_cell BK322.out 6).trans rfl
              have hcz79_7 : w15.cell? ⟨gb322, 7, none⟩ = some (.int .i64 a0_7) := (blk_cell BK322.out 7).trans rfl
              have hfz79_0 := blk_frozen BK322.out 0
              have hfz79_1 := blk_frozen BK322.out 1
              have hfz79_2 := blk_frozen BK322.out 2
              have hfz79_3 := blk_frozen BK322.out 3
              have hfz79_4 := blk_frozen BK322.out 4
              have hfz79_5 := blk_frozen BK322.out 5
              have hfz79_6 := blk_frozen BK322.out 6
              have hfz79_7 := blk_frozen BK322.out 7
              go_wp2_with (first | ((with_reducible refine gate_callee (f := 14) rfl ?_); refine goesL_ (some 22) rfl rfl Try.func14 (by kernel_rfl) rfl #[.agg #[.int .i64 a0_0, .int .i64 a0_1, .int .i64 a0_2, .int .i64 a0_3, .int .i64 a0_4, .int .i64 a0_5, .int .i64 a0_6, .int .i64 a0_7]] rfl aA ?_; (with_reducible refine (backfillref11_Check.calls k a0_0 a0_1 a0_2 a0_3 a0_4 a0_5 a0_6 a0_7 t326 _ A16.out).mono ?_); rintro e w80 ⟨rfl, hb⟩; refine ⟨_, rfl, ?_⟩; have n0_ := Aside0.mk (blk_below (g := gb322) kA hb); have n1_ := Aside0.mk (blk_below (g := gb323) kA hb); have n2_ := Aside0.mk (blk_below (g := gb324) kA hb); have n3_ := Aside0.mk (below_step bA hb); clear BK322 BK323 BK324 HB; have BK322 := n0_; have BK323 := n1_; have BK324 := n2_; have HB := n3_; clear n0_ n1_ n2_ n3_; (try clear hb); have hnb81 := NB323_324.out; have hnc81 := NB324_323.out; have hcz82_0 : w80.cell? ⟨gb323, 0, none⟩ = some (.int .i64 a4_0) := (blk_cell BK323.out 0).trans rfl; have hcz82_1 : w80.cell? ⟨gb323, 1, none⟩ = some (.int .i64 a4_1) := (blk_cell BK323.out 1).trans rfl; have hcz82_2 : w80.cell? ⟨gb323, 2, none⟩ = some (.int .i64 a4_2) := (blk_cell BK323.out 2).trans rfl; have hcz82_3 : w80.cell? ⟨gb323, 3, none⟩ = some (.int .i64 a4_3) := (blk_cell BK323.out 3).trans rfl; have hcz82_4 : w80.cell? ⟨gb323, 4, none⟩ = some (.int .i64 a4_4) := (blk_cell BK323.out 4).trans rfl; have hcz82_5 : w80.cell? ⟨gb323, 5, none⟩ = some (.int .i64 a4_5) := (blk_cell BK323.out 5).trans rfl; have hcz82_6 : w80.cell? ⟨gb323, 6, none⟩ = some (.int .i64 a4_6) := (blk_cell BK323.out 6).trans rfl; have hcz82_7 : w80.cell? ⟨gb323, 7, none⟩ = some (.slice A4_7 l4_7.length c4_7) := (blk_cell BK323.out 7).trans rfl; have hfz82_0 := blk_frozen BK323.out 0; have hfz82_1 := blk_frozen BK323.out 1; have hfz82_2 := blk_frozen BK323.out 2; have hfz82_3 := blk_frozen BK323.out 3; have hfz82_4 := blk_frozen BK323.out 4; have hfz82_5 := blk_frozen BK323.out 5; have hfz82_6 := blk_frozen BK323.out 6; have hfz82_7 := blk_frozen BK323.out 7; have hcz83_0 : w80.cell? ⟨gb322, 0, none⟩ = some (.int .i64 a0_0) := (blk_cell BK322.out 0).trans rfl; have hcz83_1 : w80.cell? ⟨gb322, 1, none⟩ = some (.int .i64 a0_1) := (blk_cell BK322.out 1).trans rfl; have hcz83_2 : w80.cell? ⟨gb322, 2, none⟩ = some (.int .i64 a0_2) := (blk_cell BK322.out 2).trans rfl; have hcz83_3 : w80.cell? ⟨gb322, 3, none⟩ = some (.int .i64 a0_3) := (blk_cell BK322.out 3).trans rfl; have hcz83_4 : w80.cell? ⟨gb322, 4, none⟩ = some (.int .i64 a0_4) := (blk_cell BK322.out 4).trans rfl; have hcz83_5 : w80.cell? ⟨gb322, 5, none⟩ = some (.int .i64 a0_5) := (blk_cell BK322.out 5).trans rfl; have hcz83_6 : w80.cell? ⟨gb322, 6, none⟩ = some (.int .i64 a0_6) := (blk_cell BK322.out 6).trans rfl; have hcz83_7 : w80.cell? ⟨gb322, 7, none⟩ = some (.int .i64 a0_7) := (blk_cell BK322.out 7).trans rfl; have hfz83_0 := blk_frozen BK322.out 0; have hfz83_1 := blk_frozen BK322.out 1; have hfz83_2 := blk_frozen BK322.out 2; have hfz83_3 := blk_frozen BK322.out 3; have hfz83_4 := blk_frozen BK322.out 4; have hfz83_5 := blk_frozen BK322.out 5; have hfz83_6 := blk_frozen BK322.out 6; have hfz83_7 := blk_frozen BK322.out 7; have hcz84_0 : w80.cell? ⟨gb324, 0, none⟩ = some (.int .i64 a5_0) := (blk_cell BK324.out 0).trans rfl; have hcz84_1 : w80.cell? ⟨gb324, 1, none⟩ = some (.int .i64 a5_1) := (blk_cell BK324.out 1).trans rfl; have hcz84_2 : w80.cell? ⟨gb324, 2, none⟩ = some (.int .i64 a5_2) := (blk_cell BK324.out 2).trans rfl; have hcz84_3 : w80.cell? ⟨gb324, 3, none⟩ = some (.int .i64 a5_3) := (blk_cell BK324.out 3).trans rfl; have hcz84_4 : w80.cell? ⟨gb324, 4, none⟩ = some (.int .i64 a5_4) := (blk_cell BK324.out 4).trans rfl; have hcz84_5 : w80.cell? ⟨gb324, 5, none⟩ = some (.int .i64 a5_5) := (blk_cell BK324.out 5).trans rfl; have hcz84_6 : w80.cell? ⟨gb324, 6, none⟩ = some (.int .i64 a5_6) := (blk_cell BK324.out 6).trans rfl; have hcz84_7 : w80.cell? ⟨gb324, 7, none⟩ = some (.slice A5_7 l5_7.length c5_7) := (blk_cell BK324.out 7).trans rfl; have hfz84_0 := blk_frozen BK324.out 0; have hfz84_1 := blk_frozen BK324.out 1; have hfz84_2 := blk_frozen BK324.out 2; have hfz84_3 := blk_frozen BK324.out 3; have hfz84_4 := blk_frozen BK324.out 4; have hfz84_5 := blk_frozen BK324.out 5; have hfz84_6 := blk_frozen BK324.out 6; have hfz84_7 := blk_frozen BK324.out 7))
              go_meet
              case rel => exact ⟨_, (true), (by first | rfl | (simp; done) | (simp [*]; done)), H', ⟨by first | omega | exact Nat.le_refl _⟩, ⟨by exact kA⟩, ⟨by exact kA⟩, ⟨by exact kA⟩, ⟨bA⟩⟩
             ·rw [if_neg c76] at H
              have c76b0 : decide (a7 < a6) = false := decide_eq_false c76
              clear c76
              have H' := Aside0.mk H
              clear H
              have hnb85 := NB322_323.out
              have hnc85 := NB323_322.out
              have hnb86 := NB322_324.out
              have hnc86 := NB324_322.out
              have hcz87_0 : w15.cell? ⟨gb322, 0, none⟩ = some (.int .i64 a0_0) := (blk_cell BK322.out 0).trans rfl
              have hcz87_1 : w15.cell? ⟨gb322, 1, none⟩ = some (.int .i64 a0_1) := (blk_cell BK322.out 1).trans rfl
              have hcz87_2 : w15.cell? ⟨gb322, 2, none⟩ = some (.int .i64 a0_2) := (blk_cell BK322.out 2).trans rfl
              have hcz87_3 : w15.cell? ⟨gb322, 3, none⟩ = some (.int .i64 a0_3) := (blk_cell BK322.out 3).trans rfl
              have hcz87_4 : w15.cell? ⟨gb322, 4, none⟩ = some (.int .i64 a0_4) := (blk_cell BK322.out 4).trans rfl
              have hcz87_5 : w15.cell? ⟨gb322, 5, none⟩ = some (.int .i64 a0_5) := (blk_cell BK322.out 5).trans rfl
              have hcz87_6 : w15.cell? ⟨gb322, 6, none⟩ = some (.int .i64 a0_6) := (blk_cell BK322.out 6).trans rfl
              have hcz87_7 : w15.cell? ⟨gb322, 7, none⟩ = some (.int .i64 a0_7) := (blk_cell BK322.out 7).trans rfl
              have hfz87_0 := blk_frozen BK322.out 0
              have hfz87_1 := blk_frozen BK322.out 1
              have hfz87_2 := blk_frozen BK322.out 2
              have hfz87_3 := blk_frozen BK322.out 3
              have hfz87_4 := blk_frozen BK322.out 4
              have hfz87_5 := blk_frozen BK322.out 5
              have hfz87_6 := blk_frozen BK322.out 6
              have hfz87_7 := blk_frozen BK322.out 7
              go_wp2_with (first | ((with_reducible refine gate_callee (f := 14) rfl ?_); refine goesL_ (some 22) rfl rfl Try.func14 (by kernel_rfl) rfl #[.agg #[.int .i64 a0_0, .int .i64 a0_1, .int .i64 a0_2, .int .i64 a0_3, .int .i64 a0_4, .int .i64 a0_5, .int .i64 a0_6, .int .i64 a0_7]] rfl aA ?_; (with_reducible refine (backfillref11_Check.calls k a0_0 a0_1 a0_2 a0_3 a0_4 a0_5 a0_6 a0_7 t326 _ A16.out).mono ?_); rintro e w88 ⟨rfl, hb⟩; refine ⟨_, rfl, ?_⟩; have n0_ := Aside0.mk (blk_below (g := gb322) kA hb); have n1_ := Aside0.mk (blk_below (g := gb323) kA hb); have n2_ := Aside0.mk (blk_below (g := gb324) kA hb); have n3_ := Aside0.mk (below_step bA hb); clear BK322 BK323 BK324 HB; have BK322 := n0_; have BK323 := n1_; have BK324 := n2_; have HB := n3_; clear n0_ n1_ n2_ n3_; (try clear hb); have hnb89 := NB323_324.out; have hnc89 := NB324_323.out; have hcz90_0 : w88.cell? ⟨gb323, 0, none⟩ = some (.int .i64 a4_0) := (blk_cell BK323.out 0).trans rfl; have hcz90_1 : w88.cell? ⟨gb323, 1, none⟩ = some (.int .i64 a4_1) := (blk_cell BK323.out 1).trans rfl; have hcz90_2 : w88.cell? ⟨gb323, 2, none⟩ = some (.int .i64 a4_2) := (blk_cell BK323.out 2).trans rfl; have hcz90_3 : w88.cell? ⟨gb323, 3, none⟩ = some (.int .i64 a4_3) := (blk_cell BK323.out 3).trans rfl; have hcz90_4 : w88.cell? ⟨gb323, 4, none⟩ = some (.int .i64 a4_4) := (blk_cell BK323.out 4).trans rfl; have hcz90_5 : w88.cell? ⟨gb323, 5, none⟩ = some (.int .i64 a4_5) := (blk_cell BK323.out 5).trans rfl; have hcz90_6 : w88.cell? ⟨gb323, 6, none⟩ = some (.int .i64 a4_6) := (blk_cell BK323.out 6).trans rfl; have hcz90_7 : w88.cell? ⟨gb323, 7, none⟩ = some (.slice A4_7 l4_7.length c4_7) := (blk_cell BK323.out 7).trans rfl; have hfz90_0 := blk_frozen BK323.out 0; have hfz90_1 := blk_frozen BK323.out 1; have hfz90_2 := blk_frozen BK323.out 2; have hfz90_3 := blk_frozen BK323.out 3; have hfz90_4 := blk_frozen BK323.out 4; have hfz90_5 := blk_frozen BK323.out 5; have hfz90_6 := blk_frozen BK323.out 6; have hfz90_7 := blk_frozen BK323.out 7; have hcz91_0 : w88.cell? ⟨gb322, 0, none⟩ = some (.int .i64 a0_0) := (blk_cell BK322.out 0).trans rfl; have hcz91_1 : w88.cell? ⟨gb322, 1, none⟩ = some (.int .i64 a0_1) := (blk_cell BK322.out 1).trans rfl; have hcz91_2 : w88.cell? ⟨gb322, 2, none⟩ = some (.int .i64 a0_2) := (blk_cell BK322.out 2).trans rfl; have hcz91_3 : w88.cell? ⟨gb322, 3, none⟩ = some (.int .i64 a0_3) := (blk_cell BK322.out 3).trans rfl; have hcz91_4 : w88.cell? ⟨gb322, 4, none⟩ = some (.int .i64 a0_4) := (blk_cell BK322.out 4).trans rfl; have hcz91_5 : w88.cell? ⟨gb322, 5, none⟩ = some (.int .i64 a0_5) := (blk_cell BK322.out 5).trans rfl; have hcz91_6 : w88.cell? ⟨gb322, 6, none⟩ = some (.int .i64 a0_6) := (blk_cell BK322.out 6).trans rfl; have hcz91_7 : w88.cell? ⟨gb322, 7, none⟩ = some (.int .i64 a0_7) := (blk_cell BK322.out 7).trans rfl; have hfz91_0 := blk_frozen BK322.out 0; have hfz91_1 := blk_frozen BK322.out 1; have hfz91_2 := blk_frozen BK322.out 2; have hfz91_3 := blk_frozen BK322.out 3; have hfz91_4 := blk_frozen BK322.out 4; have hfz91_5 := blk_frozen BK322.out 5; have hfz91_6 := blk_frozen BK322.out 6; have hfz91_7 := blk_frozen BK322.out 7; have hcz92_0 : w88.cell? ⟨gb324, 0, none⟩ = some (.int .i64 a5_0) := (blk_cell BK324.out 0).trans rfl; have hcz92_1 : w88.cell? ⟨gb324, 1, none⟩ = some (.int .i64 a5_1) := (blk_cell BK324.out 1).trans rfl; have hcz92_2 : w88.cell? ⟨gb324, 2, none⟩ = some (.int .i64 a5_2) := (blk_cell BK324.out 2).trans rfl; have hcz92_3 : w88.cell? ⟨gb324, 3, none⟩ = some (.int .i64 a5_3) := (blk_cell BK324.out 3).trans rfl; have hcz92_4 : w88.cell? ⟨gb324, 4, none⟩ = some (.int .i64 a5_4) := (blk_cell BK324.out 4).trans rfl; have hcz92_5 : w88.cell? ⟨gb324, 5, none⟩ = some (.int .i64 a5_5) := (blk_cell BK324.out 5).trans rfl; have hcz92_6 : w88.cell? ⟨gb324, 6, none⟩ = some (.int .i64 a5_6) := (blk_cell BK324.out 6).trans rfl; have hcz92_7 : w88.cell? ⟨gb324, 7, none⟩ = some (.slice A5_7 l5_7.length c5_7) := (blk_cell BK324.out 7).trans rfl; have hfz92_0 := blk_frozen BK324.out 0; have hfz92_1 := blk_frozen BK324.out 1; have hfz92_2 := blk_frozen BK324.out 2; have hfz92_3 := blk_frozen BK324.out 3; have hfz92_4 := blk_frozen BK324.out 4; have hfz92_5 := blk_frozen BK324.out 5; have hfz92_6 := blk_frozen BK324.out 6; have hfz92_7 := blk_frozen BK324.out 7))
              go_meet
              case rel => exact ⟨_, (decide (a7 > 9223372036854775808)), (by first | rfl | (simp; done) | (simp [*]; done)), H', ⟨by first | omega | exact Nat.le_refl _⟩, ⟨by exact kA⟩, ⟨by exact kA⟩, ⟨by exact kA⟩, ⟨bA⟩⟩
   ·rw [if_neg c17] at H
    have c17b0 : (t326 == 0) = false := beq_eq_false_iff_ne.mpr c17
    have c17b1 : (t326 != 0) = true := bne_iff_ne.mpr c17
    (first | rw [c17b0] | (simp only [i64_w, i32_w]; rw [c17b0]) | skip)
    have H' := Aside0.mk H
    clear H
    have hnb93 := NB322_323.out
    have hnc93 := NB323_322.out
    have hnb94 := NB322_324.out
    have hnc94 := NB324_322.out
    have hcz95_0 : w15.cell? ⟨gb322, 0, none⟩ = some (.int .i64 a0_0) := (blk_cell BK322.out 0).trans rfl
    have hcz95_1 : w15.cell? ⟨gb322, 1, none⟩ = some (.int .i64 a0_1) := (blk_cell BK322.out 1).trans rfl
    have hcz95_2 : w15.cell? ⟨gb322, 2, none⟩ = some (.int .i64 a0_2) := (blk_cell BK322.out 2).trans rfl
    have hcz95_3 : w15.cell? ⟨gb322, 3, none⟩ = some (.int .i64 a0_3) := (blk_cell BK322.out 3).trans rfl
    have hcz95_4 : w15.cell? ⟨gb322, 4, none⟩ = some (.int .i64 a0_4) := (blk_cell BK322.out 4).trans rfl
    have hcz95_5 : w15.cell? ⟨gb322, 5, none⟩ = some (.int .i64 a0_5) := (blk_cell BK322.out 5).trans rfl
    have hcz95_6 : w15.cell? ⟨gb322, 6, none⟩ = some (.int .i64 a0_6) := (blk_cell BK322.out 6).trans rfl
    have hcz95_7 : w15.cell? ⟨gb322, 7, none⟩ = some (.int .i64 a0_7) := (blk_cell BK322.out 7).trans rfl
    have hfz95_0 := blk_frozen BK322.out 0
    have hfz95_1 := blk_frozen BK322.out 1
    have hfz95_2 := blk_frozen BK322.out 2
    have hfz95_3 := blk_frozen BK322.out 3
    have hfz95_4 := blk_frozen BK322.out 4
    have hfz95_5 := blk_frozen BK322.out 5
    have hfz95_6 := blk_frozen BK322.out 6
    have hfz95_7 := blk_frozen BK322.out 7
    go_wp2_with (first | ((with_reducible refine gate_callee (f := 14) rfl ?_); refine goesL_ (some 22) rfl rfl Try.func14 (by kernel_rfl) rfl #[.agg #[.int .i64 a0_0, .int .i64 a0_1, .int .i64 a0_2, .int .i64 a0_3, .int .i64 a0_4, .int .i64 a0_5, .int .i64 a0_6, .int .i64 a0_7]] rfl aA ?_; (with_reducible refine (backfillref11_Check.calls k a0_0 a0_1 a0_2 a0_3 a0_4 a0_5 a0_6 a0_7 t326 _ A16.out).mono ?_); rintro e w96 ⟨rfl, hb⟩; refine ⟨_, rfl, ?_⟩; have n0_ := Aside0.mk (blk_below (g := gb322) kA hb); have n1_ := Aside0.mk (blk_below (g := gb323) kA hb); have n2_ := Aside0.mk (blk_below (g := gb324) kA hb); have n3_ := Aside0.mk (below_step bA hb); clear BK322 BK323 BK324 HB; have BK322 := n0_; have BK323 := n1_; have BK324 := n2_; have HB := n3_; clear n0_ n1_ n2_ n3_; (try clear hb)))
    go_meet
    case rel => exact ⟨_, (true), (by first | rfl | (simp; done) | (simp [*]; done)), H', ⟨by first | omega | exact Nat.le_refl _⟩, ⟨by exact kA⟩, ⟨by exact kA⟩, ⟨by exact kA⟩, ⟨bA⟩⟩
  case rest =>
   clear HC11
   try clear c1
   try clear c2
   try clear p2
   try clear c3
   try clear c4
   try clear c5
   try clear c6
   try clear c7
   try clear c8
   try clear c9
   try clear c10
   try clear c14
   try clear c17
   try clear c17b0
   try clear c17b1
   try clear c18
   try clear c18b0
   try clear c19
   try clear c20
   try clear c23
   try clear c23b0
   try clear c24
   try clear c25
   try clear c28
   try clear c28b0
   try clear c29
   try clear c30
   try clear c33
   try clear c33b0
   try clear c34
   try clear c35
   try clear c38
   try clear c38b0
   try clear c39
   try clear c40
   try clear c43
   try clear c43b0
   try clear c44
   try clear c45
   try clear c48
   try clear c50
   try clear c50b0
   try clear c51
   try clear c52
   try clear c55
   try clear c58
   try clear c58b0
   try clear c59
   try clear c60
   try clear c63
   try clear c67
   try clear c67b0
   try clear c68
   try clear c69
   try clear c72
   try clear c76
   try clear c76b0
   try clear c77
   try clear c78
   try clear c81
   try clear c85
   try clear c86
   try clear c89
   try clear c93
   try clear c94
   try clear hcz21_0
   try clear hcz21_1
   try clear hcz21_2
   try clear hcz21_3
   try clear hcz21_4
   try clear hcz21_5
   try clear hcz21_6
   try clear hcz21_7
   try clear hcz26_0
   try clear hcz26_1
   try clear hcz26_2
   try clear hcz26_3
   try clear hcz26_4
   try clear hcz26_5
   try clear hcz26_6
   try clear hcz26_7
   try clear hcz31_0
   try clear hcz31_1
   try clear hcz31_2
   try clear hcz31_3
   try clear hcz31_4
   try clear hcz31_5
   try clear hcz31_6
   try clear hcz31_7
   try clear hcz36_0
   try clear hcz36_1
   try clear hcz36_2
   try clear hcz36_3
   try clear hcz36_4
   try clear hcz36_5
   try clear hcz36_6
   try clear hcz36_7
   try clear hcz41_0
   try clear hcz41_1
   try clear hcz41_2
   try clear hcz41_3
   try clear hcz41_4
   try clear hcz41_5
   try clear hcz41_6
   try clear hcz41_7
   try clear hcz46_0
   try clear hcz46_1
   try clear hcz46_2
   try clear hcz46_3
   try clear hcz46_4
   try clear hcz46_5
   try clear hcz46_6
   try clear hcz46_7
   try clear hcz49_0
   try clear hcz49_1
   try clear hcz49_2
   try clear hcz49_3
   try clear hcz49_4
   try clear hcz49_5
   try clear hcz49_6
   try clear hcz49_7
   try clear hcz53_0
   try clear hcz53_1
   try clear hcz53_2
   try clear hcz53_3
   try clear hcz53_4
   try clear hcz53_5
   try clear hcz53_6
   try clear hcz53_7
   try clear hcz56_0
   try clear hcz56_1
   try clear hcz56_2
   try clear hcz56_3
   try clear hcz56_4
   try clear hcz56_5
   try clear hcz56_6
   try clear hcz56_7
   try clear hcz57_0
   try clear hcz57_1
   try clear hcz57_2
   try clear hcz57_3
   try clear hcz57_4
   try clear hcz57_5
   try clear hcz57_6
   try clear hcz57_7
   try clear hcz61_0
   try clear hcz61_1
   try clear hcz61_2
   try clear hcz61_3
   try clear hcz61_4
   try clear hcz61_5
   try clear hcz61_6
   try clear hcz61_7
   try clear hcz64_0
   try clear hcz64_1
   try clear hcz64_2
   try clear hcz64_3
   try clear hcz64_4
   try clear hcz64_5
   try clear hcz64_6
   try clear hcz64_7
   try clear hcz65_0
   try clear hcz65_1
   try clear hcz65_2
   try clear hcz65_3
   try clear hcz65_4
   try clear hcz65_5
   try clear hcz65_6
   try clear hcz65_7
   try clear hcz66_0
   try clear hcz66_1
   try clear hcz66_2
   try clear hcz66_3
   try clear hcz66_4
   try clear hcz66_5
   try clear hcz66_6
   try clear hcz66_7
   try clear hcz70_0
   try clear hcz70_1
   try clear hcz70_2
   try clear hcz70_3
   try clear hcz70_4
   try clear hcz70_5
   try clear hcz70_6
   try clear hcz70_7
   try clear hcz73_0
   try clear hcz73_1
   try clear hcz73_2
   try clear hcz73_3
   try clear hcz73_4
   try clear hcz73_5
   try clear hcz73_6
   try clear hcz73_7
   try clear hcz74_0
   try clear hcz74_1
   try clear hcz74_2
   try clear hcz74_3
   try clear hcz74_4
   try clear hcz74_5
   try clear hcz74_6
   try clear hcz74_7
   try clear hcz75_0
   try clear hcz75_1
   try clear hcz75_2
   try clear hcz75_3
   try clear hcz75_4
   try clear hcz75_5
   try clear hcz75_6
   try clear hcz75_7
   try clear hcz79_0
   try clear hcz79_1
   try clear hcz79_2
   try clear hcz79_3
   try clear hcz79_4
   try clear hcz79_5
   try clear hcz79_6
   try clear hcz79_7
   try clear hcz82_0
   try clear hcz82_1
   try clear hcz82_2
   try clear hcz82_3
   try clear hcz82_4
   try clear hcz82_5
   try clear hcz82_6
   try clear hcz82_7
   try clear hcz83_0
   try clear hcz83_1
   try clear hcz83_2
   try clear hcz83_3
   try clear hcz83_4
   try clear hcz83_5
   try clear hcz83_6
   try clear hcz83_7
   try clear hcz84_0
   try clear hcz84_1
   try clear hcz84_2
   try clear hcz84_3
   try clear hcz84_4
   try clear hcz84_5
   try clear hcz84_6
   try clear hcz84_7
   try clear hcz87_0
   try clear hcz87_1
   try clear hcz87_2
   try clear hcz87_3
   try clear hcz87_4
   try clear hcz87_5
   try clear hcz87_6
   try clear hcz87_7
   try clear hcz90_0
   try clear hcz90_1
   try clear hcz90_2
   try clear hcz90_3
   try clear hcz90_4
   try clear hcz90_5
   try clear hcz90_6
   try clear hcz90_7
   try clear hcz91_0
   try clear hcz91_1
   try clear hcz91_2
   try clear hcz91_3
   try clear hcz91_4
   try clear hcz91_5
   try clear hcz91_6
   try clear hcz91_7
   try clear hcz92_0
   try clear hcz92_1
   try clear hcz92_2
   try clear hcz92_3
   try clear hcz92_4
   try clear hcz92_5
   try clear hcz92_6
   try clear hcz92_7
   try clear hcz95_0
   try clear hcz95_1
   try clear hcz95_2
   try clear hcz95_3
   try clear hcz95_4
   try clear hcz95_5
   try clear hcz95_6
   try clear hcz95_7
   try clear hfz21_0
   try clear hfz21_1
   try clear hfz21_2
   try clear hfz21_3
   try clear hfz21_4
   try clear hfz21_5
   try clear hfz21_6
   try clear hfz21_7
   try clear hfz26_0
   try clear hfz26_1
   try clear hfz26_2
   try clear hfz26_3
   try clear hfz26_4
   try clear hfz26_5
   try clear hfz26_6
   try clear hfz26_7
   try clear hfz31_0
   try clear hfz31_1
   try clear hfz31_2
   try clear hfz31_3
   try clear hfz31_4
   try clear hfz31_5
   try clear hfz31_6
   try clear hfz31_7
   try clear hfz36_0
   try clear hfz36_1
   try clear hfz36_2
   try clear hfz36_3
   try clear hfz36_4
   try clear hfz36_5
   try clear hfz36_6
   try clear hfz36_7
   try clear hfz41_0
   try clear hfz41_1
   try clear hfz41_2
   try clear hfz41_3
   try clear hfz41_4
   try clear hfz41_5
   try clear hfz41_6
   try clear hfz41_7
   try clear hfz46_0
   try clear hfz46_1
   try clear hfz46_2
   try clear hfz46_3
   try clear hfz46_4
   try clear hfz46_5
   try clear hfz46_6
   try clear hfz46_7
   try clear hfz49_0
   try clear hfz49_1
   try clear hfz49_2
   try clear hfz49_3
   try clear hfz49_4
   try clear hfz49_5
   try clear hfz49_6
   try clear hfz49_7
   try clear hfz53_0
   try clear hfz53_1
   try clear hfz53_2
   try clear hfz53_3
   try clear hfz53_4
   try clear hfz53_5
   try clear hfz53_6
   try clear hfz53_7
   try clear hfz56_0
   try clear hfz56_1
   try clear hfz56_2
   try clear hfz56_3
   try clear hfz56_4
   try clear hfz56_5
   try clear hfz56_6
   try clear hfz56_7
   try clear hfz57_0
   try clear hfz57_1
   try clear hfz57_2
   try clear hfz57_3
   try clear hfz57_4
   try clear hfz57_5
   try clear hfz57_6
   try clear hfz57_7
   try clear hfz61_0
   try clear hfz61_1
   try clear hfz61_2
   try clear hfz61_3
   try clear hfz61_4
   try clear hfz61_5
   try clear hfz61_6
   try clear hfz61_7
   try clear hfz64_0
   try clear hfz64_1
   try clear hfz64_2
   try clear hfz64_3
   try clear hfz64_4
   try clear hfz64_5
   try clear hfz64_6
   try clear hfz64_7
   try clear hfz65_0
   try clear hfz65_1
   try clear hfz65_2
   try clear hfz65_3
   try clear hfz65_4
   try clear hfz65_5
   try clear hfz65_6
   try clear hfz65_7
   try clear hfz66_0
   try clear hfz66_1
   try clear hfz66_2
   try clear hfz66_3
   try clear hfz66_4
   try clear hfz66_5
   try clear hfz66_6
   try clear hfz66_7
   try clear hfz70_0
   try clear hfz70_1
   try clear hfz70_2
   try clear hfz70_3
   try clear hfz70_4
   try clear hfz70_5
   try clear hfz70_6
   try clear hfz70_7
   try clear hfz73_0
   try clear hfz73_1
   try clear hfz73_2
   try clear hfz73_3
   try clear hfz73_4
   try clear hfz73_5
   try clear hfz73_6
   try clear hfz73_7
   try clear hfz74_0
   try clear hfz74_1
   try clear hfz74_2
   try clear hfz74_3
   try clear hfz74_4
   try clear hfz74_5
   try clear hfz74_6
   try clear hfz74_7
   try clear hfz75_0
   try clear hfz75_1
   try clear hfz75_2
   try clear hfz75_3
   try clear hfz75_4
   try clear hfz75_5
   try clear hfz75_6
   try clear hfz75_7
   try clear hfz79_0
   try clear hfz79_1
   try clear hfz79_2
   try clear hfz79_3
   try clear hfz79_4
   try clear hfz79_5
   try clear hfz79_6
   try clear hfz79_7
   try clear hfz82_0
   try clear hfz82_1
   try clear hfz82_2
   try clear hfz82_3
   try clear hfz82_4
   try clear hfz82_5
   try clear hfz82_6
   try clear hfz82_7
   try clear hfz83_0
   try clear hfz83_1
   try clear hfz83_2
   try clear hfz83_3
   try clear hfz83_4
   try clear hfz83_5
   try clear hfz83_6
   try clear hfz83_7
   try clear hfz84_0
   try clear hfz84_1
   try clear hfz84_2
   try clear hfz84_3
   try clear hfz84_4
   try clear hfz84_5
   try clear hfz84_6
   try clear hfz84_7
   try clear hfz87_0
   try clear hfz87_1
   try clear hfz87_2
   try clear hfz87_3
   try clear hfz87_4
   try clear hfz87_5
   try clear hfz87_6
   try clear hfz87_7
   try clear hfz90_0
   try clear hfz90_1
   try clear hfz90_2
   try clear hfz90_3
   try clear hfz90_4
   try clear hfz90_5
   try clear hfz90_6
   try clear hfz90_7
   try clear hfz91_0
   try clear hfz91_1
   try clear hfz91_2
   try clear hfz91_3
   try clear hfz91_4
   try clear hfz91_5
   try clear hfz91_6
   try clear hfz91_7
   try clear hfz92_0
   try clear hfz92_1
   try clear hfz92_2
   try clear hfz92_3
   try clear hfz92_4
   try clear hfz92_5
   try clear hfz92_6
   try clear hfz92_7
   try clear hfz95_0
   try clear hfz95_1
   try clear hfz95_2
   try clear hfz95_3
   try clear hfz95_4
   try clear hfz95_5
   try clear hfz95_6
   try clear hfz95_7
   obtain ⟨kq, x78_10, rfl, HA, HJ10, BK322, BK323, BK324, HB⟩ := hcut
   cases kq with
   | zero => exact absurd HA.out (by simp [backfilllaw14_PrioAge.j0])
   | succ kj10 =>
    have H := HA.out
    clear HA
    simp only [backfilllaw14_PrioAge.j0] at H
    by_cases c97 : x78_10 = true
    ·subst c97
     have H1 : (some true) = some r := by rw [if_pos rfl] at H; exact H
     clear H
     have H := H1
     clear H1
     obtain rfl := Option.some.inj H
     go_wp2
     go_ret
     exact ⟨by first | rfl | (simp [errW_none, errW_some] <;> rfl) | (simp [*, errW_none, errW_some] <;> rfl), bA⟩
    ·replace c97 := Bool.eq_false_iff.mpr c97
     subst c97
     have H1 : ((prio_Priority.f kj10 a0_0 a0_1 a0_2 a0_3 a0_4 a0_5 a0_6 a0_7 a1 a4_0 a4_1 a4_2 a2 a4_4 a4_5 a4_6 l4_7 a6).bind fun t327 => ((prio_Priority.f kj10 a0_0 a0_1 a0_2 a0_3 a0_4 a0_5 a0_6 a0_7 a1 a5_0 a5_1 a5_2 a3 a5_4 a5_5 a5_6 l5_7 a7).bind fun t328 => ((backfillref11_Lead.f kj10 a0_0 a0_1 a0_2 a0_3 a0_4 a0_5 a0_6 a0_7).bind fun t329 => (if (wrap64 (a3 - a2)) > t329 then (backfilllaw14_PrioAge.j1 kj10 a1 a6 a7 t327 (decide (t327 ≤ t328)) a0_0 a0_1 a0_2 a0_3 a0_4 a0_5 a0_6 a0_7 a4_0 a4_1 a4_2 a2 a4_4 a4_5 a4_6 l4_7) else (backfilllaw14_PrioAge.j1 kj10 a1 a6 a7 t327 false a0_0 a0_1 a0_2 a0_3 a0_4 a0_5 a0_6 a0_7 a4_0 a4_1 a4_2 a2 a4_4 a4_5 a4_6 l4_7))))) = some r := by rw [if_neg (show ¬ (false = true) by decide)] at H; exact H
     clear H
     have H := H1
     clear H1; replace H := Option.bind_eq_some_iff.mp H; obtain ⟨t327, A980, H⟩ := H; replace H : ((prio_Priority.f kj10 a0_0 a0_1 a0_2 a0_3 a0_4 a0_5 a0_6 a0_7 a1 a5_0 a5_1 a5_2 a3 a5_4 a5_5 a5_6 l5_7 a7).bind fun t328 => ((backfillref11_Lead.f kj10 a0_0 a0_1 a0_2 a0_3 a0_4 a0_5 a0_6 a0_7).bind fun t329 => (if (wrap64 (a3 - a2)) > t329 then (backfilllaw14_PrioAge.j1 kj10 a1 a6 a7 t327 (decide (t327 ≤ t328)) a0_0 a0_1 a0_2 a0_3 a0_4 a0_5 a0_6 a0_7 a4_0 a4_1 a4_2 a2 a4_4 a4_5 a4_6 l4_7) else (backfilllaw14_PrioAge.j1 kj10 a1 a6 a7 t327 false a0_0 a0_1 a0_2 a0_3 a0_4 a0_5 a0_6 a0_7 a4_0 a4_1 a4_2 a2 a4_4 a4_5 a4_6 l4_7)))) = some r := H; have A98 := Aside0.mk A980; clear A980; replace H := Option.bind_eq_some_iff.mp H; obtain ⟨t328, A990, H⟩ := H; replace H : ((backfillref11_Lead.f kj10 a0_0 a0_1 a0_2 a0_3 a0_4 a0_5 a0_6 a0_7).bind fun t329 => (if (wrap64 (a3 - a2)) > t329 then (backfilllaw14_PrioAge.j1 kj10 a1 a6 a7 t327 (decide (t327 ≤ t328)) a0_0 a0_1 a0_2 a0_3 a0_4 a0_5 a0_6 a0_7 a4_0 a4_1 a4_2 a2 a4_4 a4_5 a4_6 l4_7) else (backfilllaw14_PrioAge.j1 kj10 a1 a6 a7 t327 false a0_0 a0_1 a0_2 a0_3 a0_4 a0_5 a0_6 a0_7 a4_0 a4_1 a4_2 a2 a4_4 a4_5 a4_6 l4_7))) = some r := H; have A99 := Aside0.mk A990; clear A990
     have HC100 := Aside0.mk H
     clear H
     have hnb101 := NB323_322.out
     have hnc101 := NB322_323.out
     have hnb102 := NB323_324.out
     have hnc102 := NB324_323.out
     have hcz103_0 : wc.cell? ⟨gb323, 0, none⟩ = some (.int .i64 a4_0) := (blk_cell BK323.out 0).trans rfl
     have hcz103_1 : wc.cell? ⟨gb323, 1, none⟩ = some (.int .i64 a4_1) := (blk_cell BK323.out 1).trans rfl
     have hcz103_2 : wc.cell? ⟨gb323, 2, none⟩ = some (.int .i64 a4_2) := (blk_cell BK323.out 2).trans rfl
     have hcz103_3 : wc.cell? ⟨gb323, 3, none⟩ = some (.int .i64 a4_3) := (blk_cell BK323.out 3).trans rfl
     have hcz103_4 : wc.cell? ⟨gb323, 4, none⟩ = some (.int .i64 a4_4) := (blk_cell BK323.out 4).trans rfl
     have hcz103_5 : wc.cell? ⟨gb323, 5, none⟩ = some (.int .i64 a4_5) := (blk_cell BK323.out 5).trans rfl
     have hcz103_6 : wc.cell? ⟨gb323, 6, none⟩ = some (.int .i64 a4_6) := (blk_cell BK323.out 6).trans rfl
     have hcz103_7 : wc.cell? ⟨gb323, 7, none⟩ = some (.slice A4_7 l4_7.length c4_7) := (blk_cell BK323.out 7).trans rfl
     have hfz103_0 := blk_frozen BK323.out 0
     have hfz103_1 := blk_frozen BK323.out 1
     have hfz103_2 := blk_frozen BK323.out 2
     have hfz103_3 := blk_frozen BK323.out 3
     have hfz103_4 := blk_frozen BK323.out 4
     have hfz103_5 := blk_frozen BK323.out 5
     have hfz103_6 := blk_frozen BK323.out 6
     have hfz103_7 := blk_frozen BK323.out 7
     have hnb104 := NB324_322.out
     have hnc104 := NB322_324.out
     have hcz105_0 : wc.cell? ⟨gb324, 0, none⟩ = some (.int .i64 a5_0) := (blk_cell BK324.out 0).trans rfl
     have hcz105_1 : wc.cell? ⟨gb324, 1, none⟩ = some (.int .i64 a5_1) := (blk_cell BK324.out 1).trans rfl
     have hcz105_2 : wc.cell? ⟨gb324, 2, none⟩ = some (.int .i64 a5_2) := (blk_cell BK324.out 2).trans rfl
     have hcz105_3 : wc.cell? ⟨gb324, 3, none⟩ = some (.int .i64 a5_3) := (blk_cell BK324.out 3).trans rfl
     have hcz105_4 : wc.cell? ⟨gb324, 4, none⟩ = some (.int .i64 a5_4) := (blk_cell BK324.out 4).trans rfl
     have hcz105_5 : wc.cell? ⟨gb324, 5, none⟩ = some (.int .i64 a5_5) := (blk_cell BK324.out 5).trans rfl
     have hcz105_6 : wc.cell? ⟨gb324, 6, none⟩ = some (.int .i64 a5_6) := (blk_cell BK324.out 6).trans rfl
     have hcz105_7 : wc.cell? ⟨gb324, 7, none⟩ = some (.slice A5_7 l5_7.length c5_7) := (blk_cell BK324.out 7).trans rfl
     have hfz105_0 := blk_frozen BK324.out 0
     have hfz105_1 := blk_frozen BK324.out 1
     have hfz105_2 := blk_frozen BK324.out 2
     have hfz105_3 := blk_frozen BK324.out 3
     have hfz105_4 := blk_frozen BK324.out 4
     have hfz105_5 := blk_frozen BK324.out 5
     have hfz105_6 := blk_frozen BK324.out 6
     have hfz105_7 := blk_frozen BK324.out 7
     have hcz106_0 : wc.cell? ⟨gb322, 0, none⟩ = some (.int .i64 a0_0) := (blk_cell BK322.out 0).trans rfl
     have hcz106_1 : wc.cell? ⟨gb322, 1, none⟩ = some (.int .i64 a0_1) := (blk_cell BK322.out 1).trans rfl
     have hcz106_2 : wc.cell? ⟨gb322, 2, none⟩ = some (.int .i64 a0_2) := (blk_cell BK322.out 2).trans rfl
     have hcz106_3 : wc.cell? ⟨gb322, 3, none⟩ = some (.int .i64 a0_3) := (blk_cell BK322.out 3).trans rfl
     have hcz106_4 : wc.cell? ⟨gb322, 4, none⟩ = some (.int .i64 a0_4) := (blk_cell BK322.out 4).trans rfl
     have hcz106_5 : wc.cell? ⟨gb322, 5, none⟩ = some (.int .i64 a0_5) := (blk_cell BK322.out 5).trans rfl
     have hcz106_6 : wc.cell? ⟨gb322, 6, none⟩ = some (.int .i64 a0_6) := (blk_cell BK322.out 6).trans rfl
     have hcz106_7 : wc.cell? ⟨gb322, 7, none⟩ = some (.int .i64 a0_7) := (blk_cell BK322.out 7).trans rfl
     have hfz106_0 := blk_frozen BK322.out 0
     have hfz106_1 := blk_frozen BK322.out 1
     have hfz106_2 := blk_frozen BK322.out 2
     have hfz106_3 := blk_frozen BK322.out 3
     have hfz106_4 := blk_frozen BK322.out 4
     have hfz106_5 := blk_frozen BK322.out 5
     have hfz106_6 := blk_frozen BK322.out 6
     have hfz106_7 := blk_frozen BK322.out 7
     go_upto_region 9 with (first | ((with_reducible refine gate_callee (f := 12) rfl ?_); refine goesL_ (some 87) rfl rfl Try.func12 (by kernel_rfl) rfl #[.agg #[.int .i64 a0_0, .int .i64 a0_1, .int .i64 a0_2, .int .i64 a0_3, .int .i64 a0_4, .int .i64 a0_5, .int .i64 a0_6, .int .i64 a0_7], .int .i64 a1, .agg #[.int .i64 a4_0, .int .i64 a4_1, .int .i64 a4_2, .int .i64 a2, .int .i64 a4_4, .int .i64 a4_5, .int .i64 a4_6, .slice A4_7 l4_7.length c4_7], .int .u64 a6] rfl aA ?_; (with_reducible refine (prio_Priority.calls kj10 a0_0 a0_1 a0_2 a0_3 a0_4 a0_5 a0_6 a0_7 a1 a4_0 a4_1 a4_2 a2 a4_4 a4_5 a4_6 _ _ l4_7 a6 t327 _ ?side1 ?side2 A98.out).mono ?_); (case side1 => exact Kd.C_below HR4_7.out bA); (case side2 => exact HC4_7.out); rintro e w107 ⟨rfl, hb⟩; refine ⟨_, rfl, ?_⟩; have n0_ := Aside0.mk (blk_below (g := gb322) (o := .cells #[.int .i64 a0_0, .int .i64 a0_1, .int .i64 a0_2, .int .i64 a0_3, .int .i64 a0_4, .int .i64 a0_5, .int .i64 a0_6, .int .i64 a0_7] 31 (0, 0)) (by (with_reducible repeat (first | refine blk_drewN ?_ _ | refine blk_drew ?_ | refine blk_alloc ?_ _)); refine blk_far ?_ NB322_324.out _; (with_reducible repeat (first | refine blk_drewN ?_ _ | refine blk_drew ?_ | refine blk_alloc ?_ _)); refine blk_far ?_ NB322_323.out _; exact kA) hb); have n1_ := Aside0.mk (blk_below (g := gb323) (o := .cells #[.int .i64 a4_0, .int .i64 a4_1, .int .i64 a4_2, .int .i64 a2, .int .i64 a4_4, .int .i64 a4_5, .int .i64 a4_6, .slice A4_7 l4_7.length c4_7] 34 (0, 0)) (by (with_reducible repeat (first | refine blk_drewN ?_ _ | refine blk_drew ?_ | refine blk_alloc ?_ _)); refine blk_far ?_ NB323_324.out _; (with_reducible repeat (first | refine blk_drewN ?_ _ | refine blk_drew ?_ | refine blk_alloc ?_ _)); refine blk_put (cs := #[.int .i64 a4_0, .int .i64 a4_1, .int .i64 a4_2, .int .i64 a4_3, .int .i64 a4_4, .int .i64 a4_5, .int .i64 a4_6, .slice A4_7 l4_7.length c4_7]) ?_ 3 _ rfl; exact kA) hb); have n2_ := Aside0.mk (blk_below (g := gb324) (o := .cells #[.int .i64 a5_0, .int .i64 a5_1, .int .i64 a5_2, .int .i64 a3, .int .i64 a5_4, .int .i64 a5_5, .int .i64 a5_6, .slice A5_7 l5_7.length c5_7] 34 (0, 0)) (by (with_reducible repeat (first | refine blk_drewN ?_ _ | refine blk_drew ?_ | refine blk_alloc ?_ _)); refine blk_put (cs := #[.int .i64 a5_0, .int .i64 a5_1, .int .i64 a5_2, .int .i64 a5_3, .int .i64 a5_4, .int .i64 a5_5, .int .i64 a5_6, .slice A5_7 l5_7.length c5_7]) ?_ 3 _ rfl; (with_reducible repeat (first | refine blk_drewN ?_ _ | refine blk_drew ?_ | refine blk_alloc ?_ _)); refine blk_far ?_ NB324_323.out _; exact kA) hb); have n3_ := Aside0.mk (below_step bA hb); clear BK322 BK323 BK324 HB; have BK322 := n0_; have BK323 := n1_; have BK324 := n2_; have HB := n3_; clear n0_ n1_ n2_ n3_; (try clear hb); have hcz108_0 : w107.cell? ⟨gb322, 0, none⟩ = some (.int .i64 a0_0) := (blk_cell BK322.out 0).trans rfl; have hcz108_1 : w107.cell? ⟨gb322, 1, none⟩ = some (.int .i64 a0_1) := (blk_cell BK322.out 1).trans rfl; have hcz108_2 : w107.cell? ⟨gb322, 2, none⟩ = some (.int .i64 a0_2) := (blk_cell BK322.out 2).trans rfl; have hcz108_3 : w107.cell? ⟨gb322, 3, none⟩ = some (.int .i64 a0_3) := (blk_cell BK322.out 3).trans rfl; have hcz108_4 : w107.cell? ⟨gb322, 4, none⟩ = some (.int .i64 a0_4) := (blk_cell BK322.out 4).trans rfl; have hcz108_5 : w107.cell? ⟨gb322, 5, none⟩ = some (.int .i64 a0_5) := (blk_cell BK322.out 5).trans rfl; have hcz108_6 : w107.cell? ⟨gb322, 6, none⟩ = some (.int .i64 a0_6) := (blk_cell BK322.out 6).trans rfl; have hcz108_7 : w107.cell? ⟨gb322, 7, none⟩ = some (.int .i64 a0_7) := (blk_cell BK322.out 7).trans rfl; have hfz108_0 := blk_frozen BK322.out 0; have hfz108_1 := blk_frozen BK322.out 1; have hfz108_2 := blk_frozen BK322.out 2; have hfz108_3 := blk_frozen BK322.out 3; have hfz108_4 := blk_frozen BK322.out 4; have hfz108_5 := blk_frozen BK322.out 5; have hfz108_6 := blk_frozen BK322.out 6; have hfz108_7 := blk_frozen BK322.out 7; have hcz109_0 : w107.cell? ⟨gb324, 0, none⟩ = some (.int .i64 a5_0) := (blk_cell BK324.out 0).trans rfl; have hcz109_1 : w107.cell? ⟨gb324, 1, none⟩ = some (.int .i64 a5_1) := (blk_cell BK324.out 1).trans rfl; have hcz109_2 : w107.cell? ⟨gb324, 2, none⟩ = some (.int .i64 a5_2) := (blk_cell BK324.out 2).trans rfl; have hcz109_3 : w107.cell? ⟨gb324, 3, none⟩ = some (.int .i64 a3) := (blk_cell BK324.out 3).trans rfl; have hcz109_4 : w107.cell? ⟨gb324, 4, none⟩ = some (.int .i64 a5_4) := (blk_cell BK324.out 4).trans rfl; have hcz109_5 : w107.cell? ⟨gb324, 5, none⟩ = some (.int .i64 a5_5) := (blk_cell BK324.out 5).trans rfl; have hcz109_6 : w107.cell? ⟨gb324, 6, none⟩ = some (.int .i64 a5_6) := (blk_cell BK324.out 6).trans rfl; have hcz109_7 : w107.cell? ⟨gb324, 7, none⟩ = some (.slice A5_7 l5_7.length c5_7) := (blk_cell BK324.out 7).trans rfl; have hfz109_0 := blk_frozen BK324.out 0; have hfz109_1 := blk_frozen BK324.out 1; have hfz109_2 := blk_frozen BK324.out 2; have hfz109_3 := blk_frozen BK324.out 3; have hfz109_4 := blk_frozen BK324.out 4; have hfz109_5 := blk_frozen BK324.out 5; have hfz109_6 := blk_frozen BK324.out 6; have hfz109_7 := blk_frozen BK324.out 7) | ((with_reducible refine gate_callee (f := 12) rfl ?_); refine goesL_ (some 92) rfl rfl Try.func12 (by kernel_rfl) rfl #[.agg #[.int .i64 a0_0, .int .i64 a0_1, .int .i64 a0_2, .int .i64 a0_3, .int .i64 a0_4, .int .i64 a0_5, .int .i64 a0_6, .int .i64 a0_7], .int .i64 a1, .agg #[.int .i64 a5_0, .int .i64 a5_1, .int .i64 a5_2, .int .i64 a3, .int .i64 a5_4, .int .i64 a5_5, .int .i64 a5_6, .slice A5_7 l5_7.length c5_7], .int .u64 a7] rfl aA ?_; (with_reducible refine (prio_Priority.calls kj10 a0_0 a0_1 a0_2 a0_3 a0_4 a0_5 a0_6 a0_7 a1 a5_0 a5_1 a5_2 a3 a5_4 a5_5 a5_6 _ _ l5_7 a7 t328 _ ?side1 ?side2 A99.out).mono ?_); (case side1 => repeat (first | exact (Kd.C_below HR5_7.out HB.out) | (with_reducible refine Kd.C_alloc ?_ _) | (with_reducible refine Kd.C_drewN ?_ _) | (with_reducible refine Kd.C_drew ?_))); (case side2 => exact HC5_7.out); rintro e w110 ⟨rfl, hb⟩; refine ⟨_, rfl, ?_⟩; have n0_ := Aside0.mk (blk_below (g := gb322) kA hb); have n1_ := Aside0.mk (blk_below (g := gb323) kA hb); have n2_ := Aside0.mk (blk_below (g := gb324) kA hb); have n3_ := Aside0.mk (below_step bA hb); clear BK322 BK323 BK324 HB; have BK322 := n0_; have BK323 := n1_; have BK324 := n2_; have HB := n3_; clear n0_ n1_ n2_ n3_; (try clear hb)))
     (try simp only [Act.put, List.setIfInBounds_toArray, List.set_cons_zero, List.set_cons_succ])
     go_cut [103] (fun v103 wc => ∃ (kq : Nat) (x103_99 : Bool), v103 = .bool x103_99 ∧ Aside0 (backfilllaw14_PrioAge.j1 kq a1 a6 a7 t327 x103_99 a0_0 a0_1 a0_2 a0_3 a0_4 a0_5 a0_6 a0_7 a4_0 a4_1 a4_2 a2 a4_4 a4_5 a4_6 l4_7 = some r) ∧ Aside0 (kq ≤ kj10) ∧ Aside0 (wc.heap[gb322]? = some (.cells #[.int .i64 a0_0, .int .i64 a0_1, .int .i64 a0_2, .int .i64 a0_3, .int .i64 a0_4, .int .i64 a0_5, .int .i64 a0_6, .int .i64 a0_7] 31 (0, 0))) ∧ Aside0 (wc.heap[gb323]? = some (.cells #[.int .i64 a4_0, .int .i64 a4_1, .int .i64 a4_2, .int .i64 a2, .int .i64 a4_4, .int .i64 a4_5, .int .i64 a4_6, (.slice A4_7 l4_7.length c4_7)] 34 (0, 0))) ∧ Aside0 (wc.heap[gb324]? = some (.cells #[.int .i64 a5_0, .int .i64 a5_1, .int .i64 a5_2, .int .i64 a3, .int .i64 a5_4, .int .i64 a5_5, .int .i64 a5_6, (.slice A5_7 l5_7.length c5_7)] 34 (0, 0))) ∧ Aside0 (Below w.heap.size w wc))
     case first =>
      have H := HC100.out
      clear HC100; replace H := Option.bind_eq_some_iff.mp H; obtain ⟨t329, A1110, H⟩ := H; replace H : (if (wrap64 (a3 - a2)) > t329 then (backfilllaw14_PrioAge.j1 kj10 a1 a6 a7 t327 (decide (t327 ≤ t328)) a0_0 a0_1 a0_2 a0_3 a0_4 a0_5 a0_6 a0_7 a4_0 a4_1 a4_2 a2 a4_4 a4_5 a4_6 l4_7) else (backfilllaw14_PrioAge.j1 kj10 a1 a6 a7 t327 false a0_0 a0_1 a0_2 a0_3 a0_4 a0_5 a0_6 a0_7 a4_0 a4_1 a4_2 a2 a4_4 a4_5 a4_6 l4_7)) = some r := H; have A111 := Aside0.mk A1110; clear A1110
      by_cases c112 : (wrap64 (a3 - a2)) > t329
      ·rw [if_pos c112] at H
       have c112b0 : decide (t329 < (wrap64 (a3 - a2))) = true := decide_eq_true c112
       clear c112
       (first | rw [c112b0] | (simp only [i64_w, i32_w]; rw [c112b0]) | skip)
       have H' := Aside0.mk H
       clear H
       have hnb113 := NB322_323.out
       have hnc113 := NB323_322.out
       have hnb114 := NB322_324.out
       have hnc114 := NB324_322.out
       have hcz115_0 : w110.cell? ⟨gb322, 0, none⟩ = some (.int .i64 a0_0) := (blk_cell BK322.out 0).trans rfl
       have hcz115_1 : w110.cell? ⟨gb322, 1, none⟩ = some (.int .i64 a0_1) := (blk_cell BK322.out 1).trans rfl
       have hcz115_2 : w110.cell? ⟨gb322, 2, none⟩ = some (.int .i64 a0_2) := (blk_cell BK322.out 2).trans rfl
       have hcz115_3 : w110.cell? ⟨gb322, 3, none⟩ = some (.int .i64 a0_3) := (blk_cell BK322.out 3).trans rfl
       have hcz115_4 : w110.cell? ⟨gb322, 4, none⟩ = some (.int .i64 a0_4) := (blk_cell BK322.out 4).trans rfl
       have hcz115_5 : w110.cell? ⟨gb322, 5, none⟩ = some (.int .i64 a0_5) := (blk_cell BK322.out 5).trans rfl
       have hcz115_6 : w110.cell? ⟨gb322, 6, none⟩ = some (.int .i64 a0_6) := (blk_cell BK322.out 6).trans rfl
       have hcz115_7 : w110.cell? ⟨gb322, 7, none⟩ = some (.int .i64 a0_7) := (blk_cell BK322.out 7).trans rfl
       have hfz115_0 := blk_frozen BK322.out 0
       have hfz115_1 := blk_frozen BK322.out 1
       have hfz115_2 := blk_frozen BK322.out 2
       have hfz115_3 := blk_frozen BK322.out 3
       have hfz115_4 := blk_frozen BK322.out 4
       have hfz115_5 := blk_frozen BK322.out 5
       have hfz115_6 := blk_frozen BK322.out 6
       have hfz115_7 := blk_frozen BK322.out 7
       go_wp2_with (first | ((with_reducible refine gate_callee (f := 15) rfl ?_); refine goesL_ (some 97) rfl rfl Try.func15 (by kernel_rfl) rfl #[.agg #[.int .i64 a0_0, .int .i64 a0_1, .int .i64 a0_2, .int .i64 a0_3, .int .i64 a0_4, .int .i64 a0_5, .int .i64 a0_6, .int .i64 a0_7]] rfl aA ?_; (with_reducible refine (backfillref11_Lead.calls kj10 a0_0 a0_1 a0_2 a0_3 a0_4 a0_5 a0_6 a0_7 t329 _ A111.out).mono ?_); rintro e w116 ⟨rfl, hb⟩; refine ⟨_, rfl, ?_⟩; have n0_ := Aside0.mk (blk_below (g := gb322) kA hb); have n1_ := Aside0.mk (blk_below (g := gb323) kA hb); have n2_ := Aside0.mk (blk_below (g := gb324) kA hb); have n3_ := Aside0.mk (below_step bA hb); clear BK322 BK323 BK324 HB; have BK322 := n0_; have BK323 := n1_; have BK324 := n2_; have HB := n3_; clear n0_ n1_ n2_ n3_; (try clear hb)))
       go_meet
       case rel => exact ⟨_, (decide (t327 ≤ t328)), (by first | rfl | (simp; done) | (simp [*]; done)), H', ⟨by have := HJ10.out; first | omega | exact Nat.le_refl _⟩, ⟨by exact kA⟩, ⟨by exact kA⟩, ⟨by exact kA⟩, ⟨bA⟩⟩
      ·rw [if_neg c112] at H
       have c112b0 : decide (t329 < (wrap64 (a3 - a2))) = false := decide_eq_false c112
       clear c112
       (first | rw [c112b0] | (simp only [i64_w, i32_w]; rw [c112b0]) | skip)
       have H' := Aside0.mk H
       clear H
       have hnb117 := NB322_323.out
       have hnc117 := NB323_322.out
       have hnb118 := NB322_324.out
       have hnc118 := NB324_322.out
       have hcz119_0 : w110.cell? ⟨gb322, 0, none⟩ = some (.int .i64 a0_0) := (blk_cell BK322.out 0).trans rfl
       have hcz119_1 : w110.cell? ⟨gb322, 1, none⟩ = some (.int .i64 a0_1) := (blk_cell BK322.out 1).trans rfl
       have hcz119_2 : w110.cell? ⟨gb322, 2, none⟩ = some (.int .i64 a0_2) := (blk_cell BK322.out 2).trans rfl
       have hcz119_3 : w110.cell? ⟨gb322, 3, none⟩ = some (.int .i64 a0_3) := (blk_cell BK322.out 3).trans rfl
       have hcz119_4 : w110.cell? ⟨gb322, 4, none⟩ = some (.int .i64 a0_4) := (blk_cell BK322.out 4).trans rfl
       have hcz119_5 : w110.cell? ⟨gb322, 5, none⟩ = some (.int .i64 a0_5) := (blk_cell BK322.out 5).trans rfl
       have hcz119_6 : w110.cell? ⟨gb322, 6, none⟩ = some (.int .i64 a0_6) := (blk_cell BK322.out 6).trans rfl
       have hcz119_7 : w110.cell? ⟨gb322, 7, none⟩ = some (.int .i64 a0_7) := (blk_cell BK322.out 7).trans rfl
       have hfz119_0 := blk_frozen BK322.out 0
       have hfz119_1 := blk_frozen BK322.out 1
       have hfz119_2 := blk_frozen BK322.out 2
       have hfz119_3 := blk_frozen BK322.out 3
       have hfz119_4 := blk_frozen BK322.out 4
       have hfz119_5 := blk_frozen BK322.out 5
       have hfz119_6 := blk_frozen BK322.out 6
       have hfz119_7 := blk_frozen BK322.out 7
       go_wp2_with (first | ((with_reducible refine gate_callee (f := 15) rfl ?_); refine goesL_ (some 97) rfl rfl Try.func15 (by kernel_rfl) rfl #[.agg #[.int .i64 a0_0, .int .i64 a0_1, .int .i64 a0_2, .int .i64 a0_3, .int .i64 a0_4, .int .i64 a0_5, .int .i64 a0_6, .int .i64 a0_7]] rfl aA ?_; (with_reducible refine (backfillref11_Lead.calls kj10 a0_0 a0_1 a0_2 a0_3 a0_4 a0_5 a0_6 a0_7 t329 _ A111.out).mono ?_); rintro e w120 ⟨rfl, hb⟩; refine ⟨_, rfl, ?_⟩; have n0_ := Aside0.mk (blk_below (g := gb322) kA hb); have n1_ := Aside0.mk (blk_below (g := gb323) kA hb); have n2_ := Aside0.mk (blk_below (g := gb324) kA hb); have n3_ := Aside0.mk (below_step bA hb); clear BK322 BK323 BK324 HB; have BK322 := n0_; have BK323 := n1_; have BK324 := n2_; have HB := n3_; clear n0_ n1_ n2_ n3_; (try clear hb)))
       go_meet
       case rel => exact ⟨_, (false), (by first | rfl | (simp; done) | (simp [*]; done)), H', ⟨by have := HJ10.out; first | omega | exact Nat.le_refl _⟩, ⟨by exact kA⟩, ⟨by exact kA⟩, ⟨by exact kA⟩, ⟨bA⟩⟩
     case rest =>
      clear HC100
      try clear c1
      try clear p2
      try clear c4
      try clear c5
      try clear p6
      try clear c7
      try clear c8
      try clear c9
      try clear c10
      try clear c11
      try clear c12
      try clear c15
      try clear p64
      try clear c78
      try clear c81
      try clear c85
      try clear c86
      try clear c89
      try clear c93
      try clear c94
      try clear c97
      try clear c101
      try clear c102
      try clear c104
      try clear c112
      try clear c112b0
      try clear c113
      try clear c114
      try clear c117
      try clear c118
      try clear hcz103_0
      try clear hcz103_1
      try clear hcz103_2
      try clear hcz103_3
      try clear hcz103_4
      try clear hcz103_5
      try clear hcz103_6
      try clear hcz103_7
      try clear hcz105_0
      try clear hcz105_1
      try clear hcz105_2
      try clear hcz105_3
      try clear hcz105_4
      try clear hcz105_5
      try clear hcz105_6
      try clear hcz105_7
      try clear hcz106_0
      try clear hcz106_1
      try clear hcz106_2
      try clear hcz106_3
      try clear hcz106_4
      try clear hcz106_5
      try clear hcz106_6
      try clear hcz106_7
      try clear hcz108_0
      try clear hcz108_1
      try clear hcz108_2
      try clear hcz108_3
      try clear hcz108_4
      try clear hcz108_5
      try clear hcz108_6
      try clear hcz108_7
      try clear hcz109_0
      try clear hcz109_1
      try clear hcz109_2
      try clear hcz109_3
      try clear hcz109_4
      try clear hcz109_5
      try clear hcz109_6
      try clear hcz109_7
      try clear hcz115_0
      try clear hcz115_1
      try clear hcz115_2
      try clear hcz115_3
      try clear hcz115_4
      try clear hcz115_5
      try clear hcz115_6
      try clear hcz115_7
      try clear hcz119_0
      try clear hcz119_1
      try clear hcz119_2
      try clear hcz119_3
      try clear hcz119_4
      try clear hcz119_5
      try clear hcz119_6
      try clear hcz119_7
      try clear hcz21_0
      try clear hcz21_1
      try clear hcz21_2
      try clear hcz21_3
      try clear hcz21_4
      try clear hcz21_5
      try clear hcz21_6
      try clear hcz21_7
      try clear hcz26_0
      try clear hcz26_1
      try clear hcz26_2
      try clear hcz26_3
      try clear hcz26_4
      try clear hcz26_5
      try clear hcz26_6
      try clear hcz26_7
      try clear hcz31_0
      try clear hcz31_1
      try clear hcz31_2
      try clear hcz31_3
      try clear hcz31_4
      try clear hcz31_5
      try clear hcz31_6
      try clear hcz31_7
      try clear hcz36_0
      try clear hcz36_1
      try clear hcz36_2
      try clear hcz36_3
      try clear hcz36_4
      try clear hcz36_5
      try clear hcz36_6
      try clear hcz36_7
      try clear hcz41_0
      try clear hcz41_1
      try clear hcz41_2
      try clear hcz41_3
      try clear hcz41_4
      try clear hcz41_5
      try clear hcz41_6
      try clear hcz41_7
      try clear hcz46_0
      try clear hcz46_1
      try clear hcz46_2
      try clear hcz46_3
      try clear hcz46_4
      try clear hcz46_5
      try clear hcz46_6
      try clear hcz46_7
      try clear hcz49_0
      try clear hcz49_1
      try clear hcz49_2
      try clear hcz49_3
      try clear hcz49_4
      try clear hcz49_5
      try clear hcz49_6
      try clear hcz49_7
      try clear hcz53_0
      try clear hcz53_1
      try clear hcz53_2
      try clear hcz53_3
      try clear hcz53_4
      try clear hcz53_5
      try clear hcz53_6
      try clear hcz53_7
      try clear hcz56_0
      try clear hcz56_1
      try clear hcz56_2
      try clear hcz56_3
      try clear hcz56_4
      try clear hcz56_5
      try clear hcz56_6
      try clear hcz56_7
      try clear hcz57_0
      try clear hcz57_1
      try clear hcz57_2
      try clear hcz57_3
      try clear hcz57_4
      try clear hcz57_5
      try clear hcz57_6
      try clear hcz57_7
      try clear hcz61_0
      try clear hcz61_1
      try clear hcz61_2
      try clear hcz61_3
      try clear hcz61_4
      try clear hcz61_5
      try clear hcz61_6
      try clear hcz61_7
      try clear hcz64_0
      try clear hcz64_1
      try clear hcz64_2
      try clear hcz64_3
      try clear hcz64_4
      try clear hcz64_5
      try clear hcz64_6
      try clear hcz64_7
      try clear hcz65_0
      try clear hcz65_1
      try clear hcz65_2
      try clear hcz65_3
      try clear hcz65_4
      try clear hcz65_5
      try clear hcz65_6
      try clear hcz65_7
      try clear hcz66_0
      try clear hcz66_1
      try clear hcz66_2
      try clear hcz66_3
      try clear hcz66_4
      try clear hcz66_5
      try clear hcz66_6
      try clear hcz66_7
      try clear hcz70_0
      try clear hcz70_1
      try clear hcz70_2
      try clear hcz70_3
      try clear hcz70_4
      try clear hcz70_5
      try clear hcz70_6
      try clear hcz70_7
      try clear hcz73_0
      try clear hcz73_1
      try clear hcz73_2
      try clear hcz73_3
      try clear hcz73_4
      try clear hcz73_5
      try clear hcz73_6
      try clear hcz73_7
      try clear hcz74_0
      try clear hcz74_1
      try clear hcz74_2
      try clear hcz74_3
      try clear hcz74_4
      try clear hcz74_5
      try clear hcz74_6
      try clear hcz74_7
      try clear hcz75_0
      try clear hcz75_1
      try clear hcz75_2
      try clear hcz75_3
      try clear hcz75_4
      try clear hcz75_5
      try clear hcz75_6
      try clear hcz75_7
      try clear hcz79_0
      try clear hcz79_1
      try clear hcz79_2
      try clear hcz79_3
      try clear hcz79_4
      try clear hcz79_5
      try clear hcz79_6
      try clear hcz79_7
      try clear hcz82_0
      try clear hcz82_1
      try clear hcz82_2
      try clear hcz82_3
      try clear hcz82_4
      try clear hcz82_5
      try clear hcz82_6
      try clear hcz82_7
      try clear hcz83_0
      try clear hcz83_1
      try clear hcz83_2
      try clear hcz83_3
      try clear hcz83_4
      try clear hcz83_5
      try clear hcz83_6
      try clear hcz83_7
      try clear hcz84_0
      try clear hcz84_1
      try clear hcz84_2
      try clear hcz84_3
      try clear hcz84_4
      try clear hcz84_5
      try clear hcz84_6
      try clear hcz84_7
      try clear hcz87_0
      try clear hcz87_1
      try clear hcz87_2
      try clear hcz87_3
      try clear hcz87_4
      try clear hcz87_5
      try clear hcz87_6
      try clear hcz87_7
      try clear hcz90_0
      try clear hcz90_1
      try clear hcz90_2
      try clear hcz90_3
      try clear hcz90_4
      try clear hcz90_5
      try clear hcz90_6
      try clear hcz90_7
      try clear hcz91_0
      try clear hcz91_1
      try clear hcz91_2
      try clear hcz91_3
      try clear hcz91_4
      try clear hcz91_5
      try clear hcz91_6
      try clear hcz91_7
      try clear hcz92_0
      try clear hcz92_1
      try clear hcz92_2
      try clear hcz92_3
      try clear hcz92_4
      try clear hcz92_5
      try clear hcz92_6
      try clear hcz92_7
      try clear hcz95_0
      try clear hcz95_1
      try clear hcz95_2
      try clear hcz95_3
      try clear hcz95_4
      try clear hcz95_5
      try clear hcz95_6
      try clear hcz95_7
      try clear hfz103_0
      try clear hfz103_1
      try clear hfz103_2
      try clear hfz103_3
      try clear hfz103_4
      try clear hfz103_5
      try clear hfz103_6
      try clear hfz103_7
      try clear hfz105_0
      try clear hfz105_1
      try clear hfz105_2
      try clear hfz105_3
      try clear hfz105_4
      try clear hfz105_5
      try clear hfz105_6
      try clear hfz105_7
      try clear hfz106_0
      try clear hfz106_1
      try clear hfz106_2
      try clear hfz106_3
      try clear hfz106_4
      try clear hfz106_5
      try clear hfz106_6
      try clear hfz106_7
      try clear hfz108_0
      try clear hfz108_1
      try clear hfz108_2
      try clear hfz108_3
      try clear hfz108_4
      try clear hfz108_5
      try clear hfz108_6
      try clear hfz108_7
      try clear hfz109_0
      try clear hfz109_1
      try clear hfz109_2
      try clear hfz109_3
      try clear hfz109_4
      try clear hfz109_5
      try clear hfz109_6
      try clear hfz109_7
      try clear hfz115_0
      try clear hfz115_1
      try clear hfz115_2
      try clear hfz115_3
      try clear hfz115_4
      try clear hfz115_5
      try clear hfz115_6
      try clear hfz115_7
      try clear hfz119_0
      try clear hfz119_1
      try clear hfz119_2
      try clear hfz119_3
      try clear hfz119_4
      try clear hfz119_5
      try clear hfz119_6
      try clear hfz119_7
      try clear hfz21_0
      try clear hfz21_1
      try clear hfz21_2
      try clear hfz21_3
      try clear hfz21_4
      try clear hfz21_5
      try clear hfz21_6
      try clear hfz21_7
      try clear hfz26_0
      try clear hfz26_1
      try clear hfz26_2
      try clear hfz26_3
      try clear hfz26_4
      try clear hfz26_5
      try clear hfz26_6
      try clear hfz26_7
      try clear hfz31_0
      try clear hfz31_1
      try clear hfz31_2
      try clear hfz31_3
      try clear hfz31_4
      try clear hfz31_5
      try clear hfz31_6
      try clear hfz31_7
      try clear hfz36_0
      try clear hfz36_1
      try clear hfz36_2
      try clear hfz36_3
      try clear hfz36_4
      try clear hfz36_5
      try clear hfz36_6
      try clear hfz36_7
      try clear hfz41_0
      try clear hfz41_1
      try clear hfz41_2
      try clear hfz41_3
      try clear hfz41_4
      try clear hfz41_5
      try clear hfz41_6
      try clear hfz41_7
      try clear hfz46_0
      try clear hfz46_1
      try clear hfz46_2
      try clear hfz46_3
      try clear hfz46_4
      try clear hfz46_5
      try clear hfz46_6
      try clear hfz46_7
      try clear hfz49_0
      try clear hfz49_1
      try clear hfz49_2
      try clear hfz49_3
      try clear hfz49_4
      try clear hfz49_5
      try clear hfz49_6
      try clear hfz49_7
      try clear hfz53_0
      try clear hfz53_1
      try clear hfz53_2
      try clear hfz53_3
      try clear hfz53_4
      try clear hfz53_5
      try clear hfz53_6
      try clear hfz53_7
      try clear hfz56_0
      try clear hfz56_1
      try clear hfz56_2
      try clear hfz56_3
      try clear hfz56_4
      try clear hfz56_5
      try clear hfz56_6
      try clear hfz56_7
      try clear hfz57_0
      try clear hfz57_1
      try clear hfz57_2
      try clear hfz57_3
      try clear hfz57_4
      try clear hfz57_5
      try clear hfz57_6
      try clear hfz57_7
      try clear hfz61_0
      try clear hfz61_1
      try clear hfz61_2
      try clear hfz61_3
      try clear hfz61_4
      try clear hfz61_5
      try clear hfz61_6
      try clear hfz61_7
      try clear hfz64_0
      try clear hfz64_1
      try clear hfz64_2
      try clear hfz64_3
      try clear hfz64_4
      try clear hfz64_5
      try clear hfz64_6
      try clear hfz64_7
      try clear hfz65_0
      try clear hfz65_1
      try clear hfz65_2
      try clear hfz65_3
      try clear hfz65_4
      try clear hfz65_5
      try clear hfz65_6
      try clear hfz65_7
      try clear hfz66_0
      try clear hfz66_1
      try clear hfz66_2
      try clear hfz66_3
      try clear hfz66_4
      try clear hfz66_5
      try clear hfz66_6
      try clear hfz66_7
      try clear hfz70_0
      try clear hfz70_1
      try clear hfz70_2
      try clear hfz70_3
      try clear hfz70_4
      try clear hfz70_5
      try clear hfz70_6
      try clear hfz70_7
      try clear hfz73_0
      try clear hfz73_1
      try clear hfz73_2
      try clear hfz73_3
      try clear hfz73_4
      try clear hfz73_5
      try clear hfz73_6
      try clear hfz73_7
      try clear hfz74_0
      try clear hfz74_1
      try clear hfz74_2
      try clear hfz74_3
      try clear hfz74_4
      try clear hfz74_5
      try clear hfz74_6
      try clear hfz74_7
      try clear hfz75_0
      try clear hfz75_1
      try clear hfz75_2
      try clear hfz75_3
      try clear hfz75_4
      try clear hfz75_5
      try clear hfz75_6
      try clear hfz75_7
      try clear hfz79_0
      try clear hfz79_1
      try clear hfz79_2
      try clear hfz79_3
      try clear hfz79_4
      try clear hfz79_5
      try clear hfz79_6
      try clear hfz79_7
      try clear hfz82_0
      try clear hfz82_1
      try clear hfz82_2
      try clear hfz82_3
      try clear hfz82_4
      try clear hfz82_5
      try clear hfz82_6
      try clear hfz82_7
      try clear hfz83_0
      try clear hfz83_1
      try clear hfz83_2
      try clear hfz83_3
      try clear hfz83_4
      try clear hfz83_5
      try clear hfz83_6
      try clear hfz83_7
      try clear hfz84_0
      try clear hfz84_1
      try clear hfz84_2
      try clear hfz84_3
      try clear hfz84_4
      try clear hfz84_5
      try clear hfz84_6
      try clear hfz84_7
      try clear hfz87_0
      try clear hfz87_1
      try clear hfz87_2
      try clear hfz87_3
      try clear hfz87_4
      try clear hfz87_5
      try clear hfz87_6
      try clear hfz87_7
      try clear hfz90_0
      try clear hfz90_1
      try clear hfz90_2
      try clear hfz90_3
      try clear hfz90_4
      try clear hfz90_5
      try clear hfz90_6
      try clear hfz90_7
      try clear hfz91_0
      try clear hfz91_1
      try clear hfz91_2
      try clear hfz91_3
      try clear hfz91_4
      try clear hfz91_5
      try clear hfz91_6
      try clear hfz91_7
      try clear hfz92_0
      try clear hfz92_1
      try clear hfz92_2
      try clear hfz92_3
      try clear hfz92_4
      try clear hfz92_5
      try clear hfz92_6
      try clear hfz92_7
      try clear hfz95_0
      try clear hfz95_1
      try clear hfz95_2
      try clear hfz95_3
      try clear hfz95_4
      try clear hfz95_5
      try clear hfz95_6
      try clear hfz95_7
      obtain ⟨kq, x103_99, rfl, HA, HJ99, BK322, BK323, BK324, HB⟩ := hcut
      cases kq with
      | zero => exact absurd HA.out (by simp [backfilllaw14_PrioAge.j1])
      | succ kj99 =>
       have H := HA.out
       clear HA
       simp only [backfilllaw14_PrioAge.j1] at H
       by_cases c121 : x103_99 = true
       ·subst c121
        have H1 : (none) = some r := by rw [if_pos rfl] at H; exact H
        clear H
        have H := H1
        clear H1
        exact absurd H (by simp)
       ·replace c121 := Bool.eq_false_iff.mpr c121
        subst c121
        have H1 : ((prio_Priority.f kj99 a0_0 a0_1 a0_2 a0_3 a0_4 a0_5 a0_6 a0_7 a1 a4_0 a4_1 a4_2 a2 a4_4 a4_5 a4_6 l4_7 a7).bind fun t330 => (if t330 ≥ t327 then (if a1 = 1099511627776 then (some true) else ((prio_Priority.f kj99 a0_0 a0_1 a0_2 a0_3 a0_4 a0_5 a0_6 a0_7 (wrap64 (a1 + 1)) a4_0 a4_1 a4_2 a2 a4_4 a4_5 a4_6 l4_7 a6).bind fun t331 => (some (decide (t331 > t327))))) else (none))) = some r := by rw [if_neg (show ¬ (false = true) by decide)] at H; exact H
        clear H
        have H := H1
        clear H1; replace H := Option.bind_eq_some_iff.mp H; obtain ⟨t330, A1220, H⟩ := H; replace H : (if t330 ≥ t327 then (if a1 = 1099511627776 then (some true) else ((prio_Priority.f kj99 a0_0 a0_1 a0_2 a0_3 a0_4 a0_5 a0_6 a0_7 (wrap64 (a1 + 1)) a4_0 a4_1 a4_2 a2 a4_4 a4_5 a4_6 l4_7 a6).bind fun t331 => (some (decide (t331 > t327))))) else (none)) = some r := H; have A122 := Aside0.mk A1220; clear A1220
        by_cases c123 : t330 ≥ t327
        ·rw [if_pos c123] at H
         have c123b0 : decide (t327 ≤ t330) = true := decide_eq_true c123
         clear c123
         by_cases c124 : a1 = 1099511627776
         ·rw [if_pos c124] at H
          have c124b0 : (a1 == 1099511627776) = true := beq_iff_eq.mpr c124
          have c124b1 : (a1 != 1099511627776) = false := bne_eq_false_iff_eq.mpr c124
          clear c124
          obtain rfl := Option.some.inj H
          have hnb125 := NB322_323.out
          have hnc125 := NB323_322.out
          have hnb126 := NB322_324.out
          have hnc126 := NB324_322.out
          have hcz127_0 : wc.cell? ⟨gb322, 0, none⟩ = some (.int .i64 a0_0) := (blk_cell BK322.out 0).trans rfl
          have hcz127_1 : wc.cell? ⟨gb322, 1, none⟩ = some (.int .i64 a0_1) := (blk_cell BK322.out 1).trans rfl
          have hcz127_2 : wc.cell? ⟨gb322, 2, none⟩ = some (.int .i64 a0_2) := (blk_cell BK322.out 2).trans rfl
          have hcz127_3 : wc.cell? ⟨gb322, 3, none⟩ = some (.int .i64 a0_3) := (blk_cell BK322.out 3).trans rfl
          have hcz127_4 : wc.cell? ⟨gb322, 4, none⟩ = some (.int .i64 a0_4) := (blk_cell BK322.out 4).trans rfl
          have hcz127_5 : wc.cell? ⟨gb322, 5, none⟩ = some (.int .i64 a0_5) := (blk_cell BK322.out 5).trans rfl
          have hcz127_6 : wc.cell? ⟨gb322, 6, none⟩ = some (.int .i64 a0_6) := (blk_cell BK322.out 6).trans rfl
          have hcz127_7 : wc.cell? ⟨gb322, 7, none⟩ = some (.int .i64 a0_7) := (blk_cell BK322.out 7).trans rfl
          have hfz127_0 := blk_frozen BK322.out 0
          have hfz127_1 := blk_frozen BK322.out 1
          have hfz127_2 := blk_frozen BK322.out 2
          have hfz127_3 := blk_frozen BK322.out 3
          have hfz127_4 := blk_frozen BK322.out 4
          have hfz127_5 := blk_frozen BK322.out 5
          have hfz127_6 := blk_frozen BK322.out 6
          have hfz127_7 := blk_frozen BK322.out 7
          have hnb128 := NB323_324.out
          have hnc128 := NB324_323.out
          have hcz129_0 : wc.cell? ⟨gb323, 0, none⟩ = some (.int .i64 a4_0) := (blk_cell BK323.out 0).trans rfl
          have hcz129_1 : wc.cell? ⟨gb323, 1, none⟩ = some (.int .i64 a4_1) := (blk_cell BK323.out 1).trans rfl
          have hcz129_2 : wc.cell? ⟨gb323, 2, none⟩ = some (.int .i64 a4_2) := (blk_cell BK323.out 2).trans rfl
          have hcz129_3 : wc.cell? ⟨gb323, 3, none⟩ = some (.int .i64 a2) := (blk_cell BK323.out 3).trans rfl
          have hcz129_4 : wc.cell? ⟨gb323, 4, none⟩ = some (.int .i64 a4_4) := (blk_cell BK323.out 4).trans rfl
          have hcz129_5 : wc.cell? ⟨gb323, 5, none⟩ = some (.int .i64 a4_5) := (blk_cell BK323.out 5).trans rfl
          have hcz129_6 : wc.cell? ⟨gb323, 6, none⟩ = some (.int .i64 a4_6) := (blk_cell BK323.out 6).trans rfl
          have hcz129_7 : wc.cell? ⟨gb323, 7, none⟩ = some (.slice A4_7 l4_7.length c4_7) := (blk_cell BK323.out 7).trans rfl
          have hfz129_0 := blk_frozen BK323.out 0
          have hfz129_1 := blk_frozen BK323.out 1
          have hfz129_2 := blk_frozen BK323.out 2
          have hfz129_3 := blk_frozen BK323.out 3
          have hfz129_4 := blk_frozen BK323.out 4
          have hfz129_5 := blk_frozen BK323.out 5
          have hfz129_6 := blk_frozen BK323.out 6
          have hfz129_7 := blk_frozen BK323.out 7
          go_wp2_with (first | ((with_reducible refine gate_callee (f := 12) rfl ?_); refine goesL_ (some 108) rfl rfl Try.func12 (by kernel_rfl) rfl #[.agg #[.int .i64 a0_0, .int .i64 a0_1, .int .i64 a0_2, .int .i64 a0_3, .int .i64 a0_4, .int .i64 a0_5, .int .i64 a0_6, .int .i64 a0_7], .int .i64 a1, .agg #[.int .i64 a4_0, .int .i64 a4_1, .int .i64 a4_2, .int .i64 a2, .int .i64 a4_4, .int .i64 a4_5, .int .i64 a4_6, .slice A4_7 l4_7.length c4_7], .int .u64 a7] rfl aA ?_; (with_reducible refine (prio_Priority.calls kj99 a0_0 a0_1 a0_2 a0_3 a0_4 a0_5 a0_6 a0_7 a1 a4_0 a4_1 a4_2 a2 a4_4 a4_5 a4_6 _ _ l4_7 a7 t330 _ ?side1 ?side2 A122.out).mono ?_); (case side1 => repeat (first | exact (Kd.C_below HR4_7.out HB.out) | (with_reducible refine Kd.C_alloc ?_ _) | (with_reducible refine Kd.C_drewN ?_ _) | (with_reducible refine Kd.C_drew ?_))); (case side2 => exact HC4_7.out); rintro e w130 ⟨rfl, hb⟩; refine ⟨_, rfl, ?_⟩; have n0_ := Aside0.mk (blk_below (g := gb322) kA hb); have n1_ := Aside0.mk (blk_below (g := gb323) kA hb); have n2_ := Aside0.mk (blk_below (g := gb324) kA hb); have n3_ := Aside0.mk (below_step bA hb); clear BK322 BK323 BK324 HB; have BK322 := n0_; have BK323 := n1_; have BK324 := n2_; have HB := n3_; clear n0_ n1_ n2_ n3_; (try clear hb)))
          go_ret
          exact ⟨by first | rfl | (simp [errW_none, errW_some] <;> rfl) | (simp [*, errW_none, errW_some] <;> rfl), bA⟩
         ·rw [if_neg c124] at H
          have c124b0 : (a1 == 1099511627776) = false := beq_eq_false_iff_ne.mpr c124
          have c124b1 : (a1 != 1099511627776) = true := bne_iff_ne.mpr c124
          replace H := Option.bind_eq_some_iff.mp H; obtain ⟨t331, A1310, H⟩ := H; replace H : (some (decide (t331 > t327))) = some r := H; have A131 := Aside0.mk A1310; clear A1310
          obtain rfl := Option.some.inj H
          have hnb132 := NB322_323.out
          have hnc132 := NB323_322.out
          have hnb133 := NB322_324.out
          have hnc133 := NB324_322.out
          have hcz134_0 : wc.cell? ⟨gb322, 0, none⟩ = some (.int .i64 a0_0) := (blk_cell BK322.out 0).trans rfl
          have hcz134_1 : wc.cell? ⟨gb322, 1, none⟩ = some (.int .i64 a0_1) := (blk_cell BK322.out 1).trans rfl
          have hcz134_2 : wc.cell? ⟨gb322, 2, none⟩ = some (.int .i64 a0_2) := (blk_cell BK322.out 2).trans rfl
          have hcz134_3 : wc.cell? ⟨gb322, 3, none⟩ = some (.int .i64 a0_3) := (blk_cell BK322.out 3).trans rfl
          have hcz134_4 : wc.cell? ⟨gb322, 4, none⟩ = some (.int .i64 a0_4) := (blk_cell BK322.out 4).trans rfl
          have hcz134_5 : wc.cell? ⟨gb322, 5, none⟩ = some (.int .i64 a0_5) := (blk_cell BK322.out 5).trans rfl
          have hcz134_6 : wc.cell? ⟨gb322, 6, none⟩ = some (.int .i64 a0_6) := (blk_cell BK322.out 6).trans rfl
          have hcz134_7 : wc.cell? ⟨gb322, 7, none⟩ = some (.int .i64 a0_7) := (blk_cell BK322.out 7).trans rfl
          have hfz134_0 := blk_frozen BK322.out 0
          have hfz134_1 := blk_frozen BK322.out 1
          have hfz134_2 := blk_frozen BK322.out 2
          have hfz134_3 := blk_frozen BK322.out 3
          have hfz134_4 := blk_frozen BK322.out 4
          have hfz134_5 := blk_frozen BK322.out 5
          have hfz134_6 := blk_frozen BK322.out 6
          have hfz134_7 := blk_frozen BK322.out 7
          have hnb135 := NB323_324.out
          have hnc135 := NB324_323.out
          have hcz136_0 : wc.cell? ⟨gb323, 0, none⟩ = some (.int .i64 a4_0) := (blk_cell BK323.out 0).trans rfl
          have hcz136_1 : wc.cell? ⟨gb323, 1, none⟩ = some (.int .i64 a4_1) := (blk_cell BK323.out 1).trans rfl
          have hcz136_2 : wc.cell? ⟨gb323, 2, none⟩ = some (.int .i64 a4_2) := (blk_cell BK323.out 2).trans rfl
          have hcz136_3 : wc.cell? ⟨gb323, 3, none⟩ = some (.int .i64 a2) := (blk_cell BK323.out 3).trans rfl
          have hcz136_4 : wc.cell? ⟨gb323, 4, none⟩ = some (.int .i64 a4_4) := (blk_cell BK323.out 4).trans rfl
          have hcz136_5 : wc.cell? ⟨gb323, 5, none⟩ = some (.int .i64 a4_5) := (blk_cell BK323.out 5).trans rfl
          have hcz136_6 : wc.cell? ⟨gb323, 6, none⟩ = some (.int .i64 a4_6) := (blk_cell BK323.out 6).trans rfl
          have hcz136_7 : wc.cell? ⟨gb323, 7, none⟩ = some (.slice A4_7 l4_7.length c4_7) := (blk_cell BK323.out 7).trans rfl
          have hfz136_0 := blk_frozen BK323.out 0
          have hfz136_1 := blk_frozen BK323.out 1
          have hfz136_2 := blk_frozen BK323.out 2
          have hfz136_3 := blk_frozen BK323.out 3
          have hfz136_4 := blk_frozen BK323.out 4
          have hfz136_5 := blk_frozen BK323.out 5
          have hfz136_6 := blk_frozen BK323.out 6
          have hfz136_7 := blk_frozen BK323.out 7
          go_wp2_with (first | ((with_reducible refine gate_callee (f := 12) rfl ?_); refine goesL_ (some 108) rfl rfl Try.func12 (by kernel_rfl) rfl #[.agg #[.int .i64 a0_0, .int .i64 a0_1, .int .i64 a0_2, .int .i64 a0_3, .int .i64 a0_4, .int .i64 a0_5, .int .i64 a0_6, .int .i64 a0_7], .int .i64 a1, .agg #[.int .i64 a4_0, .int .i64 a4_1, .int .i64 a4_2, .int .i64 a2, .int .i64 a4_4, .int .i64 a4_5, .int .i64 a4_6, .slice A4_7 l4_7.length c4_7], .int .u64 a7] rfl aA ?_; (with_reducible refine (prio_Priority.calls kj99 a0_0 a0_1 a0_2 a0_3 a0_4 a0_5 a0_6 a0_7 a1 a4_0 a4_1 a4_2 a2 a4_4 a4_5 a4_6 _ _ l4_7 a7 t330 _ ?side1 ?side2 A122.out).mono ?_); (case side1 => repeat (first | exact (Kd.C_below HR4_7.out HB.out) | (with_reducible refine Kd.C_alloc ?_ _) | (with_reducible refine Kd.C_drewN ?_ _) | (with_reducible refine Kd.C_drew ?_))); (case side2 => exact HC4_7.out); rintro e w137 ⟨rfl, hb⟩; refine ⟨_, rfl, ?_⟩; have n0_ := Aside0.mk (blk_below (g := gb322) kA hb); have n1_ := Aside0.mk (blk_below (g := gb323) kA hb); have n2_ := Aside0.mk (blk_below (g := gb324) kA hb); have n3_ := Aside0.mk (below_step bA hb); clear BK322 BK323 BK324 HB; have BK322 := n0_; have BK323 := n1_; have BK324 := n2_; have HB := n3_; clear n0_ n1_ n2_ n3_; (try clear hb); have hcz138_0 : w137.cell? ⟨gb322, 0, none⟩ = some (.int .i64 a0_0) := (blk_cell BK322.out 0).trans rfl; have hcz138_1 : w137.cell? ⟨gb322, 1, none⟩ = some (.int .i64 a0_1) := (blk_cell BK322.out 1).trans rfl; have hcz138_2 : w137.cell? ⟨gb322, 2, none⟩ = some (.int .i64 a0_2) := (blk_cell BK322.out 2).trans rfl; have hcz138_3 : w137.cell? ⟨gb322, 3, none⟩ = some (.int .i64 a0_3) := (blk_cell BK322.out 3).trans rfl; have hcz138_4 : w137.cell? ⟨gb322, 4, none⟩ = some (.int .i64 a0_4) := (blk_cell BK322.out 4).trans rfl; have hcz138_5 : w137.cell? ⟨gb322, 5, none⟩ = some (.int .i64 a0_5) := (blk_cell BK322.out 5).trans rfl; have hcz138_6 : w137.cell? ⟨gb322, 6, none⟩ = some (.int .i64 a0_6) := (blk_cell BK322.out 6).trans rfl; have hcz138_7 : w137.cell? ⟨gb322, 7, none⟩ = some (.int .i64 a0_7) := (blk_cell BK322.out 7).trans rfl; have hfz138_0 := blk_frozen BK322.out 0; have hfz138_1 := blk_frozen BK322.out 1; have hfz138_2 := blk_frozen BK322.out 2; have hfz138_3 := blk_frozen BK322.out 3; have hfz138_4 := blk_frozen BK322.out 4; have hfz138_5 := blk_frozen BK322.out 5; have hfz138_6 := blk_frozen BK322.out 6; have hfz138_7 := blk_frozen BK322.out 7; have hcz139_0 : w137.cell? ⟨gb323, 0, none⟩ = some (.int .i64 a4_0) := (blk_cell BK323.out 0).trans rfl; have hcz139_1 : w137.cell? ⟨gb323, 1, none⟩ = some (.int .i64 a4_1) := (blk_cell BK323.out 1).trans rfl; have hcz139_2 : w137.cell? ⟨gb323, 2, none⟩ = some (.int .i64 a4_2) := (blk_cell BK323.out 2).trans rfl; have hcz139_3 : w137.cell? ⟨gb323, 3, none⟩ = some (.int .i64 a2) := (blk_cell BK323.out 3).trans rfl; have hcz139_4 : w137.cell? ⟨gb323, 4, none⟩ = some (.int .i64 a4_4) := (blk_cell BK323.out 4).trans rfl; have hcz139_5 : w137.cell? ⟨gb323, 5, none⟩ = some (.int .i64 a4_5) := (blk_cell BK323.out 5).trans rfl; have hcz139_6 : w137.cell? ⟨gb323, 6, none⟩ = some (.int .i64 a4_6) := (blk_cell BK323.out 6).trans rfl; have hcz139_7 : w137.cell? ⟨gb323, 7, none⟩ = some (.slice A4_7 l4_7.length c4_7) := (blk_cell BK323.out 7).trans rfl; have hfz139_0 := blk_frozen BK323.out 0; have hfz139_1 := blk_frozen BK323.out 1; have hfz139_2 := blk_frozen BK323.out 2; have hfz139_3 := blk_frozen BK323.out 3; have hfz139_4 := blk_frozen BK323.out 4; have hfz139_5 := blk_frozen BK323.out 5; have hfz139_6 := blk_frozen BK323.out 6; have hfz139_7 := blk_frozen BK323.out 7) | (go_at_call 12; (with_reducible refine (prio_Priority.calls kj99 a0_0 a0_1 a0_2 a0_3 a0_4 a0_5 a0_6 a0_7 (wrap64 (a1 + 1)) a4_0 a4_1 a4_2 a2 a4_4 a4_5 a4_6 _ _ l4_7 a6 t331 _ ?side1 ?side2 A131.out).mono ?_); (case side1 => repeat (first | exact (Kd.C_below HR4_7.out HB.out) | (with_reducible refine Kd.C_alloc ?_ _) | (with_reducible refine Kd.C_drewN ?_ _) | (with_reducible refine Kd.C_drew ?_))); (case side2 => exact HC4_7.out); rintro e w140 ⟨rfl, hb⟩; have n0_ := Aside0.mk (blk_below (g := gb322) kA hb); have n1_ := Aside0.mk (blk_below (g := gb323) kA hb); have n2_ := Aside0.mk (blk_below (g := gb324) kA hb); have n3_ := Aside0.mk (below_step bA hb); clear BK322 BK323 BK324 HB; have BK322 := n0_; have BK323 := n1_; have BK324 := n2_; have HB := n3_; clear n0_ n1_ n2_ n3_; (try clear hb)))
          go_ret
          exact ⟨by first | rfl | (simp [errW_none, errW_some] <;> rfl) | (simp [*, errW_none, errW_some] <;> rfl), bA⟩
        ·rw [if_neg c123] at H
         exact absurd H (by simp)
 ·replace c10 := Bool.eq_false_iff.mpr c10
  subst c10
  have H1 : (none) = some r := by rw [if_neg (show ¬ (false = true) by decide)] at H; exact H
  clear H
  have H := H1
  clear H1
  exact absurd H (by simp)

end Go.Proofs.Ytodibpddlibneaa.GPT
