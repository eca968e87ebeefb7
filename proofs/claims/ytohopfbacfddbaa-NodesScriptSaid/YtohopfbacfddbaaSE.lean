/- Clones of both machines; lists that are lent. Conditions: each theorem's own. -/
import Derived.Test.YtohopfbacfddbaaSD
import Derived.StillTailTactics
import Derived.Laws.CopyRow
namespace Go.Proofs.Ytohopfbacfddbaa.S
open Go.RowKit Go.Proofs.YtohopfbacfddbaaW.PrintWords Go.Proofs.YtohopfbacfddbaaW.PrintLast Go.Proofs.Ytohopfbacfddbaa.H
open Go.Proofs.Ytohopfbacfddbaa.N hiding gb_setCell gb_drewN gb_drew gb_refl gb_any gb_of_below below_of_gb below_gb own_open ne_of_ge cut_at
set_option linter.unusedVariables false
set_option linter.unusedSimpArgs false
theorem wpl_copy {P : Program} (w : World) {ops : Array Oper} {rest : List Oper} {o : Oper} {a : Act} {Q : Exit → Act → World → Prop} (hgd : o.guard = none) (d s : Operand) (t u : TypeId)
    (ho : o.op = .call { callee := .builtin .copy, args := #[d, s], argTypes := #[t, u] }) (x y : Value) (hx : a.eval d = x) (hy : a.eval s = y) {v1 : Value} {w1 : World}
    (hr : (Builtin.copy_ #[t, u] o.type #[x, y]).run P w = .ok v1 w1) (h : wpList P ops Q rest (a.put o.dst v1) w1) : wpList P ops Q (o :: rest) a w := by
  refine wpList_plain hgd fun K hK => ?_
  unfold Oper.wp execOp
  simp only [ho, resolve, invoke, builtin, Sem.run_bind, Sem.run_pure, Result.andThen_ok, List.map_toArray, List.map_cons, List.map_nil, hx, hy, hr]
  exact hK _ _ h
set_option maxHeartbeats 8000000 in
set_option maxRecDepth 100000 in
theorem Clone_calls (w : World) (g n : Nat) (t : Nat → Nat) (h : SetAt w g n t) :
    Calls Try.prog 31 #[.pointer (some ⟨g, 0, none⟩)] w fun e w' => e = .returned (.pointer (some ⟨w.heap.size, 0, none⟩)) ∧ SetAt w' w.heap.size n t ∧ w.grownBy w' none := by
  have hc0 := h.cell0
  have HS := Aside0.mk h
  have HB := Aside0.mk (heap_alloc_new w (.cells #[.int .i64 n, .int .u64 0, .int .u64 0, .int .u64 0, .int .u64 0] 54))
  have HG := Aside0.mk (World.grownBy_alloc w (.cells #[.int .i64 n, .int .u64 0, .int .u64 0, .int .u64 0, .int .u64 0] 54) none)
  have HS1 := Aside0.mk (h.kept HG.out (by simp))
  clear h
  go_enter Try.func31, Try.ntmps31
  go_wp2_with fail
  go_still_tail 8, (by kernel_rfl)
  change wpList _ _ _ _ _ (World.drew _)
  have hcp := run_copy_row (P := Try.prog) ((w.alloc (.cells #[.int .i64 n, .int .u64 0, .int .u64 0, .int .u64 0, .int .u64 0] 54)).drew) 65 65 3 51 w.heap.size 1 4 4 ⟨g, 1, none⟩ 4 4 _ 54 [.int .u64 (t 0), .int .u64 (t 1), .int .u64 (t 2), .int .u64 (t 3)] Try.underlying65 (by kernel_rfl) HB.out rfl (by
    intro j v hv
    rcases j with _ | _ | _ | _ | j
    · simp at hv; subst hv; exact HS1.out.cell 0 (by decide)
    · simp at hv; subst hv; exact HS1.out.cell 1 (by decide)
    · simp at hv; subst hv; exact HS1.out.cell 2 (by decide)
    · simp at hv; subst hv; exact HS1.out.cell 3 (by decide)
    · simp at hv) (by simp) (by simp [Value.oneCell'])
  refine wpl_copy _ rfl (.tmp 13) (.tmp 17) 65 65 rfl _ _ rfl rfl hcp ?_
  have HN := Aside0.mk (setRow_heap (w.alloc (.cells #[.int .i64 n, .int .u64 0, .int .u64 0, .int .u64 0, .int .u64 0] 54)).drew w.heap.size #[.int .i64 n, .int .u64 0, .int .u64 0, .int .u64 0, .int .u64 0] (setCells n t) 54 _ HB.out)
  have HK := Aside0.mk (show (w.alloc (.cells #[.int .i64 n, .int .u64 0, .int .u64 0, .int .u64 0, .int .u64 0] 54)).drew.grownBy ((w.alloc (.cells #[.int .i64 n, .int .u64 0, .int .u64 0, .int .u64 0, .int .u64 0] 54)).drew.setRow w.heap.size (setCells n t)) (some w.heap.size) from ⟨rfl, rfl, rfl, by simp, fun k _ hk => setRow_other _ w.heap.size k _ (fun e => hk (by rw [e]))⟩)
  change wpList _ _ _ _ _ ((w.alloc (.cells #[.int .i64 n, .int .u64 0, .int .u64 0, .int .u64 0, .int .u64 0] 54)).drew.setRow w.heap.size (setCells n t))
  generalize ((w.alloc (.cells #[.int .i64 n, .int .u64 0, .int .u64 0, .int .u64 0, .int .u64 0] 54)).drew.setRow w.heap.size (setCells n t)) = w2 at HN HK ⊢
  clear hcp
  go_wp2
  go_ret
  exact ⟨rfl, ⟨HN.out, HS.out.le, HS.out.lt, HS.out.out⟩, gb_new (World.grownBy.trans HG.out (gb_drew _ none)) HK.out (Nat.le_refl _)⟩
/-- What the document's clone answers: a set alike, of its own. -/
def rCloneI (w : World) (n : Nat) (t : Nat → Nat) (e : Ending) (w' : World) : Prop :=
  ∃ g ab c, e = .returned (.pointer (some ⟨g, 0, none⟩)) ∧ RefAt w' w.heap.size g ab n c t ∧ w.grownBy w' none
set_option maxHeartbeats 8000000 in
set_option maxRecDepth 100000 in
theorem rClone_calls (w : World) (B g ab n c : Nat) (t : Nat → Nat) (h : RefAt w B g ab n c t) (h0 : 1 ≤ n) :
    Calls Try.prog 32 #[.pointer (some ⟨g, 0, none⟩)] w (rCloneI w n t) := by
  have hc0 := (h.gb (World.grownBy_alloc w (.cells #[] 4) none)).c0
  have hle := h.le
  have HW := Aside0.mk (show (w.alloc (.cells #[] 4)).ownsRow w.heap.size 4 Eb.sz (.slice (some ⟨w.heap.size, 0, none⟩) 0 0) 0 (flat Eb []) from World.ownsRow_lit w #[] 0 (Nat.le_refl _) (by simp [maxLen]) (by simp))
  have HR := Aside0.mk (h.rd.gb (World.grownBy_alloc w (.cells #[] 4) none))
  have HG := Aside0.mk (World.grownBy_alloc w (.cells #[] 4) none)
  clear h
  go_enter Try.func32, Try.ntmps32
  go_wp2_with (at_builtin; refine app Eb w.heap.size rfl (.tmp 3) (.tmp 7) 58 4 (.bool false) 1 rfl Try.underlying58 (by kernel_rfl) rfl (by decide) (.slice (some ⟨w.heap.size, 0, none⟩) 0 0) 0 [] (bsOf n t) _ n _ rfl rfl rfl HW.out HR.out (by simp) (by omega) ?_; intro v1 w1 ho hg _; rw [List.nil_append, Nat.zero_add] at ho; obtain ⟨A1, c1, rfl, -, -, -⟩ := own_open (bs_len n t) ho; have HO1 := Aside0.mk ho; have HG1 := Aside0.mk (gb_row HG.out hg (fun k hk => by simp [Value.ownBlock] at hk; omega)); have HB1 := Aside0.mk (heap_alloc_new w1 (.cells #[.slice A1 n c1] 60)); have HK1 := Aside0.mk (World.grownBy_alloc w1 (.cells #[.slice A1 n c1] 60) none); clear ho hg HR HG HW)
  go_ret
  obtain ⟨ab1, rfl⟩ := own_some (bs_len n t) HO1.out h0
  refine ⟨_, ab1, c1, rfl, ⟨HB1.out, own_kept HO1.out HK1.out (by simp), ?_, HG1.out.size, hle⟩, World.grownBy.trans HG1.out HK1.out⟩
  have := (HO1.out.lt ab1 rfl).2
  omega
end Go.Proofs.Ytohopfbacfddbaa.S
