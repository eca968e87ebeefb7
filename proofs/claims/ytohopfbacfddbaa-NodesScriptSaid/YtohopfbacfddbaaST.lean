/- Any step at both machines. Conditions: each theorem's own. -/
import Derived.Test.YtohopfbacfddbaaSL
import Derived.Test.YtohopfbacfddbaaSM
import Derived.Test.YtohopfbacfddbaaSN
import Derived.Test.YtohopfbacfddbaaSO
import Derived.Test.YtohopfbacfddbaaSP
import Derived.Test.YtohopfbacfddbaaSQ
import Derived.Test.YtohopfbacfddbaaSR
import Derived.Test.YtohopfbacfddbaaSS
namespace Go.Proofs.Ytohopfbacfddbaa.S
open Go.RowKit Go.Proofs.YtohopfbacfddbaaW.PrintWords Go.Proofs.YtohopfbacfddbaaW.PrintLast Go.Proofs.Ytohopfbacfddbaa.H
open Go.Proofs.Ytohopfbacfddbaa.N hiding gb_setCell gb_drewN gb_drew gb_refl gb_any gb_of_below below_of_gb below_gb own_open ne_of_ge cut_at
set_option linter.unusedVariables false
set_option linter.unusedSimpArgs false
theorem add_off (a : Addr) (k i : Nat) (h : 0 < i) : a.add (k + i) = ⟨(a.add k).block, (a.add k).off + i, none⟩ := by
  unfold Addr.add
  by_cases h1 : k = 0
  · subst h1
    simp [show ¬ (0 + i = 0) by omega]
    omega
  · simp [h1, show ¬ (k + i = 0) by omega, Nat.add_assoc]
/-- The cells of the step at i. -/
theorem op_cells {w : World} {ad : Addr} {n : Nat} {ls : List OpV} (h : Rd Eo w (some ad) n ls) {i : Nat} {x : OpV} (hx : ls[i]? = some x) :
    w.cell? (ad.add (i * 4)) = some (.bool x.sec) ∧ w.cell? ⟨(ad.add (i * 4)).block, (ad.add (i * 4)).off + 1, none⟩ = some (.int .i64 x.k) ∧ w.cell? ⟨(ad.add (i * 4)).block, (ad.add (i * 4)).off + 2, none⟩ = some (.int .i64 x.N) ∧ w.cell? ⟨(ad.add (i * 4)).block, (ad.add (i * 4)).off + 3, none⟩ = some (.slice x.LA x.ln x.lc) := by
  have hj : i < n := by have := (List.getElem?_eq_some_iff.1 hx).1; rw [h.1] at this; exact this
  obtain ⟨a, y, e, hy, hc⟩ := h.at_ i hj
  obtain rfl : y = x := Option.some.inj (hy.symm.trans hx)
  obtain rfl : ad = a := Option.some.inj e
  refine ⟨?_, ?_, ?_, ?_⟩
  · have := hc 0 _ rfl; simpa [Eo] using this
  · rw [← add_off _ _ 1 (by omega)]; exact hc 1 _ rfl
  · rw [← add_off _ _ 2 (by omega)]; exact hc 2 _ rfl
  · rw [← add_off _ _ 3 (by omega)]; exact hc 3 _ rfl
theorem step_all (w : World) (P h : Nat) (f : Nat → Int) (c d : Int) (p o : Pr) (OA : Option Addr) (oc : Nat) (WA : Option Addr) (wc : Nat) (os ws : List Sl) (hs : St w P f c d p o h OA oc WA wc os ws) (x : OpV) (hx : OpOk w x) (hlb : ∀ ad, x.LA = some ad → 0 < x.ln → ad.block < P) (hn : os.length ≤ 999) :
    Calls Try.prog 16 #[p.val, o.val, .pointer (some ⟨h, 0, none⟩), .agg #[.bool x.sec, .int .i64 x.k, .int .i64 x.N, .slice x.LA x.ln x.lc]] w (StepI w P f c d o h os) := by
  obtain ⟨sec, k, N, LA, ln, lc, xs⟩ := x
  obtain ⟨hr, hz⟩ := hx
  show Calls Try.prog 16 #[p.val, o.val, .pointer (some ⟨h, 0, none⟩), .agg #[.bool sec, .int .i64 k, .int .i64 N, .slice LA ln lc]] w (StepI w P f c d o h os)
  by_cases k0 : k = 0
  · subst k0
    by_cases n1 : N < 1
    · exact step_take_small w P h f c d p o OA oc WA wc os ws hs sec N LA ln lc (by omega) n1
    · by_cases n2 : ((freeTo p.n p.t p.n).length : Int) < N
      · exact step_take_many w P h f c d p o OA oc WA wc os ws hs sec N LA ln lc (by omega) (by omega) n2
      · exact step_take_ok w P h f c d p o OA oc WA wc os ws hs sec N LA ln lc (by omega) N.toNat (by omega) (by omega) (by omega)
  by_cases k1 : k = 1
  · subst k1; exact step_claim w P h f c d p o OA oc WA wc os ws hs sec N LA ln lc xs hr hlb hz
  by_cases k2 : k = 2
  · subst k2; exact step_give w P h f c d p o OA oc WA wc os ws hs sec N LA ln lc xs hr hlb hz
  by_cases k3 : k = 3
  · subst k3; exact step_has w P h f c d p o OA oc WA wc os ws hs sec N LA ln lc
  by_cases k4 : k = 4
  · subst k4; exact step_list w P h f c d p o OA oc WA wc os ws hs sec N LA ln lc hn
  by_cases k5 : k = 5
  · subst k5; exact step_clone w P h f c d p o OA oc WA wc os ws hs sec N LA ln lc
  by_cases k6 : k = 6
  · subst k6; exact step_spoil w P h f c d p o OA oc WA wc os ws hs sec N LA ln lc (by omega)
  · exact step_other w P h f c d p o OA oc WA wc os ws hs sec k N LA ln lc (by omega)
/-- What a step answers and leaves, written out. -/
def StepJ (w : World) (P : Nat) (f : Nat → Int) (c d : Int) (o : Pr) (h : Nat) (os : List Sl) (e : Ending) (w' : World) : Prop :=
  ∃ (p' : Pr) (f' : Nat → Int) (OA : Option Addr) (oc : Nat) (WA : Option Addr) (wc : Nat) (os' ws' : List Sl), e = .returned (.tuple #[.agg #[.pointer (some ⟨p'.g, 0, none⟩), .pointer (some ⟨p'.r, 0, none⟩)], .bool true]) ∧ St w' P f' c d p' o h OA oc WA wc os' ws' ∧ os'.length ≤ os.length + 2 ∧ Lt w f w' f' (TT c)
theorem step_j (w : World) (P h : Nat) (f : Nat → Int) (c d : Int) (p o : Pr) (OA : Option Addr) (oc : Nat) (WA : Option Addr) (wc : Nat) (os ws : List Sl) (hs : St w P f c d p o h OA oc WA wc os ws) (x : OpV) (hx : OpOk w x) (hlb : ∀ ad, x.LA = some ad → 0 < x.ln → ad.block < P) (hn : os.length ≤ 999) :
    Calls Try.prog 16 #[.agg #[.pointer (some ⟨p.g, 0, none⟩), .pointer (some ⟨p.r, 0, none⟩)], .agg #[.pointer (some ⟨o.g, 0, none⟩), .pointer (some ⟨o.r, 0, none⟩)], .pointer (some ⟨h, 0, none⟩), .agg #[.bool x.sec, .int .i64 x.k, .int .i64 x.N, .slice x.LA x.ln x.lc]] w (StepJ w P f c d o h os) :=
  step_all w P h f c d p o OA oc WA wc os ws hs x hx hlb hn
theorem St.swap {w : World} {P h : Nat} {f : Nat → Int} {c d : Int} {p o : Pr} {OA : Option Addr} {oc : Nat} {WA : Option Addr} {wc : Nat} {os ws : List Sl} (s : St w P f c d p o h OA oc WA wc os ws) : St w P f d c o p h OA oc WA wc os ws :=
  ⟨s.o, s.p, s.k, s.sm, s.low, by have := s.cd; omega⟩
/-- The two boxes of the script. -/
structure Bp (W : World) (f : Nat → Int) (bp bq : Nat) (p q : Pr) : Prop where
  hp : W.heap[bp]? = some (.cells #[.pointer (some ⟨p.g, 0, none⟩), .pointer (some ⟨p.r, 0, none⟩)] 45 (0, 0))
  hq : W.heap[bq]? = some (.cells #[.pointer (some ⟨q.g, 0, none⟩), .pointer (some ⟨q.r, 0, none⟩)] 45 (0, 0))
  fp : f bp = -200
  fq : f bq = -200
  ne : bp ≠ bq
theorem Bp.lt {W W' : World} {f f' : Nat → Int} {bp bq : Nat} {p q : Pr} {T : Int → Prop} (h : Bp W f bp bq p q) (hl : Lt W f W' f' T) (hT : ¬ T (-200)) : Bp W' f' bp bq p q :=
  ⟨blk_tn h.hp hl.tn (by rw [h.fp]; exact hT), blk_tn h.hq hl.tn (by rw [h.fq]; exact hT), by rw [hl.lab _ (blk_lt' h.hp)]; exact h.fp, by rw [hl.lab _ (blk_lt' h.hq)]; exact h.fq, h.ne⟩
theorem Bp.setp {W : World} {f : Nat → Int} {bp bq : Nat} {p q : Pr} (h : Bp W f bp bq p q) (x : Pr) : Bp ((W.setCell ⟨bp, 0, none⟩ (.pointer (some ⟨x.g, 0, none⟩))).setCell ⟨bp, 1, none⟩ (.pointer (some ⟨x.r, 0, none⟩))) f bp bq x q := by
  refine ⟨?_, blk_tn h.hq ((Tn.set bp 0 _ (F := fun i => i = bp) rfl).trans' (Tn.set bp 1 _ (F := fun i => i = bp) rfl)) (fun e => h.ne e.symm), h.fp, h.fq, h.ne⟩
  have h0 := blk_set 1 (.pointer (some ⟨x.r, 0, none⟩)) (blk_set 0 (.pointer (some ⟨x.g, 0, none⟩)) h.hp)
  simpa using h0
theorem Bp.setq {W : World} {f : Nat → Int} {bp bq : Nat} {p q : Pr} (h : Bp W f bp bq p q) (x : Pr) : Bp ((W.setCell ⟨bq, 0, none⟩ (.pointer (some ⟨x.g, 0, none⟩))).setCell ⟨bq, 1, none⟩ (.pointer (some ⟨x.r, 0, none⟩))) f bp bq p x := by
  refine ⟨blk_tn h.hp ((Tn.set bq 0 _ (F := fun i => i = bq) rfl).trans' (Tn.set bq 1 _ (F := fun i => i = bq) rfl)) h.ne, ?_, h.fp, h.fq, h.ne⟩
  have h0 := blk_set 1 (.pointer (some ⟨x.r, 0, none⟩)) (blk_set 0 (.pointer (some ⟨x.g, 0, none⟩)) h.hq)
  simpa using h0
/-- A write into a box of the script. -/
theorem lt_box {W : World} {f : Nat → Int} {b : Nat} (hb : f b = -200) (u v : Value) : Lt W f ((W.setCell ⟨b, 0, none⟩ u).setCell ⟨b, 1, none⟩ v) f (fun x => x = -200) :=
  ⟨((Tn.set b 0 u (F := fun i => i = b) rfl).trans' (Tn.set b 1 v (F := fun i => i = b) rfl)).mono (fun i _ e => by rw [e]; exact hb), fun _ _ => rfl⟩
theorem below_lt {w0 w w' : World} {f f' : Nat → Int} {T : Int → Prop} {P : Nat} (hP : P = w0.heap.size) (hb : Below w0.heap.size w0 w) (hl : Lt w f w' f' T) (low : ∀ k, k < P → f k = -1000) (hT : ¬ T (-1000)) : Below w0.heap.size w0 w' :=
  ⟨hl.tn.os.trans hb.os, hl.tn.tape.trans hb.tape, hl.tn.output.trans hb.output, Nat.le_trans hb.size hl.tn.size, fun k hk => (hl.tn.block k (Nat.lt_of_lt_of_le hk hb.size) (by rw [low k (by omega)]; exact hT)).trans (hb.block k hk)⟩
theorem tt_far {c d : Int} (h : c = -1 ∧ d = -4 ∨ c = -4 ∧ d = -1) : ¬ TT c (-200) ∧ ¬ TT c (-1000) := by unfold TT; omega
theorem Ops.below {w w' : World} {A : Option Addr} {n : Nat} {ls : List OpV} (h : Ops w A n ls) (hb : Below w.heap.size w w') : Ops w' A n ls :=
  ⟨h.1.below hb, fun x hx => ⟨(h.2 x hx).1.below hb, (h.2 x hx).2⟩⟩
theorem op_low {w : World} {x : OpV} (h : OpOk w x) : ∀ ad, x.LA = some ad → 0 < x.ln → ad.block < w.heap.size := fun ad ha hp => by
  obtain ⟨a, e, hc⟩ := h.1.int 0 hp
  obtain rfl : ad = a := Option.some.inj (ha.symm.trans e)
  have := World.block_lt_of_cell? w _ hc
  rwa [H.add_block] at this
end Go.Proofs.Ytohopfbacfddbaa.S
