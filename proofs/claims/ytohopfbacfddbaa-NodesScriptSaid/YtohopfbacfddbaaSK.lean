/- One step at both machines: what it stands on. Conditions: each theorem's own. -/
import Derived.Test.YtohopfbacfddbaaSI
namespace Go.Proofs.Ytohopfbacfddbaa.S
open Go.RowKit Go.Proofs.YtohopfbacfddbaaW.PrintWords Go.Proofs.YtohopfbacfddbaaW.PrintLast Go.Proofs.Ytohopfbacfddbaa.H
open Go.Proofs.Ytohopfbacfddbaa.N hiding gb_setCell gb_drewN gb_drew gb_refl gb_any gb_of_below below_of_gb below_gb own_open ne_of_ge cut_at
set_option linter.unusedVariables false
set_option linter.unusedSimpArgs false
/-- A machine of the program at g, of the document at r, with its row at ab. -/
structure Pr where
  g : Nat
  r : Nat
  ab : Nat
  n : Nat
  c : Nat
  t : Nat → Nat
def Pr.val (p : Pr) : Value := .agg #[.pointer (some ⟨p.g, 0, none⟩), .pointer (some ⟨p.r, 0, none⟩)]
structure PrAt (w : World) (P : Nat) (f : Nat → Int) (c : Int) (p : Pr) : Prop where
  s : SetAt w p.g p.n p.t
  d : RefAt w P p.r p.ab p.n p.c p.t
  one : 1 ≤ p.n
  base : P ≤ p.g
  fg : f p.g = c
  fr : f p.r = c - 1
  fa : f p.ab = c - 2
theorem set_tn {w w' : World} {F : Nat → Prop} {g n : Nat} {t : Nat → Nat} (h : SetAt w g n t) (hg : Tn w w' F) (hF : ¬ F g) : SetAt w' g n t := ⟨blk_tn h.blk hg hF, h.le, h.lt, h.out⟩
section
variable {w w' : World} {P : Nat} {f f' : Nat → Int} {c : Int} {p : Pr}
theorem PrAt.gl (h : PrAt w P f c p) : p.g < w.heap.size := set_lt h.s
theorem PrAt.lt {T : Int → Prop} (h : PrAt w P f c p) (hl : Lt w f w' f' T) (h0 : ¬ T c) (h1 : ¬ T (c - 1)) (h2 : ¬ T (c - 2)) : PrAt w' P f' c p :=
  ⟨set_tn h.s hl.tn (by rw [h.fg]; exact h0), h.d.tn hl.tn (by rw [h.fr]; exact h1) (by rw [h.fa]; exact h2), h.one, h.base, by rw [hl.lab _ h.gl]; exact h.fg, by rw [hl.lab _ h.d.lt]; exact h.fr, by rw [hl.lab _ h.d.abl.2]; exact h.fa⟩
end
/-- The labels that a step of the machine of label c may touch. -/
def TT (c : Int) (x : Int) : Prop := x = c ∨ x = c - 1 ∨ x = c - 2 ∨ (0 ≤ x ∨ x = -101)
/-- What the step keeps of its own. -/
structure Bx (W : World) (f : Nat → Int) (b4 b5 b7 b8 : Nat) (p o : Pr) (sec : Bool) (k N : Int) (LA : Option Addr) (ln lc : Nat) : Prop where
  h4 : W.heap[b4]? = some (.cells #[.pointer (some ⟨p.g, 0, none⟩), .pointer (some ⟨p.r, 0, none⟩)] 45 (0, 0))
  h5 : W.heap[b5]? = some (.cells #[.pointer (some ⟨o.g, 0, none⟩), .pointer (some ⟨o.r, 0, none⟩)] 45 (0, 0))
  h7 : W.heap[b7]? = some (.cells #[.bool sec, .int .i64 k, .int .i64 N, .slice LA ln lc] 47 (0, 0))
  h8 : W.heap[b8]? = some (.cells #[.pointer none, .pointer none] 45 (0, 0))
  f4 : f b4 = -100
  f5 : f b5 = -100
  f7 : f b7 = -100
  f8 : f b8 = -100
  n48 : b4 ≠ b8
  n58 : b5 ≠ b8
  n45 : b4 ≠ b5
theorem Bx.lt {W W' : World} {f f' : Nat → Int} {b4 b5 b7 b8 : Nat} {p o : Pr} {sec : Bool} {k N : Int} {LA : Option Addr} {ln lc : Nat} {T : Int → Prop} (h : Bx W f b4 b5 b7 b8 p o sec k N LA ln lc) (hl : Lt W f W' f' T) (hT : ¬ T (-100)) : Bx W' f' b4 b5 b7 b8 p o sec k N LA ln lc :=
  ⟨blk_tn h.h4 hl.tn (by rw [h.f4]; exact hT), blk_tn h.h5 hl.tn (by rw [h.f5]; exact hT), blk_tn h.h7 hl.tn (by rw [h.f7]; exact hT), blk_tn h.h8 hl.tn (by rw [h.f8]; exact hT),
    by rw [hl.lab _ (blk_lt' h.h4)]; exact h.f4, by rw [hl.lab _ (blk_lt' h.h5)]; exact h.f5, by rw [hl.lab _ (blk_lt' h.h7)]; exact h.f7, by rw [hl.lab _ (blk_lt' h.h8)]; exact h.f8, h.n48, h.n58, h.n45⟩
/-- All that a step meets. -/
structure St (w : World) (P : Nat) (f : Nat → Int) (c d : Int) (p o : Pr) (h : Nat) (OA : Option Addr) (oc : Nat) (WA : Option Addr) (wc : Nat) (os ws : List Sl) : Prop where
  p : PrAt w P f c p
  o : PrAt w P f d o
  k : Kept w P h OA oc WA wc os ws f
  sm : ∀ s ∈ os, s.n ≤ 256
  low : ∀ k, k < P → f k = -1000
  cd : c = -1 ∧ d = -4 ∨ c = -4 ∧ d = -1
/-- What a step answers and leaves. -/
def StepI (w : World) (P : Nat) (f : Nat → Int) (c d : Int) (o : Pr) (h : Nat) (os : List Sl) (e : Ending) (w' : World) : Prop :=
  ∃ (p' : Pr) (f' : Nat → Int) (OA : Option Addr) (oc : Nat) (WA : Option Addr) (wc : Nat) (os' ws' : List Sl), e = .returned (.tuple #[p'.val, .bool true]) ∧ St w' P f' c d p' o h OA oc WA wc os' ws' ∧ os'.length ≤ os.length + 2 ∧ Lt w f w' f' (TT c)
theorem Pr_low {w P f f' w'} {T : Int → Prop} (hl : Lt w f w' f' T) (h : ∀ k, k < P → f k = -1000) (hP : P ≤ w.heap.size) : ∀ k, k < P → f' k = -1000 := fun k hk => by rw [hl.lab k (by omega)]; exact h k hk
section
variable {w w' : World} {P h : Nat} {f f' : Nat → Int} {c d : Int} {p o : Pr} {OA : Option Addr} {oc : Nat} {WA : Option Addr} {wc : Nat} {os ws : List Sl}
theorem St.size (s : St w P f c d p o h OA oc WA wc os ws) : P ≤ w.heap.size := by have := s.p.base; have := s.p.gl; omega
theorem St.lt {T : Int → Prop} (s : St w P f c d p o h OA oc WA wc os ws) (hl : Lt w f w' f' T) (hT : ∀ x, T x → x < -50) : St w' P f' c d p o h OA oc WA wc os ws := by
  have hc := s.cd
  have hn : ∀ x, -50 ≤ x → ¬ T x := fun x hx ht => by have := hT x ht; omega
  exact ⟨s.p.lt hl (hn _ (by omega)) (hn _ (by omega)) (hn _ (by omega)), s.o.lt hl (hn _ (by omega)) (hn _ (by omega)) (hn _ (by omega)), s.k.lt hl (fun x hx => hn x (by omega)), s.sm, Pr_low hl s.low s.size, s.cd⟩
end
/-- The four boxes of a step. -/
theorem step_boxes (w : World) (f : Nat → Int) (p o : Pr) (sec : Bool) (k N : Int) (LA : Option Addr) (ln lc : Nat) :
    Bx ((((w.alloc (.cells #[.pointer (some ⟨p.g, 0, none⟩), .pointer (some ⟨p.r, 0, none⟩)] 45)).alloc (.cells #[.pointer (some ⟨o.g, 0, none⟩), .pointer (some ⟨o.r, 0, none⟩)] 45)).alloc (.cells #[.bool sec, .int .i64 k, .int .i64 N, .slice LA ln lc] 47)).alloc (.cells #[.pointer none, .pointer none] 45)) (fun i => if i < w.heap.size then f i else -100) w.heap.size (w.heap.size + 1) (w.heap.size + 1 + 1) (w.heap.size + 1 + 1 + 1) p o sec k N LA ln lc ∧
    w.grownBy ((((w.alloc (.cells #[.pointer (some ⟨p.g, 0, none⟩), .pointer (some ⟨p.r, 0, none⟩)] 45)).alloc (.cells #[.pointer (some ⟨o.g, 0, none⟩), .pointer (some ⟨o.r, 0, none⟩)] 45)).alloc (.cells #[.bool sec, .int .i64 k, .int .i64 N, .slice LA ln lc] 47)).alloc (.cells #[.pointer none, .pointer none] 45)) none := by
  refine ⟨⟨?_, ?_, ?_, ?_, ?_, ?_, ?_, ?_, by omega, by omega, by omega⟩, ((((World.grownBy_alloc w _ none).trans (World.grownBy_alloc _ _ none)).trans (World.grownBy_alloc _ _ none)).trans (World.grownBy_alloc _ _ none))⟩
  · rw [heap_alloc_old _ _ (by simp; omega), heap_alloc_old _ _ (by simp; omega), heap_alloc_old _ _ (by simp)]; exact heap_alloc_new w _
  · rw [heap_alloc_old _ _ (by simp), heap_alloc_old _ _ (by simp)]
    have := heap_alloc_new (w.alloc (.cells #[.pointer (some ⟨p.g, 0, none⟩), .pointer (some ⟨p.r, 0, none⟩)] 45)) (.cells #[.pointer (some ⟨o.g, 0, none⟩), .pointer (some ⟨o.r, 0, none⟩)] 45)
    simpa using this
  · rw [heap_alloc_old _ _ (by simp)]
    have := heap_alloc_new ((w.alloc (.cells #[.pointer (some ⟨p.g, 0, none⟩), .pointer (some ⟨p.r, 0, none⟩)] 45)).alloc (.cells #[.pointer (some ⟨o.g, 0, none⟩), .pointer (some ⟨o.r, 0, none⟩)] 45)) (.cells #[.bool sec, .int .i64 k, .int .i64 N, .slice LA ln lc] 47)
    simpa using this
  · have := heap_alloc_new (((w.alloc (.cells #[.pointer (some ⟨p.g, 0, none⟩), .pointer (some ⟨p.r, 0, none⟩)] 45)).alloc (.cells #[.pointer (some ⟨o.g, 0, none⟩), .pointer (some ⟨o.r, 0, none⟩)] 45)).alloc (.cells #[.bool sec, .int .i64 k, .int .i64 N, .slice LA ln lc] 47)) (.cells #[.pointer none, .pointer none] 45)
    simpa using this
  all_goals (show (if _ then _ else _) = _; rw [if_neg (by omega)])
/-- The end of a step: the answer is written and read. -/
theorem step_end {w W : World} {P h : Nat} {f f1 : Nat → Int} {c d : Int} {p o p0 : Pr} {OA : Option Addr} {oc : Nat} {WA : Option Addr} {wc : Nat} {os os' ws' : List Sl} {b4 b5 b7 b8 : Nat} {sec : Bool} {k N : Int} {LA : Option Addr} {ln lc : Nat}
    (HS : St W P f1 c d p o h OA oc WA wc os' ws') (HB : Bx W f1 b4 b5 b7 b8 p0 o sec k N LA ln lc) (HL : Lt w f W f1 (TT c)) (hlen : os'.length ≤ os.length + 2) (hb : w.heap.size ≤ b8) :
    StepI w P f c d o h os (.returned (.tuple #[p.val, .bool true])) ((W.setCell ⟨b8, 0, none⟩ (.pointer (some ⟨p.g, 0, none⟩))).setCell ⟨b8, 1, none⟩ (.pointer (some ⟨p.r, 0, none⟩))) ∧
    ((W.setCell ⟨b8, 0, none⟩ (.pointer (some ⟨p.g, 0, none⟩))).setCell ⟨b8, 1, none⟩ (.pointer (some ⟨p.r, 0, none⟩))).heap[b8]? = some (.cells #[.pointer (some ⟨p.g, 0, none⟩), .pointer (some ⟨p.r, 0, none⟩)] 45 (0, 0)) := by
  have hT : Tn W ((W.setCell ⟨b8, 0, none⟩ (.pointer (some ⟨p.g, 0, none⟩))).setCell ⟨b8, 1, none⟩ (.pointer (some ⟨p.r, 0, none⟩))) (fun i => i = b8) := (Tn.set b8 0 _ (F := fun i => i = b8) rfl).trans' (Tn.set b8 1 _ (F := fun i => i = b8) rfl)
  have h2 : Lt W f1 ((W.setCell ⟨b8, 0, none⟩ (.pointer (some ⟨p.g, 0, none⟩))).setCell ⟨b8, 1, none⟩ (.pointer (some ⟨p.r, 0, none⟩))) f1 (fun x => x = -100) := ⟨hT.mono (fun i _ e => by rw [e]; exact HB.f8), fun _ _ => rfl⟩
  refine ⟨⟨p, f1, OA, oc, WA, wc, os', ws', rfl, HS.lt h2 (fun x e => by omega), hlen, ⟨HL.tn.trans hT (fun i hi e => by omega), HL.lab⟩⟩, ?_⟩
  have h0 := blk_set 1 (.pointer (some ⟨p.r, 0, none⟩)) (blk_set 0 (.pointer (some ⟨p.g, 0, none⟩)) HB.h8)
  simpa using h0
/-- All but the machine that is stepped. -/
structure Re (w : World) (P : Nat) (f : Nat → Int) (c d : Int) (o : Pr) (h : Nat) (OA : Option Addr) (oc : Nat) (WA : Option Addr) (wc : Nat) (os ws : List Sl) : Prop where
  o : PrAt w P f d o
  k : Kept w P h OA oc WA wc os ws f
  sm : ∀ s ∈ os, s.n ≤ 256
  low : ∀ k, k < P → f k = -1000
  cd : c = -1 ∧ d = -4 ∨ c = -4 ∧ d = -1
section
variable {w w' : World} {P h : Nat} {f f' : Nat → Int} {c d : Int} {p o : Pr} {OA : Option Addr} {oc : Nat} {WA : Option Addr} {wc : Nat} {os ws : List Sl}
theorem St.re (s : St w P f c d p o h OA oc WA wc os ws) : Re w P f c d o h OA oc WA wc os ws := ⟨s.o, s.k, s.sm, s.low, s.cd⟩
theorem Re.st (s : Re w P f c d o h OA oc WA wc os ws) (hp : PrAt w P f c p) : St w P f c d p o h OA oc WA wc os ws := ⟨hp, s.o, s.k, s.sm, s.low, s.cd⟩
theorem Re.size (s : Re w P f c d o h OA oc WA wc os ws) : P ≤ w.heap.size := by have := s.o.base; have := s.o.gl; omega
theorem Re.lt {T : Int → Prop} (s : Re w P f c d o h OA oc WA wc os ws) (hl : Lt w f w' f' T) (hT : ∀ x, T x → x < -50 ∨ x = c ∨ x = c - 1 ∨ x = c - 2) : Re w' P f' c d o h OA oc WA wc os ws := by
  have hc := s.cd
  have hn : ∀ x, -50 ≤ x → x ≠ c → x ≠ c - 1 → x ≠ c - 2 → ¬ T x := fun x hx h0 h1 h2 ht => by have := hT x ht; omega
  exact ⟨s.o.lt hl (hn _ (by omega) (by omega) (by omega) (by omega)) (hn _ (by omega) (by omega) (by omega) (by omega)) (hn _ (by omega) (by omega) (by omega) (by omega)), s.k.lt hl (fun x hx => hn x (by omega) (by omega) (by omega) (by omega)), s.sm, Pr_low hl s.low s.size, s.cd⟩
theorem St.keep {w2 : World} {f2 : Nat → Int} {OA2 WA2 : Option Addr} {oc2 wc2 : Nat} {ws2 : List Sl} {s : Sl} (S : St w P f c d p o h OA oc WA wc os ws) (hk : Kept w2 P h OA2 oc2 WA2 wc2 (os ++ [s]) ws2 f2) (hl : Lt w f w2 f2 K012) (hs : s.n ≤ 256) : St w2 P f2 c d p o h OA2 oc2 WA2 wc2 (os ++ [s]) ws2 := by
  have hc := S.cd
  have hn : ∀ x, x < 0 → ¬ K012 x := fun x hx h => by rcases h with h | h | h <;> omega
  exact ⟨S.p.lt hl (hn _ (by omega)) (hn _ (by omega)) (hn _ (by omega)), S.o.lt hl (hn _ (by omega)) (hn _ (by omega)) (hn _ (by omega)), hk, fun q hq => by
    rcases List.mem_append.1 hq with h1 | h1
    · exact S.sm q h1
    · obtain rfl : q = s := by simpa using h1
      exact hs, Pr_low hl S.low S.size, S.cd⟩
end
theorem k012_tt {c : Int} : ∀ x, K012 x → TT c x := fun x hx => by rcases hx with h | h | h <;> exact .inr (.inr (.inr (by omega)))
theorem k012_100 : ¬ K012 (-100) := fun h => by rcases h with h | h | h <;> omega
/-- New blocks are given a label. -/
theorem Lt.new {w w' : World} {f : Nat → Int} {T : Int → Prop} (h : Tn w w' (fun k => T (f k))) (x : Int) : ∃ f', Lt w f w' f' T ∧ ∀ k, w.heap.size ≤ k → f' k = x :=
  ⟨fun k => if k < w.heap.size then f k else x, ⟨h, fun k hk => if_pos hk⟩, fun k hk => if_neg (by omega)⟩
theorem sl_nil (w : World) (P : Nat) : SlOwn w P ⟨none, 0, 0, []⟩ := own_nil w P 3 (Ei .i64).sz
theorem tt_100 {c d : Int} (h : c = -1 ∧ d = -4 ∨ c = -4 ∧ d = -1) : ¬ TT c (-100) := fun e => by unfold TT at e; omega
end Go.Proofs.Ytohopfbacfddbaa.S
