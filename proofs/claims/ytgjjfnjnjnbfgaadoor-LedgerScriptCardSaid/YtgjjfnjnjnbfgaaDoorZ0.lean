/- The texts of this claim, put together by program, what it does not name left out: part 0. Conditions: each theorem's own. -/
import Derived.Below
import Derived.Deep.Draws
import Derived.Deep.AppendLies
import Derived.Maps.AppendAt
import Derived.OwnWalk
import Derived.Laws.MakeOwn
import Derived.Laws.OwnMore
import Derived.Deep.OwnRows
import Derived.Tactics
import Derived.Laws.Slices
import Derived.WalkKit
import Derived.KernelRfl
import Derived.RowKit3
import Derived.Deep.LoopGhost
import Derived.Deep.QuietTactic
import Derived.BigQuiet
import Derived.WideLaws
import Derived.Deep.RegionHeld3
import Derived.Deep.RegionLaw
import Derived.Laws.Rows
import Derived.ArgAppend
import Derived.Laws.IdiomCopy
import Derived.OrdersHeld
import Derived.Laws.BitsLemmas
import Derived.RowKit
import Derived.RegionTactic
import Derived.BigRegion
import Derived.ChangeAlike
import Derived.LoopN
import Derived.Laws.CopyOwn
import Derived.Outline
import Derived.Laws.BytesArg
import Derived.Lib.ConvBytes
import Derived.Deep.DeepCutAuto
import Derived.Deep.CutBlock
import Derived.Lib.AppendStr
import Derived.Laws.StructEq
import Derived.SizedLaws
import Derived.ChangeSlices
import Derived.WalkMore
import Derived.ScopeJumps
import Derived.WalkSpells
import Derived.Deep.Slices
import Derived.Deep.Fields
import Derived.ChangeSame
import Derived.ProofKit
import Derived.LaidMore
import Derived.OpenShut
import Derived.ChangeArms
import Derived.Stop.Joined
import Derived.ShutString
import Derived.ChangeOld
import Derived.SevenTiedAt
import Derived.Lib.SmallJoins
import Derived.Test.YtgjjfnjnjnbfgaaDoorRows
import Derived.Test.YtgjjfnjnjnbfgaaDoorTie
import Derived.Test.YtgjjfnjnjnbfgaaDoorCards
import Derived.Test.YtgjjfnjnjnbfgaaDoorProg
set_option linter.unusedVariables false
set_option linter.unusedSimpArgs false
namespace Go.Proofs.YtgjjfnjnjnbfgaaDoorW.PrintWords
open Go.RowKit
structure Aside0 (p : Prop) : Prop where mk :: (out : p)
structure Drawn0 (w w' : World) : Prop where mk :: (out : ∃ n,w' = w.drewN n)
theorem Drawn0.refl (w : World) : Drawn0 w w:=⟨⟨0,rfl⟩⟩
theorem Drawn0.step {w w' : World} (h : Drawn0 w w') (n : Nat) : Drawn0 w (w'.drewN n):=by
  obtain ⟨m,rfl⟩:=h
  exact ⟨⟨m + n,World.drewN_drewN ..⟩⟩
theorem Drawn0.grown {w w' : World} (h : Drawn0 w w') : Grown w w':=by
  obtain ⟨n,rfl⟩:=h
  induction n with
  | zero => exact Grown.refl _
  | succ n ih => rw [← World.drew_drewN];exact Grown.drew ih
theorem Drawn0.below {w w' : World} (h : Drawn0 w w') : Below w.heap.size w w':=by
  obtain ⟨n,rfl⟩:=h
  induction n with
  | zero => exact Below.refl _ _
  | succ n ih => rw [← World.drew_drewN];exact ih.drew
def rd (xs : List Int) (i : Int) : Int:=xs.getD i.toNat 0
def nums (k : IntKind) (xs : List Int) : List Value:=xs.map fun x => .int k x
theorem below_alloc {w W : World} (h : Below w.heap.size w W) (o : Obj) : Below w.heap.size w (W.alloc o):=h.alloc h.size o
theorem below_drew {B : Nat} {w W : World} (h : Below B w W) : Below B w W.drew:=⟨h.os,h.tape,h.output,h.size,h.block⟩
theorem pw_below_drewN {B : Nat} {w W : World} (h : Below B w W) (n : Nat) : Below B w (W.drewN n):=⟨h.os,h.tape,h.output,h.size,h.block⟩
theorem below_then {B : Nat} {w w1 w2 : World} (h : Below B w w1) (hB : B ≤ w1.heap.size) (k : Below w1.heap.size w1 w2) : Below B w w2:=
  h.trans ⟨k.os,k.tape,k.output,k.size,fun i hi => k.block i (Nat.lt_of_lt_of_le hi hB)⟩
theorem grown_of_below {w w1 : World} (h : Below w.heap.size w w1) (row : Option Nat) : w.grownBy w1 row:=⟨h.os,h.tape,h.output,h.size,fun i hi _ => h.block i hi⟩
theorem pw_cell_below {w w1 : World} (h : Below w.heap.size w w1) {a : Addr} {v : Value} (hc : w.cell? a = some v) : w1.cell? a = some v:=(h.cell (World.block_lt_of_cell? w a hc)).trans hc
def ReadsInt (w : World) (k : IntKind) (A : Option Addr) (n : Nat) (xs : List Int) : Prop:=
  xs.length = n ∧ n ≤ 9223372036854775807 ∧ (0 < n → ∃ ad,A = some ad ∧ ∀ j,j < n → w.cell? (ad.add j) = some (.int k (xs.getD j 0)))
theorem ReadsInt.at_ {w : World} {k : IntKind} {A : Option Addr} {n : Nat} {xs : List Int} (h : ReadsInt w k A n xs) (i : Int) (h0 : 0 ≤ i) (h1 : i < n) : ∃ ad,A = some ad ∧ w.cell? (ad.add i.toNat) = some (.int k (rd xs i)):=by
  obtain ⟨ad,e,hc⟩:=h.2.2 (by omega)
  exact ⟨ad,e,hc _ (by omega)⟩
theorem ReadsInt.below {w w1 : World} {k : IntKind} {A : Option Addr} {n : Nat} {xs : List Int} (h : ReadsInt w k A n xs) (hb : Below w.heap.size w w1) : ReadsInt w1 k A n xs:=
  ⟨h.1,h.2.1,fun hn => by
    obtain ⟨ad,e,hc⟩:=h.2.2 hn
    exact ⟨ad,e,fun j hj => pw_cell_below hb (hc j hj)⟩⟩
theorem own_nil (W : World) (base : Nat) (e : TypeId) (size : Nat) : W.ownsRow base e size (.slice none 0 0) 0 []:=⟨by simp,.inl ⟨rfl,rfl⟩⟩
theorem own_base {w : World} {base : Nat} {e : TypeId} {size n : Nat} {v : Value} {xs : List Value} (h : w.ownsRow base e size v n xs) (k : Nat) (hk : v.ownBlock = some k) : base ≤ k:=by
  rcases h.2 with ⟨rfl,_⟩ | ⟨g,cap,cur,rfl,hb,_⟩
  · simp [Value.ownBlock] at hk
  · have : g = k:=by simpa [Value.ownBlock] using hk
    omega
theorem own_lt {w : World} {base : Nat} {e : TypeId} {size n : Nat} {v : Value} {xs : List Value} (h : w.ownsRow base e size v n xs) (k : Nat) (hk : v.ownBlock = some k) : k < w.heap.size:=by
  rcases h.2 with ⟨rfl,_⟩ | ⟨g,cap,cur,rfl,hb,hh,_⟩
  · simp [Value.ownBlock] at hk
  · have : g = k:=by simpa [Value.ownBlock] using hk
    subst this
    exact (Array.getElem?_eq_some_iff.1 hh).1
theorem pw_own_below {w w1 : World} {base : Nat} {e : TypeId} {size n : Nat} {v : Value} {xs : List Value} (h : w.ownsRow base e size v n xs) (hb : Below w.heap.size w w1) : w1.ownsRow base e size v n xs:=
  h.kept (grown_of_below hb none) (by cases v.ownBlock <;> simp)
section
variable {P : Program} {ops : Array Oper} {rest : List Oper} {o : Oper} {a : Act} {Q : Exit → Act → World → Prop}
end
section
variable {P : Program}
end
theorem own_store {W : World} {base g n cap : Nat} {e : TypeId} {k : IntKind} {xs : List Int} (h : W.ownsRow base e 1 (.slice (some ⟨g,0,none⟩) n cap) n (nums k xs)) (i x : Int) :
    (W.setCell ⟨g,i.toNat,none⟩ (.int k x)).ownsRow base e 1 (.slice (some ⟨g,0,none⟩) n cap) n (nums k (xs.set i.toNat x)) ∧ W.grownBy (W.setCell ⟨g,i.toNat,none⟩ (.int k x)) (some g):=by
  have hs:=h.stored i.toNat (.int k x)
  have he : (nums k xs).set i.toNat (.int k x) = nums k (xs.set i.toNat x):=by simp [nums,List.map_set]
  rwa [he] at hs
def bytesOf (s : ByteArray) : List Int:=s.data.toList.map fun b => (b.toNat : Int)
theorem ReadsInt.take_ {w : World} {k : IntKind} {A : Option Addr} {n : Nat} {xs : List Int} (h : ReadsInt w k A n xs) (i : Nat) (hi : i ≤ n) : ReadsInt w k A i (xs.take i):=by
  refine ⟨by rw [List.length_take,h.1];omega,by have:=h.2.1;omega,fun hp => ?_⟩
  obtain ⟨ad,e,hc⟩:=h.2.2 (by omega)
  refine ⟨ad,e,fun j hj => ?_⟩
  rw [hc j (by omega)]
  simp [List.getD_eq_getElem?_getD,hj]
def LeO {α : Type} (a b : Option α) : Prop:=∀ r,a = some r → b = some r
theorem LeO.refl {α : Type} (a : Option α) : LeO a a:=fun _ h => h
theorem LeO.none {α : Type} (b : Option α) : LeO Option.none b:=fun _ h => by cases h
theorem LeO.trans {α : Type} {a b c : Option α} (h : LeO a b) (k : LeO b c) : LeO a c:=fun r hr => k r (h r hr)
theorem LeO.ite {α : Type} {c : Prop} [Decidable c] {a a' b b' : Option α} (h : LeO a a') (k : LeO b b') : LeO (if c then a else b) (if c then a' else b'):=by
  split
  · exact h
  · exact k
theorem LeO.bind {α β : Type} {a a' : Option α} {f f' : α → Option β} (h : LeO a a') (k : ∀ x,LeO (f x) (f' x)) : LeO (a.bind f) (a'.bind f'):=by
  intro r hr
  obtain ⟨x,hx,hf⟩:=Option.bind_eq_some_iff.1 hr
  exact Option.bind_eq_some_iff.2 ⟨x,h x hx,k x r hf⟩
theorem LeO.map {α β : Type} {a a' : Option α} (f : α → β) (h : LeO a a') : LeO (a.map f) (a'.map f):=by
  intro r hr
  obtain ⟨x,hx,hf⟩:=Option.map_eq_some_iff.1 hr
  exact Option.map_eq_some_iff.2 ⟨x,h x hx,hf⟩
def Reps {α : Type} (R : α → List Value → Prop) (size : Nat) (ps : List α) (cs : List Value) : Prop:=
  cs.length = ps.length * size ∧ ∀ j p,ps[j]? = some p → R p ((cs.drop (j * size)).take size)
theorem Reps.none {α : Type} (R : α → List Value → Prop) (size : Nat) : Reps R size [] []:=⟨by simp,fun j p h => by simp at h⟩
theorem Reps.imp_ {α : Type} {R R' : α → List Value → Prop} {size : Nat} {ps : List α} {cs : List Value} (h : Reps R size ps cs) (hR : ∀ p c,R p c → R' p c) : Reps R' size ps cs:=⟨h.1,fun j p hj => hR _ _ (h.2 j p hj)⟩
def ReadsRow {α : Type} (R : α → List Value → Prop) (size : Nat) (w : World) (A : Option Addr) (n : Nat) (ps : List α) : Prop:=
  ps.length = n ∧ n ≤ 9223372036854775807 ∧ (0 < n → ∃ ad,A = some ad ∧ ∀ j p,ps[j]? = some p → ∃ c,c.length = size ∧ R p c ∧ ∀ i u,c[i]? = some u → w.cell? (ad.add (j * size + i)) = some u)
theorem ReadsRow.imp_ {α : Type} {R R' : α → List Value → Prop} {size : Nat} {w w1 : World} {A : Option Addr} {n : Nat} {ps : List α} (h : ReadsRow R size w A n ps) (hb : Below w.heap.size w w1) (hR : ∀ p c,R p c → R' p c) : ReadsRow R' size w1 A n ps:=
  ⟨h.1,h.2.1,fun hn => by
    obtain ⟨ad,e,hc⟩:=h.2.2 hn
    refine ⟨ad,e,fun j p hj => ?_⟩
    obtain ⟨c,hs,hr,hcell⟩:=hc j p hj
    exact ⟨c,hs,hR _ _ hr,fun i u hu => pw_cell_below hb (hcell i u hu)⟩⟩
theorem own_reads_row {α : Type} {R : α → List Value → Prop} {w : World} {base n size : Nat} {e : TypeId} {v : Value} {ps : List α} {cs : List Value} (h : w.ownsRow base e size v n cs) (hR : Reps R size ps cs) (hn : ps.length = n) :
    ∃ A c,v = .slice A n c ∧ ReadsRow R size w A n ps:=by
  rcases Nat.eq_zero_or_pos n with h0 | h0
  · rcases h.2 with ⟨rfl,rfl⟩ | ⟨g,cap,cur,rfl,_⟩
    · exact ⟨none,0,rfl,hn,by omega,fun hp => absurd hp (by omega)⟩
    · exact ⟨_,cap,rfl,hn,by omega,fun hp => absurd hp (by omega)⟩
  · obtain ⟨g,cap,rfl,_,_⟩:=h.form h0
    have hm : n ≤ 9223372036854775807:=by
      rcases h.2 with ⟨_,h1⟩ | ⟨g',cap',cur,he,_,_,h1,h2,_⟩
      · omega
      · simp only [maxLen] at h2
        omega
    refine ⟨_,cap,rfl,hn,hm,fun _ => ⟨_,rfl,fun j p hj => ⟨(cs.drop (j * size)).take size,?_,hR.2 j p hj,fun i u hu => ?_⟩⟩⟩
    · have hjl:=(List.getElem?_eq_some_iff.1 hj).1
      have h1 : j * size + size ≤ cs.length:=by rw [hR.1,← Nat.succ_mul];exact Nat.mul_le_mul_right _ hjl
      rw [List.length_take,List.length_drop]
      omega
    · refine h.cells (g:=g) rfl _ u ?_
      rw [List.getElem?_take] at hu
      split at hu
      · rw [List.getElem?_drop] at hu
        exact hu
      · cases hu
section
variable {P : Program} {ops : Array Oper} {rest : List Oper} {o : Oper} {a : Act} {Q : Exit → Act → World → Prop}
end
theorem blk_set {w : World} {g : Nat} {t : TypeId} {cs : Array Value} (h : w.heap[g]? = some (.cells cs t (0,0))) (i : Nat) (u : Value) : (w.setCell ⟨g,i,none⟩ u).heap[g]? = some (.cells (cs.setIfInBounds i u) t (0,0)):=by
  simp [World.setCell,Array.getElem?_modify,h]
theorem blk_far {w : World} {g : Nat} {t : TypeId} {cs : Array Value} (h : w.heap[g]? = some (.cells cs t (0,0))) {p : Addr} (hp : g ≠ p.block) (u : Value) : (w.setCell p u).heap[g]? = some (.cells cs t (0,0)):=(Below.heap_setCell w p u g hp).trans h
theorem blk_lt {w : World} {g : Nat} {o : Obj} (h : w.heap[g]? = some o) : g < w.heap.size:=(Array.getElem?_eq_some_iff.1 h).1
theorem blk_cell {w : World} {g : Nat} {t : TypeId} {cs : Array Value} (h : w.heap[g]? = some (.cells cs t (0,0))) (i : Nat) : w.cell? ⟨g,i,none⟩ = cs[i]?:=cell_of_row w g i cs t (0,0) h
theorem blk_frozen {w : World} {g : Nat} {t : TypeId} {cs : Array Value} (h : w.heap[g]? = some (.cells cs t (0,0))) (i : Nat) : w.frozen? ⟨g,i,none⟩ = false:=by simp [World.frozen?,h]
theorem own_weaken {w : World} {base base' : Nat} {e : TypeId} {size n : Nat} {v : Value} {xs : List Value} (h : w.ownsRow base e size v n xs) (hb : base' ≤ base) : w.ownsRow base' e size v n xs:=by
  obtain ⟨h1,h2⟩:=h
  refine ⟨h1,?_⟩
  rcases h2 with h2 | ⟨g,cap,cur,rfl,hg,r⟩
  · exact .inl h2
  · exact .inr ⟨g,cap,cur,rfl,Nat.le_trans hb hg,r⟩
section
variable {α : Type} {enc : α → Value} {d : α}
def rdOf (d : α) (xs : List α) (i : Int) : α:=xs.getD i.toNat d
def ReadsOf (enc : α → Value) (d : α) (w : World) (A : Option Addr) (n : Nat) (xs : List α) : Prop:=
  xs.length = n ∧ n ≤ 9223372036854775807 ∧ (0 < n → ∃ ad,A = some ad ∧ ∀ j,j < n → w.cell? (ad.add j) = some (enc (xs.getD j d)))
theorem ReadsOf.at_ {w : World} {A : Option Addr} {n : Nat} {xs : List α} (h : ReadsOf enc d w A n xs) (i : Int) (h0 : 0 ≤ i) (h1 : i < n) : ∃ ad,A = some ad ∧ w.cell? (ad.add i.toNat) = some (enc (rdOf d xs i)):=by
  obtain ⟨ad,e,hc⟩:=h.2.2 (by omega)
  exact ⟨ad,e,hc _ (by omega)⟩
theorem ReadsOf.below {w w1 : World} {A : Option Addr} {n : Nat} {xs : List α} (h : ReadsOf enc d w A n xs) (hb : Below w.heap.size w w1) : ReadsOf enc d w1 A n xs:=
  ⟨h.1,h.2.1,fun hn => by
    obtain ⟨ad,e,hc⟩:=h.2.2 hn
    exact ⟨ad,e,fun j hj => pw_cell_below hb (hc j hj)⟩⟩
theorem ReadsOf.take_ {w : World} {A : Option Addr} {n : Nat} {xs : List α} (h : ReadsOf enc d w A n xs) (i : Nat) (hi : i ≤ n) : ReadsOf enc d w A i (xs.take i):=by
  refine ⟨by rw [List.length_take,h.1];omega,by have:=h.2.1;omega,fun hp => ?_⟩
  obtain ⟨ad,e,hc⟩:=h.2.2 (by omega)
  refine ⟨ad,e,fun j hj => ?_⟩
  rw [hc j (by omega)]
  simp [List.getD_eq_getElem?_getD,hj]
end
theorem blk_alloc {w : World} {g : Nat} {o : Obj} (h : w.heap[g]? = some o) (o' : Obj) : (w.alloc o').heap[g]? = some o:=(Below.heap_alloc w o' g (blk_lt h)).trans h
theorem blk_drew {w : World} {g : Nat} {o : Obj} (h : w.heap[g]? = some o) : w.drew.heap[g]? = some o:=h
theorem blk_drewN {w : World} {g : Nat} {o : Obj} (h : w.heap[g]? = some o) (n : Nat) : (w.drewN n).heap[g]? = some o:=h
theorem blk_below {w w1 : World} {g : Nat} {o : Obj} (h : w.heap[g]? = some o) (hb : Below w.heap.size w w1) : w1.heap[g]? = some o:=(hb.block g (blk_lt h)).trans h
theorem blk_new (w : World) (o : Obj) : (w.alloc o).heap[w.heap.size]? = some o:=heap_alloc_new w o
section
variable {P : Program}
theorem results_ct {fn : Func} {p u : Tmp} {ty : TypeId} (h : fn.results = #[.cell p ty,.tmp u]) (tmps : Array Value) (w : World) (g : Nat) (t : TypeId) (cs : Array Value) (fr : Nat × Nat) (d : TypeDesc)
    (hp : tmps.getD p undef = .pointer (some ⟨g,0,none⟩)) (hg : w.heap[g]? = some (.cells cs t fr))
    (hu : P.underlying ty = some d) (hd : (match d with | .struct _ | .array _ _ => true | _ => false) = true) (hi : (P.info? ty).map (·.size) = some cs.size) :
    (results fn tmps).run P w = .ok (.tuple #[.agg cs,tmps.getD u undef]) w:=by
  have hp' : tmps[p]?.getD undef = .pointer (some ⟨g,0,none⟩):=by simpa using hp
  simp [results,h,hp',asAddr,run_loadVar_row w g t ty cs fr d hg hu hd hi]
theorem results_cc {fn : Func} {p p' : Tmp} {ty ty' : TypeId} (h : fn.results = #[.cell p ty,.cell p' ty']) (tmps : Array Value) (w : World) (g g' : Nat) (t t' : TypeId) (cs cs' : Array Value) (fr fr' : Nat × Nat) (d d' : TypeDesc)
    (hp : tmps.getD p undef = .pointer (some ⟨g,0,none⟩)) (hg : w.heap[g]? = some (.cells cs t fr))
    (hu : P.underlying ty = some d) (hd : (match d with | .struct _ | .array _ _ => true | _ => false) = true) (hi : (P.info? ty).map (·.size) = some cs.size)
    (hp' : tmps.getD p' undef = .pointer (some ⟨g',0,none⟩)) (hg' : w.heap[g']? = some (.cells cs' t' fr'))
    (hu' : P.underlying ty' = some d') (hd' : (match d' with | .struct _ | .array _ _ => true | _ => false) = true) (hi' : (P.info? ty').map (·.size) = some cs'.size) :
    (results fn tmps).run P w = .ok (.tuple #[.agg cs,.agg cs']) w:=by
  have h1 : tmps[p]?.getD undef = .pointer (some ⟨g,0,none⟩):=by simpa using hp
  have h2 : tmps[p']?.getD undef = .pointer (some ⟨g',0,none⟩):=by simpa using hp'
  simp [results,h,h1,h2,asAddr,run_loadVar_row w g t ty cs fr d hg hu hd hi,run_loadVar_row w g' t' ty' cs' fr' d' hg' hu' hd' hi']
theorem results_ctt {fn : Func} {p u v : Tmp} {ty : TypeId} (h : fn.results = #[.cell p ty,.tmp u,.tmp v]) (tmps : Array Value) (w : World) (g : Nat) (t : TypeId) (cs : Array Value) (fr : Nat × Nat) (d : TypeDesc)
    (hp : tmps.getD p undef = .pointer (some ⟨g,0,none⟩)) (hg : w.heap[g]? = some (.cells cs t fr))
    (hu : P.underlying ty = some d) (hd : (match d with | .struct _ | .array _ _ => true | _ => false) = true) (hi : (P.info? ty).map (·.size) = some cs.size) :
    (results fn tmps).run P w = .ok (.tuple #[.agg cs,tmps.getD u undef,tmps.getD v undef]) w:=by
  have hp' : tmps[p]?.getD undef = .pointer (some ⟨g,0,none⟩):=by simpa using hp
  simp [results,h,hp',asAddr,run_loadVar_row w g t ty cs fr d hg hu hd hi]
end
theorem own_le {w : World} {base n m c size : Nat} {e : TypeId} {A : Option Addr} {xs : List Value} (h : w.ownsRow base e size (.slice A m c) n xs) : m ≤ c:=by
  rcases h.2 with ⟨he,_⟩ | ⟨g,cap,cur,he,_,_,hnc,_⟩
  · injection he with _ h2 h3
    omega
  · injection he with _ h2 h3
    omega
def OwnRow {α : Type} (R : α → List Value → Prop) (e : TypeId) (size : Nat) (w : World) (base : Nat) (v : Value) (ps : List α) : Prop:=
  ∃ inner,w.ownsRow base e size v ps.length inner ∧ Reps R size ps inner
section
variable {α : Type} {R R' : α → List Value → Prop} {e : TypeId} {size : Nat} {w w1 : World} {base : Nat} {v : Value} {ps : List α}
theorem OwnRow.imp_ (h : OwnRow R e size w base v ps) (hR : ∀ p c,R p c → R' p c) : OwnRow R' e size w base v ps:=by
  obtain ⟨inner,ho,hr⟩:=h
  exact ⟨inner,ho,hr.imp_ hR⟩
theorem OwnRow.below (h : OwnRow R e size w base v ps) (hb : Below w.heap.size w w1) : OwnRow R e size w1 base v ps:=by
  obtain ⟨inner,ho,hr⟩:=h
  exact ⟨inner,pw_own_below ho hb,hr⟩
theorem OwnRow.reads (h : OwnRow R e size w base v ps) : ∃ A c,v = .slice A ps.length c ∧ ps.length ≤ c ∧ ReadsRow R size w A ps.length ps:=by
  obtain ⟨inner,ho,hr⟩:=h
  obtain ⟨A,c,rfl,hrow⟩:=own_reads_row ho hr rfl
  exact ⟨A,c,rfl,own_le ho,hrow⟩
end
section
variable {P : Program} {ops : Array Oper} {rest : List Oper} {o : Oper} {a : Act} {Q : Exit → Act → World → Prop} {α : Type} {R : α → List Value → Prop}
end
structure Kd (α : Type) where
  sz : Nat
  E : List Nat
  K : World → α → List Value → Prop
  M : World → Nat → (Nat → Prop) → α → List Value → Prop
  K_len : ∀ {w x cs},K w x cs → cs.length = sz
  K_one : ∀ {w x cs},K w x cs → ∀ u ∈ cs,u.oneCell' = true
  K_below : ∀ {w w1 : World} {x cs},Below w.heap.size w w1 → K w x cs → K w1 x cs
  K_of_M : ∀ {w base ok x cs},M w base ok x cs → K w x cs
  M_mono : ∀ {w base ok ok' x cs},(∀ k,ok k → ok' k) → M w base ok x cs → M w base ok' x cs
  M_bound : ∀ {w : World} {base ok x cs},M w base ok x cs → M w base (fun k => ok k ∧ base ≤ k ∧ k < w.heap.size ∧ ∃ q,q ∈ E ∧ ∃ cells,w.heap[k]? = some (.cells cells q (0,0))) x cs
  M_move : ∀ {w w1 : World} {base ok x cs},(∀ k,ok k → w1.heap[k]? = w.heap[k]?) → M w base ok x cs → M w1 base ok x cs
  M_lower : ∀ {w base base' ok x cs},base' ≤ base → M w base ok x cs → M w base' ok x cs
theorem own_move {w w1 : World} {base : Nat} {e : TypeId} {size n : Nat} {v : Value} {xs : List Value} (h : w.ownsRow base e size v n xs) (hm : ∀ k,v.ownBlock = some k → w1.heap[k]? = w.heap[k]?) : w1.ownsRow base e size v n xs:=by
  obtain ⟨h1,h2⟩:=h
  refine ⟨h1,?_⟩
  rcases h2 with h2 | ⟨g,cap,cur,rfl,hg,hh,r⟩
  · exact .inl h2
  · exact .inr ⟨g,cap,cur,rfl,hg,(hm g (by simp [Value.ownBlock])).trans hh,r⟩
theorem own_typed {w : World} {base : Nat} {e : TypeId} {size n : Nat} {v : Value} {xs : List Value} (h : w.ownsRow base e size v n xs) (k : Nat) (hk : v.ownBlock = some k) : ∃ cells,w.heap[k]? = some (.cells cells e (0,0)):=by
  rcases h.2 with ⟨rfl,_⟩ | ⟨g,cap,cur,rfl,hg,hh,r⟩
  · simp [Value.ownBlock] at hk
  · have : g = k:=by simpa [Value.ownBlock] using hk
    subst this
    exact ⟨cur,hh⟩
namespace Kd
def C {α : Type} (d : Kd α) (w : World) (A : Option Addr) (n : Nat) (xs : List α) : Prop:=ReadsRow (d.K w) d.sz w A n xs
def R {α : Type} (d : Kd α) (e : Nat) (w : World) (base : Nat) (ok : Nat → Prop) (v : Value) (xs : List α) : Prop:=
  (∀ k,v.ownBlock = some k → ok k) ∧ OwnRow (d.M w base (fun k => ok k ∧ some k ≠ v.ownBlock)) e d.sz w base v xs
section
variable {α : Type} {d : Kd α} {e : Nat} {w w1 : World} {base : Nat} {ok ok' : Nat → Prop} {v : Value} {xs : List α}
theorem C_below {A : Option Addr} {n : Nat} (h : d.C w A n xs) (hb : Below w.heap.size w w1) : d.C w1 A n xs:=ReadsRow.imp_ h hb (fun _ _ hp => d.K_below hb hp)
theorem R_mono (h : d.R e w base ok v xs) (hok : ∀ k,ok k → ok' k) : d.R e w base ok' v xs:=⟨fun k hk => hok k (h.1 k hk),h.2.imp_ (fun _ _ hp => d.M_mono (fun k hk => ⟨hok k hk.1,hk.2⟩) hp)⟩
theorem R_bound (h : d.R e w base ok v xs) : d.R e w base (fun k => ok k ∧ base ≤ k ∧ k < w.heap.size ∧ ∃ q,q ∈ e :: d.E ∧ ∃ cells,w.heap[k]? = some (.cells cells q (0,0))) v xs:=by
  obtain ⟨h0,inner,ho,hr⟩:=h
  refine ⟨fun k hk => ?_,inner,ho,hr.imp_ (fun _ _ hp => d.M_mono (fun k hk => ?_) (d.M_bound hp))⟩
  · obtain ⟨cells,hc⟩:=own_typed ho k hk
    exact ⟨h0 k hk,own_base ho k hk,own_lt ho k hk,e,List.mem_cons_self,cells,hc⟩
  · obtain ⟨⟨h1,h2⟩,h3,h4,q,hq,hc⟩:=hk
    exact ⟨⟨h1,h3,h4,q,List.mem_cons_of_mem _ hq,hc⟩,h2⟩
theorem R_move (h : d.R e w base ok v xs) (hm : ∀ k,ok k → w1.heap[k]? = w.heap[k]?) : d.R e w1 base ok v xs:=by
  obtain ⟨h0,inner,ho,hr⟩:=h
  exact ⟨h0,inner,own_move ho (fun k hk => hm k (h0 k hk)),hr.imp_ (fun _ _ hp => d.M_move (fun k hk => hm k hk.1) hp)⟩
theorem R_lower {base' : Nat} (h : d.R e w base ok v xs) (hb : base' ≤ base) : d.R e w base' ok v xs:=by
  obtain ⟨h0,inner,ho,hr⟩:=h
  exact ⟨h0,inner,own_weaken ho hb,hr.imp_ (fun _ _ hp => d.M_lower hb hp)⟩
theorem R_step (h : d.R e w base ok v xs) (hm : ∀ k,ok k → k < w.heap.size → w1.heap[k]? = w.heap[k]?) : d.R e w1 base ok v xs:=
  R_mono (R_move (R_bound h) (fun k hk => hm k hk.1 hk.2.2.1)) (fun _ hk => hk.1)
theorem M_step {x : α} {cs : List Value} (h : d.M w base ok x cs) (hm : ∀ k,ok k → k < w.heap.size → w1.heap[k]? = w.heap[k]?) : d.M w1 base ok x cs:=
  d.M_mono (fun _ hk => hk.1) (d.M_move (fun k hk => hm k hk.1 hk.2.2.1) (d.M_bound h))
theorem R_below (h : d.R e w base ok v xs) (hb : Below w.heap.size w w1) : d.R e w1 base ok v xs:=R_step h (fun k _ hk => hb.block k hk)
theorem M_below {x : α} {cs : List Value} (h : d.M w base ok x cs) (hb : Below w.heap.size w w1) : d.M w1 base ok x cs:=M_step h (fun k _ hk => hb.block k hk)
theorem R_reads (h : d.R e w base ok v xs) : ∃ A c,v = .slice A xs.length c ∧ xs.length ≤ c ∧ d.C w A xs.length xs:=by
  obtain ⟨A,c,he,hl,hr⟩:=OwnRow.reads h.2
  exact ⟨A,c,he,hl,hr.imp_ (Below.refl _ _) (fun _ _ hp => d.K_of_M hp)⟩
theorem R_slice (h : d.R e w base ok v xs) : ∃ A c,v = .slice A xs.length c:=by
  obtain ⟨A,c,he,_⟩:=R_reads h
  exact ⟨A,c,he⟩
end
def scalar {α : Type} (enc : α → Value) (h1 : ∀ x,(enc x).oneCell' = true) : Kd α where
  sz:=1
  E:=[]
  K:=fun _ x cs => cs = [enc x]
  M:=fun _ _ _ x cs => cs = [enc x]
  K_len:=fun h => by rw [h];rfl
  K_one:=fun h u hu => by
    rw [h] at hu
    rw [List.mem_singleton.1 hu]
    exact h1 _
  K_below:=fun _ h => h
  K_of_M:=fun h => h
  M_mono:=fun _ h => h
  M_bound:=fun h => h
  M_move:=fun _ h => h
  M_lower:=fun _ h => h
def int (k : IntKind) : Kd Int:=scalar (Value.int k) (fun _ => rfl)
def bool : Kd Bool:=scalar Value.bool (fun _ => rfl)
def slice {α : Type} (e : Nat) (d : Kd α) : Kd (List α) where
  sz:=1
  E:=e :: d.E
  K:=fun w xs cs => ∃ A c,cs = [.slice A xs.length c] ∧ xs.length ≤ c ∧ d.C w A xs.length xs
  M:=fun w base ok xs cs => ∃ v,cs = [v] ∧ d.R e w base ok v xs
  K_len:=by
    rintro w x cs ⟨A,c,rfl,_⟩
    rfl
  K_one:=by
    rintro w x cs ⟨A,c,rfl,_⟩ u hu
    rw [List.mem_singleton.1 hu]
    rfl
  K_below:=by
    rintro w w1 x cs hb ⟨A,c,rfl,hl,hr⟩
    exact ⟨A,c,rfl,hl,C_below hr hb⟩
  K_of_M:=by
    rintro w base ok x cs ⟨v,rfl,h⟩
    obtain ⟨A,c,rfl,hl,hr⟩:=R_reads h
    exact ⟨A,c,rfl,hl,hr⟩
  M_mono:=by
    rintro w base ok ok' x cs hok ⟨v,rfl,h⟩
    exact ⟨v,rfl,R_mono h hok⟩
  M_bound:=by
    rintro w base ok x cs ⟨v,rfl,h⟩
    exact ⟨v,rfl,R_bound h⟩
  M_move:=by
    rintro w w1 base ok x cs hm ⟨v,rfl,h⟩
    exact ⟨v,rfl,R_move h hm⟩
  M_lower:=by
    rintro w base base' ok x cs hb ⟨v,rfl,h⟩
    exact ⟨v,rfl,R_lower h hb⟩
theorem C_of_reads {α : Type} {enc : α → Value} {d : α} {h1 : ∀ x,(enc x).oneCell' = true} {w : World} {A : Option Addr} {n : Nat} {xs : List α} (h : ReadsOf enc d w A n xs) : (scalar enc h1).C w A n xs:=by
  refine ⟨h.1,h.2.1,fun hn => ?_⟩
  obtain ⟨ad,e,hc⟩:=h.2.2 hn
  refine ⟨ad,e,fun j p hj => ⟨[enc p],rfl,rfl,fun i u hu => ?_⟩⟩
  obtain ⟨hl,hp⟩:=List.getElem?_eq_some_iff.1 hj
  have h2:=hc j (by have:=h.1;omega)
  rw [List.getD_eq_getElem?_getD,hj] at h2
  cases i with
  | zero =>
    have : enc p = u:=by simpa using hu
    subst this
    simpa [scalar] using h2
  | succ i => simp at hu
theorem reads_of_C {α : Type} {enc : α → Value} {d : α} {h1 : ∀ x,(enc x).oneCell' = true} {w : World} {A : Option Addr} {n : Nat} {xs : List α} (h : (scalar enc h1).C w A n xs) : ReadsOf enc d w A n xs:=by
  refine ⟨h.1,h.2.1,fun hn => ?_⟩
  obtain ⟨ad,e,hc⟩:=h.2.2 hn
  refine ⟨ad,e,fun j hj => ?_⟩
  have hl : j < xs.length:=by have:=h.1;omega
  obtain ⟨c,_,hK,hcell⟩:=hc j _ (List.getElem?_eq_getElem hl)
  have hK' : c = [enc xs[j]]:=hK
  subst hK'
  have:=hcell 0 _ rfl
  simpa [scalar,List.getD_eq_getElem?_getD,List.getElem?_eq_getElem hl] using this
end Kd
namespace Kd
end Kd
namespace Kd
section
variable {α β : Type} {d : Kd α} {d' : Kd β} {e e' : Nat} {w w1 W : World} {base b b' : Nat} {ok ok' okv oku : Nat → Prop} {v u : Value} {xs : List α} {ys : List β}
theorem R_alloc (h : d.R e w base ok v xs) (o : Obj) : d.R e (w.alloc o) base ok v xs:=R_below h (below_alloc (Below.refl _ _) o)
theorem R_drew (h : d.R e w base ok v xs) : d.R e w.drew base ok v xs:=R_below h (below_drew (Below.refl _ _))
theorem R_drewN (h : d.R e w base ok v xs) (m : Nat) : d.R e (w.drewN m) base ok v xs:=R_below h (pw_below_drewN (Below.refl _ _) m)
theorem R_reads' {A : Option Addr} {n c : Nat} (h : d.R e w base ok (.slice A n c) xs) : n = xs.length ∧ n ≤ c ∧ d.C w A xs.length xs:=by
  obtain ⟨A',c',he,hl,hr⟩:=R_reads h
  injection he with h1 h2 h3
  subst h1
  exact ⟨h2,by omega,hr⟩
end
section
variable {w W : World} {A : Option Addr} {n : Nat}
theorem at_int {k : IntKind} {xs : List Int} (h : (Kd.int k).C w A n xs) (i : Int) (h0 : 0 ≤ i) (h1 : i < n) : ∃ ad,A = some ad ∧ w.cell? (ad.add i.toNat) = some (.int k (rd xs i)):=
  ReadsOf.at_ (reads_of_C (enc:=Value.int k) (d:=(0 : Int)) (h1:=fun _ => rfl) h) i h0 h1
variable {α : Type} {enc : α → Value} {h1 : ∀ x,(enc x).oneCell' = true} {e base g cap : Nat} {ok : Nat → Prop} {xs : List α}
end
section
variable {P : Program} {ops : Array Oper} {rest : List Oper} {o : Oper} {a : Act} {Q : Exit → Act → World → Prop}
theorem event_run {W w1 : World} {v : Value} (hgd : o.guard = none) (hrun : (execOp a.eval o).run P W = .ok (.value v) w1) (h : wpList P ops Q rest (a.put o.dst v) w1) : wpList P ops Q (o :: rest) a W:=by
  refine wpList_plain hgd fun K hK => ?_
  unfold Oper.wp
  rw [hrun]
  exact hK _ _ h
variable {α : Type}
theorem R_lit (d : Kd α) {w0 W : World} (base e : Nat) (hgd : o.guard = none) {N : Tmp} (_hd : o.dst = some N) {xs : List α} {inner : List Value} {ok okp : Nat → Prop}
    (hrun : (execOp a.eval o).run P W = .ok (.value (.slice (some ⟨W.heap.size,0,none⟩) xs.length xs.length)) (W.alloc (.cells inner.toArray e)))
    (hrep : Reps (d.M W base okp) d.sz xs inner) (hok : ∀ k,okp k → ok k) (hfresh : ok W.heap.size) (HB : Below base w0 W) (hbase : base ≤ W.heap.size) (hm : xs.length ≤ 9223372036854775807)
    (h : ∀ v1 w1,d.R e w1 base ok v1 xs → Below base w0 w1 → W.grownBy w1 none → (∃ b,v1.ownBlock = some b ∧ W.heap.size ≤ b) → wpList P ops Q rest (a.put o.dst v1) w1) : wpList P ops Q (o :: rest) a W:=by
  refine event_run hgd hrun (h _ _ ⟨fun k hk => ?_,inner,?_,?_⟩ (HB.alloc hbase _) (World.grownBy_alloc W _ none) ⟨W.heap.size,by simp [Value.ownBlock],Nat.le_refl _⟩)
  · have : W.heap.size = k:=by simpa [Value.ownBlock] using hk
    subst this
    exact hfresh
  · have h2:=World.ownsRow_lit (base:=base) (e:=e) (size:=d.sz) W inner.toArray xs.length hbase (by simpa [maxLen] using hm) (by simpa using hrep.1)
    simpa using h2
  · refine hrep.imp_ (fun p c hp => d.M_mono (fun k hk => ⟨hok k hk.1,fun he => ?_⟩) (M_below (d.M_bound hp) (below_alloc (Below.refl _ _) _)))
    have h3 : k = W.heap.size:=by simpa [Value.ownBlock] using he
    have:=hk.2.2.1
    omega
end
end Kd
section
variable {P : Program}
theorem cut_to (t e : TypeId) (kh : IntKind) {i : TypeInfo} (ht : P.underlying t = some (.slice e)) (hi : P.info? e = some i) (A : Option Addr) (n c : Nat) (j : Int) (h0 : 0 ≤ j) (hm : j ≤ n) (hc : n ≤ c) :
    ∀ W : World,(Instr.slice t (.slice A n c) none (some (.int kh j)) none).run P W = .ok (.slice A j.toNat c) W:=by
  intro W
  have hel : P.elem t = e:=by simp [Program.elem,ht]
  have hu : P.underlying t = some (.slice (P.elem t)):=by rw [hel];exact ht
  have ha : (A.map fun x => x.add 0) = A:=by cases A <;> simp [Addr.add]
  rw [run_slice_h W t A n c hu kh j h0 (by omega),hel]
  simp [sizeOf,typeInfo,hi,sliced,Result.andThen,ha]
end
def QRow (w : World) (base : Nat) (e : TypeId) (size : Nat) (v : Value) (n : Nat) (xs : List Value) : Prop:=
  xs.length = n * size ∧
  ((n = 0 ∧ ∃ A,v = .slice A 0 0 ∧ ∀ a,A = some a → base ≤ a.block ∧ ∃ cur,w.heap[a.block]? = some (.cells cur e (0,0))) ∨
   ∃ g off cap cur,v = .slice (some ⟨g,off * size,none⟩) n cap ∧ base ≤ g ∧ w.heap[g]? = some (.cells cur e (0,0)) ∧ n ≤ cap ∧ off + cap ≤ maxLen ∧ cur.size = (off + cap) * size ∧ (cur.toList.drop (off * size)).take (n * size) = xs)
section
variable {w w1 : World} {base n size : Nat} {e : TypeId} {v : Value} {xs : List Value}
end
namespace Kd
def Q {α : Type} (d : Kd α) (e : Nat) (w : World) (base : Nat) (ok : Nat → Prop) (v : Value) (xs : List α) : Prop:=
  (∀ k,v.ownBlock = some k → ok k) ∧ ∃ inner,QRow w base e d.sz v xs.length inner ∧ Reps (d.M w base (fun k => ok k ∧ some k ≠ v.ownBlock)) d.sz xs inner
section
variable {α : Type} {d : Kd α} {e : Nat} {w w1 W : World} {base : Nat} {ok ok' : Nat → Prop} {v : Value} {xs : List α}
end
end Kd
theorem add_add (a : Addr) (i j : Nat) : (a.add i).add j = a.add (i + j):=by
  unfold Addr.add
  by_cases h1 : i = 0 <;> by_cases h2 : j = 0 <;> simp [h1,h2,Nat.add_assoc]
theorem below_size {w W : World} (h : Below w.heap.size w W) : w.heap.size ≤ W.heap.size:=h.size
theorem below_step {w W w2 : World} (h : Below w.heap.size w W) (k : Below W.heap.size W w2) : Below w.heap.size w w2:=below_then h h.size k
theorem ReadsInt.nil (W : World) (k : IntKind) : ReadsInt W k none ([] : List Int).length []:=⟨rfl,by simp,fun h => absurd h (Nat.lt_irrefl 0)⟩
theorem ReadsInt.drewN {W : World} {k : IntKind} {A : Option Addr} {n : Nat} {xs : List Int} (h : ReadsInt W k A n xs) (m : Nat) : ReadsInt (W.drewN m) k A n xs:=h
theorem below_set {w W : World} {g j : Nat} {v : Value} (h : Below w.heap.size w W) (hg : w.heap.size ≤ g) : Below w.heap.size w (W.setCell ⟨g,j,none⟩ v):=h.setCell hg _
theorem add_block (a : Addr) (i : Nat) : (a.add i).block = a.block:=by unfold Addr.add;split <;> rfl
theorem ReadsOf.nil {α : Type} (enc : α → Value) (d : α) (W : World) : ReadsOf enc d W none ([] : List α).length []:=⟨rfl,by simp,fun h => absurd h (Nat.lt_irrefl 0)⟩
theorem ReadsOf.drewN {α : Type} {enc : α → Value} {d : α} {W : World} {A : Option Addr} {n : Nat} {xs : List α} (h : ReadsOf enc d W A n xs) (m : Nat) : ReadsOf enc d (W.drewN m) A n xs:=h
theorem cell_far {W : World} {p a : Addr} (h : a.block ≠ p.block) (u : Value) : (W.setCell p u).cell? a = W.cell? a:=by
  have:=Below.heap_setCell W p u a.block h
  simp [World.cell?,this]
theorem blk_put {w : World} {g : Nat} {t : TypeId} {cs cs' : Array Value} (h : w.heap[g]? = some (.cells cs t (0,0))) (i : Nat) (u : Value) (e : cs.setIfInBounds i u = cs') : (w.setCell ⟨g,i,none⟩ u).heap[g]? = some (.cells cs' t (0,0)):=e ▸ blk_set h i u
theorem own_put {W : World} {base g cap : Nat} {e : TypeId} {k : IntKind} {xs : List Int} (h : W.ownsRow base e 1 (.slice (some ⟨g,0,none⟩) xs.length cap) xs.length (nums k xs)) (i x : Int) :
    (W.setCell ⟨g,i.toNat,none⟩ (.int k x)).ownsRow base e 1 (.slice (some ⟨g,0,none⟩) xs.length cap) (xs.set i.toNat x).length (nums k (xs.set i.toNat x)):=by
  have:=(own_store h i x).1
  rwa [show (xs.set i.toNat x).length = xs.length by simp]
theorem below_drew1 {base : Nat} {w W : World} (h : Below base w W) : Below base w W.drew:=h.drew
namespace Kd
section
variable {α : Type} {d : Kd α} {e base g : Nat} {ok : Nat → Prop} {w w1 : World} {v : Value} {xs : List α} {o : Obj}
end
end Kd
section
variable {P : Program} {ops : Array Oper} {rest : List Oper} {o : Oper} {a : Act} {Q : Exit → Act → World → Prop}
theorem box_event {W : World} (hgd : o.guard = none) {N : Tmp} (_hd : o.dst = some N) {cs : Array Value} {t : TypeId}
    (hrun : (execOp a.eval o).run P W = .ok (.value (.pointer (some ⟨W.heap.size,0,none⟩))) (W.alloc (.cells cs t (0,0))))
    (h : ∀ g,g = W.heap.size → ∀ w1,w1.heap[g]? = some (.cells cs t (0,0)) → Below W.heap.size W w1 → wpList P ops Q rest (a.put o.dst (.pointer (some ⟨g,0,none⟩))) w1) : wpList P ops Q (o :: rest) a W:=
  Kd.event_run hgd hrun (h _ rfl _ (blk_new W _) (below_alloc (Below.refl _ _) _))
end
section
variable {P : Program} {ops : Array Oper} {rest : List Oper} {o : Oper} {a : Act} {Q : Exit → Act → World → Prop} {W : World}
theorem gate_dst {N : Tmp} (_hN : o.dst = some N) (h : wpList P ops Q (o :: rest) a W) : wpList P ops Q (o :: rest) a W:=h
end
section
variable {P : Program} {ops : Array Oper} {o : Oper} {a : Act} {Q : Exit → Act → World → Prop} {Kc : Act → World → Prop}
theorem event_step {W w1 : World} {v : Value} (hw : Region.wanted o (yielded ops a.tmps) = true) (hrun : (execOp a.eval o).run P W = .ok (.value v) w1) (h : Kc (a.put o.dst v) w1) : if Region.wanted o (yielded ops a.tmps) = true then Oper.wp P o a W Kc Q else Kc (a.put o.dst undef) W:=by
  rw [if_pos hw]
  unfold Oper.wp
  rw [hrun]
  exact h
theorem box_step {W : World} (hw : Region.wanted o (yielded ops a.tmps) = true) {N : Tmp} (_hd : o.dst = some N) {cs : Array Value} {t : TypeId}
    (hrun : (execOp a.eval o).run P W = .ok (.value (.pointer (some ⟨W.heap.size,0,none⟩))) (W.alloc (.cells cs t (0,0))))
    (h : ∀ g,g = W.heap.size → ∀ w1,w1.heap[g]? = some (.cells cs t (0,0)) → Below W.heap.size W w1 → Kc (a.put o.dst (.pointer (some ⟨g,0,none⟩))) w1) : if Region.wanted o (yielded ops a.tmps) = true then Oper.wp P o a W Kc Q else Kc (a.put o.dst undef) W:=
  event_step hw hrun (h _ rfl _ (blk_new W _) (below_alloc (Below.refl _ _) _))
namespace Kd
variable {α : Type}
end Kd
end
end Go.Proofs.YtgjjfnjnjnbfgaaDoorW.PrintWords
namespace Go.Proofs.YtgjjfnjnjnbfgaaDoorW.PrintLast
section
variable {P : Program} {ops : Array Oper} {Q : Exit → Act → World → Prop} {md : Region.Mode} {S : World → Prop} {ds : List Nat}
def Region.reachB (md : Region.Mode) (ops : Array Oper) (i : Nat) : Nat → Nat → Bool
  | 0,_ => false
  | fuel + 1,d => match ops[d]? with
    | some o => o.after.any fun e => Region.binds md e && (e.on == i || Region.reachB md ops i fuel e.on)
    | none => false
def Region.closedB (md : Region.Mode) (ops : Array Oper) (listed : Array Bool) : Bool:=
  (List.range ops.size).all fun j => !listed.getD j false || match ops[j]? with
    | some o => o.after.all fun e => !Region.binds md e || listed.getD e.on false
    | none => true
def Region.lastB (md : Region.Mode) (ops : Array Oper) (listed : Array Bool) (ds : List Nat) (i : Nat) : Bool:=
  ds.all fun d => listed.getD d true || Region.reachB md ops i ops.size d
def ListedClosed (md : Region.Mode) (ops : Array Oper) (listed : Array Bool) : Prop:=
  ∀ j oj,ops[j]? = some oj → listed.getD j false = true → ∀ e ∈ oj.after,Region.binds md e = true → listed.getD e.on false = true
theorem Region.closedB_spec {listed : Array Bool} (h : Region.closedB md ops listed = true) : ListedClosed md ops listed:=by
  intro j oj hj hl e he hb
  have hlt : j < ops.size:=(Array.getElem?_eq_some_iff.1 hj).1
  have h1:=List.all_eq_true.1 h j (List.mem_range.2 hlt)
  simp only [hl,hj,Bool.not_true,Bool.false_or] at h1
  have h2:=Array.all_eq_true_iff_forall_mem.1 h1 e he
  simpa [hb] using h2
theorem ListedClosed.set {listed : Array Bool} {i : Nat} (h : ListedClosed md ops listed) (hi : i ∈ Region.ready md ops listed) : ListedClosed md ops (listed.setIfInBounds i true):=by
  obtain ⟨_,oi,hoi,hall⟩:=mem_ready.1 hi
  intro j oj hj hl e he hb
  by_cases hij : i = j
  · subst hij
    have : oj = oi:=Option.some.inj (hj.symm.trans hoi)
    subst this
    exact getD_set_true (hall e he hb)
  · rw [getD_set_ne false hij] at hl
    exact getD_set_true (h j oj hj hl e he hb)
theorem Region.reach_listed {listed : Array Bool} {i : Nat} (hc : ListedClosed md ops listed) : ∀ (fuel d : Nat),Region.reachB md ops i fuel d = true → listed.getD d false = true → listed.getD i false = true
  | 0,_,h,_ => by simp [Region.reachB] at h
  | fuel + 1,d,h,hl => by
    unfold Region.reachB at h
    cases ho : ops[d]? with
    | none => rw [ho] at h;simp at h
    | some o =>
      rw [ho] at h
      obtain ⟨e,he,h1⟩:=Array.any_eq_true'.1 h
      simp only [Bool.and_eq_true,Bool.or_eq_true,beq_iff_eq] at h1
      have hle:=hc d o ho hl e he h1.1
      rcases h1.2 with h2 | h2
      · rw [← h2];exact hle
      · exact Region.reach_listed hc fuel e.on h2 hle
theorem Region.reach_not_ready {listed : Array Bool} {i d fuel : Nat} (hc : ListedClosed md ops listed) (hr : Region.reachB md ops i fuel d = true) (hun : listed.getD i true = false) : d ∉ Region.ready md ops listed:=by
  intro hd
  obtain ⟨_,o,ho,hall⟩:=mem_ready.1 hd
  have hi : listed.getD i false = true:=by
    cases fuel with
    | zero => simp [Region.reachB] at hr
    | succ n =>
      unfold Region.reachB at hr
      rw [ho] at hr
      obtain ⟨e,he,h1⟩:=Array.any_eq_true'.1 hr
      simp only [Bool.and_eq_true,Bool.or_eq_true,beq_iff_eq] at h1
      have hle:=hall e he h1.1
      rcases h1.2 with h2 | h2
      · rw [← h2];exact hle
      · exact Region.reach_listed hc n e.on h2 hle
  rcases Nat.lt_or_ge i listed.size with h' | h'
  · simp [h'] at hun hi
    rw [hun] at hi
    cases hi
  · simp [Array.getElem?_eq_none h'] at hun
def wpAnyLast (P : Program) (md : Region.Mode) (ops : Array Oper) (Q : Exit → Act → World → Prop) (S : World → Prop) (ds : List Nat) : Nat → Array Bool → Act → World → Prop
  | 0,listed,a,w => Region.ready md ops listed = [] ∧ Q .normal a w
  | fuel + 1,listed,a,w =>
    (Region.ready md ops listed = [] → Q .normal a w) ∧
    ∀ i ∈ Region.ready md ops listed,wpOp P ops Q i (fun a' w' => (i ∉ ds → S w → S w') ∧ wpAnyLast P md ops Q S ds fuel (listed.setIfInBounds i true) a' w') a w
theorem wpAny_of_last : ∀ (fuel : Nat) (listed : Array Bool) (a : Act) (w : World),wpAnyLast P md ops Q S ds fuel listed a w → wpAny P md ops Q fuel listed a w
  | 0,_,_,_,h => h
  | fuel + 1,_,_,_,h => ⟨h.1,fun i hi => wpOp_mono (fun a' w' h' => wpAny_of_last fuel _ a' w' h'.2) (h.2 i hi)⟩
theorem wpAnyLast_first {i : Nat} {oi : Oper} {v : Value} (hi : ops[i]? = some oi) (hsel : ∀ (j : Nat) (o : Oper) cs b,ops[j]? = some o → o.op ≠ .select cs b)
    (hQ : ∀ c a w,Q (.panic c) (a.put oi.dst v) w → Q (.panic c) a w) (n : Nat) :
    ∀ (fuel : Nat) (listed : Array Bool) (a : Act) (w : World),
      (∀ j oj,ops[j]? = some oj → j ≠ i → listed.getD j true = false → (∀ e ∈ oj.after,Region.binds md e = true → e.on ≠ i) → oi.apart ops oj = true) →
      ListedClosed md ops listed → (∀ d ∈ ds,listed.getD d true = false → Region.reachB md ops i n d = true) →
      i ∈ Region.ready md ops listed → YieldsIf P ops S oi v a → S w →
      wpAnyLast P md ops Q S ds fuel (listed.setIfInBounds i true) (a.put oi.dst v) w → wpAnyLast P md ops Q S ds (fuel + 1) listed a w:=by
  intro fuel
  induction fuel with
  | zero =>
    intro listed a w _ _ _ hr hy hS H
    refine ⟨fun h => (by rw [h] at hr;cases hr),fun j hj => ?_⟩
    by_cases hji : j = i
    · subst hji;exact hy.wpOp hi hS ⟨fun _ h => h,H⟩
    · have:=ready_mono hj hji
      rw [H.1] at this
      cases this
  | succ fuel ih =>
    intro listed a w hfree hc hd hr hy hS H
    refine ⟨fun h => (by rw [h] at hr;cases hr),fun j hj => ?_⟩
    by_cases hji : j = i
    · subst hji;exact hy.wpOp hi hS ⟨fun _ h => h,H⟩
    · have h1:=H.2 j (ready_mono hj hji)
      obtain ⟨hjun,oj,hoj,hall⟩:=mem_ready.1 hj
      have hiun:=(mem_ready.1 hr).1
      have hnot : ∀ e ∈ oj.after,Region.binds md e = true → e.on ≠ i:=fun e he hb heq => by
        have h1:=hall e he hb
        rw [heq] at h1
        rcases Nat.lt_or_ge i listed.size with h' | h'
        · simp [h'] at hiun h1;rw [hiun] at h1;cases h1
        · simp [Array.getElem?_eq_none h'] at h1
      have hjd : j ∉ ds:=fun hm => Region.reach_not_ready hc (hd j hm hjun) hiun hj
      have h2:=wpOp_putIf hoj (hfree j oj hoj hji hjun hnot) (fun cs b => hsel i oi cs b hi) (fun cs b => hsel j oj cs b hoj) hQ hy h1
      have hfree' : ∀ k ok,ops[k]? = some ok → k ≠ i → (listed.setIfInBounds j true).getD k true = false →
          (∀ e ∈ ok.after,Region.binds md e = true → e.on ≠ i) → oi.apart ops ok = true:=fun k ok hk hki hun hno => by
        refine hfree k ok hk hki ?_ hno
        by_cases hjk : j = k
        · subst hjk;exact hjun
        · rw [getD_set_ne true hjk] at hun;exact hun
      have hd' : ∀ d ∈ ds,(listed.setIfInBounds j true).getD d true = false → Region.reachB md ops i n d = true:=fun d hm hun => by
        refine hd d hm ?_
        by_cases hjk : j = d
        · subst hjk;exact hjun
        · rw [getD_set_ne true hjk] at hun;exact hun
      refine wpOp_mono (fun a' w' h3 => ⟨h3.2.1,ih (listed.setIfInBounds j true) a' w' hfree' (hc.set hj) hd' (ready_mono hr (Ne.symm hji)) h3.1 (h3.2.1 hjd hS) ?_⟩) h2
      rw [Array.setIfInBounds_comm _ _ hji]
      exact h3.2.2
theorem wpAnyLast_any {i : Nat} {oi : Oper} {v : Value} (hi : ops[i]? = some oi) (hsel : ∀ (j : Nat) (o : Oper) cs b,ops[j]? = some o → o.op ≠ .select cs b)
    (hQ : ∀ c a w,Q (.panic c) (a.put oi.dst v) w → Q (.panic c) a w) :
    ∀ (fuel : Nat) (listed : Array Bool) (a : Act) (w : World),
      (∀ j oj,ops[j]? = some oj → j ≠ i → listed.getD j true = false → (∀ e ∈ oj.after,Region.binds md e = true → e.on ≠ i) → oi.apart ops oj = true) →
      i ∈ Region.ready md ops listed → Yields P ops oi v a →
      wpAnyLast P md ops Q S ds fuel (listed.setIfInBounds i true) (a.put oi.dst v) w → wpAnyLast P md ops Q S ds (fuel + 1) listed a w:=by
  intro fuel
  induction fuel with
  | zero =>
    intro listed a w _ hr hy H
    refine ⟨fun h => (by rw [h] at hr;cases hr),fun j hj => ?_⟩
    by_cases hji : j = i
    · subst hji;exact (hy.yieldsIf (S:=fun _ => True)).wpOp hi trivial ⟨fun _ h => h,H⟩
    · have:=ready_mono hj hji
      rw [H.1] at this
      cases this
  | succ fuel ih =>
    intro listed a w hfree hr hy H
    refine ⟨fun h => (by rw [h] at hr;cases hr),fun j hj => ?_⟩
    by_cases hji : j = i
    · subst hji;exact (hy.yieldsIf (S:=fun _ => True)).wpOp hi trivial ⟨fun _ h => h,H⟩
    · have h1:=H.2 j (ready_mono hj hji)
      obtain ⟨hjun,oj,hoj,hall⟩:=mem_ready.1 hj
      have hiun:=(mem_ready.1 hr).1
      have hnot : ∀ e ∈ oj.after,Region.binds md e = true → e.on ≠ i:=fun e he hb heq => by
        have h1:=hall e he hb
        rw [heq] at h1
        rcases Nat.lt_or_ge i listed.size with h' | h'
        · simp [h'] at hiun h1;rw [hiun] at h1;cases h1
        · simp [Array.getElem?_eq_none h'] at h1
      have h2:=wpOp_put hoj (hfree j oj hoj hji hjun hnot) (fun cs b => hsel i oi cs b hi) (fun cs b => hsel j oj cs b hoj) hQ hy h1
      have hfree' : ∀ k ok,ops[k]? = some ok → k ≠ i → (listed.setIfInBounds j true).getD k true = false →
          (∀ e ∈ ok.after,Region.binds md e = true → e.on ≠ i) → oi.apart ops ok = true:=fun k ok hk hki hun hno => by
        refine hfree k ok hk hki ?_ hno
        by_cases hjk : j = k
        · subst hjk;exact hjun
        · rw [getD_set_ne true hjk] at hun;exact hun
      refine wpOp_mono (fun a' w' h3 => ⟨h3.2.1,ih (listed.setIfInBounds j true) a' w' hfree' (ready_mono hr (Ne.symm hji)) h3.1 ?_⟩) h2
      rw [Array.setIfInBounds_comm _ _ hji]
      exact h3.2.2
theorem wpAnyLast_take {i : Nat} {oi : Oper} {v : Value} {fuel : Nat} {listed : Array Bool} {a : Act} {w : World} (hi : ops[i]? = some oi)
    (hs : Region.noSelect ops = true) (hf : Region.free md ops listed i = true) (hr : (Region.ready md ops listed).contains i = true)
    (hc : Region.closedB md ops listed = true) (hl : Region.lastB md ops listed ds i = true)
    (hQ : ∀ c a w,Q (.panic c) (a.put oi.dst v) w → Q (.panic c) a w) (hy : YieldsIf P ops S oi v a) (hS : S w)
    (h : wpAnyLast P md ops Q S ds fuel (listed.setIfInBounds i true) (a.put oi.dst v) w) : wpAnyLast P md ops Q S ds (fuel + 1) listed a w:=
  wpAnyLast_first hi (Region.noSelect_spec hs) hQ ops.size fuel listed a w (Region.free_spec hi hf) (Region.closedB_spec hc)
    (fun d hm hun => by have:=List.all_eq_true.1 hl d hm;rw [hun] at this;simpa using this) (by simpa using hr) hy hS h
theorem wpAnyLast_all {rs : List Nat} {fuel : Nat} {listed : Array Bool} {a : Act} {w : World} (hr : Region.ready md ops listed = rs) (hne : rs ≠ [])
    (h : ∀ i ∈ rs,wpOp P ops Q i (fun a' w' => (i ∉ ds → S w → S w') ∧ wpAnyLast P md ops Q S ds fuel (listed.setIfInBounds i true) a' w') a w) : wpAnyLast P md ops Q S ds (fuel + 1) listed a w:=
  ⟨fun h0 => absurd (hr ▸ h0) hne,hr ▸ h⟩
theorem wpAnyLast_done {listed : Array Bool} {a : Act} {w : World} (hr : Region.ready md ops listed = []) (h : Q .normal a w) :
    ∀ fuel,wpAnyLast P md ops Q S ds fuel listed a w
  | 0 => ⟨hr,h⟩
  | _ + 1 => ⟨fun _ => h,by rw [hr];simp⟩
theorem wp_region_last {id : Nat} {a : Act} {w : World} (hm : P.follows .mixedOrders = true)
    (h : wpAnyLast P .any ops Q S ds ops.size (Array.replicate ops.size false) a { w with drawn:=w.drawn + 1 }) : (Code.region id ops true).wp P Q a w:=
  wp_region_any hm (wpAny_of_last _ _ _ _ h)
end
section
variable {P : Program} {ops : Array Oper} {Q : Exit → Act → World → Prop} {md : Region.Mode} {S : World → Prop} {ds : List Nat}
def AllReadyL (P : Program) (md : Region.Mode) (ops : Array Oper) (Q : Exit → Act → World → Prop) (S : World → Prop) (ds : List Nat) (fuel : Nat) (listed : Array Bool) (a : Act) (w : World) (rs : List Nat) : Prop:=
  ∀ i ∈ rs,wpOp P ops Q i (fun a' w' => (i ∉ ds → S w → S w') ∧ wpAnyLast P md ops Q S ds fuel (listed.setIfInBounds i true) a' w') a w
theorem AllReadyL.nil {fuel : Nat} {listed : Array Bool} {a : Act} {w : World} : AllReadyL P md ops Q S ds fuel listed a w []:=fun _ h => by cases h
theorem AllReadyL.cons {fuel : Nat} {listed : Array Bool} {a : Act} {w : World} {i : Nat} {o : Oper} {rs : List Nat} (ho : ops[i]? = some o) (hd : i ∉ ds)
    (h : ∀ K' : Act → World → Prop,Shut (∀ a w,S w → (S w → wpAnyLast P md ops Q S ds fuel (listed.setIfInBounds i true) a w) → K' a w) → if Region.wanted o (yielded ops a.tmps) = true then Oper.wp P o a w K' Q else K' (a.put o.dst undef) w)
    (hs : AllReadyL P md ops Q S ds fuel listed a w rs) : AllReadyL P md ops Q S ds fuel listed a w (i :: rs):=fun j hj => by
  rcases List.mem_cons.1 hj with rfl | hj
  · exact wpOp_step ho (fun K' hK => h K' (fun a w hS hW => hK a w ⟨fun _ _ => hS,hW hS⟩))
  · exact hs j hj
theorem AllReadyL.cons_last {fuel : Nat} {listed : Array Bool} {a : Act} {w : World} {i : Nat} {o : Oper} {rs : List Nat} (ho : ops[i]? = some o) (hd : i ∈ ds)
    (h : ∀ K' : Act → World → Prop,Shut (∀ a w,wpAnyLast P md ops Q S ds fuel (listed.setIfInBounds i true) a w → K' a w) → if Region.wanted o (yielded ops a.tmps) = true then Oper.wp P o a w K' Q else K' (a.put o.dst undef) w)
    (hs : AllReadyL P md ops Q S ds fuel listed a w rs) : AllReadyL P md ops Q S ds fuel listed a w (i :: rs):=fun j hj => by
  rcases List.mem_cons.1 hj with rfl | hj
  · exact wpOp_step ho (fun K' hK => h K' (fun a w hW => hK a w ⟨fun hn => absurd hd hn,hW⟩))
  · exact hs j hj
theorem wpAnyLast_ready {rs : List Nat} {fuel : Nat} {listed : Array Bool} {a : Act} {w : World} (hr : Region.ready md ops listed = rs) (hne : rs ≠ [])
    (h : AllReadyL P md ops Q S ds fuel listed a w rs) : wpAnyLast P md ops Q S ds (fuel + 1) listed a w:=wpAnyLast_all hr hne h
theorem start_ {id n : Nat} {a : Act} {w : World} (l : Array Bool) (hm : P.follows .mixedOrders = true) (hn : ops.size = n) (hl : Array.replicate n false = l) (hS : S w.drew)
    (h : S w.drew → wpAnyLast P .any ops Q S ds n l a w.drew) : (Code.region id ops true).wp P Q a w:=by
  subst hn
  subst hl
  exact wp_region_last hm (h hS)
def takeB (md : Region.Mode) (ops : Array Oper) (ds : List Nat) (l l' : Array Bool) (i : Nat) : Bool:=
  Region.noSelect ops && Region.free md ops l i && (Region.ready md ops l).contains i && Region.closedB md ops l && Region.lastB md ops l ds i && (l.setIfInBounds i true == l')
theorem take_ {i : Nat} {N : Option Tmp} {oi : Oper} {v : Value} {fuel : Nat} {l : Array Bool} {a : Act} {w : World} (l' : Array Bool) (hi : ops[i]? = some oi) (hN : oi.dst = N) (hc : takeB md ops ds l l' i = true)
    (hQ : ∀ c a w,Q (.panic c) (a.put oi.dst v) w → Q (.panic c) a w) (hy : YieldsIf P ops S oi v a) (hS : S w) {a' : Act} (ha : a.put N v = a')
    (h : wpAnyLast P md ops Q S ds fuel l' a' w) : wpAnyLast P md ops Q S ds (fuel + 1) l a w:=by
  subst ha
  subst hN
  simp only [takeB,Bool.and_eq_true,beq_iff_eq] at hc
  obtain ⟨⟨⟨⟨⟨h1,h2⟩,h3⟩,h4⟩,h5⟩,h6⟩:=hc
  subst h6
  exact wpAnyLast_take hi h1 h2 h3 h4 h5 hQ hy hS h
def anyB (md : Region.Mode) (ops : Array Oper) (l l' : Array Bool) (i : Nat) : Bool:=
  Region.noSelect ops && Region.free md ops l i && (Region.ready md ops l).contains i && (l.setIfInBounds i true == l')
theorem pure_ {i : Nat} {N : Option Tmp} {oi : Oper} {v : Value} {fuel : Nat} {l : Array Bool} {a : Act} {w : World} (l' : Array Bool) (hi : ops[i]? = some oi) (hN : oi.dst = N) (hc : anyB md ops l l' i = true)
    (hQ : ∀ c a w,Q (.panic c) (a.put oi.dst v) w → Q (.panic c) a w) (hy : Yields P ops oi v a) {a' : Act} (ha : a.put N v = a')
    (h : wpAnyLast P md ops Q S ds fuel l' a' w) : wpAnyLast P md ops Q S ds (fuel + 1) l a w:=by
  subst ha
  subst hN
  simp only [anyB,Bool.and_eq_true,beq_iff_eq] at hc
  obtain ⟨⟨⟨h1,h2⟩,h3⟩,h6⟩:=hc
  subst h6
  exact wpAnyLast_any hi (Region.noSelect_spec h1) hQ fuel l a w (Region.free_spec hi h2) (by simpa using h3) hy h
def readyB (md : Region.Mode) (ops : Array Oper) (l l' : Array Bool) (i : Nat) : Bool:=(Region.ready md ops l == [i]) && (l.setIfInBounds i true == l')
theorem one_ {i : Nat} {N : Option Tmp} {oi : Oper} {fuel : Nat} {l : Array Bool} {a : Act} {w : World} (l' : Array Bool) (hi : ops[i]? = some oi) (hN : oi.dst = N) (hc : readyB md ops l l' i = true) (hd : i ∉ ds)
    (h : ∀ K : Act → World → Prop,Shut (∀ a' w',S w' → (S w' → wpAnyLast P md ops Q S ds fuel l' a' w') → K a' w') → if Region.wanted oi (yielded ops a.tmps) = true then Oper.wp P oi a w K Q else K (a.put N undef) w) :
    wpAnyLast P md ops Q S ds (fuel + 1) l a w:=by
  subst hN
  simp only [readyB,Bool.and_eq_true,beq_iff_eq] at hc
  obtain ⟨h1,h2⟩:=hc
  subst h2
  exact wpAnyLast_ready h1 (by simp) (AllReadyL.cons hi hd (fun K hK => h K hK) AllReadyL.nil)
theorem last_ {i : Nat} {N : Option Tmp} {oi : Oper} {fuel : Nat} {l : Array Bool} {a : Act} {w : World} (l' : Array Bool) (hi : ops[i]? = some oi) (hN : oi.dst = N) (hc : readyB md ops l l' i = true) (hd : i ∈ ds)
    (h : ∀ K : Act → World → Prop,Shut (∀ a' w',wpAnyLast P md ops Q S ds fuel l' a' w' → K a' w') → if Region.wanted oi (yielded ops a.tmps) = true then Oper.wp P oi a w K Q else K (a.put N undef) w) :
    wpAnyLast P md ops Q S ds (fuel + 1) l a w:=by
  subst hN
  simp only [readyB,Bool.and_eq_true,beq_iff_eq] at hc
  obtain ⟨h1,h2⟩:=hc
  subst h2
  exact wpAnyLast_ready h1 (by simp) (AllReadyL.cons_last hi hd (fun K hK => h K hK) AllReadyL.nil)
theorem done_ {l : Array Bool} {a : Act} {w : World} {n : Nat} (hr : (Region.ready md ops l == []) = true) (h : Q .normal a w) : wpAnyLast P md ops Q S ds n l a w:=wpAnyLast_done (by simpa using hr) h n
theorem two_ {i j : Nat} {Ni Nj : Option Tmp} {oi oj : Oper} {fuel : Nat} {l : Array Bool} {a : Act} {w : World} (li lj : Array Bool) (hi : ops[i]? = some oi) (hj : ops[j]? = some oj) (hNi : oi.dst = Ni) (hNj : oj.dst = Nj)
    (hc : (Region.ready md ops l == [i,j] && l.setIfInBounds i true == li && l.setIfInBounds j true == lj) = true) (hdi : i ∉ ds) (hdj : j ∉ ds)
    (h1 : ∀ K : Act → World → Prop,Shut (∀ a' w',S w' → (S w' → wpAnyLast P md ops Q S ds fuel li a' w') → K a' w') → if Region.wanted oi (yielded ops a.tmps) = true then Oper.wp P oi a w K Q else K (a.put Ni undef) w)
    (h2 : ∀ K : Act → World → Prop,Shut (∀ a' w',S w' → (S w' → wpAnyLast P md ops Q S ds fuel lj a' w') → K a' w') → if Region.wanted oj (yielded ops a.tmps) = true then Oper.wp P oj a w K Q else K (a.put Nj undef) w) :
    wpAnyLast P md ops Q S ds (fuel + 1) l a w:=by
  subst hNi
  subst hNj
  simp only [Bool.and_eq_true,beq_iff_eq] at hc
  obtain ⟨⟨h3,h4⟩,h5⟩:=hc
  subst h4
  subst h5
  exact wpAnyLast_ready h3 (by simp) (AllReadyL.cons hi hdi (fun K hK => h1 K hK) (AllReadyL.cons hj hdj (fun K hK => h2 K hK) AllReadyL.nil))
theorem three_ {i j k : Nat} {Ni Nj Nk : Option Tmp} {oi oj ok : Oper} {fuel : Nat} {l : Array Bool} {a : Act} {w : World} (li lj lk : Array Bool) (hi : ops[i]? = some oi) (hj : ops[j]? = some oj) (hk : ops[k]? = some ok) (hNi : oi.dst = Ni) (hNj : oj.dst = Nj) (hNk : ok.dst = Nk)
    (hc : (Region.ready md ops l == [i,j,k] && l.setIfInBounds i true == li && l.setIfInBounds j true == lj && l.setIfInBounds k true == lk) = true) (hdi : i ∉ ds) (hdj : j ∉ ds) (hdk : k ∉ ds)
    (h1 : ∀ K : Act → World → Prop,Shut (∀ a' w',S w' → (S w' → wpAnyLast P md ops Q S ds fuel li a' w') → K a' w') → if Region.wanted oi (yielded ops a.tmps) = true then Oper.wp P oi a w K Q else K (a.put Ni undef) w)
    (h2 : ∀ K : Act → World → Prop,Shut (∀ a' w',S w' → (S w' → wpAnyLast P md ops Q S ds fuel lj a' w') → K a' w') → if Region.wanted oj (yielded ops a.tmps) = true then Oper.wp P oj a w K Q else K (a.put Nj undef) w)
    (h3 : ∀ K : Act → World → Prop,Shut (∀ a' w',S w' → (S w' → wpAnyLast P md ops Q S ds fuel lk a' w') → K a' w') → if Region.wanted ok (yielded ops a.tmps) = true then Oper.wp P ok a w K Q else K (a.put Nk undef) w) :
    wpAnyLast P md ops Q S ds (fuel + 1) l a w:=by
  subst hNi
  subst hNj
  subst hNk
  simp only [Bool.and_eq_true,beq_iff_eq] at hc
  obtain ⟨⟨⟨h4,h5⟩,h6⟩,h7⟩:=hc
  subst h5
  subst h6
  subst h7
  exact wpAnyLast_ready h4 (by simp) (AllReadyL.cons hi hdi (fun K hK => h1 K hK) (AllReadyL.cons hj hdj (fun K hK => h2 K hK) (AllReadyL.cons hk hdk (fun K hK => h3 K hK) AllReadyL.nil)))
def putAll : Act → List (Tmp × Value) → Act
  | a,[] => a
  | a,(n,v) :: r => putAll (a.put (some n) v) r
theorem join_ {σ : Type} {fuel : Nat} {l : Array Bool} {a : Act} {w : World} (fuel' : Nat) (l' : Array Bool) (ns : σ → List (Tmp × Value)) (F : σ → World → Prop)
    (hcont : ∀ s w',F s w' → wpAnyLast P md ops Q S ds fuel' l' (putAll a (ns s)) w')
    (h : (∀ s w',F s w' → wpAnyLast P md ops Q S ds fuel' l' (putAll a (ns s)) w') → wpAnyLast P md ops Q S ds fuel l a w) : wpAnyLast P md ops Q S ds fuel l a w:=h hcont
theorem norm_ {fuel : Nat} {l : Array Bool} {a a' : Act} {w : World} (ha : a = a') (h : wpAnyLast P md ops Q S ds fuel l a' w) : wpAnyLast P md ops Q S ds fuel l a w:=by
  subst ha
  exact h
theorem call_ {oi : Oper} {N : Option Tmp} {a : Act} {w : World} {K : Act → World → Prop} (f : FuncId) (args : Array Value) (hw : Region.wanted oi (yielded ops a.tmps) = true) (hN : oi.dst = N) (hrun : (execOp a.eval oi).run P w = .ok (.enter f args) w)
    (h : Calls P f args w fun e w' => ∃ v,e = .returned v ∧ K (a.put N v) w') : if Region.wanted oi (yielded ops a.tmps) = true then Oper.wp P oi a w K Q else K (a.put N undef) w:=by
  rw [if_pos hw]
  subst hN
  unfold Oper.wp
  rw [hrun,Oper.upon_enter]
  refine h.mono fun e w'' hh => ?_
  obtain ⟨v,rfl,hk⟩:=hh
  exact hk
theorem enters_ {f : FuncId} {fn : Func} (hf : P.funcs[f]? = some fn) (hname : (fn.name == "runtime.NumGoroutine") = false) (hb : fn.body.isSome = true) (args : Array Value) (w : World) : (callFunc f args).run P w = .ok (.enter f args) w:=by
  have h1 : fn.name ≠ "runtime.NumGoroutine":=by simpa using hname
  obtain ⟨c,hc⟩:=Option.isSome_iff_exists.1 hb
  simp [callFunc,hf,h1,hc]
theorem goes_ {oi : Oper} {N : Option Tmp} {a : Act} {w : World} {K : Act → World → Prop} {f : FuncId} {fn : Func} {«as» : Array Operand} {ts : Array TypeId} (hf : P.funcs[f]? = some fn) (hname : (fn.name == "runtime.NumGoroutine") = false) (hb : fn.body.isSome = true) (args : Array Value)
    (hw : Region.wanted oi (yielded ops a.tmps) = true) (hN : oi.dst = N) (hop : oi.op = .call { callee:=.value (.func f),args:=«as»,argTypes:=ts }) (hargs : «as».map a.eval = args)
    (h : Calls P f args w fun e w' => ∃ v,e = .returned v ∧ K (a.put N v) w') : if Region.wanted oi (yielded ops a.tmps) = true then Oper.wp P oi a w K Q else K (a.put N undef) w:=by
  refine call_ f args hw hN ?_ h
  have he:=enters_ hf hname hb args w
  unfold execOp
  simp [hop,resolve,Deferred.ofValue,invoke,Act.eval,hargs,he]
theorem goesL_ {rest : List Oper} {oi : Oper} {a : Act} {w : World} (N : Option Tmp) (hd : oi.dst = N) (hg : oi.guard = none) {f : FuncId} {fn : Func} {«as» : Array Operand} {ts : Array TypeId} (hf : P.funcs[f]? = some fn) (hname : (fn.name == "runtime.NumGoroutine") = false) (hb : fn.body.isSome = true) (args : Array Value)
    (hop : oi.op = .call { callee:=.value (.func f),args:=«as»,argTypes:=ts }) (hargs : «as».map a.eval = args)
    (h : Calls P f args w fun e w' => ∃ v,e = .returned v ∧ wpList P ops Q rest (a.put N v) w') : wpList P ops Q (oi :: rest) a w:=by
  refine wpList_plain hg fun K hK => ?_
  have he:=enters_ hf hname hb args w
  have hrun : (execOp a.eval oi).run P w = .ok (.enter f args) w:=by
    unfold execOp
    simp [hop,resolve,Deferred.ofValue,invoke,Act.eval,hargs,he]
  unfold Oper.wp
  rw [hrun,Oper.upon_enter]
  refine h.mono fun e w'' hh => ?_
  obtain ⟨v,rfl,hk⟩:=hh
  subst hd
  exact hK _ _ hk
theorem value_ {oi : Oper} {N : Option Tmp} {a : Act} {w w1 : World} {v : Value} {K : Act → World → Prop} (hw : Region.wanted oi (yielded ops a.tmps) = true) (hN : oi.dst = N) (hrun : (execOp a.eval oi).run P w = .ok (.value v) w1)
    (h : K (a.put N v) w1) : if Region.wanted oi (yielded ops a.tmps) = true then Oper.wp P oi a w K Q else K (a.put N undef) w:=by
  rw [if_pos hw]
  subst hN
  unfold Oper.wp
  rw [hrun]
  exact h
theorem skip_ {oi : Oper} {a : Act} {w w1 : World} {K : Act → World → Prop} (hw : Region.wanted oi (yielded ops a.tmps) = true) (hN : oi.dst = none) (hrun : (execOp a.eval oi).run P w = .ok .skip w1)
    (h : K a w1) : if Region.wanted oi (yielded ops a.tmps) = true then Oper.wp P oi a w K Q else K (a.put none undef) w:=by
  rw [if_pos hw]
  unfold Oper.wp
  rw [hrun]
  show K (a.put oi.dst undef) w1
  rw [hN]
  exact h
theorem i64_w (n : Int) : IntKind.i64.wrap n = Go.RowKit.wrap64 n:=by unfold Go.RowKit.wrap64;exact IntKind.wrap_i64 n
theorem i32_w (n : Int) : IntKind.i32.wrap n = Go.RowKit.wrap32 n:=by unfold Go.RowKit.wrap32;exact IntKind.wrap_i32 n
end
end Go.Proofs.YtgjjfnjnjnbfgaaDoorW.PrintLast
namespace Go.Proofs.YtgjjfnjnjnbfgaaDoorW.PrintWords
open Go.RowKit
namespace Kd
def tag {α : Type} (f : Nat → Nat) (d : Kd α) : Kd (α × Nat) where
  sz:=d.sz
  E:=d.E
  K:=fun w x cs => d.K w x.1 cs
  M:=fun w base ok x cs => d.M w base (fun k => ok k ∧ f k = x.2) x.1 cs
  K_len:=fun h => d.K_len h
  K_one:=fun h => d.K_one h
  K_below:=fun hb h => d.K_below hb h
  K_of_M:=fun h => d.K_of_M h
  M_mono:=fun hok h => d.M_mono (fun k hk => ⟨hok k hk.1,hk.2⟩) h
  M_bound:=fun h => d.M_mono (fun _ hk => ⟨⟨hk.1.1,hk.2⟩,hk.1.2⟩) (d.M_bound h)
  M_move:=fun hm h => d.M_move (fun k hk => hm k hk.1) h
  M_lower:=fun hb h => d.M_lower hb h
def raw (sz : Nat) : Kd (List Value) where
  sz:=sz
  E:=[]
  K:=fun _ x cs => cs = x ∧ cs.length = sz ∧ ∀ u ∈ cs,u.oneCell' = true
  M:=fun _ _ _ x cs => cs = x ∧ cs.length = sz ∧ ∀ u ∈ cs,u.oneCell' = true
  K_len:=fun h => h.2.1
  K_one:=fun h => h.2.2
  K_below:=fun _ h => h
  K_of_M:=fun h => h
  M_mono:=fun _ h => h
  M_bound:=fun h => h
  M_move:=fun _ h => h
  M_lower:=fun _ h => h
def S {α : Type} (d : Kd α) (e : Nat) (w : World) (base : Nat) (ok : Nat → Prop) (v : Value) (xs : List α) : Prop:=∃ f,(tag f d).R e w base ok v xs.zipIdx
section
variable {α β : Type} {d : Kd α} {d' : Kd β} {e e' : Nat} {w w1 W : World} {base b : Nat} {ok ok' okv oku : Nat → Prop} {u v : Value} {xs : List α} {ys : List β}
end
section
variable {α β : Type} {d : Kd α} {d' : Kd β} {e e' g : Nat} {w w1 W : World} {base b : Nat} {ok ok' okv oku : Nat → Prop} {u v : Value} {xs : List α} {ys : List β}
end
section
open Classical in
variable {P : Program} {ops : Array Oper} {rest : List Oper} {o : Oper} {a : Act} {Q : Exit → Act → World → Prop} {Kc : Act → World → Prop} {α : Type}
end
def gap {α : Type} (f : Nat → Nat) (d : Kd α) (i : Nat) (c : List Value) : Kd (α × Nat) where
  sz:=d.sz
  E:=d.E
  K:=fun w x cs => (x.2 = i → cs = c ∧ cs.length = d.sz ∧ ∀ u ∈ cs,u.oneCell' = true) ∧ (x.2 ≠ i → d.K w x.1 cs)
  M:=fun w base ok x cs => (x.2 = i → cs = c ∧ cs.length = d.sz ∧ ∀ u ∈ cs,u.oneCell' = true) ∧ (x.2 ≠ i → d.M w base (fun k => ok k ∧ f k = x.2) x.1 cs)
  K_len:=fun {w x cs} h => by
    by_cases hx : x.2 = i
    · exact (h.1 hx).2.1
    · exact d.K_len (h.2 hx)
  K_one:=fun {w x cs} h => by
    by_cases hx : x.2 = i
    · exact (h.1 hx).2.2
    · exact d.K_one (h.2 hx)
  K_below:=fun hb h => ⟨h.1,fun hx => d.K_below hb (h.2 hx)⟩
  K_of_M:=fun h => ⟨h.1,fun hx => d.K_of_M (h.2 hx)⟩
  M_mono:=fun hok h => ⟨h.1,fun hx => d.M_mono (fun k hk => ⟨hok k hk.1,hk.2⟩) (h.2 hx)⟩
  M_bound:=fun h => ⟨h.1,fun hx => d.M_mono (fun _ hk => ⟨⟨hk.1.1,hk.2⟩,hk.1.2⟩) (d.M_bound (h.2 hx))⟩
  M_move:=fun hm h => ⟨h.1,fun hx => d.M_move (fun k hk => hm k hk.1) (h.2 hx)⟩
  M_lower:=fun hb h => ⟨h.1,fun hx => d.M_lower hb (h.2 hx)⟩
def H {α : Type} (d : Kd α) (e : Nat) (w : World) (base : Nat) (ok : Nat → Prop) (v : Value) (xs : List α) (i : Int) (oki : Nat → Prop) (c : List Value) : Prop:=
  (∀ k,oki k → ok k) ∧ ∃ f,(gap f d i.toNat c).R e w base (fun k => ok k ∧ ¬ oki k) v xs.zipIdx
section
variable {α β : Type} {d : Kd α} {e e' g n cap : Nat} {w w1 W : World} {base : Nat} {ok ok' oki okp : Nat → Prop} {u v : Value} {xs : List α} {i : Int} {c : List Value}
open Classical in
end
end Kd
end Go.Proofs.YtgjjfnjnjnbfgaaDoorW.PrintWords
namespace Go.Proofs.YtgjjfnjnjnbfgaaDoorW.PrintWords
open Go.RowKit
namespace Kd
end Kd
end Go.Proofs.YtgjjfnjnjnbfgaaDoorW.PrintWords
namespace Go.Proofs.YtgjjfnjnjnbfgaaDoorW.PrintWords
open Go.RowKit
def Kept (w W : World) (S : Nat → Prop) : Prop:=w.heap.size ≤ W.heap.size ∧ ∀ i,i < w.heap.size → ¬ S i → W.heap[i]? = w.heap[i]?
section
variable {w W W2 : World} {S S2 S' : Nat → Prop}
theorem Kept.refl (w : World) (S : Nat → Prop) : Kept w w S:=⟨Nat.le_refl _,fun _ _ _ => rfl⟩
theorem Kept.of_below (h : Below w.heap.size w W) (S : Nat → Prop) : Kept w W S:=⟨h.size,fun i hi _ => h.block i hi⟩
theorem Kept.mono (h : Kept w W S) (hs : ∀ k,S k → S' k) : Kept w W S':=⟨h.1,fun i hi hn => h.2 i hi (fun hk => hn (hs i hk))⟩
theorem Kept.then_ (h : Kept w W S) (k : Kept W W2 S2) (hs : ∀ k,S2 k → S k ∨ w.heap.size ≤ k) : Kept w W2 S:=
  ⟨Nat.le_trans h.1 k.1,fun i hi hn => (k.2 i (Nat.lt_of_lt_of_le hi h.1) (fun h2 => (hs i h2).elim hn (fun h3 => by omega))).trans (h.2 i hi hn)⟩
theorem Kept.below (h : Kept w W S) (hb : Below W.heap.size W W2) : Kept w W2 S:=h.then_ (Kept.of_below hb (fun _ => False)) (fun _ hk => hk.elim)
theorem Kept.alloc (h : Kept w W S) (o : Obj) : Kept w (W.alloc o) S:=h.below (below_alloc (Below.refl _ _) o)
theorem Kept.drew (h : Kept w W S) : Kept w W.drew S:=h
theorem Kept.drewN (h : Kept w W S) (m : Nat) : Kept w (W.drewN m) S:=h
theorem Kept.setCell (h : Kept w W S) {p : Addr} (hp : S p.block ∨ w.heap.size ≤ p.block) (u : Value) : Kept w (W.setCell p u) S:=
  h.then_ (S2:=fun k => k = p.block) ⟨by simp [World.setCell],fun i _ hn => Below.heap_setCell W p u i hn⟩ (fun k hk => by rw [hk];exact hp)
theorem blk_kept {g : Nat} {o : Obj} (hb : W.heap[g]? = some o) (hk : Kept W W2 S) (hne : ¬ S g) : W2.heap[g]? = some o:=(hk.2 g (blk_lt hb) hne).trans hb
end
end Go.Proofs.YtgjjfnjnjnbfgaaDoorW.PrintWords
namespace Go.Proofs.YtgjjfnjnjnbfgaaDoorW.PrintWords
open Go.RowKit
def Foot (P : World → Prop) (W : World) (ok : Nat → Prop) : Prop:=∀ W' : World,(∀ k,ok k → k < W.heap.size → W'.heap[k]? = W.heap[k]?) → P W'
theorem heap_lt {W W1 : World} {k : Nat} (h : W1.heap[k]? = W.heap[k]?) (hlt : k < W.heap.size) : k < W1.heap.size:=by
  rw [Array.getElem?_eq_getElem hlt] at h
  exact (Array.getElem?_eq_some_iff.1 h).1
namespace Foot
variable {P Q : World → Prop} {W W1 : World} {ok ok' : Nat → Prop}
theorem now (h : Foot P W ok) : P W:=h W (fun _ _ _ => rfl)
theorem mono (h : Foot P W ok) (hok : ∀ k,ok k → ok' k) : Foot P W ok':=fun W' hW => h W' (fun k hk hlt => hW k (hok k hk) hlt)
theorem bound (h : Foot P W ok) : Foot P W (fun k => ok k ∧ k < W.heap.size):=fun W' hW => h W' (fun k hk hlt => hW k ⟨hk,hlt⟩ hlt)
theorem step (h : Foot P W ok) (hm : ∀ k,ok k → k < W.heap.size → W1.heap[k]? = W.heap[k]?) : Foot P W1 ok:=fun W' hW => h W' (fun k hk hlt => (hW k hk (heap_lt (hm k hk hlt) hlt)).trans (hm k hk hlt))
theorem imp (h : Foot P W ok) (hi : ∀ W',P W' → Q W') : Foot Q W ok:=fun W' hW => hi W' (h W' hW)
theorem old (h : Foot P W ok) (hb : Below W.heap.size W W1) : Foot P W1 (fun k => ok k ∧ k < W.heap.size):=(h.bound).step (fun k _ hlt => hb.block k hlt)
end Foot
namespace Kd
def F {α : Type} (d : Kd α) (W : World) (ok : Nat → Prop) (A : Option Addr) (n : Nat) (xs : List α) : Prop:=Foot (fun W => d.C W A n xs) W ok
def FK {α : Type} (d : Kd α) (W : World) (ok : Nat → Prop) (x : α) (c : List Value) : Prop:=Foot (fun W => d.K W x c) W ok
end Kd
end Go.Proofs.YtgjjfnjnjnbfgaaDoorW.PrintWords
namespace Go.Proofs.YtgjjfnjnjnbfgaaDoorW.PrintWords
open Go.RowKit
namespace Kd
section
variable {α : Type} {d : Kd α} {e base n cc g : Nat} {ok ok' okp S : Nat → Prop} {w w1 W W1 : World} {A : Option Addr} {u v v1 : Value} {xs : List α} {x : α} {c : List Value}
def N {α : Type} (d : Kd α) (e : Nat) (w : World) (base : Nat) (ok : Nat → Prop) (v : Value) (xs : List α) : Prop:=
  (∀ k,v.ownBlock = some k → ok k) ∧ ∃ rows : List (List Value),rows.length = xs.length ∧ (raw d.sz).R e w base (fun k => some k = v.ownBlock) v rows ∧ ∀ (j : Nat) (x : α) (c : List Value),xs[j]? = some x → rows[j]? = some c → FK d w (fun k => ok k ∧ some k ≠ v.ownBlock) x c
end
end Kd
end Go.Proofs.YtgjjfnjnjnbfgaaDoorW.PrintWords
namespace Go.Proofs.YtgjjfnjnjnbfgaaDoorW.PrintWords
open Go.RowKit
section
variable {w w' u : World} {m B g : Nat} {o : Obj} {row : Option Nat} {S : Nat → Prop} {a : Addr} {v : Value}
end
end Go.Proofs.YtgjjfnjnjnbfgaaDoorW.PrintWords
namespace Go.Proofs.YtgjjfnjnjnbfgaaDoorW.PrintWords
open Go.RowKit
section
variable {P : Program} {d : Nat} {xs ys : Array Value} {f : Field} {fs : List Field} {a b : Value} {r s : Bool} {w : World}
theorem eqf_last (hn : (f.name == "_") = false) (ha : (part f.type xs f.offset).run P w = .ok a w) (hb : (part f.type ys f.offset).run P w = .ok b w) (he : (Op.equalIn d f.type a b).run P w = .ok r w) : (Op.eqFields d xs ys [f]).run P w = .ok r w:=by
  have hn' : f.name ≠ "_":=by simpa using hn
  simp only [Op.eqFields,if_pos hn',Sem.run_bind,ha,hb,he,Result.andThen_ok]
  cases r <;> simp
theorem eqf_cons (hn : (f.name == "_") = false) (ha : (part f.type xs f.offset).run P w = .ok a w) (hb : (part f.type ys f.offset).run P w = .ok b w) (he : (Op.equalIn d f.type a b).run P w = .ok r w) (hr : (Op.eqFields d xs ys fs).run P w = .ok s w) : (Op.eqFields d xs ys (f :: fs)).run P w = .ok (r && s) w:=by
  have hn' : f.name ≠ "_":=by simpa using hn
  rw [Op.eqFields]
  simp only [if_pos hn',Sem.run_bind,ha,hb,he,Result.andThen_ok]
  cases r
  · simp
  · simpa using hr
theorem eqA_of {t : TypeId} {fs : Array Field} (hu : P.underlying t = some (.struct fs)) (hp : P.stoodInHeld t = false) (h : (Op.eqFields d xs ys fs.toList).run P w = .ok r w) : (Op.equalIn (d + 1) t (.agg xs) (.agg ys)).run P w = .ok r w:=by
  have hf : P.fieldsOf t = fs:=by simp [Program.fieldsOf,hu]
  rw [run_equalIn_struct (P:=P) w d t xs ys (by rw [hf];exact hu) hp,hf]
  exact h
end
end Go.Proofs.YtgjjfnjnjnbfgaaDoorW.PrintWords
namespace Go.Proofs.YtgjjfnjnjnbfgaaDoorW.PrintLast
open Go.Proofs.YtgjjfnjnjnbfgaaDoorW.PrintWords (Aside0)
def needsOf (md : Region.Mode) (o : Oper) : List Nat:=(o.after.toList.filter (fun e => Region.binds md e)).map (fun e => e.on)
def clashOf (md : Region.Mode) (ops : Array Oper) (i : Nat) (oi : Oper) : List Nat:=(List.range ops.size).filter fun j => !(j == i) && match ops[j]? with
  | some oj => !(oj.after.any (fun e => Region.binds md e && e.on == i) || oi.apart ops oj)
  | none => false
def rtab (md : Region.Mode) (ops : Array Oper) : Bool × List (List Nat × List Nat):=(Region.noSelect ops,(List.range ops.size).map fun i => match ops[i]? with
  | some o => (needsOf md o,clashOf md ops i o)
  | none => ([],[]))
def readyAt (T : List (List Nat × List Nat)) (l : List Bool) (i : Nat) : Bool:=!l.getD i true && match T[i]? with
  | some r => r.1.all (fun j => l.getD j false)
  | none => false
def readyT (T : List (List Nat × List Nat)) (l : List Bool) : List Nat:=(List.range T.length).filter (readyAt T l)
def freeT (T : List (List Nat × List Nat)) (l : List Bool) (i : Nat) : Bool:=match T[i]? with
  | some r => r.2.all (fun j => l.getD j true)
  | none => false
def closedT (T : List (List Nat × List Nat)) (l : List Bool) : Bool:=(List.range T.length).all fun j => !l.getD j false || match T[j]? with
  | some r => r.1.all (fun k => l.getD k false)
  | none => true
def reachT (T : List (List Nat × List Nat)) (i : Nat) : Nat → Nat → Bool
  | 0,_ => false
  | fuel + 1,d => match T[d]? with
    | some r => r.1.any fun j => j == i || reachT T i fuel j
    | none => false
def lastT (T : List (List Nat × List Nat)) (l : List Bool) (ds : List Nat) (i : Nat) : Bool:=ds.all fun d => l.getD d true || reachT T i T.length d
section
variable {md : Region.Mode} {ops : Array Oper} {T : Bool × List (List Nat × List Nat)} {l l' li lj lk : Array Bool} {ds : List Nat} {i j k : Nat}
theorem gd (l : Array Bool) (j : Nat) (b : Bool) : l.getD j b = l.toList.getD j b:=by simp [Array.getD_eq_getD_getElem?,List.getD_eq_getElem?_getD]
theorem needs_all (o : Oper) (p : Nat → Bool) : o.after.all (fun e => !Region.binds md e || p e.on) = (needsOf md o).all p:=by
  unfold needsOf
  rw [← Array.all_toList]
  induction o.after.toList with
  | nil => rfl
  | cons e r ih =>
    rw [List.all_cons,ih,List.filter_cons]
    cases h : Region.binds md e <;> simp
theorem needs_any (o : Oper) (p : Nat → Bool) : o.after.any (fun e => Region.binds md e && p e.on) = (needsOf md o).any p:=by
  unfold needsOf
  rw [← Array.any_toList]
  induction o.after.toList with
  | nil => rfl
  | cons e r ih =>
    rw [List.any_cons,ih,List.filter_cons]
    cases h : Region.binds md e <;> simp
theorem rtab_length : (rtab md ops).2.length = ops.size:=by simp [rtab]
theorem rtab_some {o : Oper} (h : ops[i]? = some o) : (rtab md ops).2[i]? = some (needsOf md o,clashOf md ops i o):=by
  have hi:=(Array.getElem?_eq_some_iff.1 h).1
  unfold rtab
  rw [List.getElem?_map,List.getElem?_range hi,Option.map_some,h]
theorem rtab_none (h : ops[i]? = none) : (rtab md ops).2[i]? = none:=by
  have hi : ops.size ≤ i:=Array.getElem?_eq_none_iff.1 h
  exact List.getElem?_eq_none (by rw [rtab_length];exact hi)
theorem readyAt_eq : readyAt (rtab md ops).2 l.toList i = (!l.getD i true && ((ops[i]?).map (·.after.all fun e => !Region.binds md e || l.getD e.on false)).getD false):=by
  unfold readyAt
  rw [gd]
  cases h : ops[i]? with
  | none => rw [rtab_none h];rfl
  | some o =>
    rw [rtab_some h]
    simp only [Option.map_some,Option.getD_some]
    rw [← needs_all]
    simp only [gd]
theorem ready_eq : Region.ready md ops l = readyT (rtab md ops).2 l.toList:=by
  unfold Region.ready readyT
  rw [rtab_length]
  refine List.filter_congr (fun i _ => ?_)
  rw [readyAt_eq]
theorem free_eq : Region.free md ops l i = freeT (rtab md ops).2 l.toList i:=by
  unfold Region.free freeT
  cases h : ops[i]? with
  | none => rw [rtab_none h]
  | some oi =>
    rw [rtab_some h]
    simp only [clashOf]
    rw [List.all_filter]
    congr 1
    funext j
    rw [gd]
    cases hj : ops[j]? with
    | none => cases (j == i) <;> cases (l.toList.getD j true) <;> simp
    | some oj =>
      cases (j == i) <;> cases (l.toList.getD j true) <;> cases (oj.after.any (fun e => Region.binds md e && e.on == i) || oi.apart ops oj) <;> simp_all
theorem closed_eq : Region.closedB md ops l = closedT (rtab md ops).2 l.toList:=by
  unfold Region.closedB closedT
  rw [rtab_length]
  congr 1
  funext j
  rw [gd]
  cases h : ops[j]? with
  | none => rw [rtab_none h]
  | some o =>
    rw [rtab_some h]
    simp only
    rw [← needs_all]
    simp only [gd]
theorem reach_eq : ∀ (fuel d : Nat),Region.reachB md ops i fuel d = reachT (rtab md ops).2 i fuel d
  | 0,_ => rfl
  | fuel + 1,d => by
    unfold Region.reachB reachT
    cases h : ops[d]? with
    | none => rw [rtab_none h]
    | some o =>
      rw [rtab_some h]
      simp only
      rw [← needs_any]
      congr 1
      funext e
      rw [reach_eq fuel]
theorem last_eq : Region.lastB md ops l ds i = lastT (rtab md ops).2 l.toList ds i:=by
  unfold Region.lastB lastT
  rw [rtab_length]
  congr 1
  funext d
  rw [gd,reach_eq]
theorem readyAt_mem (h : readyAt T.2 l.toList i = true) (hT : rtab md ops = T) : (Region.ready md ops l).contains i = true:=by
  subst hT
  rw [ready_eq]
  unfold readyT
  rw [List.contains_iff_mem,List.mem_filter,List.mem_range]
  refine ⟨?_,h⟩
  unfold readyAt at h
  rw [Bool.and_eq_true] at h
  cases hq : (rtab md ops).2[i]? with
  | none => rw [hq] at h;simp at h
  | some r => exact (List.getElem?_eq_some_iff.1 hq).1
theorem set_of (h : (l.toList.set i true == l'.toList) = true) : (l.setIfInBounds i true == l') = true:=by
  rw [beq_iff_eq] at h ⊢
  apply Array.ext'
  rw [Array.toList_setIfInBounds]
  exact h
def anyT (T : Bool × List (List Nat × List Nat)) (l l' : List Bool) (i : Nat) : Bool:=T.1 && freeT T.2 l i && readyAt T.2 l i && (l.set i true == l')
theorem any_of (hT : rtab md ops = T) (h : anyT T l.toList l'.toList i = true) : anyB md ops l l' i = true:=by
  simp only [anyT,Bool.and_eq_true] at h
  obtain ⟨⟨⟨h1,h2⟩,h3⟩,h4⟩:=h
  have h5:=readyAt_mem h3 hT
  have h6:=set_of h4
  subst hT
  simp only [anyB,Bool.and_eq_true]
  exact ⟨⟨⟨h1,by rw [free_eq];exact h2⟩,h5⟩,h6⟩
def takeT (T : Bool × List (List Nat × List Nat)) (ds : List Nat) (l l' : List Bool) (i : Nat) : Bool:=T.1 && freeT T.2 l i && readyAt T.2 l i && closedT T.2 l && lastT T.2 l ds i && (l.set i true == l')
theorem take_of (hT : rtab md ops = T) (h : takeT T ds l.toList l'.toList i = true) : takeB md ops ds l l' i = true:=by
  simp only [takeT,Bool.and_eq_true] at h
  obtain ⟨⟨⟨⟨⟨h1,h2⟩,h3⟩,h4⟩,h5⟩,h6⟩:=h
  have h7:=readyAt_mem h3 hT
  have h8:=set_of h6
  subst hT
  simp only [takeB,Bool.and_eq_true]
  exact ⟨⟨⟨⟨⟨h1,by rw [free_eq];exact h2⟩,h7⟩,by rw [closed_eq];exact h4⟩,by rw [last_eq];exact h5⟩,h8⟩
theorem one_of (hT : rtab md ops = T) (h : (readyT T.2 l.toList == [i] && l.toList.set i true == l'.toList) = true) : readyB md ops l l' i = true:=by
  simp only [Bool.and_eq_true] at h
  obtain ⟨h1,h2⟩:=h
  subst hT
  simp only [readyB,Bool.and_eq_true]
  exact ⟨by rw [ready_eq];exact h1,set_of h2⟩
theorem two_of (hT : rtab md ops = T) (h : (readyT T.2 l.toList == [i,j] && l.toList.set i true == li.toList && l.toList.set j true == lj.toList) = true) : (Region.ready md ops l == [i,j] && l.setIfInBounds i true == li && l.setIfInBounds j true == lj) = true:=by
  simp only [Bool.and_eq_true] at h ⊢
  obtain ⟨⟨h1,h2⟩,h3⟩:=h
  subst hT
  exact ⟨⟨by rw [ready_eq];exact h1,set_of h2⟩,set_of h3⟩
theorem three_of (hT : rtab md ops = T) (h : (readyT T.2 l.toList == [i,j,k] && l.toList.set i true == li.toList && l.toList.set j true == lj.toList && l.toList.set k true == lk.toList) = true) :
    (Region.ready md ops l == [i,j,k] && l.setIfInBounds i true == li && l.setIfInBounds j true == lj && l.setIfInBounds k true == lk) = true:=by
  simp only [Bool.and_eq_true] at h ⊢
  obtain ⟨⟨⟨h1,h2⟩,h3⟩,h4⟩:=h
  subst hT
  exact ⟨⟨⟨by rw [ready_eq];exact h1,set_of h2⟩,set_of h3⟩,set_of h4⟩
theorem done_of (hT : rtab md ops = T) (h : (readyT T.2 l.toList == []) = true) : (Region.ready md ops l == []) = true:=by
  subst hT
  rw [ready_eq]
  exact h
def upM (B : List Nat) (d : Nat) : List Nat → Nat
  | [] => 0
  | n :: r => (2 ^ n ||| (if n < d then B.getD n 0 else 0)) ||| upM B d r
def waitsOk (T : List (List Nat × List Nat)) (B : List Nat) : Bool:=(List.range T.length).all fun d => match T[d]? with
  | some r => (B.getD d 0 ||| upM B d r.1) == upM B d r.1
  | none => false
theorem upM_bit {B : List Nat} {d i : Nat} : ∀ {ns : List Nat},(upM B d ns).testBit i = true → ∃ n ∈ ns,n = i ∨ (n < d ∧ (B.getD n 0).testBit i = true)
  | [],h => by simp [upM] at h
  | n :: r,h => by
    unfold upM at h
    rw [Nat.testBit_or,Nat.testBit_or,Bool.or_eq_true,Bool.or_eq_true] at h
    rcases h with (h | h) | h
    · rw [Nat.testBit_two_pow] at h
      exact ⟨n,List.mem_cons_self,.inl (by simpa using h)⟩
    · by_cases hn : n < d
      · rw [if_pos hn] at h
        exact ⟨n,List.mem_cons_self,.inr ⟨hn,h⟩⟩
      · rw [if_neg hn] at h
        simp at h
    · obtain ⟨m,hm,h2⟩:=upM_bit h
      exact ⟨m,List.mem_cons_of_mem _ hm,h2⟩
theorem reach_bit {T : List (List Nat × List Nat)} {B : List Nat} (hB : waitsOk T B = true) : ∀ (fuel d : Nat),d < fuel → d < T.length → (B.getD d 0).testBit i = true → reachT T i fuel d = true
  | 0,d,h,_,_ => by omega
  | fuel + 1,d,h,hd,hb => by
    have h1:=List.all_eq_true.1 hB d (List.mem_range.2 hd)
    cases hr : T[d]? with
    | none => rw [hr] at h1;simp at h1
    | some r =>
      rw [hr] at h1
      simp only [beq_iff_eq] at h1
      have h2 : (upM B d r.1).testBit i = true:=by rw [← h1,Nat.testBit_or,hb,Bool.true_or]
      obtain ⟨n,hn,h3⟩:=upM_bit h2
      unfold reachT
      rw [hr]
      simp only
      rw [List.any_eq_true]
      refine ⟨n,hn,?_⟩
      rcases h3 with rfl | ⟨h4,h5⟩
      · simp
      · rw [reach_bit hB fuel n (by omega) (by omega) h5,Bool.or_true]
def lastW (T : List (List Nat × List Nat)) (B : List Nat) (l : List Bool) (ds : List Nat) (i : Nat) : Bool:=ds.all fun d => l.getD d true || (decide (d < T.length) && (B.getD d 0).testBit i)
def takeW (T : Bool × List (List Nat × List Nat)) (B : List Nat) (ds : List Nat) (l l' : List Bool) (i : Nat) : Bool:=T.1 && freeT T.2 l i && readyAt T.2 l i && closedT T.2 l && lastW T.2 B l ds i && (l.set i true == l')
theorem take_ofW {B : List Nat} (hT : rtab md ops = T) (hB : waitsOk T.2 B = true) (h : takeW T B ds l.toList l'.toList i = true) : takeB md ops ds l l' i = true:=by
  refine take_of hT ?_
  simp only [takeW,takeT,Bool.and_eq_true] at h ⊢
  obtain ⟨⟨⟨⟨⟨h1,h2⟩,h3⟩,h4⟩,h5⟩,h6⟩:=h
  refine ⟨⟨⟨⟨⟨h1,h2⟩,h3⟩,h4⟩,?_⟩,h6⟩
  unfold lastW at h5
  unfold lastT
  rw [List.all_eq_true] at h5 ⊢
  intro d hd
  have h7:=h5 d hd
  rw [Bool.or_eq_true,Bool.and_eq_true,decide_eq_true_eq] at h7
  rcases h7 with h7 | ⟨h8,h9⟩
  · rw [h7,Bool.true_or]
  · rw [reach_bit hB _ d h8 h8 h9,Bool.or_true]
theorem with_tabW {P : Program} {Q : Exit → Act → World → Prop} {S : World → Prop} {n : Nat} {a : Act} {w : World} {B : List Nat} (hT : rtab md ops = T) (hB : waitsOk T.2 B = true) (h : Aside0 (rtab md ops = T) → Aside0 (waitsOk T.2 B = true) → wpAnyLast P md ops Q S ds n l a w) : wpAnyLast P md ops Q S ds n l a w:=h ⟨hT⟩ ⟨hB⟩
end
def opsIn : Code → Nat → Option (Array Oper)
  | .region id ops _,k => if id == k then some ops else none
  | .seq a b,k => match opsIn a k with
    | some o => some o
    | none => opsIn b k
  | .cond _ a b,k => match opsIn a k with
    | some o => some o
    | none => opsIn b k
  | .block _ c,k => opsIn c k
  | .loop c,k => opsIn c k
  | .scope c,k => opsIn c k
  | .rangeFunc _ _ a b,k => match opsIn a k with
    | some o => some o
    | none => opsIn b k
  | _,_ => none
def opsOf (f : Func) (k : Nat) : Array Oper:=((f.body.bind fun c => opsIn c k)).getD #[]
end Go.Proofs.YtgjjfnjnjnbfgaaDoorW.PrintLast
namespace Go.Proofs.YtgjjfnjnjnbfgaaDoorW.PrintLast
section
variable {P : Program} {ops : Array Oper} {Q : Exit → Act → World → Prop} {md : Region.Mode} {S : World → Prop} {ds : List Nat} {T : Bool × List (List Nat × List Nat)}
end
end Go.Proofs.YtgjjfnjnjnbfgaaDoorW.PrintLast
namespace Go.Proofs.YtgjjfnjnjnbfgaaDoorW.PrintLast
def up (b : Nat → Bool) (i : Nat) : Nat → Bool:=fun j => if j = i then true else b j
end Go.Proofs.YtgjjfnjnjnbfgaaDoorW.PrintLast
namespace Go.Proofs.YtgjjfnjnjnbfgaaDoorW.PrintMore
open Go.RowKit Go.Proofs.YtgjjfnjnjnbfgaaDoorW.PrintWords
theorem max2_int (k k' : IntKind) (x y : Int) : Builtin.max2 (.int k x) (.int k' y) = pure (.int k (if x < y then y else x)):=by simp only [Builtin.max2,gt_iff_lt]
theorem min2_int (k k' : IntKind) (x y : Int) : Builtin.min2 (.int k x) (.int k' y) = pure (.int k (if y < x then y else x)):=by simp only [Builtin.min2]
theorem max_two (ats : Array TypeId) (ty : TypeId) (a b : Value) : Builtin.max_ ats ty #[a,b] = (Builtin.max2 a b >>= fun s => pure s):=by simp only [Builtin.max_,List.foldlM_cons,List.foldlM_nil]
theorem min_two (ats : Array TypeId) (ty : TypeId) (a b : Value) : Builtin.min_ ats ty #[a,b] = (Builtin.min2 a b >>= fun s => pure s):=by simp only [Builtin.min_,List.foldlM_cons,List.foldlM_nil]
theorem max_three (ats : Array TypeId) (ty : TypeId) (a b c : Value) : Builtin.max_ ats ty #[a,b,c] = (Builtin.max2 a b >>= fun s => Builtin.max2 s c >>= fun s => pure s):=by simp only [Builtin.max_,List.foldlM_cons,List.foldlM_nil]
theorem min_three (ats : Array TypeId) (ty : TypeId) (a b c : Value) : Builtin.min_ ats ty #[a,b,c] = (Builtin.min2 a b >>= fun s => Builtin.min2 s c >>= fun s => pure s):=by simp only [Builtin.min_,List.foldlM_cons,List.foldlM_nil]
theorem max_four (ats : Array TypeId) (ty : TypeId) (a b c d : Value) : Builtin.max_ ats ty #[a,b,c,d] = (Builtin.max2 a b >>= fun s => Builtin.max2 s c >>= fun s => Builtin.max2 s d >>= fun s => pure s):=by simp only [Builtin.max_,List.foldlM_cons,List.foldlM_nil]
theorem min_four (ats : Array TypeId) (ty : TypeId) (a b c d : Value) : Builtin.min_ ats ty #[a,b,c,d] = (Builtin.min2 a b >>= fun s => Builtin.min2 s c >>= fun s => Builtin.min2 s d >>= fun s => pure s):=by simp only [Builtin.min_,List.foldlM_cons,List.foldlM_nil]
end Go.Proofs.YtgjjfnjnjnbfgaaDoorW.PrintMore
namespace Go.Proofs.YtgjjfnjnjnbfgaaDoorW.PrintWords
open Go.RowKit
section
variable {P : Program} {ops : Array Oper} {rest : List Oper} {o : Oper} {a : Act} {Q : Exit → Act → World → Prop} {W : World}
theorem gate_callee {f : FuncId} {«as» : Array Operand} {ts : Array TypeId} (_ho : o.op = .call { callee:=.value (.func f),args:=«as»,argTypes:=ts }) (h : wpList P ops Q (o :: rest) a W) : wpList P ops Q (o :: rest) a W:=h
end
def mx (a b : Int) : Int:=if a < b then b else a
def mn (a b : Int) : Int:=if b < a then b else a
def shl (k : IntKind) (x y : Int) : Int:=k.wrap (x * 2 ^ min y.toNat k.bits)
def shr (k : IntKind) (x y : Int) : Int:=x / 2 ^ min y.toNat k.bits
theorem shl_small {k : IntKind} {x y j : Int} (h : shl k x y = j) (hy : y ≤ k.bits) : k.wrap (x * 2 ^ y.toNat) = j:=by rw [← h];unfold shl;rw [Nat.min_eq_left (by omega)]
theorem shr_small {k : IntKind} {x y j : Int} (h : shr k x y = j) (hy : y ≤ k.bits) : x / 2 ^ y.toNat = j:=by rw [← h];unfold shr;rw [Nat.min_eq_left (by omega)]
theorem drewN_self (w : World) (n : Nat) : w.drewN n = w.drewN n:=rfl
end Go.Proofs.YtgjjfnjnjnbfgaaDoorW.PrintWords
namespace Go.Proofs.YtgjjfnjnjnbfgaaDoorW.PrintWords
open Go.RowKit
namespace Kd
def V {α : Type} (d : Kd α) (_e : Nat) (W : World) (_base : Nat) (ok : Nat → Prop) (v : Value) (xs : List α) : Prop:=∃ A c,v = .slice A xs.length c ∧ xs.length ≤ c ∧ F d W ok A xs.length xs
end Kd
end Go.Proofs.YtgjjfnjnjnbfgaaDoorW.PrintWords
namespace Go.Proofs.YtgjjfnjnjnbfgaaDoorW.PrintWords
theorem Reps.one {α : Type} {R : α → List Value → Prop} {ps : List α} {cs : List Value} {p : α} {v : Value} (hp : R p [v]) (h : Reps R 1 ps cs) : Reps R 1 (p :: ps) (v :: cs):=by
  refine ⟨by simp [h.1],fun j q hq => ?_⟩
  cases j with
  | zero =>
    simp only [List.getElem?_cons_zero,Option.some.injEq] at hq
    subst hq
    simpa using hp
  | succ j =>
    simp only [List.getElem?_cons_succ] at hq
    have h1:=h.2 j q hq
    simpa [Nat.mul_one] using h1
theorem Reps.front {α : Type} {R : α → List Value → Prop} {size : Nat} {ps : List α} {cs c all : List Value} {p : α} (hp : R p c) (hc : c.length = size) (h : Reps R size ps cs) (ha : c ++ cs = all) : Reps R size (p :: ps) all:=by
  subst ha
  refine ⟨by rw [List.length_append,hc,h.1,List.length_cons,Nat.succ_mul,Nat.add_comm],fun j q hq => ?_⟩
  cases j with
  | zero =>
    simp only [List.getElem?_cons_zero,Option.some.injEq] at hq
    subst hq
    rw [Nat.zero_mul,List.drop_zero,List.take_append_of_le_length (by omega),List.take_of_length_le (by omega)]
    exact hp
  | succ j =>
    simp only [List.getElem?_cons_succ] at hq
    have h1:=h.2 j q hq
    rw [Nat.succ_mul,List.drop_append,List.drop_of_length_le (by rw [hc];exact Nat.le_add_left _ _),List.nil_append,hc,Nat.add_sub_cancel]
    exact h1
theorem Reps.c2 {α : Type} {R : α → List Value → Prop} {ps : List α} {cs : List Value} {p : α} {va vb : Value} (hp : R p [va,vb]) (h : Reps R 2 ps cs) : Reps R 2 (p :: ps) (va :: vb :: cs):=Reps.front hp rfl h rfl
theorem Reps.c3 {α : Type} {R : α → List Value → Prop} {ps : List α} {cs : List Value} {p : α} {va vb vc : Value} (hp : R p [va,vb,vc]) (h : Reps R 3 ps cs) : Reps R 3 (p :: ps) (va :: vb :: vc :: cs):=Reps.front hp rfl h rfl
theorem Reps.c4 {α : Type} {R : α → List Value → Prop} {ps : List α} {cs : List Value} {p : α} {va vb vc vd : Value} (hp : R p [va,vb,vc,vd]) (h : Reps R 4 ps cs) : Reps R 4 (p :: ps) (va :: vb :: vc :: vd :: cs):=Reps.front hp rfl h rfl
theorem Reps.c5 {α : Type} {R : α → List Value → Prop} {ps : List α} {cs : List Value} {p : α} {va vb vc vd ve : Value} (hp : R p [va,vb,vc,vd,ve]) (h : Reps R 5 ps cs) : Reps R 5 (p :: ps) (va :: vb :: vc :: vd :: ve :: cs):=Reps.front hp rfl h rfl
theorem Reps.c6 {α : Type} {R : α → List Value → Prop} {ps : List α} {cs : List Value} {p : α} {va vb vc vd ve vf : Value} (hp : R p [va,vb,vc,vd,ve,vf]) (h : Reps R 6 ps cs) : Reps R 6 (p :: ps) (va :: vb :: vc :: vd :: ve :: vf :: cs):=Reps.front hp rfl h rfl
theorem Reps.c7 {α : Type} {R : α → List Value → Prop} {ps : List α} {cs : List Value} {p : α} {va vb vc vd ve vf vg : Value} (hp : R p [va,vb,vc,vd,ve,vf,vg]) (h : Reps R 7 ps cs) : Reps R 7 (p :: ps) (va :: vb :: vc :: vd :: ve :: vf :: vg :: cs):=Reps.front hp rfl h rfl
theorem Reps.c8 {α : Type} {R : α → List Value → Prop} {ps : List α} {cs : List Value} {p : α} {va vb vc vd ve vf vg vh : Value} (hp : R p [va,vb,vc,vd,ve,vf,vg,vh]) (h : Reps R 8 ps cs) : Reps R 8 (p :: ps) (va :: vb :: vc :: vd :: ve :: vf :: vg :: vh :: cs):=Reps.front hp rfl h rfl
theorem Reps.c9 {α : Type} {R : α → List Value → Prop} {ps : List α} {cs : List Value} {p : α} {va vb vc vd ve vf vg vh vi : Value} (hp : R p [va,vb,vc,vd,ve,vf,vg,vh,vi]) (h : Reps R 9 ps cs) : Reps R 9 (p :: ps) (va :: vb :: vc :: vd :: ve :: vf :: vg :: vh :: vi :: cs):=Reps.front hp rfl h rfl
theorem Reps.c10 {α : Type} {R : α → List Value → Prop} {ps : List α} {cs : List Value} {p : α} {va vb vc vd ve vf vg vh vi vj : Value} (hp : R p [va,vb,vc,vd,ve,vf,vg,vh,vi,vj]) (h : Reps R 10 ps cs) : Reps R 10 (p :: ps) (va :: vb :: vc :: vd :: ve :: vf :: vg :: vh :: vi :: vj :: cs):=Reps.front hp rfl h rfl
end Go.Proofs.YtgjjfnjnjnbfgaaDoorW.PrintWords
namespace Go.Proofs.YtgjjfnjnjnbfgaaDoorW.PrintMore
open Go.RowKit Go.Proofs.YtgjjfnjnjnbfgaaDoorW.PrintWords Go.Proofs.YtgjjfnjnjnbfgaaDoorW.PrintLast
/-- What the session's program writes for short: arguments that are shown by always the same steps. -/
theorem bA {w W : World} (h : Below w.heap.size w W:=by repeat (first | (with_reducible first | exact HB.out | apply below_alloc | apply pw_below_drewN | apply below_drew1 | refine below_set ?_ (Aside0.out (by assumption))) | exact HB.out)) : Below w.heap.size w W:=h
theorem aA {xs ys : Array Value} (h : xs = ys:=by (try simp only [List.map_toArray,List.map_cons,List.map_nil]);first | done | rfl | (simp only [List.length_drop,List.length_take];rfl)) : xs = ys:=h
theorem gwA {g : Nat} {w W : World} (hg : g = W.heap.size) (h : Below w.heap.size w W) : w.heap.size ≤ g:=by rw [hg];exact below_size h
theorem neA {g g2 : Nat} {W : World} {o : Obj} (hg : g2 = W.heap.size) (h : W.heap[g]? = some o) : g ≠ g2:=by rw [hg];exact Nat.ne_of_lt (blk_lt h)
theorem neB {g g2 : Nat} {W : World} {o : Obj} (hg : g2 = W.heap.size) (h : W.heap[g]? = some o) : g2 ≠ g:=by rw [hg];exact Nat.ne_of_gt (blk_lt h)
theorem kA {w : World} {g : Nat} {o : Obj} (h : w.heap[g]? = some o:=by (with_reducible repeat (first | refine blk_drewN ?_ _ | refine blk_drew ?_ | refine blk_alloc ?_ _));exact Aside0.out (by assumption)) : w.heap[g]? = some o:=h
section
variable {P : Program} {ops : Array Oper} {rest : List Oper} {o : Oper} {a : Act} {Q : Exit → Act → World → Prop}
theorem bxA {W : World} (N : Tmp) (cs : Array Value) (t : TypeId)
    (h : ∀ g,g = W.heap.size → ∀ w1,w1.heap[g]? = some (.cells cs t (0,0)) → Below W.heap.size W w1 → wpList P ops Q rest (a.put o.dst (.pointer (some ⟨g,0,none⟩))) w1)
    (hd : o.dst = some N:=by rfl) (hgd : o.guard = none:=by rfl)
    (hrun : (execOp a.eval o).run P W = .ok (.value (.pointer (some ⟨W.heap.size,0,none⟩))) (W.alloc (.cells cs t (0,0))):=by first | (go_simp;done) | (go_simp;rfl)) : wpList P ops Q (o :: rest) a W:=box_event hgd hd hrun h
end
end Go.Proofs.YtgjjfnjnjnbfgaaDoorW.PrintMore
namespace Go.Proofs.YtgjjfnjnjnbfgaaDoor.H
open Go.RowKit Go.Proofs.YtgjjfnjnjnbfgaaDoorW.PrintWords
set_option linter.unusedVariables false
set_option linter.unusedSimpArgs false
theorem gb_setCell (w : World) (g o : Nat) (v : Value) : w.grownBy (w.setCell ⟨g,o,none⟩ v) (some g):=
  ⟨rfl,rfl,rfl,by simp [World.setCell],fun k hk hne => by
    have : k ≠ g:=fun e => hne (by rw [e])
    exact Below.heap_setCell _ _ _ _ this⟩
theorem gb_drewN (w : World) (n : Nat) (row : Option Nat) : w.grownBy (w.drewN n) row:=⟨rfl,rfl,rfl,Nat.le_refl _,fun _ _ _ => rfl⟩
theorem gb_drew (w : World) (row : Option Nat) : w.grownBy w.drew row:=⟨rfl,rfl,rfl,Nat.le_refl _,fun _ _ _ => rfl⟩
theorem gb_refl (w : World) (row : Option Nat) : w.grownBy w row:=⟨rfl,rfl,rfl,Nat.le_refl _,fun _ _ _ => rfl⟩
theorem gb_any {w w' : World} (h : w.grownBy w' none) (row : Option Nat) : w.grownBy w' row:=⟨h.os,h.tape,h.output,h.size,fun k hk _ => h.block k hk (by simp)⟩
theorem gb_of_below {w w' : World} (h : Below w.heap.size w w') (row : Option Nat) : w.grownBy w' row:=⟨h.os,h.tape,h.output,h.size,fun k hk _ => h.block k hk⟩
theorem below_of_gb {w w' : World} (h : w.grownBy w' none) : Below w.heap.size w w':=⟨h.os,h.tape,h.output,h.size,fun k hk => h.block k hk (by simp)⟩
theorem below_gb {B : Nat} {w W W' : World} {row : Option Nat} (h : Below B w W) (hg : W.grownBy W' row) (hB : B ≤ W.heap.size) (hr : ∀ k,row = some k → B ≤ k) : Below B w W':=h.grown hg hB hr
/-- A block that is new since w may be written: what was there at w stands. -/
theorem gb_new {w w1 w2 : World} {row : Option Nat} {g : Nat} (h : w.grownBy w1 row) (hg : w1.grownBy w2 (some g)) (hn : w.heap.size ≤ g) : w.grownBy w2 row:=
  ⟨hg.os.trans h.os,hg.tape.trans h.tape,hg.output.trans h.output,Nat.le_trans h.size hg.size,fun k hk hne => (hg.block k (Nat.lt_of_lt_of_le hk h.size) (fun e => by injection e with e;omega)).trans (h.block k hk hne)⟩
theorem blk_kept {w w' : World} {row : Option Nat} {g : Nat} {o : Obj} (h : w.heap[g]? = some o) (hg : w.grownBy w' row) (hne : some g ≠ row) : w'.heap[g]? = some o:=by
  rw [hg.block g (Array.getElem?_eq_some_iff.1 h).1 hne];exact h
theorem blk_lt' {w : World} {g : Nat} {o : Obj} (h : w.heap[g]? = some o) : g < w.heap.size:=(Array.getElem?_eq_some_iff.1 h).1
theorem add_block (ad : Addr) (j : Nat) : (ad.add j).block = ad.block:=by unfold Addr.add;split <;> rfl
theorem add_add (ad : Addr) (i j : Nat) : (ad.add i).add j = ad.add (i + j):=by
  unfold Addr.add
  by_cases h1 : i = 0 <;> by_cases h2 : j = 0 <;> simp [h1,h2,Nat.add_assoc]

structure Enc (α : Type) where
  sz : Nat
  enc : α → List Value
  len : ∀ x,(enc x).length = sz
  one : ∀ x,∀ v ∈ enc x,v.oneCell' = true
  pos : 0 < sz
def flat {α : Type} (E : Enc α) (xs : List α) : List Value:=(xs.map E.enc).flatten
theorem flat_len {α : Type} (E : Enc α) : ∀ xs : List α,(flat E xs).length = xs.length * E.sz
  | [] => by simp [flat]
  | x :: r => by
    have:=flat_len E r
    simp only [flat,List.map_cons,List.flatten_cons,List.length_append,List.length_cons,E.len] at this ⊢
    rw [this,Nat.add_mul];omega
theorem flat_nil {α : Type} (E : Enc α) : flat E [] = []:=rfl
theorem flat_cons {α : Type} (E : Enc α) (x : α) (r : List α) : flat E (x :: r) = E.enc x ++ flat E r:=by simp [flat]
theorem flat_append {α : Type} (E : Enc α) (xs ys : List α) : flat E (xs ++ ys) = flat E xs ++ flat E ys:=by simp [flat]
theorem flat_oneCell {α : Type} (E : Enc α) (xs : List α) : ∀ v ∈ flat E xs,v.oneCell' = true:=by
  intro v hv
  simp only [flat,List.mem_flatten,List.mem_map] at hv
  obtain ⟨l,⟨x,_,rfl⟩,hv⟩:=hv
  exact E.one x v hv
theorem flat_at {α : Type} (E : Enc α) : ∀ (xs : List α) (j i : Nat) (x : α),xs[j]? = some x → i < E.sz → (flat E xs)[j * E.sz + i]? = (E.enc x)[i]?
  | [],j,i,x,h,_ => by simp at h
  | y :: r,0,i,x,h,hi => by
    have : y = x:=by simpa using h
    subst this
    rw [flat_cons,Nat.zero_mul,Nat.zero_add,List.getElem?_append_left (by rw [E.len];exact hi)]
  | y :: r,j + 1,i,x,h,hi => by
    have h' : r[j]? = some x:=by simpa using h
    rw [flat_cons,List.getElem?_append_right (by rw [E.len,Nat.add_mul];omega),E.len,← flat_at E r j i x h' hi]
    congr 1
    rw [Nat.add_mul];omega
theorem flat_take {α : Type} (E : Enc α) (xs : List α) (m : Nat) : flat E (xs.take m) = (flat E xs).take (m * E.sz):=by
  rcases Nat.lt_or_ge m xs.length with h | h
  · have e:=(List.take_append_drop m xs)
    have hl : (flat E (xs.take m)).length = m * E.sz:=by rw [flat_len,List.length_take];congr 1;omega
    calc flat E (xs.take m) = (flat E (xs.take m) ++ flat E (xs.drop m)).take (m * E.sz):=by rw [← hl,List.take_left'];rfl
      _ = _:=by rw [← flat_append,e]
  · rw [List.take_of_length_le h,List.take_of_length_le (by rw [flat_len];exact Nat.mul_le_mul_right _ h)]
/-- A slice that reads as a list. -/
def Rd {α : Type} (E : Enc α) (w : World) (A : Option Addr) (n : Nat) (xs : List α) : Prop:=
  xs.length = n ∧ n ≤ 9223372036854775807 ∧ (0 < n → ∃ ad,A = some ad ∧ ∀ i v,(flat E xs)[i]? = some v → w.cell? (ad.add i) = some v)
theorem Rd.kept {α : Type} {E : Enc α} {w w' : World} {A : Option Addr} {n : Nat} {xs : List α} {row : Option Nat} (h : Rd E w A n xs) (hg : w.grownBy w' row) (hne : ∀ ad,A = some ad → some ad.block ≠ row) : Rd E w' A n xs:=
  ⟨h.1,h.2.1,fun hn => by
    obtain ⟨ad,e,hc⟩:=h.2.2 hn
    exact ⟨ad,e,fun i v hv => hg.cell (hc i v hv) (by rw [add_block];exact hne ad e)⟩⟩
theorem Rd.gb {α : Type} {E : Enc α} {w w' : World} {A : Option Addr} {n : Nat} {xs : List α} (h : Rd E w A n xs) (hg : w.grownBy w' none) : Rd E w' A n xs:=h.kept hg (by simp)
theorem Rd.below {α : Type} {E : Enc α} {w w' : World} {A : Option Addr} {n : Nat} {xs : List α} (h : Rd E w A n xs) (hb : Below w.heap.size w w') : Rd E w' A n xs:=h.gb (gb_of_below hb none)
theorem Rd.nil {α : Type} (E : Enc α) (w : World) (A : Option Addr) : Rd E w A 0 []:=⟨rfl,by omega,fun h => absurd h (by omega)⟩
/-- The cells of the element at j. -/
theorem Rd.at_ {α : Type} {E : Enc α} {w : World} {A : Option Addr} {n : Nat} {xs : List α} (h : Rd E w A n xs) (j : Nat) (hj : j < n) :
    ∃ ad x,A = some ad ∧ xs[j]? = some x ∧ ∀ i v,(E.enc x)[i]? = some v → w.cell? (ad.add (j * E.sz + i)) = some v:=by
  obtain ⟨ad,e,hc⟩:=h.2.2 (by omega)
  have hj' : j < xs.length:=by rw [h.1];exact hj
  refine ⟨ad,xs[j],e,List.getElem?_eq_getElem hj',fun i v hv => ?_⟩
  have hi : i < E.sz:=by
    rcases Nat.lt_or_ge i E.sz with hi | hi
    · exact hi
    · rw [List.getElem?_eq_none (by rw [E.len];exact hi)] at hv;cases hv
  exact hc _ v (by rw [flat_at E xs j i _ (List.getElem?_eq_getElem hj') hi];exact hv)
theorem Rd.take_ {α : Type} {E : Enc α} {w : World} {A : Option Addr} {n : Nat} {xs : List α} (h : Rd E w A n xs) (m : Nat) (hm : m ≤ n) : Rd E w A m (xs.take m):=by
  refine ⟨by rw [List.length_take,h.1];omega,by have:=h.2.1;omega,fun hp => ?_⟩
  obtain ⟨ad,e,hc⟩:=h.2.2 (by omega)
  refine ⟨ad,e,fun i v hv => hc i v ?_⟩
  rw [flat_take,List.getElem?_take] at hv
  split at hv
  · exact hv
  · cases hv
/-- A row of one's own,opened. -/
theorem own_open {α : Type} {E : Enc α} {w : World} {base n : Nat} {e : TypeId} {v : Value} {xs : List α} (hl : xs.length = n) (h : w.ownsRow base e E.sz v n (flat E xs)) :
    ∃ A c,v = .slice A n c ∧ Rd E w A n xs ∧ n ≤ c ∧ ∀ ad,A = some ad → base ≤ ad.block:=by
  rcases h.2 with ⟨rfl,rfl⟩ | ⟨g,cap,cur,rfl,hb,hg,hn,hm,hs,ht⟩
  · obtain rfl : xs = []:=List.eq_nil_of_length_eq_zero hl
    exact ⟨none,0,rfl,Rd.nil E w none,by omega,by simp⟩
  · refine ⟨some ⟨g,0,none⟩,cap,rfl,⟨hl,by simp only [maxLen] at hm;omega,fun _ => ⟨_,rfl,fun i v hv => ?_⟩⟩,hn,fun ad e => by cases e;exact hb⟩
    exact h.cells (g:=g) rfl i v hv
theorem own_kept {w w' : World} {base n : Nat} {e : TypeId} {size : Nat} {v : Value} {xs : List Value} {row : Option Nat} (h : w.ownsRow base e size v n xs) (hg : w.grownBy w' row) (hne : ∀ k,row = some k → k < base) : w'.ownsRow base e size v n xs:=
  h.kept hg (by
    cases hv : v.ownBlock with
    | none => exact .inl rfl
    | some g => exact .inr (fun he => by have h1:=(h.lt g hv).1;have h2:=hne g he.symm;omega))
theorem own_mono {w : World} {b b' n : Nat} {e : TypeId} {size : Nat} {v : Value} {xs : List Value} (h : w.ownsRow b e size v n xs) (hb : b' ≤ b) : w.ownsRow b' e size v n xs:=by
  refine ⟨h.1,?_⟩
  rcases h.2 with h | ⟨g,cap,cur,h1,h2,h3⟩
  · exact .inl h
  · exact .inr ⟨g,cap,cur,h1,by omega,h3⟩
/-- A literal's row. -/
theorem rd_lit {α : Type} (E : Enc α) (w : World) (t : TypeId) (xs : List α) (h : xs.length ≤ 9223372036854775807) : Rd E (w.alloc (.cells (flat E xs).toArray t)) (some ⟨w.heap.size,0,none⟩) xs.length xs:=by
  have ho:=World.ownsRow_lit (base:=w.heap.size) (e:=t) (size:=E.sz) w (flat E xs).toArray xs.length (Nat.le_refl _) (by simpa [maxLen] using h) (by simp [flat_len])
  obtain ⟨A,c,he,hr,_,_⟩:=own_open (E:=E) rfl (by simpa using ho)
  injection he with h1 h2 h3
  rw [h1];exact hr
theorem rd_alloc {α : Type} {E : Enc α} {w : World} {A : Option Addr} {n : Nat} {xs : List α} (h : Rd E w A n xs) (o : Obj) : Rd E (w.alloc o) A n xs:=h.gb (World.grownBy_alloc w o none)
section
variable {P : Program} {ops : Array Oper} {rest : List Oper} {o : Oper} {a : Act} {Q : Exit → Act → World → Prop}
theorem wp_app {α : Type} (E : Enc α) {w : World} {K : Act → World → Prop} (base : Nat) (s x : Operand) (t e : TypeId) (z : Value) (bytes : Nat)
    (ho : o.op = .call { callee:=.builtin .append,args:=#[s,x],argTypes:=#[t,t] })
    (ht : P.underlying t = some (.slice e)) (hinfo : (P.info? e).map (fun i => (i.zero,i.size,i.bytes)) = some (some z,E.sz,bytes)) (hz : z.cells.size = E.sz) (hb0 : 0 < bytes)
    (v : Value) (n : Nat) (xs ys : List α) (A : Option Addr) (m c : Nat) (hs : a.eval s = v) (hx : a.eval x = .slice A m c) (hn : xs.length = n)
    (HO : w.ownsRow base e E.sz v n (flat E xs)) (HR : Rd E w A m ys) (hbase : base ≤ w.heap.size) (hl : (n + m) * bytes ≤ 140737488355328)
    (h : ∀ v1 w1,w1.ownsRow base e E.sz v1 (n + m) (flat E (xs ++ ys)) → w.grownBy w1 v.ownBlock → (v1 = .slice none 0 0 ↔ v = .slice none 0 0 ∧ m = 0) → K (a.put o.dst v1) w1) : o.wp P a w K Q:=by
  obtain ⟨i0,hi,hz0,hz1,hz2⟩:=info_parts hinfo
  have hlen : n + m ≤ 140737488355328:=Nat.le_trans (Nat.le_mul_of_pos_right _ hb0) hl
  by_cases hA : ∃ ad,A = some ad
  · obtain ⟨ad,rfl⟩:=hA
    refine wp_append_own w s x t ho base e i0 z E.sz bytes ht hi hz0 hz1 hz2 hz E.pos v n (flat E xs) hs HO ad m c (flat E ys) hx (by rw [flat_len,HR.1]) ?_ (flat_oneCell E ys) (by simp only [maxLen];omega) hl hbase ?_
    · intro j u hu
      rcases Nat.eq_zero_or_pos m with h0 | h0
      · obtain rfl : ys = []:=List.eq_nil_of_length_eq_zero (HR.1.trans h0)
        simp [flat_nil] at hu
      · obtain ⟨ad',e',hc⟩:=HR.2.2 h0
        injection e' with e'
        subst e'
        exact hc j u hu
    · intro v1 w1 h1 h2 h3
      exact h v1 w1 (by rw [flat_append];exact h1) h2 h3
  · have hA' : A = none:=by cases A with | none => rfl | some ad => exact absurd ⟨ad,rfl⟩ hA
    subst hA'
    have h0 : m = 0:=by
      rcases Nat.eq_zero_or_pos m with h0 | h0
      · exact h0
      · obtain ⟨ad,h,_⟩:=HR.2.2 h0
        cases h
    subst h0
    obtain rfl : ys = []:=List.eq_nil_of_length_eq_zero HR.1
    have hrun : (Builtin.append_ #[t,t] o.type #[v,.slice none 0 c]).run P w = .ok v w:=by
      rcases HO.2 with ⟨rfl,hn0⟩ | ⟨g,cap,cur,rfl,_,_,hnc,_⟩
      · simp [Builtin.append_,run_underlying ht,sizeOf,typeInfo,hi,Builtin.lenOf,Builtin.firstCells]
      · simp [Builtin.append_,run_underlying ht,sizeOf,typeInfo,hi,Builtin.lenOf,Builtin.firstCells,hnc,storeCells]
    unfold Oper.wp execOp
    simp only [ho,resolve,invoke,builtin,Sem.run_bind,Sem.run_pure,Result.andThen_ok,List.map_toArray,List.map_cons,List.map_nil,hs,hx,hrun]
    exact h v w (by simpa using HO) (gb_refl _ _) (by simp)
theorem app {α : Type} (E : Enc α) {w : World} (base : Nat) (hgd : o.guard = none) (s x : Operand) (t e : TypeId) (z : Value) (bytes : Nat)
    (ho : o.op = .call { callee:=.builtin .append,args:=#[s,x],argTypes:=#[t,t] })
    (ht : P.underlying t = some (.slice e)) (hinfo : (P.info? e).map (fun i => (i.zero,i.size,i.bytes)) = some (some z,E.sz,bytes)) (hz : z.cells.size = E.sz) (hb0 : 0 < bytes)
    (v : Value) (n : Nat) (xs ys : List α) (A : Option Addr) (m c : Nat) (hs : a.eval s = v) (hx : a.eval x = .slice A m c) (hn : xs.length = n)
    (HO : w.ownsRow base e E.sz v n (flat E xs)) (HR : Rd E w A m ys) (hbase : base ≤ w.heap.size) (hl : (n + m) * bytes ≤ 140737488355328)
    (h : ∀ v1 w1,w1.ownsRow base e E.sz v1 (n + m) (flat E (xs ++ ys)) → w.grownBy w1 v.ownBlock → (v1 = .slice none 0 0 ↔ v = .slice none 0 0 ∧ m = 0) → wpList P ops Q rest (a.put o.dst v1) w1) : wpList P ops Q (o :: rest) a w:=
  wpList_plain hgd fun K hK => wp_app E base s x t e z bytes ho ht hinfo hz hb0 v n xs ys A m c hs hx hn HO HR hbase hl fun v1 w1 h1 h2 h3 => hK _ _ (h v1 w1 h1 h2 h3)
end
/-- Whole numbers. -/
def Ei (k : IntKind) : Enc Int:=⟨1,fun x => [.int k x],fun _ => rfl,fun _ v hv => by simp at hv;subst hv;rfl,by decide⟩
theorem flat_nums (k : IntKind) (xs : List Int) : flat (Ei k) xs = nums k xs:=by
  induction xs with
  | nil => rfl
  | cons x r ih => rw [flat_cons,ih];simp [nums,Ei]
theorem rd_ints {w : World} {k : IntKind} {A : Option Addr} {n : Nat} {xs : List Int} (h : ReadsInt w k A n xs) : Rd (Ei k) w A n xs:=
  ⟨h.1,h.2.1,fun hn => by
    obtain ⟨ad,e,hc⟩:=h.2.2 hn
    refine ⟨ad,e,fun i v hv => ?_⟩
    rw [flat_nums] at hv
    have hi : i < xs.length:=by
      rcases Nat.lt_or_ge i xs.length with hi | hi
      · exact hi
      · rw [List.getElem?_eq_none (by simpa [nums] using hi)] at hv;cases hv
    have:=hc i (by rw [← h.1];exact hi)
    rw [this]
    simp [nums,List.getElem?_eq_getElem hi] at hv
    subst hv
    simp [List.getD_eq_getElem?_getD,List.getElem?_eq_getElem hi]⟩
/-- The whole number at j. -/
theorem Rd.int {w : World} {k : IntKind} {A : Option Addr} {n : Nat} {xs : List Int} (h : Rd (Ei k) w A n xs) (j : Nat) (hj : j < n) : ∃ ad,A = some ad ∧ w.cell? (ad.add j) = some (.int k (rd xs (j : Int))):=by
  obtain ⟨ad,x,e,hx,hc⟩:=h.at_ j hj
  refine ⟨ad,e,?_⟩
  have:=hc 0 _ rfl
  rw [show j * (Ei k).sz + 0 = j by simp [Ei]] at this
  rw [this]
  have : rd xs (j : Int) = x:=by simp [rd,List.getD_eq_getElem?_getD,hx]
  rw [this]
end Go.Proofs.YtgjjfnjnjnbfgaaDoor.H
namespace Go.Proofs.YtgjjfnjnjnbfgaaDoor.H
open Go.RowKit Go.Proofs.YtgjjfnjnjnbfgaaDoorW.PrintWords
set_option linter.unusedVariables false
set_option linter.unusedSimpArgs false
/-- What was there at w stands at w',but for the blocks of F. -/
structure Tn (w w' : World) (F : Nat → Prop) : Prop where
  os : w'.os = w.os
  tape : w'.tape = w.tape
  output : w'.output = w.output
  size : w.heap.size ≤ w'.heap.size
  block : ∀ k,k < w.heap.size → ¬ F k → w'.heap[k]? = w.heap[k]?
theorem Tn.refl (w : World) (F : Nat → Prop) : Tn w w F:=⟨rfl,rfl,rfl,Nat.le_refl _,fun _ _ _ => rfl⟩
theorem Tn.of_gb {w w' : World} {row : Option Nat} {F : Nat → Prop} (h : w.grownBy w' row) (hF : ∀ k,row = some k → F k) : Tn w w' F:=
  ⟨h.os,h.tape,h.output,h.size,fun k hk hn => h.block k hk (fun e => hn (hF k e.symm))⟩
theorem Tn.gb0 {w w' : World} (h : w.grownBy w' none) (F : Nat → Prop) : Tn w w' F:=Tn.of_gb h (by simp)
theorem Tn.of_below {w w' : World} (h : Below w.heap.size w w') (F : Nat → Prop) : Tn w w' F:=
  ⟨h.os,h.tape,h.output,h.size,fun k hk _ => h.block k hk⟩
theorem Tn.trans {w w1 w2 : World} {F G : Nat → Prop} (h : Tn w w1 F) (k : Tn w1 w2 G) (hG : ∀ i,i < w.heap.size → G i → F i) : Tn w w2 F:=
  ⟨k.os.trans h.os,k.tape.trans h.tape,k.output.trans h.output,Nat.le_trans h.size k.size,fun i hi hn =>
    (k.block i (Nat.lt_of_lt_of_le hi h.size) (fun g => hn (hG i hi g))).trans (h.block i hi hn)⟩
theorem Tn.trans' {w w1 w2 : World} {F : Nat → Prop} (h : Tn w w1 F) (k : Tn w1 w2 F) : Tn w w2 F:=h.trans k (fun _ _ h => h)
theorem Tn.mono {w w1 : World} {F G : Nat → Prop} (h : Tn w w1 F) (hG : ∀ i,i < w.heap.size → F i → G i) : Tn w w1 G:=
  ⟨h.os,h.tape,h.output,h.size,fun i hi hn => h.block i hi (fun f => hn (hG i hi f))⟩
theorem Tn.below {w w1 : World} {F : Nat → Prop} {B : Nat} (h : Tn w w1 F) (hB : B ≤ w.heap.size) (hF : ∀ i,F i → B ≤ i) : Below B w w1:=
  ⟨h.os,h.tape,h.output,h.size,fun i hi => h.block i (by omega) (fun f => by have:=hF i f;omega)⟩
theorem Tn.set {w : World} (g o : Nat) (v : Value) {F : Nat → Prop} (hF : F g) : Tn w (w.setCell ⟨g,o,none⟩ v) F:=
  Tn.of_gb (gb_setCell w g o v) (fun k hk => by cases hk;exact hF)
theorem Tn.drew (w : World) (F : Nat → Prop) : Tn w w.drew F:=Tn.gb0 (gb_drew w none) F
theorem Tn.drewN (w : World) (n : Nat) (F : Nat → Prop) : Tn w (w.drewN n) F:=Tn.gb0 (gb_drewN w n none) F
theorem Tn.alloc (w : World) (o : Obj) (F : Nat → Prop) : Tn w (w.alloc o) F:=Tn.gb0 (World.grownBy_alloc w o none) F
theorem blk_tn {w w' : World} {F : Nat → Prop} {g : Nat} {o : Obj} (h : w.heap[g]? = some o) (hg : Tn w w' F) (hne : ¬ F g) : w'.heap[g]? = some o:=by
  rw [hg.block g (blk_lt' h) hne];exact h
theorem cell_tn {w w' : World} {F : Nat → Prop} {a : Addr} {v : Value} (h : w.cell? a = some v) (hg : Tn w w' F) (hne : ¬ F a.block) : w'.cell? a = some v:=
  (World.cell?_of_block (hg.block a.block (World.block_lt_of_cell? w a h) hne)).trans h
theorem own_tn {w w' : World} {F : Nat → Prop} {base n : Nat} {e : TypeId} {size : Nat} {v : Value} {xs : List Value} (h : w.ownsRow base e size v n xs) (hg : Tn w w' F) (hne : ∀ k,v.ownBlock = some k → ¬ F k) : w'.ownsRow base e size v n xs:=by
  refine ⟨h.1,?_⟩
  rcases h.2 with hn | ⟨g,cap,cur,rfl,hb,hgg,rest⟩
  · exact .inl hn
  · exact .inr ⟨g,cap,cur,rfl,hb,blk_tn hgg hg (hne g rfl),rest⟩
theorem Rd.tn {α : Type} {E : Enc α} {w w' : World} {A : Option Addr} {n : Nat} {xs : List α} {F : Nat → Prop} (h : Rd E w A n xs) (hg : Tn w w' F) (hne : ∀ ad,A = some ad → 0 < n → ¬ F ad.block) : Rd E w' A n xs:=
  ⟨h.1,h.2.1,fun hn => by
    obtain ⟨ad,e,hc⟩:=h.2.2 hn
    exact ⟨ad,e,fun i v hv => cell_tn (hc i v hv) hg (by rw [add_block];exact hne ad e hn)⟩⟩
/-- Cells of a block that is known whole. -/
theorem cell_of {w : World} {g : Nat} {cs : Array Value} {t : TypeId} {fr : Nat × Nat} {j : Nat} {v : Value} (h : w.heap[g]? = some (.cells cs t fr)) (hj : cs[j]? = some v) : w.cell? ⟨g,j,none⟩ = some v:=by
  simp [World.cell?,h,hj]
theorem frozen_of {w : World} {g : Nat} {cs : Array Value} {t : TypeId} {j : Nat} (h : w.heap[g]? = some (.cells cs t (0,0))) : w.frozen? ⟨g,j,none⟩ = false:=by
  simp [World.frozen?,h]
theorem blk_set {w : World} {g : Nat} {cs : Array Value} {t : TypeId} {fr : Nat × Nat} (j : Nat) (v : Value) (h : w.heap[g]? = some (.cells cs t fr)) : (w.setCell ⟨g,j,none⟩ v).heap[g]? = some (.cells (cs.setIfInBounds j v) t fr):=by
  simp [World.setCell,Array.getElem?_modify,h]
theorem own_form {w : World} {base n : Nat} {e : TypeId} {size : Nat} {A : Option Addr} {c : Nat} {xs : List Value} (h : w.ownsRow base e size (.slice A n c) n xs) : n ≤ c ∧ ∀ ad,A = some ad → ad = ⟨ad.block,0,none⟩:=by
  rcases h.2 with ⟨he,h0⟩ | ⟨g,cap,cur,he,_,_,h1,_⟩
  · injection he with h1 h2 h3;subst h1 h3;exact ⟨by omega,by simp⟩
  · injection he with h2 h3 h4;subst h2 h4;exact ⟨h1,fun ad e => by cases e;rfl⟩
theorem own_rd {α : Type} {E : Enc α} {w : World} {base n c : Nat} {e : TypeId} {A : Option Addr} {xs : List α} (hl : xs.length = n) (h : w.ownsRow base e E.sz (.slice A n c) n (flat E xs)) : Rd E w A n xs:=by
  obtain ⟨A',c',he,hr,_,_⟩:=own_open hl h
  injection he with h1 h2 h3
  subst h1;exact hr
/-- A row's cell,as the walk meets it. -/
theorem own_cell {α : Type} {E : Enc α} {w : World} {base n c : Nat} {e : TypeId} {g : Nat} {xs : List α} (h : w.ownsRow base e E.sz (.slice (some ⟨g,0,none⟩) n c) n (flat E xs)) (j i : Nat) (x : α) (hx : xs[j]? = some x) (hi : i < E.sz) (v : Value) (hv : (E.enc x)[i]? = some v) : w.cell? ⟨g,j * E.sz + i,none⟩ = some v:=by
  have hl : j < xs.length:=(List.getElem?_eq_some_iff.1 hx).1
  have h2 : j * E.sz + i < (flat E xs).length:=by
    rw [flat_len]
    calc j * E.sz + i < j * E.sz + E.sz:=by omega
      _ = (j + 1) * E.sz:=by rw [Nat.add_mul];omega
      _ ≤ xs.length * E.sz:=Nat.mul_le_mul_right _ hl
  have h3:=flat_at E xs j i x hx hi
  rw [hv] at h3
  have h4:=h.cells (g:=g) rfl _ v h3
  unfold Addr.add at h4
  split at h4
  · rename_i e0;rw [e0];exact h4
  · simpa using h4
theorem flat_set' {α : Type} (E : Enc α) : ∀ (xs : List α) (j i : Nat) (x y : α) (v : Value),xs[j]? = some x → i < E.sz → (E.enc x).set i v = E.enc y → (flat E xs).set (j * E.sz + i) v = flat E (xs.set j y)
  | [],j,i,x,y,v,h,_,_ => by simp at h
  | z :: r,0,i,x,y,v,h,hi,he => by
    have : z = x:=by simpa using h
    subst this
    rw [flat_cons,Nat.zero_mul,Nat.zero_add,List.set_append_left _ _ (by rw [E.len];exact hi),he,List.set_cons_zero,flat_cons]
  | z :: r,j + 1,i,x,y,v,h,hi,he => by
    have h' : r[j]? = some x:=by simpa using h
    rw [flat_cons,List.set_append_right _ _ (by rw [E.len,Nat.add_mul];omega),List.set_cons_succ,flat_cons,← flat_set' E r j i x y v h' hi he]
    congr 2
    rw [E.len,Nat.add_mul];omega
/-- A store into a row of one's own. -/
theorem own_put {α : Type} {E : Enc α} {w : World} {base n c : Nat} {e : TypeId} {g : Nat} {xs : List α} (h : w.ownsRow base e E.sz (.slice (some ⟨g,0,none⟩) n c) n (flat E xs)) (j i : Nat) (x y : α) (v : Value) (hx : xs[j]? = some x) (hi : i < E.sz) (he : (E.enc x).set i v = E.enc y) :
    (w.setCell ⟨g,j * E.sz + i,none⟩ v).ownsRow base e E.sz (.slice (some ⟨g,0,none⟩) n c) n (flat E (xs.set j y)):=by
  have:=(h.stored (j * E.sz + i) v).1
  rwa [flat_set' E xs j i x y v hx hi he] at this
theorem own_frozen {w : World} {base n c : Nat} {e : TypeId} {size : Nat} {g : Nat} {xs : List Value} (h : w.ownsRow base e size (.slice (some ⟨g,0,none⟩) n c) n xs) (j : Nat) : w.frozen? ⟨g,j,none⟩ = false:=h.frozenAt j
/-- append to a row of one's own,where the row lies told too. -/
theorem app_at {P : Program} {ops : Array Oper} {rest : List Oper} {o : Oper} {a : Act} {Q : Exit → Act → World → Prop} {α : Type} (E : Enc α) {w : World} (base : Nat) (hgd : o.guard = none) (s x : Operand) (t e : TypeId) (z : Value) (bytes : Nat)
    (ho : o.op = .call { callee:=.builtin .append,args:=#[s,x],argTypes:=#[t,t] })
    (ht : P.underlying t = some (.slice e)) (hinfo : (P.info? e).map (fun i => (i.zero,i.size,i.bytes)) = some (some z,E.sz,bytes)) (hz : z.cells.size = E.sz) (hb0 : 0 < bytes)
    (v : Value) (n : Nat) (xs ys : List α) (ad : Addr) (m c : Nat) (hs : a.eval s = v) (hx : a.eval x = .slice (some ad) m c)
    (HO : w.ownsRow base e E.sz v n (flat E xs)) (HR : Rd E w (some ad) m ys) (hbase : base ≤ w.heap.size) (hl : (n + m) * bytes ≤ 140737488355328)
    (h : ∀ v1 w1,w1.ownsRow base e E.sz v1 (n + m) (flat E (xs ++ ys)) → w.grownBy w1 v.ownBlock → (v1.ownBlock = v.ownBlock ∨ v1.ownBlock = some w.heap.size) → wpList P ops Q rest (a.put o.dst v1) w1) : wpList P ops Q (o :: rest) a w:=by
  obtain ⟨i0,hi,hz0,hz1,hz2⟩:=info_parts hinfo
  have hlen : n + m ≤ 140737488355328:=Nat.le_trans (Nat.le_mul_of_pos_right _ hb0) hl
  obtain ⟨v1,w1,hr,h2,h3,_,h5⟩:=run_append_own_at (P:=P) w base t o.type e i0 z E.sz bytes ht hi hz0 hz1 hz2 hz E.pos v n (flat E xs) HO ad m c (flat E ys) (by rw [flat_len,HR.1])
    (fun j u hu => by
      rcases Nat.eq_zero_or_pos m with h0 | h0
      · obtain rfl : ys = []:=List.eq_nil_of_length_eq_zero (HR.1.trans h0)
        simp [flat_nil] at hu
      · obtain ⟨ad',e',hc⟩:=HR.2.2 h0
        injection e' with e'
        subst e'
        exact hc j u hu) (flat_oneCell E ys) (by simp only [maxLen];omega) hl hbase
  refine wpList_plain hgd fun K hK => ?_
  unfold Oper.wp execOp
  simp only [ho,resolve,invoke,builtin,Sem.run_bind,Sem.run_pure,Result.andThen_ok,List.map_toArray,List.map_cons,List.map_nil,hs,hx,hr]
  exact hK _ _ (h v1 w1 (by rw [flat_append];exact h2) h3 h5)
end Go.Proofs.YtgjjfnjnjnbfgaaDoor.H
namespace Go.Proofs.YtgjjfnjnjnbfgaaDoor.GLG
open Go.RowKit Go.Proofs.YtgjjfnjnjnbfgaaDoorW.PrintWords Go.Proofs.YtgjjfnjnjnbfgaaDoorW.PrintLast Go.Proofs.YtgjjfnjnjnbfgaaDoorW.PrintMore
attribute [local go_sem] max2_int min2_int max_two min_two max_three min_three max_four min_four   -- for this text's walks alone
set_option linter.unusedVariables false
set_option linter.unusedSimpArgs false
def errW : Option Int → Value
 | none => .nilIface
 | some c => .iface 0 (.int .i64 c)
theorem errW_none : errW none = .nilIface:=rfl
theorem errW_some (c : Int) : errW (some c) = .iface 0 (.int .i64 c):=rfl

end Go.Proofs.YtgjjfnjnjnbfgaaDoor.GLG
namespace Go.Proofs.YtgjjfnjnjnbfgaaDoor.GLG
open Go.RowKit Go.Proofs.YtgjjfnjnjnbfgaaDoorW.PrintWords Go.Proofs.YtgjjfnjnjnbfgaaDoorW.PrintLast Go.Proofs.YtgjjfnjnjnbfgaaDoorW.PrintMore
attribute [local go_sem] max2_int min2_int max_two min_two max_three min_three max_four min_four   -- for this text's walks alone
set_option linter.unusedVariables false
set_option linter.unusedSimpArgs false
/-- A call of a function without a body,at which the model itself answers: it runs here and now. -/
def CallsX (P : Program) (f : FuncId) (args : Array Value) (w : World) (R : Ending → World → Prop) : Prop:=∃ v w',(callFunc f args).run P w = .ok (.value v) w' ∧ R (.returned v) w'
theorem CallsX.mono {P : Program} {f : FuncId} {args : Array Value} {w : World} {R R' : Ending → World → Prop} (h : CallsX P f args w R) (hr : ∀ e w',R e w' → R' e w') : CallsX P f args w R':=by
 obtain ⟨v,w',h1,h2⟩:=h
 exact ⟨v,w',h1,hr _ _ h2⟩
theorem goesX_ {P : Program} {ops : Array Oper} {Q : Exit → Act → World → Prop} {rest : List Oper} {oi : Oper} {a : Act} {w : World} (N : Option Tmp) (hd : oi.dst = N) (hg : oi.guard = none) {f : FuncId} {xs : Array Operand} {ts : Array TypeId} (args : Array Value)
  (hop : oi.op = .call { callee:=.value (.func f),args:=xs,argTypes:=ts }) (hargs : xs.map a.eval = args)
  (h : CallsX P f args w fun e w' => ∃ v,e = .returned v ∧ wpList P ops Q rest (a.put N v) w') : wpList P ops Q (oi :: rest) a w:=by
 refine wpList_plain hg fun K hK => ?_
 obtain ⟨v,w',he,v',hv,hk⟩:=h
 have hv' : v = v':=by injection hv
 subst hv'
 have hrun : (execOp a.eval oi).run P w = .ok (.value v) w':=by
  unfold execOp
  simp [hop,resolve,Deferred.ofValue,invoke,Act.eval,hargs,he]
 unfold Oper.wp
 rw [hrun]
 subst hd
 exact hK _ _ hk

/-- The Rungs,as the program's text lays them. -/
def rungsL : List Int:=[13043817825332782212,15511800964685064948,16915738899553466670,17664662643191237676,18051468387014017850,18248035989933441396,18347121020861646923,18396865112328554660,18421787711448657617,18434261669329232139,18440501815349552981,18443622680442407997,18445183311048607331,18445963675871538003,18446353870663572144,18446548971154807801,18446646522174239824,18446695297877410578,18446719685777359790,18446731879739425373,18446737976723480911,18446741025216264367,18446742549462845017,18446743311586182573,18446743692647863158,18446743883178706403,18446743978444128763,18446744026076840128,18446744049893195856,18446744061801373732,18446744067755462673,18446744070732507144]
/-- The variable 'rungs' of package ladder holds them. -/
def LaidW (w : World) : Prop:=∀ j : Nat,j < 32 → w.cell? ⟨0,j,none⟩ = some (.int .u64 (rd rungsL (j : Int)))
theorem laid_below {w w1 : World} (hL : LaidW w) (hb : Below w.heap.size w w1) : LaidW w1:=fun j hj => pw_cell_below hb (hL j hj)
def config_inside.f (a0 : Int) (a1 : Int) (a2 : Int) : Option (Bool):=if a0 ≥ a1 then (some (decide (a0 ≤ a2))) else (some false)
set_option maxHeartbeats 8000000 in
set_option maxRecDepth 100000 in
theorem config_inside.calls (a0 : Int) (a1 : Int) (a2 : Int) (r : Bool) (w : World) (h : config_inside.f a0 a1 a2 = some r) :
  Calls Tryd.prog 63 #[.int .i64 a0,.int .i64 a1,.int .i64 a2] w fun e w' => e = .returned (.bool r) ∧ Drawn0 w w':=by
 have H : (if a0 ≥ a1 then (some (decide (a0 ≤ a2))) else (some false)) = some r:=h
 clear h
 by_cases c4 : a0 ≥ a1
 ·rw [if_pos c4] at H
  have c4b0 : decide (a1 ≤ a0) = true:=decide_eq_true c4
  clear c4
  obtain rfl:=Option.some.inj H
  go_enter Tryd.func63,Tryd.ntmps63
  go_wp2
  go_ret
  exact ⟨by first | rfl | (simp;done) | (simp [*];done),by repeat (first | exact Drawn0.refl _ | apply Drawn0.step)⟩
 ·rw [if_neg c4] at H
  have c4b0 : decide (a1 ≤ a0) = false:=decide_eq_false c4
  clear c4
  obtain rfl:=Option.some.inj H
  go_enter Tryd.func63,Tryd.ntmps63
  go_wp2
  go_ret
  exact ⟨by first | rfl | (simp;done) | (simp [*];done),by repeat (first | exact Drawn0.refl _ | apply Drawn0.step)⟩

mutual
def config_asked_ranges.j0 : Nat → Bool → Int → Int → Int → Int → Int → Int → Int → Int → Option (Int)
 | 0,_,_,_,_,_,_,_,_,_ => none
 | k + 1,x3,x102000,x102001,x102002,x102003,x102004,x102005,x102006,x102007 => (config_inside.f x102003 1 1048576).bind fun t105 => (if t105 = true then ((config_inside.f x102004 0 1048576).bind fun t106 => (if t106 = true then ((config_inside.f x102005 0 1048576).bind fun t107 => (config_asked_ranges.j1 k x3 t107 x102000 x102001 x102002 x102003 x102004 x102005 x102006 x102007)) else (config_asked_ranges.j1 k x3 false x102000 x102001 x102002 x102003 x102004 x102005 x102006 x102007))) else (config_asked_ranges.j1 k x3 false x102000 x102001 x102002 x102003 x102004 x102005 x102006 x102007))
def config_asked_ranges.j1 : Nat → Bool → Bool → Int → Int → Int → Int → Int → Int → Int → Int → Option (Int)
 | 0,_,_,_,_,_,_,_,_,_,_ => none
 | k + 1,x3,x4,x102000,x102001,x102002,x102003,x102004,x102005,x102006,x102007 => if x3 = true then (if x4 = true then ((config_inside.f x102006 1 1048576).bind fun t108 => (if t108 = true then ((config_inside.f x102007 1 1073741824).bind fun t109 => (if t109 = true then (some 0) else (some 110))) else (some 110))) else (some 110)) else (some 110)
end
def config_asked_ranges.f (k : Nat) (a0_0 : Int) (a0_1 : Int) (a0_2 : Int) (a0_3 : Int) (a0_4 : Int) (a0_5 : Int) (a0_6 : Int) (a0_7 : Int) : Option (Int):=(config_inside.f a0_0 1 256).bind fun t102 => (if t102 = true then ((config_inside.f a0_1 1 128).bind fun t103 => (if t103 = true then ((config_inside.f a0_2 1 1048576).bind fun t104 => (config_asked_ranges.j0 k t104 a0_0 a0_1 a0_2 a0_3 a0_4 a0_5 a0_6 a0_7)) else (config_asked_ranges.j0 k false a0_0 a0_1 a0_2 a0_3 a0_4 a0_5 a0_6 a0_7))) else (config_asked_ranges.j0 k false a0_0 a0_1 a0_2 a0_3 a0_4 a0_5 a0_6 a0_7))
set_option maxHeartbeats 8000000 in
set_option maxRecDepth 100000 in
theorem config_asked_ranges.calls (k : Nat) (a0_0 : Int) (a0_1 : Int) (a0_2 : Int) (a0_3 : Int) (a0_4 : Int) (a0_5 : Int) (a0_6 : Int) (a0_7 : Int) (r : Int) (w : World) (h : config_asked_ranges.f k a0_0 a0_1 a0_2 a0_3 a0_4 a0_5 a0_6 a0_7 = some r) :
  Calls Tryd.prog 40 #[.agg #[.int .i64 a0_0,.int .i64 a0_1,.int .i64 a0_2,.int .i64 a0_3,.int .i64 a0_4,.int .i64 a0_5,.int .i64 a0_6,.int .i64 a0_7]] w fun e w' => e = .returned (.int .i64 r) ∧ Below w.heap.size w w':=by
 have hu77:=Tryd.underlying77
 have HB:=Aside0.mk (Below.refl w.heap.size w)
 have H : ((config_inside.f a0_0 1 256).bind fun t102 => (if t102 = true then ((config_inside.f a0_1 1 128).bind fun t103 => (if t103 = true then ((config_inside.f a0_2 1 1048576).bind fun t104 => (config_asked_ranges.j0 k t104 a0_0 a0_1 a0_2 a0_3 a0_4 a0_5 a0_6 a0_7)) else (config_asked_ranges.j0 k false a0_0 a0_1 a0_2 a0_3 a0_4 a0_5 a0_6 a0_7))) else (config_asked_ranges.j0 k false a0_0 a0_1 a0_2 a0_3 a0_4 a0_5 a0_6 a0_7))) = some r:=h
 clear h
 have HC2:=Aside0.mk H
 clear H
 go_enter Tryd.func40,Tryd.ntmps40
 go_upto_region 1 with (first | ((with_reducible refine gate_dst (N:=1) rfl ?_);refine bxA 1 #[.int .i64 a0_0,.int .i64 a0_1,.int .i64 a0_2,.int .i64 a0_3,.int .i64 a0_4,.int .i64 a0_5,.int .i64 a0_6,.int .i64 a0_7] 77 ?_;intro gb101 hg w3 hbox hb;have n0_:=Aside0.mk (below_step bA hb);have n1_:=Aside0.mk (hbox);have n2_:=Aside0.mk (gwA hg bA);have n3_:=Aside0.mk (gwA hg bA);clear HB;have HB:=n0_;have BK101:=n1_;have GW101:=n2_;have GE101:=n3_;clear n0_ n1_ n2_ n3_ hb hbox hg))
 (try simp only [Act.put,List.setIfInBounds_toArray,List.set_cons_zero,List.set_cons_succ])
 go_cut [3] (fun v3 wc => ∃ (kq : Nat) (x3_1 : Bool),v3 = .bool x3_1 ∧ Aside0 (config_asked_ranges.j0 kq x3_1 a0_0 a0_1 a0_2 a0_3 a0_4 a0_5 a0_6 a0_7 = some r) ∧ Aside0 (kq ≤ k) ∧ Aside0 (wc.heap[gb101]? = some (.cells #[.int .i64 a0_0,.int .i64 a0_1,.int .i64 a0_2,.int .i64 a0_3,.int .i64 a0_4,.int .i64 a0_5,.int .i64 a0_6,.int .i64 a0_7] 77 (0,0))) ∧ Aside0 (Below w.heap.size w wc))
 case first =>
  have H:=HC2.out
  clear HC2;replace H:=Option.bind_eq_some_iff.mp H;obtain ⟨t102,A40,H⟩:=H;replace H : (if t102 = true then ((config_inside.f a0_1 1 128).bind fun t103 => (if t103 = true then ((config_inside.f a0_2 1 1048576).bind fun t104 => (config_asked_ranges.j0 k t104 a0_0 a0_1 a0_2 a0_3 a0_4 a0_5 a0_6 a0_7)) else (config_asked_ranges.j0 k false a0_0 a0_1 a0_2 a0_3 a0_4 a0_5 a0_6 a0_7))) else (config_asked_ranges.j0 k false a0_0 a0_1 a0_2 a0_3 a0_4 a0_5 a0_6 a0_7)) = some r:=H;have A4:=Aside0.mk A40;clear A40
  by_cases c5 : t102 = true
  ·subst c5
   have H1 : ((config_inside.f a0_1 1 128).bind fun t103 => (if t103 = true then ((config_inside.f a0_2 1 1048576).bind fun t104 => (config_asked_ranges.j0 k t104 a0_0 a0_1 a0_2 a0_3 a0_4 a0_5 a0_6 a0_7)) else (config_asked_ranges.j0 k false a0_0 a0_1 a0_2 a0_3 a0_4 a0_5 a0_6 a0_7))) = some r:=by rw [if_pos rfl] at H;exact H
   clear H
   have H:=H1
   clear H1;replace H:=Option.bind_eq_some_iff.mp H;obtain ⟨t103,A60,H⟩:=H;replace H : (if t103 = true then ((config_inside.f a0_2 1 1048576).bind fun t104 => (config_asked_ranges.j0 k t104 a0_0 a0_1 a0_2 a0_3 a0_4 a0_5 a0_6 a0_7)) else (config_asked_ranges.j0 k false a0_0 a0_1 a0_2 a0_3 a0_4 a0_5 a0_6 a0_7)) = some r:=H;have A6:=Aside0.mk A60;clear A60
   by_cases c7 : t103 = true
   ·subst c7
    have H1 : ((config_inside.f a0_2 1 1048576).bind fun t104 => (config_asked_ranges.j0 k t104 a0_0 a0_1 a0_2 a0_3 a0_4 a0_5 a0_6 a0_7)) = some r:=by rw [if_pos rfl] at H;exact H
    clear H
    have H:=H1
    clear H1;replace H:=Option.bind_eq_some_iff.mp H;obtain ⟨t104,A80,H⟩:=H;replace H : (config_asked_ranges.j0 k t104 a0_0 a0_1 a0_2 a0_3 a0_4 a0_5 a0_6 a0_7) = some r:=H;have A8:=Aside0.mk A80;clear A80
    have H':=Aside0.mk H
    clear H
    have hcz9_0 : w3.cell? ⟨gb101,0,none⟩ = some (.int .i64 a0_0):=(blk_cell BK101.out 0).trans rfl
    have hcz9_1 : w3.cell? ⟨gb101,1,none⟩ = some (.int .i64 a0_1):=(blk_cell BK101.out 1).trans rfl
    have hcz9_2 : w3.cell? ⟨gb101,2,none⟩ = some (.int .i64 a0_2):=(blk_cell BK101.out 2).trans rfl
    have hcz9_3 : w3.cell? ⟨gb101,3,none⟩ = some (.int .i64 a0_3):=(blk_cell BK101.out 3).trans rfl
    have hcz9_4 : w3.cell? ⟨gb101,4,none⟩ = some (.int .i64 a0_4):=(blk_cell BK101.out 4).trans rfl
    have hcz9_5 : w3.cell? ⟨gb101,5,none⟩ = some (.int .i64 a0_5):=(blk_cell BK101.out 5).trans rfl
    have hcz9_6 : w3.cell? ⟨gb101,6,none⟩ = some (.int .i64 a0_6):=(blk_cell BK101.out 6).trans rfl
    have hcz9_7 : w3.cell? ⟨gb101,7,none⟩ = some (.int .i64 a0_7):=(blk_cell BK101.out 7).trans rfl
    have hfz9_0:=blk_frozen BK101.out 0
    have hfz9_1:=blk_frozen BK101.out 1
    have hfz9_2:=blk_frozen BK101.out 2
    have hfz9_3:=blk_frozen BK101.out 3
    have hfz9_4:=blk_frozen BK101.out 4
    have hfz9_5:=blk_frozen BK101.out 5
    have hfz9_6:=blk_frozen BK101.out 6
    have hfz9_7:=blk_frozen BK101.out 7
    go_wp2_with (first | ((with_reducible refine gate_callee (f:=63) rfl ?_);refine goesL_ (some 8) rfl rfl Tryd.func63 (by kernel_rfl) rfl #[.int .i64 a0_0,.int .i64 1,.int .i64 256] rfl aA ?_;(with_reducible refine (config_inside.calls a0_0 1 256 true _ A4.out).mono ?_);rintro e w' ⟨rfl,⟨nd,rfl⟩⟩;refine ⟨_,rfl,?_⟩) | (go_at_call 63;(with_reducible refine (config_inside.calls a0_1 1 128 true _ A6.out).mono ?_);rintro e w' ⟨rfl,⟨nd,rfl⟩⟩) | (go_at_call 63;(with_reducible refine (config_inside.calls a0_2 1 1048576 t104 _ A8.out).mono ?_);rintro e w' ⟨rfl,⟨nd,rfl⟩⟩))
    go_meet
    case rel => exact ⟨_,(t104),(by first | rfl | (simp;done) | (simp [*];done)),H',⟨by first | omega | exact Nat.le_refl _⟩,⟨by exact kA⟩,⟨bA⟩⟩
   ·replace c7:=Bool.eq_false_iff.mpr c7
    subst c7
    have H1 : (config_asked_ranges.j0 k false a0_0 a0_1 a0_2 a0_3 a0_4 a0_5 a0_6 a0_7) = some r:=by rw [if_neg (show ¬ (false = true) by decide)] at H;exact H
    clear H
    have H:=H1
    clear H1
    have H':=Aside0.mk H
    clear H
    have hcz10_0 : w3.cell? ⟨gb101,0,none⟩ = some (.int .i64 a0_0):=(blk_cell BK101.out 0).trans rfl
    have hcz10_1 : w3.cell? ⟨gb101,1,none⟩ = some (.int .i64 a0_1):=(blk_cell BK101.out 1).trans rfl
    have hcz10_2 : w3.cell? ⟨gb101,2,none⟩ = some (.int .i64 a0_2):=(blk_cell BK101.out 2).trans rfl
    have hcz10_3 : w3.cell? ⟨gb101,3,none⟩ = some (.int .i64 a0_3):=(blk_cell BK101.out 3).trans rfl
    have hcz10_4 : w3.cell? ⟨gb101,4,none⟩ = some (.int .i64 a0_4):=(blk_cell BK101.out 4).trans rfl
    have hcz10_5 : w3.cell? ⟨gb101,5,none⟩ = some (.int .i64 a0_5):=(blk_cell BK101.out 5).trans rfl
    have hcz10_6 : w3.cell? ⟨gb101,6,none⟩ = some (.int .i64 a0_6):=(blk_cell BK101.out 6).trans rfl
    have hcz10_7 : w3.cell? ⟨gb101,7,none⟩ = some (.int .i64 a0_7):=(blk_cell BK101.out 7).trans rfl
    have hfz10_0:=blk_frozen BK101.out 0
    have hfz10_1:=blk_frozen BK101.out 1
    have hfz10_2:=blk_frozen BK101.out 2
    have hfz10_3:=blk_frozen BK101.out 3
    have hfz10_4:=blk_frozen BK101.out 4
    have hfz10_5:=blk_frozen BK101.out 5
    have hfz10_6:=blk_frozen BK101.out 6
    have hfz10_7:=blk_frozen BK101.out 7
    go_wp2_with (first | ((with_reducible refine gate_callee (f:=63) rfl ?_);refine goesL_ (some 8) rfl rfl Tryd.func63 (by kernel_rfl) rfl #[.int .i64 a0_0,.int .i64 1,.int .i64 256] rfl aA ?_;(with_reducible refine (config_inside.calls a0_0 1 256 true _ A4.out).mono ?_);rintro e w' ⟨rfl,⟨nd,rfl⟩⟩;refine ⟨_,rfl,?_⟩) | (go_at_call 63;(with_reducible refine (config_inside.calls a0_1 1 128 false _ A6.out).mono ?_);rintro e w' ⟨rfl,⟨nd,rfl⟩⟩))
    go_meet
    case rel => exact ⟨_,(false),(by first | rfl | (simp;done) | (simp [*];done)),H',⟨by first | omega | exact Nat.le_refl _⟩,⟨by exact kA⟩,⟨bA⟩⟩
  ·replace c5:=Bool.eq_false_iff.mpr c5
   subst c5
   have H1 : (config_asked_ranges.j0 k false a0_0 a0_1 a0_2 a0_3 a0_4 a0_5 a0_6 a0_7) = some r:=by rw [if_neg (show ¬ (false = true) by decide)] at H;exact H
   clear H
   have H:=H1
   clear H1
   have H':=Aside0.mk H
   clear H
   have hcz11_0 : w3.cell? ⟨gb101,0,none⟩ = some (.int .i64 a0_0):=(blk_cell BK101.out 0).trans rfl
   have hcz11_1 : w3.cell? ⟨gb101,1,none⟩ = some (.int .i64 a0_1):=(blk_cell BK101.out 1).trans rfl
   have hcz11_2 : w3.cell? ⟨gb101,2,none⟩ = some (.int .i64 a0_2):=(blk_cell BK101.out 2).trans rfl
   have hcz11_3 : w3.cell? ⟨gb101,3,none⟩ = some (.int .i64 a0_3):=(blk_cell BK101.out 3).trans rfl
   have hcz11_4 : w3.cell? ⟨gb101,4,none⟩ = some (.int .i64 a0_4):=(blk_cell BK101.out 4).trans rfl
   have hcz11_5 : w3.cell? ⟨gb101,5,none⟩ = some (.int .i64 a0_5):=(blk_cell BK101.out 5).trans rfl
   have hcz11_6 : w3.cell? ⟨gb101,6,none⟩ = some (.int .i64 a0_6):=(blk_cell BK101.out 6).trans rfl
   have hcz11_7 : w3.cell? ⟨gb101,7,none⟩ = some (.int .i64 a0_7):=(blk_cell BK101.out 7).trans rfl
   have hfz11_0:=blk_frozen BK101.out 0
   have hfz11_1:=blk_frozen BK101.out 1
   have hfz11_2:=blk_frozen BK101.out 2
   have hfz11_3:=blk_frozen BK101.out 3
   have hfz11_4:=blk_frozen BK101.out 4
   have hfz11_5:=blk_frozen BK101.out 5
   have hfz11_6:=blk_frozen BK101.out 6
   have hfz11_7:=blk_frozen BK101.out 7
   go_wp2_with (first | ((with_reducible refine gate_callee (f:=63) rfl ?_);refine goesL_ (some 8) rfl rfl Tryd.func63 (by kernel_rfl) rfl #[.int .i64 a0_0,.int .i64 1,.int .i64 256] rfl aA ?_;(with_reducible refine (config_inside.calls a0_0 1 256 false _ A4.out).mono ?_);rintro e w' ⟨rfl,⟨nd,rfl⟩⟩;refine ⟨_,rfl,?_⟩))
   go_meet
   case rel => exact ⟨_,(false),(by first | rfl | (simp;done) | (simp [*];done)),H',⟨by first | omega | exact Nat.le_refl _⟩,⟨by exact kA⟩,⟨bA⟩⟩
 case rest =>
  clear HC2
  try clear p2
  try clear c4
  try clear c5
  try clear c6
  try clear c7
  try clear hcz10_0
  try clear hcz10_1
  try clear hcz10_2
  try clear hcz10_3
  try clear hcz10_4
  try clear hcz10_5
  try clear hcz10_6
  try clear hcz10_7
  try clear hcz11_0
  try clear hcz11_1
  try clear hcz11_2
  try clear hcz11_3
  try clear hcz11_4
  try clear hcz11_5
  try clear hcz11_6
  try clear hcz11_7
  try clear hcz9_0
  try clear hcz9_1
  try clear hcz9_2
  try clear hcz9_3
  try clear hcz9_4
  try clear hcz9_5
  try clear hcz9_6
  try clear hcz9_7
  try clear hfz10_0
  try clear hfz10_1
  try clear hfz10_2
  try clear hfz10_3
  try clear hfz10_4
  try clear hfz10_5
  try clear hfz10_6
  try clear hfz10_7
  try clear hfz11_0
  try clear hfz11_1
  try clear hfz11_2
  try clear hfz11_3
  try clear hfz11_4
  try clear hfz11_5
  try clear hfz11_6
  try clear hfz11_7
  try clear hfz9_0
  try clear hfz9_1
  try clear hfz9_2
  try clear hfz9_3
  try clear hfz9_4
  try clear hfz9_5
  try clear hfz9_6
  try clear hfz9_7
  obtain ⟨kq,x3_1,rfl,HA,HJ1,BK101,HB⟩:=hcut
  cases kq with
  | zero => exact absurd HA.out (by simp [config_asked_ranges.j0])
  | succ kj1 =>
   have H:=HA.out
   clear HA
   simp only [config_asked_ranges.j0] at H
   have HC12:=Aside0.mk H
   clear H
   go_upto_region 2 with (fail)
   go_cut [4] (fun v4 wc => ∃ (kq : Nat) (x4_11 : Bool),v4 = .bool x4_11 ∧ Aside0 (config_asked_ranges.j1 kq x3_1 x4_11 a0_0 a0_1 a0_2 a0_3 a0_4 a0_5 a0_6 a0_7 = some r) ∧ Aside0 (kq ≤ kj1) ∧ Aside0 (wc.heap[gb101]? = some (.cells #[.int .i64 a0_0,.int .i64 a0_1,.int .i64 a0_2,.int .i64 a0_3,.int .i64 a0_4,.int .i64 a0_5,.int .i64 a0_6,.int .i64 a0_7] 77 (0,0))) ∧ Aside0 (Below w.heap.size w wc))
   case first =>
    have H:=HC12.out
    clear HC12;replace H:=Option.bind_eq_some_iff.mp H;obtain ⟨t105,A130,H⟩:=H;replace H : (if t105 = true then ((config_inside.f a0_4 0 1048576).bind fun t106 => (if t106 = true then ((config_inside.f a0_5 0 1048576).bind fun t107 => (config_asked_ranges.j1 kj1 x3_1 t107 a0_0 a0_1 a0_2 a0_3 a0_4 a0_5 a0_6 a0_7)) else (config_asked_ranges.j1 kj1 x3_1 false a0_0 a0_1 a0_2 a0_3 a0_4 a0_5 a0_6 a0_7))) else (config_asked_ranges.j1 kj1 x3_1 false a0_0 a0_1 a0_2 a0_3 a0_4 a0_5 a0_6 a0_7)) = some r:=H;have A13:=Aside0.mk A130;clear A130
    by_cases c14 : t105 = true
    ·subst c14
     have H1 : ((config_inside.f a0_4 0 1048576).bind fun t106 => (if t106 = true then ((config_inside.f a0_5 0 1048576).bind fun t107 => (config_asked_ranges.j1 kj1 x3_1 t107 a0_0 a0_1 a0_2 a0_3 a0_4 a0_5 a0_6 a0_7)) else (config_asked_ranges.j1 kj1 x3_1 false a0_0 a0_1 a0_2 a0_3 a0_4 a0_5 a0_6 a0_7))) = some r:=by rw [if_pos rfl] at H;exact H
     clear H
     have H:=H1
     clear H1;replace H:=Option.bind_eq_some_iff.mp H;obtain ⟨t106,A150,H⟩:=H;replace H : (if t106 = true then ((config_inside.f a0_5 0 1048576).bind fun t107 => (config_asked_ranges.j1 kj1 x3_1 t107 a0_0 a0_1 a0_2 a0_3 a0_4 a0_5 a0_6 a0_7)) else (config_asked_ranges.j1 kj1 x3_1 false a0_0 a0_1 a0_2 a0_3 a0_4 a0_5 a0_6 a0_7)) = some r:=H;have A15:=Aside0.mk A150;clear A150
     by_cases c16 : t106 = true
     ·subst c16
      have H1 : ((config_inside.f a0_5 0 1048576).bind fun t107 => (config_asked_ranges.j1 kj1 x3_1 t107 a0_0 a0_1 a0_2 a0_3 a0_4 a0_5 a0_6 a0_7)) = some r:=by rw [if_pos rfl] at H;exact H
      clear H
      have H:=H1
      clear H1;replace H:=Option.bind_eq_some_iff.mp H;obtain ⟨t107,A170,H⟩:=H;replace H : (config_asked_ranges.j1 kj1 x3_1 t107 a0_0 a0_1 a0_2 a0_3 a0_4 a0_5 a0_6 a0_7) = some r:=H;have A17:=Aside0.mk A170;clear A170
      have H':=Aside0.mk H
      clear H
      have hcz18_0 : wc.cell? ⟨gb101,0,none⟩ = some (.int .i64 a0_0):=(blk_cell BK101.out 0).trans rfl
      have hcz18_1 : wc.cell? ⟨gb101,1,none⟩ = some (.int .i64 a0_1):=(blk_cell BK101.out 1).trans rfl
      have hcz18_2 : wc.cell? ⟨gb101,2,none⟩ = some (.int .i64 a0_2):=(blk_cell BK101.out 2).trans rfl
      have hcz18_3 : wc.cell? ⟨gb101,3,none⟩ = some (.int .i64 a0_3):=(blk_cell BK101.out 3).trans rfl
      have hcz18_4 : wc.cell? ⟨gb101,4,none⟩ = some (.int .i64 a0_4):=(blk_cell BK101.out 4).trans rfl
      have hcz18_5 : wc.cell? ⟨gb101,5,none⟩ = some (.int .i64 a0_5):=(blk_cell BK101.out 5).trans rfl
      have hcz18_6 : wc.cell? ⟨gb101,6,none⟩ = some (.int .i64 a0_6):=(blk_cell BK101.out 6).trans rfl
      have hcz18_7 : wc.cell? ⟨gb101,7,none⟩ = some (.int .i64 a0_7):=(blk_cell BK101.out 7).trans rfl
      have hfz18_0:=blk_frozen BK101.out 0
      have hfz18_1:=blk_frozen BK101.out 1
      have hfz18_2:=blk_frozen BK101.out 2
      have hfz18_3:=blk_frozen BK101.out 3
      have hfz18_4:=blk_frozen BK101.out 4
      have hfz18_5:=blk_frozen BK101.out 5
      have hfz18_6:=blk_frozen BK101.out 6
      have hfz18_7:=blk_frozen BK101.out 7
      go_wp2_with (first | ((with_reducible refine gate_callee (f:=63) rfl ?_);refine goesL_ (some 24) rfl rfl Tryd.func63 (by kernel_rfl) rfl #[.int .i64 a0_3,.int .i64 1,.int .i64 1048576] rfl aA ?_;(with_reducible refine (config_inside.calls a0_3 1 1048576 true _ A13.out).mono ?_);rintro e w' ⟨rfl,⟨nd,rfl⟩⟩;refine ⟨_,rfl,?_⟩) | (go_at_call 63;(with_reducible refine (config_inside.calls a0_4 0 1048576 true _ A15.out).mono ?_);rintro e w' ⟨rfl,⟨nd,rfl⟩⟩) | (go_at_call 63;(with_reducible refine (config_inside.calls a0_5 0 1048576 t107 _ A17.out).mono ?_);rintro e w' ⟨rfl,⟨nd,rfl⟩⟩))
      go_meet
      case rel => exact ⟨_,(t107),(by first | rfl | (simp;done) | (simp [*];done)),H',⟨by have:=HJ1.out;first | omega | exact Nat.le_refl _⟩,⟨by exact kA⟩,⟨bA⟩⟩
     ·replace c16:=Bool.eq_false_iff.mpr c16
      subst c16
      have H1 : (config_asked_ranges.j1 kj1 x3_1 false a0_0 a0_1 a0_2 a0_3 a0_4 a0_5 a0_6 a0_7) = some r:=by rw [if_neg (show ¬ (false = true) by decide)] at H;exact H
      clear H
      have H:=H1
      clear H1
      have H':=Aside0.mk H
      clear H
      have hcz19_0 : wc.cell? ⟨gb101,0,none⟩ = some (.int .i64 a0_0):=(blk_cell BK101.out 0).trans rfl
      have hcz19_1 : wc.cell? ⟨gb101,1,none⟩ = some (.int .i64 a0_1):=(blk_cell BK101.out 1).trans rfl
      have hcz19_2 : wc.cell? ⟨gb101,2,none⟩ = some (.int .i64 a0_2):=(blk_cell BK101.out 2).trans rfl
      have hcz19_3 : wc.cell? ⟨gb101,3,none⟩ = some (.int .i64 a0_3):=(blk_cell BK101.out 3).trans rfl
      have hcz19_4 : wc.cell? ⟨gb101,4,none⟩ = some (.int .i64 a0_4):=(blk_cell BK101.out 4).trans rfl
      have hcz19_5 : wc.cell? ⟨gb101,5,none⟩ = some (.int .i64 a0_5):=(blk_cell BK101.out 5).trans rfl
      have hcz19_6 : wc.cell? ⟨gb101,6,none⟩ = some (.int .i64 a0_6):=(blk_cell BK101.out 6).trans rfl
      have hcz19_7 : wc.cell? ⟨gb101,7,none⟩ = some (.int .i64 a0_7):=(blk_cell BK101.out 7).trans rfl
      have hfz19_0:=blk_frozen BK101.out 0
      have hfz19_1:=blk_frozen BK101.out 1
      have hfz19_2:=blk_frozen BK101.out 2
      have hfz19_3:=blk_frozen BK101.out 3
      have hfz19_4:=blk_frozen BK101.out 4
      have hfz19_5:=blk_frozen BK101.out 5
      have hfz19_6:=blk_frozen BK101.out 6
      have hfz19_7:=blk_frozen BK101.out 7
      go_wp2_with (first | ((with_reducible refine gate_callee (f:=63) rfl ?_);refine goesL_ (some 24) rfl rfl Tryd.func63 (by kernel_rfl) rfl #[.int .i64 a0_3,.int .i64 1,.int .i64 1048576] rfl aA ?_;(with_reducible refine (config_inside.calls a0_3 1 1048576 true _ A13.out).mono ?_);rintro e w' ⟨rfl,⟨nd,rfl⟩⟩;refine ⟨_,rfl,?_⟩) | (go_at_call 63;(with_reducible refine (config_inside.calls a0_4 0 1048576 false _ A15.out).mono ?_);rintro e w' ⟨rfl,⟨nd,rfl⟩⟩))
      go_meet
      case rel => exact ⟨_,(false),(by first | rfl | (simp;done) | (simp [*];done)),H',⟨by have:=HJ1.out;first | omega | exact Nat.le_refl _⟩,⟨by exact kA⟩,⟨bA⟩⟩
    ·replace c14:=Bool.eq_false_iff.mpr c14
     subst c14
     have H1 : (config_asked_ranges.j1 kj1 x3_1 false a0_0 a0_1 a0_2 a0_3 a0_4 a0_5 a0_6 a0_7) = some r:=by rw [if_neg (show ¬ (false = true) by decide)] at H;exact H
     clear H
     have H:=H1
     clear H1
     have H':=Aside0.mk H
     clear H
     have hcz20_0 : wc.cell? ⟨gb101,0,none⟩ = some (.int .i64 a0_0):=(blk_cell BK101.out 0).trans rfl
     have hcz20_1 : wc.cell? ⟨gb101,1,none⟩ = some (.int .i64 a0_1):=(blk_cell BK101.out 1).trans rfl
     have hcz20_2 : wc.cell? ⟨gb101,2,none⟩ = some (.int .i64 a0_2):=(blk_cell BK101.out 2).trans rfl
     have hcz20_3 : wc.cell? ⟨gb101,3,none⟩ = some (.int .i64 a0_3):=(blk_cell BK101.out 3).trans rfl
     have hcz20_4 : wc.cell? ⟨gb101,4,none⟩ = some (.int .i64 a0_4):=(blk_cell BK101.out 4).trans rfl
     have hcz20_5 : wc.cell? ⟨gb101,5,none⟩ = some (.int .i64 a0_5):=(blk_cell BK101.out 5).trans rfl
     have hcz20_6 : wc.cell? ⟨gb101,6,none⟩ = some (.int .i64 a0_6):=(blk_cell BK101.out 6).trans rfl
     have hcz20_7 : wc.cell? ⟨gb101,7,none⟩ = some (.int .i64 a0_7):=(blk_cell BK101.out 7).trans rfl
     have hfz20_0:=blk_frozen BK101.out 0
     have hfz20_1:=blk_frozen BK101.out 1
     have hfz20_2:=blk_frozen BK101.out 2
     have hfz20_3:=blk_frozen BK101.out 3
     have hfz20_4:=blk_frozen BK101.out 4
     have hfz20_5:=blk_frozen BK101.out 5
     have hfz20_6:=blk_frozen BK101.out 6
     have hfz20_7:=blk_frozen BK101.out 7
     go_wp2_with (first | ((with_reducible refine gate_callee (f:=63) rfl ?_);refine goesL_ (some 24) rfl rfl Tryd.func63 (by kernel_rfl) rfl #[.int .i64 a0_3,.int .i64 1,.int .i64 1048576] rfl aA ?_;(with_reducible refine (config_inside.calls a0_3 1 1048576 false _ A13.out).mono ?_);rintro e w' ⟨rfl,⟨nd,rfl⟩⟩;refine ⟨_,rfl,?_⟩))
     go_meet
     case rel => exact ⟨_,(false),(by first | rfl | (simp;done) | (simp [*];done)),H',⟨by have:=HJ1.out;first | omega | exact Nat.le_refl _⟩,⟨by exact kA⟩,⟨bA⟩⟩
   case rest =>
    clear HC12
    try clear c1
    try clear p2
    try clear c4
    try clear c5
    try clear c6
    try clear c7
    try clear c14
    try clear c16
    try clear hcz10_0
    try clear hcz10_1
    try clear hcz10_2
    try clear hcz10_3
    try clear hcz10_4
    try clear hcz10_5
    try clear hcz10_6
    try clear hcz10_7
    try clear hcz11_0
    try clear hcz11_1
    try clear hcz11_2
    try clear hcz11_3
    try clear hcz11_4
    try clear hcz11_5
    try clear hcz11_6
    try clear hcz11_7
    try clear hcz18_0
    try clear hcz18_1
    try clear hcz18_2
    try clear hcz18_3
    try clear hcz18_4
    try clear hcz18_5
    try clear hcz18_6
    try clear hcz18_7
    try clear hcz19_0
    try clear hcz19_1
    try clear hcz19_2
    try clear hcz19_3
    try clear hcz19_4
    try clear hcz19_5
    try clear hcz19_6
    try clear hcz19_7
    try clear hcz20_0
    try clear hcz20_1
    try clear hcz20_2
    try clear hcz20_3
    try clear hcz20_4
    try clear hcz20_5
    try clear hcz20_6
    try clear hcz20_7
    try clear hcz9_0
    try clear hcz9_1
    try clear hcz9_2
    try clear hcz9_3
    try clear hcz9_4
    try clear hcz9_5
    try clear hcz9_6
    try clear hcz9_7
    try clear hfz10_0
    try clear hfz10_1
    try clear hfz10_2
    try clear hfz10_3
    try clear hfz10_4
    try clear hfz10_5
    try clear hfz10_6
    try clear hfz10_7
    try clear hfz11_0
    try clear hfz11_1
    try clear hfz11_2
    try clear hfz11_3
    try clear hfz11_4
    try clear hfz11_5
    try clear hfz11_6
    try clear hfz11_7
    try clear hfz18_0
    try clear hfz18_1
    try clear hfz18_2
    try clear hfz18_3
    try clear hfz18_4
    try clear hfz18_5
    try clear hfz18_6
    try clear hfz18_7
    try clear hfz19_0
    try clear hfz19_1
    try clear hfz19_2
    try clear hfz19_3
    try clear hfz19_4
    try clear hfz19_5
    try clear hfz19_6
    try clear hfz19_7
    try clear hfz20_0
    try clear hfz20_1
    try clear hfz20_2
    try clear hfz20_3
    try clear hfz20_4
    try clear hfz20_5
    try clear hfz20_6
    try clear hfz20_7
    try clear hfz9_0
    try clear hfz9_1
    try clear hfz9_2
    try clear hfz9_3
    try clear hfz9_4
    try clear hfz9_5
    try clear hfz9_6
    try clear hfz9_7
    try clear p2
    obtain ⟨kq,x4_11,rfl,HA,HJ11,BK101,HB⟩:=hcut
    cases kq with
    | zero => exact absurd HA.out (by simp [config_asked_ranges.j1])
    | succ kj11 =>
     have H:=HA.out
     clear HA
     simp only [config_asked_ranges.j1] at H
     by_cases c21 : x3_1 = true
     ·subst c21
      have H1 : (if x4_11 = true then ((config_inside.f a0_6 1 1048576).bind fun t108 => (if t108 = true then ((config_inside.f a0_7 1 1073741824).bind fun t109 => (if t109 = true then (some 0) else (some 110))) else (some 110))) else (some 110)) = some r:=by rw [if_pos rfl] at H;exact H
      clear H
      have H:=H1
      clear H1
      by_cases c22 : x4_11 = true
      ·subst c22
       have H1 : ((config_inside.f a0_6 1 1048576).bind fun t108 => (if t108 = true then ((config_inside.f a0_7 1 1073741824).bind fun t109 => (if t109 = true then (some 0) else (some 110))) else (some 110))) = some r:=by rw [if_pos rfl] at H;exact H
       clear H
       have H:=H1
       clear H1;replace H:=Option.bind_eq_some_iff.mp H;obtain ⟨t108,A230,H⟩:=H;replace H : (if t108 = true then ((config_inside.f a0_7 1 1073741824).bind fun t109 => (if t109 = true then (some 0) else (some 110))) else (some 110)) = some r:=H;have A23:=Aside0.mk A230;clear A230
       by_cases c24 : t108 = true
       ·subst c24
        have H1 : ((config_inside.f a0_7 1 1073741824).bind fun t109 => (if t109 = true then (some 0) else (some 110))) = some r:=by rw [if_pos rfl] at H;exact H
        clear H
        have H:=H1
        clear H1;replace H:=Option.bind_eq_some_iff.mp H;obtain ⟨t109,A250,H⟩:=H;replace H : (if t109 = true then (some 0) else (some 110)) = some r:=H;have A25:=Aside0.mk A250;clear A250
        by_cases c26 : t109 = true
        ·subst c26
         have H1 : (some 0) = some r:=by rw [if_pos rfl] at H;exact H
         clear H
         have H:=H1
         clear H1
         obtain rfl:=Option.some.inj H
         have hcz27_0 : wc.cell? ⟨gb101,0,none⟩ = some (.int .i64 a0_0):=(blk_cell BK101.out 0).trans rfl
         have hcz27_1 : wc.cell? ⟨gb101,1,none⟩ = some (.int .i64 a0_1):=(blk_cell BK101.out 1).trans rfl
         have hcz27_2 : wc.cell? ⟨gb101,2,none⟩ = some (.int .i64 a0_2):=(blk_cell BK101.out 2).trans rfl
         have hcz27_3 : wc.cell? ⟨gb101,3,none⟩ = some (.int .i64 a0_3):=(blk_cell BK101.out 3).trans rfl
         have hcz27_4 : wc.cell? ⟨gb101,4,none⟩ = some (.int .i64 a0_4):=(blk_cell BK101.out 4).trans rfl
         have hcz27_5 : wc.cell? ⟨gb101,5,none⟩ = some (.int .i64 a0_5):=(blk_cell BK101.out 5).trans rfl
         have hcz27_6 : wc.cell? ⟨gb101,6,none⟩ = some (.int .i64 a0_6):=(blk_cell BK101.out 6).trans rfl
         have hcz27_7 : wc.cell? ⟨gb101,7,none⟩ = some (.int .i64 a0_7):=(blk_cell BK101.out 7).trans rfl
         have hfz27_0:=blk_frozen BK101.out 0
         have hfz27_1:=blk_frozen BK101.out 1
         have hfz27_2:=blk_frozen BK101.out 2
         have hfz27_3:=blk_frozen BK101.out 3
         have hfz27_4:=blk_frozen BK101.out 4
         have hfz27_5:=blk_frozen BK101.out 5
         have hfz27_6:=blk_frozen BK101.out 6
         have hfz27_7:=blk_frozen BK101.out 7
         go_wp2_with (first | (go_at_call 63;(with_reducible refine (config_inside.calls a0_6 1 1048576 true _ A23.out).mono ?_);rintro e w' ⟨rfl,⟨nd,rfl⟩⟩) | (go_at_call 63;(with_reducible refine (config_inside.calls a0_7 1 1073741824 true _ A25.out).mono ?_);rintro e w' ⟨rfl,⟨nd,rfl⟩⟩))
         go_ret
         exact ⟨by first | rfl | (simp [errW_none,errW_some] <;> rfl) | (simp [*,errW_none,errW_some] <;> rfl),bA⟩
        ·replace c26:=Bool.eq_false_iff.mpr c26
         subst c26
         have H1 : (some 110) = some r:=by rw [if_neg (show ¬ (false = true) by decide)] at H;exact H
         clear H
         have H:=H1
         clear H1
         obtain rfl:=Option.some.inj H
         have hcz28_0 : wc.cell? ⟨gb101,0,none⟩ = some (.int .i64 a0_0):=(blk_cell BK101.out 0).trans rfl
         have hcz28_1 : wc.cell? ⟨gb101,1,none⟩ = some (.int .i64 a0_1):=(blk_cell BK101.out 1).trans rfl
         have hcz28_2 : wc.cell? ⟨gb101,2,none⟩ = some (.int .i64 a0_2):=(blk_cell BK101.out 2).trans rfl
         have hcz28_3 : wc.cell? ⟨gb101,3,none⟩ = some (.int .i64 a0_3):=(blk_cell BK101.out 3).trans rfl
         have hcz28_4 : wc.cell? ⟨gb101,4,none⟩ = some (.int .i64 a0_4):=(blk_cell BK101.out 4).trans rfl
         have hcz28_5 : wc.cell? ⟨gb101,5,none⟩ = some (.int .i64 a0_5):=(blk_cell BK101.out 5).trans rfl
         have hcz28_6 : wc.cell? ⟨gb101,6,none⟩ = some (.int .i64 a0_6):=(blk_cell BK101.out 6).trans rfl
         have hcz28_7 : wc.cell? ⟨gb101,7,none⟩ = some (.int .i64 a0_7):=(blk_cell BK101.out 7).trans rfl
         have hfz28_0:=blk_frozen BK101.out 0
         have hfz28_1:=blk_frozen BK101.out 1
         have hfz28_2:=blk_frozen BK101.out 2
         have hfz28_3:=blk_frozen BK101.out 3
         have hfz28_4:=blk_frozen BK101.out 4
         have hfz28_5:=blk_frozen BK101.out 5
         have hfz28_6:=blk_frozen BK101.out 6
         have hfz28_7:=blk_frozen BK101.out 7
         go_wp2_with (first | (go_at_call 63;(with_reducible refine (config_inside.calls a0_6 1 1048576 true _ A23.out).mono ?_);rintro e w' ⟨rfl,⟨nd,rfl⟩⟩) | (go_at_call 63;(with_reducible refine (config_inside.calls a0_7 1 1073741824 false _ A25.out).mono ?_);rintro e w' ⟨rfl,⟨nd,rfl⟩⟩))
         go_ret
         exact ⟨by first | rfl | (simp [errW_none,errW_some] <;> rfl) | (simp [*,errW_none,errW_some] <;> rfl),bA⟩
       ·replace c24:=Bool.eq_false_iff.mpr c24
        subst c24
        have H1 : (some 110) = some r:=by rw [if_neg (show ¬ (false = true) by decide)] at H;exact H
        clear H
        have H:=H1
        clear H1
        obtain rfl:=Option.some.inj H
        have hcz29_0 : wc.cell? ⟨gb101,0,none⟩ = some (.int .i64 a0_0):=(blk_cell BK101.out 0).trans rfl
        have hcz29_1 : wc.cell? ⟨gb101,1,none⟩ = some (.int .i64 a0_1):=(blk_cell BK101.out 1).trans rfl
        have hcz29_2 : wc.cell? ⟨gb101,2,none⟩ = some (.int .i64 a0_2):=(blk_cell BK101.out 2).trans rfl
        have hcz29_3 : wc.cell? ⟨gb101,3,none⟩ = some (.int .i64 a0_3):=(blk_cell BK101.out 3).trans rfl
        have hcz29_4 : wc.cell? ⟨gb101,4,none⟩ = some (.int .i64 a0_4):=(blk_cell BK101.out 4).trans rfl
        have hcz29_5 : wc.cell? ⟨gb101,5,none⟩ = some (.int .i64 a0_5):=(blk_cell BK101.out 5).trans rfl
        have hcz29_6 : wc.cell? ⟨gb101,6,none⟩ = some (.int .i64 a0_6):=(blk_cell BK101.out 6).trans rfl
        have hcz29_7 : wc.cell? ⟨gb101,7,none⟩ = some (.int .i64 a0_7):=(blk_cell BK101.out 7).trans rfl
        have hfz29_0:=blk_frozen BK101.out 0
        have hfz29_1:=blk_frozen BK101.out 1
        have hfz29_2:=blk_frozen BK101.out 2
        have hfz29_3:=blk_frozen BK101.out 3
        have hfz29_4:=blk_frozen BK101.out 4
        have hfz29_5:=blk_frozen BK101.out 5
        have hfz29_6:=blk_frozen BK101.out 6
        have hfz29_7:=blk_frozen BK101.out 7
        go_wp2_with (first | (go_at_call 63;(with_reducible refine (config_inside.calls a0_6 1 1048576 false _ A23.out).mono ?_);rintro e w' ⟨rfl,⟨nd,rfl⟩⟩))
        go_ret
        exact ⟨by first | rfl | (simp [errW_none,errW_some] <;> rfl) | (simp [*,errW_none,errW_some] <;> rfl),bA⟩
      ·replace c22:=Bool.eq_false_iff.mpr c22
       subst c22
       have H1 : (some 110) = some r:=by rw [if_neg (show ¬ (false = true) by decide)] at H;exact H
       clear H
       have H:=H1
       clear H1
       obtain rfl:=Option.some.inj H
       go_wp2
       go_ret
       exact ⟨by first | rfl | (simp [errW_none,errW_some] <;> rfl) | (simp [*,errW_none,errW_some] <;> rfl),bA⟩
     ·replace c21:=Bool.eq_false_iff.mpr c21
      subst c21
      have H1 : (some 110) = some r:=by rw [if_neg (show ¬ (false = true) by decide)] at H;exact H
      clear H
      have H:=H1
      clear H1
      obtain rfl:=Option.some.inj H
      go_wp2
      go_ret
      exact ⟨by first | rfl | (simp [errW_none,errW_some] <;> rfl) | (simp [*,errW_none,errW_some] <;> rfl),bA⟩

def config_asked_area.f (a0_0 : Int) (a0_1 : Int) (a0_2 : Int) (a0_3 : Int) (a0_4 : Int) (a0_5 : Int) (a0_6 : Int) (a0_7 : Int) : Option (Int):=some (wrap64 (a0_0 * a0_6))
set_option maxHeartbeats 8000000 in
set_option maxRecDepth 100000 in
theorem config_asked_area.calls (a0_0 : Int) (a0_1 : Int) (a0_2 : Int) (a0_3 : Int) (a0_4 : Int) (a0_5 : Int) (a0_6 : Int) (a0_7 : Int) (r : Int) (w : World) (h : config_asked_area.f a0_0 a0_1 a0_2 a0_3 a0_4 a0_5 a0_6 a0_7 = some r) :
  Calls Tryd.prog 89 #[.agg #[.int .i64 a0_0,.int .i64 a0_1,.int .i64 a0_2,.int .i64 a0_3,.int .i64 a0_4,.int .i64 a0_5,.int .i64 a0_6,.int .i64 a0_7]] w fun e w' => e = .returned (.int .i64 r) ∧ Below w.heap.size w w':=by
 have hu77:=Tryd.underlying77
 have HB:=Aside0.mk (Below.refl w.heap.size w)
 have H : (some (wrap64 (a0_0 * a0_6))) = some r:=h
 clear h
 obtain rfl:=Option.some.inj H
 go_enter Tryd.func89,Tryd.ntmps89
 go_wp2_with (first | ((with_reducible refine gate_dst (N:=1) rfl ?_);refine bxA 1 #[.int .i64 a0_0,.int .i64 a0_1,.int .i64 a0_2,.int .i64 a0_3,.int .i64 a0_4,.int .i64 a0_5,.int .i64 a0_6,.int .i64 a0_7] 77 ?_;intro gb110 hg w2 hbox hb;have n0_:=Aside0.mk (below_step bA hb);have n1_:=Aside0.mk (hbox);have n2_:=Aside0.mk (gwA hg bA);have n3_:=Aside0.mk (gwA hg bA);clear HB;have HB:=n0_;have BK110:=n1_;have GW110:=n2_;have GE110:=n3_;clear n0_ n1_ n2_ n3_ hb hbox hg;have hcz3_0 : w2.cell? ⟨gb110,0,none⟩ = some (.int .i64 a0_0):=(blk_cell BK110.out 0).trans rfl;have hcz3_1 : w2.cell? ⟨gb110,1,none⟩ = some (.int .i64 a0_1):=(blk_cell BK110.out 1).trans rfl;have hcz3_2 : w2.cell? ⟨gb110,2,none⟩ = some (.int .i64 a0_2):=(blk_cell BK110.out 2).trans rfl;have hcz3_3 : w2.cell? ⟨gb110,3,none⟩ = some (.int .i64 a0_3):=(blk_cell BK110.out 3).trans rfl;have hcz3_4 : w2.cell? ⟨gb110,4,none⟩ = some (.int .i64 a0_4):=(blk_cell BK110.out 4).trans rfl;have hcz3_5 : w2.cell? ⟨gb110,5,none⟩ = some (.int .i64 a0_5):=(blk_cell BK110.out 5).trans rfl;have hcz3_6 : w2.cell? ⟨gb110,6,none⟩ = some (.int .i64 a0_6):=(blk_cell BK110.out 6).trans rfl;have hcz3_7 : w2.cell? ⟨gb110,7,none⟩ = some (.int .i64 a0_7):=(blk_cell BK110.out 7).trans rfl;have hfz3_0:=blk_frozen BK110.out 0;have hfz3_1:=blk_frozen BK110.out 1;have hfz3_2:=blk_frozen BK110.out 2;have hfz3_3:=blk_frozen BK110.out 3;have hfz3_4:=blk_frozen BK110.out 4;have hfz3_5:=blk_frozen BK110.out 5;have hfz3_6:=blk_frozen BK110.out 6;have hfz3_7:=blk_frozen BK110.out 7))
 go_ret
 exact ⟨by first | rfl | (simp [errW_none,errW_some] <;> rfl) | (simp [*,errW_none,errW_some] <;> rfl),bA⟩

def config_up.f (a0 : Int) (a1 : Int) : Option (Int):=if a1 = 0 then (none) else (some (wrap64 (Int.tdiv (wrap64 ((wrap64 (a0 + a1)) - 1)) a1)))
set_option maxHeartbeats 8000000 in
set_option maxRecDepth 100000 in
theorem config_up.calls (a0 : Int) (a1 : Int) (r : Int) (w : World) (h : config_up.f a0 a1 = some r) :
  Calls Tryd.prog 91 #[.int .i64 a0,.int .i64 a1] w fun e w' => e = .returned (.int .i64 r) ∧ Drawn0 w w':=by
 have H : (if a1 = 0 then (none) else (some (wrap64 (Int.tdiv (wrap64 ((wrap64 (a0 + a1)) - 1)) a1)))) = some r:=h
 clear h
 by_cases c3 : a1 = 0
 ·rw [if_pos c3] at H
  exact absurd H (by simp)
 ·rw [if_neg c3] at H
  have c3b0 : (a1 == 0) = false:=beq_eq_false_iff_ne.mpr c3
  have c3b1 : (a1 != 0) = true:=bne_iff_ne.mpr c3
  obtain rfl:=Option.some.inj H
  go_enter Tryd.func91,Tryd.ntmps91
  go_wp2
  go_ret
  exact ⟨by first | rfl | (simp;done) | (simp [*];done),by repeat (first | exact Drawn0.refl _ | apply Drawn0.step)⟩

def config_asked_keeps.f (a0_0 : Int) (a0_1 : Int) (a0_2 : Int) (a0_3 : Int) (a0_4 : Int) (a0_5 : Int) (a0_6 : Int) (a0_7 : Int) : Option (Int):=if a0_7 = 0 then (none) else ((config_up.f 8589934592 (wrap64 (Int.tdiv (wrap64 (a0_6 * 4294967296)) a0_7))).bind fun t112 => (some (mx 2 t112)))
set_option maxHeartbeats 8000000 in
set_option maxRecDepth 100000 in
theorem config_asked_keeps.calls (a0_0 : Int) (a0_1 : Int) (a0_2 : Int) (a0_3 : Int) (a0_4 : Int) (a0_5 : Int) (a0_6 : Int) (a0_7 : Int) (r : Int) (w : World) (h : config_asked_keeps.f a0_0 a0_1 a0_2 a0_3 a0_4 a0_5 a0_6 a0_7 = some r) :
  Calls Tryd.prog 90 #[.agg #[.int .i64 a0_0,.int .i64 a0_1,.int .i64 a0_2,.int .i64 a0_3,.int .i64 a0_4,.int .i64 a0_5,.int .i64 a0_6,.int .i64 a0_7]] w fun e w' => e = .returned (.int .i64 r) ∧ Below w.heap.size w w':=by
 have hu77:=Tryd.underlying77
 have HB:=Aside0.mk (Below.refl w.heap.size w)
 have H : (if a0_7 = 0 then (none) else ((config_up.f 8589934592 (wrap64 (Int.tdiv (wrap64 (a0_6 * 4294967296)) a0_7))).bind fun t112 => (some (mx 2 t112)))) = some r:=h
 clear h
 by_cases c2 : a0_7 = 0
 ·rw [if_pos c2] at H
  exact absurd H (by simp)
 ·rw [if_neg c2] at H
  have c2b0 : (a0_7 == 0) = false:=beq_eq_false_iff_ne.mpr c2
  have c2b1 : (a0_7 != 0) = true:=bne_iff_ne.mpr c2
  replace H:=Option.bind_eq_some_iff.mp H;obtain ⟨t112,A30,H⟩:=H;replace H : (some (mx 2 t112)) = some r:=H;have A3:=Aside0.mk A30;clear A30
  obtain ⟨ji4,hji4⟩ : ∃ j_ : Int,(mx 2 t112) = j_:=⟨_,rfl⟩
  replace H : (some ji4) = some r:=by first | (rw [hji4] at H;exact H) | (simp only [hji4] at H ⊢;exact H)
  (try rw [hji4] at A3)
  (try (have hji4l : 2 ≤ ji4:=by (rw [← hji4];unfold mx;(repeat' split) <;> omega)))
  (try (have hji4m : 0 ≤ ji4:=by omega))
  have hji4_ : (if 2 < t112 then t112 else 2) = ji4:=hji4
  obtain rfl:=Option.some.inj H
  go_enter Tryd.func90,Tryd.ntmps90
  go_wp2_with (first | ((with_reducible refine gate_dst (N:=1) rfl ?_);refine bxA 1 #[.int .i64 a0_0,.int .i64 a0_1,.int .i64 a0_2,.int .i64 a0_3,.int .i64 a0_4,.int .i64 a0_5,.int .i64 a0_6,.int .i64 a0_7] 77 ?_;intro gb111 hg w5 hbox hb;have n0_:=Aside0.mk (below_step bA hb);have n1_:=Aside0.mk (hbox);have n2_:=Aside0.mk (gwA hg bA);have n3_:=Aside0.mk (gwA hg bA);clear HB;have HB:=n0_;have BK111:=n1_;have GW111:=n2_;have GE111:=n3_;clear n0_ n1_ n2_ n3_ hb hbox hg;have hcz6_0 : w5.cell? ⟨gb111,0,none⟩ = some (.int .i64 a0_0):=(blk_cell BK111.out 0).trans rfl;have hcz6_1 : w5.cell? ⟨gb111,1,none⟩ = some (.int .i64 a0_1):=(blk_cell BK111.out 1).trans rfl;have hcz6_2 : w5.cell? ⟨gb111,2,none⟩ = some (.int .i64 a0_2):=(blk_cell BK111.out 2).trans rfl;have hcz6_3 : w5.cell? ⟨gb111,3,none⟩ = some (.int .i64 a0_3):=(blk_cell BK111.out 3).trans rfl;have hcz6_4 : w5.cell? ⟨gb111,4,none⟩ = some (.int .i64 a0_4):=(blk_cell BK111.out 4).trans rfl;have hcz6_5 : w5.cell? ⟨gb111,5,none⟩ = some (.int .i64 a0_5):=(blk_cell BK111.out 5).trans rfl;have hcz6_6 : w5.cell? ⟨gb111,6,none⟩ = some (.int .i64 a0_6):=(blk_cell BK111.out 6).trans rfl;have hcz6_7 : w5.cell? ⟨gb111,7,none⟩ = some (.int .i64 a0_7):=(blk_cell BK111.out 7).trans rfl;have hfz6_0:=blk_frozen BK111.out 0;have hfz6_1:=blk_frozen BK111.out 1;have hfz6_2:=blk_frozen BK111.out 2;have hfz6_3:=blk_frozen BK111.out 3;have hfz6_4:=blk_frozen BK111.out 4;have hfz6_5:=blk_frozen BK111.out 5;have hfz6_6:=blk_frozen BK111.out 6;have hfz6_7:=blk_frozen BK111.out 7) | ((with_reducible refine gate_callee (f:=91) rfl ?_);refine goesL_ (some 13) rfl rfl Tryd.func91 (by kernel_rfl) rfl #[.int .i64 8589934592,.int .i64 (wrap64 (Int.tdiv (wrap64 (a0_6 * 4294967296)) a0_7))] rfl aA ?_;(with_reducible refine (config_up.calls 8589934592 (wrap64 (Int.tdiv (wrap64 (a0_6 * 4294967296)) a0_7)) t112 _ A3.out).mono ?_);rintro e w' ⟨rfl,⟨nd,rfl⟩⟩;refine ⟨_,rfl,?_⟩))
  go_ret
  exact ⟨by first | rfl | (simp [errW_none,errW_some] <;> rfl) | (simp only [← hji4];first | rfl | (simp [errW_none,errW_some] <;> rfl)) | (simp [*,errW_none,errW_some] <;> rfl),bA⟩

def config_asked_most.f (a0_0 : Int) (a0_1 : Int) (a0_2 : Int) (a0_3 : Int) (a0_4 : Int) (a0_5 : Int) (a0_6 : Int) (a0_7 : Int) : Option (Int):=(config_asked_area.f a0_0 a0_1 a0_2 a0_3 a0_4 a0_5 a0_6 a0_7).bind fun t114 => ((config_asked_keeps.f a0_0 a0_1 a0_2 a0_3 a0_4 a0_5 a0_6 a0_7).bind fun t115 => (some (wrap64 (t114 * t115))))
set_option maxHeartbeats 8000000 in
set_option maxRecDepth 100000 in
theorem config_asked_most.calls (a0_0 : Int) (a0_1 : Int) (a0_2 : Int) (a0_3 : Int) (a0_4 : Int) (a0_5 : Int) (a0_6 : Int) (a0_7 : Int) (r : Int) (w : World) (h : config_asked_most.f a0_0 a0_1 a0_2 a0_3 a0_4 a0_5 a0_6 a0_7 = some r) :
  Calls Tryd.prog 64 #[.agg #[.int .i64 a0_0,.int .i64 a0_1,.int .i64 a0_2,.int .i64 a0_3,.int .i64 a0_4,.int .i64 a0_5,.int .i64 a0_6,.int .i64 a0_7]] w fun e w' => e = .returned (.int .i64 r) ∧ Below w.heap.size w w':=by
 have hu77:=Tryd.underlying77
 have HB:=Aside0.mk (Below.refl w.heap.size w)
 have H : ((config_asked_area.f a0_0 a0_1 a0_2 a0_3 a0_4 a0_5 a0_6 a0_7).bind fun t114 => ((config_asked_keeps.f a0_0 a0_1 a0_2 a0_3 a0_4 a0_5 a0_6 a0_7).bind fun t115 => (some (wrap64 (t114 * t115))))) = some r:=h
 clear h;replace H:=Option.bind_eq_some_iff.mp H;obtain ⟨t114,A20,H⟩:=H;replace H : ((config_asked_keeps.f a0_0 a0_1 a0_2 a0_3 a0_4 a0_5 a0_6 a0_7).bind fun t115 => (some (wrap64 (t114 * t115)))) = some r:=H;have A2:=Aside0.mk A20;clear A20;replace H:=Option.bind_eq_some_iff.mp H;obtain ⟨t115,A30,H⟩:=H;replace H : (some (wrap64 (t114 * t115))) = some r:=H;have A3:=Aside0.mk A30;clear A30
 obtain rfl:=Option.some.inj H
 go_enter Tryd.func64,Tryd.ntmps64
 try go_wp2_with (first | ((with_reducible refine gate_dst (N:=1) rfl ?_);refine bxA 1 #[.int .i64 a0_0,.int .i64 a0_1,.int .i64 a0_2,.int .i64 a0_3,.int .i64 a0_4,.int .i64 a0_5,.int .i64 a0_6,.int .i64 a0_7] 77 ?_;intro gb113 hg w4 hbox hb;have n0_:=Aside0.mk (below_step bA hb);have n1_:=Aside0.mk (hbox);have n2_:=Aside0.mk (gwA hg bA);have n3_:=Aside0.mk (gwA hg bA);clear HB;have HB:=n0_;have BK113:=n1_;have GW113:=n2_;have GE113:=n3_;clear n0_ n1_ n2_ n3_ hb hbox hg))
 have n0_:=Aside0.mk (blk_drew BK113.out);have n1_:=Aside0.mk (below_drew1 HB.out);clear BK113 HB;have BK113:=n0_;have HB:=n1_;clear n0_ n1_
 refine start_ (n:=6) (S:=fun w' => w'.cell? ⟨gb113,0,none⟩ = some (.int .i64 a0_0) ∧ w'.cell? ⟨gb113,1,none⟩ = some (.int .i64 a0_1) ∧ w'.cell? ⟨gb113,2,none⟩ = some (.int .i64 a0_2) ∧ w'.cell? ⟨gb113,3,none⟩ = some (.int .i64 a0_3) ∧ w'.cell? ⟨gb113,4,none⟩ = some (.int .i64 a0_4) ∧ w'.cell? ⟨gb113,5,none⟩ = some (.int .i64 a0_5) ∧ w'.cell? ⟨gb113,6,none⟩ = some (.int .i64 a0_6) ∧ w'.cell? ⟨gb113,7,none⟩ = some (.int .i64 a0_7)) (ds:=[]) #[false,false,false,false,false,false] (by kernel_rfl) rfl rfl ⟨(blk_cell BK113.out 0).trans rfl,(blk_cell BK113.out 1).trans rfl,(blk_cell BK113.out 2).trans rfl,(blk_cell BK113.out 3).trans rfl,(blk_cell BK113.out 4).trans rfl,(blk_cell BK113.out 5).trans rfl,(blk_cell BK113.out 6).trans rfl,(blk_cell BK113.out 7).trans rfl⟩ (fun hHeld => ?_)
 generalize w4.drew = w5 at BK113 HB hHeld ⊢
 refine take_ (i:=0) (N:=some 3) (v:=?_) (a':=?_) #[true,false,false,false,false,false] rfl rfl (by kernel_rfl) (fun _ _ _ h => h) (Or.inl ⟨by rfl,?_⟩) hHeld ?_ ?_
 rotate_left
 ·rintro w' ⟨s0,s1,s2,s3,s4,s5,s6,s7⟩
  go_simp;with_reducible rfl
 rotate_left
 ·simp only [Act.put,List.setIfInBounds_toArray,List.set_cons_zero,List.set_cons_succ,i64_w,i32_w]
  rfl
 refine take_ (i:=2) (N:=some 5) (v:=?_) (a':=?_) #[true,false,true,false,false,false] rfl rfl (by kernel_rfl) (fun _ _ _ h => h) (Or.inl ⟨by rfl,?_⟩) hHeld ?_ ?_
 rotate_left
 ·rintro w' ⟨s0,s1,s2,s3,s4,s5,s6,s7⟩
  go_simp;with_reducible rfl
 rotate_left
 ·simp only [Act.put,List.setIfInBounds_toArray,List.set_cons_zero,List.set_cons_succ,i64_w,i32_w]
  rfl
 refine one_ (i:=1) (N:=some 4) #[true,true,true,false,false,false] rfl rfl (by kernel_rfl) (by decide) (fun K hK => ?_)
 refine goes_ Tryd.func89 (by kernel_rfl) rfl #[.agg #[.int .i64 a0_0,.int .i64 a0_1,.int .i64 a0_2,.int .i64 a0_3,.int .i64 a0_4,.int .i64 a0_5,.int .i64 a0_6,.int .i64 a0_7]] (by rfl) rfl rfl aA ?_
 with_reducible refine (config_asked_area.calls a0_0 a0_1 a0_2 a0_3 a0_4 a0_5 a0_6 a0_7 t114 _ A2.out).mono ?_
 rintro e w6 ⟨rfl,hb⟩
 refine ⟨_,rfl,?_⟩;have n0_:=Aside0.mk (blk_below (g:=gb113) kA hb);have n1_:=Aside0.mk (below_step bA hb);clear BK113 HB;have BK113:=n0_;have HB:=n1_;clear n0_ n1_;(try clear hb)
 refine hK.out _ _ ⟨(blk_cell BK113.out 0).trans rfl,(blk_cell BK113.out 1).trans rfl,(blk_cell BK113.out 2).trans rfl,(blk_cell BK113.out 3).trans rfl,(blk_cell BK113.out 4).trans rfl,(blk_cell BK113.out 5).trans rfl,(blk_cell BK113.out 6).trans rfl,(blk_cell BK113.out 7).trans rfl⟩ (fun hHeld => ?_)
 clear hK K
 refine norm_ (a':=?_) ?_ ?_
 rotate_left
 ·show Act.put _ (some 4) _ = _
  simp only [Act.put,List.setIfInBounds_toArray,List.set_cons_zero,List.set_cons_succ,i64_w,i32_w]
  rfl
 refine one_ (i:=3) (N:=some 6) #[true,true,true,true,false,false] rfl rfl (by kernel_rfl) (by decide) (fun K hK => ?_)
 refine goes_ Tryd.func90 (by kernel_rfl) rfl #[.agg #[.int .i64 a0_0,.int .i64 a0_1,.int .i64 a0_2,.int .i64 a0_3,.int .i64 a0_4,.int .i64 a0_5,.int .i64 a0_6,.int .i64 a0_7]] (by rfl) rfl rfl aA ?_
 with_reducible refine (config_asked_keeps.calls a0_0 a0_1 a0_2 a0_3 a0_4 a0_5 a0_6 a0_7 t115 _ A3.out).mono ?_
 rintro e w7 ⟨rfl,hb⟩
 refine ⟨_,rfl,?_⟩;have n0_:=Aside0.mk (blk_below (g:=gb113) kA hb);have n1_:=Aside0.mk (below_step bA hb);clear BK113 HB;have BK113:=n0_;have HB:=n1_;clear n0_ n1_;(try clear hb)
 refine hK.out _ _ ⟨(blk_cell BK113.out 0).trans rfl,(blk_cell BK113.out 1).trans rfl,(blk_cell BK113.out 2).trans rfl,(blk_cell BK113.out 3).trans rfl,(blk_cell BK113.out 4).trans rfl,(blk_cell BK113.out 5).trans rfl,(blk_cell BK113.out 6).trans rfl,(blk_cell BK113.out 7).trans rfl⟩ (fun hHeld => ?_)
 clear hK K
 refine norm_ (a':=?_) ?_ ?_
 rotate_left
 ·show Act.put _ (some 6) _ = _
  simp only [Act.put,List.setIfInBounds_toArray,List.set_cons_zero,List.set_cons_succ,i64_w,i32_w]
  rfl
 refine pure_ (i:=4) (N:=some 7) (v:=?_) (a':=?_) #[true,true,true,true,true,false] rfl rfl (by kernel_rfl) (fun _ _ _ h => h) (Or.inl ⟨by rfl,?_⟩) ?_ ?_
 rotate_left
 ·intro w'
  go_simp;with_reducible rfl
 rotate_left
 ·simp only [Act.put,List.setIfInBounds_toArray,List.set_cons_zero,List.set_cons_succ,i64_w,i32_w]
  rfl
 refine pure_ (i:=5) (N:=some 2) (v:=?_) (a':=?_) #[true,true,true,true,true,true] rfl rfl (by kernel_rfl) (fun _ _ _ h => h) (Or.inl ⟨by rfl,?_⟩) ?_ ?_
 rotate_left
 ·intro w'
  go_simp;with_reducible rfl
 rotate_left
 ·simp only [Act.put,List.setIfInBounds_toArray,List.set_cons_zero,List.set_cons_succ,i64_w,i32_w]
  rfl
 refine done_ (by kernel_rfl) ?_
 try go_wp2
 go_ret
 exact ⟨by first | rfl | (simp [errW_none,errW_some] <;> rfl) | (simp [*,errW_none,errW_some] <;> rfl),bA⟩

def config_asked_usage.f (a0_0 : Int) (a0_1 : Int) (a0_2 : Int) (a0_3 : Int) (a0_4 : Int) (a0_5 : Int) (a0_6 : Int) (a0_7 : Int) : Option (Int):=(config_asked_most.f a0_0 a0_1 a0_2 a0_3 a0_4 a0_5 a0_6 a0_7).bind fun t117 => (if t117 > 2147483648 then (some 111) else (some 0))
set_option maxHeartbeats 8000000 in
set_option maxRecDepth 100000 in
theorem config_asked_usage.calls (a0_0 : Int) (a0_1 : Int) (a0_2 : Int) (a0_3 : Int) (a0_4 : Int) (a0_5 : Int) (a0_6 : Int) (a0_7 : Int) (r : Int) (w : World) (h : config_asked_usage.f a0_0 a0_1 a0_2 a0_3 a0_4 a0_5 a0_6 a0_7 = some r) :
  Calls Tryd.prog 41 #[.agg #[.int .i64 a0_0,.int .i64 a0_1,.int .i64 a0_2,.int .i64 a0_3,.int .i64 a0_4,.int .i64 a0_5,.int .i64 a0_6,.int .i64 a0_7]] w fun e w' => e = .returned (.int .i64 r) ∧ Below w.heap.size w w':=by
 have hu77:=Tryd.underlying77
 have HB:=Aside0.mk (Below.refl w.heap.size w)
 have H : ((config_asked_most.f a0_0 a0_1 a0_2 a0_3 a0_4 a0_5 a0_6 a0_7).bind fun t117 => (if t117 > 2147483648 then (some 111) else (some 0))) = some r:=h
 clear h;replace H:=Option.bind_eq_some_iff.mp H;obtain ⟨t117,A20,H⟩:=H;replace H : (if t117 > 2147483648 then (some 111) else (some 0)) = some r:=H;have A2:=Aside0.mk A20;clear A20
 by_cases c3 : t117 > 2147483648
 ·rw [if_pos c3] at H
  have c3b0 : decide (2147483648 < t117) = true:=decide_eq_true c3
  clear c3
  obtain rfl:=Option.some.inj H
  go_enter Tryd.func41,Tryd.ntmps41
  go_wp2_with (first | ((with_reducible refine gate_dst (N:=1) rfl ?_);refine bxA 1 #[.int .i64 a0_0,.int .i64 a0_1,.int .i64 a0_2,.int .i64 a0_3,.int .i64 a0_4,.int .i64 a0_5,.int .i64 a0_6,.int .i64 a0_7] 77 ?_;intro gb116 hg w4 hbox hb;have n0_:=Aside0.mk (below_step bA hb);have n1_:=Aside0.mk (hbox);have n2_:=Aside0.mk (gwA hg bA);have n3_:=Aside0.mk (gwA hg bA);clear HB;have HB:=n0_;have BK116:=n1_;have GW116:=n2_;have GE116:=n3_;clear n0_ n1_ n2_ n3_ hb hbox hg;have hcz5_0 : w4.cell? ⟨gb116,0,none⟩ = some (.int .i64 a0_0):=(blk_cell BK116.out 0).trans rfl;have hcz5_1 : w4.cell? ⟨gb116,1,none⟩ = some (.int .i64 a0_1):=(blk_cell BK116.out 1).trans rfl;have hcz5_2 : w4.cell? ⟨gb116,2,none⟩ = some (.int .i64 a0_2):=(blk_cell BK116.out 2).trans rfl;have hcz5_3 : w4.cell? ⟨gb116,3,none⟩ = some (.int .i64 a0_3):=(blk_cell BK116.out 3).trans rfl;have hcz5_4 : w4.cell? ⟨gb116,4,none⟩ = some (.int .i64 a0_4):=(blk_cell BK116.out 4).trans rfl;have hcz5_5 : w4.cell? ⟨gb116,5,none⟩ = some (.int .i64 a0_5):=(blk_cell BK116.out 5).trans rfl;have hcz5_6 : w4.cell? ⟨gb116,6,none⟩ = some (.int .i64 a0_6):=(blk_cell BK116.out 6).trans rfl;have hcz5_7 : w4.cell? ⟨gb116,7,none⟩ = some (.int .i64 a0_7):=(blk_cell BK116.out 7).trans rfl;have hfz5_0:=blk_frozen BK116.out 0;have hfz5_1:=blk_frozen BK116.out 1;have hfz5_2:=blk_frozen BK116.out 2;have hfz5_3:=blk_frozen BK116.out 3;have hfz5_4:=blk_frozen BK116.out 4;have hfz5_5:=blk_frozen BK116.out 5;have hfz5_6:=blk_frozen BK116.out 6;have hfz5_7:=blk_frozen BK116.out 7) | ((with_reducible refine gate_callee (f:=64) rfl ?_);refine goesL_ (some 4) rfl rfl Tryd.func64 (by kernel_rfl) rfl #[.agg #[.int .i64 a0_0,.int .i64 a0_1,.int .i64 a0_2,.int .i64 a0_3,.int .i64 a0_4,.int .i64 a0_5,.int .i64 a0_6,.int .i64 a0_7]] rfl aA ?_;(with_reducible refine (config_asked_most.calls a0_0 a0_1 a0_2 a0_3 a0_4 a0_5 a0_6 a0_7 t117 _ A2.out).mono ?_);rintro e w6 ⟨rfl,hb⟩;refine ⟨_,rfl,?_⟩;have n0_:=Aside0.mk (blk_below (g:=gb116) kA hb);have n1_:=Aside0.mk (below_step bA hb);clear BK116 HB;have BK116:=n0_;have HB:=n1_;clear n0_ n1_;(try clear hb)))
  go_ret
  exact ⟨by first | rfl | (simp [errW_none,errW_some] <;> rfl) | (simp [*,errW_none,errW_some] <;> rfl),bA⟩
 ·rw [if_neg c3] at H
  have c3b0 : decide (2147483648 < t117) = false:=decide_eq_false c3
  clear c3
  obtain rfl:=Option.some.inj H
  go_enter Tryd.func41,Tryd.ntmps41
  go_wp2_with (first | ((with_reducible refine gate_dst (N:=1) rfl ?_);refine bxA 1 #[.int .i64 a0_0,.int .i64 a0_1,.int .i64 a0_2,.int .i64 a0_3,.int .i64 a0_4,.int .i64 a0_5,.int .i64 a0_6,.int .i64 a0_7] 77 ?_;intro gb116 hg w7 hbox hb;have n0_:=Aside0.mk (below_step bA hb);have n1_:=Aside0.mk (hbox);have n2_:=Aside0.mk (gwA hg bA);have n3_:=Aside0.mk (gwA hg bA);clear HB;have HB:=n0_;have BK116:=n1_;have GW116:=n2_;have GE116:=n3_;clear n0_ n1_ n2_ n3_ hb hbox hg;have hcz8_0 : w7.cell? ⟨gb116,0,none⟩ = some (.int .i64 a0_0):=(blk_cell BK116.out 0).trans rfl;have hcz8_1 : w7.cell? ⟨gb116,1,none⟩ = some (.int .i64 a0_1):=(blk_cell BK116.out 1).trans rfl;have hcz8_2 : w7.cell? ⟨gb116,2,none⟩ = some (.int .i64 a0_2):=(blk_cell BK116.out 2).trans rfl;have hcz8_3 : w7.cell? ⟨gb116,3,none⟩ = some (.int .i64 a0_3):=(blk_cell BK116.out 3).trans rfl;have hcz8_4 : w7.cell? ⟨gb116,4,none⟩ = some (.int .i64 a0_4):=(blk_cell BK116.out 4).trans rfl;have hcz8_5 : w7.cell? ⟨gb116,5,none⟩ = some (.int .i64 a0_5):=(blk_cell BK116.out 5).trans rfl;have hcz8_6 : w7.cell? ⟨gb116,6,none⟩ = some (.int .i64 a0_6):=(blk_cell BK116.out 6).trans rfl;have hcz8_7 : w7.cell? ⟨gb116,7,none⟩ = some (.int .i64 a0_7):=(blk_cell BK116.out 7).trans rfl;have hfz8_0:=blk_frozen BK116.out 0;have hfz8_1:=blk_frozen BK116.out 1;have hfz8_2:=blk_frozen BK116.out 2;have hfz8_3:=blk_frozen BK116.out 3;have hfz8_4:=blk_frozen BK116.out 4;have hfz8_5:=blk_frozen BK116.out 5;have hfz8_6:=blk_frozen BK116.out 6;have hfz8_7:=blk_frozen BK116.out 7) | ((with_reducible refine gate_callee (f:=64) rfl ?_);refine goesL_ (some 4) rfl rfl Tryd.func64 (by kernel_rfl) rfl #[.agg #[.int .i64 a0_0,.int .i64 a0_1,.int .i64 a0_2,.int .i64 a0_3,.int .i64 a0_4,.int .i64 a0_5,.int .i64 a0_6,.int .i64 a0_7]] rfl aA ?_;(with_reducible refine (config_asked_most.calls a0_0 a0_1 a0_2 a0_3 a0_4 a0_5 a0_6 a0_7 t117 _ A2.out).mono ?_);rintro e w9 ⟨rfl,hb⟩;refine ⟨_,rfl,?_⟩;have n0_:=Aside0.mk (blk_below (g:=gb116) kA hb);have n1_:=Aside0.mk (below_step bA hb);clear BK116 HB;have BK116:=n0_;have HB:=n1_;clear n0_ n1_;(try clear hb)))
  go_ret
  exact ⟨by first | rfl | (simp [errW_none,errW_some] <;> rfl) | (simp [*,errW_none,errW_some] <;> rfl),bA⟩

def config_asked_fairSize.f (a0_0 : Int) (a0_1 : Int) (a0_2 : Int) (a0_3 : Int) (a0_4 : Int) (a0_5 : Int) (a0_6 : Int) (a0_7 : Int) : Option (Int):=some (wrap64 (a0_4 + (wrap64 (a0_5 * a0_0))))
set_option maxHeartbeats 8000000 in
set_option maxRecDepth 100000 in
theorem config_asked_fairSize.calls (a0_0 : Int) (a0_1 : Int) (a0_2 : Int) (a0_3 : Int) (a0_4 : Int) (a0_5 : Int) (a0_6 : Int) (a0_7 : Int) (r : Int) (w : World) (h : config_asked_fairSize.f a0_0 a0_1 a0_2 a0_3 a0_4 a0_5 a0_6 a0_7 = some r) :
  Calls Tryd.prog 65 #[.agg #[.int .i64 a0_0,.int .i64 a0_1,.int .i64 a0_2,.int .i64 a0_3,.int .i64 a0_4,.int .i64 a0_5,.int .i64 a0_6,.int .i64 a0_7]] w fun e w' => e = .returned (.int .i64 r) ∧ Below w.heap.size w w':=by
 have hu77:=Tryd.underlying77
 have HB:=Aside0.mk (Below.refl w.heap.size w)
 have H : (some (wrap64 (a0_4 + (wrap64 (a0_5 * a0_0))))) = some r:=h
 clear h
 obtain rfl:=Option.some.inj H
 go_enter Tryd.func65,Tryd.ntmps65
 go_wp2_with (first | ((with_reducible refine gate_dst (N:=1) rfl ?_);refine bxA 1 #[.int .i64 a0_0,.int .i64 a0_1,.int .i64 a0_2,.int .i64 a0_3,.int .i64 a0_4,.int .i64 a0_5,.int .i64 a0_6,.int .i64 a0_7] 77 ?_;intro gb118 hg w2 hbox hb;have n0_:=Aside0.mk (below_step bA hb);have n1_:=Aside0.mk (hbox);have n2_:=Aside0.mk (gwA hg bA);have n3_:=Aside0.mk (gwA hg bA);clear HB;have HB:=n0_;have BK118:=n1_;have GW118:=n2_;have GE118:=n3_;clear n0_ n1_ n2_ n3_ hb hbox hg;have hcz3_0 : w2.cell? ⟨gb118,0,none⟩ = some (.int .i64 a0_0):=(blk_cell BK118.out 0).trans rfl;have hcz3_1 : w2.cell? ⟨gb118,1,none⟩ = some (.int .i64 a0_1):=(blk_cell BK118.out 1).trans rfl;have hcz3_2 : w2.cell? ⟨gb118,2,none⟩ = some (.int .i64 a0_2):=(blk_cell BK118.out 2).trans rfl;have hcz3_3 : w2.cell? ⟨gb118,3,none⟩ = some (.int .i64 a0_3):=(blk_cell BK118.out 3).trans rfl;have hcz3_4 : w2.cell? ⟨gb118,4,none⟩ = some (.int .i64 a0_4):=(blk_cell BK118.out 4).trans rfl;have hcz3_5 : w2.cell? ⟨gb118,5,none⟩ = some (.int .i64 a0_5):=(blk_cell BK118.out 5).trans rfl;have hcz3_6 : w2.cell? ⟨gb118,6,none⟩ = some (.int .i64 a0_6):=(blk_cell BK118.out 6).trans rfl;have hcz3_7 : w2.cell? ⟨gb118,7,none⟩ = some (.int .i64 a0_7):=(blk_cell BK118.out 7).trans rfl;have hfz3_0:=blk_frozen BK118.out 0;have hfz3_1:=blk_frozen BK118.out 1;have hfz3_2:=blk_frozen BK118.out 2;have hfz3_3:=blk_frozen BK118.out 3;have hfz3_4:=blk_frozen BK118.out 4;have hfz3_5:=blk_frozen BK118.out 5;have hfz3_6:=blk_frozen BK118.out 6;have hfz3_7:=blk_frozen BK118.out 7))
 go_ret
 exact ⟨by first | rfl | (simp [errW_none,errW_some] <;> rfl) | (simp [*,errW_none,errW_some] <;> rfl),bA⟩

end Go.Proofs.YtgjjfnjnjnbfgaaDoor.GLG
namespace Go.Proofs.YtgjjfnjnjnbfgaaDoor.GLG
open Go.RowKit Go.Proofs.YtgjjfnjnjnbfgaaDoorW.PrintWords Go.Proofs.YtgjjfnjnjnbfgaaDoorW.PrintLast Go.Proofs.YtgjjfnjnjnbfgaaDoorW.PrintMore
attribute [local go_sem] max2_int min2_int max_two min_two max_three min_three max_four min_four   -- for this text's walks alone
set_option linter.unusedVariables false
set_option linter.unusedSimpArgs false
def config_asked_scale.f (a0_0 : Int) (a0_1 : Int) (a0_2 : Int) (a0_3 : Int) (a0_4 : Int) (a0_5 : Int) (a0_6 : Int) (a0_7 : Int) : Option (Int):=(config_asked_fairSize.f a0_0 a0_1 a0_2 a0_3 a0_4 a0_5 a0_6 a0_7).bind fun t120 => (if (wrap64 ((wrap64 (a0_3 * 1099511627776)) + t120)) ≥ 4611686018427387904 then (some 112) else (some 0))
def config_asked_scale.T1 : Bool × List (List Nat × List Nat):=(true,[([],[]),([0],[0]),([1],[1]),([2],[2]),([],[]),([4],[4]),([3,5],[3,5]),([6],[6])])
def config_asked_scale.B1 : List Nat:=[0,1,3,7,0,16,63,127]
theorem config_asked_scale.tab1 : rtab .any (opsOf Tryd.f42 1) = config_asked_scale.T1:=by kernel_rfl
theorem config_asked_scale.bits1 : waitsOk config_asked_scale.T1.2 config_asked_scale.B1 = true:=by kernel_rfl
set_option maxHeartbeats 8000000 in
set_option maxRecDepth 100000 in
theorem config_asked_scale.calls (a0_0 : Int) (a0_1 : Int) (a0_2 : Int) (a0_3 : Int) (a0_4 : Int) (a0_5 : Int) (a0_6 : Int) (a0_7 : Int) (r : Int) (w : World) (h : config_asked_scale.f a0_0 a0_1 a0_2 a0_3 a0_4 a0_5 a0_6 a0_7 = some r) :
  Calls Tryd.prog 42 #[.agg #[.int .i64 a0_0,.int .i64 a0_1,.int .i64 a0_2,.int .i64 a0_3,.int .i64 a0_4,.int .i64 a0_5,.int .i64 a0_6,.int .i64 a0_7]] w fun e w' => e = .returned (.int .i64 r) ∧ Below w.heap.size w w':=by
 have hu77:=Tryd.underlying77
 have HB:=Aside0.mk (Below.refl w.heap.size w)
 have H : ((config_asked_fairSize.f a0_0 a0_1 a0_2 a0_3 a0_4 a0_5 a0_6 a0_7).bind fun t120 => (if (wrap64 ((wrap64 (a0_3 * 1099511627776)) + t120)) ≥ 4611686018427387904 then (some 112) else (some 0))) = some r:=h
 clear h;replace H:=Option.bind_eq_some_iff.mp H;obtain ⟨t120,A20,H⟩:=H;replace H : (if (wrap64 ((wrap64 (a0_3 * 1099511627776)) + t120)) ≥ 4611686018427387904 then (some 112) else (some 0)) = some r:=H;have A2:=Aside0.mk A20;clear A20
 by_cases c3 : (wrap64 ((wrap64 (a0_3 * 1099511627776)) + t120)) ≥ 4611686018427387904
 ·rw [if_pos c3] at H
  have c3b0 : decide (4611686018427387904 ≤ (wrap64 ((wrap64 (a0_3 * 1099511627776)) + t120))) = true:=decide_eq_true c3
  clear c3
  obtain rfl:=Option.some.inj H
  go_enter Tryd.func42,Tryd.ntmps42
  try go_wp2_with (first | ((with_reducible refine gate_dst (N:=1) rfl ?_);refine bxA 1 #[.int .i64 a0_0,.int .i64 a0_1,.int .i64 a0_2,.int .i64 a0_3,.int .i64 a0_4,.int .i64 a0_5,.int .i64 a0_6,.int .i64 a0_7] 77 ?_;intro gb119 hg w4 hbox hb;have n0_:=Aside0.mk (below_step bA hb);have n1_:=Aside0.mk (hbox);have n2_:=Aside0.mk (gwA hg bA);have n3_:=Aside0.mk (gwA hg bA);clear HB;have HB:=n0_;have BK119:=n1_;have GW119:=n2_;have GE119:=n3_;clear n0_ n1_ n2_ n3_ hb hbox hg))
  have n0_:=Aside0.mk (blk_drew BK119.out);have n1_:=Aside0.mk (below_drew1 HB.out);clear BK119 HB;have BK119:=n0_;have HB:=n1_;clear n0_ n1_
  refine start_ (n:=8) (S:=fun w' => w'.cell? ⟨gb119,0,none⟩ = some (.int .i64 a0_0) ∧ w'.cell? ⟨gb119,1,none⟩ = some (.int .i64 a0_1) ∧ w'.cell? ⟨gb119,2,none⟩ = some (.int .i64 a0_2) ∧ w'.cell? ⟨gb119,3,none⟩ = some (.int .i64 a0_3) ∧ w'.cell? ⟨gb119,4,none⟩ = some (.int .i64 a0_4) ∧ w'.cell? ⟨gb119,5,none⟩ = some (.int .i64 a0_5) ∧ w'.cell? ⟨gb119,6,none⟩ = some (.int .i64 a0_6) ∧ w'.cell? ⟨gb119,7,none⟩ = some (.int .i64 a0_7)) (ds:=[]) #[false,false,false,false,false,false,false,false] (by kernel_rfl) rfl rfl ⟨(blk_cell BK119.out 0).trans rfl,(blk_cell BK119.out 1).trans rfl,(blk_cell BK119.out 2).trans rfl,(blk_cell BK119.out 3).trans rfl,(blk_cell BK119.out 4).trans rfl,(blk_cell BK119.out 5).trans rfl,(blk_cell BK119.out 6).trans rfl,(blk_cell BK119.out 7).trans rfl⟩ (fun hHeld => ?_);refine with_tabW config_asked_scale.tab1 config_asked_scale.bits1 (fun HT_ HW_ => ?_)
  generalize w4.drew = w5 at BK119 HB hHeld ⊢
  refine pure_ (i:=0) (N:=some 3) (v:=?_) (a':=?_) #[true,false,false,false,false,false,false,false] rfl rfl (any_of HT_.out (by kernel_rfl)) (fun _ _ _ h => h) (Or.inl ⟨by rfl,?_⟩) ?_ ?_
  rotate_left
  ·intro w'
   go_simp;with_reducible rfl
  rotate_left
  ·simp only [Act.put,List.setIfInBounds_toArray,List.set_cons_zero,List.set_cons_succ,i64_w,i32_w]
   rfl
  refine pure_ (i:=1) (N:=some 4) (v:=?_) (a':=?_) #[true,true,false,false,false,false,false,false] rfl rfl (any_of HT_.out (by kernel_rfl)) (fun _ _ _ h => h) (Or.inl ⟨by rfl,?_⟩) ?_ ?_
  rotate_left
  ·intro w'
   go_simp;with_reducible rfl
  rotate_left
  ·simp only [Act.put,List.setIfInBounds_toArray,List.set_cons_zero,List.set_cons_succ,i64_w,i32_w]
   rfl
  refine take_ (i:=2) (N:=some 5) (v:=?_) (a':=?_) #[true,true,true,false,false,false,false,false] rfl rfl (take_ofW HT_.out HW_.out (by kernel_rfl)) (fun _ _ _ h => h) (Or.inl ⟨by rfl,?_⟩) hHeld ?_ ?_
  rotate_left
  ·rintro w' ⟨s0,s1,s2,s3,s4,s5,s6,s7⟩
   go_simp;with_reducible rfl
  rotate_left
  ·simp only [Act.put,List.setIfInBounds_toArray,List.set_cons_zero,List.set_cons_succ,i64_w,i32_w]
   rfl
  refine pure_ (i:=3) (N:=some 6) (v:=?_) (a':=?_) #[true,true,true,true,false,false,false,false] rfl rfl (any_of HT_.out (by kernel_rfl)) (fun _ _ _ h => h) (Or.inl ⟨by rfl,?_⟩) ?_ ?_
  rotate_left
  ·intro w'
   go_simp;with_reducible rfl
  rotate_left
  ·simp only [Act.put,List.setIfInBounds_toArray,List.set_cons_zero,List.set_cons_succ,i64_w,i32_w]
   rfl
  refine take_ (i:=4) (N:=some 7) (v:=?_) (a':=?_) #[true,true,true,true,true,false,false,false] rfl rfl (take_ofW HT_.out HW_.out (by kernel_rfl)) (fun _ _ _ h => h) (Or.inl ⟨by rfl,?_⟩) hHeld ?_ ?_
  rotate_left
  ·rintro w' ⟨s0,s1,s2,s3,s4,s5,s6,s7⟩
   go_simp;with_reducible rfl
  rotate_left
  ·simp only [Act.put,List.setIfInBounds_toArray,List.set_cons_zero,List.set_cons_succ,i64_w,i32_w]
   rfl
  refine one_ (i:=5) (N:=some 8) #[true,true,true,true,true,true,false,false] rfl rfl (one_of HT_.out (by kernel_rfl)) (by decide) (fun K hK => ?_)
  refine goes_ Tryd.func65 (by kernel_rfl) rfl #[.agg #[.int .i64 a0_0,.int .i64 a0_1,.int .i64 a0_2,.int .i64 a0_3,.int .i64 a0_4,.int .i64 a0_5,.int .i64 a0_6,.int .i64 a0_7]] (by rfl) rfl rfl aA ?_
  with_reducible refine (config_asked_fairSize.calls a0_0 a0_1 a0_2 a0_3 a0_4 a0_5 a0_6 a0_7 t120 _ A2.out).mono ?_
  rintro e w6 ⟨rfl,hb⟩
  refine ⟨_,rfl,?_⟩;have n0_:=Aside0.mk (blk_below (g:=gb119) kA hb);have n1_:=Aside0.mk (below_step bA hb);clear BK119 HB;have BK119:=n0_;have HB:=n1_;clear n0_ n1_;(try clear hb)
  refine hK.out _ _ ⟨(blk_cell BK119.out 0).trans rfl,(blk_cell BK119.out 1).trans rfl,(blk_cell BK119.out 2).trans rfl,(blk_cell BK119.out 3).trans rfl,(blk_cell BK119.out 4).trans rfl,(blk_cell BK119.out 5).trans rfl,(blk_cell BK119.out 6).trans rfl,(blk_cell BK119.out 7).trans rfl⟩ (fun hHeld => ?_)
  clear hK K
  refine norm_ (a':=?_) ?_ ?_
  rotate_left
  ·show Act.put _ (some 8) _ = _
   simp only [Act.put,List.setIfInBounds_toArray,List.set_cons_zero,List.set_cons_succ,i64_w,i32_w]
   rfl
  refine pure_ (i:=6) (N:=some 9) (v:=?_) (a':=?_) #[true,true,true,true,true,true,true,false] rfl rfl (any_of HT_.out (by kernel_rfl)) (fun _ _ _ h => h) (Or.inl ⟨by rfl,?_⟩) ?_ ?_
  rotate_left
  ·intro w'
   go_simp;with_reducible rfl
  rotate_left
  ·simp only [Act.put,List.setIfInBounds_toArray,List.set_cons_zero,List.set_cons_succ,i64_w,i32_w]
   rfl
  refine pure_ (i:=7) (N:=some 10) (v:=?_) (a':=?_) #[true,true,true,true,true,true,true,true] rfl rfl (any_of HT_.out (by kernel_rfl)) (fun _ _ _ h => h) (Or.inl ⟨by rfl,?_⟩) ?_ ?_
  rotate_left
  ·intro w'
   go_simp;with_reducible rfl
  rotate_left
  ·simp only [Act.put,List.setIfInBounds_toArray,List.set_cons_zero,List.set_cons_succ,i64_w,i32_w]
   rfl
  refine done_ (done_of HT_.out (by kernel_rfl)) ?_
  try go_wp2
  go_ret
  exact ⟨by first | rfl | (simp [errW_none,errW_some] <;> rfl) | (simp [*,errW_none,errW_some] <;> rfl),bA⟩
 ·rw [if_neg c3] at H
  have c3b0 : decide (4611686018427387904 ≤ (wrap64 ((wrap64 (a0_3 * 1099511627776)) + t120))) = false:=decide_eq_false c3
  clear c3
  obtain rfl:=Option.some.inj H
  go_enter Tryd.func42,Tryd.ntmps42
  try go_wp2_with (first | ((with_reducible refine gate_dst (N:=1) rfl ?_);refine bxA 1 #[.int .i64 a0_0,.int .i64 a0_1,.int .i64 a0_2,.int .i64 a0_3,.int .i64 a0_4,.int .i64 a0_5,.int .i64 a0_6,.int .i64 a0_7] 77 ?_;intro gb119 hg w7 hbox hb;have n0_:=Aside0.mk (below_step bA hb);have n1_:=Aside0.mk (hbox);have n2_:=Aside0.mk (gwA hg bA);have n3_:=Aside0.mk (gwA hg bA);clear HB;have HB:=n0_;have BK119:=n1_;have GW119:=n2_;have GE119:=n3_;clear n0_ n1_ n2_ n3_ hb hbox hg))
  have n0_:=Aside0.mk (blk_drew BK119.out);have n1_:=Aside0.mk (below_drew1 HB.out);clear BK119 HB;have BK119:=n0_;have HB:=n1_;clear n0_ n1_
  refine start_ (n:=8) (S:=fun w' => w'.cell? ⟨gb119,0,none⟩ = some (.int .i64 a0_0) ∧ w'.cell? ⟨gb119,1,none⟩ = some (.int .i64 a0_1) ∧ w'.cell? ⟨gb119,2,none⟩ = some (.int .i64 a0_2) ∧ w'.cell? ⟨gb119,3,none⟩ = some (.int .i64 a0_3) ∧ w'.cell? ⟨gb119,4,none⟩ = some (.int .i64 a0_4) ∧ w'.cell? ⟨gb119,5,none⟩ = some (.int .i64 a0_5) ∧ w'.cell? ⟨gb119,6,none⟩ = some (.int .i64 a0_6) ∧ w'.cell? ⟨gb119,7,none⟩ = some (.int .i64 a0_7)) (ds:=[]) #[false,false,false,false,false,false,false,false] (by kernel_rfl) rfl rfl ⟨(blk_cell BK119.out 0).trans rfl,(blk_cell BK119.out 1).trans rfl,(blk_cell BK119.out 2).trans rfl,(blk_cell BK119.out 3).trans rfl,(blk_cell BK119.out 4).trans rfl,(blk_cell BK119.out 5).trans rfl,(blk_cell BK119.out 6).trans rfl,(blk_cell BK119.out 7).trans rfl⟩ (fun hHeld => ?_);refine with_tabW config_asked_scale.tab1 config_asked_scale.bits1 (fun HT_ HW_ => ?_)
  generalize w7.drew = w8 at BK119 HB hHeld ⊢
  refine pure_ (i:=0) (N:=some 3) (v:=?_) (a':=?_) #[true,false,false,false,false,false,false,false] rfl rfl (any_of HT_.out (by kernel_rfl)) (fun _ _ _ h => h) (Or.inl ⟨by rfl,?_⟩) ?_ ?_
  rotate_left
  ·intro w'
   go_simp;with_reducible rfl
  rotate_left
  ·simp only [Act.put,List.setIfInBounds_toArray,List.set_cons_zero,List.set_cons_succ,i64_w,i32_w]
   rfl
  refine pure_ (i:=1) (N:=some 4) (v:=?_) (a':=?_) #[true,true,false,false,false,false,false,false] rfl rfl (any_of HT_.out (by kernel_rfl)) (fun _ _ _ h => h) (Or.inl ⟨by rfl,?_⟩) ?_ ?_
  rotate_left
  ·intro w'
   go_simp;with_reducible rfl
  rotate_left
  ·simp only [Act.put,List.setIfInBounds_toArray,List.set_cons_zero,List.set_cons_succ,i64_w,i32_w]
   rfl
  refine take_ (i:=2) (N:=some 5) (v:=?_) (a':=?_) #[true,true,true,false,false,false,false,false] rfl rfl (take_ofW HT_.out HW_.out (by kernel_rfl)) (fun _ _ _ h => h) (Or.inl ⟨by rfl,?_⟩) hHeld ?_ ?_
  rotate_left
  ·rintro w' ⟨s0,s1,s2,s3,s4,s5,s6,s7⟩
   go_simp;with_reducible rfl
  rotate_left
  ·simp only [Act.put,List.setIfInBounds_toArray,List.set_cons_zero,List.set_cons_succ,i64_w,i32_w]
   rfl
  refine pure_ (i:=3) (N:=some 6) (v:=?_) (a':=?_) #[true,true,true,true,false,false,false,false] rfl rfl (any_of HT_.out (by kernel_rfl)) (fun _ _ _ h => h) (Or.inl ⟨by rfl,?_⟩) ?_ ?_
  rotate_left
  ·intro w'
   go_simp;with_reducible rfl
  rotate_left
  ·simp only [Act.put,List.setIfInBounds_toArray,List.set_cons_zero,List.set_cons_succ,i64_w,i32_w]
   rfl
  refine take_ (i:=4) (N:=some 7) (v:=?_) (a':=?_) #[true,true,true,true,true,false,false,false] rfl rfl (take_ofW HT_.out HW_.out (by kernel_rfl)) (fun _ _ _ h => h) (Or.inl ⟨by rfl,?_⟩) hHeld ?_ ?_
  rotate_left
  ·rintro w' ⟨s0,s1,s2,s3,s4,s5,s6,s7⟩
   go_simp;with_reducible rfl
  rotate_left
  ·simp only [Act.put,List.setIfInBounds_toArray,List.set_cons_zero,List.set_cons_succ,i64_w,i32_w]
   rfl
  refine one_ (i:=5) (N:=some 8) #[true,true,true,true,true,true,false,false] rfl rfl (one_of HT_.out (by kernel_rfl)) (by decide) (fun K hK => ?_)
  refine goes_ Tryd.func65 (by kernel_rfl) rfl #[.agg #[.int .i64 a0_0,.int .i64 a0_1,.int .i64 a0_2,.int .i64 a0_3,.int .i64 a0_4,.int .i64 a0_5,.int .i64 a0_6,.int .i64 a0_7]] (by rfl) rfl rfl aA ?_
  with_reducible refine (config_asked_fairSize.calls a0_0 a0_1 a0_2 a0_3 a0_4 a0_5 a0_6 a0_7 t120 _ A2.out).mono ?_
  rintro e w9 ⟨rfl,hb⟩
  refine ⟨_,rfl,?_⟩;have n0_:=Aside0.mk (blk_below (g:=gb119) kA hb);have n1_:=Aside0.mk (below_step bA hb);clear BK119 HB;have BK119:=n0_;have HB:=n1_;clear n0_ n1_;(try clear hb)
  refine hK.out _ _ ⟨(blk_cell BK119.out 0).trans rfl,(blk_cell BK119.out 1).trans rfl,(blk_cell BK119.out 2).trans rfl,(blk_cell BK119.out 3).trans rfl,(blk_cell BK119.out 4).trans rfl,(blk_cell BK119.out 5).trans rfl,(blk_cell BK119.out 6).trans rfl,(blk_cell BK119.out 7).trans rfl⟩ (fun hHeld => ?_)
  clear hK K
  refine norm_ (a':=?_) ?_ ?_
  rotate_left
  ·show Act.put _ (some 8) _ = _
   simp only [Act.put,List.setIfInBounds_toArray,List.set_cons_zero,List.set_cons_succ,i64_w,i32_w]
   rfl
  refine pure_ (i:=6) (N:=some 9) (v:=?_) (a':=?_) #[true,true,true,true,true,true,true,false] rfl rfl (any_of HT_.out (by kernel_rfl)) (fun _ _ _ h => h) (Or.inl ⟨by rfl,?_⟩) ?_ ?_
  rotate_left
  ·intro w'
   go_simp;with_reducible rfl
  rotate_left
  ·simp only [Act.put,List.setIfInBounds_toArray,List.set_cons_zero,List.set_cons_succ,i64_w,i32_w]
   rfl
  refine pure_ (i:=7) (N:=some 10) (v:=?_) (a':=?_) #[true,true,true,true,true,true,true,true] rfl rfl (any_of HT_.out (by kernel_rfl)) (fun _ _ _ h => h) (Or.inl ⟨by rfl,?_⟩) ?_ ?_
  rotate_left
  ·intro w'
   go_simp;with_reducible rfl
  rotate_left
  ·simp only [Act.put,List.setIfInBounds_toArray,List.set_cons_zero,List.set_cons_succ,i64_w,i32_w]
   rfl
  refine done_ (done_of HT_.out (by kernel_rfl)) ?_
  try go_wp2
  go_ret
  exact ⟨by first | rfl | (simp [errW_none,errW_some] <;> rfl) | (simp [*,errW_none,errW_some] <;> rfl),bA⟩

def wide_Shl.f (a0_0 : Int) (a0_1 : Int) (a1 : Int) : Option (Int × Int):=if a1 ≤ 0 then (some (a0_0,a0_1)) else (if a1 < 64 then (if 0 ≤ a1 then (if 0 ≤ (wrap64 (64 - a1)) then (some (Go.bits .or .u64 (shl .u64 a0_0 a1) (shr .u64 a0_1 (wrap64 (64 - a1))),shl .u64 a0_1 a1)) else (none)) else (none)) else (if a1 < 128 then (if 0 ≤ (wrap64 (a1 - 64)) then (some (shl .u64 a0_1 (wrap64 (a1 - 64)),0)) else (none)) else (some (0,0))))
def wide_Shl.T4 : Bool × List (List Nat × List Nat):=(true,[([],[]),([0],[0]),([],[]),([1,2],[1,2]),([],[]),([4],[4]),([],[]),([6],[6]),([5,7],[5,7]),([3,8],[3,8]),([],[]),([10],[10]),([],[]),([11,12],[11,12]),([9,13],[9,13]),([14,0,1,2,3,4,5,6,7,8,9,10,11,12,13,14],[14])])
def wide_Shl.B4 : List Nat:=[0,1,0,7,0,16,0,64,240,511,0,1024,0,7168,16383,32767]
theorem wide_Shl.tab4 : rtab .any (opsOf Tryd.f48 4) = wide_Shl.T4:=by kernel_rfl
theorem wide_Shl.bits4 : waitsOk wide_Shl.T4.2 wide_Shl.B4 = true:=by kernel_rfl
set_option maxHeartbeats 8000000 in
set_option maxRecDepth 100000 in
theorem wide_Shl.calls (a0_0 : Int) (a0_1 : Int) (a1 : Int) (r1 : Int) (r2 : Int) (w : World) (h : wide_Shl.f a0_0 a0_1 a1 = some (r1,r2)) :
  Calls Tryd.prog 48 #[.agg #[.int .u64 a0_0,.int .u64 a0_1],.int .i64 a1] w fun e w' => e = .returned (.agg #[.int .u64 r1,.int .u64 r2]) ∧ Below w.heap.size w w':=by
 have hu87:=Tryd.underlying87
 have HB:=Aside0.mk (Below.refl w.heap.size w)
 have H : (if a1 ≤ 0 then (some (a0_0,a0_1)) else (if a1 < 64 then (if 0 ≤ a1 then (if 0 ≤ (wrap64 (64 - a1)) then (some (Go.bits .or .u64 (shl .u64 a0_0 a1) (shr .u64 a0_1 (wrap64 (64 - a1))),shl .u64 a0_1 a1)) else (none)) else (none)) else (if a1 < 128 then (if 0 ≤ (wrap64 (a1 - 64)) then (some (shl .u64 a0_1 (wrap64 (a1 - 64)),0)) else (none)) else (some (0,0))))) = some (r1,r2):=h
 clear h
 by_cases c3 : a1 ≤ 0
 ·rw [if_pos c3] at H
  have c3b0 : decide (a1 ≤ 0) = true:=decide_eq_true c3
  clear c3
  simp only [Option.some.injEq,Prod.mk.injEq] at H
  obtain ⟨rfl,rfl⟩:=H
  go_enter Tryd.func48,Tryd.ntmps48
  go_wp2_with (first | ((with_reducible refine gate_dst (N:=2) rfl ?_);refine bxA 2 #[.int .u64 a0_0,.int .u64 a0_1] 87 ?_;intro gb121 hg w4 hbox hb;have n0_:=Aside0.mk (below_step bA hb);have n1_:=Aside0.mk (hbox);have n2_:=Aside0.mk (gwA hg bA);have n3_:=Aside0.mk (gwA hg bA);clear HB;have HB:=n0_;have BK121:=n1_;have GW121:=n2_;have GE121:=n3_;clear n0_ n1_ n2_ n3_ hb hbox hg) | ((with_reducible refine gate_dst (N:=4) rfl ?_);refine bxA 4 #[.int .u64 0,.int .u64 0] 87 ?_;intro gb122 hg w5 hbox hb;have n0_:=Aside0.mk (blk_below (g:=gb121) kA hb);have n1_:=Aside0.mk (below_step bA hb);have n2_:=Aside0.mk (hbox);have n3_:=Aside0.mk (gwA hg bA);have n4_:=Aside0.mk (gwA hg bA);have n5_:=Aside0.mk (neA (g:=gb121) hg kA);have n6_:=Aside0.mk (neB (g:=gb121) hg kA);clear BK121 HB;have BK121:=n0_;have HB:=n1_;have BK122:=n2_;have GW122:=n3_;have GE122:=n4_;have NB121_122:=n5_;have NB122_121:=n6_;clear n0_ n1_ n2_ n3_ n4_ n5_ n6_ hb hbox hg;have hnb6:=NB121_122.out;have hnc6:=NB122_121.out;have hcz7_0 : w5.cell? ⟨gb121,0,none⟩ = some (.int .u64 a0_0):=(blk_cell BK121.out 0).trans rfl;have hcz7_1 : w5.cell? ⟨gb121,1,none⟩ = some (.int .u64 a0_1):=(blk_cell BK121.out 1).trans rfl;have hfz7_0:=blk_frozen BK121.out 0;have hfz7_1:=blk_frozen BK121.out 1;have hcz8_0 : w5.cell? ⟨gb122,0,none⟩ = some (.int .u64 0):=(blk_cell BK122.out 0).trans rfl;have hcz8_1 : w5.cell? ⟨gb122,1,none⟩ = some (.int .u64 0):=(blk_cell BK122.out 1).trans rfl;have hfz8_0:=blk_frozen BK122.out 0;have hfz8_1:=blk_frozen BK122.out 1))
  refine bodyPost_ret (results_cell_row rfl _ _ gb122 87 #[.int .u64 a0_0,.int .u64 a0_1] (0,0) _ rfl (by (with_reducible repeat (first | refine blk_drewN ?_ _ | refine blk_drew ?_ | refine blk_alloc ?_ _));refine blk_put (cs:=#[.int .u64 a0_0,.int .u64 0]) ?_ 1 _ rfl;(with_reducible repeat (first | refine blk_drewN ?_ _ | refine blk_drew ?_ | refine blk_alloc ?_ _));refine blk_put (cs:=#[.int .u64 0,.int .u64 0]) ?_ 0 _ rfl;exact kA) Tryd.underlying87 rfl (by kernel_rfl)) rfl ?_
  exact ⟨by first | rfl | (simp [errW_none,errW_some] <;> rfl) | (simp [*,errW_none,errW_some] <;> rfl),bA⟩
 ·rw [if_neg c3] at H
  have c3b0 : decide (a1 ≤ 0) = false:=decide_eq_false c3
  clear c3
  by_cases c9 : a1 < 64
  ·rw [if_pos c9] at H
   have c9b0 : decide (a1 < 64) = true:=decide_eq_true c9
   clear c9
   by_cases c10 : 0 ≤ a1
   ·rw [if_pos c10] at H
    have c10b0:=eq_true c10
    have c10b1 : decide (0 ≤ a1) = true:=decide_eq_true c10
    clear c10
    obtain ⟨ji11,hji11⟩ : ∃ j_ : Int,(shl .u64 a0_0 a1) = j_:=⟨_,rfl⟩
    replace H : (if 0 ≤ (wrap64 (64 - a1)) then (some (Go.bits .or .u64 (ji11) (shr .u64 a0_1 (wrap64 (64 - a1))),shl .u64 a0_1 a1)) else (none)) = some (r1,r2):=by first | (rw [hji11] at H;exact H) | (simp only [hji11] at H ⊢;exact H)
    have hji11_ : (IntKind.u64.wrap (a0_0 * 2 ^ min a1.toNat 64)) = ji11:=hji11
    have hji11z : a1 ≤ 64 → (IntKind.u64.wrap (a0_0 * 2 ^ a1.toNat)) = ji11:=shl_small hji11
    obtain ⟨ji12,hji12⟩ : ∃ j_ : Int,(wrap64 (64 - a1)) = j_:=⟨_,rfl⟩
    replace H : (if 0 ≤ (ji12) then (some (Go.bits .or .u64 (ji11) (shr .u64 a0_1 (ji12)),shl .u64 a0_1 a1)) else (none)) = some (r1,r2):=by first | (rw [hji12] at H;exact H) | (simp only [hji12] at H ⊢;exact H)
    have hji12w : (IntKind.i64.wrap (64 - a1)) = ji12:=(i64_w _).trans hji12
    by_cases c13 : 0 ≤ (ji12)
    ·rw [if_pos c13] at H
     have c13b0:=eq_true c13
     have c13b1 : decide (0 ≤ (ji12)) = true:=decide_eq_true c13
     clear c13
     obtain ⟨ji14,hji14⟩ : ∃ j_ : Int,(shr .u64 a0_1 (ji12)) = j_:=⟨_,rfl⟩
     replace H : (some (Go.bits .or .u64 (ji11) (ji14),shl .u64 a0_1 a1)) = some (r1,r2):=by first | (rw [hji14] at H;exact H) | (simp only [hji14] at H ⊢;exact H)
     have hji14_ : (a0_1 / 2 ^ min (ji12).toNat 64) = ji14:=hji14
     have hji14z : (ji12) ≤ 64 → (a0_1 / 2 ^ (ji12).toNat) = ji14:=shr_small hji14
     have c15b0:=eq_true (of_decide_eq_true (by first | (with_reducible assumption) | assumption) : 0 ≤ a1)
     obtain ⟨ji16,hji16⟩ : ∃ j_ : Int,(shl .u64 a0_1 a1) = j_:=⟨_,rfl⟩
     replace H : (some (Go.bits .or .u64 (ji11) (ji14),ji16)) = some (r1,r2):=by first | (rw [hji16] at H;exact H) | (simp only [hji16] at H ⊢;exact H)
     have hji16_ : (IntKind.u64.wrap (a0_1 * 2 ^ min a1.toNat 64)) = ji16:=hji16
     have hji16z : a1 ≤ 64 → (IntKind.u64.wrap (a0_1 * 2 ^ a1.toNat)) = ji16:=shl_small hji16
     simp only [Option.some.injEq,Prod.mk.injEq] at H
     obtain ⟨rfl,rfl⟩:=H
     go_enter Tryd.func48,Tryd.ntmps48
     try go_wp2_with (first | ((with_reducible refine gate_dst (N:=2) rfl ?_);refine bxA 2 #[.int .u64 a0_0,.int .u64 a0_1] 87 ?_;intro gb121 hg w17 hbox hb;have n0_:=Aside0.mk (below_step bA hb);have n1_:=Aside0.mk (hbox);have n2_:=Aside0.mk (gwA hg bA);have n3_:=Aside0.mk (gwA hg bA);clear HB;have HB:=n0_;have BK121:=n1_;have GW121:=n2_;have GE121:=n3_;clear n0_ n1_ n2_ n3_ hb hbox hg) | ((with_reducible refine gate_dst (N:=4) rfl ?_);refine bxA 4 #[.int .u64 0,.int .u64 0] 87 ?_;intro gb122 hg w18 hbox hb;have n0_:=Aside0.mk (blk_below (g:=gb121) kA hb);have n1_:=Aside0.mk (below_step bA hb);have n2_:=Aside0.mk (hbox);have n3_:=Aside0.mk (gwA hg bA);have n4_:=Aside0.mk (gwA hg bA);have n5_:=Aside0.mk (neA (g:=gb121) hg kA);have n6_:=Aside0.mk (neB (g:=gb121) hg kA);clear BK121 HB;have BK121:=n0_;have HB:=n1_;have BK122:=n2_;have GW122:=n3_;have GE122:=n4_;have NB121_122:=n5_;have NB122_121:=n6_;clear n0_ n1_ n2_ n3_ n4_ n5_ n6_ hb hbox hg))
     have n0_:=Aside0.mk (blk_drew BK121.out);have n1_:=Aside0.mk (blk_drew BK122.out);have n2_:=Aside0.mk (below_drew1 HB.out);clear BK121 BK122 HB;have BK121:=n0_;have BK122:=n1_;have HB:=n2_;clear n0_ n1_ n2_
     refine start_ (n:=16) (S:=fun w' => w'.cell? ⟨gb121,0,none⟩ = some (.int .u64 a0_0) ∧ w'.cell? ⟨gb121,1,none⟩ = some (.int .u64 a0_1)) (ds:=[]) #[false,false,false,false,false,false,false,false,false,false,false,false,false,false,false,false] (by kernel_rfl) rfl rfl ⟨(blk_cell BK121.out 0).trans rfl,(blk_cell BK121.out 1).trans rfl⟩ (fun hHeld => ?_);refine with_tabW wide_Shl.tab4 wide_Shl.bits4 (fun HT_ HW_ => ?_)
     generalize w18.drew = w19 at BK121 BK122 HB hHeld ⊢
     refine pure_ (i:=0) (N:=some 12) (v:=?_) (a':=?_) #[true,false,false,false,false,false,false,false,false,false,false,false,false,false,false,false] rfl rfl (any_of HT_.out (by kernel_rfl)) (fun _ _ _ h => h) (Or.inl ⟨by rfl,?_⟩) ?_ ?_
     rotate_left
     ·intro w'
      go_simp;with_reducible rfl
     rotate_left
     ·simp only [Act.put,List.setIfInBounds_toArray,List.set_cons_zero,List.set_cons_succ,i64_w,i32_w]
      rfl
     refine pure_ (i:=2) (N:=some 14) (v:=?_) (a':=?_) #[true,false,true,false,false,false,false,false,false,false,false,false,false,false,false,false] rfl rfl (any_of HT_.out (by kernel_rfl)) (fun _ _ _ h => h) (Or.inl ⟨by rfl,?_⟩) ?_ ?_
     rotate_left
     ·intro w'
      go_simp;with_reducible rfl
     rotate_left
     ·simp only [Act.put,List.setIfInBounds_toArray,List.set_cons_zero,List.set_cons_succ,i64_w,i32_w]
      rfl
     refine pure_ (i:=4) (N:=some 16) (v:=?_) (a':=?_) #[true,false,true,false,true,false,false,false,false,false,false,false,false,false,false,false] rfl rfl (any_of HT_.out (by kernel_rfl)) (fun _ _ _ h => h) (Or.inl ⟨by rfl,?_⟩) ?_ ?_
     rotate_left
     ·intro w'
      go_simp;with_reducible rfl
     rotate_left
     ·simp only [Act.put,List.setIfInBounds_toArray,List.set_cons_zero,List.set_cons_succ,i64_w,i32_w]
      rfl
     refine pure_ (i:=6) (N:=some 18) (v:=?_) (a':=?_) #[true,false,true,false,true,false,true,false,false,false,false,false,false,false,false,false] rfl rfl (any_of HT_.out (by kernel_rfl)) (fun _ _ _ h => h) (Or.inl ⟨by rfl,?_⟩) ?_ ?_
     rotate_left
     ·intro w'
      go_simp;with_reducible rfl
     rotate_left
     ·simp only [Act.put,List.setIfInBounds_toArray,List.set_cons_zero,List.set_cons_succ,i64_w,i32_w]
      rfl
     refine pure_ (i:=7) (N:=some 19) (v:=?_) (a':=?_) #[true,false,true,false,true,false,true,true,false,false,false,false,false,false,false,false] rfl rfl (any_of HT_.out (by kernel_rfl)) (fun _ _ _ h => h) (Or.inl ⟨by rfl,?_⟩) ?_ ?_
     rotate_left
     ·intro w'
      go_simp;with_reducible rfl
     rotate_left
     ·simp only [Act.put,List.setIfInBounds_toArray,List.set_cons_zero,List.set_cons_succ,i64_w,i32_w]
      rfl
     refine pure_ (i:=10) (N:=some 22) (v:=?_) (a':=?_) #[true,false,true,false,true,false,true,true,false,false,true,false,false,false,false,false] rfl rfl (any_of HT_.out (by kernel_rfl)) (fun _ _ _ h => h) (Or.inl ⟨by rfl,?_⟩) ?_ ?_
     rotate_left
     ·intro w'
      go_simp;with_reducible rfl
     rotate_left
     ·simp only [Act.put,List.setIfInBounds_toArray,List.set_cons_zero,List.set_cons_succ,i64_w,i32_w]
      rfl
     refine pure_ (i:=12) (N:=some 24) (v:=?_) (a':=?_) #[true,false,true,false,true,false,true,true,false,false,true,false,true,false,false,false] rfl rfl (any_of HT_.out (by kernel_rfl)) (fun _ _ _ h => h) (Or.inl ⟨by rfl,?_⟩) ?_ ?_
     rotate_left
     ·intro w'
      go_simp;with_reducible rfl
     rotate_left
     ·simp only [Act.put,List.setIfInBounds_toArray,List.set_cons_zero,List.set_cons_succ,i64_w,i32_w]
      rfl
     refine take_ (i:=1) (N:=some 13) (v:=?_) (a':=?_) #[true,true,true,false,true,false,true,true,false,false,true,false,true,false,false,false] rfl rfl (take_ofW HT_.out HW_.out (by kernel_rfl)) (fun _ _ _ h => h) (Or.inl ⟨by rfl,?_⟩) hHeld ?_ ?_
     rotate_left
     ·rintro w' ⟨s0,s1⟩
      go_simp;with_reducible rfl
     rotate_left
     ·simp only [Act.put,List.setIfInBounds_toArray,List.set_cons_zero,List.set_cons_succ,i64_w,i32_w]
      rfl
     refine pure_ (i:=3) (N:=some 15) (v:=?_) (a':=?_) #[true,true,true,true,true,false,true,true,false,false,true,false,true,false,false,false] rfl rfl (any_of HT_.out (by kernel_rfl)) (fun _ _ _ h => h) (Or.inl ⟨by rfl,?_⟩) ?_ ?_
     rotate_left
     ·intro w'
      go_simp;with_reducible rfl
     rotate_left
     ·simp only [Act.put,List.setIfInBounds_toArray,List.set_cons_zero,List.set_cons_succ,i64_w,i32_w]
      rfl
     refine take_ (i:=5) (N:=some 17) (v:=?_) (a':=?_) #[true,true,true,true,true,true,true,true,false,false,true,false,true,false,false,false] rfl rfl (take_ofW HT_.out HW_.out (by kernel_rfl)) (fun _ _ _ h => h) (Or.inl ⟨by rfl,?_⟩) hHeld ?_ ?_
     rotate_left
     ·rintro w' ⟨s0,s1⟩
      go_simp;with_reducible rfl
     rotate_left
     ·simp only [Act.put,List.setIfInBounds_toArray,List.set_cons_zero,List.set_cons_succ,i64_w,i32_w]
      rfl
     refine pure_ (i:=8) (N:=some 20) (v:=?_) (a':=?_) #[true,true,true,true,true,true,true,true,true,false,true,false,true,false,false,false] rfl rfl (any_of HT_.out (by kernel_rfl)) (fun _ _ _ h => h) (Or.inl ⟨by rfl,?_⟩) ?_ ?_
     rotate_left
     ·intro w'
      go_simp;with_reducible rfl
     rotate_left
     ·simp only [Act.put,List.setIfInBounds_toArray,List.set_cons_zero,List.set_cons_succ,i64_w,i32_w]
      rfl
     refine pure_ (i:=9) (N:=some 21) (v:=?_) (a':=?_) #[true,true,true,true,true,true,true,true,true,true,true,false,true,false,false,false] rfl rfl (any_of HT_.out (by kernel_rfl)) (fun _ _ _ h => h) (Or.inl ⟨by rfl,?_⟩) ?_ ?_
     rotate_left
     ·intro w'
      go_simp;with_reducible rfl
     rotate_left
     ·simp only [Act.put,List.setIfInBounds_toArray,List.set_cons_zero,List.set_cons_succ,i64_w,i32_w]
      rfl
     refine take_ (i:=11) (N:=some 23) (v:=?_) (a':=?_) #[true,true,true,true,true,true,true,true,true,true,true,true,true,false,false,false] rfl rfl (take_ofW HT_.out HW_.out (by kernel_rfl)) (fun _ _ _ h => h) (Or.inl ⟨by rfl,?_⟩) hHeld ?_ ?_
     rotate_left
     ·rintro w' ⟨s0,s1⟩
      go_simp;with_reducible rfl
     rotate_left
     ·simp only [Act.put,List.setIfInBounds_toArray,List.set_cons_zero,List.set_cons_succ,i64_w,i32_w]
      rfl
     refine pure_ (i:=13) (N:=some 25) (v:=?_) (a':=?_) #[true,true,true,true,true,true,true,true,true,true,true,true,true,true,false,false] rfl rfl (any_of HT_.out (by kernel_rfl)) (fun _ _ _ h => h) (Or.inl ⟨by rfl,?_⟩) ?_ ?_
     rotate_left
     ·intro w'
      go_simp;with_reducible rfl
     rotate_left
     ·simp only [Act.put,List.setIfInBounds_toArray,List.set_cons_zero,List.set_cons_succ,i64_w,i32_w]
      rfl
     refine pure_ (i:=14) (N:=some 26) (v:=?_) (a':=?_) #[true,true,true,true,true,true,true,true,true,true,true,true,true,true,true,false] rfl rfl (any_of HT_.out (by kernel_rfl)) (fun _ _ _ h => h) (Or.inl ⟨by rfl,?_⟩) ?_ ?_
     rotate_left
     ·intro w'
      go_simp;with_reducible rfl
     rotate_left
     ·simp only [Act.put,List.setIfInBounds_toArray,List.set_cons_zero,List.set_cons_succ,i64_w,i32_w]
      rfl
     refine one_ (i:=15) (N:=none) #[true,true,true,true,true,true,true,true,true,true,true,true,true,true,true,true] rfl rfl (one_of HT_.out (by kernel_rfl)) (by decide) (fun K hK => ?_)
     have hs20 : w19.cell? ⟨gb122,0,none⟩ = some (.int .u64 0):=(blk_cell BK122.out 0).trans rfl
     have hfs20:=blk_frozen BK122.out 0
     have hns20_0:=NB121_122.out
     have hms20_0:=NB122_121.out
     have hs21 : w19.cell? ⟨gb122,1,none⟩ = some (.int .u64 0):=(blk_cell BK122.out 1).trans rfl
     have hfs21:=blk_frozen BK122.out 1
     have hns21_0:=NB121_122.out
     have hms21_0:=NB122_121.out
     refine skip_ (w1:=?_) (by rfl) rfl ?_ ?_
     rotate_left
     ·go_simp
      rfl
     refine hK.out _ _ ⟨((cell_far (p:=⟨gb122,_,none⟩) NB121_122.out _).trans (((cell_far (p:=⟨gb122,_,none⟩) NB121_122.out _).trans (hHeld.1)))),((cell_far (p:=⟨gb122,_,none⟩) NB121_122.out _).trans (((cell_far (p:=⟨gb122,_,none⟩) NB121_122.out _).trans (hHeld.2))))⟩ (fun hHeld => ?_)
     clear hK K
     refine done_ (done_of HT_.out (by kernel_rfl)) ?_
     try go_wp2
     refine bodyPost_ret (results_cell_row rfl _ _ gb122 87 #[.int .u64 (Go.bits .or .u64 (ji11) (ji14)),.int .u64 ji16] (0,0) _ rfl (by (with_reducible repeat (first | refine blk_drewN ?_ _ | refine blk_drew ?_ | refine blk_alloc ?_ _));refine blk_put (cs:=#[.int .u64 (Go.bits .or .u64 (ji11) (ji14)),.int .u64 0]) ?_ 1 _ rfl;(with_reducible repeat (first | refine blk_drewN ?_ _ | refine blk_drew ?_ | refine blk_alloc ?_ _));refine blk_put (cs:=#[.int .u64 0,.int .u64 0]) ?_ 0 _ rfl;exact kA) Tryd.underlying87 rfl (by kernel_rfl)) rfl ?_
     exact ⟨by first | rfl | (simp [errW_none,errW_some] <;> rfl) | (simp only [← hji11,← hji12,← hji14,← hji16];first | rfl | (simp [errW_none,errW_some] <;> rfl)) | (simp [*,errW_none,errW_some] <;> rfl),bA⟩
    ·rw [if_neg c13] at H
     exact absurd H (by simp)
   ·rw [if_neg c10] at H
    exact absurd H (by simp)
  ·rw [if_neg c9] at H
   have c9b0 : decide (a1 < 64) = false:=decide_eq_false c9
   clear c9
   by_cases c22 : a1 < 128
   ·rw [if_pos c22] at H
    have c22b0 : decide (a1 < 128) = true:=decide_eq_true c22
    clear c22
    obtain ⟨ji23,hji23⟩ : ∃ j_ : Int,(wrap64 (a1 - 64)) = j_:=⟨_,rfl⟩
    replace H : (if 0 ≤ (ji23) then (some (shl .u64 a0_1 (ji23),0)) else (none)) = some (r1,r2):=by first | (rw [hji23] at H;exact H) | (simp only [hji23] at H ⊢;exact H)
    have hji23w : (IntKind.i64.wrap (a1 - 64)) = ji23:=(i64_w _).trans hji23
    by_cases c24 : 0 ≤ (ji23)
    ·rw [if_pos c24] at H
     have c24b0:=eq_true c24
     have c24b1 : decide (0 ≤ (ji23)) = true:=decide_eq_true c24
     clear c24
     obtain ⟨ji25,hji25⟩ : ∃ j_ : Int,(shl .u64 a0_1 (ji23)) = j_:=⟨_,rfl⟩
     replace H : (some (ji25,0)) = some (r1,r2):=by first | (rw [hji25] at H;exact H) | (simp only [hji25] at H ⊢;exact H)
     have hji25_ : (IntKind.u64.wrap (a0_1 * 2 ^ min (ji23).toNat 64)) = ji25:=hji25
     have hji25z : (ji23) ≤ 64 → (IntKind.u64.wrap (a0_1 * 2 ^ (ji23).toNat)) = ji25:=shl_small hji25
     simp only [Option.some.injEq,Prod.mk.injEq] at H
     obtain ⟨rfl,rfl⟩:=H
     go_enter Tryd.func48,Tryd.ntmps48
     go_wp2_with (first | ((with_reducible refine gate_dst (N:=2) rfl ?_);refine bxA 2 #[.int .u64 a0_0,.int .u64 a0_1] 87 ?_;intro gb121 hg w26 hbox hb;have n0_:=Aside0.mk (below_step bA hb);have n1_:=Aside0.mk (hbox);have n2_:=Aside0.mk (gwA hg bA);have n3_:=Aside0.mk (gwA hg bA);clear HB;have HB:=n0_;have BK121:=n1_;have GW121:=n2_;have GE121:=n3_;clear n0_ n1_ n2_ n3_ hb hbox hg) | ((with_reducible refine gate_dst (N:=4) rfl ?_);refine bxA 4 #[.int .u64 0,.int .u64 0] 87 ?_;intro gb122 hg w27 hbox hb;have n0_:=Aside0.mk (blk_below (g:=gb121) kA hb);have n1_:=Aside0.mk (below_step bA hb);have n2_:=Aside0.mk (hbox);have n3_:=Aside0.mk (gwA hg bA);have n4_:=Aside0.mk (gwA hg bA);have n5_:=Aside0.mk (neA (g:=gb121) hg kA);have n6_:=Aside0.mk (neB (g:=gb121) hg kA);clear BK121 HB;have BK121:=n0_;have HB:=n1_;have BK122:=n2_;have GW122:=n3_;have GE122:=n4_;have NB121_122:=n5_;have NB122_121:=n6_;clear n0_ n1_ n2_ n3_ n4_ n5_ n6_ hb hbox hg;have hnb28:=NB121_122.out;have hnc28:=NB122_121.out;have hcz29_0 : w27.cell? ⟨gb121,0,none⟩ = some (.int .u64 a0_0):=(blk_cell BK121.out 0).trans rfl;have hcz29_1 : w27.cell? ⟨gb121,1,none⟩ = some (.int .u64 a0_1):=(blk_cell BK121.out 1).trans rfl;have hfz29_0:=blk_frozen BK121.out 0;have hfz29_1:=blk_frozen BK121.out 1;have hcz30_0 : w27.cell? ⟨gb122,0,none⟩ = some (.int .u64 0):=(blk_cell BK122.out 0).trans rfl;have hcz30_1 : w27.cell? ⟨gb122,1,none⟩ = some (.int .u64 0):=(blk_cell BK122.out 1).trans rfl;have hfz30_0:=blk_frozen BK122.out 0;have hfz30_1:=blk_frozen BK122.out 1))
     refine bodyPost_ret (results_cell_row rfl _ _ gb122 87 #[.int .u64 ji25,.int .u64 0] (0,0) _ rfl (by (with_reducible repeat (first | refine blk_drewN ?_ _ | refine blk_drew ?_ | refine blk_alloc ?_ _));refine blk_put (cs:=#[.int .u64 ji25,.int .u64 0]) ?_ 1 _ rfl;(with_reducible repeat (first | refine blk_drewN ?_ _ | refine blk_drew ?_ | refine blk_alloc ?_ _));refine blk_put (cs:=#[.int .u64 0,.int .u64 0]) ?_ 0 _ rfl;exact kA) Tryd.underlying87 rfl (by kernel_rfl)) rfl ?_
     exact ⟨by first | rfl | (simp [errW_none,errW_some] <;> rfl) | (simp only [← hji23,← hji25];first | rfl | (simp [errW_none,errW_some] <;> rfl)) | (simp [*,errW_none,errW_some] <;> rfl),bA⟩
    ·rw [if_neg c24] at H
     exact absurd H (by simp)
   ·rw [if_neg c22] at H
    have c22b0 : decide (a1 < 128) = false:=decide_eq_false c22
    clear c22
    simp only [Option.some.injEq,Prod.mk.injEq] at H
    obtain ⟨rfl,rfl⟩:=H
    go_enter Tryd.func48,Tryd.ntmps48
    go_wp2_with (first | ((with_reducible refine gate_dst (N:=2) rfl ?_);refine bxA 2 #[.int .u64 a0_0,.int .u64 a0_1] 87 ?_;intro gb121 hg w31 hbox hb;have n0_:=Aside0.mk (below_step bA hb);have n1_:=Aside0.mk (hbox);have n2_:=Aside0.mk (gwA hg bA);have n3_:=Aside0.mk (gwA hg bA);clear HB;have HB:=n0_;have BK121:=n1_;have GW121:=n2_;have GE121:=n3_;clear n0_ n1_ n2_ n3_ hb hbox hg) | ((with_reducible refine gate_dst (N:=4) rfl ?_);refine bxA 4 #[.int .u64 0,.int .u64 0] 87 ?_;intro gb122 hg w32 hbox hb;have n0_:=Aside0.mk (blk_below (g:=gb121) kA hb);have n1_:=Aside0.mk (below_step bA hb);have n2_:=Aside0.mk (hbox);have n3_:=Aside0.mk (gwA hg bA);have n4_:=Aside0.mk (gwA hg bA);have n5_:=Aside0.mk (neA (g:=gb121) hg kA);have n6_:=Aside0.mk (neB (g:=gb121) hg kA);clear BK121 HB;have BK121:=n0_;have HB:=n1_;have BK122:=n2_;have GW122:=n3_;have GE122:=n4_;have NB121_122:=n5_;have NB122_121:=n6_;clear n0_ n1_ n2_ n3_ n4_ n5_ n6_ hb hbox hg;have hnb33:=NB122_121.out;have hnc33:=NB121_122.out;have hcz34_0 : w32.cell? ⟨gb122,0,none⟩ = some (.int .u64 0):=(blk_cell BK122.out 0).trans rfl;have hcz34_1 : w32.cell? ⟨gb122,1,none⟩ = some (.int .u64 0):=(blk_cell BK122.out 1).trans rfl;have hfz34_0:=blk_frozen BK122.out 0;have hfz34_1:=blk_frozen BK122.out 1))
    refine bodyPost_ret (results_cell_row rfl _ _ gb122 87 #[.int .u64 0,.int .u64 0] (0,0) _ rfl (by (with_reducible repeat (first | refine blk_drewN ?_ _ | refine blk_drew ?_ | refine blk_alloc ?_ _));refine blk_put (cs:=#[.int .u64 0,.int .u64 0]) ?_ 1 _ rfl;(with_reducible repeat (first | refine blk_drewN ?_ _ | refine blk_drew ?_ | refine blk_alloc ?_ _));refine blk_put (cs:=#[.int .u64 0,.int .u64 0]) ?_ 0 _ rfl;exact kA) Tryd.underlying87 rfl (by kernel_rfl)) rfl ?_
    exact ⟨by first | rfl | (simp [errW_none,errW_some] <;> rfl) | (simp [*,errW_none,errW_some] <;> rfl),bA⟩

def wide_Of.f (a0 : Int) : Option (Int × Int):=some (0,a0)
set_option maxHeartbeats 8000000 in
set_option maxRecDepth 100000 in
theorem wide_Of.calls (a0 : Int) (r1 : Int) (r2 : Int) (w : World) (h : wide_Of.f a0 = some (r1,r2)) :
  Calls Tryd.prog 49 #[.int .u64 a0] w fun e w' => e = .returned (.agg #[.int .u64 r1,.int .u64 r2]) ∧ Below w.heap.size w w':=by
 have hu87:=Tryd.underlying87
 have HB:=Aside0.mk (Below.refl w.heap.size w)
 have H : (some (0,a0)) = some (r1,r2):=h
 clear h
 simp only [Option.some.injEq,Prod.mk.injEq] at H
 obtain ⟨rfl,rfl⟩:=H
 go_enter Tryd.func49,Tryd.ntmps49
 go_wp2_with (first | ((with_reducible refine gate_dst (N:=2) rfl ?_);refine bxA 2 #[.int .u64 0,.int .u64 0] 87 ?_;intro gb123 hg w2 hbox hb;have n0_:=Aside0.mk (below_step bA hb);have n1_:=Aside0.mk (hbox);have n2_:=Aside0.mk (gwA hg bA);have n3_:=Aside0.mk (gwA hg bA);clear HB;have HB:=n0_;have BK123:=n1_;have GW123:=n2_;have GE123:=n3_;clear n0_ n1_ n2_ n3_ hb hbox hg;have hcz3_0 : w2.cell? ⟨gb123,0,none⟩ = some (.int .u64 0):=(blk_cell BK123.out 0).trans rfl;have hcz3_1 : w2.cell? ⟨gb123,1,none⟩ = some (.int .u64 0):=(blk_cell BK123.out 1).trans rfl;have hfz3_0:=blk_frozen BK123.out 0;have hfz3_1:=blk_frozen BK123.out 1))
 refine bodyPost_ret (results_cell_row rfl _ _ gb123 87 #[.int .u64 0,.int .u64 a0] (0,0) _ rfl (by (with_reducible repeat (first | refine blk_drewN ?_ _ | refine blk_drew ?_ | refine blk_alloc ?_ _));refine blk_put (cs:=#[.int .u64 0,.int .u64 0]) ?_ 1 _ rfl;(with_reducible repeat (first | refine blk_drewN ?_ _ | refine blk_drew ?_ | refine blk_alloc ?_ _));refine blk_put (cs:=#[.int .u64 0,.int .u64 0]) ?_ 0 _ rfl;exact kA) Tryd.underlying87 rfl (by kernel_rfl)) rfl ?_
 exact ⟨by first | rfl | (simp [errW_none,errW_some] <;> rfl) | (simp [*,errW_none,errW_some] <;> rfl),bA⟩

def bits_Add64.f (a0 a1 a2 : Int) : Option (Int × Int):=
 if 0 ≤ a0 ∧ 0 ≤ a1 ∧ 0 ≤ a2 ∧ a2 ≤ 1 then some ((a0 + a1 + a2) % 18446744073709551616,(a0 + a1 + a2) / 18446744073709551616) else none
theorem bits_Add64.calls (a0 a1 a2 r1 r2 : Int) (w : World) (h : bits_Add64.f a0 a1 a2 = some (r1,r2)) :
  CallsX Tryd.prog 87 #[.int .u64 a0,.int .u64 a1,.int .u64 a2] w fun e w' => e = .returned (.tuple #[.int .u64 r1,.int .u64 r2]) ∧ Below w.heap.size w w':=by
 unfold bits_Add64.f at h
 split at h
 ·rename_i hb
  simp only [Option.some.injEq,Prod.mk.injEq] at h
  obtain ⟨rfl,rfl⟩:=h
  refine ⟨_,w,?_,rfl,Below.refl _ _⟩
  rw [run_callFunc_extern Tryd.func87 (by kernel_rfl) (by kernel_rfl) (by kernel_rfl) (e:=add64Entry) (by kernel_rfl),run_add64 a0 a1 a2 hb.1 hb.2.1 hb.2.2.1 hb.2.2.2]
  rfl
 ·cases h

def wide_greatest.f  : Option (Int × Int):=some (18446744073709551615,18446744073709551615)
set_option maxHeartbeats 8000000 in
set_option maxRecDepth 100000 in
theorem wide_greatest.calls  (r1 : Int) (r2 : Int) (w : World) (h : wide_greatest.f  = some (r1,r2)) :
  Calls Tryd.prog 88 #[] w fun e w' => e = .returned (.agg #[.int .u64 r1,.int .u64 r2]) ∧ Below w.heap.size w w':=by
 have hu87:=Tryd.underlying87
 have HB:=Aside0.mk (Below.refl w.heap.size w)
 have H : (some (18446744073709551615,18446744073709551615)) = some (r1,r2):=h
 clear h
 simp only [Option.some.injEq,Prod.mk.injEq] at H
 obtain ⟨rfl,rfl⟩:=H
 go_enter Tryd.func88,Tryd.ntmps88
 go_wp2_with (first | ((with_reducible refine gate_dst (N:=0) rfl ?_);refine bxA 0 #[.int .u64 0,.int .u64 0] 87 ?_;intro gb124 hg w1 hbox hb;have n0_:=Aside0.mk (below_step bA hb);have n1_:=Aside0.mk (hbox);have n2_:=Aside0.mk (gwA hg bA);have n3_:=Aside0.mk (gwA hg bA);clear HB;have HB:=n0_;have BK124:=n1_;have GW124:=n2_;have GE124:=n3_;clear n0_ n1_ n2_ n3_ hb hbox hg;have hcz2_0 : w1.cell? ⟨gb124,0,none⟩ = some (.int .u64 0):=(blk_cell BK124.out 0).trans rfl;have hcz2_1 : w1.cell? ⟨gb124,1,none⟩ = some (.int .u64 0):=(blk_cell BK124.out 1).trans rfl;have hfz2_0:=blk_frozen BK124.out 0;have hfz2_1:=blk_frozen BK124.out 1))
 refine bodyPost_ret (results_cell_row rfl _ _ gb124 87 #[.int .u64 18446744073709551615,.int .u64 18446744073709551615] (0,0) _ rfl (by (with_reducible repeat (first | refine blk_drewN ?_ _ | refine blk_drew ?_ | refine blk_alloc ?_ _));refine blk_put (cs:=#[.int .u64 18446744073709551615,.int .u64 0]) ?_ 1 _ rfl;(with_reducible repeat (first | refine blk_drewN ?_ _ | refine blk_drew ?_ | refine blk_alloc ?_ _));refine blk_put (cs:=#[.int .u64 0,.int .u64 0]) ?_ 0 _ rfl;exact kA) Tryd.underlying87 rfl (by kernel_rfl)) rfl ?_
 exact ⟨by first | rfl | (simp [errW_none,errW_some] <;> rfl) | (simp [*,errW_none,errW_some] <;> rfl),bA⟩

def wide_Add.f (a0_0 : Int) (a0_1 : Int) (a1_0 : Int) (a1_1 : Int) : Option (Int × Int × Bool):=(bits_Add64.f a0_1 a1_1 0).bind fun bt128 => ((bits_Add64.f a0_0 a1_0 bt128.2).bind fun bt130 => (if bt130.2 > 0 then ((wide_greatest.f).bind fun bt132 => (some (bt132.1,bt132.2,false))) else (some (bt130.1,bt128.1,true))))
set_option maxHeartbeats 8000000 in
set_option maxRecDepth 100000 in
theorem wide_Add.calls (a0_0 : Int) (a0_1 : Int) (a1_0 : Int) (a1_1 : Int) (r1 : Int) (r2 : Int) (r3 : Bool) (w : World) (h : wide_Add.f a0_0 a0_1 a1_0 a1_1 = some (r1,r2,r3)) :
  Calls Tryd.prog 62 #[.agg #[.int .u64 a0_0,.int .u64 a0_1],.agg #[.int .u64 a1_0,.int .u64 a1_1]] w fun e w' => e = .returned (.tuple #[.agg #[.int .u64 r1,.int .u64 r2],.bool r3]) ∧ Below w.heap.size w w':=by
 have hu87:=Tryd.underlying87
 have HB:=Aside0.mk (Below.refl w.heap.size w)
 have H : ((bits_Add64.f a0_1 a1_1 0).bind fun bt128 => ((bits_Add64.f a0_0 a1_0 bt128.2).bind fun bt130 => (if bt130.2 > 0 then ((wide_greatest.f).bind fun bt132 => (some (bt132.1,bt132.2,false))) else (some (bt130.1,bt128.1,true))))) = some (r1,r2,r3):=h
 clear h;replace H:=Option.bind_eq_some_iff.mp H;obtain ⟨⟨t128,t129⟩,A30,H⟩:=H;replace H : ((bits_Add64.f a0_0 a1_0 t129).bind fun bt130 => (if bt130.2 > 0 then ((wide_greatest.f).bind fun bt132 => (some (bt132.1,bt132.2,false))) else (some (bt130.1,t128,true)))) = some (r1,r2,r3):=H;have A3:=Aside0.mk A30;clear A30;replace H:=Option.bind_eq_some_iff.mp H;obtain ⟨⟨t130,t131⟩,A40,H⟩:=H;replace H : (if t131 > 0 then ((wide_greatest.f).bind fun bt132 => (some (bt132.1,bt132.2,false))) else (some (t130,t128,true))) = some (r1,r2,r3):=H;have A4:=Aside0.mk A40;clear A40
 by_cases c5 : t131 > 0
 ·rw [if_pos c5] at H
  have c5b0 : decide (0 < t131) = true:=decide_eq_true c5
  clear c5;replace H:=Option.bind_eq_some_iff.mp H;obtain ⟨⟨t132,t133⟩,A60,H⟩:=H;replace H : (some (t132,t133,false)) = some (r1,r2,r3):=H;have A6:=Aside0.mk A60;clear A60
  simp only [Option.some.injEq,Prod.mk.injEq] at H
  obtain ⟨rfl,rfl,rfl⟩:=H
  go_enter Tryd.func62,Tryd.ntmps62
  go_wp2_with (first | ((with_reducible refine gate_dst (N:=2) rfl ?_);refine bxA 2 #[.int .u64 a0_0,.int .u64 a0_1] 87 ?_;intro gb125 hg w7 hbox hb;have n0_:=Aside0.mk (below_step bA hb);have n1_:=Aside0.mk (hbox);have n2_:=Aside0.mk (gwA hg bA);have n3_:=Aside0.mk (gwA hg bA);clear HB;have HB:=n0_;have BK125:=n1_;have GW125:=n2_;have GE125:=n3_;clear n0_ n1_ n2_ n3_ hb hbox hg) | ((with_reducible refine gate_dst (N:=3) rfl ?_);refine bxA 3 #[.int .u64 a1_0,.int .u64 a1_1] 87 ?_;intro gb126 hg w8 hbox hb;have n0_:=Aside0.mk (blk_below (g:=gb125) kA hb);have n1_:=Aside0.mk (below_step bA hb);have n2_:=Aside0.mk (hbox);have n3_:=Aside0.mk (gwA hg bA);have n4_:=Aside0.mk (gwA hg bA);have n5_:=Aside0.mk (neA (g:=gb125) hg kA);have n6_:=Aside0.mk (neB (g:=gb125) hg kA);clear BK125 HB;have BK125:=n0_;have HB:=n1_;have BK126:=n2_;have GW126:=n3_;have GE126:=n4_;have NB125_126:=n5_;have NB126_125:=n6_;clear n0_ n1_ n2_ n3_ n4_ n5_ n6_ hb hbox hg) | ((with_reducible refine gate_dst (N:=4) rfl ?_);refine bxA 4 #[.int .u64 0,.int .u64 0] 87 ?_;intro gb127 hg w9 hbox hb;have n0_:=Aside0.mk (blk_below (g:=gb125) kA hb);have n1_:=Aside0.mk (blk_below (g:=gb126) kA hb);have n2_:=Aside0.mk (below_step bA hb);have n3_:=Aside0.mk (hbox);have n4_:=Aside0.mk (gwA hg bA);have n5_:=Aside0.mk (gwA hg bA);have n6_:=Aside0.mk (neA (g:=gb125) hg kA);have n7_:=Aside0.mk (neB (g:=gb125) hg kA);have n8_:=Aside0.mk (neA (g:=gb126) hg kA);have n9_:=Aside0.mk (neB (g:=gb126) hg kA);clear BK125 BK126 HB;have BK125:=n0_;have BK126:=n1_;have HB:=n2_;have BK127:=n3_;have GW127:=n4_;have GE127:=n5_;have NB125_127:=n6_;have NB127_125:=n7_;have NB126_127:=n8_;have NB127_126:=n9_;clear n0_ n1_ n2_ n3_ n4_ n5_ n6_ n7_ n8_ n9_ hb hbox hg;have hnb10:=NB125_126.out;have hnc10:=NB126_125.out;have hnb11:=NB125_127.out;have hnc11:=NB127_125.out;have hcz12_0 : w9.cell? ⟨gb125,0,none⟩ = some (.int .u64 a0_0):=(blk_cell BK125.out 0).trans rfl;have hcz12_1 : w9.cell? ⟨gb125,1,none⟩ = some (.int .u64 a0_1):=(blk_cell BK125.out 1).trans rfl;have hfz12_0:=blk_frozen BK125.out 0;have hfz12_1:=blk_frozen BK125.out 1;have hnb13:=NB126_127.out;have hnc13:=NB127_126.out;have hcz14_0 : w9.cell? ⟨gb126,0,none⟩ = some (.int .u64 a1_0):=(blk_cell BK126.out 0).trans rfl;have hcz14_1 : w9.cell? ⟨gb126,1,none⟩ = some (.int .u64 a1_1):=(blk_cell BK126.out 1).trans rfl;have hfz14_0:=blk_frozen BK126.out 0;have hfz14_1:=blk_frozen BK126.out 1) | ((with_reducible refine gate_callee (f:=87) rfl ?_);refine goesX_ (some 14) rfl rfl #[.int .u64 a0_1,.int .u64 a1_1,.int .u64 0] rfl aA ?_;(with_reducible refine (bits_Add64.calls a0_1 a1_1 0 t128 t129 _ A3.out).mono ?_);rintro e w15 ⟨rfl,hb⟩;refine ⟨_,rfl,?_⟩;have n0_:=Aside0.mk (blk_below (g:=gb125) kA hb);have n1_:=Aside0.mk (blk_below (g:=gb126) kA hb);have n2_:=Aside0.mk (blk_below (g:=gb127) kA hb);have n3_:=Aside0.mk (below_step bA hb);clear BK125 BK126 BK127 HB;have BK125:=n0_;have BK126:=n1_;have BK127:=n2_;have HB:=n3_;clear n0_ n1_ n2_ n3_;(try clear hb);have hcz16_0 : w15.cell? ⟨gb125,0,none⟩ = some (.int .u64 a0_0):=(blk_cell BK125.out 0).trans rfl;have hcz16_1 : w15.cell? ⟨gb125,1,none⟩ = some (.int .u64 a0_1):=(blk_cell BK125.out 1).trans rfl;have hfz16_0:=blk_frozen BK125.out 0;have hfz16_1:=blk_frozen BK125.out 1;have hcz17_0 : w15.cell? ⟨gb126,0,none⟩ = some (.int .u64 a1_0):=(blk_cell BK126.out 0).trans rfl;have hcz17_1 : w15.cell? ⟨gb126,1,none⟩ = some (.int .u64 a1_1):=(blk_cell BK126.out 1).trans rfl;have hfz17_0:=blk_frozen BK126.out 0;have hfz17_1:=blk_frozen BK126.out 1) | ((with_reducible refine gate_callee (f:=87) rfl ?_);refine goesX_ (some 23) rfl rfl #[.int .u64 a0_0,.int .u64 a1_0,.int .u64 t129] rfl aA ?_;(with_reducible refine (bits_Add64.calls a0_0 a1_0 t129 t130 t131 _ A4.out).mono ?_);rintro e w18 ⟨rfl,hb⟩;refine ⟨_,rfl,?_⟩;have n0_:=Aside0.mk (blk_below (g:=gb125) kA hb);have n1_:=Aside0.mk (blk_below (g:=gb126) kA hb);have n2_:=Aside0.mk (blk_below (g:=gb127) kA hb);have n3_:=Aside0.mk (below_step bA hb);clear BK125 BK126 BK127 HB;have BK125:=n0_;have BK126:=n1_;have BK127:=n2_;have HB:=n3_;clear n0_ n1_ n2_ n3_;(try clear hb)) | ((with_reducible refine gate_callee (f:=88) rfl ?_);refine goesL_ (some 28) rfl rfl Tryd.func88 (by kernel_rfl) rfl #[] rfl aA ?_;(with_reducible refine (wide_greatest.calls  t132 t133 _ A6.out).mono ?_);rintro e w19 ⟨rfl,hb⟩;refine ⟨_,rfl,?_⟩;have n0_:=Aside0.mk (blk_below (g:=gb125) kA hb);have n1_:=Aside0.mk (blk_below (g:=gb126) kA hb);have n2_:=Aside0.mk (blk_below (g:=gb127) kA hb);have n3_:=Aside0.mk (below_step bA hb);clear BK125 BK126 BK127 HB;have BK125:=n0_;have BK126:=n1_;have BK127:=n2_;have HB:=n3_;clear n0_ n1_ n2_ n3_;(try clear hb);have hcz20_0 : w19.cell? ⟨gb127,0,none⟩ = some (.int .u64 0):=(blk_cell BK127.out 0).trans rfl;have hcz20_1 : w19.cell? ⟨gb127,1,none⟩ = some (.int .u64 0):=(blk_cell BK127.out 1).trans rfl;have hfz20_0:=blk_frozen BK127.out 0;have hfz20_1:=blk_frozen BK127.out 1))
  refine bodyPost_ret (results_ct rfl _ _ gb127 87 #[.int .u64 t132,.int .u64 t133] (0,0) _ rfl (by (with_reducible repeat (first | refine blk_drewN ?_ _ | refine blk_drew ?_ | refine blk_alloc ?_ _));refine blk_put (cs:=#[.int .u64 t132,.int .u64 0]) ?_ 1 _ rfl;(with_reducible repeat (first | refine blk_drewN ?_ _ | refine blk_drew ?_ | refine blk_alloc ?_ _));refine blk_put (cs:=#[.int .u64 0,.int .u64 0]) ?_ 0 _ rfl;exact kA) Tryd.underlying87 rfl (by kernel_rfl)) rfl ?_
  exact ⟨by first | rfl | (simp [errW_none,errW_some] <;> rfl) | (simp [*,errW_none,errW_some] <;> rfl),bA⟩
 ·rw [if_neg c5] at H
  have c5b0 : decide (0 < t131) = false:=decide_eq_false c5
  clear c5
  simp only [Option.some.injEq,Prod.mk.injEq] at H
  obtain ⟨rfl,rfl,rfl⟩:=H
  go_enter Tryd.func62,Tryd.ntmps62
  go_wp2_with (first | ((with_reducible refine gate_dst (N:=2) rfl ?_);refine bxA 2 #[.int .u64 a0_0,.int .u64 a0_1] 87 ?_;intro gb125 hg w21 hbox hb;have n0_:=Aside0.mk (below_step bA hb);have n1_:=Aside0.mk (hbox);have n2_:=Aside0.mk (gwA hg bA);have n3_:=Aside0.mk (gwA hg bA);clear HB;have HB:=n0_;have BK125:=n1_;have GW125:=n2_;have GE125:=n3_;clear n0_ n1_ n2_ n3_ hb hbox hg) | ((with_reducible refine gate_dst (N:=3) rfl ?_);refine bxA 3 #[.int .u64 a1_0,.int .u64 a1_1] 87 ?_;intro gb126 hg w22 hbox hb;have n0_:=Aside0.mk (blk_below (g:=gb125) kA hb);have n1_:=Aside0.mk (below_step bA hb);have n2_:=Aside0.mk (hbox);have n3_:=Aside0.mk (gwA hg bA);have n4_:=Aside0.mk (gwA hg bA);have n5_:=Aside0.mk (neA (g:=gb125) hg kA);have n6_:=Aside0.mk (neB (g:=gb125) hg kA);clear BK125 HB;have BK125:=n0_;have HB:=n1_;have BK126:=n2_;have GW126:=n3_;have GE126:=n4_;have NB125_126:=n5_;have NB126_125:=n6_;clear n0_ n1_ n2_ n3_ n4_ n5_ n6_ hb hbox hg) | ((with_reducible refine gate_dst (N:=4) rfl ?_);refine bxA 4 #[.int .u64 0,.int .u64 0] 87 ?_;intro gb127 hg w23 hbox hb;have n0_:=Aside0.mk (blk_below (g:=gb125) kA hb);have n1_:=Aside0.mk (blk_below (g:=gb126) kA hb);have n2_:=Aside0.mk (below_step bA hb);have n3_:=Aside0.mk (hbox);have n4_:=Aside0.mk (gwA hg bA);have n5_:=Aside0.mk (gwA hg bA);have n6_:=Aside0.mk (neA (g:=gb125) hg kA);have n7_:=Aside0.mk (neB (g:=gb125) hg kA);have n8_:=Aside0.mk (neA (g:=gb126) hg kA);have n9_:=Aside0.mk (neB (g:=gb126) hg kA);clear BK125 BK126 HB;have BK125:=n0_;have BK126:=n1_;have HB:=n2_;have BK127:=n3_;have GW127:=n4_;have GE127:=n5_;have NB125_127:=n6_;have NB127_125:=n7_;have NB126_127:=n8_;have NB127_126:=n9_;clear n0_ n1_ n2_ n3_ n4_ n5_ n6_ n7_ n8_ n9_ hb hbox hg;have hnb24:=NB125_126.out;have hnc24:=NB126_125.out;have hnb25:=NB125_127.out;have hnc25:=NB127_125.out;have hcz26_0 : w23.cell? ⟨gb125,0,none⟩ = some (.int .u64 a0_0):=(blk_cell BK125.out 0).trans rfl;have hcz26_1 : w23.cell? ⟨gb125,1,none⟩ = some (.int .u64 a0_1):=(blk_cell BK125.out 1).trans rfl;have hfz26_0:=blk_frozen BK125.out 0;have hfz26_1:=blk_frozen BK125.out 1;have hnb27:=NB126_127.out;have hnc27:=NB127_126.out;have hcz28_0 : w23.cell? ⟨gb126,0,none⟩ = some (.int .u64 a1_0):=(blk_cell BK126.out 0).trans rfl;have hcz28_1 : w23.cell? ⟨gb126,1,none⟩ = some (.int .u64 a1_1):=(blk_cell BK126.out 1).trans rfl;have hfz28_0:=blk_frozen BK126.out 0;have hfz28_1:=blk_frozen BK126.out 1) | ((with_reducible refine gate_callee (f:=87) rfl ?_);refine goesX_ (some 14) rfl rfl #[.int .u64 a0_1,.int .u64 a1_1,.int .u64 0] rfl aA ?_;(with_reducible refine (bits_Add64.calls a0_1 a1_1 0 t128 t129 _ A3.out).mono ?_);rintro e w29 ⟨rfl,hb⟩;refine ⟨_,rfl,?_⟩;have n0_:=Aside0.mk (blk_below (g:=gb125) kA hb);have n1_:=Aside0.mk (blk_below (g:=gb126) kA hb);have n2_:=Aside0.mk (blk_below (g:=gb127) kA hb);have n3_:=Aside0.mk (below_step bA hb);clear BK125 BK126 BK127 HB;have BK125:=n0_;have BK126:=n1_;have BK127:=n2_;have HB:=n3_;clear n0_ n1_ n2_ n3_;(try clear hb);have hcz30_0 : w29.cell? ⟨gb125,0,none⟩ = some (.int .u64 a0_0):=(blk_cell BK125.out 0).trans rfl;have hcz30_1 : w29.cell? ⟨gb125,1,none⟩ = some (.int .u64 a0_1):=(blk_cell BK125.out 1).trans rfl;have hfz30_0:=blk_frozen BK125.out 0;have hfz30_1:=blk_frozen BK125.out 1;have hcz31_0 : w29.cell? ⟨gb126,0,none⟩ = some (.int .u64 a1_0):=(blk_cell BK126.out 0).trans rfl;have hcz31_1 : w29.cell? ⟨gb126,1,none⟩ = some (.int .u64 a1_1):=(blk_cell BK126.out 1).trans rfl;have hfz31_0:=blk_frozen BK126.out 0;have hfz31_1:=blk_frozen BK126.out 1) | ((with_reducible refine gate_callee (f:=87) rfl ?_);refine goesX_ (some 23) rfl rfl #[.int .u64 a0_0,.int .u64 a1_0,.int .u64 t129] rfl aA ?_;(with_reducible refine (bits_Add64.calls a0_0 a1_0 t129 t130 t131 _ A4.out).mono ?_);rintro e w32 ⟨rfl,hb⟩;refine ⟨_,rfl,?_⟩;have n0_:=Aside0.mk (blk_below (g:=gb125) kA hb);have n1_:=Aside0.mk (blk_below (g:=gb126) kA hb);have n2_:=Aside0.mk (blk_below (g:=gb127) kA hb);have n3_:=Aside0.mk (below_step bA hb);clear BK125 BK126 BK127 HB;have BK125:=n0_;have BK126:=n1_;have BK127:=n2_;have HB:=n3_;clear n0_ n1_ n2_ n3_;(try clear hb);have hcz33_0 : w32.cell? ⟨gb127,0,none⟩ = some (.int .u64 0):=(blk_cell BK127.out 0).trans rfl;have hcz33_1 : w32.cell? ⟨gb127,1,none⟩ = some (.int .u64 0):=(blk_cell BK127.out 1).trans rfl;have hfz33_0:=blk_frozen BK127.out 0;have hfz33_1:=blk_frozen BK127.out 1))
  refine bodyPost_ret (results_ct rfl _ _ gb127 87 #[.int .u64 t130,.int .u64 t128] (0,0) _ rfl (by (with_reducible repeat (first | refine blk_drewN ?_ _ | refine blk_drew ?_ | refine blk_alloc ?_ _));refine blk_put (cs:=#[.int .u64 t130,.int .u64 0]) ?_ 1 _ rfl;(with_reducible repeat (first | refine blk_drewN ?_ _ | refine blk_drew ?_ | refine blk_alloc ?_ _));refine blk_put (cs:=#[.int .u64 0,.int .u64 0]) ?_ 0 _ rfl;exact kA) Tryd.underlying87 rfl (by kernel_rfl)) rfl ?_
  exact ⟨by first | rfl | (simp [errW_none,errW_some] <;> rfl) | (simp [*,errW_none,errW_some] <;> rfl),bA⟩

def bits_Mul64.f (a0 : Int) (a1 : Int) : Option (Int × Int):=some (IntKind.u64.wrap ((IntKind.u64.wrap ((IntKind.u64.wrap ((a0 / 4294967296) * (a1 / 4294967296))) + ((IntKind.u64.wrap ((IntKind.u64.wrap ((a0 / 4294967296) * (Go.bits .and .u64 a1 4294967295))) + ((IntKind.u64.wrap ((Go.bits .and .u64 a0 4294967295) * (Go.bits .and .u64 a1 4294967295))) / 4294967296))) / 4294967296))) + ((IntKind.u64.wrap ((Go.bits .and .u64 (IntKind.u64.wrap ((IntKind.u64.wrap ((a0 / 4294967296) * (Go.bits .and .u64 a1 4294967295))) + ((IntKind.u64.wrap ((Go.bits .and .u64 a0 4294967295) * (Go.bits .and .u64 a1 4294967295))) / 4294967296))) 4294967295) + (IntKind.u64.wrap ((Go.bits .and .u64 a0 4294967295) * (a1 / 4294967296))))) / 4294967296)),IntKind.u64.wrap (a0 * a1))
set_option maxHeartbeats 8000000 in
set_option maxRecDepth 100000 in
theorem bits_Mul64.calls (a0 : Int) (a1 : Int) (r1 : Int) (r2 : Int) (w : World) (h : bits_Mul64.f a0 a1 = some (r1,r2)) :
  Calls Tryd.prog 95 #[.int .u64 a0,.int .u64 a1] w fun e w' => e = .returned (.tuple #[.int .u64 r1,.int .u64 r2]) ∧ Drawn0 w w':=by
 have H : (some (IntKind.u64.wrap ((IntKind.u64.wrap ((IntKind.u64.wrap ((a0 / 4294967296) * (a1 / 4294967296))) + ((IntKind.u64.wrap ((IntKind.u64.wrap ((a0 / 4294967296) * (Go.bits .and .u64 a1 4294967295))) + ((IntKind.u64.wrap ((Go.bits .and .u64 a0 4294967295) * (Go.bits .and .u64 a1 4294967295))) / 4294967296))) / 4294967296))) + ((IntKind.u64.wrap ((Go.bits .and .u64 (IntKind.u64.wrap ((IntKind.u64.wrap ((a0 / 4294967296) * (Go.bits .and .u64 a1 4294967295))) + ((IntKind.u64.wrap ((Go.bits .and .u64 a0 4294967295) * (Go.bits .and .u64 a1 4294967295))) / 4294967296))) 4294967295) + (IntKind.u64.wrap ((Go.bits .and .u64 a0 4294967295) * (a1 / 4294967296))))) / 4294967296)),IntKind.u64.wrap (a0 * a1))) = some (r1,r2):=h
 clear h
 simp only [Option.some.injEq,Prod.mk.injEq] at H
 obtain ⟨rfl,rfl⟩:=H
 go_enter Tryd.func95,Tryd.ntmps95
 go_wp2
 go_ret2
 exact ⟨by first | rfl | (simp;done) | (simp [*];done),by repeat (first | exact Drawn0.refl _ | apply Drawn0.step)⟩

def wide_Mul.f (a0 : Int) (a1 : Int) : Option (Int × Int):=(bits_Mul64.f a0 a1).bind fun bt135 => (some (bt135.1,bt135.2))
set_option maxHeartbeats 8000000 in
set_option maxRecDepth 100000 in
theorem wide_Mul.calls (a0 : Int) (a1 : Int) (r1 : Int) (r2 : Int) (w : World) (h : wide_Mul.f a0 a1 = some (r1,r2)) :
  Calls Tryd.prog 73 #[.int .u64 a0,.int .u64 a1] w fun e w' => e = .returned (.agg #[.int .u64 r1,.int .u64 r2]) ∧ Below w.heap.size w w':=by
 have hu87:=Tryd.underlying87
 have HB:=Aside0.mk (Below.refl w.heap.size w)
 have H : ((bits_Mul64.f a0 a1).bind fun bt135 => (some (bt135.1,bt135.2))) = some (r1,r2):=h
 clear h;replace H:=Option.bind_eq_some_iff.mp H;obtain ⟨⟨t135,t136⟩,A30,H⟩:=H;replace H : (some (t135,t136)) = some (r1,r2):=H;have A3:=Aside0.mk A30;clear A30
 simp only [Option.some.injEq,Prod.mk.injEq] at H
 obtain ⟨rfl,rfl⟩:=H
 go_enter Tryd.func73,Tryd.ntmps73
 go_wp2_with (first | ((with_reducible refine gate_dst (N:=4) rfl ?_);refine bxA 4 #[.int .u64 0,.int .u64 0] 87 ?_;intro gb134 hg w4 hbox hb;have n0_:=Aside0.mk (below_step bA hb);have n1_:=Aside0.mk (hbox);have n2_:=Aside0.mk (gwA hg bA);have n3_:=Aside0.mk (gwA hg bA);clear HB;have HB:=n0_;have BK134:=n1_;have GW134:=n2_;have GE134:=n3_;clear n0_ n1_ n2_ n3_ hb hbox hg) | ((with_reducible refine gate_callee (f:=95) rfl ?_);refine goesL_ (some 10) rfl rfl Tryd.func95 (by kernel_rfl) rfl #[.int .u64 a0,.int .u64 a1] rfl aA ?_;(with_reducible refine (bits_Mul64.calls a0 a1 t135 t136 _ A3.out).mono ?_);rintro e w' ⟨rfl,⟨nd,rfl⟩⟩;refine ⟨_,rfl,?_⟩;(try (rw [drewN_self w4];generalize hq_ : World.drewN w4 _ = w4;have n0_ : Aside0 (w4.heap[gb134]? = some (.cells #[.int .u64 0,.int .u64 0] 87 (0,0))):=⟨by rw [← hq_];exact kA⟩;have n1_ : Aside0 (Below w.heap.size w w4):=⟨by rw [← hq_];exact bA⟩;clear BK134 HB hq_;have BK134:=n0_;have HB:=n1_;clear n0_ n1_));have hcz5_0 : w4.cell? ⟨gb134,0,none⟩ = some (.int .u64 0):=(blk_cell BK134.out 0).trans rfl;have hcz5_1 : w4.cell? ⟨gb134,1,none⟩ = some (.int .u64 0):=(blk_cell BK134.out 1).trans rfl;have hfz5_0:=blk_frozen BK134.out 0;have hfz5_1:=blk_frozen BK134.out 1))
 refine bodyPost_ret (results_cell_row rfl _ _ gb134 87 #[.int .u64 t135,.int .u64 t136] (0,0) _ rfl (by (with_reducible repeat (first | refine blk_drewN ?_ _ | refine blk_drew ?_ | refine blk_alloc ?_ _));refine blk_put (cs:=#[.int .u64 t135,.int .u64 0]) ?_ 1 _ rfl;(with_reducible repeat (first | refine blk_drewN ?_ _ | refine blk_drew ?_ | refine blk_alloc ?_ _));refine blk_put (cs:=#[.int .u64 0,.int .u64 0]) ?_ 0 _ rfl;exact kA) Tryd.underlying87 rfl (by kernel_rfl)) rfl ?_
 exact ⟨by first | rfl | (simp [errW_none,errW_some] <;> rfl) | (simp [*,errW_none,errW_some] <;> rfl),bA⟩

end Go.Proofs.YtgjjfnjnjnbfgaaDoor.GLG
