/- The texts of this claim, put together by program, what it does not name left out: part 0. Conditions: each theorem's own. -/
import Derived.Below
import Derived.Deep.Draws
import Derived.Deep.AppendLies
import Derived.Maps.AppendAt
import Derived.OwnWalk
import Derived.Laws.MakeOwn
import Derived.Laws.OwnMore
import Derived.Deep.OwnRows
import Derived.Tactics
import Derived.Laws.Slices
import Derived.WalkKit
import Derived.KernelRfl
import Derived.RowKit3
import Derived.Deep.LoopGhost
import Derived.Deep.QuietTactic
import Derived.BigQuiet
import Derived.WideLaws
import Derived.Deep.RegionHeld3
import Derived.Deep.RegionLaw
import Derived.Laws.Rows
import Derived.ArgAppend
import Derived.Laws.IdiomCopy
import Derived.OrdersHeld
import Derived.Laws.BitsLemmas
import Derived.RowKit
import Derived.RegionTactic
import Derived.BigRegion
import Derived.ChangeAlike
import Derived.LoopN
import Derived.Laws.CopyOwn
import Derived.Outline
import Derived.Laws.BytesArg
import Derived.Lib.ConvBytes
import Derived.Deep.DeepCutAuto
import Derived.Deep.CutBlock
import Derived.Lib.AppendStr
import Derived.Laws.StructEq
import Derived.SizedLaws
import Derived.ChangeSlices
import Derived.Maps.OwnSet
import Derived.StringKeys
import Derived.WalkMore
import Derived.ScopeJumps
import Derived.WalkSpells
import Derived.Deep.Slices
import Derived.Deep.Fields
import Derived.ChangeSame
import Derived.ProofKit
import Derived.LaidMore
import Derived.OpenShut
import Derived.ChangeArms
import Derived.Stop.Joined
import Derived.ShutString
import Derived.ChangeOld
import Derived.SevenTiedAt
import Derived.Test.YtodibpddlibneaaGreatDoorRows
import Derived.Test.YtodibpddlibneaaGreatDoorTie
import Derived.Test.YtodibpddlibneaaGreatDoorCards
import Derived.Test.YtodibpddlibneaaGreatDoorProg
set_option maxHeartbeats 8000000
set_option maxRecDepth 100000
set_option linter.unusedVariables false
set_option linter.unusedSimpArgs false
namespace Go.Proofs.YtodibpddlibneaaGreatDoorW.PrintWords
open Go.RowKit
structure Aside0 (p : Prop) : Prop where mk :: (out : p)
structure Drawn0 (w w' : World) : Prop where mk :: (out : ∃ n,w' = w.drewN n)
theorem Drawn0.refl (w : World) : Drawn0 w w:=⟨⟨0,rfl⟩⟩
theorem Drawn0.step {w w' : World} (h : Drawn0 w w') (n : Nat) : Drawn0 w (w'.drewN n):=by
  obtain ⟨m,rfl⟩:=h;exact ⟨⟨m + n,World.drewN_drewN ..⟩⟩
theorem Drawn0.grown {w w' : World} (h : Drawn0 w w') : Grown w w':=by
  obtain ⟨n,rfl⟩:=h
  induction n with
  | zero => exact Grown.refl _
  | succ n ih => rw [← World.drew_drewN];exact Grown.drew ih
theorem Drawn0.below {w w' : World} (h : Drawn0 w w') : Below w.heap.size w w':=by
  obtain ⟨n,rfl⟩:=h
  induction n with
  | zero => exact Below.refl _ _
  | succ n ih => rw [← World.drew_drewN];exact ih.drew
def rd (xs : List Int) (i : Int) : Int:=xs.getD i.toNat 0
def bt (s : ByteArray) (i : Int) : Int:=if h : i.toNat < s.size then ((s[i.toNat]'h).toNat : Int) else 0
theorem bt_at (s : ByteArray) (i : Int) : ∀ h : i.toNat < s.size,((s[i.toNat]'h).toNat : Int) = bt s i:=fun h => by simp [bt,h]
theorem bt_range (s : ByteArray) (i : Int) : 0 ≤ bt s i ∧ bt s i ≤ 255:=by
  unfold bt;split
  · rename_i h
    have:=(s[i.toNat]'h).toNat_lt;omega
  · omega
def nums (k : IntKind) (xs : List Int) : List Value:=xs.map fun x => .int k x
theorem below_alloc {w W : World} (h : Below w.heap.size w W) (o : Obj) : Below w.heap.size w (W.alloc o):=h.alloc h.size o
theorem below_drew {B : Nat} {w W : World} (h : Below B w W) : Below B w W.drew:=⟨h.os,h.tape,h.output,h.size,h.block⟩
theorem pw_below_drewN {B : Nat} {w W : World} (h : Below B w W) (n : Nat) : Below B w (W.drewN n):=⟨h.os,h.tape,h.output,h.size,h.block⟩
theorem below_then {B : Nat} {w w1 w2 : World} (h : Below B w w1) (hB : B ≤ w1.heap.size) (k : Below w1.heap.size w1 w2) : Below B w w2:=
  h.trans ⟨k.os,k.tape,k.output,k.size,fun i hi => k.block i (Nat.lt_of_lt_of_le hi hB)⟩
theorem grown_of_below {w w1 : World} (h : Below w.heap.size w w1) (row : Option Nat) : w.grownBy w1 row:=⟨h.os,h.tape,h.output,h.size,fun i hi _ => h.block i hi⟩
theorem pw_cell_below {w w1 : World} (h : Below w.heap.size w w1) {a : Addr} {v : Value} (hc : w.cell? a = some v) : w1.cell? a = some v:=(h.cell (World.block_lt_of_cell? w a hc)).trans hc
theorem add_plain (g j : Nat) : (⟨g,0,none⟩ : Addr).add j = ⟨g,j,none⟩:=by unfold Addr.add;split <;> simp_all
def ReadsInt (w : World) (k : IntKind) (A : Option Addr) (n : Nat) (xs : List Int) : Prop:=
  xs.length = n ∧ n ≤ 9223372036854775807 ∧ (0 < n → ∃ ad,A = some ad ∧ ∀ j,j < n → w.cell? (ad.add j) = some (.int k (xs.getD j 0)))
theorem ReadsInt.at_ {w : World} {k : IntKind} {A : Option Addr} {n : Nat} {xs : List Int} (h : ReadsInt w k A n xs) (i : Int) (h0 : 0 ≤ i) (h1 : i < n) : ∃ ad,A = some ad ∧ w.cell? (ad.add i.toNat) = some (.int k (rd xs i)):=by
  obtain ⟨ad,e,hc⟩:=h.2.2 (by omega);exact ⟨ad,e,hc _ (by omega)⟩
theorem ReadsInt.below {w w1 : World} {k : IntKind} {A : Option Addr} {n : Nat} {xs : List Int} (h : ReadsInt w k A n xs) (hb : Below w.heap.size w w1) : ReadsInt w1 k A n xs:=
  ⟨h.1,h.2.1,fun hn => by
    obtain ⟨ad,e,hc⟩:=h.2.2 hn;exact ⟨ad,e,fun j hj => pw_cell_below hb (hc j hj)⟩⟩
theorem own_nil (W : World) (base : Nat) (e : TypeId) (size : Nat) : W.ownsRow base e size (.slice none 0 0) 0 []:=⟨by simp,.inl ⟨rfl,rfl⟩⟩
theorem own_base {w : World} {base : Nat} {e : TypeId} {size n : Nat} {v : Value} {xs : List Value} (h : w.ownsRow base e size v n xs) (k : Nat) (hk : v.ownBlock = some k) : base ≤ k:=by
  rcases h.2 with ⟨rfl,_⟩ | ⟨g,cap,cur,rfl,hb,_⟩
  · simp [Value.ownBlock] at hk
  · have : g = k:=by simpa [Value.ownBlock] using hk
    omega
theorem own_lt {w : World} {base : Nat} {e : TypeId} {size n : Nat} {v : Value} {xs : List Value} (h : w.ownsRow base e size v n xs) (k : Nat) (hk : v.ownBlock = some k) : k < w.heap.size:=by
  rcases h.2 with ⟨rfl,_⟩ | ⟨g,cap,cur,rfl,hb,hh,_⟩
  · simp [Value.ownBlock] at hk
  · have : g = k:=by simpa [Value.ownBlock] using hk
    subst this;exact (Array.getElem?_eq_some_iff.1 hh).1
theorem pw_own_below {w w1 : World} {base : Nat} {e : TypeId} {size n : Nat} {v : Value} {xs : List Value} (h : w.ownsRow base e size v n xs) (hb : Below w.heap.size w w1) : w1.ownsRow base e size v n xs:=
  h.kept (grown_of_below hb none) (by cases v.ownBlock <;> simp)
section
variable {P : Program} {ops : Array Oper} {rest : List Oper} {o : Oper} {a : Act} {Q : Exit → Act → World → Prop}
end
section
variable {P : Program}
end
theorem own_at {W : World} {base g n cap : Nat} {e : TypeId} {k : IntKind} {xs : List Int} (h : W.ownsRow base e 1 (.slice (some ⟨g,0,none⟩) n cap) n (nums k xs)) (i : Int) (h0 : 0 ≤ i) (h1 : i < n) :
    W.cell? ⟨g,i.toNat,none⟩ = some (.int k (rd xs i)) ∧ W.frozen? ⟨g,i.toNat,none⟩ = false:=by
  have hl : xs.length = n:=by have:=h.1;simp [nums] at this;exact this
  constructor
  · have hc:=h.cells (g:=g) rfl i.toNat (.int k (rd xs i)) (by simp [nums,rd,List.getElem?_eq_getElem (show i.toNat < xs.length by omega),List.getD_eq_getElem?_getD])
    rwa [add_plain] at hc
  · rcases h.2 with ⟨h',_⟩ | ⟨g',cap',cur,h',_,hh,_⟩
    · cases h'
    · have : g = g':=by injection h' with h';injection h' with h';injection h' with h'
      subst this;simp [World.frozen?,hh]
theorem own_store {W : World} {base g n cap : Nat} {e : TypeId} {k : IntKind} {xs : List Int} (h : W.ownsRow base e 1 (.slice (some ⟨g,0,none⟩) n cap) n (nums k xs)) (i x : Int) :
    (W.setCell ⟨g,i.toNat,none⟩ (.int k x)).ownsRow base e 1 (.slice (some ⟨g,0,none⟩) n cap) n (nums k (xs.set i.toNat x)) ∧ W.grownBy (W.setCell ⟨g,i.toNat,none⟩ (.int k x)) (some g):=by
  have hs:=h.stored i.toNat (.int k x);have he : (nums k xs).set i.toNat (.int k x) = nums k (xs.set i.toNat x):=by simp [nums,List.map_set]
  rwa [he] at hs
def bytesOf (s : ByteArray) : List Int:=s.data.toList.map fun b => (b.toNat : Int)
theorem data_length (s : ByteArray) : s.data.toList.length = s.size:=by rw [Array.length_toList];rfl
theorem bytesOf_length (s : ByteArray) : (bytesOf s).length = s.size:=by rw [bytesOf,List.length_map,data_length]
theorem bytes_reads (W : World) (e : TypeId) (s : ByteArray) (hs : s.size ≤ 9223372036854775807) : ReadsInt (Lib.bytesWorld W e s) .u8 (some ⟨W.heap.size,0,none⟩) s.size (bytesOf s):=by
  refine ⟨bytesOf_length s,hs,fun _ => ⟨_,rfl,fun j hj => ?_⟩⟩;rw [add_plain,Lib.bytesWorld_cell W e s j hj];have h' : j < s.data.toList.length:=by rw [data_length];exact hj
  simp [bytesOf,List.getD_eq_getElem?_getD,List.getElem?_eq_getElem h']
theorem bytes_below {B : Nat} {w W : World} (h : Below B w W) (hB : B ≤ W.heap.size) (e : TypeId) (s : ByteArray) : Below B w (Lib.bytesWorld W e s):=
  h.trans ⟨rfl,rfl,rfl,by rw [Lib.bytesWorld_size];omega,fun i hi => Lib.bytesWorld_at_old W e s i (by omega)⟩
theorem ReadsInt.take_ {w : World} {k : IntKind} {A : Option Addr} {n : Nat} {xs : List Int} (h : ReadsInt w k A n xs) (i : Nat) (hi : i ≤ n) : ReadsInt w k A i (xs.take i):=by
  refine ⟨by rw [List.length_take,h.1];omega,by have:=h.2.1;omega,fun hp => ?_⟩;obtain ⟨ad,e,hc⟩:=h.2.2 (by omega);refine ⟨ad,e,fun j hj => ?_⟩;rw [hc j (by omega)];simp [List.getD_eq_getElem?_getD,hj]
theorem ReadsInt.drop_ {w : World} {k : IntKind} {A : Option Addr} {n c : Nat} {xs : List Int} (h : ReadsInt w k A n xs) (i : Nat) (hi : i ≤ n) (hc : n ≤ c) : ReadsInt w k (if c = i then A else A.map (·.add i)) (n - i) (xs.drop i):=by
  refine ⟨by rw [List.length_drop,h.1],by have:=h.2.1;omega,fun hp => ?_⟩;obtain ⟨ad,rfl,hcell⟩:=h.2.2 (by omega);rw [if_neg (by omega)];refine ⟨ad.add i,rfl,fun j hj => ?_⟩;have ha : (ad.add i).add j = ad.add (i + j):=by
    unfold Addr.add
    by_cases h1 : i = 0 <;> by_cases h2 : j = 0 <;> simp [h1,h2,Nat.add_assoc]
  rw [ha,hcell (i + j) (by omega)];simp [List.getD_eq_getElem?_getD,List.getElem?_drop]
def LeO {α : Type} (a b : Option α) : Prop:=∀ r,a = some r → b = some r
theorem LeO.refl {α : Type} (a : Option α) : LeO a a:=fun _ h => h
theorem LeO.none {α : Type} (b : Option α) : LeO Option.none b:=fun _ h => by cases h
theorem LeO.trans {α : Type} {a b c : Option α} (h : LeO a b) (k : LeO b c) : LeO a c:=fun r hr => k r (h r hr)
theorem LeO.ite {α : Type} {c : Prop} [Decidable c] {a a' b b' : Option α} (h : LeO a a') (k : LeO b b') : LeO (if c then a else b) (if c then a' else b'):=by
  split
  · exact h
  · exact k
theorem LeO.bind {α β : Type} {a a' : Option α} {f f' : α → Option β} (h : LeO a a') (k : ∀ x,LeO (f x) (f' x)) : LeO (a.bind f) (a'.bind f'):=by
  intro r hr;obtain ⟨x,hx,hf⟩:=Option.bind_eq_some_iff.1 hr;exact Option.bind_eq_some_iff.2 ⟨x,h x hx,k x r hf⟩
theorem LeO.map {α β : Type} {a a' : Option α} (f : α → β) (h : LeO a a') : LeO (a.map f) (a'.map f):=by
  intro r hr;obtain ⟨x,hx,hf⟩:=Option.map_eq_some_iff.1 hr;exact Option.map_eq_some_iff.2 ⟨x,h x hx,hf⟩
def Reps {α : Type} (R : α → List Value → Prop) (size : Nat) (ps : List α) (cs : List Value) : Prop:=
  cs.length = ps.length * size ∧ ∀ j p,ps[j]? = some p → R p ((cs.drop (j * size)).take size)
theorem Reps.none {α : Type} (R : α → List Value → Prop) (size : Nat) : Reps R size [] []:=⟨by simp,fun j p h => by simp at h⟩
theorem Reps.snoc {α : Type} {R : α → List Value → Prop} {size : Nat} {ps : List α} {cs c : List Value} {p : α} (h : Reps R size ps cs) (hp : R p c) (hc : c.length = size) : Reps R size (ps ++ [p]) (cs ++ c):=by
  refine ⟨by rw [List.length_append,h.1,hc,List.length_append,List.length_singleton,Nat.add_mul,Nat.one_mul],fun j q hq => ?_⟩;rcases Nat.lt_or_ge j ps.length with hj | hj
  · rw [List.getElem?_append_left hj] at hq
    have h1 : j * size + size ≤ cs.length:=by rw [h.1,← Nat.succ_mul];exact Nat.mul_le_mul_right _ hj
    have h2:=h.2 j q hq;rw [List.drop_append_of_le_length (by omega),List.take_append_of_le_length (by rw [List.length_drop];omega)];exact h2
  · have hj' : j = ps.length:=by
      have:=(List.getElem?_eq_some_iff.1 hq).1;rw [List.length_append,List.length_singleton] at this;omega
    subst hj';have hq' : p = q:=by simpa using hq
    subst hq';rw [← h.1,List.drop_left,← hc,List.take_length];exact hp
theorem Reps.imp_ {α : Type} {R R' : α → List Value → Prop} {size : Nat} {ps : List α} {cs : List Value} (h : Reps R size ps cs) (hR : ∀ p c,R p c → R' p c) : Reps R' size ps cs:=⟨h.1,fun j p hj => hR _ _ (h.2 j p hj)⟩
def ReadsRow {α : Type} (R : α → List Value → Prop) (size : Nat) (w : World) (A : Option Addr) (n : Nat) (ps : List α) : Prop:=
  ps.length = n ∧ n ≤ 9223372036854775807 ∧ (0 < n → ∃ ad,A = some ad ∧ ∀ j p,ps[j]? = some p → ∃ c,c.length = size ∧ R p c ∧ ∀ i u,c[i]? = some u → w.cell? (ad.add (j * size + i)) = some u)
theorem ReadsRow.get_ {α : Type} {R : α → List Value → Prop} {size : Nat} {w : World} {A : Option Addr} {n : Nat} {ps : List α} (h : ReadsRow R size w A n ps) (d : α) (i : Int) (h0 : 0 ≤ i) (h1 : i < n) :
    ∃ ad c,A = some ad ∧ c.length = size ∧ R (ps.getD i.toNat d) c ∧ ∀ j u,c[j]? = some u → w.cell? (ad.add (i.toNat * size + j)) = some u:=by
  obtain ⟨ad,e,hc⟩:=h.2.2 (by omega);have hl : i.toNat < ps.length:=by have:=h.1;omega
  obtain ⟨c,hs,hr,hcell⟩:=hc i.toNat _ (List.getElem?_eq_getElem hl);refine ⟨ad,c,e,hs,?_,hcell⟩;rw [List.getD_eq_getElem?_getD,List.getElem?_eq_getElem hl];exact hr
theorem ReadsRow.imp_ {α : Type} {R R' : α → List Value → Prop} {size : Nat} {w w1 : World} {A : Option Addr} {n : Nat} {ps : List α} (h : ReadsRow R size w A n ps) (hb : Below w.heap.size w w1) (hR : ∀ p c,R p c → R' p c) : ReadsRow R' size w1 A n ps:=
  ⟨h.1,h.2.1,fun hn => by
    obtain ⟨ad,e,hc⟩:=h.2.2 hn;refine ⟨ad,e,fun j p hj => ?_⟩;obtain ⟨c,hs,hr,hcell⟩:=hc j p hj;exact ⟨c,hs,hR _ _ hr,fun i u hu => pw_cell_below hb (hcell i u hu)⟩⟩
theorem own_reads_row {α : Type} {R : α → List Value → Prop} {w : World} {base n size : Nat} {e : TypeId} {v : Value} {ps : List α} {cs : List Value} (h : w.ownsRow base e size v n cs) (hR : Reps R size ps cs) (hn : ps.length = n) :
    ∃ A c,v = .slice A n c ∧ ReadsRow R size w A n ps:=by
  rcases Nat.eq_zero_or_pos n with h0 | h0
  · rcases h.2 with ⟨rfl,rfl⟩ | ⟨g,cap,cur,rfl,_⟩
    · exact ⟨none,0,rfl,hn,by omega,fun hp => absurd hp (by omega)⟩
    · exact ⟨_,cap,rfl,hn,by omega,fun hp => absurd hp (by omega)⟩
  · obtain ⟨g,cap,rfl,_,_⟩:=h.form h0
    have hm : n ≤ 9223372036854775807:=by
      rcases h.2 with ⟨_,h1⟩ | ⟨g',cap',cur,he,_,_,h1,h2,_⟩
      · omega
      · simp only [maxLen] at h2
        omega
    refine ⟨_,cap,rfl,hn,hm,fun _ => ⟨_,rfl,fun j p hj => ⟨(cs.drop (j * size)).take size,?_,hR.2 j p hj,fun i u hu => ?_⟩⟩⟩
    · have hjl:=(List.getElem?_eq_some_iff.1 hj).1
      have h1 : j * size + size ≤ cs.length:=by rw [hR.1,← Nat.succ_mul];exact Nat.mul_le_mul_right _ hjl
      rw [List.length_take,List.length_drop];omega
    · refine h.cells (g:=g) rfl _ u ?_
      rw [List.getElem?_take] at hu;split at hu
      · rw [List.getElem?_drop] at hu
        exact hu
      · cases hu
theorem add_field (ad : Addr) (m j : Nat) (hj : 0 < j) : ad.add (m + j) = ⟨(ad.add m).block,(ad.add m).off + j,none⟩:=by
  unfold Addr.add
  by_cases hm : m = 0
  · subst hm
    simp [Nat.ne_of_gt hj]
  · simp [hm,Nat.add_assoc]
section
variable {P : Program} {ops : Array Oper} {rest : List Oper} {o : Oper} {a : Act} {Q : Exit → Act → World → Prop}
end
theorem own_ne {w : World} {base : Nat} {e t : TypeId} {size n g : Nat} {v : Value} {xs : List Value} {cs : Array Value} (h : w.ownsRow base e size v n xs) (hg : w.heap[g]? = some (.cells cs t (0,0))) (hne : e ≠ t) : some g ≠ v.ownBlock:=by
  rcases h.2 with ⟨rfl,_⟩ | ⟨g',cap,cur,rfl,_,hh,_⟩
  · simp [Value.ownBlock]
  · intro he
    have : g = g':=by simpa [Value.ownBlock] using he
    subst this;rw [hg] at hh;injection hh with hh;injection hh with _ ht;exact hne ht.symm
theorem blk_set {w : World} {g : Nat} {t : TypeId} {cs : Array Value} (h : w.heap[g]? = some (.cells cs t (0,0))) (i : Nat) (u : Value) : (w.setCell ⟨g,i,none⟩ u).heap[g]? = some (.cells (cs.setIfInBounds i u) t (0,0)):=by
  simp [World.setCell,Array.getElem?_modify,h]
theorem blk_far {w : World} {g : Nat} {t : TypeId} {cs : Array Value} (h : w.heap[g]? = some (.cells cs t (0,0))) {p : Addr} (hp : g ≠ p.block) (u : Value) : (w.setCell p u).heap[g]? = some (.cells cs t (0,0)):=(Below.heap_setCell w p u g hp).trans h
theorem blk_lt {w : World} {g : Nat} {o : Obj} (h : w.heap[g]? = some o) : g < w.heap.size:=(Array.getElem?_eq_some_iff.1 h).1
theorem blk_cell {w : World} {g : Nat} {t : TypeId} {cs : Array Value} (h : w.heap[g]? = some (.cells cs t (0,0))) (i : Nat) : w.cell? ⟨g,i,none⟩ = cs[i]?:=cell_of_row w g i cs t (0,0) h
theorem blk_frozen {w : World} {g : Nat} {t : TypeId} {cs : Array Value} (h : w.heap[g]? = some (.cells cs t (0,0))) (i : Nat) : w.frozen? ⟨g,i,none⟩ = false:=by simp [World.frozen?,h]
def KeepBut (w w' : World) (g : Nat) (row : Option Nat) : Prop:=w.heap.size ≤ w'.heap.size ∧ ∀ i,i < w.heap.size → i ≠ g → some i ≠ row → w'.heap[i]? = w.heap[i]?
theorem KeepBut.refl (w : World) (g : Nat) (row : Option Nat) : KeepBut w w g row:=⟨Nat.le_refl _,fun _ _ _ _ => rfl⟩
theorem KeepBut.of_below {w w1 : World} (h : Below w.heap.size w w1) (g : Nat) (row : Option Nat) : KeepBut w w1 g row:=⟨h.size,fun i hi _ _ => h.block i hi⟩
theorem KeepBut.trans {w w1 w2 : World} {g : Nat} {row row1 : Option Nat} (h : KeepBut w w1 g row) (k : KeepBut w1 w2 g row1) (hr : row1 = row ∨ ∃ b,row1 = some b ∧ w.heap.size ≤ b) : KeepBut w w2 g row:=
  ⟨Nat.le_trans h.1 k.1,fun i hi hg hn => by
    refine (k.2 i (Nat.lt_of_lt_of_le hi h.1) hg ?_).trans (h.2 i hi hg hn);rcases hr with rfl | ⟨b,rfl,hb⟩
    · exact hn
    · intro e
      injection e with e
      omega⟩
theorem KeepBut.blk {w w1 : World} {g g' : Nat} {row : Option Nat} {o : Obj} (h : KeepBut w w1 g row) (hb : w.heap[g']? = some o) (hg : g' ≠ g) (hr : some g' ≠ row) : w1.heap[g']? = some o:=(h.2 g' (blk_lt hb) hg hr).trans hb
theorem KeepBut.own {w w1 : World} {g : Nat} {row : Option Nat} {base : Nat} {e : TypeId} {size n : Nat} {v : Value} {xs : List Value} (h : KeepBut w w1 g row) (ho : w.ownsRow base e size v n xs) (hg : v.ownBlock ≠ some g) (hr : v.ownBlock = none ∨ v.ownBlock ≠ row) : w1.ownsRow base e size v n xs:=by
  obtain ⟨h1,h2⟩:=ho;refine ⟨h1,?_⟩;rcases h2 with h2 | ⟨b,cap,cur,rfl,hb,hh,r⟩
  · exact .inl h2
  · refine .inr ⟨b,cap,cur,rfl,hb,h.blk hh ?_ ?_,r⟩
    · intro e
      exact hg (by rw [← e];rfl)
    · rcases hr with hr | hr
      · simp [Value.ownBlock] at hr
      · exact hr
theorem own_weaken {w : World} {base base' : Nat} {e : TypeId} {size n : Nat} {v : Value} {xs : List Value} (h : w.ownsRow base e size v n xs) (hb : base' ≤ base) : w.ownsRow base' e size v n xs:=by
  obtain ⟨h1,h2⟩:=h;refine ⟨h1,?_⟩;rcases h2 with h2 | ⟨g,cap,cur,rfl,hg,r⟩
  · exact .inl h2
  · exact .inr ⟨g,cap,cur,rfl,Nat.le_trans hb hg,r⟩
section
variable {α : Type} {enc : α → Value} {d : α}
def rdOf (d : α) (xs : List α) (i : Int) : α:=xs.getD i.toNat d
def ReadsOf (enc : α → Value) (d : α) (w : World) (A : Option Addr) (n : Nat) (xs : List α) : Prop:=
  xs.length = n ∧ n ≤ 9223372036854775807 ∧ (0 < n → ∃ ad,A = some ad ∧ ∀ j,j < n → w.cell? (ad.add j) = some (enc (xs.getD j d)))
theorem ReadsOf.at_ {w : World} {A : Option Addr} {n : Nat} {xs : List α} (h : ReadsOf enc d w A n xs) (i : Int) (h0 : 0 ≤ i) (h1 : i < n) : ∃ ad,A = some ad ∧ w.cell? (ad.add i.toNat) = some (enc (rdOf d xs i)):=by
  obtain ⟨ad,e,hc⟩:=h.2.2 (by omega);exact ⟨ad,e,hc _ (by omega)⟩
theorem ReadsOf.below {w w1 : World} {A : Option Addr} {n : Nat} {xs : List α} (h : ReadsOf enc d w A n xs) (hb : Below w.heap.size w w1) : ReadsOf enc d w1 A n xs:=
  ⟨h.1,h.2.1,fun hn => by
    obtain ⟨ad,e,hc⟩:=h.2.2 hn;exact ⟨ad,e,fun j hj => pw_cell_below hb (hc j hj)⟩⟩
theorem ReadsOf.take_ {w : World} {A : Option Addr} {n : Nat} {xs : List α} (h : ReadsOf enc d w A n xs) (i : Nat) (hi : i ≤ n) : ReadsOf enc d w A i (xs.take i):=by
  refine ⟨by rw [List.length_take,h.1];omega,by have:=h.2.1;omega,fun hp => ?_⟩;obtain ⟨ad,e,hc⟩:=h.2.2 (by omega);refine ⟨ad,e,fun j hj => ?_⟩;rw [hc j (by omega)];simp [List.getD_eq_getElem?_getD,hj]
theorem ReadsOf.drop_ {w : World} {A : Option Addr} {n c : Nat} {xs : List α} (h : ReadsOf enc d w A n xs) (i : Nat) (hi : i ≤ n) (hc : n ≤ c) : ReadsOf enc d w (if c = i then A else A.map (·.add i)) (n - i) (xs.drop i):=by
  refine ⟨by rw [List.length_drop,h.1],by have:=h.2.1;omega,fun hp => ?_⟩;obtain ⟨ad,rfl,hcell⟩:=h.2.2 (by omega);rw [if_neg (by omega)];refine ⟨ad.add i,rfl,fun j hj => ?_⟩;have ha : (ad.add i).add j = ad.add (i + j):=by
    unfold Addr.add
    by_cases h1 : i = 0 <;> by_cases h2 : j = 0 <;> simp [h1,h2,Nat.add_assoc]
  rw [ha,hcell (i + j) (by omega)];simp [List.getD_eq_getElem?_getD,List.getElem?_drop]
end
theorem blk_alloc {w : World} {g : Nat} {o : Obj} (h : w.heap[g]? = some o) (o' : Obj) : (w.alloc o').heap[g]? = some o:=(Below.heap_alloc w o' g (blk_lt h)).trans h
theorem blk_drew {w : World} {g : Nat} {o : Obj} (h : w.heap[g]? = some o) : w.drew.heap[g]? = some o:=h
theorem blk_drewN {w : World} {g : Nat} {o : Obj} (h : w.heap[g]? = some o) (n : Nat) : (w.drewN n).heap[g]? = some o:=h
theorem blk_below {w w1 : World} {g : Nat} {o : Obj} (h : w.heap[g]? = some o) (hb : Below w.heap.size w w1) : w1.heap[g]? = some o:=(hb.block g (blk_lt h)).trans h
theorem blk_new (w : World) (o : Obj) : (w.alloc o).heap[w.heap.size]? = some o:=heap_alloc_new w o
section
variable {P : Program}
theorem results_ct {fn : Func} {p u : Tmp} {ty : TypeId} (h : fn.results = #[.cell p ty,.tmp u]) (tmps : Array Value) (w : World) (g : Nat) (t : TypeId) (cs : Array Value) (fr : Nat × Nat) (d : TypeDesc)
    (hp : tmps.getD p undef = .pointer (some ⟨g,0,none⟩)) (hg : w.heap[g]? = some (.cells cs t fr))
    (hu : P.underlying ty = some d) (hd : (match d with | .struct _ | .array _ _ => true | _ => false) = true) (hi : (P.info? ty).map (·.size) = some cs.size) :
    (results fn tmps).run P w = .ok (.tuple #[.agg cs,tmps.getD u undef]) w:=by
  have hp' : tmps[p]?.getD undef = .pointer (some ⟨g,0,none⟩):=by simpa using hp
  simp [results,h,hp',asAddr,run_loadVar_row w g t ty cs fr d hg hu hd hi]
theorem results_cc {fn : Func} {p p' : Tmp} {ty ty' : TypeId} (h : fn.results = #[.cell p ty,.cell p' ty']) (tmps : Array Value) (w : World) (g g' : Nat) (t t' : TypeId) (cs cs' : Array Value) (fr fr' : Nat × Nat) (d d' : TypeDesc)
    (hp : tmps.getD p undef = .pointer (some ⟨g,0,none⟩)) (hg : w.heap[g]? = some (.cells cs t fr))
    (hu : P.underlying ty = some d) (hd : (match d with | .struct _ | .array _ _ => true | _ => false) = true) (hi : (P.info? ty).map (·.size) = some cs.size)
    (hp' : tmps.getD p' undef = .pointer (some ⟨g',0,none⟩)) (hg' : w.heap[g']? = some (.cells cs' t' fr'))
    (hu' : P.underlying ty' = some d') (hd' : (match d' with | .struct _ | .array _ _ => true | _ => false) = true) (hi' : (P.info? ty').map (·.size) = some cs'.size) :
    (results fn tmps).run P w = .ok (.tuple #[.agg cs,.agg cs']) w:=by
  have h1 : tmps[p]?.getD undef = .pointer (some ⟨g,0,none⟩):=by simpa using hp
  have h2 : tmps[p']?.getD undef = .pointer (some ⟨g',0,none⟩):=by simpa using hp'
  simp [results,h,h1,h2,asAddr,run_loadVar_row w g t ty cs fr d hg hu hd hi,run_loadVar_row w g' t' ty' cs' fr' d' hg' hu' hd' hi']
theorem results_ctt {fn : Func} {p u v : Tmp} {ty : TypeId} (h : fn.results = #[.cell p ty,.tmp u,.tmp v]) (tmps : Array Value) (w : World) (g : Nat) (t : TypeId) (cs : Array Value) (fr : Nat × Nat) (d : TypeDesc)
    (hp : tmps.getD p undef = .pointer (some ⟨g,0,none⟩)) (hg : w.heap[g]? = some (.cells cs t fr))
    (hu : P.underlying ty = some d) (hd : (match d with | .struct _ | .array _ _ => true | _ => false) = true) (hi : (P.info? ty).map (·.size) = some cs.size) :
    (results fn tmps).run P w = .ok (.tuple #[.agg cs,tmps.getD u undef,tmps.getD v undef]) w:=by
  have hp' : tmps[p]?.getD undef = .pointer (some ⟨g,0,none⟩):=by simpa using hp
  simp [results,h,hp',asAddr,run_loadVar_row w g t ty cs fr d hg hu hd hi]
end
theorem own_le {w : World} {base n m c size : Nat} {e : TypeId} {A : Option Addr} {xs : List Value} (h : w.ownsRow base e size (.slice A m c) n xs) : m ≤ c:=by
  rcases h.2 with ⟨he,_⟩ | ⟨g,cap,cur,he,_,_,hnc,_⟩
  · injection he with _ h2 h3
    omega
  · injection he with _ h2 h3
    omega
def OwnRow {α : Type} (R : α → List Value → Prop) (e : TypeId) (size : Nat) (w : World) (base : Nat) (v : Value) (ps : List α) : Prop:=
  ∃ inner,w.ownsRow base e size v ps.length inner ∧ Reps R size ps inner
section
variable {α : Type} {R R' : α → List Value → Prop} {e : TypeId} {size : Nat} {w w1 : World} {base : Nat} {v : Value} {ps : List α}
theorem OwnRow.imp_ (h : OwnRow R e size w base v ps) (hR : ∀ p c,R p c → R' p c) : OwnRow R' e size w base v ps:=by
  obtain ⟨inner,ho,hr⟩:=h;exact ⟨inner,ho,hr.imp_ hR⟩
theorem OwnRow.below (h : OwnRow R e size w base v ps) (hb : Below w.heap.size w w1) : OwnRow R e size w1 base v ps:=by
  obtain ⟨inner,ho,hr⟩:=h;exact ⟨inner,pw_own_below ho hb,hr⟩
theorem OwnRow.keep (h : OwnRow R e size w base v ps) {g : Nat} {t : TypeId} {cells : Array Value} (hb : w.heap[g]? = some (.cells cells t (0,0))) (ht : e ≠ t) (hk : KeepBut w w1 g none) : OwnRow R e size w1 base v ps:=by
  obtain ⟨inner,ho,hr⟩:=h;exact ⟨inner,hk.own ho (Ne.symm (own_ne ho hb ht)) (by cases v.ownBlock <;> simp),hr⟩
theorem OwnRow.reads (h : OwnRow R e size w base v ps) : ∃ A c,v = .slice A ps.length c ∧ ps.length ≤ c ∧ ReadsRow R size w A ps.length ps:=by
  obtain ⟨inner,ho,hr⟩:=h;obtain ⟨A,c,rfl,hrow⟩:=own_reads_row ho hr rfl;exact ⟨A,c,rfl,own_le ho,hrow⟩
end
section
variable {P : Program} {ops : Array Oper} {rest : List Oper} {o : Oper} {a : Act} {Q : Exit → Act → World → Prop} {α : Type} {R : α → List Value → Prop}
end
structure Kd (α : Type) where
  sz : Nat
  E : List Nat
  K : World → α → List Value → Prop
  M : World → Nat → (Nat → Prop) → α → List Value → Prop
  K_len : ∀ {w x cs},K w x cs → cs.length = sz
  K_one : ∀ {w x cs},K w x cs → ∀ u ∈ cs,u.oneCell' = true
  K_below : ∀ {w w1 : World} {x cs},Below w.heap.size w w1 → K w x cs → K w1 x cs
  K_of_M : ∀ {w base ok x cs},M w base ok x cs → K w x cs
  M_mono : ∀ {w base ok ok' x cs},(∀ k,ok k → ok' k) → M w base ok x cs → M w base ok' x cs
  M_bound : ∀ {w : World} {base ok x cs},M w base ok x cs → M w base (fun k => ok k ∧ base ≤ k ∧ k < w.heap.size ∧ ∃ q,q ∈ E ∧ ∃ cells,w.heap[k]? = some (.cells cells q (0,0))) x cs
  M_move : ∀ {w w1 : World} {base ok x cs},(∀ k,ok k → w1.heap[k]? = w.heap[k]?) → M w base ok x cs → M w1 base ok x cs
  M_lower : ∀ {w base base' ok x cs},base' ≤ base → M w base ok x cs → M w base' ok x cs
theorem own_move {w w1 : World} {base : Nat} {e : TypeId} {size n : Nat} {v : Value} {xs : List Value} (h : w.ownsRow base e size v n xs) (hm : ∀ k,v.ownBlock = some k → w1.heap[k]? = w.heap[k]?) : w1.ownsRow base e size v n xs:=by
  obtain ⟨h1,h2⟩:=h;refine ⟨h1,?_⟩;rcases h2 with h2 | ⟨g,cap,cur,rfl,hg,hh,r⟩
  · exact .inl h2
  · exact .inr ⟨g,cap,cur,rfl,hg,(hm g (by simp [Value.ownBlock])).trans hh,r⟩
theorem own_typed {w : World} {base : Nat} {e : TypeId} {size n : Nat} {v : Value} {xs : List Value} (h : w.ownsRow base e size v n xs) (k : Nat) (hk : v.ownBlock = some k) : ∃ cells,w.heap[k]? = some (.cells cells e (0,0)):=by
  rcases h.2 with ⟨rfl,_⟩ | ⟨g,cap,cur,rfl,hg,hh,r⟩
  · simp [Value.ownBlock] at hk
  · have : g = k:=by simpa [Value.ownBlock] using hk
    subst this;exact ⟨cur,hh⟩
namespace Kd
def C {α : Type} (d : Kd α) (w : World) (A : Option Addr) (n : Nat) (xs : List α) : Prop:=ReadsRow (d.K w) d.sz w A n xs
def R {α : Type} (d : Kd α) (e : Nat) (w : World) (base : Nat) (ok : Nat → Prop) (v : Value) (xs : List α) : Prop:=
  (∀ k,v.ownBlock = some k → ok k) ∧ OwnRow (d.M w base (fun k => ok k ∧ some k ≠ v.ownBlock)) e d.sz w base v xs
section
variable {α : Type} {d : Kd α} {e : Nat} {w w1 : World} {base : Nat} {ok ok' : Nat → Prop} {v : Value} {xs : List α}
theorem C_below {A : Option Addr} {n : Nat} (h : d.C w A n xs) (hb : Below w.heap.size w w1) : d.C w1 A n xs:=ReadsRow.imp_ h hb (fun _ _ hp => d.K_below hb hp)
theorem R_mono (h : d.R e w base ok v xs) (hok : ∀ k,ok k → ok' k) : d.R e w base ok' v xs:=⟨fun k hk => hok k (h.1 k hk),h.2.imp_ (fun _ _ hp => d.M_mono (fun k hk => ⟨hok k hk.1,hk.2⟩) hp)⟩
theorem R_bound (h : d.R e w base ok v xs) : d.R e w base (fun k => ok k ∧ base ≤ k ∧ k < w.heap.size ∧ ∃ q,q ∈ e :: d.E ∧ ∃ cells,w.heap[k]? = some (.cells cells q (0,0))) v xs:=by
  obtain ⟨h0,inner,ho,hr⟩:=h;refine ⟨fun k hk => ?_,inner,ho,hr.imp_ (fun _ _ hp => d.M_mono (fun k hk => ?_) (d.M_bound hp))⟩
  · obtain ⟨cells,hc⟩:=own_typed ho k hk
    exact ⟨h0 k hk,own_base ho k hk,own_lt ho k hk,e,List.mem_cons_self,cells,hc⟩
  · obtain ⟨⟨h1,h2⟩,h3,h4,q,hq,hc⟩:=hk
    exact ⟨⟨h1,h3,h4,q,List.mem_cons_of_mem _ hq,hc⟩,h2⟩
theorem R_move (h : d.R e w base ok v xs) (hm : ∀ k,ok k → w1.heap[k]? = w.heap[k]?) : d.R e w1 base ok v xs:=by
  obtain ⟨h0,inner,ho,hr⟩:=h;exact ⟨h0,inner,own_move ho (fun k hk => hm k (h0 k hk)),hr.imp_ (fun _ _ hp => d.M_move (fun k hk => hm k hk.1) hp)⟩
theorem R_lower {base' : Nat} (h : d.R e w base ok v xs) (hb : base' ≤ base) : d.R e w base' ok v xs:=by
  obtain ⟨h0,inner,ho,hr⟩:=h;exact ⟨h0,inner,own_weaken ho hb,hr.imp_ (fun _ _ hp => d.M_lower hb hp)⟩
theorem R_step (h : d.R e w base ok v xs) (hm : ∀ k,ok k → k < w.heap.size → w1.heap[k]? = w.heap[k]?) : d.R e w1 base ok v xs:=
  R_mono (R_move (R_bound h) (fun k hk => hm k hk.1 hk.2.2.1)) (fun _ hk => hk.1)
theorem M_step {x : α} {cs : List Value} (h : d.M w base ok x cs) (hm : ∀ k,ok k → k < w.heap.size → w1.heap[k]? = w.heap[k]?) : d.M w1 base ok x cs:=
  d.M_mono (fun _ hk => hk.1) (d.M_move (fun k hk => hm k hk.1 hk.2.2.1) (d.M_bound h))
theorem R_below (h : d.R e w base ok v xs) (hb : Below w.heap.size w w1) : d.R e w1 base ok v xs:=R_step h (fun k _ hk => hb.block k hk)
theorem M_below {x : α} {cs : List Value} (h : d.M w base ok x cs) (hb : Below w.heap.size w w1) : d.M w1 base ok x cs:=M_step h (fun k _ hk => hb.block k hk)
theorem R_reads (h : d.R e w base ok v xs) : ∃ A c,v = .slice A xs.length c ∧ xs.length ≤ c ∧ d.C w A xs.length xs:=by
  obtain ⟨A,c,he,hl,hr⟩:=OwnRow.reads h.2;exact ⟨A,c,he,hl,hr.imp_ (Below.refl _ _) (fun _ _ hp => d.K_of_M hp)⟩
theorem R_slice (h : d.R e w base ok v xs) : ∃ A c,v = .slice A xs.length c:=by
  obtain ⟨A,c,he,_⟩:=R_reads h;exact ⟨A,c,he⟩
end
def scalar {α : Type} (enc : α → Value) (h1 : ∀ x,(enc x).oneCell' = true) : Kd α where
  sz:=1
  E:=[]
  K:=fun _ x cs => cs = [enc x]
  M:=fun _ _ _ x cs => cs = [enc x]
  K_len:=fun h => by rw [h];rfl
  K_one:=fun h u hu => by
    rw [h] at hu;rw [List.mem_singleton.1 hu];exact h1 _
  K_below:=fun _ h => h
  K_of_M:=fun h => h
  M_mono:=fun _ h => h
  M_bound:=fun h => h
  M_move:=fun _ h => h
  M_lower:=fun _ h => h
def int (k : IntKind) : Kd Int:=scalar (Value.int k) (fun _ => rfl)
def bool : Kd Bool:=scalar Value.bool (fun _ => rfl)
def string : Kd ByteArray:=scalar Value.string (fun _ => rfl)
def pair {α β : Type} (a : Kd α) (b : Kd β) : Kd (α × β) where
  sz:=a.sz + b.sz
  E:=a.E ++ b.E
  K:=fun w x cs => ∃ c0 c1,cs = c0 ++ c1 ∧ a.K w x.1 c0 ∧ b.K w x.2 c1
  M:=fun w base ok x cs => ∃ c0 c1,cs = c0 ++ c1 ∧ a.M w base ok x.1 c0 ∧ b.M w base ok x.2 c1
  K_len:=by
    rintro w x cs ⟨c0,c1,rfl,h0,h1⟩;rw [List.length_append,a.K_len h0,b.K_len h1]
  K_one:=by
    rintro w x cs ⟨c0,c1,rfl,h0,h1⟩ u hu;rcases List.mem_append.1 hu with hu | hu
    · exact a.K_one h0 u hu
    · exact b.K_one h1 u hu
  K_below:=by
    rintro w w1 x cs hb ⟨c0,c1,rfl,h0,h1⟩;exact ⟨c0,c1,rfl,a.K_below hb h0,b.K_below hb h1⟩
  K_of_M:=by
    rintro w base ok x cs ⟨c0,c1,rfl,h0,h1⟩;exact ⟨c0,c1,rfl,a.K_of_M h0,b.K_of_M h1⟩
  M_mono:=by
    rintro w base ok ok' x cs hok ⟨c0,c1,rfl,h0,h1⟩;exact ⟨c0,c1,rfl,a.M_mono hok h0,b.M_mono hok h1⟩
  M_bound:=by
    rintro w base ok x cs ⟨c0,c1,rfl,h0,h1⟩;refine ⟨c0,c1,rfl,a.M_mono ?_ (a.M_bound h0),b.M_mono ?_ (b.M_bound h1)⟩
    · rintro k ⟨h2,h3,h4,q,hq,hc⟩
      exact ⟨h2,h3,h4,q,List.mem_append_left _ hq,hc⟩
    · rintro k ⟨h2,h3,h4,q,hq,hc⟩
      exact ⟨h2,h3,h4,q,List.mem_append_right _ hq,hc⟩
  M_move:=by
    rintro w w1 base ok x cs hm ⟨c0,c1,rfl,h0,h1⟩;exact ⟨c0,c1,rfl,a.M_move hm h0,b.M_move hm h1⟩
  M_lower:=by
    rintro w base base' ok x cs hb ⟨c0,c1,rfl,h0,h1⟩;exact ⟨c0,c1,rfl,a.M_lower hb h0,b.M_lower hb h1⟩
def iso {α β : Type} (d : Kd α) (f : β → α) : Kd β where
  sz:=d.sz
  E:=d.E
  K:=fun w x cs => d.K w (f x) cs
  M:=fun w base ok x cs => d.M w base ok (f x) cs
  K_len:=d.K_len
  K_one:=d.K_one
  K_below:=d.K_below
  K_of_M:=d.K_of_M
  M_mono:=d.M_mono
  M_bound:=d.M_bound
  M_move:=d.M_move
  M_lower:=d.M_lower
theorem C_get {α : Type} {d : Kd α} {w : World} {A : Option Addr} {n : Nat} {xs : List α} (h : d.C w A n xs) (z : α) (i : Int) (h0 : 0 ≤ i) (h1 : i < n) :
    ∃ ad c,A = some ad ∧ c.length = d.sz ∧ d.K w (xs.getD i.toNat z) c ∧ ∀ j u,c[j]? = some u → w.cell? (ad.add (i.toNat * d.sz + j)) = some u:=ReadsRow.get_ h z i h0 h1
theorem C_of_reads {α : Type} {enc : α → Value} {d : α} {h1 : ∀ x,(enc x).oneCell' = true} {w : World} {A : Option Addr} {n : Nat} {xs : List α} (h : ReadsOf enc d w A n xs) : (scalar enc h1).C w A n xs:=by
  refine ⟨h.1,h.2.1,fun hn => ?_⟩;obtain ⟨ad,e,hc⟩:=h.2.2 hn;refine ⟨ad,e,fun j p hj => ⟨[enc p],rfl,rfl,fun i u hu => ?_⟩⟩;obtain ⟨hl,hp⟩:=List.getElem?_eq_some_iff.1 hj;have h2:=hc j (by have:=h.1;omega);rw [List.getD_eq_getElem?_getD,hj] at h2
  cases i with
  | zero =>
    have : enc p = u:=by simpa using hu
    subst this;simpa [scalar] using h2
  | succ i => simp at hu
theorem reads_of_C {α : Type} {enc : α → Value} {d : α} {h1 : ∀ x,(enc x).oneCell' = true} {w : World} {A : Option Addr} {n : Nat} {xs : List α} (h : (scalar enc h1).C w A n xs) : ReadsOf enc d w A n xs:=by
  refine ⟨h.1,h.2.1,fun hn => ?_⟩;obtain ⟨ad,e,hc⟩:=h.2.2 hn;refine ⟨ad,e,fun j hj => ?_⟩;have hl : j < xs.length:=by have:=h.1;omega
  obtain ⟨c,_,hK,hcell⟩:=hc j _ (List.getElem?_eq_getElem hl);have hK' : c = [enc xs[j]]:=hK;subst hK'
  have:=hcell 0 _ rfl;simpa [scalar,List.getD_eq_getElem?_getD,List.getElem?_eq_getElem hl] using this
section
variable {α β : Type} {d : Kd α} {d' : Kd β} {e e' : Nat} {w w1 W : World} {base b b' : Nat} {ok ok' okv oku : Nat → Prop} {v u : Value} {xs : List α} {ys : List β}
theorem R_alloc (h : d.R e w base ok v xs) (o : Obj) : d.R e (w.alloc o) base ok v xs:=R_below h (below_alloc (Below.refl _ _) o)
theorem R_drew (h : d.R e w base ok v xs) : d.R e w.drew base ok v xs:=R_below h (below_drew (Below.refl _ _))
theorem R_drewN (h : d.R e w base ok v xs) (m : Nat) : d.R e (w.drewN m) base ok v xs:=R_below h (pw_below_drewN (Below.refl _ _) m)
theorem C_alloc {A : Option Addr} {n : Nat} (h : d.C w A n xs) (o : Obj) : d.C (w.alloc o) A n xs:=C_below h (below_alloc (Below.refl _ _) o)
theorem C_drew {A : Option Addr} {n : Nat} (h : d.C w A n xs) : d.C w.drew A n xs:=C_below h (below_drew (Below.refl _ _))
theorem C_drewN {A : Option Addr} {n : Nat} (h : d.C w A n xs) (m : Nat) : d.C (w.drewN m) A n xs:=C_below h (pw_below_drewN (Below.refl _ _) m)
theorem C_max {A : Option Addr} {n : Nat} (h : d.C w A n xs) : n ≤ 9223372036854775807:=h.2.1
theorem R_reads' {A : Option Addr} {n c : Nat} (h : d.R e w base ok (.slice A n c) xs) : n = xs.length ∧ n ≤ c ∧ d.C w A xs.length xs:=by
  obtain ⟨A',c',he,hl,hr⟩:=R_reads h;injection he with h1 h2 h3;subst h1;exact ⟨h2,by omega,hr⟩
end
section
variable {w W : World} {A : Option Addr} {n : Nat}
theorem at_int {k : IntKind} {xs : List Int} (h : (Kd.int k).C w A n xs) (i : Int) (h0 : 0 ≤ i) (h1 : i < n) : ∃ ad,A = some ad ∧ w.cell? (ad.add i.toNat) = some (.int k (rd xs i)):=
  ReadsOf.at_ (reads_of_C (enc:=Value.int k) (d:=(0 : Int)) (h1:=fun _ => rfl) h) i h0 h1
variable {α : Type} {enc : α → Value} {h1 : ∀ x,(enc x).oneCell' = true} {e base g cap : Nat} {ok : Nat → Prop} {xs : List α}
end
section
variable {P : Program} {ops : Array Oper} {rest : List Oper} {o : Oper} {a : Act} {Q : Exit → Act → World → Prop}
theorem event_run {W w1 : World} {v : Value} (hgd : o.guard = none) (hrun : (execOp a.eval o).run P W = .ok (.value v) w1) (h : wpList P ops Q rest (a.put o.dst v) w1) : wpList P ops Q (o :: rest) a W:=by
  refine wpList_plain hgd fun K hK => ?_
  unfold Oper.wp;rw [hrun];exact hK _ _ h
variable {α : Type}
theorem R_lit (d : Kd α) {w0 W : World} (base e : Nat) (hgd : o.guard = none) {N : Tmp} (_hd : o.dst = some N) {xs : List α} {inner : List Value} {ok okp : Nat → Prop}
    (hrun : (execOp a.eval o).run P W = .ok (.value (.slice (some ⟨W.heap.size,0,none⟩) xs.length xs.length)) (W.alloc (.cells inner.toArray e)))
    (hrep : Reps (d.M W base okp) d.sz xs inner) (hok : ∀ k,okp k → ok k) (hfresh : ok W.heap.size) (HB : Below base w0 W) (hbase : base ≤ W.heap.size) (hm : xs.length ≤ 9223372036854775807)
    (h : ∀ v1 w1,d.R e w1 base ok v1 xs → Below base w0 w1 → W.grownBy w1 none → (∃ b,v1.ownBlock = some b ∧ W.heap.size ≤ b) → wpList P ops Q rest (a.put o.dst v1) w1) : wpList P ops Q (o :: rest) a W:=by
  refine event_run hgd hrun (h _ _ ⟨fun k hk => ?_,inner,?_,?_⟩ (HB.alloc hbase _) (World.grownBy_alloc W _ none) ⟨W.heap.size,by simp [Value.ownBlock],Nat.le_refl _⟩)
  · have : W.heap.size = k:=by simpa [Value.ownBlock] using hk
    subst this;exact hfresh
  · have h2:=World.ownsRow_lit (base:=base) (e:=e) (size:=d.sz) W inner.toArray xs.length hbase (by simpa [maxLen] using hm) (by simpa using hrep.1)
    simpa using h2
  · refine hrep.imp_ (fun p c hp => d.M_mono (fun k hk => ⟨hok k hk.1,fun he => ?_⟩) (M_below (d.M_bound hp) (below_alloc (Below.refl _ _) _)))
    have h3 : k = W.heap.size:=by simpa [Value.ownBlock] using he
    have:=hk.2.2.1;omega
end
end Kd
section
variable {P : Program}
theorem cut_to (t e : TypeId) (kh : IntKind) {i : TypeInfo} (ht : P.underlying t = some (.slice e)) (hi : P.info? e = some i) (A : Option Addr) (n c : Nat) (j : Int) (h0 : 0 ≤ j) (hm : j ≤ n) (hc : n ≤ c) :
    ∀ W : World,(Instr.slice t (.slice A n c) none (some (.int kh j)) none).run P W = .ok (.slice A j.toNat c) W:=by
  intro W;have hel : P.elem t = e:=by simp [Program.elem,ht]
  have hu : P.underlying t = some (.slice (P.elem t)):=by rw [hel];exact ht
  have ha : (A.map fun x => x.add 0) = A:=by cases A <;> simp [Addr.add]
  rw [run_slice_h W t A n c hu kh j h0 (by omega),hel];simp [sizeOf,typeInfo,hi,sliced,Result.andThen,ha]
theorem cut_from (t e : TypeId) (kl : IntKind) {i : TypeInfo} (ht : P.underlying t = some (.slice e)) (hi : P.info? e = some i) (size : Nat) (hsz : i.size = size) (A : Option Addr) (n c : Nat) (j : Int) (h0 : 0 ≤ j) (hm : j ≤ n) :
    ∀ W : World,(Instr.slice t (.slice A n c) (some (.int kl j)) none none).run P W = .ok (.slice (if c = j.toNat then A else A.map (·.add (j.toNat * size))) (n - j.toNat) (c - j.toNat)) W:=by
  intro W;have hel : P.elem t = e:=by simp [Program.elem,ht]
  have hu : P.underlying t = some (.slice (P.elem t)):=by rw [hel];exact ht
  rw [run_slice_l W t A n c hu kl j h0 hm,hel];simp [sizeOf,typeInfo,hi,hsz,sliced,Result.andThen]
end
namespace Kd
end Kd
theorem add_add (a : Addr) (i j : Nat) : (a.add i).add j = a.add (i + j):=by
  unfold Addr.add
  by_cases h1 : i = 0 <;> by_cases h2 : j = 0 <;> simp [h1,h2,Nat.add_assoc]
theorem below_size {w W : World} (h : Below w.heap.size w W) : w.heap.size ≤ W.heap.size:=h.size
theorem below_step {w W w2 : World} (h : Below w.heap.size w W) (k : Below W.heap.size W w2) : Below w.heap.size w w2:=below_then h h.size k
theorem ReadsInt.nil (W : World) (k : IntKind) : ReadsInt W k none ([] : List Int).length []:=⟨rfl,by simp,fun h => absurd h (Nat.lt_irrefl 0)⟩
theorem below_set {w W : World} {g j : Nat} {v : Value} (h : Below w.heap.size w W) (hg : w.heap.size ≤ g) : Below w.heap.size w (W.setCell ⟨g,j,none⟩ v):=h.setCell hg _
theorem keep_cell {w W : World} {g : Nat} (h : KeepBut w W g none) {a : Addr} {v : Value} (hc : w.cell? a = some v) (hne : a.block ≠ g) : W.cell? a = some v:=by
  have:=h.2 a.block (World.block_lt_of_cell? w a hc) hne (by simp);simpa [World.cell?,this] using hc
theorem add_block (a : Addr) (i : Nat) : (a.add i).block = a.block:=by unfold Addr.add;split <;> rfl
theorem ReadsOf.nil {α : Type} (enc : α → Value) (d : α) (W : World) : ReadsOf enc d W none ([] : List α).length []:=⟨rfl,by simp,fun h => absurd h (Nat.lt_irrefl 0)⟩
theorem ReadsInt.keep {w W : World} {k : IntKind} {A : Option Addr} {n g : Nat} {xs : List Int} (h : ReadsInt w k A n xs) (hk : KeepBut w W g none) (hf : ∀ ad,A = some ad → 0 < n → ad.block ≠ g) : ReadsInt W k A n xs:=
  ⟨h.1,h.2.1,fun hn => by
    obtain ⟨ad,e,hc⟩:=h.2.2 hn;exact ⟨ad,e,fun j hj => keep_cell hk (hc j hj) (by rw [add_block];exact hf ad e hn)⟩⟩
theorem ReadsOf.keep {α : Type} {enc : α → Value} {d : α} {w W : World} {A : Option Addr} {n g : Nat} {xs : List α} (h : ReadsOf enc d w A n xs) (hk : KeepBut w W g none) (hf : ∀ ad,A = some ad → 0 < n → ad.block ≠ g) : ReadsOf enc d W A n xs:=
  ⟨h.1,h.2.1,fun hn => by
    obtain ⟨ad,e,hc⟩:=h.2.2 hn;exact ⟨ad,e,fun j hj => keep_cell hk (hc j hj) (by rw [add_block];exact hf ad e hn)⟩⟩
theorem cell_far {W : World} {p a : Addr} (h : a.block ≠ p.block) (u : Value) : (W.setCell p u).cell? a = W.cell? a:=by
  have:=Below.heap_setCell W p u a.block h;simp [World.cell?,this]
theorem blk_put {w : World} {g : Nat} {t : TypeId} {cs cs' : Array Value} (h : w.heap[g]? = some (.cells cs t (0,0))) (i : Nat) (u : Value) (e : cs.setIfInBounds i u = cs') : (w.setCell ⟨g,i,none⟩ u).heap[g]? = some (.cells cs' t (0,0)):=e ▸ blk_set h i u
theorem own_put {W : World} {base g cap : Nat} {e : TypeId} {k : IntKind} {xs : List Int} (h : W.ownsRow base e 1 (.slice (some ⟨g,0,none⟩) xs.length cap) xs.length (nums k xs)) (i x : Int) :
    (W.setCell ⟨g,i.toNat,none⟩ (.int k x)).ownsRow base e 1 (.slice (some ⟨g,0,none⟩) xs.length cap) (xs.set i.toNat x).length (nums k (xs.set i.toNat x)):=by
  have:=(own_store h i x).1;rwa [show (xs.set i.toNat x).length = xs.length by simp]
theorem below_drew1 {base : Nat} {w W : World} (h : Below base w W) : Below base w W.drew:=h.drew
section
variable {P : Program} {ops : Array Oper} {rest : List Oper} {o : Oper} {a : Act} {Q : Exit → Act → World → Prop}
theorem box_event {W : World} (hgd : o.guard = none) {N : Tmp} (_hd : o.dst = some N) {cs : Array Value} {t : TypeId}
    (hrun : (execOp a.eval o).run P W = .ok (.value (.pointer (some ⟨W.heap.size,0,none⟩))) (W.alloc (.cells cs t (0,0))))
    (h : ∀ g,g = W.heap.size → ∀ w1,w1.heap[g]? = some (.cells cs t (0,0)) → Below W.heap.size W w1 → wpList P ops Q rest (a.put o.dst (.pointer (some ⟨g,0,none⟩))) w1) : wpList P ops Q (o :: rest) a W:=
  Kd.event_run hgd hrun (h _ rfl _ (blk_new W _) (below_alloc (Below.refl _ _) _))
end
section
variable {P : Program} {ops : Array Oper} {rest : List Oper} {o : Oper} {a : Act} {Q : Exit → Act → World → Prop} {W : World}
theorem gate_dst {N : Tmp} (_hN : o.dst = some N) (h : wpList P ops Q (o :: rest) a W) : wpList P ops Q (o :: rest) a W:=h
end
section
variable {P : Program} {ops : Array Oper} {o : Oper} {a : Act} {Q : Exit → Act → World → Prop} {Kc : Act → World → Prop}
theorem event_step {W w1 : World} {v : Value} (hw : Region.wanted o (yielded ops a.tmps) = true) (hrun : (execOp a.eval o).run P W = .ok (.value v) w1) (h : Kc (a.put o.dst v) w1) : if Region.wanted o (yielded ops a.tmps) = true then Oper.wp P o a W Kc Q else Kc (a.put o.dst undef) W:=by
  rw [if_pos hw];unfold Oper.wp;rw [hrun];exact h
theorem box_step {W : World} (hw : Region.wanted o (yielded ops a.tmps) = true) {N : Tmp} (_hd : o.dst = some N) {cs : Array Value} {t : TypeId}
    (hrun : (execOp a.eval o).run P W = .ok (.value (.pointer (some ⟨W.heap.size,0,none⟩))) (W.alloc (.cells cs t (0,0))))
    (h : ∀ g,g = W.heap.size → ∀ w1,w1.heap[g]? = some (.cells cs t (0,0)) → Below W.heap.size W w1 → Kc (a.put o.dst (.pointer (some ⟨g,0,none⟩))) w1) : if Region.wanted o (yielded ops a.tmps) = true then Oper.wp P o a W Kc Q else Kc (a.put o.dst undef) W:=
  event_step hw hrun (h _ rfl _ (blk_new W _) (below_alloc (Below.refl _ _) _))
namespace Kd
variable {α : Type}
end Kd
end
inductive Vals (P : Program) (tmps : Array Value) (w : World) : List ResultVar → List Value → Prop where
  | nil : Vals P tmps w [] []
  | tmp {u : Tmp} {rs : List ResultVar} {vs : List Value} (h : Vals P tmps w rs vs) : Vals P tmps w (.tmp u :: rs) (tmps.getD u undef :: vs)
  | cell {p : Tmp} {ty : TypeId} {rs : List ResultVar} {vs : List Value} (g : Nat) (t : TypeId) (cs : Array Value) (fr : Nat × Nat) (d : TypeDesc)
      (hp : tmps.getD p undef = .pointer (some ⟨g,0,none⟩)) (hg : w.heap[g]? = some (.cells cs t fr))
      (hu : P.underlying ty = some d) (hd : (match d with | .struct _ | .array _ _ => true | _ => false) = true) (hi : (P.info? ty).map (·.size) = some cs.size)
      (h : Vals P tmps w rs vs) : Vals P tmps w (.cell p ty :: rs) (.agg cs :: vs)
section
variable {P : Program} {tmps : Array Value} {w : World}
theorem vals_run {rs : List ResultVar} {vs : List Value} (hv : Vals P tmps w rs vs) (f : ResultVar → Sem Value) (hf : ∀ u,f (.tmp u) = pure (tmps.getD u undef)) (hc : ∀ a t,f (.cell a t) = (do loadVar t (← asAddr (tmps.getD a undef)))) :
    (rs.mapM f).run P w = .ok vs w:=by
  induction hv with
  | nil => simp
  | tmp h ih => simp [List.mapM_cons,hf,ih]
  | cell g t cs fr d hp hg hu hd hi h ih =>
    rw [List.mapM_cons,hc,hp];simp [asAddr,run_loadVar_row w g t _ cs fr d hg hu hd hi,ih]
theorem results_single {fn : Func} {r : ResultVar} {v : Value} (h : fn.results = #[r]) (hv : Vals P tmps w [r] [v]) : (results fn tmps).run P w = .ok v w:=by
  unfold results;rw [show fn.results = [r].toArray from h,List.mapM_toArray];simp only [Sem.run_bind,Sem.run_map];rw [vals_run hv]
  · simp
  · intro u
    rfl
  · intro a t
    rfl
end
abbrev gA := @World.grownBy_alloc
abbrev gT := @World.grownBy.trans
abbrev dT := @decide_eq_true
abbrev dF := @decide_eq_false
abbrev lG := @List.getElem?_eq_getElem
abbrev oI := @Option.some.inj
end Go.Proofs.YtodibpddlibneaaGreatDoorW.PrintWords
namespace Go.Proofs.YtodibpddlibneaaGreatDoorW.PrintLast
section
variable {P : Program} {ops : Array Oper} {Q : Exit → Act → World → Prop} {md : Region.Mode} {S : World → Prop} {ds : List Nat}
def Region.reachB (md : Region.Mode) (ops : Array Oper) (i : Nat) : Nat → Nat → Bool
  | 0,_ => false
  | fuel + 1,d => match ops[d]? with
    | some o => o.after.any fun e => Region.binds md e && (e.on == i || Region.reachB md ops i fuel e.on)
    | none => false
def Region.closedB (md : Region.Mode) (ops : Array Oper) (listed : Array Bool) : Bool:=
  (List.range ops.size).all fun j => !listed.getD j false || match ops[j]? with
    | some o => o.after.all fun e => !Region.binds md e || listed.getD e.on false
    | none => true
def Region.lastB (md : Region.Mode) (ops : Array Oper) (listed : Array Bool) (ds : List Nat) (i : Nat) : Bool:=
  ds.all fun d => listed.getD d true || Region.reachB md ops i ops.size d
def ListedClosed (md : Region.Mode) (ops : Array Oper) (listed : Array Bool) : Prop:=
  ∀ j oj,ops[j]? = some oj → listed.getD j false = true → ∀ e ∈ oj.after,Region.binds md e = true → listed.getD e.on false = true
theorem Region.closedB_spec {listed : Array Bool} (h : Region.closedB md ops listed = true) : ListedClosed md ops listed:=by
  intro j oj hj hl e he hb;have hlt : j < ops.size:=(Array.getElem?_eq_some_iff.1 hj).1;have h1:=List.all_eq_true.1 h j (List.mem_range.2 hlt);simp only [hl,hj,Bool.not_true,Bool.false_or] at h1;have h2:=Array.all_eq_true_iff_forall_mem.1 h1 e he;simpa [hb] using h2
theorem ListedClosed.set {listed : Array Bool} {i : Nat} (h : ListedClosed md ops listed) (hi : i ∈ Region.ready md ops listed) : ListedClosed md ops (listed.setIfInBounds i true):=by
  obtain ⟨_,oi,hoi,hall⟩:=mem_ready.1 hi;intro j oj hj hl e he hb
  by_cases hij : i = j
  · subst hij
    have : oj = oi:=Option.some.inj (hj.symm.trans hoi);subst this;exact getD_set_true (hall e he hb)
  · rw [getD_set_ne false hij] at hl
    exact getD_set_true (h j oj hj hl e he hb)
theorem Region.reach_listed {listed : Array Bool} {i : Nat} (hc : ListedClosed md ops listed) : ∀ (fuel d : Nat),Region.reachB md ops i fuel d = true → listed.getD d false = true → listed.getD i false = true
  | 0,_,h,_ => by simp [Region.reachB] at h
  | fuel + 1,d,h,hl => by
    unfold Region.reachB at h
    cases ho : ops[d]? with
    | none => rw [ho] at h;simp at h
    | some o =>
      rw [ho] at h;obtain ⟨e,he,h1⟩:=Array.any_eq_true'.1 h;simp only [Bool.and_eq_true,Bool.or_eq_true,beq_iff_eq] at h1;have hle:=hc d o ho hl e he h1.1;rcases h1.2 with h2 | h2
      · rw [← h2];exact hle
      · exact Region.reach_listed hc fuel e.on h2 hle
theorem Region.reach_not_ready {listed : Array Bool} {i d fuel : Nat} (hc : ListedClosed md ops listed) (hr : Region.reachB md ops i fuel d = true) (hun : listed.getD i true = false) : d ∉ Region.ready md ops listed:=by
  intro hd;obtain ⟨_,o,ho,hall⟩:=mem_ready.1 hd;have hi : listed.getD i false = true:=by
    cases fuel with
    | zero => simp [Region.reachB] at hr
    | succ n =>
      unfold Region.reachB at hr;rw [ho] at hr;obtain ⟨e,he,h1⟩:=Array.any_eq_true'.1 hr;simp only [Bool.and_eq_true,Bool.or_eq_true,beq_iff_eq] at h1;have hle:=hall e he h1.1;rcases h1.2 with h2 | h2
      · rw [← h2];exact hle
      · exact Region.reach_listed hc n e.on h2 hle
  rcases Nat.lt_or_ge i listed.size with h' | h'
  · simp [h'] at hun hi
    rw [hun] at hi
    cases hi
  · simp [Array.getElem?_eq_none h'] at hun
def wpAnyLast (P : Program) (md : Region.Mode) (ops : Array Oper) (Q : Exit → Act → World → Prop) (S : World → Prop) (ds : List Nat) : Nat → Array Bool → Act → World → Prop
  | 0,listed,a,w => Region.ready md ops listed = [] ∧ Q .normal a w
  | fuel + 1,listed,a,w =>
    (Region.ready md ops listed = [] → Q .normal a w) ∧
    ∀ i ∈ Region.ready md ops listed,wpOp P ops Q i (fun a' w' => (i ∉ ds → S w → S w') ∧ wpAnyLast P md ops Q S ds fuel (listed.setIfInBounds i true) a' w') a w
theorem wpAny_of_last : ∀ (fuel : Nat) (listed : Array Bool) (a : Act) (w : World),wpAnyLast P md ops Q S ds fuel listed a w → wpAny P md ops Q fuel listed a w
  | 0,_,_,_,h => h
  | fuel + 1,_,_,_,h => ⟨h.1,fun i hi => wpOp_mono (fun a' w' h' => wpAny_of_last fuel _ a' w' h'.2) (h.2 i hi)⟩
theorem wpAnyLast_first {i : Nat} {oi : Oper} {v : Value} (hi : ops[i]? = some oi) (hsel : ∀ (j : Nat) (o : Oper) cs b,ops[j]? = some o → o.op ≠ .select cs b)
    (hQ : ∀ c a w,Q (.panic c) (a.put oi.dst v) w → Q (.panic c) a w) (n : Nat) :
    ∀ (fuel : Nat) (listed : Array Bool) (a : Act) (w : World),
      (∀ j oj,ops[j]? = some oj → j ≠ i → listed.getD j true = false → (∀ e ∈ oj.after,Region.binds md e = true → e.on ≠ i) → oi.apart ops oj = true) →
      ListedClosed md ops listed → (∀ d ∈ ds,listed.getD d true = false → Region.reachB md ops i n d = true) →
      i ∈ Region.ready md ops listed → YieldsIf P ops S oi v a → S w →
      wpAnyLast P md ops Q S ds fuel (listed.setIfInBounds i true) (a.put oi.dst v) w → wpAnyLast P md ops Q S ds (fuel + 1) listed a w:=by
  intro fuel
  induction fuel with
  | zero =>
    intro listed a w _ _ _ hr hy hS H;refine ⟨fun h => (by rw [h] at hr;cases hr),fun j hj => ?_⟩
    by_cases hji : j = i
    · subst hji;exact hy.wpOp hi hS ⟨fun _ h => h,H⟩
    · have:=ready_mono hj hji
      rw [H.1] at this
      cases this
  | succ fuel ih =>
    intro listed a w hfree hc hd hr hy hS H;refine ⟨fun h => (by rw [h] at hr;cases hr),fun j hj => ?_⟩
    by_cases hji : j = i
    · subst hji;exact hy.wpOp hi hS ⟨fun _ h => h,H⟩
    · have h1:=H.2 j (ready_mono hj hji)
      obtain ⟨hjun,oj,hoj,hall⟩:=mem_ready.1 hj;have hiun:=(mem_ready.1 hr).1;have hnot : ∀ e ∈ oj.after,Region.binds md e = true → e.on ≠ i:=fun e he hb heq => by
        have h1:=hall e he hb;rw [heq] at h1;rcases Nat.lt_or_ge i listed.size with h' | h'
        · simp [h'] at hiun h1;rw [hiun] at h1;cases h1
        · simp [Array.getElem?_eq_none h'] at h1
      have hjd : j ∉ ds:=fun hm => Region.reach_not_ready hc (hd j hm hjun) hiun hj
      have h2:=wpOp_putIf hoj (hfree j oj hoj hji hjun hnot) (fun cs b => hsel i oi cs b hi) (fun cs b => hsel j oj cs b hoj) hQ hy h1;have hfree' : ∀ k ok,ops[k]? = some ok → k ≠ i → (listed.setIfInBounds j true).getD k true = false →
          (∀ e ∈ ok.after,Region.binds md e = true → e.on ≠ i) → oi.apart ops ok = true:=fun k ok hk hki hun hno => by
        refine hfree k ok hk hki ?_ hno
        by_cases hjk : j = k
        · subst hjk;exact hjun
        · rw [getD_set_ne true hjk] at hun;exact hun
      have hd' : ∀ d ∈ ds,(listed.setIfInBounds j true).getD d true = false → Region.reachB md ops i n d = true:=fun d hm hun => by
        refine hd d hm ?_
        by_cases hjk : j = d
        · subst hjk;exact hjun
        · rw [getD_set_ne true hjk] at hun;exact hun
      refine wpOp_mono (fun a' w' h3 => ⟨h3.2.1,ih (listed.setIfInBounds j true) a' w' hfree' (hc.set hj) hd' (ready_mono hr (Ne.symm hji)) h3.1 (h3.2.1 hjd hS) ?_⟩) h2;rw [Array.setIfInBounds_comm _ _ hji];exact h3.2.2
theorem wpAnyLast_any {i : Nat} {oi : Oper} {v : Value} (hi : ops[i]? = some oi) (hsel : ∀ (j : Nat) (o : Oper) cs b,ops[j]? = some o → o.op ≠ .select cs b)
    (hQ : ∀ c a w,Q (.panic c) (a.put oi.dst v) w → Q (.panic c) a w) :
    ∀ (fuel : Nat) (listed : Array Bool) (a : Act) (w : World),
      (∀ j oj,ops[j]? = some oj → j ≠ i → listed.getD j true = false → (∀ e ∈ oj.after,Region.binds md e = true → e.on ≠ i) → oi.apart ops oj = true) →
      i ∈ Region.ready md ops listed → Yields P ops oi v a →
      wpAnyLast P md ops Q S ds fuel (listed.setIfInBounds i true) (a.put oi.dst v) w → wpAnyLast P md ops Q S ds (fuel + 1) listed a w:=by
  intro fuel
  induction fuel with
  | zero =>
    intro listed a w _ hr hy H;refine ⟨fun h => (by rw [h] at hr;cases hr),fun j hj => ?_⟩
    by_cases hji : j = i
    · subst hji;exact (hy.yieldsIf (S:=fun _ => True)).wpOp hi trivial ⟨fun _ h => h,H⟩
    · have:=ready_mono hj hji
      rw [H.1] at this
      cases this
  | succ fuel ih =>
    intro listed a w hfree hr hy H;refine ⟨fun h => (by rw [h] at hr;cases hr),fun j hj => ?_⟩
    by_cases hji : j = i
    · subst hji;exact (hy.yieldsIf (S:=fun _ => True)).wpOp hi trivial ⟨fun _ h => h,H⟩
    · have h1:=H.2 j (ready_mono hj hji)
      obtain ⟨hjun,oj,hoj,hall⟩:=mem_ready.1 hj;have hiun:=(mem_ready.1 hr).1;have hnot : ∀ e ∈ oj.after,Region.binds md e = true → e.on ≠ i:=fun e he hb heq => by
        have h1:=hall e he hb;rw [heq] at h1;rcases Nat.lt_or_ge i listed.size with h' | h'
        · simp [h'] at hiun h1;rw [hiun] at h1;cases h1
        · simp [Array.getElem?_eq_none h'] at h1
      have h2:=wpOp_put hoj (hfree j oj hoj hji hjun hnot) (fun cs b => hsel i oi cs b hi) (fun cs b => hsel j oj cs b hoj) hQ hy h1;have hfree' : ∀ k ok,ops[k]? = some ok → k ≠ i → (listed.setIfInBounds j true).getD k true = false →
          (∀ e ∈ ok.after,Region.binds md e = true → e.on ≠ i) → oi.apart ops ok = true:=fun k ok hk hki hun hno => by
        refine hfree k ok hk hki ?_ hno
        by_cases hjk : j = k
        · subst hjk;exact hjun
        · rw [getD_set_ne true hjk] at hun;exact hun
      refine wpOp_mono (fun a' w' h3 => ⟨h3.2.1,ih (listed.setIfInBounds j true) a' w' hfree' (ready_mono hr (Ne.symm hji)) h3.1 ?_⟩) h2;rw [Array.setIfInBounds_comm _ _ hji];exact h3.2.2
theorem wpAnyLast_take {i : Nat} {oi : Oper} {v : Value} {fuel : Nat} {listed : Array Bool} {a : Act} {w : World} (hi : ops[i]? = some oi)
    (hs : Region.noSelect ops = true) (hf : Region.free md ops listed i = true) (hr : (Region.ready md ops listed).contains i = true)
    (hc : Region.closedB md ops listed = true) (hl : Region.lastB md ops listed ds i = true)
    (hQ : ∀ c a w,Q (.panic c) (a.put oi.dst v) w → Q (.panic c) a w) (hy : YieldsIf P ops S oi v a) (hS : S w)
    (h : wpAnyLast P md ops Q S ds fuel (listed.setIfInBounds i true) (a.put oi.dst v) w) : wpAnyLast P md ops Q S ds (fuel + 1) listed a w:=
  wpAnyLast_first hi (Region.noSelect_spec hs) hQ ops.size fuel listed a w (Region.free_spec hi hf) (Region.closedB_spec hc)
    (fun d hm hun => by have:=List.all_eq_true.1 hl d hm;rw [hun] at this;simpa using this) (by simpa using hr) hy hS h
theorem wpAnyLast_all {rs : List Nat} {fuel : Nat} {listed : Array Bool} {a : Act} {w : World} (hr : Region.ready md ops listed = rs) (hne : rs ≠ [])
    (h : ∀ i ∈ rs,wpOp P ops Q i (fun a' w' => (i ∉ ds → S w → S w') ∧ wpAnyLast P md ops Q S ds fuel (listed.setIfInBounds i true) a' w') a w) : wpAnyLast P md ops Q S ds (fuel + 1) listed a w:=
  ⟨fun h0 => absurd (hr ▸ h0) hne,hr ▸ h⟩
theorem wpAnyLast_done {listed : Array Bool} {a : Act} {w : World} (hr : Region.ready md ops listed = []) (h : Q .normal a w) :
    ∀ fuel,wpAnyLast P md ops Q S ds fuel listed a w
  | 0 => ⟨hr,h⟩
  | _ + 1 => ⟨fun _ => h,by rw [hr];simp⟩
theorem wp_region_last {id : Nat} {a : Act} {w : World} (hm : P.follows .mixedOrders = true)
    (h : wpAnyLast P .any ops Q S ds ops.size (Array.replicate ops.size false) a { w with drawn:=w.drawn + 1 }) : (Code.region id ops true).wp P Q a w:=
  wp_region_any hm (wpAny_of_last _ _ _ _ h)
end
section
variable {P : Program} {ops : Array Oper} {Q : Exit → Act → World → Prop} {md : Region.Mode} {S : World → Prop} {ds : List Nat}
def AllReadyL (P : Program) (md : Region.Mode) (ops : Array Oper) (Q : Exit → Act → World → Prop) (S : World → Prop) (ds : List Nat) (fuel : Nat) (listed : Array Bool) (a : Act) (w : World) (rs : List Nat) : Prop:=
  ∀ i ∈ rs,wpOp P ops Q i (fun a' w' => (i ∉ ds → S w → S w') ∧ wpAnyLast P md ops Q S ds fuel (listed.setIfInBounds i true) a' w') a w
theorem AllReadyL.nil {fuel : Nat} {listed : Array Bool} {a : Act} {w : World} : AllReadyL P md ops Q S ds fuel listed a w []:=fun _ h => by cases h
theorem AllReadyL.cons {fuel : Nat} {listed : Array Bool} {a : Act} {w : World} {i : Nat} {o : Oper} {rs : List Nat} (ho : ops[i]? = some o) (hd : i ∉ ds)
    (h : ∀ K' : Act → World → Prop,Shut (∀ a w,S w → (S w → wpAnyLast P md ops Q S ds fuel (listed.setIfInBounds i true) a w) → K' a w) → if Region.wanted o (yielded ops a.tmps) = true then Oper.wp P o a w K' Q else K' (a.put o.dst undef) w)
    (hs : AllReadyL P md ops Q S ds fuel listed a w rs) : AllReadyL P md ops Q S ds fuel listed a w (i :: rs):=fun j hj => by
  rcases List.mem_cons.1 hj with rfl | hj
  · exact wpOp_step ho (fun K' hK => h K' (fun a w hS hW => hK a w ⟨fun _ _ => hS,hW hS⟩))
  · exact hs j hj
theorem AllReadyL.cons_last {fuel : Nat} {listed : Array Bool} {a : Act} {w : World} {i : Nat} {o : Oper} {rs : List Nat} (ho : ops[i]? = some o) (hd : i ∈ ds)
    (h : ∀ K' : Act → World → Prop,Shut (∀ a w,wpAnyLast P md ops Q S ds fuel (listed.setIfInBounds i true) a w → K' a w) → if Region.wanted o (yielded ops a.tmps) = true then Oper.wp P o a w K' Q else K' (a.put o.dst undef) w)
    (hs : AllReadyL P md ops Q S ds fuel listed a w rs) : AllReadyL P md ops Q S ds fuel listed a w (i :: rs):=fun j hj => by
  rcases List.mem_cons.1 hj with rfl | hj
  · exact wpOp_step ho (fun K' hK => h K' (fun a w hW => hK a w ⟨fun hn => absurd hd hn,hW⟩))
  · exact hs j hj
theorem wpAnyLast_ready {rs : List Nat} {fuel : Nat} {listed : Array Bool} {a : Act} {w : World} (hr : Region.ready md ops listed = rs) (hne : rs ≠ [])
    (h : AllReadyL P md ops Q S ds fuel listed a w rs) : wpAnyLast P md ops Q S ds (fuel + 1) listed a w:=wpAnyLast_all hr hne h
theorem start_ {id n : Nat} {a : Act} {w : World} (l : Array Bool) (hm : P.follows .mixedOrders = true) (hn : ops.size = n) (hl : Array.replicate n false = l) (hS : S w.drew)
    (h : S w.drew → wpAnyLast P .any ops Q S ds n l a w.drew) : (Code.region id ops true).wp P Q a w:=by
  subst hn;subst hl;exact wp_region_last hm (h hS)
def takeB (md : Region.Mode) (ops : Array Oper) (ds : List Nat) (l l' : Array Bool) (i : Nat) : Bool:=
  Region.noSelect ops && Region.free md ops l i && (Region.ready md ops l).contains i && Region.closedB md ops l && Region.lastB md ops l ds i && (l.setIfInBounds i true == l')
theorem take_ {i : Nat} {N : Option Tmp} {oi : Oper} {v : Value} {fuel : Nat} {l : Array Bool} {a : Act} {w : World} (l' : Array Bool) (hi : ops[i]? = some oi) (hN : oi.dst = N) (hc : takeB md ops ds l l' i = true)
    (hQ : ∀ c a w,Q (.panic c) (a.put oi.dst v) w → Q (.panic c) a w) (hy : YieldsIf P ops S oi v a) (hS : S w) {a' : Act} (ha : a.put N v = a')
    (h : wpAnyLast P md ops Q S ds fuel l' a' w) : wpAnyLast P md ops Q S ds (fuel + 1) l a w:=by
  subst ha;subst hN;simp only [takeB,Bool.and_eq_true,beq_iff_eq] at hc;obtain ⟨⟨⟨⟨⟨h1,h2⟩,h3⟩,h4⟩,h5⟩,h6⟩:=hc;subst h6;exact wpAnyLast_take hi h1 h2 h3 h4 h5 hQ hy hS h
def anyB (md : Region.Mode) (ops : Array Oper) (l l' : Array Bool) (i : Nat) : Bool:=
  Region.noSelect ops && Region.free md ops l i && (Region.ready md ops l).contains i && (l.setIfInBounds i true == l')
theorem pure_ {i : Nat} {N : Option Tmp} {oi : Oper} {v : Value} {fuel : Nat} {l : Array Bool} {a : Act} {w : World} (l' : Array Bool) (hi : ops[i]? = some oi) (hN : oi.dst = N) (hc : anyB md ops l l' i = true)
    (hQ : ∀ c a w,Q (.panic c) (a.put oi.dst v) w → Q (.panic c) a w) (hy : Yields P ops oi v a) {a' : Act} (ha : a.put N v = a')
    (h : wpAnyLast P md ops Q S ds fuel l' a' w) : wpAnyLast P md ops Q S ds (fuel + 1) l a w:=by
  subst ha;subst hN;simp only [anyB,Bool.and_eq_true,beq_iff_eq] at hc;obtain ⟨⟨⟨h1,h2⟩,h3⟩,h6⟩:=hc;subst h6;exact wpAnyLast_any hi (Region.noSelect_spec h1) hQ fuel l a w (Region.free_spec hi h2) (by simpa using h3) hy h
def readyB (md : Region.Mode) (ops : Array Oper) (l l' : Array Bool) (i : Nat) : Bool:=(Region.ready md ops l == [i]) && (l.setIfInBounds i true == l')
theorem one_ {i : Nat} {N : Option Tmp} {oi : Oper} {fuel : Nat} {l : Array Bool} {a : Act} {w : World} (l' : Array Bool) (hi : ops[i]? = some oi) (hN : oi.dst = N) (hc : readyB md ops l l' i = true) (hd : i ∉ ds)
    (h : ∀ K : Act → World → Prop,Shut (∀ a' w',S w' → (S w' → wpAnyLast P md ops Q S ds fuel l' a' w') → K a' w') → if Region.wanted oi (yielded ops a.tmps) = true then Oper.wp P oi a w K Q else K (a.put N undef) w) :
    wpAnyLast P md ops Q S ds (fuel + 1) l a w:=by
  subst hN;simp only [readyB,Bool.and_eq_true,beq_iff_eq] at hc;obtain ⟨h1,h2⟩:=hc;subst h2;exact wpAnyLast_ready h1 (by simp) (AllReadyL.cons hi hd (fun K hK => h K hK) AllReadyL.nil)
theorem last_ {i : Nat} {N : Option Tmp} {oi : Oper} {fuel : Nat} {l : Array Bool} {a : Act} {w : World} (l' : Array Bool) (hi : ops[i]? = some oi) (hN : oi.dst = N) (hc : readyB md ops l l' i = true) (hd : i ∈ ds)
    (h : ∀ K : Act → World → Prop,Shut (∀ a' w',wpAnyLast P md ops Q S ds fuel l' a' w' → K a' w') → if Region.wanted oi (yielded ops a.tmps) = true then Oper.wp P oi a w K Q else K (a.put N undef) w) :
    wpAnyLast P md ops Q S ds (fuel + 1) l a w:=by
  subst hN;simp only [readyB,Bool.and_eq_true,beq_iff_eq] at hc;obtain ⟨h1,h2⟩:=hc;subst h2;exact wpAnyLast_ready h1 (by simp) (AllReadyL.cons_last hi hd (fun K hK => h K hK) AllReadyL.nil)
theorem done_ {l : Array Bool} {a : Act} {w : World} {n : Nat} (hr : (Region.ready md ops l == []) = true) (h : Q .normal a w) : wpAnyLast P md ops Q S ds n l a w:=wpAnyLast_done (by simpa using hr) h n
theorem two_ {i j : Nat} {Ni Nj : Option Tmp} {oi oj : Oper} {fuel : Nat} {l : Array Bool} {a : Act} {w : World} (li lj : Array Bool) (hi : ops[i]? = some oi) (hj : ops[j]? = some oj) (hNi : oi.dst = Ni) (hNj : oj.dst = Nj)
    (hc : (Region.ready md ops l == [i,j] && l.setIfInBounds i true == li && l.setIfInBounds j true == lj) = true) (hdi : i ∉ ds) (hdj : j ∉ ds)
    (h1 : ∀ K : Act → World → Prop,Shut (∀ a' w',S w' → (S w' → wpAnyLast P md ops Q S ds fuel li a' w') → K a' w') → if Region.wanted oi (yielded ops a.tmps) = true then Oper.wp P oi a w K Q else K (a.put Ni undef) w)
    (h2 : ∀ K : Act → World → Prop,Shut (∀ a' w',S w' → (S w' → wpAnyLast P md ops Q S ds fuel lj a' w') → K a' w') → if Region.wanted oj (yielded ops a.tmps) = true then Oper.wp P oj a w K Q else K (a.put Nj undef) w) :
    wpAnyLast P md ops Q S ds (fuel + 1) l a w:=by
  subst hNi;subst hNj;simp only [Bool.and_eq_true,beq_iff_eq] at hc;obtain ⟨⟨h3,h4⟩,h5⟩:=hc;subst h4;subst h5;exact wpAnyLast_ready h3 (by simp) (AllReadyL.cons hi hdi (fun K hK => h1 K hK) (AllReadyL.cons hj hdj (fun K hK => h2 K hK) AllReadyL.nil))
theorem three_ {i j k : Nat} {Ni Nj Nk : Option Tmp} {oi oj ok : Oper} {fuel : Nat} {l : Array Bool} {a : Act} {w : World} (li lj lk : Array Bool) (hi : ops[i]? = some oi) (hj : ops[j]? = some oj) (hk : ops[k]? = some ok) (hNi : oi.dst = Ni) (hNj : oj.dst = Nj) (hNk : ok.dst = Nk)
    (hc : (Region.ready md ops l == [i,j,k] && l.setIfInBounds i true == li && l.setIfInBounds j true == lj && l.setIfInBounds k true == lk) = true) (hdi : i ∉ ds) (hdj : j ∉ ds) (hdk : k ∉ ds)
    (h1 : ∀ K : Act → World → Prop,Shut (∀ a' w',S w' → (S w' → wpAnyLast P md ops Q S ds fuel li a' w') → K a' w') → if Region.wanted oi (yielded ops a.tmps) = true then Oper.wp P oi a w K Q else K (a.put Ni undef) w)
    (h2 : ∀ K : Act → World → Prop,Shut (∀ a' w',S w' → (S w' → wpAnyLast P md ops Q S ds fuel lj a' w') → K a' w') → if Region.wanted oj (yielded ops a.tmps) = true then Oper.wp P oj a w K Q else K (a.put Nj undef) w)
    (h3 : ∀ K : Act → World → Prop,Shut (∀ a' w',S w' → (S w' → wpAnyLast P md ops Q S ds fuel lk a' w') → K a' w') → if Region.wanted ok (yielded ops a.tmps) = true then Oper.wp P ok a w K Q else K (a.put Nk undef) w) :
    wpAnyLast P md ops Q S ds (fuel + 1) l a w:=by
  subst hNi;subst hNj;subst hNk;simp only [Bool.and_eq_true,beq_iff_eq] at hc;obtain ⟨⟨⟨h4,h5⟩,h6⟩,h7⟩:=hc;subst h5;subst h6;subst h7;exact wpAnyLast_ready h4 (by simp) (AllReadyL.cons hi hdi (fun K hK => h1 K hK) (AllReadyL.cons hj hdj (fun K hK => h2 K hK) (AllReadyL.cons hk hdk (fun K hK => h3 K hK) AllReadyL.nil)))
def putAll : Act → List (Tmp × Value) → Act
  | a,[] => a
  | a,(n,v) :: r => putAll (a.put (some n) v) r
theorem join_ {σ : Type} {fuel : Nat} {l : Array Bool} {a : Act} {w : World} (fuel' : Nat) (l' : Array Bool) (ns : σ → List (Tmp × Value)) (F : σ → World → Prop)
    (hcont : ∀ s w',F s w' → wpAnyLast P md ops Q S ds fuel' l' (putAll a (ns s)) w')
    (h : (∀ s w',F s w' → wpAnyLast P md ops Q S ds fuel' l' (putAll a (ns s)) w') → wpAnyLast P md ops Q S ds fuel l a w) : wpAnyLast P md ops Q S ds fuel l a w:=h hcont
theorem norm_ {fuel : Nat} {l : Array Bool} {a a' : Act} {w : World} (ha : a = a') (h : wpAnyLast P md ops Q S ds fuel l a' w) : wpAnyLast P md ops Q S ds fuel l a w:=by
  subst ha;exact h
theorem call_ {oi : Oper} {N : Option Tmp} {a : Act} {w : World} {K : Act → World → Prop} (f : FuncId) (args : Array Value) (hw : Region.wanted oi (yielded ops a.tmps) = true) (hN : oi.dst = N) (hrun : (execOp a.eval oi).run P w = .ok (.enter f args) w)
    (h : Calls P f args w fun e w' => ∃ v,e = .returned v ∧ K (a.put N v) w') : if Region.wanted oi (yielded ops a.tmps) = true then Oper.wp P oi a w K Q else K (a.put N undef) w:=by
  rw [if_pos hw];subst hN;unfold Oper.wp;rw [hrun,Oper.upon_enter];refine h.mono fun e w'' hh => ?_
  obtain ⟨v,rfl,hk⟩:=hh;exact hk
theorem enters_ {f : FuncId} {fn : Func} (hf : P.funcs[f]? = some fn) (hname : (fn.name == "runtime.NumGoroutine") = false) (hb : fn.body.isSome = true) (args : Array Value) (w : World) : (callFunc f args).run P w = .ok (.enter f args) w:=by
  have h1 : fn.name ≠ "runtime.NumGoroutine":=by simpa using hname
  obtain ⟨c,hc⟩:=Option.isSome_iff_exists.1 hb;simp [callFunc,hf,h1,hc]
theorem goes_ {oi : Oper} {N : Option Tmp} {a : Act} {w : World} {K : Act → World → Prop} {f : FuncId} {fn : Func} {«as» : Array Operand} {ts : Array TypeId} (hf : P.funcs[f]? = some fn) (hname : (fn.name == "runtime.NumGoroutine") = false) (hb : fn.body.isSome = true) (args : Array Value)
    (hw : Region.wanted oi (yielded ops a.tmps) = true) (hN : oi.dst = N) (hop : oi.op = .call { callee:=.value (.func f),args:=«as»,argTypes:=ts }) (hargs : «as».map a.eval = args)
    (h : Calls P f args w fun e w' => ∃ v,e = .returned v ∧ K (a.put N v) w') : if Region.wanted oi (yielded ops a.tmps) = true then Oper.wp P oi a w K Q else K (a.put N undef) w:=by
  refine call_ f args hw hN ?_ h;have he:=enters_ hf hname hb args w;unfold execOp;simp [hop,resolve,Deferred.ofValue,invoke,Act.eval,hargs,he]
theorem goesL_ {rest : List Oper} {oi : Oper} {a : Act} {w : World} (N : Option Tmp) (hd : oi.dst = N) (hg : oi.guard = none) {f : FuncId} {fn : Func} {«as» : Array Operand} {ts : Array TypeId} (hf : P.funcs[f]? = some fn) (hname : (fn.name == "runtime.NumGoroutine") = false) (hb : fn.body.isSome = true) (args : Array Value)
    (hop : oi.op = .call { callee:=.value (.func f),args:=«as»,argTypes:=ts }) (hargs : «as».map a.eval = args)
    (h : Calls P f args w fun e w' => ∃ v,e = .returned v ∧ wpList P ops Q rest (a.put N v) w') : wpList P ops Q (oi :: rest) a w:=by
  refine wpList_plain hg fun K hK => ?_
  have he:=enters_ hf hname hb args w;have hrun : (execOp a.eval oi).run P w = .ok (.enter f args) w:=by
    unfold execOp;simp [hop,resolve,Deferred.ofValue,invoke,Act.eval,hargs,he]
  unfold Oper.wp;rw [hrun,Oper.upon_enter];refine h.mono fun e w'' hh => ?_
  obtain ⟨v,rfl,hk⟩:=hh;subst hd;exact hK _ _ hk
theorem value_ {oi : Oper} {N : Option Tmp} {a : Act} {w w1 : World} {v : Value} {K : Act → World → Prop} (hw : Region.wanted oi (yielded ops a.tmps) = true) (hN : oi.dst = N) (hrun : (execOp a.eval oi).run P w = .ok (.value v) w1)
    (h : K (a.put N v) w1) : if Region.wanted oi (yielded ops a.tmps) = true then Oper.wp P oi a w K Q else K (a.put N undef) w:=by
  rw [if_pos hw];subst hN;unfold Oper.wp;rw [hrun];exact h
theorem skip_ {oi : Oper} {a : Act} {w w1 : World} {K : Act → World → Prop} (hw : Region.wanted oi (yielded ops a.tmps) = true) (hN : oi.dst = none) (hrun : (execOp a.eval oi).run P w = .ok .skip w1)
    (h : K a w1) : if Region.wanted oi (yielded ops a.tmps) = true then Oper.wp P oi a w K Q else K (a.put none undef) w:=by
  rw [if_pos hw];unfold Oper.wp;rw [hrun];show K (a.put oi.dst undef) w1;rw [hN];exact h
theorem i64_w (n : Int) : IntKind.i64.wrap n = Go.RowKit.wrap64 n:=by unfold Go.RowKit.wrap64;exact IntKind.wrap_i64 n
theorem i32_w (n : Int) : IntKind.i32.wrap n = Go.RowKit.wrap32 n:=by unfold Go.RowKit.wrap32;exact IntKind.wrap_i32 n
end
end Go.Proofs.YtodibpddlibneaaGreatDoorW.PrintLast
namespace Go.Proofs.YtodibpddlibneaaGreatDoorW.PrintWords
open Go.RowKit
namespace Kd
section
open Classical in
variable {P : Program} {ops : Array Oper} {rest : List Oper} {o : Oper} {a : Act} {Q : Exit → Act → World → Prop} {Kc : Act → World → Prop} {α : Type}
end
section
variable {α β : Type} {d : Kd α} {e e' g n cap : Nat} {w w1 W : World} {base : Nat} {ok ok' oki okp : Nat → Prop} {u v : Value} {xs : List α} {i : Int} {c : List Value}
open Classical in
end
end Kd
end Go.Proofs.YtodibpddlibneaaGreatDoorW.PrintWords
namespace Go.Proofs.YtodibpddlibneaaGreatDoorW.PrintWords
open Go.RowKit
namespace Kd
end Kd
end Go.Proofs.YtodibpddlibneaaGreatDoorW.PrintWords
namespace Go.Proofs.YtodibpddlibneaaGreatDoorW.PrintWords
open Go.RowKit
def Kept (w W : World) (S : Nat → Prop) : Prop:=w.heap.size ≤ W.heap.size ∧ ∀ i,i < w.heap.size → ¬ S i → W.heap[i]? = w.heap[i]?
section
variable {w W W2 : World} {S S2 S' : Nat → Prop}
theorem Kept.refl (w : World) (S : Nat → Prop) : Kept w w S:=⟨Nat.le_refl _,fun _ _ _ => rfl⟩
theorem Kept.of_below (h : Below w.heap.size w W) (S : Nat → Prop) : Kept w W S:=⟨h.size,fun i hi _ => h.block i hi⟩
theorem Kept.mono (h : Kept w W S) (hs : ∀ k,S k → S' k) : Kept w W S':=⟨h.1,fun i hi hn => h.2 i hi (fun hk => hn (hs i hk))⟩
theorem Kept.then_ (h : Kept w W S) (k : Kept W W2 S2) (hs : ∀ k,S2 k → S k ∨ w.heap.size ≤ k) : Kept w W2 S:=
  ⟨Nat.le_trans h.1 k.1,fun i hi hn => (k.2 i (Nat.lt_of_lt_of_le hi h.1) (fun h2 => (hs i h2).elim hn (fun h3 => by omega))).trans (h.2 i hi hn)⟩
theorem Kept.below (h : Kept w W S) (hb : Below W.heap.size W W2) : Kept w W2 S:=h.then_ (Kept.of_below hb (fun _ => False)) (fun _ hk => hk.elim)
theorem Kept.alloc (h : Kept w W S) (o : Obj) : Kept w (W.alloc o) S:=h.below (below_alloc (Below.refl _ _) o)
theorem Kept.drew (h : Kept w W S) : Kept w W.drew S:=h
theorem Kept.drewN (h : Kept w W S) (m : Nat) : Kept w (W.drewN m) S:=h
theorem Kept.setCell (h : Kept w W S) {p : Addr} (hp : S p.block ∨ w.heap.size ≤ p.block) (u : Value) : Kept w (W.setCell p u) S:=
  h.then_ (S2:=fun k => k = p.block) ⟨by simp [World.setCell],fun i _ hn => Below.heap_setCell W p u i hn⟩ (fun k hk => by rw [hk];exact hp)
theorem Kept.keep {g : Nat} (h : KeepBut w W g none) (k : Kept W W2 S2) (hs : ∀ k,S2 k → w.heap.size ≤ k) : KeepBut w W2 g none:=
  ⟨Nat.le_trans h.1 k.1,fun i hi hg hr => (k.2 i (Nat.lt_of_lt_of_le hi h.1) (fun h2 => by have:=hs i h2;omega)).trans (h.2 i hi hg hr)⟩
theorem blk_kept {g : Nat} {o : Obj} (hb : W.heap[g]? = some o) (hk : Kept W W2 S) (hne : ¬ S g) : W2.heap[g]? = some o:=(hk.2 g (blk_lt hb) hne).trans hb
end
def Foot (P : World → Prop) (W : World) (ok : Nat → Prop) : Prop:=∀ W' : World,(∀ k,ok k → k < W.heap.size → W'.heap[k]? = W.heap[k]?) → P W'
theorem heap_lt {W W1 : World} {k : Nat} (h : W1.heap[k]? = W.heap[k]?) (hlt : k < W.heap.size) : k < W1.heap.size:=by
  rw [Array.getElem?_eq_getElem hlt] at h;exact (Array.getElem?_eq_some_iff.1 h).1
namespace Foot
variable {P Q : World → Prop} {W W1 : World} {ok ok' : Nat → Prop}
theorem now (h : Foot P W ok) : P W:=h W (fun _ _ _ => rfl)
theorem mono (h : Foot P W ok) (hok : ∀ k,ok k → ok' k) : Foot P W ok':=fun W' hW => h W' (fun k hk hlt => hW k (hok k hk) hlt)
theorem step (h : Foot P W ok) (hm : ∀ k,ok k → k < W.heap.size → W1.heap[k]? = W.heap[k]?) : Foot P W1 ok:=fun W' hW => h W' (fun k hk hlt => (hW k hk (heap_lt (hm k hk hlt) hlt)).trans (hm k hk hlt))
theorem imp (h : Foot P W ok) (hi : ∀ W',P W' → Q W') : Foot Q W ok:=fun W' hW => hi W' (h W' hW)
end Foot
namespace Kd
def F {α : Type} (d : Kd α) (W : World) (ok : Nat → Prop) (A : Option Addr) (n : Nat) (xs : List α) : Prop:=Foot (fun W => d.C W A n xs) W ok
def FK {α : Type} (d : Kd α) (W : World) (ok : Nat → Prop) (x : α) (c : List Value) : Prop:=Foot (fun W => d.K W x c) W ok
end Kd
end Go.Proofs.YtodibpddlibneaaGreatDoorW.PrintWords
namespace Go.Proofs.YtodibpddlibneaaGreatDoorW.PrintWords
open Go.RowKit
namespace Kd
section
variable {α : Type} {d : Kd α} {e base n cc g : Nat} {ok ok' okp S : Nat → Prop} {w w1 W W1 : World} {A : Option Addr} {u v v1 : Value} {xs : List α} {x : α} {c : List Value}
end
end Kd
end Go.Proofs.YtodibpddlibneaaGreatDoorW.PrintWords
namespace Go.Proofs.YtodibpddlibneaaGreatDoorW.PrintWords
open Go.RowKit
section
variable {w w' u : World} {m B g : Nat} {o : Obj} {row : Option Nat} {S : Nat → Prop} {a : Addr} {v : Value}
theorem cell_at (hq : w.drewN m = w') (h : w.cell? a = some v) : w'.cell? a = some v:=by subst hq;exact h
end
section
variable {P : Program} {d : Nat} {xs ys : Array Value} {f : Field} {fs : List Field} {a b : Value} {r s : Bool} {w : World}
theorem eqf_last (hn : (f.name == "_") = false) (ha : (part f.type xs f.offset).run P w = .ok a w) (hb : (part f.type ys f.offset).run P w = .ok b w) (he : (Op.equalIn d f.type a b).run P w = .ok r w) : (Op.eqFields d xs ys [f]).run P w = .ok r w:=by
  have hn' : f.name ≠ "_":=by simpa using hn
  simp only [Op.eqFields,if_pos hn',Sem.run_bind,ha,hb,he,Result.andThen_ok]
  cases r <;> simp
theorem eqf_cons (hn : (f.name == "_") = false) (ha : (part f.type xs f.offset).run P w = .ok a w) (hb : (part f.type ys f.offset).run P w = .ok b w) (he : (Op.equalIn d f.type a b).run P w = .ok r w) (hr : (Op.eqFields d xs ys fs).run P w = .ok s w) : (Op.eqFields d xs ys (f :: fs)).run P w = .ok (r && s) w:=by
  have hn' : f.name ≠ "_":=by simpa using hn
  rw [Op.eqFields];simp only [if_pos hn',Sem.run_bind,ha,hb,he,Result.andThen_ok]
  cases r
  · simp
  · simpa using hr
theorem eqA_of {t : TypeId} {fs : Array Field} (hu : P.underlying t = some (.struct fs)) (hp : P.stoodInHeld t = false) (h : (Op.eqFields d xs ys fs.toList).run P w = .ok r w) : (Op.equalIn (d + 1) t (.agg xs) (.agg ys)).run P w = .ok r w:=by
  have hf : P.fieldsOf t = fs:=by simp [Program.fieldsOf,hu]
  rw [run_equalIn_struct (P:=P) w d t xs ys (by rw [hf];exact hu) hp,hf];exact h
end
end Go.Proofs.YtodibpddlibneaaGreatDoorW.PrintWords
namespace Go.Proofs.YtodibpddlibneaaGreatDoorW.PrintLast
open Go.Proofs.YtodibpddlibneaaGreatDoorW.PrintWords (Aside0)
def needsOf (md : Region.Mode) (o : Oper) : List Nat:=(o.after.toList.filter (fun e => Region.binds md e)).map (fun e => e.on)
def clashOf (md : Region.Mode) (ops : Array Oper) (i : Nat) (oi : Oper) : List Nat:=(List.range ops.size).filter fun j => !(j == i) && match ops[j]? with
  | some oj => !(oj.after.any (fun e => Region.binds md e && e.on == i) || oi.apart ops oj)
  | none => false
def rtab (md : Region.Mode) (ops : Array Oper) : Bool × List (List Nat × List Nat):=(Region.noSelect ops,(List.range ops.size).map fun i => match ops[i]? with
  | some o => (needsOf md o,clashOf md ops i o)
  | none => ([],[]))
def readyAt (T : List (List Nat × List Nat)) (l : List Bool) (i : Nat) : Bool:=!l.getD i true && match T[i]? with
  | some r => r.1.all (fun j => l.getD j false)
  | none => false
def readyT (T : List (List Nat × List Nat)) (l : List Bool) : List Nat:=(List.range T.length).filter (readyAt T l)
def freeT (T : List (List Nat × List Nat)) (l : List Bool) (i : Nat) : Bool:=match T[i]? with
  | some r => r.2.all (fun j => l.getD j true)
  | none => false
def closedT (T : List (List Nat × List Nat)) (l : List Bool) : Bool:=(List.range T.length).all fun j => !l.getD j false || match T[j]? with
  | some r => r.1.all (fun k => l.getD k false)
  | none => true
def reachT (T : List (List Nat × List Nat)) (i : Nat) : Nat → Nat → Bool
  | 0,_ => false
  | fuel + 1,d => match T[d]? with
    | some r => r.1.any fun j => j == i || reachT T i fuel j
    | none => false
def lastT (T : List (List Nat × List Nat)) (l : List Bool) (ds : List Nat) (i : Nat) : Bool:=ds.all fun d => l.getD d true || reachT T i T.length d
section
variable {md : Region.Mode} {ops : Array Oper} {T : Bool × List (List Nat × List Nat)} {l l' li lj lk : Array Bool} {ds : List Nat} {i j k : Nat}
theorem gd (l : Array Bool) (j : Nat) (b : Bool) : l.getD j b = l.toList.getD j b:=by simp [Array.getD_eq_getD_getElem?,List.getD_eq_getElem?_getD]
theorem needs_all (o : Oper) (p : Nat → Bool) : o.after.all (fun e => !Region.binds md e || p e.on) = (needsOf md o).all p:=by
  unfold needsOf;rw [← Array.all_toList]
  induction o.after.toList with
  | nil => rfl
  | cons e r ih =>
    rw [List.all_cons,ih,List.filter_cons]
    cases h : Region.binds md e <;> simp
theorem needs_any (o : Oper) (p : Nat → Bool) : o.after.any (fun e => Region.binds md e && p e.on) = (needsOf md o).any p:=by
  unfold needsOf;rw [← Array.any_toList]
  induction o.after.toList with
  | nil => rfl
  | cons e r ih =>
    rw [List.any_cons,ih,List.filter_cons]
    cases h : Region.binds md e <;> simp
theorem rtab_length : (rtab md ops).2.length = ops.size:=by simp [rtab]
theorem rtab_some {o : Oper} (h : ops[i]? = some o) : (rtab md ops).2[i]? = some (needsOf md o,clashOf md ops i o):=by
  have hi:=(Array.getElem?_eq_some_iff.1 h).1;unfold rtab;rw [List.getElem?_map,List.getElem?_range hi,Option.map_some,h]
theorem rtab_none (h : ops[i]? = none) : (rtab md ops).2[i]? = none:=by
  have hi : ops.size ≤ i:=Array.getElem?_eq_none_iff.1 h;exact List.getElem?_eq_none (by rw [rtab_length];exact hi)
theorem readyAt_eq : readyAt (rtab md ops).2 l.toList i = (!l.getD i true && ((ops[i]?).map (·.after.all fun e => !Region.binds md e || l.getD e.on false)).getD false):=by
  unfold readyAt;rw [gd]
  cases h : ops[i]? with
  | none => rw [rtab_none h];rfl
  | some o =>
    rw [rtab_some h];simp only [Option.map_some,Option.getD_some];rw [← needs_all];simp only [gd]
theorem ready_eq : Region.ready md ops l = readyT (rtab md ops).2 l.toList:=by
  unfold Region.ready readyT;rw [rtab_length];refine List.filter_congr (fun i _ => ?_);rw [readyAt_eq]
theorem free_eq : Region.free md ops l i = freeT (rtab md ops).2 l.toList i:=by
  unfold Region.free freeT
  cases h : ops[i]? with
  | none => rw [rtab_none h]
  | some oi =>
    rw [rtab_some h];simp only [clashOf];rw [List.all_filter]
    congr 1
    funext j
    rw [gd]
    cases hj : ops[j]? with
    | none => cases (j == i) <;> cases (l.toList.getD j true) <;> simp
    | some oj =>
      cases (j == i) <;> cases (l.toList.getD j true) <;> cases (oj.after.any (fun e => Region.binds md e && e.on == i) || oi.apart ops oj) <;> simp_all
theorem closed_eq : Region.closedB md ops l = closedT (rtab md ops).2 l.toList:=by
  unfold Region.closedB closedT;rw [rtab_length]
  congr 1
  funext j
  rw [gd]
  cases h : ops[j]? with
  | none => rw [rtab_none h]
  | some o =>
    rw [rtab_some h];simp only;rw [← needs_all];simp only [gd]
theorem reach_eq : ∀ (fuel d : Nat),Region.reachB md ops i fuel d = reachT (rtab md ops).2 i fuel d
  | 0,_ => rfl
  | fuel + 1,d => by
    unfold Region.reachB reachT
    cases h : ops[d]? with
    | none => rw [rtab_none h]
    | some o =>
      rw [rtab_some h];simp only;rw [← needs_any]
      congr 1
      funext e
      rw [reach_eq fuel]
theorem last_eq : Region.lastB md ops l ds i = lastT (rtab md ops).2 l.toList ds i:=by
  unfold Region.lastB lastT;rw [rtab_length]
  congr 1
  funext d
  rw [gd,reach_eq]
theorem readyAt_mem (h : readyAt T.2 l.toList i = true) (hT : rtab md ops = T) : (Region.ready md ops l).contains i = true:=by
  subst hT;rw [ready_eq];unfold readyT;rw [List.contains_iff_mem,List.mem_filter,List.mem_range];refine ⟨?_,h⟩;unfold readyAt at h;rw [Bool.and_eq_true] at h
  cases hq : (rtab md ops).2[i]? with
  | none => rw [hq] at h;simp at h
  | some r => exact (List.getElem?_eq_some_iff.1 hq).1
theorem set_of (h : (l.toList.set i true == l'.toList) = true) : (l.setIfInBounds i true == l') = true:=by
  rw [beq_iff_eq] at h ⊢;apply Array.ext';rw [Array.toList_setIfInBounds];exact h
def anyT (T : Bool × List (List Nat × List Nat)) (l l' : List Bool) (i : Nat) : Bool:=T.1 && freeT T.2 l i && readyAt T.2 l i && (l.set i true == l')
theorem any_of (hT : rtab md ops = T) (h : anyT T l.toList l'.toList i = true) : anyB md ops l l' i = true:=by
  simp only [anyT,Bool.and_eq_true] at h;obtain ⟨⟨⟨h1,h2⟩,h3⟩,h4⟩:=h;have h5:=readyAt_mem h3 hT;have h6:=set_of h4;subst hT;simp only [anyB,Bool.and_eq_true];exact ⟨⟨⟨h1,by rw [free_eq];exact h2⟩,h5⟩,h6⟩
def takeT (T : Bool × List (List Nat × List Nat)) (ds : List Nat) (l l' : List Bool) (i : Nat) : Bool:=T.1 && freeT T.2 l i && readyAt T.2 l i && closedT T.2 l && lastT T.2 l ds i && (l.set i true == l')
theorem take_of (hT : rtab md ops = T) (h : takeT T ds l.toList l'.toList i = true) : takeB md ops ds l l' i = true:=by
  simp only [takeT,Bool.and_eq_true] at h;obtain ⟨⟨⟨⟨⟨h1,h2⟩,h3⟩,h4⟩,h5⟩,h6⟩:=h;have h7:=readyAt_mem h3 hT;have h8:=set_of h6;subst hT;simp only [takeB,Bool.and_eq_true];exact ⟨⟨⟨⟨⟨h1,by rw [free_eq];exact h2⟩,h7⟩,by rw [closed_eq];exact h4⟩,by rw [last_eq];exact h5⟩,h8⟩
theorem one_of (hT : rtab md ops = T) (h : (readyT T.2 l.toList == [i] && l.toList.set i true == l'.toList) = true) : readyB md ops l l' i = true:=by
  simp only [Bool.and_eq_true] at h;obtain ⟨h1,h2⟩:=h;subst hT;simp only [readyB,Bool.and_eq_true];exact ⟨by rw [ready_eq];exact h1,set_of h2⟩
theorem two_of (hT : rtab md ops = T) (h : (readyT T.2 l.toList == [i,j] && l.toList.set i true == li.toList && l.toList.set j true == lj.toList) = true) : (Region.ready md ops l == [i,j] && l.setIfInBounds i true == li && l.setIfInBounds j true == lj) = true:=by
  simp only [Bool.and_eq_true] at h ⊢;obtain ⟨⟨h1,h2⟩,h3⟩:=h;subst hT;exact ⟨⟨by rw [ready_eq];exact h1,set_of h2⟩,set_of h3⟩
theorem three_of (hT : rtab md ops = T) (h : (readyT T.2 l.toList == [i,j,k] && l.toList.set i true == li.toList && l.toList.set j true == lj.toList && l.toList.set k true == lk.toList) = true) :
    (Region.ready md ops l == [i,j,k] && l.setIfInBounds i true == li && l.setIfInBounds j true == lj && l.setIfInBounds k true == lk) = true:=by
  simp only [Bool.and_eq_true] at h ⊢;obtain ⟨⟨⟨h1,h2⟩,h3⟩,h4⟩:=h;subst hT;exact ⟨⟨⟨by rw [ready_eq];exact h1,set_of h2⟩,set_of h3⟩,set_of h4⟩
theorem done_of (hT : rtab md ops = T) (h : (readyT T.2 l.toList == []) = true) : (Region.ready md ops l == []) = true:=by
  subst hT;rw [ready_eq];exact h
def upM (B : List Nat) (d : Nat) : List Nat → Nat
  | [] => 0
  | n :: r => (2 ^ n ||| (if n < d then B.getD n 0 else 0)) ||| upM B d r
def waitsOk (T : List (List Nat × List Nat)) (B : List Nat) : Bool:=(List.range T.length).all fun d => match T[d]? with
  | some r => (B.getD d 0 ||| upM B d r.1) == upM B d r.1
  | none => false
theorem upM_bit {B : List Nat} {d i : Nat} : ∀ {ns : List Nat},(upM B d ns).testBit i = true → ∃ n ∈ ns,n = i ∨ (n < d ∧ (B.getD n 0).testBit i = true)
  | [],h => by simp [upM] at h
  | n :: r,h => by
    unfold upM at h;rw [Nat.testBit_or,Nat.testBit_or,Bool.or_eq_true,Bool.or_eq_true] at h;rcases h with (h | h) | h
    · rw [Nat.testBit_two_pow] at h
      exact ⟨n,List.mem_cons_self,.inl (by simpa using h)⟩
    · by_cases hn : n < d
      · rw [if_pos hn] at h
        exact ⟨n,List.mem_cons_self,.inr ⟨hn,h⟩⟩
      · rw [if_neg hn] at h
        simp at h
    · obtain ⟨m,hm,h2⟩:=upM_bit h
      exact ⟨m,List.mem_cons_of_mem _ hm,h2⟩
theorem reach_bit {T : List (List Nat × List Nat)} {B : List Nat} (hB : waitsOk T B = true) : ∀ (fuel d : Nat),d < fuel → d < T.length → (B.getD d 0).testBit i = true → reachT T i fuel d = true
  | 0,d,h,_,_ => by omega
  | fuel + 1,d,h,hd,hb => by
    have h1:=List.all_eq_true.1 hB d (List.mem_range.2 hd)
    cases hr : T[d]? with
    | none => rw [hr] at h1;simp at h1
    | some r =>
      rw [hr] at h1;simp only [beq_iff_eq] at h1;have h2 : (upM B d r.1).testBit i = true:=by rw [← h1,Nat.testBit_or,hb,Bool.true_or]
      obtain ⟨n,hn,h3⟩:=upM_bit h2;unfold reachT;rw [hr];simp only;rw [List.any_eq_true];refine ⟨n,hn,?_⟩;rcases h3 with rfl | ⟨h4,h5⟩
      · simp
      · rw [reach_bit hB fuel n (by omega) (by omega) h5,Bool.or_true]
def lastW (T : List (List Nat × List Nat)) (B : List Nat) (l : List Bool) (ds : List Nat) (i : Nat) : Bool:=ds.all fun d => l.getD d true || (decide (d < T.length) && (B.getD d 0).testBit i)
def takeW (T : Bool × List (List Nat × List Nat)) (B : List Nat) (ds : List Nat) (l l' : List Bool) (i : Nat) : Bool:=T.1 && freeT T.2 l i && readyAt T.2 l i && closedT T.2 l && lastW T.2 B l ds i && (l.set i true == l')
theorem take_ofW {B : List Nat} (hT : rtab md ops = T) (hB : waitsOk T.2 B = true) (h : takeW T B ds l.toList l'.toList i = true) : takeB md ops ds l l' i = true:=by
  refine take_of hT ?_;simp only [takeW,takeT,Bool.and_eq_true] at h ⊢;obtain ⟨⟨⟨⟨⟨h1,h2⟩,h3⟩,h4⟩,h5⟩,h6⟩:=h;refine ⟨⟨⟨⟨⟨h1,h2⟩,h3⟩,h4⟩,?_⟩,h6⟩;unfold lastW at h5;unfold lastT;rw [List.all_eq_true] at h5 ⊢;intro d hd;have h7:=h5 d hd;rw [Bool.or_eq_true,Bool.and_eq_true,decide_eq_true_eq] at h7;rcases h7 with h7 | ⟨h8,h9⟩
  · rw [h7,Bool.true_or]
  · rw [reach_bit hB _ d h8 h8 h9,Bool.or_true]
theorem with_tabW {P : Program} {Q : Exit → Act → World → Prop} {S : World → Prop} {n : Nat} {a : Act} {w : World} {B : List Nat} (hT : rtab md ops = T) (hB : waitsOk T.2 B = true) (h : Aside0 (rtab md ops = T) → Aside0 (waitsOk T.2 B = true) → wpAnyLast P md ops Q S ds n l a w) : wpAnyLast P md ops Q S ds n l a w:=h ⟨hT⟩ ⟨hB⟩
end
def opsIn : Code → Nat → Option (Array Oper)
  | .region id ops _,k => if id == k then some ops else none
  | .seq a b,k => match opsIn a k with
    | some o => some o
    | none => opsIn b k
  | .cond _ a b,k => match opsIn a k with
    | some o => some o
    | none => opsIn b k
  | .block _ c,k => opsIn c k
  | .loop c,k => opsIn c k
  | .scope c,k => opsIn c k
  | .rangeFunc _ _ a b,k => match opsIn a k with
    | some o => some o
    | none => opsIn b k
  | _,_ => none
def opsOf (f : Func) (k : Nat) : Array Oper:=((f.body.bind fun c => opsIn c k)).getD #[]
end Go.Proofs.YtodibpddlibneaaGreatDoorW.PrintLast
namespace Go.Proofs.YtodibpddlibneaaGreatDoorW.PrintLast
section
variable {P : Program} {ops : Array Oper} {Q : Exit → Act → World → Prop} {md : Region.Mode} {S : World → Prop} {ds : List Nat} {T : Bool × List (List Nat × List Nat)}
end
def up (b : Nat → Bool) (i : Nat) : Nat → Bool:=fun j => if j = i then true else b j
end Go.Proofs.YtodibpddlibneaaGreatDoorW.PrintLast
namespace Go.Proofs.YtodibpddlibneaaGreatDoorW.PrintMore
open Go.RowKit Go.Proofs.YtodibpddlibneaaGreatDoorW.PrintWords
theorem max2_int (k k' : IntKind) (x y : Int) : Builtin.max2 (.int k x) (.int k' y) = pure (.int k (if x < y then y else x)):=by simp only [Builtin.max2,gt_iff_lt]
theorem min2_int (k k' : IntKind) (x y : Int) : Builtin.min2 (.int k x) (.int k' y) = pure (.int k (if y < x then y else x)):=by simp only [Builtin.min2]
theorem max_two (ats : Array TypeId) (ty : TypeId) (a b : Value) : Builtin.max_ ats ty #[a,b] = (Builtin.max2 a b >>= fun s => pure s):=by simp only [Builtin.max_,List.foldlM_cons,List.foldlM_nil]
theorem min_two (ats : Array TypeId) (ty : TypeId) (a b : Value) : Builtin.min_ ats ty #[a,b] = (Builtin.min2 a b >>= fun s => pure s):=by simp only [Builtin.min_,List.foldlM_cons,List.foldlM_nil]
theorem max_three (ats : Array TypeId) (ty : TypeId) (a b c : Value) : Builtin.max_ ats ty #[a,b,c] = (Builtin.max2 a b >>= fun s => Builtin.max2 s c >>= fun s => pure s):=by simp only [Builtin.max_,List.foldlM_cons,List.foldlM_nil]
theorem min_three (ats : Array TypeId) (ty : TypeId) (a b c : Value) : Builtin.min_ ats ty #[a,b,c] = (Builtin.min2 a b >>= fun s => Builtin.min2 s c >>= fun s => pure s):=by simp only [Builtin.min_,List.foldlM_cons,List.foldlM_nil]
theorem max_four (ats : Array TypeId) (ty : TypeId) (a b c d : Value) : Builtin.max_ ats ty #[a,b,c,d] = (Builtin.max2 a b >>= fun s => Builtin.max2 s c >>= fun s => Builtin.max2 s d >>= fun s => pure s):=by simp only [Builtin.max_,List.foldlM_cons,List.foldlM_nil]
theorem min_four (ats : Array TypeId) (ty : TypeId) (a b c d : Value) : Builtin.min_ ats ty #[a,b,c,d] = (Builtin.min2 a b >>= fun s => Builtin.min2 s c >>= fun s => Builtin.min2 s d >>= fun s => pure s):=by simp only [Builtin.min_,List.foldlM_cons,List.foldlM_nil]
end Go.Proofs.YtodibpddlibneaaGreatDoorW.PrintMore
namespace Go.Proofs.YtodibpddlibneaaGreatDoorW.PrintWords
open Go.RowKit
section
variable {P : Program} {ops : Array Oper} {rest : List Oper} {o : Oper} {a : Act} {Q : Exit → Act → World → Prop} {W : World}
theorem gate_callee {f : FuncId} {«as» : Array Operand} {ts : Array TypeId} (_ho : o.op = .call { callee:=.value (.func f),args:=«as»,argTypes:=ts }) (h : wpList P ops Q (o :: rest) a W) : wpList P ops Q (o :: rest) a W:=h
end
def mx (a b : Int) : Int:=if a < b then b else a
def shl (k : IntKind) (x y : Int) : Int:=k.wrap (x * 2 ^ min y.toNat k.bits)
def shr (k : IntKind) (x y : Int) : Int:=x / 2 ^ min y.toNat k.bits
theorem shl_small {k : IntKind} {x y j : Int} (h : shl k x y = j) (hy : y ≤ k.bits) : k.wrap (x * 2 ^ y.toNat) = j:=by rw [← h];unfold shl;rw [Nat.min_eq_left (by omega)]
theorem shr_small {k : IntKind} {x y j : Int} (h : shr k x y = j) (hy : y ≤ k.bits) : x / 2 ^ y.toNat = j:=by rw [← h];unfold shr;rw [Nat.min_eq_left (by omega)]
theorem drewN_self (w : World) (n : Nat) : w.drewN n = w.drewN n:=rfl
namespace Kd
def V {α : Type} (d : Kd α) (_e : Nat) (W : World) (_base : Nat) (ok : Nat → Prop) (v : Value) (xs : List α) : Prop:=∃ A c,v = .slice A xs.length c ∧ xs.length ≤ c ∧ F d W ok A xs.length xs
end Kd
end Go.Proofs.YtodibpddlibneaaGreatDoorW.PrintWords
namespace Go.Proofs.YtodibpddlibneaaGreatDoorW.PrintWords
theorem Reps.one {α : Type} {R : α → List Value → Prop} {ps : List α} {cs : List Value} {p : α} {v : Value} (hp : R p [v]) (h : Reps R 1 ps cs) : Reps R 1 (p :: ps) (v :: cs):=by
  refine ⟨by simp [h.1],fun j q hq => ?_⟩
  cases j with
  | zero =>
    simp only [List.getElem?_cons_zero,Option.some.injEq] at hq;subst hq;simpa using hp
  | succ j =>
    simp only [List.getElem?_cons_succ] at hq;have h1:=h.2 j q hq;simpa [Nat.mul_one] using h1
end Go.Proofs.YtodibpddlibneaaGreatDoorW.PrintWords
namespace Go.Proofs.YtodibpddlibneaaGreatDoorW.PrintMore
open Go.RowKit Go.Proofs.YtodibpddlibneaaGreatDoorW.PrintWords Go.Proofs.YtodibpddlibneaaGreatDoorW.PrintLast
/-- What the session's program writes for short: arguments that are shown by always the same steps. -/
theorem bA {w W : World} (h : Below w.heap.size w W:=by repeat (first | (with_reducible first | exact HB.out | apply below_alloc | apply pw_below_drewN | apply below_drew1 | refine below_set ?_ (Aside0.out (by assumption))) | exact HB.out)) : Below w.heap.size w W:=h
theorem aA {xs ys : Array Value} (h : xs = ys:=by (try simp only [List.map_toArray,List.map_cons,List.map_nil]);first | done | rfl | (simp only [List.length_drop,List.length_take];rfl)) : xs = ys:=h
theorem gwA {g : Nat} {w W : World} (hg : g = W.heap.size) (h : Below w.heap.size w W) : w.heap.size ≤ g:=by rw [hg];exact below_size h
theorem neA {g g2 : Nat} {W : World} {o : Obj} (hg : g2 = W.heap.size) (h : W.heap[g]? = some o) : g ≠ g2:=by rw [hg];exact Nat.ne_of_lt (blk_lt h)
theorem neB {g g2 : Nat} {W : World} {o : Obj} (hg : g2 = W.heap.size) (h : W.heap[g]? = some o) : g2 ≠ g:=by rw [hg];exact Nat.ne_of_gt (blk_lt h)
theorem kA {w : World} {g : Nat} {o : Obj} (h : w.heap[g]? = some o:=by (with_reducible repeat (first | refine blk_drewN ?_ _ | refine blk_drew ?_ | refine blk_alloc ?_ _));exact Aside0.out (by assumption)) : w.heap[g]? = some o:=h
theorem kb_ {w w1 : World} {g : Nat} {o : Obj} (hb : Below w.heap.size w w1) (h : w.heap[g]? = some o:=by exact kA) : Aside0 (w1.heap[g]? = some o):=⟨blk_below h hb⟩
theorem hb_ {w W w2 : World} (k : Below W.heap.size W w2) (h : Below w.heap.size w W:=by exact bA) : Aside0 (Below w.heap.size w w2):=⟨below_step h k⟩
theorem gW_ {g : Nat} {w W : World} (hg : g = W.heap.size) (h : Below w.heap.size w W:=by exact bA) : Aside0 (w.heap.size ≤ g):=⟨gwA hg h⟩
theorem nA_ {g g2 : Nat} {W : World} {o : Obj} (hg : g2 = W.heap.size) (h : W.heap[g]? = some o:=by exact kA) : Aside0 (g ≠ g2):=⟨neA hg h⟩
theorem nB_ {g g2 : Nat} {W : World} {o : Obj} (hg : g2 = W.heap.size) (h : W.heap[g]? = some o:=by exact kA) : Aside0 (g2 ≠ g):=⟨neB hg h⟩
section
variable {P : Program} {ops : Array Oper} {rest : List Oper} {o : Oper} {a : Act} {Q : Exit → Act → World → Prop}
theorem bxA {W : World} (N : Tmp) (cs : Array Value) (t : TypeId)
    (h : ∀ g,g = W.heap.size → ∀ w1,w1.heap[g]? = some (.cells cs t (0,0)) → Below W.heap.size W w1 → wpList P ops Q rest (a.put o.dst (.pointer (some ⟨g,0,none⟩))) w1)
    (hd : o.dst = some N:=by rfl) (hgd : o.guard = none:=by rfl)
    (hrun : (execOp a.eval o).run P W = .ok (.value (.pointer (some ⟨W.heap.size,0,none⟩))) (W.alloc (.cells cs t (0,0))):=by first | (go_simp;done) | (go_simp;rfl)) : wpList P ops Q (o :: rest) a W:=box_event hgd hd hrun h
end
end Go.Proofs.YtodibpddlibneaaGreatDoorW.PrintMore
namespace Go.Proofs.YtodibpddlibneaaGreatDoorW.PrintLast
open Go.Proofs.YtodibpddlibneaaGreatDoorW.PrintWords
theorem NR : (∀ (a : Act) (d : Tmp) (v : Value), Act.put a (some d) v = { a with tmps := a.tmps.setIfInBounds d v }) ∧ (∀ (a : Act) (v : Value), Act.put a none v = a) ∧ (∀ (l : List Value) (i : Nat) (a : Value), l.toArray.setIfInBounds i a = (l.set i a).toArray) ∧ (∀ (a b : Value) (l : List Value), (b :: l).set 0 a = a :: l) ∧ (∀ (a b : Value) (l : List Value) (i : Nat), (b :: l).set (i + 1) a = b :: l.set i a) ∧ (∀ n : Int, IntKind.i64.wrap n = Go.RowKit.wrap64 n) ∧ (∀ n : Int, IntKind.i32.wrap n = Go.RowKit.wrap32 n) :=
  ⟨fun _ _ _ => rfl, fun _ _ => rfl, fun l i a => by simp, fun _ _ _ => rfl, fun _ _ _ _ => rfl, i64_w, i32_w⟩
theorem Am {p : Prop} (h : p) : Aside0 p := ⟨h⟩
def bm (n k : Nat) : Array Bool := ((List.range n).map fun i => k.testBit i).toArray
abbrev yy : Bool := true
abbrev nn : Bool := false
theorem b1 {w : World} {g : Nat} {o : Obj} (h : w.heap[g]? = some o) (n : Nat) : (w.drewN n).heap[g]? = some o := h
theorem b2 {w : World} {g : Nat} {o : Obj} (h : w.heap[g]? = some o) : w.drew.heap[g]? = some o := h
theorem b3 {w : World} {g : Nat} {o : Obj} (h : w.heap[g]? = some o) (o' : Obj) : (w.alloc o').heap[g]? = some o := blk_alloc h o'
end Go.Proofs.YtodibpddlibneaaGreatDoorW.PrintLast
namespace Go.Proofs.YtodibpddlibneaaGreatDoorW.PrintLast
open Go.RowKit Go.Proofs.YtodibpddlibneaaGreatDoorW.PrintWords Go.Proofs.YtodibpddlibneaaGreatDoorW.PrintMore
section
variable {P : Program} {ops : Array Oper} {Q : Exit → Act → World → Prop} {md : Region.Mode} {S : World → Prop} {ds : List Nat}
theorem pu_ (i : Nat) (N : Option Tmp) {oi : Oper} {v : Value} {fuel : Nat} {l : Array Bool} {a : Act} {w : World} (l' : Array Bool) (hc : anyB md ops l l' i = true) {a' : Act}
    (h : wpAnyLast P md ops Q S ds fuel l' a' w) (hi : ops[i]? = some oi := by rfl) (hN : oi.dst = N := by rfl) (hQ : ∀ c a w, Q (.panic c) (a.put oi.dst v) w → Q (.panic c) a w := by exact (fun _ _ _ h => h))
    (hy : Yields P ops oi v a := by (refine Or.inl ⟨by rfl, ?_⟩; intro w'; go_simp; with_reducible rfl)) (ha : a.put N v = a' := by (simp only [NR]; rfl)) : wpAnyLast P md ops Q S ds (fuel + 1) l a w := pure_ l' hi hN hc hQ hy ha h
theorem tk_ (i : Nat) (N : Option Tmp) {oi : Oper} {v : Value} {fuel : Nat} {l : Array Bool} {a : Act} {w : World} (l' : Array Bool) (hc : takeB md ops ds l l' i = true) {a' : Act} (hS : S w)
    (h : wpAnyLast P md ops Q S ds fuel l' a' w) (hi : ops[i]? = some oi := by rfl) (hN : oi.dst = N := by rfl) (hQ : ∀ c a w, Q (.panic c) (a.put oi.dst v) w → Q (.panic c) a w := by exact (fun _ _ _ h => h))
    (hy : YieldsIf P ops S oi v a := by (refine Or.inl ⟨by rfl, ?_⟩; intro w' s0; go_simp; with_reducible rfl)) (ha : a.put N v = a' := by (simp only [NR]; rfl)) : wpAnyLast P md ops Q S ds (fuel + 1) l a w := take_ l' hi hN hc hQ hy hS ha h
end
theorem k2 {w : World} {g : Nat} {x0 x1 : Value} {t : TypeId} (h : w.heap[g]? = some (.cells #[x0,x1] t (0,0))) : w.cell? ⟨g,0,none⟩ = some x0 ∧ w.cell? ⟨g,1,none⟩ = some x1 ∧ w.frozen? ⟨g,0,none⟩ = false ∧ w.frozen? ⟨g,1,none⟩ = false :=
  ⟨(blk_cell h 0).trans rfl, (blk_cell h 1).trans rfl, blk_frozen h 0, blk_frozen h 1⟩
theorem k8 {w : World} {g : Nat} {x0 x1 x2 x3 x4 x5 x6 x7 : Value} {t : TypeId} (h : w.heap[g]? = some (.cells #[x0,x1,x2,x3,x4,x5,x6,x7] t (0,0))) :
    w.cell? ⟨g,0,none⟩ = some x0 ∧ w.cell? ⟨g,1,none⟩ = some x1 ∧ w.cell? ⟨g,2,none⟩ = some x2 ∧ w.cell? ⟨g,3,none⟩ = some x3 ∧ w.cell? ⟨g,4,none⟩ = some x4 ∧ w.cell? ⟨g,5,none⟩ = some x5 ∧ w.cell? ⟨g,6,none⟩ = some x6 ∧ w.cell? ⟨g,7,none⟩ = some x7 ∧ w.frozen? ⟨g,0,none⟩ = false ∧ w.frozen? ⟨g,1,none⟩ = false ∧ w.frozen? ⟨g,2,none⟩ = false ∧ w.frozen? ⟨g,3,none⟩ = false ∧ w.frozen? ⟨g,4,none⟩ = false ∧ w.frozen? ⟨g,5,none⟩ = false ∧ w.frozen? ⟨g,6,none⟩ = false ∧ w.frozen? ⟨g,7,none⟩ = false :=
  ⟨(blk_cell h 0).trans rfl, (blk_cell h 1).trans rfl, (blk_cell h 2).trans rfl, (blk_cell h 3).trans rfl, (blk_cell h 4).trans rfl, (blk_cell h 5).trans rfl, (blk_cell h 6).trans rfl, (blk_cell h 7).trans rfl, blk_frozen h 0, blk_frozen h 1, blk_frozen h 2, blk_frozen h 3, blk_frozen h 4, blk_frozen h 5, blk_frozen h 6, blk_frozen h 7⟩
theorem bnd {α β : Type} {x : Option α} {f : α → Option β} {r : β} (h : x.bind f = some r) : ∃ a, Aside0 (x = some a) ∧ f a = some r := by
  obtain ⟨a, h1, h2⟩ := Option.bind_eq_some_iff.mp h;exact ⟨a, ⟨h1⟩, h2⟩
theorem q2 {w : World} {g : Nat} {x0 x1 : Value} {t : TypeId} (h : w.heap[g]? = some (.cells #[x0,x1] t (0,0))) : w.cell? ⟨g,0,none⟩ = some x0 ∧ w.cell? ⟨g,1,none⟩ = some x1 := ⟨(blk_cell h 0).trans rfl, (blk_cell h 1).trans rfl⟩
theorem q8 {w : World} {g : Nat} {x0 x1 x2 x3 x4 x5 x6 x7 : Value} {t : TypeId} (h : w.heap[g]? = some (.cells #[x0,x1,x2,x3,x4,x5,x6,x7] t (0,0))) :
    w.cell? ⟨g,0,none⟩ = some x0 ∧ w.cell? ⟨g,1,none⟩ = some x1 ∧ w.cell? ⟨g,2,none⟩ = some x2 ∧ w.cell? ⟨g,3,none⟩ = some x3 ∧ w.cell? ⟨g,4,none⟩ = some x4 ∧ w.cell? ⟨g,5,none⟩ = some x5 ∧ w.cell? ⟨g,6,none⟩ = some x6 ∧ w.cell? ⟨g,7,none⟩ = some x7 :=
  ⟨(blk_cell h 0).trans rfl, (blk_cell h 1).trans rfl, (blk_cell h 2).trans rfl, (blk_cell h 3).trans rfl, (blk_cell h 4).trans rfl, (blk_cell h 5).trans rfl, (blk_cell h 6).trans rfl, (blk_cell h 7).trans rfl⟩
theorem cl {w : World} {g : Nat} {t : TypeId} {cs : Array Value} {v : Value} (h : w.heap[g]? = some (.cells cs t (0,0))) (i : Nat) (e : cs[i]? = some v := by rfl) : w.cell? ⟨g,i,none⟩ = some v := (blk_cell h i).trans e
section
variable {P : Program} {ops : Array Oper} {Q : Exit → Act → World → Prop} {md : Region.Mode} {S : World → Prop} {ds : List Nat}
theorem nm_ {fuel : Nat} {l : Array Bool} {a a' : Act} {w : World} (h : wpAnyLast P md ops Q S ds fuel l a' w) (ha : a = a' := by (show Act.put _ (some _) _ = _; simp only [NR]; rfl)) : wpAnyLast P md ops Q S ds fuel l a w := norm_ ha h
theorem nj_ {fuel : Nat} {l : Array Bool} {a a' : Act} {w : World} (h : wpAnyLast P md ops Q S ds fuel l a' w) (ha : a = a' := by first | (simp only [putAll,Act.put,List.setIfInBounds_toArray,List.set_cons_zero,List.set_cons_succ];done) | (simp only [putAll,Act.put,List.setIfInBounds_toArray,List.set_cons_zero,List.set_cons_succ];rfl)) : wpAnyLast P md ops Q S ds fuel l a w := norm_ ha h
end
theorem kF {w : World} {g : Nat} {o : Obj} (h : w.heap[g]? = some o := by (with_reducible repeat (first | refine b1 ?_ _ | refine b2 ?_ | refine b3 ?_ _ | refine blk_far ?_ (Aside0.out (by assumption)) _)); exact Aside0.out (by assumption)) : w.heap[g]? = some o := h
theorem eA {p : Prop} {w W : World} (h : p := by first | rfl | (simp [errW_none,errW_some] <;> rfl) | (simp [*,errW_none,errW_some] <;> rfl)) (hb : Below w.heap.size w W := by exact bA) : p ∧ Below w.heap.size w W := ⟨h, hb⟩
end Go.Proofs.YtodibpddlibneaaGreatDoorW.PrintLast
namespace Go.Proofs.YtodibpddlibneaaGreatDoor.H
open Go.RowKit YtodibpddlibneaaGreatDoorW.PrintWords
set_option linter.unusedVariables false
set_option linter.unusedSimpArgs false
theorem gb_setCell (w : World) (g o : Nat) (v : Value) : w.grownBy (w.setCell ⟨g,o,none⟩ v) (some g):=
  ⟨rfl,rfl,rfl,by simp [World.setCell],fun k hk hne => by
    have : k ≠ g:=fun e => hne (by rw [e])
    exact Below.heap_setCell _ _ _ _ this⟩
theorem gb_drewN (w : World) (n : Nat) (row : Option Nat) : w.grownBy (w.drewN n) row:=⟨rfl,rfl,rfl,Nat.le_refl _,fun _ _ _ => rfl⟩
theorem gb_drew (w : World) (row : Option Nat) : w.grownBy w.drew row:=⟨rfl,rfl,rfl,Nat.le_refl _,fun _ _ _ => rfl⟩
theorem gb_refl (w : World) (row : Option Nat) : w.grownBy w row:=⟨rfl,rfl,rfl,Nat.le_refl _,fun _ _ _ => rfl⟩
theorem gb_any {w w' : World} (h : w.grownBy w' none) (row : Option Nat) : w.grownBy w' row:=⟨h.os,h.tape,h.output,h.size,fun k hk _ => h.block k hk (by simp)⟩
theorem gb_of_below {w w' : World} (h : Below w.heap.size w w') (row : Option Nat) : w.grownBy w' row:=⟨h.os,h.tape,h.output,h.size,fun k hk _ => h.block k hk⟩
theorem below_of_gb {w w' : World} (h : w.grownBy w' none) : Below w.heap.size w w':=⟨h.os,h.tape,h.output,h.size,fun k hk => h.block k hk (by simp)⟩
theorem below_gb {B : Nat} {w W W' : World} {row : Option Nat} (h : Below B w W) (hg : W.grownBy W' row) (hB : B ≤ W.heap.size) (hr : ∀ k,row = some k → B ≤ k) : Below B w W':=h.grown hg hB hr
/-- A block that is new since w may be written: what was there at w stands. -/
theorem gb_new {w w1 w2 : World} {row : Option Nat} {g : Nat} (h : w.grownBy w1 row) (hg : w1.grownBy w2 (some g)) (hn : w.heap.size ≤ g) : w.grownBy w2 row:=
  ⟨hg.os.trans h.os,hg.tape.trans h.tape,hg.output.trans h.output,Nat.le_trans h.size hg.size,fun k hk hne => (hg.block k (Nat.lt_of_lt_of_le hk h.size) (fun e => by injection e with e;omega)).trans (h.block k hk hne)⟩
theorem blk_kept {w w' : World} {row : Option Nat} {g : Nat} {o : Obj} (h : w.heap[g]? = some o) (hg : w.grownBy w' row) (hne : some g ≠ row) : w'.heap[g]? = some o:=by
  rw [hg.block g (Array.getElem?_eq_some_iff.1 h).1 hne];exact h
theorem blk_lt' {w : World} {g : Nat} {o : Obj} (h : w.heap[g]? = some o) : g < w.heap.size:=(Array.getElem?_eq_some_iff.1 h).1
theorem add_block (ad : Addr) (j : Nat) : (ad.add j).block = ad.block:=by unfold Addr.add;split <;> rfl
theorem add_add (ad : Addr) (i j : Nat) : (ad.add i).add j = ad.add (i + j):=by
  unfold Addr.add
  by_cases h1 : i = 0 <;> by_cases h2 : j = 0 <;> simp [h1,h2,Nat.add_assoc]

structure Enc (α : Type) where
  sz : Nat
  enc : α → List Value
  len : ∀ x,(enc x).length = sz
  one : ∀ x,∀ v ∈ enc x,v.oneCell' = true
  pos : 0 < sz
def flat {α : Type} (E : Enc α) (xs : List α) : List Value:=(xs.map E.enc).flatten
theorem flat_len {α : Type} (E : Enc α) : ∀ xs : List α,(flat E xs).length = xs.length * E.sz
  | [] => by simp [flat]
  | x :: r => by
    have:=flat_len E r;simp only [flat,List.map_cons,List.flatten_cons,List.length_append,List.length_cons,E.len] at this ⊢;rw [this,Nat.add_mul];omega
theorem flat_nil {α : Type} (E : Enc α) : flat E [] = []:=rfl
theorem flat_cons {α : Type} (E : Enc α) (x : α) (r : List α) : flat E (x :: r) = E.enc x ++ flat E r:=by simp [flat]
theorem flat_append {α : Type} (E : Enc α) (xs ys : List α) : flat E (xs ++ ys) = flat E xs ++ flat E ys:=by simp [flat]
theorem flat_oneCell {α : Type} (E : Enc α) (xs : List α) : ∀ v ∈ flat E xs,v.oneCell' = true:=by
  intro v hv;simp only [flat,List.mem_flatten,List.mem_map] at hv;obtain ⟨l,⟨x,_,rfl⟩,hv⟩:=hv;exact E.one x v hv
theorem flat_at {α : Type} (E : Enc α) : ∀ (xs : List α) (j i : Nat) (x : α),xs[j]? = some x → i < E.sz → (flat E xs)[j * E.sz + i]? = (E.enc x)[i]?
  | [],j,i,x,h,_ => by simp at h
  | y :: r,0,i,x,h,hi => by
    have : y = x:=by simpa using h
    subst this;rw [flat_cons,Nat.zero_mul,Nat.zero_add,List.getElem?_append_left (by rw [E.len];exact hi)]
  | y :: r,j + 1,i,x,h,hi => by
    have h' : r[j]? = some x:=by simpa using h
    rw [flat_cons,List.getElem?_append_right (by rw [E.len,Nat.add_mul];omega),E.len,← flat_at E r j i x h' hi]
    congr 1
    rw [Nat.add_mul];omega
theorem flat_take {α : Type} (E : Enc α) (xs : List α) (m : Nat) : flat E (xs.take m) = (flat E xs).take (m * E.sz):=by
  rcases Nat.lt_or_ge m xs.length with h | h
  · have e:=(List.take_append_drop m xs)
    have hl : (flat E (xs.take m)).length = m * E.sz:=by rw [flat_len,List.length_take];congr 1;omega
    calc flat E (xs.take m) = (flat E (xs.take m) ++ flat E (xs.drop m)).take (m * E.sz):=by rw [← hl,List.take_left'];rfl
      _ = _:=by rw [← flat_append,e]
  · rw [List.take_of_length_le h,List.take_of_length_le (by rw [flat_len];exact Nat.mul_le_mul_right _ h)]
theorem flat_drop {α : Type} (E : Enc α) (xs : List α) (m : Nat) (h : m ≤ xs.length) : flat E (xs.drop m) = (flat E xs).drop (m * E.sz):=by
  have e:=(List.take_append_drop m xs);have hl : (flat E (xs.take m)).length = m * E.sz:=by rw [flat_len,List.length_take];congr 1;omega
  have e2 : flat E xs = flat E (xs.take m) ++ flat E (xs.drop m):=by rw [← flat_append,e]
  rw [e2,← hl,List.drop_left'];rfl

/-- A slice that reads as a list. -/
def Rd {α : Type} (E : Enc α) (w : World) (A : Option Addr) (n : Nat) (xs : List α) : Prop:=
  xs.length = n ∧ n ≤ 9223372036854775807 ∧ (0 < n → ∃ ad,A = some ad ∧ ∀ i v,(flat E xs)[i]? = some v → w.cell? (ad.add i) = some v)
theorem Rd.kept {α : Type} {E : Enc α} {w w' : World} {A : Option Addr} {n : Nat} {xs : List α} {row : Option Nat} (h : Rd E w A n xs) (hg : w.grownBy w' row) (hne : ∀ ad,A = some ad → some ad.block ≠ row) : Rd E w' A n xs:=
  ⟨h.1,h.2.1,fun hn => by
    obtain ⟨ad,e,hc⟩:=h.2.2 hn;exact ⟨ad,e,fun i v hv => hg.cell (hc i v hv) (by rw [add_block];exact hne ad e)⟩⟩
theorem Rd.gb {α : Type} {E : Enc α} {w w' : World} {A : Option Addr} {n : Nat} {xs : List α} (h : Rd E w A n xs) (hg : w.grownBy w' none) : Rd E w' A n xs:=h.kept hg (by simp)
theorem Rd.below {α : Type} {E : Enc α} {w w' : World} {A : Option Addr} {n : Nat} {xs : List α} (h : Rd E w A n xs) (hb : Below w.heap.size w w') : Rd E w' A n xs:=h.gb (gb_of_below hb none)
theorem Rd.nil {α : Type} (E : Enc α) (w : World) (A : Option Addr) : Rd E w A 0 []:=⟨rfl,by omega,fun h => absurd h (by omega)⟩
/-- The cells of the element at j. -/
theorem Rd.at_ {α : Type} {E : Enc α} {w : World} {A : Option Addr} {n : Nat} {xs : List α} (h : Rd E w A n xs) (j : Nat) (hj : j < n) :
    ∃ ad x,A = some ad ∧ xs[j]? = some x ∧ ∀ i v,(E.enc x)[i]? = some v → w.cell? (ad.add (j * E.sz + i)) = some v:=by
  obtain ⟨ad,e,hc⟩:=h.2.2 (by omega);have hj' : j < xs.length:=by rw [h.1];exact hj
  refine ⟨ad,xs[j],e,lG hj',fun i v hv => ?_⟩;have hi : i < E.sz:=by
    rcases Nat.lt_or_ge i E.sz with hi | hi
    · exact hi
    · rw [List.getElem?_eq_none (by rw [E.len];exact hi)] at hv;cases hv
  exact hc _ v (by rw [flat_at E xs j i _ (lG hj') hi];exact hv)
theorem Rd.take_ {α : Type} {E : Enc α} {w : World} {A : Option Addr} {n : Nat} {xs : List α} (h : Rd E w A n xs) (m : Nat) (hm : m ≤ n) : Rd E w A m (xs.take m):=by
  refine ⟨by rw [List.length_take,h.1];omega,by have:=h.2.1;omega,fun hp => ?_⟩;obtain ⟨ad,e,hc⟩:=h.2.2 (by omega);refine ⟨ad,e,fun i v hv => hc i v ?_⟩;rw [flat_take,List.getElem?_take] at hv;split at hv
  · exact hv
  · cases hv
theorem Rd.drop_ {α : Type} {E : Enc α} {w : World} {A : Option Addr} {n c : Nat} {xs : List α} (h : Rd E w A n xs) (m : Nat) (hm : m ≤ n) (hc : n ≤ c) : Rd E w (if c = m then A else A.map (·.add (m * E.sz))) (n - m) (xs.drop m):=by
  refine ⟨by rw [List.length_drop,h.1],by have:=h.2.1;omega,fun hp => ?_⟩;obtain ⟨ad,rfl,hcell⟩:=h.2.2 (by omega);rw [if_neg (by omega)];refine ⟨ad.add (m * E.sz),rfl,fun i v hv => ?_⟩;rw [add_add];refine hcell _ v ?_;rw [flat_drop E xs m (by rw [h.1];exact hm),List.getElem?_drop] at hv;exact hv
/-- 'xs[m:]' without a case on the capacity. -/
theorem cut_at {P : Program} {α : Type} (E : Enc α) (t e : TypeId) (kl : IntKind) {i : TypeInfo} (ht : P.underlying t = some (.slice e)) (hi : P.info? e = some i) (hsz : i.size = E.sz) (A : Option Addr) (n c m : Nat) (hm : m ≤ n) :
    ∃ A' : Option Addr,(∀ W : World,(Instr.slice t (.slice A n c) (some (.int kl (m : Int))) none none).run P W = .ok (.slice A' (n - m) (c - m)) W) ∧
      (∀ (w : World) (xs : List α),n ≤ c → Rd E w A n xs → Rd E w A' (n - m) (xs.drop m)) ∧ ∀ ad,A' = some ad → ∃ a0,A = some a0 ∧ ad.block = a0.block:=by
  refine ⟨if c = m then A else A.map (·.add (m * E.sz)),fun W => ?_,fun w xs hc h => h.drop_ m hm hc,fun ad h => ?_⟩
  · have:=cut_from t e kl ht hi E.sz hsz A n c (m : Int) (by omega) (by omega) W
    rw [Int.toNat_natCast] at this;exact this
  · split at h
    · exact ⟨ad,h,rfl⟩
    · obtain ⟨a0,ha,rfl⟩:=Option.map_eq_some_iff.1 h
      exact ⟨a0,ha,add_block _ _⟩
/-- A row of one's own,opened. -/
theorem own_open {α : Type} {E : Enc α} {w : World} {base n : Nat} {e : TypeId} {v : Value} {xs : List α} (hl : xs.length = n) (h : w.ownsRow base e E.sz v n (flat E xs)) :
    ∃ A c,v = .slice A n c ∧ Rd E w A n xs ∧ n ≤ c ∧ ∀ ad,A = some ad → base ≤ ad.block:=by
  rcases h.2 with ⟨rfl,rfl⟩ | ⟨g,cap,cur,rfl,hb,hg,hn,hm,hs,ht⟩
  · obtain rfl : xs = []:=List.eq_nil_of_length_eq_zero hl
    exact ⟨none,0,rfl,Rd.nil E w none,by omega,by simp⟩
  · refine ⟨some ⟨g,0,none⟩,cap,rfl,⟨hl,by simp only [maxLen] at hm;omega,fun _ => ⟨_,rfl,fun i v hv => ?_⟩⟩,hn,fun ad e => by cases e;exact hb⟩
    exact h.cells (g:=g) rfl i v hv
theorem own_kept {w w' : World} {base n : Nat} {e : TypeId} {size : Nat} {v : Value} {xs : List Value} {row : Option Nat} (h : w.ownsRow base e size v n xs) (hg : w.grownBy w' row) (hne : ∀ k,row = some k → k < base) : w'.ownsRow base e size v n xs:=
  h.kept hg (by
    cases hv : v.ownBlock with
    | none => exact .inl rfl
    | some g => exact .inr (fun he => by have h1:=(h.lt g hv).1;have h2:=hne g he.symm;omega))
theorem own_mono {w : World} {b b' n : Nat} {e : TypeId} {size : Nat} {v : Value} {xs : List Value} (h : w.ownsRow b e size v n xs) (hb : b' ≤ b) : w.ownsRow b' e size v n xs:=by
  refine ⟨h.1,?_⟩;rcases h.2 with h | ⟨g,cap,cur,h1,h2,h3⟩
  · exact .inl h
  · exact .inr ⟨g,cap,cur,h1,by omega,h3⟩
/-- A literal's row. -/
theorem rd_lit {α : Type} (E : Enc α) (w : World) (t : TypeId) (xs : List α) (h : xs.length ≤ 9223372036854775807) : Rd E (w.alloc (.cells (flat E xs).toArray t)) (some ⟨w.heap.size,0,none⟩) xs.length xs:=by
  have ho:=World.ownsRow_lit (base:=w.heap.size) (e:=t) (size:=E.sz) w (flat E xs).toArray xs.length (Nat.le_refl _) (by simpa [maxLen] using h) (by simp [flat_len]);obtain ⟨A,c,he,hr,_,_⟩:=own_open (E:=E) rfl (by simpa using ho);injection he with h1 h2 h3;rw [h1];exact hr
theorem rd_alloc {α : Type} {E : Enc α} {w : World} {A : Option Addr} {n : Nat} {xs : List α} (h : Rd E w A n xs) (o : Obj) : Rd E (w.alloc o) A n xs:=h.gb (gA w o none)
section
variable {P : Program} {ops : Array Oper} {rest : List Oper} {o : Oper} {a : Act} {Q : Exit → Act → World → Prop}
theorem wp_app {α : Type} (E : Enc α) {w : World} {K : Act → World → Prop} (base : Nat) (s x : Operand) (t e : TypeId) (z : Value) (bytes : Nat)
    (ho : o.op = .call { callee:=.builtin .append,args:=#[s,x],argTypes:=#[t,t] })
    (ht : P.underlying t = some (.slice e)) (hinfo : (P.info? e).map (fun i => (i.zero,i.size,i.bytes)) = some (some z,E.sz,bytes)) (hz : z.cells.size = E.sz) (hb0 : 0 < bytes)
    (v : Value) (n : Nat) (xs ys : List α) (A : Option Addr) (m c : Nat) (hs : a.eval s = v) (hx : a.eval x = .slice A m c) (hn : xs.length = n)
    (HO : w.ownsRow base e E.sz v n (flat E xs)) (HR : Rd E w A m ys) (hbase : base ≤ w.heap.size) (hl : (n + m) * bytes ≤ 140737488355328)
    (h : ∀ v1 w1,w1.ownsRow base e E.sz v1 (n + m) (flat E (xs ++ ys)) → w.grownBy w1 v.ownBlock → (v1 = .slice none 0 0 ↔ v = .slice none 0 0 ∧ m = 0) → K (a.put o.dst v1) w1) : o.wp P a w K Q:=by
  obtain ⟨i0,hi,hz0,hz1,hz2⟩:=info_parts hinfo;have hlen : n + m ≤ 140737488355328:=Nat.le_trans (Nat.le_mul_of_pos_right _ hb0) hl
  by_cases hA : ∃ ad,A = some ad
  · obtain ⟨ad,rfl⟩:=hA
    refine wp_append_own w s x t ho base e i0 z E.sz bytes ht hi hz0 hz1 hz2 hz E.pos v n (flat E xs) hs HO ad m c (flat E ys) hx (by rw [flat_len,HR.1]) ?_ (flat_oneCell E ys) (by simp only [maxLen];omega) hl hbase ?_
    · intro j u hu
      rcases Nat.eq_zero_or_pos m with h0 | h0
      · obtain rfl : ys = []:=List.eq_nil_of_length_eq_zero (HR.1.trans h0)
        simp [flat_nil] at hu
      · obtain ⟨ad',e',hc⟩:=HR.2.2 h0
        injection e' with e';subst e';exact hc j u hu
    · intro v1 w1 h1 h2 h3
      exact h v1 w1 (by rw [flat_append];exact h1) h2 h3
  · have hA' : A = none:=by cases A with | none => rfl | some ad => exact absurd ⟨ad,rfl⟩ hA
    subst hA';have h0 : m = 0:=by
      rcases Nat.eq_zero_or_pos m with h0 | h0
      · exact h0
      · obtain ⟨ad,h,_⟩:=HR.2.2 h0
        cases h
    subst h0;obtain rfl : ys = []:=List.eq_nil_of_length_eq_zero HR.1;have hrun : (Builtin.append_ #[t,t] o.type #[v,.slice none 0 c]).run P w = .ok v w:=by
      rcases HO.2 with ⟨rfl,hn0⟩ | ⟨g,cap,cur,rfl,_,_,hnc,_⟩
      · simp [Builtin.append_,run_underlying ht,sizeOf,typeInfo,hi,Builtin.lenOf,Builtin.firstCells]
      · simp [Builtin.append_,run_underlying ht,sizeOf,typeInfo,hi,Builtin.lenOf,Builtin.firstCells,hnc,storeCells]
    unfold Oper.wp execOp;simp only [ho,resolve,invoke,builtin,Sem.run_bind,Sem.run_pure,Result.andThen_ok,List.map_toArray,List.map_cons,List.map_nil,hs,hx,hrun];exact h v w (by simpa using HO) (gb_refl _ _) (by simp)
theorem app {α : Type} (E : Enc α) {w : World} (base : Nat) (hgd : o.guard = none) (s x : Operand) (t e : TypeId) (z : Value) (bytes : Nat)
    (ho : o.op = .call { callee:=.builtin .append,args:=#[s,x],argTypes:=#[t,t] })
    (ht : P.underlying t = some (.slice e)) (hinfo : (P.info? e).map (fun i => (i.zero,i.size,i.bytes)) = some (some z,E.sz,bytes)) (hz : z.cells.size = E.sz) (hb0 : 0 < bytes)
    (v : Value) (n : Nat) (xs ys : List α) (A : Option Addr) (m c : Nat) (hs : a.eval s = v) (hx : a.eval x = .slice A m c) (hn : xs.length = n)
    (HO : w.ownsRow base e E.sz v n (flat E xs)) (HR : Rd E w A m ys) (hbase : base ≤ w.heap.size) (hl : (n + m) * bytes ≤ 140737488355328)
    (h : ∀ v1 w1,w1.ownsRow base e E.sz v1 (n + m) (flat E (xs ++ ys)) → w.grownBy w1 v.ownBlock → (v1 = .slice none 0 0 ↔ v = .slice none 0 0 ∧ m = 0) → wpList P ops Q rest (a.put o.dst v1) w1) : wpList P ops Q (o :: rest) a w:=
  wpList_plain hgd fun K hK => wp_app E base s x t e z bytes ho ht hinfo hz hb0 v n xs ys A m c hs hx hn HO HR hbase hl fun v1 w1 h1 h2 h3 => hK _ _ (h v1 w1 h1 h2 h3)
theorem app_step {α : Type} (E : Enc α) {w : World} {K : Act → World → Prop} {E' : Prop} (hw : Region.wanted o (yielded ops a.tmps) = true) {N : Option Tmp} (hN : o.dst = N) (base : Nat) (s x : Operand) (t e : TypeId) (z : Value) (bytes : Nat)
    (ho : o.op = .call { callee:=.builtin .append,args:=#[s,x],argTypes:=#[t,t] })
    (ht : P.underlying t = some (.slice e)) (hinfo : (P.info? e).map (fun i => (i.zero,i.size,i.bytes)) = some (some z,E.sz,bytes)) (hz : z.cells.size = E.sz) (hb0 : 0 < bytes)
    (v : Value) (n : Nat) (xs ys : List α) (A : Option Addr) (m c : Nat) (hs : a.eval s = v) (hx : a.eval x = .slice A m c) (hn : xs.length = n)
    (HO : w.ownsRow base e E.sz v n (flat E xs)) (HR : Rd E w A m ys) (hbase : base ≤ w.heap.size) (hl : (n + m) * bytes ≤ 140737488355328)
    (h : ∀ v1 w1,w1.ownsRow base e E.sz v1 (n + m) (flat E (xs ++ ys)) → w.grownBy w1 v.ownBlock → (v1 = .slice none 0 0 ↔ v = .slice none 0 0 ∧ m = 0) → K (a.put N v1) w1) :
    if Region.wanted o (yielded ops a.tmps) = true then Oper.wp P o a w K Q else E':=by
  rw [if_pos hw];subst hN;exact wp_app E base s x t e z bytes ho ht hinfo hz hb0 v n xs ys A m c hs hx hn HO HR hbase hl h
end
/-- Whole numbers. -/
def Ei (k : IntKind) : Enc Int:=⟨1,fun x => [.int k x],fun _ => rfl,fun _ v hv => by simp at hv;subst hv;rfl,by decide⟩
theorem flat_nums (k : IntKind) (xs : List Int) : flat (Ei k) xs = nums k xs:=by
  induction xs with
  | nil => rfl
  | cons x r ih => rw [flat_cons,ih];simp [nums,Ei]
theorem rd_ints {w : World} {k : IntKind} {A : Option Addr} {n : Nat} {xs : List Int} (h : ReadsInt w k A n xs) : Rd (Ei k) w A n xs:=
  ⟨h.1,h.2.1,fun hn => by
    obtain ⟨ad,e,hc⟩:=h.2.2 hn;refine ⟨ad,e,fun i v hv => ?_⟩;rw [flat_nums] at hv;have hi : i < xs.length:=by
      rcases Nat.lt_or_ge i xs.length with hi | hi
      · exact hi
      · rw [List.getElem?_eq_none (by simpa [nums] using hi)] at hv;cases hv
    have:=hc i (by rw [← h.1];exact hi);rw [this];simp [nums,lG hi] at hv;subst hv;simp [List.getD_eq_getElem?_getD,lG hi]⟩
/-- The whole number at j. -/
theorem Rd.int {w : World} {k : IntKind} {A : Option Addr} {n : Nat} {xs : List Int} (h : Rd (Ei k) w A n xs) (j : Nat) (hj : j < n) : ∃ ad,A = some ad ∧ w.cell? (ad.add j) = some (.int k (rd xs (j : Int))):=by
  obtain ⟨ad,x,e,hx,hc⟩:=h.at_ j hj;refine ⟨ad,e,?_⟩
  have:=hc 0 _ rfl;rw [show j * (Ei k).sz + 0 = j by simp [Ei]] at this;rw [this];have : rd xs (j : Int) = x:=by simp [rd,List.getD_eq_getElem?_getD,hx]
  rw [this]
/-- What was there at w stands at w',but for the blocks of F. -/
structure Tn (w w' : World) (F : Nat → Prop) : Prop where
  os : w'.os = w.os
  tape : w'.tape = w.tape
  output : w'.output = w.output
  size : w.heap.size ≤ w'.heap.size
  block : ∀ k,k < w.heap.size → ¬ F k → w'.heap[k]? = w.heap[k]?
theorem Tn.refl (w : World) (F : Nat → Prop) : Tn w w F:=⟨rfl,rfl,rfl,Nat.le_refl _,fun _ _ _ => rfl⟩
theorem Tn.of_gb {w w' : World} {row : Option Nat} {F : Nat → Prop} (h : w.grownBy w' row) (hF : ∀ k,row = some k → F k) : Tn w w' F:=
  ⟨h.os,h.tape,h.output,h.size,fun k hk hn => h.block k hk (fun e => hn (hF k e.symm))⟩
theorem Tn.gb0 {w w' : World} (h : w.grownBy w' none) (F : Nat → Prop) : Tn w w' F:=Tn.of_gb h (by simp)
theorem Tn.trans {w w1 w2 : World} {F G : Nat → Prop} (h : Tn w w1 F) (k : Tn w1 w2 G) (hG : ∀ i,i < w.heap.size → G i → F i) : Tn w w2 F:=
  ⟨k.os.trans h.os,k.tape.trans h.tape,k.output.trans h.output,Nat.le_trans h.size k.size,fun i hi hn =>
    (k.block i (Nat.lt_of_lt_of_le hi h.size) (fun g => hn (hG i hi g))).trans (h.block i hi hn)⟩
theorem Tn.trans' {w w1 w2 : World} {F : Nat → Prop} (h : Tn w w1 F) (k : Tn w1 w2 F) : Tn w w2 F:=h.trans k (fun _ _ h => h)
theorem Tn.mono {w w1 : World} {F G : Nat → Prop} (h : Tn w w1 F) (hG : ∀ i,i < w.heap.size → F i → G i) : Tn w w1 G:=
  ⟨h.os,h.tape,h.output,h.size,fun i hi hn => h.block i hi (fun f => hn (hG i hi f))⟩
theorem Tn.below {w w1 : World} {F : Nat → Prop} {B : Nat} (h : Tn w w1 F) (hB : B ≤ w.heap.size) (hF : ∀ i,F i → B ≤ i) : Below B w w1:=
  ⟨h.os,h.tape,h.output,h.size,fun i hi => h.block i (by omega) (fun f => by have:=hF i f;omega)⟩
theorem Tn.set {w : World} (g o : Nat) (v : Value) {F : Nat → Prop} (hF : F g) : Tn w (w.setCell ⟨g,o,none⟩ v) F:=
  Tn.of_gb (gb_setCell w g o v) (fun k hk => by cases hk;exact hF)
theorem Tn.drew (w : World) (F : Nat → Prop) : Tn w w.drew F:=Tn.gb0 (gb_drew w none) F
theorem Tn.drewN (w : World) (n : Nat) (F : Nat → Prop) : Tn w (w.drewN n) F:=Tn.gb0 (gb_drewN w n none) F
theorem Tn.alloc (w : World) (o : Obj) (F : Nat → Prop) : Tn w (w.alloc o) F:=Tn.gb0 (gA w o none) F
theorem blk_tn {w w' : World} {F : Nat → Prop} {g : Nat} {o : Obj} (h : w.heap[g]? = some o) (hg : Tn w w' F) (hne : ¬ F g) : w'.heap[g]? = some o:=by
  rw [hg.block g (blk_lt' h) hne];exact h
theorem cell_tn {w w' : World} {F : Nat → Prop} {a : Addr} {v : Value} (h : w.cell? a = some v) (hg : Tn w w' F) (hne : ¬ F a.block) : w'.cell? a = some v:=
  (World.cell?_of_block (hg.block a.block (World.block_lt_of_cell? w a h) hne)).trans h
theorem own_tn {w w' : World} {F : Nat → Prop} {base n : Nat} {e : TypeId} {size : Nat} {v : Value} {xs : List Value} (h : w.ownsRow base e size v n xs) (hg : Tn w w' F) (hne : ∀ k,v.ownBlock = some k → ¬ F k) : w'.ownsRow base e size v n xs:=by
  refine ⟨h.1,?_⟩;rcases h.2 with hn | ⟨g,cap,cur,rfl,hb,hgg,rest⟩
  · exact .inl hn
  · exact .inr ⟨g,cap,cur,rfl,hb,blk_tn hgg hg (hne g rfl),rest⟩
theorem Rd.tn {α : Type} {E : Enc α} {w w' : World} {A : Option Addr} {n : Nat} {xs : List α} {F : Nat → Prop} (h : Rd E w A n xs) (hg : Tn w w' F) (hne : ∀ ad,A = some ad → 0 < n → ¬ F ad.block) : Rd E w' A n xs:=
  ⟨h.1,h.2.1,fun hn => by
    obtain ⟨ad,e,hc⟩:=h.2.2 hn;exact ⟨ad,e,fun i v hv => cell_tn (hc i v hv) hg (by rw [add_block];exact hne ad e hn)⟩⟩
/-- Cells of a block that is known whole. -/
theorem cell_of {w : World} {g : Nat} {cs : Array Value} {t : TypeId} {fr : Nat × Nat} {j : Nat} {v : Value} (h : w.heap[g]? = some (.cells cs t fr)) (hj : cs[j]? = some v) : w.cell? ⟨g,j,none⟩ = some v:=by
  simp [World.cell?,h,hj]
theorem frozen_of {w : World} {g : Nat} {cs : Array Value} {t : TypeId} {j : Nat} (h : w.heap[g]? = some (.cells cs t (0,0))) : w.frozen? ⟨g,j,none⟩ = false:=by
  simp [World.frozen?,h]
theorem blk_set {w : World} {g : Nat} {cs : Array Value} {t : TypeId} {fr : Nat × Nat} (j : Nat) (v : Value) (h : w.heap[g]? = some (.cells cs t fr)) : (w.setCell ⟨g,j,none⟩ v).heap[g]? = some (.cells (cs.setIfInBounds j v) t fr):=by
  simp [World.setCell,Array.getElem?_modify,h]
theorem own_form {w : World} {base n : Nat} {e : TypeId} {size : Nat} {A : Option Addr} {c : Nat} {xs : List Value} (h : w.ownsRow base e size (.slice A n c) n xs) : n ≤ c ∧ ∀ ad,A = some ad → ad = ⟨ad.block,0,none⟩:=by
  rcases h.2 with ⟨he,h0⟩ | ⟨g,cap,cur,he,_,_,h1,_⟩
  · injection he with h1 h2 h3;subst h1 h3;exact ⟨by omega,by simp⟩
  · injection he with h2 h3 h4;subst h2 h4;exact ⟨h1,fun ad e => by cases e;rfl⟩
theorem own_rd {α : Type} {E : Enc α} {w : World} {base n c : Nat} {e : TypeId} {A : Option Addr} {xs : List α} (hl : xs.length = n) (h : w.ownsRow base e E.sz (.slice A n c) n (flat E xs)) : Rd E w A n xs:=by
  obtain ⟨A',c',he,hr,_,_⟩:=own_open hl h;injection he with h1 h2 h3;subst h1;exact hr
/-- A row's cell,as the walk meets it. -/
theorem own_cell {α : Type} {E : Enc α} {w : World} {base n c : Nat} {e : TypeId} {g : Nat} {xs : List α} (h : w.ownsRow base e E.sz (.slice (some ⟨g,0,none⟩) n c) n (flat E xs)) (j i : Nat) (x : α) (hx : xs[j]? = some x) (hi : i < E.sz) (v : Value) (hv : (E.enc x)[i]? = some v) : w.cell? ⟨g,j * E.sz + i,none⟩ = some v:=by
  have hl : j < xs.length:=(List.getElem?_eq_some_iff.1 hx).1;have h2 : j * E.sz + i < (flat E xs).length:=by
    rw [flat_len]
    calc j * E.sz + i < j * E.sz + E.sz:=by omega
      _ = (j + 1) * E.sz:=by rw [Nat.add_mul];omega
      _ ≤ xs.length * E.sz:=Nat.mul_le_mul_right _ hl
  have h3:=flat_at E xs j i x hx hi;rw [hv] at h3;have h4:=h.cells (g:=g) rfl _ v h3;unfold Addr.add at h4;split at h4
  · rename_i e0;rw [e0];exact h4
  · simpa using h4
theorem flat_set' {α : Type} (E : Enc α) : ∀ (xs : List α) (j i : Nat) (x y : α) (v : Value),xs[j]? = some x → i < E.sz → (E.enc x).set i v = E.enc y → (flat E xs).set (j * E.sz + i) v = flat E (xs.set j y)
  | [],j,i,x,y,v,h,_,_ => by simp at h
  | z :: r,0,i,x,y,v,h,hi,he => by
    have : z = x:=by simpa using h
    subst this;rw [flat_cons,Nat.zero_mul,Nat.zero_add,List.set_append_left _ _ (by rw [E.len];exact hi),he,List.set_cons_zero,flat_cons]
  | z :: r,j + 1,i,x,y,v,h,hi,he => by
    have h' : r[j]? = some x:=by simpa using h
    rw [flat_cons,List.set_append_right _ _ (by rw [E.len,Nat.add_mul];omega),List.set_cons_succ,flat_cons,← flat_set' E r j i x y v h' hi he]
    congr 2
    rw [E.len,Nat.add_mul];omega
/-- A store into a row of one's own. -/
theorem own_put {α : Type} {E : Enc α} {w : World} {base n c : Nat} {e : TypeId} {g : Nat} {xs : List α} (h : w.ownsRow base e E.sz (.slice (some ⟨g,0,none⟩) n c) n (flat E xs)) (j i : Nat) (x y : α) (v : Value) (hx : xs[j]? = some x) (hi : i < E.sz) (he : (E.enc x).set i v = E.enc y) :
    (w.setCell ⟨g,j * E.sz + i,none⟩ v).ownsRow base e E.sz (.slice (some ⟨g,0,none⟩) n c) n (flat E (xs.set j y)):=by
  have:=(h.stored (j * E.sz + i) v).1;rwa [flat_set' E xs j i x y v hx hi he] at this
theorem own_frozen {w : World} {base n c : Nat} {e : TypeId} {size : Nat} {g : Nat} {xs : List Value} (h : w.ownsRow base e size (.slice (some ⟨g,0,none⟩) n c) n xs) (j : Nat) : w.frozen? ⟨g,j,none⟩ = false:=h.frozenAt j
/-- append to a row of one's own,where the row lies told too. -/
theorem app_at {P : Program} {ops : Array Oper} {rest : List Oper} {o : Oper} {a : Act} {Q : Exit → Act → World → Prop} {α : Type} (E : Enc α) {w : World} (base : Nat) (hgd : o.guard = none) (s x : Operand) (t e : TypeId) (z : Value) (bytes : Nat)
    (ho : o.op = .call { callee:=.builtin .append,args:=#[s,x],argTypes:=#[t,t] })
    (ht : P.underlying t = some (.slice e)) (hinfo : (P.info? e).map (fun i => (i.zero,i.size,i.bytes)) = some (some z,E.sz,bytes)) (hz : z.cells.size = E.sz) (hb0 : 0 < bytes)
    (v : Value) (n : Nat) (xs ys : List α) (ad : Addr) (m c : Nat) (hs : a.eval s = v) (hx : a.eval x = .slice (some ad) m c)
    (HO : w.ownsRow base e E.sz v n (flat E xs)) (HR : Rd E w (some ad) m ys) (hbase : base ≤ w.heap.size) (hl : (n + m) * bytes ≤ 140737488355328)
    (h : ∀ v1 w1,w1.ownsRow base e E.sz v1 (n + m) (flat E (xs ++ ys)) → w.grownBy w1 v.ownBlock → (v1.ownBlock = v.ownBlock ∨ v1.ownBlock = some w.heap.size) → wpList P ops Q rest (a.put o.dst v1) w1) : wpList P ops Q (o :: rest) a w:=by
  obtain ⟨i0,hi,hz0,hz1,hz2⟩:=info_parts hinfo;have hlen : n + m ≤ 140737488355328:=Nat.le_trans (Nat.le_mul_of_pos_right _ hb0) hl;obtain ⟨v1,w1,hr,h2,h3,_,h5⟩:=run_append_own_at (P:=P) w base t o.type e i0 z E.sz bytes ht hi hz0 hz1 hz2 hz E.pos v n (flat E xs) HO ad m c (flat E ys) (by rw [flat_len,HR.1])
    (fun j u hu => by
      rcases Nat.eq_zero_or_pos m with h0 | h0
      · obtain rfl : ys = []:=List.eq_nil_of_length_eq_zero (HR.1.trans h0)
        simp [flat_nil] at hu
      · obtain ⟨ad',e',hc⟩:=HR.2.2 h0
        injection e' with e';subst e';exact hc j u hu) (flat_oneCell E ys) (by simp only [maxLen];omega) hl hbase
  refine wpList_plain hgd fun K hK => ?_
  unfold Oper.wp execOp;simp only [ho,resolve,invoke,builtin,Sem.run_bind,Sem.run_pure,Result.andThen_ok,List.map_toArray,List.map_cons,List.map_nil,hs,hx,hr];exact hK _ _ (h v1 w1 (by rw [flat_append];exact h2) h3 h5)
end Go.Proofs.YtodibpddlibneaaGreatDoor.H
namespace Go.Proofs.YtodibpddlibneaaGreatDoor.T
open Go.RowKit YtodibpddlibneaaGreatDoorW.PrintWords YtodibpddlibneaaGreatDoorW.PrintLast H
set_option linter.unusedVariables false
set_option linter.unusedSimpArgs false
structure Acc where
  nm : ByteArray
  par : Int
  sh : Int
  cl : Bool
  us : Int
def accV (a : Acc) : Array Value:=#[.string a.nm,.int .i64 a.par,.int .i64 a.sh,.bool a.cl,.int .u64 a.us]
def Ec : Enc Acc:=⟨5,fun a => [.string a.nm,.int .i64 a.par,.int .i64 a.sh,.bool a.cl,.int .u64 a.us],fun _ => rfl,fun _ v hv => by simp at hv;rcases hv with rfl | rfl | rfl | rfl | rfl <;> rfl,by decide⟩
def chI (c : Int) : Bool:=(decide (97 ≤ c) && decide (c ≤ 122)) || (decide (65 ≤ c) && decide (c ≤ 90)) || (decide (48 ≤ c) && decide (c ≤ 57)) || decide (c = 45) || decide (c = 95)
def nameB (s : ByteArray) : Bool:=(bytesOf s).all chI && (decide (1 ≤ s.size) && decide (s.size ≤ 32))
def shB (n : Int) : Bool:=decide (1 ≤ n) && decide (n ≤ 4096)
theorem drop_rd_ {xs : List Int} {j : Nat} (h : j < xs.length) : xs.drop j = rd xs (j : Int) :: xs.drop (j + 1):=by
  rw [List.drop_eq_getElem_cons h];simp [rd,List.getD_eq_getElem?_getD,lG h]
theorem name_calls (w : World) (s : ByteArray) (hs : s.size ≤ 9223372036854775807) :
    Calls Tryz.prog 106 #[.string s] w fun e w' => e = .returned (.bool (nameB s)) ∧ w.grownBy w' none:=by
  have hcv:=Lib.run_convert_string_bytes (P:=Tryz.prog) w 9 157 5 s (u:=.string) Tryz.underlying9 Tryz.underlying157 Tryz.underlying5;have HR:=Am (rd_ints (bytes_reads w 5 s hs));have HG:=Am (gb_of_below (bytes_below (Below.refl w.heap.size w) (Nat.le_refl _) 5 s) none);have HL:=Am (bytes_reads w 5 s hs).1;go_enter Tryz.func106,Tryz.ntmps106;go_wp2_with fail
  clear hcv;generalize grownCap w s.size 0 5 = cp;generalize Lib.bytesWorld w 5 s = w1 at HR HG ⊢;obtain ⟨xs,hxs⟩ : ∃ xs,xs = bytesOf s:=⟨_,rfl⟩;have HXS:=Am hxs;rw [← hxs] at HR HL;clear hxs;go_loopg [9] s.size (fun k v9 wr => ∃ (j : Nat),v9 = .int .i64 j ∧ Aside0 (j + k = s.size) ∧ j ≤ s.size ∧ Aside0 ((xs.drop j).all chI = xs.all chI) ∧ w1 = wr)
  case atStart => exact ⟨0,rfl,⟨by omega⟩,by omega,⟨rfl⟩,rfl⟩
  case round =>
    obtain ⟨j,rfl,HD,hj,HE,rfl⟩:=hrel;have HB:=HG
    cases gk with
    | zero =>
      obtain rfl : j = s.size:=by have:=HD.out;omega
      have HA:=Am (show xs.all chI = true by rw [← HE.out,List.drop_of_length_le (by rw [HL.out];exact Nat.le_refl _)];rfl);have HF : Aside0 (nameB s = (decide (1 ≤ s.size) && decide (s.size ≤ 32))):=⟨by unfold nameB;rw [← HXS.out,HA.out,Bool.true_and]⟩
      by_cases h1 : 1 ≤ s.size
      · have b1 : decide (1 ≤ s.size) = true:=dT h1
        have b2 : decide ((1 : Int) ≤ (s.size : Int)) = true:=dT (by omega)
        by_cases h2 : s.size ≤ 32
        · have b3 : decide (s.size ≤ 32) = true:=dT h2
          have b4 : decide ((s.size : Int) ≤ 32) = true:=dT (by omega);rw [b1,b3] at HF;clear h1 h2;go_wp2;go_ret;exact ⟨by rw [HF.out];rfl,HG.out⟩
        · have b3 : decide (s.size ≤ 32) = false:=dF h2
          have b4 : decide ((s.size : Int) ≤ 32) = false:=dF (by omega);rw [b1,b3] at HF;clear h1 h2;go_wp2;go_ret;exact ⟨by rw [HF.out];rfl,HG.out⟩
      · have b1 : decide (1 ≤ s.size) = false:=dF h1
        have b2 : decide ((1 : Int) ≤ (s.size : Int)) = false:=dF (by omega);rw [b1] at HF;clear h1;go_wp2;go_ret;exact ⟨by rw [HF.out];rfl,HG.out⟩
    | succ d =>
      have hlt : j < s.size:=by have:=HD.out;omega
      have hjl : j < xs.length:=by rw [HL.out];exact hlt
      have hlt1 : decide ((j : Int) < s.size) = true:=dT (by omega);have hlt2 : (j : Int) < (s.size : Int):=by omega
      obtain ⟨ad,e,hcj⟩:=HR.out.int j hlt;obtain rfl:=oI e;obtain ⟨c,hc0⟩ : ∃ c,c = rd xs (j : Int):=⟨_,rfl⟩;have HX:=Am hc0;rw [← hc0,add_plain] at hcj;have HRc:=Am (show chI c = chI c from rfl);clear e hc0;rcases (show c < 45 ∨ c = 45 ∨ (c = 46 ∨ c = 47) ∨ (48 ≤ c ∧ c ≤ 57) ∨ (58 ≤ c ∧ c ≤ 64) ∨ (65 ≤ c ∧ c ≤ 90) ∨ (91 ≤ c ∧ c ≤ 94) ∨ c = 95 ∨ c = 96 ∨ (97 ≤ c ∧ c ≤ 122) ∨ 122 < c by omega) with hc | hc | hc | hc | hc | hc | hc | hc | hc | hc | hc
      · have b1 : decide (97 ≤ c) = false:=dF (by omega)
        have b2 : decide (c ≤ 122) = true:=dT (by omega);have b3 : decide (65 ≤ c) = false:=dF (by omega);have b4 : decide (c ≤ 90) = true:=dT (by omega);have b5 : decide (c < 48) = true:=dT (by omega);have b6 : decide (57 < c) = false:=dF (by omega);have b7 : (c != 45) = true:=by simp;omega
        have b8 : (c != 95) = true:=by simp;omega
        have HCc:=Am (show chI c = false by unfold chI;simp only [b1,b2,b3,b4];first | (simp;done) | (simp;omega));clear hc;go_wp2;go_ret;exact ⟨by unfold nameB;rw [← HXS.out,← HE.out,drop_rd_ hjl,List.all_cons,← HX.out,HCc.out];rfl,HB.out⟩
      · have b1 : decide (97 ≤ c) = false:=dF (by omega)
        have b2 : decide (c ≤ 122) = true:=dT (by omega);have b3 : decide (65 ≤ c) = false:=dF (by omega);have b4 : decide (c ≤ 90) = true:=dT (by omega);have b5 : decide (c < 48) = true:=dT (by omega);have b6 : decide (57 < c) = false:=dF (by omega);have b7 : (c != 45) = false:=by simp;omega
        have b8 : (c != 95) = true:=by simp;omega
        have HCc:=Am (show chI c = true by unfold chI;simp only [b1,b2,b3,b4];first | (simp;done) | (simp;omega));clear hc;go_wp2;go_roundg d
        case measure => omega
        case rel => exact ⟨j + 1,by go_num,⟨by have:=HD.out;omega⟩,by omega,⟨by rw [← HE.out,drop_rd_ hjl,List.all_cons,← HX.out,HCc.out];rfl⟩,rfl⟩
      · have b1 : decide (97 ≤ c) = false:=dF (by omega)
        have b2 : decide (c ≤ 122) = true:=dT (by omega);have b3 : decide (65 ≤ c) = false:=dF (by omega);have b4 : decide (c ≤ 90) = true:=dT (by omega);have b5 : decide (c < 48) = true:=dT (by omega);have b6 : decide (57 < c) = false:=dF (by omega);have b7 : (c != 45) = true:=by simp;omega
        have b8 : (c != 95) = true:=by simp;omega
        have HCc:=Am (show chI c = false by unfold chI;simp only [b1,b2,b3,b4];first | (simp;done) | (simp;omega));clear hc;go_wp2;go_ret;exact ⟨by unfold nameB;rw [← HXS.out,← HE.out,drop_rd_ hjl,List.all_cons,← HX.out,HCc.out];rfl,HB.out⟩
      · have b1 : decide (97 ≤ c) = false:=dF (by omega)
        have b2 : decide (c ≤ 122) = true:=dT (by omega);have b3 : decide (65 ≤ c) = false:=dF (by omega);have b4 : decide (c ≤ 90) = true:=dT (by omega);have b5 : decide (c < 48) = false:=dF (by omega);have b6 : decide (57 < c) = false:=dF (by omega);have b7 : (c != 45) = true:=by simp;omega
        have b8 : (c != 95) = true:=by simp;omega
        have HCc:=Am (show chI c = true by unfold chI;simp only [b1,b2,b3,b4];first | (simp;done) | (simp;omega));clear hc;go_wp2;go_roundg d
        case measure => omega
        case rel => exact ⟨j + 1,by go_num,⟨by have:=HD.out;omega⟩,by omega,⟨by rw [← HE.out,drop_rd_ hjl,List.all_cons,← HX.out,HCc.out];rfl⟩,rfl⟩
      · have b1 : decide (97 ≤ c) = false:=dF (by omega)
        have b2 : decide (c ≤ 122) = true:=dT (by omega);have b3 : decide (65 ≤ c) = false:=dF (by omega);have b4 : decide (c ≤ 90) = true:=dT (by omega);have b5 : decide (c < 48) = false:=dF (by omega);have b6 : decide (57 < c) = true:=dT (by omega);have b7 : (c != 45) = true:=by simp;omega
        have b8 : (c != 95) = true:=by simp;omega
        have HCc:=Am (show chI c = false by unfold chI;simp only [b1,b2,b3,b4];first | (simp;done) | (simp;omega));clear hc;go_wp2;go_ret;exact ⟨by unfold nameB;rw [← HXS.out,← HE.out,drop_rd_ hjl,List.all_cons,← HX.out,HCc.out];rfl,HB.out⟩
      · have b1 : decide (97 ≤ c) = false:=dF (by omega)
        have b2 : decide (c ≤ 122) = true:=dT (by omega);have b3 : decide (65 ≤ c) = true:=dT (by omega);have b4 : decide (c ≤ 90) = true:=dT (by omega);have b5 : decide (c < 48) = false:=dF (by omega);have b6 : decide (57 < c) = true:=dT (by omega);have b7 : (c != 45) = true:=by simp;omega
        have b8 : (c != 95) = true:=by simp;omega
        have HCc:=Am (show chI c = true by unfold chI;simp only [b1,b2,b3,b4];first | (simp;done) | (simp;omega));clear hc;go_wp2;go_roundg d
        case measure => omega
        case rel => exact ⟨j + 1,by go_num,⟨by have:=HD.out;omega⟩,by omega,⟨by rw [← HE.out,drop_rd_ hjl,List.all_cons,← HX.out,HCc.out];rfl⟩,rfl⟩
      · have b1 : decide (97 ≤ c) = false:=dF (by omega)
        have b2 : decide (c ≤ 122) = true:=dT (by omega);have b3 : decide (65 ≤ c) = true:=dT (by omega);have b4 : decide (c ≤ 90) = false:=dF (by omega);have b5 : decide (c < 48) = false:=dF (by omega);have b6 : decide (57 < c) = true:=dT (by omega);have b7 : (c != 45) = true:=by simp;omega
        have b8 : (c != 95) = true:=by simp;omega
        have HCc:=Am (show chI c = false by unfold chI;simp only [b1,b2,b3,b4];first | (simp;done) | (simp;omega));clear hc;go_wp2;go_ret;exact ⟨by unfold nameB;rw [← HXS.out,← HE.out,drop_rd_ hjl,List.all_cons,← HX.out,HCc.out];rfl,HB.out⟩
      · have b1 : decide (97 ≤ c) = false:=dF (by omega)
        have b2 : decide (c ≤ 122) = true:=dT (by omega);have b3 : decide (65 ≤ c) = true:=dT (by omega);have b4 : decide (c ≤ 90) = false:=dF (by omega);have b5 : decide (c < 48) = false:=dF (by omega);have b6 : decide (57 < c) = true:=dT (by omega);have b7 : (c != 45) = true:=by simp;omega
        have b8 : (c != 95) = false:=by simp;omega
        have HCc:=Am (show chI c = true by unfold chI;simp only [b1,b2,b3,b4];first | (simp;done) | (simp;omega));clear hc;go_wp2;go_roundg d
        case measure => omega
        case rel => exact ⟨j + 1,by go_num,⟨by have:=HD.out;omega⟩,by omega,⟨by rw [← HE.out,drop_rd_ hjl,List.all_cons,← HX.out,HCc.out];rfl⟩,rfl⟩
      · have b1 : decide (97 ≤ c) = false:=dF (by omega)
        have b2 : decide (c ≤ 122) = true:=dT (by omega);have b3 : decide (65 ≤ c) = true:=dT (by omega);have b4 : decide (c ≤ 90) = false:=dF (by omega);have b5 : decide (c < 48) = false:=dF (by omega);have b6 : decide (57 < c) = true:=dT (by omega);have b7 : (c != 45) = true:=by simp;omega
        have b8 : (c != 95) = true:=by simp;omega
        have HCc:=Am (show chI c = false by unfold chI;simp only [b1,b2,b3,b4];first | (simp;done) | (simp;omega));clear hc;go_wp2;go_ret;exact ⟨by unfold nameB;rw [← HXS.out,← HE.out,drop_rd_ hjl,List.all_cons,← HX.out,HCc.out];rfl,HB.out⟩
      · have b1 : decide (97 ≤ c) = true:=dT (by omega)
        have b2 : decide (c ≤ 122) = true:=dT (by omega);have b3 : decide (65 ≤ c) = true:=dT (by omega);have b4 : decide (c ≤ 90) = false:=dF (by omega);have b5 : decide (c < 48) = false:=dF (by omega);have b6 : decide (57 < c) = true:=dT (by omega);have b7 : (c != 45) = true:=by simp;omega
        have b8 : (c != 95) = true:=by simp;omega
        have HCc:=Am (show chI c = true by unfold chI;simp only [b1,b2,b3,b4];first | (simp;done) | (simp;omega));clear hc;go_wp2;go_roundg d
        case measure => omega
        case rel => exact ⟨j + 1,by go_num,⟨by have:=HD.out;omega⟩,by omega,⟨by rw [← HE.out,drop_rd_ hjl,List.all_cons,← HX.out,HCc.out];rfl⟩,rfl⟩
      · have b1 : decide (97 ≤ c) = true:=dT (by omega)
        have b2 : decide (c ≤ 122) = false:=dF (by omega);have b3 : decide (65 ≤ c) = true:=dT (by omega);have b4 : decide (c ≤ 90) = false:=dF (by omega);have b5 : decide (c < 48) = false:=dF (by omega);have b6 : decide (57 < c) = true:=dT (by omega);have b7 : (c != 45) = true:=by simp;omega
        have b8 : (c != 95) = true:=by simp;omega
        have HCc:=Am (show chI c = false by unfold chI;simp only [b1,b2,b3,b4];first | (simp;done) | (simp;omega));clear hc;go_wp2;go_ret;exact ⟨by unfold nameB;rw [← HXS.out,← HE.out,drop_rd_ hjl,List.all_cons,← HX.out,HCc.out];rfl,HB.out⟩
theorem shares_calls (w : World) (n : Int) :
    Calls Tryz.prog 107 #[.int .i64 n] w fun e w' => e = .returned (.bool (shB n)) ∧ w = w':=by
  by_cases h0 : 1 ≤ n
  · have hb0 : decide (1 ≤ n) = true:=dT h0
    have HE:=Am (show shB n = decide (n ≤ 4096) by unfold shB;rw [hb0];rfl);go_enter Tryz.func107,Tryz.ntmps107;go_wp2;go_ret;exact ⟨by rw [HE.out];rfl,rfl⟩
  · have hb0 : decide (1 ≤ n) = false:=dF h0
    have HE:=Am (show shB n = false by unfold shB;rw [hb0];rfl);go_enter Tryz.func107,Tryz.ntmps107;go_wp2;go_ret;exact ⟨by rw [HE.out];rfl,rfl⟩
def parV (ls : List Acc) (n : Int) : Int:=((ls.map Acc.par).getD n.toNat 0)
/-- How deep;-1: it does not come to the root. -/
def depL (ls : List Acc) : Nat → Int → Int → Int
  | 0,_,_ => -1
  | k + 1,d,n => if n = 0 then d else depL ls k (d + 1) (parV ls n)
def depV (ls : List Acc) (n : Int) : Int:=depL ls (ls.length + 1) 0 n
/-- Each account but the first has a parent among them. -/
def Pars (ls : List Acc) : Prop:=∀ n : Int,0 < n → n < ls.length → 0 ≤ parV ls n ∧ parV ls n < ls.length
def rootS : ByteArray:=⟨#[114,111,111,116]⟩
def rootA : Acc:=⟨rootS,-1,1,false,0⟩
theorem root_calls (w : World) : Calls Tryz.prog 104 #[] w fun e w' => e = .returned (.agg (accV rootA)) ∧ w.grownBy w' none:=by
  go_enter Tryz.func104,Tryz.ntmps104;go_wp2;refine bodyPost_ret (results_single rfl (Vals.cell w.heap.size 31 _ (0,0) _ rfl (heap_alloc_new w _) Tryz.underlying31 rfl (by kernel_rfl) .nil)) rfl ?_;exact ⟨rfl,gA w _ none⟩
section
variable {w w' : World}
theorem acc_cell {w : World} {g n c : Nat} {ls : List Acc} (h : Rd Ec w (some ⟨g,0,none⟩) n ls) {i : Nat} (hi : i < n) (hp : True) : w.cell? ⟨g,i * 5 + 1,none⟩ = some (.int .i64 (parV ls (i : Int))):=by
  obtain ⟨ad,x,e,hx,hc⟩:=h.at_ i hi
  cases e
  have:=hc 1 _ rfl;have e2 : parV ls (i : Int) = x.par:=by
    unfold parV;rw [Int.toNat_natCast,List.getD_eq_getElem?_getD,List.getElem?_map,hx];rfl
  rw [e2];rwa [add_plain] at this
end
theorem depth_calls (w : World) (g lb : Nat) (n c : Nat) (ls : List Acc) (v : Int) (hc : w.cell? ⟨g,0,none⟩ = some (.slice (some ⟨lb,0,none⟩) n c)) (hr : Rd Ec w (some ⟨lb,0,none⟩) n ls) (hn : n ≤ 64) (hp : Pars ls) (hv : 0 ≤ v ∧ v < n) :
    Calls Tryz.prog 109 #[.pointer (some ⟨g,0,none⟩),.int .i64 v] w fun e w' => e = .returned (.int .i64 (depV ls v)) ∧ w = w':=by
  have HR:=Am hr;have HN:=Am hr.1;have HP:=Am hp;have HV:=Am hv;clear hr hp hv;go_enter Tryz.func109,Tryz.ntmps109;go_wp2_with fail
  go_loopg [1,5] (n + 1) (fun k v1 v5 wr => ∃ (d : Nat) (m : Int),v1 = .int .i64 m ∧ v5 = .int .i64 d ∧ Aside0 (d + k = n + 1) ∧ d ≤ n + 1 ∧ Aside0 (0 ≤ m ∧ m < n) ∧ Aside0 (depL ls k (d : Int) m = depV ls v) ∧ w = wr)
  case atStart => exact ⟨0,v,rfl,rfl,⟨by omega⟩,by omega,HV,⟨by unfold depV;rw [HN.out];rfl⟩,rfl⟩
  case round =>
    obtain ⟨d,m,rfl,rfl,HD,hd,HM,HE,rfl⟩:=hrel
    cases gk with
    | zero =>
      obtain rfl : d = n + 1:=by have:=HD.out;omega
      have HF:=Am (show depV ls v = -1 from HE.out.symm);have hb : decide ((n : Int) + 1 ≤ (n : Int)) = false:=dF (by omega);go_wp2;go_ret;exact ⟨by rw [HF.out];rfl,rfl⟩
    | succ k =>
      have hdn : d ≤ n:=by have:=HD.out;omega
      have hb : decide ((d : Int) ≤ (n : Int)) = true:=dT (by omega);have hb2 : decide (d ≤ n) = true:=dT hdn
      by_cases h0 : m = 0
      · have hb3 : (m == 0) = true:=by simp [h0]
        have HF:=Am (show depV ls v = (d : Int) by rw [← HE.out,depL,if_pos h0]);clear h0;go_wp2;go_ret;exact ⟨by rw [HF.out];rfl,rfl⟩
      · have hb3 : (m == 0) = false:=by simp [h0]
        obtain ⟨q,hq⟩ : ∃ q : Nat,m = q:=⟨m.toNat,by have:=HM.out;omega⟩;have HF:=Am (show depL ls k ((d : Int) + 1) (parV ls m) = depV ls v by rw [← HE.out,depL,if_neg h0]);have HM2:=Am (show 0 ≤ parV ls m ∧ parV ls m < n from by have h1:=HP.out m (by have:=HM.out;omega) (by have:=HM.out;have:=HN.out;omega);have:=HN.out;omega);subst hq;have hqn : q < n:=by have:=HM.out;omega
        have hqn2 : (q : Int) < (n : Int):=by omega
        have hcq:=acc_cell (c:=c) HR.out hqn trivial;clear h0 HE HM;go_wp2;go_roundg k
        case measure => omega
        case rel => exact ⟨d + 1,_,rfl,by go_num,⟨by have:=HD.out;omega⟩,by omega,HM2,⟨by have:=HF.out;simpa using this⟩,rfl⟩
end Go.Proofs.YtodibpddlibneaaGreatDoor.T
namespace Go.Proofs.YtodibpddlibneaaGreatDoor.T
open Go.RowKit YtodibpddlibneaaGreatDoorW.PrintWords YtodibpddlibneaaGreatDoorW.PrintLast H Go.Maps
set_option linter.unusedVariables false
set_option linter.unusedSimpArgs false
/-- What lies below w's end stands,but for the blocks of some labels;their labels stand too. -/
structure Lt (w : World) (f : Nat → Int) (w' : World) (f' : Nat → Int) (T : Int → Prop) : Prop where
  tn : Tn w w' (fun k => T (f k))
  lab : ∀ k,k < w.heap.size → f' k = f k
theorem Lt.trans {w w1 w2 : World} {f f1 f2 : Nat → Int} {T : Int → Prop} (h : Lt w f w1 f1 T) (k : Lt w1 f1 w2 f2 T) : Lt w f w2 f2 T:=
  ⟨h.tn.trans k.tn (fun i hi hg => by rwa [h.lab i hi] at hg),fun i hi => (k.lab i (Nat.lt_of_lt_of_le hi h.tn.size)).trans (h.lab i hi)⟩
theorem Lt.mono {w w1 : World} {f f1 : Nat → Int} {T U : Int → Prop} (h : Lt w f w1 f1 T) (hU : ∀ c,T c → U c) : Lt w f w1 f1 U:=
  ⟨h.tn.mono (fun i _ hi => hU _ hi),h.lab⟩
theorem Lt.gb {w w1 : World} {f : Nat → Int} {T : Int → Prop} (h : w.grownBy w1 none) : Lt w f w1 f T:=⟨Tn.gb0 h _,fun _ _ => rfl⟩
theorem Lt.new {w w' : World} {f : Nat → Int} {T : Int → Prop} (h : Tn w w' (fun k => T (f k))) (x : Int) : ∃ f',Lt w f w' f' T ∧ ∀ k,w.heap.size ≤ k → f' k = x:=
  ⟨fun k => if k < w.heap.size then f k else x,⟨h,fun k hk => if_pos hk⟩,fun k hk => if_neg (by omega)⟩
theorem map_tn {H : Type} {w w' : World} {F : Nat → Prop} {P : Program} {k : TypeId} {R : Value → Option (DataW H × List MemPlace)} {b n : Nat} {D : DataW H} (h : w.ownsMap P k R b n D) (hg : Tn w w' F) (hne : ¬ F b) : w'.ownsMap P k R b n D:=by
  obtain ⟨es,clock,hb,r⟩:=h;exact ⟨es,clock,blk_tn hb hg hne,r⟩
def RK : Value → Option (DataW Value × List MemPlace):=fun v => some (.held v,[])
def NONE : DataW Value:=.held (.map none)
/-- The children of all: a map of maps. -/
structure KidsOk (w : World) (f : Nat → Int) (kb n : Nat) (D : DataW Value) : Prop where
  own : w.ownsMap Tryz.prog 3 RK kb n D
  vals : ∀ kl,∃ o,D.atKey kl NONE = .held (.map o)
  in_ : ∀ kl b,D.atKey kl NONE = .held (.map (some b)) → (∃ D' : DataW Value,w.ownsMap Tryz.prog 3 (plainElem Tryz.prog 3) b n D') ∧ f b = 5
  fk : f kb = 4
theorem KidsOk.lt {w w' : World} {f f' : Nat → Int} {kb n : Nat} {D : DataW Value} {T : Int → Prop} (h : KidsOk w f kb n D) (hl : Lt w f w' f' T) (h4 : ¬ T 4) (h5 : ¬ T 5) : KidsOk w' f' kb n D:=by
  refine ⟨map_tn h.own hl.tn (by rw [h.fk];exact h4),h.vals,fun kl b hb => ?_,by rw [hl.lab _ h.own.lt];exact h.fk⟩;obtain ⟨⟨D',ho⟩,hf⟩:=h.in_ kl b hb;exact ⟨⟨D',map_tn ho hl.tn (by rw [hf];exact h5)⟩,by rw [hl.lab _ ho.lt];exact hf⟩
theorem KidsOk.mono {w : World} {f : Nat → Int} {kb n n' : Nat} {D : DataW Value} (h : KidsOk w f kb n D) (hn : n ≤ n') : KidsOk w f kb n' D:=
  ⟨h.own.mono hn,h.vals,fun kl b hb => by obtain ⟨⟨D',ho⟩,hf⟩:=h.in_ kl b hb;exact ⟨⟨D',ho.mono hn⟩,hf⟩,h.fk⟩
def K45 (c : Int) : Prop:=c = 4 ∨ c = 5
theorem kids_look {w : World} {f : Nat → Int} {kb n : Nat} {D : DataW Value} (h : KidsOk w f kb n D) {p : Int} (hp : (Lit.int .i64 p).wf = true) :
    ∃ o,(Instr.lookup 143 (.map (some kb)) (.int .i64 p) false).run Tryz.prog w = .ok (.map o) w ∧ D.atKey (.int .i64 p) NONE = .held (.map o):=by
  obtain ⟨v,ps,hr,hv⟩:=h.own.lookup (int_keyed Tryz.underlying3) Tryz.underlying143 (z:=.map none) (by kernel_rfl) (zd:=NONE) (zp:=[]) rfl (keyOf_int_mk Tryz.underlying3 hp);obtain ⟨o,ho⟩:=h.vals (.int .i64 p);have e : DataW.held v = D.atKey (.int .i64 p) NONE:=by
    have:=oI hv;exact (Prod.mk.inj this).1
  rw [ho] at e;injection e with e;subst e;exact ⟨o,hr,ho⟩
/-- What noting a child leaves. -/
def UnderI (w : World) (f : Nat → Int) (kb n : Nat) (e : Ending) (w' : World) : Prop:=
  e = .returned (.tuple #[]) ∧ ∃ (D' : DataW Value) (f' : Nat → Int),KidsOk w' f' kb (n + 2) D' ∧ Lt w f w' f' K45
theorem under_calls (w : World) (f : Nat → Int) (g kb n : Nat) (D : DataW Value) (p m : Int) (hc : w.cell? ⟨g,2,none⟩ = some (.map (some kb))) (hk : KidsOk w f kb n D) (hg : f g = 1) (hn : n ≤ 200) (hp : (Lit.int .i64 p).wf = true) (hm : (Lit.int .i64 m).wf = true) :
    Calls Tryz.prog 114 #[.pointer (some ⟨g,0,none⟩),.int .i64 p,.int .i64 m] w (UnderI w f kb n):=by
  have HK:=Am hk;have HFG:=Am hg;have hkey:=keyOf_int_mk (k:=3) (q:=.i64) Tryz.underlying3 hp;have hkem:=keyOf_int_mk (k:=3) (q:=.i64) Tryz.underlying3 hm;obtain ⟨o,hlk,hat⟩:=kids_look hk hp;have HAT:=Am hat;have HKP:=Am hkey;have HKM:=Am hkem;have HMM:=Am hm;clear hk hg hat hkey hkem;have heqn : ∀ W : World,(binOp .eql 160 (.map none) (.map none)).run Tryz.prog W = .ok (.bool true) W:=fun W => by kernel_rfl
  have heqs : ∀ (q : Nat) (W : World),(binOp .eql 160 (.map (some q)) (.map none)).run Tryz.prog W = .ok (.bool false) W:=fun q W => by kernel_rfl
  cases o with
  | none =>
    have hmk : ∀ W : World,(Instr.makeMap 160 none).run Tryz.prog W = .ok (.map (some W.heap.size)) (W.alloc (.map #[] 0)):=fun W => rfl
    have HO1:=Am (HK.out.own.alloc (.map #[] 0));have HM1:=Am (World.ownsMap_made (H:=Value) w Tryz.prog 3 (plainElem Tryz.prog 3));have HG1:=Am (gA w (.map #[] 0) none);go_enter Tryz.func114,Tryz.ntmps114;go_upto_region 2 with (at_mapUpdate;refine wpList_mapUpdate_own _ rfl _ _ _ 143 rfl 3 160 (int_keyed Tryz.underlying3) Tryz.underlying143 RK kb n D rfl HO1.out (by simp only [maxLen];omega) (.int .i64 p) _ (.int .i64 p) rfl rfl HKP.out (.held (.map (some w.heap.size))) [] rfl ?_;intro w2 ho hg;have HO2:=Am ho;have HG2:=Am hg;clear ho hg)
    have hkb : kb < w.heap.size:=HK.out.own.lt;have hwk : w.heap.size ≠ kb:=by omega
    obtain ⟨f2,hl2,hf2⟩:=Lt.new (f:=f) (T:=fun x => x = 4) ((Tn.gb0 HG1.out _).trans' (Tn.of_gb HG2.out (F:=fun k => f k = 4) (fun k hk => by cases hk;exact HK.out.fk))) 5;have hM2:=(HM1.out.kept HG2.out (fun e => hwk (oI e))).mono (Nat.zero_le (n + 1));have hIs : Maps.IsMap D:=HK.out.own.isMap;have hKL : WideAt.IsKeyLit (Lit.int .i64 p):=trivial;have hK2 : KidsOk w2 f2 kb (n + 1) (D.put (.int .i64 p) (.held (.map (some w.heap.size)))):=by
      refine ⟨HO2.out,fun kl => ?_,fun kl b hb => ?_,by rw [hl2.lab _ hkb];exact HK.out.fk⟩
      · by_cases e : kl = .int .i64 p
        · subst e;exact ⟨_,Maps.atKey_put_same hIs hKL _ _⟩
        · rw [Maps.atKey_put_other e];exact HK.out.vals kl
      · by_cases e : kl = .int .i64 p
        · subst e
          rw [Maps.atKey_put_same hIs hKL] at hb;injection hb with hb;injection hb with hb;have hb:=oI hb;subst hb;exact ⟨⟨_,hM2⟩,hf2 _ (Nat.le_refl _)⟩
        · rw [Maps.atKey_put_other e] at hb
          obtain ⟨⟨D1,hd1⟩,hf1⟩:=HK.out.in_ kl b hb;exact ⟨⟨D1,(map_tn hd1 hl2.tn (by rw [hf1];decide)).mono (Nat.le_succ n)⟩,by rw [hl2.lab _ hd1.lt];exact hf1⟩
    obtain ⟨o2,hlk2,hat2⟩:=kids_look hK2 hp;have ho2 : o2 = some w.heap.size:=by
      rw [Maps.atKey_put_same hIs hKL] at hat2;injection hat2 with h;injection h with h;exact h.symm
    subst ho2;have hc2 : w2.cell? ⟨g,2,none⟩ = some (.map (some kb)):=cell_tn hc hl2.tn (by rw [HFG.out];decide);have HK2:=Am hK2;have HL2:=Am (hl2.mono (U:=K45) (fun x e => .inl e));have HD0:=Am hM2;have HFB:=Am (hf2 _ (Nat.le_refl _));obtain ⟨b,hb⟩ : ∃ b,b = w.heap.size:=⟨_,rfl⟩;rw [← hb] at hlk2 HD0 HFB HK2;have HBK : Aside0 (b ≠ kb):=⟨by rw [hb];exact hwk⟩;clear hkb hwk hl2 hf2 hM2 hIs hKL hK2 hat2 hlk hb HO1 HM1 HG1 HO2 HG2;go_wp2_with (at_mapUpdate;refine wpList_mapUpdate_own _ rfl _ _ _ 160 rfl 3 3 (int_keyed Tryz.underlying3) Tryz.underlying160 (plainElem Tryz.prog 3) b (n + 1) _ rfl HD0.out (by simp only [maxLen];omega) (.int .i64 m) _ (.int .i64 m) rfl rfl HKM.out (.lit (.int .i64 m)) [] (plainElem_int Tryz.underlying3 HMM.out) ?_;intro w3 ho hg;have HO3:=Am ho;have HG3:=Am hg;clear ho hg)
    go_end0
    have hT3 : Lt w2 f2 w3 f2 K45:=⟨Tn.of_gb HG3.out (fun k hk => by cases hk;exact .inr HFB.out),fun _ _ => rfl⟩;refine ⟨rfl,_,f2,⟨(HK2.out.own.mono (show n + 1 ≤ n + 2 by omega)).kept HG3.out (by intro e;exact HBK.out (oI e).symm),HK2.out.vals,fun kl q hq => ?_,HK2.out.fk⟩,HL2.out.trans hT3⟩;obtain ⟨⟨D1,hd1⟩,hf1⟩:=HK2.out.in_ kl q hq;refine ⟨?_,hf1⟩
    by_cases e : q = b
    · subst e;exact ⟨_,HO3.out⟩
    · exact ⟨D1,(hd1.mono (show n + 1 ≤ n + 2 by omega)).kept HG3.out (fun h => e (oI h))⟩
  | some b =>
    obtain ⟨⟨D0,hd0⟩,hfb⟩:=HK.out.in_ _ _ HAT.out;have HD0:=Am hd0;have HFB:=Am hfb;have hbk : b ≠ kb:=fun e => by have:=HK.out.fk;rw [e] at hfb;omega
    have HBK:=Am hbk;clear hd0 hfb hbk;go_enter Tryz.func114,Tryz.ntmps114;go_wp2_with (at_mapUpdate;refine wpList_mapUpdate_own _ rfl _ _ _ 160 rfl 3 3 (int_keyed Tryz.underlying3) Tryz.underlying160 (plainElem Tryz.prog 3) b n D0 rfl HD0.out (by simp only [maxLen];omega) (.int .i64 m) _ (.int .i64 m) rfl rfl HKM.out (.lit (.int .i64 m)) [] (plainElem_int Tryz.underlying3 HMM.out) ?_;intro w2 ho hg;have HO2:=Am ho;have HG2:=Am hg;clear ho hg)
    go_end0
    refine ⟨rfl,D,f,⟨HK.out.own.mono (show n ≤ n + 2 by omega) |>.kept HG2.out (by intro e;exact HBK.out (oI e).symm),HK.out.vals,fun kl q hq => ?_,HK.out.fk⟩,⟨Tn.of_gb HG2.out (fun k hk => by cases hk;exact .inr HFB.out),fun _ _ => rfl⟩⟩;obtain ⟨⟨D1,hd1⟩,hf1⟩:=HK.out.in_ kl q hq;refine ⟨?_,hf1⟩
    by_cases e : q = b
    · subst e;exact ⟨_,HO2.out.mono (show n + 1 ≤ n + 2 by omega)⟩
    · exact ⟨D1,(hd1.mono (show n ≤ n + 2 by omega)).kept HG2.out (fun h => e (oI h))⟩
theorem app_at_step {P : Program} {ops : Array Oper} {o : Oper} {a : Act} {Q : Exit → Act → World → Prop} {α : Type} (E : Enc α) {w : World} {K : Act → World → Prop} {E' : Prop} (hw : Region.wanted o (yielded ops a.tmps) = true) {N : Option Tmp} (hN : o.dst = N) (base : Nat) (s x : Operand) (t e : TypeId) (z : Value) (bytes : Nat)
    (ho : o.op = .call { callee:=.builtin .append,args:=#[s,x],argTypes:=#[t,t] })
    (ht : P.underlying t = some (.slice e)) (hinfo : (P.info? e).map (fun i => (i.zero,i.size,i.bytes)) = some (some z,E.sz,bytes)) (hz : z.cells.size = E.sz) (hb0 : 0 < bytes)
    (v : Value) (n : Nat) (xs ys : List α) (ad : Addr) (m c : Nat) (hs : a.eval s = v) (hx : a.eval x = .slice (some ad) m c)
    (HO : w.ownsRow base e E.sz v n (flat E xs)) (HR : Rd E w (some ad) m ys) (hbase : base ≤ w.heap.size) (hl : (n + m) * bytes ≤ 140737488355328)
    (h : ∀ v1 w1,w1.ownsRow base e E.sz v1 (n + m) (flat E (xs ++ ys)) → w.grownBy w1 v.ownBlock → (v1.ownBlock = v.ownBlock ∨ v1.ownBlock = some w.heap.size) → K (a.put N v1) w1) :
    if Region.wanted o (yielded ops a.tmps) = true then Oper.wp P o a w K Q else E':=by
  rw [if_pos hw];subst hN;obtain ⟨i0,hi,hz0,hz1,hz2⟩:=info_parts hinfo;have hlen : n + m ≤ 140737488355328:=Nat.le_trans (Nat.le_mul_of_pos_right _ hb0) hl;obtain ⟨v1,w1,hr,h2,h3,_,h5⟩:=run_append_own_at (P:=P) w base t o.type e i0 z E.sz bytes ht hi hz0 hz1 hz2 hz E.pos v n (flat E xs) HO ad m c (flat E ys) (by rw [flat_len,HR.1])
    (fun j u hu => by
      rcases Nat.eq_zero_or_pos m with h0 | h0
      · obtain rfl : ys = []:=List.eq_nil_of_length_eq_zero (HR.1.trans h0)
        simp [flat_nil] at hu
      · obtain ⟨ad',e',hc⟩:=HR.2.2 h0
        injection e' with e';subst e';exact hc j u hu) (flat_oneCell E ys) (by simp only [maxLen];omega) hl hbase
  unfold Oper.wp execOp;simp only [ho,resolve,invoke,builtin,Sem.run_bind,Sem.run_pure,Result.andThen_ok,List.map_toArray,List.map_cons,List.map_nil,hs,hx,hr];exact h v1 w1 (by rw [flat_append];exact h2) h3 h5
theorem str_inj {s t : ByteArray} (h : (Lit.string s.data.toList) = Lit.string t.data.toList) : s = t:=by
  injection h with h
  cases s;cases t;simp at h;simp [h]
def strL (s : ByteArray) : Lit:=.string s.data.toList
/-- A tree at block g: its accounts,the names that it knows,the children of each. -/
structure TreeAt (w : World) (P : Nat) (f : Nat → Int) (g : Nat) (ls : List Acc) (A : Option Addr) (c mb kb k : Nat) (Dn Dk : DataW Value) : Prop where
  blk : w.heap[g]? = some (.cells #[.slice A ls.length c,.map (some mb),.map (some kb)] 145 (0,0))
  own : w.ownsRow P 31 Ec.sz (.slice A ls.length c) ls.length (flat Ec ls)
  nm : w.ownsMap Tryz.prog 9 (plainElem Tryz.prog 3) mb k Dn
  has : ∀ s : ByteArray,s.size ≤ maxLen → (Maps.has Dn (strL s) = true ↔ ∃ a ∈ ls,a.nm = s)
  kids : KidsOk w f kb k Dk
  fg : f g = 1
  fl : ∀ b,(Value.slice A ls.length c).ownBlock = some b → f b = 2
  fm : f mb = 3
  base : P ≤ g
theorem TreeAt.lt {w w' : World} {P : Nat} {f f' : Nat → Int} {g : Nat} {ls : List Acc} {A : Option Addr} {c mb kb k : Nat} {Dn Dk : DataW Value} {T : Int → Prop} (h : TreeAt w P f g ls A c mb kb k Dn Dk) (hl : Lt w f w' f' T) (hT : ∀ x,1 ≤ x → x ≤ 5 → ¬ T x) : TreeAt w' P f' g ls A c mb kb k Dn Dk:=
  ⟨blk_tn h.blk hl.tn (by rw [h.fg];exact hT _ (by decide) (by decide)),own_tn h.own hl.tn (fun b hb => by rw [h.fl b hb];exact hT _ (by decide) (by decide)),map_tn h.nm hl.tn (by rw [h.fm];exact hT _ (by decide) (by decide)),h.has,
    h.kids.lt hl (hT _ (by decide) (by decide)) (hT _ (by decide) (by decide)),by rw [hl.lab _ (blk_lt' h.blk)];exact h.fg,fun b hb => by rw [hl.lab _ (h.own.lt b hb).2];exact h.fl b hb,by rw [hl.lab _ h.nm.lt];exact h.fm,h.base⟩
theorem TreeAt.gb {w w' : World} {P : Nat} {f : Nat → Int} {g : Nat} {ls : List Acc} {A : Option Addr} {c mb kb k : Nat} {Dn Dk : DataW Value} (h : TreeAt w P f g ls A c mb kb k Dn Dk) (hg : w.grownBy w' none) : TreeAt w' P f g ls A c mb kb k Dn Dk:=
  h.lt (Lt.gb (f:=f) (T:=fun _ => False) hg) (fun _ _ _ h => h)
def K15 (x : Int) : Prop:=1 ≤ x ∧ x ≤ 5
/-- What laying an account leaves. -/
def LayI (w : World) (P : Nat) (f : Nat → Int) (g : Nat) (ls : List Acc) (mb kb k : Nat) (a : Acc) (e : Ending) (w' : World) : Prop:=
  e = .returned (.int .i64 (ls.length : Nat)) ∧ ∃ (A : Option Addr) (c : Nat) (Dn Dk : DataW Value) (f' : Nat → Int),TreeAt w' P f' g (ls ++ [⟨a.nm,a.par,a.sh,a.cl,0⟩]) A c mb kb (k + 2) Dn Dk ∧ Lt w f w' f' K15
theorem lay_calls (w : World) (P : Nat) (f : Nat → Int) (g : Nat) (ls : List Acc) (A : Option Addr) (c mb kb k : Nat) (Dn Dk : DataW Value) (a : Acc) (ht : TreeAt w P f g ls A c mb kb k Dn Dk) (hk : k ≤ 190) (hln : ls.length ≤ 100) (hp : (Lit.int .i64 a.par).wf = true) (hs : a.nm.size ≤ maxLen) :
    Calls Tryz.prog 108 #[.pointer (some ⟨g,0,none⟩),.agg #[.string a.nm,.int .i64 a.par,.int .i64 a.sh,.bool a.cl,.int .u64 a.us]] w (LayI w P f g ls mb kb k a):=by
  obtain ⟨f1,hl1,hf1⟩:=Lt.new (f:=f) (T:=fun _ => False) (Tn.gb0 (gA w (.cells #[.string a.nm,.int .i64 a.par,.int .i64 a.sh,.bool a.cl,.int .u64 0] 31) none) (fun _ => False)) (-100);have HT1:=Am (ht.lt hl1 (fun _ _ _ h => h));have HX1:=Am (heap_alloc_new w (.cells #[.string a.nm,.int .i64 a.par,.int .i64 a.sh,.bool a.cl,.int .u64 0] 31));have HL1:=Am hl1;have HFX:=Am (hf1 _ (Nat.le_refl _));have HPW:=Am hp;have HSZ:=Am hs;obtain ⟨n,hn⟩ : ∃ n,n = ls.length:=⟨_,rfl⟩;have HNN:=Am hn;have hc0:=cell_of (j:=0) (v:=.slice A n c) ht.blk (by rw [hn];rfl);rw [← hn] at hln;have HGL:=Am (blk_lt' ht.blk);have hca : (w.alloc (.cells #[.string a.nm,.int .i64 a.par,.int .i64 a.sh,.bool a.cl,.int .u64 a.us] 31)).cell? ⟨g,0,none⟩ = some (.slice A n c):=(gA w _ none).cell hc0 (by simp);clear ht hl1 hf1 hp hs hn hc0;go_enter Tryz.func108,Tryz.ntmps108;go_upto_region 3 with (fail)
  obtain ⟨bx,hbx⟩ : ∃ bx,bx = w.heap.size:=⟨_,rfl⟩;rw [← hbx] at HX1 HFX ⊢;have HGX : Aside0 (g ≠ bx):=⟨by have:=HGL.out;omega⟩;generalize w.alloc (.cells #[.string a.nm,.int .i64 a.par,.int .i64 a.sh,.bool a.cl,.int .u64 0] 31) = W1 at HT1 HX1 HL1 hca ⊢;clear hbx;have HTd:=Am (HT1.out.gb (gb_drew W1 none));have HXd:=Am (show W1.drew.heap[bx]? = some (.cells #[.string a.nm,.int .i64 a.par,.int .i64 a.sh,.bool a.cl,.int .u64 0] 31 (0,0)) from HX1.out);have HLN:=Am (show (ls ++ [(⟨a.nm,a.par,a.sh,a.cl,0⟩ : Acc)]).length = n + 1 by rw [List.length_append,HNN.out];rfl);refine start_ (n:=11) (S:=fun w' => w'.cell? ⟨g,0,none⟩ = some (.slice A n c) ∧ w'.cell? ⟨bx,0,none⟩ = some (.string a.nm) ∧ w'.cell? ⟨bx,1,none⟩ = some (.int .i64 a.par) ∧ w'.cell? ⟨bx,2,none⟩ = some (.int .i64 a.sh) ∧ w'.cell? ⟨bx,3,none⟩ = some (.bool a.cl) ∧ w'.cell? ⟨bx,4,none⟩ = some (.int .u64 0)) (ds:=[7,10]) #[nn,nn,nn,nn,nn,nn,nn,nn,nn,nn,nn] (by kernel_rfl) rfl rfl ⟨by rw [HNN.out];exact cell_of (j:=0) HTd.out.blk rfl,cell_of (j:=0) HXd.out rfl,cell_of (j:=1) HXd.out rfl,cell_of (j:=2) HXd.out rfl,cell_of (j:=3) HXd.out rfl,cell_of (j:=4) HXd.out rfl⟩ (fun hHeld => ?_);refine pu_ 0 (some 12) (bm 11 1) (by kernel_rfl) ?_;refine pu_ 1 (some 13) (bm 11 3) (by kernel_rfl) ?_;refine pu_ 2 (some 14) (bm 11 7) (by kernel_rfl) ?_;refine pu_ 3 (some 15) (bm 11 15) (by kernel_rfl) ?_;refine tk_ 4 (some 16) (bm 11 31) (by kernel_rfl) hHeld ?_;refine tk_ 5 (some 17) (bm 11 63) (by kernel_rfl) hHeld ?_;refine one_ (i:=6) (N:=some 18) (bm 11 127) rfl rfl (by kernel_rfl) (by decide) (fun K hK => ?_);refine value_ (w1:=?_) (v:=?_) (by rfl) rfl ?_ ?_
  rotate_left 2
  · go_simp
    constructor
    · rfl
    · rfl
  have HT6:=Am (HTd.out.gb (gA _ (.cells #[.string a.nm,.int .i64 a.par,.int .i64 a.sh,.bool a.cl,.int .u64 0] 31) none));have HX6:=Am (blk_kept HXd.out (gA _ (.cells #[.string a.nm,.int .i64 a.par,.int .i64 a.sh,.bool a.cl,.int .u64 0] 31) none) (by simp));have HR6:=Am (show Rd Ec (W1.drew.alloc (.cells #[.string a.nm,.int .i64 a.par,.int .i64 a.sh,.bool a.cl,.int .u64 0] 31)) (some ⟨W1.drew.heap.size,0,none⟩) 1 [⟨a.nm,a.par,a.sh,a.cl,0⟩] from rd_lit Ec W1.drew 31 [⟨a.nm,a.par,a.sh,a.cl,0⟩] (by simp));have HZ6 : Aside0 (P ≤ (W1.drew.alloc (.cells #[.string a.nm,.int .i64 a.par,.int .i64 a.sh,.bool a.cl,.int .u64 0] 31)).heap.size):=⟨by have h1:=HTd.out.base;have h2:=blk_lt' HTd.out.blk;simp at h2 ⊢;omega⟩;refine hK.out _ _ ⟨by rw [HNN.out];exact cell_of (j:=0) HT6.out.blk rfl,cell_of (j:=0) HX6.out rfl,cell_of (j:=1) HX6.out rfl,cell_of (j:=2) HX6.out rfl,cell_of (j:=3) HX6.out rfl,cell_of (j:=4) HX6.out rfl⟩ (fun hHeld => ?_);clear hK K;refine norm_ (a':=?_) ?_ ?_
  rotate_left
  · show Act.put _ (some 18) _ = _
    simp only [NR];rfl
  refine last_ (i:=7) (N:=some 19) (bm 11 255) rfl rfl (by kernel_rfl) (by decide) (fun K hK => ?_);refine app_at_step Ec (by rfl) rfl P (.tmp 16) (.tmp 18) 24 31 (.agg #[.string ByteArray.empty,.int .i64 0,.int .i64 0,.bool false,.int .u64 0]) 48 rfl Tryz.underlying24 (by kernel_rfl) rfl (by decide) (.slice A n c) n ls [⟨a.nm,a.par,a.sh,a.cl,0⟩] _ 1 1 rfl rfl (by rw [HNN.out];exact HT6.out.own) HR6.out HZ6.out (by omega) ?_;intro v7 w7 ho hg hat;obtain ⟨A7,c7,rfl,-,-,-⟩:=own_open HLN.out ho;have HO7:=Am ho;have HG7:=Am hg;have HA7:=Am hat;have HK7:=Am (blk_tn HT6.out.blk (Tn.of_gb hg (F:=fun k => f1 k = 2) (fun k hk => HT6.out.fl k (by rw [← HNN.out];exact hk))) (by rw [HT6.out.fg];decide));clear ho hg hat;have q7:=cell_of (j:=0) (v:=.slice A n c) HK7.out (by rw [HNN.out];rfl);have q8:=frozen_of (j:=0) HK7.out;refine hK.out _ _ ?_;clear hK K;refine norm_ (a':=?_) ?_ ?_
  rotate_left
  · show Act.put _ (some 19) _ = _
    simp only [NR];rfl
  refine pu_ 8 (some 20) (bm 11 511) (by kernel_rfl) ?_;refine pu_ 9 (some 21) (bm 11 1023) (by kernel_rfl) ?_;refine last_ (i:=10) (N:=none) (bm 11 2047) rfl rfl (by kernel_rfl) (by decide) (fun K hK => ?_);refine skip_ (w1:=?_) (by rfl) rfl ?_ ?_
  rotate_left
  · go_simp
    rfl
  refine hK.out _ _ ?_;clear hK K;refine done_ (by kernel_rfl) ?_;go_upto_region 4 with (fail)
  have hn : n = ls.length:=HNN.out;have hA : ∀ b,(Value.slice A n c).ownBlock = some b → f1 b = 2:=fun b hb => HT6.out.fl b (by rw [← hn];exact hb)
  have hg1 : f1 g = 1:=HT1.out.fg;have hgl : g < W1.heap.size:=blk_lt' HT1.out.blk;have hT2 : Tn W1 (w7.setCell ⟨g,0,none⟩ (.slice A7 (n + 1) c7)) (fun i => f1 i = 1 ∨ f1 i = 2):=
    (((Tn.drew W1 _).trans' (Tn.alloc _ _ _)).trans' (Tn.of_gb HG7.out (fun i hi => .inr (hA i hi)))).trans' (Tn.set g 0 _ (.inl hg1))
  have hB2 : (w7.setCell ⟨g,0,none⟩ (.slice A7 (n + 1) c7)).heap[g]? = some (.cells #[.slice A7 (n + 1) c7,.map (some mb),.map (some kb)] 145 (0,0)):=by
    have:=blk_set 0 (.slice A7 (n + 1) c7) HK7.out;simpa using this
  have hA7 : ∀ b,(Value.slice A7 (n + 1 : Nat) c7).ownBlock = some b → (f1 b = 2 ∧ b < W1.heap.size) ∨ W1.heap.size ≤ b:=fun b hb => by
    rcases HA7.out with e | e
    · rw [hb] at e
      have h5:=(HT1.out.own.lt b (by rw [← hn];exact e.symm)).2;exact .inl ⟨hA b e.symm,h5⟩
    · rw [hb] at e
      have:=oI e;simp at this;exact .inr (by omega)
  have hO2 : (w7.setCell ⟨g,0,none⟩ (.slice A7 (n + 1) c7)).ownsRow P 31 Ec.sz (.slice A7 (n + 1 : Nat) c7) (n + 1) (flat Ec (ls ++ [⟨a.nm,a.par,a.sh,a.cl,0⟩])):=
    own_tn HO7.out (Tn.set g 0 _ (F:=fun i => i = g) rfl) (fun i hi e => by
      subst e;rcases hA7 i hi with ⟨h1,_⟩ | h1
      · omega
      · omega)
  obtain ⟨f2,hl2,hf2⟩:=Lt.new (f:=f1) (T:=fun x => x = 1 ∨ x = 2) hT2 2;have hnm2:=map_tn HT1.out.nm hT2 (by rw [HT1.out.fm];decide);have hkd2:=HT1.out.kids.lt hl2 (by decide) (by decide);have hx2:=blk_tn HX1.out hT2 (by rw [HFX.out];decide);have hg2 : f2 g = 1:=by rw [hl2.lab g hgl];exact hg1
  have hm2 : f2 mb = 3:=by rw [hl2.lab mb HT1.out.nm.lt];exact HT1.out.fm
  have hx2f : f2 bx = -100:=by rw [hl2.lab bx (blk_lt' HX1.out)];exact HFX.out
  have hl72 : ∀ b,(Value.slice A7 (n + 1 : Nat) c7).ownBlock = some b → f2 b = 2:=fun b hb => by
    rcases hA7 b hb with ⟨h1,h2⟩ | h1
    · rw [hl2.lab b h2];exact h1
    · exact hf2 b h1
  have HB2d:=Am hB2;have HX2d:=Am hx2;have HO2:=Am hO2;have HNM2:=Am hnm2;have HKD2:=Am hkd2;have HLt2:=Am hl2;have HFF:=Am (And.intro hg2 (And.intro hm2 (And.intro hx2f hl72)));clear hn hA hg1 hgl hT2 hB2 hA7 hO2 hl2 hf2 hnm2 hkd2 hx2 hg2 hm2 hx2f hl72 HO7 HG7 HA7 HK7 HT6 HX6 HR6 HZ6 q7 q8 hca HXd HTd;generalize w7.setCell ⟨g,0,none⟩ (.slice A7 (n + 1) c7) = W2 at HB2d HX2d HO2 HNM2 HKD2 HLt2 ⊢;have hnw : (Lit.int .i64 (n : Int)).wf = true:=by simp [Lit.wf,IntKind.min,IntKind.max,IntKind.bits,IntKind.signed];omega
  obtain ⟨W3,hup,ho3,hg3⟩:=(HNM2.out.drew).update (string_keyed Tryz.underlying9) Tryz.underlying142 (by simp only [maxLen];omega) (Go.WideMaps.keyOf_string_mk Tryz.underlying9 HSZ.out) (plainElem_int Tryz.underlying3 hnw);have HO3:=Am ho3;have HG3:=Am hg3;clear ho3 hg3;refine start_ (n:=8) (S:=fun w' => w'.cell? ⟨g,1,none⟩ = some (.map (some mb)) ∧ w'.cell? ⟨bx,0,none⟩ = some (.string a.nm)) (ds:=[7]) #[nn,nn,nn,nn,nn,nn,nn,nn] (by kernel_rfl) rfl rfl ⟨cell_of (j:=1) HB2d.out rfl,cell_of (j:=0) HX2d.out rfl⟩ (fun hHeld => ?_);refine pu_ 0 (some 22) (bm 8 1) (by kernel_rfl) ?_;refine pu_ 1 (some 23) (bm 8 3) (by kernel_rfl) ?_;refine pu_ 2 (some 24) (bm 8 7) (by kernel_rfl) ?_;refine pu_ 4 (some 26) (bm 8 23) (by kernel_rfl) ?_;refine pu_ 6 (some 28) (bm 8 87) (by kernel_rfl) ?_;refine tk_ 3 (some 25) (bm 8 95) (by kernel_rfl) hHeld ?_;refine tk_ 5 (some 27) (bm 8 127) (by kernel_rfl) hHeld ?_;refine last_ (i:=7) (N:=none) (bm 8 255) rfl rfl (by kernel_rfl) (by decide) (fun K hK => ?_);refine skip_ (w1:=?_) (by rfl) rfl ?_ ?_
  rotate_left
  · go_simp
    rfl
  refine hK.out _ _ ?_;clear hK K;refine done_ (by kernel_rfl) ?_;go_upto_region 5 with (fail)
  obtain ⟨hg2,hm2,hx2,hl72⟩:=HFF.out;have hl3 : Lt W2 f2 W3 f2 (fun x => x = 3):=⟨(Tn.drew W2 _).trans' (Tn.of_gb HG3.out (fun i hi => by cases hi;exact hm2)),fun _ _ => rfl⟩;have HB3:=Am (blk_tn HB2d.out hl3.tn (by rw [hg2];decide));have HX3:=Am (blk_tn HX2d.out hl3.tn (by rw [hx2];decide));have HK3:=Am (HKD2.out.lt hl3 (by decide) (by decide));have HO3r:=Am (own_tn HO2.out hl3.tn (fun i hi => by rw [hl72 i hi];decide));have HL3:=Am ((HLt2.out.mono (U:=K15) (fun x h => by unfold K15;omega)).trans (hl3.mono (U:=K15) (fun x h => by unfold K15;omega)));have cx1:=cell_of (j:=1) (v:=.int .i64 a.par) HX3.out rfl;have hc2:=cell_of (j:=2) (v:=.map (some kb)) HB3.out rfl;have hnw : (Lit.int .i64 (n : Int)).wf = true:=by simp [Lit.wf,IntKind.min,IntKind.max,IntKind.bits,IntKind.signed];omega
  have HU:=Am (under_calls W3 f2 g kb k Dk a.par (n : Int) hc2 HK3.out hg2 (by omega) HPW.out hnw);clear hg2 hm2 hx2 hl72 hl3 hnw hup hc2;go_wp2_with fail
  refine (HU.out).mono ?_;rintro e W4 ⟨rfl,D4,f4,hk4,hl4⟩;have HK4:=Am hk4;have HL4:=Am hl4;clear hk4 hl4 cx1;go_wp2_with fail
  go_ret;obtain ⟨hg2,hm2,hx2,hl72⟩:=HFF.out;have hn : n = ls.length:=HNN.out;have hIs : Maps.IsMap Dn:=HNM2.out.isMap;have hLx : (ls ++ [(⟨a.nm,a.par,a.sh,a.cl,0⟩ : Acc)]).length = n + 1:=HLN.out;have hn4 : ∀ x,x = 1 ∨ x = 2 ∨ x = 3 → ¬ K45 x:=fun x hx h => by rcases h with h | h <;> omega
  refine ⟨by rw [← hn];rfl,A7,c7,_,D4,f4,⟨?_,?_,(map_tn HO3.out HL4.out.tn (by rw [hm2];exact hn4 _ (by decide))).mono (by omega),?_,HK4.out,?_,?_,?_,HT1.out.base⟩,?_⟩
  · rw [hLx];exact blk_tn HB3.out HL4.out.tn (by rw [hg2];exact hn4 _ (by decide))
  · rw [hLx];exact own_tn HO3r.out HL4.out.tn (fun i hi => by rw [hl72 i hi];exact hn4 _ (by decide))
  · intro s hs
    by_cases e : strL s = strL a.nm
    · have h1 : s = a.nm:=str_inj e
      rw [e];exact ⟨fun _ => ⟨⟨a.nm,a.par,a.sh,a.cl,0⟩,by simp,h1.symm⟩,fun _ => Maps.has_put_same hIs (show WideAt.IsKeyLit (strL a.nm) from trivial) _⟩
    · have h0:=Maps.has_put_other (D:=Dn) (k:=strL a.nm) (k':=strL s) e (.lit (.int .i64 (n : Int)))
      have h1:=HT1.out.has s hs;constructor
      · intro h
        obtain ⟨x,hx,hxn⟩:=h1.1 (h0.symm.trans h);exact ⟨x,by simp [hx],hxn⟩
      · rintro ⟨x,hx,hxn⟩
        refine h0.trans (h1.2 ?_);rcases List.mem_append.1 hx with h2 | h2
        · exact ⟨x,h2,hxn⟩
        · exfalso
          have : x = ⟨a.nm,a.par,a.sh,a.cl,0⟩:=by simpa using h2
          subst this;exact e (by rw [← hxn])
  · rw [HL4.out.lab g (blk_lt' HB3.out)];exact hg2
  · intro b hb
    rw [hLx] at hb;rw [HL4.out.lab b (HO3r.out.lt b hb).2];exact hl72 b hb
  · rw [HL4.out.lab mb HO3.out.lt];exact hm2
  · exact ((HL1.out.mono (U:=K15) (fun _ h => h.elim)).trans HL3.out).trans (HL4.out.mono (fun x h => by unfold K15;rcases h with h | h <;> omega))
theorem new_st (w : World) : ∃ f : Nat → Int,TreeAt (((w.alloc (.map #[] 0)).alloc (.map #[] 0)).alloc (.cells #[.slice none 0 0,.map (some w.heap.size),.map (some (w.heap.size + 1))] 145)) w.heap.size f (w.heap.size + 1 + 1) [] none 0 w.heap.size (w.heap.size + 1) 0 (.map []) (.map []) ∧
    (∀ k,k < w.heap.size → f k = -1000):=by
  refine ⟨fun k => if k < w.heap.size then -1000 else if k = w.heap.size then 3 else if k = w.heap.size + 1 then 4 else 1,⟨?_,own_nil _ _ _ _,?_,?_,⟨?_,fun kl => ⟨none,rfl⟩,fun kl b h => ?_,?_⟩,?_,?_,?_,by omega⟩,fun k hk => if_pos hk⟩
  · have:=heap_alloc_new ((w.alloc (.map #[] 0)).alloc (.map #[] 0)) (.cells #[.slice none 0 0,.map (some w.heap.size),.map (some (w.heap.size + 1))] 145)
    simpa using this
  · exact (((World.ownsMap_made w Tryz.prog 9 (plainElem Tryz.prog 3)).alloc _).alloc _)
  · intro s _
    simp [Maps.has]
  · have:=(World.ownsMap_made (w.alloc (.map #[] 0)) Tryz.prog 3 RK).alloc (.cells #[.slice none 0 0,.map (some w.heap.size),.map (some (w.heap.size + 1))] 145)
    simpa using this
  · exfalso
    have h2 : (DataW.held (Value.map none)) = DataW.held (Value.map (some b)):=h;injection h2 with h2;injection h2 with h2
    cases h2
  · show (if _ then _ else _) = _;rw [if_neg (by omega),if_neg (by omega),if_pos rfl]
  · show (if _ then _ else _) = _;rw [if_neg (by omega),if_neg (by omega),if_neg (by omega)]
  · intro b hb;simp [Value.ownBlock] at hb
  · show (if _ then _ else _) = _;rw [if_neg (by omega),if_pos rfl]
/-- What New answers: a tree of its own,of the root alone. -/
def NewI (w : World) (e : Ending) (w' : World) : Prop:=
  ∃ (g : Nat) (A : Option Addr) (c mb kb : Nat) (Dn Dk : DataW Value) (f : Nat → Int),e = .returned (.pointer (some ⟨g,0,none⟩)) ∧ TreeAt w' w.heap.size f g [rootA] A c mb kb 2 Dn Dk ∧ (∀ k,k < w.heap.size → f k = -1000) ∧ w.grownBy w' none
theorem new_calls (w : World) : Calls Tryz.prog 105 #[] w (NewI w):=by
  have hmk1 : ∀ W : World,(Instr.makeMap 142 none).run Tryz.prog W = .ok (.map (some W.heap.size)) (W.alloc (.map #[] 0)):=fun W => rfl
  have hmk2 : ∀ W : World,(Instr.makeMap 143 none).run Tryz.prog W = .ok (.map (some W.heap.size)) (W.alloc (.map #[] 0)):=fun W => rfl
  obtain ⟨f,hst,hf⟩:=new_st w;have HT:=Am hst;have HF:=Am hf;have HG:=Am (((gA w (.map #[] 0) none).trans (gA _ (.map #[] 0) none)).trans (gA _ (.cells #[.slice none 0 0,.map (some w.heap.size),.map (some (w.heap.size + 1))] 145) none));clear hst hf;go_enter Tryz.func105,Tryz.ntmps105;go_upto_region 2 with (fail)
  generalize (((w.alloc (.map #[] 0)).alloc (.map #[] 0)).alloc (.cells #[.slice none 0 0,.map (some w.heap.size),.map (some (w.heap.size + 1))] 145)) = w1 at HT HG ⊢;go_wp2_with fail
  refine (root_calls w1).mono ?_;rintro e w2 ⟨rfl,hg⟩;have HT2:=Am (HT.out.gb hg);have HG2:=Am (gT HG.out hg);clear hg HT HG;go_wp2_with fail
  refine (lay_calls w2 w.heap.size f (w.heap.size + 1 + 1) [] none 0 w.heap.size (w.heap.size + 1) 0 _ _ rootA HT2.out (by omega) (by simp) (by decide) (by decide)).mono ?_;rintro e w3 ⟨rfl,A,c,Dn,Dk,f3,ht3,hl3⟩;have HT3:=Am ht3;have HL3:=Am hl3;clear ht3 hl3;go_wp2_with fail
  go_ret;have hz : w.heap.size ≤ w2.heap.size:=HG2.out.size;refine ⟨_,A,c,_,_,Dn,Dk,f3,rfl,HT3.out,fun k hk => by rw [HL3.out.lab k (by omega)];exact HF.out k hk,?_⟩;refine ⟨HL3.out.tn.os.trans HG2.out.os,HL3.out.tn.tape.trans HG2.out.tape,HL3.out.tn.output.trans HG2.out.output,Nat.le_trans hz HL3.out.tn.size,fun k hk _ => ?_⟩;rw [HL3.out.tn.block k (by omega) (by rw [HF.out k hk];unfold K15;omega)];exact HG2.out.block k hk (by simp)
end Go.Proofs.YtodibpddlibneaaGreatDoor.T
namespace Go.Proofs.YtodibpddlibneaaGreatDoor.T
open Go.RowKit
section
variable {P : Program} {d : Nat} {xs ys : Array Value} {f : Field} {fs : List Field} {a b : Value} {r s : Bool} {w : World}
theorem eqfC (hn : (f.name == "_") = false) (ha : (part f.type xs f.offset).run P w = .ok a w) (hb : (part f.type ys f.offset).run P w = .ok b w) (he : (Op.equalIn d f.type a b).run P w = .ok r w) (hr : (Op.eqFields d xs ys fs).run P w = .ok s w) : (Op.eqFields d xs ys (f :: fs)).run P w = .ok (r && s) w:=by
  have hn' : f.name ≠ "_":=by simpa using hn
  rw [Op.eqFields];simp only [if_pos hn',Sem.run_bind,ha,hb,he,Result.andThen_ok]
  cases r
  · simp
  · simpa using hr
theorem eqfL (hn : (f.name == "_") = false) (ha : (part f.type xs f.offset).run P w = .ok a w) (hb : (part f.type ys f.offset).run P w = .ok b w) (he : (Op.equalIn d f.type a b).run P w = .ok r w) : (Op.eqFields d xs ys [f]).run P w = .ok r w:=by
  have h:=eqfC (fs:=[]) hn ha hb he (by simp [Op.eqFields] : (Op.eqFields d xs ys []).run P w = .ok true w);rwa [Bool.and_true] at h
theorem eqAO {t : TypeId} {fs : Array Field} (hu : P.underlying t = some (.struct fs)) (hp : P.stoodInHeld t = false) (h : (Op.eqFields d xs ys fs.toList).run P w = .ok r w) : (Op.equalIn (d + 1) t (.agg xs) (.agg ys)).run P w = .ok r w:=by
  have hf : P.fieldsOf t = fs:=by simp [Program.fieldsOf,hu]
  rw [run_equalIn_struct (P:=P) w d t xs ys (by rw [hf];exact hu) hp,hf];exact h
end
end Go.Proofs.YtodibpddlibneaaGreatDoor.T
namespace Go.Proofs.YtodibpddlibneaaGreatDoor.T
open Go.RowKit YtodibpddlibneaaGreatDoorW.PrintWords YtodibpddlibneaaGreatDoorW.PrintLast H Go.Maps
set_option linter.unusedVariables false
set_option linter.unusedSimpArgs false
def accEq (a b : Acc) : Bool:=(a.nm.toList == b.nm.toList) && ((a.par == b.par) && ((a.sh == b.sh) && ((a.cl == b.cl) && (a.us == b.us))))
theorem acc_equal (a b : Acc) (W : World) : (Op.equalIn 10000 31 (.agg (accV a)) (.agg (accV b))).run Tryz.prog W = .ok (accEq a b) W:=by
  refine eqAO Tryz.underlying31 (by kernel_rfl) ?_;refine eqfC (by rfl) (by kernel_rfl) (by kernel_rfl) (run_equalIn_string W _ _ _ _ Tryz.underlying9) ?_;refine eqfC (by rfl) (by kernel_rfl) (by kernel_rfl) (run_equalIn_int W _ _ .i64 .i64 _ _ Tryz.underlying3) ?_;refine eqfC (by rfl) (by kernel_rfl) (by kernel_rfl) (run_equalIn_int W _ _ .i64 .i64 _ _ Tryz.underlying3) ?_;refine eqfC (by rfl) (by kernel_rfl) (by kernel_rfl) (run_equalIn_bool' W _ _ _ _ Tryz.underlying4) ?_;refine eqfL (by rfl) (by kernel_rfl) (by kernel_rfl) (run_equalIn_int W _ _ .u64 .u64 _ _ Tryz.underlying29)
theorem acc_neq (a b : Acc) (W : World) : (binOp .neq 31 (.agg (accV a)) (.agg (accV b))).run Tryz.prog W = .ok (.bool (!accEq a b)) W:=by
  have h : (Op.equal 31 (.agg (accV a)) (.agg (accV b))).run Tryz.prog W = _:=acc_equal a b W;simp [binOp,h]
theorem toList_inj {s t : ByteArray} (h : s.toList = t.toList) : s = t:=by
  rw [ByteArray.toList_eq,ByteArray.toList_eq] at h
  cases s;cases t;simp at h;simp [h]
theorem accEq_iff {a b : Acc} (h : accEq a b = true) : a = b:=by
  unfold accEq at h;simp only [Bool.and_eq_true,beq_iff_eq] at h;obtain ⟨h1,h2,h3,h4,h5⟩:=h;obtain ⟨n1,p1,s1,c1,u1⟩:=a;obtain ⟨n2,p2,s2,c2,u2⟩:=b
  have:=toList_inj h1;simp only at this h2 h3 h4 h5;subst this h2 h3 h4 h5;rfl
def zeroU (a : Acc) : Acc:=⟨a.nm,a.par,a.sh,a.cl,0⟩
def thereB (ls : List Acc) (s : ByteArray) : Bool:=ls.any (fun a => a.nm.toList == s.toList)
theorem there_iff {ls : List Acc} {s : ByteArray} : thereB ls s = true ↔ ∃ a ∈ ls,a.nm = s:=by
  unfold thereB;rw [List.any_eq_true];constructor
  · rintro ⟨a,ha,h⟩
    exact ⟨a,ha,toList_inj (by simpa using h)⟩
  · rintro ⟨a,ha,h⟩
    exact ⟨a,ha,by simp [h]⟩
/-- What is wrong with the account at i. -/
def rowE (ls : List Acc) (i : Nat) (a : Acc) : Int:=
  if nameB a.nm = false then 60 else if thereB (ls.take i) a.nm = true then 61 else if a.par < 0 ∨ (ls.length : Int) ≤ a.par then 62 else if shB a.sh = false then 63 else 0
def rowsE (ls : List Acc) : Nat → Nat → Int
  | 0,_ => 0
  | k + 1,i => match ls[i]? with
    | none => 0
    | some a => if rowE ls i a = 0 then rowsE ls k (i + 1) else rowE ls i a
def depE (ls : List Acc) (i : Nat) : Int:=if depV ls i < 0 then 67 else if 4 < depV ls i then 64 else 0
def depsE (ls : List Acc) : Nat → Nat → Int
  | 0,_ => 0
  | k + 1,i => if depE ls i = 0 then depsE ls k (i + 1) else depE ls i
/-- What Load says of a list. -/
def loadE (ls : List Acc) : Int:=
  match ls with
  | [] => 66
  | a :: r => if accEq (zeroU a) rootA = false then 66 else if 64 < (a :: r).length then 65 else if rowsE (a :: r) r.length 1 = 0 then depsE (a :: r) (a :: r).length 0 else rowsE (a :: r) r.length 1
theorem parV_zero (ls : List Acc) (n : Int) : parV (ls.map zeroU) n = parV ls n:=by
  unfold parV;rw [List.map_map];rfl
theorem depL_zero (ls : List Acc) : ∀ (k : Nat) (d n : Int),depL (ls.map zeroU) k d n = depL ls k d n
  | 0,_,_ => rfl
  | k + 1,d,n => by rw [depL,depL,parV_zero,depL_zero ls k]
theorem depV_zero (ls : List Acc) (n : Int) : depV (ls.map zeroU) n = depV ls n:=by
  unfold depV;rw [List.length_map,depL_zero]
theorem rows_pars {ls : List Acc} : ∀ (k i : Nat),i + k = ls.length → rowsE ls k i = 0 → ∀ (n : Nat),i ≤ n → n < ls.length → 0 ≤ parV ls n ∧ parV ls n < ls.length
  | 0,i,hk,_,n,h1,h2 => by omega
  | k + 1,i,hk,h,n,h1,h2 => by
    have hi : i < ls.length:=by omega
    rw [rowsE,lG hi] at h;simp only at h
    by_cases hr : rowE ls i ls[i] = 0
    · rw [if_pos hr] at h
      rcases Nat.eq_or_lt_of_le h1 with e | e
      · subst e
        have hp : parV ls (i : Int) = ls[i].par:=by
          unfold parV;rw [Int.toNat_natCast,List.getD_eq_getElem?_getD,List.getElem?_map,lG hi];rfl
        rw [hp];unfold rowE at hr;split at hr
        · cases hr
        · split at hr
          · cases hr
          · split at hr
            · cases hr
            · omega
      · exact rows_pars k (i + 1) (by omega) h n e h2
    · rw [if_neg hr] at h;exact absurd h hr
theorem load_pars {ls : List Acc} (h : rowsE ls (ls.length - 1) 1 = 0) (h1 : 1 ≤ ls.length) : Pars ls:=fun n h2 h3 => by
  obtain ⟨m,rfl⟩ : ∃ m : Nat,n = m:=⟨n.toNat,by omega⟩;exact rows_pars _ 1 (by omega) h m (by omega) (by omega)
/-- The five cells of the account at j,as a walk asks for them. -/
theorem acc_cells {w : World} {ad : Addr} {n : Nat} {ls : List Acc} (h : Rd Ec w (some ad) n ls) {i : Nat} {x : Acc} (hx : ls[i]? = some x) :
    w.cell? (ad.add (i * 5)) = some (.string x.nm) ∧ w.cell? ⟨(ad.add (i * 5)).block,(ad.add (i * 5)).off + 1,none⟩ = some (.int .i64 x.par) ∧ w.cell? ⟨(ad.add (i * 5)).block,(ad.add (i * 5)).off + 2,none⟩ = some (.int .i64 x.sh) ∧
      w.cell? ⟨(ad.add (i * 5)).block,(ad.add (i * 5)).off + 3,none⟩ = some (.bool x.cl) ∧ w.cell? ⟨(ad.add (i * 5)).block,(ad.add (i * 5)).off + 4,none⟩ = some (.int .u64 x.us):=by
  have hj : i < n:=by have:=(List.getElem?_eq_some_iff.1 hx).1;rw [h.1] at this;exact this
  obtain ⟨a,y,e,hy,hc⟩:=h.at_ i hj;obtain rfl : y = x:=oI (hy.symm.trans hx);obtain rfl : ad = a:=oI e;have off : ∀ k : Nat,0 < k → ad.add (i * 5 + k) = ⟨(ad.add (i * 5)).block,(ad.add (i * 5)).off + k,none⟩:=fun k hk => by
    rw [← H.add_add]
    cases k with
    | zero => omega
    | succ k => rfl
  refine ⟨?_,?_,?_,?_,?_⟩
  · have:=hc 0 _ rfl;simpa [Ec] using this
  · rw [← off 1 (by omega)];exact hc 1 _ rfl
  · rw [← off 2 (by omega)];exact hc 2 _ rfl
  · rw [← off 3 (by omega)];exact hc 3 _ rfl
  · rw [← off 4 (by omega)];exact hc 4 _ rfl
def findL : List Acc → Nat → ByteArray → Int
  | [],_,_ => -1
  | a :: r,i,s => if a.nm.toList == s.toList then (i : Int) else findL r (i + 1) s
theorem find_drop {ls : List Acc} {i : Nat} {a : Acc} {s : ByteArray} (h : ls[i]? = some a) (k : Nat) : findL (ls.drop i) k s = if a.nm.toList == s.toList then (k : Int) else findL (ls.drop (i + 1)) (k + 1) s:=by
  have hl:=(List.getElem?_eq_some_iff.1 h).1;rw [List.drop_eq_getElem_cons hl];have : ls[i] = a:=(List.getElem?_eq_some_iff.1 h).2;rw [this,findL]
theorem find_there : ∀ (ls : List Acc) (i k : Nat) (a : Acc),ls[i]? = some a → (findL ls k a.nm = ((k + i : Nat) : Int) ↔ thereB (ls.take i) a.nm = false)
  | [],_,_,_,h => by simp at h
  | b :: r,0,k,a,h => by
    have : b = a:=by simpa using h
    subst this;simp [findL,thereB]
  | b :: r,i + 1,k,a,h => by
    have h' : r[i]? = some a:=by simpa using h
    have ih:=find_there r i (k + 1) a h';rw [findL,List.take_succ_cons]
    by_cases e : (b.nm.toList == a.nm.toList) = true
    · rw [if_pos e]
      constructor
      · intro h2;omega
      · intro h2;simp [thereB,e] at h2
    · rw [if_neg e]
      have e' : (b.nm.toList == a.nm.toList) = false:=by simpa using e
      have : thereB (b :: r.take i) a.nm = thereB (r.take i) a.nm:=by simp only [thereB,List.any_cons,e',Bool.false_or]
      rw [this,← ih,show k + (i + 1) = k + 1 + i by omega]
theorem find_calls (w : World) (A : Option Addr) (n c : Nat) (ls : List Acc) (s : ByteArray) (hr : Rd Ec w A n ls) :
    Calls Tryz.prog 113 #[.slice A n c,.string s] w fun e w' => e = .returned (.int .i64 (findL ls 0 s)) ∧ w.grownBy w' none:=by
  have hlen:=hr.2.1;have HR:=Am hr;have HN:=Am hr.1;clear hr;go_enter Tryz.func113,Tryz.ntmps113;go_wp2_with fail
  go_loopg [9] n (fun k v9 wr => ∃ (j : Nat),v9 = .int .i64 j ∧ Aside0 (j + k = n) ∧ j ≤ n ∧ Aside0 (findL (ls.drop j) j s = findL ls 0 s) ∧ Aside0 (w.grownBy wr none))
  case atStart => exact ⟨0,rfl,⟨by omega⟩,by omega,⟨rfl⟩,⟨gb_refl _ _⟩⟩
  case round =>
    obtain ⟨j,rfl,HD,hj,HE,HG⟩:=hrel
    cases gk with
    | zero =>
      obtain rfl : j = n:=by have:=HD.out;omega
      have HF:=Am (show findL ls 0 s = -1 by rw [← HE.out,List.drop_of_length_le (by rw [HN.out];exact Nat.le_refl _)];rfl);go_wp2;go_ret;exact ⟨by rw [HF.out];rfl,HG.out⟩
    | succ d =>
      have hlt : j < n:=by have:=HD.out;omega
      have hlt1 : decide ((j : Int) < (n : Int)) = true:=dT (by omega);have hji : (j : Int) < (n : Int):=by omega
      obtain ⟨a,ha⟩ : ∃ a,ls[j]? = some a:=⟨_,lG (by rw [HN.out];exact hlt)⟩;have HR1:=Am (HR.out.gb HG.out);obtain ⟨ad,rfl,-⟩:=HR1.out.2.2 (by omega);obtain ⟨h0,h1,h2,h3,h4⟩:=acc_cells HR1.out ha;have hz:=HE.out;rw [find_drop ha] at hz
      by_cases e : (a.nm.toList == s.toList) = true
      · rw [if_pos e] at hz
        have HF:=Am hz.symm;clear hz ha HE;go_wp2;go_ret;exact ⟨by rw [HF.out];rfl,gT HG.out (gA _ _ none)⟩
      · have e' : (a.nm.toList == s.toList) = false:=by simpa using e
        rw [if_neg e] at hz;have HF:=Am hz;clear hz ha HE e;go_wp2;go_roundg d
        case measure => omega
        case rel => exact ⟨j + 1,by go_num,⟨by have:=HD.out;omega⟩,by omega,HF,⟨gT HG.out (gA _ _ none)⟩⟩
theorem acc_cell_at {w : World} {ad : Addr} {n : Nat} {ls : List Acc} (h : Rd Ec w (some ad) n ls) {i : Nat} (hi : i < n) : w.cell? ⟨(ad.add (i * 5)).block,(ad.add (i * 5)).off + 1,none⟩ = some (.int .i64 (parV ls (i : Int))):=by
  obtain ⟨a,ha⟩ : ∃ a,ls[i]? = some a:=⟨_,lG (by rw [h.1];exact hi)⟩;have e2 : parV ls (i : Int) = a.par:=by
    unfold parV;rw [Int.toNat_natCast,List.getD_eq_getElem?_getD,List.getElem?_map,ha];rfl
  rw [e2];exact (acc_cells h ha).2.1
theorem rdepth_calls (w : World) (ad : Addr) (n c : Nat) (ls : List Acc) (v : Int) (hr : Rd Ec w (some ad) n ls) (hn : n ≤ 64) (hp : Pars ls) (hv : 0 ≤ v ∧ v < n) :
    Calls Tryz.prog 101 #[.slice (some ad) n c,.int .i64 v] w fun e w' => e = .returned (.int .i64 (depV ls v)) ∧ w = w':=by
  have HR:=Am hr;have HN:=Am hr.1;have HP:=Am hp;have HV:=Am hv;clear hr hp hv;go_enter Tryz.func101,Tryz.ntmps101;go_wp2_with fail
  go_loopg [1,5] (n + 1) (fun k v1 v5 wr => ∃ (d : Nat) (m : Int),v1 = .int .i64 m ∧ v5 = .int .i64 d ∧ Aside0 (d + k = n + 1) ∧ d ≤ n + 1 ∧ Aside0 (0 ≤ m ∧ m < n) ∧ Aside0 (depL ls k (d : Int) m = depV ls v) ∧ w = wr)
  case atStart => exact ⟨0,v,rfl,rfl,⟨by omega⟩,by omega,HV,⟨by unfold depV;rw [HN.out];rfl⟩,rfl⟩
  case round =>
    obtain ⟨d,m,rfl,rfl,HD,hd,HM,HE,rfl⟩:=hrel
    cases gk with
    | zero =>
      obtain rfl : d = n + 1:=by have:=HD.out;omega
      have HF:=Am (show depV ls v = -1 from HE.out.symm);have hb : decide ((n : Int) + 1 ≤ (n : Int)) = false:=dF (by omega);go_wp2;go_ret;exact ⟨by rw [HF.out];rfl,rfl⟩
    | succ k =>
      have hdn : d ≤ n:=by have:=HD.out;omega
      have hb : decide ((d : Int) ≤ (n : Int)) = true:=dT (by omega);have hb2 : decide (d ≤ n) = true:=dT hdn
      by_cases h0 : m = 0
      · have hb3 : (m == 0) = true:=by simp [h0]
        have HF:=Am (show depV ls v = (d : Int) by rw [← HE.out,depL,if_pos h0]);clear h0;go_wp2;go_ret;exact ⟨by rw [HF.out];rfl,rfl⟩
      · have hb3 : (m == 0) = false:=by simp [h0]
        obtain ⟨q,hq⟩ : ∃ q : Nat,m = q:=⟨m.toNat,by have:=HM.out;omega⟩;have HF:=Am (show depL ls k ((d : Int) + 1) (parV ls m) = depV ls v by rw [← HE.out,depL,if_neg h0]);have HM2:=Am (show 0 ≤ parV ls m ∧ parV ls m < n from by have h1:=HP.out m (by have:=HM.out;omega) (by have:=HM.out;have:=HN.out;omega);have:=HN.out;omega);subst hq;have hqn : q < n:=by have:=HM.out;omega
        have hqn2 : (q : Int) < (n : Int):=by omega
        have hcq:=acc_cell_at HR.out hqn;clear h0 HE HM;go_wp2;go_roundg k
        case measure => omega
        case rel => exact ⟨d + 1,_,rfl,by go_num,⟨by have:=HD.out;omega⟩,by omega,HM2,⟨by have:=HF.out;simpa using this⟩,rfl⟩
theorem rname_calls (w : World) (s : ByteArray) (hs : s.size ≤ 9223372036854775807) :
    Calls Tryz.prog 112 #[.string s] w fun e w' => e = .returned (.bool (nameB s)) ∧ w = w':=by
  by_cases h1 : s.size < 1
  · have b1 : decide (s.size < 1) = true:=dT h1
    have b2 : decide ((s.size : Int) < 1) = true:=dT (by omega);have HE:=Am (show nameB s = false by unfold nameB;rw [dF (show ¬ 1 ≤ s.size by omega)];simp);clear h1;go_enter Tryz.func112,Tryz.ntmps112;go_wp2;go_ret;exact ⟨by rw [HE.out];rfl,rfl⟩
  have b1 : decide (s.size < 1) = false:=dF h1;have b2 : decide ((s.size : Int) < 1) = false:=dF (by omega)
  by_cases h2 : 32 < s.size
  · have b3 : decide (32 < s.size) = true:=dT h2
    have b4 : decide (32 < (s.size : Int)) = true:=dT (by omega);have HE:=Am (show nameB s = false by unfold nameB;rw [dF (show ¬ s.size ≤ 32 by omega)];simp);clear h1 h2;go_enter Tryz.func112,Tryz.ntmps112;go_wp2;go_ret;exact ⟨by rw [HE.out];rfl,rfl⟩
  have b3 : decide (32 < s.size) = false:=dF h2;have b4 : decide (32 < (s.size : Int)) = false:=dF (by omega);have HSz:=Am (show (decide (1 ≤ s.size) && decide (s.size ≤ 32)) = true by simp;omega);have HL:=Am (bytesOf_length s);obtain ⟨xs,hxs⟩ : ∃ xs,xs = bytesOf s:=⟨_,rfl⟩;have HXS:=Am hxs;rw [← hxs] at HL;clear hxs h1 h2;go_enter Tryz.func112,Tryz.ntmps112;go_wp2_with fail
  go_loopg [15] s.size (fun k v15 wr => ∃ (j : Nat),v15 = .int .i64 j ∧ Aside0 (j + k = s.size) ∧ j ≤ s.size ∧ Aside0 ((xs.drop j).all chI = xs.all chI) ∧ w = wr)
  case atStart => exact ⟨0,rfl,⟨by omega⟩,by omega,⟨rfl⟩,rfl⟩
  case round =>
    obtain ⟨j,rfl,HD,hj,HE,rfl⟩:=hrel
    cases gk with
    | zero =>
      obtain rfl : j = s.size:=by have:=HD.out;omega
      have HF:=Am (show nameB s = true by
        unfold nameB;rw [← HXS.out,← HE.out,List.drop_of_length_le (by rw [HL.out];exact Nat.le_refl _),HSz.out];rfl)
      go_wp2;go_ret;exact ⟨by rw [HF.out];rfl,rfl⟩
    | succ d =>
      have hlt : j < s.size:=by have:=HD.out;omega
      have hjl : j < xs.length:=by rw [HL.out];exact hlt
      have hlt1 : decide ((j : Int) < s.size) = true:=dT (by omega);have hlt2 : (j : Int) < (s.size : Int):=by omega
      go_upto_region 7 with (fail)
      have hx0 : ((s[j]'hlt).toNat : Int) = rd xs (j : Int):=by
        have h1 : j < s.data.toList.length:=by rw [data_length];exact hlt
        rw [HXS.out];simp only [rd,bytesOf,Int.toNat_natCast,List.getD_eq_getElem?_getD,List.getElem?_map,lG h1];rfl
      generalize hc0 : ((s[j]'hlt).toNat : Int) = c at hx0 ⊢;have HX:=Am hx0;clear hx0 hc0;rcases (show c < 45 ∨ c = 45 ∨ (c = 46 ∨ c = 47) ∨ (48 ≤ c ∧ c ≤ 57) ∨ (58 ≤ c ∧ c ≤ 64) ∨ (65 ≤ c ∧ c ≤ 90) ∨ (91 ≤ c ∧ c ≤ 94) ∨ c = 95 ∨ c = 96 ∨ (97 ≤ c ∧ c ≤ 122) ∨ 122 < c by omega) with hc | hc | hc | hc | hc | hc | hc | hc | hc | hc | hc
      · have b1 : decide (97 ≤ c) = false:=dF (by omega)
        have b2 : decide (c ≤ 122) = true:=dT (by omega);have b3 : decide (65 ≤ c) = false:=dF (by omega);have b4 : decide (c ≤ 90) = true:=dT (by omega);have b5 : decide (48 ≤ c) = false:=dF (by omega);have b6 : decide (c ≤ 57) = true:=dT (by omega);have b7 : (c == 45) = false:=by simp;omega
        have b8 : (c == 95) = false:=by simp;omega
        have HCc:=Am (show chI c = false by unfold chI;simp only [b1,b2,b3,b4];first | (simp;done) | (simp;omega));clear hc;go_wp2;go_ret;exact ⟨by unfold nameB;rw [← HXS.out,← HE.out,drop_rd_ hjl,List.all_cons,← HX.out,HCc.out];rfl,rfl⟩
      · have b1 : decide (97 ≤ c) = false:=dF (by omega)
        have b2 : decide (c ≤ 122) = true:=dT (by omega);have b3 : decide (65 ≤ c) = false:=dF (by omega);have b4 : decide (c ≤ 90) = true:=dT (by omega);have b5 : decide (48 ≤ c) = false:=dF (by omega);have b6 : decide (c ≤ 57) = true:=dT (by omega);have b7 : (c == 45) = true:=by simp;omega
        have b8 : (c == 95) = false:=by simp;omega
        have HCc:=Am (show chI c = true by unfold chI;simp only [b1,b2,b3,b4];first | (simp;done) | (simp;omega));clear hc;go_wp2;go_roundg d
        case measure => omega
        case rel => exact ⟨j + 1,by go_num,⟨by have:=HD.out;omega⟩,by omega,⟨by rw [← HE.out,drop_rd_ hjl,List.all_cons,← HX.out,HCc.out];rfl⟩,rfl⟩
      · have b1 : decide (97 ≤ c) = false:=dF (by omega)
        have b2 : decide (c ≤ 122) = true:=dT (by omega);have b3 : decide (65 ≤ c) = false:=dF (by omega);have b4 : decide (c ≤ 90) = true:=dT (by omega);have b5 : decide (48 ≤ c) = false:=dF (by omega);have b6 : decide (c ≤ 57) = true:=dT (by omega);have b7 : (c == 45) = false:=by simp;omega
        have b8 : (c == 95) = false:=by simp;omega
        have HCc:=Am (show chI c = false by unfold chI;simp only [b1,b2,b3,b4];first | (simp;done) | (simp;omega));clear hc;go_wp2;go_ret;exact ⟨by unfold nameB;rw [← HXS.out,← HE.out,drop_rd_ hjl,List.all_cons,← HX.out,HCc.out];rfl,rfl⟩
      · have b1 : decide (97 ≤ c) = false:=dF (by omega)
        have b2 : decide (c ≤ 122) = true:=dT (by omega);have b3 : decide (65 ≤ c) = false:=dF (by omega);have b4 : decide (c ≤ 90) = true:=dT (by omega);have b5 : decide (48 ≤ c) = true:=dT (by omega);have b6 : decide (c ≤ 57) = true:=dT (by omega);have b7 : (c == 45) = false:=by simp;omega
        have b8 : (c == 95) = false:=by simp;omega
        have HCc:=Am (show chI c = true by unfold chI;simp only [b1,b2,b3,b4];first | (simp;done) | (simp;omega));clear hc;go_wp2;go_roundg d
        case measure => omega
        case rel => exact ⟨j + 1,by go_num,⟨by have:=HD.out;omega⟩,by omega,⟨by rw [← HE.out,drop_rd_ hjl,List.all_cons,← HX.out,HCc.out];rfl⟩,rfl⟩
      · have b1 : decide (97 ≤ c) = false:=dF (by omega)
        have b2 : decide (c ≤ 122) = true:=dT (by omega);have b3 : decide (65 ≤ c) = false:=dF (by omega);have b4 : decide (c ≤ 90) = true:=dT (by omega);have b5 : decide (48 ≤ c) = true:=dT (by omega);have b6 : decide (c ≤ 57) = false:=dF (by omega);have b7 : (c == 45) = false:=by simp;omega
        have b8 : (c == 95) = false:=by simp;omega
        have HCc:=Am (show chI c = false by unfold chI;simp only [b1,b2,b3,b4];first | (simp;done) | (simp;omega));clear hc;go_wp2;go_ret;exact ⟨by unfold nameB;rw [← HXS.out,← HE.out,drop_rd_ hjl,List.all_cons,← HX.out,HCc.out];rfl,rfl⟩
      · have b1 : decide (97 ≤ c) = false:=dF (by omega)
        have b2 : decide (c ≤ 122) = true:=dT (by omega);have b3 : decide (65 ≤ c) = true:=dT (by omega);have b4 : decide (c ≤ 90) = true:=dT (by omega);have b5 : decide (48 ≤ c) = true:=dT (by omega);have b6 : decide (c ≤ 57) = false:=dF (by omega);have b7 : (c == 45) = false:=by simp;omega
        have b8 : (c == 95) = false:=by simp;omega
        have HCc:=Am (show chI c = true by unfold chI;simp only [b1,b2,b3,b4];first | (simp;done) | (simp;omega));clear hc;go_wp2;go_roundg d
        case measure => omega
        case rel => exact ⟨j + 1,by go_num,⟨by have:=HD.out;omega⟩,by omega,⟨by rw [← HE.out,drop_rd_ hjl,List.all_cons,← HX.out,HCc.out];rfl⟩,rfl⟩
      · have b1 : decide (97 ≤ c) = false:=dF (by omega)
        have b2 : decide (c ≤ 122) = true:=dT (by omega);have b3 : decide (65 ≤ c) = true:=dT (by omega);have b4 : decide (c ≤ 90) = false:=dF (by omega);have b5 : decide (48 ≤ c) = true:=dT (by omega);have b6 : decide (c ≤ 57) = false:=dF (by omega);have b7 : (c == 45) = false:=by simp;omega
        have b8 : (c == 95) = false:=by simp;omega
        have HCc:=Am (show chI c = false by unfold chI;simp only [b1,b2,b3,b4];first | (simp;done) | (simp;omega));clear hc;go_wp2;go_ret;exact ⟨by unfold nameB;rw [← HXS.out,← HE.out,drop_rd_ hjl,List.all_cons,← HX.out,HCc.out];rfl,rfl⟩
      · have b1 : decide (97 ≤ c) = false:=dF (by omega)
        have b2 : decide (c ≤ 122) = true:=dT (by omega);have b3 : decide (65 ≤ c) = true:=dT (by omega);have b4 : decide (c ≤ 90) = false:=dF (by omega);have b5 : decide (48 ≤ c) = true:=dT (by omega);have b6 : decide (c ≤ 57) = false:=dF (by omega);have b7 : (c == 45) = false:=by simp;omega
        have b8 : (c == 95) = true:=by simp;omega
        have HCc:=Am (show chI c = true by unfold chI;simp only [b1,b2,b3,b4];first | (simp;done) | (simp;omega));clear hc;go_wp2;go_roundg d
        case measure => omega
        case rel => exact ⟨j + 1,by go_num,⟨by have:=HD.out;omega⟩,by omega,⟨by rw [← HE.out,drop_rd_ hjl,List.all_cons,← HX.out,HCc.out];rfl⟩,rfl⟩
      · have b1 : decide (97 ≤ c) = false:=dF (by omega)
        have b2 : decide (c ≤ 122) = true:=dT (by omega);have b3 : decide (65 ≤ c) = true:=dT (by omega);have b4 : decide (c ≤ 90) = false:=dF (by omega);have b5 : decide (48 ≤ c) = true:=dT (by omega);have b6 : decide (c ≤ 57) = false:=dF (by omega);have b7 : (c == 45) = false:=by simp;omega
        have b8 : (c == 95) = false:=by simp;omega
        have HCc:=Am (show chI c = false by unfold chI;simp only [b1,b2,b3,b4];first | (simp;done) | (simp;omega));clear hc;go_wp2;go_ret;exact ⟨by unfold nameB;rw [← HXS.out,← HE.out,drop_rd_ hjl,List.all_cons,← HX.out,HCc.out];rfl,rfl⟩
      · have b1 : decide (97 ≤ c) = true:=dT (by omega)
        have b2 : decide (c ≤ 122) = true:=dT (by omega);have b3 : decide (65 ≤ c) = true:=dT (by omega);have b4 : decide (c ≤ 90) = false:=dF (by omega);have b5 : decide (48 ≤ c) = true:=dT (by omega);have b6 : decide (c ≤ 57) = false:=dF (by omega);have b7 : (c == 45) = false:=by simp;omega
        have b8 : (c == 95) = false:=by simp;omega
        have HCc:=Am (show chI c = true by unfold chI;simp only [b1,b2,b3,b4];first | (simp;done) | (simp;omega));clear hc;go_wp2;go_roundg d
        case measure => omega
        case rel => exact ⟨j + 1,by go_num,⟨by have:=HD.out;omega⟩,by omega,⟨by rw [← HE.out,drop_rd_ hjl,List.all_cons,← HX.out,HCc.out];rfl⟩,rfl⟩
      · have b1 : decide (97 ≤ c) = true:=dT (by omega)
        have b2 : decide (c ≤ 122) = false:=dF (by omega);have b3 : decide (65 ≤ c) = true:=dT (by omega);have b4 : decide (c ≤ 90) = false:=dF (by omega);have b5 : decide (48 ≤ c) = true:=dT (by omega);have b6 : decide (c ≤ 57) = false:=dF (by omega);have b7 : (c == 45) = false:=by simp;omega
        have b8 : (c == 95) = false:=by simp;omega
        have HCc:=Am (show chI c = false by unfold chI;simp only [b1,b2,b3,b4];first | (simp;done) | (simp;omega));clear hc;go_wp2;go_ret;exact ⟨by unfold nameB;rw [← HXS.out,← HE.out,drop_rd_ hjl,List.all_cons,← HX.out,HCc.out];rfl,rfl⟩
theorem rows_stop {ls : List Acc} {i k : Nat} {a : Acc} {q : Int} (h : ls[i]? = some a) (he : rowE ls i a = q) (hq : q ≠ 0) : rowsE ls (k + 1) i = q:=by
  rw [rowsE,h];simp only;rw [he,if_neg hq]
theorem rows_go {ls : List Acc} {i k : Nat} {a : Acc} (h : ls[i]? = some a) (he : rowE ls i a = 0) : rowsE ls (k + 1) i = rowsE ls k (i + 1):=by
  rw [rowsE,h];simp only;rw [if_pos he]
theorem own_some {α : Type} {E : Enc α} {w : World} {base n c : Nat} {e : TypeId} {A : Option Addr} {xs : List α} (hl : xs.length = n) (h : w.ownsRow base e E.sz (.slice A n c) n (flat E xs)) (h0 : 0 < n) : ∃ g,A = some ⟨g,0,none⟩:=by
  obtain ⟨ad,rfl,_⟩:=(own_rd hl h).2.2 h0;exact ⟨ad.block,by rw [← (own_form h).2 ad rfl]⟩
theorem deps_go {ls : List Acc} {k i : Nat} (h : depE ls i = 0) : depsE ls (k + 1) i = depsE ls k (i + 1):=by rw [depsE,if_pos h]
theorem deps_stop {ls : List Acc} {k i : Nat} {q : Int} (h : depE ls i = q) (hq : q ≠ 0) : depsE ls (k + 1) i = q:=by rw [depsE,if_neg (by rw [h];exact hq)];exact h
theorem there_zero (ls : List Acc) (s : ByteArray) : thereB (ls.map zeroU) s = thereB ls s:=by
  unfold thereB;rw [List.any_map];rfl
/-- Accounts as memory holds them. -/
def AccOk (ls : List Acc) : Prop:=∀ a ∈ ls,a.nm.size ≤ maxLen ∧ (Lit.int .i64 a.par).wf = true
def LoadI (w : World) (ls : List Acc) (e : Ending) (w' : World) : Prop:=(∃ o,e = .returned (.tuple #[.pointer o,.int .i64 (loadE ls)])) ∧ w.grownBy w' none
theorem load_nil (w : World) (A : Option Addr) (c : Nat) : Calls Tryz.prog 95 #[.slice A 0 c] w (LoadI w []):=by
  go_enter Tryz.func95,Tryz.ntmps95;go_wp2;go_ret2;exact ⟨⟨_,rfl⟩,gb_refl _ _⟩
theorem load_calls (w : World) (ad : Addr) (n c : Nat) (x : Acc) (r : List Acc) (hr : Rd Ec w (some ad) n (x :: r)) (hc : n ≤ c) (hok : AccOk (x :: r)) :
    Calls Tryz.prog 95 #[.slice (some ad) n c] w (LoadI w (x :: r)):=by
  have hn : (x :: r).length = n:=hr.1;have hn0 : 0 < n:=by rw [← hn];simp
  have hz0 : ((n : Int) == 0) = false:=by simp;omega
  have hz1 : (n == 0) = false:=by simp;omega
  have hcells:=acc_cells (i:=0) hr rfl;have e0 : ad.add (0 * 5) = ad:=by simp [Addr.add]
  rw [e0] at hcells;obtain ⟨h0,h1,h2,h3,h4⟩:=hcells;have HR:=Am hr;have HN:=Am hn;have HOK:=Am hok;have hlen : n ≤ 9223372036854775807:=hr.2.1;clear hr hn hok e0;go_enter Tryz.func95,Tryz.ntmps95;go_upto_region 5 with (fail)
  obtain ⟨bx,hbx⟩ : ∃ bx,bx = w.heap.size:=⟨_,rfl⟩;have HX1:=Am (heap_alloc_new w (.cells #[.string x.nm,.int .i64 x.par,.int .i64 x.sh,.bool x.cl,.int .u64 0] 31));have HG1:=Am (gA w (.cells #[.string x.nm,.int .i64 x.par,.int .i64 x.sh,.bool x.cl,.int .u64 0] 31) none);rw [← hbx] at HX1 ⊢;generalize w.alloc (.cells #[.string x.nm,.int .i64 x.par,.int .i64 x.sh,.bool x.cl,.int .u64 0] 31) = W1 at HX1 HG1 ⊢;clear hbx h0 h1 h2 h3 h4;have HXd:=Am (show W1.drew.heap[bx]? = some (.cells #[.string x.nm,.int .i64 x.par,.int .i64 x.sh,.bool x.cl,.int .u64 0] 31 (0,0)) from HX1.out);have HGd:=Am (gT HG1.out (gb_drew W1 none));have hneq : ∀ W : World,(binOp .neq 31 (.agg #[.string x.nm,.int .i64 x.par,.int .i64 x.sh,.bool x.cl,.int .u64 0]) (.agg (accV rootA))).run Tryz.prog W = .ok (.bool (!accEq (zeroU x) rootA)) W:=fun W => acc_neq (zeroU x) rootA W
  refine start_ (n:=3) (S:=fun w' => w'.cell? ⟨bx,0,none⟩ = some (.string x.nm) ∧ w'.cell? ⟨bx,1,none⟩ = some (.int .i64 x.par) ∧ w'.cell? ⟨bx,2,none⟩ = some (.int .i64 x.sh) ∧ w'.cell? ⟨bx,3,none⟩ = some (.bool x.cl) ∧ w'.cell? ⟨bx,4,none⟩ = some (.int .u64 0)) (ds:=[]) #[nn,nn,nn] (by kernel_rfl) rfl rfl ⟨cell_of (j:=0) HXd.out rfl,cell_of (j:=1) HXd.out rfl,cell_of (j:=2) HXd.out rfl,cell_of (j:=3) HXd.out rfl,cell_of (j:=4) HXd.out rfl⟩ (fun hHeld => ?_);refine tk_ 0 (some 19) #[yy,nn,nn] (by kernel_rfl) hHeld ?_;refine one_ (i:=1) (N:=some 20) #[yy,yy,nn] rfl rfl (by kernel_rfl) (by decide) (fun K hK => ?_);refine goes_ Tryz.func104 (by kernel_rfl) rfl #[] (by rfl) rfl rfl (by simp only [List.map_toArray,List.map_cons,List.map_nil];try rfl) ?_;with_reducible refine ((root_calls W1.drew)).mono ?_
  rintro e W2 ⟨rfl,hg⟩;refine ⟨_,rfl,?_⟩;have HX2:=Am (blk_kept HXd.out hg (by simp));have HG2:=Am (gT HGd.out hg);clear hg HXd HGd;refine hK.out _ _ ⟨cell_of (j:=0) HX2.out rfl,cell_of (j:=1) HX2.out rfl,cell_of (j:=2) HX2.out rfl,cell_of (j:=3) HX2.out rfl,cell_of (j:=4) HX2.out rfl⟩ (fun hHeld => ?_);clear hK K;refine norm_ (a':=?_) ?_ ?_
  rotate_left
  · show Act.put _ (some 20) _ = _
    simp only [NR];rfl
  refine pu_ 2 (some 21) #[yy,yy,yy] (by kernel_rfl) ?_;refine done_ (by kernel_rfl) ?_;clear hneq
  by_cases hf : accEq (zeroU x) rootA = true
  · have hzx:=accEq_iff hf
    have HZX:=Am hzx;have HLE:=Am (show loadE (x :: r) = if 64 < n then 65 else if rowsE (x :: r) r.length 1 = 0 then depsE (x :: r) n 0 else rowsE (x :: r) r.length 1 by unfold loadE;simp only;rw [if_neg (by rw [hf];decide),HN.out]);rw [hf];clear hf hzx
    by_cases hbig : 64 < n
    · have hb : decide ((64 : Int) < (n : Int)) = true:=dT (by omega)
      have hb2 : decide (64 < n) = true:=dT hbig;have HE:=Am (show loadE (x :: r) = 65 by rw [HLE.out,if_pos hbig]);clear hbig;go_wp2;go_ret2;exact ⟨⟨_,by rw [HE.out];rfl⟩,HG2.out⟩
    · have hb : decide ((64 : Int) < (n : Int)) = false:=dF (by omega)
      have hb2 : decide (64 < n) = false:=dF hbig;have hn64 : n ≤ 64:=by omega
      rw [if_neg hbig] at HLE;clear hbig;go_wp2_with fail
      refine (new_calls W2).mono ?_;rintro e W3 ⟨g,A,c1,mb,kb,Dn,Dk,f,rfl,ht,hlow,hg⟩;have HT3:=Am ht;have HLOW:=Am hlow;have HG3:=Am (gT HG2.out hg);have HZ:=Am HG2.out.size;clear ht hlow hg hb hb2;obtain ⟨i0,hi0,hsz0⟩:=Option.map_eq_some_iff.1 (show (Tryz.prog.info? 31).map (·.size) = some 5 by kernel_rfl);obtain ⟨A',hcut,hrd,-⟩:=cut_at (P:=Tryz.prog) Ec 24 31 .i64 Tryz.underlying24 hi0 hsz0 (some ad) n c 1 hn0;have HRT:=Am (hrd w (x :: r) hc HR.out);have hcut2 : ∀ W : World,(Instr.slice 24 (.slice (some ad) n c) (some (.int .i64 1)) none none).run Tryz.prog W = .ok (.slice A' (n - 1) (c - 1)) W:=hcut;go_wp2_with fail
      obtain ⟨m,hm⟩ : ∃ m,m = n - 1:=⟨_,rfl⟩;rw [← hm] at HRT ⊢;have HNM : Aside0 (n = m + 1 ∧ r.length = m):=⟨by have:=HN.out;simp at this;omega⟩;have HRL:=Am HRT.out;have hm64 : m ≤ 63:=by omega
      have HG2':=Am HG2.out;have HT0:=Am (show TreeAt W3 W2.heap.size f g ((((x :: r).take (0 + 1)).map zeroU)) A c1 mb kb (2 + 2 * 0) Dn Dk by
        have:=HT3.out;rw [← HZX.out] at this;simpa using this)
      clear hm hcut hrd hcut2 hi0 hsz0 HX2 HX1 HG1;go_loopg [29] m (fun k v29 wr => ∃ (j : Nat) (f : Nat → Int) (A : Option Addr) (c1 : Nat) (Dn Dk : DataW Value),v29 = .int .i64 j ∧ Aside0 (j + k = m) ∧ j ≤ m ∧ Aside0 (TreeAt wr W2.heap.size f g ((((x :: r).take (j + 1)).map zeroU)) A c1 mb kb (2 + 2 * j) Dn Dk) ∧ Aside0 (∀ i,i < W2.heap.size → f i = -1000) ∧ Aside0 (w.grownBy wr none) ∧ Aside0 (rowsE (x :: r) k (j + 1) = rowsE (x :: r) m 1))
      case atStart => exact ⟨0,f,A,c1,Dn,Dk,rfl,⟨by omega⟩,by omega,HT0,HLOW,HG3,⟨rfl⟩⟩
      case round =>
        clear HT3 HLOW HT0;obtain ⟨j,f,A,c1,Dn,Dk,rfl,HD,hj,HT,HLOW,HGw,HE⟩:=hrel;have HRr:=Am (HRT.out.gb HGw.out)
        cases gk with
        | zero =>
          obtain rfl : j = m:=by have:=HD.out;omega
          have hnj : n = j + 1:=HNM.out.1;have htk : (x :: r).take (j + 1) = x :: r:=List.take_of_length_le (by rw [HN.out];omega);have hrows : rowsE (x :: r) j 1 = 0:=HE.out.symm;have hLE : loadE (x :: r) = depsE (x :: r) n 0:=by
            have h1:=HLE.out;rw [HNM.out.2,if_pos hrows] at h1;exact h1
          have hT:=HT.out;rw [htk] at hT;have hlz : ((x :: r).map zeroU).length = n:=by rw [List.length_map];exact HN.out
          have hPars : Pars ((x :: r).map zeroU):=fun q h1 h2 => by
            rw [parV_zero,List.length_map];rw [List.length_map] at h2;exact load_pars (by rw [HN.out,show n - 1 = j by omega];exact hrows) (by rw [HN.out];omega) q h1 h2
          obtain ⟨lb,hlb⟩:=own_some rfl hT.own (by rw [hlz];omega);subst hlb;have hblk:=hT.blk;have hown:=hT.own;rw [hlz] at hblk hown;have kt:=cell_of (j:=0) (v:=.slice (some ⟨lb,0,none⟩) n c1) hblk rfl;have HTE:=Am hLE;have HRZ:=Am (show Rd Ec wr (some ⟨lb,0,none⟩) n ((x :: r).map zeroU) from own_rd hlz hown);have HPZ:=Am hPars;clear hnj htk hrows hLE hT hlz hPars hblk hown;obtain ⟨wo,rfl⟩ : ∃ wo,wo = wr:=⟨wr,rfl⟩;go_wp2_with fail
          go_loopg [75] n (fun k v75 wr => ∃ (i : Nat),v75 = .int .i64 i ∧ Aside0 (i + k = n) ∧ i ≤ n ∧ Aside0 (depsE (x :: r) k i = depsE (x :: r) n 0) ∧ wo = wr)
          case atStart => exact ⟨0,rfl,⟨by omega⟩,by omega,⟨rfl⟩,rfl⟩
          case round =>
            clear HE HD;obtain ⟨i,rfl,HD,hi,HE,rfl⟩:=hrel
            cases gk with
            | zero =>
              obtain rfl : i = n:=by have:=HD.out;omega
              have HEx:=Am (show loadE (x :: r) = 0 by rw [HTE.out,← HE.out];rfl);go_wp2;go_ret2;exact ⟨⟨_,by rw [HEx.out];rfl⟩,HGw.out⟩
            | succ d =>
              have hlt : i < n:=by have:=HD.out;omega
              have hlt1 : decide ((i : Int) < (n : Int)) = true:=dT (by omega);go_wp2_with fail
              refine (depth_calls wo g lb n c1 ((x :: r).map zeroU) (i : Int) kt HRZ.out hn64 HPZ.out ⟨by omega,by omega⟩).mono ?_;rintro e W9 ⟨rfl,rfl⟩;rw [depV_zero];obtain ⟨dv,hdv⟩ : ∃ dv,dv = depV (x :: r) (i : Int):=⟨_,rfl⟩;have HDV:=Am (show depE (x :: r) i = if dv < 0 then 67 else if 4 < dv then 64 else 0 by unfold depE;rw [hdv]);rw [← hdv];clear hdv
              by_cases h0 : dv < 0
              · have b1 : decide (dv < 0) = true:=dT h0
                rw [if_pos h0] at HDV;have HEx:=Am (show loadE (x :: r) = 67 by
                  have h1:=HE.out;rw [deps_stop HDV.out (by decide)] at h1;rw [HTE.out,← h1])
                clear h0;go_wp2;go_ret2;exact ⟨⟨_,by rw [HEx.out];rfl⟩,HGw.out⟩
              · have b1 : decide (dv < 0) = false:=dF h0
                rw [if_neg h0] at HDV
                by_cases h4 : 4 < dv
                · have b2 : decide (4 < dv) = true:=dT h4
                  rw [if_pos h4] at HDV;have HEx:=Am (show loadE (x :: r) = 64 by
                    have h1:=HE.out;rw [deps_stop HDV.out (by decide)] at h1;rw [HTE.out,← h1])
                  clear h0 h4;go_wp2;go_ret2;exact ⟨⟨_,by rw [HEx.out];rfl⟩,HGw.out⟩
                · have b2 : decide (4 < dv) = false:=dF h4
                  rw [if_neg h4] at HDV;clear h0 h4;go_wp2_with fail
                  go_roundg d
                  case measure => omega
                  case rel => exact ⟨i + 1,by go_num,⟨by have:=HD.out;omega⟩,by omega,⟨by rw [← HE.out,deps_go HDV.out]⟩,rfl⟩
        | succ d =>
          have hlt : j < m:=by have:=HD.out;omega
          have hlt1 : decide ((j : Int) < (m : Int)) = true:=dT (by omega);have hji : (j : Int) < (m : Int):=by omega
          have hrl : r.length = m:=HNM.out.2;obtain ⟨a,ha⟩ : ∃ a,r[j]? = some a:=⟨_,lG (by rw [hrl];exact hlt)⟩;have ha1 : (x :: r)[j + 1]? = some a:=by simpa using ha
          obtain ⟨ad2,hA2,-⟩:=HRr.out.2.2 (by omega);subst hA2;obtain ⟨h0,h1,h2,h3,h4⟩:=acc_cells HRr.out ha;obtain ⟨hsz,hpw⟩:=HOK.out a (List.mem_of_getElem? ha1);have HA1:=Am ha1;have HSZ:=Am hsz;have HPW:=Am hpw;obtain ⟨b7,hb7⟩ : ∃ b7,b7 = wr.heap.size:=⟨_,rfl⟩;have HB7:=Am (heap_alloc_new wr (.cells #[.string a.nm,.int .i64 a.par,.int .i64 a.sh,.bool a.cl,.int .u64 a.us] 31));have HTb:=Am (HT.out.gb (gA wr (.cells #[.string a.nm,.int .i64 a.par,.int .i64 a.sh,.bool a.cl,.int .u64 a.us] 31) none));have HGb:=Am (gT HGw.out (gA wr (.cells #[.string a.nm,.int .i64 a.par,.int .i64 a.sh,.bool a.cl,.int .u64 a.us] 31) none));have HZb:=Am hb7;rw [← hb7] at HB7;clear ha ha1 hsz hpw hrl;go_upto_region 13 with (fail)
          rw [← hb7];generalize wr.alloc (.cells #[.string a.nm,.int .i64 a.par,.int .i64 a.sh,.bool a.cl,.int .u64 a.us] 31) = Wb at HB7 HTb HGb ⊢;clear h0 h1 h2 h3 h4 hb7 HT HGw;have HHas:=Am (show Maps.has Dn (strL a.nm) = thereB ((x :: r).take (j + 1)) a.nm by
            have h1:=HTb.out.has a.nm HSZ.out;rw [← there_iff,there_zero] at h1;exact Bool.eq_iff_iff.2 h1)
          have HTbd:=Am (HTb.out.gb (gb_drew Wb none));have HB7d:=Am (show Wb.drew.heap[b7]? = some (.cells #[.string a.nm,.int .i64 a.par,.int .i64 a.sh,.bool a.cl,.int .u64 a.us] 31 (0,0)) from HB7.out);have HGbd:=Am (gT HGb.out (gb_drew Wb none));obtain ⟨v8,ps,hlk,-⟩:=HTbd.out.nm.look_ok (string_keyed Tryz.underlying9) Tryz.underlying142 (z:=.int .i64 0) (by kernel_rfl) (zd:=.lit (.int .i64 0)) (zp:=[]) (plainElem_int Tryz.underlying3 (by decide)) (WideMaps.keyOf_string_mk Tryz.underlying9 HSZ.out);have hlk2 : (Instr.lookup 142 (.map (some mb)) (.string a.nm) true).run Tryz.prog Wb.drew = .ok (.tuple #[v8,.bool (thereB ((x :: r).take (j + 1)) a.nm)]) Wb.drew:=by rw [← HHas.out];exact hlk
          obtain ⟨th,hth⟩ : ∃ th,th = thereB ((x :: r).take (j + 1)) a.nm:=⟨_,rfl⟩;have HTH:=Am hth;rw [← hth] at hlk2;clear hlk hth;refine start_ (n:=12) (S:=fun w' => w'.cell? ⟨g,1,none⟩ = some (.map (some mb)) ∧ w'.cell? ⟨b7,0,none⟩ = some (.string a.nm)) (ds:=[]) #[nn,nn,nn,nn,nn,nn,nn,nn,nn,nn,nn,nn] (by kernel_rfl) rfl rfl ⟨cell_of (j:=1) HTbd.out.blk rfl,cell_of (j:=0) HB7d.out rfl⟩ (fun hHeld => ?_);refine pu_ 0 (some 34) (bm 12 1) (by kernel_rfl) ?_;refine pu_ 1 (some 35) (bm 12 3) (by kernel_rfl) ?_;refine pu_ 2 (some 36) (bm 12 7) (by kernel_rfl) ?_;refine pu_ 4 (some 38) (bm 12 23) (by kernel_rfl) ?_;refine tk_ 3 (some 37) (bm 12 31) (by kernel_rfl) hHeld ?_;refine tk_ 5 (some 39) (bm 12 63) (by kernel_rfl) hHeld ?_;refine one_ (i:=6) (N:=some 40) (bm 12 127) rfl rfl (by kernel_rfl) (by decide) (fun K hK => ?_);refine value_ (w1:=?_) (v:=?_) (by rfl) rfl ?_ ?_
          rotate_left 2
          · go_simp
            constructor
            · rfl
            · rfl
          refine hK.out _ _ ⟨cell_of (j:=1) HTbd.out.blk rfl,cell_of (j:=0) HB7d.out rfl⟩ (fun hHeld => ?_);clear hK K;refine norm_ (a':=?_) ?_ ?_
          rotate_left
          · show Act.put _ (some 40) _ = _
            simp only [NR];rfl
          refine pu_ 7 (some 33) (bm 12 255) (by kernel_rfl) ?_;refine pu_ 8 (some 41) (bm 12 511) (by kernel_rfl) ?_;refine pu_ 9 (some 42) (bm 12 1023) (by kernel_rfl) ?_;refine pu_ 10 (some 8) (bm 12 2047) (by kernel_rfl) ?_;refine pu_ 11 (some 9) (bm 12 4095) (by kernel_rfl) ?_;refine done_ (by kernel_rfl) ?_;have k0:=cell_of (j:=0) (v:=.string a.nm) HB7d.out rfl;have k1:=cell_of (j:=1) (v:=.int .i64 a.par) HB7d.out rfl;have k2:=cell_of (j:=2) (v:=.int .i64 a.sh) HB7d.out rfl;have k3:=cell_of (j:=3) (v:=.bool a.cl) HB7d.out rfl;have k4:=cell_of (j:=4) (v:=.int .u64 a.us) HB7d.out rfl;have hsz2 : a.nm.size ≤ 9223372036854775807:=by have:=HSZ.out;simpa only [maxLen] using this
          go_wp2_with fail
          refine (name_calls Wb.drew a.nm hsz2).mono ?_;rintro e Wd ⟨rfl,hg⟩;have HTd:=Am (HTbd.out.gb hg);have HB7e:=Am (blk_kept HB7d.out hg (by simp));have HGd:=Am (gT HGbd.out hg);clear hg k0 k1 k2 k3 k4 hsz2 HTbd HB7d HGbd HTb HB7 HGb;have k0:=cell_of (j:=0) (v:=.string a.nm) HB7e.out rfl;have k1:=cell_of (j:=1) (v:=.int .i64 a.par) HB7e.out rfl;have k2:=cell_of (j:=2) (v:=.int .i64 a.sh) HB7e.out rfl;have k3:=cell_of (j:=3) (v:=.bool a.cl) HB7e.out rfl;have k4:=cell_of (j:=4) (v:=.int .u64 a.us) HB7e.out rfl
          by_cases hnb : nameB a.nm = true
          · rw [hnb]
            cases th with
            | true =>
              have HR1:=Am (show rowE (x :: r) (j + 1) a = 61 by unfold rowE;rw [if_neg (by rw [hnb];decide),if_pos HTH.out.symm]);clear hnb;have HEx:=Am (show loadE (x :: r) = 61 by
                have h1:=HE.out;rw [rows_stop HA1.out HR1.out (by decide)] at h1;rw [HLE.out,HNM.out.2,← h1];rfl)
              go_wp2;go_ret2;exact ⟨⟨_,by rw [HEx.out];rfl⟩,HGd.out⟩
            | false =>
              by_cases hp0 : a.par < 0
              · have b1 : decide (a.par < 0) = true:=dT hp0
                have HR1:=Am (show rowE (x :: r) (j + 1) a = 62 by unfold rowE;rw [if_neg (by rw [hnb];decide),if_neg (by rw [← HTH.out];decide),if_pos (.inl hp0)]);clear hnb hp0;have HEx:=Am (show loadE (x :: r) = 62 by
                  have h1:=HE.out;rw [rows_stop HA1.out HR1.out (by decide)] at h1;rw [HLE.out,HNM.out.2,← h1];rfl)
                go_wp2;go_ret2;exact ⟨⟨_,by rw [HEx.out];rfl⟩,HGd.out⟩
              have b1 : decide (a.par < 0) = false:=dF hp0
              by_cases hp1 : (n : Int) ≤ a.par
              · have b2 : decide ((n : Int) ≤ a.par) = true:=dT hp1
                have HR1:=Am (show rowE (x :: r) (j + 1) a = 62 by unfold rowE;rw [if_neg (by rw [hnb];decide),if_neg (by rw [← HTH.out];decide),if_pos (.inr (by rw [HN.out];exact hp1))]);clear hnb hp0 hp1;have HEx:=Am (show loadE (x :: r) = 62 by
                  have h1:=HE.out;rw [rows_stop HA1.out HR1.out (by decide)] at h1;rw [HLE.out,HNM.out.2,← h1];rfl)
                go_wp2;go_ret2;exact ⟨⟨_,by rw [HEx.out];rfl⟩,HGd.out⟩
              have b2 : decide ((n : Int) ≤ a.par) = false:=dF hp1;have HR0:=Am (show rowE (x :: r) (j + 1) a = if shB a.sh = false then 63 else 0 by unfold rowE;rw [if_neg (by rw [hnb];decide),if_neg (by rw [← HTH.out];decide),if_neg (by rw [HN.out];omega)]);clear hnb hp0 hp1;go_wp2_with fail
              refine (shares_calls Wd a.sh).mono ?_;rintro e We ⟨rfl,rfl⟩
              by_cases hs : shB a.sh = true
              · rw [hs]
                have HR1:=Am (show rowE (x :: r) (j + 1) a = 0 by rw [HR0.out,if_neg (by rw [hs];decide)]);clear hs;go_wp2_with fail
                refine (lay_calls Wd W2.heap.size f g _ A c1 mb kb (2 + 2 * j) Dn Dk a HTd.out (by omega) (by rw [List.length_map,List.length_take];omega) HPW.out HSZ.out).mono ?_;rintro e Wf ⟨rfl,A5,c5,Dn5,Dk5,f5,ht5,hl5⟩;have HT5:=Am ht5;have HL5:=Am hl5;clear ht5 hl5;go_wp2_with fail
                go_roundg d
                case measure => omega
                case rel =>
                  have hz2 : W2.heap.size ≤ Wd.heap.size:=by have h1:=HTd.out.nm.lt;have h2:=HGd.out.size;have h3:=HTd.out.base;have h4:=blk_lt' HTd.out.blk;omega
                  refine ⟨j + 1,f5,A5,c5,Dn5,Dk5,by go_num,⟨by have:=HD.out;omega⟩,by omega,⟨?_⟩,⟨fun i hi => by rw [HL5.out.lab i (by omega)];exact HLOW.out i hi⟩,⟨?_⟩,⟨?_⟩⟩
                  · have h1:=HT5.out
                    have e1 : ((x :: r).take (j + 1)).map zeroU ++ [(⟨a.nm,a.par,a.sh,a.cl,0⟩ : Acc)] = ((x :: r).take (j + 1 + 1)).map zeroU:=by
                      rw [List.take_add_one (i:=j + 1),HA1.out,List.map_append];rfl
                    rw [e1] at h1;exact h1
                  · have hz1 : w.heap.size ≤ W2.heap.size:=HZ.out
                    refine ⟨HL5.out.tn.os.trans HGd.out.os,HL5.out.tn.tape.trans HGd.out.tape,HL5.out.tn.output.trans HGd.out.output,Nat.le_trans HGd.out.size HL5.out.tn.size,fun q hq _ => ?_⟩;rw [HL5.out.tn.block q (by omega) (by rw [HLOW.out q (by omega)];unfold K15;omega)];exact HGd.out.block q hq (by simp)
                  · have h1:=HE.out
                    rw [rows_go HA1.out HR1.out] at h1;exact h1
              · have hs' : shB a.sh = false:=by simpa using hs
                rw [hs'];have HR1:=Am (show rowE (x :: r) (j + 1) a = 63 by rw [HR0.out,if_pos hs']);clear hs hs';have HEx:=Am (show loadE (x :: r) = 63 by
                  have h1:=HE.out;rw [rows_stop HA1.out HR1.out (by decide)] at h1;rw [HLE.out,HNM.out.2,← h1];rfl)
                go_wp2;go_ret2;exact ⟨⟨_,by rw [HEx.out];rfl⟩,HGd.out⟩
          · have hnb' : nameB a.nm = false:=by simpa using hnb
            rw [hnb'];have HR1:=Am (show rowE (x :: r) (j + 1) a = 60 by unfold rowE;rw [if_pos hnb']);clear hnb hnb';have HEx:=Am (show loadE (x :: r) = 60 by
              have h1:=HE.out;rw [rows_stop HA1.out HR1.out (by decide)] at h1;rw [HLE.out,HNM.out.2,← h1];rfl)
            go_wp2;go_ret2;exact ⟨⟨_,by rw [HEx.out];rfl⟩,HGd.out⟩
  · have hf' : accEq (zeroU x) rootA = false:=by simpa using hf
    have HE:=Am (show loadE (x :: r) = 66 by unfold loadE;simp only;rw [if_pos hf']);rw [hf'];clear hf;go_wp2;go_ret2;exact ⟨⟨_,by rw [HE.out];rfl⟩,HG2.out⟩
theorem row_calls (w : World) (ad : Addr) (n c : Nat) (ls : List Acc) (i : Nat) (a : Acc) (hr : Rd Ec w (some ad) n ls) (ha : ls[i]? = some a) (hs : a.nm.size ≤ maxLen) :
    Calls Tryz.prog 100 #[.slice (some ad) n c,.int .i64 i] w fun e w' => e = .returned (.int .i64 (rowE ls i a)) ∧ w.grownBy w' none:=by
  have hlen:=hr.2.1;have hin : i < n:=by have:=(List.getElem?_eq_some_iff.1 ha).1;rw [hr.1] at this;exact this
  have hin2 : (i : Int) < (n : Int):=by omega
  obtain ⟨h0,h1,h2,h3,h4⟩:=acc_cells hr ha;have HR:=Am hr;have HN:=Am hr.1;have HA:=Am ha;have hsz : a.nm.size ≤ 9223372036854775807:=by simpa only [maxLen] using hs
  have HSZ:=Am hsz;have HX1:=Am (heap_alloc_new w (.cells #[.string a.nm,.int .i64 a.par,.int .i64 a.sh,.bool a.cl,.int .u64 a.us] 31));have HG1:=Am (gA w (.cells #[.string a.nm,.int .i64 a.par,.int .i64 a.sh,.bool a.cl,.int .u64 a.us] 31) none);obtain ⟨bx,hbx⟩ : ∃ bx,bx = w.heap.size:=⟨_,rfl⟩;rw [← hbx] at HX1;clear hr ha hs hsz;go_enter Tryz.func100,Tryz.ntmps100;go_upto_region 2 with (fail)
  rw [← hbx];generalize w.alloc (.cells #[.string a.nm,.int .i64 a.par,.int .i64 a.sh,.bool a.cl,.int .u64 a.us] 31) = W1 at HX1 HG1 ⊢;clear hbx h0 h1 h2 h3 h4;have k0:=cell_of (j:=0) (v:=.string a.nm) HX1.out rfl;have k1:=cell_of (j:=1) (v:=.int .i64 a.par) HX1.out rfl;have k2:=cell_of (j:=2) (v:=.int .i64 a.sh) HX1.out rfl;go_wp2_with fail
  refine (rname_calls W1 a.nm HSZ.out).mono ?_;rintro e W2 ⟨rfl,rfl⟩
  by_cases hnb : nameB a.nm = true
  · rw [hnb]
    have HNB:=Am hnb;clear hnb;go_wp2_with fail
    refine (find_calls W1 (some ad) n c ls a.nm (HR.out.gb HG1.out)).mono ?_;rintro e W3 ⟨rfl,hg⟩;have HX3:=Am (blk_kept HX1.out hg (by simp));have HG3:=Am (gT HG1.out hg);clear hg k0 k1 k2 HX1 HG1;have k0:=cell_of (j:=0) (v:=.string a.nm) HX3.out rfl;have k1:=cell_of (j:=1) (v:=.int .i64 a.par) HX3.out rfl;have k2:=cell_of (j:=2) (v:=.int .i64 a.sh) HX3.out rfl;obtain ⟨fv,hfv⟩ : ∃ fv,fv = findL ls 0 a.nm:=⟨_,rfl⟩;have HFT:=find_there ls i 0 a HA.out;rw [← hfv] at HFT ⊢;clear hfv
    by_cases hf : fv = (i : Int)
    · have b0 : (fv != (i : Int)) = false:=by simp [hf]
      have HT0:=Am (HFT.1 (by rw [hf];simp));clear HFT hf
      by_cases hp0 : a.par < 0
      · have b1 : decide (a.par < 0) = true:=dT hp0
        have HE:=Am (show rowE ls i a = 62 by unfold rowE;rw [if_neg (by rw [HNB.out];decide),if_neg (by rw [HT0.out];decide),if_pos (.inl hp0)]);clear hp0;go_wp2;go_ret;exact ⟨by rw [HE.out];rfl,HG3.out⟩
      have b1 : decide (a.par < 0) = false:=dF hp0
      by_cases hp1 : (n : Int) ≤ a.par
      · have b2 : decide ((n : Int) ≤ a.par) = true:=dT hp1
        have HE:=Am (show rowE ls i a = 62 by unfold rowE;rw [if_neg (by rw [HNB.out];decide),if_neg (by rw [HT0.out];decide),if_pos (.inr (by rw [HN.out];exact hp1))]);clear hp0 hp1;go_wp2;go_ret;exact ⟨by rw [HE.out];rfl,HG3.out⟩
      have b2 : decide ((n : Int) ≤ a.par) = false:=dF hp1;have HR0:=Am (show rowE ls i a = if shB a.sh = false then 63 else 0 by unfold rowE;rw [if_neg (by rw [HNB.out];decide),if_neg (by rw [HT0.out];decide),if_neg (by rw [HN.out];omega)]);clear hp0 hp1
      by_cases hs0 : a.sh < 1
      · have b3 : decide (a.sh < 1) = true:=dT hs0
        have HE:=Am (show rowE ls i a = 63 by rw [HR0.out,if_pos (by unfold shB;rw [dF (by omega)];rfl)]);clear hs0;go_wp2;go_ret;exact ⟨by rw [HE.out];rfl,HG3.out⟩
      have b3 : decide (a.sh < 1) = false:=dF hs0
      by_cases hs1 : 4096 < a.sh
      · have b4 : decide (4096 < a.sh) = true:=dT hs1
        have HE:=Am (show rowE ls i a = 63 by rw [HR0.out,if_pos (by unfold shB;rw [dF (show ¬ a.sh ≤ 4096 by omega),Bool.and_false])]);clear hs0 hs1;go_wp2;go_ret;exact ⟨by rw [HE.out];rfl,HG3.out⟩
      · have b4 : decide (4096 < a.sh) = false:=dF hs1
        have HE:=Am (show rowE ls i a = 0 by rw [HR0.out,if_neg (by unfold shB;rw [dT (by omega),dT (by omega)];decide)]);clear hs0 hs1;go_wp2;go_ret;exact ⟨by rw [HE.out];rfl,HG3.out⟩
    · have b0 : (fv != (i : Int)) = true:=by simp [hf]
      have HT0:=Am (show thereB (ls.take i) a.nm = true by
        cases h : thereB (ls.take i) a.nm with
        | true => rfl
        | false => exact absurd (by have:=HFT.2 h;simpa using this) hf)
      have HE:=Am (show rowE ls i a = 61 by unfold rowE;rw [if_neg (by rw [HNB.out];decide),if_pos HT0.out]);clear HFT hf;go_wp2;go_ret;exact ⟨by rw [HE.out];rfl,HG3.out⟩
  · have hnb' : nameB a.nm = false:=by simpa using hnb
    rw [hnb'];have HE:=Am (show rowE ls i a = 60 by unfold rowE;rw [if_pos hnb']);clear hnb hnb';go_wp2;go_ret;exact ⟨by rw [HE.out];rfl,HG1.out⟩
theorem rload_nil (w : World) (A : Option Addr) (c : Nat) : Calls Tryz.prog 81 #[.slice A 0 c] w (LoadI w []):=by
  go_enter Tryz.func81,Tryz.ntmps81;go_wp2;go_ret2;exact ⟨⟨_,rfl⟩,gb_refl _ _⟩
theorem root_list : rootS.toList = [114,111,111,116]:=by rw [ByteArray.toList_eq];rfl
/-- The first account is the root. -/
theorem first_iff (x : Acc) : accEq (zeroU x) rootA = ((x.nm.toList == rootS.toList) && ((x.par == -1) && ((x.sh == 1) && !x.cl))):=by
  unfold accEq zeroU rootA;simp only
  cases x.cl <;> simp
theorem rload_first (w : World) (ad : Addr) (n c : Nat) (x : Acc) (r : List Acc) (hr : Rd Ec w (some ad) n (x :: r)) (hf : accEq (zeroU x) rootA = false) :
    Calls Tryz.prog 81 #[.slice (some ad) n c] w (LoadI w (x :: r)):=by
  have hn : (x :: r).length = n:=hr.1;have hn0 : 0 < n:=by rw [← hn];simp
  have hz0 : ((n : Int) == 0) = false:=by simp;omega
  have hz1 : (n == 0) = false:=by simp;omega
  have hcells:=acc_cells (i:=0) hr rfl;have e0 : ad.add (0 * 5) = ad:=by simp [Addr.add]
  rw [e0] at hcells;obtain ⟨h0,h1,h2,h3,h4⟩:=hcells;have HE:=Am (show loadE (x :: r) = 66 by unfold loadE;simp only;rw [if_pos hf]);rw [first_iff] at hf;clear hr hn e0
  by_cases q1 : (x.nm.toList == rootS.toList) = true
  · have p1 : (x.nm.toList == [114,111,111,116]) = true:=by rw [← root_list];exact q1
    by_cases q2 : (x.par == -1) = true
    · have p2 : (x.par != -1) = false:=by rw [bne,q2];rfl
      by_cases q3 : (x.sh == 1) = true
      · have p3 : (x.sh != 1) = false:=by rw [bne,q3];rfl
        have q4 : x.cl = true:=by rw [q1,q2,q3] at hf;simpa using hf
        rw [q4] at h3;clear q1 q4 hf;go_enter Tryz.func81,Tryz.ntmps81;go_wp2;go_ret2;exact ⟨⟨_,by rw [HE.out];rfl⟩,gb_refl _ _⟩
      · have q3' : (x.sh == 1) = false:=by simpa using q3
        have p3 : (x.sh != 1) = true:=by rw [bne,q3'];rfl
        clear q1 q3 hf;go_enter Tryz.func81,Tryz.ntmps81;go_wp2;go_ret2;exact ⟨⟨_,by rw [HE.out];rfl⟩,gb_refl _ _⟩
    · have q2' : (x.par == -1) = false:=by simpa using q2
      have p2 : (x.par != -1) = true:=by rw [bne,q2'];rfl
      clear q1 q2 hf;go_enter Tryz.func81,Tryz.ntmps81;go_wp2;go_ret2;exact ⟨⟨_,by rw [HE.out];rfl⟩,gb_refl _ _⟩
  · have q1' : (x.nm.toList == rootS.toList) = false:=by simpa using q1
    have p1 : (x.nm.toList == [114,111,111,116]) = false:=by rw [← root_list];exact q1'
    clear q1 q1' hf;go_enter Tryz.func81,Tryz.ntmps81;go_wp2;go_ret2;exact ⟨⟨_,by rw [HE.out];rfl⟩,gb_refl _ _⟩
theorem deps_one (ls : List Acc) (n : Nat) : depsE ls (n + 1) 0 = depsE ls n 1:=by
  have h : depE ls 0 = 0:=by
    have h0 : depV ls ((0 : Nat) : Int) = 0:=by unfold depV;rw [depL,if_pos (show ((0 : Nat) : Int) = 0 from rfl)]
    unfold depE;rw [h0];rfl
  rw [depsE,if_pos h]
theorem rload_calls (w : World) (ad : Addr) (n c : Nat) (x : Acc) (r : List Acc) (hr : Rd Ec w (some ad) n (x :: r)) (hok : AccOk (x :: r)) (hf : accEq (zeroU x) rootA = true) :
    Calls Tryz.prog 81 #[.slice (some ad) n c] w (LoadI w (x :: r)):=by
  have hn : (x :: r).length = n:=hr.1;have hn0 : 0 < n:=by rw [← hn];simp
  have hz0 : ((n : Int) == 0) = false:=by simp;omega
  have hz1 : (n == 0) = false:=by simp;omega
  have hcells:=acc_cells (i:=0) hr rfl;have e0 : ad.add (0 * 5) = ad:=by simp [Addr.add]
  rw [e0] at hcells;obtain ⟨h0,h1,h2,h3,h4⟩:=hcells;have hlen:=hr.2.1;have HR:=Am hr;have HN:=Am hn;have HOK:=Am hok;have HLE:=Am (show loadE (x :: r) = if 64 < n then 65 else if rowsE (x :: r) r.length 1 = 0 then depsE (x :: r) n 0 else rowsE (x :: r) r.length 1 by unfold loadE;simp only;rw [if_neg (by rw [hf];decide),hn]);rw [first_iff] at hf;simp only [Bool.and_eq_true] at hf;obtain ⟨q1,q2,q3,q4⟩:=hf;have p1 : (x.nm.toList == [114,111,111,116]) = true:=by rw [← root_list];exact q1
  have p2 : (x.par != -1) = false:=by rw [bne,q2];rfl
  have p3 : (x.sh != 1) = false:=by rw [bne,q3];rfl
  have p4 : x.cl = false:=by simpa using q4
  rw [p4] at h3;clear hr hn hok e0 q1 q2 q3 q4 p4
  by_cases hbig : 64 < n
  · have hb : decide ((64 : Int) < (n : Int)) = true:=dT (by omega)
    have hb2 : decide (64 < n) = true:=dT hbig;have HE:=Am (show loadE (x :: r) = 65 by rw [HLE.out,if_pos hbig]);clear hbig;go_enter Tryz.func81,Tryz.ntmps81;go_wp2;go_ret2;exact ⟨⟨_,by rw [HE.out];rfl⟩,gb_refl _ _⟩
  have hb : decide ((64 : Int) < (n : Int)) = false:=dF (by omega);have hb2 : decide (64 < n) = false:=dF hbig;have hn64 : n ≤ 64:=by omega
  rw [if_neg hbig] at HLE;clear hbig;obtain ⟨m,hm⟩ : ∃ m,n = m + 1:=⟨n - 1,by omega⟩;have HNM : Aside0 (n = m + 1 ∧ r.length = m):=⟨by have:=HN.out;simp at this;omega⟩;rw [HNM.out.2] at HLE;clear hm;go_enter Tryz.func81,Tryz.ntmps81;go_wp2_with fail
  clear h0 h1 h2 h3 h4 hz0 hz1 p1 p2 p3 hb hb2;go_loopg [4] m (fun k v4 wr => ∃ (i : Nat),v4 = .int .i64 i ∧ Aside0 (i + k = n) ∧ 1 ≤ i ∧ i ≤ n ∧ Aside0 (rowsE (x :: r) k i = rowsE (x :: r) m 1) ∧ Aside0 (w.grownBy wr none))
  case atStart => exact ⟨1,rfl,⟨by have:=HNM.out.1;omega⟩,by omega,by omega,⟨rfl⟩,⟨gb_refl _ _⟩⟩
  case round =>
    obtain ⟨i,rfl,HD,hi1,hi,HE,HG⟩:=hrel
    cases gk with
    | zero =>
      obtain rfl : i = n:=by have:=HD.out;omega
      have HRW:=Am (show rowsE (x :: r) m 1 = 0 from HE.out.symm);have HL2:=Am (show loadE (x :: r) = depsE (x :: r) m 1 by
        rw [HLE.out,if_pos HRW.out,HNM.out.1,deps_one])
      have HPZ:=Am (show Pars (x :: r) from load_pars (by rw [HN.out,HNM.out.1];exact HRW.out) (by rw [HN.out];omega));obtain ⟨wo,rfl⟩ : ∃ wo,wo = wr:=⟨wr,rfl⟩;have HRo:=Am (HR.out.gb HG.out);go_wp2_with fail
      clear HE HD;go_loopg [6] m (fun k v6 wr => ∃ (j : Nat),v6 = .int .i64 j ∧ Aside0 (j + k = i) ∧ 1 ≤ j ∧ j ≤ i ∧ Aside0 (depsE (x :: r) k j = depsE (x :: r) m 1) ∧ wo = wr)
      case atStart => exact ⟨1,rfl,⟨by have:=HNM.out.1;omega⟩,by omega,by omega,⟨rfl⟩,rfl⟩
      case round =>
        obtain ⟨j,rfl,HD,hj1,hj,HE,rfl⟩:=hrel
        cases gk with
        | zero =>
          obtain rfl : j = i:=by have:=HD.out;omega
          have HEx:=Am (show loadE (x :: r) = 0 by rw [HL2.out,← HE.out];rfl);have HGW:=Am HG.out.size;have HB0:=Am (heap_alloc_new wo (.cells #[.slice none 0 0] 136));have HGb:=Am (gT HG.out (gA wo (.cells #[.slice none 0 0] 136) none));obtain ⟨g,hg⟩ : ∃ g,g = wo.heap.size:=⟨_,rfl⟩;rw [← hg] at HB0 HGW;clear HE HD;go_upto_region 20 with (fail)
          rw [← hg];generalize wo.alloc (.cells #[.slice none 0 0] 136) = Wt at HB0 HGb ⊢;clear hg;go_wp2_with fail
          have HO0:=Am (show Wt.ownsRow (g + 1) 31 Ec.sz (.slice none 0 0) 0 (flat Ec (((x :: r).take 0).map zeroU)) from own_nil _ _ _ _);go_loopg [73] j (fun k v73 wr => ∃ (q : Nat) (A : Option Addr) (cc : Nat),v73 = .int .i64 q ∧ Aside0 (q + k = j) ∧ q ≤ j ∧ Aside0 (wr.heap[g]? = some (.cells #[.slice A q cc] 136 (0,0))) ∧ Aside0 (wr.ownsRow (g + 1) 31 Ec.sz (.slice A q cc) q (flat Ec (((x :: r).take q).map zeroU))) ∧ Aside0 (w.grownBy wr none))
          case atStart => exact ⟨0,none,0,rfl,⟨by omega⟩,by omega,HB0,HO0,HGb⟩
          case round =>
            clear HB0 HO0 HGb;obtain ⟨q,A,cc,rfl,HD,hq,HK,HO,HGr⟩:=hrel
            cases gk with
            | zero =>
              obtain rfl : q = j:=by have:=HD.out;omega
              go_wp2;go_ret2;exact ⟨⟨_,by rw [HEx.out];rfl⟩,HGr.out⟩
            | succ d =>
              have hlt : q < j:=by have:=HD.out;omega
              have hlt1 : decide ((q : Int) < (j : Int)) = true:=dT (by omega);have hlt2 : (q : Int) < (j : Int):=by omega
              obtain ⟨a,ha⟩ : ∃ a,(x :: r)[q]? = some a:=⟨_,lG (by rw [HN.out];exact hlt)⟩;have HA:=Am ha;obtain ⟨h0,h1,h2,h3,h4⟩:=acc_cells (HR.out.gb HGr.out) ha;have HXd:=Am (show (wr.alloc (.cells #[.string a.nm,.int .i64 a.par,.int .i64 a.sh,.bool a.cl,.int .u64 0] 31)).drew.heap[wr.heap.size]? = some (.cells #[.string a.nm,.int .i64 a.par,.int .i64 a.sh,.bool a.cl,.int .u64 0] 31) from heap_alloc_new wr (.cells #[.string a.nm,.int .i64 a.par,.int .i64 a.sh,.bool a.cl,.int .u64 0] 31));have HKd:=Am (show (wr.alloc (.cells #[.string a.nm,.int .i64 a.par,.int .i64 a.sh,.bool a.cl,.int .u64 0] 31)).drew.heap[g]? = some (.cells #[.slice A q cc] 136 (0,0)) from blk_kept HK.out (gT (gA wr (.cells #[.string a.nm,.int .i64 a.par,.int .i64 a.sh,.bool a.cl,.int .u64 0] 31) none) (gb_drew _ none)) (by simp));have HOd:=Am (own_kept (own_kept HO.out (gA wr (.cells #[.string a.nm,.int .i64 a.par,.int .i64 a.sh,.bool a.cl,.int .u64 0] 31) none) (by simp)) (gb_drew _ none) (by simp));have HGd:=Am (gT (gT HGr.out (gA wr (.cells #[.string a.nm,.int .i64 a.par,.int .i64 a.sh,.bool a.cl,.int .u64 0] 31) none)) (gb_drew _ none));have HLN:=Am (show (((x :: r).take q).map zeroU ++ [zeroU a]).length = q + 1 by rw [List.length_append,List.length_map,List.length_take,HN.out];simp;omega);obtain ⟨bx,hbx⟩ : ∃ bx,bx = wr.heap.size:=⟨_,rfl⟩;rw [← hbx] at HXd;clear ha HK HO HGr;go_upto_region 24 with (fail)
              rw [← hbx];generalize wr.alloc (.cells #[.string a.nm,.int .i64 a.par,.int .i64 a.sh,.bool a.cl,.int .u64 0] 31) = W1 at HXd HKd HOd HGd ⊢;clear h0 h1 h2 h3 h4 hbx;refine start_ (n:=11) (S:=fun w' => w'.cell? ⟨g,0,none⟩ = some (.slice A q cc) ∧ w'.cell? ⟨bx,0,none⟩ = some (.string a.nm) ∧ w'.cell? ⟨bx,1,none⟩ = some (.int .i64 a.par) ∧ w'.cell? ⟨bx,2,none⟩ = some (.int .i64 a.sh) ∧ w'.cell? ⟨bx,3,none⟩ = some (.bool a.cl) ∧ w'.cell? ⟨bx,4,none⟩ = some (.int .u64 0)) (ds:=[7,10]) #[nn,nn,nn,nn,nn,nn,nn,nn,nn,nn,nn] (by kernel_rfl) rfl rfl ⟨cell_of (j:=0) HKd.out rfl,cell_of (j:=0) HXd.out rfl,cell_of (j:=1) HXd.out rfl,cell_of (j:=2) HXd.out rfl,cell_of (j:=3) HXd.out rfl,cell_of (j:=4) HXd.out rfl⟩ (fun hHeld => ?_);refine pu_ 0 (some 78) (bm 11 1) (by kernel_rfl) ?_;refine pu_ 1 (some 79) (bm 11 3) (by kernel_rfl) ?_;refine pu_ 2 (some 80) (bm 11 7) (by kernel_rfl) ?_;refine pu_ 3 (some 81) (bm 11 15) (by kernel_rfl) ?_;refine tk_ 4 (some 82) (bm 11 31) (by kernel_rfl) hHeld ?_;refine tk_ 5 (some 83) (bm 11 63) (by kernel_rfl) hHeld ?_;refine one_ (i:=6) (N:=some 84) (bm 11 127) rfl rfl (by kernel_rfl) (by decide) (fun K hK => ?_);refine value_ (w1:=?_) (v:=?_) (by rfl) rfl ?_ ?_
              rotate_left 2
              · go_simp
                constructor
                · rfl
                · rfl
              have HK6:=Am (blk_kept HKd.out (gA _ (.cells #[.string a.nm,.int .i64 a.par,.int .i64 a.sh,.bool a.cl,.int .u64 0] 31) none) (by simp));have HO6:=Am (own_kept HOd.out (gA _ (.cells #[.string a.nm,.int .i64 a.par,.int .i64 a.sh,.bool a.cl,.int .u64 0] 31) none) (by simp));have HX6:=Am (blk_kept HXd.out (gA _ (.cells #[.string a.nm,.int .i64 a.par,.int .i64 a.sh,.bool a.cl,.int .u64 0] 31) none) (by simp));have HR6:=Am (show Rd Ec (W1.drew.alloc (.cells #[.string a.nm,.int .i64 a.par,.int .i64 a.sh,.bool a.cl,.int .u64 0] 31)) (some ⟨W1.drew.heap.size,0,none⟩) 1 [zeroU a] from rd_lit Ec W1.drew 31 [zeroU a] (by simp));have HG6:=Am (gT HGd.out (gA _ (.cells #[.string a.nm,.int .i64 a.par,.int .i64 a.sh,.bool a.cl,.int .u64 0] 31) none));have HZ6 : Aside0 (g + 1 ≤ (W1.drew.alloc (.cells #[.string a.nm,.int .i64 a.par,.int .i64 a.sh,.bool a.cl,.int .u64 0] 31)).heap.size):=⟨by have h2:=blk_lt' HKd.out;simp at h2 ⊢;omega⟩;refine hK.out _ _ ⟨cell_of (j:=0) HK6.out rfl,cell_of (j:=0) HX6.out rfl,cell_of (j:=1) HX6.out rfl,cell_of (j:=2) HX6.out rfl,cell_of (j:=3) HX6.out rfl,cell_of (j:=4) HX6.out rfl⟩ (fun hHeld => ?_);clear hK K;refine norm_ (a':=?_) ?_ ?_
              rotate_left
              · show Act.put _ (some 84) _ = _
                simp only [NR];rfl
              refine last_ (i:=7) (N:=some 85) (bm 11 255) rfl rfl (by kernel_rfl) (by decide) (fun K hK => ?_);refine app_at_step Ec (by rfl) rfl (g + 1) (.tmp 82) (.tmp 84) 24 31 (.agg #[.string ByteArray.empty,.int .i64 0,.int .i64 0,.bool false,.int .u64 0]) 48 rfl Tryz.underlying24 (by kernel_rfl) rfl (by decide) (.slice A q cc) q (((x :: r).take q).map zeroU) [zeroU a] _ 1 1 rfl rfl HO6.out HR6.out HZ6.out (by omega) ?_;intro v7 w7 ho hg hat;obtain ⟨A7,c7,rfl,-,-,-⟩:=own_open HLN.out ho;have HO7:=Am ho;have hrow : ∀ z,(Value.slice A q cc).ownBlock = some z → g + 1 ≤ z:=fun z hz => (HO6.out.lt z hz).1;have HK7:=Am (blk_kept HK6.out hg (fun e => by have:=hrow g e.symm;omega));have HG7:=Am (show w.grownBy w7 none from by cases hv : (Value.slice A q cc).ownBlock with | none => (rw [hv] at hg;exact gT HG6.out hg) | some z => (rw [hv] at hg;exact gb_new HG6.out hg (by have h1:=hrow z hv;have h2:=HGW.out;omega)));clear ho hg hat hrow;have q7:=cell_of (j:=0) (v:=.slice A q cc) HK7.out rfl;have q8:=frozen_of (j:=0) HK7.out
              refine hK.out _ _ ?_;clear hK K;refine norm_ (a':=?_) ?_ ?_
              rotate_left
              · show Act.put _ (some 85) _ = _
                simp only [NR];rfl
              refine pu_ 8 (some 86) (bm 11 511) (by kernel_rfl) ?_;refine pu_ 9 (some 87) (bm 11 1023) (by kernel_rfl) ?_;refine last_ (i:=10) (N:=none) (bm 11 2047) rfl rfl (by kernel_rfl) (by decide) (fun K hK => ?_);refine skip_ (w1:=?_) (by rfl) rfl ?_ ?_
              rotate_left
              · go_simp
                rfl
              refine hK.out _ _ ?_;clear hK K;refine done_ (by kernel_rfl) ?_;go_wp2_with fail
              go_roundg d
              case measure => omega
              case rel =>
                refine ⟨q + 1,A7,c7,by go_num,⟨by have:=HD.out;omega⟩,by omega,⟨?_⟩,⟨?_⟩,⟨?_⟩⟩
                · have:=blk_set 0 (.slice A7 (q + 1 : Nat) c7) HK7.out
                  simpa using this
                · have e1 : ((x :: r).take q).map zeroU ++ [zeroU a] = ((x :: r).take (q + 1)).map zeroU:=by
                    rw [List.take_add_one,HA.out,List.map_append];rfl
                  have h1:=HO7.out;rw [e1] at h1;exact own_tn h1 (Tn.set g 0 _ (F:=fun z => z = g) rfl) (fun z hz e => by have h2:=(HO7.out.lt z hz).1;omega)
                · exact gb_new HG7.out (gb_setCell w7 g 0 _) HGW.out
        | succ d =>
          have hlt : j < i:=by have:=HD.out;omega
          have hlt1 : decide ((j : Int) < (i : Int)) = true:=dT (by omega);have hlt2 : decide (j < i) = true:=dT hlt;go_wp2_with fail
          refine (rdepth_calls wo ad i c (x :: r) (j : Int) HRo.out hn64 HPZ.out ⟨by omega,by omega⟩).mono ?_;rintro e W9 ⟨rfl,rfl⟩;obtain ⟨dv,hdv⟩ : ∃ dv,dv = depV (x :: r) (j : Int):=⟨_,rfl⟩;have HDV:=Am (show depE (x :: r) j = if dv < 0 then 67 else if 4 < dv then 64 else 0 by unfold depE;rw [hdv]);rw [← hdv];clear hdv
          by_cases h0 : dv < 0
          · have b1 : decide (dv < 0) = true:=dT h0
            rw [if_pos h0] at HDV;have HEx:=Am (show loadE (x :: r) = 67 by
              have h1:=HE.out;rw [deps_stop HDV.out (by decide)] at h1;rw [HL2.out,← h1])
            clear h0;go_wp2;go_ret2;exact ⟨⟨_,by rw [HEx.out];rfl⟩,HG.out⟩
          · have b1 : decide (dv < 0) = false:=dF h0
            rw [if_neg h0] at HDV
            by_cases h4 : 4 < dv
            · have b2 : decide (4 < dv) = true:=dT h4
              rw [if_pos h4] at HDV;have HEx:=Am (show loadE (x :: r) = 64 by
                have h1:=HE.out;rw [deps_stop HDV.out (by decide)] at h1;rw [HL2.out,← h1])
              clear h0 h4;go_wp2;go_ret2;exact ⟨⟨_,by rw [HEx.out];rfl⟩,HG.out⟩
            · have b2 : decide (4 < dv) = false:=dF h4
              rw [if_neg h4] at HDV;clear h0 h4;go_wp2_with fail
              go_roundg d
              case measure => omega
              case rel => exact ⟨j + 1,by go_num,⟨by have:=HD.out;omega⟩,by omega,by omega,⟨by rw [← HE.out,deps_go HDV.out]⟩,rfl⟩
    | succ d =>
      have hlt : i < n:=by have:=HD.out;omega
      have hlt1 : decide ((i : Int) < (n : Int)) = true:=dT (by omega);have hlt2 : decide (i < n) = true:=dT hlt;obtain ⟨a,ha⟩ : ∃ a,(x :: r)[i]? = some a:=⟨_,lG (by rw [HN.out];exact hlt)⟩;have HRC:=Am (row_calls wr ad n c (x :: r) i a (HR.out.gb HG.out) ha (HOK.out a (List.mem_of_getElem? ha)).1);have HA:=Am ha;clear ha;go_wp2_with fail
      refine (HRC.out).mono ?_;rintro e W9 ⟨rfl,hg⟩;obtain ⟨rv,hrv⟩ : ∃ rv,rv = rowE (x :: r) i a:=⟨_,rfl⟩;have HRV:=Am hrv.symm;have HG9:=Am (gT HG.out hg);rw [← hrv];clear hrv hg HRC
      by_cases h0 : rv = 0
      · have b1 : (rv != 0) = false:=by simp [h0]
        have HR0:=Am (show rowE (x :: r) i a = 0 by rw [HRV.out,h0]);clear h0;go_wp2_with fail
        go_roundg d
        case measure => omega
        case rel => exact ⟨i + 1,by go_num,⟨by have:=HD.out;omega⟩,by omega,by omega,⟨by rw [← HE.out,rows_go HA.out HR0.out]⟩,HG9⟩
      · have b1 : (rv != 0) = true:=by simp [h0]
        have HEx:=Am (show loadE (x :: r) = rv by
          have h1:=HE.out;rw [rows_stop HA.out HRV.out h0] at h1;rw [HLE.out,← h1,if_neg h0])
        clear h0;go_wp2;go_ret2;exact ⟨⟨_,by rw [HEx.out];rfl⟩,HG9.out⟩
end Go.Proofs.YtodibpddlibneaaGreatDoor.T
