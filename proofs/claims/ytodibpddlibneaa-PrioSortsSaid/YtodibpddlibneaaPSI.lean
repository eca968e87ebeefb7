/- Sorting Items by any order that is handed in, as prio.Sort does it: what each call answers. Conditions: each theorem's own. -/
import Derived.Test.YtodibpddlibneaaPS
namespace Go.Proofs.Ytodibpddlibneaa.S
open Go.RowKit Go.Proofs.YtodibpddlibneaaW.PrintWords Go.Proofs.YtodibpddlibneaaW.PrintLast Go.Proofs.Ytodibpddlibneaa.H
set_option linter.unusedVariables false
set_option linter.unusedSimpArgs false
/-- Items: a key, a number. -/
def Et : Enc (Int × Int) := ⟨2, fun x => [.int .i64 x.1, .int .i64 x.2], fun _ => rfl, fun _ v hv => by
  simp only [List.mem_cons, List.not_mem_nil, or_false] at hv
  rcases hv with rfl | rfl <;> rfl, by decide⟩
/-- A list of the call's own is answered; of what was there at most the row has turned. -/
def OwnT (w : World) (row : Option Nat) (Inv : World → Prop) (xs : List (Int × Int)) (n : Nat) (e : Ending) (w' : World) : Prop := ∃ v, e = .returned v ∧ w'.ownsRow w.heap.size 25 2 v n (flat Et xs) ∧ w.grownBy w' row ∧ Inv w'

set_option maxHeartbeats 8000000 in
set_option maxRecDepth 100000 in
theorem mergeT_calls {f : FuncId} {fn : Func} {caps : Array Value} {lt : Int × Int → Int × Int → Bool} {row : Option Nat} {Inv : World → Prop} (hf : Try.prog.funcs[f]? = some fn) (hnm : (fn.name == "runtime.NumGoroutine") = false) (hbd : fn.body.isSome = true)
    (F : Order Try.prog f caps (fun x : Int × Int => .agg #[.int .i64 x.1, .int .i64 x.2]) lt row Inv)
    (w : World) (A B : Option Addr) (n m c d : Nat) (xs ys : List (Int × Int)) (hx : Rd Et w A n xs) (hy : Rd Et w B m ys) (hc : n ≤ c) (hd : m ≤ d) (hs : (n + m) * 16 ≤ 140737488355328)
    (hI : Inv w) (hrow : ∀ g, row = some g → g < w.heap.size) (hA : ∀ ad, A = some ad → 0 < n → some ad.block ≠ row) (hB : ∀ ad, B = some ad → 0 < m → some ad.block ≠ row) :
    Calls Try.prog 33 #[.agg #[.func (.func f) #[] caps], .slice A n c, .slice B m d] w (OwnT w row Inv (mergeL lt xs ys) (n + m)) := by
  have HX := Aside0.mk hx
  have HY := Aside0.mk hy
  have HF := Aside0.mk F
  have HI := Aside0.mk hI
  have HR := Aside0.mk hrow
  have HNA := Aside0.mk hA
  have HNB := Aside0.mk hB
  clear hx hy F hI hrow hA hB
  obtain ⟨i3, hi3, hz0, hz1, hz2⟩ := info_parts (show (Try.prog.info? 25).map (fun i => (i.zero, i.size, i.bytes)) = some (some (.agg #[.int .i64 0, .int .i64 0]), 2, 16) by kernel_rfl)
  have HI3 := Aside0.mk hi3
  have HZ0 := Aside0.mk hz0
  have HZ1 := Aside0.mk hz1
  have HZ2 := Aside0.mk hz2
  clear hi3 hz0 hz1 hz2
  have HBX := Aside0.mk (heap_alloc_new w (.cells #[.func (.func f) #[] caps] 47))
  go_enter Try.func33, Try.ntmps33
  go_wp2_with (at_make; refine wpList_make_own _ rfl _ _ 22 rfl (w.heap.size + 1) 25 i3 (.agg #[.int .i64 0, .int .i64 0]) 2 Try.underlying22 HI3.out HZ0.out HZ1.out .i64 .i64 _ (n + m) rfl rfl (by first | rfl | simp) (by rw [HZ2.out]; omega) (by simp only [maxLen]; omega) (by simp) ?_; intro w1 hown hg; have HO := Aside0.mk hown; have HG := Aside0.mk hg; clear hown hg)
  have HB1 := Aside0.mk (blk_kept HBX.out HG.out (by simp))
  have HG1 := Aside0.mk (gb_any (World.grownBy.trans (World.grownBy_alloc w _ none) HG.out) row)
  have HV1 := Aside0.mk (HF.out.keep _ _ none (HF.out.keep _ _ none HI.out (World.grownBy_alloc w (.cells #[.func (.func f) #[] caps] 47) none) (by simp)) HG.out (by simp))
  have HOa : Aside0 (w1.ownsRow (w.heap.size + 1) 25 2 (Value.slice (some { block := w.heap.size + 1, off := 0 }) 0 (n + m)) 0 (flat Et [])) := ⟨by rw [flat_nil]; simpa using HO.out⟩
  clear HO HG HBX HI
  go_loopg [1, 2, 7] (n + m) (fun k v1 v2 v7 wr => ∃ (A' B' : Option Addr) (p q r c' d' : Nat) (xs' ys' os : List (Int × Int)), v1 = .slice A' p c' ∧ v2 = .slice B' q d' ∧ Aside0 (p + q = k) ∧ Aside0 (r + p + q = n + m) ∧ Aside0 (os.length = r) ∧ Aside0 (p ≤ c' ∧ q ≤ d') ∧ Aside0 (Rd Et w A' p xs') ∧ Aside0 (Rd Et w B' q ys')
    ∧ Aside0 (∀ ad, A' = some ad → 0 < p → some ad.block ≠ row) ∧ Aside0 (∀ ad, B' = some ad → 0 < q → some ad.block ≠ row)
    ∧ Aside0 (os ++ mergeL lt xs' ys' = mergeL lt xs ys) ∧ Aside0 (wr.ownsRow (w.heap.size + 1) 25 2 v7 r (flat Et os)) ∧ Aside0 (w.grownBy wr row) ∧ Aside0 (Inv wr) ∧ Aside0 (wr.heap[w.heap.size]? = some (.cells #[.func (.func f) #[] caps] 47 (0, 0))))
  case atStart => exact ⟨A, B, n, m, 0, c, d, xs, ys, [], rfl, rfl, ⟨rfl⟩, ⟨by omega⟩, ⟨rfl⟩, ⟨⟨hc, hd⟩⟩, HX, HY, HNA, HNB, ⟨rfl⟩, HOa, HG1, HV1, HB1⟩
  case round =>
    obtain ⟨A', B', p, q, r, c', d', xs', ys', os, rfl, rfl, HD, HS, HL, HC, HX', HY', HNA', HNB', HE, HO, HG, HV, HB⟩ := hrel
    have hpq := HS.out
    by_cases hp : 0 < p
    · have hp1 : decide (0 < p) = true := decide_eq_true hp
      have hp2 : decide ((0 : Int) < (p : Int)) = true := decide_eq_true (by omega)
      by_cases hq : 0 < q
      · have hq1 : decide (0 < q) = true := decide_eq_true hq
        have hq2 : decide ((0 : Int) < (q : Int)) = true := decide_eq_true (by omega)
        obtain ⟨bd, y, rfl, hy0, hcb⟩ := HY'.out.at_ 0 hq
        obtain ⟨ad, x, rfl, hx0, hca⟩ := HX'.out.at_ 0 hp
        obtain ⟨xr, rfl⟩ := drop_cons hx0
        obtain ⟨yr, rfl⟩ := drop_cons hy0
        have hcb' : w.cell? bd = some (.int .i64 y.1) ∧ w.cell? ⟨bd.block, bd.off + 1, none⟩ = some (.int .i64 y.2) := ⟨by simpa [Addr.add] using hcb 0 _ rfl, by simpa [Addr.add] using hcb 1 _ rfl⟩
        have hca' : w.cell? ad = some (.int .i64 x.1) ∧ w.cell? ⟨ad.block, ad.off + 1, none⟩ = some (.int .i64 x.2) := ⟨by simpa [Addr.add] using hca 0 _ rfl, by simpa [Addr.add] using hca 1 _ rfl⟩
        have hny : some bd.block ≠ row := HNB'.out bd rfl hq
        have hnx : some ad.block ≠ row := HNA'.out ad rfl hp
        have hnb : Aside0 (some w.heap.size ≠ row) := ⟨fun e => absurd (HR.out _ e.symm) (Nat.lt_irrefl _)⟩
        have hrb : Aside0 (∀ k, row = some k → k < w.heap.size + 1) := ⟨fun k e => Nat.lt_succ_of_lt (HR.out k e)⟩
        have HN := Aside0.mk (And.intro hny hnx)
        have HWc := Aside0.mk (And.intro hcb' hca')
        have HK : Aside0 (wr.drew.cell? ⟨w.heap.size, 0, none⟩ = some (.func (.func f) #[] caps) ∧ (wr.drew.cell? bd = some (.int .i64 y.1) ∧ wr.drew.cell? ⟨bd.block, bd.off + 1, none⟩ = some (.int .i64 y.2)) ∧ (wr.drew.cell? ad = some (.int .i64 x.1) ∧ wr.drew.cell? ⟨ad.block, ad.off + 1, none⟩ = some (.int .i64 x.2))) :=
          ⟨cell_at (blk_kept HB.out (gb_drew wr none) (by simp)) rfl, ⟨(gb_drew wr none).cell (HG.out.cell hcb'.1 hny) (by simp), (gb_drew wr none).cell (HG.out.cell hcb'.2 hny) (by simp)⟩, ⟨(gb_drew wr none).cell (HG.out.cell hca'.1 hnx) (by simp), (gb_drew wr none).cell (HG.out.cell hca'.2 hnx) (by simp)⟩⟩
        have HGd := Aside0.mk (World.grownBy.trans HG.out (gb_drew wr row))
        have HVd := Aside0.mk (HF.out.keep _ _ none HV.out (gb_drew wr none) (by simp))
        have HOd := Aside0.mk (own_kept HO.out (gb_drew wr none) (by simp))
        have HBd := Aside0.mk (blk_kept HB.out (gb_drew wr none) (by simp))
        clear hcb' hca' hny hnx hcb hca hx0 hy0 HG HV HO HB
        by_cases hlt : lt y x = true
        · have HLT := Aside0.mk hlt
          obtain ⟨A2, hcut, hrd, hbl⟩ := cut_at (P := Try.prog) Et 22 25 .i64 Try.underlying22 HI3.out HZ1.out (some bd) q d' 1 (by omega)
          have hcut1 : ∀ W : World, (Instr.slice 22 (.slice (some bd) q d') (some (.int .i64 1)) none none).run Try.prog W = .ok (.slice A2 (q - 1) (d' - 1)) W := fun W => hcut W
          have HR2 := Aside0.mk (hrd _ _ (by have := HC.out; omega) HY'.out)
          have HN2 : Aside0 (∀ ad, A2 = some ad → 0 < q - 1 → some ad.block ≠ row) := ⟨fun z hz _ => by obtain ⟨a0, h1, h2⟩ := hbl z hz; rw [h2]; exact HNB'.out a0 h1 (by omega)⟩
          clear hcut hrd hbl
          go_wp2_with fail
          refine start_ (n := 9) (S := fun w' => w'.cell? ⟨w.heap.size, 0, none⟩ = some (.func (.func f) #[] caps) ∧ w'.cell? bd = some (.int .i64 y.1) ∧ w'.cell? ⟨bd.block, bd.off + 1, none⟩ = some (.int .i64 y.2) ∧ w'.cell? ad = some (.int .i64 x.1) ∧ w'.cell? ⟨ad.block, ad.off + 1, none⟩ = some (.int .i64 x.2)) (ds := [8]) #[false, false, false, false, false, false, false, false, false] (by kernel_rfl) rfl rfl ⟨HK.out.1, HK.out.2.1.1, HK.out.2.1.2, HK.out.2.2.1, HK.out.2.2.2⟩ (fun hHeld => ?_)
          refine pure_ (i := 0) (N := some 22) (v := ?_) (a' := ?_) #[true, false, false, false, false, false, false, false, false] rfl rfl (by kernel_rfl) (fun _ _ _ h => h) (Or.inl ⟨by rfl, ?_⟩) ?_ ?_
          rotate_left
          · intro w'
            go_simp
            with_reducible rfl
          rotate_left
          · simp only [Act.put, List.setIfInBounds_toArray, List.set_cons_zero, List.set_cons_succ, i64_w, i32_w]
            rfl
          refine pure_ (i := 2) (N := some 24) (v := ?_) (a' := ?_) #[true, false, true, false, false, false, false, false, false] rfl rfl (by kernel_rfl) (fun _ _ _ h => h) (Or.inl ⟨by rfl, ?_⟩) ?_ ?_
          rotate_left
          · intro w'
            go_simp
            with_reducible rfl
          rotate_left
          · simp only [Act.put, List.setIfInBounds_toArray, List.set_cons_zero, List.set_cons_succ, i64_w, i32_w]
            rfl
          refine pure_ (i := 3) (N := some 25) (v := ?_) (a' := ?_) #[true, false, true, true, false, false, false, false, false] rfl rfl (by kernel_rfl) (fun _ _ _ h => h) (Or.inl ⟨by rfl, ?_⟩) ?_ ?_
          rotate_left
          · intro w'
            go_simp
            with_reducible rfl
          rotate_left
          · simp only [Act.put, List.setIfInBounds_toArray, List.set_cons_zero, List.set_cons_succ, i64_w, i32_w]
            rfl
          refine pure_ (i := 5) (N := some 27) (v := ?_) (a' := ?_) #[true, false, true, true, false, true, false, false, false] rfl rfl (by kernel_rfl) (fun _ _ _ h => h) (Or.inl ⟨by rfl, ?_⟩) ?_ ?_
          rotate_left
          · intro w'
            go_simp
            with_reducible rfl
          rotate_left
          · simp only [Act.put, List.setIfInBounds_toArray, List.set_cons_zero, List.set_cons_succ, i64_w, i32_w]
            rfl
          refine pure_ (i := 6) (N := some 28) (v := ?_) (a' := ?_) #[true, false, true, true, false, true, true, false, false] rfl rfl (by kernel_rfl) (fun _ _ _ h => h) (Or.inl ⟨by rfl, ?_⟩) ?_ ?_
          rotate_left
          · intro w'
            go_simp
            with_reducible rfl
          rotate_left
          · simp only [Act.put, List.setIfInBounds_toArray, List.set_cons_zero, List.set_cons_succ, i64_w, i32_w]
            rfl
          refine take_ (i := 1) (N := some 23) (v := ?_) (a' := ?_) #[true, true, true, true, false, true, true, false, false] rfl rfl (by kernel_rfl) (fun _ _ _ h => h) (Or.inl ⟨by rfl, ?_⟩) hHeld ?_ ?_
          rotate_left
          · rintro w' ⟨s0, s1, s2, s3, s4⟩
            go_simp
            with_reducible rfl
          rotate_left
          · simp only [Act.put, List.setIfInBounds_toArray, List.set_cons_zero, List.set_cons_succ, i64_w, i32_w]
            rfl
          refine take_ (i := 4) (N := some 26) (v := ?_) (a' := ?_) #[true, true, true, true, true, true, true, false, false] rfl rfl (by kernel_rfl) (fun _ _ _ h => h) (Or.inl ⟨by rfl, ?_⟩) hHeld ?_ ?_
          rotate_left
          · rintro w' ⟨s0, s1, s2, s3, s4⟩
            go_simp
            with_reducible rfl
          rotate_left
          · simp only [Act.put, List.setIfInBounds_toArray, List.set_cons_zero, List.set_cons_succ, i64_w, i32_w]
            rfl
          refine take_ (i := 7) (N := some 29) (v := ?_) (a' := ?_) #[true, true, true, true, true, true, true, true, false] rfl rfl (by kernel_rfl) (fun _ _ _ h => h) (Or.inl ⟨by rfl, ?_⟩) hHeld ?_ ?_
          rotate_left
          · rintro w' ⟨s0, s1, s2, s3, s4⟩
            go_simp
            with_reducible rfl
          rotate_left
          · simp only [Act.put, List.setIfInBounds_toArray, List.set_cons_zero, List.set_cons_succ, i64_w, i32_w]
            rfl
          refine last_ (i := 8) (N := some 30) #[true, true, true, true, true, true, true, true, true] rfl rfl (by kernel_rfl) (by decide) (fun K hK => ?_)
          refine goesV_ hf hnm hbd #[] caps (#[.agg #[.int .i64 y.1, .int .i64 y.2], .agg #[.int .i64 x.1, .int .i64 x.2]] ++ caps) (by rfl) rfl rfl (by rfl) (by simp only [List.map_toArray, List.map_cons, List.map_nil]; rfl) ?_
          with_reducible refine (HF.out.call _ y x HVd.out).mono ?_
          rintro e w3 ⟨rfl, hv, hg⟩
          rw [HLT.out]
          refine ⟨_, rfl, ?_⟩
          have HG3 := Aside0.mk (World.grownBy.trans HGd.out hg); have HV3 := Aside0.mk hv; have HO3 := Aside0.mk (own_kept HOd.out hg hrb.out); have HB3 := Aside0.mk (blk_kept HBd.out hg hnb.out); clear hv hg HGd HVd HOd HBd
          refine hK.out _ _ ?_
          clear hK K
          refine norm_ (a' := ?_) ?_ ?_
          rotate_left
          · show Act.put _ (some 30) _ = _
            simp only [Act.put, List.setIfInBounds_toArray, List.set_cons_zero, List.set_cons_succ, i64_w, i32_w]
            rfl
          refine done_ (by kernel_rfl) ?_
          have HK4 := Aside0.mk (And.intro ((gb_drew w3 none).cell (HG3.out.cell HWc.out.1.1 HN.out.1) (by simp)) ((gb_drew w3 none).cell (HG3.out.cell HWc.out.1.2 HN.out.1) (by simp)))
          have HG3d := Aside0.mk (World.grownBy.trans HG3.out (gb_drew w3 row))
          have HV3d := Aside0.mk (HF.out.keep _ _ none HV3.out (gb_drew w3 none) (by simp))
          have HO3d := Aside0.mk (own_kept HO3.out (gb_drew w3 none) (by simp))
          have HB3d := Aside0.mk (blk_kept HB3.out (gb_drew w3 none) (by simp))
          have hsz4 : Aside0 (w.heap.size + 1 ≤ (w3.drew.alloc (.cells #[.int .i64 y.1, .int .i64 y.2] 25)).heap.size) := ⟨by have := blk_lt' HB3d.out; simp at this ⊢; omega⟩
          clear HG3 HV3 HO3 HB3
          go_wp2_with fail
          refine start_ (n := 10) (S := fun w' => w'.cell? bd = some (.int .i64 y.1) ∧ w'.cell? ⟨bd.block, bd.off + 1, none⟩ = some (.int .i64 y.2)) (ds := [5]) #[false, false, false, false, false, false, false, false, false, false] (by kernel_rfl) rfl rfl ⟨HK4.out.1, HK4.out.2⟩ (fun hHeld => ?_)
          refine pure_ (i := 0) (N := some 31) (v := ?_) (a' := ?_) #[true, false, false, false, false, false, false, false, false, false] rfl rfl (by kernel_rfl) (fun _ _ _ h => h) (Or.inl ⟨by rfl, ?_⟩) ?_ ?_
          rotate_left
          · intro w'
            go_simp
            with_reducible rfl
          rotate_left
          · simp only [Act.put, List.setIfInBounds_toArray, List.set_cons_zero, List.set_cons_succ, i64_w, i32_w]
            rfl
          refine pure_ (i := 1) (N := some 32) (v := ?_) (a' := ?_) #[true, true, false, false, false, false, false, false, false, false] rfl rfl (by kernel_rfl) (fun _ _ _ h => h) (Or.inl ⟨by rfl, ?_⟩) ?_ ?_
          rotate_left
          · intro w'
            go_simp
            with_reducible rfl
          rotate_left
          · simp only [Act.put, List.setIfInBounds_toArray, List.set_cons_zero, List.set_cons_succ, i64_w, i32_w]
            rfl
          refine pure_ (i := 2) (N := some 33) (v := ?_) (a' := ?_) #[true, true, true, false, false, false, false, false, false, false] rfl rfl (by kernel_rfl) (fun _ _ _ h => h) (Or.inl ⟨by rfl, ?_⟩) ?_ ?_
          rotate_left
          · intro w'
            go_simp
            with_reducible rfl
          rotate_left
          · simp only [Act.put, List.setIfInBounds_toArray, List.set_cons_zero, List.set_cons_succ, i64_w, i32_w]
            rfl
          refine pure_ (i := 6) (N := some 37) (v := ?_) (a' := ?_) #[true, true, true, false, false, false, true, false, false, false] rfl rfl (by kernel_rfl) (fun _ _ _ h => h) (Or.inl ⟨by rfl, ?_⟩) ?_ ?_
          rotate_left
          · intro w'
            go_simp
            with_reducible rfl
          rotate_left
          · simp only [Act.put, List.setIfInBounds_toArray, List.set_cons_zero, List.set_cons_succ, i64_w, i32_w]
            rfl
          refine pure_ (i := 7) (N := some 38) (v := ?_) (a' := ?_) #[true, true, true, false, false, false, true, true, false, false] rfl rfl (by kernel_rfl) (fun _ _ _ h => h) (Or.inl ⟨by rfl, ?_⟩) ?_ ?_
          rotate_left
          · intro w'
            go_simp
            with_reducible rfl
          rotate_left
          · simp only [Act.put, List.setIfInBounds_toArray, List.set_cons_zero, List.set_cons_succ, i64_w, i32_w]
            rfl
          refine take_ (i := 3) (N := some 34) (v := ?_) (a' := ?_) #[true, true, true, true, false, false, true, true, false, false] rfl rfl (by kernel_rfl) (fun _ _ _ h => h) (Or.inl ⟨by rfl, ?_⟩) hHeld ?_ ?_
          rotate_left
          · rintro w' ⟨s0, s1⟩
            go_simp
            with_reducible rfl
          rotate_left
          · simp only [Act.put, List.setIfInBounds_toArray, List.set_cons_zero, List.set_cons_succ, i64_w, i32_w]
            rfl
          refine one_ (i := 4) (N := some 35) #[true, true, true, true, true, false, true, true, false, false] rfl rfl (by kernel_rfl) (by decide) (fun K hK => ?_)
          refine value_ (w1 := ?_) (v := ?_) (by rfl) rfl ?_ ?_
          rotate_left 2
          · go_simp
            constructor
            · rfl
            · rfl
          have HO4 := Aside0.mk (own_kept HO3d.out (World.grownBy_alloc _ (.cells #[.int .i64 y.1, .int .i64 y.2] 25) none) (by simp)); have HG4 := Aside0.mk (World.grownBy.trans HG3d.out (World.grownBy_alloc _ (.cells #[.int .i64 y.1, .int .i64 y.2] 25) row)); have HV4 := Aside0.mk (HF.out.keep _ _ none HV3d.out (World.grownBy_alloc _ (.cells #[.int .i64 y.1, .int .i64 y.2] 25) none) (by simp)); have HB4 := Aside0.mk (blk_kept HB3d.out (World.grownBy_alloc _ (.cells #[.int .i64 y.1, .int .i64 y.2] 25) none) (by simp)); have HL4 := Aside0.mk (rd_lit Et w3.drew 25 [y] (by simp)); clear HO3d HG3d HV3d HB3d
          refine hK.out _ _ ⟨(World.grownBy_alloc _ _ none).cell hHeld.1 (by simp), (World.grownBy_alloc _ _ none).cell hHeld.2 (by simp)⟩ (fun hHeld => ?_)
          clear hK K
          refine norm_ (a' := ?_) ?_ ?_
          rotate_left
          · show Act.put _ (some 35) _ = _
            simp only [Act.put, List.setIfInBounds_toArray, List.set_cons_zero, List.set_cons_succ, i64_w, i32_w]
            rfl
          refine last_ (i := 5) (N := some 36) #[true, true, true, true, true, true, true, true, false, false] rfl rfl (by kernel_rfl) (by decide) (fun K hK => ?_)
          refine app_step Et (by rfl) rfl (w.heap.size + 1) (.tmp 31) (.tmp 35) 22 25 (.agg #[.int .i64 0, .int .i64 0]) 16 rfl Try.underlying22 (by kernel_rfl) rfl (by decide) _ r os [y] _ 1 1 rfl rfl HL.out HO4.out HL4.out hsz4.out (by have := HS.out; omega) ?_
          intro v5 w5 ho hg hn
          have HO5 := Aside0.mk ho; have HG5 := Aside0.mk (gb_own HG4.out HO4.out hg (by omega)); have HV5 := Aside0.mk (HF.out.keep _ _ _ HV4.out hg (own_row HO4.out HR.out)); have HB5 := Aside0.mk (blk_kept HB4.out hg (own_not HO4.out)); clear ho hg hn HO4 HG4 HV4 HB4 HL4
          refine hK.out _ _ ?_
          clear hK K
          refine norm_ (a' := ?_) ?_ ?_
          rotate_left
          · show Act.put _ (some 36) _ = _
            simp only [Act.put, List.setIfInBounds_toArray, List.set_cons_zero, List.set_cons_succ, i64_w, i32_w]
            rfl
          refine pure_ (i := 8) (N := some 7) (v := ?_) (a' := ?_) #[true, true, true, true, true, true, true, true, true, false] rfl rfl (by kernel_rfl) (fun _ _ _ h => h) (Or.inl ⟨by rfl, ?_⟩) ?_ ?_
          rotate_left
          · intro w'
            go_simp
            with_reducible rfl
          rotate_left
          · simp only [Act.put, List.setIfInBounds_toArray, List.set_cons_zero, List.set_cons_succ, i64_w, i32_w]
            rfl
          refine pure_ (i := 9) (N := some 2) (v := ?_) (a' := ?_) #[true, true, true, true, true, true, true, true, true, true] rfl rfl (by kernel_rfl) (fun _ _ _ h => h) (Or.inl ⟨by rfl, ?_⟩) ?_ ?_
          rotate_left
          · intro w'
            go_simp
            with_reducible rfl
          rotate_left
          · simp only [Act.put, List.setIfInBounds_toArray, List.set_cons_zero, List.set_cons_succ, i64_w, i32_w]
            rfl
          refine done_ (by kernel_rfl) ?_
          go_wp2_with fail
          go_roundg (p + q - 1)
          case measure => have := HD.out; omega
          case rel =>
            have hS := HS.out
            have hD := HD.out
            have hC := HC.out
            refine ⟨_, _, p, q - 1, r + 1, c', d' - 1, x :: xr, yr, os ++ [y], rfl, rfl, ⟨by omega⟩, ⟨by omega⟩, ⟨by rw [List.length_append, HL.out]; rfl⟩, ⟨by omega⟩, HX', HR2, HNA', HN2, ⟨?_⟩, HO5, HG5, HV5, HB5⟩
            rw [← HE.out, mergeL, if_pos HLT.out, List.append_assoc]; rfl
        · have hlt' : lt y x = false := by simpa using hlt
          have HLT := Aside0.mk hlt'
          clear hlt
          obtain ⟨A2, hcut, hrd, hbl⟩ := cut_at (P := Try.prog) Et 22 25 .i64 Try.underlying22 HI3.out HZ1.out (some ad) p c' 1 (by omega)
          have hcut1 : ∀ W : World, (Instr.slice 22 (.slice (some ad) p c') (some (.int .i64 1)) none none).run Try.prog W = .ok (.slice A2 (p - 1) (c' - 1)) W := fun W => hcut W
          have HR2 := Aside0.mk (hrd _ _ (by have := HC.out; omega) HX'.out)
          have HN2 : Aside0 (∀ ad, A2 = some ad → 0 < p - 1 → some ad.block ≠ row) := ⟨fun z hz _ => by obtain ⟨a0, h1, h2⟩ := hbl z hz; rw [h2]; exact HNA'.out a0 h1 (by omega)⟩
          clear hcut hrd hbl
          go_wp2_with fail
          refine start_ (n := 9) (S := fun w' => w'.cell? ⟨w.heap.size, 0, none⟩ = some (.func (.func f) #[] caps) ∧ w'.cell? bd = some (.int .i64 y.1) ∧ w'.cell? ⟨bd.block, bd.off + 1, none⟩ = some (.int .i64 y.2) ∧ w'.cell? ad = some (.int .i64 x.1) ∧ w'.cell? ⟨ad.block, ad.off + 1, none⟩ = some (.int .i64 x.2)) (ds := [8]) #[false, false, false, false, false, false, false, false, false] (by kernel_rfl) rfl rfl ⟨HK.out.1, HK.out.2.1.1, HK.out.2.1.2, HK.out.2.2.1, HK.out.2.2.2⟩ (fun hHeld => ?_)
          refine pure_ (i := 0) (N := some 22) (v := ?_) (a' := ?_) #[true, false, false, false, false, false, false, false, false] rfl rfl (by kernel_rfl) (fun _ _ _ h => h) (Or.inl ⟨by rfl, ?_⟩) ?_ ?_
          rotate_left
          · intro w'
            go_simp
            with_reducible rfl
          rotate_left
          · simp only [Act.put, List.setIfInBounds_toArray, List.set_cons_zero, List.set_cons_succ, i64_w, i32_w]
            rfl
          refine pure_ (i := 2) (N := some 24) (v := ?_) (a' := ?_) #[true, false, true, false, false, false, false, false, false] rfl rfl (by kernel_rfl) (fun _ _ _ h => h) (Or.inl ⟨by rfl, ?_⟩) ?_ ?_
          rotate_left
          · intro w'
            go_simp
            with_reducible rfl
          rotate_left
          · simp only [Act.put, List.setIfInBounds_toArray, List.set_cons_zero, List.set_cons_succ, i64_w, i32_w]
            rfl
          refine pure_ (i := 3) (N := some 25) (v := ?_) (a' := ?_) #[true, false, true, true, false, false, false, false, false] rfl rfl (by kernel_rfl) (fun _ _ _ h => h) (Or.inl ⟨by rfl, ?_⟩) ?_ ?_
          rotate_left
          · intro w'
            go_simp
            with_reducible rfl
          rotate_left
          · simp only [Act.put, List.setIfInBounds_toArray, List.set_cons_zero, List.set_cons_succ, i64_w, i32_w]
            rfl
          refine pure_ (i := 5) (N := some 27) (v := ?_) (a' := ?_) #[true, false, true, true, false, true, false, false, false] rfl rfl (by kernel_rfl) (fun _ _ _ h => h) (Or.inl ⟨by rfl, ?_⟩) ?_ ?_
          rotate_left
          · intro w'
            go_simp
            with_reducible rfl
          rotate_left
          · simp only [Act.put, List.setIfInBounds_toArray, List.set_cons_zero, List.set_cons_succ, i64_w, i32_w]
            rfl
          refine pure_ (i := 6) (N := some 28) (v := ?_) (a' := ?_) #[true, false, true, true, false, true, true, false, false] rfl rfl (by kernel_rfl) (fun _ _ _ h => h) (Or.inl ⟨by rfl, ?_⟩) ?_ ?_
          rotate_left
          · intro w'
            go_simp
            with_reducible rfl
          rotate_left
          · simp only [Act.put, List.setIfInBounds_toArray, List.set_cons_zero, List.set_cons_succ, i64_w, i32_w]
            rfl
          refine take_ (i := 1) (N := some 23) (v := ?_) (a' := ?_) #[true, true, true, true, false, true, true, false, false] rfl rfl (by kernel_rfl) (fun _ _ _ h => h) (Or.inl ⟨by rfl, ?_⟩) hHeld ?_ ?_
          rotate_left
          · rintro w' ⟨s0, s1, s2, s3, s4⟩
            go_simp
            with_reducible rfl
          rotate_left
          · simp only [Act.put, List.setIfInBounds_toArray, List.set_cons_zero, List.set_cons_succ, i64_w, i32_w]
            rfl
          refine take_ (i := 4) (N := some 26) (v := ?_) (a' := ?_) #[true, true, true, true, true, true, true, false, false] rfl rfl (by kernel_rfl) (fun _ _ _ h => h) (Or.inl ⟨by rfl, ?_⟩) hHeld ?_ ?_
          rotate_left
          · rintro w' ⟨s0, s1, s2, s3, s4⟩
            go_simp
            with_reducible rfl
          rotate_left
          · simp only [Act.put, List.setIfInBounds_toArray, List.set_cons_zero, List.set_cons_succ, i64_w, i32_w]
            rfl
          refine take_ (i := 7) (N := some 29) (v := ?_) (a' := ?_) #[true, true, true, true, true, true, true, true, false] rfl rfl (by kernel_rfl) (fun _ _ _ h => h) (Or.inl ⟨by rfl, ?_⟩) hHeld ?_ ?_
          rotate_left
          · rintro w' ⟨s0, s1, s2, s3, s4⟩
            go_simp
            with_reducible rfl
          rotate_left
          · simp only [Act.put, List.setIfInBounds_toArray, List.set_cons_zero, List.set_cons_succ, i64_w, i32_w]
            rfl
          refine last_ (i := 8) (N := some 30) #[true, true, true, true, true, true, true, true, true] rfl rfl (by kernel_rfl) (by decide) (fun K hK => ?_)
          refine goesV_ hf hnm hbd #[] caps (#[.agg #[.int .i64 y.1, .int .i64 y.2], .agg #[.int .i64 x.1, .int .i64 x.2]] ++ caps) (by rfl) rfl rfl (by rfl) (by simp only [List.map_toArray, List.map_cons, List.map_nil]; rfl) ?_
          with_reducible refine (HF.out.call _ y x HVd.out).mono ?_
          rintro e w3 ⟨rfl, hv, hg⟩
          rw [HLT.out]
          refine ⟨_, rfl, ?_⟩
          have HG3 := Aside0.mk (World.grownBy.trans HGd.out hg); have HV3 := Aside0.mk hv; have HO3 := Aside0.mk (own_kept HOd.out hg hrb.out); have HB3 := Aside0.mk (blk_kept HBd.out hg hnb.out); clear hv hg HGd HVd HOd HBd
          refine hK.out _ _ ?_
          clear hK K
          refine norm_ (a' := ?_) ?_ ?_
          rotate_left
          · show Act.put _ (some 30) _ = _
            simp only [Act.put, List.setIfInBounds_toArray, List.set_cons_zero, List.set_cons_succ, i64_w, i32_w]
            rfl
          refine done_ (by kernel_rfl) ?_
          have HK4 := Aside0.mk (And.intro ((gb_drew w3 none).cell (HG3.out.cell HWc.out.2.1 HN.out.2) (by simp)) ((gb_drew w3 none).cell (HG3.out.cell HWc.out.2.2 HN.out.2) (by simp)))
          have HG3d := Aside0.mk (World.grownBy.trans HG3.out (gb_drew w3 row))
          have HV3d := Aside0.mk (HF.out.keep _ _ none HV3.out (gb_drew w3 none) (by simp))
          have HO3d := Aside0.mk (own_kept HO3.out (gb_drew w3 none) (by simp))
          have HB3d := Aside0.mk (blk_kept HB3.out (gb_drew w3 none) (by simp))
          have hsz4 : Aside0 (w.heap.size + 1 ≤ (w3.drew.alloc (.cells #[.int .i64 x.1, .int .i64 x.2] 25)).heap.size) := ⟨by have := blk_lt' HB3d.out; simp at this ⊢; omega⟩
          clear HG3 HV3 HO3 HB3
          go_wp2_with fail
          refine start_ (n := 10) (S := fun w' => w'.cell? ad = some (.int .i64 x.1) ∧ w'.cell? ⟨ad.block, ad.off + 1, none⟩ = some (.int .i64 x.2)) (ds := [5]) #[false, false, false, false, false, false, false, false, false, false] (by kernel_rfl) rfl rfl ⟨HK4.out.1, HK4.out.2⟩ (fun hHeld => ?_)
          refine pure_ (i := 0) (N := some 39) (v := ?_) (a' := ?_) #[true, false, false, false, false, false, false, false, false, false] rfl rfl (by kernel_rfl) (fun _ _ _ h => h) (Or.inl ⟨by rfl, ?_⟩) ?_ ?_
          rotate_left
          · intro w'
            go_simp
            with_reducible rfl
          rotate_left
          · simp only [Act.put, List.setIfInBounds_toArray, List.set_cons_zero, List.set_cons_succ, i64_w, i32_w]
            rfl
          refine pure_ (i := 1) (N := some 40) (v := ?_) (a' := ?_) #[true, true, false, false, false, false, false, false, false, false] rfl rfl (by kernel_rfl) (fun _ _ _ h => h) (Or.inl ⟨by rfl, ?_⟩) ?_ ?_
          rotate_left
          · intro w'
            go_simp
            with_reducible rfl
          rotate_left
          · simp only [Act.put, List.setIfInBounds_toArray, List.set_cons_zero, List.set_cons_succ, i64_w, i32_w]
            rfl
          refine pure_ (i := 2) (N := some 41) (v := ?_) (a' := ?_) #[true, true, true, false, false, false, false, false, false, false] rfl rfl (by kernel_rfl) (fun _ _ _ h => h) (Or.inl ⟨by rfl, ?_⟩) ?_ ?_
          rotate_left
          · intro w'
            go_simp
            with_reducible rfl
          rotate_left
          · simp only [Act.put, List.setIfInBounds_toArray, List.set_cons_zero, List.set_cons_succ, i64_w, i32_w]
            rfl
          refine pure_ (i := 6) (N := some 45) (v := ?_) (a' := ?_) #[true, true, true, false, false, false, true, false, false, false] rfl rfl (by kernel_rfl) (fun _ _ _ h => h) (Or.inl ⟨by rfl, ?_⟩) ?_ ?_
          rotate_left
          · intro w'
            go_simp
            with_reducible rfl
          rotate_left
          · simp only [Act.put, List.setIfInBounds_toArray, List.set_cons_zero, List.set_cons_succ, i64_w, i32_w]
            rfl
          refine pure_ (i := 7) (N := some 46) (v := ?_) (a' := ?_) #[true, true, true, false, false, false, true, true, false, false] rfl rfl (by kernel_rfl) (fun _ _ _ h => h) (Or.inl ⟨by rfl, ?_⟩) ?_ ?_
          rotate_left
          · intro w'
            go_simp
            with_reducible rfl
          rotate_left
          · simp only [Act.put, List.setIfInBounds_toArray, List.set_cons_zero, List.set_cons_succ, i64_w, i32_w]
            rfl
          refine take_ (i := 3) (N := some 42) (v := ?_) (a' := ?_) #[true, true, true, true, false, false, true, true, false, false] rfl rfl (by kernel_rfl) (fun _ _ _ h => h) (Or.inl ⟨by rfl, ?_⟩) hHeld ?_ ?_
          rotate_left
          · rintro w' ⟨s0, s1⟩
            go_simp
            with_reducible rfl
          rotate_left
          · simp only [Act.put, List.setIfInBounds_toArray, List.set_cons_zero, List.set_cons_succ, i64_w, i32_w]
            rfl
          refine one_ (i := 4) (N := some 43) #[true, true, true, true, true, false, true, true, false, false] rfl rfl (by kernel_rfl) (by decide) (fun K hK => ?_)
          refine value_ (w1 := ?_) (v := ?_) (by rfl) rfl ?_ ?_
          rotate_left 2
          · go_simp
            constructor
            · rfl
            · rfl
          have HO4 := Aside0.mk (own_kept HO3d.out (World.grownBy_alloc _ (.cells #[.int .i64 x.1, .int .i64 x.2] 25) none) (by simp)); have HG4 := Aside0.mk (World.grownBy.trans HG3d.out (World.grownBy_alloc _ (.cells #[.int .i64 x.1, .int .i64 x.2] 25) row)); have HV4 := Aside0.mk (HF.out.keep _ _ none HV3d.out (World.grownBy_alloc _ (.cells #[.int .i64 x.1, .int .i64 x.2] 25) none) (by simp)); have HB4 := Aside0.mk (blk_kept HB3d.out (World.grownBy_alloc _ (.cells #[.int .i64 x.1, .int .i64 x.2] 25) none) (by simp)); have HL4 := Aside0.mk (rd_lit Et w3.drew 25 [x] (by simp)); clear HO3d HG3d HV3d HB3d
          refine hK.out _ _ ⟨(World.grownBy_alloc _ _ none).cell hHeld.1 (by simp), (World.grownBy_alloc _ _ none).cell hHeld.2 (by simp)⟩ (fun hHeld => ?_)
          clear hK K
          refine norm_ (a' := ?_) ?_ ?_
          rotate_left
          · show Act.put _ (some 43) _ = _
            simp only [Act.put, List.setIfInBounds_toArray, List.set_cons_zero, List.set_cons_succ, i64_w, i32_w]
            rfl
          refine last_ (i := 5) (N := some 44) #[true, true, true, true, true, true, true, true, false, false] rfl rfl (by kernel_rfl) (by decide) (fun K hK => ?_)
          refine app_step Et (by rfl) rfl (w.heap.size + 1) (.tmp 39) (.tmp 43) 22 25 (.agg #[.int .i64 0, .int .i64 0]) 16 rfl Try.underlying22 (by kernel_rfl) rfl (by decide) _ r os [x] _ 1 1 rfl rfl HL.out HO4.out HL4.out hsz4.out (by have := HS.out; omega) ?_
          intro v5 w5 ho hg hn
          have HO5 := Aside0.mk ho; have HG5 := Aside0.mk (gb_own HG4.out HO4.out hg (by omega)); have HV5 := Aside0.mk (HF.out.keep _ _ _ HV4.out hg (own_row HO4.out HR.out)); have HB5 := Aside0.mk (blk_kept HB4.out hg (own_not HO4.out)); clear ho hg hn HO4 HG4 HV4 HB4 HL4
          refine hK.out _ _ ?_
          clear hK K
          refine norm_ (a' := ?_) ?_ ?_
          rotate_left
          · show Act.put _ (some 44) _ = _
            simp only [Act.put, List.setIfInBounds_toArray, List.set_cons_zero, List.set_cons_succ, i64_w, i32_w]
            rfl
          refine pure_ (i := 8) (N := some 7) (v := ?_) (a' := ?_) #[true, true, true, true, true, true, true, true, true, false] rfl rfl (by kernel_rfl) (fun _ _ _ h => h) (Or.inl ⟨by rfl, ?_⟩) ?_ ?_
          rotate_left
          · intro w'
            go_simp
            with_reducible rfl
          rotate_left
          · simp only [Act.put, List.setIfInBounds_toArray, List.set_cons_zero, List.set_cons_succ, i64_w, i32_w]
            rfl
          refine pure_ (i := 9) (N := some 1) (v := ?_) (a' := ?_) #[true, true, true, true, true, true, true, true, true, true] rfl rfl (by kernel_rfl) (fun _ _ _ h => h) (Or.inl ⟨by rfl, ?_⟩) ?_ ?_
          rotate_left
          · intro w'
            go_simp
            with_reducible rfl
          rotate_left
          · simp only [Act.put, List.setIfInBounds_toArray, List.set_cons_zero, List.set_cons_succ, i64_w, i32_w]
            rfl
          refine done_ (by kernel_rfl) ?_
          go_wp2_with fail
          go_roundg (p + q - 1)
          case measure => have := HD.out; omega
          case rel =>
            have hS := HS.out
            have hD := HD.out
            have hC := HC.out
            refine ⟨_, _, p - 1, q, r + 1, c' - 1, d', xr, y :: yr, os ++ [x], rfl, rfl, ⟨by omega⟩, ⟨by omega⟩, ⟨by rw [List.length_append, HL.out]; rfl⟩, ⟨by omega⟩, HR2, HY', HN2, HNB', ⟨?_⟩, HO5, HG5, HV5, HB5⟩
            rw [← HE.out, mergeL, if_neg (by rw [HLT.out]; decide), List.append_assoc]; rfl
      · obtain rfl : q = 0 := by omega
        have hF : os ++ xs' ++ ys' = mergeL lt xs ys := by
          obtain rfl : ys' = [] := List.eq_nil_of_length_eq_zero HY'.out.1
          rw [← HE.out, mergeL_nil, List.append_nil]
        have HF2 := Aside0.mk hF
        have hlb := HL.out
        have HYo : Aside0 (∀ ad, B' = some ad → 0 < 0 → ad.block < w.heap.size + 1) := ⟨fun ad h1 h2 => Nat.lt_succ_of_lt (rd_lt HY'.out ad h1 h2)⟩
        have HXr := Aside0.mk (rd_at_zero HX'.out HG.out HNA'.out)
        have HYr := Aside0.mk (rd_at_zero HY'.out HG.out HNB'.out)
        have HSZ := Aside0.mk (blk_lt' HB.out)
        clear hF hlb
        go_wp2_with (first | (at_builtin; refine app Et (w.heap.size + 1) rfl (.tmp 47) (.tmp 48) 22 25 (.agg #[.int .i64 0, .int .i64 0]) 16 rfl Try.underlying22 (by kernel_rfl) rfl (by decide) _ r os xs' _ p _ rfl rfl HL.out HO.out HXr.out HSZ.out (by have := HS.out; omega) ?_; intro v5 w5 ho hg hn; have HO5 := Aside0.mk ho; have HG5 := Aside0.mk (gb_own HG.out HO.out hg (by omega)); have HV5 := Aside0.mk (HF.out.keep _ _ _ HV.out hg (own_row HO.out HR.out)); have HSZ5 := Aside0.mk (Nat.lt_of_lt_of_le HSZ.out hg.size); have HY5 := Aside0.mk (rd_own HYr.out HYo.out HO.out hg); clear ho hg hn HO HG HV HB HSZ HXr HYr) | (at_builtin; refine app Et (w.heap.size + 1) rfl (.tmp 49) (.tmp 50) 22 25 (.agg #[.int .i64 0, .int .i64 0]) 16 rfl Try.underlying22 (by kernel_rfl) rfl (by decide) _ (r + p) (os ++ xs') ys' _ 0 _ rfl rfl (by rw [List.length_append, HL.out, HX'.out.1]) HO5.out HY5.out HSZ5.out (by have := HS.out; omega) ?_; intro v6 w6 ho hg hn; have HO6 := Aside0.mk ho; have HG6 := Aside0.mk (gb_own HG5.out HO5.out hg (by omega)); have HV6 := Aside0.mk (HF.out.keep _ _ _ HV5.out hg (own_row HO5.out HR.out)); clear ho hg hn HO5 HG5 HV5 HSZ5 HY5))
        go_ret
        refine ⟨_, rfl, ?_, HG6.out, HV6.out⟩
        have h6 := own_mono HO6.out (Nat.le_succ _)
        rw [HF2.out, show r + p + 0 = n + m by have := HS.out; omega] at h6
        exact h6
    · obtain rfl : p = 0 := by omega
      have hF : os ++ xs' ++ ys' = mergeL lt xs ys := by
        obtain rfl : xs' = [] := List.eq_nil_of_length_eq_zero HX'.out.1
        rw [← HE.out, List.append_nil]
        simp [mergeL]
      have HF2 := Aside0.mk hF
      have hlb := HL.out
      have HYo : Aside0 (∀ ad, B' = some ad → 0 < q → ad.block < w.heap.size + 1) := ⟨fun ad h1 h2 => Nat.lt_succ_of_lt (rd_lt HY'.out ad h1 h2)⟩
      have HXr := Aside0.mk (rd_at_zero HX'.out HG.out HNA'.out)
      have HYr := Aside0.mk (rd_at_zero HY'.out HG.out HNB'.out)
      have HSZ := Aside0.mk (blk_lt' HB.out)
      clear hF hlb
      go_wp2_with (first | (at_builtin; refine app Et (w.heap.size + 1) rfl (.tmp 47) (.tmp 48) 22 25 (.agg #[.int .i64 0, .int .i64 0]) 16 rfl Try.underlying22 (by kernel_rfl) rfl (by decide) _ r os xs' _ 0 _ rfl rfl HL.out HO.out HXr.out HSZ.out (by have := HS.out; omega) ?_; intro v5 w5 ho hg hn; have HO5 := Aside0.mk ho; have HG5 := Aside0.mk (gb_own HG.out HO.out hg (by omega)); have HV5 := Aside0.mk (HF.out.keep _ _ _ HV.out hg (own_row HO.out HR.out)); have HSZ5 := Aside0.mk (Nat.lt_of_lt_of_le HSZ.out hg.size); have HY5 := Aside0.mk (rd_own HYr.out HYo.out HO.out hg); clear ho hg hn HO HG HV HB HSZ HXr HYr) | (at_builtin; refine app Et (w.heap.size + 1) rfl (.tmp 49) (.tmp 50) 22 25 (.agg #[.int .i64 0, .int .i64 0]) 16 rfl Try.underlying22 (by kernel_rfl) rfl (by decide) _ (r + 0) (os ++ xs') ys' _ q _ rfl rfl (by rw [List.length_append, HL.out, HX'.out.1]) HO5.out HY5.out HSZ5.out (by have := HS.out; omega) ?_; intro v6 w6 ho hg hn; have HO6 := Aside0.mk ho; have HG6 := Aside0.mk (gb_own HG5.out HO5.out hg (by omega)); have HV6 := Aside0.mk (HF.out.keep _ _ _ HV5.out hg (own_row HO5.out HR.out)); clear ho hg hn HO5 HG5 HV5 HSZ5 HY5))
      go_ret
      refine ⟨_, rfl, ?_, HG6.out, HV6.out⟩
      have h6 := own_mono HO6.out (Nat.le_succ _)
      rw [HF2.out, show r + 0 + q = n + m by have := HS.out; omega] at h6
      exact h6

set_option maxHeartbeats 8000000 in
set_option maxRecDepth 100000 in
theorem sortT_small {f : FuncId} {fn : Func} {caps : Array Value} {lt : Int × Int → Int × Int → Bool} {row : Option Nat} {Inv : World → Prop} (hf : Try.prog.funcs[f]? = some fn) (hnm : (fn.name == "runtime.NumGoroutine") = false) (hbd : fn.body.isSome = true)
    (F : Order Try.prog f caps (fun x : Int × Int => .agg #[.int .i64 x.1, .int .i64 x.2]) lt row Inv)
    (w : World) (A : Option Addr) (n c : Nat) (xs : List (Int × Int)) (hx : Rd Et w A n xs) (hI : Inv w) (h2 : n < 2) :
    Calls Try.prog 20 #[.agg #[.func (.func f) #[] caps], .slice A n c] w (OwnT w row Inv (sortL lt xs) n) := by
  have HX := Aside0.mk hx
  have HF := Aside0.mk F
  have HI := Aside0.mk hI
  clear hx F hI
  have hb1 : decide (n < 2) = true := decide_eq_true h2
  have hb2 : decide ((n : Int) < 2) = true := decide_eq_true (by omega)
  have HE := Aside0.mk (show sortL lt xs = xs by rw [sortL, dif_pos (by rw [HX.out.1]; exact h2)])
  have HX1 := Aside0.mk (rd_alloc HX.out (.cells #[.func (.func f) #[] caps] 47))
  have HO0 : Aside0 ((w.alloc (.cells #[.func (.func f) #[] caps] 47)).ownsRow w.heap.size 25 2 (.slice none 0 0) 0 (flat Et [])) := ⟨own_nil _ _ _ _⟩
  have HI1 := Aside0.mk (HF.out.keep _ _ none HI.out (World.grownBy_alloc w (.cells #[.func (.func f) #[] caps] 47) none) (by simp))
  go_enter Try.func20, Try.ntmps20
  go_wp2_with (at_builtin; refine app Et w.heap.size rfl (.const (.slice none 0 0)) (.tmp 9) 22 25 (.agg #[.int .i64 0, .int .i64 0]) 16 rfl Try.underlying22 (by kernel_rfl) rfl (by decide) _ 0 [] xs _ n _ rfl rfl rfl HO0.out HX1.out (by simp) (by omega) ?_; intro v5 w5 ho hg hn; have HO5 := Aside0.mk ho; have HG5 := Aside0.mk (World.grownBy.trans (World.grownBy_alloc w (.cells #[.func (.func f) #[] caps] 47) none) hg); have HV5 := Aside0.mk (HF.out.keep _ _ _ HI1.out hg (fun g _ => by show (none : Option Nat) ≠ some g; simp)); clear ho hg hn)
  go_ret
  refine ⟨_, rfl, ?_, gb_any HG5.out row, HV5.out⟩
  have h5 := HO5.out
  rw [List.nil_append, Nat.zero_add] at h5
  rw [HE.out]
  exact h5

set_option maxHeartbeats 8000000 in
set_option maxRecDepth 100000 in
theorem sortT_calls {f : FuncId} {fn : Func} {caps : Array Value} {lt : Int × Int → Int × Int → Bool} {row : Option Nat} {Inv : World → Prop} (hf : Try.prog.funcs[f]? = some fn) (hnm : (fn.name == "runtime.NumGoroutine") = false) (hbd : fn.body.isSome = true)
    (F : Order Try.prog f caps (fun x : Int × Int => .agg #[.int .i64 x.1, .int .i64 x.2]) lt row Inv) : ∀ (k : Nat)
    (w : World) (A : Option Addr) (n c : Nat) (xs : List (Int × Int)) (hx : Rd Et w A n xs) (hc : n ≤ c) (hs : n * 16 ≤ 140737488355328)
    (hI : Inv w) (hrow : ∀ g, row = some g → g < w.heap.size) (hA : ∀ ad, A = some ad → 0 < n → some ad.block ≠ row), n ≤ k →
    Calls Try.prog 20 #[.agg #[.func (.func f) #[] caps], .slice A n c] w (OwnT w row Inv (sortL lt xs) n) := by
  intro k
  induction k with
  | zero => exact fun w A n c xs hx hc hs hI hrow hA hk => sortT_small hf hnm hbd F w A n c xs hx hI (by omega)
  | succ k ih =>
    intro w A n c xs hx hc hs hI hrow hA hk
    have HX := Aside0.mk hx
    have HF := Aside0.mk F
    have HI := Aside0.mk hI
    have HR := Aside0.mk hrow
    have HNA := Aside0.mk hA
    have IH := Aside0.mk ih
    clear hx F hI hrow hA ih
    have HBX := Aside0.mk (heap_alloc_new w (.cells #[.func (.func f) #[] caps] 47))
    by_cases h2 : n < 2
    · exact sortT_small hf hnm hbd HF.out w A n c xs HX.out HI.out h2
    · have hb1 : decide (n < 2) = false := decide_eq_false h2
      have hb2 : decide ((n : Int) < 2) = false := decide_eq_false (by omega)
      obtain ⟨h, hh⟩ : ∃ h, h = n / 2 := ⟨_, rfl⟩
      have hh1 : 1 ≤ h := by omega
      have hh2 : h < n := by omega
      have hdiv : (n : Int) / 2 = (h : Int) := by omega
      have HE := Aside0.mk (show sortL lt xs = mergeL lt (sortL lt (xs.take h)) (sortL lt (xs.drop h)) by rw [sortL, dif_neg (by rw [HX.out.1]; exact h2), HX.out.1, ← hh])
      clear hh
      obtain ⟨i3, hi3, hz0, hz1, hz2⟩ := info_parts (show (Try.prog.info? 25).map (fun i => (i.zero, i.size, i.bytes)) = some (some (.agg #[.int .i64 0, .int .i64 0]), 2, 16) by kernel_rfl)
      have hcut := cut_to (P := Try.prog) 22 25 .i64 Try.underlying22 hi3 A n c (h : Int) (by omega) (by omega) hc
      rw [Int.toNat_natCast] at hcut
      obtain ⟨A2, hcut2, hrd, hbl⟩ := cut_at (P := Try.prog) Et 22 25 .i64 Try.underlying22 hi3 hz1 A n c h (by omega)
      have hnb : Aside0 (some w.heap.size ≠ row) := ⟨fun e => absurd (HR.out _ e.symm) (Nat.lt_irrefl _)⟩
      have HGd := Aside0.mk (gb_any (World.grownBy.trans (World.grownBy_alloc w (.cells #[.func (.func f) #[] caps] 47) none) (gb_drew _ none)) row)
      have HVd := Aside0.mk (HF.out.keep _ _ none (HF.out.keep _ _ none HI.out (World.grownBy_alloc w (.cells #[.func (.func f) #[] caps] 47) none) (by simp)) (gb_drew _ none) (by simp))
      have HBd := Aside0.mk (blk_kept HBX.out (gb_drew _ none) (by simp))
      have HXd := Aside0.mk ((rd_alloc HX.out (.cells #[.func (.func f) #[] caps] 47)).gb (gb_drew _ none))
      have HTd := Aside0.mk (HXd.out.take_ h (by omega))
      have HDd := Aside0.mk (hrd _ _ hc HXd.out)
      have HND : Aside0 (∀ ad, A2 = some ad → 0 < n - h → some ad.block ≠ row) := ⟨fun z hz _ => by obtain ⟨a0, h1, h2⟩ := hbl z hz; rw [h2]; exact HNA.out a0 h1 (by omega)⟩
      have HL1 := Aside0.mk (show (sortL lt (xs.take h)).length = h by rw [sortL_len lt _ _ (Nat.le_refl _), HTd.out.1])
      have HL2 := Aside0.mk (show (sortL lt (xs.drop h)).length = n - h by rw [sortL_len lt _ _ (Nat.le_refl _), HDd.out.1])
      have HC1 := Aside0.mk (IH.out _ A h c (xs.take h) HTd.out (by omega) (by omega) HVd.out (fun g hg => Nat.lt_of_lt_of_le (HR.out g hg) HGd.out.size) (fun ad h1 h2 => HNA.out ad h1 (by omega)) (by omega))
      clear hi3 hz0 hz1 hz2 hrd hbl HI HBX
      go_enter Try.func20, Try.ntmps20
      go_wp2_with fail
      refine start_ (n := 13) (S := fun w' => w'.cell? ⟨w.heap.size, 0, none⟩ = some (.func (.func f) #[] caps)) (ds := []) #[false, false, false, false, false, false, false, false, false, false, false, false, false] (by kernel_rfl) rfl rfl (cell_at HBd.out rfl) (fun hHeld => ?_)
      refine pure_ (i := 2) (N := some 16) (v := ?_) (a' := ?_) #[false, false, true, false, false, false, false, false, false, false, false, false, false] rfl rfl (by kernel_rfl) (fun _ _ _ h => h) (Or.inl ⟨by rfl, ?_⟩) ?_ ?_
      rotate_left
      · intro w'
        go_simp
        with_reducible rfl
      rotate_left
      · simp only [Act.put, List.setIfInBounds_toArray, List.set_cons_zero, List.set_cons_succ, i64_w, i32_w]
        rfl
      refine pure_ (i := 3) (N := some 17) (v := ?_) (a' := ?_) #[false, false, true, true, false, false, false, false, false, false, false, false, false] rfl rfl (by kernel_rfl) (fun _ _ _ h => h) (Or.inl ⟨by rfl, ?_⟩) ?_ ?_
      rotate_left
      · intro w'
        go_simp
        with_reducible rfl
      rotate_left
      · simp only [Act.put, List.setIfInBounds_toArray, List.set_cons_zero, List.set_cons_succ, i64_w, i32_w]
        rfl
      refine pure_ (i := 4) (N := some 18) (v := ?_) (a' := ?_) #[false, false, true, true, true, false, false, false, false, false, false, false, false] rfl rfl (by kernel_rfl) (fun _ _ _ h => h) (Or.inl ⟨by rfl, ?_⟩) ?_ ?_
      rotate_left
      · intro w'
        go_simp
        with_reducible rfl
      rotate_left
      · simp only [Act.put, List.setIfInBounds_toArray, List.set_cons_zero, List.set_cons_succ, i64_w, i32_w]
        rfl
      refine pure_ (i := 7) (N := some 21) (v := ?_) (a' := ?_) #[false, false, true, true, true, false, false, true, false, false, false, false, false] rfl rfl (by kernel_rfl) (fun _ _ _ h => h) (Or.inl ⟨by rfl, ?_⟩) ?_ ?_
      rotate_left
      · intro w'
        go_simp
        with_reducible rfl
      rotate_left
      · simp only [Act.put, List.setIfInBounds_toArray, List.set_cons_zero, List.set_cons_succ, i64_w, i32_w]
        rfl
      refine pure_ (i := 8) (N := some 22) (v := ?_) (a' := ?_) #[false, false, true, true, true, false, false, true, true, false, false, false, false] rfl rfl (by kernel_rfl) (fun _ _ _ h => h) (Or.inl ⟨by rfl, ?_⟩) ?_ ?_
      rotate_left
      · intro w'
        go_simp
        with_reducible rfl
      rotate_left
      · simp only [Act.put, List.setIfInBounds_toArray, List.set_cons_zero, List.set_cons_succ, i64_w, i32_w]
        rfl
      refine pure_ (i := 9) (N := some 23) (v := ?_) (a' := ?_) #[false, false, true, true, true, false, false, true, true, true, false, false, false] rfl rfl (by kernel_rfl) (fun _ _ _ h => h) (Or.inl ⟨by rfl, ?_⟩) ?_ ?_
      rotate_left
      · intro w'
        go_simp
        with_reducible rfl
      rotate_left
      · simp only [Act.put, List.setIfInBounds_toArray, List.set_cons_zero, List.set_cons_succ, i64_w, i32_w]
        rfl
      refine take_ (i := 0) (N := some 14) (v := ?_) (a' := ?_) #[true, false, true, true, true, false, false, true, true, true, false, false, false] rfl rfl (by kernel_rfl) (fun _ _ _ h => h) (Or.inl ⟨by rfl, ?_⟩) hHeld ?_ ?_
      rotate_left
      · intro w' s0
        go_simp
        with_reducible rfl
      rotate_left
      · simp only [Act.put, List.setIfInBounds_toArray, List.set_cons_zero, List.set_cons_succ, i64_w, i32_w]
        rfl
      refine take_ (i := 1) (N := some 15) (v := ?_) (a' := ?_) #[true, true, true, true, true, false, false, true, true, true, false, false, false] rfl rfl (by kernel_rfl) (fun _ _ _ h => h) (Or.inl ⟨by rfl, ?_⟩) hHeld ?_ ?_
      rotate_left
      · intro w' s0
        go_simp
        with_reducible rfl
      rotate_left
      · simp only [Act.put, List.setIfInBounds_toArray, List.set_cons_zero, List.set_cons_succ, i64_w, i32_w]
        rfl
      refine take_ (i := 6) (N := some 20) (v := ?_) (a' := ?_) #[true, true, true, true, true, false, true, true, true, true, false, false, false] rfl rfl (by kernel_rfl) (fun _ _ _ h => h) (Or.inl ⟨by rfl, ?_⟩) hHeld ?_ ?_
      rotate_left
      · intro w' s0
        go_simp
        with_reducible rfl
      rotate_left
      · simp only [Act.put, List.setIfInBounds_toArray, List.set_cons_zero, List.set_cons_succ, i64_w, i32_w]
        rfl
      refine one_ (i := 5) (N := some 19) #[true, true, true, true, true, true, true, true, true, true, false, false, false] rfl rfl (by kernel_rfl) (by decide) (fun K hK => ?_)
      refine goes_ Try.func20 (by kernel_rfl) rfl #[.agg #[.func (.func f) #[] caps], .slice A h c] (by rfl) rfl rfl (by simp only [List.map_toArray, List.map_cons, List.map_nil]; try rfl) ?_
      with_reducible refine (HC1.out).mono ?_
      rintro e w3 ⟨v3, rfl, ho, hg, hv⟩
      obtain ⟨A3, c3, rfl, hr, hc3, ha⟩ := own_open HL1.out ho
      refine ⟨_, rfl, ?_⟩
      have HG3 := Aside0.mk (World.grownBy.trans HGd.out hg); have HV3 := Aside0.mk hv; have HB3 := Aside0.mk (blk_kept HBd.out hg hnb.out); have HR3 := Aside0.mk hr; have HC3 := Aside0.mk hc3; have HA3 := Aside0.mk ha; have HD3 := Aside0.mk (rd_at_zero HDd.out hg HND.out); have HC2 := Aside0.mk (IH.out w3 A2 (n - h) (c - h) (xs.drop h) HD3.out (by omega) (by omega) HV3.out (fun g hg => Nat.lt_of_lt_of_le (HR.out g hg) HG3.out.size) HND.out (by omega)); clear ho hg hv hr hc3 ha HGd HVd HBd HDd HC1
      refine hK.out _ _ (cell_at HB3.out rfl) (fun hHeld => ?_)
      clear hK K
      refine norm_ (a' := ?_) ?_ ?_
      rotate_left
      · show Act.put _ (some 19) _ = _
        simp only [Act.put, List.setIfInBounds_toArray, List.set_cons_zero, List.set_cons_succ, i64_w, i32_w]
        rfl
      refine one_ (i := 10) (N := some 24) #[true, true, true, true, true, true, true, true, true, true, true, false, false] rfl rfl (by kernel_rfl) (by decide) (fun K hK => ?_)
      refine goes_ Try.func20 (by kernel_rfl) rfl #[.agg #[.func (.func f) #[] caps], .slice A2 (n - h) (c - h)] (by rfl) rfl rfl (by simp only [List.map_toArray, List.map_cons, List.map_nil]; try rfl) ?_
      with_reducible refine (HC2.out).mono ?_
      rintro e w4 ⟨v4, rfl, ho, hg, hv⟩
      obtain ⟨A4, c4, rfl, hr, hc4, ha⟩ := own_open HL2.out ho
      refine ⟨_, rfl, ?_⟩
      have HN3 : Aside0 (∀ ad, A3 = some ad → 0 < h → some ad.block ≠ row) := ⟨fun ad h1 _ e => absurd (HA3.out ad h1) (by have := HR.out _ e.symm; simp; omega)⟩; have HN4 : Aside0 (∀ ad, A4 = some ad → 0 < n - h → some ad.block ≠ row) := ⟨fun ad h1 _ e => absurd (ha ad h1) (by have h2 := HR.out _ e.symm; have h3 := HG3.out.size; omega)⟩
      have HG4 := Aside0.mk (World.grownBy.trans HG3.out hg); have HV4 := Aside0.mk hv; have HB4 := Aside0.mk (blk_kept HB3.out hg hnb.out); have HR4 := Aside0.mk hr; have HC4 := Aside0.mk hc4; have HR34 := Aside0.mk (rd_at_zero HR3.out hg HN3.out); have HCm := Aside0.mk (mergeT_calls hf hnm hbd HF.out w4 A3 A4 h (n - h) c3 c4 _ _ HR34.out HR4.out HC3.out hc4 (by omega) hv (fun g hg => Nat.lt_of_lt_of_le (HR.out g hg) HG4.out.size) HN3.out HN4.out); clear ho hg hv hr hc4 ha HG3 HV3 HB3 HR3 HC2
      refine hK.out _ _ (cell_at HB4.out rfl) (fun hHeld => ?_)
      clear hK K
      refine norm_ (a' := ?_) ?_ ?_
      rotate_left
      · show Act.put _ (some 24) _ = _
        simp only [Act.put, List.setIfInBounds_toArray, List.set_cons_zero, List.set_cons_succ, i64_w, i32_w]
        rfl
      refine one_ (i := 11) (N := some 25) #[true, true, true, true, true, true, true, true, true, true, true, true, false] rfl rfl (by kernel_rfl) (by decide) (fun K hK => ?_)
      refine goes_ Try.func33 (by kernel_rfl) rfl #[.agg #[.func (.func f) #[] caps], .slice A3 h c3, .slice A4 (n - h) c4] (by rfl) rfl rfl (by simp only [List.map_toArray, List.map_cons, List.map_nil]; try rfl) ?_
      with_reducible refine (HCm.out).mono ?_
      rintro e w5 ⟨v5, rfl, ho, hg, hv⟩
      refine ⟨_, rfl, ?_⟩
      have HO5 := Aside0.mk ho; have HG5 := Aside0.mk (World.grownBy.trans HG4.out hg); have HV5 := Aside0.mk hv; have HB5 := Aside0.mk (blk_kept HB4.out hg hnb.out); clear ho hg hv HB4 HV4 HCm
      refine hK.out _ _ (cell_at HB5.out rfl) (fun hHeld => ?_)
      clear hK K
      refine norm_ (a' := ?_) ?_ ?_
      rotate_left
      · show Act.put _ (some 25) _ = _
        simp only [Act.put, List.setIfInBounds_toArray, List.set_cons_zero, List.set_cons_succ, i64_w, i32_w]
        rfl
      refine pure_ (i := 12) (N := some 4) (v := ?_) (a' := ?_) #[true, true, true, true, true, true, true, true, true, true, true, true, true] rfl rfl (by kernel_rfl) (fun _ _ _ h => h) (Or.inl ⟨by rfl, ?_⟩) ?_ ?_
      rotate_left
      · intro w'
        go_simp
        with_reducible rfl
      rotate_left
      · simp only [Act.put, List.setIfInBounds_toArray, List.set_cons_zero, List.set_cons_succ, i64_w, i32_w]
        rfl
      refine done_ (by kernel_rfl) ?_
      go_wp2
      go_ret
      refine ⟨_, rfl, ?_, HG5.out, HV5.out⟩
      have h5 := own_mono HO5.out HG4.out.size
      rw [← HE.out, show h + (n - h) = n by omega] at h5
      exact h5

set_option maxHeartbeats 8000000 in
set_option maxRecDepth 100000 in
theorem SortT_calls {f : FuncId} {fn : Func} {caps : Array Value} {lt : Int × Int → Int × Int → Bool} {row : Option Nat} {Inv : World → Prop} (hf : Try.prog.funcs[f]? = some fn) (hnm : (fn.name == "runtime.NumGoroutine") = false) (hbd : fn.body.isSome = true)
    (F : Order Try.prog f caps (fun x : Int × Int => .agg #[.int .i64 x.1, .int .i64 x.2]) lt row Inv)
    (w : World) (A : Option Addr) (n c : Nat) (xs : List (Int × Int)) (hx : Rd Et w A n xs) (hc : n ≤ c) (hs : n * 16 ≤ 140737488355328)
    (hI : Inv w) (hrow : ∀ g, row = some g → g < w.heap.size) (hA : ∀ ad, A = some ad → 0 < n → some ad.block ≠ row) :
    Calls Try.prog 7 #[.slice A n c, .func (.func f) #[] caps] w (OwnT w row Inv (sortL lt xs) n) := by
  have H := Aside0.mk (sortT_calls hf hnm hbd F n w A n c xs hx hc hs hI hrow hA (Nat.le_refl _))
  clear hx hI hrow hA
  go_enter Try.func7, Try.ntmps7
  go_wp2_with fail
  refine (H.out).mono ?_
  rintro e w1 ⟨v, rfl, ho, hg, hv⟩
  have HO := Aside0.mk ho
  have HG := Aside0.mk hg
  have HV := Aside0.mk hv
  clear ho hg hv
  go_wp2
  go_ret
  exact ⟨_, rfl, HO.out, HG.out, HV.out⟩
end Go.Proofs.Ytodibpddlibneaa.S
