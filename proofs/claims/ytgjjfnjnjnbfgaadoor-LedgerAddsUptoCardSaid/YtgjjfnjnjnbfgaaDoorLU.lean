/- LedgerAdds, walked. Conditions: each theorem's own. -/
import Derived.Test.YtgjjfnjnjnbfgaaDoorLT
namespace Go.Proofs.YtgjjfnjnjnbfgaaDoor.L
open Go.RowKit Go.Proofs.YtgjjfnjnjnbfgaaDoorW.PrintWords Go.Proofs.YtgjjfnjnjnbfgaaDoorW.PrintLast Go.Proofs.YtgjjfnjnjnbfgaaDoor.H Go.Proofs.YtgjjfnjnjnbfgaaDoor.Q Go.Proofs.YtgjjfnjnjnbfgaaDoor.GLG
set_option linter.unusedVariables false
set_option linter.unusedSimpArgs false
set_option maxHeartbeats 8000000 in
set_option maxRecDepth 100000 in
theorem Adds_law (w : World) (hL : LaidW w) (A : Option Addr) (na ca : Nat) (la : List S65) (hra : Kd.C k65 w A na la) (hca : na ≤ ca) (hsa : na * 80 ≤ 140737488351232) (B : Option Addr) (nb cb : Nat) (lb : List S65) (hrb : Kd.C k65 w B nb lb) (hcb : nb ≤ cb) (hsb : nb * 80 ≤ 140737488351232)
    (D : Option Addr) (cd : Nat) (acc : List Int) (hx : ReadsInt w .i64 D acc.length acc) (hd : acc.length ≤ cd) (hs2 : acc.length * 8 ≤ 140737488351232) (hu : ∀ x ∈ acc, (Lit.int .i64 x).wf = true) (cut : Int) (hwc : (Lit.int .i64 cut).wf = true) (now : Int) (hwn : (Lit.int .i64 now).wf = true) (hk : na + nb + acc.length ≤ 1048576) :
    Calls Tryd.prog 7 #[.slice A na ca, .slice B nb cb, .slice D acc.length cd, .int .i64 cut, .int .i64 now] w fun e w' => e = .returned (.bool true) ∧ Below w.heap.size w w' := by
  obtain ⟨xa, hxa, hja⟩ := jobs_rd hra
  obtain ⟨xb, hxb, hjb⟩ := jobs_rd hrb
  have HL := Aside0.mk hL
  have HRA := Aside0.mk hra
  have HRB := Aside0.mk hrb
  have HXA := Aside0.mk hxa
  have HXB := Aside0.mk hxb
  have HJA := Aside0.mk hja
  have HJB := Aside0.mk hjb
  have HD0 := Aside0.mk (rd_ints hx)
  clear hL hra hrb hsa hsb hx hs2 hu hxa hxb hja hjb hwc hwn
  go_enter Tryd.func7, Tryd.ntmps7
  go_wp2_with fail
  refine (shown_calls w HL.out).mono ?_
  rintro e w2 ⟨rfl, hb⟩
  have HB2 := Aside0.mk hb
  have HXA2 := Aside0.mk (HXA.out.below hb)
  have HXB2 := Aside0.mk (HXB.out.below hb)
  have HN0 := Aside0.mk (own_nilj w2 w2.heap.size)
  clear hb
  go_wp2_with (first | (at_builtin; refine app Ej w2.heap.size rfl (.const (.slice none 0 0)) (.tmp 22) 60 65 (.agg #[.int .i64 0, .int .i64 0, .int .i64 0, .int .i64 0, .int .i64 0, .int .i64 0, .int .i64 0, .slice none 0 0]) 80 rfl Tryd.underlying60 (by kernel_rfl) rfl (by decide) _ 0 [] xa _ na _ rfl rfl rfl HN0.out HXA2.out (Nat.le_refl _) (by omega) ?_; intro v3 w3 ho hg hn; have HG3 : Aside0 (w2.grownBy w3 none) := ⟨hg⟩; rw [Nat.zero_add, List.nil_append] at ho; have HO3 := Aside0.mk ho; clear ho hg hn) | (at_builtin; go_loud (refine app Ej w2.heap.size rfl (.tmp 23) (.tmp 24) 60 65 (.agg #[.int .i64 0, .int .i64 0, .int .i64 0, .int .i64 0, .int .i64 0, .int .i64 0, .int .i64 0, .slice none 0 0]) 80 rfl Tryd.underlying60 (by kernel_rfl) rfl (by decide) _ na xa xb _ nb _ rfl rfl HXA2.out.1 HO3.out (HXB2.out.gb HG3.out) HG3.out.size (by omega) ?_); intro v4 w4 ho hg hn; have HG4 := Aside0.mk (gb_own HG3.out HO3.out hg (Nat.le_refl _)); have HB4 := Aside0.mk (below_step HB2.out (below_of_gb HG4.out)); obtain ⟨N, hN⟩ : ∃ N, N = na + nb := ⟨_, rfl⟩; rw [← hN] at ho; have hN2 : N ≤ 1048576 := (by omega); obtain ⟨Aj, cj, rfl, hcj, hrj⟩ := own_jobs (ls := la ++ lb) (show (xa ++ xb).length = N from (by have h1 := HXA2.out.1; have h2 := HXB2.out.1; rw [List.length_append]; omega)) ho ((HJA.out.below HB4.out).append (HJB.out.below HB4.out)); have HRJ := Aside0.mk hrj; clear hN ho hg hn hrj HO3 HG3 HN0 HXA2 HXB2))
  obtain ⟨ra, hEa⟩ : ∃ r, rawV la acc now = r := ⟨_, rfl⟩
  obtain ⟨rb, hEb⟩ : ∃ r, rawV lb acc now = r := ⟨_, rfl⟩
  have hE1 : rawV (la ++ lb) acc now = wrap64 (ra + rb) := by rw [raw_append, hEa, hEb]
  have HD4 := Aside0.mk (ints_of_rd (HD0.out.below HB4.out))
  have HRA4 := Aside0.mk (Kd.C_below HRA.out HB4.out)
  have HRB4 := Aside0.mk (Kd.C_below HRB.out HB4.out)
  have HEa := Aside0.mk hEa
  have HEb := Aside0.mk hEb
  have hne : (wrap64 (ra + rb) != wrap64 (ra + rb)) = false := bne_self_eq_false _
  have hac : ((acc.length : Nat) : Int) ≤ 1048576 := by omega
  refine (rawC w4 Aj N cj (la ++ lb) D acc.length cd acc now _ HRJ.out hcj HD4.out hd hE1).mono ?_
  rintro e w5 ⟨rfl, hb⟩
  have HB5 := Aside0.mk hb
  clear hb hEa hEb hE1
  go_wp2_with fail
  refine (rawC w5 A na ca la D acc.length cd acc now ra (Kd.C_below HRA4.out HB5.out) hca (Kd.C_below HD4.out HB5.out) hd HEa.out).mono ?_
  rintro e w6 ⟨rfl, hb⟩
  have HB6 := Aside0.mk (below_step HB5.out hb)
  clear hb HB5
  go_wp2_with fail
  refine (rawC w6 B nb cb lb D acc.length cd acc now rb (Kd.C_below HRB4.out HB6.out) hcb (Kd.C_below HD4.out HB6.out) hd HEb.out).mono ?_
  rintro e w7 ⟨rfl, hb⟩
  have HB7 := Aside0.mk (below_step HB6.out hb)
  clear hb HB6 HRA4 HRB4
  go_wp2_with fail
  obtain ⟨kc, hkc, hkl⟩ : ∃ kc : Nat, amongV cut ((acc.length : Int) + 1) = (kc : Int) ∧ kc ≤ acc.length := by
    have h := among_bd cut ((acc.length : Int) + 1) (by omega)
    exact ⟨(amongV cut ((acc.length : Int) + 1)).toNat, by omega, by omega⟩
  refine (among_calls w7 cut ((acc.length : Int) + 1) (by omega)).mono ?_
  rintro e w8 ⟨rfl, rfl⟩
  rw [hkc]
  clear hkc hne
  obtain ⟨i3, hi3, hz0, hz1, hz2⟩ := info_parts (show (Tryd.prog.info? 3).map (fun i => (i.zero, i.size, i.bytes)) = some (some (.int .i64 0), 1, 8) by kernel_rfl)
  have hcut := cut_to (P := Tryd.prog) 26 3 .i64 Tryd.underlying26 hi3 D acc.length cd (kc : Int) (by omega) (by omega) hd
  rw [Int.toNat_natCast] at hcut
  obtain ⟨D2, hcut2, hD2, -⟩ := cut_at (P := Tryd.prog) (Ei .i64) 26 3 .i64 Tryd.underlying26 hi3 hz1 D acc.length cd kc hkl
  have HR7 := Aside0.mk ((HD0.out.below HB4.out).below HB7.out)
  have HO7 := Aside0.mk (hD2 w7 acc hd HR7.out)
  have HP7 := Aside0.mk (ints_of_rd (HR7.out.take_ kc hkl))
  have HRJ7 := Aside0.mk (Kd.C_below HRJ.out HB7.out)
  have HB8 := Aside0.mk (below_step HB4.out HB7.out)
  have HD7 := Aside0.mk (Kd.C_below HD4.out HB7.out)
  obtain ⟨m, hm⟩ : ∃ m, m = acc.length - kc := ⟨_, rfl⟩
  rw [← hm] at hcut2 HO7
  have hml : (acc.drop kc).length = m := by rw [List.length_drop, hm]
  have HML := Aside0.mk hml
  have hm2 : m ≤ 1048576 := by omega
  clear hi3 hz0 hz1 hz2 hD2 HRJ HB7 HB4 HR7 HD4 HRA HRB HXA HXB hml hm
  go_wp2_with fail
  go_loopg [14, 52] m (fun k v14 v52 wr => ∃ (j : Nat) (vo : Value), vo = v14 ∧ v52 = .int .i64 j ∧ Aside0 (j + k = m) ∧ j ≤ m ∧ Aside0 (wr.ownsRow w7.heap.size 3 1 vo (others acc kc j).length (nums .i64 (others acc kc j))) ∧ Aside0 (Below w7.heap.size w7 wr))
  case atStart => exact ⟨0, _, rfl, rfl, ⟨by omega⟩, by omega, ⟨by exact own_nil _ _ _ _⟩, ⟨Below.refl _ _⟩⟩
  case round =>
    obtain ⟨j, vo, rfl, rfl, HD, hj, HO, HB⟩ := hrel
    have hol := others_len acc kc j (by rw [HML.out]; exact hj)
    cases gk with
    | zero =>
      obtain rfl : j = m := by have := HD.out; omega
      obtain ⟨w9, rfl⟩ : ∃ w9, w9 = wr := ⟨wr, rfl⟩
      have hb1 : decide ((j : Int) < j) = false := decide_eq_false (by omega)
      have ho9 : w9.ownsRow w7.heap.size 3 (Ei .i64).sz vo (others acc kc j).length (flat (Ei .i64) (others acc kc j)) := by rw [flat_nums]; exact HO.out
      obtain ⟨A9, c9, rfl, hr9, hc9, -⟩ := own_open (E := Ei .i64) rfl ho9
      have HR9 := Aside0.mk (ints_of_rd hr9)
      obtain ⟨r1, hE1⟩ : ∃ r, rawV (la ++ lb) (acc.take kc) now = r := ⟨_, rfl⟩
      obtain ⟨r2, hE2⟩ : ∃ r, rawV (la ++ lb) (others acc kc j) now = r := ⟨_, rfl⟩
      have hE0 : rawV (la ++ lb) acc now = wrap64 (r1 + r2) := by
        have h := raw_cut acc kc now (la ++ lb)
        rw [HML.out, hE1, hE2] at h
        exact h
      have HE1 := Aside0.mk hE1
      have HE2 := Aside0.mk hE2
      have HE0 := Aside0.mk hE0
      have hne : (wrap64 (r1 + r2) != wrap64 (r1 + r2)) = false := bne_self_eq_false _
      have HB9 := Aside0.mk (below_step HB8.out HB.out)
      have HD9 := Aside0.mk (Kd.C_below HD7.out HB.out)
      have HP9 := Aside0.mk (Kd.C_below HP7.out HB.out)
      have HRJ9 := Aside0.mk (Kd.C_below HRJ7.out HB.out)
      clear hE1 hE2 hE0 ho9 hr9 HO HB HD HB8 HD7 HP7 HRJ7 HO7 hcut hcut2 hol
      go_wp2_with fail
      refine (rawC w9 Aj N cj (la ++ lb) D acc.length cd acc now _ HRJ9.out hcj HD9.out hd HE0.out).mono ?_
      rintro e wa ⟨rfl, hb⟩
      have HBa := Aside0.mk hb
      clear hb
      go_wp2_with fail
      refine (rawC wa Aj N cj (la ++ lb) D kc cd (acc.take kc) now _ (Kd.C_below HRJ9.out HBa.out) hcj (Kd.C_below HP9.out HBa.out) (by omega) HE1.out).mono ?_
      rintro e wb ⟨rfl, hb⟩
      have HBb := Aside0.mk (below_step HBa.out hb)
      clear hb HBa
      go_wp2_with fail
      refine (rawC wb Aj N cj (la ++ lb) A9 (others acc kc j).length c9 (others acc kc j) now _ (Kd.C_below HRJ9.out HBb.out) hcj (Kd.C_below HR9.out HBb.out) hc9 HE2.out).mono ?_
      rintro e wc ⟨rfl, hb⟩
      have HBc := Aside0.mk (below_step HBb.out hb)
      have HBt := Aside0.mk (below_step HB9.out HBc.out)
      have HDc := Aside0.mk (Kd.C_below HD9.out HBc.out)
      have HRc := Aside0.mk (Kd.C_below HRJ9.out HBc.out)
      clear hb HBb HBc HD9 HP9 HRJ9 HR9 HE0 HE1 HE2 HB9
      go_wp2_with fail
      go_loopg [17, 81] N (fun k v17 v81 wr => ∃ i : Nat, v17 = .int .i64 (runN acc (la ++ lb) i) ∧ v81 = .int .i64 i ∧ Aside0 (i + k = N) ∧ i ≤ N ∧ Aside0 (Below wc.heap.size wc wr))
      case atStart => exact ⟨0, rfl, rfl, ⟨by omega⟩, by omega, ⟨Below.refl _ _⟩⟩
      case round =>
        obtain ⟨i, rfl, rfl, HDi, hi, HBi⟩ := hrel
        cases gk with
        | zero =>
          obtain rfl : i = N := by have := HDi.out; omega
          obtain ⟨wd, rfl⟩ : ∃ wd, wd = wr := ⟨wr, rfl⟩
          have hb1 : decide ((i : Int) < i) = false := decide_eq_false (by omega)
          have hN3 : (la ++ lb).length = i := HRc.out.1
          have hE3 : rawV (la ++ lb) acc (wrap64 (now + 1)) = wrap64 (rawV (la ++ lb) acc now + runN acc (la ++ lb) i) := by rw [raw_next, hN3]
          obtain ⟨r3, hr3⟩ : ∃ r, rawV (la ++ lb) acc now = r := ⟨_, rfl⟩
          obtain ⟨r4, hr4⟩ : ∃ r, runN acc (la ++ lb) i = r := ⟨_, rfl⟩
          rw [hr3, hr4] at hE3
          rw [hr4]
          have HE3 := Aside0.mk hE3
          have HE4 := Aside0.mk hr3
          have hee : (wrap64 (r3 + r4) == wrap64 (r3 + r4)) = true := beq_self_eq_true _
          clear hE3 hr3 hr4 hN3
          go_wp2_with fail
          refine (rawC wd Aj i cj (la ++ lb) D acc.length cd acc (wrap64 (now + 1)) _ (Kd.C_below HRc.out HBi.out) (by omega) (Kd.C_below HDc.out HBi.out) hd HE3.out).mono ?_
          rintro e we ⟨rfl, hb⟩
          have HBe := Aside0.mk (below_step HBi.out hb)
          clear hb
          go_wp2_with fail
          refine (rawC we Aj i cj (la ++ lb) D acc.length cd acc now _ (Kd.C_below HRc.out HBe.out) (by omega) (Kd.C_below HDc.out HBe.out) hd HE4.out).mono ?_
          rintro e wf ⟨rfl, hb⟩
          have HBf := Aside0.mk (below_step HBt.out (below_step HBe.out hb))
          clear hb
          go_wp2_with fail
          go_ret
          exact ⟨rfl, HBf.out⟩
        | succ d =>
          have hlt : i < N := by have := HDi.out; omega
          have hlt1 : decide ((i : Int) < N) = true := decide_eq_true (by omega)
          have HRi := Aside0.mk (Kd.C_below HRc.out HBi.out)
          have HDi2 := Aside0.mk (Kd.C_below HDc.out HBi.out)
          obtain ⟨ad, A7, c7, rfl, hx0, hx1, hx2, hx3, hx4, hx5, hx6, hx7, -, -⟩ := at_T65 HRi.out (i : Int) (by omega) (by omega)
          obtain ⟨q, hq⟩ : ∃ q, q = rd_T65 (la ++ lb) (i : Int) := ⟨_, rfl⟩
          rw [← hq] at hx0 hx1 hx2 hx3 hx4 hx5 hx6 hx7
          rw [Int.toNat_natCast] at hx0 hx1 hx2 hx3 hx4 hx5 hx6 hx7
          have hrn : runN acc (la ++ lb) (i + 1) = runS acc (runN acc (la ++ lb) i) q := by rw [hq]; rfl
          have HRn := Aside0.mk hrn
          clear hq hrn HRi
          have HGi := Aside0.mk (World.grownBy_alloc wr (.cells #[.int .i64 q.f0, .int .i64 q.f1, .int .i64 q.f2, .int .i64 q.f3, .int .i64 q.f4, .int .i64 q.f5, .int .i64 q.f6, .slice A7 q.f7.length c7] 65) none)
          have HPi := Aside0.mk (heap_alloc_new wr (.cells #[.int .i64 q.f0, .int .i64 q.f1, .int .i64 q.f2, .int .i64 q.f3, .int .i64 q.f4, .int .i64 q.f5, .int .i64 q.f6, .slice A7 q.f7.length c7] 65))
          have HBj := Aside0.mk (below_step HBi.out (below_of_gb HGi.out))
          have HDj := Aside0.mk (Kd.C_below HDi2.out (below_of_gb HGi.out))
          by_cases h2 : q.f4 = 2
          · have hb2 : (q.f4 == 2) = true := by simp [h2]
            by_cases h3 : q.f0 ∈ acc
            · unfold runS at HRn
              rw [if_pos ⟨h2, h3⟩] at HRn
              have hdq := decide_eq_true h3
              have HC := Aside0.mk (hasC (wr.alloc (.cells #[.int .i64 q.f0, .int .i64 q.f1, .int .i64 q.f2, .int .i64 q.f3, .int .i64 q.f4, .int .i64 q.f5, .int .i64 q.f6, .slice A7 q.f7.length c7] 65)) D acc.length cd acc q.f0 true HDj.out hd hdq)
              clear h2 h3 hdq
              go_wp2_with fail
              refine (HC.out).mono ?_
              rintro e w9 ⟨rfl, hb⟩
              have HB9 := Aside0.mk (below_step HBj.out hb)
              have HP9 := Aside0.mk (blk_kept HPi.out (gb_of_below hb none) (by simp))
              have hq1 : w9.cell? ⟨wr.heap.size, 1, none⟩ = some (.int .i64 q.f1) := cell_of HP9.out rfl
              clear hb HC HPi HGi hx0 hx1 hx2 hx3 hx4 hx5 hx6 hx7
              go_wp2_with fail
              go_roundg d
              case measure => omega
              case rel => exact ⟨i + 1, by rw [HRn.out], by go_num, ⟨by have := HDi.out; omega⟩, by omega, HB9⟩
            · unfold runS at HRn
              rw [if_neg (fun h => h3 h.2)] at HRn
              have hdq := decide_eq_false h3
              have HC := Aside0.mk (hasC (wr.alloc (.cells #[.int .i64 q.f0, .int .i64 q.f1, .int .i64 q.f2, .int .i64 q.f3, .int .i64 q.f4, .int .i64 q.f5, .int .i64 q.f6, .slice A7 q.f7.length c7] 65)) D acc.length cd acc q.f0 false HDj.out hd hdq)
              clear h2 h3 hdq
              go_wp2_with fail
              refine (HC.out).mono ?_
              rintro e w9 ⟨rfl, hb⟩
              have HB9 := Aside0.mk (below_step HBj.out hb)
              clear hb HC HPi HGi hx0 hx1 hx2 hx3 hx4 hx5 hx6 hx7
              go_wp2_with fail
              go_roundg d
              case measure => omega
              case rel => exact ⟨i + 1, by rw [HRn.out], by go_num, ⟨by have := HDi.out; omega⟩, by omega, HB9⟩
          · have hb2 : (q.f4 == 2) = false := by simpa using h2
            unfold runS at HRn
            rw [if_neg (fun h => h2 h.1)] at HRn
            clear h2
            go_wp2_with fail
            go_roundg d
            case measure => omega
            case rel => exact ⟨i + 1, by rw [HRn.out], by go_num, ⟨by have := HDi.out; omega⟩, by omega, HBj⟩
    | succ d =>
      have hlt : j < m := by have := HD.out; omega
      have hlt1 : decide ((j : Int) < m) = true := decide_eq_true (by omega)
      obtain ⟨ad, rfl, hc1⟩ := ((HO7.out.below HB.out)).int j hlt
      have HP1 := Aside0.mk (Kd.C_below HP7.out HB.out)
      have hf : others acc kc (j + 1) = others acc kc j ++ (if rd (acc.drop kc) (j : Int) ∈ acc.take kc then [] else [rd (acc.drop kc) (j : Int)]) := rfl
      by_cases hq : rd (acc.drop kc) (j : Int) ∈ acc.take kc
      · rw [if_pos hq, List.append_nil] at hf
        have HF := Aside0.mk hf
        have hdq := decide_eq_true hq
        have HC := Aside0.mk (hasC wr D kc cd (acc.take kc) _ true HP1.out (by omega) hdq)
        clear hf hq hdq
        go_wp2_with fail
        refine (HC.out).mono ?_
        rintro e w9 ⟨rfl, hb⟩
        have HB9 := Aside0.mk (below_step HB.out hb)
        have HO9 := Aside0.mk (own_kept HO.out (gb_of_below hb none) (by simp))
        clear hb
        go_wp2_with fail
        go_roundg d
        case measure => omega
        case rel => exact ⟨j + 1, _, rfl, by go_num, ⟨by have := HD.out; omega⟩, by omega, ⟨by rw [HF.out]; exact HO9.out⟩, HB9⟩
      · rw [if_neg hq] at hf
        have HF := Aside0.mk hf
        have hdq := decide_eq_false hq
        have HC := Aside0.mk (hasC wr D kc cd (acc.take kc) _ false HP1.out (by omega) hdq)
        clear hf hq hdq
        go_wp2_with fail
        refine (HC.out).mono ?_
        rintro e w9 ⟨rfl, hb⟩
        have HB9 := Aside0.mk (below_step HB.out hb)
        have HO9 := Aside0.mk (own_kept HO.out (gb_of_below hb none) (by simp))
        clear hb
        go_wp2_with (at_builtin; refine print_append_num (w0 := w7) w7.heap.size rfl (.tmp 60) (.tmp 62) 26 3 .i64 8 rfl Tryd.underlying26 (by kernel_rfl) (by decide) _ (others acc kc j) (rd (acc.drop kc) (j : Int)) rfl rfl HO9.out HB9.out HB9.out.size (by omega) ?_; intro v1 w1 ho hb hg hat; have HO1 := Aside0.mk ho; have HB1 := Aside0.mk hb; clear ho hb hg hat HO HB)
        go_roundg d
        case measure => omega
        case rel => exact ⟨j + 1, _, rfl, by go_num, ⟨by have := HD.out; omega⟩, by omega, ⟨by rw [HF.out]; exact HO1.out⟩, HB1⟩
end Go.Proofs.YtgjjfnjnjnbfgaaDoor.L
