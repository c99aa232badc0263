import Derived.Test.YtgpadcokcdpmnaaDoorMd3
set_option linter.unusedVariables false
set_option linter.unusedSimpArgs false
section
namespace Go.Proofs.YtgpadcokcdpmnaaDoor.PFeedDiffs
open Go.RowKit Go.Proofs.YtgpadcokcdpmnaaDoorW.PrintWords Go.Proofs.YtgpadcokcdpmnaaDoorW.PrintLast Go.Proofs.YtgpadcokcdpmnaaDoorW.PrintMore
attribute [local go_sem] max2_int min2_int max_two min_two max_three min_three max_four min_four
set_option linter.unusedVariables false
set_option linter.unusedSimpArgs false
attribute [local go_sem high] eqA37
def ciceronelaw46_items.l0 : Nat → List (S46) → List (S42) → Int → Option ((List (S42)))
  | 0, _, _, _ => none
  | k + 1, x0, x3, x4 => if x4 < (x0.length : Int) then (if 0 ≤ x4 then (if x3.length < 1759218604441 then (ciceronelaw46_items.l0 k x0 (x3 ++ [(⟨(rd_T46 x0 x4).f0, (rd_T46 x0 x4).f1, (rd_T46 x0 x4).f2, (rd_T46 x0 x4).f4, (rd_T46 x0 x4).f3, x4, ((Int.tmod x4 2) == 0)⟩ : S42)]) (wrap64 (x4 + 1))) else (none)) else (none)) else (some x3)
def ciceronelaw46_items.f (k : Nat) (l0 : List (S46)) : Option ((List (S42))) := ciceronelaw46_items.l0 k l0 ([] : List (S42)) 0
theorem ciceronelaw46_items.mono_l : ∀ k, (∀ y0 y1 y2, LeO (ciceronelaw46_items.l0 k y0 y1 y2) (ciceronelaw46_items.l0 (k + 1) y0 y1 y2))
  | 0 => fun _ _ _ r h => by simp [ciceronelaw46_items.l0] at h
  | k + 1 => by
    have ih0 := ciceronelaw46_items.mono_l k
    · intro y0 y1 y2
      unfold ciceronelaw46_items.l0
      repeat' first
      | (with_reducible exact ih0 _ _ _)
      | (with_reducible exact LeO.refl _)
      | (with_reducible exact LeO.none _)
      | (with_reducible refine LeO.ite ?_ ?_)
      | (with_reducible refine LeO.bind ?_ (fun _ => ?_))
      | exact ih0 _ _ _
      | exact LeO.none _
      | refine LeO.ite ?_ ?_
      | refine LeO.bind ?_ (fun _ => ?_)
theorem ciceronelaw46_items.mono : ∀ a0 k, LeO (ciceronelaw46_items.f k a0) (ciceronelaw46_items.f (k + 1) a0) := by
  intro a0 k
  have ih0 := ciceronelaw46_items.mono_l k
  unfold ciceronelaw46_items.f
  repeat' first
      | (with_reducible exact ih0 _ _ _)
      | (with_reducible exact LeO.refl _)
      | (with_reducible exact LeO.none _)
      | (with_reducible refine LeO.ite ?_ ?_)
      | (with_reducible refine LeO.bind ?_ (fun _ => ?_))
      | exact ih0 _ _ _
      | exact LeO.none _
      | refine LeO.ite ?_ ?_
      | refine LeO.bind ?_ (fun _ => ?_)
def ciceronelaw46_items.T5 : Bool × List (List Nat × List Nat) := (true, [([], []), ([], []), ([], []), ([1, 2], [1, 2]), ([3], [3]), ([4], [4]), ([], []), ([], []), ([6, 7], [6, 7]), ([8], [8]), ([9], [9]), ([], []), ([], []), ([11, 12], [11, 12]), ([13], [13]), ([14], [14]), ([], []), ([], []), ([16, 17], [16, 17]), ([18], [18]), ([19], [19]), ([], []), ([], []), ([21, 22], [21, 22]), ([23], [23]), ([24], [24]), ([], []), ([], []), ([27], [27]), ([28], [28]), ([5, 10, 15, 20, 25, 26, 29], [5, 10, 15, 20, 25, 26, 29]), ([30], [30]), ([0, 31], [0, 31]), ([32, 32, 0, 1, 2, 3, 4, 5, 6, 7, 8, 9, 10, 11, 12, 13, 14, 15, 16, 17, 18, 19, 20, 21, 22, 23, 24, 25, 26, 27, 28, 29, 30, 31, 32], [0, 32])])
def ciceronelaw46_items.B5 : List Nat := [0, 0, 0, 6, 14, 30, 0, 0, 192, 448, 960, 0, 0, 6144, 14336, 30720, 0, 0, 196608, 458752, 983040, 0, 0, 6291456, 14680064, 31457280, 0, 0, 134217728, 402653184, 1073741822, 2147483646, 4294967295, 8589934591]
theorem ciceronelaw46_items.tab5 : rtab .any (opsOf Tryd.f12 5) = ciceronelaw46_items.T5 := by kernel_rfl
theorem ciceronelaw46_items.bits5 : waitsOk ciceronelaw46_items.T5.2 ciceronelaw46_items.B5 = true := by kernel_rfl
set_option maxHeartbeats 8000000 in
set_option maxRecDepth 100000 in
theorem ciceronelaw46_items.calls (k : Nat) (A0 : Option Addr) (c0 : Nat) (l0 : List (S46)) (r : List (S42)) (w : World) (hr0 : Kd.C k46 w A0 l0.length l0) (hc0 : l0.length ≤ c0) (h : ciceronelaw46_items.f k l0 = some r) :
    Calls Tryd.prog 12 #[.slice A0 l0.length c0] w fun e w' => ∃ v0_ : Value, e = .returned (v0_) ∧ Kd.R k42 42 w' w.heap.size (fun _ => True) v0_ r ∧ Below w.heap.size w w' := by
  have hu42 := Tryd.underlying42
  have HR0 := Aside0.mk hr0
  have HC0 := Aside0.mk hc0
  clear hr0 hc0
  have HB := Aside0.mk (Below.refl w.heap.size w)
  have H : (ciceronelaw46_items.l0 k l0 ([] : List (S42)) 0) = some r := h
  clear h
  have H' := Aside0.mk H
  clear H
  go_enter Tryd.func12, Tryd.ntmps12
  go_wp2
  go_loopg [3, 4] k (fun kq v3 v4 w' => ∃ (x3_1 : List (S42)) (x4_1 : Int), v4 = .int .i64 x4_1 ∧ Aside0 (ciceronelaw46_items.l0 kq l0 x3_1 x4_1 = some r) ∧ Aside0 (kq ≤ k) ∧ Aside0 (Kd.R k42 42 w' w.heap.size (fun _ => True) v3 x3_1) ∧ Aside0 (Below w.heap.size w w'))
  case atStart => exact ⟨(([] : List (S42))), (0), (by first | rfl | (simp; done) | (simp [*]; done)), H', ⟨Nat.le_refl _⟩, ⟨by first | exact Kd.R_nil _ _ _ _ _ | exact Kd.N_nil _ _ _ _ _ | exact Kd.V_nil _ _ _ _ _ | exact Kd.Q_nil _ _ _ _ _ | exact Kd.S_nil _ _ _ _ _⟩, ⟨by repeat (first | (with_reducible first | exact HB.out | apply below_alloc | apply pw_below_drewN | apply below_drew1) | exact HB.out)⟩⟩
  case round =>
    clear H'
    try clear c1
    obtain ⟨x3_1, x4_1, rfl, HA, HK1, HO_3, HB⟩ := hrel
    cases gk with
    | zero => exact absurd HA.out (by simp [ciceronelaw46_items.l0])
    | succ k1 =>
      have H := HA.out
      clear HA
      simp only [ciceronelaw46_items.l0] at H
      by_cases c2 : x4_1 < (l0.length : Int)
      · rw [if_pos c2] at H
        have c2b0 : decide (x4_1 < (l0.length : Int)) = true := decide_eq_true c2
        clear c2
        by_cases c3 : 0 ≤ x4_1
        · rw [if_pos c3] at H
          have c3b0 : decide (0 ≤ x4_1) = true := decide_eq_true c3
          clear c3
          by_cases c4 : x3_1.length < 1759218604441
          · rw [if_pos c4] at H
            have LMc4 := Aside0.mk c4
            clear c4
            obtain ⟨y277, hy277⟩ : ∃ y_ : List (S42), y_ = (x3_1 ++ [(⟨(rd_T46 l0 x4_1).f0, (rd_T46 l0 x4_1).f1, (rd_T46 l0 x4_1).f2, (rd_T46 l0 x4_1).f4, (rd_T46 l0 x4_1).f3, x4_1, ((Int.tmod x4_1 2) == 0)⟩ : S42)]) := ⟨_, rfl⟩
            replace H : (ciceronelaw46_items.l0 k1 l0 y277 (wrap64 (x4_1 + 1))) = some r := by first | (rw [hy277]; with_reducible exact H) | (have H2_ := (Option.bind_some _ _).symm.trans H; rw [hy277]; with_reducible exact H2_) | (have H2_ := (Option.bind_some _ _).symm.trans H; with_reducible exact H2_) | with_reducible exact H | (rw [hy277]; exact H) | exact H
            have Ny277 := Aside0.mk hy277
            clear hy277
            have H' := Aside0.mk H
            clear H
            try go_wp2
            have n0_ := Aside0.mk (Kd.R_drew HO_3.out)
            have n1_ := Aside0.mk (below_drew1 HB.out)
            clear HO_3
            clear HB
            have HO_3 := n0_
            have HB := n1_
            clear n0_ n1_
            have p272 : 0 ≤ (x4_1 : Int) := of_decide_eq_true (by first | (with_reducible assumption) | assumption)
            have q272 : x4_1 < (l0.length : Int) := of_decide_eq_true (by first | (with_reducible assumption) | assumption)
            obtain ⟨ad272, e272, hx272_0, hx272_1, hx272_2, hx272_3, hx272_4⟩ := at_T46 HR0.out x4_1 p272 q272
            have hw272_4 := hx272_4
            have hw272_3 := hx272_3
            have hw272_2 := hx272_2
            have hw272_1 := hx272_1
            have hw272_0 := hx272_0
            cases e272
            replace hx272_0 := (HB.out.cell (World.block_lt_of_cell? w _ hx272_0)).trans hx272_0
            replace hx272_1 := (HB.out.cell (World.block_lt_of_cell? w _ hx272_1)).trans hx272_1
            replace hx272_2 := (HB.out.cell (World.block_lt_of_cell? w _ hx272_2)).trans hx272_2
            replace hx272_3 := (HB.out.cell (World.block_lt_of_cell? w _ hx272_3)).trans hx272_3
            replace hx272_4 := (HB.out.cell (World.block_lt_of_cell? w _ hx272_4)).trans hx272_4
            replace p272 := eq_true p272
            replace q272 := eq_true q272
            have p273 : 0 ≤ (x4_1 : Int) := of_decide_eq_true (by first | (with_reducible assumption) | assumption)
            have q273 : x4_1 < (l0.length : Int) := of_decide_eq_true (by first | (with_reducible assumption) | assumption)
            obtain ⟨ad273, e273, hx273_0, hx273_1, hx273_2, hx273_3, hx273_4⟩ := at_T46 HR0.out x4_1 p273 q273
            have hw273_4 := hx273_4
            have hw273_3 := hx273_3
            have hw273_2 := hx273_2
            have hw273_1 := hx273_1
            have hw273_0 := hx273_0
            obtain rfl : ad272 = ad273 := (by injection e273)
            replace hx273_0 := (HB.out.cell (World.block_lt_of_cell? w _ hx273_0)).trans hx273_0
            replace hx273_1 := (HB.out.cell (World.block_lt_of_cell? w _ hx273_1)).trans hx273_1
            replace hx273_2 := (HB.out.cell (World.block_lt_of_cell? w _ hx273_2)).trans hx273_2
            replace hx273_3 := (HB.out.cell (World.block_lt_of_cell? w _ hx273_3)).trans hx273_3
            replace hx273_4 := (HB.out.cell (World.block_lt_of_cell? w _ hx273_4)).trans hx273_4
            replace p273 := eq_true p273
            replace q273 := eq_true q273
            have p274 : 0 ≤ (x4_1 : Int) := of_decide_eq_true (by first | (with_reducible assumption) | assumption)
            have q274 : x4_1 < (l0.length : Int) := of_decide_eq_true (by first | (with_reducible assumption) | assumption)
            obtain ⟨ad274, e274, hx274_0, hx274_1, hx274_2, hx274_3, hx274_4⟩ := at_T46 HR0.out x4_1 p274 q274
            have hw274_4 := hx274_4
            have hw274_3 := hx274_3
            have hw274_2 := hx274_2
            have hw274_1 := hx274_1
            have hw274_0 := hx274_0
            obtain rfl : ad272 = ad274 := (by injection e274)
            replace hx274_0 := (HB.out.cell (World.block_lt_of_cell? w _ hx274_0)).trans hx274_0
            replace hx274_1 := (HB.out.cell (World.block_lt_of_cell? w _ hx274_1)).trans hx274_1
            replace hx274_2 := (HB.out.cell (World.block_lt_of_cell? w _ hx274_2)).trans hx274_2
            replace hx274_3 := (HB.out.cell (World.block_lt_of_cell? w _ hx274_3)).trans hx274_3
            replace hx274_4 := (HB.out.cell (World.block_lt_of_cell? w _ hx274_4)).trans hx274_4
            replace p274 := eq_true p274
            replace q274 := eq_true q274
            have p275 : 0 ≤ (x4_1 : Int) := of_decide_eq_true (by first | (with_reducible assumption) | assumption)
            have q275 : x4_1 < (l0.length : Int) := of_decide_eq_true (by first | (with_reducible assumption) | assumption)
            obtain ⟨ad275, e275, hx275_0, hx275_1, hx275_2, hx275_3, hx275_4⟩ := at_T46 HR0.out x4_1 p275 q275
            have hw275_4 := hx275_4
            have hw275_3 := hx275_3
            have hw275_2 := hx275_2
            have hw275_1 := hx275_1
            have hw275_0 := hx275_0
            obtain rfl : ad272 = ad275 := (by injection e275)
            replace hx275_0 := (HB.out.cell (World.block_lt_of_cell? w _ hx275_0)).trans hx275_0
            replace hx275_1 := (HB.out.cell (World.block_lt_of_cell? w _ hx275_1)).trans hx275_1
            replace hx275_2 := (HB.out.cell (World.block_lt_of_cell? w _ hx275_2)).trans hx275_2
            replace hx275_3 := (HB.out.cell (World.block_lt_of_cell? w _ hx275_3)).trans hx275_3
            replace hx275_4 := (HB.out.cell (World.block_lt_of_cell? w _ hx275_4)).trans hx275_4
            replace p275 := eq_true p275
            replace q275 := eq_true q275
            have p276 : 0 ≤ (x4_1 : Int) := of_decide_eq_true (by first | (with_reducible assumption) | assumption)
            have q276 : x4_1 < (l0.length : Int) := of_decide_eq_true (by first | (with_reducible assumption) | assumption)
            obtain ⟨ad276, e276, hx276_0, hx276_1, hx276_2, hx276_3, hx276_4⟩ := at_T46 HR0.out x4_1 p276 q276
            have hw276_4 := hx276_4
            have hw276_3 := hx276_3
            have hw276_2 := hx276_2
            have hw276_1 := hx276_1
            have hw276_0 := hx276_0
            obtain rfl : ad272 = ad276 := (by injection e276)
            replace hx276_0 := (HB.out.cell (World.block_lt_of_cell? w _ hx276_0)).trans hx276_0
            replace hx276_1 := (HB.out.cell (World.block_lt_of_cell? w _ hx276_1)).trans hx276_1
            replace hx276_2 := (HB.out.cell (World.block_lt_of_cell? w _ hx276_2)).trans hx276_2
            replace hx276_3 := (HB.out.cell (World.block_lt_of_cell? w _ hx276_3)).trans hx276_3
            replace hx276_4 := (HB.out.cell (World.block_lt_of_cell? w _ hx276_4)).trans hx276_4
            replace p276 := eq_true p276
            replace q276 := eq_true q276
            refine start_ (n := 34) (S := fun w' => w'.cell? (ad272.add ((x4_1).toNat * 5)) = some (.string ((rd_T46 l0 x4_1).f0)) ∧ w'.cell? ⟨(ad272.add ((x4_1).toNat * 5)).block, (ad272.add ((x4_1).toNat * 5)).off + 1, none⟩ = some (.string ((rd_T46 l0 x4_1).f1)) ∧ w'.cell? ⟨(ad272.add ((x4_1).toNat * 5)).block, (ad272.add ((x4_1).toNat * 5)).off + 2, none⟩ = some (.string ((rd_T46 l0 x4_1).f2)) ∧ w'.cell? ⟨(ad272.add ((x4_1).toNat * 5)).block, (ad272.add ((x4_1).toNat * 5)).off + 3, none⟩ = some (.int .i64 ((rd_T46 l0 x4_1).f3)) ∧ w'.cell? ⟨(ad272.add ((x4_1).toNat * 5)).block, (ad272.add ((x4_1).toNat * 5)).off + 4, none⟩ = some (.int .i64 ((rd_T46 l0 x4_1).f4)) ∧ w'.cell? (ad272.add ((x4_1).toNat * 5)) = some (.string ((rd_T46 l0 x4_1).f0)) ∧ w'.cell? ⟨(ad272.add ((x4_1).toNat * 5)).block, (ad272.add ((x4_1).toNat * 5)).off + 1, none⟩ = some (.string ((rd_T46 l0 x4_1).f1)) ∧ w'.cell? ⟨(ad272.add ((x4_1).toNat * 5)).block, (ad272.add ((x4_1).toNat * 5)).off + 2, none⟩ = some (.string ((rd_T46 l0 x4_1).f2)) ∧ w'.cell? ⟨(ad272.add ((x4_1).toNat * 5)).block, (ad272.add ((x4_1).toNat * 5)).off + 3, none⟩ = some (.int .i64 ((rd_T46 l0 x4_1).f3)) ∧ w'.cell? ⟨(ad272.add ((x4_1).toNat * 5)).block, (ad272.add ((x4_1).toNat * 5)).off + 4, none⟩ = some (.int .i64 ((rd_T46 l0 x4_1).f4)) ∧ w'.cell? (ad272.add ((x4_1).toNat * 5)) = some (.string ((rd_T46 l0 x4_1).f0)) ∧ w'.cell? ⟨(ad272.add ((x4_1).toNat * 5)).block, (ad272.add ((x4_1).toNat * 5)).off + 1, none⟩ = some (.string ((rd_T46 l0 x4_1).f1)) ∧ w'.cell? ⟨(ad272.add ((x4_1).toNat * 5)).block, (ad272.add ((x4_1).toNat * 5)).off + 2, none⟩ = some (.string ((rd_T46 l0 x4_1).f2)) ∧ w'.cell? ⟨(ad272.add ((x4_1).toNat * 5)).block, (ad272.add ((x4_1).toNat * 5)).off + 3, none⟩ = some (.int .i64 ((rd_T46 l0 x4_1).f3)) ∧ w'.cell? ⟨(ad272.add ((x4_1).toNat * 5)).block, (ad272.add ((x4_1).toNat * 5)).off + 4, none⟩ = some (.int .i64 ((rd_T46 l0 x4_1).f4)) ∧ w'.cell? (ad272.add ((x4_1).toNat * 5)) = some (.string ((rd_T46 l0 x4_1).f0)) ∧ w'.cell? ⟨(ad272.add ((x4_1).toNat * 5)).block, (ad272.add ((x4_1).toNat * 5)).off + 1, none⟩ = some (.string ((rd_T46 l0 x4_1).f1)) ∧ w'.cell? ⟨(ad272.add ((x4_1).toNat * 5)).block, (ad272.add ((x4_1).toNat * 5)).off + 2, none⟩ = some (.string ((rd_T46 l0 x4_1).f2)) ∧ w'.cell? ⟨(ad272.add ((x4_1).toNat * 5)).block, (ad272.add ((x4_1).toNat * 5)).off + 3, none⟩ = some (.int .i64 ((rd_T46 l0 x4_1).f3)) ∧ w'.cell? ⟨(ad272.add ((x4_1).toNat * 5)).block, (ad272.add ((x4_1).toNat * 5)).off + 4, none⟩ = some (.int .i64 ((rd_T46 l0 x4_1).f4)) ∧ w'.cell? (ad272.add ((x4_1).toNat * 5)) = some (.string ((rd_T46 l0 x4_1).f0)) ∧ w'.cell? ⟨(ad272.add ((x4_1).toNat * 5)).block, (ad272.add ((x4_1).toNat * 5)).off + 1, none⟩ = some (.string ((rd_T46 l0 x4_1).f1)) ∧ w'.cell? ⟨(ad272.add ((x4_1).toNat * 5)).block, (ad272.add ((x4_1).toNat * 5)).off + 2, none⟩ = some (.string ((rd_T46 l0 x4_1).f2)) ∧ w'.cell? ⟨(ad272.add ((x4_1).toNat * 5)).block, (ad272.add ((x4_1).toNat * 5)).off + 3, none⟩ = some (.int .i64 ((rd_T46 l0 x4_1).f3)) ∧ w'.cell? ⟨(ad272.add ((x4_1).toNat * 5)).block, (ad272.add ((x4_1).toNat * 5)).off + 4, none⟩ = some (.int .i64 ((rd_T46 l0 x4_1).f4))) (ds := []) #[false, false, false, false, false, false, false, false, false, false, false, false, false, false, false, false, false, false, false, false, false, false, false, false, false, false, false, false, false, false, false, false, false, false] (by kernel_rfl) rfl rfl ⟨((HB.out.cell (World.block_lt_of_cell? w _ hw272_0)).trans hw272_0), ((HB.out.cell (World.block_lt_of_cell? w _ hw272_1)).trans hw272_1), ((HB.out.cell (World.block_lt_of_cell? w _ hw272_2)).trans hw272_2), ((HB.out.cell (World.block_lt_of_cell? w _ hw272_3)).trans hw272_3), ((HB.out.cell (World.block_lt_of_cell? w _ hw272_4)).trans hw272_4), ((HB.out.cell (World.block_lt_of_cell? w _ hw273_0)).trans hw273_0), ((HB.out.cell (World.block_lt_of_cell? w _ hw273_1)).trans hw273_1), ((HB.out.cell (World.block_lt_of_cell? w _ hw273_2)).trans hw273_2), ((HB.out.cell (World.block_lt_of_cell? w _ hw273_3)).trans hw273_3), ((HB.out.cell (World.block_lt_of_cell? w _ hw273_4)).trans hw273_4), ((HB.out.cell (World.block_lt_of_cell? w _ hw274_0)).trans hw274_0), ((HB.out.cell (World.block_lt_of_cell? w _ hw274_1)).trans hw274_1), ((HB.out.cell (World.block_lt_of_cell? w _ hw274_2)).trans hw274_2), ((HB.out.cell (World.block_lt_of_cell? w _ hw274_3)).trans hw274_3), ((HB.out.cell (World.block_lt_of_cell? w _ hw274_4)).trans hw274_4), ((HB.out.cell (World.block_lt_of_cell? w _ hw275_0)).trans hw275_0), ((HB.out.cell (World.block_lt_of_cell? w _ hw275_1)).trans hw275_1), ((HB.out.cell (World.block_lt_of_cell? w _ hw275_2)).trans hw275_2), ((HB.out.cell (World.block_lt_of_cell? w _ hw275_3)).trans hw275_3), ((HB.out.cell (World.block_lt_of_cell? w _ hw275_4)).trans hw275_4), ((HB.out.cell (World.block_lt_of_cell? w _ hw276_0)).trans hw276_0), ((HB.out.cell (World.block_lt_of_cell? w _ hw276_1)).trans hw276_1), ((HB.out.cell (World.block_lt_of_cell? w _ hw276_2)).trans hw276_2), ((HB.out.cell (World.block_lt_of_cell? w _ hw276_3)).trans hw276_3), ((HB.out.cell (World.block_lt_of_cell? w _ hw276_4)).trans hw276_4)⟩ (fun hHeld => ?_); refine with_tabW ciceronelaw46_items.tab5 ciceronelaw46_items.bits5 (fun HT_ HW_ => ?_)
            generalize wr.drew = w5 at HO_3 HB hx272_0 hx272_1 hx272_2 hx272_3 hx272_4 hx273_0 hx273_1 hx273_2 hx273_3 hx273_4 hx274_0 hx274_1 hx274_2 hx274_3 hx274_4 hx275_0 hx275_1 hx275_2 hx275_3 hx275_4 hx276_0 hx276_1 hx276_2 hx276_3 hx276_4 hHeld ⊢
            refine pure_ (i := 0) (N := some 11) (v := ?_) (a' := ?_) #[true, false, false, false, false, false, false, false, false, false, false, false, false, false, false, false, false, false, false, false, false, false, false, false, false, false, false, false, false, false, false, false, false, false] rfl rfl (any_of HT_.out (by kernel_rfl)) (fun _ _ _ h => h) (Or.inl ⟨by rfl, ?_⟩) ?_ ?_
            rotate_left
            · intro w'
              go_simp
              with_reducible rfl
            rotate_left
            · simp only [Act.put, List.setIfInBounds_toArray, List.set_cons_zero, List.set_cons_succ, i64_w, i32_w]
              rfl
            refine pure_ (i := 1) (N := some 12) (v := ?_) (a' := ?_) #[true, true, false, false, false, false, false, false, false, false, false, false, false, false, false, false, false, false, false, false, false, false, false, false, false, false, false, false, false, false, false, false, false, false] rfl rfl (any_of HT_.out (by kernel_rfl)) (fun _ _ _ h => h) (Or.inl ⟨by rfl, ?_⟩) ?_ ?_
            rotate_left
            · intro w'
              go_simp
              with_reducible rfl
            rotate_left
            · simp only [Act.put, List.setIfInBounds_toArray, List.set_cons_zero, List.set_cons_succ, i64_w, i32_w]
              rfl
            refine pure_ (i := 2) (N := some 13) (v := ?_) (a' := ?_) #[true, true, true, false, false, false, false, false, false, false, false, false, false, false, false, false, false, false, false, false, false, false, false, false, false, false, false, false, false, false, false, false, false, false] rfl rfl (any_of HT_.out (by kernel_rfl)) (fun _ _ _ h => h) (Or.inl ⟨by rfl, ?_⟩) ?_ ?_
            rotate_left
            · intro w'
              go_simp
              with_reducible rfl
            rotate_left
            · simp only [Act.put, List.setIfInBounds_toArray, List.set_cons_zero, List.set_cons_succ, i64_w, i32_w]
              rfl
            refine pure_ (i := 3) (N := some 14) (v := ?_) (a' := ?_) #[true, true, true, true, false, false, false, false, false, false, false, false, false, false, false, false, false, false, false, false, false, false, false, false, false, false, false, false, false, false, false, false, false, false] rfl rfl (any_of HT_.out (by kernel_rfl)) (fun _ _ _ h => h) (Or.inl ⟨by rfl, ?_⟩) ?_ ?_
            rotate_left
            · intro w'
              go_simp
              with_reducible rfl
            rotate_left
            · simp only [Act.put, List.setIfInBounds_toArray, List.set_cons_zero, List.set_cons_succ, i64_w, i32_w]
              rfl
            refine pure_ (i := 4) (N := some 15) (v := ?_) (a' := ?_) #[true, true, true, true, true, false, false, false, false, false, false, false, false, false, false, false, false, false, false, false, false, false, false, false, false, false, false, false, false, false, false, false, false, false] rfl rfl (any_of HT_.out (by kernel_rfl)) (fun _ _ _ h => h) (Or.inl ⟨by rfl, ?_⟩) ?_ ?_
            rotate_left
            · intro w'
              go_simp
              with_reducible rfl
            rotate_left
            · simp only [Act.put, List.setIfInBounds_toArray, List.set_cons_zero, List.set_cons_succ, i64_w, i32_w]
              rfl
            refine pure_ (i := 6) (N := some 17) (v := ?_) (a' := ?_) #[true, true, true, true, true, false, true, false, false, false, false, false, false, false, false, false, false, false, false, false, false, false, false, false, false, false, false, false, false, false, false, false, false, false] rfl rfl (any_of HT_.out (by kernel_rfl)) (fun _ _ _ h => h) (Or.inl ⟨by rfl, ?_⟩) ?_ ?_
            rotate_left
            · intro w'
              go_simp
              with_reducible rfl
            rotate_left
            · simp only [Act.put, List.setIfInBounds_toArray, List.set_cons_zero, List.set_cons_succ, i64_w, i32_w]
              rfl
            refine pure_ (i := 7) (N := some 18) (v := ?_) (a' := ?_) #[true, true, true, true, true, false, true, true, false, false, false, false, false, false, false, false, false, false, false, false, false, false, false, false, false, false, false, false, false, false, false, false, false, false] rfl rfl (any_of HT_.out (by kernel_rfl)) (fun _ _ _ h => h) (Or.inl ⟨by rfl, ?_⟩) ?_ ?_
            rotate_left
            · intro w'
              go_simp
              with_reducible rfl
            rotate_left
            · simp only [Act.put, List.setIfInBounds_toArray, List.set_cons_zero, List.set_cons_succ, i64_w, i32_w]
              rfl
            refine pure_ (i := 8) (N := some 19) (v := ?_) (a' := ?_) #[true, true, true, true, true, false, true, true, true, false, false, false, false, false, false, false, false, false, false, false, false, false, false, false, false, false, false, false, false, false, false, false, false, false] rfl rfl (any_of HT_.out (by kernel_rfl)) (fun _ _ _ h => h) (Or.inl ⟨by rfl, ?_⟩) ?_ ?_
            rotate_left
            · intro w'
              go_simp
              with_reducible rfl
            rotate_left
            · simp only [Act.put, List.setIfInBounds_toArray, List.set_cons_zero, List.set_cons_succ, i64_w, i32_w]
              rfl
            refine pure_ (i := 9) (N := some 20) (v := ?_) (a' := ?_) #[true, true, true, true, true, false, true, true, true, true, false, false, false, false, false, false, false, false, false, false, false, false, false, false, false, false, false, false, false, false, false, false, false, false] rfl rfl (any_of HT_.out (by kernel_rfl)) (fun _ _ _ h => h) (Or.inl ⟨by rfl, ?_⟩) ?_ ?_
            rotate_left
            · intro w'
              go_simp
              with_reducible rfl
            rotate_left
            · simp only [Act.put, List.setIfInBounds_toArray, List.set_cons_zero, List.set_cons_succ, i64_w, i32_w]
              rfl
            refine pure_ (i := 11) (N := some 22) (v := ?_) (a' := ?_) #[true, true, true, true, true, false, true, true, true, true, false, true, false, false, false, false, false, false, false, false, false, false, false, false, false, false, false, false, false, false, false, false, false, false] rfl rfl (any_of HT_.out (by kernel_rfl)) (fun _ _ _ h => h) (Or.inl ⟨by rfl, ?_⟩) ?_ ?_
            rotate_left
            · intro w'
              go_simp
              with_reducible rfl
            rotate_left
            · simp only [Act.put, List.setIfInBounds_toArray, List.set_cons_zero, List.set_cons_succ, i64_w, i32_w]
              rfl
            refine pure_ (i := 12) (N := some 23) (v := ?_) (a' := ?_) #[true, true, true, true, true, false, true, true, true, true, false, true, true, false, false, false, false, false, false, false, false, false, false, false, false, false, false, false, false, false, false, false, false, false] rfl rfl (any_of HT_.out (by kernel_rfl)) (fun _ _ _ h => h) (Or.inl ⟨by rfl, ?_⟩) ?_ ?_
            rotate_left
            · intro w'
              go_simp
              with_reducible rfl
            rotate_left
            · simp only [Act.put, List.setIfInBounds_toArray, List.set_cons_zero, List.set_cons_succ, i64_w, i32_w]
              rfl
            refine pure_ (i := 13) (N := some 24) (v := ?_) (a' := ?_) #[true, true, true, true, true, false, true, true, true, true, false, true, true, true, false, false, false, false, false, false, false, false, false, false, false, false, false, false, false, false, false, false, false, false] rfl rfl (any_of HT_.out (by kernel_rfl)) (fun _ _ _ h => h) (Or.inl ⟨by rfl, ?_⟩) ?_ ?_
            rotate_left
            · intro w'
              go_simp
              with_reducible rfl
            rotate_left
            · simp only [Act.put, List.setIfInBounds_toArray, List.set_cons_zero, List.set_cons_succ, i64_w, i32_w]
              rfl
            refine pure_ (i := 14) (N := some 25) (v := ?_) (a' := ?_) #[true, true, true, true, true, false, true, true, true, true, false, true, true, true, true, false, false, false, false, false, false, false, false, false, false, false, false, false, false, false, false, false, false, false] rfl rfl (any_of HT_.out (by kernel_rfl)) (fun _ _ _ h => h) (Or.inl ⟨by rfl, ?_⟩) ?_ ?_
            rotate_left
            · intro w'
              go_simp
              with_reducible rfl
            rotate_left
            · simp only [Act.put, List.setIfInBounds_toArray, List.set_cons_zero, List.set_cons_succ, i64_w, i32_w]
              rfl
            refine pure_ (i := 16) (N := some 27) (v := ?_) (a' := ?_) #[true, true, true, true, true, false, true, true, true, true, false, true, true, true, true, false, true, false, false, false, false, false, false, false, false, false, false, false, false, false, false, false, false, false] rfl rfl (any_of HT_.out (by kernel_rfl)) (fun _ _ _ h => h) (Or.inl ⟨by rfl, ?_⟩) ?_ ?_
            rotate_left
            · intro w'
              go_simp
              with_reducible rfl
            rotate_left
            · simp only [Act.put, List.setIfInBounds_toArray, List.set_cons_zero, List.set_cons_succ, i64_w, i32_w]
              rfl
            refine pure_ (i := 17) (N := some 28) (v := ?_) (a' := ?_) #[true, true, true, true, true, false, true, true, true, true, false, true, true, true, true, false, true, true, false, false, false, false, false, false, false, false, false, false, false, false, false, false, false, false] rfl rfl (any_of HT_.out (by kernel_rfl)) (fun _ _ _ h => h) (Or.inl ⟨by rfl, ?_⟩) ?_ ?_
            rotate_left
            · intro w'
              go_simp
              with_reducible rfl
            rotate_left
            · simp only [Act.put, List.setIfInBounds_toArray, List.set_cons_zero, List.set_cons_succ, i64_w, i32_w]
              rfl
            refine pure_ (i := 18) (N := some 29) (v := ?_) (a' := ?_) #[true, true, true, true, true, false, true, true, true, true, false, true, true, true, true, false, true, true, true, false, false, false, false, false, false, false, false, false, false, false, false, false, false, false] rfl rfl (any_of HT_.out (by kernel_rfl)) (fun _ _ _ h => h) (Or.inl ⟨by rfl, ?_⟩) ?_ ?_
            rotate_left
            · intro w'
              go_simp
              with_reducible rfl
            rotate_left
            · simp only [Act.put, List.setIfInBounds_toArray, List.set_cons_zero, List.set_cons_succ, i64_w, i32_w]
              rfl
            refine pure_ (i := 19) (N := some 30) (v := ?_) (a' := ?_) #[true, true, true, true, true, false, true, true, true, true, false, true, true, true, true, false, true, true, true, true, false, false, false, false, false, false, false, false, false, false, false, false, false, false] rfl rfl (any_of HT_.out (by kernel_rfl)) (fun _ _ _ h => h) (Or.inl ⟨by rfl, ?_⟩) ?_ ?_
            rotate_left
            · intro w'
              go_simp
              with_reducible rfl
            rotate_left
            · simp only [Act.put, List.setIfInBounds_toArray, List.set_cons_zero, List.set_cons_succ, i64_w, i32_w]
              rfl
            refine pure_ (i := 21) (N := some 32) (v := ?_) (a' := ?_) #[true, true, true, true, true, false, true, true, true, true, false, true, true, true, true, false, true, true, true, true, false, true, false, false, false, false, false, false, false, false, false, false, false, false] rfl rfl (any_of HT_.out (by kernel_rfl)) (fun _ _ _ h => h) (Or.inl ⟨by rfl, ?_⟩) ?_ ?_
            rotate_left
            · intro w'
              go_simp
              with_reducible rfl
            rotate_left
            · simp only [Act.put, List.setIfInBounds_toArray, List.set_cons_zero, List.set_cons_succ, i64_w, i32_w]
              rfl
            refine pure_ (i := 22) (N := some 33) (v := ?_) (a' := ?_) #[true, true, true, true, true, false, true, true, true, true, false, true, true, true, true, false, true, true, true, true, false, true, true, false, false, false, false, false, false, false, false, false, false, false] rfl rfl (any_of HT_.out (by kernel_rfl)) (fun _ _ _ h => h) (Or.inl ⟨by rfl, ?_⟩) ?_ ?_
            rotate_left
            · intro w'
              go_simp
              with_reducible rfl
            rotate_left
            · simp only [Act.put, List.setIfInBounds_toArray, List.set_cons_zero, List.set_cons_succ, i64_w, i32_w]
              rfl
            refine pure_ (i := 23) (N := some 34) (v := ?_) (a' := ?_) #[true, true, true, true, true, false, true, true, true, true, false, true, true, true, true, false, true, true, true, true, false, true, true, true, false, false, false, false, false, false, false, false, false, false] rfl rfl (any_of HT_.out (by kernel_rfl)) (fun _ _ _ h => h) (Or.inl ⟨by rfl, ?_⟩) ?_ ?_
            rotate_left
            · intro w'
              go_simp
              with_reducible rfl
            rotate_left
            · simp only [Act.put, List.setIfInBounds_toArray, List.set_cons_zero, List.set_cons_succ, i64_w, i32_w]
              rfl
            refine pure_ (i := 24) (N := some 35) (v := ?_) (a' := ?_) #[true, true, true, true, true, false, true, true, true, true, false, true, true, true, true, false, true, true, true, true, false, true, true, true, true, false, false, false, false, false, false, false, false, false] rfl rfl (any_of HT_.out (by kernel_rfl)) (fun _ _ _ h => h) (Or.inl ⟨by rfl, ?_⟩) ?_ ?_
            rotate_left
            · intro w'
              go_simp
              with_reducible rfl
            rotate_left
            · simp only [Act.put, List.setIfInBounds_toArray, List.set_cons_zero, List.set_cons_succ, i64_w, i32_w]
              rfl
            refine pure_ (i := 26) (N := some 37) (v := ?_) (a' := ?_) #[true, true, true, true, true, false, true, true, true, true, false, true, true, true, true, false, true, true, true, true, false, true, true, true, true, false, true, false, false, false, false, false, false, false] rfl rfl (any_of HT_.out (by kernel_rfl)) (fun _ _ _ h => h) (Or.inl ⟨by rfl, ?_⟩) ?_ ?_
            rotate_left
            · intro w'
              go_simp
              with_reducible rfl
            rotate_left
            · simp only [Act.put, List.setIfInBounds_toArray, List.set_cons_zero, List.set_cons_succ, i64_w, i32_w]
              rfl
            refine pure_ (i := 27) (N := some 38) (v := ?_) (a' := ?_) #[true, true, true, true, true, false, true, true, true, true, false, true, true, true, true, false, true, true, true, true, false, true, true, true, true, false, true, true, false, false, false, false, false, false] rfl rfl (any_of HT_.out (by kernel_rfl)) (fun _ _ _ h => h) (Or.inl ⟨by rfl, ?_⟩) ?_ ?_
            rotate_left
            · intro w'
              go_simp
              with_reducible rfl
            rotate_left
            · simp only [Act.put, List.setIfInBounds_toArray, List.set_cons_zero, List.set_cons_succ, i64_w, i32_w]
              rfl
            refine pure_ (i := 28) (N := some 39) (v := ?_) (a' := ?_) #[true, true, true, true, true, false, true, true, true, true, false, true, true, true, true, false, true, true, true, true, false, true, true, true, true, false, true, true, true, false, false, false, false, false] rfl rfl (any_of HT_.out (by kernel_rfl)) (fun _ _ _ h => h) (Or.inl ⟨by rfl, ?_⟩) ?_ ?_
            rotate_left
            · intro w'
              go_simp
              with_reducible rfl
            rotate_left
            · simp only [Act.put, List.setIfInBounds_toArray, List.set_cons_zero, List.set_cons_succ, i64_w, i32_w]
              rfl
            refine pure_ (i := 29) (N := some 40) (v := ?_) (a' := ?_) #[true, true, true, true, true, false, true, true, true, true, false, true, true, true, true, false, true, true, true, true, false, true, true, true, true, false, true, true, true, true, false, false, false, false] rfl rfl (any_of HT_.out (by kernel_rfl)) (fun _ _ _ h => h) (Or.inl ⟨by rfl, ?_⟩) ?_ ?_
            rotate_left
            · intro w'
              go_simp
              with_reducible rfl
            rotate_left
            · simp only [Act.put, List.setIfInBounds_toArray, List.set_cons_zero, List.set_cons_succ, i64_w, i32_w]
              rfl
            refine take_ (i := 5) (N := some 16) (v := ?_) (a' := ?_) #[true, true, true, true, true, true, true, true, true, true, false, true, true, true, true, false, true, true, true, true, false, true, true, true, true, false, true, true, true, true, false, false, false, false] rfl rfl (take_ofW HT_.out HW_.out (by kernel_rfl)) (fun _ _ _ h => h) (Or.inl ⟨by rfl, ?_⟩) hHeld ?_ ?_
            rotate_left
            · rintro w' ⟨s0, s1, s2, s3, s4, s5, s6, s7, s8, s9, s10, s11, s12, s13, s14, s15, s16, s17, s18, s19, s20, s21, s22, s23, s24⟩
              go_simp
              with_reducible rfl
            rotate_left
            · simp only [Act.put, List.setIfInBounds_toArray, List.set_cons_zero, List.set_cons_succ, i64_w, i32_w]
              rfl
            refine take_ (i := 10) (N := some 21) (v := ?_) (a' := ?_) #[true, true, true, true, true, true, true, true, true, true, true, true, true, true, true, false, true, true, true, true, false, true, true, true, true, false, true, true, true, true, false, false, false, false] rfl rfl (take_ofW HT_.out HW_.out (by kernel_rfl)) (fun _ _ _ h => h) (Or.inl ⟨by rfl, ?_⟩) hHeld ?_ ?_
            rotate_left
            · rintro w' ⟨s0, s1, s2, s3, s4, s5, s6, s7, s8, s9, s10, s11, s12, s13, s14, s15, s16, s17, s18, s19, s20, s21, s22, s23, s24⟩
              go_simp
              with_reducible rfl
            rotate_left
            · simp only [Act.put, List.setIfInBounds_toArray, List.set_cons_zero, List.set_cons_succ, i64_w, i32_w]
              rfl
            refine take_ (i := 15) (N := some 26) (v := ?_) (a' := ?_) #[true, true, true, true, true, true, true, true, true, true, true, true, true, true, true, true, true, true, true, true, false, true, true, true, true, false, true, true, true, true, false, false, false, false] rfl rfl (take_ofW HT_.out HW_.out (by kernel_rfl)) (fun _ _ _ h => h) (Or.inl ⟨by rfl, ?_⟩) hHeld ?_ ?_
            rotate_left
            · rintro w' ⟨s0, s1, s2, s3, s4, s5, s6, s7, s8, s9, s10, s11, s12, s13, s14, s15, s16, s17, s18, s19, s20, s21, s22, s23, s24⟩
              go_simp
              with_reducible rfl
            rotate_left
            · simp only [Act.put, List.setIfInBounds_toArray, List.set_cons_zero, List.set_cons_succ, i64_w, i32_w]
              rfl
            refine take_ (i := 20) (N := some 31) (v := ?_) (a' := ?_) #[true, true, true, true, true, true, true, true, true, true, true, true, true, true, true, true, true, true, true, true, true, true, true, true, true, false, true, true, true, true, false, false, false, false] rfl rfl (take_ofW HT_.out HW_.out (by kernel_rfl)) (fun _ _ _ h => h) (Or.inl ⟨by rfl, ?_⟩) hHeld ?_ ?_
            rotate_left
            · rintro w' ⟨s0, s1, s2, s3, s4, s5, s6, s7, s8, s9, s10, s11, s12, s13, s14, s15, s16, s17, s18, s19, s20, s21, s22, s23, s24⟩
              go_simp
              with_reducible rfl
            rotate_left
            · simp only [Act.put, List.setIfInBounds_toArray, List.set_cons_zero, List.set_cons_succ, i64_w, i32_w]
              rfl
            refine take_ (i := 25) (N := some 36) (v := ?_) (a' := ?_) #[true, true, true, true, true, true, true, true, true, true, true, true, true, true, true, true, true, true, true, true, true, true, true, true, true, true, true, true, true, true, false, false, false, false] rfl rfl (take_ofW HT_.out HW_.out (by kernel_rfl)) (fun _ _ _ h => h) (Or.inl ⟨by rfl, ?_⟩) hHeld ?_ ?_
            rotate_left
            · rintro w' ⟨s0, s1, s2, s3, s4, s5, s6, s7, s8, s9, s10, s11, s12, s13, s14, s15, s16, s17, s18, s19, s20, s21, s22, s23, s24⟩
              go_simp
              with_reducible rfl
            rotate_left
            · simp only [Act.put, List.setIfInBounds_toArray, List.set_cons_zero, List.set_cons_succ, i64_w, i32_w]
              rfl
            refine pure_ (i := 30) (N := some 41) (v := ?_) (a' := ?_) #[true, true, true, true, true, true, true, true, true, true, true, true, true, true, true, true, true, true, true, true, true, true, true, true, true, true, true, true, true, true, true, false, false, false] rfl rfl (any_of HT_.out (by kernel_rfl)) (fun _ _ _ h => h) (Or.inl ⟨by rfl, ?_⟩) ?_ ?_
            rotate_left
            · intro w'
              go_simp
              with_reducible rfl
            rotate_left
            · simp only [Act.put, List.setIfInBounds_toArray, List.set_cons_zero, List.set_cons_succ, i64_w, i32_w]
              rfl
            refine one_ (i := 31) (N := some 42) #[true, true, true, true, true, true, true, true, true, true, true, true, true, true, true, true, true, true, true, true, true, true, true, true, true, true, true, true, true, true, true, true, false, false] rfl rfl (one_of HT_.out (by kernel_rfl)) (by decide) (fun K hK => ?_)
            refine value_ (w1 := ?_) (v := ?_) (by rfl) rfl ?_ ?_
            rotate_left 2
            · go_simp
              constructor
              · rfl
              · rfl
            refine hK.out _ _ ⟨(World.cell?_alloc_lt _ _ _ (World.block_lt_of_cell? _ _ (((HB.out.cell (World.block_lt_of_cell? w _ hw272_0)).trans hw272_0)))).trans (((HB.out.cell (World.block_lt_of_cell? w _ hw272_0)).trans hw272_0)), (World.cell?_alloc_lt _ _ _ (World.block_lt_of_cell? _ _ (((HB.out.cell (World.block_lt_of_cell? w _ hw272_1)).trans hw272_1)))).trans (((HB.out.cell (World.block_lt_of_cell? w _ hw272_1)).trans hw272_1)), (World.cell?_alloc_lt _ _ _ (World.block_lt_of_cell? _ _ (((HB.out.cell (World.block_lt_of_cell? w _ hw272_2)).trans hw272_2)))).trans (((HB.out.cell (World.block_lt_of_cell? w _ hw272_2)).trans hw272_2)), (World.cell?_alloc_lt _ _ _ (World.block_lt_of_cell? _ _ (((HB.out.cell (World.block_lt_of_cell? w _ hw272_3)).trans hw272_3)))).trans (((HB.out.cell (World.block_lt_of_cell? w _ hw272_3)).trans hw272_3)), (World.cell?_alloc_lt _ _ _ (World.block_lt_of_cell? _ _ (((HB.out.cell (World.block_lt_of_cell? w _ hw272_4)).trans hw272_4)))).trans (((HB.out.cell (World.block_lt_of_cell? w _ hw272_4)).trans hw272_4)), (World.cell?_alloc_lt _ _ _ (World.block_lt_of_cell? _ _ (((HB.out.cell (World.block_lt_of_cell? w _ hw273_0)).trans hw273_0)))).trans (((HB.out.cell (World.block_lt_of_cell? w _ hw273_0)).trans hw273_0)), (World.cell?_alloc_lt _ _ _ (World.block_lt_of_cell? _ _ (((HB.out.cell (World.block_lt_of_cell? w _ hw273_1)).trans hw273_1)))).trans (((HB.out.cell (World.block_lt_of_cell? w _ hw273_1)).trans hw273_1)), (World.cell?_alloc_lt _ _ _ (World.block_lt_of_cell? _ _ (((HB.out.cell (World.block_lt_of_cell? w _ hw273_2)).trans hw273_2)))).trans (((HB.out.cell (World.block_lt_of_cell? w _ hw273_2)).trans hw273_2)), (World.cell?_alloc_lt _ _ _ (World.block_lt_of_cell? _ _ (((HB.out.cell (World.block_lt_of_cell? w _ hw273_3)).trans hw273_3)))).trans (((HB.out.cell (World.block_lt_of_cell? w _ hw273_3)).trans hw273_3)), (World.cell?_alloc_lt _ _ _ (World.block_lt_of_cell? _ _ (((HB.out.cell (World.block_lt_of_cell? w _ hw273_4)).trans hw273_4)))).trans (((HB.out.cell (World.block_lt_of_cell? w _ hw273_4)).trans hw273_4)), (World.cell?_alloc_lt _ _ _ (World.block_lt_of_cell? _ _ (((HB.out.cell (World.block_lt_of_cell? w _ hw274_0)).trans hw274_0)))).trans (((HB.out.cell (World.block_lt_of_cell? w _ hw274_0)).trans hw274_0)), (World.cell?_alloc_lt _ _ _ (World.block_lt_of_cell? _ _ (((HB.out.cell (World.block_lt_of_cell? w _ hw274_1)).trans hw274_1)))).trans (((HB.out.cell (World.block_lt_of_cell? w _ hw274_1)).trans hw274_1)), (World.cell?_alloc_lt _ _ _ (World.block_lt_of_cell? _ _ (((HB.out.cell (World.block_lt_of_cell? w _ hw274_2)).trans hw274_2)))).trans (((HB.out.cell (World.block_lt_of_cell? w _ hw274_2)).trans hw274_2)), (World.cell?_alloc_lt _ _ _ (World.block_lt_of_cell? _ _ (((HB.out.cell (World.block_lt_of_cell? w _ hw274_3)).trans hw274_3)))).trans (((HB.out.cell (World.block_lt_of_cell? w _ hw274_3)).trans hw274_3)), (World.cell?_alloc_lt _ _ _ (World.block_lt_of_cell? _ _ (((HB.out.cell (World.block_lt_of_cell? w _ hw274_4)).trans hw274_4)))).trans (((HB.out.cell (World.block_lt_of_cell? w _ hw274_4)).trans hw274_4)), (World.cell?_alloc_lt _ _ _ (World.block_lt_of_cell? _ _ (((HB.out.cell (World.block_lt_of_cell? w _ hw275_0)).trans hw275_0)))).trans (((HB.out.cell (World.block_lt_of_cell? w _ hw275_0)).trans hw275_0)), (World.cell?_alloc_lt _ _ _ (World.block_lt_of_cell? _ _ (((HB.out.cell (World.block_lt_of_cell? w _ hw275_1)).trans hw275_1)))).trans (((HB.out.cell (World.block_lt_of_cell? w _ hw275_1)).trans hw275_1)), (World.cell?_alloc_lt _ _ _ (World.block_lt_of_cell? _ _ (((HB.out.cell (World.block_lt_of_cell? w _ hw275_2)).trans hw275_2)))).trans (((HB.out.cell (World.block_lt_of_cell? w _ hw275_2)).trans hw275_2)), (World.cell?_alloc_lt _ _ _ (World.block_lt_of_cell? _ _ (((HB.out.cell (World.block_lt_of_cell? w _ hw275_3)).trans hw275_3)))).trans (((HB.out.cell (World.block_lt_of_cell? w _ hw275_3)).trans hw275_3)), (World.cell?_alloc_lt _ _ _ (World.block_lt_of_cell? _ _ (((HB.out.cell (World.block_lt_of_cell? w _ hw275_4)).trans hw275_4)))).trans (((HB.out.cell (World.block_lt_of_cell? w _ hw275_4)).trans hw275_4)), (World.cell?_alloc_lt _ _ _ (World.block_lt_of_cell? _ _ (((HB.out.cell (World.block_lt_of_cell? w _ hw276_0)).trans hw276_0)))).trans (((HB.out.cell (World.block_lt_of_cell? w _ hw276_0)).trans hw276_0)), (World.cell?_alloc_lt _ _ _ (World.block_lt_of_cell? _ _ (((HB.out.cell (World.block_lt_of_cell? w _ hw276_1)).trans hw276_1)))).trans (((HB.out.cell (World.block_lt_of_cell? w _ hw276_1)).trans hw276_1)), (World.cell?_alloc_lt _ _ _ (World.block_lt_of_cell? _ _ (((HB.out.cell (World.block_lt_of_cell? w _ hw276_2)).trans hw276_2)))).trans (((HB.out.cell (World.block_lt_of_cell? w _ hw276_2)).trans hw276_2)), (World.cell?_alloc_lt _ _ _ (World.block_lt_of_cell? _ _ (((HB.out.cell (World.block_lt_of_cell? w _ hw276_3)).trans hw276_3)))).trans (((HB.out.cell (World.block_lt_of_cell? w _ hw276_3)).trans hw276_3)), (World.cell?_alloc_lt _ _ _ (World.block_lt_of_cell? _ _ (((HB.out.cell (World.block_lt_of_cell? w _ hw276_4)).trans hw276_4)))).trans (((HB.out.cell (World.block_lt_of_cell? w _ hw276_4)).trans hw276_4))⟩ (fun hHeld => ?_)
            clear hK K
            refine norm_ (a' := ?_) ?_ ?_
            rotate_left
            · show Act.put _ (some 42) _ = _
              simp only [Act.put, List.setIfInBounds_toArray, List.set_cons_zero, List.set_cons_succ, i64_w, i32_w]
              rfl
            refine one_ (i := 32) (N := some 43) #[true, true, true, true, true, true, true, true, true, true, true, true, true, true, true, true, true, true, true, true, true, true, true, true, true, true, true, true, true, true, true, true, true, false] rfl rfl (one_of HT_.out (by kernel_rfl)) (by decide) (fun K hK => ?_)
            refine Kd.R_append_step k42 (w0 := w) w.heap.size (by rfl) (.tmp 11) (.tmp 42) 31 42 (.agg #[(.string ⟨#[]⟩), (.string ⟨#[]⟩), (.string ⟨#[]⟩), (.int .i64 0), (.int .i64 0), (.int .i64 0), (.bool false)]) 80 rfl Tryd.underlying31 info42 rfl (by decide) (by omega) u3 x3_1 (⟨(rd_T46 l0 x4_1).f0, (rd_T46 l0 x4_1).f1, (rd_T46 l0 x4_1).f2, (rd_T46 l0 x4_1).f4, (rd_T46 l0 x4_1).f3, x4_1, ((Int.tmod x4_1 2) == 0)⟩ : S42) [.string ((rd_T46 l0 x4_1).f0), .string ((rd_T46 l0 x4_1).f1), .string ((rd_T46 l0 x4_1).f2), .int .i64 ((rd_T46 l0 x4_1).f4), .int .i64 ((rd_T46 l0 x4_1).f3), .int .i64 x4_1, .bool ((Int.tmod x4_1 2) == 0)] (fun _ => True) (fun _ => False) rfl rfl ?aP (fun _ hk => hk.elim) ?aF ?aO ?aB ?aS ?aL ?_
            (case aP => exact k42_mkM _ _ _ (⟨(rd_T46 l0 x4_1).f0, (rd_T46 l0 x4_1).f1, (rd_T46 l0 x4_1).f2, (rd_T46 l0 x4_1).f4, (rd_T46 l0 x4_1).f3, x4_1, ((Int.tmod x4_1 2) == 0)⟩ : S42))
            (case aB => exact (by repeat (first | (with_reducible first | exact HB.out | apply below_alloc | apply pw_below_drewN | apply below_drew1) | exact HB.out)))
            (case aF => exact (fun _ _ => trivial))
            (case aO => exact (by (with_reducible repeat (first | apply Kd.R_alloc | apply Kd.R_drewN | apply Kd.R_drew)); exact HO_3.out))
            (case aS => exact (below_size (by repeat (first | (with_reducible first | exact HB.out | apply below_alloc | apply pw_below_drewN | apply below_drew1) | exact HB.out))))
            (case aL => have := LMc4.out; omega)
            intro v278 w6 ho hb hg hat
            rw [← Ny277.out] at ho
            have n0_ := Aside0.mk (hb)
            have n1_ := Aside0.mk (ho)
            clear HB
            clear HO_3
            have HB := n0_
            have HO279 := n1_
            clear n0_ n1_
            clear ho hb hg hat
            refine hK.out _ _ ⟨((HB.out.cell (World.block_lt_of_cell? w _ hw272_0)).trans hw272_0), ((HB.out.cell (World.block_lt_of_cell? w _ hw272_1)).trans hw272_1), ((HB.out.cell (World.block_lt_of_cell? w _ hw272_2)).trans hw272_2), ((HB.out.cell (World.block_lt_of_cell? w _ hw272_3)).trans hw272_3), ((HB.out.cell (World.block_lt_of_cell? w _ hw272_4)).trans hw272_4), ((HB.out.cell (World.block_lt_of_cell? w _ hw273_0)).trans hw273_0), ((HB.out.cell (World.block_lt_of_cell? w _ hw273_1)).trans hw273_1), ((HB.out.cell (World.block_lt_of_cell? w _ hw273_2)).trans hw273_2), ((HB.out.cell (World.block_lt_of_cell? w _ hw273_3)).trans hw273_3), ((HB.out.cell (World.block_lt_of_cell? w _ hw273_4)).trans hw273_4), ((HB.out.cell (World.block_lt_of_cell? w _ hw274_0)).trans hw274_0), ((HB.out.cell (World.block_lt_of_cell? w _ hw274_1)).trans hw274_1), ((HB.out.cell (World.block_lt_of_cell? w _ hw274_2)).trans hw274_2), ((HB.out.cell (World.block_lt_of_cell? w _ hw274_3)).trans hw274_3), ((HB.out.cell (World.block_lt_of_cell? w _ hw274_4)).trans hw274_4), ((HB.out.cell (World.block_lt_of_cell? w _ hw275_0)).trans hw275_0), ((HB.out.cell (World.block_lt_of_cell? w _ hw275_1)).trans hw275_1), ((HB.out.cell (World.block_lt_of_cell? w _ hw275_2)).trans hw275_2), ((HB.out.cell (World.block_lt_of_cell? w _ hw275_3)).trans hw275_3), ((HB.out.cell (World.block_lt_of_cell? w _ hw275_4)).trans hw275_4), ((HB.out.cell (World.block_lt_of_cell? w _ hw276_0)).trans hw276_0), ((HB.out.cell (World.block_lt_of_cell? w _ hw276_1)).trans hw276_1), ((HB.out.cell (World.block_lt_of_cell? w _ hw276_2)).trans hw276_2), ((HB.out.cell (World.block_lt_of_cell? w _ hw276_3)).trans hw276_3), ((HB.out.cell (World.block_lt_of_cell? w _ hw276_4)).trans hw276_4)⟩ (fun hHeld => ?_)
            clear hK K
            refine norm_ (a' := ?_) ?_ ?_
            rotate_left
            · show Act.put _ (some 43) _ = _
              simp only [Act.put, List.setIfInBounds_toArray, List.set_cons_zero, List.set_cons_succ, i64_w, i32_w]
              rfl
            refine pure_ (i := 33) (N := some 3) (v := ?_) (a' := ?_) #[true, true, true, true, true, true, true, true, true, true, true, true, true, true, true, true, true, true, true, true, true, true, true, true, true, true, true, true, true, true, true, true, true, true] rfl rfl (any_of HT_.out (by kernel_rfl)) (fun _ _ _ h => h) (Or.inl ⟨by rfl, ?_⟩) ?_ ?_
            rotate_left
            · intro w'
              go_simp
              with_reducible rfl
            rotate_left
            · simp only [Act.put, List.setIfInBounds_toArray, List.set_cons_zero, List.set_cons_succ, i64_w, i32_w]
              rfl
            refine done_ (done_of HT_.out (by kernel_rfl)) ?_
            try go_wp2
            go_roundg k1
            case measure => have := HK1.out; omega
            case rel => exact ⟨(y277), (wrap64 (x4_1 + 1)), (by first | rfl | (simp; done) | (simp [*]; done)), H', ⟨by have := HK1.out; omega⟩, ⟨by (with_reducible repeat (first | apply Kd.R_alloc | apply Kd.R_drewN | apply Kd.R_drew)); exact HO279.out⟩, ⟨by repeat (first | (with_reducible first | exact HB.out | apply below_alloc | apply pw_below_drewN | apply below_drew1) | exact HB.out)⟩⟩
          · rw [if_neg c4] at H
            exact absurd H (by simp)
        · rw [if_neg c3] at H
          exact absurd H (by simp)
      · rw [if_neg c2] at H
        have c2b0 : decide (x4_1 < (l0.length : Int)) = false := decide_eq_false c2
        clear c2
        obtain rfl := Option.some.inj H
        go_wp2
        go_ret
        exact ⟨_, by first | rfl | (simp [errW_none, errW_some] <;> rfl) | (simp [*, errW_none, errW_some] <;> rfl), by (with_reducible repeat (first | apply Kd.R_alloc | apply Kd.R_drewN | apply Kd.R_drew)); exact HO_3.out, by repeat (first | (with_reducible first | exact HB.out | apply below_alloc | apply pw_below_drewN | apply below_drew1) | exact HB.out)⟩
def ciceroneref46_Find.l0 : Nat → List (S46) → ByteArray → Int → Option (Int)
  | 0, _, _, _ => none
  | k + 1, x0, x1, x5 => if x5 < (x0.length : Int) then (if 0 ≤ x5 then (if ((rd_T46 x0 x5).f0).toList = x1.toList then (some x5) else (ciceroneref46_Find.l0 k x0 x1 (wrap64 (x5 + 1)))) else (none)) else (some (-1))
def ciceroneref46_Find.f (k : Nat) (l0 : List (S46)) (a1 : ByteArray) : Option (Int) := ciceroneref46_Find.l0 k l0 a1 0
theorem ciceroneref46_Find.mono_l : ∀ k, (∀ y0 y1 y2, LeO (ciceroneref46_Find.l0 k y0 y1 y2) (ciceroneref46_Find.l0 (k + 1) y0 y1 y2))
  | 0 => fun _ _ _ r h => by simp [ciceroneref46_Find.l0] at h
  | k + 1 => by
    have ih0 := ciceroneref46_Find.mono_l k
    · intro y0 y1 y2
      unfold ciceroneref46_Find.l0
      repeat' first
      | (with_reducible exact ih0 _ _ _)
      | (with_reducible exact LeO.refl _)
      | (with_reducible exact LeO.none _)
      | (with_reducible refine LeO.ite ?_ ?_)
      | (with_reducible refine LeO.bind ?_ (fun _ => ?_))
      | exact ih0 _ _ _
      | exact LeO.none _
      | refine LeO.ite ?_ ?_
      | refine LeO.bind ?_ (fun _ => ?_)
theorem ciceroneref46_Find.mono : ∀ a0 a1 k, LeO (ciceroneref46_Find.f k a0 a1) (ciceroneref46_Find.f (k + 1) a0 a1) := by
  intro a0 a1 k
  have ih0 := ciceroneref46_Find.mono_l k
  unfold ciceroneref46_Find.f
  repeat' first
      | (with_reducible exact ih0 _ _ _)
      | (with_reducible exact LeO.refl _)
      | (with_reducible exact LeO.none _)
      | (with_reducible refine LeO.ite ?_ ?_)
      | (with_reducible refine LeO.bind ?_ (fun _ => ?_))
      | exact ih0 _ _ _
      | exact LeO.none _
      | refine LeO.ite ?_ ?_
      | refine LeO.bind ?_ (fun _ => ?_)
set_option maxHeartbeats 8000000 in
set_option maxRecDepth 100000 in
theorem ciceroneref46_Find.calls (k : Nat) (A0 : Option Addr) (c0 : Nat) (l0 : List (S46)) (a1 : ByteArray) (r : Int) (w : World) (hr0 : Kd.C k46 w A0 l0.length l0) (hc0 : l0.length ≤ c0) (h : ciceroneref46_Find.f k l0 a1 = some r) :
    Calls Tryd.prog 31 #[.slice A0 l0.length c0, .string a1] w fun e w' => e = .returned (.int .i64 r) ∧ Drawn0 w w' := by
  have HR0 := Aside0.mk hr0
  have HC0 := Aside0.mk hc0
  clear hr0 hc0
  have H : (ciceroneref46_Find.l0 k l0 a1 0) = some r := h
  clear h
  have H' := Aside0.mk H
  clear H
  go_enter Tryd.func31, Tryd.ntmps31
  go_wp2
  go_loopg [5] k (fun kq v5 w' => ∃ (x5_1 : Int), v5 = .int .i64 x5_1 ∧ Aside0 (ciceroneref46_Find.l0 kq l0 a1 x5_1 = some r) ∧ Aside0 (kq ≤ k) ∧ Drawn0 w w')
  case atStart => exact ⟨(0), (by first | rfl | (simp; done) | (simp [*]; done)), H', ⟨Nat.le_refl _⟩, by repeat (first | exact Drawn0.refl _ | apply Drawn0.step)⟩
  case round =>
    clear H'
    try clear p2
    obtain ⟨x5_1, rfl, HA, HK1, ⟨m1, rfl⟩⟩ := hrel
    cases gk with
    | zero => exact absurd HA.out (by simp [ciceroneref46_Find.l0])
    | succ k1 =>
      have H := HA.out
      clear HA
      simp only [ciceroneref46_Find.l0] at H
      by_cases c3 : x5_1 < (l0.length : Int)
      · rw [if_pos c3] at H
        have c3b0 : decide (x5_1 < (l0.length : Int)) = true := decide_eq_true c3
        clear c3
        by_cases c4 : 0 ≤ x5_1
        · rw [if_pos c4] at H
          have c4b0 : decide (0 ≤ x5_1) = true := decide_eq_true c4
          clear c4
          by_cases c5 : ((rd_T46 l0 x5_1).f0).toList = a1.toList
          · rw [if_pos c5] at H
            have c5b0 : (((rd_T46 l0 x5_1).f0).toList == a1.toList) = true := beq_iff_eq.mpr c5
            have c5b1 : (((rd_T46 l0 x5_1).f0).toList != a1.toList) = false := bne_eq_false_iff_eq.mpr c5
            clear c5
            obtain rfl := Option.some.inj H
            have p280 : 0 ≤ (x5_1 : Int) := of_decide_eq_true (by first | (with_reducible assumption) | assumption)
            have q280 : x5_1 < (l0.length : Int) := of_decide_eq_true (by first | (with_reducible assumption) | assumption)
            obtain ⟨ad280, e280, hx280_0, hx280_1, hx280_2, hx280_3, hx280_4⟩ := at_T46 HR0.out x5_1 p280 q280
            cases e280
            replace p280 := eq_true p280
            replace q280 := eq_true q280
            go_wp2
            go_ret
            exact ⟨by first | rfl | (simp; done) | (simp [*]; done), by repeat (first | exact Drawn0.refl _ | apply Drawn0.step)⟩
          · rw [if_neg c5] at H
            have c5b0 : (((rd_T46 l0 x5_1).f0).toList == a1.toList) = false := beq_eq_false_iff_ne.mpr c5
            have c5b1 : (((rd_T46 l0 x5_1).f0).toList != a1.toList) = true := bne_iff_ne.mpr c5
            have H' := Aside0.mk H
            clear H
            have p280 : 0 ≤ (x5_1 : Int) := of_decide_eq_true (by first | (with_reducible assumption) | assumption)
            have q280 : x5_1 < (l0.length : Int) := of_decide_eq_true (by first | (with_reducible assumption) | assumption)
            obtain ⟨ad280, e280, hx280_0, hx280_1, hx280_2, hx280_3, hx280_4⟩ := at_T46 HR0.out x5_1 p280 q280
            cases e280
            replace p280 := eq_true p280
            replace q280 := eq_true q280
            go_wp2
            go_roundg k1
            case measure => have := HK1.out; omega
            case rel => exact ⟨(wrap64 (x5_1 + 1)), (by first | rfl | (simp; done) | (simp [*]; done)), H', ⟨by have := HK1.out; omega⟩, by repeat (first | exact Drawn0.refl _ | apply Drawn0.step)⟩
        · rw [if_neg c4] at H
          exact absurd H (by simp)
      · rw [if_neg c3] at H
        have c3b0 : decide (x5_1 < (l0.length : Int)) = false := decide_eq_false c3
        clear c3
        obtain rfl := Option.some.inj H
        go_wp2
        go_ret
        exact ⟨by first | rfl | (simp; done) | (simp [*]; done), by repeat (first | exact Drawn0.refl _ | apply Drawn0.step)⟩
def ciceroneref02_place.l0 : Nat → ByteArray → Int → Option (Int)
  | 0, _, _ => none
  | k + 1, x0, x3 => if x3 < (x0.size : Int) then (if 0 ≤ x3 then (if (bt x0 x3) = 59 then (some x3) else (ciceroneref02_place.l0 k x0 (wrap64 (x3 + 1)))) else (none)) else (some (-1))
def ciceroneref02_place.f (k : Nat) (a0 : ByteArray) : Option (Int) := ciceroneref02_place.l0 k a0 0
theorem ciceroneref02_place.mono_l : ∀ k, (∀ y0 y1, LeO (ciceroneref02_place.l0 k y0 y1) (ciceroneref02_place.l0 (k + 1) y0 y1))
  | 0 => fun _ _ r h => by simp [ciceroneref02_place.l0] at h
  | k + 1 => by
    have ih0 := ciceroneref02_place.mono_l k
    · intro y0 y1
      unfold ciceroneref02_place.l0
      repeat' first
      | (with_reducible exact ih0 _ _)
      | (with_reducible exact LeO.refl _)
      | (with_reducible exact LeO.none _)
      | (with_reducible refine LeO.ite ?_ ?_)
      | (with_reducible refine LeO.bind ?_ (fun _ => ?_))
      | exact ih0 _ _
      | exact LeO.none _
      | refine LeO.ite ?_ ?_
      | refine LeO.bind ?_ (fun _ => ?_)
theorem ciceroneref02_place.mono : ∀ a0 k, LeO (ciceroneref02_place.f k a0) (ciceroneref02_place.f (k + 1) a0) := by
  intro a0 k
  have ih0 := ciceroneref02_place.mono_l k
  unfold ciceroneref02_place.f
  repeat' first
      | (with_reducible exact ih0 _ _)
      | (with_reducible exact LeO.refl _)
      | (with_reducible exact LeO.none _)
      | (with_reducible refine LeO.ite ?_ ?_)
      | (with_reducible refine LeO.bind ?_ (fun _ => ?_))
      | exact ih0 _ _
      | exact LeO.none _
      | refine LeO.ite ?_ ?_
      | refine LeO.bind ?_ (fun _ => ?_)
set_option maxHeartbeats 8000000 in
set_option maxRecDepth 100000 in
theorem ciceroneref02_place.calls (k : Nat) (a0 : ByteArray) (r : Int) (w : World) (h : ciceroneref02_place.f k a0 = some r) :
    Calls Tryd.prog 70 #[.string a0] w fun e w' => e = .returned (.int .i64 r) ∧ Drawn0 w w' := by
  have H : (ciceroneref02_place.l0 k a0 0) = some r := h
  clear h
  have H' := Aside0.mk H
  clear H
  go_enter Tryd.func70, Tryd.ntmps70
  go_wp2
  go_loopg [3] k (fun kq v3 w' => ∃ (x3_1 : Int), v3 = .int .i64 x3_1 ∧ Aside0 (ciceroneref02_place.l0 kq a0 x3_1 = some r) ∧ Aside0 (kq ≤ k) ∧ Drawn0 w w')
  case atStart => exact ⟨(0), (by first | rfl | (simp; done) | (simp [*]; done)), H', ⟨Nat.le_refl _⟩, by repeat (first | exact Drawn0.refl _ | apply Drawn0.step)⟩
  case round =>
    clear H'
    obtain ⟨x3_1, rfl, HA, HK1, ⟨m1, rfl⟩⟩ := hrel
    cases gk with
    | zero => exact absurd HA.out (by simp [ciceroneref02_place.l0])
    | succ k1 =>
      have H := HA.out
      clear HA
      simp only [ciceroneref02_place.l0] at H
      by_cases c2 : x3_1 < (a0.size : Int)
      · rw [if_pos c2] at H
        have c2b0 : decide (x3_1 < (a0.size : Int)) = true := decide_eq_true c2
        clear c2
        by_cases c3 : 0 ≤ x3_1
        · rw [if_pos c3] at H
          have c3b0 : decide (0 ≤ x3_1) = true := decide_eq_true c3
          clear c3
          by_cases c5 : (bt a0 x3_1) = 59
          · rw [if_pos c5] at H
            have c5b0 : ((bt a0 x3_1) == 59) = true := beq_iff_eq.mpr c5
            have c5b1 : ((bt a0 x3_1) != 59) = false := bne_eq_false_iff_eq.mpr c5
            clear c5
            obtain rfl := Option.some.inj H
            have p4 : 0 ≤ (x3_1 : Int) := of_decide_eq_true (by first | (with_reducible assumption) | assumption)
            have q4 : x3_1 < (a0.size : Int) := of_decide_eq_true (by first | (with_reducible assumption) | assumption)
            have hx4 := bt_at a0 x3_1
            replace p4 := eq_true p4
            replace q4 := eq_true q4
            go_wp2
            go_ret
            exact ⟨by first | rfl | (simp; done) | (simp [*]; done), by repeat (first | exact Drawn0.refl _ | apply Drawn0.step)⟩
          · rw [if_neg c5] at H
            have c5b0 : ((bt a0 x3_1) == 59) = false := beq_eq_false_iff_ne.mpr c5
            have c5b1 : ((bt a0 x3_1) != 59) = true := bne_iff_ne.mpr c5
            have H' := Aside0.mk H
            clear H
            have p4 : 0 ≤ (x3_1 : Int) := of_decide_eq_true (by first | (with_reducible assumption) | assumption)
            have q4 : x3_1 < (a0.size : Int) := of_decide_eq_true (by first | (with_reducible assumption) | assumption)
            have hx4 := bt_at a0 x3_1
            replace p4 := eq_true p4
            replace q4 := eq_true q4
            go_wp2
            go_roundg k1
            case measure => have := HK1.out; omega
            case rel => exact ⟨(wrap64 (x3_1 + 1)), (by first | rfl | (simp; done) | (simp [*]; done)), H', ⟨by have := HK1.out; omega⟩, by repeat (first | exact Drawn0.refl _ | apply Drawn0.step)⟩
        · rw [if_neg c3] at H
          exact absurd H (by simp)
      · rw [if_neg c2] at H
        have c2b0 : decide (x3_1 < (a0.size : Int)) = false := decide_eq_false c2
        clear c2
        obtain rfl := Option.some.inj H
        go_wp2
        go_ret
        exact ⟨by first | rfl | (simp; done) | (simp [*]; done), by repeat (first | exact Drawn0.refl _ | apply Drawn0.step)⟩
def ciceroneref02_Maker.f (k : Nat) (a0 : ByteArray) : Option (ByteArray) := (ciceroneref02_place.f k a0).bind fun t308 => (if t308 ≥ 0 then (if 0 ≤ t308 then (if t308 ≤ (a0.size : Int) then (some (a0.extract 0 (t308 : Int).toNat)) else (none)) else (none)) else (some a0))
theorem ciceroneref02_Maker.mono : ∀ a0 k, LeO (ciceroneref02_Maker.f k a0) (ciceroneref02_Maker.f (k + 1) a0) := by
  intro a0 k
  unfold ciceroneref02_Maker.f
  repeat' first
      | (with_reducible exact ciceroneref02_place.mono _ _)
      | (with_reducible exact LeO.refl _)
      | (with_reducible exact LeO.none _)
      | (with_reducible refine LeO.ite ?_ ?_)
      | (with_reducible refine LeO.bind ?_ (fun _ => ?_))
      | exact ciceroneref02_place.mono _ _
      | exact LeO.none _
      | refine LeO.ite ?_ ?_
      | refine LeO.bind ?_ (fun _ => ?_)
set_option maxHeartbeats 8000000 in
set_option maxRecDepth 100000 in
theorem ciceroneref02_Maker.calls (k : Nat) (a0 : ByteArray) (r : ByteArray) (w : World) (h : ciceroneref02_Maker.f k a0 = some r) :
    Calls Tryd.prog 46 #[.string a0] w fun e w' => e = .returned (.string r) ∧ Drawn0 w w' := by
  have H : ((ciceroneref02_place.f k a0).bind fun t308 => (if t308 ≥ 0 then (if 0 ≤ t308 then (if t308 ≤ (a0.size : Int) then (some (a0.extract 0 (t308 : Int).toNat)) else (none)) else (none)) else (some a0))) = some r := h
  clear h
  replace H := Option.bind_eq_some_iff.mp H
  obtain ⟨t308, A20, H⟩ := H
  replace H : (if t308 ≥ 0 then (if 0 ≤ t308 then (if t308 ≤ (a0.size : Int) then (some (a0.extract 0 (t308 : Int).toNat)) else (none)) else (none)) else (some a0)) = some r := H
  have A2 := Aside0.mk A20
  clear A20
  by_cases c3 : t308 ≥ 0
  · rw [if_pos c3] at H
    have c3b0 : decide (0 ≤ t308) = true := decide_eq_true c3
    clear c3
    by_cases c4 : 0 ≤ t308
    · rw [if_pos c4] at H
      have c4b0 := eq_true c4
      have c4b1 : decide (0 ≤ t308) = true := decide_eq_true c4
      clear c4
      by_cases c5 : t308 ≤ (a0.size : Int)
      · rw [if_pos c5] at H
        have c5b0 := eq_true c5
        have c5b1 : decide (t308 ≤ (a0.size : Int)) = true := decide_eq_true c5
        clear c5
        obtain rfl := Option.some.inj H
        go_enter Tryd.func46, Tryd.ntmps46
        go_wp2_with (first | ((with_reducible refine gate_callee (f := 70) rfl ?_); refine goesL_ (some 5) rfl rfl Tryd.func70 (by kernel_rfl) rfl #[.string a0] rfl (by (try simp only [List.map_toArray, List.map_cons, List.map_nil]); first | done | rfl | (simp only [List.length_drop, List.length_take]; rfl)) ?_; (with_reducible refine (ciceroneref02_place.calls k a0 t308 _ A2.out).mono ?_); rintro e w' ⟨rfl, ⟨nd, rfl⟩⟩; refine ⟨_, rfl, ?_⟩))
        go_ret
        exact ⟨by first | rfl | (simp; done) | (simp [*]; done), by repeat (first | exact Drawn0.refl _ | apply Drawn0.step)⟩
      · rw [if_neg c5] at H
        exact absurd H (by simp)
    · rw [if_neg c4] at H
      exact absurd H (by simp)
  · rw [if_neg c3] at H
    have c3b0 : decide (0 ≤ t308) = false := decide_eq_false c3
    clear c3
    obtain rfl := Option.some.inj H
    go_enter Tryd.func46, Tryd.ntmps46
    go_wp2_with (first | ((with_reducible refine gate_callee (f := 70) rfl ?_); refine goesL_ (some 5) rfl rfl Tryd.func70 (by kernel_rfl) rfl #[.string a0] rfl (by (try simp only [List.map_toArray, List.map_cons, List.map_nil]); first | done | rfl | (simp only [List.length_drop, List.length_take]; rfl)) ?_; (with_reducible refine (ciceroneref02_place.calls k a0 t308 _ A2.out).mono ?_); rintro e w' ⟨rfl, ⟨nd, rfl⟩⟩; refine ⟨_, rfl, ?_⟩))
    go_ret
    exact ⟨by first | rfl | (simp; done) | (simp [*]; done), by repeat (first | exact Drawn0.refl _ | apply Drawn0.step)⟩
def ciceroneref15_behind.l0 : Nat → ByteArray → Int → Option (ByteArray)
  | 0, _, _ => none
  | k + 1, x0, x3 => if x3 < (x0.size : Int) then (if 0 ≤ x3 then (if (bt x0 x3) = 59 then (if 0 ≤ (wrap64 (x3 + 1)) then (if (wrap64 (x3 + 1)) ≤ (x0.size : Int) then (some (x0.extract ((wrap64 (x3 + 1)) : Int).toNat x0.size)) else (none)) else (none)) else (ciceroneref15_behind.l0 k x0 (wrap64 (x3 + 1)))) else (none)) else (some (⟨#[]⟩ : ByteArray))
def ciceroneref15_behind.f (k : Nat) (a0 : ByteArray) : Option (ByteArray) := ciceroneref15_behind.l0 k a0 0
theorem ciceroneref15_behind.mono_l : ∀ k, (∀ y0 y1, LeO (ciceroneref15_behind.l0 k y0 y1) (ciceroneref15_behind.l0 (k + 1) y0 y1))
  | 0 => fun _ _ r h => by simp [ciceroneref15_behind.l0] at h
  | k + 1 => by
    have ih0 := ciceroneref15_behind.mono_l k
    · intro y0 y1
      unfold ciceroneref15_behind.l0
      repeat' first
      | (with_reducible exact ih0 _ _)
      | (with_reducible exact LeO.refl _)
      | (with_reducible exact LeO.none _)
      | (with_reducible refine LeO.ite ?_ ?_)
      | (with_reducible refine LeO.bind ?_ (fun _ => ?_))
      | exact ih0 _ _
      | exact LeO.none _
      | refine LeO.ite ?_ ?_
      | refine LeO.bind ?_ (fun _ => ?_)
theorem ciceroneref15_behind.mono : ∀ a0 k, LeO (ciceroneref15_behind.f k a0) (ciceroneref15_behind.f (k + 1) a0) := by
  intro a0 k
  have ih0 := ciceroneref15_behind.mono_l k
  unfold ciceroneref15_behind.f
  repeat' first
      | (with_reducible exact ih0 _ _)
      | (with_reducible exact LeO.refl _)
      | (with_reducible exact LeO.none _)
      | (with_reducible refine LeO.ite ?_ ?_)
      | (with_reducible refine LeO.bind ?_ (fun _ => ?_))
      | exact ih0 _ _
      | exact LeO.none _
      | refine LeO.ite ?_ ?_
      | refine LeO.bind ?_ (fun _ => ?_)
set_option maxHeartbeats 8000000 in
set_option maxRecDepth 100000 in
theorem ciceroneref15_behind.calls (k : Nat) (a0 : ByteArray) (r : ByteArray) (w : World) (h : ciceroneref15_behind.f k a0 = some r) :
    Calls Tryd.prog 47 #[.string a0] w fun e w' => e = .returned (.string r) ∧ Drawn0 w w' := by
  have H : (ciceroneref15_behind.l0 k a0 0) = some r := h
  clear h
  have H' := Aside0.mk H
  clear H
  go_enter Tryd.func47, Tryd.ntmps47
  go_wp2
  go_loopg [3] k (fun kq v3 w' => ∃ (x3_1 : Int), v3 = .int .i64 x3_1 ∧ Aside0 (ciceroneref15_behind.l0 kq a0 x3_1 = some r) ∧ Aside0 (kq ≤ k) ∧ Drawn0 w w')
  case atStart => exact ⟨(0), (by first | rfl | (simp; done) | (simp [*]; done)), H', ⟨Nat.le_refl _⟩, by repeat (first | exact Drawn0.refl _ | apply Drawn0.step)⟩
  case round =>
    clear H'
    obtain ⟨x3_1, rfl, HA, HK1, ⟨m1, rfl⟩⟩ := hrel
    cases gk with
    | zero => exact absurd HA.out (by simp [ciceroneref15_behind.l0])
    | succ k1 =>
      have H := HA.out
      clear HA
      simp only [ciceroneref15_behind.l0] at H
      by_cases c2 : x3_1 < (a0.size : Int)
      · rw [if_pos c2] at H
        have c2b0 : decide (x3_1 < (a0.size : Int)) = true := decide_eq_true c2
        clear c2
        by_cases c3 : 0 ≤ x3_1
        · rw [if_pos c3] at H
          have c3b0 : decide (0 ≤ x3_1) = true := decide_eq_true c3
          clear c3
          by_cases c5 : (bt a0 x3_1) = 59
          · rw [if_pos c5] at H
            have c5b0 : ((bt a0 x3_1) == 59) = true := beq_iff_eq.mpr c5
            have c5b1 : ((bt a0 x3_1) != 59) = false := bne_eq_false_iff_eq.mpr c5
            clear c5
            obtain ⟨ji6, hji6⟩ : ∃ j_ : Int, (wrap64 (x3_1 + 1)) = j_ := ⟨_, rfl⟩
            replace H : (if 0 ≤ (ji6) then (if (ji6) ≤ (a0.size : Int) then (some (a0.extract ((ji6) : Int).toNat a0.size)) else (none)) else (none)) = some r := by first | (rw [hji6] at H; exact H) | (simp only [hji6] at H ⊢; exact H)
            have hji6w : (IntKind.i64.wrap (x3_1 + 1)) = ji6 := (i64_w _).trans hji6
            by_cases c7 : 0 ≤ (ji6)
            · rw [if_pos c7] at H
              have c7b0 := eq_true c7
              have c7b1 : decide (0 ≤ (ji6)) = true := decide_eq_true c7
              clear c7
              by_cases c8 : (ji6) ≤ (a0.size : Int)
              · rw [if_pos c8] at H
                have c8b0 := eq_true c8
                have c8b1 : decide ((ji6) ≤ (a0.size : Int)) = true := decide_eq_true c8
                clear c8
                obtain rfl := Option.some.inj H
                have p4 : 0 ≤ (x3_1 : Int) := of_decide_eq_true (by first | (with_reducible assumption) | assumption)
                have q4 : x3_1 < (a0.size : Int) := of_decide_eq_true (by first | (with_reducible assumption) | assumption)
                have hx4 := bt_at a0 x3_1
                replace p4 := eq_true p4
                replace q4 := eq_true q4
                go_wp2
                go_ret
                exact ⟨by first | rfl | (simp; done) | (simp only [← hji6] <;> (first | rfl | simp)) | (simp [*]; done), by repeat (first | exact Drawn0.refl _ | apply Drawn0.step)⟩
              · rw [if_neg c8] at H
                exact absurd H (by simp)
            · rw [if_neg c7] at H
              exact absurd H (by simp)
          · rw [if_neg c5] at H
            have c5b0 : ((bt a0 x3_1) == 59) = false := beq_eq_false_iff_ne.mpr c5
            have c5b1 : ((bt a0 x3_1) != 59) = true := bne_iff_ne.mpr c5
            have H' := Aside0.mk H
            clear H
            have p4 : 0 ≤ (x3_1 : Int) := of_decide_eq_true (by first | (with_reducible assumption) | assumption)
            have q4 : x3_1 < (a0.size : Int) := of_decide_eq_true (by first | (with_reducible assumption) | assumption)
            have hx4 := bt_at a0 x3_1
            replace p4 := eq_true p4
            replace q4 := eq_true q4
            go_wp2
            go_roundg k1
            case measure => have := HK1.out; omega
            case rel => exact ⟨(wrap64 (x3_1 + 1)), (by first | rfl | (simp; done) | (simp [*]; done)), H', ⟨by have := HK1.out; omega⟩, by repeat (first | exact Drawn0.refl _ | apply Drawn0.step)⟩
        · rw [if_neg c3] at H
          exact absurd H (by simp)
      · rw [if_neg c2] at H
        have c2b0 : decide (x3_1 < (a0.size : Int)) = false := decide_eq_false c2
        clear c2
        obtain rfl := Option.some.inj H
        go_wp2
        go_ret
        exact ⟨by first | rfl | (simp; done) | (simp [*]; done), by repeat (first | exact Drawn0.refl _ | apply Drawn0.step)⟩
mutual
def ciceroneref15_At.l0 : Nat → List (S37) → ByteArray → Int → Bool → Bool → Int → ByteArray → ByteArray → ByteArray → Int → Int → Int → Bool → Option (ByteArray × ByteArray × ByteArray × Int × Int × Int × Bool × Bool)
  | 0, _, _, _, _, _, _, _, _, _, _, _, _, _ => none
  | k + 1, x0, x1, x2, x9, x10, x11, x311000, x311001, x311002, x311003, x311004, x311005, x311006 => if x11 < (x0.length : Int) then (if 0 ≤ x11 then (if ((rd_T37 x0 x11).f5).toList = x1.toList then (ciceroneref15_At.j1 k x0 x1 x2 x9 x10 x11 (decide (((rd_T37 x0 x11).f2) > x2)) x311000 x311001 x311002 x311003 x311004 x311005 x311006 ((rd_T37 x0 x11).f0) ((rd_T37 x0 x11).f1) ((rd_T37 x0 x11).f2) ((rd_T37 x0 x11).f3) ((rd_T37 x0 x11).f4) ((rd_T37 x0 x11).f5) ((rd_T37 x0 x11).f6) ((rd_T37 x0 x11).f7)) else (ciceroneref15_At.j1 k x0 x1 x2 x9 x10 x11 true x311000 x311001 x311002 x311003 x311004 x311005 x311006 ((rd_T37 x0 x11).f0) ((rd_T37 x0 x11).f1) ((rd_T37 x0 x11).f2) ((rd_T37 x0 x11).f3) ((rd_T37 x0 x11).f4) ((rd_T37 x0 x11).f5) ((rd_T37 x0 x11).f6) ((rd_T37 x0 x11).f7))) else (none)) else (some (x311000, x311001, x311002, x311003, x311004, x311005, x311006, x9))
def ciceroneref15_At.j1 : Nat → List (S37) → ByteArray → Int → Bool → Bool → Int → Bool → ByteArray → ByteArray → ByteArray → Int → Int → Int → Bool → ByteArray → Int → Int → Int → ByteArray → ByteArray → Int → ByteArray → Option (ByteArray × ByteArray × ByteArray × Int × Int × Int × Bool × Bool)
  | 0, _, _, _, _, _, _, _, _, _, _, _, _, _, _, _, _, _, _, _, _, _, _ => none
  | k + 1, x0, x1, x2, x9, x10, x11, x33, x311000, x311001, x311002, x311003, x311004, x311005, x311006, x313000, x313001, x313002, x313003, x313004, x313005, x313006, x313007 => if x33 = true then (ciceroneref15_At.l0 k x0 x1 x2 x9 x10 (wrap64 (x11 + 1)) x311000 x311001 x311002 x311003 x311004 x311005 x311006) else (if x313003 = 11 then ((ciceroneref02_Maker.f k x313007).bind fun t313 => ((ciceroneref15_behind.f k x313007).bind fun t314 => (if x10 = true then (ciceroneref15_At.l0 k x0 x1 x2 true x10 (wrap64 (x11 + 1)) x1 t313 t314 x311003 x313006 x311005 true) else (ciceroneref15_At.l0 k x0 x1 x2 true true (wrap64 (x11 + 1)) x1 t313 t314 x311003 x313006 x313002 true)))) else (if x313003 = 13 then (ciceroneref15_At.l0 k x0 x1 x2 true x10 (wrap64 (x11 + 1)) x1 x311001 x311002 x311003 x311004 x311005 false) else (if x313003 = 12 then (ciceroneref15_At.l0 k x0 x1 x2 true x10 (wrap64 (x11 + 1)) x1 x311001 x311002 x313006 x311004 x311005 x311006) else (ciceroneref15_At.l0 k x0 x1 x2 true x10 (wrap64 (x11 + 1)) x1 x311001 x311002 x311003 x311004 x311005 x311006))))
end
def ciceroneref15_At.f (k : Nat) (l0 : List (S37)) (a1 : ByteArray) (a2 : Int) : Option (ByteArray × ByteArray × ByteArray × Int × Int × Int × Bool × Bool) := ciceroneref15_At.l0 k l0 a1 a2 false false 0 (⟨#[]⟩ : ByteArray) (⟨#[]⟩ : ByteArray) (⟨#[]⟩ : ByteArray) 0 0 0 false
theorem ciceroneref15_At.mono_l : ∀ k, (∀ y0 y1 y2 y3 y4 y5 y6 y7 y8 y9 y10 y11 y12, LeO (ciceroneref15_At.l0 k y0 y1 y2 y3 y4 y5 y6 y7 y8 y9 y10 y11 y12) (ciceroneref15_At.l0 (k + 1) y0 y1 y2 y3 y4 y5 y6 y7 y8 y9 y10 y11 y12)) ∧ (∀ y0 y1 y2 y3 y4 y5 y6 y7 y8 y9 y10 y11 y12 y13 y14 y15 y16 y17 y18 y19 y20 y21, LeO (ciceroneref15_At.j1 k y0 y1 y2 y3 y4 y5 y6 y7 y8 y9 y10 y11 y12 y13 y14 y15 y16 y17 y18 y19 y20 y21) (ciceroneref15_At.j1 (k + 1) y0 y1 y2 y3 y4 y5 y6 y7 y8 y9 y10 y11 y12 y13 y14 y15 y16 y17 y18 y19 y20 y21))
  | 0 => ⟨fun _ _ _ _ _ _ _ _ _ _ _ _ _ r h => by simp [ciceroneref15_At.l0] at h, fun _ _ _ _ _ _ _ _ _ _ _ _ _ _ _ _ _ _ _ _ _ _ r h => by simp [ciceroneref15_At.j1] at h⟩
  | k + 1 => by
    obtain ⟨ih0, ih1⟩ := ciceroneref15_At.mono_l k
    refine ⟨?_, ?_⟩
    · intro y0 y1 y2 y3 y4 y5 y6 y7 y8 y9 y10 y11 y12
      unfold ciceroneref15_At.l0
      repeat' first
      | (with_reducible exact ih0 _ _ _ _ _ _ _ _ _ _ _ _ _)
      | (with_reducible exact ih1 _ _ _ _ _ _ _ _ _ _ _ _ _ _ _ _ _ _ _ _ _ _)
      | (with_reducible exact ciceroneref02_Maker.mono _ _)
      | (with_reducible exact ciceroneref15_behind.mono _ _)
      | (with_reducible exact LeO.refl _)
      | (with_reducible exact LeO.none _)
      | (with_reducible refine LeO.ite ?_ ?_)
      | (with_reducible refine LeO.bind ?_ (fun _ => ?_))
      | exact ih0 _ _ _ _ _ _ _ _ _ _ _ _ _
      | exact ih1 _ _ _ _ _ _ _ _ _ _ _ _ _ _ _ _ _ _ _ _ _ _
      | exact ciceroneref02_Maker.mono _ _
      | exact ciceroneref15_behind.mono _ _
      | exact LeO.none _
      | refine LeO.ite ?_ ?_
      | refine LeO.bind ?_ (fun _ => ?_)
    · intro y0 y1 y2 y3 y4 y5 y6 y7 y8 y9 y10 y11 y12 y13 y14 y15 y16 y17 y18 y19 y20 y21
      unfold ciceroneref15_At.j1
      repeat' first
      | (with_reducible exact ih0 _ _ _ _ _ _ _ _ _ _ _ _ _)
      | (with_reducible exact ih1 _ _ _ _ _ _ _ _ _ _ _ _ _ _ _ _ _ _ _ _ _ _)
      | (with_reducible exact ciceroneref02_Maker.mono _ _)
      | (with_reducible exact ciceroneref15_behind.mono _ _)
      | (with_reducible exact LeO.refl _)
      | (with_reducible exact LeO.none _)
      | (with_reducible refine LeO.ite ?_ ?_)
      | (with_reducible refine LeO.bind ?_ (fun _ => ?_))
      | exact ih0 _ _ _ _ _ _ _ _ _ _ _ _ _
      | exact ih1 _ _ _ _ _ _ _ _ _ _ _ _ _ _ _ _ _ _ _ _ _ _
      | exact ciceroneref02_Maker.mono _ _
      | exact ciceroneref15_behind.mono _ _
      | exact LeO.none _
      | refine LeO.ite ?_ ?_
      | refine LeO.bind ?_ (fun _ => ?_)
theorem ciceroneref15_At.mono : ∀ a0 a1 a2 k, LeO (ciceroneref15_At.f k a0 a1 a2) (ciceroneref15_At.f (k + 1) a0 a1 a2) := by
  intro a0 a1 a2 k
  obtain ⟨ih0, ih1⟩ := ciceroneref15_At.mono_l k
  unfold ciceroneref15_At.f
  repeat' first
      | (with_reducible exact ih0 _ _ _ _ _ _ _ _ _ _ _ _ _)
      | (with_reducible exact ih1 _ _ _ _ _ _ _ _ _ _ _ _ _ _ _ _ _ _ _ _ _ _)
      | (with_reducible exact ciceroneref02_Maker.mono _ _)
      | (with_reducible exact ciceroneref15_behind.mono _ _)
      | (with_reducible exact LeO.refl _)
      | (with_reducible exact LeO.none _)
      | (with_reducible refine LeO.ite ?_ ?_)
      | (with_reducible refine LeO.bind ?_ (fun _ => ?_))
      | exact ih0 _ _ _ _ _ _ _ _ _ _ _ _ _
      | exact ih1 _ _ _ _ _ _ _ _ _ _ _ _ _ _ _ _ _ _ _ _ _ _
      | exact ciceroneref02_Maker.mono _ _
      | exact ciceroneref15_behind.mono _ _
      | exact LeO.none _
      | refine LeO.ite ?_ ?_
      | refine LeO.bind ?_ (fun _ => ?_)
def ciceroneref15_At.T11 : Bool × List (List Nat × List Nat) := (true, [([], []), ([0], [0]), ([1], [1]), ([], []), ([3], [3]), ([4, 2], [4]), ([], []), ([6], [6]), ([], []), ([8, 5], [8]), ([0, 1, 2, 8, 9], []), ([10, 2, 9, 0, 1, 2, 8, 9], [2, 10]), ([0, 1, 2, 3, 4, 5, 8, 9, 10, 11], []), ([12, 5, 11, 0, 1, 2, 3, 4, 5, 8, 9, 10, 11], [5, 12]), ([0, 1, 2, 3, 4, 5, 6, 7, 8, 9, 10, 11, 12, 13], []), ([14, 7, 13, 0, 1, 2, 3, 4, 5, 6, 7, 8, 9, 10, 11, 12, 13], [7, 14])])
def ciceroneref15_At.B11 : List Nat := [0, 1, 3, 0, 8, 31, 0, 64, 0, 319, 831, 1855, 3903, 7999, 16383, 32767]
theorem ciceroneref15_At.tab11 : rtab .any (opsOf Tryd.f30 11) = ciceroneref15_At.T11 := by kernel_rfl
theorem ciceroneref15_At.bits11 : waitsOk ciceroneref15_At.T11.2 ciceroneref15_At.B11 = true := by kernel_rfl
set_option maxHeartbeats 8000000 in
set_option maxRecDepth 100000 in
theorem ciceroneref15_At.calls (k : Nat) (A0 : Option Addr) (c0 : Nat) (l0 : List (S37)) (a1 : ByteArray) (a2 : Int) (r1 : ByteArray) (r2 : ByteArray) (r3 : ByteArray) (r4 : Int) (r5 : Int) (r6 : Int) (r7 : Bool) (r8 : Bool) (w : World) (hr0 : Kd.C k37 w A0 l0.length l0) (hc0 : l0.length ≤ c0) (h : ciceroneref15_At.f k l0 a1 a2 = some (r1, r2, r3, r4, r5, r6, r7, r8)) :
    Calls Tryd.prog 30 #[.slice A0 l0.length c0, .string a1, .int .i64 a2] w fun e w' => e = .returned (.tuple #[.agg #[.string r1, .string r2, .string r3, .int .i64 r4, .int .i64 r5, .int .i64 r6, .bool r7], .bool r8]) ∧ Below w.heap.size w w' := by
  have hu64 := Tryd.underlying64
  have hu37 := Tryd.underlying37
  have HR0 := Aside0.mk hr0
  have HC0 := Aside0.mk hc0
  clear hr0 hc0
  have HB := Aside0.mk (Below.refl w.heap.size w)
  have H : (ciceroneref15_At.l0 k l0 a1 a2 false false 0 (⟨#[]⟩ : ByteArray) (⟨#[]⟩ : ByteArray) (⟨#[]⟩ : ByteArray) 0 0 0 false) = some (r1, r2, r3, r4, r5, r6, r7, r8) := h
  clear h
  have H' := Aside0.mk H
  clear H
  go_enter Tryd.func30, Tryd.ntmps30
  go_wp2_with (first | ((with_reducible refine gate_dst (N := 6) rfl ?_); refine box_event ?hg (N := 6) ?hd (cs := #[.string (⟨#[]⟩ : ByteArray), .string (⟨#[]⟩ : ByteArray), .string (⟨#[]⟩ : ByteArray), .int .i64 0, .int .i64 0, .int .i64 0, .bool false]) (t := 64) ?hr ?_; (case hd => rfl); (case hg => rfl); (case hr => first | (go_simp; done) | (go_simp; rfl)); intro gb309 hg w4 hbox hb; have n0_ := Aside0.mk (below_step (by repeat (first | (with_reducible first | exact HB.out | apply below_alloc | apply pw_below_drewN | apply below_drew1) | exact HB.out)) hb); have n1_ := Aside0.mk (hbox); have n2_ := Aside0.mk ((by rw [hg]; exact (below_size (by repeat (first | (with_reducible first | exact HB.out | apply below_alloc | apply pw_below_drewN | apply below_drew1) | exact HB.out))) : w.heap.size ≤ gb309)); have n3_ := Aside0.mk ((by rw [hg]; exact (below_size (by repeat (first | (with_reducible first | exact HB.out | apply below_alloc | apply pw_below_drewN | apply below_drew1) | exact HB.out))) : w.heap.size ≤ gb309)); clear HB; have HB := n0_; have BK309 := n1_; have GW309 := n2_; have GE309 := n3_; clear n0_ n1_ n2_ n3_; clear hb hbox hg) | ((with_reducible refine gate_dst (N := 8) rfl ?_); refine box_event ?hg (N := 8) ?hd (cs := #[.string (⟨#[]⟩ : ByteArray), .string (⟨#[]⟩ : ByteArray), .string (⟨#[]⟩ : ByteArray), .int .i64 0, .int .i64 0, .int .i64 0, .bool false]) (t := 64) ?hr ?_; (case hd => rfl); (case hg => rfl); (case hr => first | (go_simp; done) | (go_simp; rfl)); intro gb310 hg w5 hbox hb; have n0_ := Aside0.mk (blk_below (g := gb309) (o := .cells #[.string (⟨#[]⟩ : ByteArray), .string (⟨#[]⟩ : ByteArray), .string (⟨#[]⟩ : ByteArray), .int .i64 0, .int .i64 0, .int .i64 0, .bool false] 64 (0, 0)) (by (with_reducible repeat (first | refine blk_drewN ?_ _ | refine blk_drew ?_ | refine blk_alloc ?_ _)); exact BK309.out) hb); have n1_ := Aside0.mk (below_step (by repeat (first | (with_reducible first | exact HB.out | apply below_alloc | apply pw_below_drewN | apply below_drew1 | refine below_set ?_ GE309.out) | exact HB.out)) hb); have n2_ := Aside0.mk (hbox); have n3_ := Aside0.mk ((by rw [hg]; exact (below_size (by repeat (first | (with_reducible first | exact HB.out | apply below_alloc | apply pw_below_drewN | apply below_drew1 | refine below_set ?_ GE309.out) | exact HB.out))) : w.heap.size ≤ gb310)); have n4_ := Aside0.mk ((by rw [hg]; exact (below_size (by repeat (first | (with_reducible first | exact HB.out | apply below_alloc | apply pw_below_drewN | apply below_drew1 | refine below_set ?_ GE309.out) | exact HB.out))) : w.heap.size ≤ gb310)); have n5_ := Aside0.mk ((by rw [hg]; exact Nat.ne_of_lt (blk_lt (g := gb309) (o := .cells #[.string (⟨#[]⟩ : ByteArray), .string (⟨#[]⟩ : ByteArray), .string (⟨#[]⟩ : ByteArray), .int .i64 0, .int .i64 0, .int .i64 0, .bool false] 64 (0, 0)) (by (with_reducible repeat (first | refine blk_drewN ?_ _ | refine blk_drew ?_ | refine blk_alloc ?_ _)); exact BK309.out)) : gb309 ≠ gb310)); have n6_ := Aside0.mk ((by rw [hg]; exact Nat.ne_of_gt (blk_lt (g := gb309) (o := .cells #[.string (⟨#[]⟩ : ByteArray), .string (⟨#[]⟩ : ByteArray), .string (⟨#[]⟩ : ByteArray), .int .i64 0, .int .i64 0, .int .i64 0, .bool false] 64 (0, 0)) (by (with_reducible repeat (first | refine blk_drewN ?_ _ | refine blk_drew ?_ | refine blk_alloc ?_ _)); exact BK309.out)) : gb310 ≠ gb309)); clear BK309; clear HB; have BK309 := n0_; have HB := n1_; have BK310 := n2_; have GW310 := n3_; have GE310 := n4_; have NB309_310 := n5_; have NB310_309 := n6_; clear n0_ n1_ n2_ n3_ n4_ n5_ n6_; clear hb hbox hg; have hnb6 := NB310_309.out; have hnc6 := NB309_310.out; have hcz7_0 : w5.cell? ⟨gb310, 0, none⟩ = some (.string (⟨#[]⟩ : ByteArray)) := (blk_cell BK310.out 0).trans rfl; have hcz7_1 : w5.cell? ⟨gb310, 1, none⟩ = some (.string (⟨#[]⟩ : ByteArray)) := (blk_cell BK310.out 1).trans rfl; have hcz7_2 : w5.cell? ⟨gb310, 2, none⟩ = some (.string (⟨#[]⟩ : ByteArray)) := (blk_cell BK310.out 2).trans rfl; have hcz7_3 : w5.cell? ⟨gb310, 3, none⟩ = some (.int .i64 0) := (blk_cell BK310.out 3).trans rfl; have hcz7_4 : w5.cell? ⟨gb310, 4, none⟩ = some (.int .i64 0) := (blk_cell BK310.out 4).trans rfl; have hcz7_5 : w5.cell? ⟨gb310, 5, none⟩ = some (.int .i64 0) := (blk_cell BK310.out 5).trans rfl; have hcz7_6 : w5.cell? ⟨gb310, 6, none⟩ = some (.bool false) := (blk_cell BK310.out 6).trans rfl; have hfz7_0 := blk_frozen BK310.out 0; have hfz7_1 := blk_frozen BK310.out 1; have hfz7_2 := blk_frozen BK310.out 2; have hfz7_3 := blk_frozen BK310.out 3; have hfz7_4 := blk_frozen BK310.out 4; have hfz7_5 := blk_frozen BK310.out 5; have hfz7_6 := blk_frozen BK310.out 6))
  go_loopg [9, 10, 11] k (fun kq v9 v10 v11 w' => ∃ (x9_1 : Bool) (x10_1 : Bool) (x11_1 : Int) (x311000_1 : ByteArray) (x311001_1 : ByteArray) (x311002_1 : ByteArray) (x311003_1 : Int) (x311004_1 : Int) (x311005_1 : Int) (x311006_1 : Bool), v9 = .bool x9_1 ∧ v10 = .bool x10_1 ∧ v11 = .int .i64 x11_1 ∧ Aside0 (ciceroneref15_At.l0 kq l0 a1 a2 x9_1 x10_1 x11_1 x311000_1 x311001_1 x311002_1 x311003_1 x311004_1 x311005_1 x311006_1 = some (r1, r2, r3, r4, r5, r6, r7, r8)) ∧ Aside0 (kq ≤ k) ∧ Aside0 (w'.heap[gb309]? = some (.cells #[.string (⟨#[]⟩ : ByteArray), .string (⟨#[]⟩ : ByteArray), .string (⟨#[]⟩ : ByteArray), .int .i64 0, .int .i64 0, .int .i64 0, .bool false] 64 (0, 0))) ∧ Aside0 (w'.heap[gb310]? = some (.cells #[.string x311000_1, .string x311001_1, .string x311002_1, .int .i64 x311003_1, .int .i64 x311004_1, .int .i64 x311005_1, .bool x311006_1] 64 (0, 0))) ∧ Aside0 (Below w.heap.size w w'))
  case atStart => exact ⟨(false), (false), (0), ((⟨#[]⟩ : ByteArray)), ((⟨#[]⟩ : ByteArray)), ((⟨#[]⟩ : ByteArray)), (0), (0), (0), (false), (by first | rfl | (simp; done) | (simp [*]; done)), (by first | rfl | (simp; done) | (simp [*]; done)), (by first | rfl | (simp; done) | (simp [*]; done)), H', ⟨Nat.le_refl _⟩, ⟨by (with_reducible repeat (first | refine blk_drewN ?_ _ | refine blk_drew ?_ | refine blk_alloc ?_ _)); refine blk_far ?_ NB309_310.out _; (with_reducible repeat (first | refine blk_drewN ?_ _ | refine blk_drew ?_ | refine blk_alloc ?_ _)); refine blk_far ?_ NB309_310.out _; (with_reducible repeat (first | refine blk_drewN ?_ _ | refine blk_drew ?_ | refine blk_alloc ?_ _)); refine blk_far ?_ NB309_310.out _; (with_reducible repeat (first | refine blk_drewN ?_ _ | refine blk_drew ?_ | refine blk_alloc ?_ _)); refine blk_far ?_ NB309_310.out _; (with_reducible repeat (first | refine blk_drewN ?_ _ | refine blk_drew ?_ | refine blk_alloc ?_ _)); refine blk_far ?_ NB309_310.out _; (with_reducible repeat (first | refine blk_drewN ?_ _ | refine blk_drew ?_ | refine blk_alloc ?_ _)); refine blk_far ?_ NB309_310.out _; (with_reducible repeat (first | refine blk_drewN ?_ _ | refine blk_drew ?_ | refine blk_alloc ?_ _)); refine blk_far ?_ NB309_310.out _; (with_reducible repeat (first | refine blk_drewN ?_ _ | refine blk_drew ?_ | refine blk_alloc ?_ _)); exact BK309.out⟩, ⟨by (with_reducible repeat (first | refine blk_drewN ?_ _ | refine blk_drew ?_ | refine blk_alloc ?_ _)); refine blk_put (cs := #[.string (⟨#[]⟩ : ByteArray), .string (⟨#[]⟩ : ByteArray), .string (⟨#[]⟩ : ByteArray), .int .i64 0, .int .i64 0, .int .i64 0, .bool false]) ?_ 6 _ rfl; (with_reducible repeat (first | refine blk_drewN ?_ _ | refine blk_drew ?_ | refine blk_alloc ?_ _)); refine blk_put (cs := #[.string (⟨#[]⟩ : ByteArray), .string (⟨#[]⟩ : ByteArray), .string (⟨#[]⟩ : ByteArray), .int .i64 0, .int .i64 0, .int .i64 0, .bool false]) ?_ 5 _ rfl; (with_reducible repeat (first | refine blk_drewN ?_ _ | refine blk_drew ?_ | refine blk_alloc ?_ _)); refine blk_put (cs := #[.string (⟨#[]⟩ : ByteArray), .string (⟨#[]⟩ : ByteArray), .string (⟨#[]⟩ : ByteArray), .int .i64 0, .int .i64 0, .int .i64 0, .bool false]) ?_ 4 _ rfl; (with_reducible repeat (first | refine blk_drewN ?_ _ | refine blk_drew ?_ | refine blk_alloc ?_ _)); refine blk_put (cs := #[.string (⟨#[]⟩ : ByteArray), .string (⟨#[]⟩ : ByteArray), .string (⟨#[]⟩ : ByteArray), .int .i64 0, .int .i64 0, .int .i64 0, .bool false]) ?_ 3 _ rfl; (with_reducible repeat (first | refine blk_drewN ?_ _ | refine blk_drew ?_ | refine blk_alloc ?_ _)); refine blk_put (cs := #[.string (⟨#[]⟩ : ByteArray), .string (⟨#[]⟩ : ByteArray), .string (⟨#[]⟩ : ByteArray), .int .i64 0, .int .i64 0, .int .i64 0, .bool false]) ?_ 2 _ rfl; (with_reducible repeat (first | refine blk_drewN ?_ _ | refine blk_drew ?_ | refine blk_alloc ?_ _)); refine blk_put (cs := #[.string (⟨#[]⟩ : ByteArray), .string (⟨#[]⟩ : ByteArray), .string (⟨#[]⟩ : ByteArray), .int .i64 0, .int .i64 0, .int .i64 0, .bool false]) ?_ 1 _ rfl; (with_reducible repeat (first | refine blk_drewN ?_ _ | refine blk_drew ?_ | refine blk_alloc ?_ _)); refine blk_put (cs := #[.string (⟨#[]⟩ : ByteArray), .string (⟨#[]⟩ : ByteArray), .string (⟨#[]⟩ : ByteArray), .int .i64 0, .int .i64 0, .int .i64 0, .bool false]) ?_ 0 _ rfl; (with_reducible repeat (first | refine blk_drewN ?_ _ | refine blk_drew ?_ | refine blk_alloc ?_ _)); exact BK310.out⟩, ⟨by repeat (first | (with_reducible first | exact HB.out | apply below_alloc | apply pw_below_drewN | apply below_drew1 | refine below_set ?_ GE309.out | refine below_set ?_ GE310.out) | exact HB.out)⟩⟩
  case round =>
    clear H'
    try clear p2
    try clear c3
    try clear c6
    try clear hcz7_0
    try clear hcz7_1
    try clear hcz7_2
    try clear hcz7_3
    try clear hcz7_4
    try clear hcz7_5
    try clear hcz7_6
    try clear hfz7_0
    try clear hfz7_1
    try clear hfz7_2
    try clear hfz7_3
    try clear hfz7_4
    try clear hfz7_5
    try clear hfz7_6
    obtain ⟨x9_1, x10_1, x11_1, x311000_1, x311001_1, x311002_1, x311003_1, x311004_1, x311005_1, x311006_1, rfl, rfl, rfl, HA, HK1, BK309, BK310, HB⟩ := hrel
    cases gk with
    | zero => exact absurd HA.out (by simp [ciceroneref15_At.l0])
    | succ k1 =>
      have H := HA.out
      clear HA
      simp only [ciceroneref15_At.l0] at H
      by_cases c8 : x11_1 < (l0.length : Int)
      · rw [if_pos c8] at H
        have c8b0 : decide (x11_1 < (l0.length : Int)) = true := decide_eq_true c8
        clear c8
        by_cases c9 : 0 ≤ x11_1
        · rw [if_pos c9] at H
          have c9b0 : decide (0 ≤ x11_1) = true := decide_eq_true c9
          clear c9
          have HC10 := Aside0.mk H
          clear H
          have p311 : 0 ≤ (x11_1 : Int) := of_decide_eq_true (by first | (with_reducible assumption) | assumption)
          have q311 : x11_1 < (l0.length : Int) := of_decide_eq_true (by first | (with_reducible assumption) | assumption)
          obtain ⟨ad311, e311, hx311_0, hx311_1, hx311_2, hx311_3, hx311_4, hx311_5, hx311_6, hx311_7⟩ := at_T37 HR0.out x11_1 p311 q311
          cases e311
          replace hx311_0 := (HB.out.cell (World.block_lt_of_cell? w _ hx311_0)).trans hx311_0
          replace hx311_1 := (HB.out.cell (World.block_lt_of_cell? w _ hx311_1)).trans hx311_1
          replace hx311_2 := (HB.out.cell (World.block_lt_of_cell? w _ hx311_2)).trans hx311_2
          replace hx311_3 := (HB.out.cell (World.block_lt_of_cell? w _ hx311_3)).trans hx311_3
          replace hx311_4 := (HB.out.cell (World.block_lt_of_cell? w _ hx311_4)).trans hx311_4
          replace hx311_5 := (HB.out.cell (World.block_lt_of_cell? w _ hx311_5)).trans hx311_5
          replace hx311_6 := (HB.out.cell (World.block_lt_of_cell? w _ hx311_6)).trans hx311_6
          replace hx311_7 := (HB.out.cell (World.block_lt_of_cell? w _ hx311_7)).trans hx311_7
          replace p311 := eq_true p311
          replace q311 := eq_true q311
          go_upto_region 6 with (first | ((with_reducible refine gate_dst (N := 12) rfl ?_); refine box_event ?hg (N := 12) ?hd (cs := #[.string (⟨#[]⟩ : ByteArray), .int .i64 0, .int .i64 0, .int .i64 0, .string (⟨#[]⟩ : ByteArray), .string (⟨#[]⟩ : ByteArray), .int .i64 0, .string (⟨#[]⟩ : ByteArray)]) (t := 37) ?hr ?_; (case hd => rfl); (case hg => rfl); (case hr => first | (go_simp; done) | (go_simp; rfl)); intro gb312 hg w11 hbox hb; have n0_ := Aside0.mk (blk_below (g := gb309) (o := .cells #[.string (⟨#[]⟩ : ByteArray), .string (⟨#[]⟩ : ByteArray), .string (⟨#[]⟩ : ByteArray), .int .i64 0, .int .i64 0, .int .i64 0, .bool false] 64 (0, 0)) (by (with_reducible repeat (first | refine blk_drewN ?_ _ | refine blk_drew ?_ | refine blk_alloc ?_ _)); exact BK309.out) hb); have n1_ := Aside0.mk (blk_below (g := gb310) (o := .cells #[.string x311000_1, .string x311001_1, .string x311002_1, .int .i64 x311003_1, .int .i64 x311004_1, .int .i64 x311005_1, .bool x311006_1] 64 (0, 0)) (by (with_reducible repeat (first | refine blk_drewN ?_ _ | refine blk_drew ?_ | refine blk_alloc ?_ _)); exact BK310.out) hb); have n2_ := Aside0.mk (below_step (by repeat (first | (with_reducible first | exact HB.out | apply below_alloc | apply pw_below_drewN | apply below_drew1 | refine below_set ?_ GE309.out | refine below_set ?_ GE310.out) | exact HB.out)) hb); have n3_ := Aside0.mk (hbox); have n4_ := Aside0.mk ((by rw [hg]; exact (below_size (by repeat (first | (with_reducible first | exact HB.out | apply below_alloc | apply pw_below_drewN | apply below_drew1 | refine below_set ?_ GE309.out | refine below_set ?_ GE310.out) | exact HB.out))) : w.heap.size ≤ gb312)); have n5_ := Aside0.mk ((by rw [hg]; exact (below_size (by repeat (first | (with_reducible first | exact HB.out | apply below_alloc | apply pw_below_drewN | apply below_drew1 | refine below_set ?_ GE309.out | refine below_set ?_ GE310.out) | exact HB.out))) : w.heap.size ≤ gb312)); have n6_ := Aside0.mk ((by rw [hg]; exact Nat.ne_of_lt (blk_lt (g := gb309) (o := .cells #[.string (⟨#[]⟩ : ByteArray), .string (⟨#[]⟩ : ByteArray), .string (⟨#[]⟩ : ByteArray), .int .i64 0, .int .i64 0, .int .i64 0, .bool false] 64 (0, 0)) (by (with_reducible repeat (first | refine blk_drewN ?_ _ | refine blk_drew ?_ | refine blk_alloc ?_ _)); exact BK309.out)) : gb309 ≠ gb312)); have n7_ := Aside0.mk ((by rw [hg]; exact Nat.ne_of_gt (blk_lt (g := gb309) (o := .cells #[.string (⟨#[]⟩ : ByteArray), .string (⟨#[]⟩ : ByteArray), .string (⟨#[]⟩ : ByteArray), .int .i64 0, .int .i64 0, .int .i64 0, .bool false] 64 (0, 0)) (by (with_reducible repeat (first | refine blk_drewN ?_ _ | refine blk_drew ?_ | refine blk_alloc ?_ _)); exact BK309.out)) : gb312 ≠ gb309)); have n8_ := Aside0.mk ((by rw [hg]; exact Nat.ne_of_lt (blk_lt (g := gb310) (o := .cells #[.string x311000_1, .string x311001_1, .string x311002_1, .int .i64 x311003_1, .int .i64 x311004_1, .int .i64 x311005_1, .bool x311006_1] 64 (0, 0)) (by (with_reducible repeat (first | refine blk_drewN ?_ _ | refine blk_drew ?_ | refine blk_alloc ?_ _)); exact BK310.out)) : gb310 ≠ gb312)); have n9_ := Aside0.mk ((by rw [hg]; exact Nat.ne_of_gt (blk_lt (g := gb310) (o := .cells #[.string x311000_1, .string x311001_1, .string x311002_1, .int .i64 x311003_1, .int .i64 x311004_1, .int .i64 x311005_1, .bool x311006_1] 64 (0, 0)) (by (with_reducible repeat (first | refine blk_drewN ?_ _ | refine blk_drew ?_ | refine blk_alloc ?_ _)); exact BK310.out)) : gb312 ≠ gb310)); clear BK309; clear BK310; clear HB; have BK309 := n0_; have BK310 := n1_; have HB := n2_; have BK312 := n3_; have GW312 := n4_; have GE312 := n5_; have NB309_312 := n6_; have NB312_309 := n7_; have NB310_312 := n8_; have NB312_310 := n9_; clear n0_ n1_ n2_ n3_ n4_ n5_ n6_ n7_ n8_ n9_; clear hb hbox hg; have hnb12 := NB312_309.out; have hnc12 := NB309_312.out; have hnb13 := NB312_310.out; have hnc13 := NB310_312.out; have hcz14_0 : w11.cell? ⟨gb312, 0, none⟩ = some (.string (⟨#[]⟩ : ByteArray)) := (blk_cell BK312.out 0).trans rfl; have hcz14_1 : w11.cell? ⟨gb312, 1, none⟩ = some (.int .i64 0) := (blk_cell BK312.out 1).trans rfl; have hcz14_2 : w11.cell? ⟨gb312, 2, none⟩ = some (.int .i64 0) := (blk_cell BK312.out 2).trans rfl; have hcz14_3 : w11.cell? ⟨gb312, 3, none⟩ = some (.int .i64 0) := (blk_cell BK312.out 3).trans rfl; have hcz14_4 : w11.cell? ⟨gb312, 4, none⟩ = some (.string (⟨#[]⟩ : ByteArray)) := (blk_cell BK312.out 4).trans rfl; have hcz14_5 : w11.cell? ⟨gb312, 5, none⟩ = some (.string (⟨#[]⟩ : ByteArray)) := (blk_cell BK312.out 5).trans rfl; have hcz14_6 : w11.cell? ⟨gb312, 6, none⟩ = some (.int .i64 0) := (blk_cell BK312.out 6).trans rfl; have hcz14_7 : w11.cell? ⟨gb312, 7, none⟩ = some (.string (⟨#[]⟩ : ByteArray)) := (blk_cell BK312.out 7).trans rfl; have hfz14_0 := blk_frozen BK312.out 0; have hfz14_1 := blk_frozen BK312.out 1; have hfz14_2 := blk_frozen BK312.out 2; have hfz14_3 := blk_frozen BK312.out 3; have hfz14_4 := blk_frozen BK312.out 4; have hfz14_5 := blk_frozen BK312.out 5; have hfz14_6 := blk_frozen BK312.out 6; have hfz14_7 := blk_frozen BK312.out 7))
          (try simp only [Act.put, List.setIfInBounds_toArray, List.set_cons_zero, List.set_cons_succ])
          go_cut [33] (fun v33 wc => ∃ (kq : Nat) (x33_9 : Bool), v33 = .bool x33_9 ∧ Aside0 (ciceroneref15_At.j1 kq l0 a1 a2 x9_1 x10_1 x11_1 x33_9 x311000_1 x311001_1 x311002_1 x311003_1 x311004_1 x311005_1 x311006_1 ((rd_T37 l0 x11_1).f0) ((rd_T37 l0 x11_1).f1) ((rd_T37 l0 x11_1).f2) ((rd_T37 l0 x11_1).f3) ((rd_T37 l0 x11_1).f4) ((rd_T37 l0 x11_1).f5) ((rd_T37 l0 x11_1).f6) ((rd_T37 l0 x11_1).f7) = some (r1, r2, r3, r4, r5, r6, r7, r8)) ∧ Aside0 (kq ≤ k1) ∧ Aside0 (wc.heap[gb309]? = some (.cells #[.string (⟨#[]⟩ : ByteArray), .string (⟨#[]⟩ : ByteArray), .string (⟨#[]⟩ : ByteArray), .int .i64 0, .int .i64 0, .int .i64 0, .bool false] 64 (0, 0))) ∧ Aside0 (wc.heap[gb310]? = some (.cells #[.string x311000_1, .string x311001_1, .string x311002_1, .int .i64 x311003_1, .int .i64 x311004_1, .int .i64 x311005_1, .bool x311006_1] 64 (0, 0))) ∧ Aside0 (wc.heap[gb312]? = some (.cells #[.string ((rd_T37 l0 x11_1).f0), .int .i64 ((rd_T37 l0 x11_1).f1), .int .i64 ((rd_T37 l0 x11_1).f2), .int .i64 ((rd_T37 l0 x11_1).f3), .string ((rd_T37 l0 x11_1).f4), .string ((rd_T37 l0 x11_1).f5), .int .i64 ((rd_T37 l0 x11_1).f6), .string ((rd_T37 l0 x11_1).f7)] 37 (0, 0))) ∧ Aside0 (Below w.heap.size w wc))
          case first =>
            have H := HC10.out
            clear HC10
            by_cases c15 : ((rd_T37 l0 x11_1).f5).toList = a1.toList
            · rw [if_pos c15] at H
              have c15b0 : (((rd_T37 l0 x11_1).f5).toList == a1.toList) = true := beq_iff_eq.mpr c15
              have c15b1 : (((rd_T37 l0 x11_1).f5).toList != a1.toList) = false := bne_eq_false_iff_eq.mpr c15
              clear c15
              (first | rw [c15b0] | (simp only [i64_w, i32_w]; rw [c15b0]) | skip)
              have H' := Aside0.mk H
              clear H
              have hnb16 := NB312_309.out
              have hnc16 := NB309_312.out
              have hnb17 := NB312_310.out
              have hnc17 := NB310_312.out
              have hcz18_0 : w11.cell? ⟨gb312, 0, none⟩ = some (.string (⟨#[]⟩ : ByteArray)) := (blk_cell BK312.out 0).trans rfl
              have hcz18_1 : w11.cell? ⟨gb312, 1, none⟩ = some (.int .i64 0) := (blk_cell BK312.out 1).trans rfl
              have hcz18_2 : w11.cell? ⟨gb312, 2, none⟩ = some (.int .i64 0) := (blk_cell BK312.out 2).trans rfl
              have hcz18_3 : w11.cell? ⟨gb312, 3, none⟩ = some (.int .i64 0) := (blk_cell BK312.out 3).trans rfl
              have hcz18_4 : w11.cell? ⟨gb312, 4, none⟩ = some (.string (⟨#[]⟩ : ByteArray)) := (blk_cell BK312.out 4).trans rfl
              have hcz18_5 : w11.cell? ⟨gb312, 5, none⟩ = some (.string (⟨#[]⟩ : ByteArray)) := (blk_cell BK312.out 5).trans rfl
              have hcz18_6 : w11.cell? ⟨gb312, 6, none⟩ = some (.int .i64 0) := (blk_cell BK312.out 6).trans rfl
              have hcz18_7 : w11.cell? ⟨gb312, 7, none⟩ = some (.string (⟨#[]⟩ : ByteArray)) := (blk_cell BK312.out 7).trans rfl
              have hfz18_0 := blk_frozen BK312.out 0
              have hfz18_1 := blk_frozen BK312.out 1
              have hfz18_2 := blk_frozen BK312.out 2
              have hfz18_3 := blk_frozen BK312.out 3
              have hfz18_4 := blk_frozen BK312.out 4
              have hfz18_5 := blk_frozen BK312.out 5
              have hfz18_6 := blk_frozen BK312.out 6
              have hfz18_7 := blk_frozen BK312.out 7
              go_wp2
              go_meet
              case rel => exact ⟨_, (decide (((rd_T37 l0 x11_1).f2) > a2)), (by first | rfl | (simp; done) | (simp [*]; done)), H', ⟨by have := HK1.out; first | omega | exact Nat.le_refl _⟩, ⟨by (with_reducible repeat (first | refine blk_drewN ?_ _ | refine blk_drew ?_ | refine blk_alloc ?_ _)); refine blk_far ?_ NB309_312.out _; (with_reducible repeat (first | refine blk_drewN ?_ _ | refine blk_drew ?_ | refine blk_alloc ?_ _)); refine blk_far ?_ NB309_312.out _; (with_reducible repeat (first | refine blk_drewN ?_ _ | refine blk_drew ?_ | refine blk_alloc ?_ _)); refine blk_far ?_ NB309_312.out _; (with_reducible repeat (first | refine blk_drewN ?_ _ | refine blk_drew ?_ | refine blk_alloc ?_ _)); refine blk_far ?_ NB309_312.out _; (with_reducible repeat (first | refine blk_drewN ?_ _ | refine blk_drew ?_ | refine blk_alloc ?_ _)); refine blk_far ?_ NB309_312.out _; (with_reducible repeat (first | refine blk_drewN ?_ _ | refine blk_drew ?_ | refine blk_alloc ?_ _)); refine blk_far ?_ NB309_312.out _; (with_reducible repeat (first | refine blk_drewN ?_ _ | refine blk_drew ?_ | refine blk_alloc ?_ _)); refine blk_far ?_ NB309_312.out _; (with_reducible repeat (first | refine blk_drewN ?_ _ | refine blk_drew ?_ | refine blk_alloc ?_ _)); refine blk_far ?_ NB309_312.out _; (with_reducible repeat (first | refine blk_drewN ?_ _ | refine blk_drew ?_ | refine blk_alloc ?_ _)); exact BK309.out⟩, ⟨by (with_reducible repeat (first | refine blk_drewN ?_ _ | refine blk_drew ?_ | refine blk_alloc ?_ _)); refine blk_far ?_ NB310_312.out _; (with_reducible repeat (first | refine blk_drewN ?_ _ | refine blk_drew ?_ | refine blk_alloc ?_ _)); refine blk_far ?_ NB310_312.out _; (with_reducible repeat (first | refine blk_drewN ?_ _ | refine blk_drew ?_ | refine blk_alloc ?_ _)); refine blk_far ?_ NB310_312.out _; (with_reducible repeat (first | refine blk_drewN ?_ _ | refine blk_drew ?_ | refine blk_alloc ?_ _)); refine blk_far ?_ NB310_312.out _; (with_reducible repeat (first | refine blk_drewN ?_ _ | refine blk_drew ?_ | refine blk_alloc ?_ _)); refine blk_far ?_ NB310_312.out _; (with_reducible repeat (first | refine blk_drewN ?_ _ | refine blk_drew ?_ | refine blk_alloc ?_ _)); refine blk_far ?_ NB310_312.out _; (with_reducible repeat (first | refine blk_drewN ?_ _ | refine blk_drew ?_ | refine blk_alloc ?_ _)); refine blk_far ?_ NB310_312.out _; (with_reducible repeat (first | refine blk_drewN ?_ _ | refine blk_drew ?_ | refine blk_alloc ?_ _)); refine blk_far ?_ NB310_312.out _; (with_reducible repeat (first | refine blk_drewN ?_ _ | refine blk_drew ?_ | refine blk_alloc ?_ _)); exact BK310.out⟩, ⟨by (with_reducible repeat (first | refine blk_drewN ?_ _ | refine blk_drew ?_ | refine blk_alloc ?_ _)); refine blk_put (cs := #[.string ((rd_T37 l0 x11_1).f0), .int .i64 ((rd_T37 l0 x11_1).f1), .int .i64 ((rd_T37 l0 x11_1).f2), .int .i64 ((rd_T37 l0 x11_1).f3), .string ((rd_T37 l0 x11_1).f4), .string ((rd_T37 l0 x11_1).f5), .int .i64 ((rd_T37 l0 x11_1).f6), .string (⟨#[]⟩ : ByteArray)]) ?_ 7 _ rfl; (with_reducible repeat (first | refine blk_drewN ?_ _ | refine blk_drew ?_ | refine blk_alloc ?_ _)); refine blk_put (cs := #[.string ((rd_T37 l0 x11_1).f0), .int .i64 ((rd_T37 l0 x11_1).f1), .int .i64 ((rd_T37 l0 x11_1).f2), .int .i64 ((rd_T37 l0 x11_1).f3), .string ((rd_T37 l0 x11_1).f4), .string ((rd_T37 l0 x11_1).f5), .int .i64 0, .string (⟨#[]⟩ : ByteArray)]) ?_ 6 _ rfl; (with_reducible repeat (first | refine blk_drewN ?_ _ | refine blk_drew ?_ | refine blk_alloc ?_ _)); refine blk_put (cs := #[.string ((rd_T37 l0 x11_1).f0), .int .i64 ((rd_T37 l0 x11_1).f1), .int .i64 ((rd_T37 l0 x11_1).f2), .int .i64 ((rd_T37 l0 x11_1).f3), .string ((rd_T37 l0 x11_1).f4), .string (⟨#[]⟩ : ByteArray), .int .i64 0, .string (⟨#[]⟩ : ByteArray)]) ?_ 5 _ rfl; (with_reducible repeat (first | refine blk_drewN ?_ _ | refine blk_drew ?_ | refine blk_alloc ?_ _)); refine blk_put (cs := #[.string ((rd_T37 l0 x11_1).f0), .int .i64 ((rd_T37 l0 x11_1).f1), .int .i64 ((rd_T37 l0 x11_1).f2), .int .i64 ((rd_T37 l0 x11_1).f3), .string (⟨#[]⟩ : ByteArray), .string (⟨#[]⟩ : ByteArray), .int .i64 0, .string (⟨#[]⟩ : ByteArray)]) ?_ 4 _ rfl; (with_reducible repeat (first | refine blk_drewN ?_ _ | refine blk_drew ?_ | refine blk_alloc ?_ _)); refine blk_put (cs := #[.string ((rd_T37 l0 x11_1).f0), .int .i64 ((rd_T37 l0 x11_1).f1), .int .i64 ((rd_T37 l0 x11_1).f2), .int .i64 0, .string (⟨#[]⟩ : ByteArray), .string (⟨#[]⟩ : ByteArray), .int .i64 0, .string (⟨#[]⟩ : ByteArray)]) ?_ 3 _ rfl; (with_reducible repeat (first | refine blk_drewN ?_ _ | refine blk_drew ?_ | refine blk_alloc ?_ _)); refine blk_put (cs := #[.string ((rd_T37 l0 x11_1).f0), .int .i64 ((rd_T37 l0 x11_1).f1), .int .i64 0, .int .i64 0, .string (⟨#[]⟩ : ByteArray), .string (⟨#[]⟩ : ByteArray), .int .i64 0, .string (⟨#[]⟩ : ByteArray)]) ?_ 2 _ rfl; (with_reducible repeat (first | refine blk_drewN ?_ _ | refine blk_drew ?_ | refine blk_alloc ?_ _)); refine blk_put (cs := #[.string ((rd_T37 l0 x11_1).f0), .int .i64 0, .int .i64 0, .int .i64 0, .string (⟨#[]⟩ : ByteArray), .string (⟨#[]⟩ : ByteArray), .int .i64 0, .string (⟨#[]⟩ : ByteArray)]) ?_ 1 _ rfl; (with_reducible repeat (first | refine blk_drewN ?_ _ | refine blk_drew ?_ | refine blk_alloc ?_ _)); refine blk_put (cs := #[.string (⟨#[]⟩ : ByteArray), .int .i64 0, .int .i64 0, .int .i64 0, .string (⟨#[]⟩ : ByteArray), .string (⟨#[]⟩ : ByteArray), .int .i64 0, .string (⟨#[]⟩ : ByteArray)]) ?_ 0 _ rfl; (with_reducible repeat (first | refine blk_drewN ?_ _ | refine blk_drew ?_ | refine blk_alloc ?_ _)); exact BK312.out⟩, ⟨by repeat (first | (with_reducible first | exact HB.out | apply below_alloc | apply pw_below_drewN | apply below_drew1 | refine below_set ?_ GE309.out | refine below_set ?_ GE310.out | refine below_set ?_ GE312.out) | exact HB.out)⟩⟩
            · rw [if_neg c15] at H
              have c15b0 : (((rd_T37 l0 x11_1).f5).toList == a1.toList) = false := beq_eq_false_iff_ne.mpr c15
              have c15b1 : (((rd_T37 l0 x11_1).f5).toList != a1.toList) = true := bne_iff_ne.mpr c15
              (first | rw [c15b0] | (simp only [i64_w, i32_w]; rw [c15b0]) | skip)
              have H' := Aside0.mk H
              clear H
              have hnb19 := NB312_309.out
              have hnc19 := NB309_312.out
              have hnb20 := NB312_310.out
              have hnc20 := NB310_312.out
              have hcz21_0 : w11.cell? ⟨gb312, 0, none⟩ = some (.string (⟨#[]⟩ : ByteArray)) := (blk_cell BK312.out 0).trans rfl
              have hcz21_1 : w11.cell? ⟨gb312, 1, none⟩ = some (.int .i64 0) := (blk_cell BK312.out 1).trans rfl
              have hcz21_2 : w11.cell? ⟨gb312, 2, none⟩ = some (.int .i64 0) := (blk_cell BK312.out 2).trans rfl
              have hcz21_3 : w11.cell? ⟨gb312, 3, none⟩ = some (.int .i64 0) := (blk_cell BK312.out 3).trans rfl
              have hcz21_4 : w11.cell? ⟨gb312, 4, none⟩ = some (.string (⟨#[]⟩ : ByteArray)) := (blk_cell BK312.out 4).trans rfl
              have hcz21_5 : w11.cell? ⟨gb312, 5, none⟩ = some (.string (⟨#[]⟩ : ByteArray)) := (blk_cell BK312.out 5).trans rfl
              have hcz21_6 : w11.cell? ⟨gb312, 6, none⟩ = some (.int .i64 0) := (blk_cell BK312.out 6).trans rfl
              have hcz21_7 : w11.cell? ⟨gb312, 7, none⟩ = some (.string (⟨#[]⟩ : ByteArray)) := (blk_cell BK312.out 7).trans rfl
              have hfz21_0 := blk_frozen BK312.out 0
              have hfz21_1 := blk_frozen BK312.out 1
              have hfz21_2 := blk_frozen BK312.out 2
              have hfz21_3 := blk_frozen BK312.out 3
              have hfz21_4 := blk_frozen BK312.out 4
              have hfz21_5 := blk_frozen BK312.out 5
              have hfz21_6 := blk_frozen BK312.out 6
              have hfz21_7 := blk_frozen BK312.out 7
              go_wp2
              go_meet
              case rel => exact ⟨_, (true), (by first | rfl | (simp; done) | (simp [*]; done)), H', ⟨by have := HK1.out; first | omega | exact Nat.le_refl _⟩, ⟨by (with_reducible repeat (first | refine blk_drewN ?_ _ | refine blk_drew ?_ | refine blk_alloc ?_ _)); refine blk_far ?_ NB309_312.out _; (with_reducible repeat (first | refine blk_drewN ?_ _ | refine blk_drew ?_ | refine blk_alloc ?_ _)); refine blk_far ?_ NB309_312.out _; (with_reducible repeat (first | refine blk_drewN ?_ _ | refine blk_drew ?_ | refine blk_alloc ?_ _)); refine blk_far ?_ NB309_312.out _; (with_reducible repeat (first | refine blk_drewN ?_ _ | refine blk_drew ?_ | refine blk_alloc ?_ _)); refine blk_far ?_ NB309_312.out _; (with_reducible repeat (first | refine blk_drewN ?_ _ | refine blk_drew ?_ | refine blk_alloc ?_ _)); refine blk_far ?_ NB309_312.out _; (with_reducible repeat (first | refine blk_drewN ?_ _ | refine blk_drew ?_ | refine blk_alloc ?_ _)); refine blk_far ?_ NB309_312.out _; (with_reducible repeat (first | refine blk_drewN ?_ _ | refine blk_drew ?_ | refine blk_alloc ?_ _)); refine blk_far ?_ NB309_312.out _; (with_reducible repeat (first | refine blk_drewN ?_ _ | refine blk_drew ?_ | refine blk_alloc ?_ _)); refine blk_far ?_ NB309_312.out _; (with_reducible repeat (first | refine blk_drewN ?_ _ | refine blk_drew ?_ | refine blk_alloc ?_ _)); exact BK309.out⟩, ⟨by (with_reducible repeat (first | refine blk_drewN ?_ _ | refine blk_drew ?_ | refine blk_alloc ?_ _)); refine blk_far ?_ NB310_312.out _; (with_reducible repeat (first | refine blk_drewN ?_ _ | refine blk_drew ?_ | refine blk_alloc ?_ _)); refine blk_far ?_ NB310_312.out _; (with_reducible repeat (first | refine blk_drewN ?_ _ | refine blk_drew ?_ | refine blk_alloc ?_ _)); refine blk_far ?_ NB310_312.out _; (with_reducible repeat (first | refine blk_drewN ?_ _ | refine blk_drew ?_ | refine blk_alloc ?_ _)); refine blk_far ?_ NB310_312.out _; (with_reducible repeat (first | refine blk_drewN ?_ _ | refine blk_drew ?_ | refine blk_alloc ?_ _)); refine blk_far ?_ NB310_312.out _; (with_reducible repeat (first | refine blk_drewN ?_ _ | refine blk_drew ?_ | refine blk_alloc ?_ _)); refine blk_far ?_ NB310_312.out _; (with_reducible repeat (first | refine blk_drewN ?_ _ | refine blk_drew ?_ | refine blk_alloc ?_ _)); refine blk_far ?_ NB310_312.out _; (with_reducible repeat (first | refine blk_drewN ?_ _ | refine blk_drew ?_ | refine blk_alloc ?_ _)); refine blk_far ?_ NB310_312.out _; (with_reducible repeat (first | refine blk_drewN ?_ _ | refine blk_drew ?_ | refine blk_alloc ?_ _)); exact BK310.out⟩, ⟨by (with_reducible repeat (first | refine blk_drewN ?_ _ | refine blk_drew ?_ | refine blk_alloc ?_ _)); refine blk_put (cs := #[.string ((rd_T37 l0 x11_1).f0), .int .i64 ((rd_T37 l0 x11_1).f1), .int .i64 ((rd_T37 l0 x11_1).f2), .int .i64 ((rd_T37 l0 x11_1).f3), .string ((rd_T37 l0 x11_1).f4), .string ((rd_T37 l0 x11_1).f5), .int .i64 ((rd_T37 l0 x11_1).f6), .string (⟨#[]⟩ : ByteArray)]) ?_ 7 _ rfl; (with_reducible repeat (first | refine blk_drewN ?_ _ | refine blk_drew ?_ | refine blk_alloc ?_ _)); refine blk_put (cs := #[.string ((rd_T37 l0 x11_1).f0), .int .i64 ((rd_T37 l0 x11_1).f1), .int .i64 ((rd_T37 l0 x11_1).f2), .int .i64 ((rd_T37 l0 x11_1).f3), .string ((rd_T37 l0 x11_1).f4), .string ((rd_T37 l0 x11_1).f5), .int .i64 0, .string (⟨#[]⟩ : ByteArray)]) ?_ 6 _ rfl; (with_reducible repeat (first | refine blk_drewN ?_ _ | refine blk_drew ?_ | refine blk_alloc ?_ _)); refine blk_put (cs := #[.string ((rd_T37 l0 x11_1).f0), .int .i64 ((rd_T37 l0 x11_1).f1), .int .i64 ((rd_T37 l0 x11_1).f2), .int .i64 ((rd_T37 l0 x11_1).f3), .string ((rd_T37 l0 x11_1).f4), .string (⟨#[]⟩ : ByteArray), .int .i64 0, .string (⟨#[]⟩ : ByteArray)]) ?_ 5 _ rfl; (with_reducible repeat (first | refine blk_drewN ?_ _ | refine blk_drew ?_ | refine blk_alloc ?_ _)); refine blk_put (cs := #[.string ((rd_T37 l0 x11_1).f0), .int .i64 ((rd_T37 l0 x11_1).f1), .int .i64 ((rd_T37 l0 x11_1).f2), .int .i64 ((rd_T37 l0 x11_1).f3), .string (⟨#[]⟩ : ByteArray), .string (⟨#[]⟩ : ByteArray), .int .i64 0, .string (⟨#[]⟩ : ByteArray)]) ?_ 4 _ rfl; (with_reducible repeat (first | refine blk_drewN ?_ _ | refine blk_drew ?_ | refine blk_alloc ?_ _)); refine blk_put (cs := #[.string ((rd_T37 l0 x11_1).f0), .int .i64 ((rd_T37 l0 x11_1).f1), .int .i64 ((rd_T37 l0 x11_1).f2), .int .i64 0, .string (⟨#[]⟩ : ByteArray), .string (⟨#[]⟩ : ByteArray), .int .i64 0, .string (⟨#[]⟩ : ByteArray)]) ?_ 3 _ rfl; (with_reducible repeat (first | refine blk_drewN ?_ _ | refine blk_drew ?_ | refine blk_alloc ?_ _)); refine blk_put (cs := #[.string ((rd_T37 l0 x11_1).f0), .int .i64 ((rd_T37 l0 x11_1).f1), .int .i64 0, .int .i64 0, .string (⟨#[]⟩ : ByteArray), .string (⟨#[]⟩ : ByteArray), .int .i64 0, .string (⟨#[]⟩ : ByteArray)]) ?_ 2 _ rfl; (with_reducible repeat (first | refine blk_drewN ?_ _ | refine blk_drew ?_ | refine blk_alloc ?_ _)); refine blk_put (cs := #[.string ((rd_T37 l0 x11_1).f0), .int .i64 0, .int .i64 0, .int .i64 0, .string (⟨#[]⟩ : ByteArray), .string (⟨#[]⟩ : ByteArray), .int .i64 0, .string (⟨#[]⟩ : ByteArray)]) ?_ 1 _ rfl; (with_reducible repeat (first | refine blk_drewN ?_ _ | refine blk_drew ?_ | refine blk_alloc ?_ _)); refine blk_put (cs := #[.string (⟨#[]⟩ : ByteArray), .int .i64 0, .int .i64 0, .int .i64 0, .string (⟨#[]⟩ : ByteArray), .string (⟨#[]⟩ : ByteArray), .int .i64 0, .string (⟨#[]⟩ : ByteArray)]) ?_ 0 _ rfl; (with_reducible repeat (first | refine blk_drewN ?_ _ | refine blk_drew ?_ | refine blk_alloc ?_ _)); exact BK312.out⟩, ⟨by repeat (first | (with_reducible first | exact HB.out | apply below_alloc | apply pw_below_drewN | apply below_drew1 | refine below_set ?_ GE309.out | refine below_set ?_ GE310.out | refine below_set ?_ GE312.out) | exact HB.out)⟩⟩
          case rest =>
            clear HC10
            try clear c1
            try clear c2
            try clear p2
            try clear c3
            try clear p3
            try clear q3
            try clear hx3
            try clear c6
            try clear c8
            try clear c8b0
            try clear c9
            try clear c9b0
            try clear c12
            try clear c13
            try clear c15
            try clear c15b0
            try clear c15b1
            try clear c16
            try clear c17
            try clear c19
            try clear c20
            try clear hcz14_0
            try clear hcz14_1
            try clear hcz14_2
            try clear hcz14_3
            try clear hcz14_4
            try clear hcz14_5
            try clear hcz14_6
            try clear hcz14_7
            try clear hcz18_0
            try clear hcz18_1
            try clear hcz18_2
            try clear hcz18_3
            try clear hcz18_4
            try clear hcz18_5
            try clear hcz18_6
            try clear hcz18_7
            try clear hcz21_0
            try clear hcz21_1
            try clear hcz21_2
            try clear hcz21_3
            try clear hcz21_4
            try clear hcz21_5
            try clear hcz21_6
            try clear hcz21_7
            try clear hcz7_0
            try clear hcz7_1
            try clear hcz7_2
            try clear hcz7_3
            try clear hcz7_4
            try clear hcz7_5
            try clear hcz7_6
            try clear hfz14_0
            try clear hfz14_1
            try clear hfz14_2
            try clear hfz14_3
            try clear hfz14_4
            try clear hfz14_5
            try clear hfz14_6
            try clear hfz14_7
            try clear hfz18_0
            try clear hfz18_1
            try clear hfz18_2
            try clear hfz18_3
            try clear hfz18_4
            try clear hfz18_5
            try clear hfz18_6
            try clear hfz18_7
            try clear hfz21_0
            try clear hfz21_1
            try clear hfz21_2
            try clear hfz21_3
            try clear hfz21_4
            try clear hfz21_5
            try clear hfz21_6
            try clear hfz21_7
            try clear hfz7_0
            try clear hfz7_1
            try clear hfz7_2
            try clear hfz7_3
            try clear hfz7_4
            try clear hfz7_5
            try clear hfz7_6
            try clear hx311_0
            try clear hx311_1
            try clear hx311_2
            try clear hx311_3
            try clear hx311_4
            try clear hx311_5
            try clear hx311_6
            try clear hx311_7
            try clear p2
            try clear p311
            try clear q311
            obtain ⟨kq, x33_9, rfl, HA, HJ9, BK309, BK310, BK312, HB⟩ := hcut
            cases kq with
            | zero => exact absurd HA.out (by simp [ciceroneref15_At.j1])
            | succ kj9 =>
              have H := HA.out
              clear HA
              simp only [ciceroneref15_At.j1] at H
              by_cases c22 : x33_9 = true
              · subst c22
                have H1 : (ciceroneref15_At.l0 kj9 l0 a1 a2 x9_1 x10_1 (wrap64 (x11_1 + 1)) x311000_1 x311001_1 x311002_1 x311003_1 x311004_1 x311005_1 x311006_1) = some (r1, r2, r3, r4, r5, r6, r7, r8) := by rw [if_pos rfl] at H; exact H
                clear H
                have H := H1
                clear H1
                have H' := Aside0.mk H
                clear H
                go_wp2
                go_roundg kj9
                case measure => have := HK1.out; have := HJ9.out; omega
                case rel => exact ⟨(x9_1), (x10_1), (wrap64 (x11_1 + 1)), (x311000_1), (x311001_1), (x311002_1), (x311003_1), (x311004_1), (x311005_1), (x311006_1), (by first | rfl | (simp; done) | (simp [*]; done)), (by first | rfl | (simp; done) | (simp [*]; done)), (by first | rfl | (simp; done) | (simp [*]; done)), H', ⟨by have := HK1.out; have := HJ9.out; omega⟩, ⟨by (with_reducible repeat (first | refine blk_drewN ?_ _ | refine blk_drew ?_ | refine blk_alloc ?_ _)); exact BK309.out⟩, ⟨by (with_reducible repeat (first | refine blk_drewN ?_ _ | refine blk_drew ?_ | refine blk_alloc ?_ _)); exact BK310.out⟩, ⟨by repeat (first | (with_reducible first | exact HB.out | apply below_alloc | apply pw_below_drewN | apply below_drew1 | refine below_set ?_ GE309.out | refine below_set ?_ GE310.out | refine below_set ?_ GE312.out) | exact HB.out)⟩⟩
              · replace c22 := Bool.eq_false_iff.mpr c22
                subst c22
                have H1 : (if ((rd_T37 l0 x11_1).f3) = 11 then ((ciceroneref02_Maker.f kj9 ((rd_T37 l0 x11_1).f7)).bind fun t313 => ((ciceroneref15_behind.f kj9 ((rd_T37 l0 x11_1).f7)).bind fun t314 => (if x10_1 = true then (ciceroneref15_At.l0 kj9 l0 a1 a2 true x10_1 (wrap64 (x11_1 + 1)) a1 t313 t314 x311003_1 ((rd_T37 l0 x11_1).f6) x311005_1 true) else (ciceroneref15_At.l0 kj9 l0 a1 a2 true true (wrap64 (x11_1 + 1)) a1 t313 t314 x311003_1 ((rd_T37 l0 x11_1).f6) ((rd_T37 l0 x11_1).f2) true)))) else (if ((rd_T37 l0 x11_1).f3) = 13 then (ciceroneref15_At.l0 kj9 l0 a1 a2 true x10_1 (wrap64 (x11_1 + 1)) a1 x311001_1 x311002_1 x311003_1 x311004_1 x311005_1 false) else (if ((rd_T37 l0 x11_1).f3) = 12 then (ciceroneref15_At.l0 kj9 l0 a1 a2 true x10_1 (wrap64 (x11_1 + 1)) a1 x311001_1 x311002_1 ((rd_T37 l0 x11_1).f6) x311004_1 x311005_1 x311006_1) else (ciceroneref15_At.l0 kj9 l0 a1 a2 true x10_1 (wrap64 (x11_1 + 1)) a1 x311001_1 x311002_1 x311003_1 x311004_1 x311005_1 x311006_1)))) = some (r1, r2, r3, r4, r5, r6, r7, r8) := by rw [if_neg (show ¬ (false = true) by decide)] at H; exact H
                clear H
                have H := H1
                clear H1
                by_cases c23 : ((rd_T37 l0 x11_1).f3) = 11
                · rw [if_pos c23] at H
                  have c23b0 : (((rd_T37 l0 x11_1).f3) == 11) = true := beq_iff_eq.mpr c23
                  have c23b1 : (((rd_T37 l0 x11_1).f3) != 11) = false := bne_eq_false_iff_eq.mpr c23
                  clear c23
                  replace H := Option.bind_eq_some_iff.mp H
                  obtain ⟨t313, A240, H⟩ := H
                  replace H : ((ciceroneref15_behind.f kj9 ((rd_T37 l0 x11_1).f7)).bind fun t314 => (if x10_1 = true then (ciceroneref15_At.l0 kj9 l0 a1 a2 true x10_1 (wrap64 (x11_1 + 1)) a1 t313 t314 x311003_1 ((rd_T37 l0 x11_1).f6) x311005_1 true) else (ciceroneref15_At.l0 kj9 l0 a1 a2 true true (wrap64 (x11_1 + 1)) a1 t313 t314 x311003_1 ((rd_T37 l0 x11_1).f6) ((rd_T37 l0 x11_1).f2) true))) = some (r1, r2, r3, r4, r5, r6, r7, r8) := H
                  have A24 := Aside0.mk A240
                  clear A240
                  replace H := Option.bind_eq_some_iff.mp H
                  obtain ⟨t314, A250, H⟩ := H
                  replace H : (if x10_1 = true then (ciceroneref15_At.l0 kj9 l0 a1 a2 true x10_1 (wrap64 (x11_1 + 1)) a1 t313 t314 x311003_1 ((rd_T37 l0 x11_1).f6) x311005_1 true) else (ciceroneref15_At.l0 kj9 l0 a1 a2 true true (wrap64 (x11_1 + 1)) a1 t313 t314 x311003_1 ((rd_T37 l0 x11_1).f6) ((rd_T37 l0 x11_1).f2) true)) = some (r1, r2, r3, r4, r5, r6, r7, r8) := H
                  have A25 := Aside0.mk A250
                  clear A250
                  by_cases c26 : x10_1 = true
                  · subst c26
                    have H1 : (ciceroneref15_At.l0 kj9 l0 a1 a2 true true (wrap64 (x11_1 + 1)) a1 t313 t314 x311003_1 ((rd_T37 l0 x11_1).f6) x311005_1 true) = some (r1, r2, r3, r4, r5, r6, r7, r8) := by rw [if_pos rfl] at H; exact H
                    clear H
                    have H := H1
                    clear H1
                    have H' := Aside0.mk H
                    clear H
                    have hnb27 := NB310_309.out
                    have hnc27 := NB309_310.out
                    have hnb28 := NB310_312.out
                    have hnc28 := NB312_310.out
                    have hcz29_0 : wc.cell? ⟨gb310, 0, none⟩ = some (.string x311000_1) := (blk_cell BK310.out 0).trans rfl
                    have hcz29_1 : wc.cell? ⟨gb310, 1, none⟩ = some (.string x311001_1) := (blk_cell BK310.out 1).trans rfl
                    have hcz29_2 : wc.cell? ⟨gb310, 2, none⟩ = some (.string x311002_1) := (blk_cell BK310.out 2).trans rfl
                    have hcz29_3 : wc.cell? ⟨gb310, 3, none⟩ = some (.int .i64 x311003_1) := (blk_cell BK310.out 3).trans rfl
                    have hcz29_4 : wc.cell? ⟨gb310, 4, none⟩ = some (.int .i64 x311004_1) := (blk_cell BK310.out 4).trans rfl
                    have hcz29_5 : wc.cell? ⟨gb310, 5, none⟩ = some (.int .i64 x311005_1) := (blk_cell BK310.out 5).trans rfl
                    have hcz29_6 : wc.cell? ⟨gb310, 6, none⟩ = some (.bool x311006_1) := (blk_cell BK310.out 6).trans rfl
                    have hfz29_0 := blk_frozen BK310.out 0
                    have hfz29_1 := blk_frozen BK310.out 1
                    have hfz29_2 := blk_frozen BK310.out 2
                    have hfz29_3 := blk_frozen BK310.out 3
                    have hfz29_4 := blk_frozen BK310.out 4
                    have hfz29_5 := blk_frozen BK310.out 5
                    have hfz29_6 := blk_frozen BK310.out 6
                    have hnb30 := NB312_309.out
                    have hnc30 := NB309_312.out
                    have hcz31_0 : wc.cell? ⟨gb312, 0, none⟩ = some (.string ((rd_T37 l0 x11_1).f0)) := (blk_cell BK312.out 0).trans rfl
                    have hcz31_1 : wc.cell? ⟨gb312, 1, none⟩ = some (.int .i64 ((rd_T37 l0 x11_1).f1)) := (blk_cell BK312.out 1).trans rfl
                    have hcz31_2 : wc.cell? ⟨gb312, 2, none⟩ = some (.int .i64 ((rd_T37 l0 x11_1).f2)) := (blk_cell BK312.out 2).trans rfl
                    have hcz31_3 : wc.cell? ⟨gb312, 3, none⟩ = some (.int .i64 ((rd_T37 l0 x11_1).f3)) := (blk_cell BK312.out 3).trans rfl
                    have hcz31_4 : wc.cell? ⟨gb312, 4, none⟩ = some (.string ((rd_T37 l0 x11_1).f4)) := (blk_cell BK312.out 4).trans rfl
                    have hcz31_5 : wc.cell? ⟨gb312, 5, none⟩ = some (.string ((rd_T37 l0 x11_1).f5)) := (blk_cell BK312.out 5).trans rfl
                    have hcz31_6 : wc.cell? ⟨gb312, 6, none⟩ = some (.int .i64 ((rd_T37 l0 x11_1).f6)) := (blk_cell BK312.out 6).trans rfl
                    have hcz31_7 : wc.cell? ⟨gb312, 7, none⟩ = some (.string ((rd_T37 l0 x11_1).f7)) := (blk_cell BK312.out 7).trans rfl
                    have hfz31_0 := blk_frozen BK312.out 0
                    have hfz31_1 := blk_frozen BK312.out 1
                    have hfz31_2 := blk_frozen BK312.out 2
                    have hfz31_3 := blk_frozen BK312.out 3
                    have hfz31_4 := blk_frozen BK312.out 4
                    have hfz31_5 := blk_frozen BK312.out 5
                    have hfz31_6 := blk_frozen BK312.out 6
                    have hfz31_7 := blk_frozen BK312.out 7
                    try go_wp2
                    have n0_ : Aside0 ((wc.setCell ⟨gb310, 0, none⟩ (.string a1)).heap[gb309]? = some (.cells #[.string (⟨#[]⟩ : ByteArray), .string (⟨#[]⟩ : ByteArray), .string (⟨#[]⟩ : ByteArray), .int .i64 0, .int .i64 0, .int .i64 0, .bool false] 64 (0, 0))) := ⟨by (with_reducible repeat (first | refine blk_drewN ?_ _ | refine blk_drew ?_ | refine blk_alloc ?_ _)); refine blk_far ?_ NB309_310.out _; (with_reducible repeat (first | refine blk_drewN ?_ _ | refine blk_drew ?_ | refine blk_alloc ?_ _)); exact BK309.out⟩
                    have n1_ : Aside0 ((wc.setCell ⟨gb310, 0, none⟩ (.string a1)).heap[gb310]? = some (.cells #[.string a1, .string x311001_1, .string x311002_1, .int .i64 x311003_1, .int .i64 x311004_1, .int .i64 x311005_1, .bool x311006_1] 64 (0, 0))) := ⟨by (with_reducible repeat (first | refine blk_drewN ?_ _ | refine blk_drew ?_ | refine blk_alloc ?_ _)); refine blk_put (cs := #[.string x311000_1, .string x311001_1, .string x311002_1, .int .i64 x311003_1, .int .i64 x311004_1, .int .i64 x311005_1, .bool x311006_1]) ?_ 0 _ rfl; (with_reducible repeat (first | refine blk_drewN ?_ _ | refine blk_drew ?_ | refine blk_alloc ?_ _)); exact BK310.out⟩
                    have n2_ : Aside0 ((wc.setCell ⟨gb310, 0, none⟩ (.string a1)).heap[gb312]? = some (.cells #[.string ((rd_T37 l0 x11_1).f0), .int .i64 ((rd_T37 l0 x11_1).f1), .int .i64 ((rd_T37 l0 x11_1).f2), .int .i64 ((rd_T37 l0 x11_1).f3), .string ((rd_T37 l0 x11_1).f4), .string ((rd_T37 l0 x11_1).f5), .int .i64 ((rd_T37 l0 x11_1).f6), .string ((rd_T37 l0 x11_1).f7)] 37 (0, 0))) := ⟨by (with_reducible repeat (first | refine blk_drewN ?_ _ | refine blk_drew ?_ | refine blk_alloc ?_ _)); refine blk_far ?_ NB312_310.out _; (with_reducible repeat (first | refine blk_drewN ?_ _ | refine blk_drew ?_ | refine blk_alloc ?_ _)); exact BK312.out⟩
                    have n3_ : Aside0 (Below w.heap.size w (wc.setCell ⟨gb310, 0, none⟩ (.string a1))) := ⟨by repeat (first | (with_reducible first | exact HB.out | apply below_alloc | apply pw_below_drewN | apply below_drew1 | refine below_set ?_ GE309.out | refine below_set ?_ GE310.out | refine below_set ?_ GE312.out) | exact HB.out)⟩
                    (try clear BK309)
                    (try clear BK310)
                    (try clear BK312)
                    (try clear HB)
                    generalize (wc.setCell ⟨gb310, 0, none⟩ (.string a1)) = w32 at n0_ n1_ n2_ n3_ ⊢
                    have BK309 := n0_
                    have BK310 := n1_
                    have BK312 := n2_
                    have HB := n3_
                    clear n0_ n1_ n2_ n3_
                    have n0_ := Aside0.mk (blk_drew BK309.out)
                    have n1_ := Aside0.mk (blk_drew BK310.out)
                    have n2_ := Aside0.mk (blk_drew BK312.out)
                    have n3_ := Aside0.mk (below_drew1 HB.out)
                    clear BK309
                    clear BK310
                    clear BK312
                    clear HB
                    have BK309 := n0_
                    have BK310 := n1_
                    have BK312 := n2_
                    have HB := n3_
                    clear n0_ n1_ n2_ n3_
                    refine start_ (n := 16) (S := fun w' => w'.cell? ⟨gb312, 0, none⟩ = some (.string ((rd_T37 l0 x11_1).f0)) ∧ w'.cell? ⟨gb312, 1, none⟩ = some (.int .i64 ((rd_T37 l0 x11_1).f1)) ∧ w'.cell? ⟨gb312, 2, none⟩ = some (.int .i64 ((rd_T37 l0 x11_1).f2)) ∧ w'.cell? ⟨gb312, 3, none⟩ = some (.int .i64 ((rd_T37 l0 x11_1).f3)) ∧ w'.cell? ⟨gb312, 4, none⟩ = some (.string ((rd_T37 l0 x11_1).f4)) ∧ w'.cell? ⟨gb312, 5, none⟩ = some (.string ((rd_T37 l0 x11_1).f5)) ∧ w'.cell? ⟨gb312, 6, none⟩ = some (.int .i64 ((rd_T37 l0 x11_1).f6)) ∧ w'.cell? ⟨gb312, 7, none⟩ = some (.string ((rd_T37 l0 x11_1).f7))) (ds := []) #[false, false, false, false, false, false, false, false, false, false, false, false, false, false, false, false] (by kernel_rfl) rfl rfl ⟨(blk_cell BK312.out 0).trans rfl, (blk_cell BK312.out 1).trans rfl, (blk_cell BK312.out 2).trans rfl, (blk_cell BK312.out 3).trans rfl, (blk_cell BK312.out 4).trans rfl, (blk_cell BK312.out 5).trans rfl, (blk_cell BK312.out 6).trans rfl, (blk_cell BK312.out 7).trans rfl⟩ (fun hHeld => ?_); refine with_tabW ciceroneref15_At.tab11 ciceroneref15_At.bits11 (fun HT_ HW_ => ?_)
                    generalize w32.drew = w33 at BK309 BK310 BK312 HB hHeld ⊢
                    refine pure_ (i := 0) (N := some 40) (v := ?_) (a' := ?_) #[true, false, false, false, false, false, false, false, false, false, false, false, false, false, false, false] rfl rfl (any_of HT_.out (by kernel_rfl)) (fun _ _ _ h => h) (Or.inl ⟨by rfl, ?_⟩) ?_ ?_
                    rotate_left
                    · intro w'
                      go_simp
                      with_reducible rfl
                    rotate_left
                    · simp only [Act.put, List.setIfInBounds_toArray, List.set_cons_zero, List.set_cons_succ, i64_w, i32_w]
                      rfl
                    refine pure_ (i := 3) (N := some 43) (v := ?_) (a' := ?_) #[true, false, false, true, false, false, false, false, false, false, false, false, false, false, false, false] rfl rfl (any_of HT_.out (by kernel_rfl)) (fun _ _ _ h => h) (Or.inl ⟨by rfl, ?_⟩) ?_ ?_
                    rotate_left
                    · intro w'
                      go_simp
                      with_reducible rfl
                    rotate_left
                    · simp only [Act.put, List.setIfInBounds_toArray, List.set_cons_zero, List.set_cons_succ, i64_w, i32_w]
                      rfl
                    refine pure_ (i := 6) (N := some 46) (v := ?_) (a' := ?_) #[true, false, false, true, false, false, true, false, false, false, false, false, false, false, false, false] rfl rfl (any_of HT_.out (by kernel_rfl)) (fun _ _ _ h => h) (Or.inl ⟨by rfl, ?_⟩) ?_ ?_
                    rotate_left
                    · intro w'
                      go_simp
                      with_reducible rfl
                    rotate_left
                    · simp only [Act.put, List.setIfInBounds_toArray, List.set_cons_zero, List.set_cons_succ, i64_w, i32_w]
                      rfl
                    refine pure_ (i := 8) (N := some 48) (v := ?_) (a' := ?_) #[true, false, false, true, false, false, true, false, true, false, false, false, false, false, false, false] rfl rfl (any_of HT_.out (by kernel_rfl)) (fun _ _ _ h => h) (Or.inl ⟨by rfl, ?_⟩) ?_ ?_
                    rotate_left
                    · intro w'
                      go_simp
                      with_reducible rfl
                    rotate_left
                    · simp only [Act.put, List.setIfInBounds_toArray, List.set_cons_zero, List.set_cons_succ, i64_w, i32_w]
                      rfl
                    refine take_ (i := 1) (N := some 41) (v := ?_) (a' := ?_) #[true, true, false, true, false, false, true, false, true, false, false, false, false, false, false, false] rfl rfl (take_ofW HT_.out HW_.out (by kernel_rfl)) (fun _ _ _ h => h) (Or.inl ⟨by rfl, ?_⟩) hHeld ?_ ?_
                    rotate_left
                    · rintro w' ⟨s0, s1, s2, s3, s4, s5, s6, s7⟩
                      go_simp
                      with_reducible rfl
                    rotate_left
                    · simp only [Act.put, List.setIfInBounds_toArray, List.set_cons_zero, List.set_cons_succ, i64_w, i32_w]
                      rfl
                    refine take_ (i := 4) (N := some 44) (v := ?_) (a' := ?_) #[true, true, false, true, true, false, true, false, true, false, false, false, false, false, false, false] rfl rfl (take_ofW HT_.out HW_.out (by kernel_rfl)) (fun _ _ _ h => h) (Or.inl ⟨by rfl, ?_⟩) hHeld ?_ ?_
                    rotate_left
                    · rintro w' ⟨s0, s1, s2, s3, s4, s5, s6, s7⟩
                      go_simp
                      with_reducible rfl
                    rotate_left
                    · simp only [Act.put, List.setIfInBounds_toArray, List.set_cons_zero, List.set_cons_succ, i64_w, i32_w]
                      rfl
                    refine take_ (i := 7) (N := some 47) (v := ?_) (a' := ?_) #[true, true, false, true, true, false, true, true, true, false, false, false, false, false, false, false] rfl rfl (take_ofW HT_.out HW_.out (by kernel_rfl)) (fun _ _ _ h => h) (Or.inl ⟨by rfl, ?_⟩) hHeld ?_ ?_
                    rotate_left
                    · rintro w' ⟨s0, s1, s2, s3, s4, s5, s6, s7⟩
                      go_simp
                      with_reducible rfl
                    rotate_left
                    · simp only [Act.put, List.setIfInBounds_toArray, List.set_cons_zero, List.set_cons_succ, i64_w, i32_w]
                      rfl
                    refine one_ (i := 2) (N := some 42) #[true, true, true, true, true, false, true, true, true, false, false, false, false, false, false, false] rfl rfl (one_of HT_.out (by kernel_rfl)) (by decide) (fun K hK => ?_)
                    refine goes_ Tryd.func46 (by kernel_rfl) rfl #[.string ((rd_T37 l0 x11_1).f7)] (by rfl) rfl rfl (by (try simp only [List.map_toArray, List.map_cons, List.map_nil]); first | done | rfl | (simp only [List.length_drop, List.length_take]; rfl)) ?_
                    with_reducible refine (ciceroneref02_Maker.calls kj9 ((rd_T37 l0 x11_1).f7) t313 _ A24.out).mono ?_
                    rintro e w' ⟨rfl, ⟨nd, rfl⟩⟩
                    refine ⟨_, rfl, ?_⟩
                    refine hK.out _ _ ⟨(blk_cell BK312.out 0).trans rfl, (blk_cell BK312.out 1).trans rfl, (blk_cell BK312.out 2).trans rfl, (blk_cell BK312.out 3).trans rfl, (blk_cell BK312.out 4).trans rfl, (blk_cell BK312.out 5).trans rfl, (blk_cell BK312.out 6).trans rfl, (blk_cell BK312.out 7).trans rfl⟩ (fun hHeld => ?_)
                    clear hK K
                    refine norm_ (a' := ?_) ?_ ?_
                    rotate_left
                    · show Act.put _ (some 42) _ = _
                      simp only [Act.put, List.setIfInBounds_toArray, List.set_cons_zero, List.set_cons_succ, i64_w, i32_w]
                      rfl
                    refine one_ (i := 5) (N := some 45) #[true, true, true, true, true, true, true, true, true, false, false, false, false, false, false, false] rfl rfl (one_of HT_.out (by kernel_rfl)) (by decide) (fun K hK => ?_)
                    refine goes_ Tryd.func47 (by kernel_rfl) rfl #[.string ((rd_T37 l0 x11_1).f7)] (by rfl) rfl rfl (by (try simp only [List.map_toArray, List.map_cons, List.map_nil]); first | done | rfl | (simp only [List.length_drop, List.length_take]; rfl)) ?_
                    with_reducible refine (ciceroneref15_behind.calls kj9 ((rd_T37 l0 x11_1).f7) t314 _ A25.out).mono ?_
                    rintro e w' ⟨rfl, ⟨nd, rfl⟩⟩
                    refine ⟨_, rfl, ?_⟩
                    refine hK.out _ _ ⟨(blk_cell BK312.out 0).trans rfl, (blk_cell BK312.out 1).trans rfl, (blk_cell BK312.out 2).trans rfl, (blk_cell BK312.out 3).trans rfl, (blk_cell BK312.out 4).trans rfl, (blk_cell BK312.out 5).trans rfl, (blk_cell BK312.out 6).trans rfl, (blk_cell BK312.out 7).trans rfl⟩ (fun hHeld => ?_)
                    clear hK K
                    refine norm_ (a' := ?_) ?_ ?_
                    rotate_left
                    · show Act.put _ (some 45) _ = _
                      simp only [Act.put, List.setIfInBounds_toArray, List.set_cons_zero, List.set_cons_succ, i64_w, i32_w]
                      rfl
                    refine one_ (i := 9) (N := none) #[true, true, true, true, true, true, true, true, true, true, false, false, false, false, false, false] rfl rfl (one_of HT_.out (by kernel_rfl)) (by decide) (fun K hK => ?_)
                    have hs34 : w33.cell? ⟨gb310, 6, none⟩ = some (.bool x311006_1) := (blk_cell BK310.out 6).trans rfl
                    have hfs34 := blk_frozen BK310.out 6
                    have hns34_0 := NB309_310.out
                    have hns34_2 := NB312_310.out
                    have hms34_0 := NB310_309.out
                    have hms34_2 := NB310_312.out
                    refine skip_ (w1 := ?_) (by rfl) rfl ?_ ?_
                    rotate_left
                    · go_simp
                      rfl
                    refine hK.out _ _ ⟨((cell_far (p := ⟨gb310, _, none⟩) NB312_310.out _).trans (hHeld.1)), ((cell_far (p := ⟨gb310, _, none⟩) NB312_310.out _).trans (hHeld.2.1)), ((cell_far (p := ⟨gb310, _, none⟩) NB312_310.out _).trans (hHeld.2.2.1)), ((cell_far (p := ⟨gb310, _, none⟩) NB312_310.out _).trans (hHeld.2.2.2.1)), ((cell_far (p := ⟨gb310, _, none⟩) NB312_310.out _).trans (hHeld.2.2.2.2.1)), ((cell_far (p := ⟨gb310, _, none⟩) NB312_310.out _).trans (hHeld.2.2.2.2.2.1)), ((cell_far (p := ⟨gb310, _, none⟩) NB312_310.out _).trans (hHeld.2.2.2.2.2.2.1)), ((cell_far (p := ⟨gb310, _, none⟩) NB312_310.out _).trans (hHeld.2.2.2.2.2.2.2))⟩ (fun hHeld => ?_)
                    clear hK K
                    refine pure_ (i := 10) (N := some 49) (v := ?_) (a' := ?_) #[true, true, true, true, true, true, true, true, true, true, true, false, false, false, false, false] rfl rfl (any_of HT_.out (by kernel_rfl)) (fun _ _ _ h => h) (Or.inl ⟨by rfl, ?_⟩) ?_ ?_
                    rotate_left
                    · intro w'
                      go_simp
                      with_reducible rfl
                    rotate_left
                    · simp only [Act.put, List.setIfInBounds_toArray, List.set_cons_zero, List.set_cons_succ, i64_w, i32_w]
                      rfl
                    refine one_ (i := 11) (N := none) #[true, true, true, true, true, true, true, true, true, true, true, true, false, false, false, false] rfl rfl (one_of HT_.out (by kernel_rfl)) (by decide) (fun K hK => ?_)
                    have hs35 : w33.cell? ⟨gb310, 1, none⟩ = some (.string x311001_1) := (blk_cell BK310.out 1).trans rfl
                    have hfs35 := blk_frozen BK310.out 1
                    have hns35_0 := NB309_310.out
                    have hns35_2 := NB312_310.out
                    have hms35_0 := NB310_309.out
                    have hms35_2 := NB310_312.out
                    refine skip_ (w1 := ?_) (by rfl) rfl ?_ ?_
                    rotate_left
                    · go_simp
                      rfl
                    refine hK.out _ _ ⟨((cell_far (p := ⟨gb310, _, none⟩) NB312_310.out _).trans (hHeld.1)), ((cell_far (p := ⟨gb310, _, none⟩) NB312_310.out _).trans (hHeld.2.1)), ((cell_far (p := ⟨gb310, _, none⟩) NB312_310.out _).trans (hHeld.2.2.1)), ((cell_far (p := ⟨gb310, _, none⟩) NB312_310.out _).trans (hHeld.2.2.2.1)), ((cell_far (p := ⟨gb310, _, none⟩) NB312_310.out _).trans (hHeld.2.2.2.2.1)), ((cell_far (p := ⟨gb310, _, none⟩) NB312_310.out _).trans (hHeld.2.2.2.2.2.1)), ((cell_far (p := ⟨gb310, _, none⟩) NB312_310.out _).trans (hHeld.2.2.2.2.2.2.1)), ((cell_far (p := ⟨gb310, _, none⟩) NB312_310.out _).trans (hHeld.2.2.2.2.2.2.2))⟩ (fun hHeld => ?_)
                    clear hK K
                    refine pure_ (i := 12) (N := some 50) (v := ?_) (a' := ?_) #[true, true, true, true, true, true, true, true, true, true, true, true, true, false, false, false] rfl rfl (any_of HT_.out (by kernel_rfl)) (fun _ _ _ h => h) (Or.inl ⟨by rfl, ?_⟩) ?_ ?_
                    rotate_left
                    · intro w'
                      go_simp
                      with_reducible rfl
                    rotate_left
                    · simp only [Act.put, List.setIfInBounds_toArray, List.set_cons_zero, List.set_cons_succ, i64_w, i32_w]
                      rfl
                    refine one_ (i := 13) (N := none) #[true, true, true, true, true, true, true, true, true, true, true, true, true, true, false, false] rfl rfl (one_of HT_.out (by kernel_rfl)) (by decide) (fun K hK => ?_)
                    have hs36 : w33.cell? ⟨gb310, 2, none⟩ = some (.string x311002_1) := (blk_cell BK310.out 2).trans rfl
                    have hfs36 := blk_frozen BK310.out 2
                    have hns36_0 := NB309_310.out
                    have hns36_2 := NB312_310.out
                    have hms36_0 := NB310_309.out
                    have hms36_2 := NB310_312.out
                    refine skip_ (w1 := ?_) (by rfl) rfl ?_ ?_
                    rotate_left
                    · go_simp
                      rfl
                    refine hK.out _ _ ⟨((cell_far (p := ⟨gb310, _, none⟩) NB312_310.out _).trans (hHeld.1)), ((cell_far (p := ⟨gb310, _, none⟩) NB312_310.out _).trans (hHeld.2.1)), ((cell_far (p := ⟨gb310, _, none⟩) NB312_310.out _).trans (hHeld.2.2.1)), ((cell_far (p := ⟨gb310, _, none⟩) NB312_310.out _).trans (hHeld.2.2.2.1)), ((cell_far (p := ⟨gb310, _, none⟩) NB312_310.out _).trans (hHeld.2.2.2.2.1)), ((cell_far (p := ⟨gb310, _, none⟩) NB312_310.out _).trans (hHeld.2.2.2.2.2.1)), ((cell_far (p := ⟨gb310, _, none⟩) NB312_310.out _).trans (hHeld.2.2.2.2.2.2.1)), ((cell_far (p := ⟨gb310, _, none⟩) NB312_310.out _).trans (hHeld.2.2.2.2.2.2.2))⟩ (fun hHeld => ?_)
                    clear hK K
                    refine pure_ (i := 14) (N := some 51) (v := ?_) (a' := ?_) #[true, true, true, true, true, true, true, true, true, true, true, true, true, true, true, false] rfl rfl (any_of HT_.out (by kernel_rfl)) (fun _ _ _ h => h) (Or.inl ⟨by rfl, ?_⟩) ?_ ?_
                    rotate_left
                    · intro w'
                      go_simp
                      with_reducible rfl
                    rotate_left
                    · simp only [Act.put, List.setIfInBounds_toArray, List.set_cons_zero, List.set_cons_succ, i64_w, i32_w]
                      rfl
                    refine one_ (i := 15) (N := none) #[true, true, true, true, true, true, true, true, true, true, true, true, true, true, true, true] rfl rfl (one_of HT_.out (by kernel_rfl)) (by decide) (fun K hK => ?_)
                    have hs37 : w33.cell? ⟨gb310, 4, none⟩ = some (.int .i64 x311004_1) := (blk_cell BK310.out 4).trans rfl
                    have hfs37 := blk_frozen BK310.out 4
                    have hns37_0 := NB309_310.out
                    have hns37_2 := NB312_310.out
                    have hms37_0 := NB310_309.out
                    have hms37_2 := NB310_312.out
                    refine skip_ (w1 := ?_) (by rfl) rfl ?_ ?_
                    rotate_left
                    · go_simp
                      rfl
                    refine hK.out _ _ ⟨((cell_far (p := ⟨gb310, _, none⟩) NB312_310.out _).trans (hHeld.1)), ((cell_far (p := ⟨gb310, _, none⟩) NB312_310.out _).trans (hHeld.2.1)), ((cell_far (p := ⟨gb310, _, none⟩) NB312_310.out _).trans (hHeld.2.2.1)), ((cell_far (p := ⟨gb310, _, none⟩) NB312_310.out _).trans (hHeld.2.2.2.1)), ((cell_far (p := ⟨gb310, _, none⟩) NB312_310.out _).trans (hHeld.2.2.2.2.1)), ((cell_far (p := ⟨gb310, _, none⟩) NB312_310.out _).trans (hHeld.2.2.2.2.2.1)), ((cell_far (p := ⟨gb310, _, none⟩) NB312_310.out _).trans (hHeld.2.2.2.2.2.2.1)), ((cell_far (p := ⟨gb310, _, none⟩) NB312_310.out _).trans (hHeld.2.2.2.2.2.2.2))⟩ (fun hHeld => ?_)
                    clear hK K
                    refine done_ (done_of HT_.out (by kernel_rfl)) ?_
                    try go_wp2
                    go_roundg kj9
                    case measure => have := HK1.out; have := HJ9.out; omega
                    case rel => exact ⟨(true), (true), (wrap64 (x11_1 + 1)), (a1), (t313), (t314), (x311003_1), (((rd_T37 l0 x11_1).f6)), (x311005_1), (true), (by first | rfl | (simp; done) | (simp [*]; done)), (by first | rfl | (simp; done) | (simp [*]; done)), (by first | rfl | (simp; done) | (simp [*]; done)), H', ⟨by have := HK1.out; have := HJ9.out; omega⟩, ⟨by (with_reducible repeat (first | refine blk_drewN ?_ _ | refine blk_drew ?_ | refine blk_alloc ?_ _)); refine blk_far ?_ NB309_310.out _; (with_reducible repeat (first | refine blk_drewN ?_ _ | refine blk_drew ?_ | refine blk_alloc ?_ _)); refine blk_far ?_ NB309_310.out _; (with_reducible repeat (first | refine blk_drewN ?_ _ | refine blk_drew ?_ | refine blk_alloc ?_ _)); refine blk_far ?_ NB309_310.out _; (with_reducible repeat (first | refine blk_drewN ?_ _ | refine blk_drew ?_ | refine blk_alloc ?_ _)); refine blk_far ?_ NB309_310.out _; (with_reducible repeat (first | refine blk_drewN ?_ _ | refine blk_drew ?_ | refine blk_alloc ?_ _)); exact BK309.out⟩, ⟨by (with_reducible repeat (first | refine blk_drewN ?_ _ | refine blk_drew ?_ | refine blk_alloc ?_ _)); refine blk_put (cs := #[.string a1, .string t313, .string t314, .int .i64 x311003_1, .int .i64 x311004_1, .int .i64 x311005_1, .bool true]) ?_ 4 _ rfl; (with_reducible repeat (first | refine blk_drewN ?_ _ | refine blk_drew ?_ | refine blk_alloc ?_ _)); refine blk_put (cs := #[.string a1, .string t313, .string x311002_1, .int .i64 x311003_1, .int .i64 x311004_1, .int .i64 x311005_1, .bool true]) ?_ 2 _ rfl; (with_reducible repeat (first | refine blk_drewN ?_ _ | refine blk_drew ?_ | refine blk_alloc ?_ _)); refine blk_put (cs := #[.string a1, .string x311001_1, .string x311002_1, .int .i64 x311003_1, .int .i64 x311004_1, .int .i64 x311005_1, .bool true]) ?_ 1 _ rfl; (with_reducible repeat (first | refine blk_drewN ?_ _ | refine blk_drew ?_ | refine blk_alloc ?_ _)); refine blk_put (cs := #[.string a1, .string x311001_1, .string x311002_1, .int .i64 x311003_1, .int .i64 x311004_1, .int .i64 x311005_1, .bool x311006_1]) ?_ 6 _ rfl; (with_reducible repeat (first | refine blk_drewN ?_ _ | refine blk_drew ?_ | refine blk_alloc ?_ _)); exact BK310.out⟩, ⟨by repeat (first | (with_reducible first | exact HB.out | apply below_alloc | apply pw_below_drewN | apply below_drew1 | refine below_set ?_ GE309.out | refine below_set ?_ GE310.out | refine below_set ?_ GE312.out) | exact HB.out)⟩⟩
                  · replace c26 := Bool.eq_false_iff.mpr c26
                    subst c26
                    have H1 : (ciceroneref15_At.l0 kj9 l0 a1 a2 true true (wrap64 (x11_1 + 1)) a1 t313 t314 x311003_1 ((rd_T37 l0 x11_1).f6) ((rd_T37 l0 x11_1).f2) true) = some (r1, r2, r3, r4, r5, r6, r7, r8) := by rw [if_neg (show ¬ (false = true) by decide)] at H; exact H
                    clear H
                    have H := H1
                    clear H1
                    have H' := Aside0.mk H
                    clear H
                    have hnb38 := NB310_309.out
                    have hnc38 := NB309_310.out
                    have hnb39 := NB310_312.out
                    have hnc39 := NB312_310.out
                    have hcz40_0 : wc.cell? ⟨gb310, 0, none⟩ = some (.string x311000_1) := (blk_cell BK310.out 0).trans rfl
                    have hcz40_1 : wc.cell? ⟨gb310, 1, none⟩ = some (.string x311001_1) := (blk_cell BK310.out 1).trans rfl
                    have hcz40_2 : wc.cell? ⟨gb310, 2, none⟩ = some (.string x311002_1) := (blk_cell BK310.out 2).trans rfl
                    have hcz40_3 : wc.cell? ⟨gb310, 3, none⟩ = some (.int .i64 x311003_1) := (blk_cell BK310.out 3).trans rfl
                    have hcz40_4 : wc.cell? ⟨gb310, 4, none⟩ = some (.int .i64 x311004_1) := (blk_cell BK310.out 4).trans rfl
                    have hcz40_5 : wc.cell? ⟨gb310, 5, none⟩ = some (.int .i64 x311005_1) := (blk_cell BK310.out 5).trans rfl
                    have hcz40_6 : wc.cell? ⟨gb310, 6, none⟩ = some (.bool x311006_1) := (blk_cell BK310.out 6).trans rfl
                    have hfz40_0 := blk_frozen BK310.out 0
                    have hfz40_1 := blk_frozen BK310.out 1
                    have hfz40_2 := blk_frozen BK310.out 2
                    have hfz40_3 := blk_frozen BK310.out 3
                    have hfz40_4 := blk_frozen BK310.out 4
                    have hfz40_5 := blk_frozen BK310.out 5
                    have hfz40_6 := blk_frozen BK310.out 6
                    have hnb41 := NB312_309.out
                    have hnc41 := NB309_312.out
                    have hcz42_0 : wc.cell? ⟨gb312, 0, none⟩ = some (.string ((rd_T37 l0 x11_1).f0)) := (blk_cell BK312.out 0).trans rfl
                    have hcz42_1 : wc.cell? ⟨gb312, 1, none⟩ = some (.int .i64 ((rd_T37 l0 x11_1).f1)) := (blk_cell BK312.out 1).trans rfl
                    have hcz42_2 : wc.cell? ⟨gb312, 2, none⟩ = some (.int .i64 ((rd_T37 l0 x11_1).f2)) := (blk_cell BK312.out 2).trans rfl
                    have hcz42_3 : wc.cell? ⟨gb312, 3, none⟩ = some (.int .i64 ((rd_T37 l0 x11_1).f3)) := (blk_cell BK312.out 3).trans rfl
                    have hcz42_4 : wc.cell? ⟨gb312, 4, none⟩ = some (.string ((rd_T37 l0 x11_1).f4)) := (blk_cell BK312.out 4).trans rfl
                    have hcz42_5 : wc.cell? ⟨gb312, 5, none⟩ = some (.string ((rd_T37 l0 x11_1).f5)) := (blk_cell BK312.out 5).trans rfl
                    have hcz42_6 : wc.cell? ⟨gb312, 6, none⟩ = some (.int .i64 ((rd_T37 l0 x11_1).f6)) := (blk_cell BK312.out 6).trans rfl
                    have hcz42_7 : wc.cell? ⟨gb312, 7, none⟩ = some (.string ((rd_T37 l0 x11_1).f7)) := (blk_cell BK312.out 7).trans rfl
                    have hfz42_0 := blk_frozen BK312.out 0
                    have hfz42_1 := blk_frozen BK312.out 1
                    have hfz42_2 := blk_frozen BK312.out 2
                    have hfz42_3 := blk_frozen BK312.out 3
                    have hfz42_4 := blk_frozen BK312.out 4
                    have hfz42_5 := blk_frozen BK312.out 5
                    have hfz42_6 := blk_frozen BK312.out 6
                    have hfz42_7 := blk_frozen BK312.out 7
                    try go_wp2
                    have n0_ : Aside0 ((wc.setCell ⟨gb310, 0, none⟩ (.string a1)).heap[gb309]? = some (.cells #[.string (⟨#[]⟩ : ByteArray), .string (⟨#[]⟩ : ByteArray), .string (⟨#[]⟩ : ByteArray), .int .i64 0, .int .i64 0, .int .i64 0, .bool false] 64 (0, 0))) := ⟨by (with_reducible repeat (first | refine blk_drewN ?_ _ | refine blk_drew ?_ | refine blk_alloc ?_ _)); refine blk_far ?_ NB309_310.out _; (with_reducible repeat (first | refine blk_drewN ?_ _ | refine blk_drew ?_ | refine blk_alloc ?_ _)); exact BK309.out⟩
                    have n1_ : Aside0 ((wc.setCell ⟨gb310, 0, none⟩ (.string a1)).heap[gb310]? = some (.cells #[.string a1, .string x311001_1, .string x311002_1, .int .i64 x311003_1, .int .i64 x311004_1, .int .i64 x311005_1, .bool x311006_1] 64 (0, 0))) := ⟨by (with_reducible repeat (first | refine blk_drewN ?_ _ | refine blk_drew ?_ | refine blk_alloc ?_ _)); refine blk_put (cs := #[.string x311000_1, .string x311001_1, .string x311002_1, .int .i64 x311003_1, .int .i64 x311004_1, .int .i64 x311005_1, .bool x311006_1]) ?_ 0 _ rfl; (with_reducible repeat (first | refine blk_drewN ?_ _ | refine blk_drew ?_ | refine blk_alloc ?_ _)); exact BK310.out⟩
                    have n2_ : Aside0 ((wc.setCell ⟨gb310, 0, none⟩ (.string a1)).heap[gb312]? = some (.cells #[.string ((rd_T37 l0 x11_1).f0), .int .i64 ((rd_T37 l0 x11_1).f1), .int .i64 ((rd_T37 l0 x11_1).f2), .int .i64 ((rd_T37 l0 x11_1).f3), .string ((rd_T37 l0 x11_1).f4), .string ((rd_T37 l0 x11_1).f5), .int .i64 ((rd_T37 l0 x11_1).f6), .string ((rd_T37 l0 x11_1).f7)] 37 (0, 0))) := ⟨by (with_reducible repeat (first | refine blk_drewN ?_ _ | refine blk_drew ?_ | refine blk_alloc ?_ _)); refine blk_far ?_ NB312_310.out _; (with_reducible repeat (first | refine blk_drewN ?_ _ | refine blk_drew ?_ | refine blk_alloc ?_ _)); exact BK312.out⟩
                    have n3_ : Aside0 (Below w.heap.size w (wc.setCell ⟨gb310, 0, none⟩ (.string a1))) := ⟨by repeat (first | (with_reducible first | exact HB.out | apply below_alloc | apply pw_below_drewN | apply below_drew1 | refine below_set ?_ GE309.out | refine below_set ?_ GE310.out | refine below_set ?_ GE312.out) | exact HB.out)⟩
                    (try clear BK309)
                    (try clear BK310)
                    (try clear BK312)
                    (try clear HB)
                    generalize (wc.setCell ⟨gb310, 0, none⟩ (.string a1)) = w43 at n0_ n1_ n2_ n3_ ⊢
                    have BK309 := n0_
                    have BK310 := n1_
                    have BK312 := n2_
                    have HB := n3_
                    clear n0_ n1_ n2_ n3_
                    have n0_ := Aside0.mk (blk_drew BK309.out)
                    have n1_ := Aside0.mk (blk_drew BK310.out)
                    have n2_ := Aside0.mk (blk_drew BK312.out)
                    have n3_ := Aside0.mk (below_drew1 HB.out)
                    clear BK309
                    clear BK310
                    clear BK312
                    clear HB
                    have BK309 := n0_
                    have BK310 := n1_
                    have BK312 := n2_
                    have HB := n3_
                    clear n0_ n1_ n2_ n3_
                    refine start_ (n := 16) (S := fun w' => w'.cell? ⟨gb312, 0, none⟩ = some (.string ((rd_T37 l0 x11_1).f0)) ∧ w'.cell? ⟨gb312, 1, none⟩ = some (.int .i64 ((rd_T37 l0 x11_1).f1)) ∧ w'.cell? ⟨gb312, 2, none⟩ = some (.int .i64 ((rd_T37 l0 x11_1).f2)) ∧ w'.cell? ⟨gb312, 3, none⟩ = some (.int .i64 ((rd_T37 l0 x11_1).f3)) ∧ w'.cell? ⟨gb312, 4, none⟩ = some (.string ((rd_T37 l0 x11_1).f4)) ∧ w'.cell? ⟨gb312, 5, none⟩ = some (.string ((rd_T37 l0 x11_1).f5)) ∧ w'.cell? ⟨gb312, 6, none⟩ = some (.int .i64 ((rd_T37 l0 x11_1).f6)) ∧ w'.cell? ⟨gb312, 7, none⟩ = some (.string ((rd_T37 l0 x11_1).f7))) (ds := []) #[false, false, false, false, false, false, false, false, false, false, false, false, false, false, false, false] (by kernel_rfl) rfl rfl ⟨(blk_cell BK312.out 0).trans rfl, (blk_cell BK312.out 1).trans rfl, (blk_cell BK312.out 2).trans rfl, (blk_cell BK312.out 3).trans rfl, (blk_cell BK312.out 4).trans rfl, (blk_cell BK312.out 5).trans rfl, (blk_cell BK312.out 6).trans rfl, (blk_cell BK312.out 7).trans rfl⟩ (fun hHeld => ?_); refine with_tabW ciceroneref15_At.tab11 ciceroneref15_At.bits11 (fun HT_ HW_ => ?_)
                    generalize w43.drew = w44 at BK309 BK310 BK312 HB hHeld ⊢
                    refine pure_ (i := 0) (N := some 40) (v := ?_) (a' := ?_) #[true, false, false, false, false, false, false, false, false, false, false, false, false, false, false, false] rfl rfl (any_of HT_.out (by kernel_rfl)) (fun _ _ _ h => h) (Or.inl ⟨by rfl, ?_⟩) ?_ ?_
                    rotate_left
                    · intro w'
                      go_simp
                      with_reducible rfl
                    rotate_left
                    · simp only [Act.put, List.setIfInBounds_toArray, List.set_cons_zero, List.set_cons_succ, i64_w, i32_w]
                      rfl
                    refine pure_ (i := 3) (N := some 43) (v := ?_) (a' := ?_) #[true, false, false, true, false, false, false, false, false, false, false, false, false, false, false, false] rfl rfl (any_of HT_.out (by kernel_rfl)) (fun _ _ _ h => h) (Or.inl ⟨by rfl, ?_⟩) ?_ ?_
                    rotate_left
                    · intro w'
                      go_simp
                      with_reducible rfl
                    rotate_left
                    · simp only [Act.put, List.setIfInBounds_toArray, List.set_cons_zero, List.set_cons_succ, i64_w, i32_w]
                      rfl
                    refine pure_ (i := 6) (N := some 46) (v := ?_) (a' := ?_) #[true, false, false, true, false, false, true, false, false, false, false, false, false, false, false, false] rfl rfl (any_of HT_.out (by kernel_rfl)) (fun _ _ _ h => h) (Or.inl ⟨by rfl, ?_⟩) ?_ ?_
                    rotate_left
                    · intro w'
                      go_simp
                      with_reducible rfl
                    rotate_left
                    · simp only [Act.put, List.setIfInBounds_toArray, List.set_cons_zero, List.set_cons_succ, i64_w, i32_w]
                      rfl
                    refine pure_ (i := 8) (N := some 48) (v := ?_) (a' := ?_) #[true, false, false, true, false, false, true, false, true, false, false, false, false, false, false, false] rfl rfl (any_of HT_.out (by kernel_rfl)) (fun _ _ _ h => h) (Or.inl ⟨by rfl, ?_⟩) ?_ ?_
                    rotate_left
                    · intro w'
                      go_simp
                      with_reducible rfl
                    rotate_left
                    · simp only [Act.put, List.setIfInBounds_toArray, List.set_cons_zero, List.set_cons_succ, i64_w, i32_w]
                      rfl
                    refine take_ (i := 1) (N := some 41) (v := ?_) (a' := ?_) #[true, true, false, true, false, false, true, false, true, false, false, false, false, false, false, false] rfl rfl (take_ofW HT_.out HW_.out (by kernel_rfl)) (fun _ _ _ h => h) (Or.inl ⟨by rfl, ?_⟩) hHeld ?_ ?_
                    rotate_left
                    · rintro w' ⟨s0, s1, s2, s3, s4, s5, s6, s7⟩
                      go_simp
                      with_reducible rfl
                    rotate_left
                    · simp only [Act.put, List.setIfInBounds_toArray, List.set_cons_zero, List.set_cons_succ, i64_w, i32_w]
                      rfl
                    refine take_ (i := 4) (N := some 44) (v := ?_) (a' := ?_) #[true, true, false, true, true, false, true, false, true, false, false, false, false, false, false, false] rfl rfl (take_ofW HT_.out HW_.out (by kernel_rfl)) (fun _ _ _ h => h) (Or.inl ⟨by rfl, ?_⟩) hHeld ?_ ?_
                    rotate_left
                    · rintro w' ⟨s0, s1, s2, s3, s4, s5, s6, s7⟩
                      go_simp
                      with_reducible rfl
                    rotate_left
                    · simp only [Act.put, List.setIfInBounds_toArray, List.set_cons_zero, List.set_cons_succ, i64_w, i32_w]
                      rfl
                    refine take_ (i := 7) (N := some 47) (v := ?_) (a' := ?_) #[true, true, false, true, true, false, true, true, true, false, false, false, false, false, false, false] rfl rfl (take_ofW HT_.out HW_.out (by kernel_rfl)) (fun _ _ _ h => h) (Or.inl ⟨by rfl, ?_⟩) hHeld ?_ ?_
                    rotate_left
                    · rintro w' ⟨s0, s1, s2, s3, s4, s5, s6, s7⟩
                      go_simp
                      with_reducible rfl
                    rotate_left
                    · simp only [Act.put, List.setIfInBounds_toArray, List.set_cons_zero, List.set_cons_succ, i64_w, i32_w]
                      rfl
                    refine one_ (i := 2) (N := some 42) #[true, true, true, true, true, false, true, true, true, false, false, false, false, false, false, false] rfl rfl (one_of HT_.out (by kernel_rfl)) (by decide) (fun K hK => ?_)
                    refine goes_ Tryd.func46 (by kernel_rfl) rfl #[.string ((rd_T37 l0 x11_1).f7)] (by rfl) rfl rfl (by (try simp only [List.map_toArray, List.map_cons, List.map_nil]); first | done | rfl | (simp only [List.length_drop, List.length_take]; rfl)) ?_
                    with_reducible refine (ciceroneref02_Maker.calls kj9 ((rd_T37 l0 x11_1).f7) t313 _ A24.out).mono ?_
                    rintro e w' ⟨rfl, ⟨nd, rfl⟩⟩
                    refine ⟨_, rfl, ?_⟩
                    refine hK.out _ _ ⟨(blk_cell BK312.out 0).trans rfl, (blk_cell BK312.out 1).trans rfl, (blk_cell BK312.out 2).trans rfl, (blk_cell BK312.out 3).trans rfl, (blk_cell BK312.out 4).trans rfl, (blk_cell BK312.out 5).trans rfl, (blk_cell BK312.out 6).trans rfl, (blk_cell BK312.out 7).trans rfl⟩ (fun hHeld => ?_)
                    clear hK K
                    refine norm_ (a' := ?_) ?_ ?_
                    rotate_left
                    · show Act.put _ (some 42) _ = _
                      simp only [Act.put, List.setIfInBounds_toArray, List.set_cons_zero, List.set_cons_succ, i64_w, i32_w]
                      rfl
                    refine one_ (i := 5) (N := some 45) #[true, true, true, true, true, true, true, true, true, false, false, false, false, false, false, false] rfl rfl (one_of HT_.out (by kernel_rfl)) (by decide) (fun K hK => ?_)
                    refine goes_ Tryd.func47 (by kernel_rfl) rfl #[.string ((rd_T37 l0 x11_1).f7)] (by rfl) rfl rfl (by (try simp only [List.map_toArray, List.map_cons, List.map_nil]); first | done | rfl | (simp only [List.length_drop, List.length_take]; rfl)) ?_
                    with_reducible refine (ciceroneref15_behind.calls kj9 ((rd_T37 l0 x11_1).f7) t314 _ A25.out).mono ?_
                    rintro e w' ⟨rfl, ⟨nd, rfl⟩⟩
                    refine ⟨_, rfl, ?_⟩
                    refine hK.out _ _ ⟨(blk_cell BK312.out 0).trans rfl, (blk_cell BK312.out 1).trans rfl, (blk_cell BK312.out 2).trans rfl, (blk_cell BK312.out 3).trans rfl, (blk_cell BK312.out 4).trans rfl, (blk_cell BK312.out 5).trans rfl, (blk_cell BK312.out 6).trans rfl, (blk_cell BK312.out 7).trans rfl⟩ (fun hHeld => ?_)
                    clear hK K
                    refine norm_ (a' := ?_) ?_ ?_
                    rotate_left
                    · show Act.put _ (some 45) _ = _
                      simp only [Act.put, List.setIfInBounds_toArray, List.set_cons_zero, List.set_cons_succ, i64_w, i32_w]
                      rfl
                    refine one_ (i := 9) (N := none) #[true, true, true, true, true, true, true, true, true, true, false, false, false, false, false, false] rfl rfl (one_of HT_.out (by kernel_rfl)) (by decide) (fun K hK => ?_)
                    have hs45 : w44.cell? ⟨gb310, 6, none⟩ = some (.bool x311006_1) := (blk_cell BK310.out 6).trans rfl
                    have hfs45 := blk_frozen BK310.out 6
                    have hns45_0 := NB309_310.out
                    have hns45_2 := NB312_310.out
                    have hms45_0 := NB310_309.out
                    have hms45_2 := NB310_312.out
                    refine skip_ (w1 := ?_) (by rfl) rfl ?_ ?_
                    rotate_left
                    · go_simp
                      rfl
                    refine hK.out _ _ ⟨((cell_far (p := ⟨gb310, _, none⟩) NB312_310.out _).trans (hHeld.1)), ((cell_far (p := ⟨gb310, _, none⟩) NB312_310.out _).trans (hHeld.2.1)), ((cell_far (p := ⟨gb310, _, none⟩) NB312_310.out _).trans (hHeld.2.2.1)), ((cell_far (p := ⟨gb310, _, none⟩) NB312_310.out _).trans (hHeld.2.2.2.1)), ((cell_far (p := ⟨gb310, _, none⟩) NB312_310.out _).trans (hHeld.2.2.2.2.1)), ((cell_far (p := ⟨gb310, _, none⟩) NB312_310.out _).trans (hHeld.2.2.2.2.2.1)), ((cell_far (p := ⟨gb310, _, none⟩) NB312_310.out _).trans (hHeld.2.2.2.2.2.2.1)), ((cell_far (p := ⟨gb310, _, none⟩) NB312_310.out _).trans (hHeld.2.2.2.2.2.2.2))⟩ (fun hHeld => ?_)
                    clear hK K
                    refine pure_ (i := 10) (N := some 49) (v := ?_) (a' := ?_) #[true, true, true, true, true, true, true, true, true, true, true, false, false, false, false, false] rfl rfl (any_of HT_.out (by kernel_rfl)) (fun _ _ _ h => h) (Or.inl ⟨by rfl, ?_⟩) ?_ ?_
                    rotate_left
                    · intro w'
                      go_simp
                      with_reducible rfl
                    rotate_left
                    · simp only [Act.put, List.setIfInBounds_toArray, List.set_cons_zero, List.set_cons_succ, i64_w, i32_w]
                      rfl
                    refine one_ (i := 11) (N := none) #[true, true, true, true, true, true, true, true, true, true, true, true, false, false, false, false] rfl rfl (one_of HT_.out (by kernel_rfl)) (by decide) (fun K hK => ?_)
                    have hs46 : w44.cell? ⟨gb310, 1, none⟩ = some (.string x311001_1) := (blk_cell BK310.out 1).trans rfl
                    have hfs46 := blk_frozen BK310.out 1
                    have hns46_0 := NB309_310.out
                    have hns46_2 := NB312_310.out
                    have hms46_0 := NB310_309.out
                    have hms46_2 := NB310_312.out
                    refine skip_ (w1 := ?_) (by rfl) rfl ?_ ?_
                    rotate_left
                    · go_simp
                      rfl
                    refine hK.out _ _ ⟨((cell_far (p := ⟨gb310, _, none⟩) NB312_310.out _).trans (hHeld.1)), ((cell_far (p := ⟨gb310, _, none⟩) NB312_310.out _).trans (hHeld.2.1)), ((cell_far (p := ⟨gb310, _, none⟩) NB312_310.out _).trans (hHeld.2.2.1)), ((cell_far (p := ⟨gb310, _, none⟩) NB312_310.out _).trans (hHeld.2.2.2.1)), ((cell_far (p := ⟨gb310, _, none⟩) NB312_310.out _).trans (hHeld.2.2.2.2.1)), ((cell_far (p := ⟨gb310, _, none⟩) NB312_310.out _).trans (hHeld.2.2.2.2.2.1)), ((cell_far (p := ⟨gb310, _, none⟩) NB312_310.out _).trans (hHeld.2.2.2.2.2.2.1)), ((cell_far (p := ⟨gb310, _, none⟩) NB312_310.out _).trans (hHeld.2.2.2.2.2.2.2))⟩ (fun hHeld => ?_)
                    clear hK K
                    refine pure_ (i := 12) (N := some 50) (v := ?_) (a' := ?_) #[true, true, true, true, true, true, true, true, true, true, true, true, true, false, false, false] rfl rfl (any_of HT_.out (by kernel_rfl)) (fun _ _ _ h => h) (Or.inl ⟨by rfl, ?_⟩) ?_ ?_
                    rotate_left
                    · intro w'
                      go_simp
                      with_reducible rfl
                    rotate_left
                    · simp only [Act.put, List.setIfInBounds_toArray, List.set_cons_zero, List.set_cons_succ, i64_w, i32_w]
                      rfl
                    refine one_ (i := 13) (N := none) #[true, true, true, true, true, true, true, true, true, true, true, true, true, true, false, false] rfl rfl (one_of HT_.out (by kernel_rfl)) (by decide) (fun K hK => ?_)
                    have hs47 : w44.cell? ⟨gb310, 2, none⟩ = some (.string x311002_1) := (blk_cell BK310.out 2).trans rfl
                    have hfs47 := blk_frozen BK310.out 2
                    have hns47_0 := NB309_310.out
                    have hns47_2 := NB312_310.out
                    have hms47_0 := NB310_309.out
                    have hms47_2 := NB310_312.out
                    refine skip_ (w1 := ?_) (by rfl) rfl ?_ ?_
                    rotate_left
                    · go_simp
                      rfl
                    refine hK.out _ _ ⟨((cell_far (p := ⟨gb310, _, none⟩) NB312_310.out _).trans (hHeld.1)), ((cell_far (p := ⟨gb310, _, none⟩) NB312_310.out _).trans (hHeld.2.1)), ((cell_far (p := ⟨gb310, _, none⟩) NB312_310.out _).trans (hHeld.2.2.1)), ((cell_far (p := ⟨gb310, _, none⟩) NB312_310.out _).trans (hHeld.2.2.2.1)), ((cell_far (p := ⟨gb310, _, none⟩) NB312_310.out _).trans (hHeld.2.2.2.2.1)), ((cell_far (p := ⟨gb310, _, none⟩) NB312_310.out _).trans (hHeld.2.2.2.2.2.1)), ((cell_far (p := ⟨gb310, _, none⟩) NB312_310.out _).trans (hHeld.2.2.2.2.2.2.1)), ((cell_far (p := ⟨gb310, _, none⟩) NB312_310.out _).trans (hHeld.2.2.2.2.2.2.2))⟩ (fun hHeld => ?_)
                    clear hK K
                    refine pure_ (i := 14) (N := some 51) (v := ?_) (a' := ?_) #[true, true, true, true, true, true, true, true, true, true, true, true, true, true, true, false] rfl rfl (any_of HT_.out (by kernel_rfl)) (fun _ _ _ h => h) (Or.inl ⟨by rfl, ?_⟩) ?_ ?_
                    rotate_left
                    · intro w'
                      go_simp
                      with_reducible rfl
                    rotate_left
                    · simp only [Act.put, List.setIfInBounds_toArray, List.set_cons_zero, List.set_cons_succ, i64_w, i32_w]
                      rfl
                    refine one_ (i := 15) (N := none) #[true, true, true, true, true, true, true, true, true, true, true, true, true, true, true, true] rfl rfl (one_of HT_.out (by kernel_rfl)) (by decide) (fun K hK => ?_)
                    have hs48 : w44.cell? ⟨gb310, 4, none⟩ = some (.int .i64 x311004_1) := (blk_cell BK310.out 4).trans rfl
                    have hfs48 := blk_frozen BK310.out 4
                    have hns48_0 := NB309_310.out
                    have hns48_2 := NB312_310.out
                    have hms48_0 := NB310_309.out
                    have hms48_2 := NB310_312.out
                    refine skip_ (w1 := ?_) (by rfl) rfl ?_ ?_
                    rotate_left
                    · go_simp
                      rfl
                    refine hK.out _ _ ⟨((cell_far (p := ⟨gb310, _, none⟩) NB312_310.out _).trans (hHeld.1)), ((cell_far (p := ⟨gb310, _, none⟩) NB312_310.out _).trans (hHeld.2.1)), ((cell_far (p := ⟨gb310, _, none⟩) NB312_310.out _).trans (hHeld.2.2.1)), ((cell_far (p := ⟨gb310, _, none⟩) NB312_310.out _).trans (hHeld.2.2.2.1)), ((cell_far (p := ⟨gb310, _, none⟩) NB312_310.out _).trans (hHeld.2.2.2.2.1)), ((cell_far (p := ⟨gb310, _, none⟩) NB312_310.out _).trans (hHeld.2.2.2.2.2.1)), ((cell_far (p := ⟨gb310, _, none⟩) NB312_310.out _).trans (hHeld.2.2.2.2.2.2.1)), ((cell_far (p := ⟨gb310, _, none⟩) NB312_310.out _).trans (hHeld.2.2.2.2.2.2.2))⟩ (fun hHeld => ?_)
                    clear hK K
                    refine done_ (done_of HT_.out (by kernel_rfl)) ?_
                    have hcz49_0 : w44.cell? ⟨gb312, 0, none⟩ = some (.string ((rd_T37 l0 x11_1).f0)) := (blk_cell BK312.out 0).trans rfl
                    have hcz49_1 : w44.cell? ⟨gb312, 1, none⟩ = some (.int .i64 ((rd_T37 l0 x11_1).f1)) := (blk_cell BK312.out 1).trans rfl
                    have hcz49_2 : w44.cell? ⟨gb312, 2, none⟩ = some (.int .i64 ((rd_T37 l0 x11_1).f2)) := (blk_cell BK312.out 2).trans rfl
                    have hcz49_3 : w44.cell? ⟨gb312, 3, none⟩ = some (.int .i64 ((rd_T37 l0 x11_1).f3)) := (blk_cell BK312.out 3).trans rfl
                    have hcz49_4 : w44.cell? ⟨gb312, 4, none⟩ = some (.string ((rd_T37 l0 x11_1).f4)) := (blk_cell BK312.out 4).trans rfl
                    have hcz49_5 : w44.cell? ⟨gb312, 5, none⟩ = some (.string ((rd_T37 l0 x11_1).f5)) := (blk_cell BK312.out 5).trans rfl
                    have hcz49_6 : w44.cell? ⟨gb312, 6, none⟩ = some (.int .i64 ((rd_T37 l0 x11_1).f6)) := (blk_cell BK312.out 6).trans rfl
                    have hcz49_7 : w44.cell? ⟨gb312, 7, none⟩ = some (.string ((rd_T37 l0 x11_1).f7)) := (blk_cell BK312.out 7).trans rfl
                    have hfz49_0 := blk_frozen BK312.out 0
                    have hfz49_1 := blk_frozen BK312.out 1
                    have hfz49_2 := blk_frozen BK312.out 2
                    have hfz49_3 := blk_frozen BK312.out 3
                    have hfz49_4 := blk_frozen BK312.out 4
                    have hfz49_5 := blk_frozen BK312.out 5
                    have hfz49_6 := blk_frozen BK312.out 6
                    have hfz49_7 := blk_frozen BK312.out 7
                    have hcz50_0 : w44.cell? ⟨gb310, 0, none⟩ = some (.string a1) := (blk_cell BK310.out 0).trans rfl
                    have hcz50_1 : w44.cell? ⟨gb310, 1, none⟩ = some (.string x311001_1) := (blk_cell BK310.out 1).trans rfl
                    have hcz50_2 : w44.cell? ⟨gb310, 2, none⟩ = some (.string x311002_1) := (blk_cell BK310.out 2).trans rfl
                    have hcz50_3 : w44.cell? ⟨gb310, 3, none⟩ = some (.int .i64 x311003_1) := (blk_cell BK310.out 3).trans rfl
                    have hcz50_4 : w44.cell? ⟨gb310, 4, none⟩ = some (.int .i64 x311004_1) := (blk_cell BK310.out 4).trans rfl
                    have hcz50_5 : w44.cell? ⟨gb310, 5, none⟩ = some (.int .i64 x311005_1) := (blk_cell BK310.out 5).trans rfl
                    have hcz50_6 : w44.cell? ⟨gb310, 6, none⟩ = some (.bool x311006_1) := (blk_cell BK310.out 6).trans rfl
                    have hfz50_0 := blk_frozen BK310.out 0
                    have hfz50_1 := blk_frozen BK310.out 1
                    have hfz50_2 := blk_frozen BK310.out 2
                    have hfz50_3 := blk_frozen BK310.out 3
                    have hfz50_4 := blk_frozen BK310.out 4
                    have hfz50_5 := blk_frozen BK310.out 5
                    have hfz50_6 := blk_frozen BK310.out 6
                    try go_wp2
                    go_roundg kj9
                    case measure => have := HK1.out; have := HJ9.out; omega
                    case rel => exact ⟨(true), (true), (wrap64 (x11_1 + 1)), (a1), (t313), (t314), (x311003_1), (((rd_T37 l0 x11_1).f6)), (((rd_T37 l0 x11_1).f2)), (true), (by first | rfl | (simp; done) | (simp [*]; done)), (by first | rfl | (simp; done) | (simp [*]; done)), (by first | rfl | (simp; done) | (simp [*]; done)), H', ⟨by have := HK1.out; have := HJ9.out; omega⟩, ⟨by (with_reducible repeat (first | refine blk_drewN ?_ _ | refine blk_drew ?_ | refine blk_alloc ?_ _)); refine blk_far ?_ NB309_310.out _; (with_reducible repeat (first | refine blk_drewN ?_ _ | refine blk_drew ?_ | refine blk_alloc ?_ _)); refine blk_far ?_ NB309_310.out _; (with_reducible repeat (first | refine blk_drewN ?_ _ | refine blk_drew ?_ | refine blk_alloc ?_ _)); refine blk_far ?_ NB309_310.out _; (with_reducible repeat (first | refine blk_drewN ?_ _ | refine blk_drew ?_ | refine blk_alloc ?_ _)); refine blk_far ?_ NB309_310.out _; (with_reducible repeat (first | refine blk_drewN ?_ _ | refine blk_drew ?_ | refine blk_alloc ?_ _)); refine blk_far ?_ NB309_310.out _; (with_reducible repeat (first | refine blk_drewN ?_ _ | refine blk_drew ?_ | refine blk_alloc ?_ _)); exact BK309.out⟩, ⟨by (with_reducible repeat (first | refine blk_drewN ?_ _ | refine blk_drew ?_ | refine blk_alloc ?_ _)); refine blk_put (cs := #[.string a1, .string t313, .string t314, .int .i64 x311003_1, .int .i64 ((rd_T37 l0 x11_1).f6), .int .i64 x311005_1, .bool true]) ?_ 5 _ rfl; (with_reducible repeat (first | refine blk_drewN ?_ _ | refine blk_drew ?_ | refine blk_alloc ?_ _)); refine blk_put (cs := #[.string a1, .string t313, .string t314, .int .i64 x311003_1, .int .i64 x311004_1, .int .i64 x311005_1, .bool true]) ?_ 4 _ rfl; (with_reducible repeat (first | refine blk_drewN ?_ _ | refine blk_drew ?_ | refine blk_alloc ?_ _)); refine blk_put (cs := #[.string a1, .string t313, .string x311002_1, .int .i64 x311003_1, .int .i64 x311004_1, .int .i64 x311005_1, .bool true]) ?_ 2 _ rfl; (with_reducible repeat (first | refine blk_drewN ?_ _ | refine blk_drew ?_ | refine blk_alloc ?_ _)); refine blk_put (cs := #[.string a1, .string x311001_1, .string x311002_1, .int .i64 x311003_1, .int .i64 x311004_1, .int .i64 x311005_1, .bool true]) ?_ 1 _ rfl; (with_reducible repeat (first | refine blk_drewN ?_ _ | refine blk_drew ?_ | refine blk_alloc ?_ _)); refine blk_put (cs := #[.string a1, .string x311001_1, .string x311002_1, .int .i64 x311003_1, .int .i64 x311004_1, .int .i64 x311005_1, .bool x311006_1]) ?_ 6 _ rfl; (with_reducible repeat (first | refine blk_drewN ?_ _ | refine blk_drew ?_ | refine blk_alloc ?_ _)); exact BK310.out⟩, ⟨by repeat (first | (with_reducible first | exact HB.out | apply below_alloc | apply pw_below_drewN | apply below_drew1 | refine below_set ?_ GE309.out | refine below_set ?_ GE310.out | refine below_set ?_ GE312.out) | exact HB.out)⟩⟩
                · rw [if_neg c23] at H
                  have c23b0 : (((rd_T37 l0 x11_1).f3) == 11) = false := beq_eq_false_iff_ne.mpr c23
                  have c23b1 : (((rd_T37 l0 x11_1).f3) != 11) = true := bne_iff_ne.mpr c23
                  by_cases c51 : ((rd_T37 l0 x11_1).f3) = 13
                  · rw [if_pos c51] at H
                    have c51b0 : (((rd_T37 l0 x11_1).f3) == 13) = true := beq_iff_eq.mpr c51
                    have c51b1 : (((rd_T37 l0 x11_1).f3) != 13) = false := bne_eq_false_iff_eq.mpr c51
                    clear c51
                    have H' := Aside0.mk H
                    clear H
                    have hnb52 := NB310_309.out
                    have hnc52 := NB309_310.out
                    have hnb53 := NB310_312.out
                    have hnc53 := NB312_310.out
                    have hcz54_0 : wc.cell? ⟨gb310, 0, none⟩ = some (.string x311000_1) := (blk_cell BK310.out 0).trans rfl
                    have hcz54_1 : wc.cell? ⟨gb310, 1, none⟩ = some (.string x311001_1) := (blk_cell BK310.out 1).trans rfl
                    have hcz54_2 : wc.cell? ⟨gb310, 2, none⟩ = some (.string x311002_1) := (blk_cell BK310.out 2).trans rfl
                    have hcz54_3 : wc.cell? ⟨gb310, 3, none⟩ = some (.int .i64 x311003_1) := (blk_cell BK310.out 3).trans rfl
                    have hcz54_4 : wc.cell? ⟨gb310, 4, none⟩ = some (.int .i64 x311004_1) := (blk_cell BK310.out 4).trans rfl
                    have hcz54_5 : wc.cell? ⟨gb310, 5, none⟩ = some (.int .i64 x311005_1) := (blk_cell BK310.out 5).trans rfl
                    have hcz54_6 : wc.cell? ⟨gb310, 6, none⟩ = some (.bool x311006_1) := (blk_cell BK310.out 6).trans rfl
                    have hfz54_0 := blk_frozen BK310.out 0
                    have hfz54_1 := blk_frozen BK310.out 1
                    have hfz54_2 := blk_frozen BK310.out 2
                    have hfz54_3 := blk_frozen BK310.out 3
                    have hfz54_4 := blk_frozen BK310.out 4
                    have hfz54_5 := blk_frozen BK310.out 5
                    have hfz54_6 := blk_frozen BK310.out 6
                    have hnb55 := NB312_309.out
                    have hnc55 := NB309_312.out
                    have hcz56_0 : wc.cell? ⟨gb312, 0, none⟩ = some (.string ((rd_T37 l0 x11_1).f0)) := (blk_cell BK312.out 0).trans rfl
                    have hcz56_1 : wc.cell? ⟨gb312, 1, none⟩ = some (.int .i64 ((rd_T37 l0 x11_1).f1)) := (blk_cell BK312.out 1).trans rfl
                    have hcz56_2 : wc.cell? ⟨gb312, 2, none⟩ = some (.int .i64 ((rd_T37 l0 x11_1).f2)) := (blk_cell BK312.out 2).trans rfl
                    have hcz56_3 : wc.cell? ⟨gb312, 3, none⟩ = some (.int .i64 ((rd_T37 l0 x11_1).f3)) := (blk_cell BK312.out 3).trans rfl
                    have hcz56_4 : wc.cell? ⟨gb312, 4, none⟩ = some (.string ((rd_T37 l0 x11_1).f4)) := (blk_cell BK312.out 4).trans rfl
                    have hcz56_5 : wc.cell? ⟨gb312, 5, none⟩ = some (.string ((rd_T37 l0 x11_1).f5)) := (blk_cell BK312.out 5).trans rfl
                    have hcz56_6 : wc.cell? ⟨gb312, 6, none⟩ = some (.int .i64 ((rd_T37 l0 x11_1).f6)) := (blk_cell BK312.out 6).trans rfl
                    have hcz56_7 : wc.cell? ⟨gb312, 7, none⟩ = some (.string ((rd_T37 l0 x11_1).f7)) := (blk_cell BK312.out 7).trans rfl
                    have hfz56_0 := blk_frozen BK312.out 0
                    have hfz56_1 := blk_frozen BK312.out 1
                    have hfz56_2 := blk_frozen BK312.out 2
                    have hfz56_3 := blk_frozen BK312.out 3
                    have hfz56_4 := blk_frozen BK312.out 4
                    have hfz56_5 := blk_frozen BK312.out 5
                    have hfz56_6 := blk_frozen BK312.out 6
                    have hfz56_7 := blk_frozen BK312.out 7
                    go_wp2
                    go_roundg kj9
                    case measure => have := HK1.out; have := HJ9.out; omega
                    case rel => exact ⟨(true), (x10_1), (wrap64 (x11_1 + 1)), (a1), (x311001_1), (x311002_1), (x311003_1), (x311004_1), (x311005_1), (false), (by first | rfl | (simp; done) | (simp [*]; done)), (by first | rfl | (simp; done) | (simp [*]; done)), (by first | rfl | (simp; done) | (simp [*]; done)), H', ⟨by have := HK1.out; have := HJ9.out; omega⟩, ⟨by (with_reducible repeat (first | refine blk_drewN ?_ _ | refine blk_drew ?_ | refine blk_alloc ?_ _)); refine blk_far ?_ NB309_310.out _; (with_reducible repeat (first | refine blk_drewN ?_ _ | refine blk_drew ?_ | refine blk_alloc ?_ _)); refine blk_far ?_ NB309_310.out _; (with_reducible repeat (first | refine blk_drewN ?_ _ | refine blk_drew ?_ | refine blk_alloc ?_ _)); exact BK309.out⟩, ⟨by (with_reducible repeat (first | refine blk_drewN ?_ _ | refine blk_drew ?_ | refine blk_alloc ?_ _)); refine blk_put (cs := #[.string a1, .string x311001_1, .string x311002_1, .int .i64 x311003_1, .int .i64 x311004_1, .int .i64 x311005_1, .bool x311006_1]) ?_ 6 _ rfl; (with_reducible repeat (first | refine blk_drewN ?_ _ | refine blk_drew ?_ | refine blk_alloc ?_ _)); refine blk_put (cs := #[.string x311000_1, .string x311001_1, .string x311002_1, .int .i64 x311003_1, .int .i64 x311004_1, .int .i64 x311005_1, .bool x311006_1]) ?_ 0 _ rfl; (with_reducible repeat (first | refine blk_drewN ?_ _ | refine blk_drew ?_ | refine blk_alloc ?_ _)); exact BK310.out⟩, ⟨by repeat (first | (with_reducible first | exact HB.out | apply below_alloc | apply pw_below_drewN | apply below_drew1 | refine below_set ?_ GE309.out | refine below_set ?_ GE310.out | refine below_set ?_ GE312.out) | exact HB.out)⟩⟩
                  · rw [if_neg c51] at H
                    have c51b0 : (((rd_T37 l0 x11_1).f3) == 13) = false := beq_eq_false_iff_ne.mpr c51
                    have c51b1 : (((rd_T37 l0 x11_1).f3) != 13) = true := bne_iff_ne.mpr c51
                    by_cases c57 : ((rd_T37 l0 x11_1).f3) = 12
                    · rw [if_pos c57] at H
                      have c57b0 : (((rd_T37 l0 x11_1).f3) == 12) = true := beq_iff_eq.mpr c57
                      have c57b1 : (((rd_T37 l0 x11_1).f3) != 12) = false := bne_eq_false_iff_eq.mpr c57
                      clear c57
                      have H' := Aside0.mk H
                      clear H
                      have hnb58 := NB310_309.out
                      have hnc58 := NB309_310.out
                      have hnb59 := NB310_312.out
                      have hnc59 := NB312_310.out
                      have hcz60_0 : wc.cell? ⟨gb310, 0, none⟩ = some (.string x311000_1) := (blk_cell BK310.out 0).trans rfl
                      have hcz60_1 : wc.cell? ⟨gb310, 1, none⟩ = some (.string x311001_1) := (blk_cell BK310.out 1).trans rfl
                      have hcz60_2 : wc.cell? ⟨gb310, 2, none⟩ = some (.string x311002_1) := (blk_cell BK310.out 2).trans rfl
                      have hcz60_3 : wc.cell? ⟨gb310, 3, none⟩ = some (.int .i64 x311003_1) := (blk_cell BK310.out 3).trans rfl
                      have hcz60_4 : wc.cell? ⟨gb310, 4, none⟩ = some (.int .i64 x311004_1) := (blk_cell BK310.out 4).trans rfl
                      have hcz60_5 : wc.cell? ⟨gb310, 5, none⟩ = some (.int .i64 x311005_1) := (blk_cell BK310.out 5).trans rfl
                      have hcz60_6 : wc.cell? ⟨gb310, 6, none⟩ = some (.bool x311006_1) := (blk_cell BK310.out 6).trans rfl
                      have hfz60_0 := blk_frozen BK310.out 0
                      have hfz60_1 := blk_frozen BK310.out 1
                      have hfz60_2 := blk_frozen BK310.out 2
                      have hfz60_3 := blk_frozen BK310.out 3
                      have hfz60_4 := blk_frozen BK310.out 4
                      have hfz60_5 := blk_frozen BK310.out 5
                      have hfz60_6 := blk_frozen BK310.out 6
                      have hnb61 := NB312_309.out
                      have hnc61 := NB309_312.out
                      have hcz62_0 : wc.cell? ⟨gb312, 0, none⟩ = some (.string ((rd_T37 l0 x11_1).f0)) := (blk_cell BK312.out 0).trans rfl
                      have hcz62_1 : wc.cell? ⟨gb312, 1, none⟩ = some (.int .i64 ((rd_T37 l0 x11_1).f1)) := (blk_cell BK312.out 1).trans rfl
                      have hcz62_2 : wc.cell? ⟨gb312, 2, none⟩ = some (.int .i64 ((rd_T37 l0 x11_1).f2)) := (blk_cell BK312.out 2).trans rfl
                      have hcz62_3 : wc.cell? ⟨gb312, 3, none⟩ = some (.int .i64 ((rd_T37 l0 x11_1).f3)) := (blk_cell BK312.out 3).trans rfl
                      have hcz62_4 : wc.cell? ⟨gb312, 4, none⟩ = some (.string ((rd_T37 l0 x11_1).f4)) := (blk_cell BK312.out 4).trans rfl
                      have hcz62_5 : wc.cell? ⟨gb312, 5, none⟩ = some (.string ((rd_T37 l0 x11_1).f5)) := (blk_cell BK312.out 5).trans rfl
                      have hcz62_6 : wc.cell? ⟨gb312, 6, none⟩ = some (.int .i64 ((rd_T37 l0 x11_1).f6)) := (blk_cell BK312.out 6).trans rfl
                      have hcz62_7 : wc.cell? ⟨gb312, 7, none⟩ = some (.string ((rd_T37 l0 x11_1).f7)) := (blk_cell BK312.out 7).trans rfl
                      have hfz62_0 := blk_frozen BK312.out 0
                      have hfz62_1 := blk_frozen BK312.out 1
                      have hfz62_2 := blk_frozen BK312.out 2
                      have hfz62_3 := blk_frozen BK312.out 3
                      have hfz62_4 := blk_frozen BK312.out 4
                      have hfz62_5 := blk_frozen BK312.out 5
                      have hfz62_6 := blk_frozen BK312.out 6
                      have hfz62_7 := blk_frozen BK312.out 7
                      go_wp2
                      go_roundg kj9
                      case measure => have := HK1.out; have := HJ9.out; omega
                      case rel => exact ⟨(true), (x10_1), (wrap64 (x11_1 + 1)), (a1), (x311001_1), (x311002_1), (((rd_T37 l0 x11_1).f6)), (x311004_1), (x311005_1), (x311006_1), (by first | rfl | (simp; done) | (simp [*]; done)), (by first | rfl | (simp; done) | (simp [*]; done)), (by first | rfl | (simp; done) | (simp [*]; done)), H', ⟨by have := HK1.out; have := HJ9.out; omega⟩, ⟨by (with_reducible repeat (first | refine blk_drewN ?_ _ | refine blk_drew ?_ | refine blk_alloc ?_ _)); refine blk_far ?_ NB309_310.out _; (with_reducible repeat (first | refine blk_drewN ?_ _ | refine blk_drew ?_ | refine blk_alloc ?_ _)); refine blk_far ?_ NB309_310.out _; (with_reducible repeat (first | refine blk_drewN ?_ _ | refine blk_drew ?_ | refine blk_alloc ?_ _)); exact BK309.out⟩, ⟨by (with_reducible repeat (first | refine blk_drewN ?_ _ | refine blk_drew ?_ | refine blk_alloc ?_ _)); refine blk_put (cs := #[.string a1, .string x311001_1, .string x311002_1, .int .i64 x311003_1, .int .i64 x311004_1, .int .i64 x311005_1, .bool x311006_1]) ?_ 3 _ rfl; (with_reducible repeat (first | refine blk_drewN ?_ _ | refine blk_drew ?_ | refine blk_alloc ?_ _)); refine blk_put (cs := #[.string x311000_1, .string x311001_1, .string x311002_1, .int .i64 x311003_1, .int .i64 x311004_1, .int .i64 x311005_1, .bool x311006_1]) ?_ 0 _ rfl; (with_reducible repeat (first | refine blk_drewN ?_ _ | refine blk_drew ?_ | refine blk_alloc ?_ _)); exact BK310.out⟩, ⟨by repeat (first | (with_reducible first | exact HB.out | apply below_alloc | apply pw_below_drewN | apply below_drew1 | refine below_set ?_ GE309.out | refine below_set ?_ GE310.out | refine below_set ?_ GE312.out) | exact HB.out)⟩⟩
                    · rw [if_neg c57] at H
                      have c57b0 : (((rd_T37 l0 x11_1).f3) == 12) = false := beq_eq_false_iff_ne.mpr c57
                      have c57b1 : (((rd_T37 l0 x11_1).f3) != 12) = true := bne_iff_ne.mpr c57
                      have H' := Aside0.mk H
                      clear H
                      have hnb63 := NB310_309.out
                      have hnc63 := NB309_310.out
                      have hnb64 := NB310_312.out
                      have hnc64 := NB312_310.out
                      have hcz65_0 : wc.cell? ⟨gb310, 0, none⟩ = some (.string x311000_1) := (blk_cell BK310.out 0).trans rfl
                      have hcz65_1 : wc.cell? ⟨gb310, 1, none⟩ = some (.string x311001_1) := (blk_cell BK310.out 1).trans rfl
                      have hcz65_2 : wc.cell? ⟨gb310, 2, none⟩ = some (.string x311002_1) := (blk_cell BK310.out 2).trans rfl
                      have hcz65_3 : wc.cell? ⟨gb310, 3, none⟩ = some (.int .i64 x311003_1) := (blk_cell BK310.out 3).trans rfl
                      have hcz65_4 : wc.cell? ⟨gb310, 4, none⟩ = some (.int .i64 x311004_1) := (blk_cell BK310.out 4).trans rfl
                      have hcz65_5 : wc.cell? ⟨gb310, 5, none⟩ = some (.int .i64 x311005_1) := (blk_cell BK310.out 5).trans rfl
                      have hcz65_6 : wc.cell? ⟨gb310, 6, none⟩ = some (.bool x311006_1) := (blk_cell BK310.out 6).trans rfl
                      have hfz65_0 := blk_frozen BK310.out 0
                      have hfz65_1 := blk_frozen BK310.out 1
                      have hfz65_2 := blk_frozen BK310.out 2
                      have hfz65_3 := blk_frozen BK310.out 3
                      have hfz65_4 := blk_frozen BK310.out 4
                      have hfz65_5 := blk_frozen BK310.out 5
                      have hfz65_6 := blk_frozen BK310.out 6
                      have hnb66 := NB312_309.out
                      have hnc66 := NB309_312.out
                      have hcz67_0 : wc.cell? ⟨gb312, 0, none⟩ = some (.string ((rd_T37 l0 x11_1).f0)) := (blk_cell BK312.out 0).trans rfl
                      have hcz67_1 : wc.cell? ⟨gb312, 1, none⟩ = some (.int .i64 ((rd_T37 l0 x11_1).f1)) := (blk_cell BK312.out 1).trans rfl
                      have hcz67_2 : wc.cell? ⟨gb312, 2, none⟩ = some (.int .i64 ((rd_T37 l0 x11_1).f2)) := (blk_cell BK312.out 2).trans rfl
                      have hcz67_3 : wc.cell? ⟨gb312, 3, none⟩ = some (.int .i64 ((rd_T37 l0 x11_1).f3)) := (blk_cell BK312.out 3).trans rfl
                      have hcz67_4 : wc.cell? ⟨gb312, 4, none⟩ = some (.string ((rd_T37 l0 x11_1).f4)) := (blk_cell BK312.out 4).trans rfl
                      have hcz67_5 : wc.cell? ⟨gb312, 5, none⟩ = some (.string ((rd_T37 l0 x11_1).f5)) := (blk_cell BK312.out 5).trans rfl
                      have hcz67_6 : wc.cell? ⟨gb312, 6, none⟩ = some (.int .i64 ((rd_T37 l0 x11_1).f6)) := (blk_cell BK312.out 6).trans rfl
                      have hcz67_7 : wc.cell? ⟨gb312, 7, none⟩ = some (.string ((rd_T37 l0 x11_1).f7)) := (blk_cell BK312.out 7).trans rfl
                      have hfz67_0 := blk_frozen BK312.out 0
                      have hfz67_1 := blk_frozen BK312.out 1
                      have hfz67_2 := blk_frozen BK312.out 2
                      have hfz67_3 := blk_frozen BK312.out 3
                      have hfz67_4 := blk_frozen BK312.out 4
                      have hfz67_5 := blk_frozen BK312.out 5
                      have hfz67_6 := blk_frozen BK312.out 6
                      have hfz67_7 := blk_frozen BK312.out 7
                      go_wp2
                      go_roundg kj9
                      case measure => have := HK1.out; have := HJ9.out; omega
                      case rel => exact ⟨(true), (x10_1), (wrap64 (x11_1 + 1)), (a1), (x311001_1), (x311002_1), (x311003_1), (x311004_1), (x311005_1), (x311006_1), (by first | rfl | (simp; done) | (simp [*]; done)), (by first | rfl | (simp; done) | (simp [*]; done)), (by first | rfl | (simp; done) | (simp [*]; done)), H', ⟨by have := HK1.out; have := HJ9.out; omega⟩, ⟨by (with_reducible repeat (first | refine blk_drewN ?_ _ | refine blk_drew ?_ | refine blk_alloc ?_ _)); refine blk_far ?_ NB309_310.out _; (with_reducible repeat (first | refine blk_drewN ?_ _ | refine blk_drew ?_ | refine blk_alloc ?_ _)); exact BK309.out⟩, ⟨by (with_reducible repeat (first | refine blk_drewN ?_ _ | refine blk_drew ?_ | refine blk_alloc ?_ _)); refine blk_put (cs := #[.string x311000_1, .string x311001_1, .string x311002_1, .int .i64 x311003_1, .int .i64 x311004_1, .int .i64 x311005_1, .bool x311006_1]) ?_ 0 _ rfl; (with_reducible repeat (first | refine blk_drewN ?_ _ | refine blk_drew ?_ | refine blk_alloc ?_ _)); exact BK310.out⟩, ⟨by repeat (first | (with_reducible first | exact HB.out | apply below_alloc | apply pw_below_drewN | apply below_drew1 | refine below_set ?_ GE309.out | refine below_set ?_ GE310.out | refine below_set ?_ GE312.out) | exact HB.out)⟩⟩
        · rw [if_neg c9] at H
          exact absurd H (by simp)
      · rw [if_neg c8] at H
        have c8b0 : decide (x11_1 < (l0.length : Int)) = false := decide_eq_false c8
        clear c8
        simp only [Option.some.injEq, Prod.mk.injEq] at H
        obtain ⟨rfl, rfl, rfl, rfl, rfl, rfl, rfl, rfl⟩ := H
        have hnb68 := NB310_309.out
        have hnc68 := NB309_310.out
        have hcz69_0 : wr.cell? ⟨gb310, 0, none⟩ = some (.string x311000_1) := (blk_cell BK310.out 0).trans rfl
        have hcz69_1 : wr.cell? ⟨gb310, 1, none⟩ = some (.string x311001_1) := (blk_cell BK310.out 1).trans rfl
        have hcz69_2 : wr.cell? ⟨gb310, 2, none⟩ = some (.string x311002_1) := (blk_cell BK310.out 2).trans rfl
        have hcz69_3 : wr.cell? ⟨gb310, 3, none⟩ = some (.int .i64 x311003_1) := (blk_cell BK310.out 3).trans rfl
        have hcz69_4 : wr.cell? ⟨gb310, 4, none⟩ = some (.int .i64 x311004_1) := (blk_cell BK310.out 4).trans rfl
        have hcz69_5 : wr.cell? ⟨gb310, 5, none⟩ = some (.int .i64 x311005_1) := (blk_cell BK310.out 5).trans rfl
        have hcz69_6 : wr.cell? ⟨gb310, 6, none⟩ = some (.bool x311006_1) := (blk_cell BK310.out 6).trans rfl
        have hfz69_0 := blk_frozen BK310.out 0
        have hfz69_1 := blk_frozen BK310.out 1
        have hfz69_2 := blk_frozen BK310.out 2
        have hfz69_3 := blk_frozen BK310.out 3
        have hfz69_4 := blk_frozen BK310.out 4
        have hfz69_5 := blk_frozen BK310.out 5
        have hfz69_6 := blk_frozen BK310.out 6
        have hcz70_0 : wr.cell? ⟨gb309, 0, none⟩ = some (.string (⟨#[]⟩ : ByteArray)) := (blk_cell BK309.out 0).trans rfl
        have hcz70_1 : wr.cell? ⟨gb309, 1, none⟩ = some (.string (⟨#[]⟩ : ByteArray)) := (blk_cell BK309.out 1).trans rfl
        have hcz70_2 : wr.cell? ⟨gb309, 2, none⟩ = some (.string (⟨#[]⟩ : ByteArray)) := (blk_cell BK309.out 2).trans rfl
        have hcz70_3 : wr.cell? ⟨gb309, 3, none⟩ = some (.int .i64 0) := (blk_cell BK309.out 3).trans rfl
        have hcz70_4 : wr.cell? ⟨gb309, 4, none⟩ = some (.int .i64 0) := (blk_cell BK309.out 4).trans rfl
        have hcz70_5 : wr.cell? ⟨gb309, 5, none⟩ = some (.int .i64 0) := (blk_cell BK309.out 5).trans rfl
        have hcz70_6 : wr.cell? ⟨gb309, 6, none⟩ = some (.bool false) := (blk_cell BK309.out 6).trans rfl
        have hfz70_0 := blk_frozen BK309.out 0
        have hfz70_1 := blk_frozen BK309.out 1
        have hfz70_2 := blk_frozen BK309.out 2
        have hfz70_3 := blk_frozen BK309.out 3
        have hfz70_4 := blk_frozen BK309.out 4
        have hfz70_5 := blk_frozen BK309.out 5
        have hfz70_6 := blk_frozen BK309.out 6
        go_wp2
        refine bodyPost_ret (results_ct rfl _ _ gb309 64 #[.string x311000_1, .string x311001_1, .string x311002_1, .int .i64 x311003_1, .int .i64 x311004_1, .int .i64 x311005_1, .bool x311006_1] (0, 0) _ rfl (by (with_reducible repeat (first | refine blk_drewN ?_ _ | refine blk_drew ?_ | refine blk_alloc ?_ _)); refine blk_put (cs := #[.string x311000_1, .string x311001_1, .string x311002_1, .int .i64 x311003_1, .int .i64 x311004_1, .int .i64 x311005_1, .bool false]) ?_ 6 _ rfl; (with_reducible repeat (first | refine blk_drewN ?_ _ | refine blk_drew ?_ | refine blk_alloc ?_ _)); refine blk_put (cs := #[.string x311000_1, .string x311001_1, .string x311002_1, .int .i64 x311003_1, .int .i64 x311004_1, .int .i64 0, .bool false]) ?_ 5 _ rfl; (with_reducible repeat (first | refine blk_drewN ?_ _ | refine blk_drew ?_ | refine blk_alloc ?_ _)); refine blk_put (cs := #[.string x311000_1, .string x311001_1, .string x311002_1, .int .i64 x311003_1, .int .i64 0, .int .i64 0, .bool false]) ?_ 4 _ rfl; (with_reducible repeat (first | refine blk_drewN ?_ _ | refine blk_drew ?_ | refine blk_alloc ?_ _)); refine blk_put (cs := #[.string x311000_1, .string x311001_1, .string x311002_1, .int .i64 0, .int .i64 0, .int .i64 0, .bool false]) ?_ 3 _ rfl; (with_reducible repeat (first | refine blk_drewN ?_ _ | refine blk_drew ?_ | refine blk_alloc ?_ _)); refine blk_put (cs := #[.string x311000_1, .string x311001_1, .string (⟨#[]⟩ : ByteArray), .int .i64 0, .int .i64 0, .int .i64 0, .bool false]) ?_ 2 _ rfl; (with_reducible repeat (first | refine blk_drewN ?_ _ | refine blk_drew ?_ | refine blk_alloc ?_ _)); refine blk_put (cs := #[.string x311000_1, .string (⟨#[]⟩ : ByteArray), .string (⟨#[]⟩ : ByteArray), .int .i64 0, .int .i64 0, .int .i64 0, .bool false]) ?_ 1 _ rfl; (with_reducible repeat (first | refine blk_drewN ?_ _ | refine blk_drew ?_ | refine blk_alloc ?_ _)); refine blk_put (cs := #[.string (⟨#[]⟩ : ByteArray), .string (⟨#[]⟩ : ByteArray), .string (⟨#[]⟩ : ByteArray), .int .i64 0, .int .i64 0, .int .i64 0, .bool false]) ?_ 0 _ rfl; (with_reducible repeat (first | refine blk_drewN ?_ _ | refine blk_drew ?_ | refine blk_alloc ?_ _)); exact BK309.out) Tryd.underlying64 rfl (by kernel_rfl)) rfl ?_
        exact ⟨by first | rfl | (simp [errW_none, errW_some] <;> rfl) | (simp [*, errW_none, errW_some] <;> rfl), by repeat (first | (with_reducible first | exact HB.out | apply below_alloc | apply pw_below_drewN | apply below_drew1 | refine below_set ?_ GE309.out | refine below_set ?_ GE310.out) | exact HB.out)⟩
end Go.Proofs.YtgpadcokcdpmnaaDoor.PFeedDiffs
end
