import Derived.Test.YtgpadcokcdpmnaaDoorMd3
import Derived.Test.YtgpadcokcdpmnaaDoorMd7
import Derived.Test.YtgpadcokcdpmnaaDoorMd8
set_option linter.unusedVariables false
set_option linter.unusedSimpArgs false
section
namespace Go.Proofs.YtgpadcokcdpmnaaDoor.PFeedDiffs
open Go.RowKit Go.Proofs.YtgpadcokcdpmnaaDoorW.PrintWords Go.Proofs.YtgpadcokcdpmnaaDoorW.PrintLast Go.Proofs.YtgpadcokcdpmnaaDoorW.PrintMore
attribute [local go_sem] max2_int min2_int max_two min_two max_three min_three max_four min_four
set_option linter.unusedVariables false
set_option linter.unusedSimpArgs false
attribute [local go_sem high] eqA37
mutual
def ciceroneref02_Name.j0 : Nat → ByteArray → Bool → Option (Bool)
  | 0, _, _ => none
  | k + 1, x0, x12 => if x12 = true then (some false) else (ciceroneref02_Name.l0 k x0 0)
def ciceroneref02_Name.l0 : Nat → ByteArray → Int → Option (Bool)
  | 0, _, _ => none
  | k + 1, x0, x3 => if x3 < (x0.size : Int) then (if 0 ≤ x3 then (if (bt x0 x3) ≥ 97 then (if (bt x0 x3) ≤ 122 then (ciceroneref02_Name.l0 k x0 (wrap64 (x3 + 1))) else (if (bt x0 x3) ≥ 48 then (if (bt x0 x3) ≤ 57 then (ciceroneref02_Name.l0 k x0 (wrap64 (x3 + 1))) else (if ((bt x0 x3) = 45) then (ciceroneref02_Name.l0 k x0 (wrap64 (x3 + 1))) else (some false))) else (if ((bt x0 x3) = 45) then (ciceroneref02_Name.l0 k x0 (wrap64 (x3 + 1))) else (some false)))) else (if (bt x0 x3) ≥ 48 then (if (bt x0 x3) ≤ 57 then (ciceroneref02_Name.l0 k x0 (wrap64 (x3 + 1))) else (if ((bt x0 x3) = 45) then (ciceroneref02_Name.l0 k x0 (wrap64 (x3 + 1))) else (some false))) else (if ((bt x0 x3) = 45) then (ciceroneref02_Name.l0 k x0 (wrap64 (x3 + 1))) else (some false)))) else (none)) else (some true)
end
def ciceroneref02_Name.f (k : Nat) (a0 : ByteArray) : Option (Bool) := if (a0.size : Int) < 1 then (ciceroneref02_Name.j0 k a0 true) else (ciceroneref02_Name.j0 k a0 (decide ((a0.size : Int) > 24)))
theorem ciceroneref02_Name.mono_l : ∀ k, (∀ y0 y1, LeO (ciceroneref02_Name.j0 k y0 y1) (ciceroneref02_Name.j0 (k + 1) y0 y1)) ∧ (∀ y0 y1, LeO (ciceroneref02_Name.l0 k y0 y1) (ciceroneref02_Name.l0 (k + 1) y0 y1))
  | 0 => ⟨fun _ _ r h => by simp [ciceroneref02_Name.j0] at h, fun _ _ r h => by simp [ciceroneref02_Name.l0] at h⟩
  | k + 1 => by
    obtain ⟨ih0, ih1⟩ := ciceroneref02_Name.mono_l k
    refine ⟨?_, ?_⟩
    · intro y0 y1
      unfold ciceroneref02_Name.j0
      repeat' first
      | (with_reducible exact ih0 _ _)
      | (with_reducible exact ih1 _ _)
      | (with_reducible exact LeO.refl _)
      | (with_reducible exact LeO.none _)
      | (with_reducible refine LeO.ite ?_ ?_)
      | (with_reducible refine LeO.bind ?_ (fun _ => ?_))
      | exact ih0 _ _
      | exact ih1 _ _
      | exact LeO.none _
      | refine LeO.ite ?_ ?_
      | refine LeO.bind ?_ (fun _ => ?_)
    · intro y0 y1
      unfold ciceroneref02_Name.l0
      repeat' first
      | (with_reducible exact ih0 _ _)
      | (with_reducible exact ih1 _ _)
      | (with_reducible exact LeO.refl _)
      | (with_reducible exact LeO.none _)
      | (with_reducible refine LeO.ite ?_ ?_)
      | (with_reducible refine LeO.bind ?_ (fun _ => ?_))
      | exact ih0 _ _
      | exact ih1 _ _
      | exact LeO.none _
      | refine LeO.ite ?_ ?_
      | refine LeO.bind ?_ (fun _ => ?_)
theorem ciceroneref02_Name.mono : ∀ a0 k, LeO (ciceroneref02_Name.f k a0) (ciceroneref02_Name.f (k + 1) a0) := by
  intro a0 k
  obtain ⟨ih0, ih1⟩ := ciceroneref02_Name.mono_l k
  unfold ciceroneref02_Name.f
  repeat' first
      | (with_reducible exact ih0 _ _)
      | (with_reducible exact ih1 _ _)
      | (with_reducible exact LeO.refl _)
      | (with_reducible exact LeO.none _)
      | (with_reducible refine LeO.ite ?_ ?_)
      | (with_reducible refine LeO.bind ?_ (fun _ => ?_))
      | exact ih0 _ _
      | exact ih1 _ _
      | exact LeO.none _
      | refine LeO.ite ?_ ?_
      | refine LeO.bind ?_ (fun _ => ?_)
set_option maxHeartbeats 8000000 in
set_option maxRecDepth 100000 in
theorem ciceroneref02_Name.calls (k : Nat) (a0 : ByteArray) (r : Bool) (w : World) (h : ciceroneref02_Name.f k a0 = some r) :
    Calls Tryd.prog 27 #[.string a0] w fun e w' => e = .returned (.bool r) ∧ Drawn0 w w' := by
  have H : (if (a0.size : Int) < 1 then (ciceroneref02_Name.j0 k a0 true) else (ciceroneref02_Name.j0 k a0 (decide ((a0.size : Int) > 24)))) = some r := h
  clear h
  have HC2 := Aside0.mk H
  clear H
  go_enter Tryd.func27, Tryd.ntmps27
  go_upto_region 1 with (fail)
  go_cut [12] (fun v12 wc => ∃ (kq : Nat) (x12_1 : Bool), v12 = .bool x12_1 ∧ Aside0 (ciceroneref02_Name.j0 kq a0 x12_1 = some r) ∧ Aside0 (kq ≤ k) ∧ Drawn0 w wc)
  case first =>
    have H := HC2.out
    clear HC2
    by_cases c3 : (a0.size : Int) < 1
    · rw [if_pos c3] at H
      have c3b0 : decide ((a0.size : Int) < 1) = true := decide_eq_true c3
      have c3b1 : decide (a0.size < 1) = true := decide_eq_true (by omega)
      clear c3
      (first | rw [c3b0] | (simp only [i64_w, i32_w]; rw [c3b0]) | skip)
      have H' := Aside0.mk H
      clear H
      go_wp2
      go_meet
      case rel => exact ⟨_, (true), (by first | rfl | (simp; done) | (simp [*]; done)), H', ⟨by first | omega | exact Nat.le_refl _⟩, by repeat (first | exact Drawn0.refl _ | apply Drawn0.step)⟩
    · rw [if_neg c3] at H
      have c3b0 : decide ((a0.size : Int) < 1) = false := decide_eq_false c3
      have c3b1 : decide (a0.size < 1) = false := decide_eq_false (by omega)
      clear c3
      (first | rw [c3b0] | (simp only [i64_w, i32_w]; rw [c3b0]) | skip)
      have H' := Aside0.mk H
      clear H
      go_wp2
      go_meet
      case rel => exact ⟨_, (decide ((a0.size : Int) > 24)), (by first | rfl | (simp; done) | (simp [*]; done)), H', ⟨by first | omega | exact Nat.le_refl _⟩, by repeat (first | exact Drawn0.refl _ | apply Drawn0.step)⟩
  case rest =>
    clear HC2
    try clear c2
    try clear p2
    try clear c3
    try clear c3b0
    try clear c3b1
    obtain ⟨kq, x12_1, rfl, HA, HJ1, ⟨mc1, rfl⟩⟩ := hcut
    cases kq with
    | zero => exact absurd HA.out (by simp [ciceroneref02_Name.j0])
    | succ kj1 =>
      have H := HA.out
      clear HA
      simp only [ciceroneref02_Name.j0] at H
      by_cases c4 : x12_1 = true
      · subst c4
        have H1 : (some false) = some r := by rw [if_pos rfl] at H; exact H
        clear H
        have H := H1
        clear H1
        obtain rfl := Option.some.inj H
        go_wp2
        go_ret
        exact ⟨by first | rfl | (simp; done) | (simp [*]; done), by repeat (first | exact Drawn0.refl _ | apply Drawn0.step)⟩
      · replace c4 := Bool.eq_false_iff.mpr c4
        subst c4
        have H1 : (ciceroneref02_Name.l0 kj1 a0 0) = some r := by rw [if_neg (show ¬ (false = true) by decide)] at H; exact H
        clear H
        have H := H1
        clear H1
        have H' := Aside0.mk H
        clear H
        go_wp2
        go_loopg [3] kj1 (fun kq v3 w' => ∃ (x3_2 : Int), v3 = .int .i64 x3_2 ∧ Aside0 (ciceroneref02_Name.l0 kq a0 x3_2 = some r) ∧ Aside0 (kq ≤ kj1) ∧ Drawn0 w w')
        case atStart => exact ⟨(0), (by first | rfl | (simp; done) | (simp [*]; done)), H', ⟨Nat.le_refl _⟩, by repeat (first | exact Drawn0.refl _ | apply Drawn0.step)⟩
        case round =>
          clear H'
          try clear c1
          try clear c2
          try clear p2
          try clear c3
          try clear c3b0
          try clear c3b1
          try clear c4
          try clear p2
          obtain ⟨x3_2, rfl, HA, HK2, ⟨m2, rfl⟩⟩ := hrel
          cases gk with
          | zero => exact absurd HA.out (by simp [ciceroneref02_Name.l0])
          | succ k2 =>
            have H := HA.out
            clear HA
            simp only [ciceroneref02_Name.l0] at H
            by_cases c5 : x3_2 < (a0.size : Int)
            · rw [if_pos c5] at H
              have c5b0 : decide (x3_2 < (a0.size : Int)) = true := decide_eq_true c5
              clear c5
              by_cases c6 : 0 ≤ x3_2
              · rw [if_pos c6] at H
                have c6b0 : decide (0 ≤ x3_2) = true := decide_eq_true c6
                clear c6
                by_cases c8 : (bt a0 x3_2) ≥ 97
                · rw [if_pos c8] at H
                  have c8b0 : decide (97 ≤ (bt a0 x3_2)) = true := decide_eq_true c8
                  clear c8
                  by_cases c9 : (bt a0 x3_2) ≤ 122
                  · rw [if_pos c9] at H
                    have c9b0 : decide ((bt a0 x3_2) ≤ 122) = true := decide_eq_true c9
                    clear c9
                    have H' := Aside0.mk H
                    clear H
                    have p7 : 0 ≤ (x3_2 : Int) := of_decide_eq_true (by first | (with_reducible assumption) | assumption)
                    have q7 : x3_2 < (a0.size : Int) := of_decide_eq_true (by first | (with_reducible assumption) | assumption)
                    have hx7 := bt_at a0 x3_2
                    replace p7 := eq_true p7
                    replace q7 := eq_true q7
                    go_wp2
                    go_roundg k2
                    case measure => have := HJ1.out; have := HK2.out; omega
                    case rel => exact ⟨(wrap64 (x3_2 + 1)), (by first | rfl | (simp; done) | (simp [*]; done)), H', ⟨by have := HJ1.out; have := HK2.out; omega⟩, by repeat (first | exact Drawn0.refl _ | apply Drawn0.step)⟩
                  · rw [if_neg c9] at H
                    have c9b0 : decide ((bt a0 x3_2) ≤ 122) = false := decide_eq_false c9
                    clear c9
                    by_cases c10 : (bt a0 x3_2) ≥ 48
                    · rw [if_pos c10] at H
                      have c10b0 : decide (48 ≤ (bt a0 x3_2)) = true := decide_eq_true c10
                      clear c10
                      by_cases c11 : (bt a0 x3_2) ≤ 57
                      · rw [if_pos c11] at H
                        have c11b0 : decide ((bt a0 x3_2) ≤ 57) = true := decide_eq_true c11
                        clear c11
                        have H' := Aside0.mk H
                        clear H
                        have p7 : 0 ≤ (x3_2 : Int) := of_decide_eq_true (by first | (with_reducible assumption) | assumption)
                        have q7 : x3_2 < (a0.size : Int) := of_decide_eq_true (by first | (with_reducible assumption) | assumption)
                        have hx7 := bt_at a0 x3_2
                        replace p7 := eq_true p7
                        replace q7 := eq_true q7
                        go_wp2
                        go_roundg k2
                        case measure => have := HJ1.out; have := HK2.out; omega
                        case rel => exact ⟨(wrap64 (x3_2 + 1)), (by first | rfl | (simp; done) | (simp [*]; done)), H', ⟨by have := HJ1.out; have := HK2.out; omega⟩, by repeat (first | exact Drawn0.refl _ | apply Drawn0.step)⟩
                      · rw [if_neg c11] at H
                        have c11b0 : decide ((bt a0 x3_2) ≤ 57) = false := decide_eq_false c11
                        clear c11
                        by_cases c12 : ((bt a0 x3_2) = 45)
                        · rw [if_pos c12] at H
                          have c12b0 : ((bt a0 x3_2) == 45) = true := beq_iff_eq.mpr c12
                          have c12b1 : ((bt a0 x3_2) != 45) = false := bne_eq_false_iff_eq.mpr c12
                          clear c12
                          have H' := Aside0.mk H
                          clear H
                          have p7 : 0 ≤ (x3_2 : Int) := of_decide_eq_true (by first | (with_reducible assumption) | assumption)
                          have q7 : x3_2 < (a0.size : Int) := of_decide_eq_true (by first | (with_reducible assumption) | assumption)
                          have hx7 := bt_at a0 x3_2
                          replace p7 := eq_true p7
                          replace q7 := eq_true q7
                          go_wp2
                          go_roundg k2
                          case measure => have := HJ1.out; have := HK2.out; omega
                          case rel => exact ⟨(wrap64 (x3_2 + 1)), (by first | rfl | (simp; done) | (simp [*]; done)), H', ⟨by have := HJ1.out; have := HK2.out; omega⟩, by repeat (first | exact Drawn0.refl _ | apply Drawn0.step)⟩
                        · rw [if_neg c12] at H
                          have c12b0 : ((bt a0 x3_2) == 45) = false := beq_eq_false_iff_ne.mpr c12
                          have c12b1 : ((bt a0 x3_2) != 45) = true := bne_iff_ne.mpr c12
                          obtain rfl := Option.some.inj H
                          have p7 : 0 ≤ (x3_2 : Int) := of_decide_eq_true (by first | (with_reducible assumption) | assumption)
                          have q7 : x3_2 < (a0.size : Int) := of_decide_eq_true (by first | (with_reducible assumption) | assumption)
                          have hx7 := bt_at a0 x3_2
                          replace p7 := eq_true p7
                          replace q7 := eq_true q7
                          go_wp2
                          go_ret
                          exact ⟨by first | rfl | (simp; done) | (simp [*]; done), by repeat (first | exact Drawn0.refl _ | apply Drawn0.step)⟩
                    · rw [if_neg c10] at H
                      have c10b0 : decide (48 ≤ (bt a0 x3_2)) = false := decide_eq_false c10
                      clear c10
                      by_cases c13 : ((bt a0 x3_2) = 45)
                      · rw [if_pos c13] at H
                        have c13b0 : ((bt a0 x3_2) == 45) = true := beq_iff_eq.mpr c13
                        have c13b1 : ((bt a0 x3_2) != 45) = false := bne_eq_false_iff_eq.mpr c13
                        clear c13
                        have H' := Aside0.mk H
                        clear H
                        have p7 : 0 ≤ (x3_2 : Int) := of_decide_eq_true (by first | (with_reducible assumption) | assumption)
                        have q7 : x3_2 < (a0.size : Int) := of_decide_eq_true (by first | (with_reducible assumption) | assumption)
                        have hx7 := bt_at a0 x3_2
                        replace p7 := eq_true p7
                        replace q7 := eq_true q7
                        go_wp2
                        go_roundg k2
                        case measure => have := HJ1.out; have := HK2.out; omega
                        case rel => exact ⟨(wrap64 (x3_2 + 1)), (by first | rfl | (simp; done) | (simp [*]; done)), H', ⟨by have := HJ1.out; have := HK2.out; omega⟩, by repeat (first | exact Drawn0.refl _ | apply Drawn0.step)⟩
                      · rw [if_neg c13] at H
                        have c13b0 : ((bt a0 x3_2) == 45) = false := beq_eq_false_iff_ne.mpr c13
                        have c13b1 : ((bt a0 x3_2) != 45) = true := bne_iff_ne.mpr c13
                        obtain rfl := Option.some.inj H
                        have p7 : 0 ≤ (x3_2 : Int) := of_decide_eq_true (by first | (with_reducible assumption) | assumption)
                        have q7 : x3_2 < (a0.size : Int) := of_decide_eq_true (by first | (with_reducible assumption) | assumption)
                        have hx7 := bt_at a0 x3_2
                        replace p7 := eq_true p7
                        replace q7 := eq_true q7
                        go_wp2
                        go_ret
                        exact ⟨by first | rfl | (simp; done) | (simp [*]; done), by repeat (first | exact Drawn0.refl _ | apply Drawn0.step)⟩
                · rw [if_neg c8] at H
                  have c8b0 : decide (97 ≤ (bt a0 x3_2)) = false := decide_eq_false c8
                  clear c8
                  by_cases c14 : (bt a0 x3_2) ≥ 48
                  · rw [if_pos c14] at H
                    have c14b0 : decide (48 ≤ (bt a0 x3_2)) = true := decide_eq_true c14
                    clear c14
                    by_cases c15 : (bt a0 x3_2) ≤ 57
                    · rw [if_pos c15] at H
                      have c15b0 : decide ((bt a0 x3_2) ≤ 57) = true := decide_eq_true c15
                      clear c15
                      have H' := Aside0.mk H
                      clear H
                      have p7 : 0 ≤ (x3_2 : Int) := of_decide_eq_true (by first | (with_reducible assumption) | assumption)
                      have q7 : x3_2 < (a0.size : Int) := of_decide_eq_true (by first | (with_reducible assumption) | assumption)
                      have hx7 := bt_at a0 x3_2
                      replace p7 := eq_true p7
                      replace q7 := eq_true q7
                      go_wp2
                      go_roundg k2
                      case measure => have := HJ1.out; have := HK2.out; omega
                      case rel => exact ⟨(wrap64 (x3_2 + 1)), (by first | rfl | (simp; done) | (simp [*]; done)), H', ⟨by have := HJ1.out; have := HK2.out; omega⟩, by repeat (first | exact Drawn0.refl _ | apply Drawn0.step)⟩
                    · rw [if_neg c15] at H
                      have c15b0 : decide ((bt a0 x3_2) ≤ 57) = false := decide_eq_false c15
                      clear c15
                      by_cases c16 : ((bt a0 x3_2) = 45)
                      · rw [if_pos c16] at H
                        have c16b0 : ((bt a0 x3_2) == 45) = true := beq_iff_eq.mpr c16
                        have c16b1 : ((bt a0 x3_2) != 45) = false := bne_eq_false_iff_eq.mpr c16
                        clear c16
                        have H' := Aside0.mk H
                        clear H
                        have p7 : 0 ≤ (x3_2 : Int) := of_decide_eq_true (by first | (with_reducible assumption) | assumption)
                        have q7 : x3_2 < (a0.size : Int) := of_decide_eq_true (by first | (with_reducible assumption) | assumption)
                        have hx7 := bt_at a0 x3_2
                        replace p7 := eq_true p7
                        replace q7 := eq_true q7
                        go_wp2
                        go_roundg k2
                        case measure => have := HJ1.out; have := HK2.out; omega
                        case rel => exact ⟨(wrap64 (x3_2 + 1)), (by first | rfl | (simp; done) | (simp [*]; done)), H', ⟨by have := HJ1.out; have := HK2.out; omega⟩, by repeat (first | exact Drawn0.refl _ | apply Drawn0.step)⟩
                      · rw [if_neg c16] at H
                        have c16b0 : ((bt a0 x3_2) == 45) = false := beq_eq_false_iff_ne.mpr c16
                        have c16b1 : ((bt a0 x3_2) != 45) = true := bne_iff_ne.mpr c16
                        obtain rfl := Option.some.inj H
                        have p7 : 0 ≤ (x3_2 : Int) := of_decide_eq_true (by first | (with_reducible assumption) | assumption)
                        have q7 : x3_2 < (a0.size : Int) := of_decide_eq_true (by first | (with_reducible assumption) | assumption)
                        have hx7 := bt_at a0 x3_2
                        replace p7 := eq_true p7
                        replace q7 := eq_true q7
                        go_wp2
                        go_ret
                        exact ⟨by first | rfl | (simp; done) | (simp [*]; done), by repeat (first | exact Drawn0.refl _ | apply Drawn0.step)⟩
                  · rw [if_neg c14] at H
                    have c14b0 : decide (48 ≤ (bt a0 x3_2)) = false := decide_eq_false c14
                    clear c14
                    by_cases c17 : ((bt a0 x3_2) = 45)
                    · rw [if_pos c17] at H
                      have c17b0 : ((bt a0 x3_2) == 45) = true := beq_iff_eq.mpr c17
                      have c17b1 : ((bt a0 x3_2) != 45) = false := bne_eq_false_iff_eq.mpr c17
                      clear c17
                      have H' := Aside0.mk H
                      clear H
                      have p7 : 0 ≤ (x3_2 : Int) := of_decide_eq_true (by first | (with_reducible assumption) | assumption)
                      have q7 : x3_2 < (a0.size : Int) := of_decide_eq_true (by first | (with_reducible assumption) | assumption)
                      have hx7 := bt_at a0 x3_2
                      replace p7 := eq_true p7
                      replace q7 := eq_true q7
                      go_wp2
                      go_roundg k2
                      case measure => have := HJ1.out; have := HK2.out; omega
                      case rel => exact ⟨(wrap64 (x3_2 + 1)), (by first | rfl | (simp; done) | (simp [*]; done)), H', ⟨by have := HJ1.out; have := HK2.out; omega⟩, by repeat (first | exact Drawn0.refl _ | apply Drawn0.step)⟩
                    · rw [if_neg c17] at H
                      have c17b0 : ((bt a0 x3_2) == 45) = false := beq_eq_false_iff_ne.mpr c17
                      have c17b1 : ((bt a0 x3_2) != 45) = true := bne_iff_ne.mpr c17
                      obtain rfl := Option.some.inj H
                      have p7 : 0 ≤ (x3_2 : Int) := of_decide_eq_true (by first | (with_reducible assumption) | assumption)
                      have q7 : x3_2 < (a0.size : Int) := of_decide_eq_true (by first | (with_reducible assumption) | assumption)
                      have hx7 := bt_at a0 x3_2
                      replace p7 := eq_true p7
                      replace q7 := eq_true q7
                      go_wp2
                      go_ret
                      exact ⟨by first | rfl | (simp; done) | (simp [*]; done), by repeat (first | exact Drawn0.refl _ | apply Drawn0.step)⟩
              · rw [if_neg c6] at H
                exact absurd H (by simp)
            · rw [if_neg c5] at H
              have c5b0 : decide (x3_2 < (a0.size : Int)) = false := decide_eq_false c5
              clear c5
              obtain rfl := Option.some.inj H
              go_wp2
              go_ret
              exact ⟨by first | rfl | (simp; done) | (simp [*]; done), by repeat (first | exact Drawn0.refl _ | apply Drawn0.step)⟩
def ciceroneref02_Parts.l0 : Nat → ByteArray → Int → List ByteArray → Int → Int → Option (List ByteArray)
  | 0, _, _, _, _, _ => none
  | k + 1, x0, x1, x5, x6, x7 => if x7 ≤ (x0.size : Int) then (if x7 = (x0.size : Int) then (if 0 ≤ x6 then (if x6 ≤ x7 then (if x5.length < 8796093022208 then (ciceroneref02_Parts.l0 k x0 x1 (x5 ++ [x0.extract (x6 : Int).toNat (x7 : Int).toNat]) (wrap64 (x7 + 1)) (wrap64 (x7 + 1))) else (none)) else (none)) else (none)) else (if 0 ≤ x7 then (if x7 < (x0.size : Int) then (if (bt x0 x7) = x1 then (if 0 ≤ x6 then (if x6 ≤ x7 then (if x5.length < 8796093022208 then (ciceroneref02_Parts.l0 k x0 x1 (x5 ++ [x0.extract (x6 : Int).toNat (x7 : Int).toNat]) (wrap64 (x7 + 1)) (wrap64 (x7 + 1))) else (none)) else (none)) else (none)) else (ciceroneref02_Parts.l0 k x0 x1 x5 x6 (wrap64 (x7 + 1)))) else (none)) else (none))) else (some x5)
def ciceroneref02_Parts.f (k : Nat) (a0 : ByteArray) (a1 : Int) : Option (List ByteArray) := ciceroneref02_Parts.l0 k a0 a1 (([] : List ByteArray)) 0 0
theorem ciceroneref02_Parts.mono_l : ∀ k, (∀ y0 y1 y2 y3 y4, LeO (ciceroneref02_Parts.l0 k y0 y1 y2 y3 y4) (ciceroneref02_Parts.l0 (k + 1) y0 y1 y2 y3 y4))
  | 0 => fun _ _ _ _ _ r h => by simp [ciceroneref02_Parts.l0] at h
  | k + 1 => by
    have ih0 := ciceroneref02_Parts.mono_l k
    · intro y0 y1 y2 y3 y4
      unfold ciceroneref02_Parts.l0
      repeat' first
      | (with_reducible exact ih0 _ _ _ _ _)
      | (with_reducible exact LeO.refl _)
      | (with_reducible exact LeO.none _)
      | (with_reducible refine LeO.ite ?_ ?_)
      | (with_reducible refine LeO.bind ?_ (fun _ => ?_))
      | exact ih0 _ _ _ _ _
      | exact LeO.none _
      | refine LeO.ite ?_ ?_
      | refine LeO.bind ?_ (fun _ => ?_)
theorem ciceroneref02_Parts.mono : ∀ a0 a1 k, LeO (ciceroneref02_Parts.f k a0 a1) (ciceroneref02_Parts.f (k + 1) a0 a1) := by
  intro a0 a1 k
  have ih0 := ciceroneref02_Parts.mono_l k
  unfold ciceroneref02_Parts.f
  repeat' first
      | (with_reducible exact ih0 _ _ _ _ _)
      | (with_reducible exact LeO.refl _)
      | (with_reducible exact LeO.none _)
      | (with_reducible refine LeO.ite ?_ ?_)
      | (with_reducible refine LeO.bind ?_ (fun _ => ?_))
      | exact ih0 _ _ _ _ _
      | exact LeO.none _
      | refine LeO.ite ?_ ?_
      | refine LeO.bind ?_ (fun _ => ?_)
set_option maxHeartbeats 8000000 in
set_option maxRecDepth 100000 in
theorem ciceroneref02_Parts.calls (k : Nat) (a0 : ByteArray) (a1 : Int) (r : List ByteArray) (w : World) (h : ciceroneref02_Parts.f k a0 a1 = some r) :
    Calls Tryd.prog 48 #[.string a0, .int .u8 a1] w fun e w' => ∃ v0_ : Value, e = .returned (v0_) ∧ Kd.R Kd.string 9 w' w.heap.size (fun _ => True) v0_ r ∧ Below w.heap.size w w' := by
  have HB := Aside0.mk (Below.refl w.heap.size w)
  have H : (ciceroneref02_Parts.l0 k a0 a1 (([] : List ByteArray)) 0 0) = some r := h
  clear h
  obtain ⟨y281, hy281⟩ : ∃ y_ : List ByteArray, y_ = (([] : List ByteArray)) := ⟨_, rfl⟩
  replace H : (ciceroneref02_Parts.l0 k a0 a1 y281 0 0) = some r := by first | (rw [hy281]; with_reducible exact H) | (have H2_ := (Option.bind_some _ _).symm.trans H; rw [hy281]; with_reducible exact H2_) | (have H2_ := (Option.bind_some _ _).symm.trans H; with_reducible exact H2_) | with_reducible exact H | (rw [hy281]; exact H) | exact H
  have Ny281 := Aside0.mk hy281
  clear hy281
  have H' := Aside0.mk H
  clear H
  go_enter Tryd.func48, Tryd.ntmps48
  go_wp2_with (first | ((with_reducible refine gate_dst (N := 8) rfl ?_); refine Kd.R_lit Kd.string _ 9 ?hg (N := 8) ?hd (xs := ([] : List ByteArray)) (inner := []) (ok := fun _ => True) (okp := fun _ => True) ?hr ?hp (fun _ hk => hk) trivial (Below.refl _ _) (Nat.le_refl _) (by simp) ?_; (case hd => rfl); (case hg => rfl); (case hr => first | (go_simp; done) | (go_simp; rfl)); (case hp => exact (Reps.none _ _)); intro v282 w3 ho4 hb hg_ hnew_; clear hg_ hnew_; (first | rw [← Ny281.out] at ho4 | (simp only [Int.reduceToNat] at ho4; rw [← Ny281.out] at ho4)); have n0_ := Aside0.mk (Kd.R_lower ho4 (below_size (by repeat (first | (with_reducible first | exact HB.out | apply below_alloc | apply pw_below_drewN | apply below_drew1) | exact HB.out)))); have n1_ := Aside0.mk (below_step (by repeat (first | (with_reducible first | exact HB.out | apply below_alloc | apply pw_below_drewN | apply below_drew1) | exact HB.out)) hb); clear HB; have HO283 := n0_; have HB := n1_; clear n0_ n1_; clear hb ho4))
  go_loopg [5, 6, 7] k (fun kq v5 v6 v7 w' => ∃ (x5_1 : List ByteArray) (x6_1 : Int) (x7_1 : Int), v6 = .int .i64 x6_1 ∧ v7 = .int .i64 x7_1 ∧ Aside0 (ciceroneref02_Parts.l0 kq a0 a1 x5_1 x6_1 x7_1 = some r) ∧ Aside0 (kq ≤ k) ∧ Aside0 (Kd.R Kd.string 9 w' w.heap.size (fun _ => True) v5 x5_1) ∧ Aside0 (Below w.heap.size w w'))
  case atStart => exact ⟨(y281), (0), (0), (by first | rfl | (simp; done) | (simp [*]; done)), (by first | rfl | (simp; done) | (simp [*]; done)), H', ⟨Nat.le_refl _⟩, ⟨by (with_reducible repeat (first | apply Kd.R_alloc | apply Kd.R_drewN | apply Kd.R_drew)); exact HO283.out⟩, ⟨by repeat (first | (with_reducible first | exact HB.out | apply below_alloc | apply pw_below_drewN | apply below_drew1) | exact HB.out)⟩⟩
  case round =>
    clear H'
    try clear p2
    try clear c4
    obtain ⟨x5_1, x6_1, x7_1, rfl, rfl, HA, HK1, HO_5, HB⟩ := hrel
    cases gk with
    | zero => exact absurd HA.out (by simp [ciceroneref02_Parts.l0])
    | succ k1 =>
      have H := HA.out
      clear HA
      simp only [ciceroneref02_Parts.l0] at H
      by_cases c5 : x7_1 ≤ (a0.size : Int)
      · rw [if_pos c5] at H
        have c5b0 : decide (x7_1 ≤ (a0.size : Int)) = true := decide_eq_true c5
        clear c5
        by_cases c6 : x7_1 = (a0.size : Int)
        · rw [if_pos c6] at H
          have c6b0 : (x7_1 == (a0.size : Int)) = true := beq_iff_eq.mpr c6
          have c6b1 : (x7_1 != (a0.size : Int)) = false := bne_eq_false_iff_eq.mpr c6
          clear c6
          by_cases c7 : 0 ≤ x6_1
          · rw [if_pos c7] at H
            have c7b0 := eq_true c7
            have c7b1 : decide (0 ≤ x6_1) = true := decide_eq_true c7
            clear c7
            by_cases c8 : x6_1 ≤ x7_1
            · rw [if_pos c8] at H
              have c8b0 := eq_true c8
              have c8b1 : decide (x6_1 ≤ x7_1) = true := decide_eq_true c8
              clear c8
              have c9b0 := eq_true (of_decide_eq_true (by first | (with_reducible assumption) | assumption) : x7_1 ≤ (a0.size : Int))
              by_cases c10 : x5_1.length < 8796093022208
              · rw [if_pos c10] at H
                have LMc10 := Aside0.mk c10
                clear c10
                obtain ⟨y284, hy284⟩ : ∃ y_ : List ByteArray, y_ = (x5_1 ++ [a0.extract (x6_1 : Int).toNat (x7_1 : Int).toNat]) := ⟨_, rfl⟩
                replace H : (ciceroneref02_Parts.l0 k1 a0 a1 y284 (wrap64 (x7_1 + 1)) (wrap64 (x7_1 + 1))) = some r := by first | (rw [hy284]; with_reducible exact H) | (have H2_ := (Option.bind_some _ _).symm.trans H; rw [hy284]; with_reducible exact H2_) | (have H2_ := (Option.bind_some _ _).symm.trans H; with_reducible exact H2_) | with_reducible exact H | (rw [hy284]; exact H) | exact H
                have Ny284 := Aside0.mk hy284
                clear hy284
                have H' := Aside0.mk H
                clear H
                go_wp2_with (first | ((with_reducible refine gate_builtin (b := .append) (xs := #[.tmp 26, .tmp 31]) rfl ?_); at_builtin; refine Kd.R_append Kd.string (w0 := w) w.heap.size rfl (.tmp 26) (.tmp 31) 39 9 (.string ⟨#[]⟩) 16 rfl Tryd.underlying39 info9 rfl (by decide) (by omega) u5 x5_1 (a0.extract (x6_1 : Int).toNat (x7_1 : Int).toNat) [.string (a0.extract (x6_1 : Int).toNat (x7_1 : Int).toNat)] (fun _ => True) (fun _ => False) rfl rfl ?aP (fun _ hk => hk.elim) ?aF ?aO ?aB ?aS ?aL ?_; (case aP => exact rfl); (case aB => exact (by repeat (first | (with_reducible first | exact HB.out | apply below_alloc | apply pw_below_drewN | apply below_drew1) | exact HB.out))); (case aF => exact (fun _ _ => trivial)); (case aO => exact (by (with_reducible repeat (first | apply Kd.R_alloc | apply Kd.R_drewN | apply Kd.R_drew)); exact HO_5.out)); (case aS => exact (below_size (by repeat (first | (with_reducible first | exact HB.out | apply below_alloc | apply pw_below_drewN | apply below_drew1) | exact HB.out)))); (case aL => have := LMc10.out; omega); intro v285 w11 ho hb hg hat; rw [← Ny284.out] at ho; have n0_ := Aside0.mk (hb); have n1_ := Aside0.mk (ho); clear HB; clear HO_5; have HB := n0_; have HO286 := n1_; clear n0_ n1_; clear ho hb hg hat))
                go_roundg k1
                case measure => have := HK1.out; omega
                case rel => exact ⟨(y284), (wrap64 (x7_1 + 1)), (wrap64 (x7_1 + 1)), (by first | rfl | (simp; done) | (simp [*]; done)), (by first | rfl | (simp; done) | (simp [*]; done)), H', ⟨by have := HK1.out; omega⟩, ⟨by (with_reducible repeat (first | apply Kd.R_alloc | apply Kd.R_drewN | apply Kd.R_drew)); exact HO286.out⟩, ⟨by repeat (first | (with_reducible first | exact HB.out | apply below_alloc | apply pw_below_drewN | apply below_drew1) | exact HB.out)⟩⟩
              · rw [if_neg c10] at H
                exact absurd H (by simp)
            · rw [if_neg c8] at H
              exact absurd H (by simp)
          · rw [if_neg c7] at H
            exact absurd H (by simp)
        · rw [if_neg c6] at H
          have c6b0 : (x7_1 == (a0.size : Int)) = false := beq_eq_false_iff_ne.mpr c6
          have c6b1 : (x7_1 != (a0.size : Int)) = true := bne_iff_ne.mpr c6
          by_cases c12 : 0 ≤ x7_1
          · rw [if_pos c12] at H
            have c12b0 : decide (0 ≤ x7_1) = true := decide_eq_true c12
            clear c12
            by_cases c13 : x7_1 < (a0.size : Int)
            · rw [if_pos c13] at H
              have c13b0 : decide (x7_1 < (a0.size : Int)) = true := decide_eq_true c13
              clear c13
              by_cases c15 : (bt a0 x7_1) = a1
              · rw [if_pos c15] at H
                have c15b0 : ((bt a0 x7_1) == a1) = true := beq_iff_eq.mpr c15
                have c15b1 : ((bt a0 x7_1) != a1) = false := bne_eq_false_iff_eq.mpr c15
                clear c15
                by_cases c16 : 0 ≤ x6_1
                · rw [if_pos c16] at H
                  have c16b0 := eq_true c16
                  have c16b1 : decide (0 ≤ x6_1) = true := decide_eq_true c16
                  clear c16
                  by_cases c17 : x6_1 ≤ x7_1
                  · rw [if_pos c17] at H
                    have c17b0 := eq_true c17
                    have c17b1 : decide (x6_1 ≤ x7_1) = true := decide_eq_true c17
                    clear c17
                    have c18b0 := eq_true (of_decide_eq_true (by first | (with_reducible assumption) | assumption) : x7_1 ≤ (a0.size : Int))
                    by_cases c19 : x5_1.length < 8796093022208
                    · rw [if_pos c19] at H
                      have LMc19 := Aside0.mk c19
                      clear c19
                      obtain ⟨y287, hy287⟩ : ∃ y_ : List ByteArray, y_ = (x5_1 ++ [a0.extract (x6_1 : Int).toNat (x7_1 : Int).toNat]) := ⟨_, rfl⟩
                      replace H : (ciceroneref02_Parts.l0 k1 a0 a1 y287 (wrap64 (x7_1 + 1)) (wrap64 (x7_1 + 1))) = some r := by first | (rw [hy287]; with_reducible exact H) | (have H2_ := (Option.bind_some _ _).symm.trans H; rw [hy287]; with_reducible exact H2_) | (have H2_ := (Option.bind_some _ _).symm.trans H; with_reducible exact H2_) | with_reducible exact H | (rw [hy287]; exact H) | exact H
                      have Ny287 := Aside0.mk hy287
                      clear hy287
                      have H' := Aside0.mk H
                      clear H
                      have p14 : 0 ≤ (x7_1 : Int) := of_decide_eq_true (by first | (with_reducible assumption) | assumption)
                      have q14 : x7_1 < (a0.size : Int) := of_decide_eq_true (by first | (with_reducible assumption) | assumption)
                      have hx14 := bt_at a0 x7_1
                      replace p14 := eq_true p14
                      replace q14 := eq_true q14
                      go_wp2_with (first | ((with_reducible refine gate_builtin (b := .append) (xs := #[.tmp 26, .tmp 31]) rfl ?_); at_builtin; refine Kd.R_append Kd.string (w0 := w) w.heap.size rfl (.tmp 26) (.tmp 31) 39 9 (.string ⟨#[]⟩) 16 rfl Tryd.underlying39 info9 rfl (by decide) (by omega) u5 x5_1 (a0.extract (x6_1 : Int).toNat (x7_1 : Int).toNat) [.string (a0.extract (x6_1 : Int).toNat (x7_1 : Int).toNat)] (fun _ => True) (fun _ => False) rfl rfl ?aP (fun _ hk => hk.elim) ?aF ?aO ?aB ?aS ?aL ?_; (case aP => exact rfl); (case aB => exact (by repeat (first | (with_reducible first | exact HB.out | apply below_alloc | apply pw_below_drewN | apply below_drew1) | exact HB.out))); (case aF => exact (fun _ _ => trivial)); (case aO => exact (by (with_reducible repeat (first | apply Kd.R_alloc | apply Kd.R_drewN | apply Kd.R_drew)); exact HO_5.out)); (case aS => exact (below_size (by repeat (first | (with_reducible first | exact HB.out | apply below_alloc | apply pw_below_drewN | apply below_drew1) | exact HB.out)))); (case aL => have := LMc19.out; omega); intro v288 w20 ho hb hg hat; rw [← Ny287.out] at ho; have n0_ := Aside0.mk (hb); have n1_ := Aside0.mk (ho); clear HB; clear HO_5; have HB := n0_; have HO289 := n1_; clear n0_ n1_; clear ho hb hg hat))
                      go_roundg k1
                      case measure => have := HK1.out; omega
                      case rel => exact ⟨(y287), (wrap64 (x7_1 + 1)), (wrap64 (x7_1 + 1)), (by first | rfl | (simp; done) | (simp [*]; done)), (by first | rfl | (simp; done) | (simp [*]; done)), H', ⟨by have := HK1.out; omega⟩, ⟨by (with_reducible repeat (first | apply Kd.R_alloc | apply Kd.R_drewN | apply Kd.R_drew)); exact HO289.out⟩, ⟨by repeat (first | (with_reducible first | exact HB.out | apply below_alloc | apply pw_below_drewN | apply below_drew1) | exact HB.out)⟩⟩
                    · rw [if_neg c19] at H
                      exact absurd H (by simp)
                  · rw [if_neg c17] at H
                    exact absurd H (by simp)
                · rw [if_neg c16] at H
                  exact absurd H (by simp)
              · rw [if_neg c15] at H
                have c15b0 : ((bt a0 x7_1) == a1) = false := beq_eq_false_iff_ne.mpr c15
                have c15b1 : ((bt a0 x7_1) != a1) = true := bne_iff_ne.mpr c15
                have H' := Aside0.mk H
                clear H
                have p14 : 0 ≤ (x7_1 : Int) := of_decide_eq_true (by first | (with_reducible assumption) | assumption)
                have q14 : x7_1 < (a0.size : Int) := of_decide_eq_true (by first | (with_reducible assumption) | assumption)
                have hx14 := bt_at a0 x7_1
                replace p14 := eq_true p14
                replace q14 := eq_true q14
                go_wp2
                go_roundg k1
                case measure => have := HK1.out; omega
                case rel => exact ⟨(x5_1), (x6_1), (wrap64 (x7_1 + 1)), (by first | rfl | (simp; done) | (simp [*]; done)), (by first | rfl | (simp; done) | (simp [*]; done)), H', ⟨by have := HK1.out; omega⟩, ⟨by (with_reducible repeat (first | apply Kd.R_alloc | apply Kd.R_drewN | apply Kd.R_drew)); exact HO_5.out⟩, ⟨by repeat (first | (with_reducible first | exact HB.out | apply below_alloc | apply pw_below_drewN | apply below_drew1) | exact HB.out)⟩⟩
            · rw [if_neg c13] at H
              exact absurd H (by simp)
          · rw [if_neg c12] at H
            exact absurd H (by simp)
      · rw [if_neg c5] at H
        have c5b0 : decide (x7_1 ≤ (a0.size : Int)) = false := decide_eq_false c5
        clear c5
        obtain rfl := Option.some.inj H
        go_wp2
        go_ret
        exact ⟨_, by first | rfl | (simp [errW_none, errW_some] <;> rfl) | (simp [*, errW_none, errW_some] <;> rfl), by (with_reducible repeat (first | apply Kd.R_alloc | apply Kd.R_drewN | apply Kd.R_drew)); exact HO_5.out, by repeat (first | (with_reducible first | exact HB.out | apply below_alloc | apply pw_below_drewN | apply below_drew1) | exact HB.out)⟩
end Go.Proofs.YtgpadcokcdpmnaaDoor.PFeedDiffs
end
section
namespace Go.Proofs.YtgpadcokcdpmnaaDoor.Fd
open Go Go.RowKit Go.Maps Go.Sort Go.Shelf Go.Lib Go.WideAt Go.WideShapes Go.Proofs.YtgpadcokcdpmnaaDoorW.PrintWords
set_option linter.unusedVariables false
set_option linter.unusedSimpArgs false
theorem wrap_up {i : Nat} (h : i ≤ 1000000000) : wrap64 ((i : Int) + 1) = ((i + 1 : Nat) : Int) := by unfold wrap64; omega
theorem bt_nat (s : ByteArray) {i : Nat} (h : i < s.size) : bt s (i : Int) = ((s[i]'h).toNat : Int) := by simp [bt, h]
theorem drop_ba (s : ByteArray) {i : Nat} (h : i < s.size) : s.data.toList.drop i = (s[i]'h) :: s.data.toList.drop (i + 1) := by
  rw [List.drop_eq_getElem_cons (by simpa using h)]; rfl
theorem odd_ifs {α : Type} (c : Nat) (A B : α) :
    (if (c : Int) ≥ 97 then (if (c : Int) ≤ 122 then A else (if (c : Int) ≥ 48 then (if (c : Int) ≤ 57 then A else (if (c : Int) = 45 then A else B)) else (if (c : Int) = 45 then A else B))) else (if (c : Int) ≥ 48 then (if (c : Int) ≤ 57 then A else (if (c : Int) = 45 then A else B)) else (if (c : Int) = 45 then A else B)))
      = if oddB c = true then B else A := by
  unfold oddB
  by_cases h1 : 97 ≤ c <;> by_cases h2 : c ≤ 122 <;> by_cases h3 : 48 ≤ c <;> by_cases h4 : c ≤ 57 <;> by_cases h5 : c = 45
  all_goals first
    | (exfalso; omega)
    | (have e1 : ((c : Int) ≥ 97) = (97 ≤ c) := by rw [eq_iff_iff]; omega
       have e2 : ((c : Int) ≤ 122) = (c ≤ 122) := by rw [eq_iff_iff]; omega
       have e3 : ((c : Int) ≥ 48) = (48 ≤ c) := by rw [eq_iff_iff]; omega
       have e4 : ((c : Int) ≤ 57) = (c ≤ 57) := by rw [eq_iff_iff]; omega
       have e5 : ((c : Int) = 45) = (c = 45) := by rw [eq_iff_iff]; omega
       have n1 : (c < 97) = ¬ 97 ≤ c := by rw [eq_iff_iff]; omega
       have n2 : (122 < c) = ¬ c ≤ 122 := by rw [eq_iff_iff]; omega
       have n3 : (c < 48) = ¬ 48 ≤ c := by rw [eq_iff_iff]; omega
       have n4 : (57 < c) = ¬ c ≤ 57 := by rw [eq_iff_iff]; omega
       simp only [e1, e2, e3, e4, e5, n1, n2, n3, n4, h1, h2, h3, h4, h5]
       first | (simp; done) | (simp; intro h9; exact absurd h9 h5))
theorem name_l0 (s : ByteArray) (hs : s.size ≤ 1000000000) : ∀ (d k i : Nat), s.size - i = d → i ≤ s.size → d < k →
    PFeedDiffs.ciceroneref02_Name.l0 k s (i : Int) = some ((s.data.toList.drop i).all (fun c => !oddB c.toNat))
  | 0, k, i, hd, hi, hk => by
    obtain ⟨k, rfl⟩ : ∃ m, k = m + 1 := ⟨k - 1, by omega⟩
    simp only [PFeedDiffs.ciceroneref02_Name.l0]
    rw [if_neg (by omega), List.drop_of_length_le (by simp; omega)]; rfl
  | d + 1, k, i, hd, hi, hk => by
    obtain ⟨k, rfl⟩ : ∃ m, k = m + 1 := ⟨k - 1, by omega⟩
    have hlt : i < s.size := by omega
    simp only [PFeedDiffs.ciceroneref02_Name.l0]
    rw [if_pos (by omega), if_pos (by omega), bt_nat s hlt, odd_ifs, drop_ba s hlt, wrap_up (by omega), name_l0 s hs d k (i + 1) (by omega) (by omega) (by omega)]
    cases ho : oddB (s[i]'hlt).toNat <;> simp [ho]
theorem nameB_all' (s : ByteArray) : nameB s = (decide (1 ≤ s.size) && decide (s.size ≤ 24) && s.data.toList.all (fun c => !oddB c.toNat)) := by
  rw [Bool.eq_iff_iff, nameB_iff]
  simp only [Bool.and_eq_true, decide_eq_true_eq, List.all_eq_true, and_assoc]
  refine and_congr Iff.rfl (and_congr Iff.rfl ⟨fun h x hx => ?_, fun h i hi => ?_⟩)
  · obtain ⟨i, hi, rfl⟩ := List.mem_iff_getElem.1 hx
    have := h i (by simpa using hi)
    have e : s[i]'(by simpa using hi) = s.data.toList[i] := rfl
    rw [e] at this; rw [this]; rfl
  · have := h (s[i]'hi) (by
      have e : s[i]'hi = s.data.toList[i]'(by simpa using hi) := rfl
      rw [e]; exact List.getElem_mem _)
    simpa using this
theorem pName (s : ByteArray) (hs : s.size ≤ 1000000000) : PFeedDiffs.ciceroneref02_Name.f (s.size + 3) s = some (nameB s) := by
  have h0 := name_l0 s hs s.size (s.size + 2) 0 (by omega) (by omega) (by omega)
  rw [List.drop_zero] at h0
  have hj : PFeedDiffs.ciceroneref02_Name.j0 (s.size + 3) s true = some false := by simp only [PFeedDiffs.ciceroneref02_Name.j0]; rfl
  have hj2 : PFeedDiffs.ciceroneref02_Name.j0 (s.size + 3) s false = some (s.data.toList.all (fun c => !oddB c.toNat)) := by
    simp only [PFeedDiffs.ciceroneref02_Name.j0]
    rw [if_neg (by simp)]; exact h0
  unfold PFeedDiffs.ciceroneref02_Name.f
  rw [nameB_all']
  by_cases h1 : (s.size : Int) < 1
  · rw [if_pos h1, hj]
    have : decide (1 ≤ s.size) = false := decide_eq_false (by omega)
    rw [this]; rfl
  · rw [if_neg h1]
    have e1 : decide (1 ≤ s.size) = true := decide_eq_true (by omega)
    by_cases h2 : s.size ≤ 24
    · have : decide ((s.size : Int) > 24) = false := decide_eq_false (by omega)
      rw [this, hj2, e1, decide_eq_true h2]; rfl
    · have : decide ((s.size : Int) > 24) = true := decide_eq_true (by omega)
      rw [this, hj, e1, decide_eq_false h2]; rfl
theorem refname_calls (s : ByteArray) (w : World) (hs : s.size ≤ 1000000000) : Calls Tryd.prog 27 #[.string s] w fun e w' => e = .returned (.bool (nameB s)) ∧ ∃ n, w' = w.drewN n := by
  refine (PFeedDiffs.ciceroneref02_Name.calls _ s _ w (pName s hs)).mono ?_
  rintro e w' ⟨h, ⟨n, hn⟩⟩
  exact ⟨h, n, hn⟩
theorem cutL_nil (c : UInt8) : cutL c [] = ([], [], false) := rfl
theorem cutL_skip (c : UInt8) : ∀ (a b : List UInt8), (∀ x ∈ a, (x == c) = false) → cutL c (a ++ b) = (a ++ (cutL c b).1, (cutL c b).2.1, (cutL c b).2.2)
  | [], b, _ => by simp
  | x :: r, b, h => by
    have ih := cutL_skip c r b (fun y hy => h y (by simp [hy]))
    have e : cutL c (x :: (r ++ b)) = (x :: (cutL c (r ++ b)).1, (cutL c (r ++ b)).2.1, (cutL c (r ++ b)).2.2) := by
      rw [cutL, if_neg (by rw [h x (by simp)]; simp)]
    rw [List.cons_append, e, ih]; simp
theorem place_l0 (s : ByteArray) (hs : s.size ≤ 1000000000) : ∀ (d k i : Nat), s.size - i = d → i ≤ s.size → d < k → (∀ x ∈ s.data.toList.take i, (x == 59) = false) →
    ∃ r : Int, PFeedDiffs.ciceroneref02_place.l0 k s (i : Int) = some r ∧ ((r = -1 ∧ ∀ x ∈ s.data.toList, (x == 59) = false) ∨ ∃ j : Nat, r = j ∧ ∃ hj : j < s.size, (s[j]'hj) = 59 ∧ ∀ x ∈ s.data.toList.take j, (x == 59) = false)
  | 0, k, i, hd, hi, hk, ha => by
    obtain ⟨k, rfl⟩ : ∃ m, k = m + 1 := ⟨k - 1, by omega⟩
    refine ⟨-1, by simp only [PFeedDiffs.ciceroneref02_place.l0]; rw [if_neg (by omega)], .inl ⟨rfl, ?_⟩⟩
    rw [List.take_of_length_le (by simp; omega)] at ha; exact ha
  | d + 1, k, i, hd, hi, hk, ha => by
    obtain ⟨k, rfl⟩ : ∃ m, k = m + 1 := ⟨k - 1, by omega⟩
    have hlt : i < s.size := by omega
    simp only [PFeedDiffs.ciceroneref02_place.l0]
    rw [if_pos (by omega), if_pos (by omega), bt_nat s hlt]
    by_cases hc : (s[i]'hlt) = 59
    · rw [if_pos (by rw [hc]; rfl)]
      exact ⟨i, rfl, .inr ⟨i, rfl, hlt, hc, ha⟩⟩
    · rw [if_neg (by intro h; apply hc; apply UInt8.toNat_inj.1; show (s[i]'hlt).toNat = 59; omega), wrap_up (by omega)]
      refine place_l0 s hs d k (i + 1) (by omega) (by omega) (by omega) ?_
      intro x hx
      rw [List.take_add_one] at hx
      rcases List.mem_append.1 hx with hx | hx
      · exact ha x hx
      · have : s.data.toList[i]? = some (s[i]'hlt) := by rw [List.getElem?_eq_getElem (by simpa using hlt)]; rfl
        rw [this] at hx; simp at hx; subst hx; simpa using hc
theorem cut_at (s : ByteArray) {j : Nat} (hj : j < s.size) (h : (s[j]'hj) = 59) (ha : ∀ x ∈ s.data.toList.take j, (x == 59) = false) : cutL 59 s.data.toList = (s.data.toList.take j, s.data.toList.drop (j + 1), true) := by
  have h1 := cutL_skip 59 (s.data.toList.take j) (s.data.toList.drop j) ha
  rw [List.take_append_drop] at h1
  rw [h1, drop_ba s hj, h]
  simp [cutL]
theorem cut_none (s : ByteArray) (ha : ∀ x ∈ s.data.toList, (x == 59) = false) : cutL 59 s.data.toList = (s.data.toList, [], false) := by
  have h1 := cutL_skip 59 s.data.toList [] ha
  rw [List.append_nil] at h1
  rw [h1, cutL_nil]; simp
theorem extract_ba (s : ByteArray) (a b : Nat) : (s.extract a b).data.toList = (s.data.toList.take b).drop a := by
  rw [Lib.extract_data, List.drop_take]
theorem pMaker (s : ByteArray) (hs : s.size ≤ 1000000000) : PFeedDiffs.ciceroneref02_Maker.f (s.size + 1) s = some ⟨(cutL 59 s.data.toList).1.toArray⟩ := by
  obtain ⟨r, hr, h⟩ := place_l0 s hs s.size (s.size + 1) 0 (by omega) (by omega) (by omega) (by simp)
  unfold PFeedDiffs.ciceroneref02_Maker.f PFeedDiffs.ciceroneref02_place.f
  rw [show ((0 : Int)) = ((0 : Nat) : Int) from rfl, hr]
  simp only [Option.bind_some]
  rcases h with ⟨rfl, ha⟩ | ⟨j, rfl, hj, hc, ha⟩
  · rw [if_neg (by omega), cut_none s ha]
  · rw [if_pos (by omega), if_pos (by omega), if_pos (by omega), cut_at s hj hc ha]
    congr 1
    apply ba_ext
    rw [extract_ba]
    simp
theorem behind_l0 (s : ByteArray) (hs : s.size ≤ 1000000000) : ∀ (d k i : Nat), s.size - i = d → i ≤ s.size → d < k → (∀ x ∈ s.data.toList.take i, (x == 59) = false) →
    PFeedDiffs.ciceroneref15_behind.l0 k s (i : Int) = some ⟨(cutL 59 s.data.toList).2.1.toArray⟩
  | 0, k, i, hd, hi, hk, ha => by
    obtain ⟨k, rfl⟩ : ∃ m, k = m + 1 := ⟨k - 1, by omega⟩
    simp only [PFeedDiffs.ciceroneref15_behind.l0]
    rw [if_neg (by omega)]
    rw [List.take_of_length_le (by simp; omega)] at ha
    rw [cut_none s ha]
  | d + 1, k, i, hd, hi, hk, ha => by
    obtain ⟨k, rfl⟩ : ∃ m, k = m + 1 := ⟨k - 1, by omega⟩
    have hlt : i < s.size := by omega
    simp only [PFeedDiffs.ciceroneref15_behind.l0]
    rw [if_pos (by omega), if_pos (by omega), bt_nat s hlt]
    by_cases hc : (s[i]'hlt) = 59
    · rw [if_pos (by rw [hc]; rfl), wrap_up (by omega), if_pos (by omega), if_pos (by omega), cut_at s hlt hc ha]
      congr 1
      apply ba_ext
      rw [extract_ba, List.take_of_length_le (by simp)]; simp
    · rw [if_neg (by intro h; apply hc; apply UInt8.toNat_inj.1; show (s[i]'hlt).toNat = 59; omega), wrap_up (by omega)]
      refine behind_l0 s hs d k (i + 1) (by omega) (by omega) (by omega) ?_
      intro x hx
      rw [List.take_add_one] at hx
      rcases List.mem_append.1 hx with hx | hx
      · exact ha x hx
      · have : s.data.toList[i]? = some (s[i]'hlt) := by rw [List.getElem?_eq_getElem (by simpa using hlt)]; rfl
        rw [this] at hx; simp at hx; subst hx; simpa using hc
theorem pBehind (s : ByteArray) (hs : s.size ≤ 1000000000) : PFeedDiffs.ciceroneref15_behind.f (s.size + 1) s = some ⟨(cutL 59 s.data.toList).2.1.toArray⟩ :=
  behind_l0 s hs s.size (s.size + 1) 0 (by omega) (by omega) (by omega) (by simp)
theorem parts_l0 (s : ByteArray) (hs : s.size ≤ 1000000) : ∀ (d k i a : Nat) (out : List ByteArray), s.size - i = d → i ≤ s.size → a ≤ i → out.length ≤ i → d + 1 < k →
    ∃ x t, parts 44 (s.data.toList.drop i) = x :: t ∧ PFeedDiffs.ciceroneref02_Parts.l0 k s 44 out (a : Int) (i : Int) = some (out ++ ((((s.data.toList.take i).drop a ++ x) :: t).map (fun l => (⟨l.toArray⟩ : ByteArray))))
  | 0, k, i, a, out, hd, hi, ha, ho, hk => by
    obtain ⟨k, rfl⟩ : ∃ m, k = m + 1 + 1 := ⟨k - 2, by omega⟩
    have hie : i = s.size := by omega
    have hdr : s.data.toList.drop i = [] := List.drop_of_length_le (by simp; omega)
    refine ⟨[], [], by rw [hdr]; rfl, ?_⟩
    simp only [PFeedDiffs.ciceroneref02_Parts.l0]
    rw [if_pos (by omega), if_pos (by omega), if_pos (by omega), if_pos (by omega), if_pos (by omega), wrap_up (by omega), if_neg (by omega)]
    congr 2
    rw [List.append_nil]
    simp only [List.map_cons, List.map_nil]
    congr 1
    apply ba_ext
    rw [extract_ba]; simp
  | d + 1, k, i, a, out, hd, hi, ha, ho, hk => by
    obtain ⟨k, rfl⟩ : ∃ m, k = m + 1 := ⟨k - 1, by omega⟩
    have hlt : i < s.size := by omega
    have hsi : s.data.toList[i]? = some (s[i]'hlt) := by rw [List.getElem?_eq_getElem (by simpa using hlt)]; rfl
    rw [drop_ba s hlt]
    simp only [PFeedDiffs.ciceroneref02_Parts.l0]
    rw [if_pos (by omega), if_neg (by omega), if_pos (by omega), if_pos (by omega), bt_nat s hlt]
    by_cases hc : (s[i]'hlt) = 44
    · rw [if_pos (by rw [hc]; rfl), if_pos (by omega), if_pos (by omega), if_pos (by omega), wrap_up (by omega)]
      obtain ⟨x, t, h1, h2⟩ := parts_l0 s hs d k (i + 1) (i + 1) (out ++ [s.extract ((a : Int)).toNat ((i : Int)).toNat]) (by omega) (by omega) (by omega) (by simp; omega) (by omega)
      refine ⟨[], parts 44 (s.data.toList.drop (i + 1)), by rw [hc, parts_cons_eq], ?_⟩
      rw [h2, h1]
      congr 1
      rw [List.append_assoc]
      congr 1
      simp only [List.map_cons, List.append_nil, List.cons_append, List.nil_append]
      congr 1
      · apply ba_ext; rw [extract_ba]; simp
      · rw [List.drop_of_length_le (by simp; omega)]; rfl
    · rw [if_neg (by intro h; apply hc; apply UInt8.toNat_inj.1; show (s[i]'hlt).toNat = 44; omega), wrap_up (by omega)]
      obtain ⟨x, t, h1, h2⟩ := parts_l0 s hs d k (i + 1) a out (by omega) (by omega) (by omega) (by omega) (by omega)
      refine ⟨(s[i]'hlt) :: x, t, parts_cons_ne (by simpa using hc) h1, ?_⟩
      rw [h2]
      congr 4
      rw [List.take_add_one, hsi, List.drop_append_of_le_length (by simp; omega)]
      simp
theorem pParts (s : ByteArray) (hs : s.size ≤ 1000000) : PFeedDiffs.ciceroneref02_Parts.f (s.size + 2) s 44 = some ((parts 44 s.data.toList).map (fun l => (⟨l.toArray⟩ : ByteArray))) := by
  obtain ⟨x, t, h1, h2⟩ := parts_l0 s hs s.size (s.size + 2) 0 0 [] (by omega) (by omega) (by omega) (by simp) (by omega)
  unfold PFeedDiffs.ciceroneref02_Parts.f
  rw [List.drop_zero] at h1
  rw [show ((0 : Int)) = ((0 : Nat) : Int) from rfl, h2, h1]
  simp
end Go.Proofs.YtgpadcokcdpmnaaDoor.Fd
end
section
namespace Go.Proofs.YtgpadcokcdpmnaaDoor.Fd
open Go Go.RowKit Go.Maps Go.Sort Go.Shelf Go.Lib Go.WideAt Go.WideShapes Go.Proofs.YtgpadcokcdpmnaaDoorW.PrintWords
set_option linter.unusedVariables false
set_option linter.unusedSimpArgs false
abbrev S37 := PFeedDiffs.S37
abbrev SR := PFeedDiffs.S46
abbrev SI := PFeedDiffs.S42
def toS (e : Ev) : S37 := ⟨e.src, e.num, e.at_, e.kind, e.person, e.item, e.value, e.text⟩
structure Rw where
  name : ByteArray
  maker : ByteArray
  tags : ByteArray
  price : Int
  stock : Int
def Rw.cells (x : Rw) : Array Value := #[.string x.name, .string x.maker, .string x.tags, .int .i64 x.price, .int .i64 x.stock]
def toR (x : Rw) : SR := ⟨x.name, x.maker, x.tags, x.price, x.stock⟩
def toI (x : It) : SI := ⟨x.name, x.maker, x.tags, x.stock, x.price, x.born, x.listed⟩
theorem rdS_map (l : List Ev) {i : Nat} {e : Ev} (h : l[i]? = some e) : PFeedDiffs.rd_T37 (l.map toS) (i : Int) = toS e := by
  unfold PFeedDiffs.rd_T37
  simp [List.getD, h]
theorem rdR_map (l : List Rw) {i : Nat} {e : Rw} (h : l[i]? = some e) : PFeedDiffs.rd_T46 (l.map toR) (i : Int) = toR e := by
  unfold PFeedDiffs.rd_T46
  simp [List.getD, h]
def findL : List Rw → Tx → Int → Int
  | [], _, _ => -1
  | x :: r, s, i => if x.name.data.toList = s then i else findL r s (i + 1)
theorem find_l0 (l : List Rw) (nm : ByteArray) (hl : l.length ≤ 1000000) : ∀ (d k i : Nat), l.length - i = d → i ≤ l.length → d < k →
    PFeedDiffs.ciceroneref46_Find.l0 k (l.map toR) nm (i : Int) = some (findL (l.drop i) nm.data.toList (i : Int))
  | 0, k, i, hd, hi, hk => by
    obtain ⟨k, rfl⟩ : ∃ m, k = m + 1 := ⟨k - 1, by omega⟩
    simp only [PFeedDiffs.ciceroneref46_Find.l0]
    rw [if_neg (by simp; omega), List.drop_of_length_le (by omega)]; rfl
  | d + 1, k, i, hd, hi, hk => by
    obtain ⟨k, rfl⟩ : ∃ m, k = m + 1 := ⟨k - 1, by omega⟩
    have hlt : i < l.length := by omega
    obtain ⟨x, hx⟩ : ∃ x, l[i]? = some x := ⟨_, List.getElem?_eq_getElem hlt⟩
    have hdr : l.drop i = x :: l.drop (i + 1) := by rw [List.drop_eq_getElem_cons hlt, (List.getElem?_eq_some_iff.1 hx).2]
    simp only [PFeedDiffs.ciceroneref46_Find.l0]
    rw [if_pos (by simp; omega), if_pos (by omega), rdR_map l hx, hdr, findL]
    show (if x.name.toList = nm.toList then _ else _) = _
    rw [toList_data, toList_data]
    by_cases h : x.name.data.toList = nm.data.toList
    · rw [if_pos h, if_pos h]
    · rw [if_neg h, if_neg h, wrap_up (by omega), find_l0 l nm hl d k (i + 1) (by omega) (by omega) (by omega)]
      simp
theorem pFind (l : List Rw) (nm : ByteArray) (hl : l.length ≤ 1000000) : PFeedDiffs.ciceroneref46_Find.f (l.length + 1) (l.map toR) nm = some (findL l nm.data.toList 0) := by
  have := find_l0 l nm hl l.length (l.length + 1) 0 (by omega) (by omega) (by omega)
  rwa [List.drop_zero] at this
theorem findL_cases : ∀ (l : List Rw) (s : Tx) (i : Int), 0 ≤ i → (findL l s i = -1 ∧ ∀ x ∈ l, x.name.data.toList ≠ s) ∨ ∃ (j : Nat) (x : Rw), findL l s i = i + j ∧ l[j]? = some x ∧ x.name.data.toList = s ∧ ∀ y ∈ l.take j, y.name.data.toList ≠ s
  | [], s, i, _ => .inl ⟨rfl, by simp⟩
  | x :: r, s, i, hi => by
    unfold findL
    by_cases h : x.name.data.toList = s
    · rw [if_pos h]; exact .inr ⟨0, x, by simp, rfl, h, by simp⟩
    · rw [if_neg h]
      rcases findL_cases r s (i + 1) (by omega) with ⟨h1, h2⟩ | ⟨j, y, h1, h2, h3, h4⟩
      · exact .inl ⟨h1, fun z hz => (List.mem_cons.1 hz).elim (fun e => e ▸ h) (h2 z)⟩
      · refine .inr ⟨j + 1, y, by rw [h1]; omega, by simpa using h2, h3, fun z hz => ?_⟩
        rw [List.take_succ_cons] at hz
        exact (List.mem_cons.1 hz).elim (fun e => e ▸ h) (h4 z)
def bigB (e : Ev) (m : Int) : Bool := decide ((e.src.size : Int) > m) || decide ((e.person.size : Int) > m) || decide ((e.item.size : Int) > m) || decide ((e.text.size : Int) > m)
theorem pBig (e : Ev) (m : Int) : PFeedDiffs.ciceroneref02_Big.f e.src e.num e.at_ e.kind e.person e.item e.value e.text m = some (bigB e m) := by
  unfold PFeedDiffs.ciceroneref02_Big.f bigB
  by_cases h1 : (e.src.size : Int) > m
  · simp [h1]
  · by_cases h2 : (e.person.size : Int) > m
    · simp [h1, h2]
    · by_cases h3 : (e.item.size : Int) > m
      · simp [h1, h2, h3]
      · simp [h1, h2, h3]
theorem some_l0 (l : List Ev) (m : Int) (hl : l.length ≤ 1000000) : ∀ (d k i : Nat), l.length - i = d → i ≤ l.length → d < k →
    PFeedDiffs.ciceroneref02_Some.l0 k (l.map toS) m (i : Int) = some ((l.drop i).any (fun e => bigB e m))
  | 0, k, i, hd, hi, hk => by
    obtain ⟨k, rfl⟩ : ∃ m, k = m + 1 := ⟨k - 1, by omega⟩
    simp only [PFeedDiffs.ciceroneref02_Some.l0]
    rw [if_neg (by simp; omega), List.drop_of_length_le (by omega)]; rfl
  | d + 1, k, i, hd, hi, hk => by
    obtain ⟨k, rfl⟩ : ∃ m, k = m + 1 := ⟨k - 1, by omega⟩
    have hlt : i < l.length := by omega
    obtain ⟨x, hx⟩ : ∃ x, l[i]? = some x := ⟨_, List.getElem?_eq_getElem hlt⟩
    have hdr : l.drop i = x :: l.drop (i + 1) := by rw [List.drop_eq_getElem_cons hlt, (List.getElem?_eq_some_iff.1 hx).2]
    simp only [PFeedDiffs.ciceroneref02_Some.l0]
    rw [if_pos (by simp; omega), if_pos (by omega), rdS_map l hx, hdr]
    have hb := pBig x m
    simp only [toS] at hb ⊢
    rw [hb, Option.bind_some, wrap_up (by omega), some_l0 l m hl d k (i + 1) (by omega) (by omega) (by omega), List.any_cons]
    cases bigB x m <;> simp
theorem pSome (l : List Ev) (m : Int) (hl : l.length ≤ 1000000) : PFeedDiffs.ciceroneref02_Some.f (l.length + 1) (l.map toS) m = some (l.any (fun e => bigB e m)) := by
  have := some_l0 l m hl l.length (l.length + 1) 0 (by omega) (by omega) (by omega)
  rwa [List.drop_zero] at this
def longB (x : Rw) : Bool := decide (((x.name.size + x.maker.size + x.tags.size : Nat) : Int) > 600)
def fewR (l : List Rw) : Bool := decide (l.length ≤ 31) && (l.take 31).all (fun x => !longB x)
def maxT : Nat := 140737488355328
theorem few_sum (a b c : Nat) (h1 : a ≤ maxT) (h2 : b ≤ maxT) (h3 : c ≤ maxT) : wrap64 (wrap64 ((a : Int) + (b : Int)) + (c : Int)) = ((a + b + c : Nat) : Int) := by
  unfold maxT at h1 h2 h3
  unfold wrap64; omega
theorem few_one {k i : Nat} {l : List Rw} {x : Rw} (hx : l[i]? = some x) (h30 : i ≤ 30) (z1 : x.name.size ≤ maxT) (z2 : x.maker.size ≤ maxT) (z3 : x.tags.size ≤ maxT) :
    PFeedDiffs.ciceroneref46_Few.l0 (k + 1) (l.map toR) (i : Int) = if longB x = true then some false else PFeedDiffs.ciceroneref46_Few.l0 k (l.map toR) ((i + 1 : Nat) : Int) := by
  have hlt := (List.getElem?_eq_some_iff.1 hx).1
  rw [PFeedDiffs.ciceroneref46_Few.l0, if_pos (by rw [List.length_map]; omega), if_neg (by omega), if_pos (by omega), rdR_map l hx]
  have e0 : (toR x).f0 = x.name := rfl
  have e1 : (toR x).f1 = x.maker := rfl
  have e2 : (toR x).f2 = x.tags := rfl
  rw [e0, e1, e2, few_sum _ _ _ z1 z2 z3, wrap_up (by omega)]
  unfold longB
  by_cases hb : ((x.name.size + x.maker.size + x.tags.size : Nat) : Int) > 600
  · rw [if_pos hb, if_pos (decide_eq_true hb)]
  · rw [if_neg hb, if_neg (by rw [decide_eq_true_eq]; exact hb)]
theorem few_l0 (l : List Rw) (hz : ∀ x ∈ l, x.name.size ≤ maxT ∧ x.maker.size ≤ maxT ∧ x.tags.size ≤ maxT) (d : Nat) : ∀ (k i : Nat), l.length - i = d → i ≤ l.length → i ≤ 31 → 32 - i < k →
    PFeedDiffs.ciceroneref46_Few.l0 k (l.map toR) (i : Int) = some (decide (l.length ≤ 31) && ((l.drop i).take (31 - i)).all (fun x => !longB x)) := by
  induction d with
  | zero =>
    intro k i hd hi h31 hk
    obtain ⟨k, rfl⟩ : ∃ m, k = m + 1 := ⟨k - 1, by omega⟩
    rw [PFeedDiffs.ciceroneref46_Few.l0, if_neg (by rw [List.length_map]; omega), List.drop_of_length_le (by omega)]
    have : decide (l.length ≤ 31) = true := decide_eq_true (by omega)
    rw [this]; simp
  | succ d ih =>
    intro k i hd hi h31 hk
    obtain ⟨k, rfl⟩ : ∃ m, k = m + 1 := ⟨k - 1, by omega⟩
    have hlt : i < l.length := by omega
    obtain ⟨x, hx⟩ : ∃ x, l[i]? = some x := ⟨_, List.getElem?_eq_getElem hlt⟩
    have hdr : l.drop i = x :: l.drop (i + 1) := by rw [List.drop_eq_getElem_cons hlt, (List.getElem?_eq_some_iff.1 hx).2]
    obtain ⟨z1, z2, z3⟩ := hz x (List.mem_of_getElem? hx)
    by_cases h30 : 30 < i
    · rw [PFeedDiffs.ciceroneref46_Few.l0, if_pos (by rw [List.length_map]; omega), if_pos (by omega)]
      have : decide (l.length ≤ 31) = false := decide_eq_false (by omega)
      rw [this]; rfl
    · rw [few_one hx (by omega) z1 z2 z3, hdr, show 31 - i = (31 - (i + 1)) + 1 by omega, List.take_succ_cons, List.all_cons]
      cases hb : longB x with
      | true => rw [if_pos rfl]; simp
      | false => rw [if_neg (by simp), ih k (i + 1) (by omega) (by omega) (by omega) (by omega)]; simp
theorem pFew (l : List Rw) (hz : ∀ x ∈ l, x.name.size ≤ maxT ∧ x.maker.size ≤ maxT ∧ x.tags.size ≤ maxT) : PFeedDiffs.ciceroneref46_Few.f 33 (l.map toR) = some (fewR l) := by
  have := few_l0 l hz l.length 33 0 (by omega) (by omega) (by omega) (by omega)
  rwa [List.drop_zero] at this
theorem same_l0 (l : List Ev) (hl : l.length ≤ 1000000) : ∀ (d k i : Nat), l.length - i = d → i ≤ l.length → d < k → PFeedDiffs.ciceroneref02_Same.l0 k (l.map toS) (l.map toS) (i : Int) = some true
  | 0, k, i, hd, hi, hk => by
    obtain ⟨k, rfl⟩ : ∃ m, k = m + 1 := ⟨k - 1, by omega⟩
    simp only [PFeedDiffs.ciceroneref02_Same.l0]
    rw [if_neg (by simp; omega)]
  | d + 1, k, i, hd, hi, hk => by
    obtain ⟨k, rfl⟩ : ∃ m, k = m + 1 := ⟨k - 1, by omega⟩
    simp only [PFeedDiffs.ciceroneref02_Same.l0]
    rw [if_pos (by simp; omega), if_pos (by omega), if_pos (by simp; omega), if_neg (by simp), wrap_up (by omega)]
    exact same_l0 l hl d k (i + 1) (by omega) (by omega) (by omega)
theorem pSame (l : List Ev) (hl : l.length ≤ 1000000) : PFeedDiffs.ciceroneref02_Same.f (l.length + 1) (l.map toS) (l.map toS) = some true := by
  unfold PFeedDiffs.ciceroneref02_Same.f
  rw [if_pos rfl]
  exact same_l0 l hl l.length (l.length + 1) 0 (by omega) (by omega) (by omega)
def itemOf (x : Rw) (i : Nat) : It := ⟨x.name, x.maker, x.tags, x.stock, x.price, i, decide (i % 2 = 0)⟩
def itemsL : List Rw → Nat → List It
  | [], _ => []
  | x :: r, i => itemOf x i :: itemsL r (i + 1)
theorem tmod_two (i : Nat) : ((Int.tmod (i : Int) 2) == 0) = decide (i % 2 = 0) := by
  rw [Bool.eq_iff_iff, beq_iff_eq, decide_eq_true_eq]
  rw [show (Int.tmod (i : Int) 2) = ((i % 2 : Nat) : Int) from rfl]
  omega
theorem items_l0 (l : List Rw) (hl : l.length ≤ 1000000) : ∀ (d k i : Nat) (out : List It), l.length - i = d → i ≤ l.length → out.length = i → d < k →
    PFeedDiffs.ciceronelaw46_items.l0 k (l.map toR) (out.map toI) (i : Int) = some ((out ++ itemsL (l.drop i) i).map toI)
  | 0, k, i, out, hd, hi, ho, hk => by
    obtain ⟨k, rfl⟩ : ∃ m, k = m + 1 := ⟨k - 1, by omega⟩
    simp only [PFeedDiffs.ciceronelaw46_items.l0]
    rw [if_neg (by simp; omega), List.drop_of_length_le (by omega)]; simp [itemsL]
  | d + 1, k, i, out, hd, hi, ho, hk => by
    obtain ⟨k, rfl⟩ : ∃ m, k = m + 1 := ⟨k - 1, by omega⟩
    have hlt : i < l.length := by omega
    obtain ⟨x, hx⟩ : ∃ x, l[i]? = some x := ⟨_, List.getElem?_eq_getElem hlt⟩
    have hdr : l.drop i = x :: l.drop (i + 1) := by rw [List.drop_eq_getElem_cons hlt, (List.getElem?_eq_some_iff.1 hx).2]
    simp only [PFeedDiffs.ciceronelaw46_items.l0]
    rw [if_pos (by simp; omega), if_pos (by omega), if_pos (by simp; omega), rdR_map l hx, hdr, tmod_two, wrap_up (by omega)]
    have := items_l0 l hl d k (i + 1) (out ++ [itemOf x i]) (by omega) (by omega) (by simp [ho]) (by omega)
    rw [List.map_append] at this
    simp only [List.map_cons, List.map_nil] at this
    have e : toI (itemOf x i) = ⟨(toR x).f0, (toR x).f1, (toR x).f2, (toR x).f4, (toR x).f3, (i : Int), decide (i % 2 = 0)⟩ := rfl
    rw [e] at this
    rw [this, List.append_assoc]
    simp [itemsL]
theorem pItems (l : List Rw) (hl : l.length ≤ 1000000) : PFeedDiffs.ciceronelaw46_items.f (l.length + 1) (l.map toR) = some ((itemsL l 0).map toI) := by
  have := items_l0 l hl l.length (l.length + 1) 0 [] (by omega) (by omega) rfl (by omega)
  rwa [List.drop_zero] at this
structure RSt where
  x : It
  there : Bool
  born : Bool
def stepR (nm : ByteArray) (at_ : Int) (st : RSt) (e : Ev) : RSt :=
  if e.item.data.toList = nm.data.toList ∧ e.at_ ≤ at_ then
    if e.kind = 11 then ⟨⟨nm, ⟨(cutL 59 e.text.data.toList).1.toArray⟩, ⟨(cutL 59 e.text.data.toList).2.1.toArray⟩, st.x.stock, e.value, if st.born then st.x.born else e.at_, true⟩, true, true⟩
    else if e.kind = 13 then ⟨{ st.x with name := nm, listed := false }, true, st.born⟩
    else if e.kind = 12 then ⟨{ st.x with name := nm, stock := e.value }, true, st.born⟩
    else ⟨{ st.x with name := nm }, true, st.born⟩
  else st
theorem at_l0 (l : List Ev) (nm : ByteArray) (at_ : Int) (hl : l.length ≤ 1000000) (M : Nat) (hM : ∀ e ∈ l, e.text.size ≤ M) (hM2 : M ≤ 1000000000) : ∀ (d k i : Nat) (st : RSt), l.length - i = d → i ≤ l.length → 2 * d + M + 3 < k →
    PFeedDiffs.ciceroneref15_At.l0 k (l.map toS) nm at_ st.there st.born (i : Int) st.x.name st.x.maker st.x.tags st.x.stock st.x.price st.x.born st.x.listed =
      (fun s : RSt => some (s.x.name, s.x.maker, s.x.tags, s.x.stock, s.x.price, s.x.born, s.x.listed, s.there)) ((l.drop i).foldl (stepR nm at_) st)
  | 0, k, i, st, hd, hi, hk => by
    obtain ⟨k, rfl⟩ : ∃ m, k = m + 1 := ⟨k - 1, by omega⟩
    simp only [PFeedDiffs.ciceroneref15_At.l0]
    rw [if_neg (by simp; omega), List.drop_of_length_le (by omega)]; rfl
  | d + 1, k, i, st, hd, hi, hk => by
    obtain ⟨k, rfl⟩ : ∃ m, k = m + 1 + 1 := ⟨k - 2, by omega⟩
    have hlt : i < l.length := by omega
    obtain ⟨e, he⟩ : ∃ x, l[i]? = some x := ⟨_, List.getElem?_eq_getElem hlt⟩
    have hdr : l.drop i = e :: l.drop (i + 1) := by rw [List.drop_eq_getElem_cons hlt, (List.getElem?_eq_some_iff.1 he).2]
    have hte := hM e (List.mem_of_getElem? he)
    have ih := fun st => at_l0 l nm at_ hl M hM hM2 d k (i + 1) st (by omega) (by omega) (by omega)
    have hmk : PFeedDiffs.ciceroneref02_Maker.f k e.text = some ⟨(cutL 59 e.text.data.toList).1.toArray⟩ := at_rounds (fun k => PFeedDiffs.ciceroneref02_Maker.mono e.text k) (by omega) (pMaker e.text (by omega))
    have hbh : PFeedDiffs.ciceroneref15_behind.f k e.text = some ⟨(cutL 59 e.text.data.toList).2.1.toArray⟩ := at_rounds (fun k => PFeedDiffs.ciceroneref15_behind.mono e.text k) (by omega) (pBehind e.text (by omega))
    simp only [PFeedDiffs.ciceroneref15_At.l0]
    rw [if_pos (by simp; omega), if_pos (by omega), rdS_map l he, hdr, List.foldl_cons]
    simp only [toS, PFeedDiffs.ciceroneref15_At.j1, wrap_up (show i ≤ 1000000000 by omega), toList_data]
    by_cases h1 : e.item.data.toList = nm.data.toList
    · rw [if_pos h1]
      by_cases h2 : e.at_ ≤ at_
      · rw [if_neg (fun h => by have := of_decide_eq_true h; omega)]
        have hst : stepR nm at_ st e = if e.kind = 11 then ⟨⟨nm, ⟨(cutL 59 e.text.data.toList).1.toArray⟩, ⟨(cutL 59 e.text.data.toList).2.1.toArray⟩, st.x.stock, e.value, if st.born then st.x.born else e.at_, true⟩, true, true⟩
            else if e.kind = 13 then ⟨{ st.x with name := nm, listed := false }, true, st.born⟩
            else if e.kind = 12 then ⟨{ st.x with name := nm, stock := e.value }, true, st.born⟩
            else ⟨{ st.x with name := nm }, true, st.born⟩ := if_pos ⟨h1, h2⟩
        by_cases hk1 : e.kind = 11
        · rw [if_pos hk1, hmk, hbh]
          simp only [Option.bind_some]
          rw [hst, if_pos hk1]
          cases hb : st.born with
          | true =>
            rw [if_pos rfl]
            have := ih ⟨⟨nm, ⟨(cutL 59 e.text.data.toList).1.toArray⟩, ⟨(cutL 59 e.text.data.toList).2.1.toArray⟩, st.x.stock, e.value, st.x.born, true⟩, true, true⟩
            simpa using this
          | false =>
            rw [if_neg (by simp)]
            have := ih ⟨⟨nm, ⟨(cutL 59 e.text.data.toList).1.toArray⟩, ⟨(cutL 59 e.text.data.toList).2.1.toArray⟩, st.x.stock, e.value, e.at_, true⟩, true, true⟩
            simpa using this
        · rw [if_neg hk1, hst, if_neg hk1]
          by_cases hk2 : e.kind = 13
          · rw [if_pos hk2, if_pos hk2]; exact ih ⟨{ st.x with name := nm, listed := false }, true, st.born⟩
          · rw [if_neg hk2, if_neg hk2]
            by_cases hk3 : e.kind = 12
            · rw [if_pos hk3, if_pos hk3]; exact ih ⟨{ st.x with name := nm, stock := e.value }, true, st.born⟩
            · rw [if_neg hk3, if_neg hk3]; exact ih ⟨{ st.x with name := nm }, true, st.born⟩
      · rw [show stepR nm at_ st e = st from if_neg (fun h => h2 h.2)]
        refine Eq.trans (if_pos ?_) (ih st)
        exact decide_eq_true (show e.at_ > at_ by omega)
    · rw [if_neg h1, show stepR nm at_ st e = st from if_neg (fun h => h1 h.1)]
      exact Eq.trans (if_pos (by first | trivial | rfl)) (ih st)
def refAt (l : List Ev) (nm : ByteArray) (at_ : Int) : RSt := l.foldl (stepR nm at_) ⟨It.z, false, false⟩
theorem pAt (l : List Ev) (nm : ByteArray) (at_ : Int) (hl : l.length ≤ 1000000) (hM : ∀ e ∈ l, e.text.size ≤ 1000000) :
    PFeedDiffs.ciceroneref15_At.f (2 * l.length + 1000004) (l.map toS) nm at_ = some ((refAt l nm at_).x.name, (refAt l nm at_).x.maker, (refAt l nm at_).x.tags, (refAt l nm at_).x.stock, (refAt l nm at_).x.price, (refAt l nm at_).x.born, (refAt l nm at_).x.listed, (refAt l nm at_).there) := by
  have := at_l0 l nm at_ hl 1000000 hM (by omega) l.length (2 * l.length + 1000004) 0 ⟨It.z, false, false⟩ (by omega) (by omega) (by omega)
  rw [List.drop_zero] at this
  exact this
end Go.Proofs.YtgpadcokcdpmnaaDoor.Fd
end
section
namespace Go.Proofs.YtgpadcokcdpmnaaDoor.Fd
open Go Go.RowKit Go.Maps Go.Shelf Go.Lib
set_option linter.unusedVariables false
set_option linter.unusedSimpArgs false
def RwAt (w : World) (q : Nat) (x : Rw) : Prop := w.heap[q]? = some (.cells x.cells 46 (0, 0))
theorem RwAt.facts {w : World} {q : Nat} {x : Rw} (h : RwAt w q x) :
    w.cell? ⟨q, 0, none⟩ = some (.string x.name) ∧ w.cell? ⟨q, 1, none⟩ = some (.string x.maker) ∧ w.cell? ⟨q, 2, none⟩ = some (.string x.tags) ∧ w.cell? ⟨q, 3, none⟩ = some (.int .i64 x.price) ∧ w.cell? ⟨q, 4, none⟩ = some (.int .i64 x.stock) := by
  unfold RwAt Rw.cells at h
  simp only [World.cell?, h]
  simp
theorem RwAt.new (w : World) (x : Rw) : RwAt (w.alloc (.cells x.cells 46)) w.heap.size x := heap_alloc_new w _
theorem RwAt.below {w w' : World} {q : Nat} {x : Rw} (h : RwAt w q x) (hb : Below w.heap.size w w') : RwAt w' q x := (hb.block q (Array.getElem?_eq_some_iff.1 h).1).trans h
def rwB (x : Rw) : Bool := rowB (itemOf x 0)
theorem rowB_item (x : Rw) (i : Nat) : rowB (itemOf x i) = rwB x := rfl
theorem rwB_eq (x : Rw) : rwB x = (nameB x.name && nameB x.maker && (labelsB x.tags.data.toList && inB x.stock 0 1048576 && inB x.price 0 1048576)) := by
  unfold rwB rowB itemOf; simp only [Bool.and_assoc]
def LR (B : Nat) (W : World) (ws : List (List UInt8)) (v : Value) (wr : World) : Prop :=
  ∃ k : Nat, k ≤ ws.length ∧ v = .int .i64 k ∧ Below B W wr ∧ tagRun none ws = tagRun (prevAt ws k) (ws.drop k)
theorem ps_at {w : World} {base n : Nat} {e : TypeId} {A : Option Addr} {cap : Nat} {ps : List ByteArray} (h : w.ownsRow base e 1 (.slice A n cap) n (ps.map Value.string)) (hl : ps.length = n) {i : Nat} {k : ByteArray} (hk : ps[i]? = some k) :
    ∃ g, A = some ⟨g, 0, none⟩ ∧ g < w.heap.size ∧ w.cell? ⟨g, i, none⟩ = some (.string k) := by
  have hi : i < n := by rw [← hl]; exact (List.getElem?_eq_some_iff.1 hk).1
  obtain ⟨g, cap', hv, hg, hlt⟩ := h.form (by omega)
  have hA : A = some ⟨g, 0, none⟩ := by injection hv
  subst hA
  have := h.cells (g := g) rfl i (.string k) (by rw [List.getElem?_map, hk]; rfl)
  rw [add_none'] at this
  exact ⟨g, rfl, hlt, this⟩
set_option maxHeartbeats 8000000 in
set_option maxRecDepth 100000 in
theorem refmay_loop (x : Rw) (w : World) (ht : x.tags.size ≤ 1000000) (hz1 : x.name.size ≤ 1000000000) (hz2 : x.maker.size ≤ 1000000000) (h1 : nameB x.name = true) (h2 : nameB x.maker = true)
    (b1 : decide (x.price < 0) = false) (b2 : decide (1048576 < x.price) = false) (b3 : decide (x.stock < 0) = false) (b4 : decide (1048576 < x.stock) = false) (q0 : x.tags.toList.isEmpty = false) (hE : rwB x = tagsB (parts 44 x.tags.data.toList)) :
    Calls Tryd.prog 32 #[.agg x.cells] w fun e w' => e = .returned (.bool (rwB x)) ∧ Below w.heap.size w w' := by
  have HE := Lib.hid hE
  have HIT : Hid (∀ Y, Below (w.alloc (.cells x.cells 46)).heap.size (w.alloc (.cells x.cells 46)) Y → RwAt Y w.heap.size x) := fun Y hY => (RwAt.new w x).below hY
  have HW0 : Hid (Below w.heap.size w (w.alloc (.cells x.cells 46))) := (Below.refl _ _).alloc (Nat.le_refl _) _
  have HN1 := Lib.hid (fun W => refname_calls x.name W hz1)
  have HN2 := Lib.hid (fun W => refname_calls x.maker W hz2)
  have HP := Lib.hid (fun W => PFeedDiffs.ciceroneref02_Parts.calls _ x.tags 44 _ W (pParts x.tags ht))
  obtain ⟨ps, hps⟩ : ∃ ps, (parts 44 x.tags.data.toList).map (fun l => (⟨l.toArray⟩ : ByteArray)) = ps := ⟨_, rfl⟩
  have hpl : ps.length ≤ 1000001 := by
    rw [← hps, List.length_map]
    have := parts_length_le 44 x.tags.data.toList
    have h9 : x.tags.data.toList.length = x.tags.size := by simp
    omega
  have HPD : Hid (ps.map (·.data.toList) = parts 44 x.tags.data.toList) := by
    rw [← hps, Hid, List.map_map, show ((fun (x : ByteArray) => x.data.toList) ∘ fun (l : List UInt8) => (⟨l.toArray⟩ : ByteArray)) = id from rfl, List.map_id]
  have hpz : ∀ y ∈ ps, y.size ≤ 1000000000 := by
    intro y hy
    rw [← hps] at hy
    obtain ⟨l, hl, rfl⟩ := List.mem_map.1 hy
    have h9 := sumLen_mem hl
    rw [parts_sum] at h9
    have h10 : x.tags.data.toList.length = x.tags.size := by simp
    show (⟨l.toArray⟩ : ByteArray).size ≤ _
    simp [ByteArray.size]; omega
  rw [hps] at HP
  have HPZ := Lib.hid hpz
  obtain ⟨hx0, hx1, hx2, hx3, hx4⟩ := (HIT.out _ (Below.refl _ _)).facts
  have hcs : x.cells = #[.string x.name, .string x.maker, .string x.tags, .int .i64 x.price, .int .i64 x.stock] := rfl
  rw [hcs] at HIT HW0 hx0 hx1 hx2 hx3 hx4 ⊢
  clear hcs hps hpz hE
  go_enter Tryd.func32, Tryd.ntmps32
  go_wp2_with (first
    | (go_at_call 27; (with_reducible refine (HN1.out _).mono ?_); rintro r y ⟨rfl, n1, rfl⟩; rw [h1])
    | (go_at_call 27; (with_reducible refine (HN2.out _).mono ?_); rintro r y ⟨rfl, n2, rfl⟩; rw [h2])
    | (go_at_call 48; (with_reducible refine (HP.out _).mono ?_); rintro r w1 ⟨v0, rfl, hr, hb⟩; refine Hid.out ?_)
    | fail)
  refine Lib.hid ?_
  have hown : w1.ownsRow _ 9 1 v0 ps.length (ps.map Value.string) := YtgpadcokcdpmnaaDoorW.PrintWords.Kd.own_of_R hr
  obtain ⟨A, cap, rfl⟩ := own_slice hown
  have HB1 : Hid (Below w.heap.size w w1) := (below_dr HW0.out _).trans (hb.mono (by simp))
  have HPS : Hid (∀ i k, ps[i]? = some k → ∃ g, A = some ⟨g, 0, none⟩ ∧ g < w1.heap.size ∧ w1.cell? ⟨g, i, none⟩ = some (.string k)) := fun i k hk => ps_at hown rfl hk
  clear hr hb hown hx0 hx1 hx2 hx3 hx4
  go_wp2_with fail
  go_loopw [4] (fun v wr => LR w1.heap.size w1 (ps.map (·.data.toList)) v wr) (fun i _ => ps.length - (intOf i).toNat)
  case atStart => exact ⟨0, Nat.zero_le _, rfl, Below.refl _ _, rfl⟩
  case round =>
    obtain ⟨k, hk, rfl, hbr, ht⟩ := hrel
    simp only [List.length_map] at hk
    by_cases hlt : k < ps.length
    · obtain ⟨y, hy⟩ : ∃ y, ps[k]? = some y := ⟨_, List.getElem?_eq_getElem hlt⟩
      obtain ⟨g, rfl, hg, hc⟩ := HPS.out k y hy
      have hcr := (hbr.cell (p := ⟨g, k, none⟩) hg).trans hc
      have hyl : (ps.map (·.data.toList))[k]? = some y.data.toList := by rw [List.getElem?_map, hy]; rfl
      rw [tagRun_drop hyl, ba_self] at ht
      have HT := Lib.hid ht
      have HNY := Lib.hid (fun (W : World) n => Calls.quiet_of (refname_calls y (W.drewN n) (HPZ.out y (List.mem_of_getElem? hy))))
      have hli : (k : Int) < ps.length := by omega
      have hki : (0 : Int) ≤ k := by omega
      have hbs := hbr.size
      clear ht hyl hc
      cases hnm : nameB y with
      | false =>
        have HN : Hid (rwB x = false) := by rw [Hid, HE.out]; unfold tagsB; rw [← HPD.out, HT.out, hnm]; simp
        rw [hnm] at HNY
        go_wp2_with fail
        go_quiet ((go_at_call 27; exact HNY.out _ _))
        go_wp2_with fail
        go_ret
        exact ⟨by rw [HN.out]; rfl, below_dr (HB1.out.trans (hbr.mono HB1.out.size)) _⟩
      | true =>
        rw [hnm, Bool.true_and] at HT
        rw [hnm] at HNY
        rcases Nat.eq_zero_or_pos k with hk0 | hk0
        · subst hk0
          have HNEXT : Hid (tagRun none (ps.map (·.data.toList)) = tagRun (prevAt (ps.map (·.data.toList)) (0 + 1)) ((ps.map (·.data.toList)).drop (0 + 1))) := by
            rw [Hid, HT.out]
            unfold prevAt
            rw [if_pos rfl, if_neg (by omega), show (0 + 1 - 1) = 0 from rfl, List.getElem?_map, hy]
            simp [prevOk]
          go_wp2_with fail
          go_quiet ((go_at_call 27; exact HNY.out _ _))
          go_wp2_with fail
          go_roundw
          case rel => exact ⟨0 + 1, by simp; omega, rfl, below_dr hbr _, HNEXT.out⟩
          case measure => simp [intOf]; omega
        · obtain ⟨m, rfl⟩ : ∃ m, k = m + 1 := ⟨k - 1, by omega⟩
          obtain ⟨z, hz⟩ : ∃ z, ps[m]? = some z := ⟨_, List.getElem?_eq_getElem (by omega)⟩
          have HT2 : Hid (tagRun none (ps.map (·.data.toList)) = (Op.bytesLess z.toList y.toList && tagRun (some y.data.toList) ((ps.map (·.data.toList)).drop (m + 1 + 1)))) := by
            rw [Hid, HT.out]
            unfold prevAt
            rw [if_neg (by omega), Nat.add_sub_cancel, List.getElem?_map, hz]
            simp only [Option.map_some, prevOk, toList_data, less_before]
          obtain ⟨g', e', _, hcz⟩ := HPS.out m z hz
          cases e'
          have hczr := (hbr.cell (p := ⟨g, m, none⟩) hg).trans hcz
          have hwm : wrap64 (m : Int) = (m : Int) := IntWalk.wrap64_in _ (by omega)
          have hmt : ((m : Int)).toNat = m := by omega
          have hm0 : (0 : Int) ≤ (m : Int) := by omega
          have hml : (m : Int) < ps.length := by omega
          have hmp : (0 : Int) < (m : Int) + 1 := by omega
          have HY := Lib.hid hy
          clear HT hk0 hcz hy hz
          cases hlb : Op.bytesLess z.toList y.toList with
          | false =>
            have HN : Hid (rwB x = false) := by rw [Hid, HE.out]; unfold tagsB; rw [← HPD.out, HT2.out, hlb]; simp
            go_wp2_with fail
            go_quiet ((go_at_call 27; exact HNY.out _ _))
            go_wp2_with fail
            go_ret
            exact ⟨by rw [HN.out]; rfl, below_dr (HB1.out.trans (hbr.mono HB1.out.size)) _⟩
          | true =>
            have HNEXT : Hid (tagRun none (ps.map (·.data.toList)) = tagRun (prevAt (ps.map (·.data.toList)) (m + 1 + 1)) ((ps.map (·.data.toList)).drop (m + 1 + 1))) := by
              rw [Hid, HT2.out, hlb, Bool.true_and]
              unfold prevAt
              rw [if_neg (by omega), Nat.add_sub_cancel, List.getElem?_map, HY.out]; rfl
            go_wp2_with fail
            go_quiet ((go_at_call 27; exact HNY.out _ _))
            go_wp2_with fail
            go_roundw
            case rel => exact ⟨m + 1 + 1, by simp; omega, rfl, below_dr hbr _, HNEXT.out⟩
            case measure => simp [intOf]; omega
    · have hke : k = ps.length := by omega
      have HF : Hid (rwB x = decide ((ps.length : Int) ≤ 8)) := by
        rw [Hid, HE.out]; unfold tagsB
        rw [← HPD.out, ht, List.drop_of_length_le (by simp; omega)]
        simp only [tagRun, Bool.true_and, List.length_map]
        rw [Bool.eq_iff_iff]; simp only [decide_eq_true_eq]; omega
      clear ht hke
      go_wp2_with fail
      go_ret
      exact ⟨by rw [HF.out]; rfl, HB1.out.trans (hbr.mono HB1.out.size)⟩
set_option maxHeartbeats 8000000 in
set_option maxRecDepth 100000 in
theorem refmay_calls (x : Rw) (w : World) (ht : x.tags.size ≤ 1000000) (hz1 : x.name.size ≤ 1000000000) (hz2 : x.maker.size ≤ 1000000000) :
    Calls Tryd.prog 32 #[.agg x.cells] w fun e w' => e = .returned (.bool (rwB x)) ∧ Below w.heap.size w w' := by
  have HE : Hid (rwB x = (nameB x.name && nameB x.maker && (labelsB x.tags.data.toList && inB x.stock 0 1048576 && inB x.price 0 1048576))) := rwB_eq x
  have HIT : Hid (∀ Y, Below (w.alloc (.cells x.cells 46)).heap.size (w.alloc (.cells x.cells 46)) Y → RwAt Y w.heap.size x) := fun Y hY => (RwAt.new w x).below hY
  have HW0 : Hid (Below w.heap.size w (w.alloc (.cells x.cells 46))) := (Below.refl _ _).alloc (Nat.le_refl _) _
  have HN1 := Lib.hid (fun W => refname_calls x.name W hz1)
  have HN2 := Lib.hid (fun W => refname_calls x.maker W hz2)
  have HLOOP := Lib.hid (refmay_loop x w ht hz1 hz2)
  obtain ⟨hx0, hx1, hx2, hx3, hx4⟩ := (HIT.out _ (Below.refl _ _)).facts
  have hcs : x.cells = #[.string x.name, .string x.maker, .string x.tags, .int .i64 x.price, .int .i64 x.stock] := rfl
  rw [hcs] at HIT HW0 hx0 hx1 hx2 hx3 hx4 ⊢
  rw [hcs] at HLOOP
  clear hcs
  cases h1 : nameB x.name with
  | false =>
    have HR : Hid (rwB x = false) := by rw [Hid, HE.out, h1]; rfl
    go_enter Tryd.func32, Tryd.ntmps32
    go_wp2_with (first
      | (go_at_call 27; (with_reducible refine (HN1.out _).mono ?_); rintro r y ⟨rfl, n1, rfl⟩; rw [h1])
      | fail)
    go_ret
    exact ⟨by rw [HR.out]; rfl, below_dr HW0.out _⟩
  | true =>
    cases h2 : nameB x.maker with
    | false =>
      have HR : Hid (rwB x = false) := by rw [Hid, HE.out, h1, h2]; rfl
      go_enter Tryd.func32, Tryd.ntmps32
      go_wp2_with (first
        | (go_at_call 27; (with_reducible refine (HN1.out _).mono ?_); rintro r y ⟨rfl, n1, rfl⟩; rw [h1])
        | (go_at_call 27; (with_reducible refine (HN2.out _).mono ?_); rintro r y ⟨rfl, n2, rfl⟩; rw [h2])
        | fail)
      go_ret
      exact ⟨by rw [HR.out]; rfl, below_dr HW0.out _⟩
    | true =>
      rw [h1, h2] at HE
      by_cases hok : 0 ≤ x.price ∧ x.price ≤ 1048576 ∧ 0 ≤ x.stock ∧ x.stock ≤ 1048576
      · obtain ⟨o1, o2, o3, o4⟩ := hok
        have b1 : decide (x.price < 0) = false := decide_eq_false (by omega)
        have b2 : decide (1048576 < x.price) = false := decide_eq_false (by omega)
        have b3 : decide (x.stock < 0) = false := decide_eq_false (by omega)
        have b4 : decide (1048576 < x.stock) = false := decide_eq_false (by omega)
        have HE2 : Hid (rwB x = labelsB x.tags.data.toList) := by
          rw [Hid, HE.out]
          unfold inB
          rw [decide_eq_true o1, decide_eq_true o2, decide_eq_true o3, decide_eq_true o4]; simp
        by_cases h0 : x.tags.data.toList = []
        · have q0 : x.tags.toList.isEmpty = true := by rw [toList_data, h0]; rfl
          have HR : Hid (rwB x = true) := by rw [Hid, HE2.out]; unfold labelsB; rw [h0]; rfl
          clear h0 HLOOP o1 o2 o3 o4
          go_enter Tryd.func32, Tryd.ntmps32
          go_wp2_with (first
            | (go_at_call 27; (with_reducible refine (HN1.out _).mono ?_); rintro r y ⟨rfl, n1, rfl⟩; rw [h1])
            | (go_at_call 27; (with_reducible refine (HN2.out _).mono ?_); rintro r y ⟨rfl, n2, rfl⟩; rw [h2])
            | fail)
          go_ret
          exact ⟨by rw [HR.out]; rfl, below_dr HW0.out _⟩
        · have q0 : x.tags.toList.isEmpty = false := by rw [toList_data]; simpa using h0
          exact HLOOP.out h1 h2 b1 b2 b3 b4 q0 (by rw [HE2.out]; unfold labelsB; rw [← toList_data, q0, Bool.false_or])
      · have HR : Hid (rwB x = false) := by
          rw [Hid, HE.out]
          unfold inB
          cases labelsB x.tags.data.toList
          · rfl
          · simp; omega
        have hfin : (decide (x.price < 0) = true) ∨ (decide (x.price < 0) = false ∧ decide (1048576 < x.price) = true) ∨ (decide (x.price < 0) = false ∧ decide (1048576 < x.price) = false ∧ decide (x.stock < 0) = true) ∨ (decide (x.price < 0) = false ∧ decide (1048576 < x.price) = false ∧ decide (x.stock < 0) = false ∧ decide (1048576 < x.stock) = true) := by
          simp only [decide_eq_true_eq, decide_eq_false_iff_not]; omega
        clear hok HLOOP
        rcases hfin with b1 | ⟨b1, b2⟩ | ⟨b1, b2, b3⟩ | ⟨b1, b2, b3, b4⟩
        all_goals
          go_enter Tryd.func32, Tryd.ntmps32
          go_wp2_with (first
            | (go_at_call 27; (with_reducible refine (HN1.out _).mono ?_); rintro r y ⟨rfl, n1, rfl⟩; rw [h1])
            | (go_at_call 27; (with_reducible refine (HN2.out _).mono ?_); rintro r y ⟨rfl, n2, rfl⟩; rw [h2])
            | fail)
          go_ret
          exact ⟨by rw [HR.out]; rfl, below_dr HW0.out _⟩
end Go.Proofs.YtgpadcokcdpmnaaDoor.Fd
end
section
namespace Go.Proofs.YtgpadcokcdpmnaaDoor.Fd
open Go Go.RowKit Go.Maps Go.Sort Go.Shelf Go.Lib Go.Proofs.YtgpadcokcdpmnaaDoorW.PrintLast
set_option linter.unusedVariables false
set_option linter.unusedSimpArgs false
def RwsAt (w : World) (A : Option Addr) (l : List Rw) : Prop :=
  ∀ i x, l[i]? = some x → ∃ g O, A = some ⟨g, O, none⟩ ∧ g < w.heap.size ∧ ∀ j u, x.cells.toList[j]? = some u → w.cell? ⟨g, O + i * 5 + j, none⟩ = some u
theorem RwsAt.below {w w' : World} {A : Option Addr} {l : List Rw} (h : RwsAt w A l) (hb : Below w.heap.size w w') : RwsAt w' A l := by
  intro i x hx
  obtain ⟨g, O, rfl, hg, hc⟩ := h i x hx
  exact ⟨g, O, rfl, Nat.lt_of_lt_of_le hg hb.size, fun j u hu => (hb.cell (p := ⟨g, O + i * 5 + j, none⟩) hg).trans (hc j u hu)⟩
theorem RwsAt.take {w : World} {A : Option Addr} {l : List Rw} (h : RwsAt w A l) (k : Nat) : RwsAt w A (l.take k) := fun i x hx => h i x (by
  rcases Nat.lt_or_ge i k with h1 | h1
  · rwa [List.getElem?_take_of_lt h1] at hx
  · rw [List.getElem?_take_eq_none h1] at hx; cases hx)
theorem RwsAt.C {w : World} {A : Option Addr} {l : List Rw} (h : RwsAt w A l) (hl : l.length ≤ 1000000) : YtgpadcokcdpmnaaDoorW.PrintWords.Kd.C PFeedDiffs.k46 w A (l.map toR).length (l.map toR) := by
  refine ⟨rfl, by simp; omega, fun hn => ?_⟩
  have hn' : 0 < l.length := by simpa using hn
  obtain ⟨g, O, rfl, hg, _⟩ := h 0 _ (List.getElem?_eq_getElem hn')
  refine ⟨⟨g, O, none⟩, rfl, fun j p hj => ?_⟩
  rw [List.getElem?_map] at hj
  cases hx : l[j]? with
  | none => rw [hx] at hj; cases hj
  | some x =>
    rw [hx] at hj
    cases hj
    obtain ⟨g', O', e, _, hc⟩ := h j x hx
    cases e
    exact ⟨x.cells.toList, rfl, PFeedDiffs.k46_mk w (toR x), fun i u hu => by rw [add_off, ← Nat.add_assoc]; exact hc i u hu⟩
def allFrom (pre : List Rw) : List Rw → Bool
  | [] => true
  | x :: r => rwB x && !(pre.any (fun y => y.name.data.toList == x.name.data.toList)) && allFrom (pre ++ [x]) r
def allR (l : List Rw) : Bool := allFrom [] l && decide (l.length ≤ 4096)
theorem find_any (l : List Rw) (s : Tx) : decide (0 ≤ findL l s 0) = l.any (fun y => y.name.data.toList == s) := by
  rcases findL_cases l s 0 (by omega) with ⟨h1, h2⟩ | ⟨j, x, h1, h2, h3, _⟩
  · rw [h1]
    have : l.any (fun y => y.name.data.toList == s) = false := by
      rw [List.any_eq_false]; intro y hy; simpa using h2 y hy
    rw [this]; rfl
  · rw [h1]
    have : l.any (fun y => y.name.data.toList == s) = true := by
      rw [List.any_eq_true]; exact ⟨x, List.mem_of_getElem? h2, by simpa using h3⟩
    rw [this]; simp
def RwFine (l : List Rw) : Prop := l.length ≤ 1000 ∧ ∀ x ∈ l, x.name.size ≤ 1000000 ∧ x.maker.size ≤ 1000000 ∧ x.tags.size ≤ 1000000
theorem reffind_calls (A : Option Addr) (cap : Nat) (l : List Rw) (nm : ByteArray) (w : World) (h : RwsAt w A l) (hl : l.length ≤ 1000000) (hc : l.length ≤ cap) :
    Calls Tryd.prog 31 #[.slice A l.length cap, .string nm] w fun e w' => e = .returned (.int .i64 (findL l nm.data.toList 0)) ∧ ∃ n, w' = w.drewN n := by
  have := PFeedDiffs.ciceroneref46_Find.calls _ A cap (l.map toR) nm _ w (h.C hl) (by simpa using hc) (pFind l nm hl)
  rw [List.length_map] at this
  refine this.mono ?_
  rintro e w' ⟨h1, ⟨n, hn⟩⟩
  exact ⟨h1, n, hn⟩
def LA (W : World) (l : List Rw) (v : Value) (wr : World) : Prop := ∃ k : Nat, k ≤ l.length ∧ v = .int .i64 k ∧ Below W.heap.size W wr ∧ allFrom [] l = allFrom (l.take k) (l.drop k)
set_option maxHeartbeats 8000000 in
set_option maxRecDepth 100000 in
theorem refall_calls (A : Option Addr) (cap : Nat) (l : List Rw) (w : World) (h : RwsAt w A l) (hf : RwFine l) (hc : l.length ≤ cap) :
    Calls Tryd.prog 14 #[.slice A l.length cap] w fun e w' => e = .returned (.bool (allR l)) ∧ Below w.heap.size w w' := by
  have H := Lib.hid h
  have hl1 := hf.1
  have HF := Lib.hid hf.2
  clear h hf
  go_enter Tryd.func14, Tryd.ntmps14
  go_wp2_with fail
  go_loopw [3] (fun v wr => LA w l v wr) (fun i _ => l.length - (intOf i).toNat)
  case atStart => exact ⟨0, Nat.zero_le _, rfl, Below.refl _ _, rfl⟩
  case round =>
    obtain ⟨k, hk, rfl, hbr, hall⟩ := hrel
    have HALL := Lib.hid hall
    have HBR := Lib.hid hbr
    clear hall hbr
    by_cases hlt : k < l.length
    · obtain ⟨x, hx⟩ : ∃ x, l[k]? = some x := ⟨_, List.getElem?_eq_getElem hlt⟩
      have HWR := Lib.hid (H.out.below HBR.out)
      obtain ⟨g, O, rfl, hg, hcs⟩ := HWR.out k x hx
      obtain ⟨z1, z2, z3⟩ := HF.out x (List.mem_of_getElem? hx)
      have hdr : l.drop k = x :: l.drop (k + 1) := by rw [List.drop_eq_getElem_cons hlt, (List.getElem?_eq_some_iff.1 hx).2]
      have htk : l.take (k + 1) = l.take k ++ [x] := by rw [List.take_add_one, hx]; rfl
      have hstep : allFrom [] l = (rwB x && !((l.take k).any (fun y => y.name.data.toList == x.name.data.toList)) && allFrom (l.take (k + 1)) (l.drop (k + 1))) := by
        rw [HALL.out, hdr, allFrom, htk]
      rw [← find_any] at hstep
      have HSTEP := Lib.hid hstep
      have f0 : wr.cell? ⟨g, O + k * 5, none⟩ = some (.string x.name) := hcs 0 _ rfl
      have f1 := hcs 1 (.string x.maker) rfl
      have f2 := hcs 2 (.string x.tags) rfl
      have f3 := hcs 3 (.int .i64 x.price) rfl
      have f4 := hcs 4 (.int .i64 x.stock) rfl
      have HCL : Hid (∀ Y, Below wr.heap.size wr Y → Y.cell? ⟨g, O + k * 5, none⟩ = some (.string x.name) ∧ Y.cell? ⟨g, O + k * 5 + 1, none⟩ = some (.string x.maker) ∧ Y.cell? ⟨g, O + k * 5 + 2, none⟩ = some (.string x.tags) ∧ Y.cell? ⟨g, O + k * 5 + 3, none⟩ = some (.int .i64 x.price) ∧ Y.cell? ⟨g, O + k * 5 + 4, none⟩ = some (.int .i64 x.stock)) := fun Y hY =>
        ⟨(hY.cell (p := ⟨g, O + k * 5, none⟩) hg).trans f0, (hY.cell (p := ⟨g, O + k * 5 + 1, none⟩) hg).trans f1, (hY.cell (p := ⟨g, O + k * 5 + 2, none⟩) hg).trans f2, (hY.cell (p := ⟨g, O + k * 5 + 3, none⟩) hg).trans f3, (hY.cell (p := ⟨g, O + k * 5 + 4, none⟩) hg).trans f4⟩
      have hMAY := fun W => refmay_calls x W z3 (by omega) (by omega)
      simp only [Rw.cells] at hMAY
      have HMAY := Lib.hid hMAY
      have HFIND : Hid (∀ Y, Below wr.heap.size wr Y → Calls Tryd.prog 31 #[.slice (some ⟨g, O, none⟩) k cap, .string x.name] Y fun e w' => e = .returned (.int .i64 (findL (l.take k) x.name.data.toList 0)) ∧ ∃ n, w' = Y.drewN n) := fun Y hY => by
        have h9 := reffind_calls (some ⟨g, O, none⟩) cap (l.take k) x.name Y ((HWR.out.below hY).take k) (by simp; omega) (by simp; omega)
        rwa [List.length_take, Nat.min_eq_left (by omega)] at h9
      obtain ⟨fv, hfv⟩ : ∃ f, findL (l.take k) x.name.data.toList 0 = f := ⟨_, rfl⟩
      rw [hfv] at HFIND HSTEP
      have hki : (0 : Int) ≤ k := by omega
      have hli : (k : Int) < l.length := by omega
      have hkc : (k : Int) ≤ cap := by omega
      have hli2 : (k : Int) ≤ (l.length : Int) := by omega
      clear hcs hdr htk hstep hMAY hfv hx
      cases hmay : rwB x with
      | false =>
        have HR : Hid (allR l = false) := by unfold Hid allR; rw [HSTEP.out, hmay]; rfl
        go_wp2_with fail
        refine start_ (n := 18) (S := fun w' => w'.cell? ⟨g, O + k * 5, none⟩ = some (.string x.name) ∧ w'.cell? ⟨g, O + k * 5 + 1, none⟩ = some (.string x.maker) ∧ w'.cell? ⟨g, O + k * 5 + 2, none⟩ = some (.string x.tags) ∧ w'.cell? ⟨g, O + k * 5 + 3, none⟩ = some (.int .i64 x.price) ∧ w'.cell? ⟨g, O + k * 5 + 4, none⟩ = some (.int .i64 x.stock)) (ds := []) #[false, false, false, false, false, false, false, false, false, false, false, false, false, false, false, false, false, false] (by kernel_rfl) rfl rfl ⟨f0, f1, f2, f3, f4⟩ (fun hHeld => ?_)
        refine pure_ (i := 0) (N := some 10) (v := ?_) (a' := ?_) #[true, false, false, false, false, false, false, false, false, false, false, false, false, false, false, false, false, false] rfl rfl (by kernel_rfl) (fun _ _ _ h => h) (Or.inl ⟨by rfl, ?_⟩) ?_ ?_
        rotate_left
        · intro w'
          go_simp
          with_reducible rfl
        rotate_left
        · simp only [Act.put, List.setIfInBounds_toArray, List.set_cons_zero, List.set_cons_succ, i64_w, i32_w]
          rfl
        refine pure_ (i := 1) (N := some 11) (v := ?_) (a' := ?_) #[true, true, false, false, false, false, false, false, false, false, false, false, false, false, false, false, false, false] rfl rfl (by kernel_rfl) (fun _ _ _ h => h) (Or.inl ⟨by rfl, ?_⟩) ?_ ?_
        rotate_left
        · intro w'
          go_simp
          with_reducible rfl
        rotate_left
        · simp only [Act.put, List.setIfInBounds_toArray, List.set_cons_zero, List.set_cons_succ, i64_w, i32_w]
          rfl
        refine pure_ (i := 2) (N := some 12) (v := ?_) (a' := ?_) #[true, true, true, false, false, false, false, false, false, false, false, false, false, false, false, false, false, false] rfl rfl (by kernel_rfl) (fun _ _ _ h => h) (Or.inl ⟨by rfl, ?_⟩) ?_ ?_
        rotate_left
        · intro w'
          go_simp
          with_reducible rfl
        rotate_left
        · simp only [Act.put, List.setIfInBounds_toArray, List.set_cons_zero, List.set_cons_succ, i64_w, i32_w]
          rfl
        refine take_ (i := 3) (N := some 13) (v := ?_) (a' := ?_) #[true, true, true, true, false, false, false, false, false, false, false, false, false, false, false, false, false, false] rfl rfl (by kernel_rfl) (fun _ _ _ h => h) (Or.inl ⟨by rfl, ?_⟩) hHeld ?_ ?_
        rotate_left
        · rintro w' ⟨s0, s1, s2, s3, s4⟩
          go_simp
          with_reducible rfl
        rotate_left
        · simp only [Act.put, List.setIfInBounds_toArray, List.set_cons_zero, List.set_cons_succ, i64_w, i32_w]
          rfl
        refine one_ (i := 4) (N := some 14) #[true, true, true, true, true, false, false, false, false, false, false, false, false, false, false, false, false, false] rfl rfl (by kernel_rfl) (by decide) (fun K hK => ?_)
        refine goes_ Tryd.func32 (by kernel_rfl) rfl #[.agg #[.string x.name, .string x.maker, .string x.tags, .int .i64 x.price, .int .i64 x.stock]] (by rfl) rfl rfl (by simp only [List.map_toArray, List.map_cons, List.map_nil]; rfl) ?_
        with_reducible refine (HMAY.out _).mono ?_
        rintro r y ⟨rfl, hy⟩
        refine ⟨_, rfl, ?_⟩
        rw [hmay]
        have HY : Hid (Below wr.heap.size wr y) := (Below.refl _ wr).drew.trans (hy.mono (Nat.le_refl _))
        clear hy
        obtain ⟨g0, g1, g2, g3, g4⟩ := HCL.out y HY.out
        refine hK.out _ _ ⟨g0, g1, g2, g3, g4⟩ (fun hHeld => ?_)
        clear hK K
        refine norm_ (a' := ?_) ?_ ?_
        rotate_left
        · show Act.put _ (some 14) _ = _
          simp only [Act.put, List.setIfInBounds_toArray, List.set_cons_zero, List.set_cons_succ, i64_w, i32_w]
          rfl
        refine pure_ (i := 5) (N := some 15) (v := ?_) (a' := ?_) #[true, true, true, true, true, true, false, false, false, false, false, false, false, false, false, false, false, false] rfl rfl (by kernel_rfl) (fun _ _ _ h => h) (Or.inl ⟨by rfl, ?_⟩) ?_ ?_
        rotate_left
        · intro w'
          go_simp
          with_reducible rfl
        rotate_left
        · simp only [Act.put, List.setIfInBounds_toArray, List.set_cons_zero, List.set_cons_succ, i64_w, i32_w]
          rfl
        refine pure_ (i := 6) (N := some 16) (v := ?_) (a' := ?_) #[true, true, true, true, true, true, true, false, false, false, false, false, false, false, false, false, false, false] rfl rfl (by kernel_rfl) (fun _ _ _ h => h) (Or.inl ⟨by rfl, ?_⟩) ?_ ?_
        rotate_left
        · intro w'
          go_simp
          with_reducible rfl
        rotate_left
        · simp only [Act.put, List.setIfInBounds_toArray, List.set_cons_zero, List.set_cons_succ, i64_w, i32_w]
          rfl
        refine pure_ (i := 7) (N := some 17) (v := undef) (a' := ?_) #[true, true, true, true, true, true, true, true, false, false, false, false, false, false, false, false, false, false] rfl rfl (by kernel_rfl) (fun _ _ _ h => h) (Or.inr ⟨by rfl, rfl⟩) ?_ ?_
        rotate_left
        · simp only [Act.put, List.setIfInBounds_toArray, List.set_cons_zero, List.set_cons_succ, i64_w, i32_w]
          rfl
        refine pure_ (i := 8) (N := some 18) (v := undef) (a' := ?_) #[true, true, true, true, true, true, true, true, true, false, false, false, false, false, false, false, false, false] rfl rfl (by kernel_rfl) (fun _ _ _ h => h) (Or.inr ⟨by rfl, rfl⟩) ?_ ?_
        rotate_left
        · simp only [Act.put, List.setIfInBounds_toArray, List.set_cons_zero, List.set_cons_succ, i64_w, i32_w]
          rfl
        refine pure_ (i := 9) (N := some 19) (v := undef) (a' := ?_) #[true, true, true, true, true, true, true, true, true, true, false, false, false, false, false, false, false, false] rfl rfl (by kernel_rfl) (fun _ _ _ h => h) (Or.inr ⟨by rfl, rfl⟩) ?_ ?_
        rotate_left
        · simp only [Act.put, List.setIfInBounds_toArray, List.set_cons_zero, List.set_cons_succ, i64_w, i32_w]
          rfl
        refine pure_ (i := 10) (N := some 20) (v := undef) (a' := ?_) #[true, true, true, true, true, true, true, true, true, true, true, false, false, false, false, false, false, false] rfl rfl (by kernel_rfl) (fun _ _ _ h => h) (Or.inr ⟨by rfl, rfl⟩) ?_ ?_
        rotate_left
        · simp only [Act.put, List.setIfInBounds_toArray, List.set_cons_zero, List.set_cons_succ, i64_w, i32_w]
          rfl
        refine pure_ (i := 11) (N := some 21) (v := undef) (a' := ?_) #[true, true, true, true, true, true, true, true, true, true, true, true, false, false, false, false, false, false] rfl rfl (by kernel_rfl) (fun _ _ _ h => h) (Or.inr ⟨by rfl, rfl⟩) ?_ ?_
        rotate_left
        · simp only [Act.put, List.setIfInBounds_toArray, List.set_cons_zero, List.set_cons_succ, i64_w, i32_w]
          rfl
        refine pure_ (i := 12) (N := some 22) (v := undef) (a' := ?_) #[true, true, true, true, true, true, true, true, true, true, true, true, true, false, false, false, false, false] rfl rfl (by kernel_rfl) (fun _ _ _ h => h) (Or.inr ⟨by rfl, rfl⟩) ?_ ?_
        rotate_left
        · simp only [Act.put, List.setIfInBounds_toArray, List.set_cons_zero, List.set_cons_succ, i64_w, i32_w]
          rfl
        refine pure_ (i := 13) (N := some 23) (v := undef) (a' := ?_) #[true, true, true, true, true, true, true, true, true, true, true, true, true, true, false, false, false, false] rfl rfl (by kernel_rfl) (fun _ _ _ h => h) (Or.inr ⟨by rfl, rfl⟩) ?_ ?_
        rotate_left
        · simp only [Act.put, List.setIfInBounds_toArray, List.set_cons_zero, List.set_cons_succ, i64_w, i32_w]
          rfl
        refine pure_ (i := 14) (N := some 24) (v := undef) (a' := ?_) #[true, true, true, true, true, true, true, true, true, true, true, true, true, true, true, false, false, false] rfl rfl (by kernel_rfl) (fun _ _ _ h => h) (Or.inr ⟨by rfl, rfl⟩) ?_ ?_
        rotate_left
        · simp only [Act.put, List.setIfInBounds_toArray, List.set_cons_zero, List.set_cons_succ, i64_w, i32_w]
          rfl
        refine pure_ (i := 15) (N := some 25) (v := undef) (a' := ?_) #[true, true, true, true, true, true, true, true, true, true, true, true, true, true, true, true, false, false] rfl rfl (by kernel_rfl) (fun _ _ _ h => h) (Or.inr ⟨by rfl, rfl⟩) ?_ ?_
        rotate_left
        · simp only [Act.put, List.setIfInBounds_toArray, List.set_cons_zero, List.set_cons_succ, i64_w, i32_w]
          rfl
        refine pure_ (i := 16) (N := some 26) (v := undef) (a' := ?_) #[true, true, true, true, true, true, true, true, true, true, true, true, true, true, true, true, true, false] rfl rfl (by kernel_rfl) (fun _ _ _ h => h) (Or.inr ⟨by rfl, rfl⟩) ?_ ?_
        rotate_left
        · simp only [Act.put, List.setIfInBounds_toArray, List.set_cons_zero, List.set_cons_succ, i64_w, i32_w]
          rfl
        refine pure_ (i := 17) (N := some 27) (v := ?_) (a' := ?_) #[true, true, true, true, true, true, true, true, true, true, true, true, true, true, true, true, true, true] rfl rfl (by kernel_rfl) (fun _ _ _ h => h) (Or.inl ⟨by rfl, ?_⟩) ?_ ?_
        rotate_left
        · intro w'
          go_simp
          with_reducible rfl
        rotate_left
        · simp only [Act.put, List.setIfInBounds_toArray, List.set_cons_zero, List.set_cons_succ, i64_w, i32_w]
          rfl
        refine done_ (by kernel_rfl) ?_
        go_wp2_with fail
        go_ret
        exact ⟨by rw [HR.out]; rfl, HBR.out.trans (HY.out.mono HBR.out.size)⟩
      | true =>
        cases hfd : decide (0 ≤ fv) with
        | true =>
          have HR : Hid (allR l = false) := by unfold Hid allR; rw [HSTEP.out, hmay, hfd]; rfl
          go_wp2_with fail
          refine start_ (n := 18) (S := fun w' => w'.cell? ⟨g, O + k * 5, none⟩ = some (.string x.name) ∧ w'.cell? ⟨g, O + k * 5 + 1, none⟩ = some (.string x.maker) ∧ w'.cell? ⟨g, O + k * 5 + 2, none⟩ = some (.string x.tags) ∧ w'.cell? ⟨g, O + k * 5 + 3, none⟩ = some (.int .i64 x.price) ∧ w'.cell? ⟨g, O + k * 5 + 4, none⟩ = some (.int .i64 x.stock)) (ds := []) #[false, false, false, false, false, false, false, false, false, false, false, false, false, false, false, false, false, false] (by kernel_rfl) rfl rfl ⟨f0, f1, f2, f3, f4⟩ (fun hHeld => ?_)
          refine pure_ (i := 0) (N := some 10) (v := ?_) (a' := ?_) #[true, false, false, false, false, false, false, false, false, false, false, false, false, false, false, false, false, false] rfl rfl (by kernel_rfl) (fun _ _ _ h => h) (Or.inl ⟨by rfl, ?_⟩) ?_ ?_
          rotate_left
          · intro w'
            go_simp
            with_reducible rfl
          rotate_left
          · simp only [Act.put, List.setIfInBounds_toArray, List.set_cons_zero, List.set_cons_succ, i64_w, i32_w]
            rfl
          refine pure_ (i := 1) (N := some 11) (v := ?_) (a' := ?_) #[true, true, false, false, false, false, false, false, false, false, false, false, false, false, false, false, false, false] rfl rfl (by kernel_rfl) (fun _ _ _ h => h) (Or.inl ⟨by rfl, ?_⟩) ?_ ?_
          rotate_left
          · intro w'
            go_simp
            with_reducible rfl
          rotate_left
          · simp only [Act.put, List.setIfInBounds_toArray, List.set_cons_zero, List.set_cons_succ, i64_w, i32_w]
            rfl
          refine pure_ (i := 2) (N := some 12) (v := ?_) (a' := ?_) #[true, true, true, false, false, false, false, false, false, false, false, false, false, false, false, false, false, false] rfl rfl (by kernel_rfl) (fun _ _ _ h => h) (Or.inl ⟨by rfl, ?_⟩) ?_ ?_
          rotate_left
          · intro w'
            go_simp
            with_reducible rfl
          rotate_left
          · simp only [Act.put, List.setIfInBounds_toArray, List.set_cons_zero, List.set_cons_succ, i64_w, i32_w]
            rfl
          refine take_ (i := 3) (N := some 13) (v := ?_) (a' := ?_) #[true, true, true, true, false, false, false, false, false, false, false, false, false, false, false, false, false, false] rfl rfl (by kernel_rfl) (fun _ _ _ h => h) (Or.inl ⟨by rfl, ?_⟩) hHeld ?_ ?_
          rotate_left
          · rintro w' ⟨s0, s1, s2, s3, s4⟩
            go_simp
            with_reducible rfl
          rotate_left
          · simp only [Act.put, List.setIfInBounds_toArray, List.set_cons_zero, List.set_cons_succ, i64_w, i32_w]
            rfl
          refine one_ (i := 4) (N := some 14) #[true, true, true, true, true, false, false, false, false, false, false, false, false, false, false, false, false, false] rfl rfl (by kernel_rfl) (by decide) (fun K hK => ?_)
          refine goes_ Tryd.func32 (by kernel_rfl) rfl #[.agg #[.string x.name, .string x.maker, .string x.tags, .int .i64 x.price, .int .i64 x.stock]] (by rfl) rfl rfl (by simp only [List.map_toArray, List.map_cons, List.map_nil]; rfl) ?_
          with_reducible refine (HMAY.out _).mono ?_
          rintro r y ⟨rfl, hy⟩
          refine ⟨_, rfl, ?_⟩
          rw [hmay]
          have HY : Hid (Below wr.heap.size wr y) := (Below.refl _ wr).drew.trans (hy.mono (Nat.le_refl _))
          clear hy
          obtain ⟨g0, g1, g2, g3, g4⟩ := HCL.out y HY.out
          refine hK.out _ _ ⟨g0, g1, g2, g3, g4⟩ (fun hHeld => ?_)
          clear hK K
          refine norm_ (a' := ?_) ?_ ?_
          rotate_left
          · show Act.put _ (some 14) _ = _
            simp only [Act.put, List.setIfInBounds_toArray, List.set_cons_zero, List.set_cons_succ, i64_w, i32_w]
            rfl
          refine pure_ (i := 5) (N := some 15) (v := ?_) (a' := ?_) #[true, true, true, true, true, true, false, false, false, false, false, false, false, false, false, false, false, false] rfl rfl (by kernel_rfl) (fun _ _ _ h => h) (Or.inl ⟨by rfl, ?_⟩) ?_ ?_
          rotate_left
          · intro w'
            go_simp
            with_reducible rfl
          rotate_left
          · simp only [Act.put, List.setIfInBounds_toArray, List.set_cons_zero, List.set_cons_succ, i64_w, i32_w]
            rfl
          refine pure_ (i := 6) (N := some 16) (v := ?_) (a' := ?_) #[true, true, true, true, true, true, true, false, false, false, false, false, false, false, false, false, false, false] rfl rfl (by kernel_rfl) (fun _ _ _ h => h) (Or.inl ⟨by rfl, ?_⟩) ?_ ?_
          rotate_left
          · intro w'
            go_simp
            with_reducible rfl
          rotate_left
          · simp only [Act.put, List.setIfInBounds_toArray, List.set_cons_zero, List.set_cons_succ, i64_w, i32_w]
            rfl
          refine pure_ (i := 7) (N := some 17) (v := ?_) (a' := ?_) #[true, true, true, true, true, true, true, true, false, false, false, false, false, false, false, false, false, false] rfl rfl (by kernel_rfl) (fun _ _ _ h => h) (Or.inl ⟨by rfl, ?_⟩) ?_ ?_
          rotate_left
          · intro w'
            go_simp
            with_reducible rfl
          rotate_left
          · simp only [Act.put, List.setIfInBounds_toArray, List.set_cons_zero, List.set_cons_succ, i64_w, i32_w]
            rfl
          refine pure_ (i := 8) (N := some 18) (v := ?_) (a' := ?_) #[true, true, true, true, true, true, true, true, true, false, false, false, false, false, false, false, false, false] rfl rfl (by kernel_rfl) (fun _ _ _ h => h) (Or.inl ⟨by rfl, ?_⟩) ?_ ?_
          rotate_left
          · intro w'
            go_simp
            with_reducible rfl
          rotate_left
          · simp only [Act.put, List.setIfInBounds_toArray, List.set_cons_zero, List.set_cons_succ, i64_w, i32_w]
            rfl
          refine pure_ (i := 9) (N := some 19) (v := ?_) (a' := ?_) #[true, true, true, true, true, true, true, true, true, true, false, false, false, false, false, false, false, false] rfl rfl (by kernel_rfl) (fun _ _ _ h => h) (Or.inl ⟨by rfl, ?_⟩) ?_ ?_
          rotate_left
          · intro w'
            go_simp
            with_reducible rfl
          rotate_left
          · simp only [Act.put, List.setIfInBounds_toArray, List.set_cons_zero, List.set_cons_succ, i64_w, i32_w]
            rfl
          refine pure_ (i := 10) (N := some 20) (v := ?_) (a' := ?_) #[true, true, true, true, true, true, true, true, true, true, true, false, false, false, false, false, false, false] rfl rfl (by kernel_rfl) (fun _ _ _ h => h) (Or.inl ⟨by rfl, ?_⟩) ?_ ?_
          rotate_left
          · intro w'
            go_simp
            with_reducible rfl
          rotate_left
          · simp only [Act.put, List.setIfInBounds_toArray, List.set_cons_zero, List.set_cons_succ, i64_w, i32_w]
            rfl
          refine pure_ (i := 11) (N := some 21) (v := ?_) (a' := ?_) #[true, true, true, true, true, true, true, true, true, true, true, true, false, false, false, false, false, false] rfl rfl (by kernel_rfl) (fun _ _ _ h => h) (Or.inl ⟨by rfl, ?_⟩) ?_ ?_
          rotate_left
          · intro w'
            go_simp
            with_reducible rfl
          rotate_left
          · simp only [Act.put, List.setIfInBounds_toArray, List.set_cons_zero, List.set_cons_succ, i64_w, i32_w]
            rfl
          refine pure_ (i := 12) (N := some 22) (v := ?_) (a' := ?_) #[true, true, true, true, true, true, true, true, true, true, true, true, true, false, false, false, false, false] rfl rfl (by kernel_rfl) (fun _ _ _ h => h) (Or.inl ⟨by rfl, ?_⟩) ?_ ?_
          rotate_left
          · intro w'
            go_simp
            with_reducible rfl
          rotate_left
          · simp only [Act.put, List.setIfInBounds_toArray, List.set_cons_zero, List.set_cons_succ, i64_w, i32_w]
            rfl
          refine pure_ (i := 13) (N := some 23) (v := ?_) (a' := ?_) #[true, true, true, true, true, true, true, true, true, true, true, true, true, true, false, false, false, false] rfl rfl (by kernel_rfl) (fun _ _ _ h => h) (Or.inl ⟨by rfl, ?_⟩) ?_ ?_
          rotate_left
          · intro w'
            go_simp
            with_reducible rfl
          rotate_left
          · simp only [Act.put, List.setIfInBounds_toArray, List.set_cons_zero, List.set_cons_succ, i64_w, i32_w]
            rfl
          refine take_ (i := 14) (N := some 24) (v := ?_) (a' := ?_) #[true, true, true, true, true, true, true, true, true, true, true, true, true, true, true, false, false, false] rfl rfl (by kernel_rfl) (fun _ _ _ h => h) (Or.inl ⟨by rfl, ?_⟩) hHeld ?_ ?_
          rotate_left
          · rintro w' ⟨s0, s1, s2, s3, s4⟩
            go_simp
            with_reducible rfl
          rotate_left
          · simp only [Act.put, List.setIfInBounds_toArray, List.set_cons_zero, List.set_cons_succ, i64_w, i32_w]
            rfl
          refine one_ (i := 15) (N := some 25) #[true, true, true, true, true, true, true, true, true, true, true, true, true, true, true, true, false, false] rfl rfl (by kernel_rfl) (by decide) (fun K hK => ?_)
          refine goes_ Tryd.func31 (by kernel_rfl) rfl #[.slice (some ⟨g, O, none⟩) k cap, .string x.name] (by rfl) rfl rfl (by simp only [List.map_toArray, List.map_cons, List.map_nil]; rfl) ?_
          with_reducible refine (HFIND.out _ HY.out).mono ?_
          rintro r y2 ⟨rfl, n2, rfl⟩
          refine ⟨_, rfl, ?_⟩
          refine hK.out _ _ ⟨g0, g1, g2, g3, g4⟩ (fun hHeld => ?_)
          clear hK K
          refine norm_ (a' := ?_) ?_ ?_
          rotate_left
          · show Act.put _ (some 25) _ = _
            simp only [Act.put, List.setIfInBounds_toArray, List.set_cons_zero, List.set_cons_succ, i64_w, i32_w]
            rfl
          refine pure_ (i := 16) (N := some 26) (v := ?_) (a' := ?_) #[true, true, true, true, true, true, true, true, true, true, true, true, true, true, true, true, true, false] rfl rfl (by kernel_rfl) (fun _ _ _ h => h) (Or.inl ⟨by rfl, ?_⟩) ?_ ?_
          rotate_left
          · intro w'
            go_simp
            with_reducible rfl
          rotate_left
          · simp only [Act.put, List.setIfInBounds_toArray, List.set_cons_zero, List.set_cons_succ, i64_w, i32_w]
            rfl
          refine pure_ (i := 17) (N := some 27) (v := ?_) (a' := ?_) #[true, true, true, true, true, true, true, true, true, true, true, true, true, true, true, true, true, true] rfl rfl (by kernel_rfl) (fun _ _ _ h => h) (Or.inl ⟨by rfl, ?_⟩) ?_ ?_
          rotate_left
          · intro w'
            go_simp
            with_reducible rfl
          rotate_left
          · simp only [Act.put, List.setIfInBounds_toArray, List.set_cons_zero, List.set_cons_succ, i64_w, i32_w]
            rfl
          refine done_ (by kernel_rfl) ?_
          go_wp2_with fail
          go_ret
          exact ⟨by rw [HR.out]; rfl, below_dr (HBR.out.trans (HY.out.mono HBR.out.size)) _⟩
        | false =>
          have HN : Hid (allFrom [] l = allFrom (l.take (k + 1)) (l.drop (k + 1))) := by rw [Hid, HSTEP.out, hmay, hfd]; simp
          go_wp2_with fail
          refine start_ (n := 18) (S := fun w' => w'.cell? ⟨g, O + k * 5, none⟩ = some (.string x.name) ∧ w'.cell? ⟨g, O + k * 5 + 1, none⟩ = some (.string x.maker) ∧ w'.cell? ⟨g, O + k * 5 + 2, none⟩ = some (.string x.tags) ∧ w'.cell? ⟨g, O + k * 5 + 3, none⟩ = some (.int .i64 x.price) ∧ w'.cell? ⟨g, O + k * 5 + 4, none⟩ = some (.int .i64 x.stock)) (ds := []) #[false, false, false, false, false, false, false, false, false, false, false, false, false, false, false, false, false, false] (by kernel_rfl) rfl rfl ⟨f0, f1, f2, f3, f4⟩ (fun hHeld => ?_)
          refine pure_ (i := 0) (N := some 10) (v := ?_) (a' := ?_) #[true, false, false, false, false, false, false, false, false, false, false, false, false, false, false, false, false, false] rfl rfl (by kernel_rfl) (fun _ _ _ h => h) (Or.inl ⟨by rfl, ?_⟩) ?_ ?_
          rotate_left
          · intro w'
            go_simp
            with_reducible rfl
          rotate_left
          · simp only [Act.put, List.setIfInBounds_toArray, List.set_cons_zero, List.set_cons_succ, i64_w, i32_w]
            rfl
          refine pure_ (i := 1) (N := some 11) (v := ?_) (a' := ?_) #[true, true, false, false, false, false, false, false, false, false, false, false, false, false, false, false, false, false] rfl rfl (by kernel_rfl) (fun _ _ _ h => h) (Or.inl ⟨by rfl, ?_⟩) ?_ ?_
          rotate_left
          · intro w'
            go_simp
            with_reducible rfl
          rotate_left
          · simp only [Act.put, List.setIfInBounds_toArray, List.set_cons_zero, List.set_cons_succ, i64_w, i32_w]
            rfl
          refine pure_ (i := 2) (N := some 12) (v := ?_) (a' := ?_) #[true, true, true, false, false, false, false, false, false, false, false, false, false, false, false, false, false, false] rfl rfl (by kernel_rfl) (fun _ _ _ h => h) (Or.inl ⟨by rfl, ?_⟩) ?_ ?_
          rotate_left
          · intro w'
            go_simp
            with_reducible rfl
          rotate_left
          · simp only [Act.put, List.setIfInBounds_toArray, List.set_cons_zero, List.set_cons_succ, i64_w, i32_w]
            rfl
          refine take_ (i := 3) (N := some 13) (v := ?_) (a' := ?_) #[true, true, true, true, false, false, false, false, false, false, false, false, false, false, false, false, false, false] rfl rfl (by kernel_rfl) (fun _ _ _ h => h) (Or.inl ⟨by rfl, ?_⟩) hHeld ?_ ?_
          rotate_left
          · rintro w' ⟨s0, s1, s2, s3, s4⟩
            go_simp
            with_reducible rfl
          rotate_left
          · simp only [Act.put, List.setIfInBounds_toArray, List.set_cons_zero, List.set_cons_succ, i64_w, i32_w]
            rfl
          refine one_ (i := 4) (N := some 14) #[true, true, true, true, true, false, false, false, false, false, false, false, false, false, false, false, false, false] rfl rfl (by kernel_rfl) (by decide) (fun K hK => ?_)
          refine goes_ Tryd.func32 (by kernel_rfl) rfl #[.agg #[.string x.name, .string x.maker, .string x.tags, .int .i64 x.price, .int .i64 x.stock]] (by rfl) rfl rfl (by simp only [List.map_toArray, List.map_cons, List.map_nil]; rfl) ?_
          with_reducible refine (HMAY.out _).mono ?_
          rintro r y ⟨rfl, hy⟩
          refine ⟨_, rfl, ?_⟩
          rw [hmay]
          have HY : Hid (Below wr.heap.size wr y) := (Below.refl _ wr).drew.trans (hy.mono (Nat.le_refl _))
          clear hy
          obtain ⟨g0, g1, g2, g3, g4⟩ := HCL.out y HY.out
          refine hK.out _ _ ⟨g0, g1, g2, g3, g4⟩ (fun hHeld => ?_)
          clear hK K
          refine norm_ (a' := ?_) ?_ ?_
          rotate_left
          · show Act.put _ (some 14) _ = _
            simp only [Act.put, List.setIfInBounds_toArray, List.set_cons_zero, List.set_cons_succ, i64_w, i32_w]
            rfl
          refine pure_ (i := 5) (N := some 15) (v := ?_) (a' := ?_) #[true, true, true, true, true, true, false, false, false, false, false, false, false, false, false, false, false, false] rfl rfl (by kernel_rfl) (fun _ _ _ h => h) (Or.inl ⟨by rfl, ?_⟩) ?_ ?_
          rotate_left
          · intro w'
            go_simp
            with_reducible rfl
          rotate_left
          · simp only [Act.put, List.setIfInBounds_toArray, List.set_cons_zero, List.set_cons_succ, i64_w, i32_w]
            rfl
          refine pure_ (i := 6) (N := some 16) (v := ?_) (a' := ?_) #[true, true, true, true, true, true, true, false, false, false, false, false, false, false, false, false, false, false] rfl rfl (by kernel_rfl) (fun _ _ _ h => h) (Or.inl ⟨by rfl, ?_⟩) ?_ ?_
          rotate_left
          · intro w'
            go_simp
            with_reducible rfl
          rotate_left
          · simp only [Act.put, List.setIfInBounds_toArray, List.set_cons_zero, List.set_cons_succ, i64_w, i32_w]
            rfl
          refine pure_ (i := 7) (N := some 17) (v := ?_) (a' := ?_) #[true, true, true, true, true, true, true, true, false, false, false, false, false, false, false, false, false, false] rfl rfl (by kernel_rfl) (fun _ _ _ h => h) (Or.inl ⟨by rfl, ?_⟩) ?_ ?_
          rotate_left
          · intro w'
            go_simp
            with_reducible rfl
          rotate_left
          · simp only [Act.put, List.setIfInBounds_toArray, List.set_cons_zero, List.set_cons_succ, i64_w, i32_w]
            rfl
          refine pure_ (i := 8) (N := some 18) (v := ?_) (a' := ?_) #[true, true, true, true, true, true, true, true, true, false, false, false, false, false, false, false, false, false] rfl rfl (by kernel_rfl) (fun _ _ _ h => h) (Or.inl ⟨by rfl, ?_⟩) ?_ ?_
          rotate_left
          · intro w'
            go_simp
            with_reducible rfl
          rotate_left
          · simp only [Act.put, List.setIfInBounds_toArray, List.set_cons_zero, List.set_cons_succ, i64_w, i32_w]
            rfl
          refine pure_ (i := 9) (N := some 19) (v := ?_) (a' := ?_) #[true, true, true, true, true, true, true, true, true, true, false, false, false, false, false, false, false, false] rfl rfl (by kernel_rfl) (fun _ _ _ h => h) (Or.inl ⟨by rfl, ?_⟩) ?_ ?_
          rotate_left
          · intro w'
            go_simp
            with_reducible rfl
          rotate_left
          · simp only [Act.put, List.setIfInBounds_toArray, List.set_cons_zero, List.set_cons_succ, i64_w, i32_w]
            rfl
          refine pure_ (i := 10) (N := some 20) (v := ?_) (a' := ?_) #[true, true, true, true, true, true, true, true, true, true, true, false, false, false, false, false, false, false] rfl rfl (by kernel_rfl) (fun _ _ _ h => h) (Or.inl ⟨by rfl, ?_⟩) ?_ ?_
          rotate_left
          · intro w'
            go_simp
            with_reducible rfl
          rotate_left
          · simp only [Act.put, List.setIfInBounds_toArray, List.set_cons_zero, List.set_cons_succ, i64_w, i32_w]
            rfl
          refine pure_ (i := 11) (N := some 21) (v := ?_) (a' := ?_) #[true, true, true, true, true, true, true, true, true, true, true, true, false, false, false, false, false, false] rfl rfl (by kernel_rfl) (fun _ _ _ h => h) (Or.inl ⟨by rfl, ?_⟩) ?_ ?_
          rotate_left
          · intro w'
            go_simp
            with_reducible rfl
          rotate_left
          · simp only [Act.put, List.setIfInBounds_toArray, List.set_cons_zero, List.set_cons_succ, i64_w, i32_w]
            rfl
          refine pure_ (i := 12) (N := some 22) (v := ?_) (a' := ?_) #[true, true, true, true, true, true, true, true, true, true, true, true, true, false, false, false, false, false] rfl rfl (by kernel_rfl) (fun _ _ _ h => h) (Or.inl ⟨by rfl, ?_⟩) ?_ ?_
          rotate_left
          · intro w'
            go_simp
            with_reducible rfl
          rotate_left
          · simp only [Act.put, List.setIfInBounds_toArray, List.set_cons_zero, List.set_cons_succ, i64_w, i32_w]
            rfl
          refine pure_ (i := 13) (N := some 23) (v := ?_) (a' := ?_) #[true, true, true, true, true, true, true, true, true, true, true, true, true, true, false, false, false, false] rfl rfl (by kernel_rfl) (fun _ _ _ h => h) (Or.inl ⟨by rfl, ?_⟩) ?_ ?_
          rotate_left
          · intro w'
            go_simp
            with_reducible rfl
          rotate_left
          · simp only [Act.put, List.setIfInBounds_toArray, List.set_cons_zero, List.set_cons_succ, i64_w, i32_w]
            rfl
          refine take_ (i := 14) (N := some 24) (v := ?_) (a' := ?_) #[true, true, true, true, true, true, true, true, true, true, true, true, true, true, true, false, false, false] rfl rfl (by kernel_rfl) (fun _ _ _ h => h) (Or.inl ⟨by rfl, ?_⟩) hHeld ?_ ?_
          rotate_left
          · rintro w' ⟨s0, s1, s2, s3, s4⟩
            go_simp
            with_reducible rfl
          rotate_left
          · simp only [Act.put, List.setIfInBounds_toArray, List.set_cons_zero, List.set_cons_succ, i64_w, i32_w]
            rfl
          refine one_ (i := 15) (N := some 25) #[true, true, true, true, true, true, true, true, true, true, true, true, true, true, true, true, false, false] rfl rfl (by kernel_rfl) (by decide) (fun K hK => ?_)
          refine goes_ Tryd.func31 (by kernel_rfl) rfl #[.slice (some ⟨g, O, none⟩) k cap, .string x.name] (by rfl) rfl rfl (by simp only [List.map_toArray, List.map_cons, List.map_nil]; rfl) ?_
          with_reducible refine (HFIND.out _ HY.out).mono ?_
          rintro r y2 ⟨rfl, n2, rfl⟩
          refine ⟨_, rfl, ?_⟩
          refine hK.out _ _ ⟨g0, g1, g2, g3, g4⟩ (fun hHeld => ?_)
          clear hK K
          refine norm_ (a' := ?_) ?_ ?_
          rotate_left
          · show Act.put _ (some 25) _ = _
            simp only [Act.put, List.setIfInBounds_toArray, List.set_cons_zero, List.set_cons_succ, i64_w, i32_w]
            rfl
          refine pure_ (i := 16) (N := some 26) (v := ?_) (a' := ?_) #[true, true, true, true, true, true, true, true, true, true, true, true, true, true, true, true, true, false] rfl rfl (by kernel_rfl) (fun _ _ _ h => h) (Or.inl ⟨by rfl, ?_⟩) ?_ ?_
          rotate_left
          · intro w'
            go_simp
            with_reducible rfl
          rotate_left
          · simp only [Act.put, List.setIfInBounds_toArray, List.set_cons_zero, List.set_cons_succ, i64_w, i32_w]
            rfl
          refine pure_ (i := 17) (N := some 27) (v := ?_) (a' := ?_) #[true, true, true, true, true, true, true, true, true, true, true, true, true, true, true, true, true, true] rfl rfl (by kernel_rfl) (fun _ _ _ h => h) (Or.inl ⟨by rfl, ?_⟩) ?_ ?_
          rotate_left
          · intro w'
            go_simp
            with_reducible rfl
          rotate_left
          · simp only [Act.put, List.setIfInBounds_toArray, List.set_cons_zero, List.set_cons_succ, i64_w, i32_w]
            rfl
          refine done_ (by kernel_rfl) ?_
          go_wp2_with fail
          go_roundw
          case rel => exact ⟨k + 1, by omega, by first | rfl | simp, below_dr (HBR.out.trans (HY.out.mono HBR.out.size)) _, HN.out⟩
          case measure => simp [intOf]; omega
    · have hke : k = l.length := by omega
      have HR : Hid (allR l = decide ((l.length : Int) ≤ 4096)) := by
        unfold Hid allR
        rw [HALL.out, List.drop_of_length_le (by omega)]
        simp only [allFrom, Bool.true_and]
        rw [Bool.eq_iff_iff, decide_eq_true_eq, decide_eq_true_eq]; omega
      clear hke
      go_wp2_with fail
      go_ret
      exact ⟨by rw [HR.out]; rfl, HBR.out⟩
end Go.Proofs.YtgpadcokcdpmnaaDoor.Fd
end
