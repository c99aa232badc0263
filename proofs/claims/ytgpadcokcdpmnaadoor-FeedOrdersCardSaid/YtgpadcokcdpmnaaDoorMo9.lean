import Derived.Test.YtgpadcokcdpmnaaDoorMo3
import Derived.Test.YtgpadcokcdpmnaaDoorMo7
import Derived.Test.YtgpadcokcdpmnaaDoorMo8
set_option linter.unusedVariables false
set_option linter.unusedSimpArgs false
section
namespace Go.Proofs.YtgpadcokcdpmnaaDoor.PFeedDiffs
open Go.RowKit Go.Proofs.YtgpadcokcdpmnaaDoorW.PrintWords Go.Proofs.YtgpadcokcdpmnaaDoorW.PrintLast Go.Proofs.YtgpadcokcdpmnaaDoorW.PrintMore
attribute [local go_sem] max2_int min2_int max_two min_two max_three min_three max_four min_four
set_option linter.unusedVariables false
set_option linter.unusedSimpArgs false
attribute [local go_sem high] eqA37
mutual
def ciceroneref02_Name.j0 : Nat → ByteArray → Bool → Option (Bool)
  | 0, _, _ => none
  | k + 1, x0, x12 => if x12 = true then (some false) else (ciceroneref02_Name.l0 k x0 0)
def ciceroneref02_Name.l0 : Nat → ByteArray → Int → Option (Bool)
  | 0, _, _ => none
  | k + 1, x0, x3 => if x3 < (x0.size : Int) then (if 0 ≤ x3 then (if (bt x0 x3) ≥ 97 then (if (bt x0 x3) ≤ 122 then (ciceroneref02_Name.l0 k x0 (wrap64 (x3 + 1))) else (if (bt x0 x3) ≥ 48 then (if (bt x0 x3) ≤ 57 then (ciceroneref02_Name.l0 k x0 (wrap64 (x3 + 1))) else (if ((bt x0 x3) = 45) then (ciceroneref02_Name.l0 k x0 (wrap64 (x3 + 1))) else (some false))) else (if ((bt x0 x3) = 45) then (ciceroneref02_Name.l0 k x0 (wrap64 (x3 + 1))) else (some false)))) else (if (bt x0 x3) ≥ 48 then (if (bt x0 x3) ≤ 57 then (ciceroneref02_Name.l0 k x0 (wrap64 (x3 + 1))) else (if ((bt x0 x3) = 45) then (ciceroneref02_Name.l0 k x0 (wrap64 (x3 + 1))) else (some false))) else (if ((bt x0 x3) = 45) then (ciceroneref02_Name.l0 k x0 (wrap64 (x3 + 1))) else (some false)))) else (none)) else (some true)
end
def ciceroneref02_Name.f (k : Nat) (a0 : ByteArray) : Option (Bool) := if (a0.size : Int) < 1 then (ciceroneref02_Name.j0 k a0 true) else (ciceroneref02_Name.j0 k a0 (decide ((a0.size : Int) > 24)))
theorem ciceroneref02_Name.mono_l : ∀ k, (∀ y0 y1, LeO (ciceroneref02_Name.j0 k y0 y1) (ciceroneref02_Name.j0 (k + 1) y0 y1)) ∧ (∀ y0 y1, LeO (ciceroneref02_Name.l0 k y0 y1) (ciceroneref02_Name.l0 (k + 1) y0 y1))
  | 0 => ⟨fun _ _ r h => by simp [ciceroneref02_Name.j0] at h, fun _ _ r h => by simp [ciceroneref02_Name.l0] at h⟩
  | k + 1 => by
    obtain ⟨ih0, ih1⟩ := ciceroneref02_Name.mono_l k
    refine ⟨?_, ?_⟩
    · intro y0 y1
      unfold ciceroneref02_Name.j0
      repeat' first
      | (with_reducible exact ih0 _ _)
      | (with_reducible exact ih1 _ _)
      | (with_reducible exact LeO.refl _)
      | (with_reducible exact LeO.none _)
      | (with_reducible refine LeO.ite ?_ ?_)
      | (with_reducible refine LeO.bind ?_ (fun _ => ?_))
      | exact ih0 _ _
      | exact ih1 _ _
      | exact LeO.none _
      | refine LeO.ite ?_ ?_
      | refine LeO.bind ?_ (fun _ => ?_)
    · intro y0 y1
      unfold ciceroneref02_Name.l0
      repeat' first
      | (with_reducible exact ih0 _ _)
      | (with_reducible exact ih1 _ _)
      | (with_reducible exact LeO.refl _)
      | (with_reducible exact LeO.none _)
      | (with_reducible refine LeO.ite ?_ ?_)
      | (with_reducible refine LeO.bind ?_ (fun _ => ?_))
      | exact ih0 _ _
      | exact ih1 _ _
      | exact LeO.none _
      | refine LeO.ite ?_ ?_
      | refine LeO.bind ?_ (fun _ => ?_)
theorem ciceroneref02_Name.mono : ∀ a0 k, LeO (ciceroneref02_Name.f k a0) (ciceroneref02_Name.f (k + 1) a0) := by
  intro a0 k
  obtain ⟨ih0, ih1⟩ := ciceroneref02_Name.mono_l k
  unfold ciceroneref02_Name.f
  repeat' first
      | (with_reducible exact ih0 _ _)
      | (with_reducible exact ih1 _ _)
      | (with_reducible exact LeO.refl _)
      | (with_reducible exact LeO.none _)
      | (with_reducible refine LeO.ite ?_ ?_)
      | (with_reducible refine LeO.bind ?_ (fun _ => ?_))
      | exact ih0 _ _
      | exact ih1 _ _
      | exact LeO.none _
      | refine LeO.ite ?_ ?_
      | refine LeO.bind ?_ (fun _ => ?_)
set_option maxHeartbeats 8000000 in
set_option maxRecDepth 100000 in
theorem ciceroneref02_Name.calls (k : Nat) (a0 : ByteArray) (r : Bool) (w : World) (h : ciceroneref02_Name.f k a0 = some r) :
    Calls Tryd.prog 27 #[.string a0] w fun e w' => e = .returned (.bool r) ∧ Drawn0 w w' := by
  have H : (if (a0.size : Int) < 1 then (ciceroneref02_Name.j0 k a0 true) else (ciceroneref02_Name.j0 k a0 (decide ((a0.size : Int) > 24)))) = some r := h
  clear h
  have HC2 := Aside0.mk H
  clear H
  go_enter Tryd.func27, Tryd.ntmps27
  go_upto_region 1 with (fail)
  go_cut [12] (fun v12 wc => ∃ (kq : Nat) (x12_1 : Bool), v12 = .bool x12_1 ∧ Aside0 (ciceroneref02_Name.j0 kq a0 x12_1 = some r) ∧ Aside0 (kq ≤ k) ∧ Drawn0 w wc)
  case first =>
    have H := HC2.out
    clear HC2
    by_cases c3 : (a0.size : Int) < 1
    · rw [if_pos c3] at H
      have c3b0 : decide ((a0.size : Int) < 1) = true := decide_eq_true c3
      have c3b1 : decide (a0.size < 1) = true := decide_eq_true (by omega)
      clear c3
      (first | rw [c3b0] | (simp only [i64_w, i32_w]; rw [c3b0]) | skip)
      have H' := Aside0.mk H
      clear H
      go_wp2
      go_meet
      case rel => exact ⟨_, (true), (by first | rfl | (simp; done) | (simp [*]; done)), H', ⟨by first | omega | exact Nat.le_refl _⟩, by repeat (first | exact Drawn0.refl _ | apply Drawn0.step)⟩
    · rw [if_neg c3] at H
      have c3b0 : decide ((a0.size : Int) < 1) = false := decide_eq_false c3
      have c3b1 : decide (a0.size < 1) = false := decide_eq_false (by omega)
      clear c3
      (first | rw [c3b0] | (simp only [i64_w, i32_w]; rw [c3b0]) | skip)
      have H' := Aside0.mk H
      clear H
      go_wp2
      go_meet
      case rel => exact ⟨_, (decide ((a0.size : Int) > 24)), (by first | rfl | (simp; done) | (simp [*]; done)), H', ⟨by first | omega | exact Nat.le_refl _⟩, by repeat (first | exact Drawn0.refl _ | apply Drawn0.step)⟩
  case rest =>
    clear HC2
    try clear c2
    try clear p2
    try clear c3
    try clear c3b0
    try clear c3b1
    obtain ⟨kq, x12_1, rfl, HA, HJ1, ⟨mc1, rfl⟩⟩ := hcut
    cases kq with
    | zero => exact absurd HA.out (by simp [ciceroneref02_Name.j0])
    | succ kj1 =>
      have H := HA.out
      clear HA
      simp only [ciceroneref02_Name.j0] at H
      by_cases c4 : x12_1 = true
      · subst c4
        have H1 : (some false) = some r := by rw [if_pos rfl] at H; exact H
        clear H
        have H := H1
        clear H1
        obtain rfl := Option.some.inj H
        go_wp2
        go_ret
        exact ⟨by first | rfl | (simp; done) | (simp [*]; done), by repeat (first | exact Drawn0.refl _ | apply Drawn0.step)⟩
      · replace c4 := Bool.eq_false_iff.mpr c4
        subst c4
        have H1 : (ciceroneref02_Name.l0 kj1 a0 0) = some r := by rw [if_neg (show ¬ (false = true) by decide)] at H; exact H
        clear H
        have H := H1
        clear H1
        have H' := Aside0.mk H
        clear H
        go_wp2
        go_loopg [3] kj1 (fun kq v3 w' => ∃ (x3_2 : Int), v3 = .int .i64 x3_2 ∧ Aside0 (ciceroneref02_Name.l0 kq a0 x3_2 = some r) ∧ Aside0 (kq ≤ kj1) ∧ Drawn0 w w')
        case atStart => exact ⟨(0), (by first | rfl | (simp; done) | (simp [*]; done)), H', ⟨Nat.le_refl _⟩, by repeat (first | exact Drawn0.refl _ | apply Drawn0.step)⟩
        case round =>
          clear H'
          try clear c1
          try clear c2
          try clear p2
          try clear c3
          try clear c3b0
          try clear c3b1
          try clear c4
          try clear p2
          obtain ⟨x3_2, rfl, HA, HK2, ⟨m2, rfl⟩⟩ := hrel
          cases gk with
          | zero => exact absurd HA.out (by simp [ciceroneref02_Name.l0])
          | succ k2 =>
            have H := HA.out
            clear HA
            simp only [ciceroneref02_Name.l0] at H
            by_cases c5 : x3_2 < (a0.size : Int)
            · rw [if_pos c5] at H
              have c5b0 : decide (x3_2 < (a0.size : Int)) = true := decide_eq_true c5
              clear c5
              by_cases c6 : 0 ≤ x3_2
              · rw [if_pos c6] at H
                have c6b0 : decide (0 ≤ x3_2) = true := decide_eq_true c6
                clear c6
                by_cases c8 : (bt a0 x3_2) ≥ 97
                · rw [if_pos c8] at H
                  have c8b0 : decide (97 ≤ (bt a0 x3_2)) = true := decide_eq_true c8
                  clear c8
                  by_cases c9 : (bt a0 x3_2) ≤ 122
                  · rw [if_pos c9] at H
                    have c9b0 : decide ((bt a0 x3_2) ≤ 122) = true := decide_eq_true c9
                    clear c9
                    have H' := Aside0.mk H
                    clear H
                    have p7 : 0 ≤ (x3_2 : Int) := of_decide_eq_true (by first | (with_reducible assumption) | assumption)
                    have q7 : x3_2 < (a0.size : Int) := of_decide_eq_true (by first | (with_reducible assumption) | assumption)
                    have hx7 := bt_at a0 x3_2
                    replace p7 := eq_true p7
                    replace q7 := eq_true q7
                    go_wp2
                    go_roundg k2
                    case measure => have := HJ1.out; have := HK2.out; omega
                    case rel => exact ⟨(wrap64 (x3_2 + 1)), (by first | rfl | (simp; done) | (simp [*]; done)), H', ⟨by have := HJ1.out; have := HK2.out; omega⟩, by repeat (first | exact Drawn0.refl _ | apply Drawn0.step)⟩
                  · rw [if_neg c9] at H
                    have c9b0 : decide ((bt a0 x3_2) ≤ 122) = false := decide_eq_false c9
                    clear c9
                    by_cases c10 : (bt a0 x3_2) ≥ 48
                    · rw [if_pos c10] at H
                      have c10b0 : decide (48 ≤ (bt a0 x3_2)) = true := decide_eq_true c10
                      clear c10
                      by_cases c11 : (bt a0 x3_2) ≤ 57
                      · rw [if_pos c11] at H
                        have c11b0 : decide ((bt a0 x3_2) ≤ 57) = true := decide_eq_true c11
                        clear c11
                        have H' := Aside0.mk H
                        clear H
                        have p7 : 0 ≤ (x3_2 : Int) := of_decide_eq_true (by first | (with_reducible assumption) | assumption)
                        have q7 : x3_2 < (a0.size : Int) := of_decide_eq_true (by first | (with_reducible assumption) | assumption)
                        have hx7 := bt_at a0 x3_2
                        replace p7 := eq_true p7
                        replace q7 := eq_true q7
                        go_wp2
                        go_roundg k2
                        case measure => have := HJ1.out; have := HK2.out; omega
                        case rel => exact ⟨(wrap64 (x3_2 + 1)), (by first | rfl | (simp; done) | (simp [*]; done)), H', ⟨by have := HJ1.out; have := HK2.out; omega⟩, by repeat (first | exact Drawn0.refl _ | apply Drawn0.step)⟩
                      · rw [if_neg c11] at H
                        have c11b0 : decide ((bt a0 x3_2) ≤ 57) = false := decide_eq_false c11
                        clear c11
                        by_cases c12 : ((bt a0 x3_2) = 45)
                        · rw [if_pos c12] at H
                          have c12b0 : ((bt a0 x3_2) == 45) = true := beq_iff_eq.mpr c12
                          have c12b1 : ((bt a0 x3_2) != 45) = false := bne_eq_false_iff_eq.mpr c12
                          clear c12
                          have H' := Aside0.mk H
                          clear H
                          have p7 : 0 ≤ (x3_2 : Int) := of_decide_eq_true (by first | (with_reducible assumption) | assumption)
                          have q7 : x3_2 < (a0.size : Int) := of_decide_eq_true (by first | (with_reducible assumption) | assumption)
                          have hx7 := bt_at a0 x3_2
                          replace p7 := eq_true p7
                          replace q7 := eq_true q7
                          go_wp2
                          go_roundg k2
                          case measure => have := HJ1.out; have := HK2.out; omega
                          case rel => exact ⟨(wrap64 (x3_2 + 1)), (by first | rfl | (simp; done) | (simp [*]; done)), H', ⟨by have := HJ1.out; have := HK2.out; omega⟩, by repeat (first | exact Drawn0.refl _ | apply Drawn0.step)⟩
                        · rw [if_neg c12] at H
                          have c12b0 : ((bt a0 x3_2) == 45) = false := beq_eq_false_iff_ne.mpr c12
                          have c12b1 : ((bt a0 x3_2) != 45) = true := bne_iff_ne.mpr c12
                          obtain rfl := Option.some.inj H
                          have p7 : 0 ≤ (x3_2 : Int) := of_decide_eq_true (by first | (with_reducible assumption) | assumption)
                          have q7 : x3_2 < (a0.size : Int) := of_decide_eq_true (by first | (with_reducible assumption) | assumption)
                          have hx7 := bt_at a0 x3_2
                          replace p7 := eq_true p7
                          replace q7 := eq_true q7
                          go_wp2
                          go_ret
                          exact ⟨by first | rfl | (simp; done) | (simp [*]; done), by repeat (first | exact Drawn0.refl _ | apply Drawn0.step)⟩
                    · rw [if_neg c10] at H
                      have c10b0 : decide (48 ≤ (bt a0 x3_2)) = false := decide_eq_false c10
                      clear c10
                      by_cases c13 : ((bt a0 x3_2) = 45)
                      · rw [if_pos c13] at H
                        have c13b0 : ((bt a0 x3_2) == 45) = true := beq_iff_eq.mpr c13
                        have c13b1 : ((bt a0 x3_2) != 45) = false := bne_eq_false_iff_eq.mpr c13
                        clear c13
                        have H' := Aside0.mk H
                        clear H
                        have p7 : 0 ≤ (x3_2 : Int) := of_decide_eq_true (by first | (with_reducible assumption) | assumption)
                        have q7 : x3_2 < (a0.size : Int) := of_decide_eq_true (by first | (with_reducible assumption) | assumption)
                        have hx7 := bt_at a0 x3_2
                        replace p7 := eq_true p7
                        replace q7 := eq_true q7
                        go_wp2
                        go_roundg k2
                        case measure => have := HJ1.out; have := HK2.out; omega
                        case rel => exact ⟨(wrap64 (x3_2 + 1)), (by first | rfl | (simp; done) | (simp [*]; done)), H', ⟨by have := HJ1.out; have := HK2.out; omega⟩, by repeat (first | exact Drawn0.refl _ | apply Drawn0.step)⟩
                      · rw [if_neg c13] at H
                        have c13b0 : ((bt a0 x3_2) == 45) = false := beq_eq_false_iff_ne.mpr c13
                        have c13b1 : ((bt a0 x3_2) != 45) = true := bne_iff_ne.mpr c13
                        obtain rfl := Option.some.inj H
                        have p7 : 0 ≤ (x3_2 : Int) := of_decide_eq_true (by first | (with_reducible assumption) | assumption)
                        have q7 : x3_2 < (a0.size : Int) := of_decide_eq_true (by first | (with_reducible assumption) | assumption)
                        have hx7 := bt_at a0 x3_2
                        replace p7 := eq_true p7
                        replace q7 := eq_true q7
                        go_wp2
                        go_ret
                        exact ⟨by first | rfl | (simp; done) | (simp [*]; done), by repeat (first | exact Drawn0.refl _ | apply Drawn0.step)⟩
                · rw [if_neg c8] at H
                  have c8b0 : decide (97 ≤ (bt a0 x3_2)) = false := decide_eq_false c8
                  clear c8
                  by_cases c14 : (bt a0 x3_2) ≥ 48
                  · rw [if_pos c14] at H
                    have c14b0 : decide (48 ≤ (bt a0 x3_2)) = true := decide_eq_true c14
                    clear c14
                    by_cases c15 : (bt a0 x3_2) ≤ 57
                    · rw [if_pos c15] at H
                      have c15b0 : decide ((bt a0 x3_2) ≤ 57) = true := decide_eq_true c15
                      clear c15
                      have H' := Aside0.mk H
                      clear H
                      have p7 : 0 ≤ (x3_2 : Int) := of_decide_eq_true (by first | (with_reducible assumption) | assumption)
                      have q7 : x3_2 < (a0.size : Int) := of_decide_eq_true (by first | (with_reducible assumption) | assumption)
                      have hx7 := bt_at a0 x3_2
                      replace p7 := eq_true p7
                      replace q7 := eq_true q7
                      go_wp2
                      go_roundg k2
                      case measure => have := HJ1.out; have := HK2.out; omega
                      case rel => exact ⟨(wrap64 (x3_2 + 1)), (by first | rfl | (simp; done) | (simp [*]; done)), H', ⟨by have := HJ1.out; have := HK2.out; omega⟩, by repeat (first | exact Drawn0.refl _ | apply Drawn0.step)⟩
                    · rw [if_neg c15] at H
                      have c15b0 : decide ((bt a0 x3_2) ≤ 57) = false := decide_eq_false c15
                      clear c15
                      by_cases c16 : ((bt a0 x3_2) = 45)
                      · rw [if_pos c16] at H
                        have c16b0 : ((bt a0 x3_2) == 45) = true := beq_iff_eq.mpr c16
                        have c16b1 : ((bt a0 x3_2) != 45) = false := bne_eq_false_iff_eq.mpr c16
                        clear c16
                        have H' := Aside0.mk H
                        clear H
                        have p7 : 0 ≤ (x3_2 : Int) := of_decide_eq_true (by first | (with_reducible assumption) | assumption)
                        have q7 : x3_2 < (a0.size : Int) := of_decide_eq_true (by first | (with_reducible assumption) | assumption)
                        have hx7 := bt_at a0 x3_2
                        replace p7 := eq_true p7
                        replace q7 := eq_true q7
                        go_wp2
                        go_roundg k2
                        case measure => have := HJ1.out; have := HK2.out; omega
                        case rel => exact ⟨(wrap64 (x3_2 + 1)), (by first | rfl | (simp; done) | (simp [*]; done)), H', ⟨by have := HJ1.out; have := HK2.out; omega⟩, by repeat (first | exact Drawn0.refl _ | apply Drawn0.step)⟩
                      · rw [if_neg c16] at H
                        have c16b0 : ((bt a0 x3_2) == 45) = false := beq_eq_false_iff_ne.mpr c16
                        have c16b1 : ((bt a0 x3_2) != 45) = true := bne_iff_ne.mpr c16
                        obtain rfl := Option.some.inj H
                        have p7 : 0 ≤ (x3_2 : Int) := of_decide_eq_true (by first | (with_reducible assumption) | assumption)
                        have q7 : x3_2 < (a0.size : Int) := of_decide_eq_true (by first | (with_reducible assumption) | assumption)
                        have hx7 := bt_at a0 x3_2
                        replace p7 := eq_true p7
                        replace q7 := eq_true q7
                        go_wp2
                        go_ret
                        exact ⟨by first | rfl | (simp; done) | (simp [*]; done), by repeat (first | exact Drawn0.refl _ | apply Drawn0.step)⟩
                  · rw [if_neg c14] at H
                    have c14b0 : decide (48 ≤ (bt a0 x3_2)) = false := decide_eq_false c14
                    clear c14
                    by_cases c17 : ((bt a0 x3_2) = 45)
                    · rw [if_pos c17] at H
                      have c17b0 : ((bt a0 x3_2) == 45) = true := beq_iff_eq.mpr c17
                      have c17b1 : ((bt a0 x3_2) != 45) = false := bne_eq_false_iff_eq.mpr c17
                      clear c17
                      have H' := Aside0.mk H
                      clear H
                      have p7 : 0 ≤ (x3_2 : Int) := of_decide_eq_true (by first | (with_reducible assumption) | assumption)
                      have q7 : x3_2 < (a0.size : Int) := of_decide_eq_true (by first | (with_reducible assumption) | assumption)
                      have hx7 := bt_at a0 x3_2
                      replace p7 := eq_true p7
                      replace q7 := eq_true q7
                      go_wp2
                      go_roundg k2
                      case measure => have := HJ1.out; have := HK2.out; omega
                      case rel => exact ⟨(wrap64 (x3_2 + 1)), (by first | rfl | (simp; done) | (simp [*]; done)), H', ⟨by have := HJ1.out; have := HK2.out; omega⟩, by repeat (first | exact Drawn0.refl _ | apply Drawn0.step)⟩
                    · rw [if_neg c17] at H
                      have c17b0 : ((bt a0 x3_2) == 45) = false := beq_eq_false_iff_ne.mpr c17
                      have c17b1 : ((bt a0 x3_2) != 45) = true := bne_iff_ne.mpr c17
                      obtain rfl := Option.some.inj H
                      have p7 : 0 ≤ (x3_2 : Int) := of_decide_eq_true (by first | (with_reducible assumption) | assumption)
                      have q7 : x3_2 < (a0.size : Int) := of_decide_eq_true (by first | (with_reducible assumption) | assumption)
                      have hx7 := bt_at a0 x3_2
                      replace p7 := eq_true p7
                      replace q7 := eq_true q7
                      go_wp2
                      go_ret
                      exact ⟨by first | rfl | (simp; done) | (simp [*]; done), by repeat (first | exact Drawn0.refl _ | apply Drawn0.step)⟩
              · rw [if_neg c6] at H
                exact absurd H (by simp)
            · rw [if_neg c5] at H
              have c5b0 : decide (x3_2 < (a0.size : Int)) = false := decide_eq_false c5
              clear c5
              obtain rfl := Option.some.inj H
              go_wp2
              go_ret
              exact ⟨by first | rfl | (simp; done) | (simp [*]; done), by repeat (first | exact Drawn0.refl _ | apply Drawn0.step)⟩
def ciceroneref02_Parts.l0 : Nat → ByteArray → Int → List ByteArray → Int → Int → Option (List ByteArray)
  | 0, _, _, _, _, _ => none
  | k + 1, x0, x1, x5, x6, x7 => if x7 ≤ (x0.size : Int) then (if x7 = (x0.size : Int) then (if 0 ≤ x6 then (if x6 ≤ x7 then (if x5.length < 8796093022208 then (ciceroneref02_Parts.l0 k x0 x1 (x5 ++ [x0.extract (x6 : Int).toNat (x7 : Int).toNat]) (wrap64 (x7 + 1)) (wrap64 (x7 + 1))) else (none)) else (none)) else (none)) else (if 0 ≤ x7 then (if x7 < (x0.size : Int) then (if (bt x0 x7) = x1 then (if 0 ≤ x6 then (if x6 ≤ x7 then (if x5.length < 8796093022208 then (ciceroneref02_Parts.l0 k x0 x1 (x5 ++ [x0.extract (x6 : Int).toNat (x7 : Int).toNat]) (wrap64 (x7 + 1)) (wrap64 (x7 + 1))) else (none)) else (none)) else (none)) else (ciceroneref02_Parts.l0 k x0 x1 x5 x6 (wrap64 (x7 + 1)))) else (none)) else (none))) else (some x5)
def ciceroneref02_Parts.f (k : Nat) (a0 : ByteArray) (a1 : Int) : Option (List ByteArray) := ciceroneref02_Parts.l0 k a0 a1 (([] : List ByteArray)) 0 0
theorem ciceroneref02_Parts.mono_l : ∀ k, (∀ y0 y1 y2 y3 y4, LeO (ciceroneref02_Parts.l0 k y0 y1 y2 y3 y4) (ciceroneref02_Parts.l0 (k + 1) y0 y1 y2 y3 y4))
  | 0 => fun _ _ _ _ _ r h => by simp [ciceroneref02_Parts.l0] at h
  | k + 1 => by
    have ih0 := ciceroneref02_Parts.mono_l k
    · intro y0 y1 y2 y3 y4
      unfold ciceroneref02_Parts.l0
      repeat' first
      | (with_reducible exact ih0 _ _ _ _ _)
      | (with_reducible exact LeO.refl _)
      | (with_reducible exact LeO.none _)
      | (with_reducible refine LeO.ite ?_ ?_)
      | (with_reducible refine LeO.bind ?_ (fun _ => ?_))
      | exact ih0 _ _ _ _ _
      | exact LeO.none _
      | refine LeO.ite ?_ ?_
      | refine LeO.bind ?_ (fun _ => ?_)
theorem ciceroneref02_Parts.mono : ∀ a0 a1 k, LeO (ciceroneref02_Parts.f k a0 a1) (ciceroneref02_Parts.f (k + 1) a0 a1) := by
  intro a0 a1 k
  have ih0 := ciceroneref02_Parts.mono_l k
  unfold ciceroneref02_Parts.f
  repeat' first
      | (with_reducible exact ih0 _ _ _ _ _)
      | (with_reducible exact LeO.refl _)
      | (with_reducible exact LeO.none _)
      | (with_reducible refine LeO.ite ?_ ?_)
      | (with_reducible refine LeO.bind ?_ (fun _ => ?_))
      | exact ih0 _ _ _ _ _
      | exact LeO.none _
      | refine LeO.ite ?_ ?_
      | refine LeO.bind ?_ (fun _ => ?_)
set_option maxHeartbeats 8000000 in
set_option maxRecDepth 100000 in
theorem ciceroneref02_Parts.calls (k : Nat) (a0 : ByteArray) (a1 : Int) (r : List ByteArray) (w : World) (h : ciceroneref02_Parts.f k a0 a1 = some r) :
    Calls Tryd.prog 48 #[.string a0, .int .u8 a1] w fun e w' => ∃ v0_ : Value, e = .returned (v0_) ∧ Kd.R Kd.string 9 w' w.heap.size (fun _ => True) v0_ r ∧ Below w.heap.size w w' := by
  have HB := Aside0.mk (Below.refl w.heap.size w)
  have H : (ciceroneref02_Parts.l0 k a0 a1 (([] : List ByteArray)) 0 0) = some r := h
  clear h
  obtain ⟨y281, hy281⟩ : ∃ y_ : List ByteArray, y_ = (([] : List ByteArray)) := ⟨_, rfl⟩
  replace H : (ciceroneref02_Parts.l0 k a0 a1 y281 0 0) = some r := by first | (rw [hy281]; with_reducible exact H) | (have H2_ := (Option.bind_some _ _).symm.trans H; rw [hy281]; with_reducible exact H2_) | (have H2_ := (Option.bind_some _ _).symm.trans H; with_reducible exact H2_) | with_reducible exact H | (rw [hy281]; exact H) | exact H
  have Ny281 := Aside0.mk hy281
  clear hy281
  have H' := Aside0.mk H
  clear H
  go_enter Tryd.func48, Tryd.ntmps48
  go_wp2_with (first | ((with_reducible refine gate_dst (N := 8) rfl ?_); refine Kd.R_lit Kd.string _ 9 ?hg (N := 8) ?hd (xs := ([] : List ByteArray)) (inner := []) (ok := fun _ => True) (okp := fun _ => True) ?hr ?hp (fun _ hk => hk) trivial (Below.refl _ _) (Nat.le_refl _) (by simp) ?_; (case hd => rfl); (case hg => rfl); (case hr => first | (go_simp; done) | (go_simp; rfl)); (case hp => exact (Reps.none _ _)); intro v282 w3 ho4 hb hg_ hnew_; clear hg_ hnew_; (first | rw [← Ny281.out] at ho4 | (simp only [Int.reduceToNat] at ho4; rw [← Ny281.out] at ho4)); have n0_ := Aside0.mk (Kd.R_lower ho4 (below_size (by repeat (first | (with_reducible first | exact HB.out | apply below_alloc | apply pw_below_drewN | apply below_drew1) | exact HB.out)))); have n1_ := Aside0.mk (below_step (by repeat (first | (with_reducible first | exact HB.out | apply below_alloc | apply pw_below_drewN | apply below_drew1) | exact HB.out)) hb); clear HB; have HO283 := n0_; have HB := n1_; clear n0_ n1_; clear hb ho4))
  go_loopg [5, 6, 7] k (fun kq v5 v6 v7 w' => ∃ (x5_1 : List ByteArray) (x6_1 : Int) (x7_1 : Int), v6 = .int .i64 x6_1 ∧ v7 = .int .i64 x7_1 ∧ Aside0 (ciceroneref02_Parts.l0 kq a0 a1 x5_1 x6_1 x7_1 = some r) ∧ Aside0 (kq ≤ k) ∧ Aside0 (Kd.R Kd.string 9 w' w.heap.size (fun _ => True) v5 x5_1) ∧ Aside0 (Below w.heap.size w w'))
  case atStart => exact ⟨(y281), (0), (0), (by first | rfl | (simp; done) | (simp [*]; done)), (by first | rfl | (simp; done) | (simp [*]; done)), H', ⟨Nat.le_refl _⟩, ⟨by (with_reducible repeat (first | apply Kd.R_alloc | apply Kd.R_drewN | apply Kd.R_drew)); exact HO283.out⟩, ⟨by repeat (first | (with_reducible first | exact HB.out | apply below_alloc | apply pw_below_drewN | apply below_drew1) | exact HB.out)⟩⟩
  case round =>
    clear H'
    try clear p2
    try clear c4
    obtain ⟨x5_1, x6_1, x7_1, rfl, rfl, HA, HK1, HO_5, HB⟩ := hrel
    cases gk with
    | zero => exact absurd HA.out (by simp [ciceroneref02_Parts.l0])
    | succ k1 =>
      have H := HA.out
      clear HA
      simp only [ciceroneref02_Parts.l0] at H
      by_cases c5 : x7_1 ≤ (a0.size : Int)
      · rw [if_pos c5] at H
        have c5b0 : decide (x7_1 ≤ (a0.size : Int)) = true := decide_eq_true c5
        clear c5
        by_cases c6 : x7_1 = (a0.size : Int)
        · rw [if_pos c6] at H
          have c6b0 : (x7_1 == (a0.size : Int)) = true := beq_iff_eq.mpr c6
          have c6b1 : (x7_1 != (a0.size : Int)) = false := bne_eq_false_iff_eq.mpr c6
          clear c6
          by_cases c7 : 0 ≤ x6_1
          · rw [if_pos c7] at H
            have c7b0 := eq_true c7
            have c7b1 : decide (0 ≤ x6_1) = true := decide_eq_true c7
            clear c7
            by_cases c8 : x6_1 ≤ x7_1
            · rw [if_pos c8] at H
              have c8b0 := eq_true c8
              have c8b1 : decide (x6_1 ≤ x7_1) = true := decide_eq_true c8
              clear c8
              have c9b0 := eq_true (of_decide_eq_true (by first | (with_reducible assumption) | assumption) : x7_1 ≤ (a0.size : Int))
              by_cases c10 : x5_1.length < 8796093022208
              · rw [if_pos c10] at H
                have LMc10 := Aside0.mk c10
                clear c10
                obtain ⟨y284, hy284⟩ : ∃ y_ : List ByteArray, y_ = (x5_1 ++ [a0.extract (x6_1 : Int).toNat (x7_1 : Int).toNat]) := ⟨_, rfl⟩
                replace H : (ciceroneref02_Parts.l0 k1 a0 a1 y284 (wrap64 (x7_1 + 1)) (wrap64 (x7_1 + 1))) = some r := by first | (rw [hy284]; with_reducible exact H) | (have H2_ := (Option.bind_some _ _).symm.trans H; rw [hy284]; with_reducible exact H2_) | (have H2_ := (Option.bind_some _ _).symm.trans H; with_reducible exact H2_) | with_reducible exact H | (rw [hy284]; exact H) | exact H
                have Ny284 := Aside0.mk hy284
                clear hy284
                have H' := Aside0.mk H
                clear H
                go_wp2_with (first | ((with_reducible refine gate_builtin (b := .append) (xs := #[.tmp 26, .tmp 31]) rfl ?_); at_builtin; refine Kd.R_append Kd.string (w0 := w) w.heap.size rfl (.tmp 26) (.tmp 31) 39 9 (.string ⟨#[]⟩) 16 rfl Tryd.underlying39 info9 rfl (by decide) (by omega) u5 x5_1 (a0.extract (x6_1 : Int).toNat (x7_1 : Int).toNat) [.string (a0.extract (x6_1 : Int).toNat (x7_1 : Int).toNat)] (fun _ => True) (fun _ => False) rfl rfl ?aP (fun _ hk => hk.elim) ?aF ?aO ?aB ?aS ?aL ?_; (case aP => exact rfl); (case aB => exact (by repeat (first | (with_reducible first | exact HB.out | apply below_alloc | apply pw_below_drewN | apply below_drew1) | exact HB.out))); (case aF => exact (fun _ _ => trivial)); (case aO => exact (by (with_reducible repeat (first | apply Kd.R_alloc | apply Kd.R_drewN | apply Kd.R_drew)); exact HO_5.out)); (case aS => exact (below_size (by repeat (first | (with_reducible first | exact HB.out | apply below_alloc | apply pw_below_drewN | apply below_drew1) | exact HB.out)))); (case aL => have := LMc10.out; omega); intro v285 w11 ho hb hg hat; rw [← Ny284.out] at ho; have n0_ := Aside0.mk (hb); have n1_ := Aside0.mk (ho); clear HB; clear HO_5; have HB := n0_; have HO286 := n1_; clear n0_ n1_; clear ho hb hg hat))
                go_roundg k1
                case measure => have := HK1.out; omega
                case rel => exact ⟨(y284), (wrap64 (x7_1 + 1)), (wrap64 (x7_1 + 1)), (by first | rfl | (simp; done) | (simp [*]; done)), (by first | rfl | (simp; done) | (simp [*]; done)), H', ⟨by have := HK1.out; omega⟩, ⟨by (with_reducible repeat (first | apply Kd.R_alloc | apply Kd.R_drewN | apply Kd.R_drew)); exact HO286.out⟩, ⟨by repeat (first | (with_reducible first | exact HB.out | apply below_alloc | apply pw_below_drewN | apply below_drew1) | exact HB.out)⟩⟩
              · rw [if_neg c10] at H
                exact absurd H (by simp)
            · rw [if_neg c8] at H
              exact absurd H (by simp)
          · rw [if_neg c7] at H
            exact absurd H (by simp)
        · rw [if_neg c6] at H
          have c6b0 : (x7_1 == (a0.size : Int)) = false := beq_eq_false_iff_ne.mpr c6
          have c6b1 : (x7_1 != (a0.size : Int)) = true := bne_iff_ne.mpr c6
          by_cases c12 : 0 ≤ x7_1
          · rw [if_pos c12] at H
            have c12b0 : decide (0 ≤ x7_1) = true := decide_eq_true c12
            clear c12
            by_cases c13 : x7_1 < (a0.size : Int)
            · rw [if_pos c13] at H
              have c13b0 : decide (x7_1 < (a0.size : Int)) = true := decide_eq_true c13
              clear c13
              by_cases c15 : (bt a0 x7_1) = a1
              · rw [if_pos c15] at H
                have c15b0 : ((bt a0 x7_1) == a1) = true := beq_iff_eq.mpr c15
                have c15b1 : ((bt a0 x7_1) != a1) = false := bne_eq_false_iff_eq.mpr c15
                clear c15
                by_cases c16 : 0 ≤ x6_1
                · rw [if_pos c16] at H
                  have c16b0 := eq_true c16
                  have c16b1 : decide (0 ≤ x6_1) = true := decide_eq_true c16
                  clear c16
                  by_cases c17 : x6_1 ≤ x7_1
                  · rw [if_pos c17] at H
                    have c17b0 := eq_true c17
                    have c17b1 : decide (x6_1 ≤ x7_1) = true := decide_eq_true c17
                    clear c17
                    have c18b0 := eq_true (of_decide_eq_true (by first | (with_reducible assumption) | assumption) : x7_1 ≤ (a0.size : Int))
                    by_cases c19 : x5_1.length < 8796093022208
                    · rw [if_pos c19] at H
                      have LMc19 := Aside0.mk c19
                      clear c19
                      obtain ⟨y287, hy287⟩ : ∃ y_ : List ByteArray, y_ = (x5_1 ++ [a0.extract (x6_1 : Int).toNat (x7_1 : Int).toNat]) := ⟨_, rfl⟩
                      replace H : (ciceroneref02_Parts.l0 k1 a0 a1 y287 (wrap64 (x7_1 + 1)) (wrap64 (x7_1 + 1))) = some r := by first | (rw [hy287]; with_reducible exact H) | (have H2_ := (Option.bind_some _ _).symm.trans H; rw [hy287]; with_reducible exact H2_) | (have H2_ := (Option.bind_some _ _).symm.trans H; with_reducible exact H2_) | with_reducible exact H | (rw [hy287]; exact H) | exact H
                      have Ny287 := Aside0.mk hy287
                      clear hy287
                      have H' := Aside0.mk H
                      clear H
                      have p14 : 0 ≤ (x7_1 : Int) := of_decide_eq_true (by first | (with_reducible assumption) | assumption)
                      have q14 : x7_1 < (a0.size : Int) := of_decide_eq_true (by first | (with_reducible assumption) | assumption)
                      have hx14 := bt_at a0 x7_1
                      replace p14 := eq_true p14
                      replace q14 := eq_true q14
                      go_wp2_with (first | ((with_reducible refine gate_builtin (b := .append) (xs := #[.tmp 26, .tmp 31]) rfl ?_); at_builtin; refine Kd.R_append Kd.string (w0 := w) w.heap.size rfl (.tmp 26) (.tmp 31) 39 9 (.string ⟨#[]⟩) 16 rfl Tryd.underlying39 info9 rfl (by decide) (by omega) u5 x5_1 (a0.extract (x6_1 : Int).toNat (x7_1 : Int).toNat) [.string (a0.extract (x6_1 : Int).toNat (x7_1 : Int).toNat)] (fun _ => True) (fun _ => False) rfl rfl ?aP (fun _ hk => hk.elim) ?aF ?aO ?aB ?aS ?aL ?_; (case aP => exact rfl); (case aB => exact (by repeat (first | (with_reducible first | exact HB.out | apply below_alloc | apply pw_below_drewN | apply below_drew1) | exact HB.out))); (case aF => exact (fun _ _ => trivial)); (case aO => exact (by (with_reducible repeat (first | apply Kd.R_alloc | apply Kd.R_drewN | apply Kd.R_drew)); exact HO_5.out)); (case aS => exact (below_size (by repeat (first | (with_reducible first | exact HB.out | apply below_alloc | apply pw_below_drewN | apply below_drew1) | exact HB.out)))); (case aL => have := LMc19.out; omega); intro v288 w20 ho hb hg hat; rw [← Ny287.out] at ho; have n0_ := Aside0.mk (hb); have n1_ := Aside0.mk (ho); clear HB; clear HO_5; have HB := n0_; have HO289 := n1_; clear n0_ n1_; clear ho hb hg hat))
                      go_roundg k1
                      case measure => have := HK1.out; omega
                      case rel => exact ⟨(y287), (wrap64 (x7_1 + 1)), (wrap64 (x7_1 + 1)), (by first | rfl | (simp; done) | (simp [*]; done)), (by first | rfl | (simp; done) | (simp [*]; done)), H', ⟨by have := HK1.out; omega⟩, ⟨by (with_reducible repeat (first | apply Kd.R_alloc | apply Kd.R_drewN | apply Kd.R_drew)); exact HO289.out⟩, ⟨by repeat (first | (with_reducible first | exact HB.out | apply below_alloc | apply pw_below_drewN | apply below_drew1) | exact HB.out)⟩⟩
                    · rw [if_neg c19] at H
                      exact absurd H (by simp)
                  · rw [if_neg c17] at H
                    exact absurd H (by simp)
                · rw [if_neg c16] at H
                  exact absurd H (by simp)
              · rw [if_neg c15] at H
                have c15b0 : ((bt a0 x7_1) == a1) = false := beq_eq_false_iff_ne.mpr c15
                have c15b1 : ((bt a0 x7_1) != a1) = true := bne_iff_ne.mpr c15
                have H' := Aside0.mk H
                clear H
                have p14 : 0 ≤ (x7_1 : Int) := of_decide_eq_true (by first | (with_reducible assumption) | assumption)
                have q14 : x7_1 < (a0.size : Int) := of_decide_eq_true (by first | (with_reducible assumption) | assumption)
                have hx14 := bt_at a0 x7_1
                replace p14 := eq_true p14
                replace q14 := eq_true q14
                go_wp2
                go_roundg k1
                case measure => have := HK1.out; omega
                case rel => exact ⟨(x5_1), (x6_1), (wrap64 (x7_1 + 1)), (by first | rfl | (simp; done) | (simp [*]; done)), (by first | rfl | (simp; done) | (simp [*]; done)), H', ⟨by have := HK1.out; omega⟩, ⟨by (with_reducible repeat (first | apply Kd.R_alloc | apply Kd.R_drewN | apply Kd.R_drew)); exact HO_5.out⟩, ⟨by repeat (first | (with_reducible first | exact HB.out | apply below_alloc | apply pw_below_drewN | apply below_drew1) | exact HB.out)⟩⟩
            · rw [if_neg c13] at H
              exact absurd H (by simp)
          · rw [if_neg c12] at H
            exact absurd H (by simp)
      · rw [if_neg c5] at H
        have c5b0 : decide (x7_1 ≤ (a0.size : Int)) = false := decide_eq_false c5
        clear c5
        obtain rfl := Option.some.inj H
        go_wp2
        go_ret
        exact ⟨_, by first | rfl | (simp [errW_none, errW_some] <;> rfl) | (simp [*, errW_none, errW_some] <;> rfl), by (with_reducible repeat (first | apply Kd.R_alloc | apply Kd.R_drewN | apply Kd.R_drew)); exact HO_5.out, by repeat (first | (with_reducible first | exact HB.out | apply below_alloc | apply pw_below_drewN | apply below_drew1) | exact HB.out)⟩
end Go.Proofs.YtgpadcokcdpmnaaDoor.PFeedDiffs
end
section
namespace Go.Proofs.YtgpadcokcdpmnaaDoor.Fd
open Go Go.RowKit Go.Maps Go.Sort Go.Shelf Go.Lib Go.WideAt Go.WideShapes Go.Proofs.YtgpadcokcdpmnaaDoorW.PrintWords
set_option linter.unusedVariables false
set_option linter.unusedSimpArgs false
theorem wrap_up {i : Nat} (h : i ≤ 1000000000) : wrap64 ((i : Int) + 1) = ((i + 1 : Nat) : Int) := by unfold wrap64; omega
end Go.Proofs.YtgpadcokcdpmnaaDoor.Fd
end
section
namespace Go.Proofs.YtgpadcokcdpmnaaDoor.Fd
open Go Go.RowKit Go.Maps Go.Sort Go.Shelf Go.Lib Go.WideAt Go.WideShapes Go.Proofs.YtgpadcokcdpmnaaDoorW.PrintWords
set_option linter.unusedVariables false
set_option linter.unusedSimpArgs false
abbrev S37 := PFeedDiffs.S37
abbrev SR := PFeedDiffs.S46
abbrev SI := PFeedDiffs.S42
def toS (e : Ev) : S37 := ⟨e.src, e.num, e.at_, e.kind, e.person, e.item, e.value, e.text⟩
structure Rw where
  name : ByteArray
  maker : ByteArray
  tags : ByteArray
  price : Int
  stock : Int
def Rw.cells (x : Rw) : Array Value := #[.string x.name, .string x.maker, .string x.tags, .int .i64 x.price, .int .i64 x.stock]
def toR (x : Rw) : SR := ⟨x.name, x.maker, x.tags, x.price, x.stock⟩
def toI (x : It) : SI := ⟨x.name, x.maker, x.tags, x.stock, x.price, x.born, x.listed⟩
theorem rdS_map (l : List Ev) {i : Nat} {e : Ev} (h : l[i]? = some e) : PFeedDiffs.rd_T37 (l.map toS) (i : Int) = toS e := by
  unfold PFeedDiffs.rd_T37
  simp [List.getD, h]
theorem rdR_map (l : List Rw) {i : Nat} {e : Rw} (h : l[i]? = some e) : PFeedDiffs.rd_T46 (l.map toR) (i : Int) = toR e := by
  unfold PFeedDiffs.rd_T46
  simp [List.getD, h]
def bigB (e : Ev) (m : Int) : Bool := decide ((e.src.size : Int) > m) || decide ((e.person.size : Int) > m) || decide ((e.item.size : Int) > m) || decide ((e.text.size : Int) > m)
theorem pBig (e : Ev) (m : Int) : PFeedDiffs.ciceroneref02_Big.f e.src e.num e.at_ e.kind e.person e.item e.value e.text m = some (bigB e m) := by
  unfold PFeedDiffs.ciceroneref02_Big.f bigB
  by_cases h1 : (e.src.size : Int) > m
  · simp [h1]
  · by_cases h2 : (e.person.size : Int) > m
    · simp [h1, h2]
    · by_cases h3 : (e.item.size : Int) > m
      · simp [h1, h2, h3]
      · simp [h1, h2, h3]
theorem some_l0 (l : List Ev) (m : Int) (hl : l.length ≤ 1000000) : ∀ (d k i : Nat), l.length - i = d → i ≤ l.length → d < k →
    PFeedDiffs.ciceroneref02_Some.l0 k (l.map toS) m (i : Int) = some ((l.drop i).any (fun e => bigB e m))
  | 0, k, i, hd, hi, hk => by
    obtain ⟨k, rfl⟩ : ∃ m, k = m + 1 := ⟨k - 1, by omega⟩
    simp only [PFeedDiffs.ciceroneref02_Some.l0]
    rw [if_neg (by simp; omega), List.drop_of_length_le (by omega)]; rfl
  | d + 1, k, i, hd, hi, hk => by
    obtain ⟨k, rfl⟩ : ∃ m, k = m + 1 := ⟨k - 1, by omega⟩
    have hlt : i < l.length := by omega
    obtain ⟨x, hx⟩ : ∃ x, l[i]? = some x := ⟨_, List.getElem?_eq_getElem hlt⟩
    have hdr : l.drop i = x :: l.drop (i + 1) := by rw [List.drop_eq_getElem_cons hlt, (List.getElem?_eq_some_iff.1 hx).2]
    simp only [PFeedDiffs.ciceroneref02_Some.l0]
    rw [if_pos (by simp; omega), if_pos (by omega), rdS_map l hx, hdr]
    have hb := pBig x m
    simp only [toS] at hb ⊢
    rw [hb, Option.bind_some, wrap_up (by omega), some_l0 l m hl d k (i + 1) (by omega) (by omega) (by omega), List.any_cons]
    cases bigB x m <;> simp
theorem pSome (l : List Ev) (m : Int) (hl : l.length ≤ 1000000) : PFeedDiffs.ciceroneref02_Some.f (l.length + 1) (l.map toS) m = some (l.any (fun e => bigB e m)) := by
  have := some_l0 l m hl l.length (l.length + 1) 0 (by omega) (by omega) (by omega)
  rwa [List.drop_zero] at this
def longB (x : Rw) : Bool := decide (((x.name.size + x.maker.size + x.tags.size : Nat) : Int) > 600)
def fewR (l : List Rw) : Bool := decide (l.length ≤ 31) && (l.take 31).all (fun x => !longB x)
def maxT : Nat := 140737488355328
theorem few_sum (a b c : Nat) (h1 : a ≤ maxT) (h2 : b ≤ maxT) (h3 : c ≤ maxT) : wrap64 (wrap64 ((a : Int) + (b : Int)) + (c : Int)) = ((a + b + c : Nat) : Int) := by
  unfold maxT at h1 h2 h3
  unfold wrap64; omega
theorem few_one {k i : Nat} {l : List Rw} {x : Rw} (hx : l[i]? = some x) (h30 : i ≤ 30) (z1 : x.name.size ≤ maxT) (z2 : x.maker.size ≤ maxT) (z3 : x.tags.size ≤ maxT) :
    PFeedDiffs.ciceroneref46_Few.l0 (k + 1) (l.map toR) (i : Int) = if longB x = true then some false else PFeedDiffs.ciceroneref46_Few.l0 k (l.map toR) ((i + 1 : Nat) : Int) := by
  have hlt := (List.getElem?_eq_some_iff.1 hx).1
  rw [PFeedDiffs.ciceroneref46_Few.l0, if_pos (by rw [List.length_map]; omega), if_neg (by omega), if_pos (by omega), rdR_map l hx]
  have e0 : (toR x).f0 = x.name := rfl
  have e1 : (toR x).f1 = x.maker := rfl
  have e2 : (toR x).f2 = x.tags := rfl
  rw [e0, e1, e2, few_sum _ _ _ z1 z2 z3, wrap_up (by omega)]
  unfold longB
  by_cases hb : ((x.name.size + x.maker.size + x.tags.size : Nat) : Int) > 600
  · rw [if_pos hb, if_pos (decide_eq_true hb)]
  · rw [if_neg hb, if_neg (by rw [decide_eq_true_eq]; exact hb)]
theorem few_l0 (l : List Rw) (hz : ∀ x ∈ l, x.name.size ≤ maxT ∧ x.maker.size ≤ maxT ∧ x.tags.size ≤ maxT) (d : Nat) : ∀ (k i : Nat), l.length - i = d → i ≤ l.length → i ≤ 31 → 32 - i < k →
    PFeedDiffs.ciceroneref46_Few.l0 k (l.map toR) (i : Int) = some (decide (l.length ≤ 31) && ((l.drop i).take (31 - i)).all (fun x => !longB x)) := by
  induction d with
  | zero =>
    intro k i hd hi h31 hk
    obtain ⟨k, rfl⟩ : ∃ m, k = m + 1 := ⟨k - 1, by omega⟩
    rw [PFeedDiffs.ciceroneref46_Few.l0, if_neg (by rw [List.length_map]; omega), List.drop_of_length_le (by omega)]
    have : decide (l.length ≤ 31) = true := decide_eq_true (by omega)
    rw [this]; simp
  | succ d ih =>
    intro k i hd hi h31 hk
    obtain ⟨k, rfl⟩ : ∃ m, k = m + 1 := ⟨k - 1, by omega⟩
    have hlt : i < l.length := by omega
    obtain ⟨x, hx⟩ : ∃ x, l[i]? = some x := ⟨_, List.getElem?_eq_getElem hlt⟩
    have hdr : l.drop i = x :: l.drop (i + 1) := by rw [List.drop_eq_getElem_cons hlt, (List.getElem?_eq_some_iff.1 hx).2]
    obtain ⟨z1, z2, z3⟩ := hz x (List.mem_of_getElem? hx)
    by_cases h30 : 30 < i
    · rw [PFeedDiffs.ciceroneref46_Few.l0, if_pos (by rw [List.length_map]; omega), if_pos (by omega)]
      have : decide (l.length ≤ 31) = false := decide_eq_false (by omega)
      rw [this]; rfl
    · rw [few_one hx (by omega) z1 z2 z3, hdr, show 31 - i = (31 - (i + 1)) + 1 by omega, List.take_succ_cons, List.all_cons]
      cases hb : longB x with
      | true => rw [if_pos rfl]; simp
      | false => rw [if_neg (by simp), ih k (i + 1) (by omega) (by omega) (by omega) (by omega)]; simp
theorem pFew (l : List Rw) (hz : ∀ x ∈ l, x.name.size ≤ maxT ∧ x.maker.size ≤ maxT ∧ x.tags.size ≤ maxT) : PFeedDiffs.ciceroneref46_Few.f 33 (l.map toR) = some (fewR l) := by
  have := few_l0 l hz l.length 33 0 (by omega) (by omega) (by omega) (by omega)
  rwa [List.drop_zero] at this
theorem same_l0 (l : List Ev) (hl : l.length ≤ 1000000) : ∀ (d k i : Nat), l.length - i = d → i ≤ l.length → d < k → PFeedDiffs.ciceroneref02_Same.l0 k (l.map toS) (l.map toS) (i : Int) = some true
  | 0, k, i, hd, hi, hk => by
    obtain ⟨k, rfl⟩ : ∃ m, k = m + 1 := ⟨k - 1, by omega⟩
    simp only [PFeedDiffs.ciceroneref02_Same.l0]
    rw [if_neg (by simp; omega)]
  | d + 1, k, i, hd, hi, hk => by
    obtain ⟨k, rfl⟩ : ∃ m, k = m + 1 := ⟨k - 1, by omega⟩
    simp only [PFeedDiffs.ciceroneref02_Same.l0]
    rw [if_pos (by simp; omega), if_pos (by omega), if_pos (by simp; omega), if_neg (by simp), wrap_up (by omega)]
    exact same_l0 l hl d k (i + 1) (by omega) (by omega) (by omega)
theorem pSame (l : List Ev) (hl : l.length ≤ 1000000) : PFeedDiffs.ciceroneref02_Same.f (l.length + 1) (l.map toS) (l.map toS) = some true := by
  unfold PFeedDiffs.ciceroneref02_Same.f
  rw [if_pos rfl]
  exact same_l0 l hl l.length (l.length + 1) 0 (by omega) (by omega) (by omega)
def itemOf (x : Rw) (i : Nat) : It := ⟨x.name, x.maker, x.tags, x.stock, x.price, i, decide (i % 2 = 0)⟩
def itemsL : List Rw → Nat → List It
  | [], _ => []
  | x :: r, i => itemOf x i :: itemsL r (i + 1)
theorem tmod_two (i : Nat) : ((Int.tmod (i : Int) 2) == 0) = decide (i % 2 = 0) := by
  rw [Bool.eq_iff_iff, beq_iff_eq, decide_eq_true_eq]
  rw [show (Int.tmod (i : Int) 2) = ((i % 2 : Nat) : Int) from rfl]
  omega
theorem items_l0 (l : List Rw) (hl : l.length ≤ 1000000) : ∀ (d k i : Nat) (out : List It), l.length - i = d → i ≤ l.length → out.length = i → d < k →
    PFeedDiffs.ciceronelaw46_items.l0 k (l.map toR) (out.map toI) (i : Int) = some ((out ++ itemsL (l.drop i) i).map toI)
  | 0, k, i, out, hd, hi, ho, hk => by
    obtain ⟨k, rfl⟩ : ∃ m, k = m + 1 := ⟨k - 1, by omega⟩
    simp only [PFeedDiffs.ciceronelaw46_items.l0]
    rw [if_neg (by simp; omega), List.drop_of_length_le (by omega)]; simp [itemsL]
  | d + 1, k, i, out, hd, hi, ho, hk => by
    obtain ⟨k, rfl⟩ : ∃ m, k = m + 1 := ⟨k - 1, by omega⟩
    have hlt : i < l.length := by omega
    obtain ⟨x, hx⟩ : ∃ x, l[i]? = some x := ⟨_, List.getElem?_eq_getElem hlt⟩
    have hdr : l.drop i = x :: l.drop (i + 1) := by rw [List.drop_eq_getElem_cons hlt, (List.getElem?_eq_some_iff.1 hx).2]
    simp only [PFeedDiffs.ciceronelaw46_items.l0]
    rw [if_pos (by simp; omega), if_pos (by omega), if_pos (by simp; omega), rdR_map l hx, hdr, tmod_two, wrap_up (by omega)]
    have := items_l0 l hl d k (i + 1) (out ++ [itemOf x i]) (by omega) (by omega) (by simp [ho]) (by omega)
    rw [List.map_append] at this
    simp only [List.map_cons, List.map_nil] at this
    have e : toI (itemOf x i) = ⟨(toR x).f0, (toR x).f1, (toR x).f2, (toR x).f4, (toR x).f3, (i : Int), decide (i % 2 = 0)⟩ := rfl
    rw [e] at this
    rw [this, List.append_assoc]
    simp [itemsL]
theorem pItems (l : List Rw) (hl : l.length ≤ 1000000) : PFeedDiffs.ciceronelaw46_items.f (l.length + 1) (l.map toR) = some ((itemsL l 0).map toI) := by
  have := items_l0 l hl l.length (l.length + 1) 0 [] (by omega) (by omega) rfl (by omega)
  rwa [List.drop_zero] at this
structure RSt where
  x : It
  there : Bool
  born : Bool
def stepR (nm : ByteArray) (at_ : Int) (st : RSt) (e : Ev) : RSt :=
  if e.item.data.toList = nm.data.toList ∧ e.at_ ≤ at_ then
    if e.kind = 11 then ⟨⟨nm, ⟨(cutL 59 e.text.data.toList).1.toArray⟩, ⟨(cutL 59 e.text.data.toList).2.1.toArray⟩, st.x.stock, e.value, if st.born then st.x.born else e.at_, true⟩, true, true⟩
    else if e.kind = 13 then ⟨{ st.x with name := nm, listed := false }, true, st.born⟩
    else if e.kind = 12 then ⟨{ st.x with name := nm, stock := e.value }, true, st.born⟩
    else ⟨{ st.x with name := nm }, true, st.born⟩
  else st
def refAt (l : List Ev) (nm : ByteArray) (at_ : Int) : RSt := l.foldl (stepR nm at_) ⟨It.z, false, false⟩
end Go.Proofs.YtgpadcokcdpmnaaDoor.Fd
end
section
namespace Go.Proofs.YtgpadcokcdpmnaaDoor.Fd
open Go Go.RowKit Go.Maps Go.Shelf Go.Lib
set_option linter.unusedVariables false
set_option linter.unusedSimpArgs false
def RwAt (w : World) (q : Nat) (x : Rw) : Prop := w.heap[q]? = some (.cells x.cells 46 (0, 0))
theorem RwAt.facts {w : World} {q : Nat} {x : Rw} (h : RwAt w q x) :
    w.cell? ⟨q, 0, none⟩ = some (.string x.name) ∧ w.cell? ⟨q, 1, none⟩ = some (.string x.maker) ∧ w.cell? ⟨q, 2, none⟩ = some (.string x.tags) ∧ w.cell? ⟨q, 3, none⟩ = some (.int .i64 x.price) ∧ w.cell? ⟨q, 4, none⟩ = some (.int .i64 x.stock) := by
  unfold RwAt Rw.cells at h
  simp only [World.cell?, h]
  simp
theorem RwAt.new (w : World) (x : Rw) : RwAt (w.alloc (.cells x.cells 46)) w.heap.size x := heap_alloc_new w _
theorem RwAt.below {w w' : World} {q : Nat} {x : Rw} (h : RwAt w q x) (hb : Below w.heap.size w w') : RwAt w' q x := (hb.block q (Array.getElem?_eq_some_iff.1 h).1).trans h
def rwB (x : Rw) : Bool := rowB (itemOf x 0)
theorem rowB_item (x : Rw) (i : Nat) : rowB (itemOf x i) = rwB x := rfl
end Go.Proofs.YtgpadcokcdpmnaaDoor.Fd
end
section
namespace Go.Proofs.YtgpadcokcdpmnaaDoor.Fd
open Go Go.RowKit Go.Maps Go.Sort Go.Shelf Go.Lib Go.Proofs.YtgpadcokcdpmnaaDoorW.PrintLast
set_option linter.unusedVariables false
set_option linter.unusedSimpArgs false
def RwsAt (w : World) (A : Option Addr) (l : List Rw) : Prop :=
  ∀ i x, l[i]? = some x → ∃ g O, A = some ⟨g, O, none⟩ ∧ g < w.heap.size ∧ ∀ j u, x.cells.toList[j]? = some u → w.cell? ⟨g, O + i * 5 + j, none⟩ = some u
theorem RwsAt.below {w w' : World} {A : Option Addr} {l : List Rw} (h : RwsAt w A l) (hb : Below w.heap.size w w') : RwsAt w' A l := by
  intro i x hx
  obtain ⟨g, O, rfl, hg, hc⟩ := h i x hx
  exact ⟨g, O, rfl, Nat.lt_of_lt_of_le hg hb.size, fun j u hu => (hb.cell (p := ⟨g, O + i * 5 + j, none⟩) hg).trans (hc j u hu)⟩
theorem RwsAt.take {w : World} {A : Option Addr} {l : List Rw} (h : RwsAt w A l) (k : Nat) : RwsAt w A (l.take k) := fun i x hx => h i x (by
  rcases Nat.lt_or_ge i k with h1 | h1
  · rwa [List.getElem?_take_of_lt h1] at hx
  · rw [List.getElem?_take_eq_none h1] at hx; cases hx)
theorem RwsAt.C {w : World} {A : Option Addr} {l : List Rw} (h : RwsAt w A l) (hl : l.length ≤ 1000000) : YtgpadcokcdpmnaaDoorW.PrintWords.Kd.C PFeedDiffs.k46 w A (l.map toR).length (l.map toR) := by
  refine ⟨rfl, by simp; omega, fun hn => ?_⟩
  have hn' : 0 < l.length := by simpa using hn
  obtain ⟨g, O, rfl, hg, _⟩ := h 0 _ (List.getElem?_eq_getElem hn')
  refine ⟨⟨g, O, none⟩, rfl, fun j p hj => ?_⟩
  rw [List.getElem?_map] at hj
  cases hx : l[j]? with
  | none => rw [hx] at hj; cases hj
  | some x =>
    rw [hx] at hj
    cases hj
    obtain ⟨g', O', e, _, hc⟩ := h j x hx
    cases e
    exact ⟨x.cells.toList, rfl, PFeedDiffs.k46_mk w (toR x), fun i u hu => by rw [add_off, ← Nat.add_assoc]; exact hc i u hu⟩
def allFrom (pre : List Rw) : List Rw → Bool
  | [] => true
  | x :: r => rwB x && !(pre.any (fun y => y.name.data.toList == x.name.data.toList)) && allFrom (pre ++ [x]) r
def allR (l : List Rw) : Bool := allFrom [] l && decide (l.length ≤ 4096)
def RwFine (l : List Rw) : Prop := l.length ≤ 1000 ∧ ∀ x ∈ l, x.name.size ≤ 1000000 ∧ x.maker.size ≤ 1000000 ∧ x.tags.size ≤ 1000000
end Go.Proofs.YtgpadcokcdpmnaaDoor.Fd
end
section
namespace Go.Proofs.YtgpadcokcdpmnaaDoor.Fd
open Go Go.RowKit Go.Maps Go.Sort Go.Shelf Go.Lib Go.Proofs.YtgpadcokcdpmnaaDoorW.PrintLast
set_option linter.unusedVariables false
set_option linter.unusedSimpArgs false
end Go.Proofs.YtgpadcokcdpmnaaDoor.Fd
end
section
namespace Go.Proofs.YtgpadcokcdpmnaaDoor.Fd
open Go Go.RowKit Go.Maps Go.Sort Go.Shelf Go.Lib Go.Proofs.YtgpadcokcdpmnaaDoorW.PrintLast
set_option linter.unusedVariables false
set_option linter.unusedSimpArgs false
end Go.Proofs.YtgpadcokcdpmnaaDoor.Fd
end
section
namespace Go.Proofs.YtgpadcokcdpmnaaDoor.Fd
open Go Go.RowKit Go.Maps Go.Sort Go.Shelf Go.Lib
set_option linter.unusedVariables false
set_option linter.unusedSimpArgs false
def EvsO (w : World) (A : Option Addr) (l : List Ev) : Prop :=
  ∀ i x, l[i]? = some x → ∃ g O, A = some ⟨g, O, none⟩ ∧ g < w.heap.size ∧ ∀ j u, x.cells.toList[j]? = some u → w.cell? ⟨g, O + i * 8 + j, none⟩ = some u
theorem EvsO.below {w w' : World} {A : Option Addr} {l : List Ev} (h : EvsO w A l) (hb : Below w.heap.size w w') : EvsO w' A l := by
  intro i x hx
  obtain ⟨g, O, rfl, hg, hc⟩ := h i x hx
  exact ⟨g, O, rfl, Nat.lt_of_lt_of_le hg hb.size, fun j u hu => (hb.cell (p := ⟨g, O + i * 8 + j, none⟩) hg).trans (hc j u hu)⟩
theorem EvsO.C {w : World} {A : Option Addr} {l : List Ev} (h : EvsO w A l) (hl : l.length ≤ 1000000) : YtgpadcokcdpmnaaDoorW.PrintWords.Kd.C PFeedDiffs.k37 w A (l.map toS).length (l.map toS) := by
  refine ⟨rfl, by simp; omega, fun hn => ?_⟩
  have hn' : 0 < l.length := by simpa using hn
  obtain ⟨g, O, rfl, hg, _⟩ := h 0 _ (List.getElem?_eq_getElem hn')
  refine ⟨⟨g, O, none⟩, rfl, fun j p hj => ?_⟩
  rw [List.getElem?_map] at hj
  cases hx : l[j]? with
  | none => rw [hx] at hj; cases hj
  | some x =>
    rw [hx] at hj
    cases hj
    obtain ⟨g', O', e, _, hc⟩ := h j x hx
    cases e
    exact ⟨x.cells.toList, rfl, PFeedDiffs.k37_mk w (toS x), fun i u hu => by rw [add_off, ← Nat.add_assoc]; exact hc i u hu⟩
theorem EvsO.of_own {w : World} {base n : Nat} {t : TypeId} {A : Option Addr} {cap : Nat} {l : List Ev} (hn : l.length = n) (h : w.ownsRow base t 8 (.slice A n cap) n (cellsV l)) : EvsO w A l := by
  intro i x hx
  obtain ⟨g, rfl, hg, hc⟩ := Evs.of_own hn h i x hx
  exact ⟨g, 0, rfl, hg, fun j u hu => by rw [Nat.zero_add]; exact hc j u hu⟩
def EvFine (l : List Ev) : Prop := l.length ≤ 1000 ∧ ∀ e ∈ l, e.text.size ≤ 1000000 ∧ e.item.size ≤ 1000000
def nameStep (l : List Ev) (at_ : Int) (out : List Tx) (e : Ev) : List Tx := if (refAt l e.item at_).x.listed = true then putL out e.item.data.toList else out
def refNames (l : List Ev) (at_ : Int) (k : Nat) : List Tx := (l.take k).foldl (nameStep l at_) []
theorem nameStep_length (l : List Ev) (at_ : Int) (out : List Tx) (e : Ev) : (nameStep l at_ out e).length ≤ out.length + 1 := by
  unfold nameStep
  split
  · exact putL_length _ _
  · omega
theorem refNames_succ {l : List Ev} {at_ : Int} {k : Nat} {e : Ev} (h : l[k]? = some e) : refNames l at_ (k + 1) = nameStep l at_ (refNames l at_ k) e := by
  unfold refNames
  rw [List.take_add_one, h, List.foldl_append]; rfl
theorem refNames_length (l : List Ev) (at_ : Int) : ∀ k, (refNames l at_ k).length ≤ k
  | 0 => by simp [refNames]
  | k + 1 => by
    have ih := refNames_length l at_ k
    cases h : l[k]? with
    | none =>
      have : refNames l at_ (k + 1) = refNames l at_ k := by unfold refNames; rw [List.take_add_one, h]; simp
      rw [this]; omega
    | some e => rw [refNames_succ h]; have := nameStep_length l at_ (refNames l at_ k) e; omega
end Go.Proofs.YtgpadcokcdpmnaaDoor.Fd
end
section
namespace Go.Proofs.YtgpadcokcdpmnaaDoor.Fd
open Go Go.RowKit Go.Maps Go.Sort Go.Shelf Go.Lib
set_option linter.unusedVariables false
set_option linter.unusedSimpArgs false
def rfnd (l : List Rw) (s : Tx) : Option Rw := l.find? (fun x => x.name.data.toList == s)
def putNames (start : List Tx) (want : List Rw) : List Tx := want.foldl (fun o r => putL o r.name.data.toList) start
def refWant (want : List Rw) (s : Tx) : Option It := (rfnd want s).map (fun r => itemOf r 0)
def refIs (l : List Ev) (at_ : Int) (s : Tx) : It := (refAt l ⟨s.toArray⟩ at_).x
def refGo (want : List Rw) (at_ : Int) (src : ByteArray) (num : Int) : Bool := allR want && nameB src && decide (0 ≤ at_) && decide (at_ ≤ 1099511627776) && decide (1 ≤ num)
def refFull (l : List Ev) (at_ : Int) (src : ByteArray) (num : Int) (want : List Rw) : List Ev := diffL (refWant want) (refIs l at_) src num at_ (putNames (refNames l at_ l.length) want)
def refOut (l : List Ev) (at_ : Int) (src : ByteArray) (num : Int) (want : List Rw) : List Ev := if refGo want at_ src num then diffCut num (refFull l at_ src num want) else []
theorem putNames_snoc (start : List Tx) (want : List Rw) (r : Rw) : putNames start (want ++ [r]) = putL (putNames start want) r.name.data.toList := by unfold putNames; rw [List.foldl_append]; rfl
theorem putNames_take {start : List Tx} {want : List Rw} {k : Nat} {r : Rw} (h : want[k]? = some r) : putNames start (want.take (k + 1)) = putL (putNames start (want.take k)) r.name.data.toList := by
  rw [List.take_add_one, h]; exact putNames_snoc _ _ _
theorem putNames_length (start : List Tx) (want : List Rw) : ∀ k, (putNames start (want.take k)).length ≤ start.length + k
  | 0 => by simp [putNames]
  | k + 1 => by
    have ih := putNames_length start want k
    cases h : want[k]? with
    | none =>
      have : want.take (k + 1) = want.take k := by rw [List.take_add_one, h]; simp
      rw [this]; omega
    | some r => rw [putNames_take h]; have := putL_length (putNames start (want.take k)) r.name.data.toList; omega
end Go.Proofs.YtgpadcokcdpmnaaDoor.Fd
end
