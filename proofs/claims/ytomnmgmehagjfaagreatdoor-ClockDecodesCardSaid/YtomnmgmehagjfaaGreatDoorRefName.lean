/-
  The reference's clock: Name.
  No condition: lemmas.
-/
import Derived.Test.YtomnmgmehagjfaaGreatDoorRefRead
namespace Go.Proofs.YtomnmgmehagjfaaGreatDoor.Ck
open Go Go.RowKit Go.Maps Go.Shelf Go.Lib
set_option linter.unusedVariables false
set_option linter.unusedSimpArgs false

theorem oddB_iff (r : Nat) : oddB r = true ↔ (r < 97 ∨ 122 < r) ∧ (r < 48 ∨ 57 < r) ∧ r ≠ 45 := by
  unfold oddB
  simp only [Bool.and_eq_true, Bool.or_eq_true, decide_eq_true_eq, bne_iff_ne, and_assoc]
theorem oddB_not (r : Nat) : oddB r = false ↔ ¬((r < 97 ∨ 122 < r) ∧ (r < 48 ∨ 57 < r) ∧ r ≠ 45) := by
  rw [← oddB_iff]; simp

set_option maxHeartbeats 2000000 in
set_option maxRecDepth 100000 in
theorem rname_calls (s : ByteArray) (w : World) (hs : s.size ≤ maxLen) :
    Calls Tryz.prog 18 #[.string s] w fun e w' => e = .returned (.bool (nameB s)) ∧ w = w' := by
  have hs' := hs
  unfold maxLen at hs'
  go_enter Tryz.func18, Tryz.ntmps18
  go_wp2_with fail
  go_loop [3] (fun i => ∃ k : Nat, k ≤ s.size ∧ i = .int .i64 k ∧ Hid (∀ j (h : j < s.size), j < k → oddB (s[j]'h).toNat = false)) (fun i => s.size - (intOf i).toNat)
  case atStart => exact ⟨0, Nat.zero_le _, rfl, fun j _ hj => by omega⟩
  case round =>
    obtain ⟨k, hk, rfl, hall⟩ := hrel
    by_cases hlt : k < s.size
    · go_wp2_with fail
      all_goals first
        | (
          have ho : oddB (s[k]'hlt).toNat = true := by
            rw [oddB_iff]
            clear hall hk hs hs'
            simp only [Bool.and_eq_true, Bool.or_eq_true, decide_eq_true_eq, bne_iff_ne, Bool.not_eq_true', decide_eq_false_iff_not, ne_eq] at *
            omega
          go_ret
          exact ⟨by rw [nameB_odd hlt ho]; rfl, rfl⟩)
        | (
          have ho : oddB (s[k]'hlt).toNat = false := by
            rw [oddB_not]
            clear hall hk hs hs'
            simp only [Bool.and_eq_true, Bool.or_eq_true, decide_eq_true_eq, bne_iff_ne, Bool.not_eq_true', decide_eq_false_iff_not, ne_eq, Bool.not_eq_false', bne_eq_false_iff_eq] at *
            omega
          go_round
          case rel =>
            refine ⟨k + 1, by omega, by go_num, fun j hj hjk => ?_⟩
            by_cases e : j = k
            · subst e; exact ho
            · exact hall j hj (by omega)
          case measure => simp [intOf]; omega)
    · have hkn : k = s.size := by omega
      have HA : Hid (nameB s = (decide (1 ≤ s.size) && decide (s.size ≤ 24))) := nameB_all (fun i hi => hall i hi (by omega))
      clear hall
      by_cases h1 : 1 ≤ s.size <;> by_cases h2 : s.size ≤ 24
      all_goals first
        | (exfalso; omega)
        | (
          go_wp2_with fail
          go_ret
          exact ⟨by rw [HA.out]; simp [h1, h2] <;> omega, rfl⟩)

end Go.Proofs.YtomnmgmehagjfaaGreatDoor.Ck
