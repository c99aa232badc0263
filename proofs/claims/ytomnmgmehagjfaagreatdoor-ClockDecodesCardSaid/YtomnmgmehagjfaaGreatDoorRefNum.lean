/-
  The reference's number and parts: the walks.
  No condition: lemmas.
-/
import Derived.Test.YtomnmgmehagjfaaGreatDoorRefNumP
import Derived.Test.YtomnmgmehagjfaaGreatDoorRefName
import Derived.Test.YtomnmgmehagjfaaGreatDoorWLast
namespace Go.Proofs.YtomnmgmehagjfaaGreatDoor.Ck
open Go Go.RowKit Go.Maps Go.Shelf Go.Lib Go.Proofs.YtomnmgmehagjfaaGreatDoorW.PrintLast
set_option linter.unusedVariables false
set_option linter.unusedSimpArgs false

theorem decFrom_lt : ∀ (k : Nat) (l : List UInt8) (n : Nat), l.length ≤ k → decFrom 0 l = some n → n < 10 ^ k := by
  intro k
  induction k with
  | zero =>
    intro l n hl h
    obtain rfl : l = [] := List.eq_nil_of_length_eq_zero (by omega)
    simp only [decFrom, Option.some.injEq] at h
    omega
  | succ k ih =>
    intro l n hl h
    by_cases hn : l = []
    · subst hn
      simp only [decFrom, Option.some.injEq] at h
      have : 0 < 10 ^ (k + 1) := Nat.pow_pos (by decide)
      omega
    · obtain ⟨l', b, rfl⟩ : ∃ l' b, l = l' ++ [b] := ⟨l.dropLast, l.getLast hn, (List.dropLast_concat_getLast _).symm⟩
      obtain ⟨m, d, hm, hd, rfl⟩ := decFrom_snoc_inv l' 0 n h
      have h1 := ih l' m (by simp at hl; omega) hm
      have h2 := (digit_byte hd).1
      rw [Nat.pow_succ]; omega
theorem decFrom_none {l : List UInt8} {k : Nat} {b : UInt8} (hb : l[k]? = some b) (hd : digitVal b = none) : decFrom 0 l = none := by
  cases h : decFrom 0 l with
  | none => rfl
  | some n =>
    obtain ⟨d, h1⟩ := digit_of_decFrom l 0 n h k b hb
    rw [hd] at h1; cases h1
def NL (s : ByteArray) (v3 v4 : Value) : Prop := ∃ (k n : Nat), k ≤ s.size ∧ v4 = .int .i64 k ∧ v3 = .int .i64 n ∧ decFrom 0 (s.data.toList.take k) = some n
theorem numF_out {s : ByteArray} (h : s.size < 1 ∨ 13 < s.size) : numF s.data.toList = -2 := by
  have e : s.data.toList.length = s.size := by simp
  unfold numF
  rw [if_pos (by rcases h with h | h <;> omega)]
theorem numF_zero {s : ByteArray} (h : 1 < s.size) (h0 : (s[0]'(by omega)) = 48) : numF s.data.toList = -2 := by
  have e : s.data.toList.length = s.size := by simp
  unfold numF
  rw [if_pos (by
    refine .inr (.inr ⟨by omega, ?_⟩)
    rw [List.head?_eq_getElem?, Array.getElem?_toList]
    have : s.data[0]? = some s[0] := Array.getElem?_eq_getElem _
    rw [this, h0])]
theorem numF_in {s : ByteArray} (h1 : 1 ≤ s.size) (h2 : s.size ≤ 13) (h0 : s.size = 1 ∨ (s[0]'(by omega)) ≠ 48) : numF s.data.toList = match decFrom 0 s.data.toList with | some n => if 1099511627776 < n then -2 else (n : Int) | none => -2 := by
  have e : s.data.toList.length = s.size := by simp
  conv => lhs; unfold numF
  rw [if_neg (by
    rintro (h | h | ⟨h, h3⟩)
    · omega
    · omega
    · rw [List.head?_eq_getElem?, Array.getElem?_toList] at h3
      have h4 : s.data[0]? = some s[0] := Array.getElem?_eq_getElem _
      rw [h4] at h3
      rcases h0 with h0 | h0
      · omega
      · exact h0 (Option.some.inj h3))]
  rfl

set_option maxHeartbeats 2000000 in
set_option maxRecDepth 100000 in
theorem number_calls (s : ByteArray) (w : World) (hs : s.size ≤ maxLen) :
    Calls Tryz.prog 17 #[.string s] w fun e w' => e = .returned (.int .i64 (numF s.data.toList)) ∧ w = w' := by
  unfold maxLen at hs
  by_cases h1 : s.size < 1
  · have H := Lib.hid (numF_out (.inl h1))
    go_enter Tryz.func17, Tryz.ntmps17
    go_wp2
    go_ret
    exact ⟨by rw [H.out]; rfl, rfl⟩
  by_cases h2 : 13 < s.size
  · have H := Lib.hid (numF_out (.inr h2))
    go_enter Tryz.func17, Tryz.ntmps17
    go_wp2
    go_ret
    exact ⟨by rw [H.out]; rfl, rfl⟩
  have h0lt : 0 < s.size := by omega
  have hz : (s[0].toNat : Int) = 48 ∨ ¬ (s[0].toNat : Int) = 48 := Classical.em _
  by_cases hb : 1 < s.size ∧ s[0] = 48
  · obtain ⟨hb1, hb2⟩ := hb
    have H := Lib.hid (numF_zero hb1 hb2)
    have hb3 : ((s[0].toNat : Int) == 48) = true := by rw [hb2]; rfl
    clear hb2 hz
    go_enter Tryz.func17, Tryz.ntmps17
    go_wp2
    go_ret
    exact ⟨by rw [H.out]; rfl, rfl⟩
  · have hin : s.size = 1 ∨ s[0] ≠ 48 := by
      by_cases h : 1 < s.size
      · exact .inr (fun he => hb ⟨h, he⟩)
      · exact .inl (by omega)
    have H := Lib.hid (numF_in (by omega) (by omega) hin)
    have hcase : s.size = 1 ∨ (1 < s.size ∧ ((s[0].toNat : Int) == 48) = false) := by
      rcases hin with h | h
      · exact .inl h
      · by_cases h3 : s.size = 1
        · exact .inl h3
        · refine .inr ⟨by omega, ?_⟩
          rw [beq_eq_false_iff_ne]
          intro he
          apply h
          apply UInt8.toNat.inj
          have e48 : (48 : UInt8).toNat = 48 := rfl
          omega
    clear hin hb hz
    have hsz13 : s.size ≤ 13 := by omega
    rcases hcase with hcase | ⟨hc1, hc2⟩
    · have HC := Lib.hid hcase
      have hle1 : s.size ≤ 1 := by omega
      clear hcase
      go_enter Tryz.func17, Tryz.ntmps17
      go_wp2_with fail
      go_loop [3, 4] (fun v3 v4 => NL s v3 v4) (fun _ i => s.size - (intOf i).toNat)
      case atStart => exact ⟨0, 0, Nat.zero_le _, rfl, rfl, rfl⟩
      case round =>
        obtain ⟨k, n, hk, rfl, rfl, hd⟩ := hrel
        have hn13 : n ≤ 9999999999999 := by
          have h3 := decFrom_lt 13 _ n (by rw [List.length_take]; omega) hd
          have e13 : (10 : Nat) ^ 13 = 10000000000000 := by decide
          omega
        have HD := Lib.hid hd
        clear hd
        by_cases hlt : k < s.size
        · have hb0 : s.data.toList[k]? = some s[k] := by
            rw [Array.getElem?_toList]
            exact Array.getElem?_eq_getElem (show k < s.data.size from hlt)
          have hb255 : s[k].toNat ≤ 255 := by have := s[k].toNat_lt; omega
          by_cases hlo : s[k].toNat < 48
          · have HN : Hid (numF s.data.toList = -2) := by
              have h4 := decFrom_none hb0 (by unfold digitVal; rw [if_neg (by omega)])
              have := H.out
              rw [h4] at this; exact this
            have z1 : ((s[k].toNat : Int) < 48) := by omega
            clear hb0
            go_wp2
            go_ret
            exact ⟨by rw [HN.out]; rfl, rfl⟩
          · by_cases hhi : 57 < s[k].toNat
            · have HN : Hid (numF s.data.toList = -2) := by
                have h4 := decFrom_none hb0 (by unfold digitVal; rw [if_neg (by omega)])
                have := H.out
                rw [h4] at this; exact this
              have z1 : ¬ ((s[k].toNat : Int) < 48) := by omega
              have z2 : (57 : Int) < (s[k].toNat : Int) := by omega
              clear hb0
              go_wp2
              go_ret
              exact ⟨by rw [HN.out]; rfl, rfl⟩
            · have HT : Hid (decFrom 0 (s.data.toList.take (k + 1)) = some (n * 10 + (s[k].toNat - 48))) :=
                decFrom_take s.data.toList k 0 n s[k] (s[k].toNat - 48) HD.out hb0 (by unfold digitVal; rw [if_pos (by omega)])
              have z1 : ¬ ((s[k].toNat : Int) < 48) := by omega
              have z2 : ¬ ((57 : Int) < (s[k].toNat : Int)) := by omega
              have z3 : (48 : Int) ≤ (s[k].toNat : Int) := by omega
              clear hb0
              go_wp2
              go_round
              case rel => exact ⟨k + 1, n * 10 + (s[k].toNat - 48), by omega, by go_num, by congr 1; omega, HT.out⟩
              case measure => simp [intOf]; omega
        · have hkn : k = s.size := by omega
          subst hkn
          have HN : Hid (numF s.data.toList = if 1099511627776 < n then -2 else (n : Int)) := by
            have h3 := HD.out
            rw [List.take_of_length_le (by simp)] at h3
            have := H.out
            rw [h3] at this; exact this
          by_cases hbig : 1099511627776 < n
          · have z1 : (1099511627776 : Int) < (n : Int) := by omega
            have HB := Lib.hid hbig
            clear hbig
            go_wp2
            go_ret
            exact ⟨by rw [HN.out, if_pos HB.out]; rfl, rfl⟩
          · have z1 : ¬ (1099511627776 : Int) < (n : Int) := by omega
            have HB := Lib.hid hbig
            clear hbig
            go_wp2
            go_ret
            exact ⟨by rw [HN.out, if_neg HB.out]; rfl, rfl⟩
    · have hgt1 : ¬ s.size ≤ 1 := by omega
      go_enter Tryz.func17, Tryz.ntmps17
      go_wp2_with fail
      go_loop [3, 4] (fun v3 v4 => NL s v3 v4) (fun _ i => s.size - (intOf i).toNat)
      case atStart => exact ⟨0, 0, Nat.zero_le _, rfl, rfl, rfl⟩
      case round =>
        obtain ⟨k, n, hk, rfl, rfl, hd⟩ := hrel
        have hn13 : n ≤ 9999999999999 := by
          have h3 := decFrom_lt 13 _ n (by rw [List.length_take]; omega) hd
          have e13 : (10 : Nat) ^ 13 = 10000000000000 := by decide
          omega
        have HD := Lib.hid hd
        clear hd
        by_cases hlt : k < s.size
        · have hb0 : s.data.toList[k]? = some s[k] := by
            rw [Array.getElem?_toList]
            exact Array.getElem?_eq_getElem (show k < s.data.size from hlt)
          have hb255 : s[k].toNat ≤ 255 := by have := s[k].toNat_lt; omega
          by_cases hlo : s[k].toNat < 48
          · have HN : Hid (numF s.data.toList = -2) := by
              have h4 := decFrom_none hb0 (by unfold digitVal; rw [if_neg (by omega)])
              have := H.out
              rw [h4] at this; exact this
            have z1 : ((s[k].toNat : Int) < 48) := by omega
            clear hb0
            go_wp2
            go_ret
            exact ⟨by rw [HN.out]; rfl, rfl⟩
          · by_cases hhi : 57 < s[k].toNat
            · have HN : Hid (numF s.data.toList = -2) := by
                have h4 := decFrom_none hb0 (by unfold digitVal; rw [if_neg (by omega)])
                have := H.out
                rw [h4] at this; exact this
              have z1 : ¬ ((s[k].toNat : Int) < 48) := by omega
              have z2 : (57 : Int) < (s[k].toNat : Int) := by omega
              clear hb0
              go_wp2
              go_ret
              exact ⟨by rw [HN.out]; rfl, rfl⟩
            · have HT : Hid (decFrom 0 (s.data.toList.take (k + 1)) = some (n * 10 + (s[k].toNat - 48))) :=
                decFrom_take s.data.toList k 0 n s[k] (s[k].toNat - 48) HD.out hb0 (by unfold digitVal; rw [if_pos (by omega)])
              have z1 : ¬ ((s[k].toNat : Int) < 48) := by omega
              have z2 : ¬ ((57 : Int) < (s[k].toNat : Int)) := by omega
              have z3 : (48 : Int) ≤ (s[k].toNat : Int) := by omega
              clear hb0
              go_wp2
              go_round
              case rel => exact ⟨k + 1, n * 10 + (s[k].toNat - 48), by omega, by go_num, by congr 1; omega, HT.out⟩
              case measure => simp [intOf]; omega
        · have hkn : k = s.size := by omega
          subst hkn
          have HN : Hid (numF s.data.toList = if 1099511627776 < n then -2 else (n : Int)) := by
            have h3 := HD.out
            rw [List.take_of_length_le (by simp)] at h3
            have := H.out
            rw [h3] at this; exact this
          by_cases hbig : 1099511627776 < n
          · have z1 : (1099511627776 : Int) < (n : Int) := by omega
            have HB := Lib.hid hbig
            clear hbig
            go_wp2
            go_ret
            exact ⟨by rw [HN.out, if_pos HB.out]; rfl, rfl⟩
          · have z1 : ¬ (1099511627776 : Int) < (n : Int) := by omega
            have HB := Lib.hid hbig
            clear hbig
            go_wp2
            go_ret
            exact ⟨by rw [HN.out, if_neg HB.out]; rfl, rfl⟩

end Go.Proofs.YtomnmgmehagjfaaGreatDoor.Ck
