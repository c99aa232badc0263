/-
  The reference's numbers and parts in plain Lean.
  No condition: lemmas.
-/
import Derived.Test.YtomnmgmehagjfaaGreatDoorDecP
namespace Go.Proofs.YtomnmgmehagjfaaGreatDoor.Ck
open Go Go.Lib
set_option linter.unusedVariables false
set_option linter.unusedSimpArgs false

/-! ### numbers -/
def numF (l : List UInt8) : Int :=
  if l.length < 1 ∨ 13 < l.length ∨ (1 < l.length ∧ l.head? = some 48) then -2
  else match decFrom 0 l with
    | some n => if 1099511627776 < n then -2 else n
    | none => -2
theorem dec_head {u : Nat} (h : 1 ≤ u) : (decDigits u).head? ≠ some 48 := by
  induction u using Nat.strongRecOn with
  | _ u ih =>
    by_cases h1 : u < 10
    · rw [decDigits_one h1]
      simp only [List.head?_cons, ne_eq, Option.some.injEq]
      intro he
      have := congrArg UInt8.toNat he
      rw [UInt8.toNat_ofNat', Nat.mod_eq_of_lt (by omega)] at this
      have e : (48 : UInt8).toNat = 48 := rfl
      omega
    · rw [decDigits_step (by omega)]
      have ih1 := ih (u / 10) (by omega) (by omega)
      cases hd : decDigits (u / 10) with
      | nil => exact absurd hd (decDigits_ne _)
      | cons a r => rw [hd] at ih1; exact ih1
theorem numF_itoa {v : Int} (h0 : 0 ≤ v) (h1 : v ≤ 1099511627776) : numF (itoa v) = v := by
  have e : itoa v = decDigits v.toNat := by unfold itoa; rw [if_neg (by omega)]
  have hl := dec_len_le 13 v.toNat (by omega) (by omega)
  have hp : 1 ≤ (decDigits v.toNat).length := by
    cases hd : decDigits v.toNat with
    | nil => exact absurd hd (decDigits_ne _)
    | cons a r => simp
  have hz : ¬ (1 < (decDigits v.toNat).length ∧ (decDigits v.toNat).head? = some 48) := by
    rintro ⟨h2, h3⟩
    by_cases hv : v.toNat < 10
    · rw [decDigits_one hv] at h2; simp at h2
    · exact dec_head (by omega) h3
  unfold numF
  rw [e, if_neg (by intro h; rcases h with h | h | h <;> first | omega | exact hz h), decFrom_dec]
  simp only
  rw [if_neg (by omega)]
  omega
theorem decFrom_snoc_inv {b : UInt8} : ∀ (l : List UInt8) (acc n : Nat), decFrom acc (l ++ [b]) = some n → ∃ m d, decFrom acc l = some m ∧ digitVal b = some d ∧ n = m * 10 + d
  | [], acc, n, h => by
    simp only [List.nil_append, decFrom] at h
    cases hb : digitVal b with
    | none => rw [hb] at h; cases h
    | some d => rw [hb] at h; simp only [Option.some.injEq] at h; exact ⟨acc, d, rfl, rfl, h.symm⟩
  | a :: r, acc, n, h => by
    simp only [List.cons_append, decFrom] at h ⊢
    cases ha : digitVal a with
    | none => rw [ha] at h; cases h
    | some e => rw [ha] at h; exact decFrom_snoc_inv r _ n h
theorem digit_byte {b : UInt8} {d : Nat} (h : digitVal b = some d) : d < 10 ∧ b = UInt8.ofNat (48 + d) := by
  unfold digitVal at h
  split at h
  · rename_i hb
    simp only [Option.some.injEq] at h
    refine ⟨by omega, ?_⟩
    apply UInt8.toNat.inj
    rw [UInt8.toNat_ofNat', Nat.mod_eq_of_lt (by omega)]; omega
  · cases h
theorem dec_canon : ∀ (k : Nat) (l : List UInt8) (n : Nat), l.length = k + 1 → (1 < l.length → l.head? ≠ some 48) → decFrom 0 l = some n → l = decDigits n
  | k, l, n, hk, hz, h => by
    obtain ⟨l', b, rfl⟩ : ∃ l' b, l = l' ++ [b] := ⟨l.dropLast, l.getLast (by rintro rfl; simp at hk), (List.dropLast_concat_getLast _).symm⟩
    obtain ⟨m, d, hm, hd, rfl⟩ := decFrom_snoc_inv l' 0 n h
    obtain ⟨hd10, rfl⟩ := digit_byte hd
    cases k with
    | zero =>
      obtain rfl : l' = [] := List.eq_nil_of_length_eq_zero (by simpa using hk)
      simp only [decFrom, Option.some.injEq] at hm
      subst hm
      rw [show 0 * 10 + d = d from by omega, decDigits_one hd10]; rfl
    | succ k =>
      have hl' : l'.length = k + 1 := by simpa using hk
      obtain ⟨a, r, rfl⟩ := List.exists_cons_of_ne_nil (l := l') (by rintro rfl; simp at hl')
      have ha : a ≠ 48 := by
        have := hz (by simp)
        simpa using this
      have ih := dec_canon k (a :: r) m hl' (fun _ => by simpa using ha) hm
      have hm1 : 1 ≤ m := by
        rcases Nat.eq_zero_or_pos m with rfl | h1
        · rw [decDigits_one (by omega)] at ih
          simp only [List.cons.injEq] at ih
          exact absurd ih.1 ha
        · exact h1
      rw [decDigits_step (by omega), ih, show (m * 10 + d) / 10 = m from by omega, show (m * 10 + d) % 10 = d from by omega]
theorem numF_inv {l : List UInt8} (h : 0 ≤ numF l) : l = itoa (numF l) ∧ numF l ≤ 1099511627776 := by
  unfold numF at h ⊢
  split at h
  · omega
  · rename_i hc
    rw [if_neg hc]
    cases hd : decFrom 0 l with
    | none => rw [hd] at h; simp at h
    | some n =>
      rw [hd] at h
      simp only at h ⊢
      split at h
      · omega
      · rename_i hn
        rw [if_neg hn]
        have hc' := not_or.1 hc
        have hc2 := not_or.1 hc'.2
        refine ⟨?_, by omega⟩
        unfold itoa
        rw [if_neg (by omega), Int.toNat_natCast]
        exact dec_canon (l.length - 1) l n (by omega) (fun h1 h2 => hc2.2 ⟨h1, h2⟩) hd
theorem numF_bd (l : List UInt8) : -2 ≤ numF l ∧ numF l ≤ 1099511627776 := by
  by_cases h : 0 ≤ numF l
  · exact ⟨by omega, (numF_inv h).2⟩
  · refine ⟨?_, by omega⟩
    unfold numF
    split
    · omega
    · split
      · split <;> omega
      · omega

/-! ### parts, one byte more -/
theorem parts_snoc_eq (c : UInt8) : ∀ l, parts c (l ++ [c]) = parts c l ++ [[]]
  | [] => by rw [List.nil_append, parts_cons_eq]; rfl
  | b :: r => by
    have ih := parts_snoc_eq c r
    obtain ⟨x, t, hx⟩ := List.exists_cons_of_ne_nil (parts_ne c r)
    cases hb : b == c with
    | true =>
      obtain rfl : b = c := by simpa using hb
      rw [List.cons_append, parts_cons_eq, parts_cons_eq, ih]; rfl
    | false =>
      rw [hx] at ih
      rw [List.cons_append, parts_cons_ne hb (show parts c (r ++ [c]) = x :: (t ++ [[]]) from ih), parts_cons_ne hb hx]; rfl
theorem parts_snoc_ne {b c : UInt8} (hbc : (b == c) = false) : ∀ (l : List UInt8) (u : List (List UInt8)) (x : List UInt8), parts c l = u ++ [x] → parts c (l ++ [b]) = u ++ [x ++ [b]]
  | [], u, x, h => by
    have h1 : [([] : List UInt8)] = u ++ [x] := h
    have h2 : u = [] ∧ x = [] := by
      cases u with
      | nil => simp only [List.nil_append, List.cons.injEq, and_true] at h1; exact ⟨rfl, h1.symm⟩
      | cons a r => simp at h1
    obtain ⟨rfl, rfl⟩ := h2
    exact parts_cons_ne hbc (show parts c [] = [] :: [] from rfl)
  | a :: r, u, x, h => by
    obtain ⟨y, t, hy⟩ := List.exists_cons_of_ne_nil (parts_ne c r)
    cases ha : a == c with
    | true =>
      obtain rfl : a = c := by simpa using ha
      rw [parts_cons_eq] at h
      cases u with
      | nil =>
        simp only [List.nil_append, List.cons.injEq] at h
        exact absurd h.2 (parts_ne _ _)
      | cons v u =>
        simp only [List.cons_append, List.cons.injEq] at h
        rw [List.cons_append, parts_cons_eq, parts_snoc_ne hbc r u x h.2, ← h.1]; rfl
    | false =>
      rw [parts_cons_ne ha hy] at h
      cases u with
      | nil =>
        simp only [List.nil_append, List.cons.injEq] at h
        have hr := parts_snoc_ne hbc r [] y (by rw [hy, h.2]; rfl)
        rw [List.cons_append, parts_cons_ne ha (show parts c (r ++ [b]) = (y ++ [b]) :: [] from hr), ← h.1]; rfl
      | cons v u =>
        simp only [List.cons_append, List.cons.injEq] at h
        have hr := parts_snoc_ne hbc r (y :: u) x (by rw [hy, h.2]; rfl)
        rw [List.cons_append, parts_cons_ne ha (show parts c (r ++ [b]) = y :: (u ++ [x ++ [b]]) from hr), ← h.1]; rfl
end Go.Proofs.YtomnmgmehagjfaaGreatDoor.Ck
