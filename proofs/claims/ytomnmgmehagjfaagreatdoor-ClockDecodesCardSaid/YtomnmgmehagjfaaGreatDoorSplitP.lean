/-
  Words joined by a byte are split again; a number's text is that number.
  No condition: lemmas.
-/
import Derived.Test.YtomnmgmehagjfaaGreatDoorRefDig
import Derived.Lib.SplitLaws
import Derived.Lib.IndexBytes
import Derived.Lib.Atoi
namespace Go.Proofs.YtomnmgmehagjfaaGreatDoor.Ck
open Go Go.Lib
set_option linter.unusedVariables false
set_option linter.unusedSimpArgs false

def joinC (c : UInt8) : List (List UInt8) → List UInt8
  | [] => []
  | [w] => w
  | w :: r => w ++ c :: joinC c r
theorem indexByte_not : ∀ {w : List UInt8} {c : UInt8}, c ∉ w → indexByte w c = -1
  | [], _, _ => rfl
  | b :: r, c, h => by
    have hb : (b == c) = false := by rw [beq_eq_false_iff_ne]; rintro rfl; simp at h
    have hr : c ∉ r := fun hc => h (List.mem_cons_of_mem _ hc)
    unfold indexByte
    rw [hb, indexByte_not hr]; rfl
theorem indexByte_at : ∀ {w : List UInt8} {c : UInt8} (r : List UInt8), c ∉ w → indexByte (w ++ c :: r) c = w.length
  | [], c, r, _ => by show (if (c == c) = true then (0 : Int) else _) = _; simp
  | b :: t, c, r, h => by
    have hb : (b == c) = false := by rw [beq_eq_false_iff_ne]; rintro rfl; simp at h
    have hr : c ∉ t := fun hc => h (List.mem_cons_of_mem _ hc)
    have ih := indexByte_at r hr
    show (if (b == c) = true then (0 : Int) else if (indexByte (t ++ c :: r) c == -1) = true then -1 else indexByte (t ++ c :: r) c + 1) = _
    rw [hb, ih]
    have : ((t.length : Int) == -1) = false := by rw [beq_eq_false_iff_ne]; omega
    rw [this]
    simp
theorem count_not {w : List UInt8} {c : UInt8} (h : c ∉ w) : count w [c] = 0 := by rw [count_one]; exact List.count_eq_zero.2 h
theorem count_at {w : List UInt8} {c : UInt8} (r : List UInt8) (h : c ∉ w) : count (w ++ c :: r) [c] = count r [c] + 1 := by
  rw [count_one, count_one, List.count_append, List.count_eq_zero.2 h, List.count_cons_self]; omega
theorem split_join (c : UInt8) : ∀ (ws : List (List UInt8)), ws ≠ [] → (∀ w ∈ ws, c ∉ w) → split (joinC c ws) [c] = ws
  | [], h, _ => absurd rfl h
  | [w], _, h => by
    have hw := h w (by simp)
    show splitK [c] 0 (count w [c]) w = [w]
    rw [count_not hw]; rfl
  | w :: x :: r, _, h => by
    have hw := h w (by simp)
    have ih := split_join c (x :: r) (by simp) (fun y hy => h y (by simp [hy]))
    show splitK [c] 0 (count (w ++ c :: joinC c (x :: r)) [c]) (w ++ c :: joinC c (x :: r)) = _
    rw [count_at _ hw, splitK, index_one, indexByte_at _ hw]
    have : ((w.length : Int) == -1) = false := by rw [beq_eq_false_iff_ne]; omega
    rw [this]
    unfold split at ih
    simp only [Bool.false_eq_true, if_false, Int.toNat_natCast, Nat.add_zero, List.length_cons, List.length_nil]
    rw [List.take_left, show w.length + (0 + 1) = w.length + 1 from rfl]
    have e : (w ++ c :: joinC c (x :: r)).drop (w.length + 1) = joinC c (x :: r) := by
      rw [List.drop_append, List.drop_of_length_le (by omega), Nat.add_sub_cancel_left]; rfl
    rw [e, ih]

/-! ### numbers -/
theorem decFrom_snoc (b : UInt8) (d : Nat) (hd : digitVal b = some d) : ∀ (l : List UInt8) (acc n : Nat), decFrom acc l = some n → decFrom acc (l ++ [b]) = some (n * 10 + d)
  | [], acc, n, h => by
    simp only [decFrom, Option.some.injEq] at h
    subst h
    simp [decFrom, hd]
  | a :: r, acc, n, h => by
    simp only [List.cons_append, decFrom] at h ⊢
    cases ha : digitVal a with
    | none => rw [ha] at h; cases h
    | some e => rw [ha] at h; exact decFrom_snoc b d hd r _ n h
theorem digitVal_of (u : Nat) (h : u < 10) : digitVal (UInt8.ofNat (48 + u)) = some u := by
  have e : (UInt8.ofNat (48 + u)).toNat = 48 + u := by
    rw [UInt8.toNat_ofNat']; exact Nat.mod_eq_of_lt (by omega)
  unfold digitVal
  rw [e, if_pos (by omega)]
  congr 1; omega
theorem decFrom_dec (u : Nat) : decFrom 0 (decDigits u) = some u := by
  induction u using Nat.strongRecOn with
  | _ u ih =>
    by_cases h : u < 10
    · rw [decDigits_one h]
      have := decFrom_snoc _ _ (digitVal_of u h) [] 0 0 rfl
      simpa only [List.nil_append, Nat.zero_mul, Nat.zero_add] using this
    · rw [decDigits_step (by omega)]
      rw [decFrom_snoc _ _ (digitVal_of (u % 10) (by omega)) _ _ _ (ih (u / 10) (by omega))]
      congr 1; omega
theorem decDigits_ne (u : Nat) : decDigits u ≠ [] := by
  intro h
  have := decFrom_dec u
  by_cases h1 : u < 10
  · rw [decDigits_one h1] at h; cases h
  · rw [decDigits_step (by omega)] at h; simp at h
theorem decNat_dec (u : Nat) : decNat (decDigits u) = some u := by
  unfold decNat
  have : (decDigits u).isEmpty = false := by
    cases h : decDigits u with
    | nil => exact absurd h (decDigits_ne u)
    | cons _ _ => rfl
  rw [this]
  exact decFrom_dec u
theorem dec_mem : ∀ (u : Nat), ∀ b ∈ decDigits u, 48 ≤ b.toNat ∧ b.toNat ≤ 57 := by
  intro u
  induction u using Nat.strongRecOn with
  | _ u ih =>
    intro b hb
    have e : ∀ v, v < 10 → (UInt8.ofNat (48 + v)).toNat = 48 + v := fun v hv => by
      rw [UInt8.toNat_ofNat']; exact Nat.mod_eq_of_lt (by omega)
    by_cases h : u < 10
    · rw [decDigits_one h] at hb
      simp only [List.mem_singleton] at hb
      rw [hb, e u h]; omega
    · rw [decDigits_step (by omega)] at hb
      rcases List.mem_append.1 hb with hb | hb
      · exact ih (u / 10) (by omega) b hb
      · simp only [List.mem_singleton] at hb
        rw [hb, e (u % 10) (by omega)]; omega
theorem atoi_itoa {v : Int} (h : -1 ≤ v) : atoi (itoa v) = some v := by
  unfold itoa
  by_cases h0 : v < 0
  · have : v = -1 := by omega
    subst this
    rw [if_pos (by omega)]
    show (decNat (decDigits 1)).map (fun m : Nat => -(m : Int)) = _
    rw [decNat_dec]; rfl
  · rw [if_neg h0]
    cases hl : decDigits v.toNat with
    | nil => exact absurd hl (decDigits_ne _)
    | cons b r =>
      have hb := dec_mem v.toNat b (by rw [hl]; simp)
      have h1 : (b == 45) = false := by
        rw [beq_eq_false_iff_ne]; rintro rfl
        have : (45 : UInt8).toNat = 45 := rfl
        omega
      have h2 : (b == 43) = false := by
        rw [beq_eq_false_iff_ne]; rintro rfl
        have : (43 : UInt8).toNat = 43 := rfl
        omega
      unfold atoi
      simp only [h1, h2]
      rw [← hl, decNat_dec]
      simp only [Bool.false_eq_true, if_false, Option.map_some]
      congr 1; omega
theorem itoa_not {v : Int} {c : UInt8} (hc : c.toNat < 45) : c ∉ itoa v := by
  unfold itoa
  split
  · intro h
    rcases List.mem_cons.1 h with rfl | h
    · have : (45 : UInt8).toNat = 45 := rfl
      omega
    · have := dec_mem _ _ h; omega
  · intro h
    have := dec_mem _ _ h; omega

end Go.Proofs.YtomnmgmehagjfaaGreatDoor.Ck
