/-
  A list of calls, as cells in a row.
  No condition: lemmas.
-/
import Derived.Test.YtomnmgmehagjfaaGreatDoorWords
import Derived.Test.YtomnmgmehagjfaaGreatDoorFew
namespace Go.Proofs.YtomnmgmehagjfaaGreatDoor.Ck
open Go Go.RowKit
set_option linter.unusedVariables false
set_option linter.unusedSimpArgs false

def cellsA (a : ActT) : List Value := [.int .i64 a.kind, .string a.name, .int .i64 a.at_, .int .i64 a.now]
def cellsL (l : List ActT) : List Value := l.flatMap cellsA
theorem cellsL_length : ∀ l : List ActT, (cellsL l).length = l.length * 4
  | [] => rfl
  | a :: r => by
    have := cellsL_length r
    unfold cellsL at this ⊢
    rw [List.flatMap_cons, List.length_append, this]
    simp [cellsA]; omega
theorem cellsL_get : ∀ (l : List ActT) (i j : Nat) (a : ActT), l[i]? = some a → j < 4 → (cellsL l)[i * 4 + j]? = (cellsA a)[j]?
  | [], i, j, a, h, _ => by simp at h
  | x :: r, 0, j, a, h, hj => by
    simp at h; subst h
    unfold cellsL
    rw [List.flatMap_cons, List.getElem?_append_left (by simp [cellsA]; omega)]
    simp
  | x :: r, i + 1, j, a, h, hj => by
    simp at h
    have := cellsL_get r i j a h hj
    unfold cellsL at this ⊢
    rw [List.flatMap_cons, List.getElem?_append_right (by simp [cellsA]; omega)]
    have e : (i + 1) * 4 + j - (cellsA x).length = i * 4 + j := by simp [cellsA]; omega
    rw [e]; exact this
theorem cellsL_one (l : List ActT) : ∀ u ∈ cellsL l, u.oneCell' = true := by
  intro u hu
  obtain ⟨a, _, ha⟩ := List.mem_flatMap.1 hu
  simp [cellsA] at ha
  rcases ha with rfl | rfl | rfl | rfl <;> rfl
theorem cellsL_drop (l : List ActT) (k : Nat) : (cellsL l).drop (k * 4) = cellsL (l.drop k) := by
  induction k generalizing l with
  | zero => simp
  | succ k ih =>
    cases l with
    | nil => simp [cellsL]
    | cons a r =>
      rw [List.drop_succ_cons, ← ih r]
      have e : (k + 1) * 4 = (cellsA a).length + k * 4 := by simp [cellsA]; omega
      show ((a :: r).flatMap cellsA).drop ((k + 1) * 4) = _
      rw [List.flatMap_cons, e, List.drop_append, List.drop_of_length_le (by omega), List.nil_append, Nat.add_sub_cancel_left]; rfl
theorem cellsL_take (l : List ActT) (k : Nat) : (cellsL l).take (k * 4) = cellsL (l.take k) := by
  induction k generalizing l with
  | zero => simp [cellsL]
  | succ k ih =>
    cases l with
    | nil => simp [cellsL]
    | cons a r =>
      rw [List.take_succ_cons]
      show ((a :: r).flatMap cellsA).take ((k + 1) * 4) = cellsA a ++ cellsL (r.take k)
      rw [← ih r, List.flatMap_cons, List.take_append]
      have e : (k + 1) * 4 - (cellsA a).length = k * 4 := by simp [cellsA]; omega
      rw [e, List.take_of_length_le (by simp [cellsA]; omega)]; rfl

theorem add_none (B O m : Nat) : (Addr.add ⟨B, O, none⟩ m) = ⟨B, O + m, none⟩ := by unfold Addr.add; split <;> simp_all
theorem Acts.reads {w : World} {A : Option Addr} {l : List ActT} (h : Acts w A l) : Reads w w.heap.size 4 A l.length (cellsL l) := by
  refine ⟨cellsL_length l, fun hn => ?_⟩
  obtain ⟨B, O, rfl, hB, _⟩ := h 0 l[0] (List.getElem?_eq_getElem hn)
  refine ⟨⟨B, O, none⟩, rfl, hB, fun j u hu => ?_⟩
  have hj : j < l.length * 4 := by
    have := (List.getElem?_eq_some_iff.1 hu).1
    rw [cellsL_length] at this; exact this
  have hi : j / 4 < l.length := by omega
  have hg := cellsL_get l (j / 4) (j % 4) l[j / 4] (List.getElem?_eq_getElem hi) (by omega)
  have ej : j / 4 * 4 + j % 4 = j := by omega
  rw [ej, hu] at hg
  obtain ⟨B', O', e, _, _, h0, h1, h2, h3⟩ := h (j / 4) l[j / 4] (List.getElem?_eq_getElem hi)
  cases e
  rw [add_none]
  have e4 : j % 4 = 0 ∨ j % 4 = 1 ∨ j % 4 = 2 ∨ j % 4 = 3 := by omega
  rcases e4 with e4 | e4 | e4 | e4
  · rw [e4] at hg ej; simp [cellsA] at hg
    rw [hg, show O + j = O + j / 4 * 4 from by omega]; exact h0
  · rw [e4] at hg ej; simp [cellsA] at hg
    rw [hg, show O + j = O + j / 4 * 4 + 1 from by omega]; exact h1
  · rw [e4] at hg ej; simp [cellsA] at hg
    rw [hg, show O + j = O + j / 4 * 4 + 2 from by omega]; exact h2
  · rw [e4] at hg ej; simp [cellsA] at hg
    rw [hg, show O + j = O + j / 4 * 4 + 3 from by omega]; exact h3
theorem Acts.of_own {w : World} {base n : Nat} {e : TypeId} {v : Value} {l : List ActT} (hn : l.length = n) (h : w.ownsRow base e 4 v n (cellsL l)) (hs : ∀ a ∈ l, a.name.size ≤ maxLen) :
    ∃ A cap, v = .slice A n cap ∧ Acts w A l ∧ ∀ B O, A = some ⟨B, O, none⟩ → base ≤ B := by
  subst hn
  rcases Nat.eq_zero_or_pos l.length with h0 | h0
  · have hl : l = [] := List.eq_nil_of_length_eq_zero h0
    subst hl
    rcases h.2 with ⟨rfl, _⟩ | ⟨g, cap, cur, rfl, hg, _⟩
    · exact ⟨none, 0, rfl, fun i a hi => by simp at hi, fun B O e => by cases e⟩
    · exact ⟨_, cap, rfl, fun i a hi => by simp at hi, fun B O e => by cases e; exact hg⟩
  · obtain ⟨g, cap, rfl, hg, hlt⟩ := h.form h0
    refine ⟨_, cap, rfl, fun i a hi => ?_, fun B O e => by cases e; exact hg⟩
    have hc := h.cells (g := g) rfl
    have key : ∀ j, j < 4 → ∀ u, (cellsA a)[j]? = some u → w.cell? ⟨g, i * 4 + j, none⟩ = some u := by
      intro j hj u hu
      have := hc (i * 4 + j) u (by rw [cellsL_get l i j a hi hj]; exact hu)
      rw [add_none] at this
      simpa using this
    refine ⟨g, 0, rfl, hlt, hs a (List.mem_of_getElem? hi), ?_, ?_, ?_, ?_⟩
    · simpa using key 0 (by omega) _ rfl
    · simpa using key 1 (by omega) _ rfl
    · simpa using key 2 (by omega) _ rfl
    · simpa using key 3 (by omega) _ rfl
theorem Acts.fr {S : Nat → Prop} {w w' : World} {A : Option Addr} {l : List ActT} (h : Acts w A l) (hf : Fr S w w') (hS : ∀ B O, A = some ⟨B, O, none⟩ → ¬ S B) : Acts w' A l := by
  intro i a hi
  obtain ⟨B, O, e, hB, hs, h0, h1, h2, h3⟩ := h i a hi
  have hz := hf.size
  have key : ∀ o, w'.cell? ⟨B, o, none⟩ = w.cell? ⟨B, o, none⟩ := fun o => World.cell?_of_block (w := w) (hf.block B hB (hS B O e))
  exact ⟨B, O, e, by omega, hs, (key _).trans h0, (key _).trans h1, (key _).trans h2, (key _).trans h3⟩
theorem Reads.take_ {w : World} {B size n : Nat} {A : Option Addr} {xs : List Value} (h : Reads w B size A n xs) {k : Nat} (hk : k ≤ n) : Reads w B size A k (xs.take (k * size)) := by
  refine ⟨by rw [List.length_take, h.1]; exact Nat.min_eq_left (Nat.mul_le_mul_right _ hk), fun hp => ?_⟩
  obtain ⟨ad, e, hb, hc⟩ := h.2 (by omega)
  refine ⟨ad, e, hb, fun j u hu => hc j u ?_⟩
  rw [List.getElem?_take] at hu
  split at hu
  · exact hu
  · cases hu
theorem cellsL_append (l m : List ActT) : cellsL (l ++ m) = cellsL l ++ cellsL m := by simp [cellsL, List.flatMap_append]

/-- Strings in a row of the call's own. -/
def Strs (w : World) (A : Option Addr) (l : List (List UInt8)) : Prop :=
  ∀ i s, l[i]? = some s → ∃ g, A = some ⟨g, 0, none⟩ ∧ g < w.heap.size ∧ w.cell? ⟨g, i, none⟩ = some (.string ⟨s.toArray⟩)
theorem Strs.below {w w' : World} {A : Option Addr} {l : List (List UInt8)} (h : Strs w A l) (hb : Below w.heap.size w w') : Strs w' A l := by
  intro i s hi
  obtain ⟨g, e, hg, hc⟩ := h i s hi
  have := hb.size
  exact ⟨g, e, by omega, (hb.cell (p := ⟨g, i, none⟩) hg).trans hc⟩
theorem Strs.of_own {w : World} {base n : Nat} {e : TypeId} {v : Value} {l : List (List UInt8)} (hn : l.length = n) (h : w.ownsRow base e 1 v n (l.map fun s => .string ⟨s.toArray⟩)) : ∃ A cap, v = .slice A n cap ∧ Strs w A l := by
  subst hn
  rcases Nat.eq_zero_or_pos l.length with h0 | h0
  · have hl : l = [] := List.eq_nil_of_length_eq_zero h0
    subst hl
    rcases h.2 with ⟨rfl, _⟩ | ⟨g, cap, cur, rfl, _⟩
    · exact ⟨none, 0, rfl, fun i a hi => by simp at hi⟩
    · exact ⟨_, cap, rfl, fun i a hi => by simp at hi⟩
  · obtain ⟨g, cap, rfl, _, hlt⟩ := h.form h0
    refine ⟨_, cap, rfl, fun i s hi => ⟨g, rfl, hlt, ?_⟩⟩
    have hc := h.cells (g := g) rfl i (.string ⟨s.toArray⟩) (by rw [List.getElem?_map, hi]; rfl)
    rw [add_none] at hc
    simpa using hc

end Go.Proofs.YtomnmgmehagjfaaGreatDoor.Ck
