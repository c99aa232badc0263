/-
  A slice of ints among the arguments.
  No condition: lemmas.
-/
import Derived.Test.YtomnmgmehagjfaaGreatDoorBase
namespace Go.Proofs.YtomnmgmehagjfaaGreatDoor.Ck
open Go Go.RowKit Go.Maps
set_option linter.unusedVariables false
set_option linter.unusedSimpArgs false

/-- As the row opens it. -/
def Nums (k : IntKind) (w : World) (a : Option Addr) (len cap : Nat) (zs : List Int) : Prop :=
  (a = none ∧ len = 0 ∧ cap = 0 ∧ zs = []) ∨
  ∃ x, a = some x ∧ len ≤ cap ∧ cap ≤ maxLen ∧ zs.length = cap ∧ (∀ i, i < zs.length → w.cell? (x.add i) = some (.int k (zs.getD i 0))) ∧ ∀ n ∈ zs, (Lit.int k n).wf = true

def Ints (k : IntKind) (w : World) (A : Option Addr) (l : List Int) : Prop :=
  ∀ i x, l[i]? = some x → ∃ B O, A = some ⟨B, O, none⟩ ∧ B < w.heap.size ∧ (Lit.int k x).wf = true ∧ w.cell? ⟨B, O + i, none⟩ = some (.int k x)
theorem Ints.below {k : IntKind} {w w' : World} {A : Option Addr} {l : List Int} (h : Ints k w A l) (hb : Below w.heap.size w w') : Ints k w' A l := by
  intro i a hi
  obtain ⟨B, O, rfl, hB, hs, h0⟩ := h i a hi
  have hz := hb.size
  exact ⟨B, O, rfl, by omega, hs, (hb.cell (p := ⟨B, _, none⟩) hB).trans h0⟩
theorem Nums.ints {k : IntKind} {w : World} {A : Option Addr} {len cap : Nat} {zs : List Int} (h : Nums k w A len cap zs) : ∃ l : List Int, Ints k w A l ∧ l.length = len ∧ len ≤ 9223372036854775807 := by
  rcases h with ⟨rfl, rfl, rfl, rfl⟩ | ⟨x, rfl, hl, hm, hz, hc, hw⟩
  · exact ⟨[], fun i a h => by simp at h, rfl, by omega⟩
  · unfold maxLen at hm
    refine ⟨zs.take len, ?_, by simp; omega, by omega⟩
    intro i a hi
    have hlt : i < len := by
      have := (List.getElem?_eq_some_iff.1 hi).1
      simp at this; omega
    have hsp : x.spot = none := by
      have h0 := hc 0 (by omega)
      obtain ⟨B, O, sp⟩ := x
      cases sp with
      | none => rfl
      | some s =>
        exfalso
        simp [World.cell?, Addr.add] at h0
        split at h0 <;> simp at h0
    have hi' := hc i (by omega)
    obtain ⟨B, O, sp⟩ := x
    simp only at hsp
    subst hsp
    have key : ∀ m, (Addr.add ⟨B, O, none⟩ m) = ⟨B, O + m, none⟩ := fun m => by unfold Addr.add; split <;> simp_all
    rw [key] at hi'
    have ha : zs[i]? = some a := by
      rw [List.getElem?_take] at hi
      simpa [hlt] using hi
    have hget : zs.getD i 0 = a := by rw [List.getD_eq_getElem?_getD, ha]; rfl
    rw [hget] at hi'
    refine ⟨B, O, rfl, ?_, hw a (List.mem_of_getElem? ha), hi'⟩
    unfold World.cell? at hi'
    simp only at hi'
    split at hi'
    · rename_i hb; exact (Array.getElem?_eq_some_iff.1 hb).1
    · cases hi'

end Go.Proofs.YtomnmgmehagjfaaGreatDoor.Ck
