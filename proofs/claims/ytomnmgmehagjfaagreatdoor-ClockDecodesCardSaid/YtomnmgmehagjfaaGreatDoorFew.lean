/-
  The list of calls in memory; the contract of the law's few.
  No condition: lemmas.
-/
import Derived.Test.YtomnmgmehagjfaaGreatDoorRead
namespace Go.Proofs.YtomnmgmehagjfaaGreatDoor.Ck
open Go Go.RowKit Go.Maps Go.Shelf Go.Lib
set_option linter.unusedVariables false
set_option linter.unusedSimpArgs false

structure ActT where
  kind : Int
  name : ByteArray
  at_ : Int
  now : Int

/-- The slice at A holds the calls of l. -/
def Acts (w : World) (A : Option Addr) (l : List ActT) : Prop :=
  ∀ i a, l[i]? = some a → ∃ B O, A = some ⟨B, O, none⟩ ∧ B < w.heap.size ∧ a.name.size ≤ maxLen ∧ w.cell? ⟨B, O + i * 4, none⟩ = some (.int .i64 a.kind) ∧ w.cell? ⟨B, O + i * 4 + 1, none⟩ = some (.string a.name) ∧
    w.cell? ⟨B, O + i * 4 + 2, none⟩ = some (.int .i64 a.at_) ∧ w.cell? ⟨B, O + i * 4 + 3, none⟩ = some (.int .i64 a.now)
theorem Acts.below {w w' : World} {A : Option Addr} {l : List ActT} (h : Acts w A l) (hb : Below w.heap.size w w') : Acts w' A l := by
  intro i a hi
  obtain ⟨B, O, rfl, hB, hs, h0, h1, h2, h3⟩ := h i a hi
  have hz := hb.size
  exact ⟨B, O, rfl, by omega, hs, (hb.cell (p := ⟨B, _, none⟩) hB).trans h0, (hb.cell (p := ⟨B, _, none⟩) hB).trans h1, (hb.cell (p := ⟨B, _, none⟩) hB).trans h2, (hb.cell (p := ⟨B, _, none⟩) hB).trans h3⟩

def fewB (l : List ActT) : Bool := l.all (fun a => decide (a.name.size ≤ 100)) && decide (l.length ≤ 101)


end Go.Proofs.YtomnmgmehagjfaaGreatDoor.Ck
