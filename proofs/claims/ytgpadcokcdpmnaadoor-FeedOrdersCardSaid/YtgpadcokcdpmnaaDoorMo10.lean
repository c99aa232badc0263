import Derived.Test.YtgpadcokcdpmnaaDoorMo9
import Derived.Deep.DeepCutAuto
set_option linter.unusedVariables false
set_option linter.unusedSimpArgs false
section
namespace Go.Proofs.YtgpadcokcdpmnaaDoor.Fd
open Go Go.RowKit Go.Maps Go.Sort Go.Shelf Go.Lib Go.Proofs.YtgpadcokcdpmnaaDoorW.PrintLast
set_option linter.unusedVariables false
set_option linter.unusedSimpArgs false
def RIt (w : World) (q : Nat) (x : It) : Prop := w.heap[q]? = some (.cells x.cells 64 (0, 0))
theorem RIt.facts {w : World} {q : Nat} {x : It} (h : RIt w q x) :
    w.cell? ⟨q, 0, none⟩ = some (.string x.name) ∧ w.cell? ⟨q, 1, none⟩ = some (.string x.maker) ∧ w.cell? ⟨q, 2, none⟩ = some (.string x.tags) ∧ w.cell? ⟨q, 3, none⟩ = some (.int .i64 x.stock) ∧
    w.cell? ⟨q, 4, none⟩ = some (.int .i64 x.price) ∧ w.cell? ⟨q, 5, none⟩ = some (.int .i64 x.born) ∧ w.cell? ⟨q, 6, none⟩ = some (.bool x.listed) := by
  unfold RIt It.cells at h
  simp only [World.cell?, h]
  simp
theorem RIt.below {w w' : World} {q : Nat} {x : It} (h : RIt w q x) (hb : Below w.heap.size w w') : RIt w' q x := (hb.block q (Array.getElem?_eq_some_iff.1 h).1).trans h
structure RDin (A0 : Option Addr) (c0 : Nat) (l : List Ev) (A4 : Option Addr) (c4 : Nat) (want : List Rw) (w : World) : Prop where
  evs : EvsO w A0 l
  fe : EvFine l
  ce : l.length ≤ c0
  rws : RwsAt w A4 want
  fr : RwFine want
  cr : want.length ≤ c4
end Go.Proofs.YtgpadcokcdpmnaaDoor.Fd
end
