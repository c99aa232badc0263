/-
  A slice of bytes among the arguments, opened: its text, in every later memory that keeps the old blocks.
  No condition: lemmas.
-/
import Derived.Test.YtomnmgmehagjfaaGreatDoorNext
import Derived.ChangeSlices
import Derived.ProofKit
import Derived.OpenShut
import Derived.ShutString
import Derived.ChangeOld
import Derived.SizedLaws
import Derived.Laws.BytesArg
namespace Go.Proofs.YtomnmgmehagjfaaGreatDoor.Ck
open Go Go.ChangeShapes Go.WideShapes Go.RowKit Go.ChangeAt Go.Lib
set_option linter.unusedVariables false
set_option linter.unusedSimpArgs false

theorem conv_any {P : Program} (w : World) (src e : TypeId) (hs : P.underlying src = some (.slice e)) (he : P.underlying e = some (.int .u8)) (a : Addr) (len cap : Nat) (xs : List Int) (hlen : xs.length = len)
    (hcell : ∀ i, i < len → w.cell? (a.add i) = some (.int .u8 (xs.getD i 0))) (dst : TypeId) (hd : P.underlying dst = some .string) :
    (convert src dst (.slice (some a) len cap)).run P w = .ok (.string (strOfNums xs)) w := by
  have hl : (loadCells a len).run P w = .ok (xs.map (Value.int .u8)).toArray w := by
    have := run_loadCells_list (P := P) w a (xs.map (Value.int .u8)) (fun j v hj => by
      have hjl : j < xs.length := by
        have := (List.getElem?_eq_some_iff.1 hj).1
        simpa using this
      rw [hcell j (by omega)]
      simp [List.getElem?_eq_getElem hjl] at hj
      subst hj
      simp [List.getD, List.getElem?_eq_getElem hjl])
    simpa [hlen] using this
  rw [run_convert_bytes_string w src dst e _ len cap hs he hd, run_bytesToString w _ len cap xs hl, foldl_push_bytes]
  simp [strOfNums, ByteArray.empty, ByteArray.emptyWithCapacity]
  rfl
theorem cell_lt {w : World} {p : Addr} {v : Value} (h : w.cell? p = some v) : p.block < w.heap.size := by
  unfold World.cell? at h
  split at h
  · rename_i hb; exact (Array.getElem?_eq_some_iff.1 hb).1
  · cases h
theorem open_bytes {H : Type} {enc : TypeId × Value → H} {w : World} {base : Nat} {spare : Nat → Bool} {held : Bool} {fuel : Nat} {A : Option Addr} {len cap : Nat} {x : DataW H × List MemPlace}
    (h : DataW.trod enc Tryz.prog w base spare held fuel 22 [.slice A len cap] = some x) :
    ∃ s : ByteArray, s.size = len ∧ len ≤ 9223372036854775807 ∧ ∀ X, Below w.heap.size w X → (convert 22 9 (.slice A len cap)).run Tryz.prog X = .ok (.string s) X := by
  rcases open_ints Tryz.underlying22 Tryz.underlying5 (by kernel_rfl) h with ⟨hcs, _⟩ | ⟨a, len', cap', zs, hcs, _, hl, hm, hz, _, hcell, _⟩
  · simp at hcs
    obtain ⟨rfl, rfl, rfl⟩ := hcs
    exact ⟨ByteArray.empty, rfl, by omega, fun X _ => run_convert_bytes_nil X 22 5 Tryz.underlying22 Tryz.underlying5 0 0 9 Tryz.underlying9⟩
  · simp at hcs
    obtain ⟨rfl, rfl, rfl⟩ := hcs
    unfold maxLen at hm
    have hlz : len ≤ zs.length := by rw [hz]; split <;> omega
    have hxl : (zs.take len).length = len := by simp; omega
    refine ⟨strOfNums (zs.take len), by rw [strOfNums_size, hxl], by omega, fun X hX => ?_⟩
    refine conv_any X 22 5 Tryz.underlying22 Tryz.underlying5 a len cap (zs.take len) hxl (fun i hi => ?_) 9 Tryz.underlying9
    have h1 := hcell i (by omega)
    rw [hX.cell (p := a.add i) (cell_lt h1), h1]
    simp [List.getD, List.getElem?_take, hi]

end Go.Proofs.YtomnmgmehagjfaaGreatDoor.Ck
