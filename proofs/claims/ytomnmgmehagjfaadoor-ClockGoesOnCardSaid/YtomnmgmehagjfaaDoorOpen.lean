/-
  A list of calls among the arguments, opened: what its cells hold.
  No condition: lemmas.
-/
import Derived.Test.YtomnmgmehagjfaaDoorFew
import Derived.Deep.Slices
import Derived.Deep.Fields
import Derived.ChangeSame
import Derived.ProofKit
import Derived.OpenShut
import Derived.ShutString
import Derived.ChangeOld
import Derived.SizedLaws
namespace Go.Proofs.YtomnmgmehagjfaaDoor.Ck
open Go Go.ChangeShapes Go.WideShapes Go.Deep Go.RowKit Go.ChangeAt

section
variable {H : Type} {enc : TypeId × Value → H} {P : Program} {w : World} {base : Nat} {spare : Nat → Bool} {held : Bool}
/-- A slice of structs of one-cell fields: each field's cell, and how it reads. -/
theorem slice_fields {t e : TypeId} {fs : Array Field} {fuel : Nat} {cs : List Value} {x : DataW H × List MemPlace} (ht : P.underlying t = some (.slice e)) (he : P.underlying e = some (.struct fs))
    (hone : oneCellFields P fs = true) (hC : P.cellsOf e = fs.size) (h : DataW.trod enc P w base spare held fuel t cs = some x) :
    cs = [.slice none 0 0] ∨
    ∃ (a : Addr) (len cap : Nat), cs = [.slice (some a) len cap] ∧ len ≤ cap ∧ cap ≤ maxLen ∧
      ∀ i, i < len → ∃ n : Nat, ∀ (j : Nat) (f : Field), fs[j]? = some f → ∃ (v : Value) (y : DataW H × List MemPlace), w.cell? (a.add (i * fs.size + j)) = some v ∧ DataW.trod enc P w base spare held n f.type [v] = some y := by
  rcases open_slice ht h with h0 | ⟨a, len, cap, m, n, D, Pl, hcs, hb, hl, hm, hmm, hx, hi⟩
  · exact .inl h0.1
  · refine .inr ⟨a, len, cap, hcs, hl, hm, fun i hil => ?_⟩
    obtain ⟨cs', hc, ht'⟩ := hi i (by rw [hmm]; split <;> omega)
    rw [hC] at hc
    obtain ⟨ys, n', hn', hy, hlen, hyl, hf⟩ := DataW.trod_struct he ht'
    obtain ⟨_, hcl, hat⟩ := World.cells?_some hc
    refine ⟨n', fun j f hj => ?_⟩
    obtain ⟨ho, hk⟩ := hone_of hone j f hj
    have hjl : j < fs.size := (Array.getElem?_eq_some_iff.1 hj).1
    have hcell := hat j hjl
    have hv : cs'[j]? = some (cs'[j]'(by omega)) := List.getElem?_eq_getElem (by omega)
    have h1 := hf j f hj
    rw [ho, hk] at h1
    have hone' : (cs'.drop j).take 1 = [cs'[j]'(by omega)] := by
      rw [List.drop_eq_getElem_cons (by omega)]
      rfl
    rw [hone'] at h1
    have hys : ys[j]? = some (ys[j]'(by omega)) := List.getElem?_eq_getElem (by omega)
    refine ⟨_, _, ?_, h1.trans hys⟩
    rw [← Go.Deep.add_add, hcell, hv]
end

theorem trod_int_inv {H : Type} {enc : TypeId × Value → H} {P : Program} {w : World} {base : Nat} {spare : Nat → Bool} {held : Bool} {n : Nat} {t : TypeId} {k : IntKind} {v : Value} {y : DataW H × List MemPlace}
    (ht : P.underlying t = some (.int k)) (h : DataW.trod enc P w base spare held n t [v] = some y) : ∃ z, v = .int k z := by
  cases n with
  | zero => simp [DataW.trod] at h
  | succ n =>
    unfold DataW.trod at h
    rw [ht] at h
    cases v <;> simp at h
    exact ⟨_, by rw [h.1.1]⟩
theorem trod_string_inv {H : Type} {enc : TypeId × Value → H} {P : Program} {w : World} {base : Nat} {spare : Nat → Bool} {held : Bool} {n : Nat} {t : TypeId} {v : Value} {y : DataW H × List MemPlace}
    (ht : P.underlying t = some .string) (h : DataW.trod enc P w base spare held n t [v] = some y) : ∃ z : ByteArray, v = .string z ∧ z.size ≤ maxLen := by
  cases n with
  | zero => simp [DataW.trod] at h
  | succ n =>
    unfold DataW.trod at h
    rw [ht] at h
    cases v <;> simp at h
    exact ⟨_, rfl, h.1⟩

theorem build_list {α : Type} {Q : Nat → α → Prop} : ∀ n : Nat, (∀ i, i < n → ∃ x, Q i x) → ∃ l : List α, l.length = n ∧ ∀ i a, l[i]? = some a → Q i a
  | 0, _ => ⟨[], rfl, fun i a h => by simp at h⟩
  | n + 1, h => by
    obtain ⟨l, hl, hq⟩ := build_list n (fun i hi => h i (by omega))
    obtain ⟨x, hx⟩ := h n (by omega)
    refine ⟨l ++ [x], by simp [hl], fun i a ha => ?_⟩
    rw [List.getElem?_append] at ha
    split at ha
    · exact hq i a ha
    · rename_i hge
      have : i = n := by
        have := (List.getElem?_eq_some_iff.1 ha).1
        simp at this; omega
      subst this
      rw [hl] at ha
      simp at ha
      exact ha ▸ hx

theorem open_acts {H : Type} {enc : TypeId × Value → H} {w : World} {base : Nat} {spare : Nat → Bool} {held : Bool} {fuel : Nat} {A : Option Addr} {len cap : Nat} {x : DataW H × List MemPlace}
    (h : DataW.trod enc Tryd.prog w base spare held fuel 22 [.slice A len cap] = some x) : ∃ l : List ActT, Acts w A l ∧ l.length = len ∧ len ≤ 9223372036854775807 := by
  rcases slice_fields Tryd.underlying22 Tryd.underlying31 (by kernel_rfl) (by kernel_rfl) h with hcs | ⟨a, len', cap', hcs, hl, hm, hi⟩
  · simp at hcs
    obtain ⟨rfl, rfl, rfl⟩ := hcs
    exact ⟨[], fun i a hi => by simp at hi, rfl, by omega⟩
  · simp at hcs
    obtain ⟨rfl, rfl, rfl⟩ := hcs
    unfold maxLen at hm
    have hsp : 0 < len → a.spot = none := by
      intro hpos
      obtain ⟨n, hf⟩ := hi 0 hpos
      obtain ⟨v0, y0, c0, t0⟩ := hf 0 _ rfl
      obtain ⟨B, O, sp⟩ := a
      cases sp with
      | none => rfl
      | some s =>
        exfalso
        simp [World.cell?, Addr.add] at c0
        split at c0 <;> simp at c0
    have hq : ∀ i, i < len → ∃ x : ActT, (∃ B O, some a = some ⟨B, O, none⟩ ∧ B < w.heap.size ∧ x.name.size ≤ maxLen ∧ w.cell? ⟨B, O + i * 4, none⟩ = some (.int .i64 x.kind) ∧ w.cell? ⟨B, O + i * 4 + 1, none⟩ = some (.string x.name) ∧
        w.cell? ⟨B, O + i * 4 + 2, none⟩ = some (.int .i64 x.at_) ∧ w.cell? ⟨B, O + i * 4 + 3, none⟩ = some (.int .i64 x.now)) := by
      intro i hil
      obtain ⟨n, hf⟩ := hi i hil
      obtain ⟨v0, y0, c0, t0⟩ := hf 0 _ rfl
      obtain ⟨v1, y1, c1, t1⟩ := hf 1 _ rfl
      obtain ⟨v2, y2, c2, t2⟩ := hf 2 _ rfl
      obtain ⟨v3, y3, c3, t3⟩ := hf 3 _ rfl
      obtain ⟨z0, rfl⟩ := trod_int_inv Tryd.underlying3 t0
      obtain ⟨z1, rfl, hz1⟩ := trod_string_inv Tryd.underlying9 t1
      obtain ⟨z2, rfl⟩ := trod_int_inv Tryd.underlying3 t2
      obtain ⟨z3, rfl⟩ := trod_int_inv Tryd.underlying3 t3
      have hs := hsp (by omega)
      obtain ⟨B, O, sp⟩ := a
      simp only at hs
      subst hs
      have key : ∀ m, (Addr.add ⟨B, O, none⟩ m) = ⟨B, O + m, none⟩ := fun m => by unfold Addr.add; split <;> simp_all
      rw [key] at c0 c1 c2 c3
      have c0' : w.cell? ⟨B, O + i * 4, none⟩ = some (.int .i64 z0) := c0
      refine ⟨⟨z0, z1, z2, z3⟩, B, O, rfl, ?_, hz1, c0', c1, c2, c3⟩
      unfold World.cell? at c0'
      simp only at c0'
      split at c0'
      · rename_i hb; exact (Array.getElem?_eq_some_iff.1 hb).1
      · cases c0'
    obtain ⟨l, hl', hq'⟩ := build_list len hq
    exact ⟨l, hq', hl', by omega⟩

theorem open_acts_cap {H : Type} {enc : TypeId × Value → H} {w : World} {base : Nat} {spare : Nat → Bool} {held : Bool} {fuel : Nat} {A : Option Addr} {len cap : Nat} {x : DataW H × List MemPlace}
    (h : DataW.trod enc Tryd.prog w base spare held fuel 22 [.slice A len cap] = some x) : ∃ l : List ActT, Acts w A l ∧ l.length = len ∧ len ≤ 9223372036854775807 ∧ len ≤ cap ∧ cap ≤ 9223372036854775807 := by
  obtain ⟨l, h1, h2, h3⟩ := open_acts h
  refine ⟨l, h1, h2, h3, ?_⟩
  rcases slice_fields Tryd.underlying22 Tryd.underlying31 (by kernel_rfl) (by kernel_rfl) h with hcs | ⟨a, len', cap', hcs, hl, hm, hi⟩
  · simp at hcs
    obtain ⟨_, rfl, rfl⟩ := hcs
    omega
  · simp at hcs
    obtain ⟨_, rfl, rfl⟩ := hcs
    unfold maxLen at hm
    omega

end Go.Proofs.YtomnmgmehagjfaaDoor.Ck
