/-
  The list of calls in memory; the contract of the law's few.
  No condition: lemmas.
-/
import Derived.Test.YtomnmgmehagjfaaDoorRead
namespace Go.Proofs.YtomnmgmehagjfaaDoor.Ck
open Go Go.RowKit Go.Maps Go.Shelf Go.Lib

structure ActT where
  kind : Int
  name : ByteArray
  at_ : Int
  now : Int

/-- The slice at A holds the calls of l. -/
def Acts (w : World) (A : Option Addr) (l : List ActT) : Prop :=
  ∀ i a, l[i]? = some a → ∃ B O, A = some ⟨B, O, none⟩ ∧ B < w.heap.size ∧ a.name.size ≤ maxLen ∧ w.cell? ⟨B, O + i * 4, none⟩ = some (.int .i64 a.kind) ∧ w.cell? ⟨B, O + i * 4 + 1, none⟩ = some (.string a.name) ∧
    w.cell? ⟨B, O + i * 4 + 2, none⟩ = some (.int .i64 a.at_) ∧ w.cell? ⟨B, O + i * 4 + 3, none⟩ = some (.int .i64 a.now)
theorem Acts.below {w w' : World} {A : Option Addr} {l : List ActT} (h : Acts w A l) (hb : Below w.heap.size w w') : Acts w' A l := by
  intro i a hi
  obtain ⟨B, O, rfl, hB, hs, h0, h1, h2, h3⟩ := h i a hi
  have hz := hb.size
  exact ⟨B, O, rfl, by omega, hs, (hb.cell (p := ⟨B, _, none⟩) hB).trans h0, (hb.cell (p := ⟨B, _, none⟩) hB).trans h1, (hb.cell (p := ⟨B, _, none⟩) hB).trans h2, (hb.cell (p := ⟨B, _, none⟩) hB).trans h3⟩

def fewB (l : List ActT) : Bool := l.all (fun a => decide (a.name.size ≤ 100)) && decide (l.length ≤ 101)

set_option maxHeartbeats 1000000 in
set_option maxRecDepth 100000 in
theorem few_calls (A : Option Addr) (n cap : Nat) (l : List ActT) (w : World) (h : Acts w A l) (hl : l.length = n) (hn : n ≤ 9223372036854775807) :
    Calls Tryd.prog 6 #[.slice A n cap] w fun e w' => e = .returned (.bool (fewB l)) ∧ w = w' := by
  have HL := Lib.hid hl
  have HA := Lib.hid h
  have HF : Hid (fewB l = (l.all (fun a => decide (a.name.size ≤ 100)) && decide (l.length ≤ 101))) := rfl
  clear h hl
  go_enter Tryd.func6, Tryd.ntmps6
  go_wp2
  go_loop [3] (fun i => ∃ k : Nat, k ≤ n ∧ k ≤ 101 ∧ i = .int .i64 k ∧ Hid (∀ j a, j < k → l[j]? = some a → a.name.size ≤ 100)) (fun i => n - (intOf i).toNat)
  case atStart => exact ⟨0, Nat.zero_le _, by omega, rfl, fun j a hj => by omega⟩
  case round =>
    obtain ⟨k, hk, hk1, rfl, hall⟩ := hrel
    by_cases hlt : k < n
    · have hlk : k < l.length := by rw [HL.out]; exact hlt
      obtain ⟨a, ha⟩ : ∃ a, l[k]? = some a := ⟨_, List.getElem?_eq_getElem hlk⟩
      obtain ⟨B, O, rfl, hB, hs, h0, h1, h2, h3⟩ := HA.out k a ha
      have HK := Lib.hid ha
      clear ha
      unfold maxLen at hs
      by_cases hsz : a.name.size ≤ 100
      · by_cases hk2 : k ≤ 100
        · go_wp2
          go_round
          case rel =>
            refine ⟨k + 1, by omega, by omega, by go_num, ?_⟩
            intro j b hj hb
            by_cases hjk : j = k
            · subst hjk; rw [HK.out] at hb; cases hb; exact hsz
            · exact hall j b (by omega) hb
          case measure => simp [intOf]; omega
        · go_wp2
          go_ret
          refine ⟨?_, rfl⟩
          rw [HF.out, HL.out]
          have : decide (n ≤ 101) = false := decide_eq_false (by omega)
          rw [this, Bool.and_false]; rfl
      · go_wp2
        go_ret
        refine ⟨?_, rfl⟩
        rw [HF.out]
        have : l.all (fun a => decide (a.name.size ≤ 100)) = false := by
          rw [List.all_eq_false]
          exact ⟨a, List.mem_of_getElem? HK.out, by simpa using hsz⟩
        rw [this]; rfl
    · go_wp2
      go_ret
      refine ⟨?_, rfl⟩
      rw [HF.out, HL.out]
      have e1 : decide (n ≤ 101) = true := decide_eq_true (by omega)
      have e2 : l.all (fun a => decide (a.name.size ≤ 100)) = true := by
        rw [List.all_eq_true]
        intro x hx
        obtain ⟨i, hi⟩ := List.getElem?_of_mem hx
        have hil := (List.getElem?_eq_some_iff.1 hi).1
        rw [HL.out] at hil
        exact decide_eq_true (hall i x (by omega) hi)
      rw [e1, e2]; rfl

end Go.Proofs.YtomnmgmehagjfaaDoor.Ck
