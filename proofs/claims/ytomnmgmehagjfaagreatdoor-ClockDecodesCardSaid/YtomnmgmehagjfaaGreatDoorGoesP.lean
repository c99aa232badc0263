/-
  The clock goes on: what stays true behind every Tick and Hear.
  No condition: lemmas.
-/
import Derived.Test.YtomnmgmehagjfaaGreatDoorDecP
namespace Go.Proofs.YtomnmgmehagjfaaGreatDoor.Ck
open Go Go.RowKit Go.Maps Go.Shelf Go.Lib
set_option linter.unusedVariables false
set_option linter.unusedSimpArgs false

/-- A clock that its own calls have made. -/
structure Own (c : Ck) : Prop where
  ok : Ok c
  nm : ∀ e ∈ c.L, nameB ⟨e.1.toArray⟩ = true
  ft : fineT c = true
theorem fineT_rise (c : Ck) : fineT (rise c) = true := by
  have hb : toldB (rise c) = toldB c := by unfold toldB; rw [rise_idle, rise_now, rise_L]
  have hv : toldV (rise c) = toldV c := by unfold toldV; rw [rise_idle, rise_now, rise_L, rise_slack]
  unfold fineT
  rw [hb, hv, rise_told c]
  cases ht : toldB c
  · rfl
  · simp only [Bool.not_true, Bool.false_or, if_pos, decide_eq_true_eq]
    exact Int.le_max_right _ _
theorem own_new (a b : Int) : Own (newC a b) := ⟨ok_new a b, fun e he => by unfold newC at he; simp at he, rfl⟩
theorem own_tick {c : Ck} (h : Own c) (n : Int) : Own (tick c n) := ⟨ok_tick h.ok n, fun e he => h.nm e (by rw [tick_L] at he; exact he), fineT_rise _⟩
theorem own_hear {c : Ck} (h : Own c) (s : ByteArray) (a n : Int) : Own (hear (nameB s) c s.data.toList a n) := by
  refine ⟨ok_hear h.ok _ a n, ?_, ?_⟩
  · intro e he
    unfold hear at he
    split at he
    · rename_i hk
      have hn := (hearOk_may hk).2.2.2
      unfold heard at he
      simp only [rise_L] at he
      rcases mem_put.1 he with rfl | ⟨he, _⟩
      · simpa using hn
      · rw [tick_L] at he; exact h.nm e he
    · rw [tick_L] at he; exact h.nm e he
  · unfold hear
    split
    · exact fineT_rise _
    · exact fineT_rise _
theorem own_dec {c : Ck} (h : Own c) (hr : Rising c.L) : decB (encB c) = some c := decB_own h.ok hr h.nm h.ft
theorem own_len {c : Ck} (h : Own c) : ∀ e ∈ c.L, e.1.length ≤ 1000 := fun e he => by
  have h9 := ((nameB_iff _).1 (h.nm e he)).2.1
  have h10 : (⟨e.1.toArray⟩ : ByteArray).size = e.1.length := by simp [ByteArray.size]
  omega
end Go.Proofs.YtomnmgmehagjfaaGreatDoor.Ck
