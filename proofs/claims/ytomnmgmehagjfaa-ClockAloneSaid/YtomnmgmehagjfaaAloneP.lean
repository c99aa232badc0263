/-
  ClockAlone, the plain part: a source that is alone moves the mark.
  No condition: lemmas.
-/
import Derived.Test.YtomnmgmehagjfaaRisesP
namespace Go.Proofs.Ytomnmgmehagjfaa.Ck
open Go Go.RowKit Go.Maps

structure AI (slack : Int) (c : Ck) (most : Int) : Prop where
  ok : Ok c
  sl : c.slack = slack
  idle : c.idle = 0
  lo : -1 ≤ most
  hi : most ≤ 1099511627776
  mark : c.mark = max (-1) (most - slack - 1)
  ls : (c.L = [] ∧ most = -1) ∨ (∃ n, c.L = [([97], most, n)] ∧ 0 ≤ most)

theorem active0 {now last : Int} : activeB 0 now last = true := rfl
theorem AI_rise_same {slack most : Int} {c : Ck} (h : AI slack c most) : (rise c).mark = c.mark := by
  unfold rise
  rw [h.idle]
  rcases h.ls with ⟨e, _⟩ | ⟨n, e, h0⟩
  · rw [e]; rfl
  · rw [e]
    show max c.mark (most - c.slack - 1) = c.mark
    rw [h.mark, h.sl]; omega
theorem AI_tick {slack most : Int} {c : Ck} (h : AI slack c most) (n : Int) : AI slack (tick c n) most := by
  have h2 : AI slack { c with now := max c.now (within n) } most := ⟨ok_now h.ok n, h.sl, h.idle, h.lo, h.hi, h.mark, h.ls⟩
  have h3 := AI_rise_same h2
  exact ⟨ok_rise h2.ok, by rw [tick_slack]; exact h.sl, by rw [tick_idle]; exact h.idle, h.lo, h.hi, by
    show (rise { c with now := max c.now (within n) }).mark = _
    rw [h3]; exact h.mark, by rw [tick_L]; exact h.ls⟩
theorem AI_tick_mark {slack most : Int} {c : Ck} (h : AI slack c most) (n : Int) : (tick c n).mark = c.mark := by rw [(AI_tick h n).mark, h.mark]
theorem AI_ok {slack most : Int} {c : Ck} (h : AI slack c most) (x n : Int) : hearOk true c x n = (decide (0 ≤ x) && decide (x ≤ 1099511627776) && decide (c.mark < x)) := by
  unfold hearOk
  rw [AI_tick_mark h]
  have : may x = (decide (0 ≤ x) && decide (x ≤ 1099511627776)) := by
    rw [Bool.eq_iff_iff, may_iff]; simp
  rw [this, Bool.true_and]
theorem AI_hear {slack most : Int} {c : Ck} (h : AI slack c most) {x n : Int} (hk : hearOk true c x n = true) : AI slack (hear true c [97] x n) (max most x) := by
  have ht := AI_tick h n
  obtain ⟨h1, h2, h3, _⟩ := hearOk_may hk
  have h4 := h.lo
  have h5 := h.hi
  have hL : put (tick c n).L [97] (max x (at0 (tick c n).L [97]), (tick c n).now) = [([97], max most x, (tick c n).now)] := by
    rcases ht.ls with ⟨e, e2⟩ | ⟨m, e, h0⟩
    · rw [e, e2]
      show [(([97] : List UInt8), max x 0, (tick c n).now)] = _
      have : max x 0 = max (-1) x := by omega
      rw [this]
    · rw [e]
      show [(([97] : List UInt8), max x most, (tick c n).now)] = _
      rw [Int.max_comm]
  have hmk : (hear true c [97] x n).mark = max (tick c n).mark (max most x - slack - 1) := by
    unfold hear heard
    rw [if_pos hk]
    simp only [hL]
    unfold rise
    simp only [ht.idle]
    show max (tick c n).mark (max most x - (tick c n).slack - 1) = _
    rw [ht.sl]
  refine ⟨ok_hear h.ok _ _ _, ?_, ?_, by omega, by omega, ?_, ?_⟩
  · unfold hear heard; rw [if_pos hk, rise_slack]; exact ht.sl
  · unfold hear heard; rw [if_pos hk, rise_idle]; exact ht.idle
  · rw [hmk, ht.mark]; omega
  · right
    refine ⟨(tick c n).now, ?_, by omega⟩
    unfold hear heard
    rw [if_pos hk, rise_L]
    exact hL
theorem AI_heard {slack most : Int} {c : Ck} (h : AI slack c most) : heardV c [97] = most := by
  unfold heardV
  rcases h.ls with ⟨e, e2⟩ | ⟨m, e, h0⟩
  · rw [e, e2]; rfl
  · rw [e]; rfl
theorem AI_active {slack most : Int} {c : Ck} (h : AI slack c most) : activeV c [97] = decide (0 ≤ most) := by
  unfold activeV
  rcases h.ls with ⟨e, e2⟩ | ⟨m, e, h0⟩
  · rw [e, e2]; rfl
  · rw [e, h.idle]; exact (decide_eq_true h0).symm

end Go.Proofs.Ytomnmgmehagjfaa.Ck
