/-
  ClockSlack, the plain part: two clocks that differ by their slack alone hear the same, and the mark of the one with the greater slack is never above.
  No condition: lemmas.
-/
import Derived.Test.YtomnmgmehagjfaaRisesP
namespace Go.Proofs.Ytomnmgmehagjfaa.Ck
open Go Go.RowKit Go.Maps

structure SI (c d : Ck) (k : Nat) : Prop where
  okc : Ok c
  okd : Ok d
  idle : d.idle = c.idle
  slack : c.slack ≤ d.slack
  now : d.now = c.now
  ls : d.L = c.L
  mark : d.mark ≤ c.mark
  len : c.L.length ≤ k

theorem SI_rise {c d : Ck} {k : Nat} (h : SI c d k) : SI (rise c) (rise d) k := by
  refine ⟨ok_rise h.okc, ok_rise h.okd, by rw [rise_idle, rise_idle]; exact h.idle, by rw [rise_slack, rise_slack]; exact h.slack, by rw [rise_now, rise_now]; exact h.now, by rw [rise_L, rise_L]; exact h.ls, ?_, by rw [rise_L]; exact h.len⟩
  have h1 := h.mark
  have h2 := h.slack
  unfold rise
  rw [h.idle, h.now, h.ls]
  cases hl : least c.idle c.now c.L with
  | none => exact h1
  | some m => show max d.mark (m - d.slack - 1) ≤ max c.mark (m - c.slack - 1); omega
theorem SI_tick {c d : Ck} {k : Nat} (h : SI c d k) (n : Int) : SI (tick c n) (tick d n) k := by
  refine SI_rise (c := { c with now := max c.now (within n) }) (d := { d with now := max d.now (within n) }) ⟨ok_now h.okc n, ok_now h.okd n, h.idle, h.slack, ?_, h.ls, h.mark, h.len⟩
  show max d.now (within n) = max c.now (within n)
  rw [h.now]
theorem SI_hear {c d : Ck} {k : Nat} (h : SI c d k) {nm : Bool} {s : List UInt8} {a n : Int} (hk : hearOk nm c a n = true) : hearOk nm d a n = true ∧ SI (hear nm c s a n) (hear nm d s a n) (k + 1) := by
  have ht := SI_tick h n
  obtain ⟨h1, h2, h3, h4⟩ := hearOk_may hk
  have hm := ht.mark
  have hd : hearOk nm d a n = true := by
    unfold hearOk
    rw [h4, (may_iff a).2 ⟨h1, h2⟩]
    simp only [Bool.and_self, Bool.true_and, decide_eq_true_eq]
    omega
  refine ⟨hd, ?_⟩
  unfold hear heard
  rw [if_pos hk, if_pos hd]
  simp only [ht.ls, ht.now]
  refine SI_rise ?_
  have hl := put_length (tick c n).L s (max a (at0 (tick c n).L s), (tick c n).now)
  have key : ∀ e ∈ put (tick c n).L s (max a (at0 (tick c n).L s), (tick c n).now), 0 ≤ e.2.1 ∧ e.2.1 ≤ 1099511627776 ∧ 0 ≤ e.2.2 ∧ e.2.2 ≤ (tick c n).now := by
    intro e he
    have hb := at0_bd ht.okc s
    rcases mem_put.1 he with rfl | ⟨he, _⟩
    · have := ht.okc.n0; refine ⟨?_, ?_, ?_, Int.le_refl _⟩ <;> (simp only; omega)
    · exact ht.okc.l e he
  exact ⟨⟨ht.okc.s0, ht.okc.s1, ht.okc.i0, ht.okc.i1, ht.okc.n0, ht.okc.n1, ht.okc.m0, ht.okc.m1, key⟩, ⟨ht.okd.s0, ht.okd.s1, ht.okd.i0, ht.okd.i1, ht.okc.n0, ht.okc.n1, ht.okd.m0, ht.okd.m1, key⟩, ht.idle, ht.slack, rfl, rfl, ht.mark, by have := ht.len; simp only; omega⟩
theorem within_now {c : Ck} (h : Ok c) : within c.now = c.now := within_id h.n0 h.n1
theorem SI_late {c d : Ck} {k : Nat} (h : SI c d k) {n : Int} (he : (tick c n).now = d.now) : SI (tick c n) d k :=
  ⟨ok_tick h.okc n, h.okd, by rw [tick_idle]; exact h.idle, by rw [tick_slack]; exact h.slack, he.symm, by rw [tick_L]; exact h.ls, by have := tick_mark_le c n; have := h.mark; omega, by rw [tick_L]; exact h.len⟩
theorem SI_late2 {c d : Ck} {k : Nat} (h : SI c d k) {n : Int} : SI (tick c n) (tick d (tick c n).now) k := by
  have hc := ok_tick h.okc n
  have ht := SI_tick h n
  have h1 := within_now hc
  have h2 : max d.now (within (tick c n).now) = max d.now (within n) := by
    rw [h1, tick_now, h.now]; omega
  have e : tick d (tick c n).now = tick d n := by
    rw [show tick d (tick c n).now = rise { d with now := max d.now (within (tick c n).now) } from rfl, h2]; rfl
  rw [e]; exact ht

theorem wrap_add {a b : Int} (h0 : 0 ≤ a) (h1 : a ≤ 1073741824) (h2 : 0 ≤ b) (h3 : b ≤ 1073741824) : 0 ≤ a + b ∧ a + b ≤ 2147483648 := by omega

end Go.Proofs.Ytomnmgmehagjfaa.Ck
