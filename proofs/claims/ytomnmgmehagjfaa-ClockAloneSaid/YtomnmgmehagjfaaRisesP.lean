/-
  ClockRises, the plain part: neither mark nor now falls, and the mark stays below the greatest tick that was heard.
  No condition: lemmas.
-/
import Derived.Test.YtomnmgmehagjfaaPlain
namespace Go.Proofs.Ytomnmgmehagjfaa.Ck
open Go Go.RowKit Go.Maps

structure RI (c : Ck) (most : Int) (k : Nat) : Prop where
  ok : Ok c
  lo : -1 ≤ most
  hi : most ≤ 1099511627776
  le : ∀ e ∈ c.L, e.2.1 ≤ most
  mkm : c.mark < 0 ∨ c.mark < most
  len : c.L.length ≤ k

theorem rise_mark_cases (c : Ck) : (rise c).mark = c.mark ∨ ∃ e ∈ c.L, (rise c).mark = e.2.1 - c.slack - 1 := by
  unfold rise
  cases hl : least c.idle c.now c.L with
  | none => exact .inl rfl
  | some m =>
    obtain ⟨⟨e, he, _, rfl⟩, _⟩ := least_some.1 hl
    show max c.mark (e.2.1 - c.slack - 1) = c.mark ∨ ∃ e' ∈ c.L, max c.mark (e.2.1 - c.slack - 1) = e'.2.1 - c.slack - 1
    rcases Int.le_total c.mark (e.2.1 - c.slack - 1) with h | h
    · exact .inr ⟨e, he, by omega⟩
    · exact .inl (by omega)

theorem RI_rise {c : Ck} {most : Int} {k : Nat} (h : RI c most k) : RI (rise c) most k := by
  refine ⟨ok_rise h.ok, h.lo, h.hi, by rw [rise_L]; exact h.le, ?_, by rw [rise_L]; exact h.len⟩
  rcases rise_mark_cases c with e | ⟨x, hx, e⟩
  · rw [e]; exact h.mkm
  · rw [e]
    have h1 := h.le x hx
    have h2 := h.ok.s0
    right; omega
theorem RI_tick {c : Ck} {most : Int} {k : Nat} (h : RI c most k) (n : Int) : RI (tick c n) most k :=
  RI_rise (c := { c with now := max c.now (within n) }) ⟨ok_now h.ok n, h.lo, h.hi, h.le, h.mkm, h.len⟩
theorem put_le {c : Ck} {most : Int} {k : Nat} (h : RI c most k) {s : List UInt8} {a : Int} (ha : 0 ≤ a) : ∀ e ∈ put c.L s (max a (at0 c.L s), c.now), e.2.1 ≤ max most a := by
  intro e he
  rcases mem_put.1 he with rfl | ⟨he, _⟩
  · simp only
    unfold at0
    cases hg : get c.L s with
    | none => simp only; omega
    | some v => have := h.le _ (get_mem hg); simp only at this ⊢; omega
  · have := h.le e he; omega
theorem RI_hear {c : Ck} {most : Int} {k : Nat} (h : RI c most k) {nm : Bool} {s : List UInt8} {a n : Int} (hk : hearOk nm c a n = true) : RI (hear nm c s a n) (max most a) (k + 1) := by
  have ht := RI_tick h n
  obtain ⟨h1, h2, h3, _⟩ := hearOk_may hk
  have hl := hear_length nm c s a n
  have hle := put_le ht (s := s) h1
  refine ⟨ok_hear h.ok _ _ _, by have := h.lo; omega, by have := h.hi; omega, ?_, ?_, by have := h.len; omega⟩
  · unfold hear heard
    rw [if_pos hk, rise_L]
    exact hle
  · unfold hear heard
    rw [if_pos hk]
    rcases rise_mark_cases { tick c n with L := put (tick c n).L s (max a (at0 (tick c n).L s), (tick c n).now) } with e | ⟨x, hx, e⟩
    · simp only at e ⊢
      rw [e]
      rcases ht.mkm with h4 | h4
      · exact .inl h4
      · right; omega
    · simp only at e ⊢
      rw [e]
      have h4 := hle x hx
      have h5 := ht.ok.s0
      right; omega

theorem hear_mark_le (nm : Bool) (c : Ck) (s : List UInt8) (a n : Int) : (tick c n).mark ≤ (hear nm c s a n).mark := by
  unfold hear heard
  split
  · exact rise_mark_le { tick c n with L := put (tick c n).L s (max a (at0 (tick c n).L s), (tick c n).now) }
  · exact Int.le_refl _
theorem hear_now (nm : Bool) (c : Ck) (s : List UInt8) (a n : Int) : (hear nm c s a n).now = (tick c n).now := by
  unfold hear heard
  split
  · rw [rise_now]
  · rfl

end Go.Proofs.Ytomnmgmehagjfaa.Ck
