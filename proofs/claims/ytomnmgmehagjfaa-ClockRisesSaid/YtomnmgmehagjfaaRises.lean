/-
  ClockRises: the walk.
  No condition: lemmas.
-/
import Derived.Test.YtomnmgmehagjfaaFew
import Derived.Test.YtomnmgmehagjfaaRisesP
namespace Go.Proofs.Ytomnmgmehagjfaa.Ck
open Go Go.RowKit Go.Maps Go.Shelf Go.Lib

theorem RI_new (a b : Int) : RI (newC a b) (-1) 0 := ⟨ok_new a b, by omega, by omega, fun e he => by simp [newC] at he, .inl (by show (-1 : Int) < 0; omega), by simp [newC]⟩

/-- What the loop keeps. -/
def RL (w : World) (n p b : Nat) (v8 v9 : Value) (wr : World) : Prop :=
  ∃ (k : Nat) (c : Ck) (most : Int), k ≤ n ∧ v9 = .int .i64 k ∧ v8 = .int .i64 most ∧ Clk wr p b c ∧ RI c most k ∧ Below w.heap.size w wr

set_option maxHeartbeats 4000000 in
set_option maxRecDepth 100000 in
theorem rises_calls (slack idle : Int) (A : Option Addr) (n cap : Nat) (l : List ActT) (w : World) (h : Acts w A l) (hl : l.length = n) (hn : n ≤ 9223372036854775807) :
    Calls Try.prog 3 #[.int .i64 slack, .int .i64 idle, .slice A n cap] w fun e w' => e = .returned (.bool true) ∧ Below w.heap.size w w' := by
  have HL := Lib.hid hl
  have HA := Lib.hid h
  clear h hl
  cases hf : fewB l with
  | false =>
    go_enter Try.func3, Try.ntmps3
    go_wp2_with (first
      | (go_at_call 7; refine (awake_calls _).mono ?_; rintro e w1 ⟨rfl, hb1⟩)
      | (go_at_call 8; refine (few_calls A n cap l _ (HA.out.below hb1) HL.out hn).mono ?_; rintro e w2 ⟨rfl, rfl⟩))
    go_ret
    exact ⟨rfl, hb1⟩
  | true =>
    have hsz : ∀ a ∈ l, a.name.size ≤ 100 := by
      unfold fewB at hf
      simp only [Bool.and_eq_true, List.all_eq_true, decide_eq_true_eq] at hf
      exact hf.1
    have hlen : n ≤ 101 := by
      unfold fewB at hf
      simp only [Bool.and_eq_true, List.all_eq_true, decide_eq_true_eq, HL.out] at hf
      exact hf.2
    have HS := Lib.hid hsz
    clear hsz
    go_enter Try.func3, Try.ntmps3
    go_wp2_with (first
      | (go_at_call 7; refine (awake_calls _).mono ?_; rintro e w1 ⟨rfl, hb1⟩)
      | (go_at_call 8; refine (few_calls A n cap l _ (HA.out.below hb1) HL.out hn).mono ?_; rintro e w2 ⟨rfl, rfl⟩)
      | (go_at_call 9; refine (new_calls slack idle _).mono ?_; rintro e w3 ⟨rfl, hc3, hb3⟩))
    have hz1 := hb1.size
    have hb03 : Below w.heap.size w w3 := hb1.trans (hb3.mono hz1)
    generalize hp : w1.heap.size + 1 = p at *
    generalize hb : w1.heap.size = b at *
    have hpw : w.heap.size ≤ p := by omega
    have hbw : w.heap.size ≤ b := hz1
    clear hp hb hb3
    go_loopw [8, 9] (fun v8 v9 wr => RL w n p b v8 v9 wr) (fun _ i _ => n - (intOf i).toNat)
    case atStart => exact ⟨0, newC slack idle, -1, Nat.zero_le _, rfl, rfl, hc3, RI_new _ _, hb03⟩
    case round =>
      obtain ⟨k, c, most, hk, rfl, rfl, hc, hri, hbr⟩ := hrel
      by_cases hlt : k < n
      · have hlk : k < l.length := by rw [HL.out]; exact hlt
        obtain ⟨a, ha⟩ : ∃ a, l[k]? = some a := ⟨_, List.getElem?_eq_getElem hlk⟩
        obtain ⟨B, O, rfl, hB, hs, h0, h1, h2, h3⟩ := (HA.out.below hbr) k a ha
        have hs100 := HS.out a (List.mem_of_getElem? ha)
        have hok := hri.ok
        have HK := Lib.hid ha
        clear ha
        by_cases hkd : a.kind = 0
        · have hkd' : (a.kind == 0) = true := by simp [hkd]
          have HKD := Lib.hid hkd
          clear hkd
          have hri1 := RI_tick hri a.now
          have q1 : decide ((tick c a.now).mark < c.mark) = false := decide_eq_false (by have := tick_mark_le c a.now; omega)
          have q2 : decide ((tick c a.now).now < c.now) = false := decide_eq_false (by have := tick_now_le c a.now; omega)
          have q5 : ((tick c a.now).mark != (tick c a.now).mark) = false := by simp
          by_cases hm : 0 ≤ (tick c a.now).mark
          · have q3 : decide (0 ≤ (tick c a.now).mark) = true := decide_eq_true hm
            have q4 : decide (most ≤ (tick c a.now).mark) = false := decide_eq_false (by have := hri1.mkm; omega)
            go_wp2_with (first
              | (go_at_call 10; first | (refine (mark_calls p b c _ hc).mono ?_; rintro e w4 ⟨rfl, rfl⟩) | (refine (mark_calls p b _ _ hc5).mono ?_; rintro e w4 ⟨rfl, rfl⟩))
              | (go_at_call 11; first | (refine (now_calls p b c _ hc).mono ?_; rintro e w4 ⟨rfl, rfl⟩) | (refine (now_calls p b _ _ hc5).mono ?_; rintro e w4 ⟨rfl, rfl⟩))
              | (go_at_call 12; refine (tick_calls p b c _ _ hc hok).mono ?_; rintro e w5 ⟨rfl, hc5, hf5⟩))
            go_roundw
            case rel => exact ⟨k + 1, _, most, by omega, by go_num, rfl, hc5, ⟨hri1.ok, hri1.lo, hri1.hi, hri1.le, hri1.mkm, by have := hri1.len; omega⟩, hbr.trans (hf5.below hbr.size (fun j hj => by subst hj; exact hpw))⟩
            case measure => simp [intOf]; omega
          · have q3 : decide (0 ≤ (tick c a.now).mark) = false := decide_eq_false hm
            go_wp2_with (first
              | (go_at_call 10; first | (refine (mark_calls p b c _ hc).mono ?_; rintro e w4 ⟨rfl, rfl⟩) | (refine (mark_calls p b _ _ hc5).mono ?_; rintro e w4 ⟨rfl, rfl⟩))
              | (go_at_call 11; first | (refine (now_calls p b c _ hc).mono ?_; rintro e w4 ⟨rfl, rfl⟩) | (refine (now_calls p b _ _ hc5).mono ?_; rintro e w4 ⟨rfl, rfl⟩))
              | (go_at_call 12; refine (tick_calls p b c _ _ hc hok).mono ?_; rintro e w5 ⟨rfl, hc5, hf5⟩))
            go_roundw
            case rel => exact ⟨k + 1, _, most, by omega, by go_num, rfl, hc5, ⟨hri1.ok, hri1.lo, hri1.hi, hri1.le, hri1.mkm, by have := hri1.len; omega⟩, hbr.trans (hf5.below hbr.size (fun j hj => by subst hj; exact hpw))⟩
            case measure => simp [intOf]; omega
        · have hkd' : (a.kind == 0) = false := by simp [hkd]
          have HKD := Lib.hid hkd
          clear hkd
          cases hy : hearOk (nameB a.name) c a.at_ a.now with
          | false =>
            have hno := fun X (hX : Clk X p b c) => hear_no_calls p b c a.name a.at_ a.now X hX hok hs hy
            have HNO := Lib.hid hno
            clear hno hy
            have hri1 := RI_tick hri a.now
            have q1 : decide ((tick c a.now).mark < c.mark) = false := decide_eq_false (by have := tick_mark_le c a.now; omega)
            have q2 : decide ((tick c a.now).now < c.now) = false := decide_eq_false (by have := tick_now_le c a.now; omega)
            by_cases hm : 0 ≤ (tick c a.now).mark
            · have q3 : decide (0 ≤ (tick c a.now).mark) = true := decide_eq_true hm
              have q4 : decide (most ≤ (tick c a.now).mark) = false := decide_eq_false (by have := hri1.mkm; omega)
              go_wp2_with (first
                | (go_at_call 10; first | (refine (mark_calls p b c _ hc).mono ?_; rintro e w4 ⟨rfl, rfl⟩) | (refine (mark_calls p b _ _ hc5).mono ?_; rintro e w4 ⟨rfl, rfl⟩))
                | (go_at_call 11; first | (refine (now_calls p b c _ hc).mono ?_; rintro e w4 ⟨rfl, rfl⟩) | (refine (now_calls p b _ _ hc5).mono ?_; rintro e w4 ⟨rfl, rfl⟩)))
              refine wp_region_still_tail 16 (by kernel_rfl) (by kernel_rfl) ?_
              simp only [List.take_succ_cons, List.take_zero, List.drop_succ_cons, List.drop_zero]
              repeat still_step
              refine wpStill_nil ?_
              change wpList _ _ _ _ _ wr.drew
              have hcl : Clk wr.drew p b c := hc.of_blocks rfl rfl
              have hbl : Below w.heap.size w wr.drew := hbr.drew
              clear h1 h3 hc
              go_wp2_with (first
                | (go_at_call 13; refine (HNO.out _ hcl).mono ?_; rintro e w5 ⟨rfl, hc5, hf5⟩)
                | (go_at_call 10; refine (mark_calls p b _ _ hc5).mono ?_; rintro e w4 ⟨rfl, rfl⟩)
                | (go_at_call 11; refine (now_calls p b _ _ hc5).mono ?_; rintro e w4 ⟨rfl, rfl⟩))
              go_roundw
              case rel => exact ⟨k + 1, _, most, by omega, by go_num, rfl, hc5, ⟨hri1.ok, hri1.lo, hri1.hi, hri1.le, hri1.mkm, by have := hri1.len; omega⟩, hbl.trans (hf5.below hbl.size (fun j hj => by subst hj; exact hpw))⟩
              case measure => simp [intOf]; omega
            · have q3 : decide (0 ≤ (tick c a.now).mark) = false := decide_eq_false hm
              go_wp2_with (first
                | (go_at_call 10; first | (refine (mark_calls p b c _ hc).mono ?_; rintro e w4 ⟨rfl, rfl⟩) | (refine (mark_calls p b _ _ hc5).mono ?_; rintro e w4 ⟨rfl, rfl⟩))
                | (go_at_call 11; first | (refine (now_calls p b c _ hc).mono ?_; rintro e w4 ⟨rfl, rfl⟩) | (refine (now_calls p b _ _ hc5).mono ?_; rintro e w4 ⟨rfl, rfl⟩)))
              refine wp_region_still_tail 16 (by kernel_rfl) (by kernel_rfl) ?_
              simp only [List.take_succ_cons, List.take_zero, List.drop_succ_cons, List.drop_zero]
              repeat still_step
              refine wpStill_nil ?_
              change wpList _ _ _ _ _ wr.drew
              have hcl : Clk wr.drew p b c := hc.of_blocks rfl rfl
              have hbl : Below w.heap.size w wr.drew := hbr.drew
              clear h1 h3 hc
              go_wp2_with (first
                | (go_at_call 13; refine (HNO.out _ hcl).mono ?_; rintro e w5 ⟨rfl, hc5, hf5⟩)
                | (go_at_call 10; refine (mark_calls p b _ _ hc5).mono ?_; rintro e w4 ⟨rfl, rfl⟩)
                | (go_at_call 11; refine (now_calls p b _ _ hc5).mono ?_; rintro e w4 ⟨rfl, rfl⟩))
              go_roundw
              case rel => exact ⟨k + 1, _, most, by omega, by go_num, rfl, hc5, ⟨hri1.ok, hri1.lo, hri1.hi, hri1.le, hri1.mkm, by have := hri1.len; omega⟩, hbl.trans (hf5.below hbl.size (fun j hj => by subst hj; exact hpw))⟩
              case measure => simp [intOf]; omega
          | true =>
            have hlm : c.L.length < maxLen := by unfold maxLen; have := hri.len; omega
            have hyes := fun X (hX : Clk X p b c) => hear_yes_calls p b c a.name a.at_ a.now X hX hok hs hlm hy
            have HYES := Lib.hid hyes
            have hri1 := RI_hear hri (s := a.name.data.toList) hy
            obtain ⟨g0, g1, g2, g3⟩ := hearOk_may hy
            have hml := tick_mark_le c a.now
            have hnl := tick_now_le c a.now
            have hml2 := hear_mark_le (nameB a.name) c a.name.data.toList a.at_ a.now
            have hnl2 := hear_now (nameB a.name) c a.name.data.toList a.at_ a.now
            clear hyes hy g3 hlm
            generalize hear (nameB a.name) c a.name.data.toList a.at_ a.now = c' at *
            have q0 : decide (a.at_ ≤ c.mark) = false := decide_eq_false (by omega)
            have q1 : decide (c'.mark < c.mark) = false := decide_eq_false (by omega)
            have q2 : decide (c'.now < c.now) = false := decide_eq_false (by omega)
            clear hnl2 hml2 g2 hml hnl
            by_cases hm : 0 ≤ c'.mark
            · have q3 : decide (0 ≤ c'.mark) = true := decide_eq_true hm
              have q4 : decide (max most a.at_ ≤ c'.mark) = false := decide_eq_false (by have := hri1.mkm; omega)
              go_wp2_with (first
                | (go_at_call 10; first | (refine (mark_calls p b c _ hc).mono ?_; rintro e w4 ⟨rfl, rfl⟩) | (refine (mark_calls p b _ _ hc5).mono ?_; rintro e w4 ⟨rfl, rfl⟩))
                | (go_at_call 11; first | (refine (now_calls p b c _ hc).mono ?_; rintro e w4 ⟨rfl, rfl⟩) | (refine (now_calls p b _ _ hc5).mono ?_; rintro e w4 ⟨rfl, rfl⟩)))
              refine wp_region_still_tail 16 (by kernel_rfl) (by kernel_rfl) ?_
              simp only [List.take_succ_cons, List.take_zero, List.drop_succ_cons, List.drop_zero]
              repeat still_step
              refine wpStill_nil ?_
              change wpList _ _ _ _ _ wr.drew
              have hcl : Clk wr.drew p b c := hc.of_blocks rfl rfl
              have hbl : Below w.heap.size w wr.drew := hbr.drew
              clear h1 h3 hc h2
              go_wp2_with (first
                | (go_at_call 13; refine (HYES.out _ hcl).mono ?_; rintro e w5 ⟨rfl, hc5, hf5⟩; have hb5 : Below w.heap.size w w5 := hbl.trans (hf5.below hbl.size (fun j hj => by rcases hj with rfl | rfl <;> assumption)); obtain ⟨_, _, e5, _, _, h0', h1', h2', h3'⟩ := (HA.out.below hb5) k a HK.out; cases e5)
                | (go_at_call 10; refine (mark_calls p b _ _ hc5).mono ?_; rintro e w4 ⟨rfl, rfl⟩)
                | (go_at_call 11; refine (now_calls p b _ _ hc5).mono ?_; rintro e w4 ⟨rfl, rfl⟩))
              go_roundw
              case rel => exact ⟨k + 1, c', max most a.at_, by omega, by go_num, rfl, hc5, hri1, hb5⟩
              case measure => simp [intOf]; omega
            · have q3 : decide (0 ≤ c'.mark) = false := decide_eq_false hm
              go_wp2_with (first
                | (go_at_call 10; first | (refine (mark_calls p b c _ hc).mono ?_; rintro e w4 ⟨rfl, rfl⟩) | (refine (mark_calls p b _ _ hc5).mono ?_; rintro e w4 ⟨rfl, rfl⟩))
                | (go_at_call 11; first | (refine (now_calls p b c _ hc).mono ?_; rintro e w4 ⟨rfl, rfl⟩) | (refine (now_calls p b _ _ hc5).mono ?_; rintro e w4 ⟨rfl, rfl⟩)))
              refine wp_region_still_tail 16 (by kernel_rfl) (by kernel_rfl) ?_
              simp only [List.take_succ_cons, List.take_zero, List.drop_succ_cons, List.drop_zero]
              repeat still_step
              refine wpStill_nil ?_
              change wpList _ _ _ _ _ wr.drew
              have hcl : Clk wr.drew p b c := hc.of_blocks rfl rfl
              have hbl : Below w.heap.size w wr.drew := hbr.drew
              clear h1 h3 hc h2
              go_wp2_with (first
                | (go_at_call 13; refine (HYES.out _ hcl).mono ?_; rintro e w5 ⟨rfl, hc5, hf5⟩; have hb5 : Below w.heap.size w w5 := hbl.trans (hf5.below hbl.size (fun j hj => by rcases hj with rfl | rfl <;> assumption)); obtain ⟨_, _, e5, _, _, h0', h1', h2', h3'⟩ := (HA.out.below hb5) k a HK.out; cases e5)
                | (go_at_call 10; refine (mark_calls p b _ _ hc5).mono ?_; rintro e w4 ⟨rfl, rfl⟩)
                | (go_at_call 11; refine (now_calls p b _ _ hc5).mono ?_; rintro e w4 ⟨rfl, rfl⟩))
              go_roundw
              case rel => exact ⟨k + 1, c', max most a.at_, by omega, by go_num, rfl, hc5, hri1, hb5⟩
              case measure => simp [intOf]; omega
      · go_wp2
        go_ret
        exact ⟨rfl, hbr⟩

/-- As the row asks for it. -/
theorem rises_calls_ (slack idle : Int) (A : Option Addr) (n cap : Nat) (l : List ActT) (w : World) (_ : (Lit.int .i64 slack).wf = true) (_ : (Lit.int .i64 idle).wf = true) (h : Acts w A l) (hl : l.length = n) (hn : n ≤ 9223372036854775807) :
    Calls Try.prog 3 #[.int .i64 slack, .int .i64 idle, .slice A n cap] w fun e w' => e = .returned (.bool true) ∧ Below w.heap.size w w' := rises_calls slack idle A n cap l w h hl hn

end Go.Proofs.Ytomnmgmehagjfaa.Ck
