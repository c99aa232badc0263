/-
  The contracts of the clock's calls: rise, Tick, Hear, Heard, Active.
  No condition: lemmas.
-/
import Derived.Test.YtomnmgmehagjfaaGreatDoorTold
namespace Go.Proofs.YtomnmgmehagjfaaGreatDoor.Ck
open Go Go.RowKit Go.Maps Go.Shelf Go.Lib
set_option linter.unusedVariables false
set_option linter.unusedSimpArgs false

theorem told_ok {c : Ck} (hok : Ok c) : -1099511627777 ≤ toldV c ∧ toldV c ≤ 1099511627776 := by
  unfold toldV
  have := hok.s0; have := hok.s1
  cases hl : least c.idle c.now c.L with
  | none => simp only; omega
  | some m =>
    obtain ⟨⟨e, he, _, rfl⟩, _⟩ := least_some.1 hl
    have := hok.l e he
    simp only; omega

set_option maxHeartbeats 1000000 in
set_option maxRecDepth 100000 in
theorem rise_calls (p b : Nat) (c : Ck) (w : World) (h : Clk w p b c) (hok : Ok c) :
    Calls Tryz.prog 31 #[.pointer (some ⟨p, 0, none⟩)] w fun e w' => e = .returned (.tuple #[]) ∧ Clk w' p b (rise c) ∧ Fr (· = p) w w' := by
  have H := Lib.hid (rise_told c)
  have hp := h.ltp
  cases ht : toldB c with
  | false =>
    have HT := Lib.hid ht
    go_enter Tryz.func31, Tryz.ntmps31
    go_wp2_with (go_at_call 35; refine (told_calls p b c _ h hok).mono ?_; rintro e w1 ⟨rfl, hb⟩)
    go_end0
    exact ⟨rfl, by rw [H.out, HT.out]; exact h.below hb, Fr.of_below hb⟩
  | true =>
    have HT := Lib.hid ht
    go_enter Tryz.func31, Tryz.ntmps31
    go_wp2_with (go_at_call 35; refine (told_calls p b c _ h hok).mono ?_; rintro e w1 ⟨rfl, hb⟩; have hc := h.below hb; have c3 := hc.c3; have f3 := hc.fz 3)
    go_end0
    exact ⟨rfl, by rw [H.out, if_pos HT.out]; exact hc.set_mark _, Fr.setCell (S := (· = p)) (Fr.of_below hb) (p := ⟨p, 3, none⟩) rfl _⟩

theorem tick_eq (c : Ck) (n : Int) : tick c n = rise { c with now := max c.now (within n) } := rfl

set_option maxHeartbeats 1000000 in
set_option maxRecDepth 100000 in
theorem tick_calls (p b : Nat) (c : Ck) (n : Int) (w : World) (h : Clk w p b c) (hok : Ok c) :
    Calls Tryz.prog 28 #[.pointer (some ⟨p, 0, none⟩), .int .i64 n] w fun e w' => e = .returned (.int .i64 (tick c n).mark) ∧ Clk w' p b (tick c n) ∧ Fr (· = p) w w' := by
  have H := Lib.hid (tick_eq c n)
  have c2 := h.c2
  have f2 := h.fz 2
  have hw0 := within_lo n
  have hw1 := within_hi n
  have hok2 := ok_now hok n
  go_enter Tryz.func28, Tryz.ntmps28
  go_wp2_with fail
  refine wp_region_still_tail 10 (by kernel_rfl) (by kernel_rfl) ?_
  simp only [List.take_succ_cons, List.take_zero, List.drop_succ_cons, List.drop_zero]
  repeat (first | still_call ((within_calls n _).mono (fun e w' he => ⟨he.1, he.2.symm⟩)) | still_step)
  refine wpStill_nil ?_
  change wpList _ _ _ _ _ w.drew
  obtain ⟨W, hW⟩ : ∃ W, W = w.drew := ⟨_, rfl⟩
  have hcl : Clk W p b c := by rw [hW]; exact h.of_blocks rfl rfl
  have hfr : Fr (· = p) w W := by rw [hW]; exact (Fr.refl _ _).drew
  rw [← hW]
  clear hW c2 f2
  have hcl2 := hcl.set_now (max c.now (within n))
  have c2 := hcl.c2
  have f2 := hcl.fz 2
  go_wp2_with (go_at_call 31; refine (rise_calls p b _ _ hcl2 hok2).mono ?_; rintro e w1 ⟨rfl, hc1, hf1⟩; have c3 := hc1.c3)
  go_ret
  exact ⟨by rw [H.out]; rfl, by rw [H.out]; exact hc1, (hfr.trans (Fr.setCell (S := (· = p)) (Fr.refl _ _) (p := ⟨p, 2, none⟩) rfl _)).trans hf1⟩

theorem hear_ok {nm : Bool} {c : Ck} {a n : Int} (h : hearOk nm c a n = true) (s : List UInt8) : hear nm c s a n = rise { tick c n with L := put (tick c n).L s (max a (at0 (tick c n).L s), (tick c n).now) } := by
  unfold hear; rw [if_pos h]; rfl
theorem hear_no {nm : Bool} {c : Ck} {a n : Int} (h : hearOk nm c a n = false) (s : List UInt8) : hear nm c s a n = tick c n := by
  unfold hear; rw [h]; rfl

set_option maxHeartbeats 1000000 in
set_option maxRecDepth 100000 in
theorem hear_no_calls (p b : Nat) (c : Ck) (s : ByteArray) (a n : Int) (w : World) (h : Clk w p b c) (hok : Ok c) (hs : s.size ≤ maxLen) (hno : hearOk (nameB s) c a n = false) :
    Calls Tryz.prog 10 #[.pointer (some ⟨p, 0, none⟩), .string s, .int .i64 a, .int .i64 n] w fun e w' => e = .returned (.bool false) ∧ Clk w' p b (tick c n) ∧ Fr (· = p) w w' := by
  have hs' := hs
  unfold maxLen at hs'
  cases hnm : nameB s with
  | false =>
    clear hno
    go_enter Tryz.func10, Tryz.ntmps10
    go_wp2_with (first
      | (go_at_call 28; refine (tick_calls p b c n _ h hok).mono ?_; rintro e w1 ⟨rfl, hc1, hf1⟩)
      | (go_at_call 29; refine (name_calls s _ hs).mono ?_; rintro e w2 ⟨rfl, hb2⟩))
    go_ret
    exact ⟨rfl, hc1.below hb2, hf1.trans (Fr.of_below hb2)⟩
  | true =>
    cases hmy : may a with
    | false =>
      clear hno
      go_enter Tryz.func10, Tryz.ntmps10
      go_wp2_with (first
        | (go_at_call 28; refine (tick_calls p b c n _ h hok).mono ?_; rintro e w1 ⟨rfl, hc1, hf1⟩)
        | (go_at_call 29; refine (name_calls s _ hs).mono ?_; rintro e w2 ⟨rfl, hb2⟩)
        | (go_at_call 30; refine (may_calls a _).mono ?_; rintro e w3 ⟨rfl, rfl⟩))
      go_ret
      exact ⟨rfl, hc1.below hb2, hf1.trans (Fr.of_below hb2)⟩
    | true =>
      have hle : a ≤ (tick c n).mark := by
        unfold hearOk at hno
        rw [hnm, hmy] at hno
        simpa using hno
      clear hno
      go_enter Tryz.func10, Tryz.ntmps10
      go_wp2_with (first
        | (go_at_call 28; refine (tick_calls p b c n _ h hok).mono ?_; rintro e w1 ⟨rfl, hc1, hf1⟩)
        | (go_at_call 29; refine (name_calls s _ hs).mono ?_; rintro e w2 ⟨rfl, hb2⟩; have hc2 := hc1.below hb2; have c3 := hc2.c3)
        | (go_at_call 30; refine (may_calls a _).mono ?_; rintro e w3 ⟨rfl, rfl⟩))
      go_ret
      exact ⟨rfl, hc1.below hb2, hf1.trans (Fr.of_below hb2)⟩

set_option maxHeartbeats 2000000 in
set_option maxRecDepth 100000 in
theorem hear_yes_calls (p b : Nat) (c : Ck) (s : ByteArray) (a n : Int) (w : World) (h : Clk w p b c) (hok : Ok c) (hs : s.size ≤ maxLen) (hl : c.L.length < maxLen) (hyes : hearOk (nameB s) c a n = true) :
    Calls Tryz.prog 10 #[.pointer (some ⟨p, 0, none⟩), .string s, .int .i64 a, .int .i64 n] w fun e w' => e = .returned (.bool true) ∧ Clk w' p b (hear (nameB s) c s.data.toList a n) ∧ Fr (fun k => k = p ∨ k = b) w w' := by
  have hs' := hs
  unfold maxLen at hs'
  have HH := Lib.hid (hear_ok hyes s.data.toList)
  have hokh := ok_hear (nm := nameB s) hok s.data.toList a n
  obtain ⟨ha0, ha1, hgt, hnm⟩ := hearOk_may hyes
  have hmy : may a = true := (may_iff a).2 ⟨ha0, ha1⟩
  have hokt := ok_tick hok n
  have hq0 := (at0_bd hokt s.data.toList).1
  have hq1 := (at0_bd hokt s.data.toList).2
  have hlt : (tick c n).L.length < maxLen := by rw [tick_L]; exact hl
  have HLT := Lib.hid hlt
  have hokr : Ok { tick c n with L := put (tick c n).L s.data.toList (max a (at0 (tick c n).L s.data.toList), (tick c n).now) } := by
    refine ⟨hokt.s0, hokt.s1, hokt.i0, hokt.i1, hokt.n0, hokt.n1, hokt.m0, hokt.m1, fun e he => ?_⟩
    rcases mem_put.1 he with rfl | ⟨he, _⟩
    · have := hokt.n0; refine ⟨?_, ?_, ?_, Int.le_refl _⟩ <;> (simp only; omega)
    · exact hokt.l e he
  clear hyes hlt hl
  go_enter Tryz.func10, Tryz.ntmps10
  go_wp2_with (first
    | (go_at_call 28; refine (tick_calls p b c n _ h hok).mono ?_; rintro e w1 ⟨rfl, hc1, hf1⟩)
    | (go_at_call 29; refine (name_calls s _ hs).mono ?_; rintro e w2 ⟨rfl, hb2⟩; have hc2 := hc1.below hb2; have c3 := hc2.c3)
    | (go_at_call 30; refine (may_calls a _).mono ?_; rintro e w3 ⟨rfl, rfl⟩))
  have c2 := hc2.c2
  have c4 := hc2.c4
  have hlook := Mp.look (w := w2.drew) (hc2.map.of_block rfl) hs
  have hfld : ∀ (x y : Value) (X : World), (Instr.field 49 (.agg #[x, y]) 0).run Tryz.prog X = .ok x X := fun _ _ _ => by kernel_rfl
  refine wp_region_still_tail 19 (by kernel_rfl) (by kernel_rfl) ?_
  simp only [List.take_succ_cons, List.take_zero, List.drop_succ_cons, List.drop_zero]
  repeat still_step
  refine wpStill_nil ?_
  change wpList _ _ _ _ _ w2.drew
  clear hlook
  obtain ⟨W, hW⟩ : ∃ W, W = w2.drew := ⟨_, rfl⟩
  have hcl : Clk W p b (tick c n) := by rw [hW]; exact hc2.of_blocks rfl rfl
  have hfr : Fr (· = p) w W := by rw [hW]; exact (hf1.trans (Fr.of_below hb2)).drew
  rw [← hW]
  clear hW c2 c3 c4
  obtain ⟨w4, hst, hmp, hmt⟩ := hcl.map.store hs HLT.out (max a (at0 (tick c n).L s.data.toList)) (tick c n).now
  have hcl4 : Clk w4 p b { tick c n with L := put (tick c n).L s.data.toList (max a (at0 (tick c n).L s.data.toList), (tick c n).now) } :=
    ⟨(hmt.grown.block p hcl.ltp (by simpa using hcl.ne)).trans hcl.cells, hmp⟩
  have hfr4 : Fr (fun k => k = p ∨ k = b) w w4 := (hfr.mono (fun k hk => .inl hk)).grown hmt.grown (fun k hk => by cases hk; exact .inr rfl)
  go_wp2_with (go_at_call 31; refine (rise_calls p b _ _ hcl4 hokr).mono ?_; rintro e w5 ⟨rfl, hc5, hf5⟩)
  go_ret
  exact ⟨rfl, by rw [HH.out]; exact hc5, hfr4.trans (hf5.mono (fun k hk => .inl hk))⟩

theorem Fr.below1' {B p : Nat} {a w w' : World} (h : Below B a w) (hB : B ≤ w.heap.size) (hf : Fr (· = p) w w') (hp : B ≤ p) : Below B a w' := h.trans (hf.below hB (fun k hk => by subst hk; exact hp))
theorem Fr.below2' {B p b : Nat} {a w w' : World} (h : Below B a w) (hB : B ≤ w.heap.size) (hf : Fr (fun k => k = p ∨ k = b) w w') (hp : B ≤ p) (hb : B ≤ b) : Below B a w' := h.trans (hf.below hB (fun k hk => by rcases hk with rfl | rfl <;> assumption))

end Go.Proofs.YtomnmgmehagjfaaGreatDoor.Ck
