/-
  The reference's clock: Tick.
  No condition: lemmas.
-/
import Derived.Test.YtomnmgmehagjfaaDoorRefTell
import Derived.Test.YtomnmgmehagjfaaDoorRefName
import Derived.Test.YtomnmgmehagjfaaDoorWLast
namespace Go.Proofs.YtomnmgmehagjfaaDoor.Ck
open Go Go.RowKit Go.Maps Go.Shelf Go.Lib Go.Proofs.YtomnmgmehagjfaaDoorW.PrintLast
set_option linter.unusedVariables false
set_option linter.unusedSimpArgs false

theorem rise_tell' {c : Ck} (hok : Ok c) : rise c = { c with mark := max c.mark (tellV c) } := rise_tell c hok.m0
theorem tick_tell {c : Ck} (hok : Ok c) (n : Int) : tick c n = { c with now := max c.now (within n), mark := max c.mark (tellV { c with now := max c.now (within n) }) } := by
  rw [tick_eq, rise_tell' (ok_now hok n)]

set_option maxHeartbeats 1000000 in
set_option maxRecDepth 100000 in
theorem rtick_calls (q : Nat) (c : Ck) (n : Int) (w : World) (h : Rf w q c) (hok : Ok c) (hl : c.L.length ≤ 1000) :
    Calls Tryd.prog 11 #[.pointer (some ⟨q, 0, none⟩), .int .i64 n] w fun e w' => e = .returned (.int .i64 (tick c n).mark) ∧ Rf w' q (tick c n) ∧ Fr (· = q) w w' := by
  have H := Lib.hid (tick_tell hok n)
  have c2 := h.c2
  have f2 := h.fz 2
  have hok2 := ok_now hok n
  go_enter Tryd.func11, Tryd.ntmps11
  go_wp2_with fail
  refine wp_region_still_tail 10 (by kernel_rfl) (by kernel_rfl) ?_
  simp only [List.take_succ_cons, List.take_zero, List.drop_succ_cons, List.drop_zero]
  repeat (first | still_call ((held_calls n _).mono (fun e w' he => ⟨he.1, he.2.symm⟩)) | still_step)
  refine wpStill_nil ?_
  change wpList _ _ _ _ _ w.drew
  obtain ⟨W, hW⟩ : ∃ W, W = w.drew := ⟨_, rfl⟩
  have hcl : Rf W q c := by rw [hW]; exact h.drew
  have hfr : Fr (· = q) w W := by rw [hW]; exact (Fr.refl _ _).drew
  rw [← hW]
  clear hW c2 f2
  have hcl2 := hcl.set_now (max c.now (within n))
  have c2 := hcl.c2
  have f2 := hcl.fz 2
  have hfr2 : Fr (· = q) w (W.setCell ⟨q, 2, none⟩ (.int .i64 (max c.now (within n)))) := hfr.trans (Fr.setCell (S := (· = q)) (Fr.refl _ _) (p := ⟨q, 2, none⟩) rfl _)
  go_wp2_with fail
  clear hfr h hcl c2 f2
  generalize W.setCell ⟨q, 2, none⟩ (.int .i64 (max c.now (within n))) = X at *
  obtain ⟨d, hd⟩ : ∃ d : Ck, d = { c with now := max c.now (within n) } := ⟨_, rfl⟩
  have hdl : d.L.length ≤ 1000 := by rw [hd]; exact hl
  have HT : Hid (tick c n = { d with mark := max d.mark (tellV d) }) := by rw [hd]; exact H.out
  rw [← hd] at hcl2 hok2
  clear hd H
  have c3 := hcl2.c3
  have f3 := hcl2.fz 3
  refine start_ (n := 11) (S := fun w' => w'.cell? ⟨q, 3, none⟩ = some (.int .i64 d.mark)) (ds := [10]) #[false, false, false, false, false, false, false, false, false, false, false] (by kernel_rfl) rfl rfl (c3) (fun hHeld => ?_)
  refine pure_ (i := 0) (N := some 15) (v := ?_) (a' := ?_) #[true, false, false, false, false, false, false, false, false, false, false] rfl rfl (by kernel_rfl) (fun _ _ _ h => h) (Or.inl ⟨by rfl, ?_⟩) ?_ ?_
  rotate_left
  · intro w'
    go_simp
    with_reducible rfl
  rotate_left
  · simp only [Act.put, List.setIfInBounds_toArray, List.set_cons_zero, List.set_cons_succ, i64_w, i32_w]
    rfl
  refine pure_ (i := 1) (N := some 16) (v := ?_) (a' := ?_) #[true, true, false, false, false, false, false, false, false, false, false] rfl rfl (by kernel_rfl) (fun _ _ _ h => h) (Or.inl ⟨by rfl, ?_⟩) ?_ ?_
  rotate_left
  · intro w'
    go_simp
    with_reducible rfl
  rotate_left
  · simp only [Act.put, List.setIfInBounds_toArray, List.set_cons_zero, List.set_cons_succ, i64_w, i32_w]
    rfl
  refine pure_ (i := 2) (N := some 17) (v := ?_) (a' := ?_) #[true, true, true, false, false, false, false, false, false, false, false] rfl rfl (by kernel_rfl) (fun _ _ _ h => h) (Or.inl ⟨by rfl, ?_⟩) ?_ ?_
  rotate_left
  · intro w'
    go_simp
    with_reducible rfl
  rotate_left
  · simp only [Act.put, List.setIfInBounds_toArray, List.set_cons_zero, List.set_cons_succ, i64_w, i32_w]
    rfl
  refine pure_ (i := 3) (N := some 18) (v := ?_) (a' := ?_) #[true, true, true, true, false, false, false, false, false, false, false] rfl rfl (by kernel_rfl) (fun _ _ _ h => h) (Or.inl ⟨by rfl, ?_⟩) ?_ ?_
  rotate_left
  · intro w'
    go_simp
    with_reducible rfl
  rotate_left
  · simp only [Act.put, List.setIfInBounds_toArray, List.set_cons_zero, List.set_cons_succ, i64_w, i32_w]
    rfl
  refine pure_ (i := 5) (N := some 20) (v := ?_) (a' := ?_) #[true, true, true, true, false, true, false, false, false, false, false] rfl rfl (by kernel_rfl) (fun _ _ _ h => h) (Or.inl ⟨by rfl, ?_⟩) ?_ ?_
  rotate_left
  · intro w'
    go_simp
    with_reducible rfl
  rotate_left
  · simp only [Act.put, List.setIfInBounds_toArray, List.set_cons_zero, List.set_cons_succ, i64_w, i32_w]
    rfl
  refine take_ (i := 4) (N := some 19) (v := ?_) (a' := ?_) #[true, true, true, true, true, true, false, false, false, false, false] rfl rfl (by kernel_rfl) (fun _ _ _ h => h) (Or.inl ⟨by rfl, ?_⟩) hHeld ?_ ?_
  rotate_left
  · intro w' s0
    go_simp
    with_reducible rfl
  rotate_left
  · simp only [Act.put, List.setIfInBounds_toArray, List.set_cons_zero, List.set_cons_succ, i64_w, i32_w]
    rfl
  refine one_ (i := 6) (N := some 21) #[true, true, true, true, true, true, true, false, false, false, false] rfl rfl (by kernel_rfl) (by decide) (fun K hK => ?_)
  refine goes_ Tryd.func27 (by kernel_rfl) rfl #[.pointer (some ⟨q, 0, none⟩)] (by rfl) rfl rfl (by simp only [List.map_toArray, List.map_cons, List.map_nil]; rfl) ?_
  with_reducible refine (tell_calls q d _ (by exact hcl2.drew) (by exact hok2) (by exact hdl)).mono ?_
  rintro e w1 ⟨rfl, hb1⟩
  refine ⟨_, rfl, ?_⟩
  have hr1 : Rf w1 q d := hcl2.drew.below hb1
  have c3' := hr1.c3
  have f3' := hr1.fz 3
  refine hK.out _ _ (c3') (fun hHeld => ?_)
  clear hK K
  refine norm_ (a' := ?_) ?_ ?_
  rotate_left
  · show Act.put _ (some 21) _ = _
    simp only [Act.put, List.setIfInBounds_toArray, List.set_cons_zero, List.set_cons_succ, i64_w, i32_w]
    rfl
  refine pure_ (i := 7) (N := some 22) (v := ?_) (a' := ?_) #[true, true, true, true, true, true, true, true, false, false, false] rfl rfl (by kernel_rfl) (fun _ _ _ h => h) (Or.inl ⟨by rfl, ?_⟩) ?_ ?_
  rotate_left
  · intro w'
    go_simp
    with_reducible rfl
  rotate_left
  · simp only [Act.put, List.setIfInBounds_toArray, List.set_cons_zero, List.set_cons_succ, i64_w, i32_w]
    rfl
  refine pure_ (i := 8) (N := some 23) (v := ?_) (a' := ?_) #[true, true, true, true, true, true, true, true, true, false, false] rfl rfl (by kernel_rfl) (fun _ _ _ h => h) (Or.inl ⟨by rfl, ?_⟩) ?_ ?_
  rotate_left
  · intro w'
    go_simp
    with_reducible rfl
  rotate_left
  · simp only [Act.put, List.setIfInBounds_toArray, List.set_cons_zero, List.set_cons_succ, i64_w, i32_w]
    rfl
  refine pure_ (i := 9) (N := some 24) (v := ?_) (a' := ?_) #[true, true, true, true, true, true, true, true, true, true, false] rfl rfl (by kernel_rfl) (fun _ _ _ h => h) (Or.inl ⟨by rfl, ?_⟩) ?_ ?_
  rotate_left
  · intro w'
    go_simp
    with_reducible rfl
  rotate_left
  · simp only [Act.put, List.setIfInBounds_toArray, List.set_cons_zero, List.set_cons_succ, i64_w, i32_w]
    rfl
  refine last_ (i := 10) (N := none) #[true, true, true, true, true, true, true, true, true, true, true] rfl rfl (by kernel_rfl) (by decide) (fun K hK => ?_)
  refine skip_ (w1 := ?_) (by rfl) rfl ?_ ?_
  rotate_left
  · go_simp
    rfl
  refine hK.out _ _ ?_
  clear hK K
  refine done_ (by kernel_rfl) ?_
  have hr2 := hr1.set_mark (max d.mark (tellV d))
  have hfr3 : Fr (· = q) w (w1.setCell ⟨q, 3, none⟩ (.int .i64 (max d.mark (tellV d)))) := (hfr2.drew.trans (Fr.of_below hb1)).trans (Fr.setCell (S := (· = q)) (Fr.refl _ _) (p := ⟨q, 3, none⟩) rfl _)
  clear hHeld hb1 hr1 c3' f3' hcl2 hfr2 c3 f3
  generalize w1.setCell ⟨q, 3, none⟩ (.int .i64 (max d.mark (tellV d))) = Y at *
  have c3 := hr2.c3
  go_wp2
  go_ret
  exact ⟨by rw [HT.out]; rfl, by rw [HT.out]; exact hr2, hfr3⟩

theorem Fr.setNew {S : Nat → Prop} {a w : World} (h : Fr S a w) {p : Addr} (hp : a.heap.size ≤ p.block) (u : Value) : Fr S a (w.setCell p u) :=
  ⟨h.os, h.tape, h.output, by have := h.size; simp [World.setCell]; exact this, fun k hk hS => (Below.heap_setCell _ _ _ _ (by omega)).trans (h.block k hk hS)⟩

set_option maxHeartbeats 1000000 in
set_option maxRecDepth 100000 in
theorem rhear_no_calls (q : Nat) (c : Ck) (s : ByteArray) (a n : Int) (w : World) (h : Rf w q c) (hok : Ok c) (hs : s.size ≤ maxLen) (hl : c.L.length ≤ 1000) (hno : hearOk (nameB s) c a n = false) :
    Calls Tryd.prog 13 #[.pointer (some ⟨q, 0, none⟩), .string s, .int .i64 a, .int .i64 n] w fun e w' => e = .returned (.bool false) ∧ Rf w' q (tick c n) ∧ Fr (· = q) w w' := by
  have hs' := hs
  unfold maxLen at hs'
  cases hnm : nameB s with
  | false =>
    clear hno
    go_enter Tryd.func13, Tryd.ntmps13
    go_wp2_with (first
      | (go_at_call 11; refine (rtick_calls q c n _ h hok hl).mono ?_; rintro e w1 ⟨rfl, hc1, hf1⟩)
      | (go_at_call 30; refine (rname_calls s _ hs).mono ?_; rintro e w2 ⟨rfl, rfl⟩))
    go_ret
    exact ⟨rfl, hc1, hf1⟩
  | true =>
    by_cases hlo : a < 0
    · clear hno
      go_enter Tryd.func13, Tryd.ntmps13
      go_wp2_with (first
        | (go_at_call 11; refine (rtick_calls q c n _ h hok hl).mono ?_; rintro e w1 ⟨rfl, hc1, hf1⟩)
        | (go_at_call 30; refine (rname_calls s _ hs).mono ?_; rintro e w2 ⟨rfl, rfl⟩))
      go_ret
      exact ⟨rfl, hc1, hf1⟩
    · by_cases hhi : 1099511627776 < a
      · clear hno
        go_enter Tryd.func13, Tryd.ntmps13
        go_wp2_with (first
          | (go_at_call 11; refine (rtick_calls q c n _ h hok hl).mono ?_; rintro e w1 ⟨rfl, hc1, hf1⟩)
          | (go_at_call 30; refine (rname_calls s _ hs).mono ?_; rintro e w2 ⟨rfl, rfl⟩))
        go_ret
        exact ⟨rfl, hc1, hf1⟩
      · have hmy : may a = true := (may_iff a).2 ⟨by omega, by omega⟩
        have hle : a ≤ (tick c n).mark := by
          unfold hearOk at hno
          rw [hnm, hmy] at hno
          simpa using hno
        clear hno
        go_enter Tryd.func13, Tryd.ntmps13
        go_wp2_with (first
          | (go_at_call 11; refine (rtick_calls q c n _ h hok hl).mono ?_; rintro e w1 ⟨rfl, hc1, hf1⟩; have c3 := hc1.c3)
          | (go_at_call 30; refine (rname_calls s _ hs).mono ?_; rintro e w2 ⟨rfl, rfl⟩))
        go_ret
        exact ⟨rfl, hc1, hf1⟩

/-- A row of its own cells, made behind w5. -/
def AF (w5 wx : World) (g1 : Nat) (c : Array Value) : Prop := w5.heap.size ≤ g1 ∧ g1 < wx.heap.size ∧ wx.heap[g1]? = some (.cells c 54 (0, 0))
theorem alloc_sz (w : World) (o : Obj) : (w.alloc o).heap.size = w.heap.size + 1 := by simp
theorem AF.new_ {w5 wx : World} {c : Array Value} (h : w5.heap.size ≤ wx.heap.size) : AF w5 (wx.alloc (.cells c 54)) wx.heap.size c := ⟨h, by simp, heap_alloc_new wx _⟩
theorem AF.alloc {w5 wx : World} {g1 : Nat} {c : Array Value} (h : AF w5 wx g1 c) (o : Obj) : AF w5 (wx.alloc o) g1 c := ⟨h.1, by have := h.2.1; simp; omega, (heap_alloc_old wx o g1 h.2.1).trans h.2.2⟩
theorem AF.grown {w5 wx w' : World} {g1 : Nat} {c : Array Value} {row : Option Nat} (h : AF w5 wx g1 c) (hg : wx.grownBy w' row) (hr : some g1 ≠ row) : AF w5 w' g1 c := ⟨h.1, Nat.lt_of_lt_of_le h.2.1 hg.size, (hg.block g1 h.2.1 hr).trans h.2.2⟩
theorem AF.reads {w5 wx : World} {g1 : Nat} {s : ByteArray} {a n : Int} (h : AF w5 wx g1 #[.string s, .int .i64 a, .int .i64 n]) : Reads wx wx.heap.size 3 (some ⟨g1, 0, none⟩) 1 (cellsE (s.data.toList, (a, n))) := by
  refine ⟨rfl, fun _ => ⟨_, rfl, h.2.1, fun j u hu => ?_⟩⟩
  rw [add_none, Nat.zero_add]
  have hj : j < 3 := by have := (List.getElem?_eq_some_iff.1 hu).1; simpa [cellsE] using this
  simp only [World.cell?, h.2.2]
  have : j = 0 ∨ j = 1 ∨ j = 2 := by omega
  rcases this with rfl | rfl | rfl <;> simpa [cellsE] using hu
theorem cellsE_one (e : Ent) : ∀ u ∈ cellsE e, u.oneCell' = true := by
  intro u hu
  simp [cellsE] at hu
  rcases hu with rfl | rfl | rfl <;> rfl
theorem src_info : (Tryd.prog.info? 54).map (fun i => (i.zero, i.size, i.bytes)) = some (some (.agg #[.string ByteArray.empty, .int .i64 0, .int .i64 0]), 3, 32) := by kernel_rfl
theorem rown_empty {w : World} {g base : Nat} {e : TypeId} {size : Nat} (hb : w.heap[g]? = some (.cells #[] e (0, 0))) (h : base ≤ g) : w.ownsRow base e size (.slice (some ⟨g, 0, none⟩) 0 0) 0 [] :=
  ⟨by simp, .inr ⟨g, 0, #[], rfl, h, hb, Nat.le_refl _, Nat.zero_le _, by simp, by simp⟩⟩

theorem Fr.of_setNew {S : Nat → Prop} {a w : World} (h : Fr S a w) (g i : Nat) (hp : a.heap.size ≤ g) (u : Value) : Fr S a (w.setCell ⟨g, i, none⟩ u) := h.setNew hp u

set_option maxHeartbeats 4000000 in
set_option maxRecDepth 100000 in
theorem rhear_yes_calls (q : Nat) (c : Ck) (s : ByteArray) (a n : Int) (w : World) (h : Rf w q c) (hok : Ok c) (hs : s.size ≤ maxLen) (hl : c.L.length < 1000) (hyes : hearOk (nameB s) c a n = true) :
    Calls Tryd.prog 13 #[.pointer (some ⟨q, 0, none⟩), .string s, .int .i64 a, .int .i64 n] w fun e w' => e = .returned (.bool true) ∧ Rf w' q (hear (nameB s) c s.data.toList a n) ∧ Fr (· = q) w w' := by
  have hs' := hs
  unfold maxLen at hs'
  have HH := Lib.hid (hear_ok hyes s.data.toList)
  obtain ⟨ha0, ha1, hgt, hnm⟩ := hearOk_may hyes
  have hokt := ok_tick hok n
  have hlt : (tick c n).L.length ≤ 1000 := by rw [tick_L]; omega
  have hlt2 : (tick c n).L.length < 1000 := by rw [tick_L]; omega
  have HYES := Lib.hid hyes
  obtain ⟨i0, hi0, hz0, hz1, hz2⟩ := info_parts src_info
  have HI0 := Lib.hid hi0
  have HZ0 := Lib.hid hz0
  have HZ1 := Lib.hid hz1
  have HZ2 := Lib.hid hz2
  clear hyes hi0 hz0 hz1 hz2
  have hrt := fun W (hW : Rf W q c) => rtick_calls q c n W hW hok (by omega)
  generalize hT : tick c n = t at *

  have hcapx : Hid (nameB s = true) := hnm
  have hsl : s.data.toList.length ≤ 1000 := by
    have := ((nameB_iff s).1 hnm).2.1
    rw [← ba_size]; omega
  obtain ⟨d, hd⟩ : ∃ d : Ck, d = { t with L := put t.L s.data.toList (max a (at0 t.L s.data.toList), t.now) } := ⟨_, rfl⟩
  have hokd : Ok d := by
    rw [hd]
    have hb := at0_bd hokt s.data.toList
    refine ⟨hokt.s0, hokt.s1, hokt.i0, hokt.i1, hokt.n0, hokt.n1, hokt.m0, hokt.m1, fun e he => ?_⟩
    rcases mem_put.1 he with rfl | ⟨he, _⟩
    · have := hokt.n0; refine ⟨?_, ?_, ?_, Int.le_refl _⟩ <;> (simp only; omega)
    · exact hokt.l e he
  have hdl : d.L.length ≤ 1000 := by
    rw [hd]
    have := put_length t.L s.data.toList (max a (at0 t.L s.data.toList), t.now)
    show (put _ _ _).length ≤ _
    omega
  have HD : Hid (hear (nameB s) c s.data.toList a n = { d with mark := max d.mark (tellV d) }) := by
    have := HH.out
    rw [← hd, rise_tell' hokd] at this
    exact this
  have hds : Hid (d.slack = t.slack ∧ d.idle = t.idle ∧ d.now = t.now ∧ d.mark = t.mark) := by rw [hd]; exact ⟨rfl, rfl, rfl, rfl⟩
  have hdL : Hid (d.L = put t.L s.data.toList (max a (at0 t.L s.data.toList), t.now)) := by rw [hd]; rfl
  clear HH hd
  cases hgt2 : get t.L s.data.toList with
  | some v =>
    have hg' : (get t.L s.data.toList).isSome = true := by rw [hgt2]; rfl
    go_enter Tryd.func13, Tryd.ntmps13
    go_wp2_with (first
      | (go_at_call 11; refine (hrt _ h).mono ?_; rintro e w1 ⟨rfl, hc1, hf1⟩; have c3 := hc1.c3)
      | (go_at_call 30; refine (rname_calls s _ hs).mono ?_; rintro e w2 ⟨rfl, rfl⟩)
      | (go_at_call 31; refine (place_calls q t s _ hc1 hs hlt).mono ?_; rintro e w3 ⟨rfl, hb3⟩; have hc3 := hc1.below hb3; have hq3 := hc3.ltq; obtain ⟨X, cap, c4, he3, hcap, ho3⟩ := hc3.c4
         have hrd : Reads (w3.alloc (.cells #[] 54)) w3.heap.size 3 X t.L.length (cellsS t.L) := (Reads.of_own ho3).alloc (Nat.le_refl _) _
         have HRD := Lib.hid hrd
         have hf3 : Fr (· = q) w w3 := hf1.trans (Fr.of_below hb3)
         clear hrd hb3 hc1 hf1 c3)
      | (at_builtin
         refine wpList_append_any _ rfl (.tmp 40) (.tmp 44) _ rfl w3.heap.size 54 i0 _ 3 32 Tryd.underlying47 HI0.out HZ0.out HZ1.out HZ2.out rfl (by omega) (.slice (some ⟨w3.heap.size, 0, none⟩) 0 0) 0 [] rfl
           (rown_empty (by exact heap_alloc_new w3 _) (Nat.le_refl _)) w3.heap.size X t.L.length cap (cellsS t.L) rfl HRD.out (cellsS_one _) (by unfold maxLen; omega) (by omega) (by simp) ?_
         intro v5 w5 hown5 hg5 hat5
         have hb5 : Below w3.heap.size w3 w5 := ((Below.refl _ w3).alloc (Nat.le_refl _) _).grown hg5 (by simp) (by intro k hk; simp [Value.ownBlock] at hk; omega)))
    rw [Nat.zero_add, List.nil_append] at hown5
    have hrsd : Rising d.L := by rw [hdL.out]; exact rising_put hc3.rs _ _
    have hnmd : ∀ e ∈ d.L, e.1.length ≤ 1000 := by
      rw [hdL.out]
      intro e he
      rcases mem_put.1 he with rfl | ⟨he, _⟩
      · exact hsl
      · exact hc3.nm e he
    have hpl := (place_some hc3.rs hgt2).1
    have hkm := place_lt hc3.rs hgt2
    have hps : Hid (d.L = t.L.set (pl t.L s.data.toList) (s.data.toList, (max v.1 a, t.now))) := by
      have := put_some v (max a (at0 t.L s.data.toList), t.now) hc3.rs hgt2
      rw [at0_eq, hgt2] at this
      have e := hdL.out
      rw [at0_eq, hgt2] at e
      rw [this] at e
      rw [Int.max_comm v.1 a]
      exact e
    obtain ⟨g, cap5, rfl, hgb, hglt⟩ := hown5.form (by omega)
    obtain ⟨_, _, eq5, _, e0, e1, e2⟩ := Ents.of_own rfl hown5 _ _ hpl
    cases eq5
    simp only [Nat.zero_add] at e0 e1 e2
    have hc5 := hc3.below hb5
    have c2 := hc5.c2
    have f0 := hown5.frozenAt (pl t.L s.data.toList * 3)
    have f1 := hown5.frozenAt (pl t.L s.data.toList * 3 + 1)
    have f2 := hown5.frozenAt (pl t.L s.data.toList * 3 + 2)
    generalize hk : pl t.L s.data.toList = k at *
    refine start_ (n := 17) (S := fun w' => w'.cell? ⟨g, k * 3 + 1, none⟩ = some (.int .i64 v.1) ∧ w'.cell? ⟨q, 2, none⟩ = some (.int .i64 t.now)) (ds := [16]) #[false, false, false, false, false, false, false, false, false, false, false, false, false, false, false, false, false] (by kernel_rfl) rfl rfl ⟨e1, c2⟩ (fun hHeld => ?_)
    refine pure_ (i := 0) (N := some 47) (v := ?_) (a' := ?_) #[true, false, false, false, false, false, false, false, false, false, false, false, false, false, false, false, false] rfl rfl (by kernel_rfl) (fun _ _ _ h => h) (Or.inl ⟨by rfl, ?_⟩) ?_ ?_
    rotate_left
    · intro w'
      go_simp
      with_reducible rfl
    rotate_left
    · simp only [Act.put, List.setIfInBounds_toArray, List.set_cons_zero, List.set_cons_succ, i64_w, i32_w]
      rfl
    refine pure_ (i := 1) (N := some 48) (v := ?_) (a' := ?_) #[true, true, false, false, false, false, false, false, false, false, false, false, false, false, false, false, false] rfl rfl (by kernel_rfl) (fun _ _ _ h => h) (Or.inl ⟨by rfl, ?_⟩) ?_ ?_
    rotate_left
    · intro w'
      go_simp
      with_reducible rfl
    rotate_left
    · simp only [Act.put, List.setIfInBounds_toArray, List.set_cons_zero, List.set_cons_succ, i64_w, i32_w]
      rfl
    refine pure_ (i := 2) (N := some 49) (v := ?_) (a' := ?_) #[true, true, true, false, false, false, false, false, false, false, false, false, false, false, false, false, false] rfl rfl (by kernel_rfl) (fun _ _ _ h => h) (Or.inl ⟨by rfl, ?_⟩) ?_ ?_
    rotate_left
    · intro w'
      go_simp
      with_reducible rfl
    rotate_left
    · simp only [Act.put, List.setIfInBounds_toArray, List.set_cons_zero, List.set_cons_succ, i64_w, i32_w]
      rfl
    refine pure_ (i := 3) (N := some 50) (v := ?_) (a' := ?_) #[true, true, true, true, false, false, false, false, false, false, false, false, false, false, false, false, false] rfl rfl (by kernel_rfl) (fun _ _ _ h => h) (Or.inl ⟨by rfl, ?_⟩) ?_ ?_
    rotate_left
    · intro w'
      go_simp
      with_reducible rfl
    rotate_left
    · simp only [Act.put, List.setIfInBounds_toArray, List.set_cons_zero, List.set_cons_succ, i64_w, i32_w]
      rfl
    refine pure_ (i := 4) (N := some 51) (v := ?_) (a' := ?_) #[true, true, true, true, true, false, false, false, false, false, false, false, false, false, false, false, false] rfl rfl (by kernel_rfl) (fun _ _ _ h => h) (Or.inl ⟨by rfl, ?_⟩) ?_ ?_
    rotate_left
    · intro w'
      go_simp
      with_reducible rfl
    rotate_left
    · simp only [Act.put, List.setIfInBounds_toArray, List.set_cons_zero, List.set_cons_succ, i64_w, i32_w]
      rfl
    refine pure_ (i := 5) (N := some 52) (v := ?_) (a' := ?_) #[true, true, true, true, true, true, false, false, false, false, false, false, false, false, false, false, false] rfl rfl (by kernel_rfl) (fun _ _ _ h => h) (Or.inl ⟨by rfl, ?_⟩) ?_ ?_
    rotate_left
    · intro w'
      go_simp
      with_reducible rfl
    rotate_left
    · simp only [Act.put, List.setIfInBounds_toArray, List.set_cons_zero, List.set_cons_succ, i64_w, i32_w]
      rfl
    refine pure_ (i := 6) (N := some 53) (v := ?_) (a' := ?_) #[true, true, true, true, true, true, true, false, false, false, false, false, false, false, false, false, false] rfl rfl (by kernel_rfl) (fun _ _ _ h => h) (Or.inl ⟨by rfl, ?_⟩) ?_ ?_
    rotate_left
    · intro w'
      go_simp
      with_reducible rfl
    rotate_left
    · simp only [Act.put, List.setIfInBounds_toArray, List.set_cons_zero, List.set_cons_succ, i64_w, i32_w]
      rfl
    refine pure_ (i := 8) (N := some 55) (v := ?_) (a' := ?_) #[true, true, true, true, true, true, true, false, true, false, false, false, false, false, false, false, false] rfl rfl (by kernel_rfl) (fun _ _ _ h => h) (Or.inl ⟨by rfl, ?_⟩) ?_ ?_
    rotate_left
    · intro w'
      go_simp
      with_reducible rfl
    rotate_left
    · simp only [Act.put, List.setIfInBounds_toArray, List.set_cons_zero, List.set_cons_succ, i64_w, i32_w]
      rfl
    refine pure_ (i := 10) (N := some 57) (v := ?_) (a' := ?_) #[true, true, true, true, true, true, true, false, true, false, true, false, false, false, false, false, false] rfl rfl (by kernel_rfl) (fun _ _ _ h => h) (Or.inl ⟨by rfl, ?_⟩) ?_ ?_
    rotate_left
    · intro w'
      go_simp
      with_reducible rfl
    rotate_left
    · simp only [Act.put, List.setIfInBounds_toArray, List.set_cons_zero, List.set_cons_succ, i64_w, i32_w]
      rfl
    refine pure_ (i := 11) (N := some 58) (v := ?_) (a' := ?_) #[true, true, true, true, true, true, true, false, true, false, true, true, false, false, false, false, false] rfl rfl (by kernel_rfl) (fun _ _ _ h => h) (Or.inl ⟨by rfl, ?_⟩) ?_ ?_
    rotate_left
    · intro w'
      go_simp
      with_reducible rfl
    rotate_left
    · simp only [Act.put, List.setIfInBounds_toArray, List.set_cons_zero, List.set_cons_succ, i64_w, i32_w]
      rfl
    refine pure_ (i := 12) (N := some 59) (v := ?_) (a' := ?_) #[true, true, true, true, true, true, true, false, true, false, true, true, true, false, false, false, false] rfl rfl (by kernel_rfl) (fun _ _ _ h => h) (Or.inl ⟨by rfl, ?_⟩) ?_ ?_
    rotate_left
    · intro w'
      go_simp
      with_reducible rfl
    rotate_left
    · simp only [Act.put, List.setIfInBounds_toArray, List.set_cons_zero, List.set_cons_succ, i64_w, i32_w]
      rfl
    refine take_ (i := 7) (N := some 54) (v := ?_) (a' := ?_) #[true, true, true, true, true, true, true, true, true, false, true, true, true, false, false, false, false] rfl rfl (by kernel_rfl) (fun _ _ _ h => h) (Or.inl ⟨by rfl, ?_⟩) hHeld ?_ ?_
    rotate_left
    · rintro w' ⟨s0, s1⟩
      go_simp
      with_reducible rfl
    rotate_left
    · simp only [Act.put, List.setIfInBounds_toArray, List.set_cons_zero, List.set_cons_succ, i64_w, i32_w]
      rfl
    refine pure_ (i := 9) (N := some 56) (v := ?_) (a' := ?_) #[true, true, true, true, true, true, true, true, true, true, true, true, true, false, false, false, false] rfl rfl (by kernel_rfl) (fun _ _ _ h => h) (Or.inl ⟨by rfl, ?_⟩) ?_ ?_
    rotate_left
    · intro w'
      go_simp
      with_reducible rfl
    rotate_left
    · simp only [Act.put, List.setIfInBounds_toArray, List.set_cons_zero, List.set_cons_succ, i64_w, i32_w]
      rfl
    refine take_ (i := 13) (N := some 60) (v := ?_) (a' := ?_) #[true, true, true, true, true, true, true, true, true, true, true, true, true, true, false, false, false] rfl rfl (by kernel_rfl) (fun _ _ _ h => h) (Or.inl ⟨by rfl, ?_⟩) hHeld ?_ ?_
    rotate_left
    · rintro w' ⟨s0, s1⟩
      go_simp
      with_reducible rfl
    rotate_left
    · simp only [Act.put, List.setIfInBounds_toArray, List.set_cons_zero, List.set_cons_succ, i64_w, i32_w]
      rfl
    refine pure_ (i := 14) (N := some 61) (v := ?_) (a' := ?_) #[true, true, true, true, true, true, true, true, true, true, true, true, true, true, true, false, false] rfl rfl (by kernel_rfl) (fun _ _ _ h => h) (Or.inl ⟨by rfl, ?_⟩) ?_ ?_
    rotate_left
    · intro w'
      go_simp
      with_reducible rfl
    rotate_left
    · simp only [Act.put, List.setIfInBounds_toArray, List.set_cons_zero, List.set_cons_succ, i64_w, i32_w]
      rfl
    refine pure_ (i := 15) (N := some 62) (v := ?_) (a' := ?_) #[true, true, true, true, true, true, true, true, true, true, true, true, true, true, true, true, false] rfl rfl (by kernel_rfl) (fun _ _ _ h => h) (Or.inl ⟨by rfl, ?_⟩) ?_ ?_
    rotate_left
    · intro w'
      go_simp
      with_reducible rfl
    rotate_left
    · simp only [Act.put, List.setIfInBounds_toArray, List.set_cons_zero, List.set_cons_succ, i64_w, i32_w]
      rfl
    refine last_ (i := 16) (N := none) #[true, true, true, true, true, true, true, true, true, true, true, true, true, true, true, true, true] rfl rfl (by kernel_rfl) (by decide) (fun K hK => ?_)
    refine skip_ (w1 := ?_) (by rfl) rfl ?_ ?_
    rotate_left
    · go_simp
      rfl
    refine hK.out _ _ ?_
    clear hK K
    refine done_ (by kernel_rfl) ?_
    have o3 := (((hown5.stored (k * 3) (.string s)).1.stored (k * 3 + 1) (.int .i64 (max v.1 a))).1.stored (k * 3 + 2) (.int .i64 t.now)).1
    have hes := cellsS_set t.L k (s.data.toList, (max v.1 a, t.now)) hkm
    have hsz := hf3.size
    have hownY : (((w5.setCell ⟨g, k * 3, none⟩ (.string s)).setCell ⟨g, k * 3 + 1, none⟩ (.int .i64 (max v.1 a))).setCell ⟨g, k * 3 + 2, none⟩ (.int .i64 t.now)).drew.ownsRow w3.heap.size 54 3 (.slice (some ⟨g, 0, none⟩) t.L.length cap5) d.L.length (cellsS d.L) := by
      rw [hps.out, List.length_set, ← hes]
      exact o3
    have hbY : Below w3.heap.size w3 (((w5.setCell ⟨g, k * 3, none⟩ (.string s)).setCell ⟨g, k * 3 + 1, none⟩ (.int .i64 (max v.1 a))).setCell ⟨g, k * 3 + 2, none⟩ (.int .i64 t.now)).drew := (((hb5.setCell (p := ⟨g, k * 3, none⟩) hgb _).setCell (p := ⟨g, k * 3 + 1, none⟩) hgb _).setCell (p := ⟨g, k * 3 + 2, none⟩) hgb _).drew
    have hcY := hc3.below hbY
    have hfrY := hf3.trans (Fr.of_below (S := (· = q)) hbY)
    clear hHeld o3 hbY hown5 e0 e1 e2 f0 f1 f2 c2 hc5
    generalize (((w5.setCell ⟨g, k * 3, none⟩ (.string s)).setCell ⟨g, k * 3 + 1, none⟩ (.int .i64 (max v.1 a))).setCell ⟨g, k * 3 + 2, none⟩ (.int .i64 t.now)).drew = Y at *
    have c4Y := (hcY.c4)
    obtain ⟨_, _, c4Y, _, _, _⟩ := c4Y
    have f4Y := hcY.fz 4
    have hrZ := hcY.setL d hds.out.1 hds.out.2.1 hds.out.2.2.1 hds.out.2.2.2 hownY hrsd hnmd
    have hfrZ : Fr (· = q) w (Y.setCell ⟨q, 4, none⟩ (.slice (some ⟨g, 0, none⟩) t.L.length cap5)) := hfrY.trans (Fr.setCell (S := (· = q)) (Fr.refl _ _) (p := ⟨q, 4, none⟩) rfl _)
    go_wp2_with fail
    clear c4Y f4Y hcY hfrY hownY
    generalize Y.setCell ⟨q, 4, none⟩ (.slice (some ⟨g, 0, none⟩) t.L.length cap5) = Z at *
    have c3 := hrZ.c3
    have f3 := hrZ.fz 3
    refine start_ (n := 11) (S := fun w' => w'.cell? ⟨q, 3, none⟩ = some (.int .i64 d.mark)) (ds := [10]) #[false, false, false, false, false, false, false, false, false, false, false] (by kernel_rfl) rfl rfl (c3) (fun hHeld => ?_)
    refine pure_ (i := 0) (N := some 91) (v := ?_) (a' := ?_) #[true, false, false, false, false, false, false, false, false, false, false] rfl rfl (by kernel_rfl) (fun _ _ _ h => h) (Or.inl ⟨by rfl, ?_⟩) ?_ ?_
    rotate_left
    · intro w'
      go_simp
      with_reducible rfl
    rotate_left
    · simp only [Act.put, List.setIfInBounds_toArray, List.set_cons_zero, List.set_cons_succ, i64_w, i32_w]
      rfl
    refine pure_ (i := 1) (N := some 92) (v := ?_) (a' := ?_) #[true, true, false, false, false, false, false, false, false, false, false] rfl rfl (by kernel_rfl) (fun _ _ _ h => h) (Or.inl ⟨by rfl, ?_⟩) ?_ ?_
    rotate_left
    · intro w'
      go_simp
      with_reducible rfl
    rotate_left
    · simp only [Act.put, List.setIfInBounds_toArray, List.set_cons_zero, List.set_cons_succ, i64_w, i32_w]
      rfl
    refine pure_ (i := 2) (N := some 93) (v := ?_) (a' := ?_) #[true, true, true, false, false, false, false, false, false, false, false] rfl rfl (by kernel_rfl) (fun _ _ _ h => h) (Or.inl ⟨by rfl, ?_⟩) ?_ ?_
    rotate_left
    · intro w'
      go_simp
      with_reducible rfl
    rotate_left
    · simp only [Act.put, List.setIfInBounds_toArray, List.set_cons_zero, List.set_cons_succ, i64_w, i32_w]
      rfl
    refine pure_ (i := 3) (N := some 94) (v := ?_) (a' := ?_) #[true, true, true, true, false, false, false, false, false, false, false] rfl rfl (by kernel_rfl) (fun _ _ _ h => h) (Or.inl ⟨by rfl, ?_⟩) ?_ ?_
    rotate_left
    · intro w'
      go_simp
      with_reducible rfl
    rotate_left
    · simp only [Act.put, List.setIfInBounds_toArray, List.set_cons_zero, List.set_cons_succ, i64_w, i32_w]
      rfl
    refine pure_ (i := 5) (N := some 96) (v := ?_) (a' := ?_) #[true, true, true, true, false, true, false, false, false, false, false] rfl rfl (by kernel_rfl) (fun _ _ _ h => h) (Or.inl ⟨by rfl, ?_⟩) ?_ ?_
    rotate_left
    · intro w'
      go_simp
      with_reducible rfl
    rotate_left
    · simp only [Act.put, List.setIfInBounds_toArray, List.set_cons_zero, List.set_cons_succ, i64_w, i32_w]
      rfl
    refine take_ (i := 4) (N := some 95) (v := ?_) (a' := ?_) #[true, true, true, true, true, true, false, false, false, false, false] rfl rfl (by kernel_rfl) (fun _ _ _ h => h) (Or.inl ⟨by rfl, ?_⟩) hHeld ?_ ?_
    rotate_left
    · intro w' s0
      go_simp
      with_reducible rfl
    rotate_left
    · simp only [Act.put, List.setIfInBounds_toArray, List.set_cons_zero, List.set_cons_succ, i64_w, i32_w]
      rfl
    refine one_ (i := 6) (N := some 97) #[true, true, true, true, true, true, true, false, false, false, false] rfl rfl (by kernel_rfl) (by decide) (fun K hK => ?_)
    refine goes_ Tryd.func27 (by kernel_rfl) rfl #[.pointer (some ⟨q, 0, none⟩)] (by rfl) rfl rfl (by simp only [List.map_toArray, List.map_cons, List.map_nil]; rfl) ?_
    with_reducible refine (tell_calls q d _ (by exact hrZ.drew) (by exact hokd) (by exact hdl)).mono ?_
    rintro e w1 ⟨rfl, hb1⟩
    refine ⟨_, rfl, ?_⟩
    have hr1 : Rf w1 q d := hrZ.drew.below hb1
    have c3' := hr1.c3
    have f3' := hr1.fz 3
    refine hK.out _ _ (c3') (fun hHeld => ?_)
    clear hK K
    refine norm_ (a' := ?_) ?_ ?_
    rotate_left
    · show Act.put _ (some 97) _ = _
      simp only [Act.put, List.setIfInBounds_toArray, List.set_cons_zero, List.set_cons_succ, i64_w, i32_w]
      rfl
    refine pure_ (i := 7) (N := some 98) (v := ?_) (a' := ?_) #[true, true, true, true, true, true, true, true, false, false, false] rfl rfl (by kernel_rfl) (fun _ _ _ h => h) (Or.inl ⟨by rfl, ?_⟩) ?_ ?_
    rotate_left
    · intro w'
      go_simp
      with_reducible rfl
    rotate_left
    · simp only [Act.put, List.setIfInBounds_toArray, List.set_cons_zero, List.set_cons_succ, i64_w, i32_w]
      rfl
    refine pure_ (i := 8) (N := some 99) (v := ?_) (a' := ?_) #[true, true, true, true, true, true, true, true, true, false, false] rfl rfl (by kernel_rfl) (fun _ _ _ h => h) (Or.inl ⟨by rfl, ?_⟩) ?_ ?_
    rotate_left
    · intro w'
      go_simp
      with_reducible rfl
    rotate_left
    · simp only [Act.put, List.setIfInBounds_toArray, List.set_cons_zero, List.set_cons_succ, i64_w, i32_w]
      rfl
    refine pure_ (i := 9) (N := some 100) (v := ?_) (a' := ?_) #[true, true, true, true, true, true, true, true, true, true, false] rfl rfl (by kernel_rfl) (fun _ _ _ h => h) (Or.inl ⟨by rfl, ?_⟩) ?_ ?_
    rotate_left
    · intro w'
      go_simp
      with_reducible rfl
    rotate_left
    · simp only [Act.put, List.setIfInBounds_toArray, List.set_cons_zero, List.set_cons_succ, i64_w, i32_w]
      rfl
    refine last_ (i := 10) (N := none) #[true, true, true, true, true, true, true, true, true, true, true] rfl rfl (by kernel_rfl) (by decide) (fun K hK => ?_)
    refine skip_ (w1 := ?_) (by rfl) rfl ?_ ?_
    rotate_left
    · go_simp
      rfl
    refine hK.out _ _ ?_
    clear hK K
    refine done_ (by kernel_rfl) ?_
    have hr2 := hr1.set_mark (max d.mark (tellV d))
    have hfr3 : Fr (· = q) w (w1.setCell ⟨q, 3, none⟩ (.int .i64 (max d.mark (tellV d)))) := (hfrZ.drew.trans (Fr.of_below hb1)).trans (Fr.setCell (S := (· = q)) (Fr.refl _ _) (p := ⟨q, 3, none⟩) rfl _)
    clear hHeld hb1 hr1 c3' f3' hrZ hfrZ c3 f3
    generalize w1.setCell ⟨q, 3, none⟩ (.int .i64 (max d.mark (tellV d))) = Y2 at *
    go_wp2
    go_ret
    exact ⟨rfl, by rw [HD.out]; exact hr2, hfr3⟩
  | none =>
    have hg' : (get t.L s.data.toList).isSome = false := by rw [hgt2]; rfl
    go_enter Tryd.func13, Tryd.ntmps13
    go_wp2_with (first
      | (go_at_call 11; refine (hrt _ h).mono ?_; rintro e w1 ⟨rfl, hc1, hf1⟩; have c3 := hc1.c3)
      | (go_at_call 30; refine (rname_calls s _ hs).mono ?_; rintro e w2 ⟨rfl, rfl⟩)
      | (go_at_call 31; refine (place_calls q t s _ hc1 hs hlt).mono ?_; rintro e w3 ⟨rfl, hb3⟩; have hc3 := hc1.below hb3; have hq3 := hc3.ltq; obtain ⟨X, cap, c4, he3, hcap, ho3⟩ := hc3.c4
         have hrd : Reads (w3.alloc (.cells #[] 54)) w3.heap.size 3 X t.L.length (cellsS t.L) := (Reads.of_own ho3).alloc (Nat.le_refl _) _
         have HRD := Lib.hid hrd
         have hf3 : Fr (· = q) w w3 := hf1.trans (Fr.of_below hb3)
         clear hrd hb3 hc1 hf1 c3)
      | (at_builtin
         refine wpList_append_any _ rfl (.tmp 40) (.tmp 44) _ rfl w3.heap.size 54 i0 _ 3 32 Tryd.underlying47 HI0.out HZ0.out HZ1.out HZ2.out rfl (by omega) (.slice (some ⟨w3.heap.size, 0, none⟩) 0 0) 0 [] rfl
           (rown_empty (by exact heap_alloc_new w3 _) (Nat.le_refl _)) w3.heap.size X t.L.length cap (cellsS t.L) rfl HRD.out (cellsS_one _) (by unfold maxLen; omega) (by omega) (by simp) ?_
         intro v5 w5 hown5 hg5 hat5
         have hb5 : Below w3.heap.size w3 w5 := ((Below.refl _ w3).alloc (Nat.le_refl _) _).grown hg5 (by simp) (by intro k hk; simp [Value.ownBlock] at hk; omega)))
    have hrsd : Rising d.L := by rw [hdL.out]; exact rising_put hc3.rs _ _
    have hnmd : ∀ e ∈ d.L, e.1.length ≤ 1000 := by
      rw [hdL.out]
      intro e he
      rcases mem_put.1 he with rfl | ⟨he, _⟩
      · exact hsl
      · exact hc3.nm e he
    have hkm := pl_le t.L s.data.toList
    have hps : Hid (d.L = t.L.take (pl t.L s.data.toList) ++ (s.data.toList, (a, t.now)) :: t.L.drop (pl t.L s.data.toList)) := by
      have := put_none (max a (at0 t.L s.data.toList), t.now) hc3.rs hgt2
      have e := hdL.out
      rw [this, at0_eq, hgt2] at e
      have e2 : max a (0 : Int) = a := by omega
      simp only [e2] at e
      exact e
    have hc5 := hc3.below hb5
    have c2 := hc5.c2
    have hq5 := hc5.ltq
    have hf5 : Fr (· = q) w w5 := hf3.trans (Fr.of_below hb5)
    obtain ⟨X5, cap5, c4', he5, hcap5, ho5⟩ := hc5.c4
    have hX := hb5.cell (p := ⟨q, 4, none⟩) hq3
    rw [c4, c4'] at hX
    obtain ⟨rfl, rfl⟩ : X5 = X ∧ cap5 = cap := by
      simp only [Option.some.injEq, Value.slice.injEq, true_and] at hX
      exact hX
    clear hX c4 he3 ho3 HRD hf3 hown5 hg5 hat5 hb5 hc3 he5
    generalize hk : pl t.L s.data.toList = k at *
    generalize hm : t.L.length = m at *
    have HM := Lib.hid hm
    have hkI : (0 : Int) ≤ (k : Int) := Int.natCast_nonneg _
    have hkI2 : (k : Int) ≤ (m : Int) := by omega
    have hkI3 : (m : Int) ≤ (cap5 : Int) := by omega
    have hkc : k ≤ cap5 := by omega
    have hRX := Reads.of_own ho5
    have HRT : Hid (Reads w5.drew w5.heap.size 3 X5 k (cellsS (t.L.take k))) := by
      have h1 := hRX.take_ (k := k) hkm
      rw [cellsS_take] at h1
      exact h1.drew
    have HRE : Hid (Reads w5.drew w5.heap.size 3 (if cap5 = k then X5 else Option.map (fun x => x.add (k * 3)) X5) (m - k) (cellsS (t.L.drop k))) := by
      have h1 := hRX.cut (k := k) (cap := cap5) hkm hcap5
      rw [cellsS_drop] at h1
      exact h1.drew
    have HBQ : Hid (∀ W, Below w5.heap.size w5 W → W.cell? ⟨q, 4, none⟩ = some (.slice X5 m cap5) ∧ W.cell? ⟨q, 2, none⟩ = some (.int .i64 t.now)) := fun W hW => ⟨(hW.cell (p := ⟨q, 4, none⟩) hq5).trans c4', (hW.cell (p := ⟨q, 2, none⟩) hq5).trans c2⟩
    clear hRX ho5
    refine start_ (n := 25) (S := fun w' => w'.cell? ⟨q, 4, none⟩ = some (.slice X5 m cap5) ∧ w'.cell? ⟨q, 2, none⟩ = some (.int .i64 t.now)) (ds := []) #[false, false, false, false, false, false, false, false, false, false, false, false, false, false, false, false, false, false, false, false, false, false, false, false, false] (by kernel_rfl) rfl rfl ⟨(HBQ.out _ (Below.refl _ _)).1, (HBQ.out _ (Below.refl _ _)).2⟩ (fun hHeld => ?_)
    refine pure_ (i := 1) (N := some 64) (v := ?_) (a' := ?_) #[false, true, false, false, false, false, false, false, false, false, false, false, false, false, false, false, false, false, false, false, false, false, false, false, false] rfl rfl (by kernel_rfl) (fun _ _ _ h => h) (Or.inl ⟨by rfl, ?_⟩) ?_ ?_
    rotate_left
    · intro w'
      go_simp
      with_reducible rfl
    rotate_left
    · simp only [Act.put, List.setIfInBounds_toArray, List.set_cons_zero, List.set_cons_succ, i64_w, i32_w]
      rfl
    refine pure_ (i := 2) (N := some 65) (v := ?_) (a' := ?_) #[false, true, true, false, false, false, false, false, false, false, false, false, false, false, false, false, false, false, false, false, false, false, false, false, false] rfl rfl (by kernel_rfl) (fun _ _ _ h => h) (Or.inl ⟨by rfl, ?_⟩) ?_ ?_
    rotate_left
    · intro w'
      go_simp
      with_reducible rfl
    rotate_left
    · simp only [Act.put, List.setIfInBounds_toArray, List.set_cons_zero, List.set_cons_succ, i64_w, i32_w]
      rfl
    refine pure_ (i := 3) (N := some 66) (v := ?_) (a' := ?_) #[false, true, true, true, false, false, false, false, false, false, false, false, false, false, false, false, false, false, false, false, false, false, false, false, false] rfl rfl (by kernel_rfl) (fun _ _ _ h => h) (Or.inl ⟨by rfl, ?_⟩) ?_ ?_
    rotate_left
    · intro w'
      go_simp
      with_reducible rfl
    rotate_left
    · simp only [Act.put, List.setIfInBounds_toArray, List.set_cons_zero, List.set_cons_succ, i64_w, i32_w]
      rfl
    refine pure_ (i := 5) (N := some 68) (v := ?_) (a' := ?_) #[false, true, true, true, false, true, false, false, false, false, false, false, false, false, false, false, false, false, false, false, false, false, false, false, false] rfl rfl (by kernel_rfl) (fun _ _ _ h => h) (Or.inl ⟨by rfl, ?_⟩) ?_ ?_
    rotate_left
    · intro w'
      go_simp
      with_reducible rfl
    rotate_left
    · simp only [Act.put, List.setIfInBounds_toArray, List.set_cons_zero, List.set_cons_succ, i64_w, i32_w]
      rfl
    refine pure_ (i := 8) (N := some 71) (v := ?_) (a' := ?_) #[false, true, true, true, false, true, false, false, true, false, false, false, false, false, false, false, false, false, false, false, false, false, false, false, false] rfl rfl (by kernel_rfl) (fun _ _ _ h => h) (Or.inl ⟨by rfl, ?_⟩) ?_ ?_
    rotate_left
    · intro w'
      go_simp
      with_reducible rfl
    rotate_left
    · simp only [Act.put, List.setIfInBounds_toArray, List.set_cons_zero, List.set_cons_succ, i64_w, i32_w]
      rfl
    refine pure_ (i := 9) (N := some 72) (v := ?_) (a' := ?_) #[false, true, true, true, false, true, false, false, true, true, false, false, false, false, false, false, false, false, false, false, false, false, false, false, false] rfl rfl (by kernel_rfl) (fun _ _ _ h => h) (Or.inl ⟨by rfl, ?_⟩) ?_ ?_
    rotate_left
    · intro w'
      go_simp
      with_reducible rfl
    rotate_left
    · simp only [Act.put, List.setIfInBounds_toArray, List.set_cons_zero, List.set_cons_succ, i64_w, i32_w]
      rfl
    refine pure_ (i := 10) (N := some 73) (v := ?_) (a' := ?_) #[false, true, true, true, false, true, false, false, true, true, true, false, false, false, false, false, false, false, false, false, false, false, false, false, false] rfl rfl (by kernel_rfl) (fun _ _ _ h => h) (Or.inl ⟨by rfl, ?_⟩) ?_ ?_
    rotate_left
    · intro w'
      go_simp
      with_reducible rfl
    rotate_left
    · simp only [Act.put, List.setIfInBounds_toArray, List.set_cons_zero, List.set_cons_succ, i64_w, i32_w]
      rfl
    refine pure_ (i := 11) (N := some 74) (v := ?_) (a' := ?_) #[false, true, true, true, false, true, false, false, true, true, true, true, false, false, false, false, false, false, false, false, false, false, false, false, false] rfl rfl (by kernel_rfl) (fun _ _ _ h => h) (Or.inl ⟨by rfl, ?_⟩) ?_ ?_
    rotate_left
    · intro w'
      go_simp
      with_reducible rfl
    rotate_left
    · simp only [Act.put, List.setIfInBounds_toArray, List.set_cons_zero, List.set_cons_succ, i64_w, i32_w]
      rfl
    refine pure_ (i := 12) (N := some 75) (v := ?_) (a' := ?_) #[false, true, true, true, false, true, false, false, true, true, true, true, true, false, false, false, false, false, false, false, false, false, false, false, false] rfl rfl (by kernel_rfl) (fun _ _ _ h => h) (Or.inl ⟨by rfl, ?_⟩) ?_ ?_
    rotate_left
    · intro w'
      go_simp
      with_reducible rfl
    rotate_left
    · simp only [Act.put, List.setIfInBounds_toArray, List.set_cons_zero, List.set_cons_succ, i64_w, i32_w]
      rfl
    refine pure_ (i := 17) (N := some 80) (v := ?_) (a' := ?_) #[false, true, true, true, false, true, false, false, true, true, true, true, true, false, false, false, false, true, false, false, false, false, false, false, false] rfl rfl (by kernel_rfl) (fun _ _ _ h => h) (Or.inl ⟨by rfl, ?_⟩) ?_ ?_
    rotate_left
    · intro w'
      go_simp
      with_reducible rfl
    rotate_left
    · simp only [Act.put, List.setIfInBounds_toArray, List.set_cons_zero, List.set_cons_succ, i64_w, i32_w]
      rfl
    refine pure_ (i := 18) (N := some 81) (v := ?_) (a' := ?_) #[false, true, true, true, false, true, false, false, true, true, true, true, true, false, false, false, false, true, true, false, false, false, false, false, false] rfl rfl (by kernel_rfl) (fun _ _ _ h => h) (Or.inl ⟨by rfl, ?_⟩) ?_ ?_
    rotate_left
    · intro w'
      go_simp
      with_reducible rfl
    rotate_left
    · simp only [Act.put, List.setIfInBounds_toArray, List.set_cons_zero, List.set_cons_succ, i64_w, i32_w]
      rfl
    refine pure_ (i := 19) (N := some 82) (v := ?_) (a' := ?_) #[false, true, true, true, false, true, false, false, true, true, true, true, true, false, false, false, false, true, true, true, false, false, false, false, false] rfl rfl (by kernel_rfl) (fun _ _ _ h => h) (Or.inl ⟨by rfl, ?_⟩) ?_ ?_
    rotate_left
    · intro w'
      go_simp
      with_reducible rfl
    rotate_left
    · simp only [Act.put, List.setIfInBounds_toArray, List.set_cons_zero, List.set_cons_succ, i64_w, i32_w]
      rfl
    refine pure_ (i := 21) (N := some 84) (v := ?_) (a' := ?_) #[false, true, true, true, false, true, false, false, true, true, true, true, true, false, false, false, false, true, true, true, false, true, false, false, false] rfl rfl (by kernel_rfl) (fun _ _ _ h => h) (Or.inl ⟨by rfl, ?_⟩) ?_ ?_
    rotate_left
    · intro w'
      go_simp
      with_reducible rfl
    rotate_left
    · simp only [Act.put, List.setIfInBounds_toArray, List.set_cons_zero, List.set_cons_succ, i64_w, i32_w]
      rfl
    refine take_ (i := 4) (N := some 67) (v := ?_) (a' := ?_) #[false, true, true, true, true, true, false, false, true, true, true, true, true, false, false, false, false, true, true, true, false, true, false, false, false] rfl rfl (by kernel_rfl) (fun _ _ _ h => h) (Or.inl ⟨by rfl, ?_⟩) hHeld ?_ ?_
    rotate_left
    · rintro w' ⟨s0, s1⟩
      go_simp
      with_reducible rfl
    rotate_left
    · simp only [Act.put, List.setIfInBounds_toArray, List.set_cons_zero, List.set_cons_succ, i64_w, i32_w]
      rfl
    refine pure_ (i := 6) (N := some 69) (v := ?_) (a' := ?_) #[false, true, true, true, true, true, true, false, true, true, true, true, true, false, false, false, false, true, true, true, false, true, false, false, false] rfl rfl (by kernel_rfl) (fun _ _ _ h => h) (Or.inl ⟨by rfl, ?_⟩) ?_ ?_
    rotate_left
    · intro w'
      go_simp
      with_reducible rfl
    rotate_left
    · simp only [Act.put, List.setIfInBounds_toArray, List.set_cons_zero, List.set_cons_succ, i64_w, i32_w]
      rfl
    refine take_ (i := 13) (N := some 76) (v := ?_) (a' := ?_) #[false, true, true, true, true, true, true, false, true, true, true, true, true, true, false, false, false, true, true, true, false, true, false, false, false] rfl rfl (by kernel_rfl) (fun _ _ _ h => h) (Or.inl ⟨by rfl, ?_⟩) hHeld ?_ ?_
    rotate_left
    · rintro w' ⟨s0, s1⟩
      go_simp
      with_reducible rfl
    rotate_left
    · simp only [Act.put, List.setIfInBounds_toArray, List.set_cons_zero, List.set_cons_succ, i64_w, i32_w]
      rfl
    refine pure_ (i := 14) (N := some 77) (v := ?_) (a' := ?_) #[false, true, true, true, true, true, true, false, true, true, true, true, true, true, true, false, false, true, true, true, false, true, false, false, false] rfl rfl (by kernel_rfl) (fun _ _ _ h => h) (Or.inl ⟨by rfl, ?_⟩) ?_ ?_
    rotate_left
    · intro w'
      go_simp
      with_reducible rfl
    rotate_left
    · simp only [Act.put, List.setIfInBounds_toArray, List.set_cons_zero, List.set_cons_succ, i64_w, i32_w]
      rfl
    refine take_ (i := 20) (N := some 83) (v := ?_) (a' := ?_) #[false, true, true, true, true, true, true, false, true, true, true, true, true, true, true, false, false, true, true, true, true, true, false, false, false] rfl rfl (by kernel_rfl) (fun _ _ _ h => h) (Or.inl ⟨by rfl, ?_⟩) hHeld ?_ ?_
    rotate_left
    · rintro w' ⟨s0, s1⟩
      go_simp
      with_reducible rfl
    rotate_left
    · simp only [Act.put, List.setIfInBounds_toArray, List.set_cons_zero, List.set_cons_succ, i64_w, i32_w]
      rfl
    refine pure_ (i := 22) (N := some 85) (v := ?_) (a' := ?_) #[false, true, true, true, true, true, true, false, true, true, true, true, true, true, true, false, false, true, true, true, true, true, true, false, false] rfl rfl (by kernel_rfl) (fun _ _ _ h => h) (Or.inl ⟨by rfl, ?_⟩) ?_ ?_
    rotate_left
    · intro w'
      go_simp
      with_reducible rfl
    rotate_left
    · simp only [Act.put, List.setIfInBounds_toArray, List.set_cons_zero, List.set_cons_succ, i64_w, i32_w]
      rfl
    refine join_ (σ := Nat × Nat × Value) 3 #[true, true, true, true, true, true, true, true, true, true, true, true, true, true, true, true, false, true, true, true, true, true, true, false, false] (fun z => [(63, .slice (some ⟨z.1, 0, none⟩) 0 0), (70, z.2.2), (78, .slice (some ⟨z.2.1, 0, none⟩) 1 1)]) (fun z w' => AF w5 w' z.2.1 #[.string s, .int .i64 a, .int .i64 t.now] ∧ w'.ownsRow w5.heap.size 54 3 z.2.2 (0 + k) ([] ++ cellsS (t.L.take k)) ∧ (∀ y, z.2.2.ownBlock = some y → y ≠ z.2.1) ∧ Below w5.heap.size w5 w') ?_ ?_
    rotate_left
    · intro hCont
      refine two_ (i := 0) (j := 15) (Ni := some 63) (Nj := some 78) #[true, true, true, true, true, true, true, false, true, true, true, true, true, true, true, false, false, true, true, true, true, true, true, false, false] #[false, true, true, true, true, true, true, false, true, true, true, true, true, true, true, true, false, true, true, true, true, true, true, false, false] rfl rfl rfl rfl (by kernel_rfl) (by decide) (by decide) (fun K hK => ?_) (fun K hK => ?_)
      · skip
        refine value_ (w1 := ?_) (v := ?_) (by rfl) rfl ?_ ?_
        rotate_left 2
        · go_simp
          constructor
          · rfl
          · rfl
        have hB0 : Below w5.heap.size w5 w5.drew := (Below.refl _ _).drew
        have hB1 : Below w5.heap.size w5 (w5.drew.alloc (.cells #[] 54)) := Below.alloc hB0 (by exact hB0.size) _
        have en0 : w5.drew.heap.size = w5.heap.size := rfl
        have own0 : (w5.drew.alloc (.cells #[] 54)).ownsRow w5.heap.size 54 3 (.slice (some ⟨w5.heap.size, 0, none⟩) 0 0) 0 [] := rown_empty (by rw [← en0]; exact heap_alloc_new w5.drew _) (by omega)
        have hrt := HRT.out.alloc (by exact hB0.size) (.cells #[] 54)
        refine hK.out _ _ ⟨(HBQ.out _ hB1).1, (HBQ.out _ hB1).2⟩ (fun hHeld => ?_)
        clear hK K
        refine norm_ (a' := ?_) ?_ ?_
        rotate_left
        · show Act.put _ (some 63) _ = _
          simp only [Act.put, List.setIfInBounds_toArray, List.set_cons_zero, List.set_cons_succ, i64_w, i32_w]
          rfl
        refine two_ (i := 7) (j := 15) (Ni := some 70) (Nj := some 78) #[true, true, true, true, true, true, true, true, true, true, true, true, true, true, true, false, false, true, true, true, true, true, true, false, false] #[true, true, true, true, true, true, true, false, true, true, true, true, true, true, true, true, false, true, true, true, true, true, true, false, false] rfl rfl rfl rfl (by kernel_rfl) (by decide) (by decide) (fun K hK => ?_) (fun K hK => ?_)
        · skip
          refine step_append_any _ (by rfl) (.tmp 63) (.tmp 69) _ (by rfl) w5.heap.size 54 i0 _ 3 32 Tryd.underlying47 HI0.out HZ0.out HZ1.out HZ2.out rfl (by omega) (.slice (some ⟨w5.heap.size, 0, none⟩) 0 0) 0 [] (by rfl) (by exact own0) w5.heap.size X5 k cap5 (cellsS (t.L.take k)) (by rfl) hrt (cellsS_one _) (by unfold maxLen; omega) (by omega) (by exact hB1.size) ?_
          intro v7 w7 hown7 hg7 hat7
          have hB2 : Below w5.heap.size w5 w7 := hB1.grown hg7 (by exact hB1.size) (by intro k hk; simp only [Value.ownBlock, Option.some.injEq] at hk; omega)
          refine hK.out _ _ ⟨(HBQ.out _ hB2).1, (HBQ.out _ hB2).2⟩ (fun hHeld => ?_)
          clear hK K
          refine norm_ (a' := ?_) ?_ ?_
          rotate_left
          · show Act.put _ (some 70) _ = _
            simp only [Act.put, List.setIfInBounds_toArray, List.set_cons_zero, List.set_cons_succ, i64_w, i32_w]
            rfl
          refine one_ (i := 15) (N := some 78) #[true, true, true, true, true, true, true, true, true, true, true, true, true, true, true, true, false, true, true, true, true, true, true, false, false] rfl rfl (by kernel_rfl) (by decide) (fun K hK => ?_)
          refine value_ (w1 := ?_) (v := ?_) (by rfl) rfl ?_ ?_
          rotate_left 2
          · go_simp
            constructor
            · rfl
            · rfl
          have hB3 : Below w5.heap.size w5 (w7.alloc (.cells #[.string s, .int .i64 a, .int .i64 t.now] 54)) := Below.alloc hB2 (by exact hB2.size) _
          have en2 : w7.heap.size = w7.heap.size := rfl
          have af1 : AF w5 (w7.alloc (.cells #[.string s, .int .i64 a, .int .i64 t.now] 54)) (w7.heap.size) #[.string s, .int .i64 a, .int .i64 t.now] := by
            have h9 := AF.new_ (w5 := w5) (wx := w7) (c := #[.string s, .int .i64 a, .int .i64 t.now]) hB2.size
            rw [en2] at h9
            exact h9
          refine hK.out _ _ ⟨(HBQ.out _ hB3).1, (HBQ.out _ hB3).2⟩ (fun hHeld => ?_)
          clear hK K
          refine norm_ (a' := ?_) ?_ ?_
          rotate_left
          · show Act.put _ (some 78) _ = _
            simp only [Act.put, List.setIfInBounds_toArray, List.set_cons_zero, List.set_cons_succ, i64_w, i32_w]
            rfl
          exact norm_ (by simp only [putAll, Act.put, List.setIfInBounds_toArray, List.set_cons_zero, List.set_cons_succ]) (hCont (w5.heap.size, w7.heap.size, v7) _ ⟨af1, hown7.alloc _, fun z hz e => by have h1 := (hown7.lt z hz).2; have e2 : z = w7.heap.size := e; omega, hB3⟩)
        · skip
          refine value_ (w1 := ?_) (v := ?_) (by rfl) rfl ?_ ?_
          rotate_left 2
          · go_simp
            constructor
            · rfl
            · rfl
          have hB2 : Below w5.heap.size w5 ((w5.drew.alloc (.cells #[] 54)).alloc (.cells #[.string s, .int .i64 a, .int .i64 t.now] 54)) := Below.alloc hB1 (by exact hB1.size) _
          have en1 : (w5.drew.alloc (.cells #[] 54)).heap.size = w5.heap.size + 1 := alloc_sz _ _
          have af1 : AF w5 ((w5.drew.alloc (.cells #[] 54)).alloc (.cells #[.string s, .int .i64 a, .int .i64 t.now] 54)) (w5.heap.size + 1) #[.string s, .int .i64 a, .int .i64 t.now] := by
            have h9 := AF.new_ (w5 := w5) (wx := (w5.drew.alloc (.cells #[] 54))) (c := #[.string s, .int .i64 a, .int .i64 t.now]) hB1.size
            rw [en1] at h9
            exact h9
          have own0 := own0.alloc (.cells #[.string s, .int .i64 a, .int .i64 t.now] 54)
          have hrt := hrt.alloc (by exact hB1.size) (.cells #[.string s, .int .i64 a, .int .i64 t.now] 54)
          refine hK.out _ _ ⟨(HBQ.out _ hB2).1, (HBQ.out _ hB2).2⟩ (fun hHeld => ?_)
          clear hK K
          refine norm_ (a' := ?_) ?_ ?_
          rotate_left
          · show Act.put _ (some 78) _ = _
            simp only [Act.put, List.setIfInBounds_toArray, List.set_cons_zero, List.set_cons_succ, i64_w, i32_w]
            rfl
          refine one_ (i := 7) (N := some 70) #[true, true, true, true, true, true, true, true, true, true, true, true, true, true, true, true, false, true, true, true, true, true, true, false, false] rfl rfl (by kernel_rfl) (by decide) (fun K hK => ?_)
          refine step_append_any _ (by rfl) (.tmp 63) (.tmp 69) _ (by rfl) w5.heap.size 54 i0 _ 3 32 Tryd.underlying47 HI0.out HZ0.out HZ1.out HZ2.out rfl (by omega) (.slice (some ⟨w5.heap.size, 0, none⟩) 0 0) 0 [] (by rfl) (by exact own0) w5.heap.size X5 k cap5 (cellsS (t.L.take k)) (by rfl) hrt (cellsS_one _) (by unfold maxLen; omega) (by omega) (by exact hB2.size) ?_
          intro v7 w7 hown7 hg7 hat7
          have hB3 : Below w5.heap.size w5 w7 := hB2.grown hg7 (by exact hB2.size) (by intro k hk; simp only [Value.ownBlock, Option.some.injEq] at hk; omega)
          have en2 : ((w5.drew.alloc (.cells #[] 54)).alloc (.cells #[.string s, .int .i64 a, .int .i64 t.now] 54)).heap.size = w5.heap.size + 2 := (alloc_sz _ _).trans (congrArg (· + 1) (alloc_sz _ _))
          have ne1 : ∀ z, v7.ownBlock = some z → z ≠ w5.heap.size + 1 := by
            intro z hz e
            rcases hat7 with e7 | e7
            · rw [e7] at hz; simp only [Value.ownBlock, Option.some.injEq] at hz; omega
            · rw [e7] at hz; have hz2 := (Option.some.inj hz).symm.trans en2; omega
          have af1 := af1.grown hg7 (by simp only [Value.ownBlock, ne_eq, Option.some.injEq]; omega)
          refine hK.out _ _ ⟨(HBQ.out _ hB3).1, (HBQ.out _ hB3).2⟩ (fun hHeld => ?_)
          clear hK K
          refine norm_ (a' := ?_) ?_ ?_
          rotate_left
          · show Act.put _ (some 70) _ = _
            simp only [Act.put, List.setIfInBounds_toArray, List.set_cons_zero, List.set_cons_succ, i64_w, i32_w]
            rfl
          exact norm_ (by simp only [putAll, Act.put, List.setIfInBounds_toArray, List.set_cons_zero, List.set_cons_succ]) (hCont (w5.heap.size, w5.heap.size + 1, v7) _ ⟨af1, hown7, ne1, hB3⟩)
      · skip
        refine value_ (w1 := ?_) (v := ?_) (by rfl) rfl ?_ ?_
        rotate_left 2
        · go_simp
          constructor
          · rfl
          · rfl
        have hB0 : Below w5.heap.size w5 w5.drew := (Below.refl _ _).drew
        have hB1 : Below w5.heap.size w5 (w5.drew.alloc (.cells #[.string s, .int .i64 a, .int .i64 t.now] 54)) := Below.alloc hB0 (by exact hB0.size) _
        have en0 : w5.drew.heap.size = w5.heap.size := rfl
        have af1 : AF w5 (w5.drew.alloc (.cells #[.string s, .int .i64 a, .int .i64 t.now] 54)) (w5.heap.size) #[.string s, .int .i64 a, .int .i64 t.now] := by
          have h9 := AF.new_ (w5 := w5) (wx := w5.drew) (c := #[.string s, .int .i64 a, .int .i64 t.now]) hB0.size
          rw [en0] at h9
          exact h9
        have hrt := HRT.out.alloc (by exact hB0.size) (.cells #[.string s, .int .i64 a, .int .i64 t.now] 54)
        refine hK.out _ _ ⟨(HBQ.out _ hB1).1, (HBQ.out _ hB1).2⟩ (fun hHeld => ?_)
        clear hK K
        refine norm_ (a' := ?_) ?_ ?_
        rotate_left
        · show Act.put _ (some 78) _ = _
          simp only [Act.put, List.setIfInBounds_toArray, List.set_cons_zero, List.set_cons_succ, i64_w, i32_w]
          rfl
        refine one_ (i := 0) (N := some 63) #[true, true, true, true, true, true, true, false, true, true, true, true, true, true, true, true, false, true, true, true, true, true, true, false, false] rfl rfl (by kernel_rfl) (by decide) (fun K hK => ?_)
        refine value_ (w1 := ?_) (v := ?_) (by rfl) rfl ?_ ?_
        rotate_left 2
        · go_simp
          constructor
          · rfl
          · rfl
        have hB2 : Below w5.heap.size w5 ((w5.drew.alloc (.cells #[.string s, .int .i64 a, .int .i64 t.now] 54)).alloc (.cells #[] 54)) := Below.alloc hB1 (by exact hB1.size) _
        have en1 : (w5.drew.alloc (.cells #[.string s, .int .i64 a, .int .i64 t.now] 54)).heap.size = w5.heap.size + 1 := alloc_sz _ _
        have own0 : ((w5.drew.alloc (.cells #[.string s, .int .i64 a, .int .i64 t.now] 54)).alloc (.cells #[] 54)).ownsRow w5.heap.size 54 3 (.slice (some ⟨w5.heap.size + 1, 0, none⟩) 0 0) 0 [] := rown_empty (by rw [← en1]; exact heap_alloc_new (w5.drew.alloc (.cells #[.string s, .int .i64 a, .int .i64 t.now] 54)) _) (by omega)
        have af1 := af1.alloc (.cells #[] 54)
        have hrt := hrt.alloc (by exact hB1.size) (.cells #[] 54)
        refine hK.out _ _ ⟨(HBQ.out _ hB2).1, (HBQ.out _ hB2).2⟩ (fun hHeld => ?_)
        clear hK K
        refine norm_ (a' := ?_) ?_ ?_
        rotate_left
        · show Act.put _ (some 63) _ = _
          simp only [Act.put, List.setIfInBounds_toArray, List.set_cons_zero, List.set_cons_succ, i64_w, i32_w]
          rfl
        refine one_ (i := 7) (N := some 70) #[true, true, true, true, true, true, true, true, true, true, true, true, true, true, true, true, false, true, true, true, true, true, true, false, false] rfl rfl (by kernel_rfl) (by decide) (fun K hK => ?_)
        refine step_append_any _ (by rfl) (.tmp 63) (.tmp 69) _ (by rfl) w5.heap.size 54 i0 _ 3 32 Tryd.underlying47 HI0.out HZ0.out HZ1.out HZ2.out rfl (by omega) (.slice (some ⟨w5.heap.size + 1, 0, none⟩) 0 0) 0 [] (by rfl) (by exact own0) w5.heap.size X5 k cap5 (cellsS (t.L.take k)) (by rfl) hrt (cellsS_one _) (by unfold maxLen; omega) (by omega) (by exact hB2.size) ?_
        intro v7 w7 hown7 hg7 hat7
        have hB3 : Below w5.heap.size w5 w7 := hB2.grown hg7 (by exact hB2.size) (by intro k hk; simp only [Value.ownBlock, Option.some.injEq] at hk; omega)
        have en2 : ((w5.drew.alloc (.cells #[.string s, .int .i64 a, .int .i64 t.now] 54)).alloc (.cells #[] 54)).heap.size = w5.heap.size + 2 := (alloc_sz _ _).trans (congrArg (· + 1) (alloc_sz _ _))
        have ne1 : ∀ z, v7.ownBlock = some z → z ≠ w5.heap.size := by
          intro z hz e
          rcases hat7 with e7 | e7
          · rw [e7] at hz; simp only [Value.ownBlock, Option.some.injEq] at hz; omega
          · rw [e7] at hz; have hz2 := (Option.some.inj hz).symm.trans en2; omega
        have af1 := af1.grown hg7 (by simp only [Value.ownBlock, ne_eq, Option.some.injEq]; omega)
        refine hK.out _ _ ⟨(HBQ.out _ hB3).1, (HBQ.out _ hB3).2⟩ (fun hHeld => ?_)
        clear hK K
        refine norm_ (a' := ?_) ?_ ?_
        rotate_left
        · show Act.put _ (some 70) _ = _
          simp only [Act.put, List.setIfInBounds_toArray, List.set_cons_zero, List.set_cons_succ, i64_w, i32_w]
          rfl
        exact norm_ (by simp only [putAll, Act.put, List.setIfInBounds_toArray, List.set_cons_zero, List.set_cons_succ]) (hCont (w5.heap.size + 1, w5.heap.size, v7) _ ⟨af1, hown7, ne1, hB3⟩)
    rintro ⟨g0, g1, v7⟩ w6 ⟨af1, hown6, hne6, hB6⟩
    have hHeld := HBQ.out _ hB6
    refine norm_ (a' := ?_) ?_ ?_
    rotate_left
    · simp only [putAll, Act.put, List.setIfInBounds_toArray, List.set_cons_zero, List.set_cons_succ]
      rfl
    refine one_ (i := 16) (N := some 79) #[true, true, true, true, true, true, true, true, true, true, true, true, true, true, true, true, true, true, true, true, true, true, true, false, false] rfl rfl (by kernel_rfl) (by decide) (fun K hK => ?_)
    refine step_append_any _ (by rfl) (.tmp 70) (.tmp 78) _ (by rfl) w5.heap.size 54 i0 _ 3 32 Tryd.underlying47 HI0.out HZ0.out HZ1.out HZ2.out rfl (by omega) v7 (0 + k) ([] ++ cellsS (t.L.take k)) (by rfl) hown6 w6.heap.size (some ⟨g1, 0, none⟩) 1 1 (cellsE (s.data.toList, (a, t.now))) (by rfl) (by exact af1.reads) (cellsE_one _) (by unfold maxLen; omega) (by omega) (by exact hB6.size) ?_
    intro v16 w16 hown16 hg16 hat16
    have hB16 : Below w5.heap.size w5 w16 := hB6.grown hg16 (by exact hB6.size) (fun z hz => (hown6.lt z hz).1)
    refine hK.out _ _ ⟨(HBQ.out _ hB16).1, (HBQ.out _ hB16).2⟩ (fun hHeld => ?_)
    clear hK K
    refine norm_ (a' := ?_) ?_ ?_
    rotate_left
    · show Act.put _ (some 79) _ = _
      simp only [Act.put, List.setIfInBounds_toArray, List.set_cons_zero, List.set_cons_succ, i64_w, i32_w]
      rfl
    refine one_ (i := 23) (N := some 86) #[true, true, true, true, true, true, true, true, true, true, true, true, true, true, true, true, true, true, true, true, true, true, true, true, false] rfl rfl (by kernel_rfl) (by decide) (fun K hK => ?_)
    refine step_append_any _ (by rfl) (.tmp 79) (.tmp 85) _ (by rfl) w5.heap.size 54 i0 _ 3 32 Tryd.underlying47 HI0.out HZ0.out HZ1.out HZ2.out rfl (by omega) v16 (0 + k + 1) ([] ++ cellsS (t.L.take k) ++ cellsE (s.data.toList, (a, t.now))) (by rfl) hown16 w5.heap.size (if cap5 = k then X5 else Option.map (fun x => x.add (k * 3)) X5) (m - k) (cap5 - k) (cellsS (t.L.drop k)) (by rfl) (HRE.out.keep fun p hp => hB16.cell hp) (cellsS_one _) (by unfold maxLen; omega) (by omega) (by exact hB16.size) ?_
    intro v23 Y hown23 hg23 hat23
    have hB23 : Below w5.heap.size w5 Y := hB16.grown hg23 (by exact hB16.size) (fun z hz => (hown16.lt z hz).1)
    refine hK.out _ _ ⟨(HBQ.out _ hB23).1, (HBQ.out _ hB23).2⟩ (fun hHeld => ?_)
    clear hK K
    refine norm_ (a' := ?_) ?_ ?_
    rotate_left
    · show Act.put _ (some 86) _ = _
      simp only [Act.put, List.setIfInBounds_toArray, List.set_cons_zero, List.set_cons_succ, i64_w, i32_w]
      rfl
    refine pure_ (i := 24) (N := some 11) (v := ?_) (a' := ?_) #[true, true, true, true, true, true, true, true, true, true, true, true, true, true, true, true, true, true, true, true, true, true, true, true, true] rfl rfl (by kernel_rfl) (fun _ _ _ h => h) (Or.inl ⟨by rfl, ?_⟩) ?_ ?_
    rotate_left
    · intro w'
      go_simp
      with_reducible rfl
    rotate_left
    · simp only [Act.put, List.setIfInBounds_toArray, List.set_cons_zero, List.set_cons_succ, i64_w, i32_w]
      rfl
    refine done_ (by kernel_rfl) ?_
    have hownY : Y.ownsRow w5.heap.size 54 3 v23 d.L.length (cellsS d.L) := by
      have e1 : d.L.length = 0 + k + 1 + (m - k) := by
        rw [hps.out]
        simp only [List.length_append, List.length_take, List.length_cons, List.length_drop, HM.out]
        omega
      have e2 : cellsS d.L = [] ++ cellsS (t.L.take k) ++ cellsE (s.data.toList, (a, t.now)) ++ cellsS (t.L.drop k) := by
        rw [hps.out, cellsS_append, List.nil_append, List.append_assoc]
        rfl
      rw [e1, e2]
      exact hown23
    have hcY := hc5.below hB23
    have hfrY := hf5.trans (Fr.of_below (S := (· = q)) hB23)
    clear hHeld hown23 hg23 hat23 hB23 hown16 hg16 hat16 hB16 hown6 hne6 hB6 af1 HBQ HRE HRT c4' c2 hc5
    generalize (if cap5 = k then X5 else Option.map (fun x => x.add (k * 3)) X5) = X9 at *
    obtain ⟨g, cap9, rfl, _, _⟩ := hownY.form (by rw [hps.out]; simp only [List.length_append, List.length_cons]; omega)
    have c4Y := (hcY.c4)
    obtain ⟨_, _, c4Y, _, _, _⟩ := c4Y
    have f4Y := hcY.fz 4
    have hrZ := hcY.setL d hds.out.1 hds.out.2.1 hds.out.2.2.1 hds.out.2.2.2 hownY hrsd hnmd
    have hfrZ : Fr (· = q) w (Y.setCell ⟨q, 4, none⟩ (.slice (some ⟨g, 0, none⟩) d.L.length cap9)) := hfrY.trans (Fr.setCell (S := (· = q)) (Fr.refl _ _) (p := ⟨q, 4, none⟩) rfl _)
    go_wp2_with fail
    clear c4Y f4Y hcY hfrY hownY
    generalize Y.setCell ⟨q, 4, none⟩ (.slice (some ⟨g, 0, none⟩) d.L.length cap9) = Z at *
    have c3 := hrZ.c3
    have f3 := hrZ.fz 3
    refine start_ (n := 11) (S := fun w' => w'.cell? ⟨q, 3, none⟩ = some (.int .i64 d.mark)) (ds := [10]) #[false, false, false, false, false, false, false, false, false, false, false] (by kernel_rfl) rfl rfl (c3) (fun hHeld => ?_)
    refine pure_ (i := 0) (N := some 91) (v := ?_) (a' := ?_) #[true, false, false, false, false, false, false, false, false, false, false] rfl rfl (by kernel_rfl) (fun _ _ _ h => h) (Or.inl ⟨by rfl, ?_⟩) ?_ ?_
    rotate_left
    · intro w'
      go_simp
      with_reducible rfl
    rotate_left
    · simp only [Act.put, List.setIfInBounds_toArray, List.set_cons_zero, List.set_cons_succ, i64_w, i32_w]
      rfl
    refine pure_ (i := 1) (N := some 92) (v := ?_) (a' := ?_) #[true, true, false, false, false, false, false, false, false, false, false] rfl rfl (by kernel_rfl) (fun _ _ _ h => h) (Or.inl ⟨by rfl, ?_⟩) ?_ ?_
    rotate_left
    · intro w'
      go_simp
      with_reducible rfl
    rotate_left
    · simp only [Act.put, List.setIfInBounds_toArray, List.set_cons_zero, List.set_cons_succ, i64_w, i32_w]
      rfl
    refine pure_ (i := 2) (N := some 93) (v := ?_) (a' := ?_) #[true, true, true, false, false, false, false, false, false, false, false] rfl rfl (by kernel_rfl) (fun _ _ _ h => h) (Or.inl ⟨by rfl, ?_⟩) ?_ ?_
    rotate_left
    · intro w'
      go_simp
      with_reducible rfl
    rotate_left
    · simp only [Act.put, List.setIfInBounds_toArray, List.set_cons_zero, List.set_cons_succ, i64_w, i32_w]
      rfl
    refine pure_ (i := 3) (N := some 94) (v := ?_) (a' := ?_) #[true, true, true, true, false, false, false, false, false, false, false] rfl rfl (by kernel_rfl) (fun _ _ _ h => h) (Or.inl ⟨by rfl, ?_⟩) ?_ ?_
    rotate_left
    · intro w'
      go_simp
      with_reducible rfl
    rotate_left
    · simp only [Act.put, List.setIfInBounds_toArray, List.set_cons_zero, List.set_cons_succ, i64_w, i32_w]
      rfl
    refine pure_ (i := 5) (N := some 96) (v := ?_) (a' := ?_) #[true, true, true, true, false, true, false, false, false, false, false] rfl rfl (by kernel_rfl) (fun _ _ _ h => h) (Or.inl ⟨by rfl, ?_⟩) ?_ ?_
    rotate_left
    · intro w'
      go_simp
      with_reducible rfl
    rotate_left
    · simp only [Act.put, List.setIfInBounds_toArray, List.set_cons_zero, List.set_cons_succ, i64_w, i32_w]
      rfl
    refine take_ (i := 4) (N := some 95) (v := ?_) (a' := ?_) #[true, true, true, true, true, true, false, false, false, false, false] rfl rfl (by kernel_rfl) (fun _ _ _ h => h) (Or.inl ⟨by rfl, ?_⟩) hHeld ?_ ?_
    rotate_left
    · intro w' s0
      go_simp
      with_reducible rfl
    rotate_left
    · simp only [Act.put, List.setIfInBounds_toArray, List.set_cons_zero, List.set_cons_succ, i64_w, i32_w]
      rfl
    refine one_ (i := 6) (N := some 97) #[true, true, true, true, true, true, true, false, false, false, false] rfl rfl (by kernel_rfl) (by decide) (fun K hK => ?_)
    refine goes_ Tryd.func27 (by kernel_rfl) rfl #[.pointer (some ⟨q, 0, none⟩)] (by rfl) rfl rfl (by simp only [List.map_toArray, List.map_cons, List.map_nil]; rfl) ?_
    with_reducible refine (tell_calls q d _ (by exact hrZ.drew) (by exact hokd) (by exact hdl)).mono ?_
    rintro e w1 ⟨rfl, hb1⟩
    refine ⟨_, rfl, ?_⟩
    have hr1 : Rf w1 q d := hrZ.drew.below hb1
    have c3' := hr1.c3
    have f3' := hr1.fz 3
    refine hK.out _ _ (c3') (fun hHeld => ?_)
    clear hK K
    refine norm_ (a' := ?_) ?_ ?_
    rotate_left
    · show Act.put _ (some 97) _ = _
      simp only [Act.put, List.setIfInBounds_toArray, List.set_cons_zero, List.set_cons_succ, i64_w, i32_w]
      rfl
    refine pure_ (i := 7) (N := some 98) (v := ?_) (a' := ?_) #[true, true, true, true, true, true, true, true, false, false, false] rfl rfl (by kernel_rfl) (fun _ _ _ h => h) (Or.inl ⟨by rfl, ?_⟩) ?_ ?_
    rotate_left
    · intro w'
      go_simp
      with_reducible rfl
    rotate_left
    · simp only [Act.put, List.setIfInBounds_toArray, List.set_cons_zero, List.set_cons_succ, i64_w, i32_w]
      rfl
    refine pure_ (i := 8) (N := some 99) (v := ?_) (a' := ?_) #[true, true, true, true, true, true, true, true, true, false, false] rfl rfl (by kernel_rfl) (fun _ _ _ h => h) (Or.inl ⟨by rfl, ?_⟩) ?_ ?_
    rotate_left
    · intro w'
      go_simp
      with_reducible rfl
    rotate_left
    · simp only [Act.put, List.setIfInBounds_toArray, List.set_cons_zero, List.set_cons_succ, i64_w, i32_w]
      rfl
    refine pure_ (i := 9) (N := some 100) (v := ?_) (a' := ?_) #[true, true, true, true, true, true, true, true, true, true, false] rfl rfl (by kernel_rfl) (fun _ _ _ h => h) (Or.inl ⟨by rfl, ?_⟩) ?_ ?_
    rotate_left
    · intro w'
      go_simp
      with_reducible rfl
    rotate_left
    · simp only [Act.put, List.setIfInBounds_toArray, List.set_cons_zero, List.set_cons_succ, i64_w, i32_w]
      rfl
    refine last_ (i := 10) (N := none) #[true, true, true, true, true, true, true, true, true, true, true] rfl rfl (by kernel_rfl) (by decide) (fun K hK => ?_)
    refine skip_ (w1 := ?_) (by rfl) rfl ?_ ?_
    rotate_left
    · go_simp
      rfl
    refine hK.out _ _ ?_
    clear hK K
    refine done_ (by kernel_rfl) ?_
    have hr2 := hr1.set_mark (max d.mark (tellV d))
    have hfr3 : Fr (· = q) w (w1.setCell ⟨q, 3, none⟩ (.int .i64 (max d.mark (tellV d)))) := (hfrZ.drew.trans (Fr.of_below hb1)).trans (Fr.setCell (S := (· = q)) (Fr.refl _ _) (p := ⟨q, 3, none⟩) rfl _)
    clear hHeld hb1 hr1 c3' f3' hrZ hfrZ c3 f3
    generalize w1.setCell ⟨q, 3, none⟩ (.int .i64 (max d.mark (tellV d))) = Y2 at *
    go_wp2
    go_ret
    exact ⟨rfl, by rw [HD.out]; exact hr2, hfr3⟩

end Go.Proofs.YtomnmgmehagjfaaDoor.Ck
