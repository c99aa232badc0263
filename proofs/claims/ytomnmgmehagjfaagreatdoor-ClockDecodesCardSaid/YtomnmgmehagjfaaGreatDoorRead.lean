/-
  The contracts of the clock's Heard and Active; the example of the law's awake; few.
  No condition: lemmas.
-/
import Derived.Test.YtomnmgmehagjfaaGreatDoorOps
namespace Go.Proofs.YtomnmgmehagjfaaGreatDoor.Ck
open Go Go.RowKit Go.Maps Go.Shelf Go.Lib
set_option linter.unusedVariables false
set_option linter.unusedSimpArgs false

set_option maxHeartbeats 1000000 in
set_option maxRecDepth 100000 in
theorem heard_calls (p b : Nat) (c : Ck) (s : ByteArray) (w : World) (h : Clk w p b c) (hs : s.size ≤ maxLen) :
    Calls Tryz.prog 23 #[.pointer (some ⟨p, 0, none⟩), .string s] w fun e w' => e = .returned (.int .i64 (heardV c s.data.toList)) ∧ Below w.heap.size w w' := by
  have hs' := hs
  unfold maxLen at hs'
  have c4 := h.c4
  have hlook := h.map.look_ok hs
  have H := Lib.hid (heardV_eq c s.data.toList)
  have H0 := Lib.hid (at0_eq c.L s.data.toList)
  cases hg : get c.L s.data.toList with
  | none =>
    rw [hg] at hlook
    have HG := Lib.hid hg
    clear hg
    go_enter Tryz.func23, Tryz.ntmps23
    go_wp2
    go_ret
    exact ⟨by rw [H.out, HG.out]; rfl, (Below.refl _ _).alloc (Nat.le_refl _) _⟩
  | some v =>
    rw [hg] at hlook
    have HG := Lib.hid hg
    clear hg
    go_enter Tryz.func23, Tryz.ntmps23
    go_wp2
    go_ret
    exact ⟨by rw [H.out, H0.out, HG.out]; rfl, (Below.refl _ _).alloc (Nat.le_refl _) _⟩

set_option maxHeartbeats 1000000 in
set_option maxRecDepth 100000 in
theorem activeF_calls (p b : Nat) (c : Ck) (s : ByteArray) (w : World) (h : Clk w p b c) (hok : Ok c) (hs : s.size ≤ maxLen) :
    Calls Tryz.prog 24 #[.pointer (some ⟨p, 0, none⟩), .string s] w fun e w' => e = .returned (.bool (activeV c s.data.toList)) ∧ Below w.heap.size w w' := by
  have hs' := hs
  unfold maxLen at hs'
  have c4 := h.c4
  have hlook := h.map.look_ok hs
  have H := Lib.hid (activeV_eq c s.data.toList)
  have H1 := Lib.hid (at1_eq c.L s.data.toList)
  cases hg : get c.L s.data.toList with
  | none =>
    rw [hg] at hlook
    have HG := Lib.hid hg
    clear hg
    go_enter Tryz.func24, Tryz.ntmps24
    go_wp2
    go_ret
    exact ⟨by rw [H.out, HG.out]; rfl, (Below.refl _ _).alloc (Nat.le_refl _) _⟩
  | some v =>
    rw [hg] at hlook
    have hv := hok.l _ (get_mem hg)
    have hn1 := hok.n1
    have hb0 : 0 ≤ at1 c.L s.data.toList := by rw [H1.out, hg]; exact hv.2.2.1
    have hb1 : at1 c.L s.data.toList ≤ 1099511627776 := by rw [H1.out, hg]; have := hv.2.2.2; simp only at this ⊢; omega
    have HG := Lib.hid hg
    clear hg hv
    go_enter Tryz.func24, Tryz.ntmps24
    go_wp2_with (go_at_call 40; refine (active_calls p b c _ (h.below (by exact (Below.refl _ _).alloc (Nat.le_refl _) _)) _ _ hok hb0 hb1).mono ?_; rintro e w1 ⟨rfl, hb⟩)
    go_ret
    exact ⟨by rw [H.out, H1.out, HG.out]; rfl, ((Below.refl _ _).alloc (Nat.le_refl _) _).trans (hb.mono (by simp))⟩

/-! ### awake -/
def sA : ByteArray := ⟨#[97]⟩
def sB : ByteArray := ⟨#[98]⟩
def k0 : Ck := newC 3 0
def k1 : Ck := hear true k0 [97] 10 0
def k2 : Ck := hear true k1 [98] 8 0
def k3 : Ck := tick k2 0
def k4 : Ck := hear true k3 [97] 20 0
def k5 : Ck := hear true k4 [98] 20 0
theorem nameA : nameB ⟨#[97]⟩ = true := by kernel_rfl
theorem nameB' : nameB ⟨#[98]⟩ = true := by kernel_rfl
theorem ok_new (a b : Int) : Ok (newC a b) := ⟨within_lo _, within_hi _, within_lo _, within_hi _, Int.le_refl _, by show (0 : Int) ≤ _; omega, Int.le_refl _, by show (-1 : Int) ≤ _; omega, fun e he => by unfold newC at he; simp at he⟩
theorem ok0 : Ok k0 := ok_new _ _
theorem ok1 : Ok k1 := ok_hear ok0 _ _ _
theorem ok2 : Ok k2 := ok_hear ok1 _ _ _
theorem ok3 : Ok k3 := ok_tick ok2 _
theorem ok4 : Ok k4 := ok_hear ok3 _ _ _
theorem m1 : k1.mark = 6 := by kernel_rfl
theorem m4 : k4.mark = 6 := by kernel_rfl
theorem m5 : k5.mark = 16 := by kernel_rfl
theorem y0 : hearOk (nameB ⟨#[97]⟩) k0 10 0 = true := by kernel_rfl
theorem y1 : hearOk (nameB ⟨#[98]⟩) k1 8 0 = true := by kernel_rfl
theorem y2 : hearOk (nameB ⟨#[98]⟩) k2 5 0 = false := by kernel_rfl
theorem y3 : hearOk (nameB ⟨#[97]⟩) k3 20 0 = true := by kernel_rfl
theorem y4 : hearOk (nameB ⟨#[98]⟩) k4 20 0 = true := by kernel_rfl
theorem l0 : k0.L.length < maxLen := by unfold maxLen; show 0 < _; omega
theorem l1 : k1.L.length < maxLen := by have : k1.L.length = 1 := by kernel_rfl
                                        unfold maxLen; omega
theorem l3 : k3.L.length < maxLen := by have : k3.L.length = 2 := by kernel_rfl
                                        unfold maxLen; omega
theorem l4 : k4.L.length < maxLen := by have : k4.L.length = 2 := by kernel_rfl
                                        unfold maxLen; omega
theorem one_small (c : UInt8) : (⟨#[c]⟩ : ByteArray).size ≤ maxLen := by unfold maxLen; show 1 ≤ _; omega

set_option maxHeartbeats 2000000 in
set_option maxRecDepth 100000 in
theorem awake_calls (w : World) : Calls Tryz.prog 4 #[] w fun e w' => e = .returned (.bool true) ∧ Below w.heap.size w w' := by
  have e1 := m1
  have e4 := m4
  have e5 := m5
  have h1 := fun (p b : Nat) (W : World) (hc : Clk W p b k0) => hear_yes_calls p b k0 ⟨#[97]⟩ 10 0 W hc ok0 (one_small _) l0 y0
  have h2 := fun (p b : Nat) (W : World) (hc : Clk W p b k1) => hear_yes_calls p b k1 ⟨#[98]⟩ 8 0 W hc ok1 (one_small _) l1 y1
  have h3 := fun (p b : Nat) (W : World) (hc : Clk W p b k2) => hear_no_calls p b k2 ⟨#[98]⟩ 5 0 W hc ok2 (one_small _) y2
  have h4 := fun (p b : Nat) (W : World) (hc : Clk W p b k3) => hear_yes_calls p b k3 ⟨#[97]⟩ 20 0 W hc ok3 (one_small _) l3 y3
  have h5 := fun (p b : Nat) (W : World) (hc : Clk W p b k4) => hear_yes_calls p b k4 ⟨#[98]⟩ 20 0 W hc ok4 (one_small _) l4 y4
  have H1 := Lib.hid h1
  have H2 := Lib.hid h2
  have H3 := Lib.hid h3
  have H4 := Lib.hid h4
  have H5 := Lib.hid h5
  clear h1 h2 h3 h4 h5
  go_enter Tryz.func4, Tryz.ntmps4
  go_wp2_with fail
  refine (new_calls 3 0 w).mono ?_
  rintro e w1 ⟨rfl, hc0, hb0⟩
  replace hc0 : Clk w1 (w.heap.size + 1) w.heap.size k0 := hc0
  go_wp2_with fail
  refine (H1.out _ _ _ hc0).mono ?_
  rintro e w2 ⟨rfl, hc1, hf1⟩
  replace hc1 : Clk w2 (w.heap.size + 1) w.heap.size k1 := by rw [nameA] at hc1; exact hc1
  go_wp2_with fail
  refine (mark_calls _ _ k1 _ hc1).mono ?_
  rintro e w3 ⟨rfl, rfl⟩
  go_wp2_with fail
  refine (H2.out _ _ _ hc1).mono ?_
  rintro e w4 ⟨rfl, hc2, hf2⟩
  replace hc2 : Clk w4 (w.heap.size + 1) w.heap.size k2 := by rw [nameB'] at hc2; exact hc2
  go_wp2_with fail
  refine (H3.out _ _ _ hc2).mono ?_
  rintro e w5 ⟨rfl, hc3, hf3⟩
  replace hc3 : Clk w5 (w.heap.size + 1) w.heap.size k3 := hc3
  go_wp2_with fail
  refine (H4.out _ _ _ hc3).mono ?_
  rintro e w6 ⟨rfl, hc4, hf4⟩
  replace hc4 : Clk w6 (w.heap.size + 1) w.heap.size k4 := by rw [nameA] at hc4; exact hc4
  go_wp2_with fail
  refine (mark_calls _ _ k4 _ hc4).mono ?_
  rintro e w7 ⟨rfl, rfl⟩
  go_wp2_with fail
  refine (H5.out _ _ _ hc4).mono ?_
  rintro e w8 ⟨rfl, hc5, hf5⟩
  replace hc5 : Clk w8 (w.heap.size + 1) w.heap.size k5 := by rw [nameB'] at hc5; exact hc5
  go_wp2_with fail
  refine (mark_calls _ _ k5 _ hc5).mono ?_
  rintro e w9 ⟨rfl, rfl⟩
  go_wp2_with fail
  go_ret
  refine ⟨rfl, hb0.trans (Fr.below (((hf1.trans hf2).trans ((hf3.mono (fun k hk => .inl hk)).trans hf4)).trans hf5) hb0.size ?_)⟩
  rintro k (rfl | rfl) <;> omega

end Go.Proofs.YtomnmgmehagjfaaGreatDoor.Ck
