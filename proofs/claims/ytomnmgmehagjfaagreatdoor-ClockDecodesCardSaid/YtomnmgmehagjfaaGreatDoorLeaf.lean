/-
  The contracts of the clock's small functions.
  No condition: lemmas.
-/
import Derived.Test.YtomnmgmehagjfaaGreatDoorBase
namespace Go.Proofs.YtomnmgmehagjfaaGreatDoor.Ck
open Go Go.RowKit Go.Maps Go.Shelf Go.Lib
set_option linter.unusedVariables false
set_option linter.unusedSimpArgs false

theorem may_calls (v : Int) (w : World) : Calls Tryz.prog 30 #[.int .i64 v] w fun e w' => e = .returned (.bool (may v)) ∧ w = w' := by
  go_enter Tryz.func30, Tryz.ntmps30
  go_wp2_with (go_at_call 27; refine (within_calls _ _).mono ?_; rintro e w' ⟨rfl, rfl⟩)
  go_ret
  exact ⟨rfl, rfl⟩

def oddB (r : Nat) : Bool := (decide (r < 97) || decide (122 < r)) && (decide (r < 48) || decide (57 < r)) && (r != 45)
def nameB (s : ByteArray) : Bool := decide (1 ≤ s.size) && decide (s.size ≤ 24) && decide (idxFunc oddB true s < 0)

theorem odd_pred (w : World) : PredAt Tryz.prog 43 #[] encR oddB w := fun W r _ => by
  unfold FnGives
  by_cases h1 : r < 97 <;> by_cases h2 : 122 < r <;> by_cases h3 : r < 48 <;> by_cases h4 : 57 < r <;> by_cases h5 : r = 45
  all_goals first
    | (exfalso; omega)
    | (
      have z1 : ((r : Int) < 97) ↔ r < 97 := by omega
      have z2 : (122 < (r : Int)) ↔ 122 < r := by omega
      have z3 : ((r : Int) < 48) ↔ r < 48 := by omega
      have z4 : (57 < (r : Int)) ↔ 57 < r := by omega
      have z5 : ((r : Int) = 45) ↔ r = 45 := by omega
      have H : Hid (oddB r = ((decide (r < 97) || decide (122 < r)) && (decide (r < 48) || decide (57 < r)) && (r != 45))) := rfl
      go_enter Tryz.func43, Tryz.ntmps43
      go_wp2
      all_goals first
        | (exfalso; omega)
        | (go_ret; exact ⟨by rw [H.out]; first | (simp [h1, h2, h3, h4, h5]; done) | (simp [h1, h2, h3, h4, h5]; rw [Bool.eq_iff_iff]; simp; omega), 0, rfl⟩))

theorem name_calls (s : ByteArray) (w : World) (hs : s.size ≤ maxLen) : Calls Tryz.prog 29 #[.string s] w fun e w' => e = .returned (.bool (nameB s)) ∧ Below w.heap.size w w' := by
  unfold maxLen at hs
  have hC := fun W => Tryz.strings_IndexFunc 43 #[] (enters_of Tryz.func43 (by kernel_rfl) rfl) oddB s W (odd_pred W)
  have H : Hid (nameB s = (decide (1 ≤ s.size) && decide (s.size ≤ 24) && decide (idxFunc oddB true s < 0))) := rfl
  have HC := Lib.hid hC
  clear hC
  by_cases h1 : 1 ≤ s.size <;> by_cases h2 : s.size ≤ 24
  · go_enter Tryz.func29, Tryz.ntmps29
    go_wp2_with (go_at_call 44; refine (HC.out _).mono ?_; rintro e w' ⟨rfl, hb⟩)
    go_ret
    exact ⟨by rw [H.out]; simp [h1, h2], hb⟩
  · go_enter Tryz.func29, Tryz.ntmps29
    go_wp2_with fail
    go_ret
    exact ⟨by rw [H.out]; simp [h1, h2], Below.refl _ _⟩
  · go_enter Tryz.func29, Tryz.ntmps29
    go_wp2_with fail
    go_ret
    exact ⟨by rw [H.out]; simp [h1, h2], Below.refl _ _⟩
  · exfalso; omega

theorem mark_calls (p b : Nat) (c : Ck) (w : World) (h : Clk w p b c) : Calls Tryz.prog 11 #[.pointer (some ⟨p, 0, none⟩)] w fun e w' => e = .returned (.int .i64 c.mark) ∧ w = w' := by
  have h3 := h.c3
  go_enter Tryz.func11, Tryz.ntmps11
  go_wp2
  go_ret
  exact ⟨rfl, rfl⟩

theorem now_calls (p b : Nat) (c : Ck) (w : World) (h : Clk w p b c) : Calls Tryz.prog 21 #[.pointer (some ⟨p, 0, none⟩)] w fun e w' => e = .returned (.int .i64 c.now) ∧ w = w' := by
  have h2 := h.c2
  go_enter Tryz.func21, Tryz.ntmps21
  go_wp2
  go_ret
  exact ⟨rfl, rfl⟩

def newC (slack idle : Int) : Ck := ⟨within slack, within idle, 0, -1, []⟩
theorem new_calls (slack idle : Int) (w : World) : Calls Tryz.prog 9 #[.int .i64 slack, .int .i64 idle] w fun e w' => e = .returned (.pointer (some ⟨w.heap.size + 1, 0, none⟩)) ∧ Clk w' (w.heap.size + 1) w.heap.size (newC slack idle) ∧ Below w.heap.size w w' := by
  have hmm := @run_makeMap Tryz.prog
  go_enter Tryz.func9, Tryz.ntmps9
  go_wp2_with (go_at_call 27; refine (within_calls _ _).mono ?_; rintro e w' ⟨rfl, rfl⟩)
  go_ret
  refine ⟨rfl, ⟨?_, ?_⟩, ((Below.refl _ _).alloc (Nat.le_refl _) _).alloc (by simp) _⟩
  · have := (MapKept.heap_alloc (w.alloc (.map #[] 0)) (.cells #[.int .i64 (within slack), .int .i64 (within idle), .int .i64 0, .int .i64 (-1), .map (some w.heap.size)] 47 (0, 0))).1
    simpa [newC] using this
  · exact Mp.of ((World.ownsMap_made w Tryz.prog 9 heardR).alloc _)

theorem active_calls (p b : Nat) (c : Ck) (w : World) (h : Clk w p b c) (a n : Int) (hok : Ok c) (h0 : 0 ≤ n) (h1 : n ≤ 1099511627776) :
    Calls Tryz.prog 40 #[.pointer (some ⟨p, 0, none⟩), .agg #[.int .i64 a, .int .i64 n]] w fun e w' => e = .returned (.bool (activeB c.idle c.now n)) ∧ Below w.heap.size w w' := by
  have h2 := h.c2
  have h3 := h.c1
  have g0 := hok.n0
  have g1 := hok.n1
  have H : Hid (activeB c.idle c.now n = (c.idle == 0 || decide (c.now - n ≤ c.idle))) := rfl
  have hp := h.ltp
  by_cases hi : c.idle = 0
  · have hi' : (c.idle == 0) = true := by simp [hi]
    have HI := Lib.hid hi
    clear hi
    go_enter Tryz.func40, Tryz.ntmps40
    go_wp2_with fail
    go_quiet (fail)
    go_wp2
    go_ret
    exact ⟨by rw [H.out, HI.out]; simp, below_drewN ((Below.refl _ _).alloc (Nat.le_refl _) _) _⟩
  · have hi' : (c.idle == 0) = false := by simp [hi]
    go_enter Tryz.func40, Tryz.ntmps40
    go_wp2_with fail
    go_quiet (fail)
    go_wp2
    go_ret
    exact ⟨by rw [H.out]; simp [hi], below_drewN ((Below.refl _ _).alloc (Nat.le_refl _) _) _⟩

end Go.Proofs.YtomnmgmehagjfaaGreatDoor.Ck
