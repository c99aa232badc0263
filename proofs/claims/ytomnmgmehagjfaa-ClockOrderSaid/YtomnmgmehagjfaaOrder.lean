/-
  ClockOrder: the walk.
  No condition: lemmas.
-/
import Derived.Test.YtomnmgmehagjfaaActs
import Derived.Test.YtomnmgmehagjfaaOrderP
import Derived.Test.YtomnmgmehagjfaaWLast
namespace Go.Proofs.Ytomnmgmehagjfaa.Ck
open Go Go.RowKit Go.Maps Go.Shelf Go.Lib Go.Proofs.YtomnmgmehagjfaaW.PrintLast
set_option linter.unusedVariables false
set_option linter.unusedSimpArgs false

theorem ckeep1 {w w' : World} {p p2 b2 : Nat} {d : Ck} (h : Clk w p2 b2 d) (hf : Fr (· = p) w w') (h1 : p2 ≠ p) (h2 : b2 ≠ p) : Clk w' p2 b2 d := h.fr hf h1 h2
theorem ckeep2 {w w' : World} {p b p2 b2 : Nat} {d : Ck} (h : Clk w p2 b2 d) (hf : Fr (fun k => k = p ∨ k = b) w w') (h1 : p2 ≠ p) (h2 : b2 ≠ p) (h3 : p2 ≠ b) (h4 : b2 ≠ b) : Clk w' p2 b2 d :=
  h.fr hf (fun e => e.elim h1 h3) (fun e => e.elim h2 h4)
theorem infoAct : (Try.prog.info? 29).map (fun i => (i.zero, i.size, i.bytes)) = some (some (.agg #[.int .i64 0, .string ByteArray.empty, .int .i64 0, .int .i64 0]), 4, 40) := by kernel_rfl
theorem own_empty {w : World} {g base : Nat} {e : TypeId} {size : Nat} (hb : w.heap[g]? = some (.cells #[] e (0, 0))) (h : base ≤ g) : w.ownsRow base e size (.slice (some ⟨g, 0, none⟩) 0 0) 0 [] :=
  ⟨by simp, .inr ⟨g, 0, #[], rfl, h, hb, Nat.le_refl _, Nat.zero_le _, by simp, by simp⟩⟩
def RL5 (w : World) (n p b p2 b2 : Nat) (d : Ck) (l m : List ActT) (A9 : Option Addr) (v10 : Value) (wr : World) : Prop :=
  ∃ (k : Nat) (c : Ck), k ≤ n ∧ v10 = .int .i64 k ∧ Clk wr p b c ∧ OI c (l.take k) ∧ Clk wr p2 b2 d ∧ Acts wr A9 m ∧ Below w.heap.size w wr
def RL6 (w : World) (n p b p2 b2 : Nat) (c : Ck) (m : List ActT) (A9 : Option Addr) (v11 : Value) (wr : World) : Prop :=
  ∃ (k : Nat) (d : Ck), k ≤ n ∧ v11 = .int .i64 k ∧ Clk wr p b c ∧ OI d (m.take k) ∧ Clk wr p2 b2 d ∧ Acts wr A9 m ∧ Below w.heap.size w wr
def RL7 (w : World) (nl p b p2 b2 : Nat) (c d : Ck) (X Y : Option Addr) (v14 : Value) (wr : World) : Prop :=
  ∃ k : Nat, k ≤ nl ∧ v14 = .int .i64 k ∧ Clk wr p b c ∧ Clk wr p2 b2 d ∧ Strs wr X (c.L.map (·.1)) ∧ Strs wr Y (c.L.map (·.1)) ∧ Below w.heap.size w wr
theorem own_far {w w' : World} {base : Nat} {e : TypeId} {size n : Nat} {v : Value} {xs : List Value} (h : w.ownsRow base e size v n xs) (hb : ∀ k, base ≤ k → k < w.heap.size → v.ownBlock = some k → w'.heap[k]? = w.heap[k]?) : w'.ownsRow base e size v n xs := by
  obtain ⟨h1, h2⟩ := h
  refine ⟨h1, ?_⟩
  rcases h2 with h2 | ⟨g, cap, cur, rfl, hg, hh, r⟩
  · exact .inl h2
  · exact .inr ⟨g, cap, cur, rfl, hg, (hb g hg (Array.getElem?_eq_some_iff.1 hh).1 rfl).trans hh, r⟩

theorem order_e0 (slack : Int) (turn : Int) (A : Option Addr) (n cap : Nat) (l : List ActT) (w : World) (h : Acts w A l) (hl : l.length = n) (hn : n ≤ 9223372036854775807) (hf : fewB l = false) :
    Calls Try.prog 6 #[.int .i64 slack, .slice A n cap, .int .i64 turn] w fun e w' => e = .returned (.bool true) ∧ Below w.heap.size w w' := by
  have HL := Lib.hid hl
  have HA := Lib.hid h
  clear h hl
  go_enter Try.func6, Try.ntmps6
  go_wp2_with (first
    | (go_at_call 7; refine (awake_calls _).mono ?_; rintro e w1 ⟨rfl, hb1⟩)
    | (go_at_call 8; refine (few_calls A n cap l _ (HA.out.below hb1) HL.out hn).mono ?_; rintro e w2 ⟨rfl, rfl⟩))
  go_ret
  exact ⟨rfl, hb1⟩

theorem order_e1 (slack : Int) (turn : Int) (A : Option Addr) (n cap : Nat) (l : List ActT) (w : World) (h : Acts w A l) (hl : l.length = n) (hn : n ≤ 9223372036854775807) (hf : fewB l = true) (q0 : decide (turn < 0) = true) :
    Calls Try.prog 6 #[.int .i64 slack, .slice A n cap, .int .i64 turn] w fun e w' => e = .returned (.bool true) ∧ Below w.heap.size w w' := by
  have HL := Lib.hid hl
  have HA := Lib.hid h
  clear h hl
  go_enter Try.func6, Try.ntmps6
  go_wp2_with (first
    | (go_at_call 7; refine (awake_calls _).mono ?_; rintro e w1 ⟨rfl, hb1⟩)
    | (go_at_call 8; refine (few_calls A n cap l _ (HA.out.below hb1) HL.out hn).mono ?_; rintro e w2 ⟨rfl, rfl⟩))
  go_ret
  exact ⟨rfl, hb1⟩

theorem order_e2 (slack : Int) (turn : Int) (A : Option Addr) (n cap : Nat) (l : List ActT) (w : World) (h : Acts w A l) (hl : l.length = n) (hn : n ≤ 9223372036854775807) (hf : fewB l = true) (q0 : decide (turn < 0) = false) (q1 : decide ((n : Int) < turn) = true) :
    Calls Try.prog 6 #[.int .i64 slack, .slice A n cap, .int .i64 turn] w fun e w' => e = .returned (.bool true) ∧ Below w.heap.size w w' := by
  have HL := Lib.hid hl
  have HA := Lib.hid h
  clear h hl
  go_enter Try.func6, Try.ntmps6
  go_wp2_with (first
    | (go_at_call 7; refine (awake_calls _).mono ?_; rintro e w1 ⟨rfl, hb1⟩)
    | (go_at_call 8; refine (few_calls A n cap l _ (HA.out.below hb1) HL.out hn).mono ?_; rintro e w2 ⟨rfl, rfl⟩))
  go_ret
  exact ⟨rfl, hb1⟩

set_option maxHeartbeats 16000000 in
set_option maxRecDepth 100000 in
theorem order_main (slack : Int) (t : Nat) (A : Option Addr) (n cap : Nat) (l : List ActT) (w : World) (h : Acts w A l) (hl : l.length = n) (hcap : n ≤ cap) (hcm : cap ≤ 9223372036854775807) (hf : fewB l = true) (ht : t ≤ n) :
    Calls Try.prog 6 #[.int .i64 slack, .slice A n cap, .int .i64 t] w fun e w' => e = .returned (.bool true) ∧ Below w.heap.size w w' := by
  have hn : n ≤ 9223372036854775807 := by omega
  have HL := Lib.hid hl
  have HA := Lib.hid h
  clear h hl
  have hlen : n ≤ 101 := by
    unfold fewB at hf
    simp only [Bool.and_eq_true, List.all_eq_true, decide_eq_true_eq, HL.out] at hf
    exact hf.2
  have hnames : Hid (∀ a ∈ l, a.name.size ≤ maxLen) := by
    unfold fewB at hf
    simp only [Bool.and_eq_true, List.all_eq_true, decide_eq_true_eq] at hf
    intro a ha
    have := hf.1 a ha
    unfold maxLen; omega
  obtain ⟨i0, hi0, hz0, hz1, hz2⟩ := info_parts infoAct
  have HI0 := Lib.hid hi0
  have HZ0 := Lib.hid hz0
  have HZ1 := Lib.hid hz1
  have HZ2 := Lib.hid hz2
  clear hi0 hz0 hz1 hz2
  have t0 : (0 : Int) ≤ (t : Int) := Int.natCast_nonneg _
  have t1 : (t : Int) ≤ (n : Int) := by omega
  have t2 : (n : Int) ≤ (cap : Int) := by omega
  have t3 : t ≤ cap := by omega
  have t4 : (t : Int) ≤ (cap : Int) := by omega
  have q0 : decide ((t : Int) < 0) = false := decide_eq_false (by omega)
  have q1 : decide ((n : Int) < (t : Int)) = false := decide_eq_false (by omega)
  go_enter Try.func6, Try.ntmps6
  go_wp2_with (first
    | (go_at_call 7; refine (awake_calls _).mono ?_; rintro e w1 ⟨rfl, hb1⟩)
    | (go_at_call 8; refine (few_calls A n cap l _ (HA.out.below hb1) HL.out hn).mono ?_; rintro e w2 ⟨rfl, rfl⟩)
    | fail)
  refine (new_calls slack 0 _).mono ?_
  rintro e w3 ⟨rfl, hc3, hb3⟩
  go_wp2_with fail
  refine (new_calls slack 0 _).mono ?_
  rintro e w4 ⟨rfl, hd4, hb4⟩
  have hc4 := hc3.below hb4
  go_wp2_with fail
  have hz1 := hb1.size
  have hz3 := hc3.ltp
  have hz4 := hd4.ltp
  have hb04 : Below w.heap.size w w4 := (hb1.trans (hb3.mono hz1)).trans (hb4.mono (by omega))
  generalize hp : w1.heap.size + 1 = p at *
  generalize hb : w1.heap.size = b at *
  generalize hp2 : w3.heap.size + 1 = p2 at *
  generalize hb2 : w3.heap.size = b2 at *
  have o1 : w.heap.size ≤ b := hz1
  have o2 : b < p := by omega
  have o3 : p < b2 := by omega
  have o4 : b2 < p2 := by omega
  have o5 : w.heap.size ≤ p := by omega
  have o6 : w.heap.size ≤ b2 := by omega
  have o7 : w.heap.size ≤ p2 := by omega
  have N1 : Hid (p ≠ p2) := by show p ≠ p2; omega
  have N2 : Hid (p ≠ b2) := by show p ≠ b2; omega
  have N3 : Hid (b ≠ p2) := by show b ≠ p2; omega
  have N4 : Hid (b ≠ b2) := by show b ≠ b2; omega
  have hzw : w.heap.size ≤ w4.heap.size := hb04.size
  clear hp hb hp2 hb2 hb3 hb4 hb1 hc3 hf
  have HR := Lib.hid ((HA.out.below hb04).reads)
  have HRD : Hid (Reads (w4.alloc (.cells #[] 29)).drew w4.heap.size 4 (if cap = t then A else Option.map (fun x => x.add (t * 4)) A) (n - t) (cellsL (l.drop t))) := by
    have h1 := HR.out.cut (k := t) (cap := cap) (by rw [HL.out]; exact ht) (by rw [HL.out]; exact hcap)
    rw [cellsL_drop, HL.out] at h1
    exact (h1.alloc (Nat.le_refl _) _).drew
  have HRT : Hid (Reads (w4.alloc (.cells #[] 29)).drew w4.heap.size 4 A t (cellsL (l.take t))) := by
    have h1 := HR.out.take_ (k := t) (by rw [HL.out]; exact ht)
    rw [cellsL_take] at h1
    exact (h1.alloc (Nat.le_refl _) _).drew
  refine start_ (n := 10) (S := fun w' => True) (ds := []) #[false, false, false, false, false, false, false, false, false, false] (by kernel_rfl) rfl rfl trivial (fun hHeld => ?_)
  refine pure_ (i := 1) (N := some 41) (v := ?_) (a' := ?_) #[false, true, false, false, false, false, false, false, false, false] rfl rfl (by kernel_rfl) (fun _ _ _ h => h) (Or.inl ⟨by rfl, ?_⟩) ?_ ?_
  rotate_left
  · intro w'
    go_simp
    with_reducible rfl
  rotate_left
  · simp only [Act.put, List.setIfInBounds_toArray, List.set_cons_zero, List.set_cons_succ, i64_w, i32_w]
    rfl
  refine pure_ (i := 2) (N := some 42) (v := ?_) (a' := ?_) #[false, true, true, false, false, false, false, false, false, false] rfl rfl (by kernel_rfl) (fun _ _ _ h => h) (Or.inl ⟨by rfl, ?_⟩) ?_ ?_
  rotate_left
  · intro w'
    go_simp
    with_reducible rfl
  rotate_left
  · simp only [Act.put, List.setIfInBounds_toArray, List.set_cons_zero, List.set_cons_succ, i64_w, i32_w]
    rfl
  refine pure_ (i := 3) (N := some 43) (v := ?_) (a' := ?_) #[false, true, true, true, false, false, false, false, false, false] rfl rfl (by kernel_rfl) (fun _ _ _ h => h) (Or.inl ⟨by rfl, ?_⟩) ?_ ?_
  rotate_left
  · intro w'
    go_simp
    with_reducible rfl
  rotate_left
  · simp only [Act.put, List.setIfInBounds_toArray, List.set_cons_zero, List.set_cons_succ, i64_w, i32_w]
    rfl
  refine pure_ (i := 5) (N := some 45) (v := ?_) (a' := ?_) #[false, true, true, true, false, true, false, false, false, false] rfl rfl (by kernel_rfl) (fun _ _ _ h => h) (Or.inl ⟨by rfl, ?_⟩) ?_ ?_
  rotate_left
  · intro w'
    go_simp
    with_reducible rfl
  rotate_left
  · simp only [Act.put, List.setIfInBounds_toArray, List.set_cons_zero, List.set_cons_succ, i64_w, i32_w]
    rfl
  refine pure_ (i := 6) (N := some 46) (v := ?_) (a' := ?_) #[false, true, true, true, false, true, true, false, false, false] rfl rfl (by kernel_rfl) (fun _ _ _ h => h) (Or.inl ⟨by rfl, ?_⟩) ?_ ?_
  rotate_left
  · intro w'
    go_simp
    with_reducible rfl
  rotate_left
  · simp only [Act.put, List.setIfInBounds_toArray, List.set_cons_zero, List.set_cons_succ, i64_w, i32_w]
    rfl
  refine pure_ (i := 7) (N := some 47) (v := ?_) (a' := ?_) #[false, true, true, true, false, true, true, true, false, false] rfl rfl (by kernel_rfl) (fun _ _ _ h => h) (Or.inl ⟨by rfl, ?_⟩) ?_ ?_
  rotate_left
  · intro w'
    go_simp
    with_reducible rfl
  rotate_left
  · simp only [Act.put, List.setIfInBounds_toArray, List.set_cons_zero, List.set_cons_succ, i64_w, i32_w]
    rfl
  refine one_ (i := 0) (N := some 40) #[true, true, true, true, false, true, true, true, false, false] rfl rfl (by kernel_rfl) (by decide) (fun K hK => ?_)
  refine value_ (w1 := ?_) (v := ?_) (by rfl) rfl ?_ ?_
  rotate_left 2
  · go_simp
    constructor
    · rfl
    · rfl
  refine hK.out _ _ trivial (fun hHeld => ?_)
  clear hK K
  refine norm_ (a' := ?_) ?_ ?_
  rotate_left
  · show Act.put _ (some 40) _ = _
    simp only [Act.put, List.setIfInBounds_toArray, List.set_cons_zero, List.set_cons_succ, i64_w, i32_w]
    rfl
  refine one_ (i := 4) (N := some 44) #[true, true, true, true, true, true, true, true, false, false] rfl rfl (by kernel_rfl) (by decide) (fun K hK => ?_)
  refine step_append_any _ (by rfl) (.tmp 40) (.tmp 43) _ (by rfl) w4.heap.size 29 i0 _ 4 40 Try.underlying22 HI0.out HZ0.out HZ1.out HZ2.out rfl (by omega) (.slice (some ⟨w4.heap.size, 0, none⟩) 0 0) 0 [] (by rfl) (own_empty (by exact heap_alloc_new w4 _) (Nat.le_refl _)) w4.heap.size (if cap = t then A else Option.map (fun x => x.add (t * 4)) A) (n - t) (cap - t) (cellsL (l.drop t)) (by rfl) HRD.out (cellsL_one _) (by unfold maxLen; omega) (by omega) (by simp) ?_
  intro v1 wA hownA hgA hatA
  have hrowA : ∀ k, (Value.slice (some ⟨w4.heap.size, 0, none⟩) 0 0).ownBlock = some k → w4.heap.size ≤ k := (by intro k hk; simp [Value.ownBlock] at hk; omega)
  have hbA : Below w4.heap.size w4 wA := (((Below.refl _ w4).alloc (Nat.le_refl _) _).drew).grown hgA (by simp) hrowA
  have hrdA : Reads wA w4.heap.size 4 A t (cellsL (l.take t)) := HRT.out.grown hgA (by simp) hrowA
  have hatA2 : ∀ k, v1.ownBlock = some k → w4.heap.size ≤ k := (by intro k hk; rcases hatA with e | e <;> rw [e] at hk <;> simp [Value.ownBlock] at hk <;> omega)
  have hzA : w4.heap.size ≤ wA.heap.size := hbA.size
  refine hK.out _ _ trivial (fun hHeld => ?_)
  clear hK K
  refine norm_ (a' := ?_) ?_ ?_
  rotate_left
  · show Act.put _ (some 44) _ = _
    simp only [Act.put, List.setIfInBounds_toArray, List.set_cons_zero, List.set_cons_succ, i64_w, i32_w]
    rfl
  refine one_ (i := 8) (N := some 48) #[true, true, true, true, true, true, true, true, true, false] rfl rfl (by kernel_rfl) (by decide) (fun K hK => ?_)
  refine step_append_any _ (by rfl) (.tmp 44) (.tmp 47) _ (by rfl) w4.heap.size 29 i0 _ 4 40 Try.underlying22 HI0.out HZ0.out HZ1.out HZ2.out rfl (by omega) v1 (0 + (n - t)) ([] ++ cellsL (l.drop t)) (by rfl) hownA w4.heap.size A t cap (cellsL (l.take t)) (by rfl) hrdA (cellsL_one _) (by unfold maxLen; omega) (by omega) hzA ?_
  intro v2 wB hownB hgB hatB
  have hbB : Below w4.heap.size w4 wB := hbA.grown hgB hzA hatA2
  refine hK.out _ _ trivial (fun hHeld => ?_)
  clear hK K
  refine norm_ (a' := ?_) ?_ ?_
  rotate_left
  · show Act.put _ (some 48) _ = _
    simp only [Act.put, List.setIfInBounds_toArray, List.set_cons_zero, List.set_cons_succ, i64_w, i32_w]
    rfl
  refine pure_ (i := 9) (N := some 9) (v := ?_) (a' := ?_) #[true, true, true, true, true, true, true, true, true, true] rfl rfl (by kernel_rfl) (fun _ _ _ h => h) (Or.inl ⟨by rfl, ?_⟩) ?_ ?_
  rotate_left
  · intro w'
    go_simp
    with_reducible rfl
  rotate_left
  · simp only [Act.put, List.setIfInBounds_toArray, List.set_cons_zero, List.set_cons_succ, i64_w, i32_w]
    rfl
  refine done_ (by kernel_rfl) ?_
  clear hrdA hownA hgA hatA hgB hatB hrowA hatA2 hbA HRD HRT HR hHeld
  have hml : (l.drop t ++ l.take t).length = n := by simp only [List.length_append, List.length_drop, List.length_take, HL.out]; omega
  obtain ⟨A9, cap9, rfl, hac9, hb9⟩ := Acts.of_own (l := l.drop t ++ l.take t) hml (by
      have e1 : 0 + (n - t) + t = n := by omega
      rw [e1, List.nil_append, ← cellsL_append] at hownB
      exact hownB) (fun a ha => hnames.out a (by
      rcases List.mem_append.1 ha with h | h
      · exact List.mem_of_mem_drop h
      · exact List.mem_of_mem_take h))
  have hmem : ∀ a, a ∈ l ↔ a ∈ l.drop t ++ l.take t := by
    intro a
    rw [List.mem_append]
    constructor
    · intro h
      have h2 : a ∈ l.take t ++ l.drop t := by rw [List.take_append_drop]; exact h
      exact (List.mem_append.1 h2).symm
    · rintro (h | h)
      · exact List.mem_of_mem_drop h
      · exact List.mem_of_mem_take h
  have HM := Lib.hid hmem
  have HML := Lib.hid hml
  generalize l.drop t ++ l.take t = m at *
  generalize (if cap = t then A else Option.map (fun x => x.add (t * 4)) A) = A8 at *
  have hcB := hc4.of_blocks (hbB.block p (by omega)) (hbB.block b (by omega))
  have hdB := hd4.of_blocks (hbB.block p2 (by omega)) (hbB.block b2 (by omega))
  have hb0B : Below w.heap.size w wB := hb04.trans (hbB.mono hzw)
  have hb9' : Hid (∀ B O, A9 = some ⟨B, O, none⟩ → ¬ (B = p ∨ B = b) ∧ ¬ (B = p2 ∨ B = b2)) := by
    intro B O e
    have := hb9 B O e
    constructor <;> (rintro (h | h) <;> omega)
  clear hmem hml hownB hb9 hb04 hc4 hd4
  have hok0 := OI_new slack
  go_wp2_with fail
  go_loopw [10] (fun v10 wr => RL5 w n p b p2 b2 (newC slack 0) l m A9 v10 wr) (fun i _ => n - (intOf i).toNat)
  case atStart => exact ⟨0, newC slack 0, Nat.zero_le _, rfl, hcB, by rw [List.take_zero]; exact hok0, hdB, hac9, hb0B⟩
  case round =>
    clear hcB hdB hac9 hb0B hok0
    obtain ⟨k, c, hk, rfl, hc, hoi, hd, hac, hbr⟩ := hrel
    by_cases hlt : k < n
    · have hlk : k < l.length := by rw [HL.out]; exact hlt
      obtain ⟨a, ha⟩ : ∃ a, l[k]? = some a := ⟨_, List.getElem?_eq_getElem hlk⟩
      obtain ⟨B, O, rfl, hB, hs, h0, h1, h2, h3⟩ := (HA.out.below hbr) k a ha
      have hokc := hoi.ok
      have htk : l.take (k + 1) = l.take k ++ [a] := by
        rw [List.take_add_one, ha]; rfl
      have HTK := Lib.hid htk
      have HAK := Lib.hid ha
      have i0 : (0 : Int) ≤ (k : Int) := Int.natCast_nonneg _
      have i1 : (k : Int) < (n : Int) := by omega
      have hll : c.L.length ≤ k := by have := hoi.len; rw [List.length_take] at this; omega
      clear ha hlk htk h0 h3
      cases hy : hearOk (nameB a.name) c a.at_ 0 with
      | false =>
        have hno := fun X (hX : Clk X p b c) => hear_no_calls p b c a.name a.at_ 0 X hX hokc hs hy
        have HNO := Lib.hid hno
        clear hno hy
        go_wp2_with fail
        refine start_ (n := 13) (S := fun w' => w'.cell? ⟨B, O + k * 4 + 1, none⟩ = some (.string a.name) ∧ w'.cell? ⟨B, O + k * 4 + 2, none⟩ = some (.int .i64 a.at_)) (ds := []) #[false, false, false, false, false, false, false, false, false, false, false, false, false] (by kernel_rfl) rfl rfl ⟨h1, h2⟩ (fun hHeld => ?_)
        refine pure_ (i := 0) (N := some 55) (v := ?_) (a' := ?_) #[true, false, false, false, false, false, false, false, false, false, false, false, false] rfl rfl (by kernel_rfl) (fun _ _ _ h => h) (Or.inl ⟨by rfl, ?_⟩) ?_ ?_
        rotate_left
        · intro w'
          go_simp
          with_reducible rfl
        rotate_left
        · simp only [Act.put, List.setIfInBounds_toArray, List.set_cons_zero, List.set_cons_succ, i64_w, i32_w]
          rfl
        refine pure_ (i := 1) (N := some 56) (v := ?_) (a' := ?_) #[true, true, false, false, false, false, false, false, false, false, false, false, false] rfl rfl (by kernel_rfl) (fun _ _ _ h => h) (Or.inl ⟨by rfl, ?_⟩) ?_ ?_
        rotate_left
        · intro w'
          go_simp
          with_reducible rfl
        rotate_left
        · simp only [Act.put, List.setIfInBounds_toArray, List.set_cons_zero, List.set_cons_succ, i64_w, i32_w]
          rfl
        refine pure_ (i := 2) (N := some 57) (v := ?_) (a' := ?_) #[true, true, true, false, false, false, false, false, false, false, false, false, false] rfl rfl (by kernel_rfl) (fun _ _ _ h => h) (Or.inl ⟨by rfl, ?_⟩) ?_ ?_
        rotate_left
        · intro w'
          go_simp
          with_reducible rfl
        rotate_left
        · simp only [Act.put, List.setIfInBounds_toArray, List.set_cons_zero, List.set_cons_succ, i64_w, i32_w]
          rfl
        refine pure_ (i := 3) (N := some 58) (v := ?_) (a' := ?_) #[true, true, true, true, false, false, false, false, false, false, false, false, false] rfl rfl (by kernel_rfl) (fun _ _ _ h => h) (Or.inl ⟨by rfl, ?_⟩) ?_ ?_
        rotate_left
        · intro w'
          go_simp
          with_reducible rfl
        rotate_left
        · simp only [Act.put, List.setIfInBounds_toArray, List.set_cons_zero, List.set_cons_succ, i64_w, i32_w]
          rfl
        refine pure_ (i := 4) (N := some 59) (v := ?_) (a' := ?_) #[true, true, true, true, true, false, false, false, false, false, false, false, false] rfl rfl (by kernel_rfl) (fun _ _ _ h => h) (Or.inl ⟨by rfl, ?_⟩) ?_ ?_
        rotate_left
        · intro w'
          go_simp
          with_reducible rfl
        rotate_left
        · simp only [Act.put, List.setIfInBounds_toArray, List.set_cons_zero, List.set_cons_succ, i64_w, i32_w]
          rfl
        refine pure_ (i := 6) (N := some 61) (v := ?_) (a' := ?_) #[true, true, true, true, true, false, true, false, false, false, false, false, false] rfl rfl (by kernel_rfl) (fun _ _ _ h => h) (Or.inl ⟨by rfl, ?_⟩) ?_ ?_
        rotate_left
        · intro w'
          go_simp
          with_reducible rfl
        rotate_left
        · simp only [Act.put, List.setIfInBounds_toArray, List.set_cons_zero, List.set_cons_succ, i64_w, i32_w]
          rfl
        refine pure_ (i := 7) (N := some 62) (v := ?_) (a' := ?_) #[true, true, true, true, true, false, true, true, false, false, false, false, false] rfl rfl (by kernel_rfl) (fun _ _ _ h => h) (Or.inl ⟨by rfl, ?_⟩) ?_ ?_
        rotate_left
        · intro w'
          go_simp
          with_reducible rfl
        rotate_left
        · simp only [Act.put, List.setIfInBounds_toArray, List.set_cons_zero, List.set_cons_succ, i64_w, i32_w]
          rfl
        refine pure_ (i := 8) (N := some 63) (v := ?_) (a' := ?_) #[true, true, true, true, true, false, true, true, true, false, false, false, false] rfl rfl (by kernel_rfl) (fun _ _ _ h => h) (Or.inl ⟨by rfl, ?_⟩) ?_ ?_
        rotate_left
        · intro w'
          go_simp
          with_reducible rfl
        rotate_left
        · simp only [Act.put, List.setIfInBounds_toArray, List.set_cons_zero, List.set_cons_succ, i64_w, i32_w]
          rfl
        refine pure_ (i := 9) (N := some 64) (v := ?_) (a' := ?_) #[true, true, true, true, true, false, true, true, true, true, false, false, false] rfl rfl (by kernel_rfl) (fun _ _ _ h => h) (Or.inl ⟨by rfl, ?_⟩) ?_ ?_
        rotate_left
        · intro w'
          go_simp
          with_reducible rfl
        rotate_left
        · simp only [Act.put, List.setIfInBounds_toArray, List.set_cons_zero, List.set_cons_succ, i64_w, i32_w]
          rfl
        refine take_ (i := 5) (N := some 60) (v := ?_) (a' := ?_) #[true, true, true, true, true, true, true, true, true, true, false, false, false] rfl rfl (by kernel_rfl) (fun _ _ _ h => h) (Or.inl ⟨by rfl, ?_⟩) hHeld ?_ ?_
        rotate_left
        · rintro w' ⟨s0, s1⟩
          go_simp
          with_reducible rfl
        rotate_left
        · simp only [Act.put, List.setIfInBounds_toArray, List.set_cons_zero, List.set_cons_succ, i64_w, i32_w]
          rfl
        refine take_ (i := 10) (N := some 65) (v := ?_) (a' := ?_) #[true, true, true, true, true, true, true, true, true, true, true, false, false] rfl rfl (by kernel_rfl) (fun _ _ _ h => h) (Or.inl ⟨by rfl, ?_⟩) hHeld ?_ ?_
        rotate_left
        · rintro w' ⟨s0, s1⟩
          go_simp
          with_reducible rfl
        rotate_left
        · simp only [Act.put, List.setIfInBounds_toArray, List.set_cons_zero, List.set_cons_succ, i64_w, i32_w]
          rfl
        refine one_ (i := 11) (N := some 66) #[true, true, true, true, true, true, true, true, true, true, true, true, false] rfl rfl (by kernel_rfl) (by decide) (fun K hK => ?_)
        refine goes_ Try.func13 (by kernel_rfl) rfl #[.pointer (some ⟨p, 0, none⟩), .string a.name, .int .i64 a.at_, .int .i64 0] (by rfl) rfl rfl (by simp only [List.map_toArray, List.map_cons, List.map_nil]; rfl) ?_
        with_reducible refine (HNO.out _ (hc.of_blocks (w' := wr.drew) rfl rfl)).mono ?_
        rintro e w5 ⟨rfl, hc5, hf5⟩
        refine ⟨_, rfl, ?_⟩
        have hb5 := Fr.below1' hbr.drew hbr.size hf5 o5
        obtain ⟨_, _, e5, _, _, g0, g1, g2, g3⟩ := (HA.out.below hb5) k a (by exact HAK.out)
        cases e5
        refine hK.out _ _ ⟨g1, g2⟩ (fun hHeld => ?_)
        clear hK K
        refine norm_ (a' := ?_) ?_ ?_
        rotate_left
        · show Act.put _ (some 66) _ = _
          simp only [Act.put, List.setIfInBounds_toArray, List.set_cons_zero, List.set_cons_succ, i64_w, i32_w]
          rfl
        refine pure_ (i := 12) (N := some 67) (v := ?_) (a' := ?_) #[true, true, true, true, true, true, true, true, true, true, true, true, true] rfl rfl (by kernel_rfl) (fun _ _ _ h => h) (Or.inl ⟨by rfl, ?_⟩) ?_ ?_
        rotate_left
        · intro w'
          go_simp
          with_reducible rfl
        rotate_left
        · simp only [Act.put, List.setIfInBounds_toArray, List.set_cons_zero, List.set_cons_succ, i64_w, i32_w]
          rfl
        refine done_ (by kernel_rfl) ?_
        go_wp2_with fail
        go_ret
        exact ⟨rfl, hb5⟩
      | true =>
        have hlm : c.L.length < maxLen := by unfold maxLen; omega
        have hyes := fun X (hX : Clk X p b c) => hear_yes_calls p b c a.name a.at_ 0 X hX hokc hs hlm hy
        have HYES := Lib.hid hyes
        have hoi1 := OI_step hoi hy
        rw [← HTK.out] at hoi1
        have HOI := Lib.hid hoi1
        clear hyes hy hlm hoi1
        go_wp2_with fail
        refine start_ (n := 13) (S := fun w' => w'.cell? ⟨B, O + k * 4 + 1, none⟩ = some (.string a.name) ∧ w'.cell? ⟨B, O + k * 4 + 2, none⟩ = some (.int .i64 a.at_)) (ds := []) #[false, false, false, false, false, false, false, false, false, false, false, false, false] (by kernel_rfl) rfl rfl ⟨h1, h2⟩ (fun hHeld => ?_)
        refine pure_ (i := 0) (N := some 55) (v := ?_) (a' := ?_) #[true, false, false, false, false, false, false, false, false, false, false, false, false] rfl rfl (by kernel_rfl) (fun _ _ _ h => h) (Or.inl ⟨by rfl, ?_⟩) ?_ ?_
        rotate_left
        · intro w'
          go_simp
          with_reducible rfl
        rotate_left
        · simp only [Act.put, List.setIfInBounds_toArray, List.set_cons_zero, List.set_cons_succ, i64_w, i32_w]
          rfl
        refine pure_ (i := 1) (N := some 56) (v := ?_) (a' := ?_) #[true, true, false, false, false, false, false, false, false, false, false, false, false] rfl rfl (by kernel_rfl) (fun _ _ _ h => h) (Or.inl ⟨by rfl, ?_⟩) ?_ ?_
        rotate_left
        · intro w'
          go_simp
          with_reducible rfl
        rotate_left
        · simp only [Act.put, List.setIfInBounds_toArray, List.set_cons_zero, List.set_cons_succ, i64_w, i32_w]
          rfl
        refine pure_ (i := 2) (N := some 57) (v := ?_) (a' := ?_) #[true, true, true, false, false, false, false, false, false, false, false, false, false] rfl rfl (by kernel_rfl) (fun _ _ _ h => h) (Or.inl ⟨by rfl, ?_⟩) ?_ ?_
        rotate_left
        · intro w'
          go_simp
          with_reducible rfl
        rotate_left
        · simp only [Act.put, List.setIfInBounds_toArray, List.set_cons_zero, List.set_cons_succ, i64_w, i32_w]
          rfl
        refine pure_ (i := 3) (N := some 58) (v := ?_) (a' := ?_) #[true, true, true, true, false, false, false, false, false, false, false, false, false] rfl rfl (by kernel_rfl) (fun _ _ _ h => h) (Or.inl ⟨by rfl, ?_⟩) ?_ ?_
        rotate_left
        · intro w'
          go_simp
          with_reducible rfl
        rotate_left
        · simp only [Act.put, List.setIfInBounds_toArray, List.set_cons_zero, List.set_cons_succ, i64_w, i32_w]
          rfl
        refine pure_ (i := 4) (N := some 59) (v := ?_) (a' := ?_) #[true, true, true, true, true, false, false, false, false, false, false, false, false] rfl rfl (by kernel_rfl) (fun _ _ _ h => h) (Or.inl ⟨by rfl, ?_⟩) ?_ ?_
        rotate_left
        · intro w'
          go_simp
          with_reducible rfl
        rotate_left
        · simp only [Act.put, List.setIfInBounds_toArray, List.set_cons_zero, List.set_cons_succ, i64_w, i32_w]
          rfl
        refine pure_ (i := 6) (N := some 61) (v := ?_) (a' := ?_) #[true, true, true, true, true, false, true, false, false, false, false, false, false] rfl rfl (by kernel_rfl) (fun _ _ _ h => h) (Or.inl ⟨by rfl, ?_⟩) ?_ ?_
        rotate_left
        · intro w'
          go_simp
          with_reducible rfl
        rotate_left
        · simp only [Act.put, List.setIfInBounds_toArray, List.set_cons_zero, List.set_cons_succ, i64_w, i32_w]
          rfl
        refine pure_ (i := 7) (N := some 62) (v := ?_) (a' := ?_) #[true, true, true, true, true, false, true, true, false, false, false, false, false] rfl rfl (by kernel_rfl) (fun _ _ _ h => h) (Or.inl ⟨by rfl, ?_⟩) ?_ ?_
        rotate_left
        · intro w'
          go_simp
          with_reducible rfl
        rotate_left
        · simp only [Act.put, List.setIfInBounds_toArray, List.set_cons_zero, List.set_cons_succ, i64_w, i32_w]
          rfl
        refine pure_ (i := 8) (N := some 63) (v := ?_) (a' := ?_) #[true, true, true, true, true, false, true, true, true, false, false, false, false] rfl rfl (by kernel_rfl) (fun _ _ _ h => h) (Or.inl ⟨by rfl, ?_⟩) ?_ ?_
        rotate_left
        · intro w'
          go_simp
          with_reducible rfl
        rotate_left
        · simp only [Act.put, List.setIfInBounds_toArray, List.set_cons_zero, List.set_cons_succ, i64_w, i32_w]
          rfl
        refine pure_ (i := 9) (N := some 64) (v := ?_) (a' := ?_) #[true, true, true, true, true, false, true, true, true, true, false, false, false] rfl rfl (by kernel_rfl) (fun _ _ _ h => h) (Or.inl ⟨by rfl, ?_⟩) ?_ ?_
        rotate_left
        · intro w'
          go_simp
          with_reducible rfl
        rotate_left
        · simp only [Act.put, List.setIfInBounds_toArray, List.set_cons_zero, List.set_cons_succ, i64_w, i32_w]
          rfl
        refine take_ (i := 5) (N := some 60) (v := ?_) (a' := ?_) #[true, true, true, true, true, true, true, true, true, true, false, false, false] rfl rfl (by kernel_rfl) (fun _ _ _ h => h) (Or.inl ⟨by rfl, ?_⟩) hHeld ?_ ?_
        rotate_left
        · rintro w' ⟨s0, s1⟩
          go_simp
          with_reducible rfl
        rotate_left
        · simp only [Act.put, List.setIfInBounds_toArray, List.set_cons_zero, List.set_cons_succ, i64_w, i32_w]
          rfl
        refine take_ (i := 10) (N := some 65) (v := ?_) (a' := ?_) #[true, true, true, true, true, true, true, true, true, true, true, false, false] rfl rfl (by kernel_rfl) (fun _ _ _ h => h) (Or.inl ⟨by rfl, ?_⟩) hHeld ?_ ?_
        rotate_left
        · rintro w' ⟨s0, s1⟩
          go_simp
          with_reducible rfl
        rotate_left
        · simp only [Act.put, List.setIfInBounds_toArray, List.set_cons_zero, List.set_cons_succ, i64_w, i32_w]
          rfl
        refine one_ (i := 11) (N := some 66) #[true, true, true, true, true, true, true, true, true, true, true, true, false] rfl rfl (by kernel_rfl) (by decide) (fun K hK => ?_)
        refine goes_ Try.func13 (by kernel_rfl) rfl #[.pointer (some ⟨p, 0, none⟩), .string a.name, .int .i64 a.at_, .int .i64 0] (by rfl) rfl rfl (by simp only [List.map_toArray, List.map_cons, List.map_nil]; rfl) ?_
        with_reducible refine (HYES.out _ (hc.of_blocks (w' := wr.drew) rfl rfl)).mono ?_
        rintro e w5 ⟨rfl, hc5, hf5⟩
        refine ⟨_, rfl, ?_⟩
        have hb5 := Fr.below2' hbr.drew hbr.size hf5 o5 o1
        have hd5 := ckeep2 (hd.of_blocks (w' := wr.drew) rfl rfl) hf5 N1.out.symm N2.out.symm N3.out.symm N4.out.symm
        have hac5 := Acts.fr (w := wr.drew) hac hf5 (fun B' O' e' => (hb9'.out B' O' e').1)
        obtain ⟨_, _, e5, _, _, g0, g1, g2, g3⟩ := (HA.out.below hb5) k a (by exact HAK.out)
        cases e5
        refine hK.out _ _ ⟨g1, g2⟩ (fun hHeld => ?_)
        clear hK K
        refine norm_ (a' := ?_) ?_ ?_
        rotate_left
        · show Act.put _ (some 66) _ = _
          simp only [Act.put, List.setIfInBounds_toArray, List.set_cons_zero, List.set_cons_succ, i64_w, i32_w]
          rfl
        refine pure_ (i := 12) (N := some 67) (v := ?_) (a' := ?_) #[true, true, true, true, true, true, true, true, true, true, true, true, true] rfl rfl (by kernel_rfl) (fun _ _ _ h => h) (Or.inl ⟨by rfl, ?_⟩) ?_ ?_
        rotate_left
        · intro w'
          go_simp
          with_reducible rfl
        rotate_left
        · simp only [Act.put, List.setIfInBounds_toArray, List.set_cons_zero, List.set_cons_succ, i64_w, i32_w]
          rfl
        refine done_ (by kernel_rfl) ?_
        go_wp2_with fail
        go_roundw
        case rel => exact ⟨k + 1, _, by omega, by go_num, hc5, HOI.out, hd5, hac5, hb5⟩
        case measure => simp [intOf]; omega
    · have hkn : k = n := by omega
      have HOIC : Hid (OI c l) := by
        have := hoi
        rw [hkn, ← HL.out, List.take_length] at this
        exact this
      have hokc := hoi.ok
      have hllc : c.L.length ≤ 101 := by have := hoi.len; rw [List.length_take] at this; omega
      clear hoi hkn
      obtain ⟨wo, rfl⟩ : ∃ wo : World, wo = wr := ⟨_, rfl⟩
      have hok0 := OI_new slack
      go_wp2_with fail
      go_loopw [11] (fun v11 wr => RL6 w n p b p2 b2 c m A9 v11 wr) (fun i _ => n - (intOf i).toNat)
      case atStart => exact ⟨0, newC slack 0, Nat.zero_le _, rfl, hc, by rw [List.take_zero]; exact hok0, hd, hac, hbr⟩
      case round =>
        clear hc hd hac hbr hok0 hlt hk
        obtain ⟨k, d, hk, rfl, hc, hoi, hd, hac, hbr⟩ := hrel
        by_cases hlt : k < n
        · have hlk : k < m.length := by rw [HML.out]; exact hlt
          obtain ⟨a, ha⟩ : ∃ a, m[k]? = some a := ⟨_, List.getElem?_eq_getElem hlk⟩
          obtain ⟨B, O, rfl, hB, hs, h0, h1, h2, h3⟩ := hac k a ha
          have hokd := hoi.ok
          have htk : m.take (k + 1) = m.take k ++ [a] := by
            rw [List.take_add_one, ha]; rfl
          have HTK := Lib.hid htk
          have HAK := Lib.hid ha
          have i0 : (0 : Int) ≤ (k : Int) := Int.natCast_nonneg _
          have i1 : (k : Int) < (n : Int) := by omega
          have hll : d.L.length ≤ k := by have := hoi.len; rw [List.length_take] at this; omega
          clear ha hlk htk h0 h3
          cases hy : hearOk (nameB a.name) d a.at_ 0 with
          | false =>
            have hno := fun X (hX : Clk X p2 b2 d) => hear_no_calls p2 b2 d a.name a.at_ 0 X hX hokd hs hy
            have HNO := Lib.hid hno
            clear hno hy
            go_wp2_with fail
            refine start_ (n := 13) (S := fun w' => w'.cell? ⟨B, O + k * 4 + 1, none⟩ = some (.string a.name) ∧ w'.cell? ⟨B, O + k * 4 + 2, none⟩ = some (.int .i64 a.at_)) (ds := []) #[false, false, false, false, false, false, false, false, false, false, false, false, false] (by kernel_rfl) rfl rfl ⟨h1, h2⟩ (fun hHeld => ?_)
            refine pure_ (i := 0) (N := some 74) (v := ?_) (a' := ?_) #[true, false, false, false, false, false, false, false, false, false, false, false, false] rfl rfl (by kernel_rfl) (fun _ _ _ h => h) (Or.inl ⟨by rfl, ?_⟩) ?_ ?_
            rotate_left
            · intro w'
              go_simp
              with_reducible rfl
            rotate_left
            · simp only [Act.put, List.setIfInBounds_toArray, List.set_cons_zero, List.set_cons_succ, i64_w, i32_w]
              rfl
            refine pure_ (i := 1) (N := some 75) (v := ?_) (a' := ?_) #[true, true, false, false, false, false, false, false, false, false, false, false, false] rfl rfl (by kernel_rfl) (fun _ _ _ h => h) (Or.inl ⟨by rfl, ?_⟩) ?_ ?_
            rotate_left
            · intro w'
              go_simp
              with_reducible rfl
            rotate_left
            · simp only [Act.put, List.setIfInBounds_toArray, List.set_cons_zero, List.set_cons_succ, i64_w, i32_w]
              rfl
            refine pure_ (i := 2) (N := some 76) (v := ?_) (a' := ?_) #[true, true, true, false, false, false, false, false, false, false, false, false, false] rfl rfl (by kernel_rfl) (fun _ _ _ h => h) (Or.inl ⟨by rfl, ?_⟩) ?_ ?_
            rotate_left
            · intro w'
              go_simp
              with_reducible rfl
            rotate_left
            · simp only [Act.put, List.setIfInBounds_toArray, List.set_cons_zero, List.set_cons_succ, i64_w, i32_w]
              rfl
            refine pure_ (i := 3) (N := some 77) (v := ?_) (a' := ?_) #[true, true, true, true, false, false, false, false, false, false, false, false, false] rfl rfl (by kernel_rfl) (fun _ _ _ h => h) (Or.inl ⟨by rfl, ?_⟩) ?_ ?_
            rotate_left
            · intro w'
              go_simp
              with_reducible rfl
            rotate_left
            · simp only [Act.put, List.setIfInBounds_toArray, List.set_cons_zero, List.set_cons_succ, i64_w, i32_w]
              rfl
            refine pure_ (i := 4) (N := some 78) (v := ?_) (a' := ?_) #[true, true, true, true, true, false, false, false, false, false, false, false, false] rfl rfl (by kernel_rfl) (fun _ _ _ h => h) (Or.inl ⟨by rfl, ?_⟩) ?_ ?_
            rotate_left
            · intro w'
              go_simp
              with_reducible rfl
            rotate_left
            · simp only [Act.put, List.setIfInBounds_toArray, List.set_cons_zero, List.set_cons_succ, i64_w, i32_w]
              rfl
            refine pure_ (i := 6) (N := some 80) (v := ?_) (a' := ?_) #[true, true, true, true, true, false, true, false, false, false, false, false, false] rfl rfl (by kernel_rfl) (fun _ _ _ h => h) (Or.inl ⟨by rfl, ?_⟩) ?_ ?_
            rotate_left
            · intro w'
              go_simp
              with_reducible rfl
            rotate_left
            · simp only [Act.put, List.setIfInBounds_toArray, List.set_cons_zero, List.set_cons_succ, i64_w, i32_w]
              rfl
            refine pure_ (i := 7) (N := some 81) (v := ?_) (a' := ?_) #[true, true, true, true, true, false, true, true, false, false, false, false, false] rfl rfl (by kernel_rfl) (fun _ _ _ h => h) (Or.inl ⟨by rfl, ?_⟩) ?_ ?_
            rotate_left
            · intro w'
              go_simp
              with_reducible rfl
            rotate_left
            · simp only [Act.put, List.setIfInBounds_toArray, List.set_cons_zero, List.set_cons_succ, i64_w, i32_w]
              rfl
            refine pure_ (i := 8) (N := some 82) (v := ?_) (a' := ?_) #[true, true, true, true, true, false, true, true, true, false, false, false, false] rfl rfl (by kernel_rfl) (fun _ _ _ h => h) (Or.inl ⟨by rfl, ?_⟩) ?_ ?_
            rotate_left
            · intro w'
              go_simp
              with_reducible rfl
            rotate_left
            · simp only [Act.put, List.setIfInBounds_toArray, List.set_cons_zero, List.set_cons_succ, i64_w, i32_w]
              rfl
            refine pure_ (i := 9) (N := some 83) (v := ?_) (a' := ?_) #[true, true, true, true, true, false, true, true, true, true, false, false, false] rfl rfl (by kernel_rfl) (fun _ _ _ h => h) (Or.inl ⟨by rfl, ?_⟩) ?_ ?_
            rotate_left
            · intro w'
              go_simp
              with_reducible rfl
            rotate_left
            · simp only [Act.put, List.setIfInBounds_toArray, List.set_cons_zero, List.set_cons_succ, i64_w, i32_w]
              rfl
            refine take_ (i := 5) (N := some 79) (v := ?_) (a' := ?_) #[true, true, true, true, true, true, true, true, true, true, false, false, false] rfl rfl (by kernel_rfl) (fun _ _ _ h => h) (Or.inl ⟨by rfl, ?_⟩) hHeld ?_ ?_
            rotate_left
            · rintro w' ⟨s0, s1⟩
              go_simp
              with_reducible rfl
            rotate_left
            · simp only [Act.put, List.setIfInBounds_toArray, List.set_cons_zero, List.set_cons_succ, i64_w, i32_w]
              rfl
            refine take_ (i := 10) (N := some 84) (v := ?_) (a' := ?_) #[true, true, true, true, true, true, true, true, true, true, true, false, false] rfl rfl (by kernel_rfl) (fun _ _ _ h => h) (Or.inl ⟨by rfl, ?_⟩) hHeld ?_ ?_
            rotate_left
            · rintro w' ⟨s0, s1⟩
              go_simp
              with_reducible rfl
            rotate_left
            · simp only [Act.put, List.setIfInBounds_toArray, List.set_cons_zero, List.set_cons_succ, i64_w, i32_w]
              rfl
            refine one_ (i := 11) (N := some 85) #[true, true, true, true, true, true, true, true, true, true, true, true, false] rfl rfl (by kernel_rfl) (by decide) (fun K hK => ?_)
            refine goes_ Try.func13 (by kernel_rfl) rfl #[.pointer (some ⟨p2, 0, none⟩), .string a.name, .int .i64 a.at_, .int .i64 0] (by rfl) rfl rfl (by simp only [List.map_toArray, List.map_cons, List.map_nil]; rfl) ?_
            with_reducible refine (HNO.out _ (hd.of_blocks (w' := wr.drew) rfl rfl)).mono ?_
            rintro e w5 ⟨rfl, hd5, hf5⟩
            refine ⟨_, rfl, ?_⟩
            have hb5 := Fr.below1' hbr.drew hbr.size hf5 o7
            have hac5 := Acts.fr (w := wr.drew) hac hf5 (fun B' O' e' => fun h => (hb9'.out B' O' e').2 (.inl h))
            obtain ⟨_, _, e5, _, _, g0, g1, g2, g3⟩ := hac5 k a (by exact HAK.out)
            cases e5
            refine hK.out _ _ ⟨g1, g2⟩ (fun hHeld => ?_)
            clear hK K
            refine norm_ (a' := ?_) ?_ ?_
            rotate_left
            · show Act.put _ (some 85) _ = _
              simp only [Act.put, List.setIfInBounds_toArray, List.set_cons_zero, List.set_cons_succ, i64_w, i32_w]
              rfl
            refine pure_ (i := 12) (N := some 86) (v := ?_) (a' := ?_) #[true, true, true, true, true, true, true, true, true, true, true, true, true] rfl rfl (by kernel_rfl) (fun _ _ _ h => h) (Or.inl ⟨by rfl, ?_⟩) ?_ ?_
            rotate_left
            · intro w'
              go_simp
              with_reducible rfl
            rotate_left
            · simp only [Act.put, List.setIfInBounds_toArray, List.set_cons_zero, List.set_cons_succ, i64_w, i32_w]
              rfl
            refine done_ (by kernel_rfl) ?_
            go_wp2_with fail
            go_ret
            exact ⟨rfl, hb5⟩
          | true =>
            have hlm : d.L.length < maxLen := by unfold maxLen; omega
            have hyes := fun X (hX : Clk X p2 b2 d) => hear_yes_calls p2 b2 d a.name a.at_ 0 X hX hokd hs hlm hy
            have HYES := Lib.hid hyes
            have hoi1 := OI_step hoi hy
            rw [← HTK.out] at hoi1
            have HOI := Lib.hid hoi1
            clear hyes hy hlm hoi1
            go_wp2_with fail
            refine start_ (n := 13) (S := fun w' => w'.cell? ⟨B, O + k * 4 + 1, none⟩ = some (.string a.name) ∧ w'.cell? ⟨B, O + k * 4 + 2, none⟩ = some (.int .i64 a.at_)) (ds := []) #[false, false, false, false, false, false, false, false, false, false, false, false, false] (by kernel_rfl) rfl rfl ⟨h1, h2⟩ (fun hHeld => ?_)
            refine pure_ (i := 0) (N := some 74) (v := ?_) (a' := ?_) #[true, false, false, false, false, false, false, false, false, false, false, false, false] rfl rfl (by kernel_rfl) (fun _ _ _ h => h) (Or.inl ⟨by rfl, ?_⟩) ?_ ?_
            rotate_left
            · intro w'
              go_simp
              with_reducible rfl
            rotate_left
            · simp only [Act.put, List.setIfInBounds_toArray, List.set_cons_zero, List.set_cons_succ, i64_w, i32_w]
              rfl
            refine pure_ (i := 1) (N := some 75) (v := ?_) (a' := ?_) #[true, true, false, false, false, false, false, false, false, false, false, false, false] rfl rfl (by kernel_rfl) (fun _ _ _ h => h) (Or.inl ⟨by rfl, ?_⟩) ?_ ?_
            rotate_left
            · intro w'
              go_simp
              with_reducible rfl
            rotate_left
            · simp only [Act.put, List.setIfInBounds_toArray, List.set_cons_zero, List.set_cons_succ, i64_w, i32_w]
              rfl
            refine pure_ (i := 2) (N := some 76) (v := ?_) (a' := ?_) #[true, true, true, false, false, false, false, false, false, false, false, false, false] rfl rfl (by kernel_rfl) (fun _ _ _ h => h) (Or.inl ⟨by rfl, ?_⟩) ?_ ?_
            rotate_left
            · intro w'
              go_simp
              with_reducible rfl
            rotate_left
            · simp only [Act.put, List.setIfInBounds_toArray, List.set_cons_zero, List.set_cons_succ, i64_w, i32_w]
              rfl
            refine pure_ (i := 3) (N := some 77) (v := ?_) (a' := ?_) #[true, true, true, true, false, false, false, false, false, false, false, false, false] rfl rfl (by kernel_rfl) (fun _ _ _ h => h) (Or.inl ⟨by rfl, ?_⟩) ?_ ?_
            rotate_left
            · intro w'
              go_simp
              with_reducible rfl
            rotate_left
            · simp only [Act.put, List.setIfInBounds_toArray, List.set_cons_zero, List.set_cons_succ, i64_w, i32_w]
              rfl
            refine pure_ (i := 4) (N := some 78) (v := ?_) (a' := ?_) #[true, true, true, true, true, false, false, false, false, false, false, false, false] rfl rfl (by kernel_rfl) (fun _ _ _ h => h) (Or.inl ⟨by rfl, ?_⟩) ?_ ?_
            rotate_left
            · intro w'
              go_simp
              with_reducible rfl
            rotate_left
            · simp only [Act.put, List.setIfInBounds_toArray, List.set_cons_zero, List.set_cons_succ, i64_w, i32_w]
              rfl
            refine pure_ (i := 6) (N := some 80) (v := ?_) (a' := ?_) #[true, true, true, true, true, false, true, false, false, false, false, false, false] rfl rfl (by kernel_rfl) (fun _ _ _ h => h) (Or.inl ⟨by rfl, ?_⟩) ?_ ?_
            rotate_left
            · intro w'
              go_simp
              with_reducible rfl
            rotate_left
            · simp only [Act.put, List.setIfInBounds_toArray, List.set_cons_zero, List.set_cons_succ, i64_w, i32_w]
              rfl
            refine pure_ (i := 7) (N := some 81) (v := ?_) (a' := ?_) #[true, true, true, true, true, false, true, true, false, false, false, false, false] rfl rfl (by kernel_rfl) (fun _ _ _ h => h) (Or.inl ⟨by rfl, ?_⟩) ?_ ?_
            rotate_left
            · intro w'
              go_simp
              with_reducible rfl
            rotate_left
            · simp only [Act.put, List.setIfInBounds_toArray, List.set_cons_zero, List.set_cons_succ, i64_w, i32_w]
              rfl
            refine pure_ (i := 8) (N := some 82) (v := ?_) (a' := ?_) #[true, true, true, true, true, false, true, true, true, false, false, false, false] rfl rfl (by kernel_rfl) (fun _ _ _ h => h) (Or.inl ⟨by rfl, ?_⟩) ?_ ?_
            rotate_left
            · intro w'
              go_simp
              with_reducible rfl
            rotate_left
            · simp only [Act.put, List.setIfInBounds_toArray, List.set_cons_zero, List.set_cons_succ, i64_w, i32_w]
              rfl
            refine pure_ (i := 9) (N := some 83) (v := ?_) (a' := ?_) #[true, true, true, true, true, false, true, true, true, true, false, false, false] rfl rfl (by kernel_rfl) (fun _ _ _ h => h) (Or.inl ⟨by rfl, ?_⟩) ?_ ?_
            rotate_left
            · intro w'
              go_simp
              with_reducible rfl
            rotate_left
            · simp only [Act.put, List.setIfInBounds_toArray, List.set_cons_zero, List.set_cons_succ, i64_w, i32_w]
              rfl
            refine take_ (i := 5) (N := some 79) (v := ?_) (a' := ?_) #[true, true, true, true, true, true, true, true, true, true, false, false, false] rfl rfl (by kernel_rfl) (fun _ _ _ h => h) (Or.inl ⟨by rfl, ?_⟩) hHeld ?_ ?_
            rotate_left
            · rintro w' ⟨s0, s1⟩
              go_simp
              with_reducible rfl
            rotate_left
            · simp only [Act.put, List.setIfInBounds_toArray, List.set_cons_zero, List.set_cons_succ, i64_w, i32_w]
              rfl
            refine take_ (i := 10) (N := some 84) (v := ?_) (a' := ?_) #[true, true, true, true, true, true, true, true, true, true, true, false, false] rfl rfl (by kernel_rfl) (fun _ _ _ h => h) (Or.inl ⟨by rfl, ?_⟩) hHeld ?_ ?_
            rotate_left
            · rintro w' ⟨s0, s1⟩
              go_simp
              with_reducible rfl
            rotate_left
            · simp only [Act.put, List.setIfInBounds_toArray, List.set_cons_zero, List.set_cons_succ, i64_w, i32_w]
              rfl
            refine one_ (i := 11) (N := some 85) #[true, true, true, true, true, true, true, true, true, true, true, true, false] rfl rfl (by kernel_rfl) (by decide) (fun K hK => ?_)
            refine goes_ Try.func13 (by kernel_rfl) rfl #[.pointer (some ⟨p2, 0, none⟩), .string a.name, .int .i64 a.at_, .int .i64 0] (by rfl) rfl rfl (by simp only [List.map_toArray, List.map_cons, List.map_nil]; rfl) ?_
            with_reducible refine (HYES.out _ (hd.of_blocks (w' := wr.drew) rfl rfl)).mono ?_
            rintro e w5 ⟨rfl, hd5, hf5⟩
            refine ⟨_, rfl, ?_⟩
            have hb5 := Fr.below2' hbr.drew hbr.size hf5 o7 o6
            have hc5 := ckeep2 (hc.of_blocks (w' := wr.drew) rfl rfl) hf5 N1.out N3.out N2.out N4.out
            have hac5 := Acts.fr (w := wr.drew) hac hf5 (fun B' O' e' => (hb9'.out B' O' e').2)
            obtain ⟨_, _, e5, _, _, g0, g1, g2, g3⟩ := hac5 k a (by exact HAK.out)
            cases e5
            refine hK.out _ _ ⟨g1, g2⟩ (fun hHeld => ?_)
            clear hK K
            refine norm_ (a' := ?_) ?_ ?_
            rotate_left
            · show Act.put _ (some 85) _ = _
              simp only [Act.put, List.setIfInBounds_toArray, List.set_cons_zero, List.set_cons_succ, i64_w, i32_w]
              rfl
            refine pure_ (i := 12) (N := some 86) (v := ?_) (a' := ?_) #[true, true, true, true, true, true, true, true, true, true, true, true, true] rfl rfl (by kernel_rfl) (fun _ _ _ h => h) (Or.inl ⟨by rfl, ?_⟩) ?_ ?_
            rotate_left
            · intro w'
              go_simp
              with_reducible rfl
            rotate_left
            · simp only [Act.put, List.setIfInBounds_toArray, List.set_cons_zero, List.set_cons_succ, i64_w, i32_w]
              rfl
            refine done_ (by kernel_rfl) ?_
            go_wp2_with fail
            go_roundw
            case rel => exact ⟨k + 1, _, by omega, by go_num, hc5, HOI.out, hd5, hac5, hb5⟩
            case measure => simp [intOf]; omega
        · have hkn : k = n := by omega
          have HOID : Hid (OI d m) := by
            have := hoi
            rw [hkn, ← HML.out, List.take_length] at this
            exact this
          have hokd := hoi.ok
          clear hoi hkn hac
          obtain ⟨wq, rfl⟩ : ∃ wq : World, wq = wr := ⟨_, rfl⟩
          have hrc := hc.map.rising
          have hrd := hd.map.rising
          have hLL : d.L = c.L := by
            refine rising_ext hrd hrc (fun s => ?_)
            rw [HOIC.out.ls, HOID.out.ls]
            exact (FL_same HM.out HOIC.out.pos s).symm
          have HLL := Lib.hid hLL
          have HRC := Lib.hid hrc
          have hlld : d.L.length ≤ 101 := by rw [hLL]; exact hllc
          clear hrc hrd hLL
          go_wp2_with fail
          refine (sources_calls p b c _ hc (by omega)).mono ?_
          rintro e w8 ⟨vx, rfl, hrowx, hb8⟩
          have hc8 := hc.below hb8
          have hd8 := hd.below hb8
          have hbr8 : Below w.heap.size w w8 := hbr.trans (hb8.mono hbr.size)
          go_wp2_with fail
          refine (sources_calls p2 b2 d _ hd8 (by omega)).mono ?_
          rintro e w9 ⟨vy, rfl, hrowy, hb9⟩
          have hc9 := hc8.below hb9
          have hd9 := hd8.below hb9
          have hbr9 : Below w.heap.size w w9 := hbr8.trans (hb9.mono hbr8.size)
          obtain ⟨X, cx, rfl, hx8⟩ := Strs.of_own (l := c.L.map (·.1)) (n := c.L.length) (by simp) (by rw [List.map_map]; exact hrowx)
          obtain ⟨Y, cy, rfl, hy9⟩ := Strs.of_own (l := c.L.map (·.1)) (n := c.L.length) (by simp) (by rw [List.map_map, ← HLL.out]; exact hrowy)
          have hx9 := hx8.below hb9
          generalize hnl : c.L.length = nl at *
          have HNL := Lib.hid hnl
          clear hnl hrowx hrowy hb8 hb9 hx8 hc8 hd8 hbr8 hc hd hbr hlld
          have hnlb : (nl : Int) ≤ 101 := by omega
          go_wp2_with fail
          go_loopw [14] (fun v14 wr => RL7 w nl p b p2 b2 c d X Y v14 wr) (fun i _ => nl - (intOf i).toNat)
          case atStart => exact ⟨0, Nat.zero_le _, rfl, hc9, hd9, hx9, hy9, hbr9⟩
          case round =>
            clear hc9 hd9 hx9 hy9 hbr9 hlt hk
            obtain ⟨k, hk, rfl, hc, hd, hx, hy, hbr⟩ := hrel
            by_cases hlt : k < nl
            · have hlk : k < c.L.length := by rw [HNL.out]; exact hlt
              obtain ⟨e, he⟩ : ∃ e, c.L[k]? = some e := ⟨_, List.getElem?_eq_getElem hlk⟩
              have hkey : (c.L.map (·.1))[k]? = some e.1 := by rw [List.getElem?_map, he]; rfl
              obtain ⟨gx, rfl, hgx, hcx⟩ := hx k e.1 hkey
              obtain ⟨gy, rfl, hgy, hcy⟩ := hy k e.1 hkey
              have hmemc : e ∈ c.L := List.mem_of_getElem? he
              have hge : get c.L e.1 = some e.2 := mem_get HRC.out.kd hmemc
              obtain ⟨a, hal, hka⟩ : ∃ a ∈ l, key a = e.1 := by
                have h1 := hge
                rw [HOIC.out.ls] at h1
                obtain ⟨_, ⟨a, hal, hka, _⟩, _⟩ := FL_some l HOIC.out.pos _ _ h1
                exact ⟨a, hal, hka⟩
              have hes : (⟨e.1.toArray⟩ : ByteArray).size ≤ maxLen := by
                have h1 := hnames.out a hal
                have : e.1.toArray = a.name.data := by rw [← hka]; unfold key; simp
                rw [this]; exact h1
              have hH1 : Hid (∀ Z, Clk Z p b c → Calls Try.prog 14 #[.pointer (some ⟨p, 0, none⟩), .string ⟨e.1.toArray⟩] Z fun e' Z' => e' = .returned (.int .i64 (heardV c e.1)) ∧ Below Z.heap.size Z Z') := by
                intro Z hZ; simpa using heard_calls p b c ⟨e.1.toArray⟩ Z hZ hes
              have hH2 : Hid (∀ Z, Clk Z p2 b2 d → Calls Try.prog 14 #[.pointer (some ⟨p2, 0, none⟩), .string ⟨e.1.toArray⟩] Z fun e' Z' => e' = .returned (.int .i64 (heardV c e.1)) ∧ Below Z.heap.size Z Z') := by
                intro Z hZ
                have := heard_calls p2 b2 d ⟨e.1.toArray⟩ Z hZ hes
                rw [show heardV d (⟨e.1.toArray⟩ : ByteArray).data.toList = heardV c e.1 from by rw [heardV_eq, heardV_eq, HLL.out]] at this
                exact this
              have hH3 : Hid (∀ Z, Clk Z p b c → Calls Try.prog 15 #[.pointer (some ⟨p, 0, none⟩), .string ⟨e.1.toArray⟩] Z fun e' Z' => e' = .returned (.bool true) ∧ Below Z.heap.size Z Z') := by
                intro Z hZ
                have := activeF_calls p b c ⟨e.1.toArray⟩ Z hZ hokc hes
                rw [show activeV c (⟨e.1.toArray⟩ : ByteArray).data.toList = true from OI_active HOIC.out hmemc HRC.out] at this
                exact this
              have hH4 : Hid (∀ Z, Clk Z p2 b2 d → Calls Try.prog 15 #[.pointer (some ⟨p2, 0, none⟩), .string ⟨e.1.toArray⟩] Z fun e' Z' => e' = .returned (.bool true) ∧ Below Z.heap.size Z Z') := by
                intro Z hZ
                have := activeF_calls p2 b2 d ⟨e.1.toArray⟩ Z hZ hokd hes
                rw [show activeV d (⟨e.1.toArray⟩ : ByteArray).data.toList = true from OI_active HOID.out (by rw [HLL.out]; exact hmemc) (by rw [HLL.out]; exact HRC.out)] at this
                exact this
              have HKEY := Lib.hid hkey
              have HX := Lib.hid hx
              have HY := Lib.hid hy
              have i0 : (0 : Int) ≤ (k : Int) := Int.natCast_nonneg _
              have i1 : (k : Int) < (nl : Int) := by omega
              clear hkey he hmemc hge hka hal hlk hes hx hy
              generalize heardV c e.1 = hv at *
              generalize (⟨e.1.toArray⟩ : ByteArray) = sk at *
              go_wp2_with fail
              refine start_ (n := 42) (S := fun w' => w'.cell? ⟨gx, k, none⟩ = some (.string sk) ∧ w'.cell? ⟨gy, k, none⟩ = some (.string sk)) (ds := []) #[false, false, false, false, false, false, false, false, false, false, false, false, false, false, false, false, false, false, false, false, false, false, false, false, false, false, false, false, false, false, false, false, false, false, false, false, false, false, false, false, false, false] (by kernel_rfl) rfl rfl ⟨hcx, hcy⟩ (fun hHeld => ?_)
              refine pure_ (i := 0) (N := some 102) (v := ?_) (a' := ?_) #[true, false, false, false, false, false, false, false, false, false, false, false, false, false, false, false, false, false, false, false, false, false, false, false, false, false, false, false, false, false, false, false, false, false, false, false, false, false, false, false, false, false] rfl rfl (by kernel_rfl) (fun _ _ _ h => h) (Or.inl ⟨by rfl, ?_⟩) ?_ ?_
              rotate_left
              · intro w'
                go_simp
                with_reducible rfl
              rotate_left
              · simp only [Act.put, List.setIfInBounds_toArray, List.set_cons_zero, List.set_cons_succ, i64_w, i32_w]
                rfl
              refine pure_ (i := 1) (N := some 103) (v := ?_) (a' := ?_) #[true, true, false, false, false, false, false, false, false, false, false, false, false, false, false, false, false, false, false, false, false, false, false, false, false, false, false, false, false, false, false, false, false, false, false, false, false, false, false, false, false, false] rfl rfl (by kernel_rfl) (fun _ _ _ h => h) (Or.inl ⟨by rfl, ?_⟩) ?_ ?_
              rotate_left
              · intro w'
                go_simp
                with_reducible rfl
              rotate_left
              · simp only [Act.put, List.setIfInBounds_toArray, List.set_cons_zero, List.set_cons_succ, i64_w, i32_w]
                rfl
              refine pure_ (i := 2) (N := some 104) (v := ?_) (a' := ?_) #[true, true, true, false, false, false, false, false, false, false, false, false, false, false, false, false, false, false, false, false, false, false, false, false, false, false, false, false, false, false, false, false, false, false, false, false, false, false, false, false, false, false] rfl rfl (by kernel_rfl) (fun _ _ _ h => h) (Or.inl ⟨by rfl, ?_⟩) ?_ ?_
              rotate_left
              · intro w'
                go_simp
                with_reducible rfl
              rotate_left
              · simp only [Act.put, List.setIfInBounds_toArray, List.set_cons_zero, List.set_cons_succ, i64_w, i32_w]
                rfl
              refine pure_ (i := 4) (N := some 106) (v := ?_) (a' := ?_) #[true, true, true, false, true, false, false, false, false, false, false, false, false, false, false, false, false, false, false, false, false, false, false, false, false, false, false, false, false, false, false, false, false, false, false, false, false, false, false, false, false, false] rfl rfl (by kernel_rfl) (fun _ _ _ h => h) (Or.inl ⟨by rfl, ?_⟩) ?_ ?_
              rotate_left
              · intro w'
                go_simp
                with_reducible rfl
              rotate_left
              · simp only [Act.put, List.setIfInBounds_toArray, List.set_cons_zero, List.set_cons_succ, i64_w, i32_w]
                rfl
              refine pure_ (i := 5) (N := some 107) (v := ?_) (a' := ?_) #[true, true, true, false, true, true, false, false, false, false, false, false, false, false, false, false, false, false, false, false, false, false, false, false, false, false, false, false, false, false, false, false, false, false, false, false, false, false, false, false, false, false] rfl rfl (by kernel_rfl) (fun _ _ _ h => h) (Or.inl ⟨by rfl, ?_⟩) ?_ ?_
              rotate_left
              · intro w'
                go_simp
                with_reducible rfl
              rotate_left
              · simp only [Act.put, List.setIfInBounds_toArray, List.set_cons_zero, List.set_cons_succ, i64_w, i32_w]
                rfl
              refine pure_ (i := 6) (N := some 108) (v := ?_) (a' := ?_) #[true, true, true, false, true, true, true, false, false, false, false, false, false, false, false, false, false, false, false, false, false, false, false, false, false, false, false, false, false, false, false, false, false, false, false, false, false, false, false, false, false, false] rfl rfl (by kernel_rfl) (fun _ _ _ h => h) (Or.inl ⟨by rfl, ?_⟩) ?_ ?_
              rotate_left
              · intro w'
                go_simp
                with_reducible rfl
              rotate_left
              · simp only [Act.put, List.setIfInBounds_toArray, List.set_cons_zero, List.set_cons_succ, i64_w, i32_w]
                rfl
              refine take_ (i := 3) (N := some 105) (v := ?_) (a' := ?_) #[true, true, true, true, true, true, true, false, false, false, false, false, false, false, false, false, false, false, false, false, false, false, false, false, false, false, false, false, false, false, false, false, false, false, false, false, false, false, false, false, false, false] rfl rfl (by kernel_rfl) (fun _ _ _ h => h) (Or.inl ⟨by rfl, ?_⟩) hHeld ?_ ?_
              rotate_left
              · rintro w' ⟨s0, s1⟩
                go_simp
                with_reducible rfl
              rotate_left
              · simp only [Act.put, List.setIfInBounds_toArray, List.set_cons_zero, List.set_cons_succ, i64_w, i32_w]
                rfl
              refine take_ (i := 7) (N := some 109) (v := ?_) (a' := ?_) #[true, true, true, true, true, true, true, true, false, false, false, false, false, false, false, false, false, false, false, false, false, false, false, false, false, false, false, false, false, false, false, false, false, false, false, false, false, false, false, false, false, false] rfl rfl (by kernel_rfl) (fun _ _ _ h => h) (Or.inl ⟨by rfl, ?_⟩) hHeld ?_ ?_
              rotate_left
              · rintro w' ⟨s0, s1⟩
                go_simp
                with_reducible rfl
              rotate_left
              · simp only [Act.put, List.setIfInBounds_toArray, List.set_cons_zero, List.set_cons_succ, i64_w, i32_w]
                rfl
              refine pure_ (i := 8) (N := some 110) (v := ?_) (a' := ?_) #[true, true, true, true, true, true, true, true, true, false, false, false, false, false, false, false, false, false, false, false, false, false, false, false, false, false, false, false, false, false, false, false, false, false, false, false, false, false, false, false, false, false] rfl rfl (by kernel_rfl) (fun _ _ _ h => h) (Or.inl ⟨by rfl, ?_⟩) ?_ ?_
              rotate_left
              · intro w'
                go_simp
                with_reducible rfl
              rotate_left
              · simp only [Act.put, List.setIfInBounds_toArray, List.set_cons_zero, List.set_cons_succ, i64_w, i32_w]
                rfl
              refine pure_ (i := 9) (N := some 111) (v := ?_) (a' := ?_) #[true, true, true, true, true, true, true, true, true, true, false, false, false, false, false, false, false, false, false, false, false, false, false, false, false, false, false, false, false, false, false, false, false, false, false, false, false, false, false, false, false, false] rfl rfl (by kernel_rfl) (fun _ _ _ h => h) (Or.inl ⟨by rfl, ?_⟩) ?_ ?_
              rotate_left
              · intro w'
                go_simp
                with_reducible rfl
              rotate_left
              · simp only [Act.put, List.setIfInBounds_toArray, List.set_cons_zero, List.set_cons_succ, i64_w, i32_w]
                rfl
              refine pure_ (i := 10) (N := some 112) (v := ?_) (a' := ?_) #[true, true, true, true, true, true, true, true, true, true, true, false, false, false, false, false, false, false, false, false, false, false, false, false, false, false, false, false, false, false, false, false, false, false, false, false, false, false, false, false, false, false] rfl rfl (by kernel_rfl) (fun _ _ _ h => h) (Or.inl ⟨by rfl, ?_⟩) ?_ ?_
              rotate_left
              · intro w'
                go_simp
                with_reducible rfl
              rotate_left
              · simp only [Act.put, List.setIfInBounds_toArray, List.set_cons_zero, List.set_cons_succ, i64_w, i32_w]
                rfl
              refine pure_ (i := 11) (N := some 113) (v := ?_) (a' := ?_) #[true, true, true, true, true, true, true, true, true, true, true, true, false, false, false, false, false, false, false, false, false, false, false, false, false, false, false, false, false, false, false, false, false, false, false, false, false, false, false, false, false, false] rfl rfl (by kernel_rfl) (fun _ _ _ h => h) (Or.inl ⟨by rfl, ?_⟩) ?_ ?_
              rotate_left
              · intro w'
                go_simp
                with_reducible rfl
              rotate_left
              · simp only [Act.put, List.setIfInBounds_toArray, List.set_cons_zero, List.set_cons_succ, i64_w, i32_w]
                rfl
              refine pure_ (i := 12) (N := some 114) (v := ?_) (a' := ?_) #[true, true, true, true, true, true, true, true, true, true, true, true, true, false, false, false, false, false, false, false, false, false, false, false, false, false, false, false, false, false, false, false, false, false, false, false, false, false, false, false, false, false] rfl rfl (by kernel_rfl) (fun _ _ _ h => h) (Or.inl ⟨by rfl, ?_⟩) ?_ ?_
              rotate_left
              · intro w'
                go_simp
                with_reducible rfl
              rotate_left
              · simp only [Act.put, List.setIfInBounds_toArray, List.set_cons_zero, List.set_cons_succ, i64_w, i32_w]
                rfl
              refine pure_ (i := 13) (N := some 115) (v := ?_) (a' := ?_) #[true, true, true, true, true, true, true, true, true, true, true, true, true, true, false, false, false, false, false, false, false, false, false, false, false, false, false, false, false, false, false, false, false, false, false, false, false, false, false, false, false, false] rfl rfl (by kernel_rfl) (fun _ _ _ h => h) (Or.inl ⟨by rfl, ?_⟩) ?_ ?_
              rotate_left
              · intro w'
                go_simp
                with_reducible rfl
              rotate_left
              · simp only [Act.put, List.setIfInBounds_toArray, List.set_cons_zero, List.set_cons_succ, i64_w, i32_w]
                rfl
              refine pure_ (i := 16) (N := some 118) (v := ?_) (a' := ?_) #[true, true, true, true, true, true, true, true, true, true, true, true, true, true, false, false, true, false, false, false, false, false, false, false, false, false, false, false, false, false, false, false, false, false, false, false, false, false, false, false, false, false] rfl rfl (by kernel_rfl) (fun _ _ _ h => h) (Or.inl ⟨by rfl, ?_⟩) ?_ ?_
              rotate_left
              · intro w'
                go_simp
                with_reducible rfl
              rotate_left
              · simp only [Act.put, List.setIfInBounds_toArray, List.set_cons_zero, List.set_cons_succ, i64_w, i32_w]
                rfl
              refine pure_ (i := 17) (N := some 119) (v := ?_) (a' := ?_) #[true, true, true, true, true, true, true, true, true, true, true, true, true, true, false, false, true, true, false, false, false, false, false, false, false, false, false, false, false, false, false, false, false, false, false, false, false, false, false, false, false, false] rfl rfl (by kernel_rfl) (fun _ _ _ h => h) (Or.inl ⟨by rfl, ?_⟩) ?_ ?_
              rotate_left
              · intro w'
                go_simp
                with_reducible rfl
              rotate_left
              · simp only [Act.put, List.setIfInBounds_toArray, List.set_cons_zero, List.set_cons_succ, i64_w, i32_w]
                rfl
              refine pure_ (i := 18) (N := some 120) (v := ?_) (a' := ?_) #[true, true, true, true, true, true, true, true, true, true, true, true, true, true, false, false, true, true, true, false, false, false, false, false, false, false, false, false, false, false, false, false, false, false, false, false, false, false, false, false, false, false] rfl rfl (by kernel_rfl) (fun _ _ _ h => h) (Or.inl ⟨by rfl, ?_⟩) ?_ ?_
              rotate_left
              · intro w'
                go_simp
                with_reducible rfl
              rotate_left
              · simp only [Act.put, List.setIfInBounds_toArray, List.set_cons_zero, List.set_cons_succ, i64_w, i32_w]
                rfl
              refine pure_ (i := 19) (N := some 121) (v := ?_) (a' := ?_) #[true, true, true, true, true, true, true, true, true, true, true, true, true, true, false, false, true, true, true, true, false, false, false, false, false, false, false, false, false, false, false, false, false, false, false, false, false, false, false, false, false, false] rfl rfl (by kernel_rfl) (fun _ _ _ h => h) (Or.inl ⟨by rfl, ?_⟩) ?_ ?_
              rotate_left
              · intro w'
                go_simp
                with_reducible rfl
              rotate_left
              · simp only [Act.put, List.setIfInBounds_toArray, List.set_cons_zero, List.set_cons_succ, i64_w, i32_w]
                rfl
              refine take_ (i := 14) (N := some 116) (v := ?_) (a' := ?_) #[true, true, true, true, true, true, true, true, true, true, true, true, true, true, true, false, true, true, true, true, false, false, false, false, false, false, false, false, false, false, false, false, false, false, false, false, false, false, false, false, false, false] rfl rfl (by kernel_rfl) (fun _ _ _ h => h) (Or.inl ⟨by rfl, ?_⟩) hHeld ?_ ?_
              rotate_left
              · rintro w' ⟨s0, s1⟩
                go_simp
                with_reducible rfl
              rotate_left
              · simp only [Act.put, List.setIfInBounds_toArray, List.set_cons_zero, List.set_cons_succ, i64_w, i32_w]
                rfl
              refine take_ (i := 20) (N := some 122) (v := ?_) (a' := ?_) #[true, true, true, true, true, true, true, true, true, true, true, true, true, true, true, false, true, true, true, true, true, false, false, false, false, false, false, false, false, false, false, false, false, false, false, false, false, false, false, false, false, false] rfl rfl (by kernel_rfl) (fun _ _ _ h => h) (Or.inl ⟨by rfl, ?_⟩) hHeld ?_ ?_
              rotate_left
              · rintro w' ⟨s0, s1⟩
                go_simp
                with_reducible rfl
              rotate_left
              · simp only [Act.put, List.setIfInBounds_toArray, List.set_cons_zero, List.set_cons_succ, i64_w, i32_w]
                rfl
              refine one_ (i := 15) (N := some 117) #[true, true, true, true, true, true, true, true, true, true, true, true, true, true, true, true, true, true, true, true, true, false, false, false, false, false, false, false, false, false, false, false, false, false, false, false, false, false, false, false, false, false] rfl rfl (by kernel_rfl) (by decide) (fun K hK => ?_)
              refine goes_ Try.func14 (by kernel_rfl) rfl #[.pointer (some ⟨p, 0, none⟩), .string sk] (by rfl) rfl rfl (by simp only [List.map_toArray, List.map_cons, List.map_nil]; rfl) ?_
              with_reducible refine (hH1.out _ (hc.of_blocks (w' := wr.drew) rfl rfl)).mono ?_
              rintro e w21 ⟨rfl, hb1⟩
              refine ⟨_, rfl, ?_⟩
              have hB1 : Below wr.heap.size wr w21 := ⟨hb1.os, hb1.tape, hb1.output, hb1.size, hb1.block⟩
              have gx1 : w21.cell? ⟨gx, k, none⟩ = some (.string sk) := (hB1.cell (p := ⟨gx, k, none⟩) hgx).trans hcx
              have gy1 : w21.cell? ⟨gy, k, none⟩ = some (.string sk) := (hB1.cell (p := ⟨gy, k, none⟩) hgy).trans hcy
              refine hK.out _ _ ⟨gx1, gy1⟩ (fun hHeld => ?_)
              clear hK K
              refine norm_ (a' := ?_) ?_ ?_
              rotate_left
              · show Act.put _ (some 117) _ = _
                simp only [Act.put, List.setIfInBounds_toArray, List.set_cons_zero, List.set_cons_succ, i64_w, i32_w]
                rfl
              refine one_ (i := 21) (N := some 123) #[true, true, true, true, true, true, true, true, true, true, true, true, true, true, true, true, true, true, true, true, true, true, false, false, false, false, false, false, false, false, false, false, false, false, false, false, false, false, false, false, false, false] rfl rfl (by kernel_rfl) (by decide) (fun K hK => ?_)
              refine goes_ Try.func14 (by kernel_rfl) rfl #[.pointer (some ⟨p2, 0, none⟩), .string sk] (by rfl) rfl rfl (by simp only [List.map_toArray, List.map_cons, List.map_nil]; rfl) ?_
              with_reducible refine (hH2.out _ (hd.below hB1)).mono ?_
              rintro e w22 ⟨rfl, hb2⟩
              refine ⟨_, rfl, ?_⟩
              have hB2 : Below wr.heap.size wr w22 := hB1.trans (hb2.mono hB1.size)
              have gx2 : w22.cell? ⟨gx, k, none⟩ = some (.string sk) := (hB2.cell (p := ⟨gx, k, none⟩) hgx).trans hcx
              have gy2 : w22.cell? ⟨gy, k, none⟩ = some (.string sk) := (hB2.cell (p := ⟨gy, k, none⟩) hgy).trans hcy
              refine hK.out _ _ ⟨gx2, gy2⟩ (fun hHeld => ?_)
              clear hK K
              refine norm_ (a' := ?_) ?_ ?_
              rotate_left
              · show Act.put _ (some 123) _ = _
                simp only [Act.put, List.setIfInBounds_toArray, List.set_cons_zero, List.set_cons_succ, i64_w, i32_w]
                rfl
              refine pure_ (i := 22) (N := some 124) (v := ?_) (a' := ?_) #[true, true, true, true, true, true, true, true, true, true, true, true, true, true, true, true, true, true, true, true, true, true, true, false, false, false, false, false, false, false, false, false, false, false, false, false, false, false, false, false, false, false] rfl rfl (by kernel_rfl) (fun _ _ _ h => h) (Or.inl ⟨by rfl, ?_⟩) ?_ ?_
              rotate_left
              · intro w'
                go_simp
                with_reducible rfl
              rotate_left
              · simp only [Act.put, List.setIfInBounds_toArray, List.set_cons_zero, List.set_cons_succ, i64_w, i32_w]
                rfl
              refine pure_ (i := 23) (N := some 125) (v := ?_) (a' := ?_) #[true, true, true, true, true, true, true, true, true, true, true, true, true, true, true, true, true, true, true, true, true, true, true, true, false, false, false, false, false, false, false, false, false, false, false, false, false, false, false, false, false, false] rfl rfl (by kernel_rfl) (fun _ _ _ h => h) (Or.inl ⟨by rfl, ?_⟩) ?_ ?_
              rotate_left
              · intro w'
                go_simp
                with_reducible rfl
              rotate_left
              · simp only [Act.put, List.setIfInBounds_toArray, List.set_cons_zero, List.set_cons_succ, i64_w, i32_w]
                rfl
              refine pure_ (i := 24) (N := some 126) (v := ?_) (a' := ?_) #[true, true, true, true, true, true, true, true, true, true, true, true, true, true, true, true, true, true, true, true, true, true, true, true, true, false, false, false, false, false, false, false, false, false, false, false, false, false, false, false, false, false] rfl rfl (by kernel_rfl) (fun _ _ _ h => h) (Or.inl ⟨by rfl, ?_⟩) ?_ ?_
              rotate_left
              · intro w'
                go_simp
                with_reducible rfl
              rotate_left
              · simp only [Act.put, List.setIfInBounds_toArray, List.set_cons_zero, List.set_cons_succ, i64_w, i32_w]
                rfl
              refine pure_ (i := 25) (N := some 127) (v := ?_) (a' := ?_) #[true, true, true, true, true, true, true, true, true, true, true, true, true, true, true, true, true, true, true, true, true, true, true, true, true, true, false, false, false, false, false, false, false, false, false, false, false, false, false, false, false, false] rfl rfl (by kernel_rfl) (fun _ _ _ h => h) (Or.inl ⟨by rfl, ?_⟩) ?_ ?_
              rotate_left
              · intro w'
                go_simp
                with_reducible rfl
              rotate_left
              · simp only [Act.put, List.setIfInBounds_toArray, List.set_cons_zero, List.set_cons_succ, i64_w, i32_w]
                rfl
              refine pure_ (i := 26) (N := some 128) (v := ?_) (a' := ?_) #[true, true, true, true, true, true, true, true, true, true, true, true, true, true, true, true, true, true, true, true, true, true, true, true, true, true, true, false, false, false, false, false, false, false, false, false, false, false, false, false, false, false] rfl rfl (by kernel_rfl) (fun _ _ _ h => h) (Or.inl ⟨by rfl, ?_⟩) ?_ ?_
              rotate_left
              · intro w'
                go_simp
                with_reducible rfl
              rotate_left
              · simp only [Act.put, List.setIfInBounds_toArray, List.set_cons_zero, List.set_cons_succ, i64_w, i32_w]
                rfl
              refine pure_ (i := 27) (N := some 129) (v := ?_) (a' := ?_) #[true, true, true, true, true, true, true, true, true, true, true, true, true, true, true, true, true, true, true, true, true, true, true, true, true, true, true, true, false, false, false, false, false, false, false, false, false, false, false, false, false, false] rfl rfl (by kernel_rfl) (fun _ _ _ h => h) (Or.inl ⟨by rfl, ?_⟩) ?_ ?_
              rotate_left
              · intro w'
                go_simp
                with_reducible rfl
              rotate_left
              · simp only [Act.put, List.setIfInBounds_toArray, List.set_cons_zero, List.set_cons_succ, i64_w, i32_w]
                rfl
              refine pure_ (i := 28) (N := some 130) (v := ?_) (a' := ?_) #[true, true, true, true, true, true, true, true, true, true, true, true, true, true, true, true, true, true, true, true, true, true, true, true, true, true, true, true, true, false, false, false, false, false, false, false, false, false, false, false, false, false] rfl rfl (by kernel_rfl) (fun _ _ _ h => h) (Or.inl ⟨by rfl, ?_⟩) ?_ ?_
              rotate_left
              · intro w'
                go_simp
                with_reducible rfl
              rotate_left
              · simp only [Act.put, List.setIfInBounds_toArray, List.set_cons_zero, List.set_cons_succ, i64_w, i32_w]
                rfl
              refine take_ (i := 29) (N := some 131) (v := ?_) (a' := ?_) #[true, true, true, true, true, true, true, true, true, true, true, true, true, true, true, true, true, true, true, true, true, true, true, true, true, true, true, true, true, true, false, false, false, false, false, false, false, false, false, false, false, false] rfl rfl (by kernel_rfl) (fun _ _ _ h => h) (Or.inl ⟨by rfl, ?_⟩) hHeld ?_ ?_
              rotate_left
              · rintro w' ⟨s0, s1⟩
                go_simp
                with_reducible rfl
              rotate_left
              · simp only [Act.put, List.setIfInBounds_toArray, List.set_cons_zero, List.set_cons_succ, i64_w, i32_w]
                rfl
              refine one_ (i := 30) (N := some 132) #[true, true, true, true, true, true, true, true, true, true, true, true, true, true, true, true, true, true, true, true, true, true, true, true, true, true, true, true, true, true, true, false, false, false, false, false, false, false, false, false, false, false] rfl rfl (by kernel_rfl) (by decide) (fun K hK => ?_)
              refine goes_ Try.func15 (by kernel_rfl) rfl #[.pointer (some ⟨p, 0, none⟩), .string sk] (by rfl) rfl rfl (by simp only [List.map_toArray, List.map_cons, List.map_nil]; rfl) ?_
              with_reducible refine (hH3.out _ (hc.below hB2)).mono ?_
              rintro e w23 ⟨rfl, hb3⟩
              refine ⟨_, rfl, ?_⟩
              have hB3 : Below wr.heap.size wr w23 := hB2.trans (hb3.mono hB2.size)
              have gx3 : w23.cell? ⟨gx, k, none⟩ = some (.string sk) := (hB3.cell (p := ⟨gx, k, none⟩) hgx).trans hcx
              have gy3 : w23.cell? ⟨gy, k, none⟩ = some (.string sk) := (hB3.cell (p := ⟨gy, k, none⟩) hgy).trans hcy
              refine hK.out _ _ ⟨gx3, gy3⟩ (fun hHeld => ?_)
              clear hK K
              refine norm_ (a' := ?_) ?_ ?_
              rotate_left
              · show Act.put _ (some 132) _ = _
                simp only [Act.put, List.setIfInBounds_toArray, List.set_cons_zero, List.set_cons_succ, i64_w, i32_w]
                rfl
              refine pure_ (i := 31) (N := some 133) (v := ?_) (a' := ?_) #[true, true, true, true, true, true, true, true, true, true, true, true, true, true, true, true, true, true, true, true, true, true, true, true, true, true, true, true, true, true, true, true, false, false, false, false, false, false, false, false, false, false] rfl rfl (by kernel_rfl) (fun _ _ _ h => h) (Or.inl ⟨by rfl, ?_⟩) ?_ ?_
              rotate_left
              · intro w'
                go_simp
                with_reducible rfl
              rotate_left
              · simp only [Act.put, List.setIfInBounds_toArray, List.set_cons_zero, List.set_cons_succ, i64_w, i32_w]
                rfl
              refine pure_ (i := 32) (N := some 134) (v := ?_) (a' := ?_) #[true, true, true, true, true, true, true, true, true, true, true, true, true, true, true, true, true, true, true, true, true, true, true, true, true, true, true, true, true, true, true, true, true, false, false, false, false, false, false, false, false, false] rfl rfl (by kernel_rfl) (fun _ _ _ h => h) (Or.inl ⟨by rfl, ?_⟩) ?_ ?_
              rotate_left
              · intro w'
                go_simp
                with_reducible rfl
              rotate_left
              · simp only [Act.put, List.setIfInBounds_toArray, List.set_cons_zero, List.set_cons_succ, i64_w, i32_w]
                rfl
              refine pure_ (i := 33) (N := some 135) (v := ?_) (a' := ?_) #[true, true, true, true, true, true, true, true, true, true, true, true, true, true, true, true, true, true, true, true, true, true, true, true, true, true, true, true, true, true, true, true, true, true, false, false, false, false, false, false, false, false] rfl rfl (by kernel_rfl) (fun _ _ _ h => h) (Or.inl ⟨by rfl, ?_⟩) ?_ ?_
              rotate_left
              · intro w'
                go_simp
                with_reducible rfl
              rotate_left
              · simp only [Act.put, List.setIfInBounds_toArray, List.set_cons_zero, List.set_cons_succ, i64_w, i32_w]
                rfl
              refine pure_ (i := 34) (N := some 136) (v := ?_) (a' := ?_) #[true, true, true, true, true, true, true, true, true, true, true, true, true, true, true, true, true, true, true, true, true, true, true, true, true, true, true, true, true, true, true, true, true, true, true, false, false, false, false, false, false, false] rfl rfl (by kernel_rfl) (fun _ _ _ h => h) (Or.inl ⟨by rfl, ?_⟩) ?_ ?_
              rotate_left
              · intro w'
                go_simp
                with_reducible rfl
              rotate_left
              · simp only [Act.put, List.setIfInBounds_toArray, List.set_cons_zero, List.set_cons_succ, i64_w, i32_w]
                rfl
              refine pure_ (i := 35) (N := some 137) (v := ?_) (a' := ?_) #[true, true, true, true, true, true, true, true, true, true, true, true, true, true, true, true, true, true, true, true, true, true, true, true, true, true, true, true, true, true, true, true, true, true, true, true, false, false, false, false, false, false] rfl rfl (by kernel_rfl) (fun _ _ _ h => h) (Or.inl ⟨by rfl, ?_⟩) ?_ ?_
              rotate_left
              · intro w'
                go_simp
                with_reducible rfl
              rotate_left
              · simp only [Act.put, List.setIfInBounds_toArray, List.set_cons_zero, List.set_cons_succ, i64_w, i32_w]
                rfl
              refine pure_ (i := 36) (N := some 138) (v := ?_) (a' := ?_) #[true, true, true, true, true, true, true, true, true, true, true, true, true, true, true, true, true, true, true, true, true, true, true, true, true, true, true, true, true, true, true, true, true, true, true, true, true, false, false, false, false, false] rfl rfl (by kernel_rfl) (fun _ _ _ h => h) (Or.inl ⟨by rfl, ?_⟩) ?_ ?_
              rotate_left
              · intro w'
                go_simp
                with_reducible rfl
              rotate_left
              · simp only [Act.put, List.setIfInBounds_toArray, List.set_cons_zero, List.set_cons_succ, i64_w, i32_w]
                rfl
              refine pure_ (i := 37) (N := some 139) (v := ?_) (a' := ?_) #[true, true, true, true, true, true, true, true, true, true, true, true, true, true, true, true, true, true, true, true, true, true, true, true, true, true, true, true, true, true, true, true, true, true, true, true, true, true, false, false, false, false] rfl rfl (by kernel_rfl) (fun _ _ _ h => h) (Or.inl ⟨by rfl, ?_⟩) ?_ ?_
              rotate_left
              · intro w'
                go_simp
                with_reducible rfl
              rotate_left
              · simp only [Act.put, List.setIfInBounds_toArray, List.set_cons_zero, List.set_cons_succ, i64_w, i32_w]
                rfl
              refine take_ (i := 38) (N := some 140) (v := ?_) (a' := ?_) #[true, true, true, true, true, true, true, true, true, true, true, true, true, true, true, true, true, true, true, true, true, true, true, true, true, true, true, true, true, true, true, true, true, true, true, true, true, true, true, false, false, false] rfl rfl (by kernel_rfl) (fun _ _ _ h => h) (Or.inl ⟨by rfl, ?_⟩) hHeld ?_ ?_
              rotate_left
              · rintro w' ⟨s0, s1⟩
                go_simp
                with_reducible rfl
              rotate_left
              · simp only [Act.put, List.setIfInBounds_toArray, List.set_cons_zero, List.set_cons_succ, i64_w, i32_w]
                rfl
              refine one_ (i := 39) (N := some 141) #[true, true, true, true, true, true, true, true, true, true, true, true, true, true, true, true, true, true, true, true, true, true, true, true, true, true, true, true, true, true, true, true, true, true, true, true, true, true, true, true, false, false] rfl rfl (by kernel_rfl) (by decide) (fun K hK => ?_)
              refine goes_ Try.func15 (by kernel_rfl) rfl #[.pointer (some ⟨p2, 0, none⟩), .string sk] (by rfl) rfl rfl (by simp only [List.map_toArray, List.map_cons, List.map_nil]; rfl) ?_
              with_reducible refine (hH4.out _ (hd.below hB3)).mono ?_
              rintro e w24 ⟨rfl, hb4⟩
              refine ⟨_, rfl, ?_⟩
              have hB4 : Below wr.heap.size wr w24 := hB3.trans (hb4.mono hB3.size)
              have gx4 : w24.cell? ⟨gx, k, none⟩ = some (.string sk) := (hB4.cell (p := ⟨gx, k, none⟩) hgx).trans hcx
              have gy4 : w24.cell? ⟨gy, k, none⟩ = some (.string sk) := (hB4.cell (p := ⟨gy, k, none⟩) hgy).trans hcy
              refine hK.out _ _ ⟨gx4, gy4⟩ (fun hHeld => ?_)
              clear hK K
              refine norm_ (a' := ?_) ?_ ?_
              rotate_left
              · show Act.put _ (some 141) _ = _
                simp only [Act.put, List.setIfInBounds_toArray, List.set_cons_zero, List.set_cons_succ, i64_w, i32_w]
                rfl
              refine pure_ (i := 40) (N := some 142) (v := ?_) (a' := ?_) #[true, true, true, true, true, true, true, true, true, true, true, true, true, true, true, true, true, true, true, true, true, true, true, true, true, true, true, true, true, true, true, true, true, true, true, true, true, true, true, true, true, false] rfl rfl (by kernel_rfl) (fun _ _ _ h => h) (Or.inl ⟨by rfl, ?_⟩) ?_ ?_
              rotate_left
              · intro w'
                go_simp
                with_reducible rfl
              rotate_left
              · simp only [Act.put, List.setIfInBounds_toArray, List.set_cons_zero, List.set_cons_succ, i64_w, i32_w]
                rfl
              refine pure_ (i := 41) (N := some 143) (v := ?_) (a' := ?_) #[true, true, true, true, true, true, true, true, true, true, true, true, true, true, true, true, true, true, true, true, true, true, true, true, true, true, true, true, true, true, true, true, true, true, true, true, true, true, true, true, true, true] rfl rfl (by kernel_rfl) (fun _ _ _ h => h) (Or.inl ⟨by rfl, ?_⟩) ?_ ?_
              rotate_left
              · intro w'
                go_simp
                with_reducible rfl
              rotate_left
              · simp only [Act.put, List.setIfInBounds_toArray, List.set_cons_zero, List.set_cons_succ, i64_w, i32_w]
                rfl
              refine done_ (by kernel_rfl) ?_
              go_wp2_with fail
              go_roundw
              case rel => exact ⟨k + 1, by omega, by go_num, hc.below hB4, hd.below hB4, HX.out.below hB4, HY.out.below hB4, hbr.trans (hB4.mono hbr.size)⟩
              case measure => simp [intOf]; omega
            · go_wp2
              go_ret
              exact ⟨rfl, hbr⟩

theorem order_calls_ (slack : Int) (A : Option Addr) (n cap : Nat) (l : List ActT) (turn : Int) (w : World) (_ : (Lit.int .i64 slack).wf = true) (h : Acts w A l) (hl : l.length = n) (hn : n ≤ 9223372036854775807) (hcap : n ≤ cap ∧ cap ≤ 9223372036854775807) (_ : (Lit.int .i64 turn).wf = true) :
    Calls Try.prog 6 #[.int .i64 slack, .slice A n cap, .int .i64 turn] w fun e w' => e = .returned (.bool true) ∧ Below w.heap.size w w' := by
  cases hf : fewB l with
  | false => exact order_e0 slack turn A n cap l w h hl hn hf
  | true =>
    by_cases q0 : turn < 0
    · exact order_e1 slack turn A n cap l w h hl hn hf (decide_eq_true q0)
    · by_cases q1 : (n : Int) < turn
      · exact order_e2 slack turn A n cap l w h hl hn hf (decide_eq_false q0) (decide_eq_true q1)
      · obtain ⟨t, rfl⟩ := Int.eq_ofNat_of_zero_le (Int.not_lt.1 q0)
        exact order_main slack t A n cap l w h hl hcap.1 hcap.2 hf (by omega)


end Go.Proofs.Ytomnmgmehagjfaa.Ck
