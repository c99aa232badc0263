/-
  The clock's Encode: the walk.
  No condition: lemmas.
-/
import Derived.Test.YtomnmgmehagjfaaGreatDoorEnc
import Derived.Lib.ConvBytes
import Derived.Laws.BytesArg
namespace Go.Proofs.YtomnmgmehagjfaaGreatDoor.Ck
open Go Go.RowKit Go.Maps Go.Shelf Go.Lib Go.Proofs.YtomnmgmehagjfaaGreatDoorW.PrintLast
set_option linter.unusedVariables false
set_option linter.unusedSimpArgs false

/-- The bytes bs lie in block g from its head on. -/
def BytesAt (w : World) (g n : Nat) (bs : List UInt8) : Prop := bs.length = n ∧ g < w.heap.size ∧ ∀ i, i < n → w.cell? ⟨g, i, none⟩ = some (.int .u8 (bs.getD i 0).toNat)
theorem BytesAt.below {w w' : World} {g n : Nat} {bs : List UInt8} (h : BytesAt w g n bs) (hb : Below w.heap.size w w') : BytesAt w' g n bs :=
  ⟨h.1, Nat.lt_of_lt_of_le h.2.1 hb.size, fun i hi => (hb.cell (p := ⟨g, i, none⟩) h.2.1).trans (h.2.2 i hi)⟩
theorem BytesAt.str {w : World} {g n cap : Nat} {bs : List UInt8} (h : BytesAt w g n bs) : (convert 22 9 (.slice (some ⟨g, 0, none⟩) n cap)).run Tryz.prog w = .ok (.string ⟨bs.toArray⟩) w := by
  have h1 := run_convert_bytes_arg (P := Tryz.prog) w 22 5 Tryz.underlying22 Tryz.underlying5 g 0 n cap (bs.map fun b => (b.toNat : Int)) (by simp [h.1]) (fun i hi => by
    have h2 := h.2.2 i hi
    have hil : i < bs.length := by rw [h.1]; exact hi
    rw [Nat.zero_add, h2]
    simp [List.getD_eq_getElem?_getD, List.getElem?_map, List.getElem?_eq_getElem hil]) 9 Tryz.underlying9
  have e : strOfNums (bs.map fun b => (b.toNat : Int)) = ⟨bs.toArray⟩ := by
    apply ba_ext
    rw [strOfNums_data, List.map_map]
    simp [Function.comp_def]
  rw [h1, e]
theorem bytesAt_new (w : World) (s : ByteArray) : BytesAt (bytesWorld w 5 s) w.heap.size s.size s.data.toList := by
  refine ⟨by simp, by rw [bytesWorld_size]; omega, fun i hi => bytesWorld_cell w 5 s i hi⟩
theorem below_bytes {B : Nat} {a w : World} (h : Below B a w) (hB : B ≤ w.heap.size) (s : ByteArray) : Below B a (bytesWorld w 5 s) :=
  h.trans ⟨rfl, rfl, rfl, by rw [bytesWorld_size]; omega, fun i hi => bytesWorld_at_old w 5 s i (by omega)⟩

theorem ints_new (w : World) (e : TypeId) (l : List Int) (hw : ∀ x ∈ l, (Lit.int .i64 x).wf = true) : Ints .i64 (w.alloc (.cells (l.map (Value.int .i64)).toArray e)) (some ⟨w.heap.size, 0, none⟩) l := by
  intro i x hx
  refine ⟨w.heap.size, 0, rfl, by simp, hw x (List.mem_of_getElem? hx), ?_⟩
  have := World.news_of_block (w := w.alloc (.cells (l.map (Value.int .i64)).toArray e)) (heap_alloc_new w _) i (.int .i64 x) (by simp [hx])
  rwa [add_none] at this

theorem ints_new4 (w : World) (e : TypeId) (a b c d : Int) (hw : ∀ x ∈ [a, b, c, d], (Lit.int .i64 x).wf = true) : Ints .i64 (w.alloc (.cells #[.int .i64 a, .int .i64 b, .int .i64 c, .int .i64 d] e)) (some ⟨w.heap.size, 0, none⟩) [a, b, c, d] := by
  have := ints_new w e [a, b, c, d] hw
  simpa only [List.map_cons, List.map_nil] using this
theorem ints_new2 (w : World) (e : TypeId) (a b : Int) (hw : ∀ x ∈ [a, b], (Lit.int .i64 x).wf = true) : Ints .i64 (w.alloc (.cells #[.int .i64 a, .int .i64 b] e)) (some ⟨w.heap.size, 0, none⟩) [a, b] := by
  have := ints_new w e [a, b] hw
  simpa only [List.map_cons, List.map_nil] using this
theorem Ints.drew {k : IntKind} {w : World} {A : Option Addr} {l : List Int} (h : Ints k w A l) : Ints k w.drew A l := h

def EL (w : World) (nl p b : Nat) (c : Ck) (X : Option Addr) (v3 v27 : Value) (wr : World) : Prop :=
  ∃ (k : Nat) (s : ByteArray), k ≤ nl ∧ v27 = .int .i64 k ∧ v3 = .string s ∧ s.data.toList = entsB (lineB [99, 108, 111, 99, 107] [c.slack, c.idle, c.now, c.mark]) (c.L.take k) ∧ s.size ≤ 2000 + 2000 * k ∧ Clk wr p b c ∧ Strs wr X (c.L.map (·.1)) ∧ Below w.heap.size w wr

theorem wf_of {x : Int} (h0 : -1 ≤ x) (h1 : x ≤ 1099511627776) : (Lit.int .i64 x).wf = true := Go.WalkArith.wf_i64 ⟨by omega, by omega⟩

set_option maxHeartbeats 8000000 in
set_option maxRecDepth 100000 in
theorem encode_calls (p b : Nat) (c : Ck) (w : World) (h : Clk w p b c) (hok : Ok c) (hl : c.L.length ≤ 1000) (hnm : ∀ e ∈ c.L, e.1.length ≤ 1000) (hT : Tab w) :
    Calls Tryz.prog 8 #[.pointer (some ⟨p, 0, none⟩)] w fun e w' => ∃ g n cap, e = .returned (.slice (some ⟨g, 0, none⟩) n cap) ∧ BytesAt w' g n (encB c) ∧ Below w.heap.size w w' := by
  have HNM := Lib.hid hnm
  have HT := Lib.hid hT
  have HKD := Lib.hid h.map.kd
  have h0 := h.c0
  have h1 := h.c1
  have h2 := h.c2
  have h3 := h.c3
  have s0 := hok.s0
  have s1 := hok.s1
  have hwf4 : Hid (∀ x ∈ [c.slack, c.idle, c.now, c.mark], (Lit.int .i64 x).wf = true) := by
    intro x hx
    simp only [List.mem_cons, List.not_mem_nil, or_false] at hx
    have := hok.s0; have := hok.s1; have := hok.i0; have := hok.i1; have := hok.n0; have := hok.n1; have := hok.m0; have := hok.m1
    rcases hx with rfl | rfl | rfl | rfl <;> exact wf_of (by omega) (by omega)
  have h4l : Hid ((lineB [99, 108, 111, 99, 107] [c.slack, c.idle, c.now, c.mark]).length ≤ 2000) := by
    have := numsB_length [99, 108, 111, 99, 107] [c.slack, c.idle, c.now, c.mark] (fun v hv => bounds_i64 (hwf4.out v hv))
    simp only [List.length_cons, List.length_nil] at this
    show (lineB _ _).length ≤ _
    unfold lineB
    simp only [List.length_append, List.length_cons, List.length_nil]
    omega
  have hsw : (⟨#[99, 108, 111, 99, 107]⟩ : ByteArray).size ≤ 100000 := by show 5 ≤ _; omega
  have HSW := Lib.hid hsw
  clear hnm hT s0 s1 hsw
  go_enter Tryz.func8, Tryz.ntmps8
  go_wp2_with fail
  refine start_ (n := 19) (S := fun w' => w'.cell? ⟨p, 0, none⟩ = some (.int .i64 c.slack) ∧ w'.cell? ⟨p, 1, none⟩ = some (.int .i64 c.idle) ∧ w'.cell? ⟨p, 2, none⟩ = some (.int .i64 c.now) ∧ w'.cell? ⟨p, 3, none⟩ = some (.int .i64 c.mark)) (ds := []) #[false, false, false, false, false, false, false, false, false, false, false, false, false, false, false, false, false, false, false] (by kernel_rfl) rfl rfl ⟨h0, h1, h2, h3⟩ (fun hHeld => ?_)
  refine pure_ (i := 0) (N := some 6) (v := ?_) (a' := ?_) #[true, false, false, false, false, false, false, false, false, false, false, false, false, false, false, false, false, false, false] rfl rfl (by kernel_rfl) (fun _ _ _ h => h) (Or.inl ⟨by rfl, ?_⟩) ?_ ?_
  rotate_left
  · intro w'
    go_simp
    with_reducible rfl
  rotate_left
  · simp only [Act.put, List.setIfInBounds_toArray, List.set_cons_zero, List.set_cons_succ, i64_w, i32_w]
    rfl
  refine pure_ (i := 1) (N := some 7) (v := ?_) (a' := ?_) #[true, true, false, false, false, false, false, false, false, false, false, false, false, false, false, false, false, false, false] rfl rfl (by kernel_rfl) (fun _ _ _ h => h) (Or.inl ⟨by rfl, ?_⟩) ?_ ?_
  rotate_left
  · intro w'
    go_simp
    with_reducible rfl
  rotate_left
  · simp only [Act.put, List.setIfInBounds_toArray, List.set_cons_zero, List.set_cons_succ, i64_w, i32_w]
    rfl
  refine pure_ (i := 2) (N := some 8) (v := ?_) (a' := ?_) #[true, true, true, false, false, false, false, false, false, false, false, false, false, false, false, false, false, false, false] rfl rfl (by kernel_rfl) (fun _ _ _ h => h) (Or.inl ⟨by rfl, ?_⟩) ?_ ?_
  rotate_left
  · intro w'
    go_simp
    with_reducible rfl
  rotate_left
  · simp only [Act.put, List.setIfInBounds_toArray, List.set_cons_zero, List.set_cons_succ, i64_w, i32_w]
    rfl
  refine pure_ (i := 4) (N := some 10) (v := ?_) (a' := ?_) #[true, true, true, false, true, false, false, false, false, false, false, false, false, false, false, false, false, false, false] rfl rfl (by kernel_rfl) (fun _ _ _ h => h) (Or.inl ⟨by rfl, ?_⟩) ?_ ?_
  rotate_left
  · intro w'
    go_simp
    with_reducible rfl
  rotate_left
  · simp only [Act.put, List.setIfInBounds_toArray, List.set_cons_zero, List.set_cons_succ, i64_w, i32_w]
    rfl
  refine pure_ (i := 5) (N := some 11) (v := ?_) (a' := ?_) #[true, true, true, false, true, true, false, false, false, false, false, false, false, false, false, false, false, false, false] rfl rfl (by kernel_rfl) (fun _ _ _ h => h) (Or.inl ⟨by rfl, ?_⟩) ?_ ?_
  rotate_left
  · intro w'
    go_simp
    with_reducible rfl
  rotate_left
  · simp only [Act.put, List.setIfInBounds_toArray, List.set_cons_zero, List.set_cons_succ, i64_w, i32_w]
    rfl
  refine pure_ (i := 6) (N := some 12) (v := ?_) (a' := ?_) #[true, true, true, false, true, true, true, false, false, false, false, false, false, false, false, false, false, false, false] rfl rfl (by kernel_rfl) (fun _ _ _ h => h) (Or.inl ⟨by rfl, ?_⟩) ?_ ?_
  rotate_left
  · intro w'
    go_simp
    with_reducible rfl
  rotate_left
  · simp only [Act.put, List.setIfInBounds_toArray, List.set_cons_zero, List.set_cons_succ, i64_w, i32_w]
    rfl
  refine pure_ (i := 8) (N := some 14) (v := ?_) (a' := ?_) #[true, true, true, false, true, true, true, false, true, false, false, false, false, false, false, false, false, false, false] rfl rfl (by kernel_rfl) (fun _ _ _ h => h) (Or.inl ⟨by rfl, ?_⟩) ?_ ?_
  rotate_left
  · intro w'
    go_simp
    with_reducible rfl
  rotate_left
  · simp only [Act.put, List.setIfInBounds_toArray, List.set_cons_zero, List.set_cons_succ, i64_w, i32_w]
    rfl
  refine pure_ (i := 9) (N := some 15) (v := ?_) (a' := ?_) #[true, true, true, false, true, true, true, false, true, true, false, false, false, false, false, false, false, false, false] rfl rfl (by kernel_rfl) (fun _ _ _ h => h) (Or.inl ⟨by rfl, ?_⟩) ?_ ?_
  rotate_left
  · intro w'
    go_simp
    with_reducible rfl
  rotate_left
  · simp only [Act.put, List.setIfInBounds_toArray, List.set_cons_zero, List.set_cons_succ, i64_w, i32_w]
    rfl
  refine pure_ (i := 10) (N := some 16) (v := ?_) (a' := ?_) #[true, true, true, false, true, true, true, false, true, true, true, false, false, false, false, false, false, false, false] rfl rfl (by kernel_rfl) (fun _ _ _ h => h) (Or.inl ⟨by rfl, ?_⟩) ?_ ?_
  rotate_left
  · intro w'
    go_simp
    with_reducible rfl
  rotate_left
  · simp only [Act.put, List.setIfInBounds_toArray, List.set_cons_zero, List.set_cons_succ, i64_w, i32_w]
    rfl
  refine pure_ (i := 12) (N := some 18) (v := ?_) (a' := ?_) #[true, true, true, false, true, true, true, false, true, true, true, false, true, false, false, false, false, false, false] rfl rfl (by kernel_rfl) (fun _ _ _ h => h) (Or.inl ⟨by rfl, ?_⟩) ?_ ?_
  rotate_left
  · intro w'
    go_simp
    with_reducible rfl
  rotate_left
  · simp only [Act.put, List.setIfInBounds_toArray, List.set_cons_zero, List.set_cons_succ, i64_w, i32_w]
    rfl
  refine pure_ (i := 13) (N := some 19) (v := ?_) (a' := ?_) #[true, true, true, false, true, true, true, false, true, true, true, false, true, true, false, false, false, false, false] rfl rfl (by kernel_rfl) (fun _ _ _ h => h) (Or.inl ⟨by rfl, ?_⟩) ?_ ?_
  rotate_left
  · intro w'
    go_simp
    with_reducible rfl
  rotate_left
  · simp only [Act.put, List.setIfInBounds_toArray, List.set_cons_zero, List.set_cons_succ, i64_w, i32_w]
    rfl
  refine pure_ (i := 14) (N := some 20) (v := ?_) (a' := ?_) #[true, true, true, false, true, true, true, false, true, true, true, false, true, true, true, false, false, false, false] rfl rfl (by kernel_rfl) (fun _ _ _ h => h) (Or.inl ⟨by rfl, ?_⟩) ?_ ?_
  rotate_left
  · intro w'
    go_simp
    with_reducible rfl
  rotate_left
  · simp only [Act.put, List.setIfInBounds_toArray, List.set_cons_zero, List.set_cons_succ, i64_w, i32_w]
    rfl
  refine take_ (i := 3) (N := some 9) (v := ?_) (a' := ?_) #[true, true, true, true, true, true, true, false, true, true, true, false, true, true, true, false, false, false, false] rfl rfl (by kernel_rfl) (fun _ _ _ h => h) (Or.inl ⟨by rfl, ?_⟩) hHeld ?_ ?_
  rotate_left
  · rintro w' ⟨s0, s1, s2, s3⟩
    go_simp
    with_reducible rfl
  rotate_left
  · simp only [Act.put, List.setIfInBounds_toArray, List.set_cons_zero, List.set_cons_succ, i64_w, i32_w]
    rfl
  refine take_ (i := 7) (N := some 13) (v := ?_) (a' := ?_) #[true, true, true, true, true, true, true, true, true, true, true, false, true, true, true, false, false, false, false] rfl rfl (by kernel_rfl) (fun _ _ _ h => h) (Or.inl ⟨by rfl, ?_⟩) hHeld ?_ ?_
  rotate_left
  · rintro w' ⟨s0, s1, s2, s3⟩
    go_simp
    with_reducible rfl
  rotate_left
  · simp only [Act.put, List.setIfInBounds_toArray, List.set_cons_zero, List.set_cons_succ, i64_w, i32_w]
    rfl
  refine take_ (i := 11) (N := some 17) (v := ?_) (a' := ?_) #[true, true, true, true, true, true, true, true, true, true, true, true, true, true, true, false, false, false, false] rfl rfl (by kernel_rfl) (fun _ _ _ h => h) (Or.inl ⟨by rfl, ?_⟩) hHeld ?_ ?_
  rotate_left
  · rintro w' ⟨s0, s1, s2, s3⟩
    go_simp
    with_reducible rfl
  rotate_left
  · simp only [Act.put, List.setIfInBounds_toArray, List.set_cons_zero, List.set_cons_succ, i64_w, i32_w]
    rfl
  refine take_ (i := 15) (N := some 21) (v := ?_) (a' := ?_) #[true, true, true, true, true, true, true, true, true, true, true, true, true, true, true, true, false, false, false] rfl rfl (by kernel_rfl) (fun _ _ _ h => h) (Or.inl ⟨by rfl, ?_⟩) hHeld ?_ ?_
  rotate_left
  · rintro w' ⟨s0, s1, s2, s3⟩
    go_simp
    with_reducible rfl
  rotate_left
  · simp only [Act.put, List.setIfInBounds_toArray, List.set_cons_zero, List.set_cons_succ, i64_w, i32_w]
    rfl
  refine one_ (i := 16) (N := some 22) #[true, true, true, true, true, true, true, true, true, true, true, true, true, true, true, true, true, false, false] rfl rfl (by kernel_rfl) (by decide) (fun K hK => ?_)
  refine value_ (w1 := ?_) (v := ?_) (by rfl) rfl ?_ ?_
  rotate_left 2
  · go_simp
    constructor
    · rfl
    · rfl
  have hbA : Below w.heap.size w (w.alloc (.cells #[.int .i64 c.slack, .int .i64 c.idle, .int .i64 c.now, .int .i64 c.mark] 3)).drew := (((Below.refl _ w).alloc (Nat.le_refl _) _).drew)
  have hcA : Clk (w.alloc (.cells #[.int .i64 c.slack, .int .i64 c.idle, .int .i64 c.now, .int .i64 c.mark] 3)).drew p b c := h.below hbA
  refine hK.out _ _ ⟨hcA.c0, hcA.c1, hcA.c2, hcA.c3⟩ (fun hHeld => ?_)
  clear hK K
  refine norm_ (a' := ?_) ?_ ?_
  rotate_left
  · show Act.put _ (some 22) _ = _
    simp only [Act.put, List.setIfInBounds_toArray, List.set_cons_zero, List.set_cons_succ, i64_w, i32_w]
    rfl
  refine one_ (i := 17) (N := some 23) #[true, true, true, true, true, true, true, true, true, true, true, true, true, true, true, true, true, true, false] rfl rfl (by kernel_rfl) (by decide) (fun K hK => ?_)
  refine goes_ Tryz.func26 (by kernel_rfl) rfl #[.string ⟨#[99, 108, 111, 99, 107]⟩, .slice (some ⟨w.heap.size, 0, none⟩) 4 4] (by rfl) rfl rfl (by simp only [List.map_toArray, List.map_cons, List.map_nil]; rfl) ?_
  with_reducible refine (line_calls ⟨#[99, 108, 111, 99, 107]⟩ (some ⟨w.heap.size, 0, none⟩) 4 4 [c.slack, c.idle, c.now, c.mark] _ HSW.out (by exact Ints.drew (ints_new4 w 3 c.slack c.idle c.now c.mark hwf4.out)) rfl (by omega) (by exact HT.out.below hbA)).mono ?_
  rintro e w1 ⟨rfl, hb1⟩
  refine ⟨_, rfl, ?_⟩
  have hb01 : Below w.heap.size w w1 := hbA.trans (hb1.mono hbA.size)
  have hc1 : Clk w1 p b c := h.below hb01
  refine hK.out _ _ ⟨hc1.c0, hc1.c1, hc1.c2, hc1.c3⟩ (fun hHeld => ?_)
  clear hK K
  refine norm_ (a' := ?_) ?_ ?_
  rotate_left
  · show Act.put _ (some 23) _ = _
    simp only [Act.put, List.setIfInBounds_toArray, List.set_cons_zero, List.set_cons_succ, i64_w, i32_w]
    rfl
  refine pure_ (i := 18) (N := some 3) (v := ?_) (a' := ?_) #[true, true, true, true, true, true, true, true, true, true, true, true, true, true, true, true, true, true, true] rfl rfl (by kernel_rfl) (fun _ _ _ h => h) (Or.inl ⟨by rfl, ?_⟩) ?_ ?_
  rotate_left
  · intro w'
    go_simp
    with_reducible rfl
  rotate_left
  · simp only [Act.put, List.setIfInBounds_toArray, List.set_cons_zero, List.set_cons_succ, i64_w, i32_w]
    rfl
  refine done_ (by kernel_rfl) ?_
  clear h0 h1 h2 h3 hbA hcA hHeld
  have hb1' : Hid (Below w.heap.size w w1) := hb01
  go_wp2_with fail
  refine (sources_calls p b c _ hc1 (by omega)).mono ?_
  rintro e w8 ⟨vx, rfl, hrowx, hb8⟩
  have hc8 := hc1.below hb8
  have hb08 : Below w.heap.size w w8 := hb1'.out.trans (hb8.mono hb1'.out.size)
  obtain ⟨X, cx, rfl, hx8⟩ := Strs.of_own (l := c.L.map (·.1)) (n := c.L.length) (by simp) (by rw [List.map_map]; exact hrowx)
  clear hb1 hb01 hc1 hrowx hb8
  generalize hnl : c.L.length = nl at *
  have HNL := Lib.hid hnl
  clear hnl
  have hnlb : (nl : Int) ≤ 1000 := by omega
  have hfld0 : ∀ (x y : Value) (Z : World), (Instr.field 49 (.agg #[x, y]) 0).run Tryz.prog Z = .ok x Z := fun _ _ _ => by kernel_rfl
  have hfld1 : ∀ (x y : Value) (Z : World), (Instr.field 49 (.agg #[x, y]) 1).run Tryz.prog Z = .ok y Z := fun _ _ _ => by kernel_rfl
  go_wp2_with fail
  go_loopw [3, 27] (fun v3 v27 wr => EL w nl p b c X v3 v27 wr) (fun _ i _ => nl - (intOf i).toNat)
  case atStart => exact ⟨0, _, Nat.zero_le _, rfl, rfl, by simp [entsB], by have := h4l.out; rw [ba_size]; simp; omega, hc8, hx8, hb08⟩
  case round =>
    clear hc8 hx8 hb08
    obtain ⟨k, s, hk, rfl, rfl, hs, hsz, hc, hx, hbr⟩ := hrel
    by_cases hlt : k < nl
    · have hlk : k < c.L.length := by rw [HNL.out]; exact hlt
      obtain ⟨e, he⟩ : ∃ e, c.L[k]? = some e := ⟨_, List.getElem?_eq_getElem hlk⟩
      have hkey : (c.L.map (·.1))[k]? = some e.1 := by rw [List.getElem?_map, he]; rfl
      obtain ⟨gx, rfl, hgx, hcx⟩ := hx k e.1 hkey
      have hmemc : e ∈ c.L := List.mem_of_getElem? he
      have hge : get c.L e.1 = some e.2 := mem_get HKD.out hmemc
      have htk : c.L.take (k + 1) = c.L.take k ++ [e] := by rw [List.take_add_one, he]; rfl
      have hel : e.1.length ≤ 1000 := HNM.out e hmemc
      have hes : (⟨e.1.toArray⟩ : ByteArray).size ≤ maxLen := by
        have : (⟨e.1.toArray⟩ : ByteArray).size = e.1.length := rfl
        rw [this]; unfold maxLen; omega
      have hes2 : (⟨e.1.toArray⟩ : ByteArray).size ≤ 100000 := by
        have : (⟨e.1.toArray⟩ : ByteArray).size = e.1.length := rfl
        rw [this]; omega
      have hev := hok.l e hmemc
      have hn1 := hok.n1
      have hwf2 : Hid (∀ x ∈ [e.2.1, e.2.2], (Lit.int .i64 x).wf = true) := by
        intro x hx
        simp only [List.mem_cons, List.not_mem_nil, or_false] at hx
        rcases hx with rfl | rfl <;> exact wf_of (by omega) (by omega)
      have hll : (lineB (⟨e.1.toArray⟩ : ByteArray).data.toList [e.2.1, e.2.2]).length ≤ 2000 := by
        have := numsB_length e.1 [e.2.1, e.2.2] (fun v hv => bounds_i64 (hwf2.out v hv))
        simp only [List.length_cons, List.length_nil] at this
        show (lineB e.1 _).length ≤ _
        unfold lineB
        simp only [List.length_append, List.length_cons, List.length_nil]
        omega
      have hlook : Hid (∀ Z, Clk Z p b c → (Instr.lookup 45 (.map (some b)) (.string ⟨e.1.toArray⟩) false).run Tryz.prog Z = .ok (.agg #[.int .i64 e.2.1, .int .i64 e.2.2]) Z) := by
        intro Z hZ
        have := hZ.map.look hes
        rw [at0_eq, at1_eq, show (⟨e.1.toArray⟩ : ByteArray).data.toList = e.1 from rfl, hge] at this
        exact this
      have HES := Lib.hid hes2
      have HTK := Lib.hid htk
      have HSS := Lib.hid hs
      have HX := Lib.hid hx
      have hsk : Hid ((⟨e.1.toArray⟩ : ByteArray).data.toList = e.1) := rfl
      have i0 : (0 : Int) ≤ (k : Int) := Int.natCast_nonneg _
      have i1 : (k : Int) < (nl : Int) := by omega
      have c4 := hc.c4
      have l0 := hlook.out wr.drew (hc.of_blocks rfl rfl)
      clear hlk he hkey hmemc hge htk hel hes hes2 hev hs hx
      generalize hskq : (⟨e.1.toArray⟩ : ByteArray) = sk at *
      clear hskq
      have hcat : ¬ 9223372036854775807 < s.size + (lineB sk.data.toList [e.2.1, e.2.2]).length := by omega
      go_wp2_with fail
      refine start_ (n := 20) (S := fun w' => w'.cell? ⟨p, 4, none⟩ = some (.map (some b)) ∧ (Instr.lookup 45 (.map (some b)) (.string sk) false).run Tryz.prog w' = .ok (.agg #[.int .i64 e.2.1, .int .i64 e.2.2]) w') (ds := []) #[false, false, false, false, false, false, false, false, false, false, false, false, false, false, false, false, false, false, false, false] (by kernel_rfl) rfl rfl ⟨c4, l0⟩ (fun hHeld => ?_)
      refine pure_ (i := 0) (N := some 31) (v := ?_) (a' := ?_) #[true, false, false, false, false, false, false, false, false, false, false, false, false, false, false, false, false, false, false, false] rfl rfl (by kernel_rfl) (fun _ _ _ h => h) (Or.inl ⟨by rfl, ?_⟩) ?_ ?_
      rotate_left
      · intro w'
        go_simp
        with_reducible rfl
      rotate_left
      · simp only [Act.put, List.setIfInBounds_toArray, List.set_cons_zero, List.set_cons_succ, i64_w, i32_w]
        rfl
      refine pure_ (i := 1) (N := some 32) (v := ?_) (a' := ?_) #[true, true, false, false, false, false, false, false, false, false, false, false, false, false, false, false, false, false, false, false] rfl rfl (by kernel_rfl) (fun _ _ _ h => h) (Or.inl ⟨by rfl, ?_⟩) ?_ ?_
      rotate_left
      · intro w'
        go_simp
        with_reducible rfl
      rotate_left
      · simp only [Act.put, List.setIfInBounds_toArray, List.set_cons_zero, List.set_cons_succ, i64_w, i32_w]
        rfl
      refine pure_ (i := 2) (N := some 33) (v := ?_) (a' := ?_) #[true, true, true, false, false, false, false, false, false, false, false, false, false, false, false, false, false, false, false, false] rfl rfl (by kernel_rfl) (fun _ _ _ h => h) (Or.inl ⟨by rfl, ?_⟩) ?_ ?_
      rotate_left
      · intro w'
        go_simp
        with_reducible rfl
      rotate_left
      · simp only [Act.put, List.setIfInBounds_toArray, List.set_cons_zero, List.set_cons_succ, i64_w, i32_w]
        rfl
      refine pure_ (i := 3) (N := some 34) (v := ?_) (a' := ?_) #[true, true, true, true, false, false, false, false, false, false, false, false, false, false, false, false, false, false, false, false] rfl rfl (by kernel_rfl) (fun _ _ _ h => h) (Or.inl ⟨by rfl, ?_⟩) ?_ ?_
      rotate_left
      · intro w'
        go_simp
        with_reducible rfl
      rotate_left
      · simp only [Act.put, List.setIfInBounds_toArray, List.set_cons_zero, List.set_cons_succ, i64_w, i32_w]
        rfl
      refine pure_ (i := 4) (N := some 35) (v := ?_) (a' := ?_) #[true, true, true, true, true, false, false, false, false, false, false, false, false, false, false, false, false, false, false, false] rfl rfl (by kernel_rfl) (fun _ _ _ h => h) (Or.inl ⟨by rfl, ?_⟩) ?_ ?_
      rotate_left
      · intro w'
        go_simp
        with_reducible rfl
      rotate_left
      · simp only [Act.put, List.setIfInBounds_toArray, List.set_cons_zero, List.set_cons_succ, i64_w, i32_w]
        rfl
      refine pure_ (i := 6) (N := some 37) (v := ?_) (a' := ?_) #[true, true, true, true, true, false, true, false, false, false, false, false, false, false, false, false, false, false, false, false] rfl rfl (by kernel_rfl) (fun _ _ _ h => h) (Or.inl ⟨by rfl, ?_⟩) ?_ ?_
      rotate_left
      · intro w'
        go_simp
        with_reducible rfl
      rotate_left
      · simp only [Act.put, List.setIfInBounds_toArray, List.set_cons_zero, List.set_cons_succ, i64_w, i32_w]
        rfl
      refine pure_ (i := 9) (N := some 40) (v := ?_) (a' := ?_) #[true, true, true, true, true, false, true, false, false, true, false, false, false, false, false, false, false, false, false, false] rfl rfl (by kernel_rfl) (fun _ _ _ h => h) (Or.inl ⟨by rfl, ?_⟩) ?_ ?_
      rotate_left
      · intro w'
        go_simp
        with_reducible rfl
      rotate_left
      · simp only [Act.put, List.setIfInBounds_toArray, List.set_cons_zero, List.set_cons_succ, i64_w, i32_w]
        rfl
      refine pure_ (i := 10) (N := some 41) (v := ?_) (a' := ?_) #[true, true, true, true, true, false, true, false, false, true, true, false, false, false, false, false, false, false, false, false] rfl rfl (by kernel_rfl) (fun _ _ _ h => h) (Or.inl ⟨by rfl, ?_⟩) ?_ ?_
      rotate_left
      · intro w'
        go_simp
        with_reducible rfl
      rotate_left
      · simp only [Act.put, List.setIfInBounds_toArray, List.set_cons_zero, List.set_cons_succ, i64_w, i32_w]
        rfl
      refine pure_ (i := 11) (N := some 42) (v := ?_) (a' := ?_) #[true, true, true, true, true, false, true, false, false, true, true, true, false, false, false, false, false, false, false, false] rfl rfl (by kernel_rfl) (fun _ _ _ h => h) (Or.inl ⟨by rfl, ?_⟩) ?_ ?_
      rotate_left
      · intro w'
        go_simp
        with_reducible rfl
      rotate_left
      · simp only [Act.put, List.setIfInBounds_toArray, List.set_cons_zero, List.set_cons_succ, i64_w, i32_w]
        rfl
      refine pure_ (i := 13) (N := some 44) (v := ?_) (a' := ?_) #[true, true, true, true, true, false, true, false, false, true, true, true, false, true, false, false, false, false, false, false] rfl rfl (by kernel_rfl) (fun _ _ _ h => h) (Or.inl ⟨by rfl, ?_⟩) ?_ ?_
      rotate_left
      · intro w'
        go_simp
        with_reducible rfl
      rotate_left
      · simp only [Act.put, List.setIfInBounds_toArray, List.set_cons_zero, List.set_cons_succ, i64_w, i32_w]
        rfl
      refine take_ (i := 5) (N := some 36) (v := ?_) (a' := ?_) #[true, true, true, true, true, true, true, false, false, true, true, true, false, true, false, false, false, false, false, false] rfl rfl (by kernel_rfl) (fun _ _ _ h => h) (Or.inl ⟨by rfl, ?_⟩) hHeld ?_ ?_
      rotate_left
      · rintro w' ⟨s0, s1⟩
        go_simp
        with_reducible rfl
      rotate_left
      · simp only [Act.put, List.setIfInBounds_toArray, List.set_cons_zero, List.set_cons_succ, i64_w, i32_w]
        rfl
      refine take_ (i := 7) (N := some 38) (v := ?_) (a' := ?_) #[true, true, true, true, true, true, true, true, false, true, true, true, false, true, false, false, false, false, false, false] rfl rfl (by kernel_rfl) (fun _ _ _ h => h) (Or.inl ⟨by rfl, ?_⟩) hHeld ?_ ?_
      rotate_left
      · rintro w' ⟨s0, s1⟩
        go_simp
        with_reducible rfl
      rotate_left
      · simp only [Act.put, List.setIfInBounds_toArray, List.set_cons_zero, List.set_cons_succ, i64_w, i32_w]
        rfl
      refine pure_ (i := 8) (N := some 39) (v := ?_) (a' := ?_) #[true, true, true, true, true, true, true, true, true, true, true, true, false, true, false, false, false, false, false, false] rfl rfl (by kernel_rfl) (fun _ _ _ h => h) (Or.inl ⟨by rfl, ?_⟩) ?_ ?_
      rotate_left
      · intro w'
        go_simp
        with_reducible rfl
      rotate_left
      · simp only [Act.put, List.setIfInBounds_toArray, List.set_cons_zero, List.set_cons_succ, i64_w, i32_w]
        rfl
      refine take_ (i := 12) (N := some 43) (v := ?_) (a' := ?_) #[true, true, true, true, true, true, true, true, true, true, true, true, true, true, false, false, false, false, false, false] rfl rfl (by kernel_rfl) (fun _ _ _ h => h) (Or.inl ⟨by rfl, ?_⟩) hHeld ?_ ?_
      rotate_left
      · rintro w' ⟨s0, s1⟩
        go_simp
        with_reducible rfl
      rotate_left
      · simp only [Act.put, List.setIfInBounds_toArray, List.set_cons_zero, List.set_cons_succ, i64_w, i32_w]
        rfl
      refine take_ (i := 14) (N := some 45) (v := ?_) (a' := ?_) #[true, true, true, true, true, true, true, true, true, true, true, true, true, true, true, false, false, false, false, false] rfl rfl (by kernel_rfl) (fun _ _ _ h => h) (Or.inl ⟨by rfl, ?_⟩) hHeld ?_ ?_
      rotate_left
      · rintro w' ⟨s0, s1⟩
        go_simp
        with_reducible rfl
      rotate_left
      · simp only [Act.put, List.setIfInBounds_toArray, List.set_cons_zero, List.set_cons_succ, i64_w, i32_w]
        rfl
      refine pure_ (i := 15) (N := some 46) (v := ?_) (a' := ?_) #[true, true, true, true, true, true, true, true, true, true, true, true, true, true, true, true, false, false, false, false] rfl rfl (by kernel_rfl) (fun _ _ _ h => h) (Or.inl ⟨by rfl, ?_⟩) ?_ ?_
      rotate_left
      · intro w'
        go_simp
        with_reducible rfl
      rotate_left
      · simp only [Act.put, List.setIfInBounds_toArray, List.set_cons_zero, List.set_cons_succ, i64_w, i32_w]
        rfl
      refine one_ (i := 16) (N := some 47) #[true, true, true, true, true, true, true, true, true, true, true, true, true, true, true, true, true, false, false, false] rfl rfl (by kernel_rfl) (by decide) (fun K hK => ?_)
      refine value_ (w1 := ?_) (v := ?_) (by rfl) rfl ?_ ?_
      rotate_left 2
      · go_simp
        constructor
        · rfl
        · rfl
      have hbA : Below wr.heap.size wr (wr.alloc (.cells #[.int .i64 e.2.1, .int .i64 e.2.2] 3)).drew := (((Below.refl _ wr).alloc (Nat.le_refl _) _).drew)
      have hcA : Clk (wr.alloc (.cells #[.int .i64 e.2.1, .int .i64 e.2.2] 3)).drew p b c := hc.below hbA
      refine hK.out _ _ ⟨hcA.c4, (hlook.out _ hcA)⟩ (fun hHeld => ?_)
      clear hK K
      refine norm_ (a' := ?_) ?_ ?_
      rotate_left
      · show Act.put _ (some 47) _ = _
        simp only [Act.put, List.setIfInBounds_toArray, List.set_cons_zero, List.set_cons_succ, i64_w, i32_w]
        rfl
      refine one_ (i := 17) (N := some 48) #[true, true, true, true, true, true, true, true, true, true, true, true, true, true, true, true, true, true, false, false] rfl rfl (by kernel_rfl) (by decide) (fun K hK => ?_)
      refine goes_ Tryz.func26 (by kernel_rfl) rfl #[.string sk, .slice (some ⟨wr.heap.size, 0, none⟩) 2 2] (by rfl) rfl rfl (by simp only [List.map_toArray, List.map_cons, List.map_nil]; rfl) ?_
      with_reducible refine (line_calls sk (some ⟨wr.heap.size, 0, none⟩) 2 2 [e.2.1, e.2.2] _ HES.out (by exact Ints.drew (ints_new2 wr 3 e.2.1 e.2.2 hwf2.out)) rfl (by omega) (by exact (HT.out.below hbr).below hbA)).mono ?_
      rintro e' w1 ⟨rfl, hb1⟩
      refine ⟨_, rfl, ?_⟩
      have hb01 : Below wr.heap.size wr w1 := hbA.trans (hb1.mono hbA.size)
      have hc1 : Clk w1 p b c := hc.below hb01
      refine hK.out _ _ ⟨hc1.c4, (hlook.out _ hc1)⟩ (fun hHeld => ?_)
      clear hK K
      refine norm_ (a' := ?_) ?_ ?_
      rotate_left
      · show Act.put _ (some 48) _ = _
        simp only [Act.put, List.setIfInBounds_toArray, List.set_cons_zero, List.set_cons_succ, i64_w, i32_w]
        rfl
      refine pure_ (i := 18) (N := some 49) (v := ?_) (a' := ?_) #[true, true, true, true, true, true, true, true, true, true, true, true, true, true, true, true, true, true, true, false] rfl rfl (by kernel_rfl) (fun _ _ _ h => h) (Or.inl ⟨by rfl, ?_⟩) ?_ ?_
      rotate_left
      · intro w'
        go_simp
        with_reducible rfl
      rotate_left
      · simp only [Act.put, List.setIfInBounds_toArray, List.set_cons_zero, List.set_cons_succ, i64_w, i32_w]
        rfl
      refine pure_ (i := 19) (N := some 3) (v := ?_) (a' := ?_) #[true, true, true, true, true, true, true, true, true, true, true, true, true, true, true, true, true, true, true, true] rfl rfl (by kernel_rfl) (fun _ _ _ h => h) (Or.inl ⟨by rfl, ?_⟩) ?_ ?_
      rotate_left
      · intro w'
        go_simp
        with_reducible rfl
      rotate_left
      · simp only [Act.put, List.setIfInBounds_toArray, List.set_cons_zero, List.set_cons_succ, i64_w, i32_w]
        rfl
      refine done_ (by kernel_rfl) ?_
      go_wp2_with fail
      go_roundw
      case rel =>
        refine ⟨k + 1, _, by omega, by go_num, rfl, ?_, ?_, hc1, HX.out.below hb01, hbr.trans (hb01.mono hbr.size)⟩
        · rw [ba_append, HSS.out, HTK.out, entsB_snoc]
          simp only [hsk.out]
        · rw [ba_size, ba_append, List.length_append]
          have e3 : s.data.toList.length = s.size := by simp
          rw [e3]
          simp only
          omega
      case measure => simp [intOf]; omega
    · have hkn : k = nl := by omega
      have HS : Hid (s.data.toList = encB c) := by
        have h1 := hs
        rw [hkn, ← HNL.out, List.take_length] at h1
        exact h1
      clear hs hkn
      have hcv := Go.Lib.run_convert_string_bytes (P := Tryz.prog) wr 9 22 5 s Tryz.underlying9 Tryz.underlying22 Tryz.underlying5
      go_wp2_with fail
      go_ret
      refine ⟨_, _, _, rfl, ?_, below_bytes hbr hbr.size s⟩
      rw [← HS.out]
      exact bytesAt_new wr s

end Go.Proofs.YtomnmgmehagjfaaGreatDoor.Ck
