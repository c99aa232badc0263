/-
  The clock's Decode.
  Condition: the text is short, and its lines tell at most 1000 sources.
-/
import Derived.Test.YtomnmgmehagjfaaGreatDoorNext
import Derived.Test.YtomnmgmehagjfaaGreatDoorFineB
import Derived.Test.YtomnmgmehagjfaaGreatDoorEncode
import Derived.Test.YtomnmgmehagjfaaGreatDoorWLast
namespace Go.Proofs.YtomnmgmehagjfaaGreatDoor.Ck
open Go Go.RowKit Go.Maps Go.Shelf Go.Lib Go.Proofs.YtomnmgmehagjfaaGreatDoorW.PrintLast
set_option linter.unusedVariables false
set_option linter.unusedSimpArgs false

theorem decL_append (u v : List (List UInt8)) : ∀ L, decL (u ++ v) L = (decL u L).bind (decL v ·) := by
  induction u with
  | nil => intro L; rfl
  | cons s r ih =>
    intro L
    simp only [List.cons_append, decL]
    split
    · exact ih _
    · rfl
theorem decL_one (s : List UInt8) (L : List Ent) {w : List UInt8} {a n : Int} (h : nextOf 2 s = some (w, [a, n])) : decL [s] L = some (put L w (a, n)) := by simp only [decL, h]
theorem decL_bad {s : List UInt8} {L : List Ent} {u v : List (List UInt8)} (h : nextOf 2 s = none) (hu : decL u [] = some L) : decL (u ++ s :: v) [] = none := by
  rw [decL_append, hu]
  simp only [Option.bind_some, decL, h]

theorem list_at {α : Type} {l : List α} {i : Nat} {x : α} (h : l[i]? = some x) : l.take i ++ x :: l.drop (i + 1) = l := by
  obtain ⟨h5, h6⟩ := List.getElem?_eq_some_iff.1 h
  have := List.take_append_drop i l
  rw [List.drop_eq_getElem_cons h5, h6] at this
  exact this

theorem fine_is (p b : Nat) (c : Ck) (x : Bool) (h : fineB c = x) (w : World) (hc : Clk w p b c) : Calls Tryz.prog 15 #[.pointer (some ⟨p, 0, none⟩)] w fun e w' => e = .returned (.bool x) ∧ Below w.heap.size w w' :=
  (fine_calls p b c w hc).mono (by rintro e w' ⟨rfl, hb⟩; rw [h]; exact ⟨rfl, hb⟩)

/-- What Decode hands back. -/
def DecPost (s : List UInt8) (w : World) (e : Ending) (w' : World) : Prop := Below w.heap.size w w' ∧
  ((∃ c p b, decB s = some c ∧ e = .returned (.tuple #[.pointer (some ⟨p, 0, none⟩), .int .i64 0]) ∧ w.heap.size ≤ p ∧ w.heap.size ≤ b ∧ Clk w' p b c) ∨
   (decB s = none ∧ e = .returned (.tuple #[.pointer none, .int .i64 2])))

def DL (w : World) (m : Nat) (cs : Array Value) (rl : List (List UInt8)) (p b : Nat) (a0 a1 a2 a3 : Int) (wr : World) : Prop :=
  ∃ (k : Nat) (L : List Ent), 1 ≤ k ∧ k ≤ rl.length + 1 ∧ wr.heap[w.heap.size + 1 + 1]? = some (.cells #[.int .i64 k] 3 (0, 0)) ∧ wr.heap[w.heap.size]? = some (.cells cs 9 (0, 0)) ∧
    wr.heap[w.heap.size + 1]? = some (.cells #[.slice (some ⟨w.heap.size, 0, none⟩) m m] 36 (0, 0)) ∧ Clk wr p b ⟨a0, a1, a2, a3, L⟩ ∧ decL (rl.take (k - 1)) [] = some L ∧ Below w.heap.size w wr
def atW (w wr : World) : Nat := match wr.cell? ⟨w.heap.size + 1 + 1, 0, none⟩ with | some (.int _ k) => k.toNat | _ => 0

theorem lib_fr {w X Y : World} {ab : Nat} (hL : LibOk w) (hb : Below w.heap.size w X) (hab : w.heap.size ≤ ab) (hf : Fr (· = ab) X Y) : LibOk Y :=
  hL.below (hb.trans (hf.below hb.size (fun k hk => by subst hk; exact hab)))

set_option maxHeartbeats 8000000 in
set_option maxRecDepth 100000 in
theorem decode_calls (A : Option Addr) (n cap : Nat) (s : ByteArray) (w : World) (hL : LibOk w) (hs : s.size ≤ 90000)
    (hcv : ∀ X, Below w.heap.size w X → (convert 22 9 (.slice A n cap)).run Tryz.prog X = .ok (.string s) X)
    (hK : ∀ r L, decL r [] = some L → r = (parts 10 s.data.toList).tail.dropLast → L.length ≤ 1000) :
    Calls Tryz.prog 5 #[.slice A n cap] w (DecPost s.data.toList w) := by
  have hcv0 := hcv w (Below.refl _ _)
  obtain ⟨ps, hps⟩ : ∃ ps, splitB ⟨#[10]⟩ 0 (countB s ⟨#[10]⟩) s = ps := ⟨_, rfl⟩
  have hpd : ps.map (·.data.toList) = parts 10 s.data.toList := by
    rw [← hps, splitB_data, ← split_parts]; rfl
  have hcl : countB s ⟨#[10]⟩ + 1 = ps.length := by rw [← hps, splitB_all _ (by decide) 0 _ s rfl]
  obtain ⟨p0, pr, rfl⟩ : ∃ p0 pr, ps = p0 :: pr := List.exists_cons_of_ne_nil (by rintro rfl; simp at hcl)
  obtain ⟨m, hm⟩ : ∃ m, pr.length + 1 = m := ⟨_, rfl⟩
  have hsplit : Calls Tryz.prog 12 #[.string s, .string ⟨#[10]⟩] w fun e w' => e = .returned (.slice (some ⟨w.heap.size, 0, none⟩) m m) ∧ w' = w.alloc (.cells ((p0 :: pr).map Value.string).toArray 9) := by
    have h1 := Tryz_Split1 s 10 w (by omega)
    rw [hcl, hps] at h1
    simp only [List.length_cons, hm] at h1
    exact h1
  obtain ⟨cs, hcs⟩ : ∃ cs, ((p0 :: pr).map Value.string).toArray = cs := ⟨_, rfl⟩
  rw [hcs] at hsplit
  have HCS := Lib.hid hcs
  have HM := Lib.hid hm
  have HSP := Lib.hid hsplit
  have HPD := Lib.hid hpd
  have HL := Lib.hid hL
  have HCV := Lib.hid hcv
  have HK := Lib.hid hK
  have hms : m ≤ s.size + 1 := by
    have h1 := parts_length_le 10 s.data.toList
    rw [← hpd] at h1
    simp only [List.length_map, List.length_cons] at h1
    have : s.data.toList.length = s.size := by simp
    omega
  have hm1 : 1 ≤ m := by omega
  have hall : ∀ (i : Nat) (x : ByteArray), (p0 :: pr)[i]? = some x → x.size ≤ 90000 := by
    intro i x hx
    have h1 := parts_sum 10 s.data.toList
    rw [← hpd] at h1
    have h2 := sumLen_mem (ws := (p0 :: pr).map (·.data.toList)) (x := x.data.toList) (List.mem_map.2 ⟨x, List.mem_of_getElem? hx, rfl⟩)
    have : x.data.toList.length = x.size := by simp
    have : s.data.toList.length = s.size := by simp
    omega
  have HALL := Lib.hid hall
  have hcsi : ∀ (i : Nat) (x : ByteArray), (p0 :: pr)[i]? = some x → cs[i]? = some (.string x) := by
    intro i x hx
    rw [← hcs]
    rw [List.getElem?_toArray, List.getElem?_map, hx]; rfl
  have HCI := Lib.hid hcsi
  clear hcs hm hsplit hpd hcl hps hL hcv hK hall hcsi
  go_enter Tryz.func5, Tryz.ntmps5
  go_wp2_with (first
    | (go_at_call 12; refine (HSP.out).mono ?_; rintro e w1 ⟨rfl, rfl⟩; refine Hid.out ?_)
    | fail)
  refine Lib.hid ?_
  go_wp2_with fail
  obtain ⟨W, hW⟩ : ∃ W, W = ((w.alloc (.cells cs 9)).alloc (.cells #[.slice (some ⟨w.heap.size, 0, none⟩) m m] 36)).alloc (.cells #[.int .i64 0] 3) := ⟨_, rfl⟩
  try rw [← hW]
  have hWs : W.heap.size = w.heap.size + 3 := by rw [hW]; simp
  have hbW : Below w.heap.size w W := by rw [hW]; exact (((Below.refl _ _).alloc (Nat.le_refl _) _).alloc (by simp) _).alloc (by simp; omega) _
  have hg : W.heap[w.heap.size]? = some (.cells cs 9 (0, 0)) := by
    rw [hW, Below.heap_alloc _ _ _ (by simp; omega), Below.heap_alloc _ _ _ (by simp)]; exact heap_alloc_new _ _
  have hlb : W.heap[w.heap.size + 1]? = some (.cells #[.slice (some ⟨w.heap.size, 0, none⟩) m m] 36 (0, 0)) := by
    rw [hW, Below.heap_alloc _ _ _ (by simp)]
    have := heap_alloc_new (w.alloc (.cells cs 9)) (.cells #[.slice (some ⟨w.heap.size, 0, none⟩) m m] 36)
    simpa using this
  have hab : W.heap[w.heap.size + 1 + 1]? = some (.cells #[.int .i64 ((0 : Nat) : Int)] 3 (0, 0)) := by
    rw [hW]
    have := heap_alloc_new ((w.alloc (.cells cs 9)).alloc (.cells #[.slice (some ⟨w.heap.size, 0, none⟩) m m] 36)) (.cells #[.int .i64 0] 3)
    simpa using this
  have h0c : W.cell? ⟨w.heap.size, 0, none⟩ = some (.string p0) := by
    have := HCI.out 0 p0 rfl
    simp [World.cell?, hg, this]
  refine (next_calls 4 (w.heap.size + 1) (w.heap.size + 1 + 1) w.heap.size m m 0 W (fun X hX => lib_fr HL.out hbW (by omega) hX) hlb hab (by omega) (by omega) (by omega) p0 h0c (by have := HALL.out 0 p0 rfl; omega)).mono ?_
  rintro e w1 ⟨hfr, hblk, x, v, bb, rfl, hor⟩
  have HDEC : Hid (decB s.data.toList = (match nextOf 4 p0.data.toList with
    | some (_, [a, b, c, d]) => match decL (pr.map (·.data.toList)).dropLast [] with
      | some L => if fineB ⟨a, b, c, d, L⟩ && (encB ⟨a, b, c, d, L⟩ == s.data.toList) then some ⟨a, b, c, d, L⟩ else none
      | none => none
    | _ => none)) := by
    unfold Hid decB
    rw [← HPD.out]; rfl
  have hb1 : Below w.heap.size w w1 := hbW.trans (hfr.below hbW.size (fun k hk => by subst hk; omega))
  have hg1 : w1.heap[w.heap.size]? = some (.cells cs 9 (0, 0)) := by rw [hfr.block _ (by omega) (by omega)]; exact hg
  have hlb1 : w1.heap[w.heap.size + 1]? = some (.cells #[.slice (some ⟨w.heap.size, 0, none⟩) m m] 36 (0, 0)) := by rw [hfr.block _ (by omega) (by omega)]; exact hlb
  have hs1 : w.heap.size + 3 ≤ w1.heap.size := by have := hfr.size; omega
  clear hW hbW hg hlb hab h0c hfr hWs hcv0
  cases hn4 : nextOf 4 p0.data.toList with
  | none =>
    have hbf : bb = false := by
      rcases hor with ⟨_, _, l, hl, _⟩ | ⟨h, _⟩
      · rw [hn4] at hl; cases hl
      · exact h
    subst hbf
    rw [hn4] at HDEC
    clear hor hn4
    go_wp2_with fail
    go_ret2
    exact ⟨hb1, .inr ⟨HDEC.out, rfl⟩⟩
  | some wl =>
    obtain ⟨wd, l⟩ := wl
    have hl4 := (nextOf_length hn4).1
    obtain ⟨a0, a1, a2, a3, rfl⟩ : ∃ a0 a1 a2 a3, l = [a0, a1, a2, a3] := by
      match l, hl4 with
      | [a, b, c, d], _ => exact ⟨a, b, c, d, rfl⟩
    obtain ⟨hbt, hown⟩ : bb = true ∧ w1.ownsRow W.heap.size 3 1 v 4 [.int .i64 a0, .int .i64 a1, .int .i64 a2, .int .i64 a3] := by
      rcases hor with ⟨h, _, l, hl, ho⟩ | ⟨_, h⟩
      · rw [hn4] at hl
        simp only [Option.some.injEq, Prod.mk.injEq] at hl
        obtain ⟨_, rfl⟩ := hl
        exact ⟨h, ho⟩
      · rw [hn4] at h; cases h
    subst hbt
    rw [hn4] at HDEC
    replace HDEC : Hid (decB s.data.toList = match decL (pr.map (·.data.toList)).dropLast [] with
      | some L => if fineB ⟨a0, a1, a2, a3, L⟩ && (encB ⟨a0, a1, a2, a3, L⟩ == s.data.toList) then some ⟨a0, a1, a2, a3, L⟩ else none
      | none => none) := HDEC
    obtain ⟨g4, c4, rfl, _, _⟩ := hown.form (by omega)
    have hg4 := (hown.lt g4 rfl).2
    have hc4 : ∀ i u, [Value.int .i64 a0, .int .i64 a1, .int .i64 a2, .int .i64 a3][i]? = some u → w1.cell? ⟨g4, i, none⟩ = some u := by
      intro i u hu
      have := hown.cells (g := g4) rfl i u hu
      rw [add_none] at this
      simpa using this
    have HF : Hid (∀ X, Below w1.heap.size w1 X → X.cell? ⟨g4, 0, none⟩ = some (.int .i64 a0) ∧ X.cell? ⟨g4, 1, none⟩ = some (.int .i64 a1) ∧ X.cell? ⟨g4, 2, none⟩ = some (.int .i64 a2) ∧ X.cell? ⟨g4, 3, none⟩ = some (.int .i64 a3)) := fun X hX =>
      ⟨(hX.cell (p := ⟨g4, 0, none⟩) hg4).trans (hc4 0 _ rfl), (hX.cell (p := ⟨g4, 1, none⟩) hg4).trans (hc4 1 _ rfl), (hX.cell (p := ⟨g4, 2, none⟩) hg4).trans (hc4 2 _ rfl), (hX.cell (p := ⟨g4, 3, none⟩) hg4).trans (hc4 3 _ rfl)⟩
    have hmm := @run_makeMap Tryz.prog
    clear hor hn4 hl4 hown hc4
    go_wp2_with fail

    refine start_ (n := 16) (S := fun w' => w'.cell? ⟨g4, 0, none⟩ = some (.int .i64 a0) ∧ w'.cell? ⟨g4, 1, none⟩ = some (.int .i64 a1) ∧ w'.cell? ⟨g4, 2, none⟩ = some (.int .i64 a2) ∧ w'.cell? ⟨g4, 3, none⟩ = some (.int .i64 a3)) (ds := []) #[false, false, false, false, false, false, false, false, false, false, false, false, false, false, false, false] (by kernel_rfl) rfl rfl ⟨(HF.out _ (Below.refl _ _).drew).1, (HF.out _ (Below.refl _ _).drew).2.1, (HF.out _ (Below.refl _ _).drew).2.2.1, (HF.out _ (Below.refl _ _).drew).2.2.2⟩ (fun hHeld => ?_)
    refine pure_ (i := 0) (N := some 26) (v := ?_) (a' := ?_) #[true, false, false, false, false, false, false, false, false, false, false, false, false, false, false, false] rfl rfl (by kernel_rfl) (fun _ _ _ h => h) (Or.inl ⟨by rfl, ?_⟩) ?_ ?_
    rotate_left
    · intro w'
      go_simp
      with_reducible rfl
    rotate_left
    · simp only [Act.put, List.setIfInBounds_toArray, List.set_cons_zero, List.set_cons_succ, i64_w, i32_w]
      rfl
    refine pure_ (i := 1) (N := some 27) (v := ?_) (a' := ?_) #[true, true, false, false, false, false, false, false, false, false, false, false, false, false, false, false] rfl rfl (by kernel_rfl) (fun _ _ _ h => h) (Or.inl ⟨by rfl, ?_⟩) ?_ ?_
    rotate_left
    · intro w'
      go_simp
      with_reducible rfl
    rotate_left
    · simp only [Act.put, List.setIfInBounds_toArray, List.set_cons_zero, List.set_cons_succ, i64_w, i32_w]
      rfl
    refine pure_ (i := 3) (N := some 29) (v := ?_) (a' := ?_) #[true, true, false, true, false, false, false, false, false, false, false, false, false, false, false, false] rfl rfl (by kernel_rfl) (fun _ _ _ h => h) (Or.inl ⟨by rfl, ?_⟩) ?_ ?_
    rotate_left
    · intro w'
      go_simp
      with_reducible rfl
    rotate_left
    · simp only [Act.put, List.setIfInBounds_toArray, List.set_cons_zero, List.set_cons_succ, i64_w, i32_w]
      rfl
    refine pure_ (i := 4) (N := some 30) (v := ?_) (a' := ?_) #[true, true, false, true, true, false, false, false, false, false, false, false, false, false, false, false] rfl rfl (by kernel_rfl) (fun _ _ _ h => h) (Or.inl ⟨by rfl, ?_⟩) ?_ ?_
    rotate_left
    · intro w'
      go_simp
      with_reducible rfl
    rotate_left
    · simp only [Act.put, List.setIfInBounds_toArray, List.set_cons_zero, List.set_cons_succ, i64_w, i32_w]
      rfl
    refine pure_ (i := 6) (N := some 32) (v := ?_) (a' := ?_) #[true, true, false, true, true, false, true, false, false, false, false, false, false, false, false, false] rfl rfl (by kernel_rfl) (fun _ _ _ h => h) (Or.inl ⟨by rfl, ?_⟩) ?_ ?_
    rotate_left
    · intro w'
      go_simp
      with_reducible rfl
    rotate_left
    · simp only [Act.put, List.setIfInBounds_toArray, List.set_cons_zero, List.set_cons_succ, i64_w, i32_w]
      rfl
    refine pure_ (i := 7) (N := some 33) (v := ?_) (a' := ?_) #[true, true, false, true, true, false, true, true, false, false, false, false, false, false, false, false] rfl rfl (by kernel_rfl) (fun _ _ _ h => h) (Or.inl ⟨by rfl, ?_⟩) ?_ ?_
    rotate_left
    · intro w'
      go_simp
      with_reducible rfl
    rotate_left
    · simp only [Act.put, List.setIfInBounds_toArray, List.set_cons_zero, List.set_cons_succ, i64_w, i32_w]
      rfl
    refine pure_ (i := 9) (N := some 35) (v := ?_) (a' := ?_) #[true, true, false, true, true, false, true, true, false, true, false, false, false, false, false, false] rfl rfl (by kernel_rfl) (fun _ _ _ h => h) (Or.inl ⟨by rfl, ?_⟩) ?_ ?_
    rotate_left
    · intro w'
      go_simp
      with_reducible rfl
    rotate_left
    · simp only [Act.put, List.setIfInBounds_toArray, List.set_cons_zero, List.set_cons_succ, i64_w, i32_w]
      rfl
    refine pure_ (i := 10) (N := some 36) (v := ?_) (a' := ?_) #[true, true, false, true, true, false, true, true, false, true, true, false, false, false, false, false] rfl rfl (by kernel_rfl) (fun _ _ _ h => h) (Or.inl ⟨by rfl, ?_⟩) ?_ ?_
    rotate_left
    · intro w'
      go_simp
      with_reducible rfl
    rotate_left
    · simp only [Act.put, List.setIfInBounds_toArray, List.set_cons_zero, List.set_cons_succ, i64_w, i32_w]
      rfl
    refine take_ (i := 2) (N := some 28) (v := ?_) (a' := ?_) #[true, true, true, true, true, false, true, true, false, true, true, false, false, false, false, false] rfl rfl (by kernel_rfl) (fun _ _ _ h => h) (Or.inl ⟨by rfl, ?_⟩) hHeld ?_ ?_
    rotate_left
    · rintro w' ⟨s0, s1, s2, s3⟩
      go_simp
      with_reducible rfl
    rotate_left
    · simp only [Act.put, List.setIfInBounds_toArray, List.set_cons_zero, List.set_cons_succ, i64_w, i32_w]
      rfl
    refine take_ (i := 5) (N := some 31) (v := ?_) (a' := ?_) #[true, true, true, true, true, true, true, true, false, true, true, false, false, false, false, false] rfl rfl (by kernel_rfl) (fun _ _ _ h => h) (Or.inl ⟨by rfl, ?_⟩) hHeld ?_ ?_
    rotate_left
    · rintro w' ⟨s0, s1, s2, s3⟩
      go_simp
      with_reducible rfl
    rotate_left
    · simp only [Act.put, List.setIfInBounds_toArray, List.set_cons_zero, List.set_cons_succ, i64_w, i32_w]
      rfl
    refine take_ (i := 8) (N := some 34) (v := ?_) (a' := ?_) #[true, true, true, true, true, true, true, true, true, true, true, false, false, false, false, false] rfl rfl (by kernel_rfl) (fun _ _ _ h => h) (Or.inl ⟨by rfl, ?_⟩) hHeld ?_ ?_
    rotate_left
    · rintro w' ⟨s0, s1, s2, s3⟩
      go_simp
      with_reducible rfl
    rotate_left
    · simp only [Act.put, List.setIfInBounds_toArray, List.set_cons_zero, List.set_cons_succ, i64_w, i32_w]
      rfl
    refine take_ (i := 11) (N := some 37) (v := ?_) (a' := ?_) #[true, true, true, true, true, true, true, true, true, true, true, true, false, false, false, false] rfl rfl (by kernel_rfl) (fun _ _ _ h => h) (Or.inl ⟨by rfl, ?_⟩) hHeld ?_ ?_
    rotate_left
    · rintro w' ⟨s0, s1, s2, s3⟩
      go_simp
      with_reducible rfl
    rotate_left
    · simp only [Act.put, List.setIfInBounds_toArray, List.set_cons_zero, List.set_cons_succ, i64_w, i32_w]
      rfl
    refine one_ (i := 12) (N := some 38) #[true, true, true, true, true, true, true, true, true, true, true, true, true, false, false, false] rfl rfl (by kernel_rfl) (by decide) (fun K hK => ?_)
    refine value_ (w1 := ?_) (v := ?_) (by rfl) rfl ?_ ?_
    rotate_left 2
    · go_simp
      constructor
      · rfl
      · rfl
    have hBm : Below w1.heap.size w1 (w1.drew.alloc (.map #[] 0)) := (Below.refl _ _).drew.alloc (by simp) _
    refine hK.out _ _ ⟨(HF.out _ hBm).1, (HF.out _ hBm).2.1, (HF.out _ hBm).2.2.1, (HF.out _ hBm).2.2.2⟩ (fun hHeld => ?_)
    clear hK K
    refine norm_ (a' := ?_) ?_ ?_
    rotate_left
    · show Act.put _ (some 38) _ = _
      simp only [Act.put, List.setIfInBounds_toArray, List.set_cons_zero, List.set_cons_succ, i64_w, i32_w]
      rfl
    refine pure_ (i := 13) (N := some 39) (v := ?_) (a' := ?_) #[true, true, true, true, true, true, true, true, true, true, true, true, true, true, false, false] rfl rfl (by kernel_rfl) (fun _ _ _ h => h) (Or.inl ⟨by rfl, ?_⟩) ?_ ?_
    rotate_left
    · intro w'
      go_simp
      with_reducible rfl
    rotate_left
    · simp only [Act.put, List.setIfInBounds_toArray, List.set_cons_zero, List.set_cons_succ, i64_w, i32_w]
      rfl
    refine one_ (i := 14) (N := some 40) #[true, true, true, true, true, true, true, true, true, true, true, true, true, true, true, false] rfl rfl (by kernel_rfl) (by decide) (fun K hK => ?_)
    refine value_ (w1 := ?_) (v := ?_) (by rfl) rfl ?_ ?_
    rotate_left 2
    · go_simp
      constructor
      · rfl
      · rfl
    have hBx := hBm.alloc (by simp) (.cells #[.int .i64 a0, .int .i64 a1, .int .i64 a2, .int .i64 a3, .map (some w1.heap.size)] 47)
    refine hK.out _ _ ⟨(HF.out _ hBx).1, (HF.out _ hBx).2.1, (HF.out _ hBx).2.2.1, (HF.out _ hBx).2.2.2⟩ (fun hHeld => ?_)
    clear hK K
    refine norm_ (a' := ?_) ?_ ?_
    rotate_left
    · show Act.put _ (some 40) _ = _
      simp only [Act.put, List.setIfInBounds_toArray, List.set_cons_zero, List.set_cons_succ, i64_w, i32_w]
      rfl
    refine pure_ (i := 15) (N := some 10) (v := ?_) (a' := ?_) #[true, true, true, true, true, true, true, true, true, true, true, true, true, true, true, true] rfl rfl (by kernel_rfl) (fun _ _ _ h => h) (Or.inl ⟨by rfl, ?_⟩) ?_ ?_
    rotate_left
    · intro w'
      go_simp
      with_reducible rfl
    rotate_left
    · simp only [Act.put, List.setIfInBounds_toArray, List.set_cons_zero, List.set_cons_succ, i64_w, i32_w]
      rfl
    refine done_ (by kernel_rfl) ?_
    clear hHeld hmm hBm HF hg4
    obtain ⟨X, hX⟩ : ∃ X, X = ((w1.alloc (.map #[] 0)).alloc (.cells #[.int .i64 a0, .int .i64 a1, .int .i64 a2, .int .i64 a3, .map (some w1.heap.size)] 47)).drew := ⟨_, rfl⟩
    have hbX : Below w1.heap.size w1 X := by rw [hX]; exact (((Below.refl _ _).alloc (Nat.le_refl _) _).alloc (by simp) _).drew
    have hclk : Clk X (w1.heap.size + 1) w1.heap.size ⟨a0, a1, a2, a3, []⟩ := by
      rw [hX]
      refine ⟨?_, ?_⟩
      · show ((w1.alloc (.map #[] 0)).alloc (.cells #[.int .i64 a0, .int .i64 a1, .int .i64 a2, .int .i64 a3, .map (some w1.heap.size)] 47)).heap[w1.heap.size + 1]? = _
        have h := heap_alloc_new (w1.alloc (.map #[] 0)) (.cells #[.int .i64 a0, .int .i64 a1, .int .i64 a2, .int .i64 a3, .map (some w1.heap.size)] 47)
        rw [show (w1.alloc (.map #[] 0)).heap.size = w1.heap.size + 1 from by simp] at h
        exact h
      · exact Mp.of_block (w := (w1.alloc (.map #[] 0)).alloc (.cells #[.int .i64 a0, .int .i64 a1, .int .i64 a2, .int .i64 a3, .map (some w1.heap.size)] 47)) (Mp.of ((World.ownsMap_made w1 Tryz.prog 9 heardR).alloc _)) rfl
    have hrl : (pr.map (·.data.toList)).dropLast.length = m - 2 := by have := HM.out; simp; omega
    have hstart : Hid (DL w m cs (pr.map (·.data.toList)).dropLast (w1.heap.size + 1) w1.heap.size a0 a1 a2 a3 X) :=
      ⟨1, [], Nat.le_refl _, by omega, by rw [hbX.block _ (by omega)]; exact hblk, by rw [hbX.block _ (by omega)]; exact hg1, by rw [hbX.block _ (by omega)]; exact hlb1, hclk, rfl, hb1.trans (hbX.mono (by omega))⟩
    rw [← hX]
    have HRL := Lib.hid hrl
    obtain ⟨pp, hpp⟩ : ∃ pp, w1.heap.size + 1 = pp := ⟨_, rfl⟩
    obtain ⟨bq, hbq⟩ : ∃ bq, w1.heap.size = bq := ⟨_, rfl⟩
    have hpw : w.heap.size + 3 ≤ pp ∧ w.heap.size + 3 ≤ bq := by omega
    clear hX hBx hbX hclk hblk hg1 hlb1 hb1 hrl
    rw [hpp, hbq] at hstart
    go_wp2_with fail
    rw [hpp]
    clear hpp hbq hs1
    go_loopw [] (fun wr => DL w m cs (pr.map (·.data.toList)).dropLast pp bq a0 a1 a2 a3 wr) (fun wr => m - atW w wr)
    case atStart => exact hstart.out
    case round =>
      clear hstart
      obtain ⟨k, L, hk1, hkl, hka, hga, hla, hck, hdl, hbw⟩ := hrel
      rw [HRL.out] at hkl
      have hka1 : wr.cell? ⟨w.heap.size + 1 + 1, 0, none⟩ = some (.int .i64 k) := by simp [World.cell?, hka]
      have hla1 : wr.cell? ⟨w.heap.size + 1, 0, none⟩ = some (.slice (some ⟨w.heap.size, 0, none⟩) m m) := by simp [World.cell?, hla]
      have hws := hbw.size
      have hwlt : w.heap.size + 3 ≤ wr.heap.size := by have := (Array.getElem?_eq_some_iff.1 hka).1; omega
      by_cases hlt : k < m - 1
      · have hltd : decide ((k : Int) < (m : Int) - 1) = true := decide_eq_true (by omega)
        obtain ⟨sk, hsk⟩ : ∃ sk, pr[k - 1]? = some sk := ⟨_, List.getElem?_eq_getElem (by have := HM.out; omega)⟩
        have hsk0 : (p0 :: pr)[k]? = some sk := by
          obtain ⟨k', rfl⟩ : ∃ k', k = k' + 1 := ⟨k - 1, by omega⟩
          simpa using hsk
        have hskc : wr.cell? ⟨w.heap.size, k, none⟩ = some (.string sk) := by
          have := HCI.out k sk hsk0
          simp [World.cell?, hga, this]
        have hskz := HALL.out k sk hsk0
        have hline : (pr.map (·.data.toList)).dropLast[k - 1]? = some sk.data.toList := by
          rw [List.getElem?_dropLast, if_pos (by rw [List.length_map]; have := HM.out; omega), List.getElem?_map, hsk]; rfl
        have hllen : L.length ≤ 100000 := by
          have := (decL_length hdl).1
          simp only [List.length_nil, List.length_take] at this
          omega
        have HLINE := Lib.hid hline
        have HDL := Lib.hid hdl
        have HKA := Lib.hid hka
        clear hsk hsk0 hline hdl
        have hwr := hbw
        have hHL : Hid (∀ X, Fr (· = w.heap.size + 1 + 1) wr X → LibOk X) := fun X hX => lib_fr HL.out hbw (by omega) hX
        go_wp2_with fail
        refine (next_calls 2 (w.heap.size + 1) (w.heap.size + 1 + 1) w.heap.size m m k wr hHL.out hla HKA.out (by omega) (by omega) (by omega) sk hskc (by omega)).mono ?_
        rintro e w2 ⟨hfr2, hblk2, x2, v2, b2, rfl, hor2⟩
        have hb2 : Below w.heap.size w w2 := hbw.trans (hfr2.below hws (fun k hk => by subst hk; omega))
        have hga2 : w2.heap[w.heap.size]? = some (.cells cs 9 (0, 0)) := by rw [hfr2.block _ (by omega) (by omega)]; exact hga
        have hla2 : w2.heap[w.heap.size + 1]? = some (.cells #[.slice (some ⟨w.heap.size, 0, none⟩) m m] 36 (0, 0)) := by rw [hfr2.block _ (by omega) (by omega)]; exact hla
        have hck2 : Clk w2 pp bq ⟨a0, a1, a2, a3, L⟩ := hck.fr hfr2 (by omega) (by omega)
        have HMEAS : Hid (m - atW w wr = m - k) := by unfold Hid atW; rw [hka1]; rfl
        have hs2 : w.heap.size + 3 ≤ w2.heap.size := by have := hfr2.size; omega
        clear hka1 hla1 hga hla hck hfr2 hskc HKA hHL
        cases hn2 : nextOf 2 sk.data.toList with
        | none =>
          have hbf : b2 = false := by
            rcases hor2 with ⟨_, _, l, hl, _⟩ | ⟨h, _⟩
            · rw [hn2] at hl; cases hl
            · exact h
          subst hbf
          have hnone : Hid (decB s.data.toList = none) := by
            have h1 : decL (pr.map (·.data.toList)).dropLast [] = none := by
              have h2 := decL_bad (v := (pr.map (·.data.toList)).dropLast.drop k) hn2 HDL.out
              have h3 : (pr.map (·.data.toList)).dropLast.take (k - 1) ++ sk.data.toList :: (pr.map (·.data.toList)).dropLast.drop k = (pr.map (·.data.toList)).dropLast := by
                have h4 := list_at HLINE.out
                rw [show k - 1 + 1 = k from by omega] at h4
                exact h4
              rw [h3] at h2
              exact h2
            rw [Hid, HDEC.out, h1]
          clear hor2 hn2
          go_wp2_with fail
          go_ret2
          exact ⟨hb2, .inr ⟨hnone.out, rfl⟩⟩
        | some wl2 =>
          obtain ⟨wd2, l2⟩ := wl2
          have hl2 := (nextOf_length hn2).1
          obtain ⟨e0, e1, rfl⟩ : ∃ e0 e1, l2 = [e0, e1] := by
            match l2, hl2 with
            | [a, b], _ => exact ⟨a, b, rfl⟩
          obtain ⟨hbt, hxz, hxw, hown⟩ : b2 = true ∧ x2.size ≤ sk.data.toList.length ∧ x2.data.toList = wd2 ∧ w2.ownsRow wr.heap.size 3 1 v2 2 [.int .i64 e0, .int .i64 e1] := by
            rcases hor2 with ⟨h, hz, l, hl, ho⟩ | ⟨_, h⟩
            · rw [hn2] at hl
              simp only [Option.some.injEq, Prod.mk.injEq] at hl
              obtain ⟨rfl, rfl⟩ := hl
              exact ⟨h, hz, rfl, ho⟩
            · rw [hn2] at h; cases h
          subst hbt
          subst hxw
          obtain ⟨g5, c5, rfl, _, _⟩ := hown.form (by omega)
          have hc5 : ∀ i u, [Value.int .i64 e0, .int .i64 e1][i]? = some u → w2.cell? ⟨g5, i, none⟩ = some u := by
            intro i u hu
            have := hown.cells (g := g5) rfl i u hu
            rw [add_none] at this
            simpa using this
          have f0 := hc5 0 _ rfl
          have f1 := hc5 1 _ rfl
          have f4 := hck2.c4
          have hskl : sk.data.toList.length = sk.size := by simp
          have hxm : x2.size ≤ maxLen := by unfold maxLen; omega
          have HN2 := Lib.hid hn2
          have HXM := Lib.hid hxm
          clear hor2 hn2 hl2 hown hc5 hskl hxm
          go_wp2_with fail
          refine wp_region_still_tail 12 (by kernel_rfl) (by kernel_rfl) ?_
          simp only [List.take_succ_cons, List.take_zero, List.drop_succ_cons, List.drop_zero]
          repeat still_step
          refine wpStill_nil ?_
          change wpList _ _ _ _ _ w2.drew
          clear f0 f1 f4
          obtain ⟨Y, hY⟩ : ∃ Y, Y = w2.drew := ⟨_, rfl⟩
          have hckY : Clk Y pp bq ⟨a0, a1, a2, a3, L⟩ := by rw [hY]; exact hck2.of_blocks rfl rfl
          have hbY : Below w.heap.size w Y := by rw [hY]; exact hb2.drew
          have hgaY : Y.heap[w.heap.size]? = some (.cells cs 9 (0, 0)) := by rw [hY]; exact hga2
          have hlaY : Y.heap[w.heap.size + 1]? = some (.cells #[.slice (some ⟨w.heap.size, 0, none⟩) m m] 36 (0, 0)) := by rw [hY]; exact hla2
          have hkaY : Y.heap[w.heap.size + 1 + 1]? = some (.cells #[.int .i64 ((k + 1 : Nat) : Int)] 3 (0, 0)) := by rw [hY]; exact hblk2
          rw [← hY]
          clear hY hck2 hb2 hga2 hla2 hblk2 hbw
          obtain ⟨w4, hst, hmp, hmt⟩ := hckY.map.store HXM.out (by unfold maxLen; simp only; omega) e0 e1
          have hne := hckY.ne
          have hck4 : Clk w4 pp bq ⟨a0, a1, a2, a3, put L x2.data.toList (e0, e1)⟩ :=
            ⟨(hmt.grown.block pp hckY.ltp (by simpa using hne)).trans hckY.cells, hmp⟩
          have hblt := hckY.ltb
          have hkeep : ∀ j, j < w.heap.size + 3 → w4.heap[j]? = Y.heap[j]? := fun j hj => hmt.grown.block j (by omega) (by simp; omega)
          have hend : Hid (DL w m cs (pr.map (·.data.toList)).dropLast pp bq a0 a1 a2 a3 w4 ∧ m - atW w w4 < m - k) := by
            have h4 : w4.heap[w.heap.size + 1 + 1]? = some (.cells #[.int .i64 ((k + 1 : Nat) : Int)] 3 (0, 0)) := by rw [hkeep _ (by omega)]; exact hkaY
            refine ⟨⟨k + 1, _, by omega, by rw [HRL.out]; omega, h4, by rw [hkeep _ (by omega)]; exact hgaY, by rw [hkeep _ (by omega)]; exact hlaY, hck4, ?_, ?_⟩, ?_⟩
            · have h5 : (pr.map (·.data.toList)).dropLast.take (k + 1 - 1) = (pr.map (·.data.toList)).dropLast.take (k - 1) ++ [sk.data.toList] := by
                rw [show k + 1 - 1 = (k - 1) + 1 from by omega, List.take_add_one, HLINE.out]; rfl
              rw [h5, decL_append, HDL.out]
              exact decL_one _ _ HN2.out
            · exact hbY.grown hmt.grown hbY.size (fun j hj => by cases hj; omega)
            · have h6 : atW w w4 = k + 1 := by
                unfold atW
                simp [World.cell?, h4]
              rw [h6]; omega
          clear hckY hbY hgaY hlaY hkaY hmp hmt hck4 hkeep
          go_wp2_with fail
          go_roundw
          case rel => exact hend.out.1
          case measure => rw [HMEAS.out]; exact hend.out.2
      · have hkm : k = m - 1 ∨ m = 1 := by omega
        have hltd : decide ((k : Int) < (m : Int) - 1) = false := decide_eq_false (by omega)
        go_wp2_with fail
        have hall : decL (pr.map (·.data.toList)).dropLast [] = some L := by
          have h1 := hdl
          rw [List.take_of_length_le (by rw [HRL.out]; omega)] at h1
          exact h1
        have hL1 : L.length ≤ 1000 := HK.out _ L hall (by rw [← HPD.out]; rfl)
        obtain ⟨c, hc⟩ : ∃ c : Ck, c = ⟨a0, a1, a2, a3, L⟩ := ⟨_, rfl⟩
        replace HDEC : Hid (decB s.data.toList = if fineB c && (encB c == s.data.toList) then some c else none) := by
          have := HDEC.out
          rw [hall] at this
          rw [hc]; exact this
        rw [← hc] at hck
        have hcl : c.L.length ≤ 1000 := by rw [hc]; exact hL1
        have HCK := Lib.hid hck
        have hcvr := HCV.out _ hbw
        clear hka hga hla hka1 hla1 hall hdl hltd hkm hc hck hL1
        cases hfb : fineB c with
        | false =>
          have HFB := Lib.hid hfb
          have HNO : Hid (decB s.data.toList = none) := by rw [Hid, HDEC.out, hfb]; rfl
          clear hfb HDEC

          refine start_ (n := 11) (S := fun w' => True) (ds := []) #[false, false, false, false, false, false, false, false, false, false, false] (by kernel_rfl) rfl rfl trivial (fun hHeld => ?_)
          refine pure_ (i := 0) (N := some 66) (v := ?_) (a' := ?_) #[true, false, false, false, false, false, false, false, false, false, false] rfl rfl (by kernel_rfl) (fun _ _ _ h => h) (Or.inl ⟨by rfl, ?_⟩) ?_ ?_
          rotate_left
          · intro w'
            go_simp
            with_reducible rfl
          rotate_left
          · simp only [Act.put, List.setIfInBounds_toArray, List.set_cons_zero, List.set_cons_succ, i64_w, i32_w]
            rfl
          refine one_ (i := 1) (N := some 67) #[true, true, false, false, false, false, false, false, false, false, false] rfl rfl (by kernel_rfl) (by decide) (fun K hK => ?_)
          refine goes_ Tryz.func15 (by kernel_rfl) rfl #[.pointer (some ⟨pp, 0, none⟩)] (by rfl) rfl rfl (by simp only [List.map_toArray, List.map_cons, List.map_nil]; rfl) ?_
          with_reducible refine (fine_is pp bq c _ HFB.out _ (HCK.out.below (by exact (Below.refl _ _).drew))).mono ?_
          rintro e y0 ⟨rfl, hb0⟩
          refine ⟨_, rfl, ?_⟩
          have hB0 : Below wr.heap.size wr y0 := ((Below.refl _ _).drew).trans (hb0.mono (by simp))
          refine hK.out _ _ trivial (fun hHeld => ?_)
          clear hK K
          refine norm_ (a' := ?_) ?_ ?_
          rotate_left
          · show Act.put _ (some 67) _ = _
            simp only [Act.put, List.setIfInBounds_toArray, List.set_cons_zero, List.set_cons_succ, i64_w, i32_w]
            rfl
          refine pure_ (i := 2) (N := some 68) (v := ?_) (a' := ?_) #[true, true, true, false, false, false, false, false, false, false, false] rfl rfl (by kernel_rfl) (fun _ _ _ h => h) (Or.inl ⟨by rfl, ?_⟩) ?_ ?_
          rotate_left
          · intro w'
            go_simp
            with_reducible rfl
          rotate_left
          · simp only [Act.put, List.setIfInBounds_toArray, List.set_cons_zero, List.set_cons_succ, i64_w, i32_w]
            rfl
          refine pure_ (i := 3) (N := some 69) (v := ?_) (a' := ?_) #[true, true, true, true, false, false, false, false, false, false, false] rfl rfl (by kernel_rfl) (fun _ _ _ h => h) (Or.inl ⟨by rfl, ?_⟩) ?_ ?_
          rotate_left
          · intro w'
            go_simp
            with_reducible rfl
          rotate_left
          · simp only [Act.put, List.setIfInBounds_toArray, List.set_cons_zero, List.set_cons_succ, i64_w, i32_w]
            rfl
          refine pure_ (i := 4) (N := some 70) (v := undef) (a' := ?_) #[true, true, true, true, true, false, false, false, false, false, false] rfl rfl (by kernel_rfl) (fun _ _ _ h => h) (Or.inr ⟨by rfl, rfl⟩) ?_ ?_
          rotate_left
          · simp only [Act.put, List.setIfInBounds_toArray, List.set_cons_zero, List.set_cons_succ, i64_w, i32_w]
            rfl
          refine pure_ (i := 5) (N := some 71) (v := undef) (a' := ?_) #[true, true, true, true, true, true, false, false, false, false, false] rfl rfl (by kernel_rfl) (fun _ _ _ h => h) (Or.inr ⟨by rfl, rfl⟩) ?_ ?_
          rotate_left
          · simp only [Act.put, List.setIfInBounds_toArray, List.set_cons_zero, List.set_cons_succ, i64_w, i32_w]
            rfl
          refine pure_ (i := 6) (N := some 72) (v := undef) (a' := ?_) #[true, true, true, true, true, true, true, false, false, false, false] rfl rfl (by kernel_rfl) (fun _ _ _ h => h) (Or.inr ⟨by rfl, rfl⟩) ?_ ?_
          rotate_left
          · simp only [Act.put, List.setIfInBounds_toArray, List.set_cons_zero, List.set_cons_succ, i64_w, i32_w]
            rfl
          refine pure_ (i := 7) (N := some 73) (v := undef) (a' := ?_) #[true, true, true, true, true, true, true, true, false, false, false] rfl rfl (by kernel_rfl) (fun _ _ _ h => h) (Or.inr ⟨by rfl, rfl⟩) ?_ ?_
          rotate_left
          · simp only [Act.put, List.setIfInBounds_toArray, List.set_cons_zero, List.set_cons_succ, i64_w, i32_w]
            rfl
          refine pure_ (i := 8) (N := some 74) (v := undef) (a' := ?_) #[true, true, true, true, true, true, true, true, true, false, false] rfl rfl (by kernel_rfl) (fun _ _ _ h => h) (Or.inr ⟨by rfl, rfl⟩) ?_ ?_
          rotate_left
          · simp only [Act.put, List.setIfInBounds_toArray, List.set_cons_zero, List.set_cons_succ, i64_w, i32_w]
            rfl
          refine pure_ (i := 9) (N := some 75) (v := undef) (a' := ?_) #[true, true, true, true, true, true, true, true, true, true, false] rfl rfl (by kernel_rfl) (fun _ _ _ h => h) (Or.inr ⟨by rfl, rfl⟩) ?_ ?_
          rotate_left
          · simp only [Act.put, List.setIfInBounds_toArray, List.set_cons_zero, List.set_cons_succ, i64_w, i32_w]
            rfl
          refine pure_ (i := 10) (N := some 76) (v := ?_) (a' := ?_) #[true, true, true, true, true, true, true, true, true, true, true] rfl rfl (by kernel_rfl) (fun _ _ _ h => h) (Or.inl ⟨by rfl, ?_⟩) ?_ ?_
          rotate_left
          · intro w'
            go_simp
            with_reducible rfl
          rotate_left
          · simp only [Act.put, List.setIfInBounds_toArray, List.set_cons_zero, List.set_cons_succ, i64_w, i32_w]
            rfl
          refine done_ (by kernel_rfl) ?_
          clear hHeld
          go_wp2_with fail
          go_ret2
          exact ⟨hbw.trans (hB0.mono hws), .inr ⟨HNO.out, rfl⟩⟩
        | true =>
          have HFB := Lib.hid hfb
          have hok : Ok c ∧ ∀ e ∈ c.L, nameB ⟨e.1.toArray⟩ = true := by
            unfold fineB at hfb
            simp only [Bool.and_eq_true, List.all_eq_true] at hfb
            exact ⟨ok_of hfb.1.1 hfb.1.2, fun e he => (good_iff.1 (hfb.1.2 e he)).1⟩
          obtain ⟨hok, hnm⟩ := hok
          have hnl : ∀ e ∈ c.L, e.1.length ≤ 1000 := fun e he => by
            have := ((nameB_iff _).1 (hnm e he)).2.1
            have h2 : (⟨e.1.toArray⟩ : ByteArray).size = e.1.length := by simp [ByteArray.size]
            omega
          have HNL := Lib.hid hnl
          have HCVS : Hid (∀ X, Below wr.heap.size wr X → (convert 22 9 (.slice A n cap)).run Tryz.prog X = .ok (.string s) X) := fun X hX => HCV.out X (hbw.trans (hX.mono hws))
          have HDEC2 : Hid (decB s.data.toList = if (encB c == s.data.toList) then some c else none) := by rw [Hid, HDEC.out, hfb]; rfl
          clear hfb hnm hnl HDEC
          have HLW : Hid (LibOk wr) := HL.out.below hbw

          refine start_ (n := 11) (S := fun w' => (convert 22 9 (.slice A n cap)).run Tryz.prog w' = .ok (.string s) w') (ds := []) #[false, false, false, false, false, false, false, false, false, false, false] (by kernel_rfl) rfl rfl ((HCVS.out _ (Below.refl _ _).drew)) (fun hHeld => ?_)
          refine pure_ (i := 0) (N := some 66) (v := ?_) (a' := ?_) #[true, false, false, false, false, false, false, false, false, false, false] rfl rfl (by kernel_rfl) (fun _ _ _ h => h) (Or.inl ⟨by rfl, ?_⟩) ?_ ?_
          rotate_left
          · intro w'
            go_simp
            with_reducible rfl
          rotate_left
          · simp only [Act.put, List.setIfInBounds_toArray, List.set_cons_zero, List.set_cons_succ, i64_w, i32_w]
            rfl
          refine one_ (i := 1) (N := some 67) #[true, true, false, false, false, false, false, false, false, false, false] rfl rfl (by kernel_rfl) (by decide) (fun K hK => ?_)
          refine goes_ Tryz.func15 (by kernel_rfl) rfl #[.pointer (some ⟨pp, 0, none⟩)] (by rfl) rfl rfl (by simp only [List.map_toArray, List.map_cons, List.map_nil]; rfl) ?_
          with_reducible refine (fine_is pp bq c _ HFB.out _ (HCK.out.below (by exact (Below.refl _ _).drew))).mono ?_
          rintro e y0 ⟨rfl, hb0⟩
          refine ⟨_, rfl, ?_⟩
          have hB0 : Below wr.heap.size wr y0 := ((Below.refl _ _).drew).trans (hb0.mono (by simp))
          refine hK.out _ _ ((HCVS.out _ hB0)) (fun hHeld => ?_)
          clear hK K
          refine norm_ (a' := ?_) ?_ ?_
          rotate_left
          · show Act.put _ (some 67) _ = _
            simp only [Act.put, List.setIfInBounds_toArray, List.set_cons_zero, List.set_cons_succ, i64_w, i32_w]
            rfl
          refine pure_ (i := 2) (N := some 68) (v := ?_) (a' := ?_) #[true, true, true, false, false, false, false, false, false, false, false] rfl rfl (by kernel_rfl) (fun _ _ _ h => h) (Or.inl ⟨by rfl, ?_⟩) ?_ ?_
          rotate_left
          · intro w'
            go_simp
            with_reducible rfl
          rotate_left
          · simp only [Act.put, List.setIfInBounds_toArray, List.set_cons_zero, List.set_cons_succ, i64_w, i32_w]
            rfl
          refine pure_ (i := 3) (N := some 69) (v := ?_) (a' := ?_) #[true, true, true, true, false, false, false, false, false, false, false] rfl rfl (by kernel_rfl) (fun _ _ _ h => h) (Or.inl ⟨by rfl, ?_⟩) ?_ ?_
          rotate_left
          · intro w'
            go_simp
            with_reducible rfl
          rotate_left
          · simp only [Act.put, List.setIfInBounds_toArray, List.set_cons_zero, List.set_cons_succ, i64_w, i32_w]
            rfl
          refine pure_ (i := 4) (N := some 70) (v := ?_) (a' := ?_) #[true, true, true, true, true, false, false, false, false, false, false] rfl rfl (by kernel_rfl) (fun _ _ _ h => h) (Or.inl ⟨by rfl, ?_⟩) ?_ ?_
          rotate_left
          · intro w'
            go_simp
            with_reducible rfl
          rotate_left
          · simp only [Act.put, List.setIfInBounds_toArray, List.set_cons_zero, List.set_cons_succ, i64_w, i32_w]
            rfl
          refine pure_ (i := 7) (N := some 73) (v := ?_) (a' := ?_) #[true, true, true, true, true, false, false, true, false, false, false] rfl rfl (by kernel_rfl) (fun _ _ _ h => h) (Or.inl ⟨by rfl, ?_⟩) ?_ ?_
          rotate_left
          · intro w'
            go_simp
            with_reducible rfl
          rotate_left
          · simp only [Act.put, List.setIfInBounds_toArray, List.set_cons_zero, List.set_cons_succ, i64_w, i32_w]
            rfl
          refine take_ (i := 8) (N := some 74) (v := ?_) (a' := ?_) #[true, true, true, true, true, false, false, true, true, false, false] rfl rfl (by kernel_rfl) (fun _ _ _ h => h) (Or.inl ⟨by rfl, ?_⟩) hHeld ?_ ?_
          rotate_left
          · intro w' s0
            go_simp
            with_reducible rfl
          rotate_left
          · simp only [Act.put, List.setIfInBounds_toArray, List.set_cons_zero, List.set_cons_succ, i64_w, i32_w]
            rfl
          refine one_ (i := 5) (N := some 71) #[true, true, true, true, true, true, false, true, true, false, false] rfl rfl (by kernel_rfl) (by decide) (fun K hK => ?_)
          refine goes_ Tryz.func8 (by kernel_rfl) rfl #[.pointer (some ⟨pp, 0, none⟩)] (by rfl) rfl rfl (by simp only [List.map_toArray, List.map_cons, List.map_nil]; rfl) ?_
          with_reducible refine (encode_calls pp bq c _ (HCK.out.below hB0) hok hcl HNL.out (HLW.out.tab.below hB0)).mono ?_
          rintro e y1 ⟨ge, ne, ce, rfl, hby, hb1⟩
          refine ⟨_, rfl, ?_⟩
          have hB1 : Below wr.heap.size wr y1 := hB0.trans (hb1.mono hB0.size)
          refine hK.out _ _ ((HCVS.out _ hB1)) (fun hHeld => ?_)
          clear hK K
          refine norm_ (a' := ?_) ?_ ?_
          rotate_left
          · show Act.put _ (some 71) _ = _
            simp only [Act.put, List.setIfInBounds_toArray, List.set_cons_zero, List.set_cons_succ, i64_w, i32_w]
            rfl
          refine one_ (i := 6) (N := some 72) #[true, true, true, true, true, true, true, true, true, false, false] rfl rfl (by kernel_rfl) (by decide) (fun K hK => ?_)
          have hcve := hby.str (cap := ce)
          refine value_ (w1 := ?_) (v := ?_) (by rfl) rfl ?_ ?_
          rotate_left 2
          · go_simp
            constructor
            · rfl
            · rfl
          refine hK.out _ _ ((HCVS.out _ hB1)) (fun hHeld => ?_)
          clear hK K
          refine norm_ (a' := ?_) ?_ ?_
          rotate_left
          · show Act.put _ (some 72) _ = _
            simp only [Act.put, List.setIfInBounds_toArray, List.set_cons_zero, List.set_cons_succ, i64_w, i32_w]
            rfl
          refine pure_ (i := 9) (N := some 75) (v := ?_) (a' := ?_) #[true, true, true, true, true, true, true, true, true, true, false] rfl rfl (by kernel_rfl) (fun _ _ _ h => h) (Or.inl ⟨by rfl, ?_⟩) ?_ ?_
          rotate_left
          · intro w'
            go_simp
            with_reducible rfl
          rotate_left
          · simp only [Act.put, List.setIfInBounds_toArray, List.set_cons_zero, List.set_cons_succ, i64_w, i32_w]
            rfl
          refine pure_ (i := 10) (N := some 76) (v := ?_) (a' := ?_) #[true, true, true, true, true, true, true, true, true, true, true] rfl rfl (by kernel_rfl) (fun _ _ _ h => h) (Or.inl ⟨by rfl, ?_⟩) ?_ ?_
          rotate_left
          · intro w'
            go_simp
            with_reducible rfl
          rotate_left
          · simp only [Act.put, List.setIfInBounds_toArray, List.set_cons_zero, List.set_cons_succ, i64_w, i32_w]
            rfl
          refine done_ (by kernel_rfl) ?_
          clear hHeld hcve hby
          have hck9 := HCK.out.below hB1
          have hbe : Below w.heap.size w y1 := hbw.trans (hB1.mono hws)
          have hsl : s.toList = s.data.toList := toList_data s
          cases hq : (encB c == s.data.toList) with
          | false =>
            rw [show (encB c == s.toList) = false from by rw [hsl]; exact hq]
            have HN3 : Hid (decB s.data.toList = none) := by rw [Hid, HDEC2.out, hq]; rfl
            clear hsl hq HDEC2 hck9
            go_wp2_with fail
            go_ret2
            exact ⟨hbe, .inr ⟨HN3.out, rfl⟩⟩
          | true =>
            rw [show (encB c == s.toList) = true from by rw [hsl]; exact hq]
            have HN3 : Hid (decB s.data.toList = some c) := by rw [Hid, HDEC2.out, hq]; rfl
            clear hsl hq HDEC2
            have HC9 := Lib.hid hck9
            clear hck9
            go_wp2_with fail
            go_ret2
            exact ⟨hbe, .inl ⟨c, pp, bq, HN3.out, rfl, by omega, by omega, HC9.out⟩⟩

end Go.Proofs.YtomnmgmehagjfaaGreatDoor.Ck
