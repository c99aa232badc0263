/-
  The reference's Decode: the walk.
  No condition: lemmas.
-/
import Derived.Test.YtomnmgmehagjfaaGreatDoorRefNum
import Derived.Test.YtomnmgmehagjfaaGreatDoorRefPart
import Derived.Test.YtomnmgmehagjfaaGreatDoorRefDecP
import Derived.Test.YtomnmgmehagjfaaGreatDoorRefTell
import Derived.Deep.QuietTactic
import Derived.BigQuiet
import Derived.WalkLawsBesides
namespace Go.Proofs.YtomnmgmehagjfaaGreatDoor.Ck
open Go Go.RowKit Go.Maps Go.Shelf Go.Lib Go.Proofs.YtomnmgmehagjfaaGreatDoorW.PrintLast
set_option linter.unusedVariables false
set_option linter.unusedSimpArgs false

theorem parts_ten (s : ByteArray) (w : World) (hs : s.size ≤ 100000) : Calls Tryz.prog 16 #[.string s, .int .u8 10] w (PartsPost s.data.toList 10 w) := parts_calls s 10 w hs
theorem parts_32 (s : ByteArray) (w : World) (hs : s.size ≤ 100000) : Calls Tryz.prog 16 #[.string s, .int .u8 32] w (PartsPost s.data.toList 32 w) := parts_calls s 32 w hs
/-- A row of texts in memory. -/
def RowAt (w : World) (g : Nat) (ps : List ByteArray) : Prop := g < w.heap.size ∧ ∀ (i : Nat) (x : ByteArray), ps[i]? = some x → w.cell? ⟨g, i, none⟩ = some (.string x)
theorem RowAt.below {w w' : World} {g : Nat} {ps : List ByteArray} (h : RowAt w g ps) (hb : Below w.heap.size w w') : RowAt w' g ps :=
  ⟨Nat.lt_of_lt_of_le h.1 hb.size, fun i x hx => (hb.cell (p := ⟨g, i, none⟩) h.1).trans (h.2 i x hx)⟩
theorem RowAt.of {w : World} {base g cap : Nat} {e : TypeId} {ps : List ByteArray} (h : w.ownsRow base e 1 (.slice (some ⟨g, 0, none⟩) ps.length cap) ps.length (ps.map Value.string)) : RowAt w g ps := by
  refine ⟨(h.lt g rfl).2, fun i x hx => ?_⟩
  have := h.cells (g := g) rfl i (.string x) (by rw [List.getElem?_map, hx]; rfl)
  rw [add_none] at this
  simpa using this
theorem pieces {s : List UInt8} {c : UInt8} {ps : List ByteArray} (h : ps.map (·.data.toList) = parts c s) : ps ≠ [] ∧ ps.length ≤ s.length + 1 ∧ ∀ x ∈ ps, x.size ≤ s.length := by
  have h1 := parts_length_le c s
  have h2 := parts_sum c s
  rw [← h] at h1 h2
  refine ⟨?_, by simpa using h1, fun x hx => ?_⟩
  · rintro rfl
    exact parts_ne c s h.symm
  · have := sumLen_mem (List.mem_map.2 ⟨x, hx, rfl⟩ : x.data.toList ∈ ps.map (·.data.toList))
    have e : x.data.toList.length = x.size := by simp
    omega

/-- Block q is the reference's clock, its row owned from B on. -/
structure Rr (B : Nat) (w : World) (q : Nat) (c : Ck) (A : Option Addr) (cap : Nat) : Prop where
  cells : w.heap[q]? = some (.cells #[.int .i64 c.slack, .int .i64 c.idle, .int .i64 c.now, .int .i64 c.mark, .slice A c.L.length cap] 54 (0, 0))
  own : w.ownsRow B 57 3 (.slice A c.L.length cap) c.L.length (cellsS c.L)
  rs : Rising c.L
  nm : ∀ e ∈ c.L, e.1.length ≤ 1000
theorem Rr.rf {B : Nat} {w : World} {q : Nat} {c : Ck} {A : Option Addr} {cap : Nat} (h : Rr B w q c A cap) : Rf w q c :=
  ⟨⟨_, h.cells, ⟨h.own.1, h.own.2.imp (fun h => h) (fun ⟨g, cap, cur, h1, _, h2⟩ => ⟨g, cap, cur, h1, Nat.zero_le _, h2⟩)⟩⟩, h.rs, h.nm⟩
theorem Rr.below {B : Nat} {w w' : World} {q : Nat} {c : Ck} {A : Option Addr} {cap : Nat} (h : Rr B w q c A cap) (hb : Below w.heap.size w w') : Rr B w' q c A cap :=
  ⟨(hb.block q (Array.getElem?_eq_some_iff.1 h.cells).1).trans h.cells, ownsRow_fr (S := fun _ => False) h.own (Fr.of_below hb) (fun _ _ h => h.elim), h.rs, h.nm⟩

def RDPost (s : List UInt8) (w : World) (e : Ending) (w' : World) : Prop := Below w.heap.size w w' ∧
  ((∃ c q, refB s = some c ∧ e = .returned (.pointer (some ⟨q, 0, none⟩)) ∧ w.heap.size ≤ q ∧ Rf w' q c) ∨ (refB s = none ∧ e = .returned (.pointer none)))

def RL (W : World) (q n : Nat) (a0 a1 a2 a3 : Int) (mid : List (List UInt8)) (v6 : Value) (wr : World) : Prop :=
  ∃ (k : Nat) (L : List Ent) (A : Option Addr) (cap : Nat), 1 ≤ k ∧ k + 1 ≤ n ∧ v6 = .int .i64 k ∧ Rr W.heap.size wr q ⟨a0, a1, a2, a3, L⟩ A cap ∧ refL a2 (mid.take (k - 1)) [] = some L ∧ Below W.heap.size W wr ∧ L.length ≤ k

theorem ba_self (x : ByteArray) : (⟨x.data.toList.toArray⟩ : ByteArray) = x := ba_ext rfl
theorem srcInfo : (Tryz.prog.info? 57).map (fun i => (i.zero, i.size, i.bytes)) = some (some (.agg #[.string ByteArray.empty, .int .i64 0, .int .i64 0]), 3, 32) := by kernel_rfl
theorem Rr.drewN {B : Nat} {w : World} {q : Nat} {c : Ck} {A : Option Addr} {cap : Nat} (h : Rr B w q c A cap) (n : Nat) : Rr B (w.drewN n) q c A cap := ⟨h.cells, h.own, h.rs, h.nm⟩
theorem reads_new (w : World) (x : ByteArray) (a n : Int) : Reads (w.alloc (.cells #[.string x, .int .i64 a, .int .i64 n] 57)) (w.alloc (.cells #[.string x, .int .i64 a, .int .i64 n] 57)).heap.size 3 (some ⟨w.heap.size, 0, none⟩) 1 [.string x, .int .i64 a, .int .i64 n] := by
  refine ⟨rfl, fun _ => ⟨⟨w.heap.size, 0, none⟩, rfl, by simp, fun j u hj => ?_⟩⟩
  rw [add_none]
  have := World.news_of_block (w := w.alloc (.cells #[.string x, .int .i64 a, .int .i64 n] 57)) (heap_alloc_new w _) j u (by simpa using hj)
  rw [add_none] at this
  exact this
theorem Rr.block_ne {B : Nat} {w : World} {q : Nat} {c : Ck} {A : Option Addr} {cap : Nat} (h : Rr B w q c A cap) : some q ≠ (Value.slice A c.L.length cap).ownBlock := by
  intro he
  rcases h.own.2 with ⟨h1, _⟩ | ⟨g, cap', cur, h1, _, hg, _⟩
  · rw [h1] at he; simp [Value.ownBlock] at he
  · rw [h1] at he
    simp only [Value.ownBlock, Option.some.injEq] at he
    subst he
    rw [h.cells] at hg
    simp at hg
theorem Rr.push {B : Nat} {V V2 w7 : World} {q : Nat} {c : Ck} {A : Option Addr} {cap g9 c9 : Nat} {e : Ent} (h : Rr B V q c A cap) (hV2 : Below V.heap.size V V2)
    (ho : w7.ownsRow B 57 3 (.slice (some ⟨g9, 0, none⟩) (c.L.length + 1) c9) (c.L.length + 1) (cellsS c.L ++ cellsE e)) (hg : V2.grownBy w7 (Value.slice A c.L.length cap).ownBlock)
    (hl : lastB c.L e.1 = true) (hn : e.1.length ≤ 1000) :
    Rr B (w7.setCell ⟨q, 4, none⟩ (.slice (some ⟨g9, 0, none⟩) (c.L.length + 1) c9)) q ⟨c.slack, c.idle, c.now, c.mark, c.L ++ [e]⟩ (some ⟨g9, 0, none⟩) c9 := by
  have hq := (Array.getElem?_eq_some_iff.1 h.cells).1
  have h1 : w7.heap[q]? = some (.cells #[.int .i64 c.slack, .int .i64 c.idle, .int .i64 c.now, .int .i64 c.mark, .slice A c.L.length cap] 54 (0, 0)) := by
    rw [hg.block q (Nat.lt_of_lt_of_le hq hV2.size) h.block_ne, hV2.block q hq]; exact h.cells
  refine ⟨?_, ?_, rising_snoc h.rs hl, ?_⟩
  · rw [setCell_block h1]
    simp
  · have e1 : cellsS (c.L ++ [e]) = cellsS c.L ++ cellsE e := by rw [cellsS_append]; simp [cellsS]
    simp only [List.length_append, List.length_cons, List.length_nil, Nat.zero_add, e1]
    refine ownsRow_fr (S := fun k => k = q) ho (Fr.setCell (S := fun k => k = q) (Fr.refl _ _) (p := ⟨q, 4, none⟩) rfl _) ?_
    rintro k o rfl hk cur rfl
    rw [h1] at hk
    simp at hk
  · intro x hx
    rcases List.mem_append.1 hx with hx | hx
    · exact h.nm x hx
    · rw [List.mem_singleton] at hx; subst hx; exact hn
theorem list_at' {α : Type} {l : List α} {i : Nat} {x : α} (h : l[i]? = some x) : l.take i ++ x :: l.drop (i + 1) = l := by
  obtain ⟨h5, h6⟩ := List.getElem?_eq_some_iff.1 h
  have := List.take_append_drop i l
  rw [List.drop_eq_getElem_cons h5, h6] at this
  exact this
theorem refL_append (now : Int) (u v : List (List UInt8)) : ∀ L, refL now (u ++ v) L = (refL now u L).bind (refL now v ·) := by
  induction u with
  | nil => intro L; rfl
  | cons s r ih =>
    intro L
    simp only [List.cons_append, refL]
    split
    · split
      · exact ih _
      · rfl
    · rfl
theorem refL_length (now : Int) : ∀ {ws : List (List UInt8)} {L M : List Ent}, refL now ws L = some M → 3 * ws.length ≤ sumLen ws ∧ M.length = L.length + ws.length
  | [], L, M, h => by simp only [refL, Option.some.injEq] at h; subst h; simp [sumLen]
  | s :: r, L, M, h => by
    unfold refL at h
    split at h
    · rename_i x a n hp
      split at h
      · have h2 := refL_length now h
        have h3 := parts_sum 32 s
        rw [hp] at h3
        simp only [sumLen, List.length_append, List.length_cons, List.length_nil] at h2 h3 ⊢
        omega
      · cases h
    · cases h
theorem sumLen_app : ∀ (u v : List (List UInt8)), sumLen (u ++ v) = sumLen u + sumLen v
  | [], v => by simp [sumLen]
  | x :: r, v => by simp only [List.cons_append, sumLen, sumLen_app r v]; omega

set_option maxHeartbeats 8000000 in
set_option maxRecDepth 100000 in
theorem rdecode_calls (s : ByteArray) (w : World) (hs : s.size ≤ 3000) : Calls Tryz.prog 6 #[.string s] w (RDPost s.data.toList w) := by
  have hsl : s.data.toList.length = s.size := by simp
  have HSL := Lib.hid hsl
  clear hsl
  obtain ⟨i0, hi, hz0, hz1, hz2⟩ := info_parts srcInfo
  have HI0 := Lib.hid hi
  have HZ0 := Lib.hid hz0
  have HZ1 := Lib.hid hz1
  have HZ2 := Lib.hid hz2
  clear hi hz0 hz1 hz2
  go_enter Tryz.func6, Tryz.ntmps6
  go_wp2_with (first
    | (go_at_call 16; refine (parts_ten s _ (by omega)).mono ?_; rintro e w1 ⟨ps, g, cap, rfl, hps, hown, hb1⟩; refine Hid.out ?_)
    | fail)
  refine Lib.hid ?_
  have hrow := RowAt.of hown
  obtain ⟨hne, hpl, hpz⟩ := pieces hps
  rw [HSL.out] at hpl hpz
  obtain ⟨u, xl, rfl⟩ : ∃ u xl, ps = u ++ [xl] := ⟨ps.dropLast, ps.getLast hne, (List.dropLast_concat_getLast hne).symm⟩
  have hlast : w1.cell? ⟨g, u.length, none⟩ = some (.string xl) := hrow.2 u.length xl (by simp)
  have HPS := Lib.hid hps
  have HPZ := Lib.hid hpz
  have HROW := Lib.hid hrow
  have HB1 := Lib.hid hb1
  have hg1 := hb1.size
  simp only [List.length_append, List.length_cons, List.length_nil, Nat.zero_add] at hpl
  rw [show (u ++ [xl]).length = u.length + 1 from by simp]
  have HLAST : Hid (parts 10 s.data.toList = u.map (·.data.toList) ++ [xl.data.toList]) := by rw [Hid, ← HPS.out]; simp
  clear hown hps hpz hrow hb1 hne
  by_cases hx0 : xl.data.toList = []
  · have hx1 : xl.toList = [] := by rw [toList_data]; exact hx0
    have hx2 : (!xl.toList.isEmpty) = false := by rw [hx1]; rfl
    by_cases hu : u.length = 0
    · have HN : Hid (refB s.data.toList = none) := by
        unfold Hid refB
        rw [if_pos]
        rw [HLAST.out]
        refine .inr ?_
        simp only [List.length_append, List.length_map, List.length_cons, List.length_nil]; omega
      obtain rfl : u = [] := List.eq_nil_of_length_eq_zero hu
      clear hx0 hu
      simp only [List.length_nil, Nat.zero_add] at hlast ⊢
      go_wp2_with fail
      go_ret
      exact ⟨HB1.out, .inr ⟨HN.out, rfl⟩⟩
    · obtain ⟨p0, u', rfl⟩ := List.exists_cons_of_ne_nil (l := u) (by rintro rfl; simp at hu)
      have h0c : w1.cell? ⟨g, 0, none⟩ = some (.string p0) := HROW.out.2 0 p0 rfl
      have hp0 := HPZ.out p0 (by simp)
      have HX0 := Lib.hid hx0
      clear hx0 hu
      simp only [List.length_cons] at hlast hpl ⊢
      go_wp2_with (first
        | (go_at_call 16; refine (parts_32 p0 _ (by omega)).mono ?_; rintro e w2 ⟨qs, g2, cap2, rfl, hqs, hown2, hb2⟩; refine Hid.out ?_)
        | fail)
      refine Lib.hid ?_
      have hrow2 := RowAt.of hown2
      obtain ⟨_, hql, hqz⟩ := pieces hqs
      have HREF : Hid (refB s.data.toList = (match parts 32 p0.data.toList with
          | [k, a, b, c, d] =>
            if headOk k a b c d then
              match refL (numF c) (u'.map (·.data.toList)) [] with
              | some L => if markF d < tellV ⟨numF a, numF b, numF c, markF d, L⟩ then none else some ⟨numF a, numF b, numF c, markF d, L⟩
              | none => none
            else none
          | _ => none)) := by
        unfold Hid refB
        rw [HLAST.out, if_neg (by
          rintro (h | h)
          · exact h (by rw [List.getLast?_append, HX0.out]; rfl)
          · simp at h; omega)]
        simp only [List.map_cons, List.cons_append, List.headD_cons, List.tail_cons, List.dropLast_concat]
        rfl
      rw [← hqs] at HREF
      have hb02 : Below w.heap.size w w2 := HB1.out.trans (hb2.mono hg1)
      have hz2 := hb2.size
      have hrow12 := HROW.out.below hb2
      have HROW1 := Lib.hid hrow12
      have HROW2 := Lib.hid hrow2
      have HQZ := Lib.hid hqz
      have HB02 := Lib.hid hb02
      clear hown2 hqs hqz hrow2 hrow12 hb02 hb2 h0c hlast hx1 hx2 HROW
      by_cases h5 : qs.length = 5
      · obtain ⟨kw, a, b, c, d, rfl⟩ : ∃ kw a b c d, qs = [kw, a, b, c, d] := by
          match qs, h5 with
          | [x0, x1, x2, x3, x4], _ => exact ⟨x0, x1, x2, x3, x4, rfl⟩
        have r0 := HROW2.out.2 0 kw rfl
        rw [show [kw, a, b, c, d].length = 5 from rfl]
        replace HREF : Hid (refB s.data.toList = (
            if headOk kw.data.toList a.data.toList b.data.toList c.data.toList d.data.toList then
              match refL (numF c.data.toList) (u'.map (·.data.toList)) [] with
              | some L => if markF d.data.toList < tellV ⟨numF a.data.toList, numF b.data.toList, numF c.data.toList, markF d.data.toList, L⟩ then none else some ⟨numF a.data.toList, numF b.data.toList, numF c.data.toList, markF d.data.toList, L⟩
              | none => none
            else none)) := HREF
        clear h5
        by_cases hkw : kw.data.toList = clockW
        · have q1 : (kw.toList == [99, 108, 111, 99, 107]) = true := by rw [toList_data, hkw]; rfl
          have HKW := Lib.hid hkw
          clear hkw
          have hz5 : ∀ x ∈ [a, b, c, d], x.size ≤ maxLen := by
            intro x hx
            have h1 := HQZ.out x (by simp only [List.mem_cons, List.not_mem_nil, or_false] at hx ⊢; exact .inr hx)
            have h2 : p0.data.toList.length = p0.size := by simp
            unfold maxLen; omega
          have za := hz5 a (by simp)
          have zb := hz5 b (by simp)
          have zc := hz5 c (by simp)
          have zd := hz5 d (by simp)
          have ZA := Lib.hid za
          have ZB := Lib.hid zb
          have ZC := Lib.hid zc
          have ZD := Lib.hid zd
          have HF : Hid (∀ X, Below w2.heap.size w2 X → X.cell? ⟨g2, 1, none⟩ = some (.string a) ∧ X.cell? ⟨g2, 2, none⟩ = some (.string b) ∧ X.cell? ⟨g2, 3, none⟩ = some (.string c) ∧ X.cell? ⟨g2, 4, none⟩ = some (.string d)) := fun X hX =>
            ⟨(hX.cell (p := ⟨g2, 1, none⟩) HROW2.out.1).trans (HROW2.out.2 1 a rfl), (hX.cell (p := ⟨g2, 2, none⟩) HROW2.out.1).trans (HROW2.out.2 2 b rfl), (hX.cell (p := ⟨g2, 3, none⟩) HROW2.out.1).trans (HROW2.out.2 3 c rfl), (hX.cell (p := ⟨g2, 4, none⟩) HROW2.out.1).trans (HROW2.out.2 4 d rfl)⟩
          clear hz5 za zb zc zd
          go_wp2_with fail

          refine start_ (n := 19) (S := fun w' => w'.cell? ⟨g2, 1, none⟩ = some (.string a) ∧ w'.cell? ⟨g2, 2, none⟩ = some (.string b) ∧ w'.cell? ⟨g2, 3, none⟩ = some (.string c) ∧ w'.cell? ⟨g2, 4, none⟩ = some (.string d)) (ds := []) #[false, false, false, false, false, false, false, false, false, false, false, false, false, false, false, false, false, false, false] (by kernel_rfl) rfl rfl ⟨(HF.out _ (Below.refl _ _).drew).1, (HF.out _ (Below.refl _ _).drew).2.1, (HF.out _ (Below.refl _ _).drew).2.2.1, (HF.out _ (Below.refl _ _).drew).2.2.2⟩ (fun hHeld => ?_)
          refine pure_ (i := 0) (N := some 36) (v := ?_) (a' := ?_) #[true, false, false, false, false, false, false, false, false, false, false, false, false, false, false, false, false, false, false] rfl rfl (by kernel_rfl) (fun _ _ _ h => h) (Or.inl ⟨by rfl, ?_⟩) ?_ ?_
          rotate_left
          · intro w'
            go_simp
            with_reducible rfl
          rotate_left
          · simp only [Act.put, List.setIfInBounds_toArray, List.set_cons_zero, List.set_cons_succ, i64_w, i32_w]
            rfl
          refine pure_ (i := 1) (N := some 37) (v := ?_) (a' := ?_) #[true, true, false, false, false, false, false, false, false, false, false, false, false, false, false, false, false, false, false] rfl rfl (by kernel_rfl) (fun _ _ _ h => h) (Or.inl ⟨by rfl, ?_⟩) ?_ ?_
          rotate_left
          · intro w'
            go_simp
            with_reducible rfl
          rotate_left
          · simp only [Act.put, List.setIfInBounds_toArray, List.set_cons_zero, List.set_cons_succ, i64_w, i32_w]
            rfl
          refine pure_ (i := 4) (N := some 40) (v := ?_) (a' := ?_) #[true, true, false, false, true, false, false, false, false, false, false, false, false, false, false, false, false, false, false] rfl rfl (by kernel_rfl) (fun _ _ _ h => h) (Or.inl ⟨by rfl, ?_⟩) ?_ ?_
          rotate_left
          · intro w'
            go_simp
            with_reducible rfl
          rotate_left
          · simp only [Act.put, List.setIfInBounds_toArray, List.set_cons_zero, List.set_cons_succ, i64_w, i32_w]
            rfl
          refine pure_ (i := 5) (N := some 41) (v := ?_) (a' := ?_) #[true, true, false, false, true, true, false, false, false, false, false, false, false, false, false, false, false, false, false] rfl rfl (by kernel_rfl) (fun _ _ _ h => h) (Or.inl ⟨by rfl, ?_⟩) ?_ ?_
          rotate_left
          · intro w'
            go_simp
            with_reducible rfl
          rotate_left
          · simp only [Act.put, List.setIfInBounds_toArray, List.set_cons_zero, List.set_cons_succ, i64_w, i32_w]
            rfl
          refine pure_ (i := 8) (N := some 44) (v := ?_) (a' := ?_) #[true, true, false, false, true, true, false, false, true, false, false, false, false, false, false, false, false, false, false] rfl rfl (by kernel_rfl) (fun _ _ _ h => h) (Or.inl ⟨by rfl, ?_⟩) ?_ ?_
          rotate_left
          · intro w'
            go_simp
            with_reducible rfl
          rotate_left
          · simp only [Act.put, List.setIfInBounds_toArray, List.set_cons_zero, List.set_cons_succ, i64_w, i32_w]
            rfl
          refine pure_ (i := 9) (N := some 45) (v := ?_) (a' := ?_) #[true, true, false, false, true, true, false, false, true, true, false, false, false, false, false, false, false, false, false] rfl rfl (by kernel_rfl) (fun _ _ _ h => h) (Or.inl ⟨by rfl, ?_⟩) ?_ ?_
          rotate_left
          · intro w'
            go_simp
            with_reducible rfl
          rotate_left
          · simp only [Act.put, List.setIfInBounds_toArray, List.set_cons_zero, List.set_cons_succ, i64_w, i32_w]
            rfl
          refine pure_ (i := 12) (N := some 48) (v := ?_) (a' := ?_) #[true, true, false, false, true, true, false, false, true, true, false, false, true, false, false, false, false, false, false] rfl rfl (by kernel_rfl) (fun _ _ _ h => h) (Or.inl ⟨by rfl, ?_⟩) ?_ ?_
          rotate_left
          · intro w'
            go_simp
            with_reducible rfl
          rotate_left
          · simp only [Act.put, List.setIfInBounds_toArray, List.set_cons_zero, List.set_cons_succ, i64_w, i32_w]
            rfl
          refine pure_ (i := 13) (N := some 49) (v := ?_) (a' := ?_) #[true, true, false, false, true, true, false, false, true, true, false, false, true, true, false, false, false, false, false] rfl rfl (by kernel_rfl) (fun _ _ _ h => h) (Or.inl ⟨by rfl, ?_⟩) ?_ ?_
          rotate_left
          · intro w'
            go_simp
            with_reducible rfl
          rotate_left
          · simp only [Act.put, List.setIfInBounds_toArray, List.set_cons_zero, List.set_cons_succ, i64_w, i32_w]
            rfl
          refine take_ (i := 2) (N := some 38) (v := ?_) (a' := ?_) #[true, true, true, false, true, true, false, false, true, true, false, false, true, true, false, false, false, false, false] rfl rfl (by kernel_rfl) (fun _ _ _ h => h) (Or.inl ⟨by rfl, ?_⟩) hHeld ?_ ?_
          rotate_left
          · rintro w' ⟨s0, s1, s2, s3⟩
            go_simp
            with_reducible rfl
          rotate_left
          · simp only [Act.put, List.setIfInBounds_toArray, List.set_cons_zero, List.set_cons_succ, i64_w, i32_w]
            rfl
          refine take_ (i := 6) (N := some 42) (v := ?_) (a' := ?_) #[true, true, true, false, true, true, true, false, true, true, false, false, true, true, false, false, false, false, false] rfl rfl (by kernel_rfl) (fun _ _ _ h => h) (Or.inl ⟨by rfl, ?_⟩) hHeld ?_ ?_
          rotate_left
          · rintro w' ⟨s0, s1, s2, s3⟩
            go_simp
            with_reducible rfl
          rotate_left
          · simp only [Act.put, List.setIfInBounds_toArray, List.set_cons_zero, List.set_cons_succ, i64_w, i32_w]
            rfl
          refine take_ (i := 10) (N := some 46) (v := ?_) (a' := ?_) #[true, true, true, false, true, true, true, false, true, true, true, false, true, true, false, false, false, false, false] rfl rfl (by kernel_rfl) (fun _ _ _ h => h) (Or.inl ⟨by rfl, ?_⟩) hHeld ?_ ?_
          rotate_left
          · rintro w' ⟨s0, s1, s2, s3⟩
            go_simp
            with_reducible rfl
          rotate_left
          · simp only [Act.put, List.setIfInBounds_toArray, List.set_cons_zero, List.set_cons_succ, i64_w, i32_w]
            rfl
          refine take_ (i := 14) (N := some 50) (v := ?_) (a' := ?_) #[true, true, true, false, true, true, true, false, true, true, true, false, true, true, true, false, false, false, false] rfl rfl (by kernel_rfl) (fun _ _ _ h => h) (Or.inl ⟨by rfl, ?_⟩) hHeld ?_ ?_
          rotate_left
          · rintro w' ⟨s0, s1, s2, s3⟩
            go_simp
            with_reducible rfl
          rotate_left
          · simp only [Act.put, List.setIfInBounds_toArray, List.set_cons_zero, List.set_cons_succ, i64_w, i32_w]
            rfl
          refine one_ (i := 3) (N := some 39) #[true, true, true, true, true, true, true, false, true, true, true, false, true, true, true, false, false, false, false] rfl rfl (by kernel_rfl) (by decide) (fun K hK => ?_)
          refine goes_ Tryz.func17 (by kernel_rfl) rfl #[.string a] (by rfl) rfl rfl (by simp only [List.map_toArray, List.map_cons, List.map_nil]; rfl) ?_
          with_reducible refine (number_calls a _ ZA.out).mono ?_
          rintro e y ⟨rfl, rfl⟩
          refine ⟨_, rfl, ?_⟩
          have hB0 : Below w2.heap.size w2 w2.drew := (Below.refl _ _).drew
          refine hK.out _ _ ⟨(HF.out _ hB0).1, (HF.out _ hB0).2.1, (HF.out _ hB0).2.2.1, (HF.out _ hB0).2.2.2⟩ (fun hHeld => ?_)
          clear hK K
          refine norm_ (a' := ?_) ?_ ?_
          rotate_left
          · show Act.put _ (some 39) _ = _
            simp only [Act.put, List.setIfInBounds_toArray, List.set_cons_zero, List.set_cons_succ, i64_w, i32_w]
            rfl
          refine one_ (i := 7) (N := some 43) #[true, true, true, true, true, true, true, true, true, true, true, false, true, true, true, false, false, false, false] rfl rfl (by kernel_rfl) (by decide) (fun K hK => ?_)
          refine goes_ Tryz.func17 (by kernel_rfl) rfl #[.string b] (by rfl) rfl rfl (by simp only [List.map_toArray, List.map_cons, List.map_nil]; rfl) ?_
          with_reducible refine (number_calls b _ ZB.out).mono ?_
          rintro e y ⟨rfl, rfl⟩
          refine ⟨_, rfl, ?_⟩
          refine hK.out _ _ ⟨(HF.out _ hB0).1, (HF.out _ hB0).2.1, (HF.out _ hB0).2.2.1, (HF.out _ hB0).2.2.2⟩ (fun hHeld => ?_)
          clear hK K
          refine norm_ (a' := ?_) ?_ ?_
          rotate_left
          · show Act.put _ (some 43) _ = _
            simp only [Act.put, List.setIfInBounds_toArray, List.set_cons_zero, List.set_cons_succ, i64_w, i32_w]
            rfl
          refine one_ (i := 11) (N := some 47) #[true, true, true, true, true, true, true, true, true, true, true, true, true, true, true, false, false, false, false] rfl rfl (by kernel_rfl) (by decide) (fun K hK => ?_)
          refine goes_ Tryz.func17 (by kernel_rfl) rfl #[.string c] (by rfl) rfl rfl (by simp only [List.map_toArray, List.map_cons, List.map_nil]; rfl) ?_
          with_reducible refine (number_calls c _ ZC.out).mono ?_
          rintro e y ⟨rfl, rfl⟩
          refine ⟨_, rfl, ?_⟩
          refine hK.out _ _ ⟨(HF.out _ hB0).1, (HF.out _ hB0).2.1, (HF.out _ hB0).2.2.1, (HF.out _ hB0).2.2.2⟩ (fun hHeld => ?_)
          clear hK K
          refine norm_ (a' := ?_) ?_ ?_
          rotate_left
          · show Act.put _ (some 47) _ = _
            simp only [Act.put, List.setIfInBounds_toArray, List.set_cons_zero, List.set_cons_succ, i64_w, i32_w]
            rfl
          refine one_ (i := 15) (N := some 51) #[true, true, true, true, true, true, true, true, true, true, true, true, true, true, true, true, false, false, false] rfl rfl (by kernel_rfl) (by decide) (fun K hK => ?_)
          refine goes_ Tryz.func17 (by kernel_rfl) rfl #[.string d] (by rfl) rfl rfl (by simp only [List.map_toArray, List.map_cons, List.map_nil]; rfl) ?_
          with_reducible refine (number_calls d _ ZD.out).mono ?_
          rintro e y ⟨rfl, rfl⟩
          refine ⟨_, rfl, ?_⟩
          refine hK.out _ _ ⟨(HF.out _ hB0).1, (HF.out _ hB0).2.1, (HF.out _ hB0).2.2.1, (HF.out _ hB0).2.2.2⟩ (fun hHeld => ?_)
          clear hK K
          refine norm_ (a' := ?_) ?_ ?_
          rotate_left
          · show Act.put _ (some 51) _ = _
            simp only [Act.put, List.setIfInBounds_toArray, List.set_cons_zero, List.set_cons_succ, i64_w, i32_w]
            rfl
          refine pure_ (i := 16) (N := some 52) (v := ?_) (a' := ?_) #[true, true, true, true, true, true, true, true, true, true, true, true, true, true, true, true, true, false, false] rfl rfl (by kernel_rfl) (fun _ _ _ h => h) (Or.inl ⟨by rfl, ?_⟩) ?_ ?_
          rotate_left
          · intro w'
            go_simp
            with_reducible rfl
          rotate_left
          · simp only [Act.put, List.setIfInBounds_toArray, List.set_cons_zero, List.set_cons_succ, i64_w, i32_w]
            rfl
          refine one_ (i := 17) (N := some 53) #[true, true, true, true, true, true, true, true, true, true, true, true, true, true, true, true, true, true, false] rfl rfl (by kernel_rfl) (by decide) (fun K hK => ?_)
          refine value_ (w1 := ?_) (v := ?_) (by rfl) rfl ?_ ?_
          rotate_left 2
          · go_simp
            constructor
            · rfl
            · rfl
          have hB1 := hB0.alloc (by exact hB0.size) (.cells #[.int .i64 (numF a.data.toList), .int .i64 (numF b.data.toList), .int .i64 (numF c.data.toList), .int .i64 (numF d.data.toList), .slice none 0 0] 54)
          refine hK.out _ _ ⟨(HF.out _ hB1).1, (HF.out _ hB1).2.1, (HF.out _ hB1).2.2.1, (HF.out _ hB1).2.2.2⟩ (fun hHeld => ?_)
          clear hK K
          refine norm_ (a' := ?_) ?_ ?_
          rotate_left
          · show Act.put _ (some 53) _ = _
            simp only [Act.put, List.setIfInBounds_toArray, List.set_cons_zero, List.set_cons_succ, i64_w, i32_w]
            rfl
          refine pure_ (i := 18) (N := some 5) (v := ?_) (a' := ?_) #[true, true, true, true, true, true, true, true, true, true, true, true, true, true, true, true, true, true, true] rfl rfl (by kernel_rfl) (fun _ _ _ h => h) (Or.inl ⟨by rfl, ?_⟩) ?_ ?_
          rotate_left
          · intro w'
            go_simp
            with_reducible rfl
          rotate_left
          · simp only [Act.put, List.setIfInBounds_toArray, List.set_cons_zero, List.set_cons_succ, i64_w, i32_w]
            rfl
          refine done_ (by kernel_rfl) ?_
          clear hHeld hB1
          obtain ⟨X, hX⟩ : ∃ X, X = (w2.alloc (.cells #[.int .i64 (numF a.data.toList), .int .i64 (numF b.data.toList), .int .i64 (numF c.data.toList), .int .i64 (numF d.data.toList), .slice none 0 0] 54)).drew := ⟨_, rfl⟩
          have hbX : Below w2.heap.size w2 X := by rw [hX]; exact ((Below.refl _ _).alloc (Nat.le_refl _) _).drew
          have hxq : X.heap[w2.heap.size]? = some (.cells #[.int .i64 (numF a.data.toList), .int .i64 (numF b.data.toList), .int .i64 (numF c.data.toList), .int .i64 (numF d.data.toList), .slice none 0 0] 54 (0, 0)) := by
            rw [hX]; exact heap_alloc_new w2 _
          have hxs : w2.heap.size < X.heap.size := by rw [hX]; simp
          rw [← hX]
          have hd4 := (HF.out X hbX).2.2.2
          have HFX := HF
          obtain ⟨a0, ha0⟩ : ∃ v, numF a.data.toList = v := ⟨_, rfl⟩
          obtain ⟨a1, ha1⟩ : ∃ v, numF b.data.toList = v := ⟨_, rfl⟩
          obtain ⟨a2, ha2⟩ : ∃ v, numF c.data.toList = v := ⟨_, rfl⟩
          have hbd0 := numF_bd a.data.toList
          have hbd1 := numF_bd b.data.toList
          have hbd2 := numF_bd c.data.toList
          have hbd3 := numF_bd d.data.toList
          have HREF2 : Hid (refB s.data.toList = if 0 ≤ a0 ∧ 0 ≤ a1 ∧ 0 ≤ a2 ∧ -1 ≤ markF d.data.toList then
              match refL a2 (u'.map (·.data.toList)) [] with
              | some L => if markF d.data.toList < tellV ⟨a0, a1, a2, markF d.data.toList, L⟩ then none else some ⟨a0, a1, a2, markF d.data.toList, L⟩
              | none => none
            else none) := by
            rw [Hid, HREF.out, ha0, ha1, ha2]
            have : headOk kw.data.toList a.data.toList b.data.toList c.data.toList d.data.toList = decide (0 ≤ a0 ∧ 0 ≤ a1 ∧ 0 ≤ a2 ∧ -1 ≤ markF d.data.toList) := by
              unfold headOk
              rw [ha0, ha1, ha2, HKW.out]
              simp only [decide_true, Bool.true_and, Bool.decide_and, Bool.and_assoc]
            rw [this]
            by_cases hh : 0 ≤ a0 ∧ 0 ≤ a1 ∧ 0 ≤ a2 ∧ -1 ≤ markF d.data.toList
            · rw [if_pos hh, if_pos (decide_eq_true hh)]
            · rw [if_neg hh, if_neg (by simpa using hh)]
          rw [ha0, ha1, ha2] at hxq
          rw [ha0] at hbd0
          rw [ha1] at hbd1
          rw [ha2] at hbd2
          generalize numF a.data.toList = z0 at *
          generalize numF b.data.toList = z1 at *
          generalize numF c.data.toList = z2 at *
          subst ha0 ha1 ha2
          obtain ⟨z3, hz3⟩ : ∃ v, numF d.data.toList = v := ⟨_, rfl⟩
          rw [hz3] at hxq hbd3
          have hrow1 := HROW1.out.below hbX
          have HB0X : Hid (Below w.heap.size w X) := HB02.out.trans (hbX.mono (Nat.le_trans hg1 hz2))
          have hwq : w.heap.size ≤ w2.heap.size := Nat.le_trans hg1 hz2
          have HPZ2 : Hid (∀ x ∈ u', x.size ≤ s.size) := fun x hx => HPZ.out x (by simp [hx])
          have HROWX : Hid (∀ Y, Below w2.heap.size w2 Y → ∀ i x, (p0 :: u' ++ [xl])[i]? = some x → Y.cell? ⟨g, i, none⟩ = some (.string x)) := fun Y hY i x hx => (HROW1.out.below hY).2 i x hx
          obtain ⟨n2, hn2⟩ : ∃ n2, u'.length + 1 + 1 = n2 := ⟨_, rfl⟩
          have HN2 := Lib.hid hn2
          rw [hn2] at hpl ⊢
          clear hX hn2
          have hc0 : X.cell? ⟨w2.heap.size, 0, none⟩ = some (.int .i64 z0) := by simp [World.cell?, hxq]
          have hc1 : X.cell? ⟨w2.heap.size, 1, none⟩ = some (.int .i64 z1) := by simp [World.cell?, hxq]
          have hc2 : X.cell? ⟨w2.heap.size, 2, none⟩ = some (.int .i64 z2) := by simp [World.cell?, hxq]
          have hc3 : X.cell? ⟨w2.heap.size, 3, none⟩ = some (.int .i64 z3) := by simp [World.cell?, hxq]
          have hf3 : X.frozen? ⟨w2.heap.size, 3, none⟩ = false := by simp [World.frozen?, hxq]
          have HXQ := Lib.hid hxq
          have HBX := Lib.hid hbX
          clear hxq
          by_cases hd : d.data.toList = [45, 49]
          · have q1 : (d.toList == [45, 49]) = true := by rw [toList_data, hd]; rfl
            have hmk : markF d.data.toList = -1 := by unfold markF; rw [if_pos hd]
            rw [hmk] at HREF2
            have hbS := hbX.setCell (p := ⟨w2.heap.size, 3, none⟩) (Nat.le_refl _) (.int .i64 (-1))
            have HQS : Hid ((X.setCell ⟨w2.heap.size, 3, none⟩ (.int .i64 (-1))).heap[w2.heap.size]? = some (.cells #[.int .i64 z0, .int .i64 z1, .int .i64 z2, .int .i64 (-1), .slice none 0 0] 54 (0, 0))) := by
              rw [Hid, setCell_block HXQ.out]; rfl
            have hsS : w2.heap.size < (X.setCell ⟨w2.heap.size, 3, none⟩ (.int .i64 (-1))).heap.size := by simpa using hxs
            have hm1 : (-1 : Int) ≤ -1 := by omega
            have hm2 : (-1 : Int) ≤ 1099511627776 := by omega
            have HB0S : Hid (Below w.heap.size w (X.setCell ⟨w2.heap.size, 3, none⟩ (.int .i64 (-1)))) := HB0X.out.setCell (p := ⟨w2.heap.size, 3, none⟩) hwq _
            clear hd hmk hz3 hxs hbX HXQ HBX HB0X
            by_cases k0 : z0 < 0
            · have HN : Hid (refB s.data.toList = none) := by rw [Hid, HREF2.out, if_neg (by omega)]
              go_wp2_with fail
              go_ret
              exact ⟨HB0S.out, .inr ⟨HN.out, rfl⟩⟩
            by_cases k1 : z1 < 0
            · have HN : Hid (refB s.data.toList = none) := by rw [Hid, HREF2.out, if_neg (by omega)]
              go_wp2_with fail
              go_ret
              exact ⟨HB0S.out, .inr ⟨HN.out, rfl⟩⟩
            by_cases k2 : z2 < 0
            · have HN : Hid (refB s.data.toList = none) := by rw [Hid, HREF2.out, if_neg (by omega)]
              go_wp2_with fail
              go_ret
              exact ⟨HB0S.out, .inr ⟨HN.out, rfl⟩⟩
            by_cases k3 : (-1) < -1
            · first
                | (exfalso; omega)
                | (have HN : Hid (refB s.data.toList = none) := by rw [Hid, HREF2.out, if_neg (by omega)]
                   go_wp2_with fail
                   go_ret
                   exact ⟨HB0S.out, .inr ⟨HN.out, rfl⟩⟩)
            have HREF3 : Hid (refB s.data.toList = match refL z2 (u'.map (·.data.toList)) [] with
                  | some L => if (-1) < tellV ⟨z0, z1, z2, (-1), L⟩ then none else some ⟨z0, z1, z2, (-1), L⟩
                  | none => none) := by rw [Hid, HREF2.out, if_pos ⟨by omega, by omega, by omega, by omega⟩]
            go_wp2_with fail
            obtain ⟨Y, hY⟩ : ∃ Y, Y = X.setCell ⟨w2.heap.size, 3, none⟩ (.int .i64 (-1)) := ⟨_, rfl⟩
            have hRr : Rr w2.heap.size Y w2.heap.size ⟨z0, z1, z2, (-1), []⟩ none 0 := by
              rw [hY]
              exact ⟨HQS.out, World.ownsRow_nil _ _ _ _, List.Pairwise.nil, by simp⟩
            have hstart : Hid (RL w2 w2.heap.size n2 z0 z1 z2 (-1) (u'.map (·.data.toList)) (.int .i64 1) Y) :=
              ⟨1, [], none, 0, Nat.le_refl _, by have := HN2.out; omega, rfl, hRr, rfl, by rw [hY]; exact hbS, by simp⟩
            try rw [← hY]
            obtain ⟨mk, hmk⟩ : ∃ m : Int, m = (-1) := ⟨_, rfl⟩
            rw [← hmk] at hstart HREF3
            have hmlo : -1 ≤ mk := by omega
            have hmhi : mk ≤ 1099511627776 := by omega
            have hk0 : 0 ≤ z0 := by omega
            have hk1 : 0 ≤ z1 := by omega
            have hk2 : 0 ≤ z2 := by omega
            have HMID : Hid ((u'.map (·.data.toList)).length = n2 - 2) := by have := HN2.out; simp [Hid]; omega
            clear hY hRr hmk hc0 hc1 hc2 hc3 hf3
            go_loopw [6] (fun v6 wr => RL w2 w2.heap.size n2 z0 z1 z2 mk (u'.map (·.data.toList)) v6 wr) (fun i _ => n2 - (intOf i).toNat)
            case atStart => exact hstart.out
            case round =>
              clear hstart
              obtain ⟨k, L, A, ca, hk1', hkn, rfl, hrr, hrl, hbr, hll⟩ := hrel
              have hws := hbr.size
              have HB0R : Hid (Below w.heap.size w wr) := HB02.out.trans (hbr.mono hwq)
              by_cases hlt : k + 1 < n2
              · obtain ⟨x, hx⟩ : ∃ x, u'[k - 1]? = some x := ⟨_, List.getElem?_eq_getElem (by have := HN2.out; omega)⟩
                have hxz := HPZ2.out x (List.mem_of_getElem? hx)
                have hxk : (p0 :: u' ++ [xl])[k]? = some x := by
                  obtain ⟨k', rfl⟩ : ∃ k', k = k' + 1 := ⟨k - 1, by omega⟩
                  rw [List.cons_append, List.getElem?_cons_succ, List.getElem?_append_left (by have := HN2.out; omega)]
                  simpa using hx
                have hxc := HROWX.out wr hbr k x hxk
                have HLINE : Hid ((u'.map (·.data.toList))[k - 1]? = some x.data.toList) := by rw [Hid, List.getElem?_map, hx]; rfl
                have HRL := Lib.hid hrl
                have hlen : Hid (L.length ≤ 3000) := by unfold Hid; omega
                have HBAD : Hid ((∀ r, refL z2 (x.data.toList :: r) L = none) → refB s.data.toList = none) := fun hbad => by
                  have h1 := list_at' HLINE.out
                  rw [HREF3.out, ← h1, refL_append, HRL.out]
                  simp only [Option.bind_some, hbad]
                clear hx hxk hrl
                go_wp2_with (first
                  | (go_at_call 16; refine (parts_32 x _ (by omega)).mono ?_; rintro e w3 ⟨rs, g3, cap3, rfl, hrs, hown3, hb3⟩; refine Hid.out ?_)
                  | fail)
                refine Lib.hid ?_
                have hrow3 := RowAt.of hown3
                obtain ⟨_, _, hrz⟩ := pieces hrs
                have hrr3 := hrr.below hb3
                have hb03 : Below w2.heap.size w2 w3 := hbr.trans (hb3.mono hws)
                have HB3 : Hid (Below w.heap.size w w3) := HB02.out.trans (hb03.mono hwq)
                have HRS := Lib.hid hrs
                have HRZ := Lib.hid hrz
                have HROW3 := Lib.hid hrow3
                clear hrs hrz hown3 hrow3 hrr hxc
                by_cases h3 : rs.length = 3
                · obtain ⟨nx, na, nn, rfl⟩ : ∃ nx na nn, rs = [nx, na, nn] := by
                    match rs, h3 with
                    | [x0, x1, x2], _ => exact ⟨x0, x1, x2, rfl⟩
                  rw [show [nx, na, nn].length = 3 from rfl]
                  have r0 := HROW3.out.2 0 nx rfl
                  have hzz : ∀ y ∈ [nx, na, nn], y.size ≤ maxLen := fun y hy => by
                    have h1 := HRZ.out y hy
                    have h2 : x.data.toList.length = x.size := by simp
                    unfold maxLen; omega
                  have HZX : Hid (nx.size ≤ maxLen) := hzz nx (by simp)
                  have HZA : Hid (na.size ≤ maxLen) := hzz na (by simp)
                  have HZN : Hid (nn.size ≤ maxLen) := hzz nn (by simp)
                  have HLN : Hid (∀ r, refL z2 (x.data.toList :: r) L = if lineOk z2 L nx.data.toList na.data.toList nn.data.toList then refL z2 r (L ++ [(nx.data.toList, (numF na.data.toList, numF nn.data.toList))]) else none) := fun r => by
                    simp only [refL]
                    rw [← HRS.out]; rfl
                  clear h3 hzz
                  cases hnm : nameB nx with
                  | false =>
                    have HN : Hid (refB s.data.toList = none) := HBAD.out (fun r => by
                      rw [HLN.out, if_neg]
                      unfold lineOk
                      rw [ba_self, hnm]; simp)
                    have HNM := Lib.hid hnm
                    clear hnm
                    go_wp2_with (first
                      | (go_at_call 18; refine (rname_calls nx _ HZX.out).mono ?_; rintro e y ⟨rfl, rfl⟩; rw [HNM.out])
                      | fail)
                    go_ret
                    exact ⟨HB3.out, .inr ⟨HN.out, rfl⟩⟩
                  | true =>
                    have HNM := Lib.hid hnm
                    clear hnm
                    go_wp2_with (first
                      | (go_at_call 18; refine (rname_calls nx _ HZX.out).mono ?_; rintro e y ⟨rfl, rfl⟩; rw [HNM.out])
                      | fail)
                    have HF3 : Hid (∀ X, Below w3.heap.size w3 X → X.cell? ⟨g3, 0, none⟩ = some (.string nx) ∧ X.cell? ⟨g3, 1, none⟩ = some (.string na) ∧ X.cell? ⟨g3, 2, none⟩ = some (.string nn)) := fun X hX =>
                      ⟨(hX.cell (p := ⟨g3, 0, none⟩) HROW3.out.1).trans (HROW3.out.2 0 nx rfl), (hX.cell (p := ⟨g3, 1, none⟩) HROW3.out.1).trans (HROW3.out.2 1 na rfl), (hX.cell (p := ⟨g3, 2, none⟩) HROW3.out.1).trans (HROW3.out.2 2 nn rfl)⟩
                    have hZ0 : Below w3.heap.size w3 w3.drew := (Below.refl _ _).drew
                    have hZ1 : Below w3.heap.size w3 (w3.drew.alloc (.cells #[.string ⟨#[]⟩, .int .i64 0, .int .i64 0] 57)) := hZ0.alloc (Nat.le_refl _) _

                    refine start_ (n := 14) (S := fun w' => w'.cell? ⟨g3, 0, none⟩ = some (.string nx) ∧ w'.cell? ⟨g3, 1, none⟩ = some (.string na) ∧ w'.cell? ⟨g3, 2, none⟩ = some (.string nn)) (ds := [13]) #[false, false, false, false, false, false, false, false, false, false, false, false, false, false] (by kernel_rfl) rfl rfl ⟨(HF3.out _ hZ0).1, (HF3.out _ hZ0).2.1, (HF3.out _ hZ0).2.2⟩ (fun hHeld => ?_)
                    refine pure_ (i := 0) (N := some 109) (v := ?_) (a' := ?_) #[true, false, false, false, false, false, false, false, false, false, false, false, false, false] rfl rfl (by kernel_rfl) (fun _ _ _ h => h) (Or.inl ⟨by rfl, ?_⟩) ?_ ?_
                    rotate_left
                    · intro w'
                      go_simp
                      with_reducible rfl
                    rotate_left
                    · simp only [Act.put, List.setIfInBounds_toArray, List.set_cons_zero, List.set_cons_succ, i64_w, i32_w]
                      rfl
                    refine pure_ (i := 1) (N := some 110) (v := ?_) (a' := ?_) #[true, true, false, false, false, false, false, false, false, false, false, false, false, false] rfl rfl (by kernel_rfl) (fun _ _ _ h => h) (Or.inl ⟨by rfl, ?_⟩) ?_ ?_
                    rotate_left
                    · intro w'
                      go_simp
                      with_reducible rfl
                    rotate_left
                    · simp only [Act.put, List.setIfInBounds_toArray, List.set_cons_zero, List.set_cons_succ, i64_w, i32_w]
                      rfl
                    refine pure_ (i := 3) (N := some 112) (v := ?_) (a' := ?_) #[true, true, false, true, false, false, false, false, false, false, false, false, false, false] rfl rfl (by kernel_rfl) (fun _ _ _ h => h) (Or.inl ⟨by rfl, ?_⟩) ?_ ?_
                    rotate_left
                    · intro w'
                      go_simp
                      with_reducible rfl
                    rotate_left
                    · simp only [Act.put, List.setIfInBounds_toArray, List.set_cons_zero, List.set_cons_succ, i64_w, i32_w]
                      rfl
                    refine pure_ (i := 4) (N := some 113) (v := ?_) (a' := ?_) #[true, true, false, true, true, false, false, false, false, false, false, false, false, false] rfl rfl (by kernel_rfl) (fun _ _ _ h => h) (Or.inl ⟨by rfl, ?_⟩) ?_ ?_
                    rotate_left
                    · intro w'
                      go_simp
                      with_reducible rfl
                    rotate_left
                    · simp only [Act.put, List.setIfInBounds_toArray, List.set_cons_zero, List.set_cons_succ, i64_w, i32_w]
                      rfl
                    refine pure_ (i := 7) (N := some 116) (v := ?_) (a' := ?_) #[true, true, false, true, true, false, false, true, false, false, false, false, false, false] rfl rfl (by kernel_rfl) (fun _ _ _ h => h) (Or.inl ⟨by rfl, ?_⟩) ?_ ?_
                    rotate_left
                    · intro w'
                      go_simp
                      with_reducible rfl
                    rotate_left
                    · simp only [Act.put, List.setIfInBounds_toArray, List.set_cons_zero, List.set_cons_succ, i64_w, i32_w]
                      rfl
                    refine pure_ (i := 8) (N := some 117) (v := ?_) (a' := ?_) #[true, true, false, true, true, false, false, true, true, false, false, false, false, false] rfl rfl (by kernel_rfl) (fun _ _ _ h => h) (Or.inl ⟨by rfl, ?_⟩) ?_ ?_
                    rotate_left
                    · intro w'
                      go_simp
                      with_reducible rfl
                    rotate_left
                    · simp only [Act.put, List.setIfInBounds_toArray, List.set_cons_zero, List.set_cons_succ, i64_w, i32_w]
                      rfl
                    refine take_ (i := 2) (N := some 111) (v := ?_) (a' := ?_) #[true, true, true, true, true, false, false, true, true, false, false, false, false, false] rfl rfl (by kernel_rfl) (fun _ _ _ h => h) (Or.inl ⟨by rfl, ?_⟩) hHeld ?_ ?_
                    rotate_left
                    · rintro w' ⟨s0, s1, s2⟩
                      go_simp
                      with_reducible rfl
                    rotate_left
                    · simp only [Act.put, List.setIfInBounds_toArray, List.set_cons_zero, List.set_cons_succ, i64_w, i32_w]
                      rfl
                    refine take_ (i := 5) (N := some 114) (v := ?_) (a' := ?_) #[true, true, true, true, true, true, false, true, true, false, false, false, false, false] rfl rfl (by kernel_rfl) (fun _ _ _ h => h) (Or.inl ⟨by rfl, ?_⟩) hHeld ?_ ?_
                    rotate_left
                    · rintro w' ⟨s0, s1, s2⟩
                      go_simp
                      with_reducible rfl
                    rotate_left
                    · simp only [Act.put, List.setIfInBounds_toArray, List.set_cons_zero, List.set_cons_succ, i64_w, i32_w]
                      rfl
                    refine take_ (i := 9) (N := some 118) (v := ?_) (a' := ?_) #[true, true, true, true, true, true, false, true, true, true, false, false, false, false] rfl rfl (by kernel_rfl) (fun _ _ _ h => h) (Or.inl ⟨by rfl, ?_⟩) hHeld ?_ ?_
                    rotate_left
                    · rintro w' ⟨s0, s1, s2⟩
                      go_simp
                      with_reducible rfl
                    rotate_left
                    · simp only [Act.put, List.setIfInBounds_toArray, List.set_cons_zero, List.set_cons_succ, i64_w, i32_w]
                      rfl
                    refine join_ (σ := Unit) 1 #[true, true, true, true, true, true, true, true, true, true, true, true, true, false] (fun _ => [(115, .int .i64 (numF na.data.toList)), (119, .int .i64 (numF nn.data.toList)), (8, .pointer (some ⟨w3.heap.size, 0, none⟩)), (120, .agg #[.string nx, .int .i64 (numF na.data.toList), .int .i64 (numF nn.data.toList)])]) (fun _ w' => w' = w3.drew.alloc (.cells #[.string ⟨#[]⟩, .int .i64 0, .int .i64 0] 57)) ?_ ?_
                    rotate_left
                    · intro hCont
                      refine two_ (i := 6) (j := 12) (Ni := some 115) (Nj := some 8) #[true, true, true, true, true, true, true, true, true, true, false, false, false, false] #[true, true, true, true, true, true, false, true, true, true, false, false, true, false] rfl rfl rfl rfl (by kernel_rfl) (by decide) (by decide) (fun K hK => ?_) (fun K hK => ?_)
                      · skip
                        refine goes_ Tryz.func17 (by kernel_rfl) rfl #[.string na] (by rfl) rfl rfl (by simp only [List.map_toArray, List.map_cons, List.map_nil]; rfl) ?_
                        with_reducible refine (number_calls na _ HZA.out).mono ?_
                        rintro e y ⟨rfl, rfl⟩
                        refine ⟨_, rfl, ?_⟩
                        refine hK.out _ _ ⟨(HF3.out _ hZ0).1, (HF3.out _ hZ0).2.1, (HF3.out _ hZ0).2.2⟩ (fun hHeld => ?_)
                        clear hK K
                        refine norm_ (a' := ?_) ?_ ?_
                        rotate_left
                        · show Act.put _ (some 115) _ = _
                          simp only [Act.put, List.setIfInBounds_toArray, List.set_cons_zero, List.set_cons_succ, i64_w, i32_w]
                          rfl
                        refine two_ (i := 10) (j := 12) (Ni := some 119) (Nj := some 8) #[true, true, true, true, true, true, true, true, true, true, true, false, false, false] #[true, true, true, true, true, true, true, true, true, true, false, false, true, false] rfl rfl rfl rfl (by kernel_rfl) (by decide) (by decide) (fun K hK => ?_) (fun K hK => ?_)
                        · skip
                          refine goes_ Tryz.func17 (by kernel_rfl) rfl #[.string nn] (by rfl) rfl rfl (by simp only [List.map_toArray, List.map_cons, List.map_nil]; rfl) ?_
                          with_reducible refine (number_calls nn _ HZN.out).mono ?_
                          rintro e y ⟨rfl, rfl⟩
                          refine ⟨_, rfl, ?_⟩
                          refine hK.out _ _ ⟨(HF3.out _ hZ0).1, (HF3.out _ hZ0).2.1, (HF3.out _ hZ0).2.2⟩ (fun hHeld => ?_)
                          clear hK K
                          refine norm_ (a' := ?_) ?_ ?_
                          rotate_left
                          · show Act.put _ (some 119) _ = _
                            simp only [Act.put, List.setIfInBounds_toArray, List.set_cons_zero, List.set_cons_succ, i64_w, i32_w]
                            rfl
                          refine pure_ (i := 11) (N := some 120) (v := ?_) (a' := ?_) #[true, true, true, true, true, true, true, true, true, true, true, true, false, false] rfl rfl (by kernel_rfl) (fun _ _ _ h => h) (Or.inl ⟨by rfl, ?_⟩) ?_ ?_
                          rotate_left
                          · intro w'
                            go_simp
                            with_reducible rfl
                          rotate_left
                          · simp only [Act.put, List.setIfInBounds_toArray, List.set_cons_zero, List.set_cons_succ, i64_w, i32_w]
                            rfl
                          refine one_ (i := 12) (N := some 8) #[true, true, true, true, true, true, true, true, true, true, true, true, true, false] rfl rfl (by kernel_rfl) (by decide) (fun K hK => ?_)
                          refine value_ (w1 := ?_) (v := ?_) (by rfl) rfl ?_ ?_
                          rotate_left 2
                          · go_simp
                            constructor
                            · rfl
                            · rfl
                          refine hK.out _ _ ⟨(HF3.out _ hZ1).1, (HF3.out _ hZ1).2.1, (HF3.out _ hZ1).2.2⟩ (fun hHeld => ?_)
                          clear hK K
                          refine norm_ (a' := ?_) ?_ ?_
                          rotate_left
                          · show Act.put _ (some 8) _ = _
                            simp only [Act.put, List.setIfInBounds_toArray, List.set_cons_zero, List.set_cons_succ, i64_w, i32_w]
                            rfl
                          exact norm_ (by simp only [putAll, Act.put, List.setIfInBounds_toArray, List.set_cons_zero, List.set_cons_succ]) (hCont () _ rfl)
                        · skip
                          refine value_ (w1 := ?_) (v := ?_) (by rfl) rfl ?_ ?_
                          rotate_left 2
                          · go_simp
                            constructor
                            · rfl
                            · rfl
                          refine hK.out _ _ ⟨(HF3.out _ hZ1).1, (HF3.out _ hZ1).2.1, (HF3.out _ hZ1).2.2⟩ (fun hHeld => ?_)
                          clear hK K
                          refine norm_ (a' := ?_) ?_ ?_
                          rotate_left
                          · show Act.put _ (some 8) _ = _
                            simp only [Act.put, List.setIfInBounds_toArray, List.set_cons_zero, List.set_cons_succ, i64_w, i32_w]
                            rfl
                          refine one_ (i := 10) (N := some 119) #[true, true, true, true, true, true, true, true, true, true, true, false, true, false] rfl rfl (by kernel_rfl) (by decide) (fun K hK => ?_)
                          refine goes_ Tryz.func17 (by kernel_rfl) rfl #[.string nn] (by rfl) rfl rfl (by simp only [List.map_toArray, List.map_cons, List.map_nil]; rfl) ?_
                          with_reducible refine (number_calls nn _ HZN.out).mono ?_
                          rintro e y ⟨rfl, rfl⟩
                          refine ⟨_, rfl, ?_⟩
                          refine hK.out _ _ ⟨(HF3.out _ hZ1).1, (HF3.out _ hZ1).2.1, (HF3.out _ hZ1).2.2⟩ (fun hHeld => ?_)
                          clear hK K
                          refine norm_ (a' := ?_) ?_ ?_
                          rotate_left
                          · show Act.put _ (some 119) _ = _
                            simp only [Act.put, List.setIfInBounds_toArray, List.set_cons_zero, List.set_cons_succ, i64_w, i32_w]
                            rfl
                          refine pure_ (i := 11) (N := some 120) (v := ?_) (a' := ?_) #[true, true, true, true, true, true, true, true, true, true, true, true, true, false] rfl rfl (by kernel_rfl) (fun _ _ _ h => h) (Or.inl ⟨by rfl, ?_⟩) ?_ ?_
                          rotate_left
                          · intro w'
                            go_simp
                            with_reducible rfl
                          rotate_left
                          · simp only [Act.put, List.setIfInBounds_toArray, List.set_cons_zero, List.set_cons_succ, i64_w, i32_w]
                            rfl
                          exact norm_ (by simp only [putAll, Act.put, List.setIfInBounds_toArray, List.set_cons_zero, List.set_cons_succ]) (hCont () _ rfl)
                      · skip
                        refine value_ (w1 := ?_) (v := ?_) (by rfl) rfl ?_ ?_
                        rotate_left 2
                        · go_simp
                          constructor
                          · rfl
                          · rfl
                        refine hK.out _ _ ⟨(HF3.out _ hZ1).1, (HF3.out _ hZ1).2.1, (HF3.out _ hZ1).2.2⟩ (fun hHeld => ?_)
                        clear hK K
                        refine norm_ (a' := ?_) ?_ ?_
                        rotate_left
                        · show Act.put _ (some 8) _ = _
                          simp only [Act.put, List.setIfInBounds_toArray, List.set_cons_zero, List.set_cons_succ, i64_w, i32_w]
                          rfl
                        refine one_ (i := 6) (N := some 115) #[true, true, true, true, true, true, true, true, true, true, false, false, true, false] rfl rfl (by kernel_rfl) (by decide) (fun K hK => ?_)
                        refine goes_ Tryz.func17 (by kernel_rfl) rfl #[.string na] (by rfl) rfl rfl (by simp only [List.map_toArray, List.map_cons, List.map_nil]; rfl) ?_
                        with_reducible refine (number_calls na _ HZA.out).mono ?_
                        rintro e y ⟨rfl, rfl⟩
                        refine ⟨_, rfl, ?_⟩
                        refine hK.out _ _ ⟨(HF3.out _ hZ1).1, (HF3.out _ hZ1).2.1, (HF3.out _ hZ1).2.2⟩ (fun hHeld => ?_)
                        clear hK K
                        refine norm_ (a' := ?_) ?_ ?_
                        rotate_left
                        · show Act.put _ (some 115) _ = _
                          simp only [Act.put, List.setIfInBounds_toArray, List.set_cons_zero, List.set_cons_succ, i64_w, i32_w]
                          rfl
                        refine one_ (i := 10) (N := some 119) #[true, true, true, true, true, true, true, true, true, true, true, false, true, false] rfl rfl (by kernel_rfl) (by decide) (fun K hK => ?_)
                        refine goes_ Tryz.func17 (by kernel_rfl) rfl #[.string nn] (by rfl) rfl rfl (by simp only [List.map_toArray, List.map_cons, List.map_nil]; rfl) ?_
                        with_reducible refine (number_calls nn _ HZN.out).mono ?_
                        rintro e y ⟨rfl, rfl⟩
                        refine ⟨_, rfl, ?_⟩
                        refine hK.out _ _ ⟨(HF3.out _ hZ1).1, (HF3.out _ hZ1).2.1, (HF3.out _ hZ1).2.2⟩ (fun hHeld => ?_)
                        clear hK K
                        refine norm_ (a' := ?_) ?_ ?_
                        rotate_left
                        · show Act.put _ (some 119) _ = _
                          simp only [Act.put, List.setIfInBounds_toArray, List.set_cons_zero, List.set_cons_succ, i64_w, i32_w]
                          rfl
                        refine pure_ (i := 11) (N := some 120) (v := ?_) (a' := ?_) #[true, true, true, true, true, true, true, true, true, true, true, true, true, false] rfl rfl (by kernel_rfl) (fun _ _ _ h => h) (Or.inl ⟨by rfl, ?_⟩) ?_ ?_
                        rotate_left
                        · intro w'
                          go_simp
                          with_reducible rfl
                        rotate_left
                        · simp only [Act.put, List.setIfInBounds_toArray, List.set_cons_zero, List.set_cons_succ, i64_w, i32_w]
                          rfl
                        exact norm_ (by simp only [putAll, Act.put, List.setIfInBounds_toArray, List.set_cons_zero, List.set_cons_succ]) (hCont () _ rfl)
                    rintro _ x9 rfl
                    have hHeld := HF3.out _ hZ1
                    refine norm_ (a' := ?_) ?_ ?_
                    rotate_left
                    · simp only [putAll, Act.put, List.setIfInBounds_toArray, List.set_cons_zero, List.set_cons_succ]
                      rfl
                    refine last_ (i := 13) (N := none) #[true, true, true, true, true, true, true, true, true, true, true, true, true, true] rfl rfl (by kernel_rfl) (by decide) (fun K hK => ?_)
                    refine skip_ (w1 := ?_) (by rfl) rfl ?_ ?_
                    rotate_left
                    · go_simp
                      rfl
                    refine hK.out _ _ ?_
                    clear hK K
                    refine done_ (by kernel_rfl) ?_
                    clear hHeld hZ0 hZ1
                    obtain ⟨va, hva⟩ : ∃ v, numF na.data.toList = v := ⟨_, rfl⟩
                    obtain ⟨vn, hvn⟩ : ∃ v, numF nn.data.toList = v := ⟨_, rfl⟩
                    have hvab := numF_bd na.data.toList
                    have hvnb := numF_bd nn.data.toList
                    rw [hva] at hvab
                    rw [hvn] at hvnb
                    obtain ⟨Z, hZ⟩ : ∃ Z, Z = (w3.alloc (.cells #[.string nx, .int .i64 (numF na.data.toList), .int .i64 (numF nn.data.toList)] 57)).drew := ⟨_, rfl⟩
                    rw [← hZ]
                    rw [hva, hvn] at hZ ⊢
                    rw [hva, hvn] at HLN
                    have HVA := Lib.hid hva
                    have HVN := Lib.hid hvn
                    clear hva hvn
                    have hzb : Below w3.heap.size w3 Z := by rw [hZ]; exact ((Below.refl _ _).alloc (Nat.le_refl _) _).drew
                    have hzp : Z.heap[w3.heap.size]? = some (.cells #[.string nx, .int .i64 va, .int .i64 vn] 57 (0, 0)) := by rw [hZ]; exact heap_alloc_new w3 _
                    have hzs : w3.heap.size < Z.heap.size := by rw [hZ]; simp
                    have hrrZ := hrr3.below hzb
                    have hb0Z : Below w2.heap.size w2 Z := hb03.trans (hzb.mono hb03.size)
                    have HBZ : Hid (Below w.heap.size w Z) := HB02.out.trans (hb0Z.mono hwq)
                    have e0 : Z.cell? ⟨w3.heap.size, 0, none⟩ = some (.string nx) := by simp [World.cell?, hzp]
                    have e1 : Z.cell? ⟨w3.heap.size, 1, none⟩ = some (.int .i64 va) := by simp [World.cell?, hzp]
                    have e2 : Z.cell? ⟨w3.heap.size, 2, none⟩ = some (.int .i64 vn) := by simp [World.cell?, hzp]
                    have c2 : Z.cell? ⟨w2.heap.size, 2, none⟩ = some (.int .i64 z2) := by simp [World.cell?, hrrZ.cells]
                    have c4 : Z.cell? ⟨w2.heap.size, 4, none⟩ = some (.slice A L.length ca) := by simp [World.cell?, hrrZ.cells]
                    have hentZ : Ents Z A L := Ents.of_own rfl hrrZ.own
                    have hbk : Hid (∀ b, (Value.slice A L.length ca).ownBlock = some b → b < w3.heap.size) := fun b hb => (hrr3.own.lt b hb).2
                    have HZP := Lib.hid hzp
                    have HRZ2 := Lib.hid hrrZ
                    have HENT := Lib.hid hentZ
                    clear hZ hzb hzp hrr3 hrrZ hb03 hentZ
                    by_cases hA : va < 0
                    · have HN : Hid (refB s.data.toList = none) := HBAD.out (fun r => by
                        rw [HLN.out, if_neg]
                        unfold lineOk
                        rw [HVA.out, HVN.out, decide_eq_false (show ¬ 0 ≤ va by omega)]; simp)
                      go_wp2_with fail
                      go_quiet (fail)
                      go_wp2_with fail
                      go_ret
                      exact ⟨below_drewN HBZ.out _, .inr ⟨HN.out, rfl⟩⟩
                    have dA : decide (va < 0) = false := decide_eq_false hA
                    by_cases hB : vn < 0
                    · have HN : Hid (refB s.data.toList = none) := HBAD.out (fun r => by
                        rw [HLN.out, if_neg]
                        unfold lineOk
                        rw [HVA.out, HVN.out, decide_eq_false (show ¬ 0 ≤ vn by omega)]; simp)
                      go_wp2_with fail
                      go_quiet (fail)
                      go_wp2_with fail
                      go_ret
                      exact ⟨below_drewN HBZ.out _, .inr ⟨HN.out, rfl⟩⟩
                    have dB : decide (vn < 0) = false := decide_eq_false hB
                    by_cases hC : z2 < vn
                    · have HN : Hid (refB s.data.toList = none) := HBAD.out (fun r => by
                        rw [HLN.out, if_neg]
                        unfold lineOk
                        rw [HVA.out, HVN.out, decide_eq_false (show ¬ vn ≤ z2 by omega)]; simp)
                      go_wp2_with fail
                      go_quiet (fail)
                      go_wp2_with fail
                      go_ret
                      exact ⟨below_drewN HBZ.out _, .inr ⟨HN.out, rfl⟩⟩
                    have dC : decide (z2 < vn) = false := decide_eq_false hC
                    have hlok : lastB L nx.data.toList = true → Hid (lineOk z2 L nx.data.toList na.data.toList nn.data.toList = true) := fun h => by
                      unfold Hid lineOk
                      rw [ba_self, HNM.out, HVA.out, HVN.out, h, decide_eq_true (show 0 ≤ va by omega), decide_eq_true (show 0 ≤ vn by omega), decide_eq_true (show vn ≤ z2 by omega)]; rfl
                    rcases List.eq_nil_or_concat L with hL0 | ⟨L', le, hL0⟩
                    · have hlast : Hid (lastB L nx.data.toList = true) := by rw [hL0]; rfl
                      have hL1 : L.length = 0 := by rw [hL0]; rfl
                      have HL1 := Lib.hid hL1
                      rw [hL1] at c4
                      have HOK := hlok hlast.out
                      clear hL0 hL1 hlok
                      go_wp2_with fail
                      go_quiet (fail)

                      obtain ⟨V, hV⟩ : ∃ V, V = Z.drewN nq := ⟨_, rfl⟩
                      have hrrV : Rr w2.heap.size V w2.heap.size ⟨z0, z1, z2, mk, L⟩ A ca := by rw [hV]; exact HRZ2.out.drewN nq
                      have hbV : Below w2.heap.size w2 V := by rw [hV]; exact below_drewN hb0Z nq
                      have hzV : V.heap[w3.heap.size]? = some (.cells #[.string nx, .int .i64 va, .int .i64 vn] 57 (0, 0)) := by rw [hV]; exact HZP.out
                      have hzVs : w3.heap.size < V.heap.size := by rw [hV]; exact hzs
                      rw [← hV]
                      clear hV
                      have f0 : V.cell? ⟨w3.heap.size, 0, none⟩ = some (.string nx) := by simp [World.cell?, hzV]
                      have f1 : V.cell? ⟨w3.heap.size, 1, none⟩ = some (.int .i64 va) := by simp [World.cell?, hzV]
                      have f2 : V.cell? ⟨w3.heap.size, 2, none⟩ = some (.int .i64 vn) := by simp [World.cell?, hzV]
                      have f4 : V.cell? ⟨w2.heap.size, 4, none⟩ = some (.slice A L.length ca) := by simp [World.cell?, hrrV.cells]
                      have g4 : V.frozen? ⟨w2.heap.size, 4, none⟩ = false := by simp [World.frozen?, hrrV.cells]
                      have hqV := (Array.getElem?_eq_some_iff.1 hrrV.cells).1
                      have HG4 : Hid (∀ X, Below V.heap.size V X → X.cell? ⟨w2.heap.size, 4, none⟩ = some (.slice A L.length ca) ∧ X.cell? ⟨w3.heap.size, 0, none⟩ = some (.string nx) ∧ X.cell? ⟨w3.heap.size, 1, none⟩ = some (.int .i64 va) ∧ X.cell? ⟨w3.heap.size, 2, none⟩ = some (.int .i64 vn)) := fun X hX =>
                        ⟨(hX.cell (p := ⟨w2.heap.size, 4, none⟩) hqV).trans f4, (hX.cell (p := ⟨w3.heap.size, 0, none⟩) hzVs).trans f0, (hX.cell (p := ⟨w3.heap.size, 1, none⟩) hzVs).trans f1, (hX.cell (p := ⟨w3.heap.size, 2, none⟩) hzVs).trans f2⟩
                      have HRV := Lib.hid hrrV
                      have HGV := Lib.hid g4
                      have hll3 := hlen.out
                      have hnx1 : nx.data.toList.length ≤ 1000 := by have h3 := ((nameB_iff nx).1 HNM.out).2.1; have h4 : nx.data.toList.length = nx.size := by simp
                                                                     omega
                      have hbase : w2.heap.size ≤ V.heap.size := hbV.size
                      have hZ0 : Below V.heap.size V V.drew := (Below.refl _ _).drew
                      have hZ1 : Below V.heap.size V (V.drew.alloc (.cells #[.string nx, .int .i64 va, .int .i64 vn] 57)) := hZ0.alloc (Nat.le_refl _) _
                      clear e0 e1 e2 c2 c4 f0 f1 f2 f4 g4 hrrV hzV
                      go_wp2_with fail
                      refine start_ (n := 11) (S := fun w' => w'.cell? ⟨w2.heap.size, 4, none⟩ = some (.slice A L.length ca) ∧ w'.cell? ⟨w3.heap.size, 0, none⟩ = some (.string nx) ∧ w'.cell? ⟨w3.heap.size, 1, none⟩ = some (.int .i64 va) ∧ w'.cell? ⟨w3.heap.size, 2, none⟩ = some (.int .i64 vn)) (ds := [10]) #[false, false, false, false, false, false, false, false, false, false, false] (by kernel_rfl) rfl rfl ⟨(HG4.out _ hZ0).1, (HG4.out _ hZ0).2.1, (HG4.out _ hZ0).2.2.1, (HG4.out _ hZ0).2.2.2⟩ (fun hHeld => ?_)
                      refine pure_ (i := 0) (N := some 164) (v := ?_) (a' := ?_) #[true, false, false, false, false, false, false, false, false, false, false] rfl rfl (by kernel_rfl) (fun _ _ _ h => h) (Or.inl ⟨by rfl, ?_⟩) ?_ ?_
                      rotate_left
                      · intro w'
                        go_simp
                        with_reducible rfl
                      rotate_left
                      · simp only [Act.put, List.setIfInBounds_toArray, List.set_cons_zero, List.set_cons_succ, i64_w, i32_w]
                        rfl
                      refine pure_ (i := 1) (N := some 165) (v := ?_) (a' := ?_) #[true, true, false, false, false, false, false, false, false, false, false] rfl rfl (by kernel_rfl) (fun _ _ _ h => h) (Or.inl ⟨by rfl, ?_⟩) ?_ ?_
                      rotate_left
                      · intro w'
                        go_simp
                        with_reducible rfl
                      rotate_left
                      · simp only [Act.put, List.setIfInBounds_toArray, List.set_cons_zero, List.set_cons_succ, i64_w, i32_w]
                        rfl
                      refine pure_ (i := 2) (N := some 166) (v := ?_) (a' := ?_) #[true, true, true, false, false, false, false, false, false, false, false] rfl rfl (by kernel_rfl) (fun _ _ _ h => h) (Or.inl ⟨by rfl, ?_⟩) ?_ ?_
                      rotate_left
                      · intro w'
                        go_simp
                        with_reducible rfl
                      rotate_left
                      · simp only [Act.put, List.setIfInBounds_toArray, List.set_cons_zero, List.set_cons_succ, i64_w, i32_w]
                        rfl
                      refine pure_ (i := 3) (N := some 167) (v := ?_) (a' := ?_) #[true, true, true, true, false, false, false, false, false, false, false] rfl rfl (by kernel_rfl) (fun _ _ _ h => h) (Or.inl ⟨by rfl, ?_⟩) ?_ ?_
                      rotate_left
                      · intro w'
                        go_simp
                        with_reducible rfl
                      rotate_left
                      · simp only [Act.put, List.setIfInBounds_toArray, List.set_cons_zero, List.set_cons_succ, i64_w, i32_w]
                        rfl
                      refine take_ (i := 4) (N := some 168) (v := ?_) (a' := ?_) #[true, true, true, true, true, false, false, false, false, false, false] rfl rfl (by kernel_rfl) (fun _ _ _ h => h) (Or.inl ⟨by rfl, ?_⟩) hHeld ?_ ?_
                      rotate_left
                      · rintro w' ⟨s0, s1, s2, s3⟩
                        go_simp
                        with_reducible rfl
                      rotate_left
                      · simp only [Act.put, List.setIfInBounds_toArray, List.set_cons_zero, List.set_cons_succ, i64_w, i32_w]
                        rfl
                      refine take_ (i := 5) (N := some 169) (v := ?_) (a' := ?_) #[true, true, true, true, true, true, false, false, false, false, false] rfl rfl (by kernel_rfl) (fun _ _ _ h => h) (Or.inl ⟨by rfl, ?_⟩) hHeld ?_ ?_
                      rotate_left
                      · rintro w' ⟨s0, s1, s2, s3⟩
                        go_simp
                        with_reducible rfl
                      rotate_left
                      · simp only [Act.put, List.setIfInBounds_toArray, List.set_cons_zero, List.set_cons_succ, i64_w, i32_w]
                        rfl
                      refine one_ (i := 6) (N := some 170) #[true, true, true, true, true, true, true, false, false, false, false] rfl rfl (by kernel_rfl) (by decide) (fun K hK => ?_)
                      refine value_ (w1 := ?_) (v := ?_) (by rfl) rfl ?_ ?_
                      rotate_left 2
                      · go_simp
                        constructor
                        · rfl
                        · rfl
                      refine hK.out _ _ ⟨(HG4.out _ hZ1).1, (HG4.out _ hZ1).2.1, (HG4.out _ hZ1).2.2.1, (HG4.out _ hZ1).2.2.2⟩ (fun hHeld => ?_)
                      clear hK K
                      refine norm_ (a' := ?_) ?_ ?_
                      rotate_left
                      · show Act.put _ (some 170) _ = _
                        simp only [Act.put, List.setIfInBounds_toArray, List.set_cons_zero, List.set_cons_succ, i64_w, i32_w]
                        rfl
                      refine one_ (i := 7) (N := some 171) #[true, true, true, true, true, true, true, true, false, false, false] rfl rfl (by kernel_rfl) (by decide) (fun K hK => ?_)
                      refine step_append_any _ (by rfl) (.tmp 168) (.tmp 170) _ (by rfl) w2.heap.size 57 i0 _ 3 32 Tryz.underlying52 HI0.out HZ0.out HZ1.out HZ2.out rfl (by omega) (.slice A L.length ca) L.length (cellsS L) (by rfl) (by exact (HRV.out.own.alloc _)) _ (some ⟨V.heap.size, 0, none⟩) 1 1 [.string nx, .int .i64 va, .int .i64 vn] (by rfl) (by exact reads_new V.drew nx va vn) (by simp [Value.oneCell']) (by unfold maxLen; omega) (by omega) (by exact Nat.le_trans hbase hZ1.size) ?_
                      intro v7 w7 hown7 hg7 _
                      obtain ⟨g9, c9, rfl, _, _⟩ := hown7.form (by omega)
                      have hb7 : Below w2.heap.size w2 w7 := (hbV.trans (hZ1.mono hbase)).grown hg7 (Nat.le_trans hbase hZ1.size) (fun b hb => (HRV.out.own.lt b hb).1)
                      have hpush := HRV.out.push (e := (nx.data.toList, (va, vn))) hZ1 (by rw [show cellsE (nx.data.toList, (va, vn)) = [.string nx, .int .i64 va, .int .i64 vn] from by simp only [cellsE, ba_self]]; exact hown7) hg7 hlast.out hnx1
                      have hb7q := (hg7.block _ (Nat.lt_of_lt_of_le hqV hZ1.size) HRV.out.block_ne).trans ((hZ1.block _ hqV).trans HRV.out.cells)
                      have hfz7 : w7.frozen? ⟨w2.heap.size, 4, none⟩ = false := by simp [World.frozen?, hb7q]
                      clear hb7q
                      refine hK.out _ _ ⟨((hg7.cell_far ⟨w2.heap.size, 4, none⟩ (Nat.lt_of_lt_of_le hqV hZ1.size) HRV.out.block_ne).trans (HG4.out _ hZ1).1), ((hg7.cell_far ⟨w3.heap.size, 0, none⟩ (Nat.lt_of_lt_of_le hzVs hZ1.size) (fun h => absurd (hbk.out _ h.symm) (Nat.lt_irrefl _))).trans (HG4.out _ hZ1).2.1), ((hg7.cell_far ⟨w3.heap.size, 1, none⟩ (Nat.lt_of_lt_of_le hzVs hZ1.size) (fun h => absurd (hbk.out _ h.symm) (Nat.lt_irrefl _))).trans (HG4.out _ hZ1).2.2.1), ((hg7.cell_far ⟨w3.heap.size, 2, none⟩ (Nat.lt_of_lt_of_le hzVs hZ1.size) (fun h => absurd (hbk.out _ h.symm) (Nat.lt_irrefl _))).trans (HG4.out _ hZ1).2.2.2)⟩ (fun hHeld => ?_)
                      clear hK K
                      refine norm_ (a' := ?_) ?_ ?_
                      rotate_left
                      · show Act.put _ (some 171) _ = _
                        simp only [Act.put, List.setIfInBounds_toArray, List.set_cons_zero, List.set_cons_succ, i64_w, i32_w]
                        rfl
                      refine pure_ (i := 8) (N := some 172) (v := ?_) (a' := ?_) #[true, true, true, true, true, true, true, true, true, false, false] rfl rfl (by kernel_rfl) (fun _ _ _ h => h) (Or.inl ⟨by rfl, ?_⟩) ?_ ?_
                      rotate_left
                      · intro w'
                        go_simp
                        with_reducible rfl
                      rotate_left
                      · simp only [Act.put, List.setIfInBounds_toArray, List.set_cons_zero, List.set_cons_succ, i64_w, i32_w]
                        rfl
                      refine pure_ (i := 9) (N := some 173) (v := ?_) (a' := ?_) #[true, true, true, true, true, true, true, true, true, true, false] rfl rfl (by kernel_rfl) (fun _ _ _ h => h) (Or.inl ⟨by rfl, ?_⟩) ?_ ?_
                      rotate_left
                      · intro w'
                        go_simp
                        with_reducible rfl
                      rotate_left
                      · simp only [Act.put, List.setIfInBounds_toArray, List.set_cons_zero, List.set_cons_succ, i64_w, i32_w]
                        rfl
                      refine last_ (i := 10) (N := none) #[true, true, true, true, true, true, true, true, true, true, true] rfl rfl (by kernel_rfl) (by decide) (fun K hK => ?_)
                      refine skip_ (w1 := ?_) (by rfl) rfl ?_ ?_
                      rotate_left
                      · go_simp
                        rfl
                      refine hK.out _ _ ?_
                      clear hK K
                      refine done_ (by kernel_rfl) ?_
                      have hbS := hb7.setCell (p := ⟨w2.heap.size, 4, none⟩) (Nat.le_refl _) (.slice (some ⟨g9, 0, none⟩) (L.length + 1) c9)
                      go_wp2_with fail
                      have hkm : IntKind.i64.wrap ((k : Int) + 1) = ((k + 1 : Nat) : Int) := by rw [IntWalk.i64_in _ (by omega)]; omega
                      go_roundw
                      case rel =>
                        have HNEXT : refL z2 ((u'.map (·.data.toList)).take (k + 1 - 1)) [] = some (L ++ [(nx.data.toList, (va, vn))]) := by
                          obtain ⟨k', rfl⟩ : ∃ k', k = k' + 1 := ⟨k - 1, by omega⟩
                          have e1 : (u'.map (·.data.toList)).take (k' + 1 + 1 - 1) = (u'.map (·.data.toList)).take (k' + 1 - 1) ++ [x.data.toList] := by
                            have h9 := HLINE.out
                            simp only [Nat.add_sub_cancel] at h9 ⊢
                            rw [List.take_add_one, h9]; rfl
                          rw [e1, refL_append, HRL.out, Option.bind_some, HLN.out, if_pos HOK.out]; rfl
                        refine ⟨k + 1, L ++ [(nx.data.toList, (va, vn))], _, _, by omega, by omega, ?_, hpush, HNEXT, hbS, by simp; omega⟩
                        first
                          | rfl
                          | (simp only [hkm]; done)
                          | (simp; done)
                      case measure =>
                        first
                          | (simp only [hkm, intOf]; omega)
                          | (simp [intOf]; omega)

                    · have hLn : L[L.length - 1]? = some le := by rw [hL0]; simp
                      have hLp : 0 < L.length := by rw [hL0]; simp
                      obtain ⟨gB, gO, rfl, hgB, m0, _, _⟩ := HENT.out (L.length - 1) le hLn
                      obtain ⟨sk, hsk⟩ : ∃ sk : ByteArray, (⟨le.1.toArray⟩ : ByteArray) = sk := ⟨_, rfl⟩
                      have hskl : sk.data.toList = le.1 := by rw [← hsk]
                      rw [hsk] at m0
                      have hlb : lastB L nx.data.toList = Op.bytesLess sk.toList nx.toList := by
                        rw [hL0]
                        unfold lastB
                        simp only [List.concat_eq_append, List.getLast?_append, List.getLast?_singleton, Option.some_or]
                        rw [toList_data, toList_data, less_before, hskl]
                      obtain ⟨m, hm⟩ : ∃ m, L.length = m + 1 := ⟨L.length - 1, by omega⟩
                      have HMM := Lib.hid hm
                      rw [hm] at c4
                      rw [hm, Nat.add_sub_cancel] at m0
                      have hmb : m ≤ 3000 := by have := hlen.out; omega
                      have hw1 : IntKind.i64.wrap (m : Int) = m := IntWalk.i64_in _ (by omega)
                      have n0 : (0 : Int) ≤ (m : Int) := by omega
                      have n1 : (m : Int) < (m : Int) + 1 := by omega
                      have n2' : (m : Int).toNat = m := by omega
                      have n3 : m < m + 1 := by omega
                      have dM : decide ((0 : Int) < (m : Int) + 1) = true := decide_eq_true (by omega)
                      clear hL0 hLn hLp hm hsk hskl
                      cases hless : Op.bytesLess sk.toList nx.toList with
                      | false =>
                        have HN : Hid (refB s.data.toList = none) := HBAD.out (fun r => by
                          rw [HLN.out, if_neg]
                          unfold lineOk
                          rw [hlb, hless]; simp)
                        clear hlb hlok
                        go_wp2_with fail
                        go_quiet (fail)
                        clear hw1
                        go_wp2_with fail
                        go_ret
                        exact ⟨below_drewN HBZ.out _, .inr ⟨HN.out, rfl⟩⟩
                      | true =>
                        have hlast : Hid (lastB L nx.data.toList = true) := by rw [Hid, hlb, hless]
                        have HOK := hlok hlast.out
                        clear hlb hlok
                        go_wp2_with fail
                        go_quiet (fail)
                        clear hw1 n0 n1 n2' n3
                        obtain ⟨V, hV⟩ : ∃ V, V = Z.drewN nq := ⟨_, rfl⟩
                        have hrrV : Rr w2.heap.size V w2.heap.size ⟨z0, z1, z2, mk, L⟩ (some ⟨gB, gO, none⟩) ca := by rw [hV]; exact HRZ2.out.drewN nq
                        have hbV : Below w2.heap.size w2 V := by rw [hV]; exact below_drewN hb0Z nq
                        have hzV : V.heap[w3.heap.size]? = some (.cells #[.string nx, .int .i64 va, .int .i64 vn] 57 (0, 0)) := by rw [hV]; exact HZP.out
                        have hzVs : w3.heap.size < V.heap.size := by rw [hV]; exact hzs
                        rw [← hV]
                        clear hV
                        have f0 : V.cell? ⟨w3.heap.size, 0, none⟩ = some (.string nx) := by simp [World.cell?, hzV]
                        have f1 : V.cell? ⟨w3.heap.size, 1, none⟩ = some (.int .i64 va) := by simp [World.cell?, hzV]
                        have f2 : V.cell? ⟨w3.heap.size, 2, none⟩ = some (.int .i64 vn) := by simp [World.cell?, hzV]
                        have f4 : V.cell? ⟨w2.heap.size, 4, none⟩ = some (.slice (some ⟨gB, gO, none⟩) L.length ca) := by simp [World.cell?, hrrV.cells]
                        have g4 : V.frozen? ⟨w2.heap.size, 4, none⟩ = false := by simp [World.frozen?, hrrV.cells]
                        have hqV := (Array.getElem?_eq_some_iff.1 hrrV.cells).1
                        have HG4 : Hid (∀ X, Below V.heap.size V X → X.cell? ⟨w2.heap.size, 4, none⟩ = some (.slice (some ⟨gB, gO, none⟩) L.length ca) ∧ X.cell? ⟨w3.heap.size, 0, none⟩ = some (.string nx) ∧ X.cell? ⟨w3.heap.size, 1, none⟩ = some (.int .i64 va) ∧ X.cell? ⟨w3.heap.size, 2, none⟩ = some (.int .i64 vn)) := fun X hX =>
                          ⟨(hX.cell (p := ⟨w2.heap.size, 4, none⟩) hqV).trans f4, (hX.cell (p := ⟨w3.heap.size, 0, none⟩) hzVs).trans f0, (hX.cell (p := ⟨w3.heap.size, 1, none⟩) hzVs).trans f1, (hX.cell (p := ⟨w3.heap.size, 2, none⟩) hzVs).trans f2⟩
                        have HRV := Lib.hid hrrV
                        have HGV := Lib.hid g4
                        have hll3 := hlen.out
                        have hnx1 : nx.data.toList.length ≤ 1000 := by have h3 := ((nameB_iff nx).1 HNM.out).2.1; have h4 : nx.data.toList.length = nx.size := by simp
                                                                       omega
                        have hbase : w2.heap.size ≤ V.heap.size := hbV.size
                        have hZ0 : Below V.heap.size V V.drew := (Below.refl _ _).drew
                        have hZ1 : Below V.heap.size V (V.drew.alloc (.cells #[.string nx, .int .i64 va, .int .i64 vn] 57)) := hZ0.alloc (Nat.le_refl _) _
                        clear e0 e1 e2 c2 c4 f0 f1 f2 f4 g4 hrrV hzV
                        go_wp2_with fail
                        refine start_ (n := 11) (S := fun w' => w'.cell? ⟨w2.heap.size, 4, none⟩ = some (.slice (some ⟨gB, gO, none⟩) L.length ca) ∧ w'.cell? ⟨w3.heap.size, 0, none⟩ = some (.string nx) ∧ w'.cell? ⟨w3.heap.size, 1, none⟩ = some (.int .i64 va) ∧ w'.cell? ⟨w3.heap.size, 2, none⟩ = some (.int .i64 vn)) (ds := [10]) #[false, false, false, false, false, false, false, false, false, false, false] (by kernel_rfl) rfl rfl ⟨(HG4.out _ hZ0).1, (HG4.out _ hZ0).2.1, (HG4.out _ hZ0).2.2.1, (HG4.out _ hZ0).2.2.2⟩ (fun hHeld => ?_)
                        refine pure_ (i := 0) (N := some 164) (v := ?_) (a' := ?_) #[true, false, false, false, false, false, false, false, false, false, false] rfl rfl (by kernel_rfl) (fun _ _ _ h => h) (Or.inl ⟨by rfl, ?_⟩) ?_ ?_
                        rotate_left
                        · intro w'
                          go_simp
                          with_reducible rfl
                        rotate_left
                        · simp only [Act.put, List.setIfInBounds_toArray, List.set_cons_zero, List.set_cons_succ, i64_w, i32_w]
                          rfl
                        refine pure_ (i := 1) (N := some 165) (v := ?_) (a' := ?_) #[true, true, false, false, false, false, false, false, false, false, false] rfl rfl (by kernel_rfl) (fun _ _ _ h => h) (Or.inl ⟨by rfl, ?_⟩) ?_ ?_
                        rotate_left
                        · intro w'
                          go_simp
                          with_reducible rfl
                        rotate_left
                        · simp only [Act.put, List.setIfInBounds_toArray, List.set_cons_zero, List.set_cons_succ, i64_w, i32_w]
                          rfl
                        refine pure_ (i := 2) (N := some 166) (v := ?_) (a' := ?_) #[true, true, true, false, false, false, false, false, false, false, false] rfl rfl (by kernel_rfl) (fun _ _ _ h => h) (Or.inl ⟨by rfl, ?_⟩) ?_ ?_
                        rotate_left
                        · intro w'
                          go_simp
                          with_reducible rfl
                        rotate_left
                        · simp only [Act.put, List.setIfInBounds_toArray, List.set_cons_zero, List.set_cons_succ, i64_w, i32_w]
                          rfl
                        refine pure_ (i := 3) (N := some 167) (v := ?_) (a' := ?_) #[true, true, true, true, false, false, false, false, false, false, false] rfl rfl (by kernel_rfl) (fun _ _ _ h => h) (Or.inl ⟨by rfl, ?_⟩) ?_ ?_
                        rotate_left
                        · intro w'
                          go_simp
                          with_reducible rfl
                        rotate_left
                        · simp only [Act.put, List.setIfInBounds_toArray, List.set_cons_zero, List.set_cons_succ, i64_w, i32_w]
                          rfl
                        refine take_ (i := 4) (N := some 168) (v := ?_) (a' := ?_) #[true, true, true, true, true, false, false, false, false, false, false] rfl rfl (by kernel_rfl) (fun _ _ _ h => h) (Or.inl ⟨by rfl, ?_⟩) hHeld ?_ ?_
                        rotate_left
                        · rintro w' ⟨s0, s1, s2, s3⟩
                          go_simp
                          with_reducible rfl
                        rotate_left
                        · simp only [Act.put, List.setIfInBounds_toArray, List.set_cons_zero, List.set_cons_succ, i64_w, i32_w]
                          rfl
                        refine take_ (i := 5) (N := some 169) (v := ?_) (a' := ?_) #[true, true, true, true, true, true, false, false, false, false, false] rfl rfl (by kernel_rfl) (fun _ _ _ h => h) (Or.inl ⟨by rfl, ?_⟩) hHeld ?_ ?_
                        rotate_left
                        · rintro w' ⟨s0, s1, s2, s3⟩
                          go_simp
                          with_reducible rfl
                        rotate_left
                        · simp only [Act.put, List.setIfInBounds_toArray, List.set_cons_zero, List.set_cons_succ, i64_w, i32_w]
                          rfl
                        refine one_ (i := 6) (N := some 170) #[true, true, true, true, true, true, true, false, false, false, false] rfl rfl (by kernel_rfl) (by decide) (fun K hK => ?_)
                        refine value_ (w1 := ?_) (v := ?_) (by rfl) rfl ?_ ?_
                        rotate_left 2
                        · go_simp
                          constructor
                          · rfl
                          · rfl
                        refine hK.out _ _ ⟨(HG4.out _ hZ1).1, (HG4.out _ hZ1).2.1, (HG4.out _ hZ1).2.2.1, (HG4.out _ hZ1).2.2.2⟩ (fun hHeld => ?_)
                        clear hK K
                        refine norm_ (a' := ?_) ?_ ?_
                        rotate_left
                        · show Act.put _ (some 170) _ = _
                          simp only [Act.put, List.setIfInBounds_toArray, List.set_cons_zero, List.set_cons_succ, i64_w, i32_w]
                          rfl
                        refine one_ (i := 7) (N := some 171) #[true, true, true, true, true, true, true, true, false, false, false] rfl rfl (by kernel_rfl) (by decide) (fun K hK => ?_)
                        refine step_append_any _ (by rfl) (.tmp 168) (.tmp 170) _ (by rfl) w2.heap.size 57 i0 _ 3 32 Tryz.underlying52 HI0.out HZ0.out HZ1.out HZ2.out rfl (by omega) (.slice (some ⟨gB, gO, none⟩) L.length ca) L.length (cellsS L) (by rfl) (by exact (HRV.out.own.alloc _)) _ (some ⟨V.heap.size, 0, none⟩) 1 1 [.string nx, .int .i64 va, .int .i64 vn] (by rfl) (by exact reads_new V.drew nx va vn) (by simp [Value.oneCell']) (by unfold maxLen; omega) (by omega) (by exact Nat.le_trans hbase hZ1.size) ?_
                        intro v7 w7 hown7 hg7 _
                        obtain ⟨g9, c9, rfl, _, _⟩ := hown7.form (by omega)
                        have hb7 : Below w2.heap.size w2 w7 := (hbV.trans (hZ1.mono hbase)).grown hg7 (Nat.le_trans hbase hZ1.size) (fun b hb => (HRV.out.own.lt b hb).1)
                        have hpush := HRV.out.push (e := (nx.data.toList, (va, vn))) hZ1 (by rw [show cellsE (nx.data.toList, (va, vn)) = [.string nx, .int .i64 va, .int .i64 vn] from by simp only [cellsE, ba_self]]; exact hown7) hg7 hlast.out hnx1
                        have hb7q := (hg7.block _ (Nat.lt_of_lt_of_le hqV hZ1.size) HRV.out.block_ne).trans ((hZ1.block _ hqV).trans HRV.out.cells)
                        have hfz7 : w7.frozen? ⟨w2.heap.size, 4, none⟩ = false := by simp [World.frozen?, hb7q]
                        clear hb7q
                        refine hK.out _ _ ⟨((hg7.cell_far ⟨w2.heap.size, 4, none⟩ (Nat.lt_of_lt_of_le hqV hZ1.size) HRV.out.block_ne).trans (HG4.out _ hZ1).1), ((hg7.cell_far ⟨w3.heap.size, 0, none⟩ (Nat.lt_of_lt_of_le hzVs hZ1.size) (fun h => absurd (hbk.out _ h.symm) (Nat.lt_irrefl _))).trans (HG4.out _ hZ1).2.1), ((hg7.cell_far ⟨w3.heap.size, 1, none⟩ (Nat.lt_of_lt_of_le hzVs hZ1.size) (fun h => absurd (hbk.out _ h.symm) (Nat.lt_irrefl _))).trans (HG4.out _ hZ1).2.2.1), ((hg7.cell_far ⟨w3.heap.size, 2, none⟩ (Nat.lt_of_lt_of_le hzVs hZ1.size) (fun h => absurd (hbk.out _ h.symm) (Nat.lt_irrefl _))).trans (HG4.out _ hZ1).2.2.2)⟩ (fun hHeld => ?_)
                        clear hK K
                        refine norm_ (a' := ?_) ?_ ?_
                        rotate_left
                        · show Act.put _ (some 171) _ = _
                          simp only [Act.put, List.setIfInBounds_toArray, List.set_cons_zero, List.set_cons_succ, i64_w, i32_w]
                          rfl
                        refine pure_ (i := 8) (N := some 172) (v := ?_) (a' := ?_) #[true, true, true, true, true, true, true, true, true, false, false] rfl rfl (by kernel_rfl) (fun _ _ _ h => h) (Or.inl ⟨by rfl, ?_⟩) ?_ ?_
                        rotate_left
                        · intro w'
                          go_simp
                          with_reducible rfl
                        rotate_left
                        · simp only [Act.put, List.setIfInBounds_toArray, List.set_cons_zero, List.set_cons_succ, i64_w, i32_w]
                          rfl
                        refine pure_ (i := 9) (N := some 173) (v := ?_) (a' := ?_) #[true, true, true, true, true, true, true, true, true, true, false] rfl rfl (by kernel_rfl) (fun _ _ _ h => h) (Or.inl ⟨by rfl, ?_⟩) ?_ ?_
                        rotate_left
                        · intro w'
                          go_simp
                          with_reducible rfl
                        rotate_left
                        · simp only [Act.put, List.setIfInBounds_toArray, List.set_cons_zero, List.set_cons_succ, i64_w, i32_w]
                          rfl
                        refine last_ (i := 10) (N := none) #[true, true, true, true, true, true, true, true, true, true, true] rfl rfl (by kernel_rfl) (by decide) (fun K hK => ?_)
                        refine skip_ (w1 := ?_) (by rfl) rfl ?_ ?_
                        rotate_left
                        · go_simp
                          rfl
                        refine hK.out _ _ ?_
                        clear hK K
                        refine done_ (by kernel_rfl) ?_
                        have hbS := hb7.setCell (p := ⟨w2.heap.size, 4, none⟩) (Nat.le_refl _) (.slice (some ⟨g9, 0, none⟩) (L.length + 1) c9)
                        go_wp2_with fail
                        have hkm : IntKind.i64.wrap ((k : Int) + 1) = ((k + 1 : Nat) : Int) := by rw [IntWalk.i64_in _ (by omega)]; omega
                        go_roundw
                        case rel =>
                          have HNEXT : refL z2 ((u'.map (·.data.toList)).take (k + 1 - 1)) [] = some (L ++ [(nx.data.toList, (va, vn))]) := by
                            obtain ⟨k', rfl⟩ : ∃ k', k = k' + 1 := ⟨k - 1, by omega⟩
                            have e1 : (u'.map (·.data.toList)).take (k' + 1 + 1 - 1) = (u'.map (·.data.toList)).take (k' + 1 - 1) ++ [x.data.toList] := by
                              have h9 := HLINE.out
                              simp only [Nat.add_sub_cancel] at h9 ⊢
                              rw [List.take_add_one, h9]; rfl
                            rw [e1, refL_append, HRL.out, Option.bind_some, HLN.out, if_pos HOK.out]; rfl
                          refine ⟨k + 1, L ++ [(nx.data.toList, (va, vn))], _, _, by omega, by omega, ?_, hpush, HNEXT, hbS, by simp; omega⟩
                          first
                            | rfl
                            | (simp only [hkm]; done)
                            | (simp; done)
                        case measure =>
                          first
                            | (simp only [hkm, intOf]; omega)
                            | (simp [intOf]; omega)

                · have q1 : ((rs.length : Int) != 3) = true := by rw [bne_iff_ne]; omega
                  have q2 : ((rs.length : Int) == 3) = false := by rw [beq_eq_false_iff_ne]; omega
                  have HN : Hid (refB s.data.toList = none) := HBAD.out (fun r => by
                    simp only [refL]
                    rw [← HRS.out]
                    split
                    · rename_i h9
                      have := congrArg List.length h9
                      simp at this
                      exact absurd this h3
                    · rfl)
                  clear h3
                  go_wp2_with fail
                  go_ret
                  exact ⟨HB3.out, .inr ⟨HN.out, rfl⟩⟩
              · have HALL : Hid (refL z2 (u'.map (·.data.toList)) [] = some L) := by
                  have h1 := hrl
                  rw [List.take_of_length_le (by rw [HMID.out]; omega)] at h1
                  exact h1
                have hL1 : L.length ≤ 1000 := by
                  have h2 := refL_length z2 HALL.out
                  have h3 := parts_sum 10 s.data.toList
                  have h4 := HSL.out
                  rw [HLAST.out] at h3
                  simp only [List.map_cons, List.cons_append, sumLen, sumLen_app, List.length_nil] at h2 h3
                  omega
                have hok : Ok ⟨z0, z1, z2, mk, L⟩ := by
                  obtain ⟨N, hN, _, hgood, _⟩ := refL_inv _ _ _ _ HALL.out List.Pairwise.nil
                  rw [List.nil_append] at hN
                  subst hN
                  exact ⟨hk0, by simpa using (show z0 ≤ 1099511627776 by omega), hk1, by simpa using (show z1 ≤ 1099511627776 by omega), hk2, by simpa using (show z2 ≤ 1099511627776 by omega), hmlo, hmhi, fun e he => by
                    obtain ⟨_, g1, g2⟩ := hgood e he
                    exact ⟨g1.1, g1.2, g2.1, g2.2⟩⟩
                have hmc : wr.cell? ⟨w2.heap.size, 3, none⟩ = some (.int .i64 mk) := by simp [World.cell?, hrr.cells]
                have hrd : Rr w2.heap.size wr.drew w2.heap.size ⟨z0, z1, z2, mk, L⟩ A ca := hrr.below ((Below.refl _ _).drew)
                have hq2 : w2.heap.size < wr.drew.heap.size := (Array.getElem?_eq_some_iff.1 hrd.cells).1
                have HRD := Lib.hid hrd
                have HOK := Lib.hid hok
                clear hrl hrr hrd hok
                go_wp2_with fail
                refine start_ (n := 7) (S := fun w' => w'.cell? ⟨w2.heap.size, 3, none⟩ = some (.int .i64 mk)) (ds := []) #[false, false, false, false, false, false, false] (by kernel_rfl) rfl rfl (hmc) (fun hHeld => ?_)
                refine pure_ (i := 0) (N := some 174) (v := ?_) (a' := ?_) #[true, false, false, false, false, false, false] rfl rfl (by kernel_rfl) (fun _ _ _ h => h) (Or.inl ⟨by rfl, ?_⟩) ?_ ?_
                rotate_left
                · intro w'
                  go_simp
                  with_reducible rfl
                rotate_left
                · simp only [Act.put, List.setIfInBounds_toArray, List.set_cons_zero, List.set_cons_succ, i64_w, i32_w]
                  rfl
                refine pure_ (i := 1) (N := some 175) (v := ?_) (a' := ?_) #[true, true, false, false, false, false, false] rfl rfl (by kernel_rfl) (fun _ _ _ h => h) (Or.inl ⟨by rfl, ?_⟩) ?_ ?_
                rotate_left
                · intro w'
                  go_simp
                  with_reducible rfl
                rotate_left
                · simp only [Act.put, List.setIfInBounds_toArray, List.set_cons_zero, List.set_cons_succ, i64_w, i32_w]
                  rfl
                refine pure_ (i := 2) (N := some 176) (v := ?_) (a' := ?_) #[true, true, true, false, false, false, false] rfl rfl (by kernel_rfl) (fun _ _ _ h => h) (Or.inl ⟨by rfl, ?_⟩) ?_ ?_
                rotate_left
                · intro w'
                  go_simp
                  with_reducible rfl
                rotate_left
                · simp only [Act.put, List.setIfInBounds_toArray, List.set_cons_zero, List.set_cons_succ, i64_w, i32_w]
                  rfl
                refine pure_ (i := 4) (N := some 178) (v := ?_) (a' := ?_) #[true, true, true, false, true, false, false] rfl rfl (by kernel_rfl) (fun _ _ _ h => h) (Or.inl ⟨by rfl, ?_⟩) ?_ ?_
                rotate_left
                · intro w'
                  go_simp
                  with_reducible rfl
                rotate_left
                · simp only [Act.put, List.setIfInBounds_toArray, List.set_cons_zero, List.set_cons_succ, i64_w, i32_w]
                  rfl
                refine take_ (i := 3) (N := some 177) (v := ?_) (a' := ?_) #[true, true, true, true, true, false, false] rfl rfl (by kernel_rfl) (fun _ _ _ h => h) (Or.inl ⟨by rfl, ?_⟩) hHeld ?_ ?_
                rotate_left
                · intro w' s0
                  go_simp
                  with_reducible rfl
                rotate_left
                · simp only [Act.put, List.setIfInBounds_toArray, List.set_cons_zero, List.set_cons_succ, i64_w, i32_w]
                  rfl
                refine one_ (i := 5) (N := some 179) #[true, true, true, true, true, true, false] rfl rfl (by kernel_rfl) (by decide) (fun K hK => ?_)
                refine goes_ Tryz.func19 (by kernel_rfl) rfl #[.pointer (some ⟨w2.heap.size, 0, none⟩)] (by rfl) rfl rfl (by simp only [List.map_toArray, List.map_cons, List.map_nil]; rfl) ?_
                with_reducible refine (tell_calls w2.heap.size ⟨z0, z1, z2, mk, L⟩ _ (by exact HRD.out.rf) (by exact HOK.out) (by exact hL1)).mono ?_
                rintro e y ⟨rfl, hy⟩
                refine ⟨_, rfl, ?_⟩
                refine hK.out _ _ (((hy.cell (p := ⟨w2.heap.size, 3, none⟩) hq2).trans hmc)) (fun hHeld => ?_)
                clear hK K
                refine norm_ (a' := ?_) ?_ ?_
                rotate_left
                · show Act.put _ (some 179) _ = _
                  simp only [Act.put, List.setIfInBounds_toArray, List.set_cons_zero, List.set_cons_succ, i64_w, i32_w]
                  rfl
                refine pure_ (i := 6) (N := some 180) (v := ?_) (a' := ?_) #[true, true, true, true, true, true, true] rfl rfl (by kernel_rfl) (fun _ _ _ h => h) (Or.inl ⟨by rfl, ?_⟩) ?_ ?_
                rotate_left
                · intro w'
                  go_simp
                  with_reducible rfl
                rotate_left
                · simp only [Act.put, List.setIfInBounds_toArray, List.set_cons_zero, List.set_cons_succ, i64_w, i32_w]
                  rfl
                refine done_ (by kernel_rfl) ?_
                have HBY : Hid (Below w.heap.size w y) := (HB0R.out.drew).trans (hy.mono (by exact Nat.le_trans hwq hws))
                have HRY := Lib.hid (HRD.out.below hy).rf
                clear hHeld hmc hy
                by_cases hT : mk < tellV ⟨z0, z1, z2, mk, L⟩
                · have HN : Hid (refB s.data.toList = none) := by rw [Hid, HREF3.out, HALL.out]; simp only [if_pos hT]
                  go_wp2_with fail
                  go_ret
                  exact ⟨HBY.out, .inr ⟨HN.out, rfl⟩⟩
                · have HS : Hid (refB s.data.toList = some ⟨z0, z1, z2, mk, L⟩) := by rw [Hid, HREF3.out, HALL.out]; simp only [if_neg hT]
                  go_wp2_with fail
                  go_ret
                  exact ⟨HBY.out, .inl ⟨_, _, HS.out, rfl, hwq, HRY.out⟩⟩
          · have q1 : (d.toList == [45, 49]) = false := by rw [toList_data, beq_eq_false_iff_ne]; exact hd
            have hmk : markF d.data.toList = z3 := by unfold markF; rw [if_neg hd, hz3]
            rw [hmk] at HREF2
            clear hd hmk hz3 HBX
            by_cases k0 : z0 < 0
            · have HN : Hid (refB s.data.toList = none) := by rw [Hid, HREF2.out, if_neg (by omega)]
              go_wp2_with fail
              go_ret
              exact ⟨HB0X.out, .inr ⟨HN.out, rfl⟩⟩
            by_cases k1 : z1 < 0
            · have HN : Hid (refB s.data.toList = none) := by rw [Hid, HREF2.out, if_neg (by omega)]
              go_wp2_with fail
              go_ret
              exact ⟨HB0X.out, .inr ⟨HN.out, rfl⟩⟩
            by_cases k2 : z2 < 0
            · have HN : Hid (refB s.data.toList = none) := by rw [Hid, HREF2.out, if_neg (by omega)]
              go_wp2_with fail
              go_ret
              exact ⟨HB0X.out, .inr ⟨HN.out, rfl⟩⟩
            by_cases k3 : z3 < -1
            · first
                | (exfalso; omega)
                | (have HN : Hid (refB s.data.toList = none) := by rw [Hid, HREF2.out, if_neg (by omega)]
                   go_wp2_with fail
                   go_ret
                   exact ⟨HB0X.out, .inr ⟨HN.out, rfl⟩⟩)
            have HREF3 : Hid (refB s.data.toList = match refL z2 (u'.map (·.data.toList)) [] with
                  | some L => if z3 < tellV ⟨z0, z1, z2, z3, L⟩ then none else some ⟨z0, z1, z2, z3, L⟩
                  | none => none) := by rw [Hid, HREF2.out, if_pos ⟨by omega, by omega, by omega, by omega⟩]
            go_wp2_with fail
            obtain ⟨Y, hY⟩ : ∃ Y, Y = X := ⟨_, rfl⟩
            have hRr : Rr w2.heap.size Y w2.heap.size ⟨z0, z1, z2, z3, []⟩ none 0 := by
              rw [hY]
              exact ⟨HXQ.out, World.ownsRow_nil _ _ _ _, List.Pairwise.nil, by simp⟩
            have hstart : Hid (RL w2 w2.heap.size n2 z0 z1 z2 z3 (u'.map (·.data.toList)) (.int .i64 1) Y) :=
              ⟨1, [], none, 0, Nat.le_refl _, by have := HN2.out; omega, rfl, hRr, rfl, by rw [hY]; exact hbX, by simp⟩
            try rw [← hY]
            obtain ⟨mk, hmk⟩ : ∃ m : Int, m = z3 := ⟨_, rfl⟩
            rw [← hmk] at hstart HREF3
            have hmlo : -1 ≤ mk := by omega
            have hmhi : mk ≤ 1099511627776 := by omega
            have hk0 : 0 ≤ z0 := by omega
            have hk1 : 0 ≤ z1 := by omega
            have hk2 : 0 ≤ z2 := by omega
            have HMID : Hid ((u'.map (·.data.toList)).length = n2 - 2) := by have := HN2.out; simp [Hid]; omega
            clear hY hRr hmk hc0 hc1 hc2 hc3 hf3
            go_loopw [6] (fun v6 wr => RL w2 w2.heap.size n2 z0 z1 z2 mk (u'.map (·.data.toList)) v6 wr) (fun i _ => n2 - (intOf i).toNat)
            case atStart => exact hstart.out
            case round =>
              clear hstart
              obtain ⟨k, L, A, ca, hk1', hkn, rfl, hrr, hrl, hbr, hll⟩ := hrel
              have hws := hbr.size
              have HB0R : Hid (Below w.heap.size w wr) := HB02.out.trans (hbr.mono hwq)
              by_cases hlt : k + 1 < n2
              · obtain ⟨x, hx⟩ : ∃ x, u'[k - 1]? = some x := ⟨_, List.getElem?_eq_getElem (by have := HN2.out; omega)⟩
                have hxz := HPZ2.out x (List.mem_of_getElem? hx)
                have hxk : (p0 :: u' ++ [xl])[k]? = some x := by
                  obtain ⟨k', rfl⟩ : ∃ k', k = k' + 1 := ⟨k - 1, by omega⟩
                  rw [List.cons_append, List.getElem?_cons_succ, List.getElem?_append_left (by have := HN2.out; omega)]
                  simpa using hx
                have hxc := HROWX.out wr hbr k x hxk
                have HLINE : Hid ((u'.map (·.data.toList))[k - 1]? = some x.data.toList) := by rw [Hid, List.getElem?_map, hx]; rfl
                have HRL := Lib.hid hrl
                have hlen : Hid (L.length ≤ 3000) := by unfold Hid; omega
                have HBAD : Hid ((∀ r, refL z2 (x.data.toList :: r) L = none) → refB s.data.toList = none) := fun hbad => by
                  have h1 := list_at' HLINE.out
                  rw [HREF3.out, ← h1, refL_append, HRL.out]
                  simp only [Option.bind_some, hbad]
                clear hx hxk hrl
                go_wp2_with (first
                  | (go_at_call 16; refine (parts_32 x _ (by omega)).mono ?_; rintro e w3 ⟨rs, g3, cap3, rfl, hrs, hown3, hb3⟩; refine Hid.out ?_)
                  | fail)
                refine Lib.hid ?_
                have hrow3 := RowAt.of hown3
                obtain ⟨_, _, hrz⟩ := pieces hrs
                have hrr3 := hrr.below hb3
                have hb03 : Below w2.heap.size w2 w3 := hbr.trans (hb3.mono hws)
                have HB3 : Hid (Below w.heap.size w w3) := HB02.out.trans (hb03.mono hwq)
                have HRS := Lib.hid hrs
                have HRZ := Lib.hid hrz
                have HROW3 := Lib.hid hrow3
                clear hrs hrz hown3 hrow3 hrr hxc
                by_cases h3 : rs.length = 3
                · obtain ⟨nx, na, nn, rfl⟩ : ∃ nx na nn, rs = [nx, na, nn] := by
                    match rs, h3 with
                    | [x0, x1, x2], _ => exact ⟨x0, x1, x2, rfl⟩
                  rw [show [nx, na, nn].length = 3 from rfl]
                  have r0 := HROW3.out.2 0 nx rfl
                  have hzz : ∀ y ∈ [nx, na, nn], y.size ≤ maxLen := fun y hy => by
                    have h1 := HRZ.out y hy
                    have h2 : x.data.toList.length = x.size := by simp
                    unfold maxLen; omega
                  have HZX : Hid (nx.size ≤ maxLen) := hzz nx (by simp)
                  have HZA : Hid (na.size ≤ maxLen) := hzz na (by simp)
                  have HZN : Hid (nn.size ≤ maxLen) := hzz nn (by simp)
                  have HLN : Hid (∀ r, refL z2 (x.data.toList :: r) L = if lineOk z2 L nx.data.toList na.data.toList nn.data.toList then refL z2 r (L ++ [(nx.data.toList, (numF na.data.toList, numF nn.data.toList))]) else none) := fun r => by
                    simp only [refL]
                    rw [← HRS.out]; rfl
                  clear h3 hzz
                  cases hnm : nameB nx with
                  | false =>
                    have HN : Hid (refB s.data.toList = none) := HBAD.out (fun r => by
                      rw [HLN.out, if_neg]
                      unfold lineOk
                      rw [ba_self, hnm]; simp)
                    have HNM := Lib.hid hnm
                    clear hnm
                    go_wp2_with (first
                      | (go_at_call 18; refine (rname_calls nx _ HZX.out).mono ?_; rintro e y ⟨rfl, rfl⟩; rw [HNM.out])
                      | fail)
                    go_ret
                    exact ⟨HB3.out, .inr ⟨HN.out, rfl⟩⟩
                  | true =>
                    have HNM := Lib.hid hnm
                    clear hnm
                    go_wp2_with (first
                      | (go_at_call 18; refine (rname_calls nx _ HZX.out).mono ?_; rintro e y ⟨rfl, rfl⟩; rw [HNM.out])
                      | fail)
                    have HF3 : Hid (∀ X, Below w3.heap.size w3 X → X.cell? ⟨g3, 0, none⟩ = some (.string nx) ∧ X.cell? ⟨g3, 1, none⟩ = some (.string na) ∧ X.cell? ⟨g3, 2, none⟩ = some (.string nn)) := fun X hX =>
                      ⟨(hX.cell (p := ⟨g3, 0, none⟩) HROW3.out.1).trans (HROW3.out.2 0 nx rfl), (hX.cell (p := ⟨g3, 1, none⟩) HROW3.out.1).trans (HROW3.out.2 1 na rfl), (hX.cell (p := ⟨g3, 2, none⟩) HROW3.out.1).trans (HROW3.out.2 2 nn rfl)⟩
                    have hZ0 : Below w3.heap.size w3 w3.drew := (Below.refl _ _).drew
                    have hZ1 : Below w3.heap.size w3 (w3.drew.alloc (.cells #[.string ⟨#[]⟩, .int .i64 0, .int .i64 0] 57)) := hZ0.alloc (Nat.le_refl _) _

                    refine start_ (n := 14) (S := fun w' => w'.cell? ⟨g3, 0, none⟩ = some (.string nx) ∧ w'.cell? ⟨g3, 1, none⟩ = some (.string na) ∧ w'.cell? ⟨g3, 2, none⟩ = some (.string nn)) (ds := [13]) #[false, false, false, false, false, false, false, false, false, false, false, false, false, false] (by kernel_rfl) rfl rfl ⟨(HF3.out _ hZ0).1, (HF3.out _ hZ0).2.1, (HF3.out _ hZ0).2.2⟩ (fun hHeld => ?_)
                    refine pure_ (i := 0) (N := some 109) (v := ?_) (a' := ?_) #[true, false, false, false, false, false, false, false, false, false, false, false, false, false] rfl rfl (by kernel_rfl) (fun _ _ _ h => h) (Or.inl ⟨by rfl, ?_⟩) ?_ ?_
                    rotate_left
                    · intro w'
                      go_simp
                      with_reducible rfl
                    rotate_left
                    · simp only [Act.put, List.setIfInBounds_toArray, List.set_cons_zero, List.set_cons_succ, i64_w, i32_w]
                      rfl
                    refine pure_ (i := 1) (N := some 110) (v := ?_) (a' := ?_) #[true, true, false, false, false, false, false, false, false, false, false, false, false, false] rfl rfl (by kernel_rfl) (fun _ _ _ h => h) (Or.inl ⟨by rfl, ?_⟩) ?_ ?_
                    rotate_left
                    · intro w'
                      go_simp
                      with_reducible rfl
                    rotate_left
                    · simp only [Act.put, List.setIfInBounds_toArray, List.set_cons_zero, List.set_cons_succ, i64_w, i32_w]
                      rfl
                    refine pure_ (i := 3) (N := some 112) (v := ?_) (a' := ?_) #[true, true, false, true, false, false, false, false, false, false, false, false, false, false] rfl rfl (by kernel_rfl) (fun _ _ _ h => h) (Or.inl ⟨by rfl, ?_⟩) ?_ ?_
                    rotate_left
                    · intro w'
                      go_simp
                      with_reducible rfl
                    rotate_left
                    · simp only [Act.put, List.setIfInBounds_toArray, List.set_cons_zero, List.set_cons_succ, i64_w, i32_w]
                      rfl
                    refine pure_ (i := 4) (N := some 113) (v := ?_) (a' := ?_) #[true, true, false, true, true, false, false, false, false, false, false, false, false, false] rfl rfl (by kernel_rfl) (fun _ _ _ h => h) (Or.inl ⟨by rfl, ?_⟩) ?_ ?_
                    rotate_left
                    · intro w'
                      go_simp
                      with_reducible rfl
                    rotate_left
                    · simp only [Act.put, List.setIfInBounds_toArray, List.set_cons_zero, List.set_cons_succ, i64_w, i32_w]
                      rfl
                    refine pure_ (i := 7) (N := some 116) (v := ?_) (a' := ?_) #[true, true, false, true, true, false, false, true, false, false, false, false, false, false] rfl rfl (by kernel_rfl) (fun _ _ _ h => h) (Or.inl ⟨by rfl, ?_⟩) ?_ ?_
                    rotate_left
                    · intro w'
                      go_simp
                      with_reducible rfl
                    rotate_left
                    · simp only [Act.put, List.setIfInBounds_toArray, List.set_cons_zero, List.set_cons_succ, i64_w, i32_w]
                      rfl
                    refine pure_ (i := 8) (N := some 117) (v := ?_) (a' := ?_) #[true, true, false, true, true, false, false, true, true, false, false, false, false, false] rfl rfl (by kernel_rfl) (fun _ _ _ h => h) (Or.inl ⟨by rfl, ?_⟩) ?_ ?_
                    rotate_left
                    · intro w'
                      go_simp
                      with_reducible rfl
                    rotate_left
                    · simp only [Act.put, List.setIfInBounds_toArray, List.set_cons_zero, List.set_cons_succ, i64_w, i32_w]
                      rfl
                    refine take_ (i := 2) (N := some 111) (v := ?_) (a' := ?_) #[true, true, true, true, true, false, false, true, true, false, false, false, false, false] rfl rfl (by kernel_rfl) (fun _ _ _ h => h) (Or.inl ⟨by rfl, ?_⟩) hHeld ?_ ?_
                    rotate_left
                    · rintro w' ⟨s0, s1, s2⟩
                      go_simp
                      with_reducible rfl
                    rotate_left
                    · simp only [Act.put, List.setIfInBounds_toArray, List.set_cons_zero, List.set_cons_succ, i64_w, i32_w]
                      rfl
                    refine take_ (i := 5) (N := some 114) (v := ?_) (a' := ?_) #[true, true, true, true, true, true, false, true, true, false, false, false, false, false] rfl rfl (by kernel_rfl) (fun _ _ _ h => h) (Or.inl ⟨by rfl, ?_⟩) hHeld ?_ ?_
                    rotate_left
                    · rintro w' ⟨s0, s1, s2⟩
                      go_simp
                      with_reducible rfl
                    rotate_left
                    · simp only [Act.put, List.setIfInBounds_toArray, List.set_cons_zero, List.set_cons_succ, i64_w, i32_w]
                      rfl
                    refine take_ (i := 9) (N := some 118) (v := ?_) (a' := ?_) #[true, true, true, true, true, true, false, true, true, true, false, false, false, false] rfl rfl (by kernel_rfl) (fun _ _ _ h => h) (Or.inl ⟨by rfl, ?_⟩) hHeld ?_ ?_
                    rotate_left
                    · rintro w' ⟨s0, s1, s2⟩
                      go_simp
                      with_reducible rfl
                    rotate_left
                    · simp only [Act.put, List.setIfInBounds_toArray, List.set_cons_zero, List.set_cons_succ, i64_w, i32_w]
                      rfl
                    refine join_ (σ := Unit) 1 #[true, true, true, true, true, true, true, true, true, true, true, true, true, false] (fun _ => [(115, .int .i64 (numF na.data.toList)), (119, .int .i64 (numF nn.data.toList)), (8, .pointer (some ⟨w3.heap.size, 0, none⟩)), (120, .agg #[.string nx, .int .i64 (numF na.data.toList), .int .i64 (numF nn.data.toList)])]) (fun _ w' => w' = w3.drew.alloc (.cells #[.string ⟨#[]⟩, .int .i64 0, .int .i64 0] 57)) ?_ ?_
                    rotate_left
                    · intro hCont
                      refine two_ (i := 6) (j := 12) (Ni := some 115) (Nj := some 8) #[true, true, true, true, true, true, true, true, true, true, false, false, false, false] #[true, true, true, true, true, true, false, true, true, true, false, false, true, false] rfl rfl rfl rfl (by kernel_rfl) (by decide) (by decide) (fun K hK => ?_) (fun K hK => ?_)
                      · skip
                        refine goes_ Tryz.func17 (by kernel_rfl) rfl #[.string na] (by rfl) rfl rfl (by simp only [List.map_toArray, List.map_cons, List.map_nil]; rfl) ?_
                        with_reducible refine (number_calls na _ HZA.out).mono ?_
                        rintro e y ⟨rfl, rfl⟩
                        refine ⟨_, rfl, ?_⟩
                        refine hK.out _ _ ⟨(HF3.out _ hZ0).1, (HF3.out _ hZ0).2.1, (HF3.out _ hZ0).2.2⟩ (fun hHeld => ?_)
                        clear hK K
                        refine norm_ (a' := ?_) ?_ ?_
                        rotate_left
                        · show Act.put _ (some 115) _ = _
                          simp only [Act.put, List.setIfInBounds_toArray, List.set_cons_zero, List.set_cons_succ, i64_w, i32_w]
                          rfl
                        refine two_ (i := 10) (j := 12) (Ni := some 119) (Nj := some 8) #[true, true, true, true, true, true, true, true, true, true, true, false, false, false] #[true, true, true, true, true, true, true, true, true, true, false, false, true, false] rfl rfl rfl rfl (by kernel_rfl) (by decide) (by decide) (fun K hK => ?_) (fun K hK => ?_)
                        · skip
                          refine goes_ Tryz.func17 (by kernel_rfl) rfl #[.string nn] (by rfl) rfl rfl (by simp only [List.map_toArray, List.map_cons, List.map_nil]; rfl) ?_
                          with_reducible refine (number_calls nn _ HZN.out).mono ?_
                          rintro e y ⟨rfl, rfl⟩
                          refine ⟨_, rfl, ?_⟩
                          refine hK.out _ _ ⟨(HF3.out _ hZ0).1, (HF3.out _ hZ0).2.1, (HF3.out _ hZ0).2.2⟩ (fun hHeld => ?_)
                          clear hK K
                          refine norm_ (a' := ?_) ?_ ?_
                          rotate_left
                          · show Act.put _ (some 119) _ = _
                            simp only [Act.put, List.setIfInBounds_toArray, List.set_cons_zero, List.set_cons_succ, i64_w, i32_w]
                            rfl
                          refine pure_ (i := 11) (N := some 120) (v := ?_) (a' := ?_) #[true, true, true, true, true, true, true, true, true, true, true, true, false, false] rfl rfl (by kernel_rfl) (fun _ _ _ h => h) (Or.inl ⟨by rfl, ?_⟩) ?_ ?_
                          rotate_left
                          · intro w'
                            go_simp
                            with_reducible rfl
                          rotate_left
                          · simp only [Act.put, List.setIfInBounds_toArray, List.set_cons_zero, List.set_cons_succ, i64_w, i32_w]
                            rfl
                          refine one_ (i := 12) (N := some 8) #[true, true, true, true, true, true, true, true, true, true, true, true, true, false] rfl rfl (by kernel_rfl) (by decide) (fun K hK => ?_)
                          refine value_ (w1 := ?_) (v := ?_) (by rfl) rfl ?_ ?_
                          rotate_left 2
                          · go_simp
                            constructor
                            · rfl
                            · rfl
                          refine hK.out _ _ ⟨(HF3.out _ hZ1).1, (HF3.out _ hZ1).2.1, (HF3.out _ hZ1).2.2⟩ (fun hHeld => ?_)
                          clear hK K
                          refine norm_ (a' := ?_) ?_ ?_
                          rotate_left
                          · show Act.put _ (some 8) _ = _
                            simp only [Act.put, List.setIfInBounds_toArray, List.set_cons_zero, List.set_cons_succ, i64_w, i32_w]
                            rfl
                          exact norm_ (by simp only [putAll, Act.put, List.setIfInBounds_toArray, List.set_cons_zero, List.set_cons_succ]) (hCont () _ rfl)
                        · skip
                          refine value_ (w1 := ?_) (v := ?_) (by rfl) rfl ?_ ?_
                          rotate_left 2
                          · go_simp
                            constructor
                            · rfl
                            · rfl
                          refine hK.out _ _ ⟨(HF3.out _ hZ1).1, (HF3.out _ hZ1).2.1, (HF3.out _ hZ1).2.2⟩ (fun hHeld => ?_)
                          clear hK K
                          refine norm_ (a' := ?_) ?_ ?_
                          rotate_left
                          · show Act.put _ (some 8) _ = _
                            simp only [Act.put, List.setIfInBounds_toArray, List.set_cons_zero, List.set_cons_succ, i64_w, i32_w]
                            rfl
                          refine one_ (i := 10) (N := some 119) #[true, true, true, true, true, true, true, true, true, true, true, false, true, false] rfl rfl (by kernel_rfl) (by decide) (fun K hK => ?_)
                          refine goes_ Tryz.func17 (by kernel_rfl) rfl #[.string nn] (by rfl) rfl rfl (by simp only [List.map_toArray, List.map_cons, List.map_nil]; rfl) ?_
                          with_reducible refine (number_calls nn _ HZN.out).mono ?_
                          rintro e y ⟨rfl, rfl⟩
                          refine ⟨_, rfl, ?_⟩
                          refine hK.out _ _ ⟨(HF3.out _ hZ1).1, (HF3.out _ hZ1).2.1, (HF3.out _ hZ1).2.2⟩ (fun hHeld => ?_)
                          clear hK K
                          refine norm_ (a' := ?_) ?_ ?_
                          rotate_left
                          · show Act.put _ (some 119) _ = _
                            simp only [Act.put, List.setIfInBounds_toArray, List.set_cons_zero, List.set_cons_succ, i64_w, i32_w]
                            rfl
                          refine pure_ (i := 11) (N := some 120) (v := ?_) (a' := ?_) #[true, true, true, true, true, true, true, true, true, true, true, true, true, false] rfl rfl (by kernel_rfl) (fun _ _ _ h => h) (Or.inl ⟨by rfl, ?_⟩) ?_ ?_
                          rotate_left
                          · intro w'
                            go_simp
                            with_reducible rfl
                          rotate_left
                          · simp only [Act.put, List.setIfInBounds_toArray, List.set_cons_zero, List.set_cons_succ, i64_w, i32_w]
                            rfl
                          exact norm_ (by simp only [putAll, Act.put, List.setIfInBounds_toArray, List.set_cons_zero, List.set_cons_succ]) (hCont () _ rfl)
                      · skip
                        refine value_ (w1 := ?_) (v := ?_) (by rfl) rfl ?_ ?_
                        rotate_left 2
                        · go_simp
                          constructor
                          · rfl
                          · rfl
                        refine hK.out _ _ ⟨(HF3.out _ hZ1).1, (HF3.out _ hZ1).2.1, (HF3.out _ hZ1).2.2⟩ (fun hHeld => ?_)
                        clear hK K
                        refine norm_ (a' := ?_) ?_ ?_
                        rotate_left
                        · show Act.put _ (some 8) _ = _
                          simp only [Act.put, List.setIfInBounds_toArray, List.set_cons_zero, List.set_cons_succ, i64_w, i32_w]
                          rfl
                        refine one_ (i := 6) (N := some 115) #[true, true, true, true, true, true, true, true, true, true, false, false, true, false] rfl rfl (by kernel_rfl) (by decide) (fun K hK => ?_)
                        refine goes_ Tryz.func17 (by kernel_rfl) rfl #[.string na] (by rfl) rfl rfl (by simp only [List.map_toArray, List.map_cons, List.map_nil]; rfl) ?_
                        with_reducible refine (number_calls na _ HZA.out).mono ?_
                        rintro e y ⟨rfl, rfl⟩
                        refine ⟨_, rfl, ?_⟩
                        refine hK.out _ _ ⟨(HF3.out _ hZ1).1, (HF3.out _ hZ1).2.1, (HF3.out _ hZ1).2.2⟩ (fun hHeld => ?_)
                        clear hK K
                        refine norm_ (a' := ?_) ?_ ?_
                        rotate_left
                        · show Act.put _ (some 115) _ = _
                          simp only [Act.put, List.setIfInBounds_toArray, List.set_cons_zero, List.set_cons_succ, i64_w, i32_w]
                          rfl
                        refine one_ (i := 10) (N := some 119) #[true, true, true, true, true, true, true, true, true, true, true, false, true, false] rfl rfl (by kernel_rfl) (by decide) (fun K hK => ?_)
                        refine goes_ Tryz.func17 (by kernel_rfl) rfl #[.string nn] (by rfl) rfl rfl (by simp only [List.map_toArray, List.map_cons, List.map_nil]; rfl) ?_
                        with_reducible refine (number_calls nn _ HZN.out).mono ?_
                        rintro e y ⟨rfl, rfl⟩
                        refine ⟨_, rfl, ?_⟩
                        refine hK.out _ _ ⟨(HF3.out _ hZ1).1, (HF3.out _ hZ1).2.1, (HF3.out _ hZ1).2.2⟩ (fun hHeld => ?_)
                        clear hK K
                        refine norm_ (a' := ?_) ?_ ?_
                        rotate_left
                        · show Act.put _ (some 119) _ = _
                          simp only [Act.put, List.setIfInBounds_toArray, List.set_cons_zero, List.set_cons_succ, i64_w, i32_w]
                          rfl
                        refine pure_ (i := 11) (N := some 120) (v := ?_) (a' := ?_) #[true, true, true, true, true, true, true, true, true, true, true, true, true, false] rfl rfl (by kernel_rfl) (fun _ _ _ h => h) (Or.inl ⟨by rfl, ?_⟩) ?_ ?_
                        rotate_left
                        · intro w'
                          go_simp
                          with_reducible rfl
                        rotate_left
                        · simp only [Act.put, List.setIfInBounds_toArray, List.set_cons_zero, List.set_cons_succ, i64_w, i32_w]
                          rfl
                        exact norm_ (by simp only [putAll, Act.put, List.setIfInBounds_toArray, List.set_cons_zero, List.set_cons_succ]) (hCont () _ rfl)
                    rintro _ x9 rfl
                    have hHeld := HF3.out _ hZ1
                    refine norm_ (a' := ?_) ?_ ?_
                    rotate_left
                    · simp only [putAll, Act.put, List.setIfInBounds_toArray, List.set_cons_zero, List.set_cons_succ]
                      rfl
                    refine last_ (i := 13) (N := none) #[true, true, true, true, true, true, true, true, true, true, true, true, true, true] rfl rfl (by kernel_rfl) (by decide) (fun K hK => ?_)
                    refine skip_ (w1 := ?_) (by rfl) rfl ?_ ?_
                    rotate_left
                    · go_simp
                      rfl
                    refine hK.out _ _ ?_
                    clear hK K
                    refine done_ (by kernel_rfl) ?_
                    clear hHeld hZ0 hZ1
                    obtain ⟨va, hva⟩ : ∃ v, numF na.data.toList = v := ⟨_, rfl⟩
                    obtain ⟨vn, hvn⟩ : ∃ v, numF nn.data.toList = v := ⟨_, rfl⟩
                    have hvab := numF_bd na.data.toList
                    have hvnb := numF_bd nn.data.toList
                    rw [hva] at hvab
                    rw [hvn] at hvnb
                    obtain ⟨Z, hZ⟩ : ∃ Z, Z = (w3.alloc (.cells #[.string nx, .int .i64 (numF na.data.toList), .int .i64 (numF nn.data.toList)] 57)).drew := ⟨_, rfl⟩
                    rw [← hZ]
                    rw [hva, hvn] at hZ ⊢
                    rw [hva, hvn] at HLN
                    have HVA := Lib.hid hva
                    have HVN := Lib.hid hvn
                    clear hva hvn
                    have hzb : Below w3.heap.size w3 Z := by rw [hZ]; exact ((Below.refl _ _).alloc (Nat.le_refl _) _).drew
                    have hzp : Z.heap[w3.heap.size]? = some (.cells #[.string nx, .int .i64 va, .int .i64 vn] 57 (0, 0)) := by rw [hZ]; exact heap_alloc_new w3 _
                    have hzs : w3.heap.size < Z.heap.size := by rw [hZ]; simp
                    have hrrZ := hrr3.below hzb
                    have hb0Z : Below w2.heap.size w2 Z := hb03.trans (hzb.mono hb03.size)
                    have HBZ : Hid (Below w.heap.size w Z) := HB02.out.trans (hb0Z.mono hwq)
                    have e0 : Z.cell? ⟨w3.heap.size, 0, none⟩ = some (.string nx) := by simp [World.cell?, hzp]
                    have e1 : Z.cell? ⟨w3.heap.size, 1, none⟩ = some (.int .i64 va) := by simp [World.cell?, hzp]
                    have e2 : Z.cell? ⟨w3.heap.size, 2, none⟩ = some (.int .i64 vn) := by simp [World.cell?, hzp]
                    have c2 : Z.cell? ⟨w2.heap.size, 2, none⟩ = some (.int .i64 z2) := by simp [World.cell?, hrrZ.cells]
                    have c4 : Z.cell? ⟨w2.heap.size, 4, none⟩ = some (.slice A L.length ca) := by simp [World.cell?, hrrZ.cells]
                    have hentZ : Ents Z A L := Ents.of_own rfl hrrZ.own
                    have hbk : Hid (∀ b, (Value.slice A L.length ca).ownBlock = some b → b < w3.heap.size) := fun b hb => (hrr3.own.lt b hb).2
                    have HZP := Lib.hid hzp
                    have HRZ2 := Lib.hid hrrZ
                    have HENT := Lib.hid hentZ
                    clear hZ hzb hzp hrr3 hrrZ hb03 hentZ
                    by_cases hA : va < 0
                    · have HN : Hid (refB s.data.toList = none) := HBAD.out (fun r => by
                        rw [HLN.out, if_neg]
                        unfold lineOk
                        rw [HVA.out, HVN.out, decide_eq_false (show ¬ 0 ≤ va by omega)]; simp)
                      go_wp2_with fail
                      go_quiet (fail)
                      go_wp2_with fail
                      go_ret
                      exact ⟨below_drewN HBZ.out _, .inr ⟨HN.out, rfl⟩⟩
                    have dA : decide (va < 0) = false := decide_eq_false hA
                    by_cases hB : vn < 0
                    · have HN : Hid (refB s.data.toList = none) := HBAD.out (fun r => by
                        rw [HLN.out, if_neg]
                        unfold lineOk
                        rw [HVA.out, HVN.out, decide_eq_false (show ¬ 0 ≤ vn by omega)]; simp)
                      go_wp2_with fail
                      go_quiet (fail)
                      go_wp2_with fail
                      go_ret
                      exact ⟨below_drewN HBZ.out _, .inr ⟨HN.out, rfl⟩⟩
                    have dB : decide (vn < 0) = false := decide_eq_false hB
                    by_cases hC : z2 < vn
                    · have HN : Hid (refB s.data.toList = none) := HBAD.out (fun r => by
                        rw [HLN.out, if_neg]
                        unfold lineOk
                        rw [HVA.out, HVN.out, decide_eq_false (show ¬ vn ≤ z2 by omega)]; simp)
                      go_wp2_with fail
                      go_quiet (fail)
                      go_wp2_with fail
                      go_ret
                      exact ⟨below_drewN HBZ.out _, .inr ⟨HN.out, rfl⟩⟩
                    have dC : decide (z2 < vn) = false := decide_eq_false hC
                    have hlok : lastB L nx.data.toList = true → Hid (lineOk z2 L nx.data.toList na.data.toList nn.data.toList = true) := fun h => by
                      unfold Hid lineOk
                      rw [ba_self, HNM.out, HVA.out, HVN.out, h, decide_eq_true (show 0 ≤ va by omega), decide_eq_true (show 0 ≤ vn by omega), decide_eq_true (show vn ≤ z2 by omega)]; rfl
                    rcases List.eq_nil_or_concat L with hL0 | ⟨L', le, hL0⟩
                    · have hlast : Hid (lastB L nx.data.toList = true) := by rw [hL0]; rfl
                      have hL1 : L.length = 0 := by rw [hL0]; rfl
                      have HL1 := Lib.hid hL1
                      rw [hL1] at c4
                      have HOK := hlok hlast.out
                      clear hL0 hL1 hlok
                      go_wp2_with fail
                      go_quiet (fail)

                      obtain ⟨V, hV⟩ : ∃ V, V = Z.drewN nq := ⟨_, rfl⟩
                      have hrrV : Rr w2.heap.size V w2.heap.size ⟨z0, z1, z2, mk, L⟩ A ca := by rw [hV]; exact HRZ2.out.drewN nq
                      have hbV : Below w2.heap.size w2 V := by rw [hV]; exact below_drewN hb0Z nq
                      have hzV : V.heap[w3.heap.size]? = some (.cells #[.string nx, .int .i64 va, .int .i64 vn] 57 (0, 0)) := by rw [hV]; exact HZP.out
                      have hzVs : w3.heap.size < V.heap.size := by rw [hV]; exact hzs
                      rw [← hV]
                      clear hV
                      have f0 : V.cell? ⟨w3.heap.size, 0, none⟩ = some (.string nx) := by simp [World.cell?, hzV]
                      have f1 : V.cell? ⟨w3.heap.size, 1, none⟩ = some (.int .i64 va) := by simp [World.cell?, hzV]
                      have f2 : V.cell? ⟨w3.heap.size, 2, none⟩ = some (.int .i64 vn) := by simp [World.cell?, hzV]
                      have f4 : V.cell? ⟨w2.heap.size, 4, none⟩ = some (.slice A L.length ca) := by simp [World.cell?, hrrV.cells]
                      have g4 : V.frozen? ⟨w2.heap.size, 4, none⟩ = false := by simp [World.frozen?, hrrV.cells]
                      have hqV := (Array.getElem?_eq_some_iff.1 hrrV.cells).1
                      have HG4 : Hid (∀ X, Below V.heap.size V X → X.cell? ⟨w2.heap.size, 4, none⟩ = some (.slice A L.length ca) ∧ X.cell? ⟨w3.heap.size, 0, none⟩ = some (.string nx) ∧ X.cell? ⟨w3.heap.size, 1, none⟩ = some (.int .i64 va) ∧ X.cell? ⟨w3.heap.size, 2, none⟩ = some (.int .i64 vn)) := fun X hX =>
                        ⟨(hX.cell (p := ⟨w2.heap.size, 4, none⟩) hqV).trans f4, (hX.cell (p := ⟨w3.heap.size, 0, none⟩) hzVs).trans f0, (hX.cell (p := ⟨w3.heap.size, 1, none⟩) hzVs).trans f1, (hX.cell (p := ⟨w3.heap.size, 2, none⟩) hzVs).trans f2⟩
                      have HRV := Lib.hid hrrV
                      have HGV := Lib.hid g4
                      have hll3 := hlen.out
                      have hnx1 : nx.data.toList.length ≤ 1000 := by have h3 := ((nameB_iff nx).1 HNM.out).2.1; have h4 : nx.data.toList.length = nx.size := by simp
                                                                     omega
                      have hbase : w2.heap.size ≤ V.heap.size := hbV.size
                      have hZ0 : Below V.heap.size V V.drew := (Below.refl _ _).drew
                      have hZ1 : Below V.heap.size V (V.drew.alloc (.cells #[.string nx, .int .i64 va, .int .i64 vn] 57)) := hZ0.alloc (Nat.le_refl _) _
                      clear e0 e1 e2 c2 c4 f0 f1 f2 f4 g4 hrrV hzV
                      go_wp2_with fail
                      refine start_ (n := 11) (S := fun w' => w'.cell? ⟨w2.heap.size, 4, none⟩ = some (.slice A L.length ca) ∧ w'.cell? ⟨w3.heap.size, 0, none⟩ = some (.string nx) ∧ w'.cell? ⟨w3.heap.size, 1, none⟩ = some (.int .i64 va) ∧ w'.cell? ⟨w3.heap.size, 2, none⟩ = some (.int .i64 vn)) (ds := [10]) #[false, false, false, false, false, false, false, false, false, false, false] (by kernel_rfl) rfl rfl ⟨(HG4.out _ hZ0).1, (HG4.out _ hZ0).2.1, (HG4.out _ hZ0).2.2.1, (HG4.out _ hZ0).2.2.2⟩ (fun hHeld => ?_)
                      refine pure_ (i := 0) (N := some 164) (v := ?_) (a' := ?_) #[true, false, false, false, false, false, false, false, false, false, false] rfl rfl (by kernel_rfl) (fun _ _ _ h => h) (Or.inl ⟨by rfl, ?_⟩) ?_ ?_
                      rotate_left
                      · intro w'
                        go_simp
                        with_reducible rfl
                      rotate_left
                      · simp only [Act.put, List.setIfInBounds_toArray, List.set_cons_zero, List.set_cons_succ, i64_w, i32_w]
                        rfl
                      refine pure_ (i := 1) (N := some 165) (v := ?_) (a' := ?_) #[true, true, false, false, false, false, false, false, false, false, false] rfl rfl (by kernel_rfl) (fun _ _ _ h => h) (Or.inl ⟨by rfl, ?_⟩) ?_ ?_
                      rotate_left
                      · intro w'
                        go_simp
                        with_reducible rfl
                      rotate_left
                      · simp only [Act.put, List.setIfInBounds_toArray, List.set_cons_zero, List.set_cons_succ, i64_w, i32_w]
                        rfl
                      refine pure_ (i := 2) (N := some 166) (v := ?_) (a' := ?_) #[true, true, true, false, false, false, false, false, false, false, false] rfl rfl (by kernel_rfl) (fun _ _ _ h => h) (Or.inl ⟨by rfl, ?_⟩) ?_ ?_
                      rotate_left
                      · intro w'
                        go_simp
                        with_reducible rfl
                      rotate_left
                      · simp only [Act.put, List.setIfInBounds_toArray, List.set_cons_zero, List.set_cons_succ, i64_w, i32_w]
                        rfl
                      refine pure_ (i := 3) (N := some 167) (v := ?_) (a' := ?_) #[true, true, true, true, false, false, false, false, false, false, false] rfl rfl (by kernel_rfl) (fun _ _ _ h => h) (Or.inl ⟨by rfl, ?_⟩) ?_ ?_
                      rotate_left
                      · intro w'
                        go_simp
                        with_reducible rfl
                      rotate_left
                      · simp only [Act.put, List.setIfInBounds_toArray, List.set_cons_zero, List.set_cons_succ, i64_w, i32_w]
                        rfl
                      refine take_ (i := 4) (N := some 168) (v := ?_) (a' := ?_) #[true, true, true, true, true, false, false, false, false, false, false] rfl rfl (by kernel_rfl) (fun _ _ _ h => h) (Or.inl ⟨by rfl, ?_⟩) hHeld ?_ ?_
                      rotate_left
                      · rintro w' ⟨s0, s1, s2, s3⟩
                        go_simp
                        with_reducible rfl
                      rotate_left
                      · simp only [Act.put, List.setIfInBounds_toArray, List.set_cons_zero, List.set_cons_succ, i64_w, i32_w]
                        rfl
                      refine take_ (i := 5) (N := some 169) (v := ?_) (a' := ?_) #[true, true, true, true, true, true, false, false, false, false, false] rfl rfl (by kernel_rfl) (fun _ _ _ h => h) (Or.inl ⟨by rfl, ?_⟩) hHeld ?_ ?_
                      rotate_left
                      · rintro w' ⟨s0, s1, s2, s3⟩
                        go_simp
                        with_reducible rfl
                      rotate_left
                      · simp only [Act.put, List.setIfInBounds_toArray, List.set_cons_zero, List.set_cons_succ, i64_w, i32_w]
                        rfl
                      refine one_ (i := 6) (N := some 170) #[true, true, true, true, true, true, true, false, false, false, false] rfl rfl (by kernel_rfl) (by decide) (fun K hK => ?_)
                      refine value_ (w1 := ?_) (v := ?_) (by rfl) rfl ?_ ?_
                      rotate_left 2
                      · go_simp
                        constructor
                        · rfl
                        · rfl
                      refine hK.out _ _ ⟨(HG4.out _ hZ1).1, (HG4.out _ hZ1).2.1, (HG4.out _ hZ1).2.2.1, (HG4.out _ hZ1).2.2.2⟩ (fun hHeld => ?_)
                      clear hK K
                      refine norm_ (a' := ?_) ?_ ?_
                      rotate_left
                      · show Act.put _ (some 170) _ = _
                        simp only [Act.put, List.setIfInBounds_toArray, List.set_cons_zero, List.set_cons_succ, i64_w, i32_w]
                        rfl
                      refine one_ (i := 7) (N := some 171) #[true, true, true, true, true, true, true, true, false, false, false] rfl rfl (by kernel_rfl) (by decide) (fun K hK => ?_)
                      refine step_append_any _ (by rfl) (.tmp 168) (.tmp 170) _ (by rfl) w2.heap.size 57 i0 _ 3 32 Tryz.underlying52 HI0.out HZ0.out HZ1.out HZ2.out rfl (by omega) (.slice A L.length ca) L.length (cellsS L) (by rfl) (by exact (HRV.out.own.alloc _)) _ (some ⟨V.heap.size, 0, none⟩) 1 1 [.string nx, .int .i64 va, .int .i64 vn] (by rfl) (by exact reads_new V.drew nx va vn) (by simp [Value.oneCell']) (by unfold maxLen; omega) (by omega) (by exact Nat.le_trans hbase hZ1.size) ?_
                      intro v7 w7 hown7 hg7 _
                      obtain ⟨g9, c9, rfl, _, _⟩ := hown7.form (by omega)
                      have hb7 : Below w2.heap.size w2 w7 := (hbV.trans (hZ1.mono hbase)).grown hg7 (Nat.le_trans hbase hZ1.size) (fun b hb => (HRV.out.own.lt b hb).1)
                      have hpush := HRV.out.push (e := (nx.data.toList, (va, vn))) hZ1 (by rw [show cellsE (nx.data.toList, (va, vn)) = [.string nx, .int .i64 va, .int .i64 vn] from by simp only [cellsE, ba_self]]; exact hown7) hg7 hlast.out hnx1
                      have hb7q := (hg7.block _ (Nat.lt_of_lt_of_le hqV hZ1.size) HRV.out.block_ne).trans ((hZ1.block _ hqV).trans HRV.out.cells)
                      have hfz7 : w7.frozen? ⟨w2.heap.size, 4, none⟩ = false := by simp [World.frozen?, hb7q]
                      clear hb7q
                      refine hK.out _ _ ⟨((hg7.cell_far ⟨w2.heap.size, 4, none⟩ (Nat.lt_of_lt_of_le hqV hZ1.size) HRV.out.block_ne).trans (HG4.out _ hZ1).1), ((hg7.cell_far ⟨w3.heap.size, 0, none⟩ (Nat.lt_of_lt_of_le hzVs hZ1.size) (fun h => absurd (hbk.out _ h.symm) (Nat.lt_irrefl _))).trans (HG4.out _ hZ1).2.1), ((hg7.cell_far ⟨w3.heap.size, 1, none⟩ (Nat.lt_of_lt_of_le hzVs hZ1.size) (fun h => absurd (hbk.out _ h.symm) (Nat.lt_irrefl _))).trans (HG4.out _ hZ1).2.2.1), ((hg7.cell_far ⟨w3.heap.size, 2, none⟩ (Nat.lt_of_lt_of_le hzVs hZ1.size) (fun h => absurd (hbk.out _ h.symm) (Nat.lt_irrefl _))).trans (HG4.out _ hZ1).2.2.2)⟩ (fun hHeld => ?_)
                      clear hK K
                      refine norm_ (a' := ?_) ?_ ?_
                      rotate_left
                      · show Act.put _ (some 171) _ = _
                        simp only [Act.put, List.setIfInBounds_toArray, List.set_cons_zero, List.set_cons_succ, i64_w, i32_w]
                        rfl
                      refine pure_ (i := 8) (N := some 172) (v := ?_) (a' := ?_) #[true, true, true, true, true, true, true, true, true, false, false] rfl rfl (by kernel_rfl) (fun _ _ _ h => h) (Or.inl ⟨by rfl, ?_⟩) ?_ ?_
                      rotate_left
                      · intro w'
                        go_simp
                        with_reducible rfl
                      rotate_left
                      · simp only [Act.put, List.setIfInBounds_toArray, List.set_cons_zero, List.set_cons_succ, i64_w, i32_w]
                        rfl
                      refine pure_ (i := 9) (N := some 173) (v := ?_) (a' := ?_) #[true, true, true, true, true, true, true, true, true, true, false] rfl rfl (by kernel_rfl) (fun _ _ _ h => h) (Or.inl ⟨by rfl, ?_⟩) ?_ ?_
                      rotate_left
                      · intro w'
                        go_simp
                        with_reducible rfl
                      rotate_left
                      · simp only [Act.put, List.setIfInBounds_toArray, List.set_cons_zero, List.set_cons_succ, i64_w, i32_w]
                        rfl
                      refine last_ (i := 10) (N := none) #[true, true, true, true, true, true, true, true, true, true, true] rfl rfl (by kernel_rfl) (by decide) (fun K hK => ?_)
                      refine skip_ (w1 := ?_) (by rfl) rfl ?_ ?_
                      rotate_left
                      · go_simp
                        rfl
                      refine hK.out _ _ ?_
                      clear hK K
                      refine done_ (by kernel_rfl) ?_
                      have hbS := hb7.setCell (p := ⟨w2.heap.size, 4, none⟩) (Nat.le_refl _) (.slice (some ⟨g9, 0, none⟩) (L.length + 1) c9)
                      go_wp2_with fail
                      have hkm : IntKind.i64.wrap ((k : Int) + 1) = ((k + 1 : Nat) : Int) := by rw [IntWalk.i64_in _ (by omega)]; omega
                      go_roundw
                      case rel =>
                        have HNEXT : refL z2 ((u'.map (·.data.toList)).take (k + 1 - 1)) [] = some (L ++ [(nx.data.toList, (va, vn))]) := by
                          obtain ⟨k', rfl⟩ : ∃ k', k = k' + 1 := ⟨k - 1, by omega⟩
                          have e1 : (u'.map (·.data.toList)).take (k' + 1 + 1 - 1) = (u'.map (·.data.toList)).take (k' + 1 - 1) ++ [x.data.toList] := by
                            have h9 := HLINE.out
                            simp only [Nat.add_sub_cancel] at h9 ⊢
                            rw [List.take_add_one, h9]; rfl
                          rw [e1, refL_append, HRL.out, Option.bind_some, HLN.out, if_pos HOK.out]; rfl
                        refine ⟨k + 1, L ++ [(nx.data.toList, (va, vn))], _, _, by omega, by omega, ?_, hpush, HNEXT, hbS, by simp; omega⟩
                        first
                          | rfl
                          | (simp only [hkm]; done)
                          | (simp; done)
                      case measure =>
                        first
                          | (simp only [hkm, intOf]; omega)
                          | (simp [intOf]; omega)

                    · have hLn : L[L.length - 1]? = some le := by rw [hL0]; simp
                      have hLp : 0 < L.length := by rw [hL0]; simp
                      obtain ⟨gB, gO, rfl, hgB, m0, _, _⟩ := HENT.out (L.length - 1) le hLn
                      obtain ⟨sk, hsk⟩ : ∃ sk : ByteArray, (⟨le.1.toArray⟩ : ByteArray) = sk := ⟨_, rfl⟩
                      have hskl : sk.data.toList = le.1 := by rw [← hsk]
                      rw [hsk] at m0
                      have hlb : lastB L nx.data.toList = Op.bytesLess sk.toList nx.toList := by
                        rw [hL0]
                        unfold lastB
                        simp only [List.concat_eq_append, List.getLast?_append, List.getLast?_singleton, Option.some_or]
                        rw [toList_data, toList_data, less_before, hskl]
                      obtain ⟨m, hm⟩ : ∃ m, L.length = m + 1 := ⟨L.length - 1, by omega⟩
                      have HMM := Lib.hid hm
                      rw [hm] at c4
                      rw [hm, Nat.add_sub_cancel] at m0
                      have hmb : m ≤ 3000 := by have := hlen.out; omega
                      have hw1 : IntKind.i64.wrap (m : Int) = m := IntWalk.i64_in _ (by omega)
                      have n0 : (0 : Int) ≤ (m : Int) := by omega
                      have n1 : (m : Int) < (m : Int) + 1 := by omega
                      have n2' : (m : Int).toNat = m := by omega
                      have n3 : m < m + 1 := by omega
                      have dM : decide ((0 : Int) < (m : Int) + 1) = true := decide_eq_true (by omega)
                      clear hL0 hLn hLp hm hsk hskl
                      cases hless : Op.bytesLess sk.toList nx.toList with
                      | false =>
                        have HN : Hid (refB s.data.toList = none) := HBAD.out (fun r => by
                          rw [HLN.out, if_neg]
                          unfold lineOk
                          rw [hlb, hless]; simp)
                        clear hlb hlok
                        go_wp2_with fail
                        go_quiet (fail)
                        clear hw1
                        go_wp2_with fail
                        go_ret
                        exact ⟨below_drewN HBZ.out _, .inr ⟨HN.out, rfl⟩⟩
                      | true =>
                        have hlast : Hid (lastB L nx.data.toList = true) := by rw [Hid, hlb, hless]
                        have HOK := hlok hlast.out
                        clear hlb hlok
                        go_wp2_with fail
                        go_quiet (fail)
                        clear hw1 n0 n1 n2' n3
                        obtain ⟨V, hV⟩ : ∃ V, V = Z.drewN nq := ⟨_, rfl⟩
                        have hrrV : Rr w2.heap.size V w2.heap.size ⟨z0, z1, z2, mk, L⟩ (some ⟨gB, gO, none⟩) ca := by rw [hV]; exact HRZ2.out.drewN nq
                        have hbV : Below w2.heap.size w2 V := by rw [hV]; exact below_drewN hb0Z nq
                        have hzV : V.heap[w3.heap.size]? = some (.cells #[.string nx, .int .i64 va, .int .i64 vn] 57 (0, 0)) := by rw [hV]; exact HZP.out
                        have hzVs : w3.heap.size < V.heap.size := by rw [hV]; exact hzs
                        rw [← hV]
                        clear hV
                        have f0 : V.cell? ⟨w3.heap.size, 0, none⟩ = some (.string nx) := by simp [World.cell?, hzV]
                        have f1 : V.cell? ⟨w3.heap.size, 1, none⟩ = some (.int .i64 va) := by simp [World.cell?, hzV]
                        have f2 : V.cell? ⟨w3.heap.size, 2, none⟩ = some (.int .i64 vn) := by simp [World.cell?, hzV]
                        have f4 : V.cell? ⟨w2.heap.size, 4, none⟩ = some (.slice (some ⟨gB, gO, none⟩) L.length ca) := by simp [World.cell?, hrrV.cells]
                        have g4 : V.frozen? ⟨w2.heap.size, 4, none⟩ = false := by simp [World.frozen?, hrrV.cells]
                        have hqV := (Array.getElem?_eq_some_iff.1 hrrV.cells).1
                        have HG4 : Hid (∀ X, Below V.heap.size V X → X.cell? ⟨w2.heap.size, 4, none⟩ = some (.slice (some ⟨gB, gO, none⟩) L.length ca) ∧ X.cell? ⟨w3.heap.size, 0, none⟩ = some (.string nx) ∧ X.cell? ⟨w3.heap.size, 1, none⟩ = some (.int .i64 va) ∧ X.cell? ⟨w3.heap.size, 2, none⟩ = some (.int .i64 vn)) := fun X hX =>
                          ⟨(hX.cell (p := ⟨w2.heap.size, 4, none⟩) hqV).trans f4, (hX.cell (p := ⟨w3.heap.size, 0, none⟩) hzVs).trans f0, (hX.cell (p := ⟨w3.heap.size, 1, none⟩) hzVs).trans f1, (hX.cell (p := ⟨w3.heap.size, 2, none⟩) hzVs).trans f2⟩
                        have HRV := Lib.hid hrrV
                        have HGV := Lib.hid g4
                        have hll3 := hlen.out
                        have hnx1 : nx.data.toList.length ≤ 1000 := by have h3 := ((nameB_iff nx).1 HNM.out).2.1; have h4 : nx.data.toList.length = nx.size := by simp
                                                                       omega
                        have hbase : w2.heap.size ≤ V.heap.size := hbV.size
                        have hZ0 : Below V.heap.size V V.drew := (Below.refl _ _).drew
                        have hZ1 : Below V.heap.size V (V.drew.alloc (.cells #[.string nx, .int .i64 va, .int .i64 vn] 57)) := hZ0.alloc (Nat.le_refl _) _
                        clear e0 e1 e2 c2 c4 f0 f1 f2 f4 g4 hrrV hzV
                        go_wp2_with fail
                        refine start_ (n := 11) (S := fun w' => w'.cell? ⟨w2.heap.size, 4, none⟩ = some (.slice (some ⟨gB, gO, none⟩) L.length ca) ∧ w'.cell? ⟨w3.heap.size, 0, none⟩ = some (.string nx) ∧ w'.cell? ⟨w3.heap.size, 1, none⟩ = some (.int .i64 va) ∧ w'.cell? ⟨w3.heap.size, 2, none⟩ = some (.int .i64 vn)) (ds := [10]) #[false, false, false, false, false, false, false, false, false, false, false] (by kernel_rfl) rfl rfl ⟨(HG4.out _ hZ0).1, (HG4.out _ hZ0).2.1, (HG4.out _ hZ0).2.2.1, (HG4.out _ hZ0).2.2.2⟩ (fun hHeld => ?_)
                        refine pure_ (i := 0) (N := some 164) (v := ?_) (a' := ?_) #[true, false, false, false, false, false, false, false, false, false, false] rfl rfl (by kernel_rfl) (fun _ _ _ h => h) (Or.inl ⟨by rfl, ?_⟩) ?_ ?_
                        rotate_left
                        · intro w'
                          go_simp
                          with_reducible rfl
                        rotate_left
                        · simp only [Act.put, List.setIfInBounds_toArray, List.set_cons_zero, List.set_cons_succ, i64_w, i32_w]
                          rfl
                        refine pure_ (i := 1) (N := some 165) (v := ?_) (a' := ?_) #[true, true, false, false, false, false, false, false, false, false, false] rfl rfl (by kernel_rfl) (fun _ _ _ h => h) (Or.inl ⟨by rfl, ?_⟩) ?_ ?_
                        rotate_left
                        · intro w'
                          go_simp
                          with_reducible rfl
                        rotate_left
                        · simp only [Act.put, List.setIfInBounds_toArray, List.set_cons_zero, List.set_cons_succ, i64_w, i32_w]
                          rfl
                        refine pure_ (i := 2) (N := some 166) (v := ?_) (a' := ?_) #[true, true, true, false, false, false, false, false, false, false, false] rfl rfl (by kernel_rfl) (fun _ _ _ h => h) (Or.inl ⟨by rfl, ?_⟩) ?_ ?_
                        rotate_left
                        · intro w'
                          go_simp
                          with_reducible rfl
                        rotate_left
                        · simp only [Act.put, List.setIfInBounds_toArray, List.set_cons_zero, List.set_cons_succ, i64_w, i32_w]
                          rfl
                        refine pure_ (i := 3) (N := some 167) (v := ?_) (a' := ?_) #[true, true, true, true, false, false, false, false, false, false, false] rfl rfl (by kernel_rfl) (fun _ _ _ h => h) (Or.inl ⟨by rfl, ?_⟩) ?_ ?_
                        rotate_left
                        · intro w'
                          go_simp
                          with_reducible rfl
                        rotate_left
                        · simp only [Act.put, List.setIfInBounds_toArray, List.set_cons_zero, List.set_cons_succ, i64_w, i32_w]
                          rfl
                        refine take_ (i := 4) (N := some 168) (v := ?_) (a' := ?_) #[true, true, true, true, true, false, false, false, false, false, false] rfl rfl (by kernel_rfl) (fun _ _ _ h => h) (Or.inl ⟨by rfl, ?_⟩) hHeld ?_ ?_
                        rotate_left
                        · rintro w' ⟨s0, s1, s2, s3⟩
                          go_simp
                          with_reducible rfl
                        rotate_left
                        · simp only [Act.put, List.setIfInBounds_toArray, List.set_cons_zero, List.set_cons_succ, i64_w, i32_w]
                          rfl
                        refine take_ (i := 5) (N := some 169) (v := ?_) (a' := ?_) #[true, true, true, true, true, true, false, false, false, false, false] rfl rfl (by kernel_rfl) (fun _ _ _ h => h) (Or.inl ⟨by rfl, ?_⟩) hHeld ?_ ?_
                        rotate_left
                        · rintro w' ⟨s0, s1, s2, s3⟩
                          go_simp
                          with_reducible rfl
                        rotate_left
                        · simp only [Act.put, List.setIfInBounds_toArray, List.set_cons_zero, List.set_cons_succ, i64_w, i32_w]
                          rfl
                        refine one_ (i := 6) (N := some 170) #[true, true, true, true, true, true, true, false, false, false, false] rfl rfl (by kernel_rfl) (by decide) (fun K hK => ?_)
                        refine value_ (w1 := ?_) (v := ?_) (by rfl) rfl ?_ ?_
                        rotate_left 2
                        · go_simp
                          constructor
                          · rfl
                          · rfl
                        refine hK.out _ _ ⟨(HG4.out _ hZ1).1, (HG4.out _ hZ1).2.1, (HG4.out _ hZ1).2.2.1, (HG4.out _ hZ1).2.2.2⟩ (fun hHeld => ?_)
                        clear hK K
                        refine norm_ (a' := ?_) ?_ ?_
                        rotate_left
                        · show Act.put _ (some 170) _ = _
                          simp only [Act.put, List.setIfInBounds_toArray, List.set_cons_zero, List.set_cons_succ, i64_w, i32_w]
                          rfl
                        refine one_ (i := 7) (N := some 171) #[true, true, true, true, true, true, true, true, false, false, false] rfl rfl (by kernel_rfl) (by decide) (fun K hK => ?_)
                        refine step_append_any _ (by rfl) (.tmp 168) (.tmp 170) _ (by rfl) w2.heap.size 57 i0 _ 3 32 Tryz.underlying52 HI0.out HZ0.out HZ1.out HZ2.out rfl (by omega) (.slice (some ⟨gB, gO, none⟩) L.length ca) L.length (cellsS L) (by rfl) (by exact (HRV.out.own.alloc _)) _ (some ⟨V.heap.size, 0, none⟩) 1 1 [.string nx, .int .i64 va, .int .i64 vn] (by rfl) (by exact reads_new V.drew nx va vn) (by simp [Value.oneCell']) (by unfold maxLen; omega) (by omega) (by exact Nat.le_trans hbase hZ1.size) ?_
                        intro v7 w7 hown7 hg7 _
                        obtain ⟨g9, c9, rfl, _, _⟩ := hown7.form (by omega)
                        have hb7 : Below w2.heap.size w2 w7 := (hbV.trans (hZ1.mono hbase)).grown hg7 (Nat.le_trans hbase hZ1.size) (fun b hb => (HRV.out.own.lt b hb).1)
                        have hpush := HRV.out.push (e := (nx.data.toList, (va, vn))) hZ1 (by rw [show cellsE (nx.data.toList, (va, vn)) = [.string nx, .int .i64 va, .int .i64 vn] from by simp only [cellsE, ba_self]]; exact hown7) hg7 hlast.out hnx1
                        have hb7q := (hg7.block _ (Nat.lt_of_lt_of_le hqV hZ1.size) HRV.out.block_ne).trans ((hZ1.block _ hqV).trans HRV.out.cells)
                        have hfz7 : w7.frozen? ⟨w2.heap.size, 4, none⟩ = false := by simp [World.frozen?, hb7q]
                        clear hb7q
                        refine hK.out _ _ ⟨((hg7.cell_far ⟨w2.heap.size, 4, none⟩ (Nat.lt_of_lt_of_le hqV hZ1.size) HRV.out.block_ne).trans (HG4.out _ hZ1).1), ((hg7.cell_far ⟨w3.heap.size, 0, none⟩ (Nat.lt_of_lt_of_le hzVs hZ1.size) (fun h => absurd (hbk.out _ h.symm) (Nat.lt_irrefl _))).trans (HG4.out _ hZ1).2.1), ((hg7.cell_far ⟨w3.heap.size, 1, none⟩ (Nat.lt_of_lt_of_le hzVs hZ1.size) (fun h => absurd (hbk.out _ h.symm) (Nat.lt_irrefl _))).trans (HG4.out _ hZ1).2.2.1), ((hg7.cell_far ⟨w3.heap.size, 2, none⟩ (Nat.lt_of_lt_of_le hzVs hZ1.size) (fun h => absurd (hbk.out _ h.symm) (Nat.lt_irrefl _))).trans (HG4.out _ hZ1).2.2.2)⟩ (fun hHeld => ?_)
                        clear hK K
                        refine norm_ (a' := ?_) ?_ ?_
                        rotate_left
                        · show Act.put _ (some 171) _ = _
                          simp only [Act.put, List.setIfInBounds_toArray, List.set_cons_zero, List.set_cons_succ, i64_w, i32_w]
                          rfl
                        refine pure_ (i := 8) (N := some 172) (v := ?_) (a' := ?_) #[true, true, true, true, true, true, true, true, true, false, false] rfl rfl (by kernel_rfl) (fun _ _ _ h => h) (Or.inl ⟨by rfl, ?_⟩) ?_ ?_
                        rotate_left
                        · intro w'
                          go_simp
                          with_reducible rfl
                        rotate_left
                        · simp only [Act.put, List.setIfInBounds_toArray, List.set_cons_zero, List.set_cons_succ, i64_w, i32_w]
                          rfl
                        refine pure_ (i := 9) (N := some 173) (v := ?_) (a' := ?_) #[true, true, true, true, true, true, true, true, true, true, false] rfl rfl (by kernel_rfl) (fun _ _ _ h => h) (Or.inl ⟨by rfl, ?_⟩) ?_ ?_
                        rotate_left
                        · intro w'
                          go_simp
                          with_reducible rfl
                        rotate_left
                        · simp only [Act.put, List.setIfInBounds_toArray, List.set_cons_zero, List.set_cons_succ, i64_w, i32_w]
                          rfl
                        refine last_ (i := 10) (N := none) #[true, true, true, true, true, true, true, true, true, true, true] rfl rfl (by kernel_rfl) (by decide) (fun K hK => ?_)
                        refine skip_ (w1 := ?_) (by rfl) rfl ?_ ?_
                        rotate_left
                        · go_simp
                          rfl
                        refine hK.out _ _ ?_
                        clear hK K
                        refine done_ (by kernel_rfl) ?_
                        have hbS := hb7.setCell (p := ⟨w2.heap.size, 4, none⟩) (Nat.le_refl _) (.slice (some ⟨g9, 0, none⟩) (L.length + 1) c9)
                        go_wp2_with fail
                        have hkm : IntKind.i64.wrap ((k : Int) + 1) = ((k + 1 : Nat) : Int) := by rw [IntWalk.i64_in _ (by omega)]; omega
                        go_roundw
                        case rel =>
                          have HNEXT : refL z2 ((u'.map (·.data.toList)).take (k + 1 - 1)) [] = some (L ++ [(nx.data.toList, (va, vn))]) := by
                            obtain ⟨k', rfl⟩ : ∃ k', k = k' + 1 := ⟨k - 1, by omega⟩
                            have e1 : (u'.map (·.data.toList)).take (k' + 1 + 1 - 1) = (u'.map (·.data.toList)).take (k' + 1 - 1) ++ [x.data.toList] := by
                              have h9 := HLINE.out
                              simp only [Nat.add_sub_cancel] at h9 ⊢
                              rw [List.take_add_one, h9]; rfl
                            rw [e1, refL_append, HRL.out, Option.bind_some, HLN.out, if_pos HOK.out]; rfl
                          refine ⟨k + 1, L ++ [(nx.data.toList, (va, vn))], _, _, by omega, by omega, ?_, hpush, HNEXT, hbS, by simp; omega⟩
                          first
                            | rfl
                            | (simp only [hkm]; done)
                            | (simp; done)
                        case measure =>
                          first
                            | (simp only [hkm, intOf]; omega)
                            | (simp [intOf]; omega)

                · have q1 : ((rs.length : Int) != 3) = true := by rw [bne_iff_ne]; omega
                  have q2 : ((rs.length : Int) == 3) = false := by rw [beq_eq_false_iff_ne]; omega
                  have HN : Hid (refB s.data.toList = none) := HBAD.out (fun r => by
                    simp only [refL]
                    rw [← HRS.out]
                    split
                    · rename_i h9
                      have := congrArg List.length h9
                      simp at this
                      exact absurd this h3
                    · rfl)
                  clear h3
                  go_wp2_with fail
                  go_ret
                  exact ⟨HB3.out, .inr ⟨HN.out, rfl⟩⟩
              · have HALL : Hid (refL z2 (u'.map (·.data.toList)) [] = some L) := by
                  have h1 := hrl
                  rw [List.take_of_length_le (by rw [HMID.out]; omega)] at h1
                  exact h1
                have hL1 : L.length ≤ 1000 := by
                  have h2 := refL_length z2 HALL.out
                  have h3 := parts_sum 10 s.data.toList
                  have h4 := HSL.out
                  rw [HLAST.out] at h3
                  simp only [List.map_cons, List.cons_append, sumLen, sumLen_app, List.length_nil] at h2 h3
                  omega
                have hok : Ok ⟨z0, z1, z2, mk, L⟩ := by
                  obtain ⟨N, hN, _, hgood, _⟩ := refL_inv _ _ _ _ HALL.out List.Pairwise.nil
                  rw [List.nil_append] at hN
                  subst hN
                  exact ⟨hk0, by simpa using (show z0 ≤ 1099511627776 by omega), hk1, by simpa using (show z1 ≤ 1099511627776 by omega), hk2, by simpa using (show z2 ≤ 1099511627776 by omega), hmlo, hmhi, fun e he => by
                    obtain ⟨_, g1, g2⟩ := hgood e he
                    exact ⟨g1.1, g1.2, g2.1, g2.2⟩⟩
                have hmc : wr.cell? ⟨w2.heap.size, 3, none⟩ = some (.int .i64 mk) := by simp [World.cell?, hrr.cells]
                have hrd : Rr w2.heap.size wr.drew w2.heap.size ⟨z0, z1, z2, mk, L⟩ A ca := hrr.below ((Below.refl _ _).drew)
                have hq2 : w2.heap.size < wr.drew.heap.size := (Array.getElem?_eq_some_iff.1 hrd.cells).1
                have HRD := Lib.hid hrd
                have HOK := Lib.hid hok
                clear hrl hrr hrd hok
                go_wp2_with fail
                refine start_ (n := 7) (S := fun w' => w'.cell? ⟨w2.heap.size, 3, none⟩ = some (.int .i64 mk)) (ds := []) #[false, false, false, false, false, false, false] (by kernel_rfl) rfl rfl (hmc) (fun hHeld => ?_)
                refine pure_ (i := 0) (N := some 174) (v := ?_) (a' := ?_) #[true, false, false, false, false, false, false] rfl rfl (by kernel_rfl) (fun _ _ _ h => h) (Or.inl ⟨by rfl, ?_⟩) ?_ ?_
                rotate_left
                · intro w'
                  go_simp
                  with_reducible rfl
                rotate_left
                · simp only [Act.put, List.setIfInBounds_toArray, List.set_cons_zero, List.set_cons_succ, i64_w, i32_w]
                  rfl
                refine pure_ (i := 1) (N := some 175) (v := ?_) (a' := ?_) #[true, true, false, false, false, false, false] rfl rfl (by kernel_rfl) (fun _ _ _ h => h) (Or.inl ⟨by rfl, ?_⟩) ?_ ?_
                rotate_left
                · intro w'
                  go_simp
                  with_reducible rfl
                rotate_left
                · simp only [Act.put, List.setIfInBounds_toArray, List.set_cons_zero, List.set_cons_succ, i64_w, i32_w]
                  rfl
                refine pure_ (i := 2) (N := some 176) (v := ?_) (a' := ?_) #[true, true, true, false, false, false, false] rfl rfl (by kernel_rfl) (fun _ _ _ h => h) (Or.inl ⟨by rfl, ?_⟩) ?_ ?_
                rotate_left
                · intro w'
                  go_simp
                  with_reducible rfl
                rotate_left
                · simp only [Act.put, List.setIfInBounds_toArray, List.set_cons_zero, List.set_cons_succ, i64_w, i32_w]
                  rfl
                refine pure_ (i := 4) (N := some 178) (v := ?_) (a' := ?_) #[true, true, true, false, true, false, false] rfl rfl (by kernel_rfl) (fun _ _ _ h => h) (Or.inl ⟨by rfl, ?_⟩) ?_ ?_
                rotate_left
                · intro w'
                  go_simp
                  with_reducible rfl
                rotate_left
                · simp only [Act.put, List.setIfInBounds_toArray, List.set_cons_zero, List.set_cons_succ, i64_w, i32_w]
                  rfl
                refine take_ (i := 3) (N := some 177) (v := ?_) (a' := ?_) #[true, true, true, true, true, false, false] rfl rfl (by kernel_rfl) (fun _ _ _ h => h) (Or.inl ⟨by rfl, ?_⟩) hHeld ?_ ?_
                rotate_left
                · intro w' s0
                  go_simp
                  with_reducible rfl
                rotate_left
                · simp only [Act.put, List.setIfInBounds_toArray, List.set_cons_zero, List.set_cons_succ, i64_w, i32_w]
                  rfl
                refine one_ (i := 5) (N := some 179) #[true, true, true, true, true, true, false] rfl rfl (by kernel_rfl) (by decide) (fun K hK => ?_)
                refine goes_ Tryz.func19 (by kernel_rfl) rfl #[.pointer (some ⟨w2.heap.size, 0, none⟩)] (by rfl) rfl rfl (by simp only [List.map_toArray, List.map_cons, List.map_nil]; rfl) ?_
                with_reducible refine (tell_calls w2.heap.size ⟨z0, z1, z2, mk, L⟩ _ (by exact HRD.out.rf) (by exact HOK.out) (by exact hL1)).mono ?_
                rintro e y ⟨rfl, hy⟩
                refine ⟨_, rfl, ?_⟩
                refine hK.out _ _ (((hy.cell (p := ⟨w2.heap.size, 3, none⟩) hq2).trans hmc)) (fun hHeld => ?_)
                clear hK K
                refine norm_ (a' := ?_) ?_ ?_
                rotate_left
                · show Act.put _ (some 179) _ = _
                  simp only [Act.put, List.setIfInBounds_toArray, List.set_cons_zero, List.set_cons_succ, i64_w, i32_w]
                  rfl
                refine pure_ (i := 6) (N := some 180) (v := ?_) (a' := ?_) #[true, true, true, true, true, true, true] rfl rfl (by kernel_rfl) (fun _ _ _ h => h) (Or.inl ⟨by rfl, ?_⟩) ?_ ?_
                rotate_left
                · intro w'
                  go_simp
                  with_reducible rfl
                rotate_left
                · simp only [Act.put, List.setIfInBounds_toArray, List.set_cons_zero, List.set_cons_succ, i64_w, i32_w]
                  rfl
                refine done_ (by kernel_rfl) ?_
                have HBY : Hid (Below w.heap.size w y) := (HB0R.out.drew).trans (hy.mono (by exact Nat.le_trans hwq hws))
                have HRY := Lib.hid (HRD.out.below hy).rf
                clear hHeld hmc hy
                by_cases hT : mk < tellV ⟨z0, z1, z2, mk, L⟩
                · have HN : Hid (refB s.data.toList = none) := by rw [Hid, HREF3.out, HALL.out]; simp only [if_pos hT]
                  go_wp2_with fail
                  go_ret
                  exact ⟨HBY.out, .inr ⟨HN.out, rfl⟩⟩
                · have HS : Hid (refB s.data.toList = some ⟨z0, z1, z2, mk, L⟩) := by rw [Hid, HREF3.out, HALL.out]; simp only [if_neg hT]
                  go_wp2_with fail
                  go_ret
                  exact ⟨HBY.out, .inl ⟨_, _, HS.out, rfl, hwq, HRY.out⟩⟩
        · have q1 : (kw.toList == [99, 108, 111, 99, 107]) = false := by
            rw [toList_data, beq_eq_false_iff_ne]; exact hkw
          have HN : Hid (refB s.data.toList = none) := by
            rw [Hid, HREF.out, if_neg]
            unfold headOk
            simp [hkw]
          clear hkw
          go_wp2_with fail
          go_ret
          exact ⟨HB02.out, .inr ⟨HN.out, rfl⟩⟩
      · have q1 : ((qs.length : Int) != 5) = true := by rw [bne_iff_ne]; omega
        have q2 : ((qs.length : Int) == 5) = false := by rw [beq_eq_false_iff_ne]; omega
        have HN : Hid (refB s.data.toList = none) := by
          rw [Hid, HREF.out]
          split
          · rename_i h9
            have := congrArg List.length h9
            simp at this
            exact absurd this h5
          · rfl
        clear h5
        go_wp2_with fail
        go_ret
        exact ⟨HB02.out, .inr ⟨HN.out, rfl⟩⟩
  · have HN : Hid (refB s.data.toList = none) := by
      unfold Hid refB
      rw [if_pos]
      rw [HLAST.out]
      refine .inl ?_
      simpa using hx0
    have hx1 : ¬ xl.toList = [] := by rw [toList_data]; exact hx0
    have hx2 : (!xl.toList.isEmpty) = true := by simpa using hx1
    clear hx0
    go_wp2_with fail
    go_ret
    exact ⟨HB1.out, .inr ⟨HN.out, rfl⟩⟩

end Go.Proofs.YtomnmgmehagjfaaGreatDoor.Ck
