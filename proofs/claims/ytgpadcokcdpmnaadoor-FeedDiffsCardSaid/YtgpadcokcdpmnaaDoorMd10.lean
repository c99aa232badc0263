import Derived.Test.YtgpadcokcdpmnaaDoorMd7
import Derived.Test.YtgpadcokcdpmnaaDoorMd9
set_option linter.unusedVariables false
set_option linter.unusedSimpArgs false
section
namespace Go.Proofs.YtgpadcokcdpmnaaDoor.Fd
open Go Go.RowKit Go.Maps Go.Sort Go.Shelf Go.Lib Go.Proofs.YtgpadcokcdpmnaaDoorW.PrintLast
set_option linter.unusedVariables false
set_option linter.unusedSimpArgs false
set_option maxHeartbeats 4000000 in
set_option maxRecDepth 100000 in
theorem put15_calls (A : Option Addr) (cap : Nat) (l : List Tx) (s : ByteArray) (w : World) (h : TxAt w A l) (hc : l.length ≤ cap) (hl : l.length ≤ 1000000) :
    Calls Tryd.prog 45 #[.slice A l.length cap, .string s] w fun r w' => PutPost w (putL l s.data.toList) r w' := by
  have H := Lib.hid h
  obtain ⟨i0, hi, hz0, hz1, hz2⟩ := info_of str_info
  have HI0 := Lib.hid hi
  have HZ0 := Lib.hid hz0
  have HZ1 := Lib.hid hz1
  have HZ2 := Lib.hid hz2
  clear h hi hz0 hz1 hz2
  go_enter Tryd.func45, Tryd.ntmps45
  go_wp2_with fail
  go_loop [5] (fun v5 => ∃ k : Nat, k ≤ l.length ∧ v5 = .int .i64 k ∧ ∀ x ∈ l.take k, bytesBefore x s.data.toList = true) (fun v5 => l.length - (intOf v5).toNat)
  case atStart => exact ⟨0, Nat.zero_le _, rfl, by simp⟩
  case round =>
    obtain ⟨k, hk, rfl, hall⟩ := hrel
    have HALL := Lib.hid hall
    clear hall
    have hki : (0 : Int) ≤ k := by omega
    by_cases hlt : k < l.length
    · obtain ⟨x, hx⟩ : ∃ x, l[k]? = some x := ⟨_, List.getElem?_eq_getElem hlt⟩
      obtain ⟨g, O, rfl, hg, hcell⟩ := H.out k x hx
      have hli : (k : Int) < l.length := by omega
      have HX := Lib.hid hx
      clear hx
      cases hb : Op.bytesLess x s.toList with
      | true =>
        have HN : Hid (∀ y ∈ l.take (k + 1), bytesBefore y s.data.toList = true) := by
          intro y hy
          rw [List.take_add_one, HX.out] at hy
          rcases List.mem_append.1 hy with hy | hy
          · exact HALL.out y hy
          · simp at hy; subst hy; rw [toList_data, less_before] at hb; exact hb
        go_wp2_with fail
        go_round
        case rel => exact ⟨k + 1, by omega, by first | rfl | go_num, HN.out⟩
        case measure => simp [intOf]; omega
      | false =>
        have HPL : Hid (plc l s.data.toList = k) := plc_at HALL.out (fun y hy => by
          rw [HX.out] at hy; cases hy; rw [toList_data, less_before] at hb; exact hb) hk
        cases he : (x == s.toList) with
        | true =>
          have HR : Hid (putL l s.data.toList = l) := by
            unfold Hid putL
            rw [HPL.out, HX.out, if_pos]
            rw [toList_data, beq_iff_eq] at he
            exact congrArg some he
          go_wp2_with fail
          go_ret
          rw [HR.out]
          exact ⟨some ⟨g, O, none⟩, cap, rfl, H.out, hc, Below.refl _ _⟩
        | false =>
          have HR : Hid (putL l s.data.toList = l.take k ++ s.data.toList :: l.drop k) := by
            unfold Hid putL
            rw [HPL.out, HX.out, if_neg]
            rw [toList_data, beq_eq_false_iff_ne] at he
            intro h1; cases h1; exact he rfl
          have hkm : k ≤ l.length := hk
          have hkI2 : (k : Int) ≤ (l.length : Int) := by omega
          have hkI3 : (l.length : Int) ≤ (cap : Int) := by omega
          have hkc : k ≤ cap := by omega
          have hRX := H.out.reads
          have HRT : Hid (Ck.Reads w.drew w.heap.size 1 (some ⟨g, O, none⟩) k ((l.take k).map encStr)) := (reads_take hRX hkm).drew
          have HRE : Hid (Ck.Reads w.drew w.heap.size 1 (if cap = k then some ⟨g, O, none⟩ else some ⟨g, O + k, none⟩) (l.length - k) ((l.drop k).map encStr)) := by
            have h9 := (reads_cut hRX hkm hc).drew
            rw [Option.map_some, add_off] at h9
            exact h9
          clear hRX
          go_wp2_with fail
          refine start_ (n := 13) (S := fun w' => True) (ds := []) #[false, false, false, false, false, false, false, false, false, false, false, false, false] (by kernel_rfl) rfl rfl trivial (fun hHeld => ?_)
          refine pure_ (i := 1) (N := some 34) (v := ?_) (a' := ?_) #[false, true, false, false, false, false, false, false, false, false, false, false, false] rfl rfl (by kernel_rfl) (fun _ _ _ h => h) (Or.inl ⟨by rfl, ?_⟩) ?_ ?_
          rotate_left
          · intro w'
            go_simp
            with_reducible rfl
          rotate_left
          · simp only [Act.put, List.setIfInBounds_toArray, List.set_cons_zero, List.set_cons_succ, i64_w, i32_w]
            rfl
          refine pure_ (i := 2) (N := some 35) (v := ?_) (a' := ?_) #[false, true, true, false, false, false, false, false, false, false, false, false, false] rfl rfl (by kernel_rfl) (fun _ _ _ h => h) (Or.inl ⟨by rfl, ?_⟩) ?_ ?_
          rotate_left
          · intro w'
            go_simp
            with_reducible rfl
          rotate_left
          · simp only [Act.put, List.setIfInBounds_toArray, List.set_cons_zero, List.set_cons_succ, i64_w, i32_w]
            rfl
          refine pure_ (i := 3) (N := some 36) (v := ?_) (a' := ?_) #[false, true, true, true, false, false, false, false, false, false, false, false, false] rfl rfl (by kernel_rfl) (fun _ _ _ h => h) (Or.inl ⟨by rfl, ?_⟩) ?_ ?_
          rotate_left
          · intro w'
            go_simp
            with_reducible rfl
          rotate_left
          · simp only [Act.put, List.setIfInBounds_toArray, List.set_cons_zero, List.set_cons_succ, i64_w, i32_w]
            rfl
          refine pure_ (i := 5) (N := some 38) (v := ?_) (a' := ?_) #[false, true, true, true, false, true, false, false, false, false, false, false, false] rfl rfl (by kernel_rfl) (fun _ _ _ h => h) (Or.inl ⟨by rfl, ?_⟩) ?_ ?_
          rotate_left
          · intro w'
            go_simp
            with_reducible rfl
          rotate_left
          · simp only [Act.put, List.setIfInBounds_toArray, List.set_cons_zero, List.set_cons_succ, i64_w, i32_w]
            rfl
          refine pure_ (i := 8) (N := some 41) (v := ?_) (a' := ?_) #[false, true, true, true, false, true, false, false, true, false, false, false, false] rfl rfl (by kernel_rfl) (fun _ _ _ h => h) (Or.inl ⟨by rfl, ?_⟩) ?_ ?_
          rotate_left
          · intro w'
            go_simp
            with_reducible rfl
          rotate_left
          · simp only [Act.put, List.setIfInBounds_toArray, List.set_cons_zero, List.set_cons_succ, i64_w, i32_w]
            rfl
          refine pure_ (i := 9) (N := some 42) (v := ?_) (a' := ?_) #[false, true, true, true, false, true, false, false, true, true, false, false, false] rfl rfl (by kernel_rfl) (fun _ _ _ h => h) (Or.inl ⟨by rfl, ?_⟩) ?_ ?_
          rotate_left
          · intro w'
            go_simp
            with_reducible rfl
          rotate_left
          · simp only [Act.put, List.setIfInBounds_toArray, List.set_cons_zero, List.set_cons_succ, i64_w, i32_w]
            rfl
          refine pure_ (i := 10) (N := some 43) (v := ?_) (a' := ?_) #[false, true, true, true, false, true, false, false, true, true, true, false, false] rfl rfl (by kernel_rfl) (fun _ _ _ h => h) (Or.inl ⟨by rfl, ?_⟩) ?_ ?_
          rotate_left
          · intro w'
            go_simp
            with_reducible rfl
          rotate_left
          · simp only [Act.put, List.setIfInBounds_toArray, List.set_cons_zero, List.set_cons_succ, i64_w, i32_w]
            rfl
          refine join_ (σ := Nat × Nat × Value) 3 #[true, true, true, true, true, true, true, false, true, true, true, false, false] (fun z => [(33, .slice (some ⟨z.1, 0, none⟩) 0 0), (37, z.2.2), (39, .slice (some ⟨z.2.1, 0, none⟩) 1 1)]) (fun z w' => AFS w w' z.2.1 s ∧ w'.ownsRow w.heap.size 9 1 z.2.2 (0 + k) ([] ++ (l.take k).map encStr) ∧ (∀ y, z.2.2.ownBlock = some y → y ≠ z.2.1) ∧ Below w.heap.size w w') ?_ ?_
          rotate_left
          · intro hCont
            refine two_ (i := 0) (j := 6) (Ni := some 33) (Nj := some 39) #[true, true, true, true, false, true, false, false, true, true, true, false, false] #[false, true, true, true, false, true, true, false, true, true, true, false, false] rfl rfl rfl rfl (by kernel_rfl) (by decide) (by decide) (fun K hK => ?_) (fun K hK => ?_)
            · skip
              refine value_ (w1 := ?_) (v := ?_) (by rfl) rfl ?_ ?_
              rotate_left 2
              · go_simp
                constructor
                · rfl
                · rfl
              have hB0 : Below w.heap.size w w.drew := (Below.refl _ _).drew
              have hB1 : Below w.heap.size w (w.drew.alloc (.cells #[] 9)) := Below.alloc hB0 (by exact hB0.size) _
              have en0 : w.drew.heap.size = w.heap.size := rfl
              have own0 : (w.drew.alloc (.cells #[] 9)).ownsRow w.heap.size 9 1 (.slice (some ⟨w.heap.size, 0, none⟩) 0 0) 0 [] := rown_empty (by rw [← en0]; exact heap_alloc_new w.drew _) (by omega)
              have hrt := HRT.out.alloc (by exact hB0.size) (.cells #[] 9)
              refine hK.out _ _ trivial (fun hHeld => ?_)
              clear hK K
              refine norm_ (a' := ?_) ?_ ?_
              rotate_left
              · show Act.put _ (some 33) _ = _
                simp only [Act.put, List.setIfInBounds_toArray, List.set_cons_zero, List.set_cons_succ, i64_w, i32_w]
                rfl
              refine two_ (i := 4) (j := 6) (Ni := some 37) (Nj := some 39) #[true, true, true, true, true, true, false, false, true, true, true, false, false] #[true, true, true, true, false, true, true, false, true, true, true, false, false] rfl rfl rfl rfl (by kernel_rfl) (by decide) (by decide) (fun K hK => ?_) (fun K hK => ?_)
              · skip
                refine Ck.step_append_any _ (by rfl) (.tmp 33) (.tmp 36) _ (by rfl) w.heap.size 9 i0 _ 1 16 Tryd.underlying39 HI0.out HZ0.out HZ1.out HZ2.out rfl (by omega) (.slice (some ⟨w.heap.size, 0, none⟩) 0 0) 0 [] (by rfl) (by exact own0) w.heap.size (some ⟨g, O, none⟩) k cap ((l.take k).map encStr) (by rfl) hrt (encs_one _) (by unfold maxLen; omega) (by omega) (by exact hB1.size) ?_
                intro v7 w7 hown7 hg7 hat7
                have hB2 : Below w.heap.size w w7 := hB1.grown hg7 (by exact hB1.size) (by intro k hk; simp only [Value.ownBlock, Option.some.injEq] at hk; omega)
                refine hK.out _ _ trivial (fun hHeld => ?_)
                clear hK K
                refine norm_ (a' := ?_) ?_ ?_
                rotate_left
                · show Act.put _ (some 37) _ = _
                  simp only [Act.put, List.setIfInBounds_toArray, List.set_cons_zero, List.set_cons_succ, i64_w, i32_w]
                  rfl
                refine one_ (i := 6) (N := some 39) #[true, true, true, true, true, true, true, false, true, true, true, false, false] rfl rfl (by kernel_rfl) (by decide) (fun K hK => ?_)
                refine value_ (w1 := ?_) (v := ?_) (by rfl) rfl ?_ ?_
                rotate_left 2
                · go_simp
                  constructor
                  · rfl
                  · rfl
                have hB3 : Below w.heap.size w (w7.alloc (.cells #[.string s] 9)) := Below.alloc hB2 (by exact hB2.size) _
                have en2 : w7.heap.size = w7.heap.size := rfl
                have af1 : AFS w (w7.alloc (.cells #[.string s] 9)) (w7.heap.size) s := by
                  have h9 := AFS.new_ (w5 := w) (wx := w7) (s := s) hB2.size
                  rw [en2] at h9
                  exact h9
                refine hK.out _ _ trivial (fun hHeld => ?_)
                clear hK K
                refine norm_ (a' := ?_) ?_ ?_
                rotate_left
                · show Act.put _ (some 39) _ = _
                  simp only [Act.put, List.setIfInBounds_toArray, List.set_cons_zero, List.set_cons_succ, i64_w, i32_w]
                  rfl
                exact norm_ (by simp only [putAll, Act.put, List.setIfInBounds_toArray, List.set_cons_zero, List.set_cons_succ]) (hCont (w.heap.size, w7.heap.size, v7) _ ⟨af1, hown7.alloc _, fun z hz e => by have h1 := (hown7.lt z hz).2; have e2 : z = w7.heap.size := e; omega, hB3⟩)
              · skip
                refine value_ (w1 := ?_) (v := ?_) (by rfl) rfl ?_ ?_
                rotate_left 2
                · go_simp
                  constructor
                  · rfl
                  · rfl
                have hB2 : Below w.heap.size w ((w.drew.alloc (.cells #[] 9)).alloc (.cells #[.string s] 9)) := Below.alloc hB1 (by exact hB1.size) _
                have en1 : (w.drew.alloc (.cells #[] 9)).heap.size = w.heap.size + 1 := alloc_sz _ _
                have af1 : AFS w ((w.drew.alloc (.cells #[] 9)).alloc (.cells #[.string s] 9)) (w.heap.size + 1) s := by
                  have h9 := AFS.new_ (w5 := w) (wx := (w.drew.alloc (.cells #[] 9))) (s := s) hB1.size
                  rw [en1] at h9
                  exact h9
                have own0 := own0.alloc (.cells #[.string s] 9)
                have hrt := hrt.alloc (by exact hB1.size) (.cells #[.string s] 9)
                refine hK.out _ _ trivial (fun hHeld => ?_)
                clear hK K
                refine norm_ (a' := ?_) ?_ ?_
                rotate_left
                · show Act.put _ (some 39) _ = _
                  simp only [Act.put, List.setIfInBounds_toArray, List.set_cons_zero, List.set_cons_succ, i64_w, i32_w]
                  rfl
                refine one_ (i := 4) (N := some 37) #[true, true, true, true, true, true, true, false, true, true, true, false, false] rfl rfl (by kernel_rfl) (by decide) (fun K hK => ?_)
                refine Ck.step_append_any _ (by rfl) (.tmp 33) (.tmp 36) _ (by rfl) w.heap.size 9 i0 _ 1 16 Tryd.underlying39 HI0.out HZ0.out HZ1.out HZ2.out rfl (by omega) (.slice (some ⟨w.heap.size, 0, none⟩) 0 0) 0 [] (by rfl) (by exact own0) w.heap.size (some ⟨g, O, none⟩) k cap ((l.take k).map encStr) (by rfl) hrt (encs_one _) (by unfold maxLen; omega) (by omega) (by exact hB2.size) ?_
                intro v7 w7 hown7 hg7 hat7
                have hB3 : Below w.heap.size w w7 := hB2.grown hg7 (by exact hB2.size) (by intro k hk; simp only [Value.ownBlock, Option.some.injEq] at hk; omega)
                have en2 : ((w.drew.alloc (.cells #[] 9)).alloc (.cells #[.string s] 9)).heap.size = w.heap.size + 2 := (alloc_sz _ _).trans (congrArg (· + 1) (alloc_sz _ _))
                have ne1 : ∀ z, v7.ownBlock = some z → z ≠ w.heap.size + 1 := by
                  intro z hz e
                  rcases hat7 with e7 | e7
                  · rw [e7] at hz; simp only [Value.ownBlock, Option.some.injEq] at hz; omega
                  · rw [e7] at hz; have hz2 := (Option.some.inj hz).symm.trans en2; omega
                have af1 := af1.grown hg7 (by simp only [Value.ownBlock, ne_eq, Option.some.injEq]; omega)
                refine hK.out _ _ trivial (fun hHeld => ?_)
                clear hK K
                refine norm_ (a' := ?_) ?_ ?_
                rotate_left
                · show Act.put _ (some 37) _ = _
                  simp only [Act.put, List.setIfInBounds_toArray, List.set_cons_zero, List.set_cons_succ, i64_w, i32_w]
                  rfl
                exact norm_ (by simp only [putAll, Act.put, List.setIfInBounds_toArray, List.set_cons_zero, List.set_cons_succ]) (hCont (w.heap.size, w.heap.size + 1, v7) _ ⟨af1, hown7, ne1, hB3⟩)
            · skip
              refine value_ (w1 := ?_) (v := ?_) (by rfl) rfl ?_ ?_
              rotate_left 2
              · go_simp
                constructor
                · rfl
                · rfl
              have hB0 : Below w.heap.size w w.drew := (Below.refl _ _).drew
              have hB1 : Below w.heap.size w (w.drew.alloc (.cells #[.string s] 9)) := Below.alloc hB0 (by exact hB0.size) _
              have en0 : w.drew.heap.size = w.heap.size := rfl
              have af1 : AFS w (w.drew.alloc (.cells #[.string s] 9)) (w.heap.size) s := by
                have h9 := AFS.new_ (w5 := w) (wx := w.drew) (s := s) hB0.size
                rw [en0] at h9
                exact h9
              have hrt := HRT.out.alloc (by exact hB0.size) (.cells #[.string s] 9)
              refine hK.out _ _ trivial (fun hHeld => ?_)
              clear hK K
              refine norm_ (a' := ?_) ?_ ?_
              rotate_left
              · show Act.put _ (some 39) _ = _
                simp only [Act.put, List.setIfInBounds_toArray, List.set_cons_zero, List.set_cons_succ, i64_w, i32_w]
                rfl
              refine one_ (i := 0) (N := some 33) #[true, true, true, true, false, true, true, false, true, true, true, false, false] rfl rfl (by kernel_rfl) (by decide) (fun K hK => ?_)
              refine value_ (w1 := ?_) (v := ?_) (by rfl) rfl ?_ ?_
              rotate_left 2
              · go_simp
                constructor
                · rfl
                · rfl
              have hB2 : Below w.heap.size w ((w.drew.alloc (.cells #[.string s] 9)).alloc (.cells #[] 9)) := Below.alloc hB1 (by exact hB1.size) _
              have en1 : (w.drew.alloc (.cells #[.string s] 9)).heap.size = w.heap.size + 1 := alloc_sz _ _
              have own0 : ((w.drew.alloc (.cells #[.string s] 9)).alloc (.cells #[] 9)).ownsRow w.heap.size 9 1 (.slice (some ⟨w.heap.size + 1, 0, none⟩) 0 0) 0 [] := rown_empty (by rw [← en1]; exact heap_alloc_new (w.drew.alloc (.cells #[.string s] 9)) _) (by omega)
              have af1 := af1.alloc (.cells #[] 9)
              have hrt := hrt.alloc (by exact hB1.size) (.cells #[] 9)
              refine hK.out _ _ trivial (fun hHeld => ?_)
              clear hK K
              refine norm_ (a' := ?_) ?_ ?_
              rotate_left
              · show Act.put _ (some 33) _ = _
                simp only [Act.put, List.setIfInBounds_toArray, List.set_cons_zero, List.set_cons_succ, i64_w, i32_w]
                rfl
              refine one_ (i := 4) (N := some 37) #[true, true, true, true, true, true, true, false, true, true, true, false, false] rfl rfl (by kernel_rfl) (by decide) (fun K hK => ?_)
              refine Ck.step_append_any _ (by rfl) (.tmp 33) (.tmp 36) _ (by rfl) w.heap.size 9 i0 _ 1 16 Tryd.underlying39 HI0.out HZ0.out HZ1.out HZ2.out rfl (by omega) (.slice (some ⟨w.heap.size + 1, 0, none⟩) 0 0) 0 [] (by rfl) (by exact own0) w.heap.size (some ⟨g, O, none⟩) k cap ((l.take k).map encStr) (by rfl) hrt (encs_one _) (by unfold maxLen; omega) (by omega) (by exact hB2.size) ?_
              intro v7 w7 hown7 hg7 hat7
              have hB3 : Below w.heap.size w w7 := hB2.grown hg7 (by exact hB2.size) (by intro k hk; simp only [Value.ownBlock, Option.some.injEq] at hk; omega)
              have en2 : ((w.drew.alloc (.cells #[.string s] 9)).alloc (.cells #[] 9)).heap.size = w.heap.size + 2 := (alloc_sz _ _).trans (congrArg (· + 1) (alloc_sz _ _))
              have ne1 : ∀ z, v7.ownBlock = some z → z ≠ w.heap.size := by
                intro z hz e
                rcases hat7 with e7 | e7
                · rw [e7] at hz; simp only [Value.ownBlock, Option.some.injEq] at hz; omega
                · rw [e7] at hz; have hz2 := (Option.some.inj hz).symm.trans en2; omega
              have af1 := af1.grown hg7 (by simp only [Value.ownBlock, ne_eq, Option.some.injEq]; omega)
              refine hK.out _ _ trivial (fun hHeld => ?_)
              clear hK K
              refine norm_ (a' := ?_) ?_ ?_
              rotate_left
              · show Act.put _ (some 37) _ = _
                simp only [Act.put, List.setIfInBounds_toArray, List.set_cons_zero, List.set_cons_succ, i64_w, i32_w]
                rfl
              exact norm_ (by simp only [putAll, Act.put, List.setIfInBounds_toArray, List.set_cons_zero, List.set_cons_succ]) (hCont (w.heap.size + 1, w.heap.size, v7) _ ⟨af1, hown7, ne1, hB3⟩)
          rintro ⟨g0, g1, v7⟩ w6 ⟨af1, hown6, hne6, hB6⟩
          have hHeld := trivial
          refine norm_ (a' := ?_) ?_ ?_
          rotate_left
          · simp only [putAll, Act.put, List.setIfInBounds_toArray, List.set_cons_zero, List.set_cons_succ]
            rfl
          refine one_ (i := 7) (N := some 40) #[true, true, true, true, true, true, true, true, true, true, true, false, false] rfl rfl (by kernel_rfl) (by decide) (fun K hK => ?_)
          refine Ck.step_append_any _ (by rfl) (.tmp 37) (.tmp 39) _ (by rfl) w.heap.size 9 i0 _ 1 16 Tryd.underlying39 HI0.out HZ0.out HZ1.out HZ2.out rfl (by omega) v7 (0 + k) ([] ++ (l.take k).map encStr) (by rfl) hown6 w6.heap.size (some ⟨g1, 0, none⟩) 1 1 [.string s] (by rfl) (by exact af1.reads) (by simp [Value.oneCell']) (by unfold maxLen; omega) (by omega) (by exact hB6.size) ?_
          intro v16 w16 hown16 hg16 hat16
          have hB16 : Below w.heap.size w w16 := hB6.grown hg16 (by exact hB6.size) (fun z hz => (hown6.lt z hz).1)
          refine hK.out _ _ trivial (fun hHeld => ?_)
          clear hK K
          refine norm_ (a' := ?_) ?_ ?_
          rotate_left
          · show Act.put _ (some 40) _ = _
            simp only [Act.put, List.setIfInBounds_toArray, List.set_cons_zero, List.set_cons_succ, i64_w, i32_w]
            rfl
          refine one_ (i := 11) (N := some 44) #[true, true, true, true, true, true, true, true, true, true, true, true, false] rfl rfl (by kernel_rfl) (by decide) (fun K hK => ?_)
          refine Ck.step_append_any _ (by rfl) (.tmp 40) (.tmp 43) _ (by rfl) w.heap.size 9 i0 _ 1 16 Tryd.underlying39 HI0.out HZ0.out HZ1.out HZ2.out rfl (by omega) v16 (0 + k + 1) ([] ++ (l.take k).map encStr ++ [.string s]) (by rfl) hown16 w.heap.size (if cap = k then some ⟨g, O, none⟩ else some ⟨g, O + k, none⟩) (l.length - k) (cap - k) ((l.drop k).map encStr) (by rfl) (HRE.out.keep fun p hp => hB16.cell hp) (encs_one _) (by unfold maxLen; omega) (by omega) (by exact hB16.size) ?_
          intro v23 Y hown23 hg23 hat23
          have hB23 : Below w.heap.size w Y := hB16.grown hg23 (by exact hB16.size) (fun z hz => (hown16.lt z hz).1)
          refine hK.out _ _ trivial (fun hHeld => ?_)
          clear hK K
          refine norm_ (a' := ?_) ?_ ?_
          rotate_left
          · show Act.put _ (some 44) _ = _
            simp only [Act.put, List.setIfInBounds_toArray, List.set_cons_zero, List.set_cons_succ, i64_w, i32_w]
            rfl
          refine pure_ (i := 12) (N := some 4) (v := ?_) (a' := ?_) #[true, true, true, true, true, true, true, true, true, true, true, true, true] rfl rfl (by kernel_rfl) (fun _ _ _ h => h) (Or.inl ⟨by rfl, ?_⟩) ?_ ?_
          rotate_left
          · intro w'
            go_simp
            with_reducible rfl
          rotate_left
          · simp only [Act.put, List.setIfInBounds_toArray, List.set_cons_zero, List.set_cons_succ, i64_w, i32_w]
            rfl
          refine done_ (by kernel_rfl) ?_
          have HOWN : Hid (Y.ownsRow w.heap.size 9 1 v23 (putL l s.data.toList).length ((putL l s.data.toList).map encStr)) := by
            have e1 : (putL l s.data.toList).length = 0 + k + 1 + (l.length - k) := by rw [HR.out]; simp only [List.length_append, List.length_take, List.length_cons, List.length_drop]; omega
            have e2 : (putL l s.data.toList).map encStr = [] ++ (l.take k).map encStr ++ [.string s] ++ ((l.drop k).map encStr) := by rw [HR.out]; simp [encStr]
            rw [Hid, e1, e2]; exact hown23
          have HBY := Lib.hid hB23
          clear hown23 hg23 hat23 hB23 hown16 hg16 hat16 hB16 hown6 hne6 hB6 af1
          go_wp2_with fail
          go_ret
          exact PutPost.of_own HOWN.out HBY.out
    · have hke : k = l.length := by omega
      have HPL : Hid (plc l s.data.toList = k) := plc_at HALL.out (fun y hy => by rw [hke] at hy; simp at hy) hk
      have HR : Hid (putL l s.data.toList = l.take k ++ s.data.toList :: l.drop k) := by
        unfold Hid putL
        rw [HPL.out, if_neg]
        intro h1; rw [hke] at h1; simp at h1
      have hkm : k ≤ l.length := hk
      have hlf : decide ((k : Int) < l.length) = false := decide_eq_false (by omega)
      have hlf2 : decide (k < l.length) = false := decide_eq_false (by omega)
      clear hke
      by_cases hck : k = cap
      · subst hck
        have hkI2 : (k : Int) ≤ (l.length : Int) := by omega
        have hkI3 : (l.length : Int) ≤ (k : Int) := by omega
        have hkc : k ≤ k := by omega
        have hRX := H.out.reads
        have HRT : Hid (Ck.Reads w.drew w.heap.size 1 A k ((l.take k).map encStr)) := (reads_take hRX hkm).drew
        have HRE : Hid (Ck.Reads w.drew w.heap.size 1 A 0 ([] : List Value)) := by
          exact Ck.Reads.none_
        have HDR : Hid (l.drop k = []) := List.drop_of_length_le hc
        clear hRX
        go_wp2_with fail
        refine start_ (n := 13) (S := fun w' => True) (ds := []) #[false, false, false, false, false, false, false, false, false, false, false, false, false] (by kernel_rfl) rfl rfl trivial (fun hHeld => ?_)
        refine pure_ (i := 1) (N := some 34) (v := ?_) (a' := ?_) #[false, true, false, false, false, false, false, false, false, false, false, false, false] rfl rfl (by kernel_rfl) (fun _ _ _ h => h) (Or.inl ⟨by rfl, ?_⟩) ?_ ?_
        rotate_left
        · intro w'
          go_simp
          with_reducible rfl
        rotate_left
        · simp only [Act.put, List.setIfInBounds_toArray, List.set_cons_zero, List.set_cons_succ, i64_w, i32_w]
          rfl
        refine pure_ (i := 2) (N := some 35) (v := ?_) (a' := ?_) #[false, true, true, false, false, false, false, false, false, false, false, false, false] rfl rfl (by kernel_rfl) (fun _ _ _ h => h) (Or.inl ⟨by rfl, ?_⟩) ?_ ?_
        rotate_left
        · intro w'
          go_simp
          with_reducible rfl
        rotate_left
        · simp only [Act.put, List.setIfInBounds_toArray, List.set_cons_zero, List.set_cons_succ, i64_w, i32_w]
          rfl
        refine pure_ (i := 3) (N := some 36) (v := ?_) (a' := ?_) #[false, true, true, true, false, false, false, false, false, false, false, false, false] rfl rfl (by kernel_rfl) (fun _ _ _ h => h) (Or.inl ⟨by rfl, ?_⟩) ?_ ?_
        rotate_left
        · intro w'
          go_simp
          with_reducible rfl
        rotate_left
        · simp only [Act.put, List.setIfInBounds_toArray, List.set_cons_zero, List.set_cons_succ, i64_w, i32_w]
          rfl
        refine pure_ (i := 5) (N := some 38) (v := ?_) (a' := ?_) #[false, true, true, true, false, true, false, false, false, false, false, false, false] rfl rfl (by kernel_rfl) (fun _ _ _ h => h) (Or.inl ⟨by rfl, ?_⟩) ?_ ?_
        rotate_left
        · intro w'
          go_simp
          with_reducible rfl
        rotate_left
        · simp only [Act.put, List.setIfInBounds_toArray, List.set_cons_zero, List.set_cons_succ, i64_w, i32_w]
          rfl
        refine pure_ (i := 8) (N := some 41) (v := ?_) (a' := ?_) #[false, true, true, true, false, true, false, false, true, false, false, false, false] rfl rfl (by kernel_rfl) (fun _ _ _ h => h) (Or.inl ⟨by rfl, ?_⟩) ?_ ?_
        rotate_left
        · intro w'
          go_simp
          with_reducible rfl
        rotate_left
        · simp only [Act.put, List.setIfInBounds_toArray, List.set_cons_zero, List.set_cons_succ, i64_w, i32_w]
          rfl
        refine pure_ (i := 9) (N := some 42) (v := ?_) (a' := ?_) #[false, true, true, true, false, true, false, false, true, true, false, false, false] rfl rfl (by kernel_rfl) (fun _ _ _ h => h) (Or.inl ⟨by rfl, ?_⟩) ?_ ?_
        rotate_left
        · intro w'
          go_simp
          with_reducible rfl
        rotate_left
        · simp only [Act.put, List.setIfInBounds_toArray, List.set_cons_zero, List.set_cons_succ, i64_w, i32_w]
          rfl
        refine pure_ (i := 10) (N := some 43) (v := ?_) (a' := ?_) #[false, true, true, true, false, true, false, false, true, true, true, false, false] rfl rfl (by kernel_rfl) (fun _ _ _ h => h) (Or.inl ⟨by rfl, ?_⟩) ?_ ?_
        rotate_left
        · intro w'
          go_simp
          with_reducible rfl
        rotate_left
        · simp only [Act.put, List.setIfInBounds_toArray, List.set_cons_zero, List.set_cons_succ, i64_w, i32_w]
          rfl
        refine join_ (σ := Nat × Nat × Value) 3 #[true, true, true, true, true, true, true, false, true, true, true, false, false] (fun z => [(33, .slice (some ⟨z.1, 0, none⟩) 0 0), (37, z.2.2), (39, .slice (some ⟨z.2.1, 0, none⟩) 1 1)]) (fun z w' => AFS w w' z.2.1 s ∧ w'.ownsRow w.heap.size 9 1 z.2.2 (0 + k) ([] ++ (l.take k).map encStr) ∧ (∀ y, z.2.2.ownBlock = some y → y ≠ z.2.1) ∧ Below w.heap.size w w') ?_ ?_
        rotate_left
        · intro hCont
          refine two_ (i := 0) (j := 6) (Ni := some 33) (Nj := some 39) #[true, true, true, true, false, true, false, false, true, true, true, false, false] #[false, true, true, true, false, true, true, false, true, true, true, false, false] rfl rfl rfl rfl (by kernel_rfl) (by decide) (by decide) (fun K hK => ?_) (fun K hK => ?_)
          · skip
            refine value_ (w1 := ?_) (v := ?_) (by rfl) rfl ?_ ?_
            rotate_left 2
            · go_simp
              constructor
              · rfl
              · rfl
            have hB0 : Below w.heap.size w w.drew := (Below.refl _ _).drew
            have hB1 : Below w.heap.size w (w.drew.alloc (.cells #[] 9)) := Below.alloc hB0 (by exact hB0.size) _
            have en0 : w.drew.heap.size = w.heap.size := rfl
            have own0 : (w.drew.alloc (.cells #[] 9)).ownsRow w.heap.size 9 1 (.slice (some ⟨w.heap.size, 0, none⟩) 0 0) 0 [] := rown_empty (by rw [← en0]; exact heap_alloc_new w.drew _) (by omega)
            have hrt := HRT.out.alloc (by exact hB0.size) (.cells #[] 9)
            refine hK.out _ _ trivial (fun hHeld => ?_)
            clear hK K
            refine norm_ (a' := ?_) ?_ ?_
            rotate_left
            · show Act.put _ (some 33) _ = _
              simp only [Act.put, List.setIfInBounds_toArray, List.set_cons_zero, List.set_cons_succ, i64_w, i32_w]
              rfl
            refine two_ (i := 4) (j := 6) (Ni := some 37) (Nj := some 39) #[true, true, true, true, true, true, false, false, true, true, true, false, false] #[true, true, true, true, false, true, true, false, true, true, true, false, false] rfl rfl rfl rfl (by kernel_rfl) (by decide) (by decide) (fun K hK => ?_) (fun K hK => ?_)
            · skip
              refine Ck.step_append_any _ (by rfl) (.tmp 33) (.tmp 36) _ (by rfl) w.heap.size 9 i0 _ 1 16 Tryd.underlying39 HI0.out HZ0.out HZ1.out HZ2.out rfl (by omega) (.slice (some ⟨w.heap.size, 0, none⟩) 0 0) 0 [] (by rfl) (by exact own0) w.heap.size A k k ((l.take k).map encStr) (by rfl) hrt (encs_one _) (by unfold maxLen; omega) (by omega) (by exact hB1.size) ?_
              intro v7 w7 hown7 hg7 hat7
              have hB2 : Below w.heap.size w w7 := hB1.grown hg7 (by exact hB1.size) (by intro k hk; simp only [Value.ownBlock, Option.some.injEq] at hk; omega)
              refine hK.out _ _ trivial (fun hHeld => ?_)
              clear hK K
              refine norm_ (a' := ?_) ?_ ?_
              rotate_left
              · show Act.put _ (some 37) _ = _
                simp only [Act.put, List.setIfInBounds_toArray, List.set_cons_zero, List.set_cons_succ, i64_w, i32_w]
                rfl
              refine one_ (i := 6) (N := some 39) #[true, true, true, true, true, true, true, false, true, true, true, false, false] rfl rfl (by kernel_rfl) (by decide) (fun K hK => ?_)
              refine value_ (w1 := ?_) (v := ?_) (by rfl) rfl ?_ ?_
              rotate_left 2
              · go_simp
                constructor
                · rfl
                · rfl
              have hB3 : Below w.heap.size w (w7.alloc (.cells #[.string s] 9)) := Below.alloc hB2 (by exact hB2.size) _
              have en2 : w7.heap.size = w7.heap.size := rfl
              have af1 : AFS w (w7.alloc (.cells #[.string s] 9)) (w7.heap.size) s := by
                have h9 := AFS.new_ (w5 := w) (wx := w7) (s := s) hB2.size
                rw [en2] at h9
                exact h9
              refine hK.out _ _ trivial (fun hHeld => ?_)
              clear hK K
              refine norm_ (a' := ?_) ?_ ?_
              rotate_left
              · show Act.put _ (some 39) _ = _
                simp only [Act.put, List.setIfInBounds_toArray, List.set_cons_zero, List.set_cons_succ, i64_w, i32_w]
                rfl
              exact norm_ (by simp only [putAll, Act.put, List.setIfInBounds_toArray, List.set_cons_zero, List.set_cons_succ]) (hCont (w.heap.size, w7.heap.size, v7) _ ⟨af1, hown7.alloc _, fun z hz e => by have h1 := (hown7.lt z hz).2; have e2 : z = w7.heap.size := e; omega, hB3⟩)
            · skip
              refine value_ (w1 := ?_) (v := ?_) (by rfl) rfl ?_ ?_
              rotate_left 2
              · go_simp
                constructor
                · rfl
                · rfl
              have hB2 : Below w.heap.size w ((w.drew.alloc (.cells #[] 9)).alloc (.cells #[.string s] 9)) := Below.alloc hB1 (by exact hB1.size) _
              have en1 : (w.drew.alloc (.cells #[] 9)).heap.size = w.heap.size + 1 := alloc_sz _ _
              have af1 : AFS w ((w.drew.alloc (.cells #[] 9)).alloc (.cells #[.string s] 9)) (w.heap.size + 1) s := by
                have h9 := AFS.new_ (w5 := w) (wx := (w.drew.alloc (.cells #[] 9))) (s := s) hB1.size
                rw [en1] at h9
                exact h9
              have own0 := own0.alloc (.cells #[.string s] 9)
              have hrt := hrt.alloc (by exact hB1.size) (.cells #[.string s] 9)
              refine hK.out _ _ trivial (fun hHeld => ?_)
              clear hK K
              refine norm_ (a' := ?_) ?_ ?_
              rotate_left
              · show Act.put _ (some 39) _ = _
                simp only [Act.put, List.setIfInBounds_toArray, List.set_cons_zero, List.set_cons_succ, i64_w, i32_w]
                rfl
              refine one_ (i := 4) (N := some 37) #[true, true, true, true, true, true, true, false, true, true, true, false, false] rfl rfl (by kernel_rfl) (by decide) (fun K hK => ?_)
              refine Ck.step_append_any _ (by rfl) (.tmp 33) (.tmp 36) _ (by rfl) w.heap.size 9 i0 _ 1 16 Tryd.underlying39 HI0.out HZ0.out HZ1.out HZ2.out rfl (by omega) (.slice (some ⟨w.heap.size, 0, none⟩) 0 0) 0 [] (by rfl) (by exact own0) w.heap.size A k k ((l.take k).map encStr) (by rfl) hrt (encs_one _) (by unfold maxLen; omega) (by omega) (by exact hB2.size) ?_
              intro v7 w7 hown7 hg7 hat7
              have hB3 : Below w.heap.size w w7 := hB2.grown hg7 (by exact hB2.size) (by intro k hk; simp only [Value.ownBlock, Option.some.injEq] at hk; omega)
              have en2 : ((w.drew.alloc (.cells #[] 9)).alloc (.cells #[.string s] 9)).heap.size = w.heap.size + 2 := (alloc_sz _ _).trans (congrArg (· + 1) (alloc_sz _ _))
              have ne1 : ∀ z, v7.ownBlock = some z → z ≠ w.heap.size + 1 := by
                intro z hz e
                rcases hat7 with e7 | e7
                · rw [e7] at hz; simp only [Value.ownBlock, Option.some.injEq] at hz; omega
                · rw [e7] at hz; have hz2 := (Option.some.inj hz).symm.trans en2; omega
              have af1 := af1.grown hg7 (by simp only [Value.ownBlock, ne_eq, Option.some.injEq]; omega)
              refine hK.out _ _ trivial (fun hHeld => ?_)
              clear hK K
              refine norm_ (a' := ?_) ?_ ?_
              rotate_left
              · show Act.put _ (some 37) _ = _
                simp only [Act.put, List.setIfInBounds_toArray, List.set_cons_zero, List.set_cons_succ, i64_w, i32_w]
                rfl
              exact norm_ (by simp only [putAll, Act.put, List.setIfInBounds_toArray, List.set_cons_zero, List.set_cons_succ]) (hCont (w.heap.size, w.heap.size + 1, v7) _ ⟨af1, hown7, ne1, hB3⟩)
          · skip
            refine value_ (w1 := ?_) (v := ?_) (by rfl) rfl ?_ ?_
            rotate_left 2
            · go_simp
              constructor
              · rfl
              · rfl
            have hB0 : Below w.heap.size w w.drew := (Below.refl _ _).drew
            have hB1 : Below w.heap.size w (w.drew.alloc (.cells #[.string s] 9)) := Below.alloc hB0 (by exact hB0.size) _
            have en0 : w.drew.heap.size = w.heap.size := rfl
            have af1 : AFS w (w.drew.alloc (.cells #[.string s] 9)) (w.heap.size) s := by
              have h9 := AFS.new_ (w5 := w) (wx := w.drew) (s := s) hB0.size
              rw [en0] at h9
              exact h9
            have hrt := HRT.out.alloc (by exact hB0.size) (.cells #[.string s] 9)
            refine hK.out _ _ trivial (fun hHeld => ?_)
            clear hK K
            refine norm_ (a' := ?_) ?_ ?_
            rotate_left
            · show Act.put _ (some 39) _ = _
              simp only [Act.put, List.setIfInBounds_toArray, List.set_cons_zero, List.set_cons_succ, i64_w, i32_w]
              rfl
            refine one_ (i := 0) (N := some 33) #[true, true, true, true, false, true, true, false, true, true, true, false, false] rfl rfl (by kernel_rfl) (by decide) (fun K hK => ?_)
            refine value_ (w1 := ?_) (v := ?_) (by rfl) rfl ?_ ?_
            rotate_left 2
            · go_simp
              constructor
              · rfl
              · rfl
            have hB2 : Below w.heap.size w ((w.drew.alloc (.cells #[.string s] 9)).alloc (.cells #[] 9)) := Below.alloc hB1 (by exact hB1.size) _
            have en1 : (w.drew.alloc (.cells #[.string s] 9)).heap.size = w.heap.size + 1 := alloc_sz _ _
            have own0 : ((w.drew.alloc (.cells #[.string s] 9)).alloc (.cells #[] 9)).ownsRow w.heap.size 9 1 (.slice (some ⟨w.heap.size + 1, 0, none⟩) 0 0) 0 [] := rown_empty (by rw [← en1]; exact heap_alloc_new (w.drew.alloc (.cells #[.string s] 9)) _) (by omega)
            have af1 := af1.alloc (.cells #[] 9)
            have hrt := hrt.alloc (by exact hB1.size) (.cells #[] 9)
            refine hK.out _ _ trivial (fun hHeld => ?_)
            clear hK K
            refine norm_ (a' := ?_) ?_ ?_
            rotate_left
            · show Act.put _ (some 33) _ = _
              simp only [Act.put, List.setIfInBounds_toArray, List.set_cons_zero, List.set_cons_succ, i64_w, i32_w]
              rfl
            refine one_ (i := 4) (N := some 37) #[true, true, true, true, true, true, true, false, true, true, true, false, false] rfl rfl (by kernel_rfl) (by decide) (fun K hK => ?_)
            refine Ck.step_append_any _ (by rfl) (.tmp 33) (.tmp 36) _ (by rfl) w.heap.size 9 i0 _ 1 16 Tryd.underlying39 HI0.out HZ0.out HZ1.out HZ2.out rfl (by omega) (.slice (some ⟨w.heap.size + 1, 0, none⟩) 0 0) 0 [] (by rfl) (by exact own0) w.heap.size A k k ((l.take k).map encStr) (by rfl) hrt (encs_one _) (by unfold maxLen; omega) (by omega) (by exact hB2.size) ?_
            intro v7 w7 hown7 hg7 hat7
            have hB3 : Below w.heap.size w w7 := hB2.grown hg7 (by exact hB2.size) (by intro k hk; simp only [Value.ownBlock, Option.some.injEq] at hk; omega)
            have en2 : ((w.drew.alloc (.cells #[.string s] 9)).alloc (.cells #[] 9)).heap.size = w.heap.size + 2 := (alloc_sz _ _).trans (congrArg (· + 1) (alloc_sz _ _))
            have ne1 : ∀ z, v7.ownBlock = some z → z ≠ w.heap.size := by
              intro z hz e
              rcases hat7 with e7 | e7
              · rw [e7] at hz; simp only [Value.ownBlock, Option.some.injEq] at hz; omega
              · rw [e7] at hz; have hz2 := (Option.some.inj hz).symm.trans en2; omega
            have af1 := af1.grown hg7 (by simp only [Value.ownBlock, ne_eq, Option.some.injEq]; omega)
            refine hK.out _ _ trivial (fun hHeld => ?_)
            clear hK K
            refine norm_ (a' := ?_) ?_ ?_
            rotate_left
            · show Act.put _ (some 37) _ = _
              simp only [Act.put, List.setIfInBounds_toArray, List.set_cons_zero, List.set_cons_succ, i64_w, i32_w]
              rfl
            exact norm_ (by simp only [putAll, Act.put, List.setIfInBounds_toArray, List.set_cons_zero, List.set_cons_succ]) (hCont (w.heap.size + 1, w.heap.size, v7) _ ⟨af1, hown7, ne1, hB3⟩)
        rintro ⟨g0, g1, v7⟩ w6 ⟨af1, hown6, hne6, hB6⟩
        have hHeld := trivial
        refine norm_ (a' := ?_) ?_ ?_
        rotate_left
        · simp only [putAll, Act.put, List.setIfInBounds_toArray, List.set_cons_zero, List.set_cons_succ]
          rfl
        refine one_ (i := 7) (N := some 40) #[true, true, true, true, true, true, true, true, true, true, true, false, false] rfl rfl (by kernel_rfl) (by decide) (fun K hK => ?_)
        refine Ck.step_append_any _ (by rfl) (.tmp 37) (.tmp 39) _ (by rfl) w.heap.size 9 i0 _ 1 16 Tryd.underlying39 HI0.out HZ0.out HZ1.out HZ2.out rfl (by omega) v7 (0 + k) ([] ++ (l.take k).map encStr) (by rfl) hown6 w6.heap.size (some ⟨g1, 0, none⟩) 1 1 [.string s] (by rfl) (by exact af1.reads) (by simp [Value.oneCell']) (by unfold maxLen; omega) (by omega) (by exact hB6.size) ?_
        intro v16 w16 hown16 hg16 hat16
        have hB16 : Below w.heap.size w w16 := hB6.grown hg16 (by exact hB6.size) (fun z hz => (hown6.lt z hz).1)
        refine hK.out _ _ trivial (fun hHeld => ?_)
        clear hK K
        refine norm_ (a' := ?_) ?_ ?_
        rotate_left
        · show Act.put _ (some 40) _ = _
          simp only [Act.put, List.setIfInBounds_toArray, List.set_cons_zero, List.set_cons_succ, i64_w, i32_w]
          rfl
        refine one_ (i := 11) (N := some 44) #[true, true, true, true, true, true, true, true, true, true, true, true, false] rfl rfl (by kernel_rfl) (by decide) (fun K hK => ?_)
        refine Ck.step_append_any _ (by rfl) (.tmp 40) (.tmp 43) _ (by rfl) w.heap.size 9 i0 _ 1 16 Tryd.underlying39 HI0.out HZ0.out HZ1.out HZ2.out rfl (by omega) v16 (0 + k + 1) ([] ++ (l.take k).map encStr ++ [.string s]) (by rfl) hown16 w.heap.size A 0 0 ([] : List Value) (by rfl) (HRE.out.keep fun p hp => hB16.cell hp) (by simp) (by unfold maxLen; omega) (by omega) (by exact hB16.size) ?_
        intro v23 Y hown23 hg23 hat23
        have hB23 : Below w.heap.size w Y := hB16.grown hg23 (by exact hB16.size) (fun z hz => (hown16.lt z hz).1)
        refine hK.out _ _ trivial (fun hHeld => ?_)
        clear hK K
        refine norm_ (a' := ?_) ?_ ?_
        rotate_left
        · show Act.put _ (some 44) _ = _
          simp only [Act.put, List.setIfInBounds_toArray, List.set_cons_zero, List.set_cons_succ, i64_w, i32_w]
          rfl
        refine pure_ (i := 12) (N := some 4) (v := ?_) (a' := ?_) #[true, true, true, true, true, true, true, true, true, true, true, true, true] rfl rfl (by kernel_rfl) (fun _ _ _ h => h) (Or.inl ⟨by rfl, ?_⟩) ?_ ?_
        rotate_left
        · intro w'
          go_simp
          with_reducible rfl
        rotate_left
        · simp only [Act.put, List.setIfInBounds_toArray, List.set_cons_zero, List.set_cons_succ, i64_w, i32_w]
          rfl
        refine done_ (by kernel_rfl) ?_
        have HOWN : Hid (Y.ownsRow w.heap.size 9 1 v23 (putL l s.data.toList).length ((putL l s.data.toList).map encStr)) := by
          have e1 : (putL l s.data.toList).length = 0 + k + 1 + 0 := by rw [HR.out]; simp only [List.length_append, List.length_take, List.length_cons, List.length_drop]; omega
          have e2 : (putL l s.data.toList).map encStr = [] ++ (l.take k).map encStr ++ [.string s] ++ ([] : List Value) := by rw [HR.out, HDR.out]; simp [encStr]
          rw [Hid, e1, e2]; exact hown23
        have HBY := Lib.hid hB23
        clear hown23 hg23 hat23 hB23 hown16 hg16 hat16 hB16 hown6 hne6 hB6 af1
        go_wp2_with fail
        go_ret
        exact PutPost.of_own HOWN.out HBY.out
      · have hck2 : ¬ cap = k := fun e => hck e.symm
        have hkI2 : (k : Int) ≤ (l.length : Int) := by omega
        have hkI3 : (l.length : Int) ≤ (cap : Int) := by omega
        have hkc : k ≤ cap := by omega
        have hRX := H.out.reads
        have HRT : Hid (Ck.Reads w.drew w.heap.size 1 A k ((l.take k).map encStr)) := (reads_take hRX hkm).drew
        have HRE : Hid (Ck.Reads w.drew w.heap.size 1 (Option.map (fun x : Addr => x.add k) A) (l.length - k) ((l.drop k).map encStr)) := by
          have h9 := (reads_cut hRX hkm hc).drew
          rw [if_neg (fun e => hck e.symm)] at h9
          exact h9
        clear hRX
        go_wp2_with fail
        refine start_ (n := 13) (S := fun w' => True) (ds := []) #[false, false, false, false, false, false, false, false, false, false, false, false, false] (by kernel_rfl) rfl rfl trivial (fun hHeld => ?_)
        refine pure_ (i := 1) (N := some 34) (v := ?_) (a' := ?_) #[false, true, false, false, false, false, false, false, false, false, false, false, false] rfl rfl (by kernel_rfl) (fun _ _ _ h => h) (Or.inl ⟨by rfl, ?_⟩) ?_ ?_
        rotate_left
        · intro w'
          go_simp
          with_reducible rfl
        rotate_left
        · simp only [Act.put, List.setIfInBounds_toArray, List.set_cons_zero, List.set_cons_succ, i64_w, i32_w]
          rfl
        refine pure_ (i := 2) (N := some 35) (v := ?_) (a' := ?_) #[false, true, true, false, false, false, false, false, false, false, false, false, false] rfl rfl (by kernel_rfl) (fun _ _ _ h => h) (Or.inl ⟨by rfl, ?_⟩) ?_ ?_
        rotate_left
        · intro w'
          go_simp
          with_reducible rfl
        rotate_left
        · simp only [Act.put, List.setIfInBounds_toArray, List.set_cons_zero, List.set_cons_succ, i64_w, i32_w]
          rfl
        refine pure_ (i := 3) (N := some 36) (v := ?_) (a' := ?_) #[false, true, true, true, false, false, false, false, false, false, false, false, false] rfl rfl (by kernel_rfl) (fun _ _ _ h => h) (Or.inl ⟨by rfl, ?_⟩) ?_ ?_
        rotate_left
        · intro w'
          go_simp
          with_reducible rfl
        rotate_left
        · simp only [Act.put, List.setIfInBounds_toArray, List.set_cons_zero, List.set_cons_succ, i64_w, i32_w]
          rfl
        refine pure_ (i := 5) (N := some 38) (v := ?_) (a' := ?_) #[false, true, true, true, false, true, false, false, false, false, false, false, false] rfl rfl (by kernel_rfl) (fun _ _ _ h => h) (Or.inl ⟨by rfl, ?_⟩) ?_ ?_
        rotate_left
        · intro w'
          go_simp
          with_reducible rfl
        rotate_left
        · simp only [Act.put, List.setIfInBounds_toArray, List.set_cons_zero, List.set_cons_succ, i64_w, i32_w]
          rfl
        refine pure_ (i := 8) (N := some 41) (v := ?_) (a' := ?_) #[false, true, true, true, false, true, false, false, true, false, false, false, false] rfl rfl (by kernel_rfl) (fun _ _ _ h => h) (Or.inl ⟨by rfl, ?_⟩) ?_ ?_
        rotate_left
        · intro w'
          go_simp
          with_reducible rfl
        rotate_left
        · simp only [Act.put, List.setIfInBounds_toArray, List.set_cons_zero, List.set_cons_succ, i64_w, i32_w]
          rfl
        refine pure_ (i := 9) (N := some 42) (v := ?_) (a' := ?_) #[false, true, true, true, false, true, false, false, true, true, false, false, false] rfl rfl (by kernel_rfl) (fun _ _ _ h => h) (Or.inl ⟨by rfl, ?_⟩) ?_ ?_
        rotate_left
        · intro w'
          go_simp
          with_reducible rfl
        rotate_left
        · simp only [Act.put, List.setIfInBounds_toArray, List.set_cons_zero, List.set_cons_succ, i64_w, i32_w]
          rfl
        refine pure_ (i := 10) (N := some 43) (v := ?_) (a' := ?_) #[false, true, true, true, false, true, false, false, true, true, true, false, false] rfl rfl (by kernel_rfl) (fun _ _ _ h => h) (Or.inl ⟨by rfl, ?_⟩) ?_ ?_
        rotate_left
        · intro w'
          go_simp
          with_reducible rfl
        rotate_left
        · simp only [Act.put, List.setIfInBounds_toArray, List.set_cons_zero, List.set_cons_succ, i64_w, i32_w]
          rfl
        refine join_ (σ := Nat × Nat × Value) 3 #[true, true, true, true, true, true, true, false, true, true, true, false, false] (fun z => [(33, .slice (some ⟨z.1, 0, none⟩) 0 0), (37, z.2.2), (39, .slice (some ⟨z.2.1, 0, none⟩) 1 1)]) (fun z w' => AFS w w' z.2.1 s ∧ w'.ownsRow w.heap.size 9 1 z.2.2 (0 + k) ([] ++ (l.take k).map encStr) ∧ (∀ y, z.2.2.ownBlock = some y → y ≠ z.2.1) ∧ Below w.heap.size w w') ?_ ?_
        rotate_left
        · intro hCont
          refine two_ (i := 0) (j := 6) (Ni := some 33) (Nj := some 39) #[true, true, true, true, false, true, false, false, true, true, true, false, false] #[false, true, true, true, false, true, true, false, true, true, true, false, false] rfl rfl rfl rfl (by kernel_rfl) (by decide) (by decide) (fun K hK => ?_) (fun K hK => ?_)
          · skip
            refine value_ (w1 := ?_) (v := ?_) (by rfl) rfl ?_ ?_
            rotate_left 2
            · go_simp
              constructor
              · rfl
              · rfl
            have hB0 : Below w.heap.size w w.drew := (Below.refl _ _).drew
            have hB1 : Below w.heap.size w (w.drew.alloc (.cells #[] 9)) := Below.alloc hB0 (by exact hB0.size) _
            have en0 : w.drew.heap.size = w.heap.size := rfl
            have own0 : (w.drew.alloc (.cells #[] 9)).ownsRow w.heap.size 9 1 (.slice (some ⟨w.heap.size, 0, none⟩) 0 0) 0 [] := rown_empty (by rw [← en0]; exact heap_alloc_new w.drew _) (by omega)
            have hrt := HRT.out.alloc (by exact hB0.size) (.cells #[] 9)
            refine hK.out _ _ trivial (fun hHeld => ?_)
            clear hK K
            refine norm_ (a' := ?_) ?_ ?_
            rotate_left
            · show Act.put _ (some 33) _ = _
              simp only [Act.put, List.setIfInBounds_toArray, List.set_cons_zero, List.set_cons_succ, i64_w, i32_w]
              rfl
            refine two_ (i := 4) (j := 6) (Ni := some 37) (Nj := some 39) #[true, true, true, true, true, true, false, false, true, true, true, false, false] #[true, true, true, true, false, true, true, false, true, true, true, false, false] rfl rfl rfl rfl (by kernel_rfl) (by decide) (by decide) (fun K hK => ?_) (fun K hK => ?_)
            · skip
              refine Ck.step_append_any _ (by rfl) (.tmp 33) (.tmp 36) _ (by rfl) w.heap.size 9 i0 _ 1 16 Tryd.underlying39 HI0.out HZ0.out HZ1.out HZ2.out rfl (by omega) (.slice (some ⟨w.heap.size, 0, none⟩) 0 0) 0 [] (by rfl) (by exact own0) w.heap.size A k cap ((l.take k).map encStr) (by rfl) hrt (encs_one _) (by unfold maxLen; omega) (by omega) (by exact hB1.size) ?_
              intro v7 w7 hown7 hg7 hat7
              have hB2 : Below w.heap.size w w7 := hB1.grown hg7 (by exact hB1.size) (by intro k hk; simp only [Value.ownBlock, Option.some.injEq] at hk; omega)
              refine hK.out _ _ trivial (fun hHeld => ?_)
              clear hK K
              refine norm_ (a' := ?_) ?_ ?_
              rotate_left
              · show Act.put _ (some 37) _ = _
                simp only [Act.put, List.setIfInBounds_toArray, List.set_cons_zero, List.set_cons_succ, i64_w, i32_w]
                rfl
              refine one_ (i := 6) (N := some 39) #[true, true, true, true, true, true, true, false, true, true, true, false, false] rfl rfl (by kernel_rfl) (by decide) (fun K hK => ?_)
              refine value_ (w1 := ?_) (v := ?_) (by rfl) rfl ?_ ?_
              rotate_left 2
              · go_simp
                constructor
                · rfl
                · rfl
              have hB3 : Below w.heap.size w (w7.alloc (.cells #[.string s] 9)) := Below.alloc hB2 (by exact hB2.size) _
              have en2 : w7.heap.size = w7.heap.size := rfl
              have af1 : AFS w (w7.alloc (.cells #[.string s] 9)) (w7.heap.size) s := by
                have h9 := AFS.new_ (w5 := w) (wx := w7) (s := s) hB2.size
                rw [en2] at h9
                exact h9
              refine hK.out _ _ trivial (fun hHeld => ?_)
              clear hK K
              refine norm_ (a' := ?_) ?_ ?_
              rotate_left
              · show Act.put _ (some 39) _ = _
                simp only [Act.put, List.setIfInBounds_toArray, List.set_cons_zero, List.set_cons_succ, i64_w, i32_w]
                rfl
              exact norm_ (by simp only [putAll, Act.put, List.setIfInBounds_toArray, List.set_cons_zero, List.set_cons_succ]) (hCont (w.heap.size, w7.heap.size, v7) _ ⟨af1, hown7.alloc _, fun z hz e => by have h1 := (hown7.lt z hz).2; have e2 : z = w7.heap.size := e; omega, hB3⟩)
            · skip
              refine value_ (w1 := ?_) (v := ?_) (by rfl) rfl ?_ ?_
              rotate_left 2
              · go_simp
                constructor
                · rfl
                · rfl
              have hB2 : Below w.heap.size w ((w.drew.alloc (.cells #[] 9)).alloc (.cells #[.string s] 9)) := Below.alloc hB1 (by exact hB1.size) _
              have en1 : (w.drew.alloc (.cells #[] 9)).heap.size = w.heap.size + 1 := alloc_sz _ _
              have af1 : AFS w ((w.drew.alloc (.cells #[] 9)).alloc (.cells #[.string s] 9)) (w.heap.size + 1) s := by
                have h9 := AFS.new_ (w5 := w) (wx := (w.drew.alloc (.cells #[] 9))) (s := s) hB1.size
                rw [en1] at h9
                exact h9
              have own0 := own0.alloc (.cells #[.string s] 9)
              have hrt := hrt.alloc (by exact hB1.size) (.cells #[.string s] 9)
              refine hK.out _ _ trivial (fun hHeld => ?_)
              clear hK K
              refine norm_ (a' := ?_) ?_ ?_
              rotate_left
              · show Act.put _ (some 39) _ = _
                simp only [Act.put, List.setIfInBounds_toArray, List.set_cons_zero, List.set_cons_succ, i64_w, i32_w]
                rfl
              refine one_ (i := 4) (N := some 37) #[true, true, true, true, true, true, true, false, true, true, true, false, false] rfl rfl (by kernel_rfl) (by decide) (fun K hK => ?_)
              refine Ck.step_append_any _ (by rfl) (.tmp 33) (.tmp 36) _ (by rfl) w.heap.size 9 i0 _ 1 16 Tryd.underlying39 HI0.out HZ0.out HZ1.out HZ2.out rfl (by omega) (.slice (some ⟨w.heap.size, 0, none⟩) 0 0) 0 [] (by rfl) (by exact own0) w.heap.size A k cap ((l.take k).map encStr) (by rfl) hrt (encs_one _) (by unfold maxLen; omega) (by omega) (by exact hB2.size) ?_
              intro v7 w7 hown7 hg7 hat7
              have hB3 : Below w.heap.size w w7 := hB2.grown hg7 (by exact hB2.size) (by intro k hk; simp only [Value.ownBlock, Option.some.injEq] at hk; omega)
              have en2 : ((w.drew.alloc (.cells #[] 9)).alloc (.cells #[.string s] 9)).heap.size = w.heap.size + 2 := (alloc_sz _ _).trans (congrArg (· + 1) (alloc_sz _ _))
              have ne1 : ∀ z, v7.ownBlock = some z → z ≠ w.heap.size + 1 := by
                intro z hz e
                rcases hat7 with e7 | e7
                · rw [e7] at hz; simp only [Value.ownBlock, Option.some.injEq] at hz; omega
                · rw [e7] at hz; have hz2 := (Option.some.inj hz).symm.trans en2; omega
              have af1 := af1.grown hg7 (by simp only [Value.ownBlock, ne_eq, Option.some.injEq]; omega)
              refine hK.out _ _ trivial (fun hHeld => ?_)
              clear hK K
              refine norm_ (a' := ?_) ?_ ?_
              rotate_left
              · show Act.put _ (some 37) _ = _
                simp only [Act.put, List.setIfInBounds_toArray, List.set_cons_zero, List.set_cons_succ, i64_w, i32_w]
                rfl
              exact norm_ (by simp only [putAll, Act.put, List.setIfInBounds_toArray, List.set_cons_zero, List.set_cons_succ]) (hCont (w.heap.size, w.heap.size + 1, v7) _ ⟨af1, hown7, ne1, hB3⟩)
          · skip
            refine value_ (w1 := ?_) (v := ?_) (by rfl) rfl ?_ ?_
            rotate_left 2
            · go_simp
              constructor
              · rfl
              · rfl
            have hB0 : Below w.heap.size w w.drew := (Below.refl _ _).drew
            have hB1 : Below w.heap.size w (w.drew.alloc (.cells #[.string s] 9)) := Below.alloc hB0 (by exact hB0.size) _
            have en0 : w.drew.heap.size = w.heap.size := rfl
            have af1 : AFS w (w.drew.alloc (.cells #[.string s] 9)) (w.heap.size) s := by
              have h9 := AFS.new_ (w5 := w) (wx := w.drew) (s := s) hB0.size
              rw [en0] at h9
              exact h9
            have hrt := HRT.out.alloc (by exact hB0.size) (.cells #[.string s] 9)
            refine hK.out _ _ trivial (fun hHeld => ?_)
            clear hK K
            refine norm_ (a' := ?_) ?_ ?_
            rotate_left
            · show Act.put _ (some 39) _ = _
              simp only [Act.put, List.setIfInBounds_toArray, List.set_cons_zero, List.set_cons_succ, i64_w, i32_w]
              rfl
            refine one_ (i := 0) (N := some 33) #[true, true, true, true, false, true, true, false, true, true, true, false, false] rfl rfl (by kernel_rfl) (by decide) (fun K hK => ?_)
            refine value_ (w1 := ?_) (v := ?_) (by rfl) rfl ?_ ?_
            rotate_left 2
            · go_simp
              constructor
              · rfl
              · rfl
            have hB2 : Below w.heap.size w ((w.drew.alloc (.cells #[.string s] 9)).alloc (.cells #[] 9)) := Below.alloc hB1 (by exact hB1.size) _
            have en1 : (w.drew.alloc (.cells #[.string s] 9)).heap.size = w.heap.size + 1 := alloc_sz _ _
            have own0 : ((w.drew.alloc (.cells #[.string s] 9)).alloc (.cells #[] 9)).ownsRow w.heap.size 9 1 (.slice (some ⟨w.heap.size + 1, 0, none⟩) 0 0) 0 [] := rown_empty (by rw [← en1]; exact heap_alloc_new (w.drew.alloc (.cells #[.string s] 9)) _) (by omega)
            have af1 := af1.alloc (.cells #[] 9)
            have hrt := hrt.alloc (by exact hB1.size) (.cells #[] 9)
            refine hK.out _ _ trivial (fun hHeld => ?_)
            clear hK K
            refine norm_ (a' := ?_) ?_ ?_
            rotate_left
            · show Act.put _ (some 33) _ = _
              simp only [Act.put, List.setIfInBounds_toArray, List.set_cons_zero, List.set_cons_succ, i64_w, i32_w]
              rfl
            refine one_ (i := 4) (N := some 37) #[true, true, true, true, true, true, true, false, true, true, true, false, false] rfl rfl (by kernel_rfl) (by decide) (fun K hK => ?_)
            refine Ck.step_append_any _ (by rfl) (.tmp 33) (.tmp 36) _ (by rfl) w.heap.size 9 i0 _ 1 16 Tryd.underlying39 HI0.out HZ0.out HZ1.out HZ2.out rfl (by omega) (.slice (some ⟨w.heap.size + 1, 0, none⟩) 0 0) 0 [] (by rfl) (by exact own0) w.heap.size A k cap ((l.take k).map encStr) (by rfl) hrt (encs_one _) (by unfold maxLen; omega) (by omega) (by exact hB2.size) ?_
            intro v7 w7 hown7 hg7 hat7
            have hB3 : Below w.heap.size w w7 := hB2.grown hg7 (by exact hB2.size) (by intro k hk; simp only [Value.ownBlock, Option.some.injEq] at hk; omega)
            have en2 : ((w.drew.alloc (.cells #[.string s] 9)).alloc (.cells #[] 9)).heap.size = w.heap.size + 2 := (alloc_sz _ _).trans (congrArg (· + 1) (alloc_sz _ _))
            have ne1 : ∀ z, v7.ownBlock = some z → z ≠ w.heap.size := by
              intro z hz e
              rcases hat7 with e7 | e7
              · rw [e7] at hz; simp only [Value.ownBlock, Option.some.injEq] at hz; omega
              · rw [e7] at hz; have hz2 := (Option.some.inj hz).symm.trans en2; omega
            have af1 := af1.grown hg7 (by simp only [Value.ownBlock, ne_eq, Option.some.injEq]; omega)
            refine hK.out _ _ trivial (fun hHeld => ?_)
            clear hK K
            refine norm_ (a' := ?_) ?_ ?_
            rotate_left
            · show Act.put _ (some 37) _ = _
              simp only [Act.put, List.setIfInBounds_toArray, List.set_cons_zero, List.set_cons_succ, i64_w, i32_w]
              rfl
            exact norm_ (by simp only [putAll, Act.put, List.setIfInBounds_toArray, List.set_cons_zero, List.set_cons_succ]) (hCont (w.heap.size + 1, w.heap.size, v7) _ ⟨af1, hown7, ne1, hB3⟩)
        rintro ⟨g0, g1, v7⟩ w6 ⟨af1, hown6, hne6, hB6⟩
        have hHeld := trivial
        refine norm_ (a' := ?_) ?_ ?_
        rotate_left
        · simp only [putAll, Act.put, List.setIfInBounds_toArray, List.set_cons_zero, List.set_cons_succ]
          rfl
        refine one_ (i := 7) (N := some 40) #[true, true, true, true, true, true, true, true, true, true, true, false, false] rfl rfl (by kernel_rfl) (by decide) (fun K hK => ?_)
        refine Ck.step_append_any _ (by rfl) (.tmp 37) (.tmp 39) _ (by rfl) w.heap.size 9 i0 _ 1 16 Tryd.underlying39 HI0.out HZ0.out HZ1.out HZ2.out rfl (by omega) v7 (0 + k) ([] ++ (l.take k).map encStr) (by rfl) hown6 w6.heap.size (some ⟨g1, 0, none⟩) 1 1 [.string s] (by rfl) (by exact af1.reads) (by simp [Value.oneCell']) (by unfold maxLen; omega) (by omega) (by exact hB6.size) ?_
        intro v16 w16 hown16 hg16 hat16
        have hB16 : Below w.heap.size w w16 := hB6.grown hg16 (by exact hB6.size) (fun z hz => (hown6.lt z hz).1)
        refine hK.out _ _ trivial (fun hHeld => ?_)
        clear hK K
        refine norm_ (a' := ?_) ?_ ?_
        rotate_left
        · show Act.put _ (some 40) _ = _
          simp only [Act.put, List.setIfInBounds_toArray, List.set_cons_zero, List.set_cons_succ, i64_w, i32_w]
          rfl
        refine one_ (i := 11) (N := some 44) #[true, true, true, true, true, true, true, true, true, true, true, true, false] rfl rfl (by kernel_rfl) (by decide) (fun K hK => ?_)
        refine Ck.step_append_any _ (by rfl) (.tmp 40) (.tmp 43) _ (by rfl) w.heap.size 9 i0 _ 1 16 Tryd.underlying39 HI0.out HZ0.out HZ1.out HZ2.out rfl (by omega) v16 (0 + k + 1) ([] ++ (l.take k).map encStr ++ [.string s]) (by rfl) hown16 w.heap.size (Option.map (fun x : Addr => x.add k) A) (l.length - k) (cap - k) ((l.drop k).map encStr) (by rfl) (HRE.out.keep fun p hp => hB16.cell hp) (encs_one _) (by unfold maxLen; omega) (by omega) (by exact hB16.size) ?_
        intro v23 Y hown23 hg23 hat23
        have hB23 : Below w.heap.size w Y := hB16.grown hg23 (by exact hB16.size) (fun z hz => (hown16.lt z hz).1)
        refine hK.out _ _ trivial (fun hHeld => ?_)
        clear hK K
        refine norm_ (a' := ?_) ?_ ?_
        rotate_left
        · show Act.put _ (some 44) _ = _
          simp only [Act.put, List.setIfInBounds_toArray, List.set_cons_zero, List.set_cons_succ, i64_w, i32_w]
          rfl
        refine pure_ (i := 12) (N := some 4) (v := ?_) (a' := ?_) #[true, true, true, true, true, true, true, true, true, true, true, true, true] rfl rfl (by kernel_rfl) (fun _ _ _ h => h) (Or.inl ⟨by rfl, ?_⟩) ?_ ?_
        rotate_left
        · intro w'
          go_simp
          with_reducible rfl
        rotate_left
        · simp only [Act.put, List.setIfInBounds_toArray, List.set_cons_zero, List.set_cons_succ, i64_w, i32_w]
          rfl
        refine done_ (by kernel_rfl) ?_
        have HOWN : Hid (Y.ownsRow w.heap.size 9 1 v23 (putL l s.data.toList).length ((putL l s.data.toList).map encStr)) := by
          have e1 : (putL l s.data.toList).length = 0 + k + 1 + (l.length - k) := by rw [HR.out]; simp only [List.length_append, List.length_take, List.length_cons, List.length_drop]; omega
          have e2 : (putL l s.data.toList).map encStr = [] ++ (l.take k).map encStr ++ [.string s] ++ ((l.drop k).map encStr) := by rw [HR.out]; simp [encStr]
          rw [Hid, e1, e2]; exact hown23
        have HBY := Lib.hid hB23
        clear hown23 hg23 hat23 hB23 hown16 hg16 hat16 hB16 hown6 hne6 hB6 af1
        go_wp2_with fail
        go_ret
        exact PutPost.of_own HOWN.out HBY.out
end Go.Proofs.YtgpadcokcdpmnaaDoor.Fd
end
section
namespace Go.Proofs.YtgpadcokcdpmnaaDoor.Fd
open Go Go.RowKit Go.Maps Go.Sort Go.Shelf Go.Lib Go.Proofs.YtgpadcokcdpmnaaDoorW.PrintLast
set_option linter.unusedVariables false
set_option linter.unusedSimpArgs false
set_option maxHeartbeats 4000000 in
set_option maxRecDepth 100000 in
theorem put46_calls (A : Option Addr) (cap : Nat) (l : List Tx) (s : ByteArray) (w : World) (h : TxAt w A l) (hc : l.length ≤ cap) (hl : l.length ≤ 1000000) :
    Calls Tryd.prog 29 #[.slice A l.length cap, .string s] w fun r w' => PutPost w (putL l s.data.toList) r w' := by
  have H := Lib.hid h
  obtain ⟨i0, hi, hz0, hz1, hz2⟩ := info_of str_info
  have HI0 := Lib.hid hi
  have HZ0 := Lib.hid hz0
  have HZ1 := Lib.hid hz1
  have HZ2 := Lib.hid hz2
  clear h hi hz0 hz1 hz2
  go_enter Tryd.func29, Tryd.ntmps29
  go_wp2_with fail
  go_loop [5] (fun v5 => ∃ k : Nat, k ≤ l.length ∧ v5 = .int .i64 k ∧ ∀ x ∈ l.take k, bytesBefore x s.data.toList = true) (fun v5 => l.length - (intOf v5).toNat)
  case atStart => exact ⟨0, Nat.zero_le _, rfl, by simp⟩
  case round =>
    obtain ⟨k, hk, rfl, hall⟩ := hrel
    have HALL := Lib.hid hall
    clear hall
    have hki : (0 : Int) ≤ k := by omega
    by_cases hlt : k < l.length
    · obtain ⟨x, hx⟩ : ∃ x, l[k]? = some x := ⟨_, List.getElem?_eq_getElem hlt⟩
      obtain ⟨g, O, rfl, hg, hcell⟩ := H.out k x hx
      have hli : (k : Int) < l.length := by omega
      have HX := Lib.hid hx
      clear hx
      cases hb : Op.bytesLess x s.toList with
      | true =>
        have HN : Hid (∀ y ∈ l.take (k + 1), bytesBefore y s.data.toList = true) := by
          intro y hy
          rw [List.take_add_one, HX.out] at hy
          rcases List.mem_append.1 hy with hy | hy
          · exact HALL.out y hy
          · simp at hy; subst hy; rw [toList_data, less_before] at hb; exact hb
        go_wp2_with fail
        go_round
        case rel => exact ⟨k + 1, by omega, by first | rfl | go_num, HN.out⟩
        case measure => simp [intOf]; omega
      | false =>
        have HPL : Hid (plc l s.data.toList = k) := plc_at HALL.out (fun y hy => by
          rw [HX.out] at hy; cases hy; rw [toList_data, less_before] at hb; exact hb) hk
        cases he : (x == s.toList) with
        | true =>
          have HR : Hid (putL l s.data.toList = l) := by
            unfold Hid putL
            rw [HPL.out, HX.out, if_pos]
            rw [toList_data, beq_iff_eq] at he
            exact congrArg some he
          go_wp2_with fail
          go_ret
          rw [HR.out]
          exact ⟨some ⟨g, O, none⟩, cap, rfl, H.out, hc, Below.refl _ _⟩
        | false =>
          have HR : Hid (putL l s.data.toList = l.take k ++ s.data.toList :: l.drop k) := by
            unfold Hid putL
            rw [HPL.out, HX.out, if_neg]
            rw [toList_data, beq_eq_false_iff_ne] at he
            intro h1; cases h1; exact he rfl
          have hkm : k ≤ l.length := hk
          have hkI2 : (k : Int) ≤ (l.length : Int) := by omega
          have hkI3 : (l.length : Int) ≤ (cap : Int) := by omega
          have hkc : k ≤ cap := by omega
          have hRX := H.out.reads
          have HRT : Hid (Ck.Reads w.drew w.heap.size 1 (some ⟨g, O, none⟩) k ((l.take k).map encStr)) := (reads_take hRX hkm).drew
          have HRE : Hid (Ck.Reads w.drew w.heap.size 1 (if cap = k then some ⟨g, O, none⟩ else some ⟨g, O + k, none⟩) (l.length - k) ((l.drop k).map encStr)) := by
            have h9 := (reads_cut hRX hkm hc).drew
            rw [Option.map_some, add_off] at h9
            exact h9
          clear hRX
          go_wp2_with fail
          refine start_ (n := 13) (S := fun w' => True) (ds := []) #[false, false, false, false, false, false, false, false, false, false, false, false, false] (by kernel_rfl) rfl rfl trivial (fun hHeld => ?_)
          refine pure_ (i := 1) (N := some 34) (v := ?_) (a' := ?_) #[false, true, false, false, false, false, false, false, false, false, false, false, false] rfl rfl (by kernel_rfl) (fun _ _ _ h => h) (Or.inl ⟨by rfl, ?_⟩) ?_ ?_
          rotate_left
          · intro w'
            go_simp
            with_reducible rfl
          rotate_left
          · simp only [Act.put, List.setIfInBounds_toArray, List.set_cons_zero, List.set_cons_succ, i64_w, i32_w]
            rfl
          refine pure_ (i := 2) (N := some 35) (v := ?_) (a' := ?_) #[false, true, true, false, false, false, false, false, false, false, false, false, false] rfl rfl (by kernel_rfl) (fun _ _ _ h => h) (Or.inl ⟨by rfl, ?_⟩) ?_ ?_
          rotate_left
          · intro w'
            go_simp
            with_reducible rfl
          rotate_left
          · simp only [Act.put, List.setIfInBounds_toArray, List.set_cons_zero, List.set_cons_succ, i64_w, i32_w]
            rfl
          refine pure_ (i := 3) (N := some 36) (v := ?_) (a' := ?_) #[false, true, true, true, false, false, false, false, false, false, false, false, false] rfl rfl (by kernel_rfl) (fun _ _ _ h => h) (Or.inl ⟨by rfl, ?_⟩) ?_ ?_
          rotate_left
          · intro w'
            go_simp
            with_reducible rfl
          rotate_left
          · simp only [Act.put, List.setIfInBounds_toArray, List.set_cons_zero, List.set_cons_succ, i64_w, i32_w]
            rfl
          refine pure_ (i := 5) (N := some 38) (v := ?_) (a' := ?_) #[false, true, true, true, false, true, false, false, false, false, false, false, false] rfl rfl (by kernel_rfl) (fun _ _ _ h => h) (Or.inl ⟨by rfl, ?_⟩) ?_ ?_
          rotate_left
          · intro w'
            go_simp
            with_reducible rfl
          rotate_left
          · simp only [Act.put, List.setIfInBounds_toArray, List.set_cons_zero, List.set_cons_succ, i64_w, i32_w]
            rfl
          refine pure_ (i := 8) (N := some 41) (v := ?_) (a' := ?_) #[false, true, true, true, false, true, false, false, true, false, false, false, false] rfl rfl (by kernel_rfl) (fun _ _ _ h => h) (Or.inl ⟨by rfl, ?_⟩) ?_ ?_
          rotate_left
          · intro w'
            go_simp
            with_reducible rfl
          rotate_left
          · simp only [Act.put, List.setIfInBounds_toArray, List.set_cons_zero, List.set_cons_succ, i64_w, i32_w]
            rfl
          refine pure_ (i := 9) (N := some 42) (v := ?_) (a' := ?_) #[false, true, true, true, false, true, false, false, true, true, false, false, false] rfl rfl (by kernel_rfl) (fun _ _ _ h => h) (Or.inl ⟨by rfl, ?_⟩) ?_ ?_
          rotate_left
          · intro w'
            go_simp
            with_reducible rfl
          rotate_left
          · simp only [Act.put, List.setIfInBounds_toArray, List.set_cons_zero, List.set_cons_succ, i64_w, i32_w]
            rfl
          refine pure_ (i := 10) (N := some 43) (v := ?_) (a' := ?_) #[false, true, true, true, false, true, false, false, true, true, true, false, false] rfl rfl (by kernel_rfl) (fun _ _ _ h => h) (Or.inl ⟨by rfl, ?_⟩) ?_ ?_
          rotate_left
          · intro w'
            go_simp
            with_reducible rfl
          rotate_left
          · simp only [Act.put, List.setIfInBounds_toArray, List.set_cons_zero, List.set_cons_succ, i64_w, i32_w]
            rfl
          refine join_ (σ := Nat × Nat × Value) 3 #[true, true, true, true, true, true, true, false, true, true, true, false, false] (fun z => [(33, .slice (some ⟨z.1, 0, none⟩) 0 0), (37, z.2.2), (39, .slice (some ⟨z.2.1, 0, none⟩) 1 1)]) (fun z w' => AFS w w' z.2.1 s ∧ w'.ownsRow w.heap.size 9 1 z.2.2 (0 + k) ([] ++ (l.take k).map encStr) ∧ (∀ y, z.2.2.ownBlock = some y → y ≠ z.2.1) ∧ Below w.heap.size w w') ?_ ?_
          rotate_left
          · intro hCont
            refine two_ (i := 0) (j := 6) (Ni := some 33) (Nj := some 39) #[true, true, true, true, false, true, false, false, true, true, true, false, false] #[false, true, true, true, false, true, true, false, true, true, true, false, false] rfl rfl rfl rfl (by kernel_rfl) (by decide) (by decide) (fun K hK => ?_) (fun K hK => ?_)
            · skip
              refine value_ (w1 := ?_) (v := ?_) (by rfl) rfl ?_ ?_
              rotate_left 2
              · go_simp
                constructor
                · rfl
                · rfl
              have hB0 : Below w.heap.size w w.drew := (Below.refl _ _).drew
              have hB1 : Below w.heap.size w (w.drew.alloc (.cells #[] 9)) := Below.alloc hB0 (by exact hB0.size) _
              have en0 : w.drew.heap.size = w.heap.size := rfl
              have own0 : (w.drew.alloc (.cells #[] 9)).ownsRow w.heap.size 9 1 (.slice (some ⟨w.heap.size, 0, none⟩) 0 0) 0 [] := rown_empty (by rw [← en0]; exact heap_alloc_new w.drew _) (by omega)
              have hrt := HRT.out.alloc (by exact hB0.size) (.cells #[] 9)
              refine hK.out _ _ trivial (fun hHeld => ?_)
              clear hK K
              refine norm_ (a' := ?_) ?_ ?_
              rotate_left
              · show Act.put _ (some 33) _ = _
                simp only [Act.put, List.setIfInBounds_toArray, List.set_cons_zero, List.set_cons_succ, i64_w, i32_w]
                rfl
              refine two_ (i := 4) (j := 6) (Ni := some 37) (Nj := some 39) #[true, true, true, true, true, true, false, false, true, true, true, false, false] #[true, true, true, true, false, true, true, false, true, true, true, false, false] rfl rfl rfl rfl (by kernel_rfl) (by decide) (by decide) (fun K hK => ?_) (fun K hK => ?_)
              · skip
                refine Ck.step_append_any _ (by rfl) (.tmp 33) (.tmp 36) _ (by rfl) w.heap.size 9 i0 _ 1 16 Tryd.underlying39 HI0.out HZ0.out HZ1.out HZ2.out rfl (by omega) (.slice (some ⟨w.heap.size, 0, none⟩) 0 0) 0 [] (by rfl) (by exact own0) w.heap.size (some ⟨g, O, none⟩) k cap ((l.take k).map encStr) (by rfl) hrt (encs_one _) (by unfold maxLen; omega) (by omega) (by exact hB1.size) ?_
                intro v7 w7 hown7 hg7 hat7
                have hB2 : Below w.heap.size w w7 := hB1.grown hg7 (by exact hB1.size) (by intro k hk; simp only [Value.ownBlock, Option.some.injEq] at hk; omega)
                refine hK.out _ _ trivial (fun hHeld => ?_)
                clear hK K
                refine norm_ (a' := ?_) ?_ ?_
                rotate_left
                · show Act.put _ (some 37) _ = _
                  simp only [Act.put, List.setIfInBounds_toArray, List.set_cons_zero, List.set_cons_succ, i64_w, i32_w]
                  rfl
                refine one_ (i := 6) (N := some 39) #[true, true, true, true, true, true, true, false, true, true, true, false, false] rfl rfl (by kernel_rfl) (by decide) (fun K hK => ?_)
                refine value_ (w1 := ?_) (v := ?_) (by rfl) rfl ?_ ?_
                rotate_left 2
                · go_simp
                  constructor
                  · rfl
                  · rfl
                have hB3 : Below w.heap.size w (w7.alloc (.cells #[.string s] 9)) := Below.alloc hB2 (by exact hB2.size) _
                have en2 : w7.heap.size = w7.heap.size := rfl
                have af1 : AFS w (w7.alloc (.cells #[.string s] 9)) (w7.heap.size) s := by
                  have h9 := AFS.new_ (w5 := w) (wx := w7) (s := s) hB2.size
                  rw [en2] at h9
                  exact h9
                refine hK.out _ _ trivial (fun hHeld => ?_)
                clear hK K
                refine norm_ (a' := ?_) ?_ ?_
                rotate_left
                · show Act.put _ (some 39) _ = _
                  simp only [Act.put, List.setIfInBounds_toArray, List.set_cons_zero, List.set_cons_succ, i64_w, i32_w]
                  rfl
                exact norm_ (by simp only [putAll, Act.put, List.setIfInBounds_toArray, List.set_cons_zero, List.set_cons_succ]) (hCont (w.heap.size, w7.heap.size, v7) _ ⟨af1, hown7.alloc _, fun z hz e => by have h1 := (hown7.lt z hz).2; have e2 : z = w7.heap.size := e; omega, hB3⟩)
              · skip
                refine value_ (w1 := ?_) (v := ?_) (by rfl) rfl ?_ ?_
                rotate_left 2
                · go_simp
                  constructor
                  · rfl
                  · rfl
                have hB2 : Below w.heap.size w ((w.drew.alloc (.cells #[] 9)).alloc (.cells #[.string s] 9)) := Below.alloc hB1 (by exact hB1.size) _
                have en1 : (w.drew.alloc (.cells #[] 9)).heap.size = w.heap.size + 1 := alloc_sz _ _
                have af1 : AFS w ((w.drew.alloc (.cells #[] 9)).alloc (.cells #[.string s] 9)) (w.heap.size + 1) s := by
                  have h9 := AFS.new_ (w5 := w) (wx := (w.drew.alloc (.cells #[] 9))) (s := s) hB1.size
                  rw [en1] at h9
                  exact h9
                have own0 := own0.alloc (.cells #[.string s] 9)
                have hrt := hrt.alloc (by exact hB1.size) (.cells #[.string s] 9)
                refine hK.out _ _ trivial (fun hHeld => ?_)
                clear hK K
                refine norm_ (a' := ?_) ?_ ?_
                rotate_left
                · show Act.put _ (some 39) _ = _
                  simp only [Act.put, List.setIfInBounds_toArray, List.set_cons_zero, List.set_cons_succ, i64_w, i32_w]
                  rfl
                refine one_ (i := 4) (N := some 37) #[true, true, true, true, true, true, true, false, true, true, true, false, false] rfl rfl (by kernel_rfl) (by decide) (fun K hK => ?_)
                refine Ck.step_append_any _ (by rfl) (.tmp 33) (.tmp 36) _ (by rfl) w.heap.size 9 i0 _ 1 16 Tryd.underlying39 HI0.out HZ0.out HZ1.out HZ2.out rfl (by omega) (.slice (some ⟨w.heap.size, 0, none⟩) 0 0) 0 [] (by rfl) (by exact own0) w.heap.size (some ⟨g, O, none⟩) k cap ((l.take k).map encStr) (by rfl) hrt (encs_one _) (by unfold maxLen; omega) (by omega) (by exact hB2.size) ?_
                intro v7 w7 hown7 hg7 hat7
                have hB3 : Below w.heap.size w w7 := hB2.grown hg7 (by exact hB2.size) (by intro k hk; simp only [Value.ownBlock, Option.some.injEq] at hk; omega)
                have en2 : ((w.drew.alloc (.cells #[] 9)).alloc (.cells #[.string s] 9)).heap.size = w.heap.size + 2 := (alloc_sz _ _).trans (congrArg (· + 1) (alloc_sz _ _))
                have ne1 : ∀ z, v7.ownBlock = some z → z ≠ w.heap.size + 1 := by
                  intro z hz e
                  rcases hat7 with e7 | e7
                  · rw [e7] at hz; simp only [Value.ownBlock, Option.some.injEq] at hz; omega
                  · rw [e7] at hz; have hz2 := (Option.some.inj hz).symm.trans en2; omega
                have af1 := af1.grown hg7 (by simp only [Value.ownBlock, ne_eq, Option.some.injEq]; omega)
                refine hK.out _ _ trivial (fun hHeld => ?_)
                clear hK K
                refine norm_ (a' := ?_) ?_ ?_
                rotate_left
                · show Act.put _ (some 37) _ = _
                  simp only [Act.put, List.setIfInBounds_toArray, List.set_cons_zero, List.set_cons_succ, i64_w, i32_w]
                  rfl
                exact norm_ (by simp only [putAll, Act.put, List.setIfInBounds_toArray, List.set_cons_zero, List.set_cons_succ]) (hCont (w.heap.size, w.heap.size + 1, v7) _ ⟨af1, hown7, ne1, hB3⟩)
            · skip
              refine value_ (w1 := ?_) (v := ?_) (by rfl) rfl ?_ ?_
              rotate_left 2
              · go_simp
                constructor
                · rfl
                · rfl
              have hB0 : Below w.heap.size w w.drew := (Below.refl _ _).drew
              have hB1 : Below w.heap.size w (w.drew.alloc (.cells #[.string s] 9)) := Below.alloc hB0 (by exact hB0.size) _
              have en0 : w.drew.heap.size = w.heap.size := rfl
              have af1 : AFS w (w.drew.alloc (.cells #[.string s] 9)) (w.heap.size) s := by
                have h9 := AFS.new_ (w5 := w) (wx := w.drew) (s := s) hB0.size
                rw [en0] at h9
                exact h9
              have hrt := HRT.out.alloc (by exact hB0.size) (.cells #[.string s] 9)
              refine hK.out _ _ trivial (fun hHeld => ?_)
              clear hK K
              refine norm_ (a' := ?_) ?_ ?_
              rotate_left
              · show Act.put _ (some 39) _ = _
                simp only [Act.put, List.setIfInBounds_toArray, List.set_cons_zero, List.set_cons_succ, i64_w, i32_w]
                rfl
              refine one_ (i := 0) (N := some 33) #[true, true, true, true, false, true, true, false, true, true, true, false, false] rfl rfl (by kernel_rfl) (by decide) (fun K hK => ?_)
              refine value_ (w1 := ?_) (v := ?_) (by rfl) rfl ?_ ?_
              rotate_left 2
              · go_simp
                constructor
                · rfl
                · rfl
              have hB2 : Below w.heap.size w ((w.drew.alloc (.cells #[.string s] 9)).alloc (.cells #[] 9)) := Below.alloc hB1 (by exact hB1.size) _
              have en1 : (w.drew.alloc (.cells #[.string s] 9)).heap.size = w.heap.size + 1 := alloc_sz _ _
              have own0 : ((w.drew.alloc (.cells #[.string s] 9)).alloc (.cells #[] 9)).ownsRow w.heap.size 9 1 (.slice (some ⟨w.heap.size + 1, 0, none⟩) 0 0) 0 [] := rown_empty (by rw [← en1]; exact heap_alloc_new (w.drew.alloc (.cells #[.string s] 9)) _) (by omega)
              have af1 := af1.alloc (.cells #[] 9)
              have hrt := hrt.alloc (by exact hB1.size) (.cells #[] 9)
              refine hK.out _ _ trivial (fun hHeld => ?_)
              clear hK K
              refine norm_ (a' := ?_) ?_ ?_
              rotate_left
              · show Act.put _ (some 33) _ = _
                simp only [Act.put, List.setIfInBounds_toArray, List.set_cons_zero, List.set_cons_succ, i64_w, i32_w]
                rfl
              refine one_ (i := 4) (N := some 37) #[true, true, true, true, true, true, true, false, true, true, true, false, false] rfl rfl (by kernel_rfl) (by decide) (fun K hK => ?_)
              refine Ck.step_append_any _ (by rfl) (.tmp 33) (.tmp 36) _ (by rfl) w.heap.size 9 i0 _ 1 16 Tryd.underlying39 HI0.out HZ0.out HZ1.out HZ2.out rfl (by omega) (.slice (some ⟨w.heap.size + 1, 0, none⟩) 0 0) 0 [] (by rfl) (by exact own0) w.heap.size (some ⟨g, O, none⟩) k cap ((l.take k).map encStr) (by rfl) hrt (encs_one _) (by unfold maxLen; omega) (by omega) (by exact hB2.size) ?_
              intro v7 w7 hown7 hg7 hat7
              have hB3 : Below w.heap.size w w7 := hB2.grown hg7 (by exact hB2.size) (by intro k hk; simp only [Value.ownBlock, Option.some.injEq] at hk; omega)
              have en2 : ((w.drew.alloc (.cells #[.string s] 9)).alloc (.cells #[] 9)).heap.size = w.heap.size + 2 := (alloc_sz _ _).trans (congrArg (· + 1) (alloc_sz _ _))
              have ne1 : ∀ z, v7.ownBlock = some z → z ≠ w.heap.size := by
                intro z hz e
                rcases hat7 with e7 | e7
                · rw [e7] at hz; simp only [Value.ownBlock, Option.some.injEq] at hz; omega
                · rw [e7] at hz; have hz2 := (Option.some.inj hz).symm.trans en2; omega
              have af1 := af1.grown hg7 (by simp only [Value.ownBlock, ne_eq, Option.some.injEq]; omega)
              refine hK.out _ _ trivial (fun hHeld => ?_)
              clear hK K
              refine norm_ (a' := ?_) ?_ ?_
              rotate_left
              · show Act.put _ (some 37) _ = _
                simp only [Act.put, List.setIfInBounds_toArray, List.set_cons_zero, List.set_cons_succ, i64_w, i32_w]
                rfl
              exact norm_ (by simp only [putAll, Act.put, List.setIfInBounds_toArray, List.set_cons_zero, List.set_cons_succ]) (hCont (w.heap.size + 1, w.heap.size, v7) _ ⟨af1, hown7, ne1, hB3⟩)
          rintro ⟨g0, g1, v7⟩ w6 ⟨af1, hown6, hne6, hB6⟩
          have hHeld := trivial
          refine norm_ (a' := ?_) ?_ ?_
          rotate_left
          · simp only [putAll, Act.put, List.setIfInBounds_toArray, List.set_cons_zero, List.set_cons_succ]
            rfl
          refine one_ (i := 7) (N := some 40) #[true, true, true, true, true, true, true, true, true, true, true, false, false] rfl rfl (by kernel_rfl) (by decide) (fun K hK => ?_)
          refine Ck.step_append_any _ (by rfl) (.tmp 37) (.tmp 39) _ (by rfl) w.heap.size 9 i0 _ 1 16 Tryd.underlying39 HI0.out HZ0.out HZ1.out HZ2.out rfl (by omega) v7 (0 + k) ([] ++ (l.take k).map encStr) (by rfl) hown6 w6.heap.size (some ⟨g1, 0, none⟩) 1 1 [.string s] (by rfl) (by exact af1.reads) (by simp [Value.oneCell']) (by unfold maxLen; omega) (by omega) (by exact hB6.size) ?_
          intro v16 w16 hown16 hg16 hat16
          have hB16 : Below w.heap.size w w16 := hB6.grown hg16 (by exact hB6.size) (fun z hz => (hown6.lt z hz).1)
          refine hK.out _ _ trivial (fun hHeld => ?_)
          clear hK K
          refine norm_ (a' := ?_) ?_ ?_
          rotate_left
          · show Act.put _ (some 40) _ = _
            simp only [Act.put, List.setIfInBounds_toArray, List.set_cons_zero, List.set_cons_succ, i64_w, i32_w]
            rfl
          refine one_ (i := 11) (N := some 44) #[true, true, true, true, true, true, true, true, true, true, true, true, false] rfl rfl (by kernel_rfl) (by decide) (fun K hK => ?_)
          refine Ck.step_append_any _ (by rfl) (.tmp 40) (.tmp 43) _ (by rfl) w.heap.size 9 i0 _ 1 16 Tryd.underlying39 HI0.out HZ0.out HZ1.out HZ2.out rfl (by omega) v16 (0 + k + 1) ([] ++ (l.take k).map encStr ++ [.string s]) (by rfl) hown16 w.heap.size (if cap = k then some ⟨g, O, none⟩ else some ⟨g, O + k, none⟩) (l.length - k) (cap - k) ((l.drop k).map encStr) (by rfl) (HRE.out.keep fun p hp => hB16.cell hp) (encs_one _) (by unfold maxLen; omega) (by omega) (by exact hB16.size) ?_
          intro v23 Y hown23 hg23 hat23
          have hB23 : Below w.heap.size w Y := hB16.grown hg23 (by exact hB16.size) (fun z hz => (hown16.lt z hz).1)
          refine hK.out _ _ trivial (fun hHeld => ?_)
          clear hK K
          refine norm_ (a' := ?_) ?_ ?_
          rotate_left
          · show Act.put _ (some 44) _ = _
            simp only [Act.put, List.setIfInBounds_toArray, List.set_cons_zero, List.set_cons_succ, i64_w, i32_w]
            rfl
          refine pure_ (i := 12) (N := some 4) (v := ?_) (a' := ?_) #[true, true, true, true, true, true, true, true, true, true, true, true, true] rfl rfl (by kernel_rfl) (fun _ _ _ h => h) (Or.inl ⟨by rfl, ?_⟩) ?_ ?_
          rotate_left
          · intro w'
            go_simp
            with_reducible rfl
          rotate_left
          · simp only [Act.put, List.setIfInBounds_toArray, List.set_cons_zero, List.set_cons_succ, i64_w, i32_w]
            rfl
          refine done_ (by kernel_rfl) ?_
          have HOWN : Hid (Y.ownsRow w.heap.size 9 1 v23 (putL l s.data.toList).length ((putL l s.data.toList).map encStr)) := by
            have e1 : (putL l s.data.toList).length = 0 + k + 1 + (l.length - k) := by rw [HR.out]; simp only [List.length_append, List.length_take, List.length_cons, List.length_drop]; omega
            have e2 : (putL l s.data.toList).map encStr = [] ++ (l.take k).map encStr ++ [.string s] ++ ((l.drop k).map encStr) := by rw [HR.out]; simp [encStr]
            rw [Hid, e1, e2]; exact hown23
          have HBY := Lib.hid hB23
          clear hown23 hg23 hat23 hB23 hown16 hg16 hat16 hB16 hown6 hne6 hB6 af1
          go_wp2_with fail
          go_ret
          exact PutPost.of_own HOWN.out HBY.out
    · have hke : k = l.length := by omega
      have HPL : Hid (plc l s.data.toList = k) := plc_at HALL.out (fun y hy => by rw [hke] at hy; simp at hy) hk
      have HR : Hid (putL l s.data.toList = l.take k ++ s.data.toList :: l.drop k) := by
        unfold Hid putL
        rw [HPL.out, if_neg]
        intro h1; rw [hke] at h1; simp at h1
      have hkm : k ≤ l.length := hk
      have hlf : decide ((k : Int) < l.length) = false := decide_eq_false (by omega)
      have hlf2 : decide (k < l.length) = false := decide_eq_false (by omega)
      clear hke
      by_cases hck : k = cap
      · subst hck
        have hkI2 : (k : Int) ≤ (l.length : Int) := by omega
        have hkI3 : (l.length : Int) ≤ (k : Int) := by omega
        have hkc : k ≤ k := by omega
        have hRX := H.out.reads
        have HRT : Hid (Ck.Reads w.drew w.heap.size 1 A k ((l.take k).map encStr)) := (reads_take hRX hkm).drew
        have HRE : Hid (Ck.Reads w.drew w.heap.size 1 A 0 ([] : List Value)) := by
          exact Ck.Reads.none_
        have HDR : Hid (l.drop k = []) := List.drop_of_length_le hc
        clear hRX
        go_wp2_with fail
        refine start_ (n := 13) (S := fun w' => True) (ds := []) #[false, false, false, false, false, false, false, false, false, false, false, false, false] (by kernel_rfl) rfl rfl trivial (fun hHeld => ?_)
        refine pure_ (i := 1) (N := some 34) (v := ?_) (a' := ?_) #[false, true, false, false, false, false, false, false, false, false, false, false, false] rfl rfl (by kernel_rfl) (fun _ _ _ h => h) (Or.inl ⟨by rfl, ?_⟩) ?_ ?_
        rotate_left
        · intro w'
          go_simp
          with_reducible rfl
        rotate_left
        · simp only [Act.put, List.setIfInBounds_toArray, List.set_cons_zero, List.set_cons_succ, i64_w, i32_w]
          rfl
        refine pure_ (i := 2) (N := some 35) (v := ?_) (a' := ?_) #[false, true, true, false, false, false, false, false, false, false, false, false, false] rfl rfl (by kernel_rfl) (fun _ _ _ h => h) (Or.inl ⟨by rfl, ?_⟩) ?_ ?_
        rotate_left
        · intro w'
          go_simp
          with_reducible rfl
        rotate_left
        · simp only [Act.put, List.setIfInBounds_toArray, List.set_cons_zero, List.set_cons_succ, i64_w, i32_w]
          rfl
        refine pure_ (i := 3) (N := some 36) (v := ?_) (a' := ?_) #[false, true, true, true, false, false, false, false, false, false, false, false, false] rfl rfl (by kernel_rfl) (fun _ _ _ h => h) (Or.inl ⟨by rfl, ?_⟩) ?_ ?_
        rotate_left
        · intro w'
          go_simp
          with_reducible rfl
        rotate_left
        · simp only [Act.put, List.setIfInBounds_toArray, List.set_cons_zero, List.set_cons_succ, i64_w, i32_w]
          rfl
        refine pure_ (i := 5) (N := some 38) (v := ?_) (a' := ?_) #[false, true, true, true, false, true, false, false, false, false, false, false, false] rfl rfl (by kernel_rfl) (fun _ _ _ h => h) (Or.inl ⟨by rfl, ?_⟩) ?_ ?_
        rotate_left
        · intro w'
          go_simp
          with_reducible rfl
        rotate_left
        · simp only [Act.put, List.setIfInBounds_toArray, List.set_cons_zero, List.set_cons_succ, i64_w, i32_w]
          rfl
        refine pure_ (i := 8) (N := some 41) (v := ?_) (a' := ?_) #[false, true, true, true, false, true, false, false, true, false, false, false, false] rfl rfl (by kernel_rfl) (fun _ _ _ h => h) (Or.inl ⟨by rfl, ?_⟩) ?_ ?_
        rotate_left
        · intro w'
          go_simp
          with_reducible rfl
        rotate_left
        · simp only [Act.put, List.setIfInBounds_toArray, List.set_cons_zero, List.set_cons_succ, i64_w, i32_w]
          rfl
        refine pure_ (i := 9) (N := some 42) (v := ?_) (a' := ?_) #[false, true, true, true, false, true, false, false, true, true, false, false, false] rfl rfl (by kernel_rfl) (fun _ _ _ h => h) (Or.inl ⟨by rfl, ?_⟩) ?_ ?_
        rotate_left
        · intro w'
          go_simp
          with_reducible rfl
        rotate_left
        · simp only [Act.put, List.setIfInBounds_toArray, List.set_cons_zero, List.set_cons_succ, i64_w, i32_w]
          rfl
        refine pure_ (i := 10) (N := some 43) (v := ?_) (a' := ?_) #[false, true, true, true, false, true, false, false, true, true, true, false, false] rfl rfl (by kernel_rfl) (fun _ _ _ h => h) (Or.inl ⟨by rfl, ?_⟩) ?_ ?_
        rotate_left
        · intro w'
          go_simp
          with_reducible rfl
        rotate_left
        · simp only [Act.put, List.setIfInBounds_toArray, List.set_cons_zero, List.set_cons_succ, i64_w, i32_w]
          rfl
        refine join_ (σ := Nat × Nat × Value) 3 #[true, true, true, true, true, true, true, false, true, true, true, false, false] (fun z => [(33, .slice (some ⟨z.1, 0, none⟩) 0 0), (37, z.2.2), (39, .slice (some ⟨z.2.1, 0, none⟩) 1 1)]) (fun z w' => AFS w w' z.2.1 s ∧ w'.ownsRow w.heap.size 9 1 z.2.2 (0 + k) ([] ++ (l.take k).map encStr) ∧ (∀ y, z.2.2.ownBlock = some y → y ≠ z.2.1) ∧ Below w.heap.size w w') ?_ ?_
        rotate_left
        · intro hCont
          refine two_ (i := 0) (j := 6) (Ni := some 33) (Nj := some 39) #[true, true, true, true, false, true, false, false, true, true, true, false, false] #[false, true, true, true, false, true, true, false, true, true, true, false, false] rfl rfl rfl rfl (by kernel_rfl) (by decide) (by decide) (fun K hK => ?_) (fun K hK => ?_)
          · skip
            refine value_ (w1 := ?_) (v := ?_) (by rfl) rfl ?_ ?_
            rotate_left 2
            · go_simp
              constructor
              · rfl
              · rfl
            have hB0 : Below w.heap.size w w.drew := (Below.refl _ _).drew
            have hB1 : Below w.heap.size w (w.drew.alloc (.cells #[] 9)) := Below.alloc hB0 (by exact hB0.size) _
            have en0 : w.drew.heap.size = w.heap.size := rfl
            have own0 : (w.drew.alloc (.cells #[] 9)).ownsRow w.heap.size 9 1 (.slice (some ⟨w.heap.size, 0, none⟩) 0 0) 0 [] := rown_empty (by rw [← en0]; exact heap_alloc_new w.drew _) (by omega)
            have hrt := HRT.out.alloc (by exact hB0.size) (.cells #[] 9)
            refine hK.out _ _ trivial (fun hHeld => ?_)
            clear hK K
            refine norm_ (a' := ?_) ?_ ?_
            rotate_left
            · show Act.put _ (some 33) _ = _
              simp only [Act.put, List.setIfInBounds_toArray, List.set_cons_zero, List.set_cons_succ, i64_w, i32_w]
              rfl
            refine two_ (i := 4) (j := 6) (Ni := some 37) (Nj := some 39) #[true, true, true, true, true, true, false, false, true, true, true, false, false] #[true, true, true, true, false, true, true, false, true, true, true, false, false] rfl rfl rfl rfl (by kernel_rfl) (by decide) (by decide) (fun K hK => ?_) (fun K hK => ?_)
            · skip
              refine Ck.step_append_any _ (by rfl) (.tmp 33) (.tmp 36) _ (by rfl) w.heap.size 9 i0 _ 1 16 Tryd.underlying39 HI0.out HZ0.out HZ1.out HZ2.out rfl (by omega) (.slice (some ⟨w.heap.size, 0, none⟩) 0 0) 0 [] (by rfl) (by exact own0) w.heap.size A k k ((l.take k).map encStr) (by rfl) hrt (encs_one _) (by unfold maxLen; omega) (by omega) (by exact hB1.size) ?_
              intro v7 w7 hown7 hg7 hat7
              have hB2 : Below w.heap.size w w7 := hB1.grown hg7 (by exact hB1.size) (by intro k hk; simp only [Value.ownBlock, Option.some.injEq] at hk; omega)
              refine hK.out _ _ trivial (fun hHeld => ?_)
              clear hK K
              refine norm_ (a' := ?_) ?_ ?_
              rotate_left
              · show Act.put _ (some 37) _ = _
                simp only [Act.put, List.setIfInBounds_toArray, List.set_cons_zero, List.set_cons_succ, i64_w, i32_w]
                rfl
              refine one_ (i := 6) (N := some 39) #[true, true, true, true, true, true, true, false, true, true, true, false, false] rfl rfl (by kernel_rfl) (by decide) (fun K hK => ?_)
              refine value_ (w1 := ?_) (v := ?_) (by rfl) rfl ?_ ?_
              rotate_left 2
              · go_simp
                constructor
                · rfl
                · rfl
              have hB3 : Below w.heap.size w (w7.alloc (.cells #[.string s] 9)) := Below.alloc hB2 (by exact hB2.size) _
              have en2 : w7.heap.size = w7.heap.size := rfl
              have af1 : AFS w (w7.alloc (.cells #[.string s] 9)) (w7.heap.size) s := by
                have h9 := AFS.new_ (w5 := w) (wx := w7) (s := s) hB2.size
                rw [en2] at h9
                exact h9
              refine hK.out _ _ trivial (fun hHeld => ?_)
              clear hK K
              refine norm_ (a' := ?_) ?_ ?_
              rotate_left
              · show Act.put _ (some 39) _ = _
                simp only [Act.put, List.setIfInBounds_toArray, List.set_cons_zero, List.set_cons_succ, i64_w, i32_w]
                rfl
              exact norm_ (by simp only [putAll, Act.put, List.setIfInBounds_toArray, List.set_cons_zero, List.set_cons_succ]) (hCont (w.heap.size, w7.heap.size, v7) _ ⟨af1, hown7.alloc _, fun z hz e => by have h1 := (hown7.lt z hz).2; have e2 : z = w7.heap.size := e; omega, hB3⟩)
            · skip
              refine value_ (w1 := ?_) (v := ?_) (by rfl) rfl ?_ ?_
              rotate_left 2
              · go_simp
                constructor
                · rfl
                · rfl
              have hB2 : Below w.heap.size w ((w.drew.alloc (.cells #[] 9)).alloc (.cells #[.string s] 9)) := Below.alloc hB1 (by exact hB1.size) _
              have en1 : (w.drew.alloc (.cells #[] 9)).heap.size = w.heap.size + 1 := alloc_sz _ _
              have af1 : AFS w ((w.drew.alloc (.cells #[] 9)).alloc (.cells #[.string s] 9)) (w.heap.size + 1) s := by
                have h9 := AFS.new_ (w5 := w) (wx := (w.drew.alloc (.cells #[] 9))) (s := s) hB1.size
                rw [en1] at h9
                exact h9
              have own0 := own0.alloc (.cells #[.string s] 9)
              have hrt := hrt.alloc (by exact hB1.size) (.cells #[.string s] 9)
              refine hK.out _ _ trivial (fun hHeld => ?_)
              clear hK K
              refine norm_ (a' := ?_) ?_ ?_
              rotate_left
              · show Act.put _ (some 39) _ = _
                simp only [Act.put, List.setIfInBounds_toArray, List.set_cons_zero, List.set_cons_succ, i64_w, i32_w]
                rfl
              refine one_ (i := 4) (N := some 37) #[true, true, true, true, true, true, true, false, true, true, true, false, false] rfl rfl (by kernel_rfl) (by decide) (fun K hK => ?_)
              refine Ck.step_append_any _ (by rfl) (.tmp 33) (.tmp 36) _ (by rfl) w.heap.size 9 i0 _ 1 16 Tryd.underlying39 HI0.out HZ0.out HZ1.out HZ2.out rfl (by omega) (.slice (some ⟨w.heap.size, 0, none⟩) 0 0) 0 [] (by rfl) (by exact own0) w.heap.size A k k ((l.take k).map encStr) (by rfl) hrt (encs_one _) (by unfold maxLen; omega) (by omega) (by exact hB2.size) ?_
              intro v7 w7 hown7 hg7 hat7
              have hB3 : Below w.heap.size w w7 := hB2.grown hg7 (by exact hB2.size) (by intro k hk; simp only [Value.ownBlock, Option.some.injEq] at hk; omega)
              have en2 : ((w.drew.alloc (.cells #[] 9)).alloc (.cells #[.string s] 9)).heap.size = w.heap.size + 2 := (alloc_sz _ _).trans (congrArg (· + 1) (alloc_sz _ _))
              have ne1 : ∀ z, v7.ownBlock = some z → z ≠ w.heap.size + 1 := by
                intro z hz e
                rcases hat7 with e7 | e7
                · rw [e7] at hz; simp only [Value.ownBlock, Option.some.injEq] at hz; omega
                · rw [e7] at hz; have hz2 := (Option.some.inj hz).symm.trans en2; omega
              have af1 := af1.grown hg7 (by simp only [Value.ownBlock, ne_eq, Option.some.injEq]; omega)
              refine hK.out _ _ trivial (fun hHeld => ?_)
              clear hK K
              refine norm_ (a' := ?_) ?_ ?_
              rotate_left
              · show Act.put _ (some 37) _ = _
                simp only [Act.put, List.setIfInBounds_toArray, List.set_cons_zero, List.set_cons_succ, i64_w, i32_w]
                rfl
              exact norm_ (by simp only [putAll, Act.put, List.setIfInBounds_toArray, List.set_cons_zero, List.set_cons_succ]) (hCont (w.heap.size, w.heap.size + 1, v7) _ ⟨af1, hown7, ne1, hB3⟩)
          · skip
            refine value_ (w1 := ?_) (v := ?_) (by rfl) rfl ?_ ?_
            rotate_left 2
            · go_simp
              constructor
              · rfl
              · rfl
            have hB0 : Below w.heap.size w w.drew := (Below.refl _ _).drew
            have hB1 : Below w.heap.size w (w.drew.alloc (.cells #[.string s] 9)) := Below.alloc hB0 (by exact hB0.size) _
            have en0 : w.drew.heap.size = w.heap.size := rfl
            have af1 : AFS w (w.drew.alloc (.cells #[.string s] 9)) (w.heap.size) s := by
              have h9 := AFS.new_ (w5 := w) (wx := w.drew) (s := s) hB0.size
              rw [en0] at h9
              exact h9
            have hrt := HRT.out.alloc (by exact hB0.size) (.cells #[.string s] 9)
            refine hK.out _ _ trivial (fun hHeld => ?_)
            clear hK K
            refine norm_ (a' := ?_) ?_ ?_
            rotate_left
            · show Act.put _ (some 39) _ = _
              simp only [Act.put, List.setIfInBounds_toArray, List.set_cons_zero, List.set_cons_succ, i64_w, i32_w]
              rfl
            refine one_ (i := 0) (N := some 33) #[true, true, true, true, false, true, true, false, true, true, true, false, false] rfl rfl (by kernel_rfl) (by decide) (fun K hK => ?_)
            refine value_ (w1 := ?_) (v := ?_) (by rfl) rfl ?_ ?_
            rotate_left 2
            · go_simp
              constructor
              · rfl
              · rfl
            have hB2 : Below w.heap.size w ((w.drew.alloc (.cells #[.string s] 9)).alloc (.cells #[] 9)) := Below.alloc hB1 (by exact hB1.size) _
            have en1 : (w.drew.alloc (.cells #[.string s] 9)).heap.size = w.heap.size + 1 := alloc_sz _ _
            have own0 : ((w.drew.alloc (.cells #[.string s] 9)).alloc (.cells #[] 9)).ownsRow w.heap.size 9 1 (.slice (some ⟨w.heap.size + 1, 0, none⟩) 0 0) 0 [] := rown_empty (by rw [← en1]; exact heap_alloc_new (w.drew.alloc (.cells #[.string s] 9)) _) (by omega)
            have af1 := af1.alloc (.cells #[] 9)
            have hrt := hrt.alloc (by exact hB1.size) (.cells #[] 9)
            refine hK.out _ _ trivial (fun hHeld => ?_)
            clear hK K
            refine norm_ (a' := ?_) ?_ ?_
            rotate_left
            · show Act.put _ (some 33) _ = _
              simp only [Act.put, List.setIfInBounds_toArray, List.set_cons_zero, List.set_cons_succ, i64_w, i32_w]
              rfl
            refine one_ (i := 4) (N := some 37) #[true, true, true, true, true, true, true, false, true, true, true, false, false] rfl rfl (by kernel_rfl) (by decide) (fun K hK => ?_)
            refine Ck.step_append_any _ (by rfl) (.tmp 33) (.tmp 36) _ (by rfl) w.heap.size 9 i0 _ 1 16 Tryd.underlying39 HI0.out HZ0.out HZ1.out HZ2.out rfl (by omega) (.slice (some ⟨w.heap.size + 1, 0, none⟩) 0 0) 0 [] (by rfl) (by exact own0) w.heap.size A k k ((l.take k).map encStr) (by rfl) hrt (encs_one _) (by unfold maxLen; omega) (by omega) (by exact hB2.size) ?_
            intro v7 w7 hown7 hg7 hat7
            have hB3 : Below w.heap.size w w7 := hB2.grown hg7 (by exact hB2.size) (by intro k hk; simp only [Value.ownBlock, Option.some.injEq] at hk; omega)
            have en2 : ((w.drew.alloc (.cells #[.string s] 9)).alloc (.cells #[] 9)).heap.size = w.heap.size + 2 := (alloc_sz _ _).trans (congrArg (· + 1) (alloc_sz _ _))
            have ne1 : ∀ z, v7.ownBlock = some z → z ≠ w.heap.size := by
              intro z hz e
              rcases hat7 with e7 | e7
              · rw [e7] at hz; simp only [Value.ownBlock, Option.some.injEq] at hz; omega
              · rw [e7] at hz; have hz2 := (Option.some.inj hz).symm.trans en2; omega
            have af1 := af1.grown hg7 (by simp only [Value.ownBlock, ne_eq, Option.some.injEq]; omega)
            refine hK.out _ _ trivial (fun hHeld => ?_)
            clear hK K
            refine norm_ (a' := ?_) ?_ ?_
            rotate_left
            · show Act.put _ (some 37) _ = _
              simp only [Act.put, List.setIfInBounds_toArray, List.set_cons_zero, List.set_cons_succ, i64_w, i32_w]
              rfl
            exact norm_ (by simp only [putAll, Act.put, List.setIfInBounds_toArray, List.set_cons_zero, List.set_cons_succ]) (hCont (w.heap.size + 1, w.heap.size, v7) _ ⟨af1, hown7, ne1, hB3⟩)
        rintro ⟨g0, g1, v7⟩ w6 ⟨af1, hown6, hne6, hB6⟩
        have hHeld := trivial
        refine norm_ (a' := ?_) ?_ ?_
        rotate_left
        · simp only [putAll, Act.put, List.setIfInBounds_toArray, List.set_cons_zero, List.set_cons_succ]
          rfl
        refine one_ (i := 7) (N := some 40) #[true, true, true, true, true, true, true, true, true, true, true, false, false] rfl rfl (by kernel_rfl) (by decide) (fun K hK => ?_)
        refine Ck.step_append_any _ (by rfl) (.tmp 37) (.tmp 39) _ (by rfl) w.heap.size 9 i0 _ 1 16 Tryd.underlying39 HI0.out HZ0.out HZ1.out HZ2.out rfl (by omega) v7 (0 + k) ([] ++ (l.take k).map encStr) (by rfl) hown6 w6.heap.size (some ⟨g1, 0, none⟩) 1 1 [.string s] (by rfl) (by exact af1.reads) (by simp [Value.oneCell']) (by unfold maxLen; omega) (by omega) (by exact hB6.size) ?_
        intro v16 w16 hown16 hg16 hat16
        have hB16 : Below w.heap.size w w16 := hB6.grown hg16 (by exact hB6.size) (fun z hz => (hown6.lt z hz).1)
        refine hK.out _ _ trivial (fun hHeld => ?_)
        clear hK K
        refine norm_ (a' := ?_) ?_ ?_
        rotate_left
        · show Act.put _ (some 40) _ = _
          simp only [Act.put, List.setIfInBounds_toArray, List.set_cons_zero, List.set_cons_succ, i64_w, i32_w]
          rfl
        refine one_ (i := 11) (N := some 44) #[true, true, true, true, true, true, true, true, true, true, true, true, false] rfl rfl (by kernel_rfl) (by decide) (fun K hK => ?_)
        refine Ck.step_append_any _ (by rfl) (.tmp 40) (.tmp 43) _ (by rfl) w.heap.size 9 i0 _ 1 16 Tryd.underlying39 HI0.out HZ0.out HZ1.out HZ2.out rfl (by omega) v16 (0 + k + 1) ([] ++ (l.take k).map encStr ++ [.string s]) (by rfl) hown16 w.heap.size A 0 0 ([] : List Value) (by rfl) (HRE.out.keep fun p hp => hB16.cell hp) (by simp) (by unfold maxLen; omega) (by omega) (by exact hB16.size) ?_
        intro v23 Y hown23 hg23 hat23
        have hB23 : Below w.heap.size w Y := hB16.grown hg23 (by exact hB16.size) (fun z hz => (hown16.lt z hz).1)
        refine hK.out _ _ trivial (fun hHeld => ?_)
        clear hK K
        refine norm_ (a' := ?_) ?_ ?_
        rotate_left
        · show Act.put _ (some 44) _ = _
          simp only [Act.put, List.setIfInBounds_toArray, List.set_cons_zero, List.set_cons_succ, i64_w, i32_w]
          rfl
        refine pure_ (i := 12) (N := some 4) (v := ?_) (a' := ?_) #[true, true, true, true, true, true, true, true, true, true, true, true, true] rfl rfl (by kernel_rfl) (fun _ _ _ h => h) (Or.inl ⟨by rfl, ?_⟩) ?_ ?_
        rotate_left
        · intro w'
          go_simp
          with_reducible rfl
        rotate_left
        · simp only [Act.put, List.setIfInBounds_toArray, List.set_cons_zero, List.set_cons_succ, i64_w, i32_w]
          rfl
        refine done_ (by kernel_rfl) ?_
        have HOWN : Hid (Y.ownsRow w.heap.size 9 1 v23 (putL l s.data.toList).length ((putL l s.data.toList).map encStr)) := by
          have e1 : (putL l s.data.toList).length = 0 + k + 1 + 0 := by rw [HR.out]; simp only [List.length_append, List.length_take, List.length_cons, List.length_drop]; omega
          have e2 : (putL l s.data.toList).map encStr = [] ++ (l.take k).map encStr ++ [.string s] ++ ([] : List Value) := by rw [HR.out, HDR.out]; simp [encStr]
          rw [Hid, e1, e2]; exact hown23
        have HBY := Lib.hid hB23
        clear hown23 hg23 hat23 hB23 hown16 hg16 hat16 hB16 hown6 hne6 hB6 af1
        go_wp2_with fail
        go_ret
        exact PutPost.of_own HOWN.out HBY.out
      · have hck2 : ¬ cap = k := fun e => hck e.symm
        have hkI2 : (k : Int) ≤ (l.length : Int) := by omega
        have hkI3 : (l.length : Int) ≤ (cap : Int) := by omega
        have hkc : k ≤ cap := by omega
        have hRX := H.out.reads
        have HRT : Hid (Ck.Reads w.drew w.heap.size 1 A k ((l.take k).map encStr)) := (reads_take hRX hkm).drew
        have HRE : Hid (Ck.Reads w.drew w.heap.size 1 (Option.map (fun x : Addr => x.add k) A) (l.length - k) ((l.drop k).map encStr)) := by
          have h9 := (reads_cut hRX hkm hc).drew
          rw [if_neg (fun e => hck e.symm)] at h9
          exact h9
        clear hRX
        go_wp2_with fail
        refine start_ (n := 13) (S := fun w' => True) (ds := []) #[false, false, false, false, false, false, false, false, false, false, false, false, false] (by kernel_rfl) rfl rfl trivial (fun hHeld => ?_)
        refine pure_ (i := 1) (N := some 34) (v := ?_) (a' := ?_) #[false, true, false, false, false, false, false, false, false, false, false, false, false] rfl rfl (by kernel_rfl) (fun _ _ _ h => h) (Or.inl ⟨by rfl, ?_⟩) ?_ ?_
        rotate_left
        · intro w'
          go_simp
          with_reducible rfl
        rotate_left
        · simp only [Act.put, List.setIfInBounds_toArray, List.set_cons_zero, List.set_cons_succ, i64_w, i32_w]
          rfl
        refine pure_ (i := 2) (N := some 35) (v := ?_) (a' := ?_) #[false, true, true, false, false, false, false, false, false, false, false, false, false] rfl rfl (by kernel_rfl) (fun _ _ _ h => h) (Or.inl ⟨by rfl, ?_⟩) ?_ ?_
        rotate_left
        · intro w'
          go_simp
          with_reducible rfl
        rotate_left
        · simp only [Act.put, List.setIfInBounds_toArray, List.set_cons_zero, List.set_cons_succ, i64_w, i32_w]
          rfl
        refine pure_ (i := 3) (N := some 36) (v := ?_) (a' := ?_) #[false, true, true, true, false, false, false, false, false, false, false, false, false] rfl rfl (by kernel_rfl) (fun _ _ _ h => h) (Or.inl ⟨by rfl, ?_⟩) ?_ ?_
        rotate_left
        · intro w'
          go_simp
          with_reducible rfl
        rotate_left
        · simp only [Act.put, List.setIfInBounds_toArray, List.set_cons_zero, List.set_cons_succ, i64_w, i32_w]
          rfl
        refine pure_ (i := 5) (N := some 38) (v := ?_) (a' := ?_) #[false, true, true, true, false, true, false, false, false, false, false, false, false] rfl rfl (by kernel_rfl) (fun _ _ _ h => h) (Or.inl ⟨by rfl, ?_⟩) ?_ ?_
        rotate_left
        · intro w'
          go_simp
          with_reducible rfl
        rotate_left
        · simp only [Act.put, List.setIfInBounds_toArray, List.set_cons_zero, List.set_cons_succ, i64_w, i32_w]
          rfl
        refine pure_ (i := 8) (N := some 41) (v := ?_) (a' := ?_) #[false, true, true, true, false, true, false, false, true, false, false, false, false] rfl rfl (by kernel_rfl) (fun _ _ _ h => h) (Or.inl ⟨by rfl, ?_⟩) ?_ ?_
        rotate_left
        · intro w'
          go_simp
          with_reducible rfl
        rotate_left
        · simp only [Act.put, List.setIfInBounds_toArray, List.set_cons_zero, List.set_cons_succ, i64_w, i32_w]
          rfl
        refine pure_ (i := 9) (N := some 42) (v := ?_) (a' := ?_) #[false, true, true, true, false, true, false, false, true, true, false, false, false] rfl rfl (by kernel_rfl) (fun _ _ _ h => h) (Or.inl ⟨by rfl, ?_⟩) ?_ ?_
        rotate_left
        · intro w'
          go_simp
          with_reducible rfl
        rotate_left
        · simp only [Act.put, List.setIfInBounds_toArray, List.set_cons_zero, List.set_cons_succ, i64_w, i32_w]
          rfl
        refine pure_ (i := 10) (N := some 43) (v := ?_) (a' := ?_) #[false, true, true, true, false, true, false, false, true, true, true, false, false] rfl rfl (by kernel_rfl) (fun _ _ _ h => h) (Or.inl ⟨by rfl, ?_⟩) ?_ ?_
        rotate_left
        · intro w'
          go_simp
          with_reducible rfl
        rotate_left
        · simp only [Act.put, List.setIfInBounds_toArray, List.set_cons_zero, List.set_cons_succ, i64_w, i32_w]
          rfl
        refine join_ (σ := Nat × Nat × Value) 3 #[true, true, true, true, true, true, true, false, true, true, true, false, false] (fun z => [(33, .slice (some ⟨z.1, 0, none⟩) 0 0), (37, z.2.2), (39, .slice (some ⟨z.2.1, 0, none⟩) 1 1)]) (fun z w' => AFS w w' z.2.1 s ∧ w'.ownsRow w.heap.size 9 1 z.2.2 (0 + k) ([] ++ (l.take k).map encStr) ∧ (∀ y, z.2.2.ownBlock = some y → y ≠ z.2.1) ∧ Below w.heap.size w w') ?_ ?_
        rotate_left
        · intro hCont
          refine two_ (i := 0) (j := 6) (Ni := some 33) (Nj := some 39) #[true, true, true, true, false, true, false, false, true, true, true, false, false] #[false, true, true, true, false, true, true, false, true, true, true, false, false] rfl rfl rfl rfl (by kernel_rfl) (by decide) (by decide) (fun K hK => ?_) (fun K hK => ?_)
          · skip
            refine value_ (w1 := ?_) (v := ?_) (by rfl) rfl ?_ ?_
            rotate_left 2
            · go_simp
              constructor
              · rfl
              · rfl
            have hB0 : Below w.heap.size w w.drew := (Below.refl _ _).drew
            have hB1 : Below w.heap.size w (w.drew.alloc (.cells #[] 9)) := Below.alloc hB0 (by exact hB0.size) _
            have en0 : w.drew.heap.size = w.heap.size := rfl
            have own0 : (w.drew.alloc (.cells #[] 9)).ownsRow w.heap.size 9 1 (.slice (some ⟨w.heap.size, 0, none⟩) 0 0) 0 [] := rown_empty (by rw [← en0]; exact heap_alloc_new w.drew _) (by omega)
            have hrt := HRT.out.alloc (by exact hB0.size) (.cells #[] 9)
            refine hK.out _ _ trivial (fun hHeld => ?_)
            clear hK K
            refine norm_ (a' := ?_) ?_ ?_
            rotate_left
            · show Act.put _ (some 33) _ = _
              simp only [Act.put, List.setIfInBounds_toArray, List.set_cons_zero, List.set_cons_succ, i64_w, i32_w]
              rfl
            refine two_ (i := 4) (j := 6) (Ni := some 37) (Nj := some 39) #[true, true, true, true, true, true, false, false, true, true, true, false, false] #[true, true, true, true, false, true, true, false, true, true, true, false, false] rfl rfl rfl rfl (by kernel_rfl) (by decide) (by decide) (fun K hK => ?_) (fun K hK => ?_)
            · skip
              refine Ck.step_append_any _ (by rfl) (.tmp 33) (.tmp 36) _ (by rfl) w.heap.size 9 i0 _ 1 16 Tryd.underlying39 HI0.out HZ0.out HZ1.out HZ2.out rfl (by omega) (.slice (some ⟨w.heap.size, 0, none⟩) 0 0) 0 [] (by rfl) (by exact own0) w.heap.size A k cap ((l.take k).map encStr) (by rfl) hrt (encs_one _) (by unfold maxLen; omega) (by omega) (by exact hB1.size) ?_
              intro v7 w7 hown7 hg7 hat7
              have hB2 : Below w.heap.size w w7 := hB1.grown hg7 (by exact hB1.size) (by intro k hk; simp only [Value.ownBlock, Option.some.injEq] at hk; omega)
              refine hK.out _ _ trivial (fun hHeld => ?_)
              clear hK K
              refine norm_ (a' := ?_) ?_ ?_
              rotate_left
              · show Act.put _ (some 37) _ = _
                simp only [Act.put, List.setIfInBounds_toArray, List.set_cons_zero, List.set_cons_succ, i64_w, i32_w]
                rfl
              refine one_ (i := 6) (N := some 39) #[true, true, true, true, true, true, true, false, true, true, true, false, false] rfl rfl (by kernel_rfl) (by decide) (fun K hK => ?_)
              refine value_ (w1 := ?_) (v := ?_) (by rfl) rfl ?_ ?_
              rotate_left 2
              · go_simp
                constructor
                · rfl
                · rfl
              have hB3 : Below w.heap.size w (w7.alloc (.cells #[.string s] 9)) := Below.alloc hB2 (by exact hB2.size) _
              have en2 : w7.heap.size = w7.heap.size := rfl
              have af1 : AFS w (w7.alloc (.cells #[.string s] 9)) (w7.heap.size) s := by
                have h9 := AFS.new_ (w5 := w) (wx := w7) (s := s) hB2.size
                rw [en2] at h9
                exact h9
              refine hK.out _ _ trivial (fun hHeld => ?_)
              clear hK K
              refine norm_ (a' := ?_) ?_ ?_
              rotate_left
              · show Act.put _ (some 39) _ = _
                simp only [Act.put, List.setIfInBounds_toArray, List.set_cons_zero, List.set_cons_succ, i64_w, i32_w]
                rfl
              exact norm_ (by simp only [putAll, Act.put, List.setIfInBounds_toArray, List.set_cons_zero, List.set_cons_succ]) (hCont (w.heap.size, w7.heap.size, v7) _ ⟨af1, hown7.alloc _, fun z hz e => by have h1 := (hown7.lt z hz).2; have e2 : z = w7.heap.size := e; omega, hB3⟩)
            · skip
              refine value_ (w1 := ?_) (v := ?_) (by rfl) rfl ?_ ?_
              rotate_left 2
              · go_simp
                constructor
                · rfl
                · rfl
              have hB2 : Below w.heap.size w ((w.drew.alloc (.cells #[] 9)).alloc (.cells #[.string s] 9)) := Below.alloc hB1 (by exact hB1.size) _
              have en1 : (w.drew.alloc (.cells #[] 9)).heap.size = w.heap.size + 1 := alloc_sz _ _
              have af1 : AFS w ((w.drew.alloc (.cells #[] 9)).alloc (.cells #[.string s] 9)) (w.heap.size + 1) s := by
                have h9 := AFS.new_ (w5 := w) (wx := (w.drew.alloc (.cells #[] 9))) (s := s) hB1.size
                rw [en1] at h9
                exact h9
              have own0 := own0.alloc (.cells #[.string s] 9)
              have hrt := hrt.alloc (by exact hB1.size) (.cells #[.string s] 9)
              refine hK.out _ _ trivial (fun hHeld => ?_)
              clear hK K
              refine norm_ (a' := ?_) ?_ ?_
              rotate_left
              · show Act.put _ (some 39) _ = _
                simp only [Act.put, List.setIfInBounds_toArray, List.set_cons_zero, List.set_cons_succ, i64_w, i32_w]
                rfl
              refine one_ (i := 4) (N := some 37) #[true, true, true, true, true, true, true, false, true, true, true, false, false] rfl rfl (by kernel_rfl) (by decide) (fun K hK => ?_)
              refine Ck.step_append_any _ (by rfl) (.tmp 33) (.tmp 36) _ (by rfl) w.heap.size 9 i0 _ 1 16 Tryd.underlying39 HI0.out HZ0.out HZ1.out HZ2.out rfl (by omega) (.slice (some ⟨w.heap.size, 0, none⟩) 0 0) 0 [] (by rfl) (by exact own0) w.heap.size A k cap ((l.take k).map encStr) (by rfl) hrt (encs_one _) (by unfold maxLen; omega) (by omega) (by exact hB2.size) ?_
              intro v7 w7 hown7 hg7 hat7
              have hB3 : Below w.heap.size w w7 := hB2.grown hg7 (by exact hB2.size) (by intro k hk; simp only [Value.ownBlock, Option.some.injEq] at hk; omega)
              have en2 : ((w.drew.alloc (.cells #[] 9)).alloc (.cells #[.string s] 9)).heap.size = w.heap.size + 2 := (alloc_sz _ _).trans (congrArg (· + 1) (alloc_sz _ _))
              have ne1 : ∀ z, v7.ownBlock = some z → z ≠ w.heap.size + 1 := by
                intro z hz e
                rcases hat7 with e7 | e7
                · rw [e7] at hz; simp only [Value.ownBlock, Option.some.injEq] at hz; omega
                · rw [e7] at hz; have hz2 := (Option.some.inj hz).symm.trans en2; omega
              have af1 := af1.grown hg7 (by simp only [Value.ownBlock, ne_eq, Option.some.injEq]; omega)
              refine hK.out _ _ trivial (fun hHeld => ?_)
              clear hK K
              refine norm_ (a' := ?_) ?_ ?_
              rotate_left
              · show Act.put _ (some 37) _ = _
                simp only [Act.put, List.setIfInBounds_toArray, List.set_cons_zero, List.set_cons_succ, i64_w, i32_w]
                rfl
              exact norm_ (by simp only [putAll, Act.put, List.setIfInBounds_toArray, List.set_cons_zero, List.set_cons_succ]) (hCont (w.heap.size, w.heap.size + 1, v7) _ ⟨af1, hown7, ne1, hB3⟩)
          · skip
            refine value_ (w1 := ?_) (v := ?_) (by rfl) rfl ?_ ?_
            rotate_left 2
            · go_simp
              constructor
              · rfl
              · rfl
            have hB0 : Below w.heap.size w w.drew := (Below.refl _ _).drew
            have hB1 : Below w.heap.size w (w.drew.alloc (.cells #[.string s] 9)) := Below.alloc hB0 (by exact hB0.size) _
            have en0 : w.drew.heap.size = w.heap.size := rfl
            have af1 : AFS w (w.drew.alloc (.cells #[.string s] 9)) (w.heap.size) s := by
              have h9 := AFS.new_ (w5 := w) (wx := w.drew) (s := s) hB0.size
              rw [en0] at h9
              exact h9
            have hrt := HRT.out.alloc (by exact hB0.size) (.cells #[.string s] 9)
            refine hK.out _ _ trivial (fun hHeld => ?_)
            clear hK K
            refine norm_ (a' := ?_) ?_ ?_
            rotate_left
            · show Act.put _ (some 39) _ = _
              simp only [Act.put, List.setIfInBounds_toArray, List.set_cons_zero, List.set_cons_succ, i64_w, i32_w]
              rfl
            refine one_ (i := 0) (N := some 33) #[true, true, true, true, false, true, true, false, true, true, true, false, false] rfl rfl (by kernel_rfl) (by decide) (fun K hK => ?_)
            refine value_ (w1 := ?_) (v := ?_) (by rfl) rfl ?_ ?_
            rotate_left 2
            · go_simp
              constructor
              · rfl
              · rfl
            have hB2 : Below w.heap.size w ((w.drew.alloc (.cells #[.string s] 9)).alloc (.cells #[] 9)) := Below.alloc hB1 (by exact hB1.size) _
            have en1 : (w.drew.alloc (.cells #[.string s] 9)).heap.size = w.heap.size + 1 := alloc_sz _ _
            have own0 : ((w.drew.alloc (.cells #[.string s] 9)).alloc (.cells #[] 9)).ownsRow w.heap.size 9 1 (.slice (some ⟨w.heap.size + 1, 0, none⟩) 0 0) 0 [] := rown_empty (by rw [← en1]; exact heap_alloc_new (w.drew.alloc (.cells #[.string s] 9)) _) (by omega)
            have af1 := af1.alloc (.cells #[] 9)
            have hrt := hrt.alloc (by exact hB1.size) (.cells #[] 9)
            refine hK.out _ _ trivial (fun hHeld => ?_)
            clear hK K
            refine norm_ (a' := ?_) ?_ ?_
            rotate_left
            · show Act.put _ (some 33) _ = _
              simp only [Act.put, List.setIfInBounds_toArray, List.set_cons_zero, List.set_cons_succ, i64_w, i32_w]
              rfl
            refine one_ (i := 4) (N := some 37) #[true, true, true, true, true, true, true, false, true, true, true, false, false] rfl rfl (by kernel_rfl) (by decide) (fun K hK => ?_)
            refine Ck.step_append_any _ (by rfl) (.tmp 33) (.tmp 36) _ (by rfl) w.heap.size 9 i0 _ 1 16 Tryd.underlying39 HI0.out HZ0.out HZ1.out HZ2.out rfl (by omega) (.slice (some ⟨w.heap.size + 1, 0, none⟩) 0 0) 0 [] (by rfl) (by exact own0) w.heap.size A k cap ((l.take k).map encStr) (by rfl) hrt (encs_one _) (by unfold maxLen; omega) (by omega) (by exact hB2.size) ?_
            intro v7 w7 hown7 hg7 hat7
            have hB3 : Below w.heap.size w w7 := hB2.grown hg7 (by exact hB2.size) (by intro k hk; simp only [Value.ownBlock, Option.some.injEq] at hk; omega)
            have en2 : ((w.drew.alloc (.cells #[.string s] 9)).alloc (.cells #[] 9)).heap.size = w.heap.size + 2 := (alloc_sz _ _).trans (congrArg (· + 1) (alloc_sz _ _))
            have ne1 : ∀ z, v7.ownBlock = some z → z ≠ w.heap.size := by
              intro z hz e
              rcases hat7 with e7 | e7
              · rw [e7] at hz; simp only [Value.ownBlock, Option.some.injEq] at hz; omega
              · rw [e7] at hz; have hz2 := (Option.some.inj hz).symm.trans en2; omega
            have af1 := af1.grown hg7 (by simp only [Value.ownBlock, ne_eq, Option.some.injEq]; omega)
            refine hK.out _ _ trivial (fun hHeld => ?_)
            clear hK K
            refine norm_ (a' := ?_) ?_ ?_
            rotate_left
            · show Act.put _ (some 37) _ = _
              simp only [Act.put, List.setIfInBounds_toArray, List.set_cons_zero, List.set_cons_succ, i64_w, i32_w]
              rfl
            exact norm_ (by simp only [putAll, Act.put, List.setIfInBounds_toArray, List.set_cons_zero, List.set_cons_succ]) (hCont (w.heap.size + 1, w.heap.size, v7) _ ⟨af1, hown7, ne1, hB3⟩)
        rintro ⟨g0, g1, v7⟩ w6 ⟨af1, hown6, hne6, hB6⟩
        have hHeld := trivial
        refine norm_ (a' := ?_) ?_ ?_
        rotate_left
        · simp only [putAll, Act.put, List.setIfInBounds_toArray, List.set_cons_zero, List.set_cons_succ]
          rfl
        refine one_ (i := 7) (N := some 40) #[true, true, true, true, true, true, true, true, true, true, true, false, false] rfl rfl (by kernel_rfl) (by decide) (fun K hK => ?_)
        refine Ck.step_append_any _ (by rfl) (.tmp 37) (.tmp 39) _ (by rfl) w.heap.size 9 i0 _ 1 16 Tryd.underlying39 HI0.out HZ0.out HZ1.out HZ2.out rfl (by omega) v7 (0 + k) ([] ++ (l.take k).map encStr) (by rfl) hown6 w6.heap.size (some ⟨g1, 0, none⟩) 1 1 [.string s] (by rfl) (by exact af1.reads) (by simp [Value.oneCell']) (by unfold maxLen; omega) (by omega) (by exact hB6.size) ?_
        intro v16 w16 hown16 hg16 hat16
        have hB16 : Below w.heap.size w w16 := hB6.grown hg16 (by exact hB6.size) (fun z hz => (hown6.lt z hz).1)
        refine hK.out _ _ trivial (fun hHeld => ?_)
        clear hK K
        refine norm_ (a' := ?_) ?_ ?_
        rotate_left
        · show Act.put _ (some 40) _ = _
          simp only [Act.put, List.setIfInBounds_toArray, List.set_cons_zero, List.set_cons_succ, i64_w, i32_w]
          rfl
        refine one_ (i := 11) (N := some 44) #[true, true, true, true, true, true, true, true, true, true, true, true, false] rfl rfl (by kernel_rfl) (by decide) (fun K hK => ?_)
        refine Ck.step_append_any _ (by rfl) (.tmp 40) (.tmp 43) _ (by rfl) w.heap.size 9 i0 _ 1 16 Tryd.underlying39 HI0.out HZ0.out HZ1.out HZ2.out rfl (by omega) v16 (0 + k + 1) ([] ++ (l.take k).map encStr ++ [.string s]) (by rfl) hown16 w.heap.size (Option.map (fun x : Addr => x.add k) A) (l.length - k) (cap - k) ((l.drop k).map encStr) (by rfl) (HRE.out.keep fun p hp => hB16.cell hp) (encs_one _) (by unfold maxLen; omega) (by omega) (by exact hB16.size) ?_
        intro v23 Y hown23 hg23 hat23
        have hB23 : Below w.heap.size w Y := hB16.grown hg23 (by exact hB16.size) (fun z hz => (hown16.lt z hz).1)
        refine hK.out _ _ trivial (fun hHeld => ?_)
        clear hK K
        refine norm_ (a' := ?_) ?_ ?_
        rotate_left
        · show Act.put _ (some 44) _ = _
          simp only [Act.put, List.setIfInBounds_toArray, List.set_cons_zero, List.set_cons_succ, i64_w, i32_w]
          rfl
        refine pure_ (i := 12) (N := some 4) (v := ?_) (a' := ?_) #[true, true, true, true, true, true, true, true, true, true, true, true, true] rfl rfl (by kernel_rfl) (fun _ _ _ h => h) (Or.inl ⟨by rfl, ?_⟩) ?_ ?_
        rotate_left
        · intro w'
          go_simp
          with_reducible rfl
        rotate_left
        · simp only [Act.put, List.setIfInBounds_toArray, List.set_cons_zero, List.set_cons_succ, i64_w, i32_w]
          rfl
        refine done_ (by kernel_rfl) ?_
        have HOWN : Hid (Y.ownsRow w.heap.size 9 1 v23 (putL l s.data.toList).length ((putL l s.data.toList).map encStr)) := by
          have e1 : (putL l s.data.toList).length = 0 + k + 1 + (l.length - k) := by rw [HR.out]; simp only [List.length_append, List.length_take, List.length_cons, List.length_drop]; omega
          have e2 : (putL l s.data.toList).map encStr = [] ++ (l.take k).map encStr ++ [.string s] ++ ((l.drop k).map encStr) := by rw [HR.out]; simp [encStr]
          rw [Hid, e1, e2]; exact hown23
        have HBY := Lib.hid hB23
        clear hown23 hg23 hat23 hB23 hown16 hg16 hat16 hB16 hown6 hne6 hB6 af1
        go_wp2_with fail
        go_ret
        exact PutPost.of_own HOWN.out HBY.out
end Go.Proofs.YtgpadcokcdpmnaaDoor.Fd
end
section
namespace Go.Proofs.YtgpadcokcdpmnaaDoor.Fd
open Go Go.RowKit Go.Maps Go.Sort Go.Shelf Go.Lib
set_option linter.unusedVariables false
set_option linter.unusedSimpArgs false
def EvsO (w : World) (A : Option Addr) (l : List Ev) : Prop :=
  ∀ i x, l[i]? = some x → ∃ g O, A = some ⟨g, O, none⟩ ∧ g < w.heap.size ∧ ∀ j u, x.cells.toList[j]? = some u → w.cell? ⟨g, O + i * 8 + j, none⟩ = some u
theorem EvsO.below {w w' : World} {A : Option Addr} {l : List Ev} (h : EvsO w A l) (hb : Below w.heap.size w w') : EvsO w' A l := by
  intro i x hx
  obtain ⟨g, O, rfl, hg, hc⟩ := h i x hx
  exact ⟨g, O, rfl, Nat.lt_of_lt_of_le hg hb.size, fun j u hu => (hb.cell (p := ⟨g, O + i * 8 + j, none⟩) hg).trans (hc j u hu)⟩
theorem EvsO.C {w : World} {A : Option Addr} {l : List Ev} (h : EvsO w A l) (hl : l.length ≤ 1000000) : YtgpadcokcdpmnaaDoorW.PrintWords.Kd.C PFeedDiffs.k37 w A (l.map toS).length (l.map toS) := by
  refine ⟨rfl, by simp; omega, fun hn => ?_⟩
  have hn' : 0 < l.length := by simpa using hn
  obtain ⟨g, O, rfl, hg, _⟩ := h 0 _ (List.getElem?_eq_getElem hn')
  refine ⟨⟨g, O, none⟩, rfl, fun j p hj => ?_⟩
  rw [List.getElem?_map] at hj
  cases hx : l[j]? with
  | none => rw [hx] at hj; cases hj
  | some x =>
    rw [hx] at hj
    cases hj
    obtain ⟨g', O', e, _, hc⟩ := h j x hx
    cases e
    exact ⟨x.cells.toList, rfl, PFeedDiffs.k37_mk w (toS x), fun i u hu => by rw [add_off, ← Nat.add_assoc]; exact hc i u hu⟩
theorem EvsO.of_own {w : World} {base n : Nat} {t : TypeId} {A : Option Addr} {cap : Nat} {l : List Ev} (hn : l.length = n) (h : w.ownsRow base t 8 (.slice A n cap) n (cellsV l)) : EvsO w A l := by
  intro i x hx
  obtain ⟨g, rfl, hg, hc⟩ := Evs.of_own hn h i x hx
  exact ⟨g, 0, rfl, hg, fun j u hu => by rw [Nat.zero_add]; exact hc j u hu⟩
def EvFine (l : List Ev) : Prop := l.length ≤ 1000 ∧ ∀ e ∈ l, e.text.size ≤ 1000000 ∧ e.item.size ≤ 1000000
theorem refat_calls (A : Option Addr) (cap : Nat) (l : List Ev) (nm : ByteArray) (at_ : Int) (w : World) (h : EvsO w A l) (hf : EvFine l) (hc : l.length ≤ cap) :
    Calls Tryd.prog 30 #[.slice A l.length cap, .string nm, .int .i64 at_] w fun e w' => e = .returned (.tuple #[(refAt l nm at_).x.val, .bool (refAt l nm at_).there]) ∧ Below w.heap.size w w' := by
  have hl := hf.1
  have := PFeedDiffs.ciceroneref15_At.calls _ A cap (l.map toS) nm at_ _ _ _ _ _ _ _ _ w (h.C (by omega)) (by simpa using hc) (pAt l nm at_ (by omega) (fun e he => (hf.2 e he).1))
  rw [List.length_map] at this
  exact this
def nameStep (l : List Ev) (at_ : Int) (out : List Tx) (e : Ev) : List Tx := if (refAt l e.item at_).x.listed = true then putL out e.item.data.toList else out
def refNames (l : List Ev) (at_ : Int) (k : Nat) : List Tx := (l.take k).foldl (nameStep l at_) []
theorem nameStep_length (l : List Ev) (at_ : Int) (out : List Tx) (e : Ev) : (nameStep l at_ out e).length ≤ out.length + 1 := by
  unfold nameStep
  split
  · exact putL_length _ _
  · omega
theorem refNames_succ {l : List Ev} {at_ : Int} {k : Nat} {e : Ev} (h : l[k]? = some e) : refNames l at_ (k + 1) = nameStep l at_ (refNames l at_ k) e := by
  unfold refNames
  rw [List.take_add_one, h, List.foldl_append]; rfl
theorem refNames_length (l : List Ev) (at_ : Int) : ∀ k, (refNames l at_ k).length ≤ k
  | 0 => by simp [refNames]
  | k + 1 => by
    have ih := refNames_length l at_ k
    cases h : l[k]? with
    | none =>
      have : refNames l at_ (k + 1) = refNames l at_ k := by unfold refNames; rw [List.take_add_one, h]; simp
      rw [this]; omega
    | some e => rw [refNames_succ h]; have := nameStep_length l at_ (refNames l at_ k) e; omega
def NM (W : World) (l : List Ev) (at_ : Int) (v5 v6 : Value) (wr : World) : Prop :=
  ∃ (k : Nat) (A : Option Addr) (cap : Nat), k ≤ l.length ∧ v6 = .int .i64 k ∧ v5 = .slice A (refNames l at_ k).length cap ∧ TxAt wr A (refNames l at_ k) ∧ (refNames l at_ k).length ≤ cap ∧ Below W.heap.size W wr
set_option maxHeartbeats 8000000 in
set_option maxRecDepth 100000 in
theorem refnames_calls (A : Option Addr) (cap : Nat) (l : List Ev) (at_ : Int) (w : World) (h : EvsO w A l) (hf : EvFine l) (hc : l.length ≤ cap) :
    Calls Tryd.prog 28 #[.slice A l.length cap, .int .i64 at_] w fun r w' => PutPost w (refNames l at_ l.length) r w' := by
  have H := Lib.hid h
  have hl1 := hf.1
  have HF := Lib.hid hf
  clear h hf
  go_enter Tryd.func28, Tryd.ntmps28
  go_wp2_with fail
  go_loopw [5, 6] (fun v5 v6 wr => NM w l at_ v5 v6 wr) (fun _ i _ => l.length - (intOf i).toNat)
  case atStart => exact ⟨0, none, 0, Nat.zero_le _, rfl, rfl, TxAt.nil _ _, Nat.le_refl _, Below.refl _ _⟩
  case round =>
    obtain ⟨k, A5, cap5, hk, rfl, rfl, htx, hc5, hbr⟩ := hrel
    have hnl := refNames_length l at_ k
    obtain ⟨ns, hns⟩ : ∃ ns, refNames l at_ k = ns := ⟨_, rfl⟩
    rw [hns] at htx hc5 hnl ⊢
    have HNS := Lib.hid hns
    have HTX := Lib.hid htx
    have HBR := Lib.hid hbr
    clear hns htx hbr
    by_cases hlt : k < l.length
    · obtain ⟨e, he⟩ : ∃ x, l[k]? = some x := ⟨_, List.getElem?_eq_getElem hlt⟩
      have HWR := Lib.hid (H.out.below HBR.out)
      obtain ⟨g, O, rfl, hg, hcs⟩ := HWR.out k e he
      have f5 : wr.cell? ⟨g, O + k * 8 + 5, none⟩ = some (.string e.item) := hcs 5 _ rfl
      have hAT := fun W (hW : Below wr.heap.size wr W) => refat_calls (some ⟨g, O, none⟩) cap l e.item at_ W (HWR.out.below hW) HF.out hc
      obtain ⟨st, hst⟩ : ∃ st, refAt l e.item at_ = st := ⟨_, rfl⟩
      have hNX := refNames_succ (at_ := at_) he
      rw [HNS.out] at hNX
      unfold nameStep at hNX
      rw [hst] at hNX
      simp only [hst, It.val, It.cells] at hAT
      have HAT := Lib.hid hAT
      have HNX := Lib.hid hNX
      have HPUT := Lib.hid (fun W (hW : TxAt W A5 ns) => put15_calls A5 cap5 ns e.item W hW hc5 (by omega))
      have hki : (0 : Int) ≤ k := by omega
      have hli : (k : Int) < l.length := by omega
      clear hcs hAT hst hNX he
      cases hls : st.x.listed with
      | false =>
        rw [hls] at HNX HAT
        have HNEXT : Hid (refNames l at_ (k + 1) = ns) := HNX.out
        go_wp2_with (first
          | (go_at_call 30; (with_reducible refine (HAT.out _ (Below.refl _ _)).mono ?_); rintro r y ⟨rfl, hy⟩; have HY := Lib.hid hy; clear hy)
          | fail)
        go_roundw
        case rel => exact ⟨k + 1, A5, cap5, by omega, by first | rfl | simp, by rw [HNEXT.out], by rw [HNEXT.out]; exact HTX.out.below (HY.out.alloc HY.out.size _), by rw [HNEXT.out]; exact hc5, (HBR.out.trans (HY.out.mono HBR.out.size)).alloc (HBR.out.trans (HY.out.mono HBR.out.size)).size _⟩
        case measure => simp [intOf]; omega
      | true =>
        rw [hls] at HNX HAT
        have HNEXT : Hid (refNames l at_ (k + 1) = putL ns e.item.data.toList) := HNX.out
        have dg : g < wr.heap.size := hg
        go_wp2_with (first
          | (go_at_call 30; (with_reducible refine (HAT.out _ (Below.refl _ _)).mono ?_); rintro r y ⟨rfl, hy⟩; have HY := Lib.hid hy; have f6 := (hy.cell (p := ⟨g, O + k * 8 + 5, none⟩) hg).trans f5; have dgy := Nat.lt_of_lt_of_le dg hy.size; clear hy)
          | (go_at_call 45; (with_reducible refine (HPUT.out _ (HTX.out.below (HY.out.alloc HY.out.size _))).mono ?_); rintro r z ⟨A9, cap9, rfl, ht9, hc9, hb9⟩; have HT9 := Lib.hid ht9; have HB9 := Lib.hid hb9; clear ht9 hb9)
          | fail)
        go_roundw
        case rel => exact ⟨k + 1, A9, cap9, by omega, by first | rfl | simp, by rw [HNEXT.out], by rw [HNEXT.out]; exact HT9.out, by rw [HNEXT.out]; exact hc9, by have h1 := (HBR.out.trans (HY.out.mono HBR.out.size)).alloc (HBR.out.trans (HY.out.mono HBR.out.size)).size (.cells #[.string st.x.name, .string st.x.maker, .string st.x.tags, .int .i64 st.x.stock, .int .i64 st.x.price, .int .i64 st.x.born, .bool true] 64); exact h1.trans (HB9.out.mono h1.size)⟩
        case measure => simp [intOf]; omega
    · have hke : k = l.length := by omega
      have HR : Hid (refNames l at_ l.length = ns) := by rw [Hid, ← hke]; exact HNS.out
      clear hke
      go_wp2_with fail
      go_ret
      rw [HR.out]
      exact ⟨A5, cap5, rfl, HTX.out, hc5, HBR.out⟩
end Go.Proofs.YtgpadcokcdpmnaaDoor.Fd
end
section
namespace Go.Proofs.YtgpadcokcdpmnaaDoor.Fd
open Go Go.RowKit Go.Maps Go.Sort Go.Shelf Go.Lib
set_option linter.unusedVariables false
set_option linter.unusedSimpArgs false
def rfnd (l : List Rw) (s : Tx) : Option Rw := l.find? (fun x => x.name.data.toList == s)
theorem rfnd_cases : ∀ (l : List Rw) (s : Tx), (findL l s 0 = -1 ∧ rfnd l s = none) ∨ ∃ (j : Nat) (x : Rw), findL l s 0 = j ∧ l[j]? = some x ∧ rfnd l s = some x := by
  intro l s
  rcases findL_cases l s 0 (by omega) with ⟨h1, h2⟩ | ⟨j, x, h1, h2, h3, h4⟩
  · refine .inl ⟨h1, ?_⟩
    unfold rfnd; rw [List.find?_eq_none]; intro y hy; simpa using h2 y hy
  · refine .inr ⟨j, x, by rw [h1]; omega, h2, ?_⟩
    unfold rfnd
    have hsp : l = l.take j ++ x :: l.drop (j + 1) := by
      have hj := (List.getElem?_eq_some_iff.1 h2).1
      have e1 : l.drop j = x :: l.drop (j + 1) := by rw [List.drop_eq_getElem_cons hj, (List.getElem?_eq_some_iff.1 h2).2]
      rw [← e1, List.take_append_drop]
    rw [hsp, List.find?_append]
    have hn : (l.take j).find? (fun x => x.name.data.toList == s) = none := by
      rw [List.find?_eq_none]; intro y hy; simpa using h4 y hy
    rw [hn, List.find?_cons]
    have : (x.name.data.toList == s) = true := by simpa using h3
    rw [this]; rfl
def putNames (start : List Tx) (want : List Rw) : List Tx := want.foldl (fun o r => putL o r.name.data.toList) start
def refWant (want : List Rw) (s : Tx) : Option It := (rfnd want s).map (fun r => itemOf r 0)
def refIs (l : List Ev) (at_ : Int) (s : Tx) : It := (refAt l ⟨s.toArray⟩ at_).x
def refGo (want : List Rw) (at_ : Int) (src : ByteArray) (num : Int) : Bool := allR want && nameB src && decide (0 ≤ at_) && decide (at_ ≤ 1099511627776) && decide (1 ≤ num)
def refFull (l : List Ev) (at_ : Int) (src : ByteArray) (num : Int) (want : List Rw) : List Ev := diffL (refWant want) (refIs l at_) src num at_ (putNames (refNames l at_ l.length) want)
def refOut (l : List Ev) (at_ : Int) (src : ByteArray) (num : Int) (want : List Rw) : List Ev := if refGo want at_ src num then diffCut num (refFull l at_ src num want) else []
theorem putNames_snoc (start : List Tx) (want : List Rw) (r : Rw) : putNames start (want ++ [r]) = putL (putNames start want) r.name.data.toList := by unfold putNames; rw [List.foldl_append]; rfl
theorem putNames_take {start : List Tx} {want : List Rw} {k : Nat} {r : Rw} (h : want[k]? = some r) : putNames start (want.take (k + 1)) = putL (putNames start (want.take k)) r.name.data.toList := by
  rw [List.take_add_one, h]; exact putNames_snoc _ _ _
theorem putNames_length (start : List Tx) (want : List Rw) : ∀ k, (putNames start (want.take k)).length ≤ start.length + k
  | 0 => by simp [putNames]
  | k + 1 => by
    have ih := putNames_length start want k
    cases h : want[k]? with
    | none =>
      have : want.take (k + 1) = want.take k := by rw [List.take_add_one, h]; simp
      rw [this]; omega
    | some r => rw [putNames_take h]; have := putL_length (putNames start (want.take k)) r.name.data.toList; omega
theorem putL_mem {l : List Tx} {s x : Tx} (h : x ∈ putL l s) : x = s ∨ x ∈ l := by
  unfold putL at h
  split at h
  · exact .inr h
  · rcases List.mem_append.1 h with h | h
    · exact .inr (List.mem_of_mem_take h)
    · rcases List.mem_cons.1 h with h | h
      · exact .inl h
      · exact .inr (List.mem_of_mem_drop h)
theorem putNames_mem (start : List Tx) : ∀ (want : List Rw) (x : Tx), x ∈ putNames start want → x ∈ start ∨ ∃ r ∈ want, r.name.data.toList = x := by
  intro want
  unfold putNames
  induction want generalizing start with
  | nil => intro x hx; exact .inl hx
  | cons r t ih =>
    intro x hx
    rcases ih _ x hx with h | ⟨q, hq, he⟩
    · rcases putL_mem h with h | h
      · exact .inr ⟨r, by simp, h.symm⟩
      · exact .inl h
    · exact .inr ⟨q, by simp [hq], he⟩
theorem refNames_mem (l : List Ev) (at_ : Int) : ∀ (k : Nat) (x : Tx), x ∈ refNames l at_ k → ∃ e ∈ l, e.item.data.toList = x
  | 0, x, hx => by simp [refNames] at hx
  | k + 1, x, hx => by
    cases h : l[k]? with
    | none =>
      have : refNames l at_ (k + 1) = refNames l at_ k := by unfold refNames; rw [List.take_add_one, h]; simp
      rw [this] at hx; exact refNames_mem l at_ k x hx
    | some e =>
      rw [refNames_succ h] at hx
      unfold nameStep at hx
      split at hx
      · rcases putL_mem hx with h2 | h2
        · exact ⟨e, List.mem_of_getElem? h, h2.symm⟩
        · exact refNames_mem l at_ k x h2
      · exact refNames_mem l at_ k x hx
end Go.Proofs.YtgpadcokcdpmnaaDoor.Fd
end
