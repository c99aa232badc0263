/-
  ClockDecodes: the walk.
  No condition: lemmas.
-/
import Derived.Test.YtomnmgmehagjfaaGreatDoorDecode
import Derived.Test.YtomnmgmehagjfaaGreatDoorRefDecode
import Derived.Test.YtomnmgmehagjfaaGreatDoorAlike
import Derived.Test.YtomnmgmehagjfaaGreatDoorRead
import Derived.ChangeSlices
namespace Go.Proofs.YtomnmgmehagjfaaGreatDoor.Ck
open Go Go.RowKit Go.Maps Go.Shelf Go.Lib Go.Proofs.YtomnmgmehagjfaaGreatDoorW.PrintLast
set_option linter.unusedVariables false
set_option linter.unusedSimpArgs false

theorem sumLen_mid (ws : List (List UInt8)) : sumLen ws.tail.dropLast ≤ sumLen ws := by
  have h1 : ∀ t : List (List UInt8), sumLen t.dropLast ≤ sumLen t := fun t => by
    rcases List.eq_nil_or_concat t with rfl | ⟨u, x, rfl⟩
    · simp
    · rw [List.concat_eq_append, List.dropLast_concat, sumLen_app]; omega
  cases ws with
  | nil => simp
  | cons x t => have := h1 t; simp only [List.tail_cons, sumLen]; omega
theorem mid_short {s : ByteArray} (hs : s.size ≤ 3000) : ∀ r L, decL r [] = some L → r = (parts 10 s.data.toList).tail.dropLast → L.length ≤ 1000 := by
  rintro r L h rfl
  obtain ⟨h1, h2⟩ := decL_length h
  have h3 := sumLen_mid (parts 10 s.data.toList)
  have h4 := parts_sum 10 s.data.toList
  have h5 : s.data.toList.length = s.size := by simp
  simp only [List.length_nil] at h1
  omega

theorem decB_short {s : ByteArray} {c : Ck} (hs : s.size ≤ 3000) (h : decB s.data.toList = some c) : c.L.length ≤ 1000 := by
  have hm := mid_short hs
  unfold decB at h
  split at h
  · cases h
  · rename_i f rest hp
    split at h
    · split at h
      · rename_i L hL
        split at h
        · cases h; exact hm _ L hL (by rw [hp]; rfl)
        · cases h
      · cases h
    · cases h

section
variable {A : Option Addr} {n cap : Nat} {s : ByteArray} {w : World}
theorem decode_none (hL : LibOk w) (hs : s.size ≤ 3000) (hcv : ∀ X, Below w.heap.size w X → (convert 22 9 (.slice A n cap)).run Tryz.prog X = .ok (.string s) X) (hd : decB s.data.toList = none) :
    Calls Tryz.prog 5 #[.slice A n cap] w fun e w' => e = .returned (.tuple #[.pointer none, .int .i64 2]) ∧ Below w.heap.size w w' := by
  refine (decode_calls A n cap s w hL (by omega) hcv (mid_short hs)).mono ?_
  rintro e w' ⟨hb, ⟨c, p, b, h1, _⟩ | ⟨_, he⟩⟩
  · rw [hd] at h1; cases h1
  · exact ⟨he, hb⟩
theorem decode_some {c : Ck} (hL : LibOk w) (hs : s.size ≤ 3000) (hcv : ∀ X, Below w.heap.size w X → (convert 22 9 (.slice A n cap)).run Tryz.prog X = .ok (.string s) X) (hd : decB s.data.toList = some c) :
    Calls Tryz.prog 5 #[.slice A n cap] w fun e w' => ∃ p b, e = .returned (.tuple #[.pointer (some ⟨p, 0, none⟩), .int .i64 0]) ∧ Clk w' p b c ∧ Below w.heap.size w w' := by
  refine (decode_calls A n cap s w hL (by omega) hcv (mid_short hs)).mono ?_
  rintro e w' ⟨hb, ⟨c', p, b, h1, he, _, _, hc⟩ | ⟨h1, _⟩⟩
  · rw [hd] at h1; cases h1; exact ⟨p, b, he, hc, hb⟩
  · rw [hd] at h1; cases h1
theorem rdecode_none (hs : s.size ≤ 3000) (hd : decB s.data.toList = none) :
    Calls Tryz.prog 6 #[.string s] w fun e w' => e = .returned (.pointer none) ∧ Below w.heap.size w w' := by
  refine (rdecode_calls s w hs).mono ?_
  rintro e w' ⟨hb, ⟨c, q, h1, _⟩ | ⟨_, he⟩⟩
  · rw [← dec_ref, hd] at h1; cases h1
  · exact ⟨he, hb⟩
theorem rdecode_some {c : Ck} (hs : s.size ≤ 3000) (hd : decB s.data.toList = some c) :
    Calls Tryz.prog 6 #[.string s] w fun e w' => ∃ q, e = .returned (.pointer (some ⟨q, 0, none⟩)) ∧ Rf w' q c ∧ Below w.heap.size w w' := by
  refine (rdecode_calls s w hs).mono ?_
  rintro e w' ⟨hb, ⟨c', q, h1, he, _, hc⟩ | ⟨h1, _⟩⟩
  · rw [← dec_ref, hd] at h1; cases h1; exact ⟨q, he, hc, hb⟩
  · rw [← dec_ref, hd] at h1; cases h1
end

set_option maxHeartbeats 8000000 in
set_option maxRecDepth 100000 in
theorem decodes_calls (A : Option Addr) (n cap : Nat) (s : ByteArray) (w : World) (hLib : LibOk w) (hsn : s.size = n) (hn : n ≤ 9223372036854775807)
    (hcv : ∀ X, Below w.heap.size w X → (convert 22 9 (.slice A n cap)).run Tryz.prog X = .ok (.string s) X) :
    Calls Tryz.prog 3 #[.slice A n cap] w fun e w' => e = .returned (.bool true) ∧ Below w.heap.size w w' := by
  have HLB := Lib.hid hLib
  have HCV := Lib.hid hcv
  clear hLib hcv
  by_cases hbig : (3000 : Int) < n
  · go_enter Tryz.func3, Tryz.ntmps3
    go_wp2_with (first
      | (go_at_call 4; refine (awake_calls _).mono ?_; rintro e w1 ⟨rfl, hb1⟩)
      | fail)
    go_ret
    exact ⟨rfl, hb1⟩
  · have hs : s.size ≤ 3000 := by omega
    have HSS := Lib.hid hs
    have HSN := Lib.hid hsn
    clear hs hsn
    cases hd : decB s.data.toList with
    | none =>
      have HD := Lib.hid hd
      clear hd
      go_enter Tryz.func3, Tryz.ntmps3
      go_wp2_with (first
        | (go_at_call 4; refine (awake_calls _).mono ?_; rintro e w1 ⟨rfl, hb1⟩)
        | (go_at_call 5; refine (decode_none (HLB.out.below hb1) HSS.out (fun X hX => HCV.out X (hb1.trans (hX.mono hb1.size))) HD.out).mono ?_; rintro e w2 ⟨rfl, hb2⟩; have hb02 := hb1.trans (hb2.mono hb1.size); have hcv2 := HCV.out _ hb02)
        | (go_at_call 6; refine (rdecode_none HSS.out HD.out).mono ?_; rintro e w3 ⟨rfl, hb3⟩)
        | fail)
      go_ret
      exact ⟨rfl, hb02.trans (hb3.mono hb02.size)⟩
    | some c =>
      obtain ⟨hse, hown, _⟩ := dec_some hd
      have hok := hown.ok
      have hnl : ∀ e ∈ c.L, e.1.length ≤ 1000 := fun e he => by
        have := ((nameB_iff _).1 (hown.nm e he)).2.1
        have h2 : (⟨e.1.toArray⟩ : ByteArray).size = e.1.length := by simp [ByteArray.size]
        omega
      have hcl : c.L.length ≤ 1000 := decB_short HSS.out hd
      have HD := Lib.hid hd
      have HSE := Lib.hid hse
      have HOK := Lib.hid hok
      have HNL := Lib.hid hnl
      clear hd hse hown hnl hok
      go_enter Tryz.func3, Tryz.ntmps3
      go_wp2_with (first
        | (go_at_call 4; refine (awake_calls _).mono ?_; rintro e w1 ⟨rfl, hb1⟩)
        | (go_at_call 5; refine (decode_some (HLB.out.below hb1) HSS.out (fun X hX => HCV.out X (hb1.trans (hX.mono hb1.size))) HD.out).mono ?_; rintro e w2 ⟨p, b, rfl, hc, hb2⟩; have hb02 := hb1.trans (hb2.mono hb1.size); have hcv2 := HCV.out _ hb02)
        | (go_at_call 6; refine (rdecode_some HSS.out HD.out).mono ?_; rintro e w3 ⟨q, rfl, hr, hb3⟩)
        | fail)
      have hb03 := hb02.trans (hb3.mono hb02.size)
      have hc3 := hc.below hb3
      have HC := Lib.hid hc3
      have HR := Lib.hid hr
      have HB := Lib.hid hb03
      have HLW : Hid (LibOk w3) := HLB.out.below hb03
      have HCVS : Hid (∀ X, Below w3.heap.size w3 X → (convert 22 9 (.slice A n cap)).run Tryz.prog X = .ok (.string s) X) := fun X hX => HCV.out X (hb03.trans (hX.mono hb03.size))
      have hD0 : Below w3.heap.size w3 w3.drew := (Below.refl _ _).drew
      clear hc hc3 hr hb03 hcv2 hb02 hb1 hb2 hb3

      refine start_ (n := 20) (S := fun w' => (convert 22 9 (.slice A n cap)).run Tryz.prog w' = .ok (.string s) w') (ds := []) #[false, false, false, false, false, false, false, false, false, false, false, false, false, false, false, false, false, false, false, false] (by kernel_rfl) rfl rfl ((HCVS.out _ hD0)) (fun hHeld => ?_)
      refine pure_ (i := 0) (N := some 27) (v := ?_) (a' := ?_) #[true, false, false, false, false, false, false, false, false, false, false, false, false, false, false, false, false, false, false, false] rfl rfl (by kernel_rfl) (fun _ _ _ h => h) (Or.inl ⟨by rfl, ?_⟩) ?_ ?_
      rotate_left
      · intro w'
        go_simp
        with_reducible rfl
      rotate_left
      · simp only [Act.put, List.setIfInBounds_toArray, List.set_cons_zero, List.set_cons_succ, i64_w, i32_w]
        rfl
      refine pure_ (i := 1) (N := some 28) (v := ?_) (a' := ?_) #[true, true, false, false, false, false, false, false, false, false, false, false, false, false, false, false, false, false, false, false] rfl rfl (by kernel_rfl) (fun _ _ _ h => h) (Or.inl ⟨by rfl, ?_⟩) ?_ ?_
      rotate_left
      · intro w'
        go_simp
        with_reducible rfl
      rotate_left
      · simp only [Act.put, List.setIfInBounds_toArray, List.set_cons_zero, List.set_cons_succ, i64_w, i32_w]
        rfl
      refine pure_ (i := 2) (N := some 29) (v := ?_) (a' := ?_) #[true, true, true, false, false, false, false, false, false, false, false, false, false, false, false, false, false, false, false, false] rfl rfl (by kernel_rfl) (fun _ _ _ h => h) (Or.inl ⟨by rfl, ?_⟩) ?_ ?_
      rotate_left
      · intro w'
        go_simp
        with_reducible rfl
      rotate_left
      · simp only [Act.put, List.setIfInBounds_toArray, List.set_cons_zero, List.set_cons_succ, i64_w, i32_w]
        rfl
      refine pure_ (i := 3) (N := some 30) (v := ?_) (a' := ?_) #[true, true, true, true, false, false, false, false, false, false, false, false, false, false, false, false, false, false, false, false] rfl rfl (by kernel_rfl) (fun _ _ _ h => h) (Or.inl ⟨by rfl, ?_⟩) ?_ ?_
      rotate_left
      · intro w'
        go_simp
        with_reducible rfl
      rotate_left
      · simp only [Act.put, List.setIfInBounds_toArray, List.set_cons_zero, List.set_cons_succ, i64_w, i32_w]
        rfl
      refine pure_ (i := 4) (N := some 31) (v := ?_) (a' := ?_) #[true, true, true, true, true, false, false, false, false, false, false, false, false, false, false, false, false, false, false, false] rfl rfl (by kernel_rfl) (fun _ _ _ h => h) (Or.inl ⟨by rfl, ?_⟩) ?_ ?_
      rotate_left
      · intro w'
        go_simp
        with_reducible rfl
      rotate_left
      · simp only [Act.put, List.setIfInBounds_toArray, List.set_cons_zero, List.set_cons_succ, i64_w, i32_w]
        rfl
      refine pure_ (i := 5) (N := some 32) (v := ?_) (a' := ?_) #[true, true, true, true, true, true, false, false, false, false, false, false, false, false, false, false, false, false, false, false] rfl rfl (by kernel_rfl) (fun _ _ _ h => h) (Or.inl ⟨by rfl, ?_⟩) ?_ ?_
      rotate_left
      · intro w'
        go_simp
        with_reducible rfl
      rotate_left
      · simp only [Act.put, List.setIfInBounds_toArray, List.set_cons_zero, List.set_cons_succ, i64_w, i32_w]
        rfl
      refine pure_ (i := 6) (N := some 33) (v := ?_) (a' := ?_) #[true, true, true, true, true, true, true, false, false, false, false, false, false, false, false, false, false, false, false, false] rfl rfl (by kernel_rfl) (fun _ _ _ h => h) (Or.inl ⟨by rfl, ?_⟩) ?_ ?_
      rotate_left
      · intro w'
        go_simp
        with_reducible rfl
      rotate_left
      · simp only [Act.put, List.setIfInBounds_toArray, List.set_cons_zero, List.set_cons_succ, i64_w, i32_w]
        rfl
      refine pure_ (i := 7) (N := some 34) (v := ?_) (a' := ?_) #[true, true, true, true, true, true, true, true, false, false, false, false, false, false, false, false, false, false, false, false] rfl rfl (by kernel_rfl) (fun _ _ _ h => h) (Or.inl ⟨by rfl, ?_⟩) ?_ ?_
      rotate_left
      · intro w'
        go_simp
        with_reducible rfl
      rotate_left
      · simp only [Act.put, List.setIfInBounds_toArray, List.set_cons_zero, List.set_cons_succ, i64_w, i32_w]
        rfl
      refine pure_ (i := 8) (N := some 35) (v := ?_) (a' := ?_) #[true, true, true, true, true, true, true, true, true, false, false, false, false, false, false, false, false, false, false, false] rfl rfl (by kernel_rfl) (fun _ _ _ h => h) (Or.inl ⟨by rfl, ?_⟩) ?_ ?_
      rotate_left
      · intro w'
        go_simp
        with_reducible rfl
      rotate_left
      · simp only [Act.put, List.setIfInBounds_toArray, List.set_cons_zero, List.set_cons_succ, i64_w, i32_w]
        rfl
      refine one_ (i := 9) (N := some 36) #[true, true, true, true, true, true, true, true, true, true, false, false, false, false, false, false, false, false, false, false] rfl rfl (by kernel_rfl) (by decide) (fun K hK => ?_)
      refine goes_ Tryz.func7 (by kernel_rfl) rfl #[.pointer (some ⟨p, 0, none⟩), .pointer (some ⟨q, 0, none⟩)] (by rfl) rfl rfl (by simp only [List.map_toArray, List.map_cons, List.map_nil]; rfl) ?_
      with_reducible refine (alike_calls p b q c _ (HC.out.below (by exact hD0)) (by exact HR.out.drew) HOK.out hcl (HLW.out.tab.below (by exact hD0))).mono ?_
      rintro e y0 ⟨rfl, hb0⟩
      refine ⟨_, rfl, ?_⟩
      have hB0 : Below w3.heap.size w3 y0 := hD0.trans (hb0.mono (by simp))
      refine hK.out _ _ ((HCVS.out _ hB0)) (fun hHeld => ?_)
      clear hK K
      refine norm_ (a' := ?_) ?_ ?_
      rotate_left
      · show Act.put _ (some 36) _ = _
        simp only [Act.put, List.setIfInBounds_toArray, List.set_cons_zero, List.set_cons_succ, i64_w, i32_w]
        rfl
      refine pure_ (i := 10) (N := some 37) (v := ?_) (a' := ?_) #[true, true, true, true, true, true, true, true, true, true, true, false, false, false, false, false, false, false, false, false] rfl rfl (by kernel_rfl) (fun _ _ _ h => h) (Or.inl ⟨by rfl, ?_⟩) ?_ ?_
      rotate_left
      · intro w'
        go_simp
        with_reducible rfl
      rotate_left
      · simp only [Act.put, List.setIfInBounds_toArray, List.set_cons_zero, List.set_cons_succ, i64_w, i32_w]
        rfl
      refine pure_ (i := 11) (N := some 38) (v := ?_) (a' := ?_) #[true, true, true, true, true, true, true, true, true, true, true, true, false, false, false, false, false, false, false, false] rfl rfl (by kernel_rfl) (fun _ _ _ h => h) (Or.inl ⟨by rfl, ?_⟩) ?_ ?_
      rotate_left
      · intro w'
        go_simp
        with_reducible rfl
      rotate_left
      · simp only [Act.put, List.setIfInBounds_toArray, List.set_cons_zero, List.set_cons_succ, i64_w, i32_w]
        rfl
      refine pure_ (i := 12) (N := some 39) (v := ?_) (a' := ?_) #[true, true, true, true, true, true, true, true, true, true, true, true, true, false, false, false, false, false, false, false] rfl rfl (by kernel_rfl) (fun _ _ _ h => h) (Or.inl ⟨by rfl, ?_⟩) ?_ ?_
      rotate_left
      · intro w'
        go_simp
        with_reducible rfl
      rotate_left
      · simp only [Act.put, List.setIfInBounds_toArray, List.set_cons_zero, List.set_cons_succ, i64_w, i32_w]
        rfl
      refine pure_ (i := 15) (N := some 42) (v := ?_) (a' := ?_) #[true, true, true, true, true, true, true, true, true, true, true, true, true, false, false, true, false, false, false, false] rfl rfl (by kernel_rfl) (fun _ _ _ h => h) (Or.inl ⟨by rfl, ?_⟩) ?_ ?_
      rotate_left
      · intro w'
        go_simp
        with_reducible rfl
      rotate_left
      · simp only [Act.put, List.setIfInBounds_toArray, List.set_cons_zero, List.set_cons_succ, i64_w, i32_w]
        rfl
      refine take_ (i := 16) (N := some 43) (v := ?_) (a' := ?_) #[true, true, true, true, true, true, true, true, true, true, true, true, true, false, false, true, true, false, false, false] rfl rfl (by kernel_rfl) (fun _ _ _ h => h) (Or.inl ⟨by rfl, ?_⟩) hHeld ?_ ?_
      rotate_left
      · intro w' s0
        go_simp
        with_reducible rfl
      rotate_left
      · simp only [Act.put, List.setIfInBounds_toArray, List.set_cons_zero, List.set_cons_succ, i64_w, i32_w]
        rfl
      refine one_ (i := 13) (N := some 40) #[true, true, true, true, true, true, true, true, true, true, true, true, true, true, false, true, true, false, false, false] rfl rfl (by kernel_rfl) (by decide) (fun K hK => ?_)
      refine goes_ Tryz.func8 (by kernel_rfl) rfl #[.pointer (some ⟨p, 0, none⟩)] (by rfl) rfl rfl (by simp only [List.map_toArray, List.map_cons, List.map_nil]; rfl) ?_
      with_reducible refine (encode_calls p b c _ (HC.out.below hB0) HOK.out hcl HNL.out (HLW.out.tab.below hB0)).mono ?_
      rintro e y1 ⟨ge, ne, ce, rfl, hby, hb1⟩
      refine ⟨_, rfl, ?_⟩
      have hB1 : Below w3.heap.size w3 y1 := hB0.trans (hb1.mono hB0.size)
      refine hK.out _ _ ((HCVS.out _ hB1)) (fun hHeld => ?_)
      clear hK K
      refine norm_ (a' := ?_) ?_ ?_
      rotate_left
      · show Act.put _ (some 40) _ = _
        simp only [Act.put, List.setIfInBounds_toArray, List.set_cons_zero, List.set_cons_succ, i64_w, i32_w]
        rfl
      refine one_ (i := 14) (N := some 41) #[true, true, true, true, true, true, true, true, true, true, true, true, true, true, true, true, true, false, false, false] rfl rfl (by kernel_rfl) (by decide) (fun K hK => ?_)
      have hcve := hby.str (cap := ce)
      refine value_ (w1 := ?_) (v := ?_) (by rfl) rfl ?_ ?_
      rotate_left 2
      · go_simp
        constructor
        · rfl
        · rfl
      refine hK.out _ _ ((HCVS.out _ hB1)) (fun hHeld => ?_)
      clear hK K
      refine norm_ (a' := ?_) ?_ ?_
      rotate_left
      · show Act.put _ (some 41) _ = _
        simp only [Act.put, List.setIfInBounds_toArray, List.set_cons_zero, List.set_cons_succ, i64_w, i32_w]
        rfl
      refine pure_ (i := 17) (N := some 44) (v := ?_) (a' := ?_) #[true, true, true, true, true, true, true, true, true, true, true, true, true, true, true, true, true, true, false, false] rfl rfl (by kernel_rfl) (fun _ _ _ h => h) (Or.inl ⟨by rfl, ?_⟩) ?_ ?_
      rotate_left
      · intro w'
        go_simp
        with_reducible rfl
      rotate_left
      · simp only [Act.put, List.setIfInBounds_toArray, List.set_cons_zero, List.set_cons_succ, i64_w, i32_w]
        rfl
      refine pure_ (i := 18) (N := some 45) (v := ?_) (a' := ?_) #[true, true, true, true, true, true, true, true, true, true, true, true, true, true, true, true, true, true, true, false] rfl rfl (by kernel_rfl) (fun _ _ _ h => h) (Or.inl ⟨by rfl, ?_⟩) ?_ ?_
      rotate_left
      · intro w'
        go_simp
        with_reducible rfl
      rotate_left
      · simp only [Act.put, List.setIfInBounds_toArray, List.set_cons_zero, List.set_cons_succ, i64_w, i32_w]
        rfl
      refine pure_ (i := 19) (N := some 2) (v := ?_) (a' := ?_) #[true, true, true, true, true, true, true, true, true, true, true, true, true, true, true, true, true, true, true, true] rfl rfl (by kernel_rfl) (fun _ _ _ h => h) (Or.inl ⟨by rfl, ?_⟩) ?_ ?_
      rotate_left
      · intro w'
        go_simp
        with_reducible rfl
      rotate_left
      · simp only [Act.put, List.setIfInBounds_toArray, List.set_cons_zero, List.set_cons_succ, i64_w, i32_w]
        rfl
      refine done_ (by kernel_rfl) ?_
      clear hHeld hcve hby
      have hq : (encB c == s.toList) = true := by rw [toList_data, HSE.out]; simp
      rw [hq]
      clear hq
      go_wp2_with fail
      go_ret
      exact ⟨rfl, HB.out.trans (hB1.mono HB.out.size)⟩

end Go.Proofs.YtomnmgmehagjfaaGreatDoor.Ck
