import Derived.Test.YtgpadcokcdpmnaaDoorMd5
set_option linter.unusedVariables false
set_option linter.unusedSimpArgs false
section
namespace Go.Proofs.YtgpadcokcdpmnaaDoor.Fd
open Go Go.RowKit Go.Maps Go.Sort Go.Shelf Go.Lib Go.Proofs.YtgpadcokcdpmnaaDoorW.PrintLast
set_option linter.unusedVariables false
set_option linter.unusedSimpArgs false
theorem namesG_length (L : List Ev) (M : List GE) (at_ : Int) : (namesG L M at_).length ≤ M.length := by
  unfold namesG; exact Nat.le_trans (List.length_filter_le _ _) (by simp)
theorem encs_one (ss : List Tx) : ∀ u ∈ ss.map encStr, u.oneCell' = true := by
  intro u hu
  obtain ⟨x, _, rfl⟩ := List.mem_map.1 hu
  rfl
theorem str_info : (Tryd.prog.info? 9).map (fun i => (i.zero, i.size, i.bytes)) = some (some (.string ByteArray.empty), 1, 16) := by kernel_rfl
set_option maxHeartbeats 8000000 in
set_option maxRecDepth 100000 in
theorem diff_go (B p b : Nat) (L : List Ev) (M : List GE) (A : Option Addr) (n cap : Nat) (l : List It) (at_ num : Int) (src : ByteArray) (w : World) (h : DiffIn B p b L M A n l w) (hgo : diffGo l at_ src num = true) :
    Calls Tryd.prog 11 #[.pointer (some ⟨p, 0, none⟩), .int .i64 at_, .string src, .int .i64 num, .slice A n cap] w fun r w' => DiffPost w (diffOut l L M at_ src num) r w' := by
  have HOUT : Hid (diffOut l L M at_ src num = diffCut num (diffFull l L M at_ src num)) := by unfold Hid diffOut; rw [hgo]; rfl
  have hn1 := h.n1
  have hm1 := h.m1
  have hrows := fun W (hW : Below w.heap.size w W) => rows_calls A n cap l W (h.its.below hW) h.len (by omega) (fun x hx => ⟨by have := (h.sz x hx).1; unfold maxLen; omega, (h.sz x hx).2.1⟩)
  have HR := Lib.hid hrows
  have HD := Lib.hid h
  have hb3 : Below w.heap.size w (((w.alloc (.cells #[.int .i64 at_] 3)).alloc (.cells #[.string src] 9)).alloc (.cells #[.int .i64 num] 3)) := (((Below.refl _ _).alloc (Nat.le_refl _) _).alloc (by simp) _).alloc (by simp; omega) _
  obtain ⟨W3, hW3⟩ : ∃ W3, W3 = ((w.alloc (.cells #[.int .i64 at_] 3)).alloc (.cells #[.string src] 9)).alloc (.cells #[.int .i64 num] 3) := ⟨_, rfl⟩
  have c0 : W3.heap[w.heap.size]? = some (.cells #[.int .i64 at_] 3 (0, 0)) := by rw [hW3]; exact boxes_at0 w _ _ _
  have c1 : W3.heap[w.heap.size + 1]? = some (.cells #[.string src] 9 (0, 0)) := by rw [hW3]; exact boxes_at1 w _ _ _
  have c2 : W3.heap[w.heap.size + 1 + 1]? = some (.cells #[.int .i64 num] 3 (0, 0)) := by rw [hW3]; exact boxes_at2 w _ _ _
  have HC0 := Lib.hid c0
  have HC1 := Lib.hid c1
  have HC2 := Lib.hid c2
  rw [← hW3] at hb3
  have hz3 : w.heap.size + 3 ≤ W3.heap.size := by rw [hW3]; simp
  have HB3 := Lib.hid hb3
  have HC : Hid (∀ Y, Below W3.heap.size W3 Y → Y.cell? ⟨w.heap.size, 0, none⟩ = some (.int .i64 at_) ∧ Y.cell? ⟨w.heap.size + 1, 0, none⟩ = some (.string src) ∧ Y.cell? ⟨w.heap.size + 1 + 1, 0, none⟩ = some (.int .i64 num)) := fun Y hY =>
    ⟨one_cell ((hY.block _ (Array.getElem?_eq_some_iff.1 c0).1).trans c0), one_cell ((hY.block _ (Array.getElem?_eq_some_iff.1 c1).1).trans c1), one_cell ((hY.block _ (Array.getElem?_eq_some_iff.1 c2).1).trans c2)⟩
  clear c0 c1 c2 hb3 hrows h
  unfold diffGo at hgo
  simp only [Bool.and_eq_true, decide_eq_true_eq] at hgo
  obtain ⟨⟨⟨⟨hro, hnm⟩, ha0⟩, ha1⟩, hnum⟩ := hgo
  have q1 : decide (at_ < 0) = false := decide_eq_false (by omega)
  have q2 : decide (1099511627776 < at_) = false := decide_eq_false (by omega)
  have q3 : decide (num < 1) = false := decide_eq_false (by omega)
  have HRO := Lib.hid hro
  have HNM := Lib.hid hnm
  clear hro hnm
  go_enter Tryd.func11, Tryd.ntmps11
  go_wp2_with fail
  rw [← hW3]
  clear hW3
  refine (HR.out _ HB3.out).mono ?_
  rintro r y ⟨mb0, rfl, hmb, hy⟩
  obtain ⟨mb, rfl, hmb0, hgm⟩ := hmb HRO.out
  rw [HRO.out]
  obtain ⟨x0, x1, x2⟩ := HC.out y hy
  have HY := Lib.hid hy
  have HGM := Lib.hid hgm
  clear hy hmb hgm
  go_wp2_with (first
    | (go_at_call 21; (with_reducible refine (name_calls src _).mono ?_); rintro r y2 ⟨rfl, hy2⟩; have HY2 := Lib.hid (HY.out.trans (hy2.mono HY.out.size)); have HGM2 := Lib.hid (HGM.out.below hy2); clear hy2 x0 x1 x2; obtain ⟨x0, x1, x2⟩ := HC.out y2 HY2.out; rw [HNM.out])
    | fail)
  clear x0 x1 x2
  have hmby : mb < y2.heap.size := HGM2.out.lt
  have hs2 := HY2.out.size
  obtain ⟨W6, hW6⟩ : ∃ W6, W6 = y2.alloc (.cells #[.slice none 0 0] 22) := ⟨_, rfl⟩
  have hqo : W6.heap[y2.heap.size]? = some (.cells #[.slice none 0 0] 22 (0, 0)) := by rw [hW6]; exact heap_alloc_new y2 _
  have hb36 : Below W3.heap.size W3 W6 := by rw [hW6]; exact HY2.out.alloc HY2.out.size _
  have hgm6 : GM W6 mb (rowsM l) := by rw [hW6]; exact HGM2.out.below ((Below.refl _ _).alloc (Nat.le_refl _) _)
  have hz6 : y2.heap.size + 1 = W6.heap.size := by rw [hW6]; simp
  rw [← hW6]
  clear hW6
  obtain ⟨qo, hqoe⟩ : ∃ q, q = y2.heap.size := ⟨_, rfl⟩
  rw [← hqoe] at hqo hz6 hmby hs2 ⊢
  have HQO := Lib.hid hqo
  have HB36 := Lib.hid hb36
  have HGM6 := Lib.hid hgm6
  have HW6 := Lib.hid (HB3.out.trans (hb36.mono HB3.out.size))
  have HC6 : Hid (∀ Y, Below W6.heap.size W6 Y → Y.cell? ⟨w.heap.size, 0, none⟩ = some (.int .i64 at_)) := fun Y hY => (HC.out Y (HB36.out.trans (hY.mono HB36.out.size))).1
  have hrml : (rowsM l).length ≤ 1000 := Nat.le_trans (rowsM_length l) (by rw [HD.out.len]; exact hn1)
  have HCOL := Lib.hid ((callsIn_wide (n := 5)).1 (collect_keys mb (rowsM l).length (GD (rowsM l)) RV W6.drew (hgm6.of_block rfl) (by rw [GD_size]; unfold maxLen; omega) (by rw [GD_size]; omega)))
  have HNAM : Hid (∀ Y, Below W6.heap.size W6 Y → Calls Tryd.prog 16 #[.pointer (some ⟨p, 0, none⟩), .int .i64 at_] Y fun r w' => ∃ v, r = .returned v ∧ w'.ownsRow Y.heap.size 9 1 v (namesG L M at_).length ((namesG L M at_).map encStr) ∧ Below Y.heap.size Y w') := fun Y hY =>
    names_calls B p b L M at_ Y (HD.out.cat.below (HW6.out.trans (hY.mono HW6.out.size))) (by omega) HD.out.mkey HD.out.lt HD.out.ll
  have hnl := namesG_length L M at_
  obtain ⟨i0, hi, hz0, hz1, hz2⟩ := info_of str_info
  have HI0 := Lib.hid hi
  have HZ0 := Lib.hid hz0
  have HZ1 := Lib.hid hz1
  have HZ2 := Lib.hid hz2
  clear hi hz0 hz1 hz2 hqo hb36 hgm6 hqoe HC HY HY2 HGM HGM2
  have g := HC6.out W6.drew (Below.refl _ _).drew
  go_wp2_with fail
  refine start_ (n := 8) (S := fun w' => w'.cell? ⟨w.heap.size, 0, none⟩ = some (.int .i64 at_)) (ds := []) #[false, false, false, false, false, false, false, false] (by kernel_rfl) rfl rfl (g) (fun hHeld => ?_)
  refine pure_ (i := 0) (N := some 47) (v := ?_) (a' := ?_) #[true, false, false, false, false, false, false, false] rfl rfl (by kernel_rfl) (fun _ _ _ h => h) (Or.inl ⟨by rfl, ?_⟩) ?_ ?_
  rotate_left
  · intro w'
    go_simp
    with_reducible rfl
  rotate_left
  · simp only [Act.put, List.setIfInBounds_toArray, List.set_cons_zero, List.set_cons_succ, i64_w, i32_w]
    rfl
  refine pure_ (i := 3) (N := some 50) (v := ?_) (a' := ?_) #[true, false, false, true, false, false, false, false] rfl rfl (by kernel_rfl) (fun _ _ _ h => h) (Or.inl ⟨by rfl, ?_⟩) ?_ ?_
  rotate_left
  · intro w'
    go_simp
    with_reducible rfl
  rotate_left
  · simp only [Act.put, List.setIfInBounds_toArray, List.set_cons_zero, List.set_cons_succ, i64_w, i32_w]
    rfl
  refine take_ (i := 4) (N := some 51) (v := ?_) (a' := ?_) #[true, false, false, true, true, false, false, false] rfl rfl (by kernel_rfl) (fun _ _ _ h => h) (Or.inl ⟨by rfl, ?_⟩) hHeld ?_ ?_
  rotate_left
  · intro w' s0
    go_simp
    with_reducible rfl
  rotate_left
  · simp only [Act.put, List.setIfInBounds_toArray, List.set_cons_zero, List.set_cons_succ, i64_w, i32_w]
    rfl
  refine one_ (i := 1) (N := some 48) #[true, true, false, true, true, false, false, false] rfl rfl (by kernel_rfl) (by decide) (fun K hK => ?_)
  refine goes_ Tryd.func24 (by kernel_rfl) rfl #[.map (some mb)] (by rfl) rfl rfl (by simp only [List.map_toArray, List.map_cons, List.map_nil]; rfl) ?_
  with_reducible refine ((callsIn_wide (n := 5)).1 (keysI_in_ (some mb) W6.drew)).mono ?_
  rintro e w3 ⟨rfl, rfl⟩
  refine ⟨_, rfl, ?_⟩
  have g0 := HC6.out (W6.drew.alloc (.cells #[.map (some mb)] 51)) ((Below.refl _ _).drew.alloc (Nat.le_refl _) _)
  refine hK.out _ _ (g0) (fun hHeld => ?_)
  clear hK K
  refine norm_ (a' := ?_) ?_ ?_
  rotate_left
  · show Act.put _ (some 48) _ = _
    simp only [Act.put, List.setIfInBounds_toArray, List.set_cons_zero, List.set_cons_succ, i64_w, i32_w]
    rfl
  refine one_ (i := 2) (N := some 49) #[true, true, true, true, true, false, false, false] rfl rfl (by kernel_rfl) (by decide) (fun K hK => ?_)
  refine goes_ Tryd.func23 (by kernel_rfl) rfl #[.func (.func 42) #[] #[.pointer (some ⟨W6.drew.heap.size, 0, none⟩)]] (by rfl) rfl rfl (by simp only [List.map_toArray, List.map_cons, List.map_nil]; rfl) ?_
  with_reducible refine (HCOL.out).mono ?_
  rintro e w4 ⟨v1, ss, rfl, hS, hrow1, hnil1, hb4⟩
  refine ⟨_, rfl, ?_⟩
  obtain ⟨A1, cp1, rfl⟩ := own_slice hrow1
  have hb64 : Below W6.heap.size W6 w4 := ((Below.refl _ _).drew.alloc (Nat.le_refl _) _).trans (hb4.mono (by simp))
  have HROW1 := Lib.hid hrow1
  have HSZ4 : Hid (W6.heap.size + 1 ≤ w4.heap.size) := by have := hb4.size; simp at this; exact this
  have hssl : ss.length ≤ 1000 := by rw [hS.length_eq, strKeys_GD]; simp; omega
  have HB64 := Lib.hid hb64
  have HS := Lib.hid hS
  clear hrow1 hb4 hnil1 hb64 hS
  have g1 := HC6.out w4 HB64.out
  refine hK.out _ _ (g1) (fun hHeld => ?_)
  clear hK K
  refine norm_ (a' := ?_) ?_ ?_
  rotate_left
  · show Act.put _ (some 49) _ = _
    simp only [Act.put, List.setIfInBounds_toArray, List.set_cons_zero, List.set_cons_succ, i64_w, i32_w]
    rfl
  refine one_ (i := 5) (N := some 52) #[true, true, true, true, true, true, false, false] rfl rfl (by kernel_rfl) (by decide) (fun K hK => ?_)
  refine goes_ Tryd.func16 (by kernel_rfl) rfl #[.pointer (some ⟨p, 0, none⟩), .int .i64 at_] (by rfl) rfl rfl (by simp only [List.map_toArray, List.map_cons, List.map_nil]; rfl) ?_
  with_reducible refine (HNAM.out w4 HB64.out).mono ?_
  rintro e w5 ⟨v2, rfl, hrow2, hb5⟩
  refine ⟨_, rfl, ?_⟩
  obtain ⟨A2, cp2, rfl⟩ := own_slice hrow2
  have HROW2 := Lib.hid hrow2
  have HB45 := Lib.hid hb5
  have HB65 := Lib.hid (HB64.out.trans (hb5.mono HB64.out.size))
  clear hrow2 hb5
  have g2 := HC6.out w5 HB65.out
  refine hK.out _ _ (g2) (fun hHeld => ?_)
  clear hK K
  refine norm_ (a' := ?_) ?_ ?_
  rotate_left
  · show Act.put _ (some 52) _ = _
    simp only [Act.put, List.setIfInBounds_toArray, List.set_cons_zero, List.set_cons_succ, i64_w, i32_w]
    rfl
  refine one_ (i := 6) (N := some 53) #[true, true, true, true, true, true, true, false] rfl rfl (by kernel_rfl) (by decide) (fun K hK => ?_)
  refine Ck.step_append_any w5 rfl (.tmp 49) (.tmp 52) 39 rfl (W6.heap.size + 1) 9 i0 _ 1 16 Tryd.underlying39 HI0.out HZ0.out HZ1.out HZ2.out rfl (by decide) (.slice A1 ss.length cp1) ss.length (ss.map encStr) rfl (ownsRow_base_a (ownsRow_below HROW1.out HB45.out) (by simp)) w5.heap.size A2 (namesG L M at_).length cp2 ((namesG L M at_).map encStr) rfl (Ck.Reads.of_own HROW2.out) (encs_one _) (by unfold maxLen; omega) (by omega) (by have := HB65.out.size; have := HB45.out.size; have := HSZ4.out; omega) ?_
  intro v6 w6 hown6 hg6 hat6
  obtain ⟨A6, cp6, rfl⟩ := own_slice hown6
  have HB66 := Lib.hid (HB65.out.grown hg6 HB65.out.size (fun k hk => by have := (HROW1.out.lt k hk).1; simp at this; omega))
  have HROW6 := Lib.hid hown6
  have g3 := HC6.out w6 HB66.out
  clear hown6 hg6 hat6
  refine hK.out _ _ (g3) (fun hHeld => ?_)
  clear hK K
  refine norm_ (a' := ?_) ?_ ?_
  rotate_left
  · show Act.put _ (some 53) _ = _
    simp only [Act.put, List.setIfInBounds_toArray, List.set_cons_zero, List.set_cons_succ, i64_w, i32_w]
    rfl
  refine pure_ (i := 7) (N := some 15) (v := ?_) (a' := ?_) #[true, true, true, true, true, true, true, true] rfl rfl (by kernel_rfl) (fun _ _ _ h => h) (Or.inl ⟨by rfl, ?_⟩) ?_ ?_
  rotate_left
  · intro w'
    go_simp
    with_reducible rfl
  rotate_left
  · simp only [Act.put, List.setIfInBounds_toArray, List.set_cons_zero, List.set_cons_succ, i64_w, i32_w]
    rfl
  refine done_ (by kernel_rfl) ?_
  clear hHeld g g0 g1 g2 g3
  obtain ⟨zs, hzs⟩ : ∃ zs, ss ++ namesG L M at_ = zs := ⟨_, rfl⟩
  have hzl : zs.length = ss.length + (namesG L M at_).length := by rw [← hzs]; simp
  have hrow6 := HROW6.out
  rw [← List.map_append, hzs, ← hzl] at hrow6
  obtain ⟨ks, hks⟩ : ∃ ks, normL zs = ks := ⟨_, rfl⟩
  have HKS : Hid (diffNames l L M at_ = ks) := by
    unfold Hid diffNames
    rw [← hks, ← hzs, norm_perm HS.out, strKeys_GD]
  have hkl : ks.length ≤ 2000 := by rw [← hks]; exact Nat.le_trans (normL_length zs) (by omega)
  have hkz : ∀ s ∈ ks, s.length ≤ 1000000 := by
    intro s hs
    rw [← hks] at hs
    have h1 := ((normL_rise zs).2 s).1 hs
    rw [← hzs] at h1
    rcases List.mem_append.1 h1 with h1 | h1
    · have h2 := HS.out.mem_iff.1 h1
      rw [strKeys_GD] at h2
      obtain ⟨e, he, rfl⟩ := List.mem_map.1 h2
      obtain ⟨x, hx, hxe⟩ := rowsM_mem he
      rw [← hxe]
      have := (HD.out.sz x hx).1
      rw [ba_size] at this; exact this
    · unfold namesG at h1
      obtain ⟨e, he, rfl⟩ := List.mem_map.1 (List.mem_filter.1 h1).1
      exact HD.out.mkey e he
  have HSORT := Lib.hid (sort_any (W6.heap.size + 1) A6 zs.length cp6 zs w6 hrow6 rfl (by omega))
  have HCMP : Hid (∀ W, W.ownsRow (W6.heap.size + 1) 9 1 (.slice A6 zs.length cp6) zs.length ((zs.mergeSort fun x y => decide (x ≤ y)).map encStr) → Calls Tryd.prog 26 #[.slice A6 zs.length cp6] W fun e w' => e = .returned (.slice A6 ks.length cp6) ∧ NamesAt (W6.heap.size + 1) w' A6 ks ∧ W.grownBy w' (Value.slice A6 zs.length cp6).ownBlock) := fun W hW => by
    rw [← hks]; exact compact_any (W6.heap.size + 1) A6 zs.length cp6 (zs.mergeSort fun x y => decide (x ≤ y)) W hW (by simp) (by omega)
  have HOWNB : Hid (∀ k, (Value.slice A6 zs.length cp6).ownBlock = some k → W6.heap.size + 1 ≤ k) := fun k hk => (hrow6.lt k hk).1
  rw [← hzl]
  have HZL := Lib.hid hzl
  have HKZ := Lib.hid hkz
  clear hzs hzl hrow6 hks hkz
  go_wp2_with (first
    | (go_at_call 25; (with_reducible refine HSORT.out.mono ?_); rintro e w7 ⟨rfl, hrow7, hg7⟩; have HROW7 := Lib.hid hrow7; have HB67 := Lib.hid (HB66.out.grown hg7 HB66.out.size (fun k hk => by have := HOWNB.out k hk; omega)); clear hrow7 hg7)
    | (go_at_call 26; (with_reducible refine (HCMP.out _ HROW7.out).mono ?_); rintro e w8 ⟨rfl, hnames, hg8⟩; have HNA := Lib.hid hnames; have HB68 := Lib.hid (HB67.out.grown hg8 HB67.out.size (fun k hk => by have := HOWNB.out k hk; omega)); clear hnames hg8)
    | fail)
  have HB38 := Lib.hid (HB36.out.trans (HB68.out.mono HB36.out.size))
  have HW8 := Lib.hid (HW6.out.trans (HB68.out.mono HW6.out.size))
  have hs68 := HB68.out.size
  have hs36 := HB36.out.size
  have HT8 : Hid (Tl w8.heap.size w8 (w.heap.size + 1) (w.heap.size + 1 + 1) qo w.heap.size src num at_ []) :=
    ⟨(HB38.out.block _ (by omega)).trans HC1.out, (HB38.out.block _ (by omega)).trans HC2.out, (HB38.out.block _ (by omega)).trans HC0.out, ⟨_, (HB68.out.block _ (by omega)).trans HQO.out, World.ownsRow_nil _ _ _ _⟩, by omega, by omega, by omega, by omega, Nat.le_refl _⟩
  obtain ⟨F, hF⟩ : ∃ F, diffL (findIt l) (isOf L at_) src num at_ = F := ⟨_, rfl⟩
  have HF := Lib.hid hF
  have HF0 : Hid (F [] = []) := by rw [← hF]; rfl
  have HFS : Hid (∀ names s, F (names ++ [s]) = tellAll src num at_ (F names) (toldE (findIt l s) (isOf L at_ s) ⟨s.toArray⟩)) := by rw [← hF]; exact fun names s => diffL_snoc _ _ _ _ _ _ _
  have HFL : Hid (∀ names, (F names).length ≤ 2 * names.length) := by rw [← hF]; exact fun names => diffL_length _ _ _ _ _ _
  have HQL : Hid (w.heap.size + 3 ≤ W3.heap.size ∧ W3.heap.size ≤ qo ∧ qo + 1 = W6.heap.size ∧ mb < qo ∧ w.heap.size ≤ mb) := ⟨hz3, hs2, hz6, hmby, by have := HB3.out.size; omega⟩
  clear hF hs68 hs36 hz3 hs2 hz6 hmby
  go_loopw [59] (fun v59 wr => DL w8 w8.heap.size (w.heap.size + 1) (w.heap.size + 1 + 1) qo w.heap.size src num at_ F ks v59 wr) (fun i _ => ks.length - (intOf i).toNat)
  case atStart => exact ⟨0, Nat.zero_le _, rfl, by rw [List.take_zero, HF0.out]; exact HT8.out, Fr.refl _ _⟩
  case round =>
    obtain ⟨k, hk, rfl, htl, hfr⟩ := hrel
    obtain ⟨g1, g2, g3, g4, g5⟩ := HQL.out
    have hs68 := HB68.out.size
    have hs8r := hfr.size
    have HWR : Hid (Below w.heap.size w wr) := HW8.out.trans (hfr.below (by omega) (fun j hj => by rcases hj with rfl | hj <;> omega))
    have HFR := Lib.hid hfr
    have HTL := Lib.hid htl
    have hol : (F (ks.take k)).length ≤ 4000 := Nat.le_trans (HFL.out _) (by simp; omega)
    obtain ⟨o, ho⟩ : ∃ o, F (ks.take k) = o := ⟨_, rfl⟩
    rw [ho] at HTL hol
    have HO := Lib.hid ho
    clear hfr htl ho
    by_cases hlt : k < ks.length
    · obtain ⟨s, hs⟩ : ∃ s, ks[k]? = some s := ⟨_, List.getElem?_eq_getElem hlt⟩
      obtain ⟨g, rfl, hgB, hgl, hcell⟩ := HNA.out k s hs
      have hblk : ∀ j, j < w8.heap.size → j ≠ qo → wr.heap[j]? = w8.heap[j]? := fun j hj hne => HFR.out.block j hj (fun hc => hc.elim hne (fun h2 => by omega))
      have hnm : wr.cell? ⟨g, k, none⟩ = some (.string ⟨s.toArray⟩) := by rw [← hcell]; simp only [World.cell?, hblk g hgl (by omega)]
      have hgmr : GM wr mb (rowsM l) := HGM6.out.of_block ((hblk mb (by omega) (by omega)).trans (HB68.out.block mb (by omega)))
      have hsz : s.length ≤ 1000000 := HKZ.out s (List.mem_of_getElem? hs)
      have hlk := hgmr.look_ok (t := 51) Tryd.underlying51 zeroI (s := ⟨s.toArray⟩) (by simp [ByteArray.size, maxLen]; omega)
      have hat := fun W (hW : Below wr.heap.size wr W) => at_calls B p b L M ⟨s.toArray⟩ at_ W (HD.out.cat.below (HWR.out.trans (hW.mono HWR.out.size))) (by simp [ByteArray.size, maxLen]; omega) HD.out.lt HD.out.ll
      simp only [show ((⟨s.toArray⟩ : ByteArray).data.toList) = s from rfl] at hat hlk
      rw [gget_rowsM] at hlk
      have hNX := HFS.out (ks.take k) s
      rw [show ks.take k ++ [s] = ks.take (k + 1) by rw [List.take_add_one, hs]; rfl, HO.out] at hNX
      obtain ⟨xi, hxi⟩ : ∃ i, isOf L at_ s = i := ⟨_, rfl⟩
      have hxi' := hxi
      unfold isOf at hxi'
      obtain ⟨ti, hti⟩ : ∃ t, (atL (evsOf L s) ⟨s.toArray⟩ at_).2 = t := ⟨_, rfl⟩
      rw [hxi] at hNX
      simp only [hxi', hti, It.val, It.cells] at hat
      have HAT := Lib.hid hat
      have hTELL := fun (e : Ev) (o : List Ev) (W : World) (hW : Tl w8.heap.size W (w.heap.size + 1) (w.heap.size + 1 + 1) qo w.heap.size src num at_ o) (ho : o.length ≤ 1000000) => tell_calls w8.heap.size (w.heap.size + 1) (w.heap.size + 1 + 1) qo w.heap.size src num at_ o e W hW ho
      simp only [Ev.val, Ev.cells] at hTELL
      have HTELL := Lib.hid hTELL
      have cA := one_cell HTL.out.a
      have hki : (0 : Int) ≤ k := by omega
      have hkl2 : (k : Int) < ks.length := by omega
      have dh : w.heap.size < wr.heap.size := by omega
      have dg : g < wr.heap.size := by omega
      have dq : qo < wr.heap.size := by omega
      have dh1 : w.heap.size + 1 < wr.heap.size := by omega
      have dh2 : w.heap.size + 1 + 1 < wr.heap.size := by omega
      clear hxi hxi' hti hat hTELL hs hgB hgl hcell hblk hgmr hsz g1 g2 g3 g4 g5 hs68
      have HNX := Lib.hid hNX
      have hs8 : w8.heap.size ≤ wr.heap.size := hs8r
      clear hNX hs8r
      cases hw : findIt l s with
      | none =>
        rw [hw] at HNX hlk
        simp only [Option.map_none, Option.getD_none, Option.isSome_none] at hlk
        have HNEXT : Hid (F (ks.take (k + 1)) = o ++ [tellE src num at_ o (Ev.raw 13 ⟨s.toArray⟩ 0 ⟨#[]⟩)]) := HNX.out
        have hcz : It.z.val = .agg #[.string ⟨#[]⟩, .string ⟨#[]⟩, .string ⟨#[]⟩, .int .i64 0, .int .i64 0, .int .i64 0, .bool false] := rfl
        rw [hcz] at hlk
        have HT13 := Lib.hid (HTELL.out (Ev.raw 13 ⟨s.toArray⟩ 0 ⟨#[]⟩) o)
        unfold Ev.raw at HT13
        clear hcz HNX hw
        go_wp2_with (first
          | (go_at_call 17; (with_reducible refine (HAT.out _ ((Below.refl _ _).alloc (Nat.le_refl _) _)).mono ?_); rintro r y ⟨rfl, hy⟩; have HY := Lib.hid (((Below.refl wr.heap.size wr).alloc (Nat.le_refl _) _).trans (hy.mono (by simp))); clear hy)
          | (go_at_call 22; (with_reducible refine (HT13.out _ (HTL.out.mv (HY.out.alloc HY.out.size _)) (by omega)).mono ?_); rintro r z ⟨rfl, htz, hfz⟩; have HTZ := Lib.hid htz; have HFZ := Lib.hid hfz; clear htz hfz)
          | fail)
        go_roundw
        case rel => exact ⟨k + 1, by omega, by first | rfl | simp, by rw [HNEXT.out]; exact HTZ.out, (HFR.out.trans (Fr.of_below (HY.out.alloc HY.out.size _))).trans (HFZ.out.mono (fun j _ hj => hj.elim .inl (fun h2 => .inr h2.1)))⟩
        case measure => simp [intOf]; omega
      | some x =>
        rw [hw] at HNX hlk
        simp only [Option.map_some, Option.getD_some, Option.isSome_some, It.val, It.cells] at hlk
        have HT11 := Lib.hid (HTELL.out (Ev.raw 11 ⟨s.toArray⟩ x.price (textOf x)) o)
        have HT12 := Lib.hid (fun o => HTELL.out (Ev.raw 12 ⟨s.toArray⟩ x.stock ⟨#[]⟩) o)
        unfold Ev.raw textOf at HT11
        unfold Ev.raw at HT12
        have hxl : x ∈ l := by unfold findIt at hw; exact List.mem_reverse.1 (List.mem_of_find?_eq_some hw)
        obtain ⟨_, hsx1, hsx2⟩ := HD.out.sz x hxl
        have HIX : Hid (ItAt (wr.alloc (.cells x.cells 42)) wr.heap.size x) := ItAt.new wr x
        clear hw hxl
        go_wp2_with (first
          | (go_at_call 17; (with_reducible refine (HAT.out _ ((Below.refl _ _).alloc (Nat.le_refl _) _)).mono ?_); rintro r y ⟨rfl, hy⟩; refine Hid.out ?_)
          | fail)
        refine Lib.hid ?_
        have HY := Lib.hid (((Below.refl wr.heap.size wr).alloc (Nat.le_refl _) _).trans (hy.mono (by simp)))
        have hix := HIX.out.below hy
        have HIXY := Lib.hid hix
        obtain ⟨f0, f1, f2, f3, f4, f5, f6⟩ := hix.facts
        have dy : wr.heap.size < y.heap.size := hix.lt
        have HNEED : Hid (needB xi x = (!xi.listed || (!(xi.maker.toList == x.maker.toList) || (!(xi.tags.toList == x.tags.toList) || !(xi.price == x.price))))) := rfl
        have HTOLD : Hid (toldE (some x) xi ⟨s.toArray⟩ = (if needB xi x then [Ev.raw 11 ⟨s.toArray⟩ x.price (textOf x)] else []) ++ (if (xi.stock == x.stock) = true then [] else [Ev.raw 12 ⟨s.toArray⟩ x.stock ⟨#[]⟩])) := rfl
        rw [HTOLD.out] at HNX
        clear hy hix HTOLD hlk
        cases hl : xi.listed with
        | false =>
          cases hst : (xi.stock == x.stock) with
          | true =>
            have hst2 : (xi.stock != x.stock) = false := by rw [bne, hst]; rfl
            have HND : Hid (needB xi x = true) := by rw [Hid, HNEED.out]; simp [*]
            rw [HND.out, hst] at HNX
            have HNEXT : Hid (F (ks.take (k + 1)) = o ++ [tellE src num at_ o (Ev.raw 11 ⟨s.toArray⟩ x.price (textOf x))]) := HNX.out
            clear HNX
            have HBX : Hid (∀ z, Fr (fun k => k = qo ∨ (w8.heap.size ≤ k ∧ EvBlk (y.alloc (.cells xi.cells 42)) k)) (y.alloc (.cells xi.cells 42)) z → ItAt z wr.heap.size x ∧ ItAt z y.heap.size xi) := by
              intro z hz
              have h1 := HIXY.out.below ((Below.refl _ _).alloc (Nat.le_refl _) (.cells xi.cells 42))
              have h2 := ItAt.new y xi
              refine ⟨(hz.block _ h1.lt (fun hc => hc.elim (fun e => by omega) (fun e => ?_))).trans h1, (hz.block _ h2.lt (fun hc => hc.elim (fun e => by omega) (fun e => ?_))).trans h2⟩
              · obtain ⟨c, hc⟩ := e.2; unfold ItAt at h1; rw [h1] at hc; simp at hc
              · obtain ⟨c, hc⟩ := e.2; unfold ItAt at h2; rw [h2] at hc; simp at hc
            unfold It.cells at HBX
            rw [hl] at HBX
            go_wp2_with (first | (go_at_call 22; (with_reducible refine (HT11.out _ (HTL.out.mv (HY.out.alloc HY.out.size _)) (by omega)).mono ?_); rintro r z ⟨rfl, htz, hfz⟩; have HTZ := Lib.hid htz; have HFZ := Lib.hid hfz; obtain ⟨gx, gi⟩ := HBX.out z hfz; obtain ⟨p0, p1, p2, p3, p4, p5, p6⟩ := gx.facts; obtain ⟨r0, r1, r2, r3, r4, r5, r6⟩ := gi.facts; clear htz hfz gx gi f0 f1 f2 f3 f4 f5 f6) | fail)
            go_roundw
            case rel => exact ⟨k + 1, by omega, by first | rfl | simp, by rw [HNEXT.out]; exact HTZ.out, (HFR.out.trans (Fr.of_below (HY.out.alloc HY.out.size _))).trans (HFZ.out.mono (fun j _ hj => hj.elim .inl (fun h2 => .inr h2.1)))⟩
            case measure => simp [intOf]; omega
          | false =>
            have hst2 : (xi.stock != x.stock) = true := by rw [bne, hst]; rfl
            have HND : Hid (needB xi x = true) := by rw [Hid, HNEED.out]; simp [*]
            rw [HND.out, hst] at HNX
            have HNEXT : Hid (F (ks.take (k + 1)) = (o ++ [tellE src num at_ o (Ev.raw 11 ⟨s.toArray⟩ x.price (textOf x))]) ++ [tellE src num at_ (o ++ [tellE src num at_ o (Ev.raw 11 ⟨s.toArray⟩ x.price (textOf x))]) (Ev.raw 12 ⟨s.toArray⟩ x.stock ⟨#[]⟩)]) := HNX.out
            clear HNX
            have HBX : Hid (∀ z, Fr (fun k => k = qo ∨ (w8.heap.size ≤ k ∧ EvBlk (y.alloc (.cells xi.cells 42)) k)) (y.alloc (.cells xi.cells 42)) z → ItAt z wr.heap.size x ∧ ItAt z y.heap.size xi) := by
              intro z hz
              have h1 := HIXY.out.below ((Below.refl _ _).alloc (Nat.le_refl _) (.cells xi.cells 42))
              have h2 := ItAt.new y xi
              refine ⟨(hz.block _ h1.lt (fun hc => hc.elim (fun e => by omega) (fun e => ?_))).trans h1, (hz.block _ h2.lt (fun hc => hc.elim (fun e => by omega) (fun e => ?_))).trans h2⟩
              · obtain ⟨c, hc⟩ := e.2; unfold ItAt at h1; rw [h1] at hc; simp at hc
              · obtain ⟨c, hc⟩ := e.2; unfold ItAt at h2; rw [h2] at hc; simp at hc
            unfold It.cells at HBX
            rw [hl] at HBX
            go_wp2_with (first | (go_at_call 22; (with_reducible refine (HT11.out _ (HTL.out.mv (HY.out.alloc HY.out.size _)) (by omega)).mono ?_); rintro r z ⟨rfl, htz, hfz⟩; have HTZ := Lib.hid htz; have HFZ := Lib.hid hfz; obtain ⟨gx, gi⟩ := HBX.out z hfz; obtain ⟨p0, p1, p2, p3, p4, p5, p6⟩ := gx.facts; obtain ⟨r0, r1, r2, r3, r4, r5, r6⟩ := gi.facts; clear htz hfz gx gi f0 f1 f2 f3 f4 f5 f6) | (go_at_call 22; (with_reducible refine (HT12.out _ _ HTZ.out (by simp; omega)).mono ?_); rintro r z2 ⟨rfl, htz2, hfz2⟩; have HTZ2 := Lib.hid htz2; have HFZ2 := Lib.hid hfz2; clear htz2 hfz2) | fail)
            go_roundw
            case rel => exact ⟨k + 1, by omega, by first | rfl | simp, by rw [HNEXT.out]; exact HTZ2.out, ((HFR.out.trans (Fr.of_below (HY.out.alloc HY.out.size _))).trans (HFZ.out.mono (fun j _ hj => hj.elim .inl (fun h2 => .inr h2.1)))).trans (HFZ2.out.mono (fun j _ hj => hj.elim .inl (fun h2 => .inr h2.1)))⟩
            case measure => simp [intOf]; omega
        | true =>
          cases hm : (xi.maker.toList == x.maker.toList) with
          | false =>
            cases hst : (xi.stock == x.stock) with
            | true =>
              have hst2 : (xi.stock != x.stock) = false := by rw [bne, hst]; rfl
              have HND : Hid (needB xi x = true) := by rw [Hid, HNEED.out]; simp [*]
              rw [HND.out, hst] at HNX
              have HNEXT : Hid (F (ks.take (k + 1)) = o ++ [tellE src num at_ o (Ev.raw 11 ⟨s.toArray⟩ x.price (textOf x))]) := HNX.out
              clear HNX
              have HBX : Hid (∀ z, Fr (fun k => k = qo ∨ (w8.heap.size ≤ k ∧ EvBlk (y.alloc (.cells xi.cells 42)) k)) (y.alloc (.cells xi.cells 42)) z → ItAt z wr.heap.size x ∧ ItAt z y.heap.size xi) := by
                intro z hz
                have h1 := HIXY.out.below ((Below.refl _ _).alloc (Nat.le_refl _) (.cells xi.cells 42))
                have h2 := ItAt.new y xi
                refine ⟨(hz.block _ h1.lt (fun hc => hc.elim (fun e => by omega) (fun e => ?_))).trans h1, (hz.block _ h2.lt (fun hc => hc.elim (fun e => by omega) (fun e => ?_))).trans h2⟩
                · obtain ⟨c, hc⟩ := e.2; unfold ItAt at h1; rw [h1] at hc; simp at hc
                · obtain ⟨c, hc⟩ := e.2; unfold ItAt at h2; rw [h2] at hc; simp at hc
              unfold It.cells at HBX
              rw [hl] at HBX
              go_wp2_with (first | (go_at_call 22; (with_reducible refine (HT11.out _ (HTL.out.mv (HY.out.alloc HY.out.size _)) (by omega)).mono ?_); rintro r z ⟨rfl, htz, hfz⟩; have HTZ := Lib.hid htz; have HFZ := Lib.hid hfz; obtain ⟨gx, gi⟩ := HBX.out z hfz; obtain ⟨p0, p1, p2, p3, p4, p5, p6⟩ := gx.facts; obtain ⟨r0, r1, r2, r3, r4, r5, r6⟩ := gi.facts; clear htz hfz gx gi f0 f1 f2 f3 f4 f5 f6) | fail)
              go_roundw
              case rel => exact ⟨k + 1, by omega, by first | rfl | simp, by rw [HNEXT.out]; exact HTZ.out, (HFR.out.trans (Fr.of_below (HY.out.alloc HY.out.size _))).trans (HFZ.out.mono (fun j _ hj => hj.elim .inl (fun h2 => .inr h2.1)))⟩
              case measure => simp [intOf]; omega
            | false =>
              have hst2 : (xi.stock != x.stock) = true := by rw [bne, hst]; rfl
              have HND : Hid (needB xi x = true) := by rw [Hid, HNEED.out]; simp [*]
              rw [HND.out, hst] at HNX
              have HNEXT : Hid (F (ks.take (k + 1)) = (o ++ [tellE src num at_ o (Ev.raw 11 ⟨s.toArray⟩ x.price (textOf x))]) ++ [tellE src num at_ (o ++ [tellE src num at_ o (Ev.raw 11 ⟨s.toArray⟩ x.price (textOf x))]) (Ev.raw 12 ⟨s.toArray⟩ x.stock ⟨#[]⟩)]) := HNX.out
              clear HNX
              have HBX : Hid (∀ z, Fr (fun k => k = qo ∨ (w8.heap.size ≤ k ∧ EvBlk (y.alloc (.cells xi.cells 42)) k)) (y.alloc (.cells xi.cells 42)) z → ItAt z wr.heap.size x ∧ ItAt z y.heap.size xi) := by
                intro z hz
                have h1 := HIXY.out.below ((Below.refl _ _).alloc (Nat.le_refl _) (.cells xi.cells 42))
                have h2 := ItAt.new y xi
                refine ⟨(hz.block _ h1.lt (fun hc => hc.elim (fun e => by omega) (fun e => ?_))).trans h1, (hz.block _ h2.lt (fun hc => hc.elim (fun e => by omega) (fun e => ?_))).trans h2⟩
                · obtain ⟨c, hc⟩ := e.2; unfold ItAt at h1; rw [h1] at hc; simp at hc
                · obtain ⟨c, hc⟩ := e.2; unfold ItAt at h2; rw [h2] at hc; simp at hc
              unfold It.cells at HBX
              rw [hl] at HBX
              go_wp2_with (first | (go_at_call 22; (with_reducible refine (HT11.out _ (HTL.out.mv (HY.out.alloc HY.out.size _)) (by omega)).mono ?_); rintro r z ⟨rfl, htz, hfz⟩; have HTZ := Lib.hid htz; have HFZ := Lib.hid hfz; obtain ⟨gx, gi⟩ := HBX.out z hfz; obtain ⟨p0, p1, p2, p3, p4, p5, p6⟩ := gx.facts; obtain ⟨r0, r1, r2, r3, r4, r5, r6⟩ := gi.facts; clear htz hfz gx gi f0 f1 f2 f3 f4 f5 f6) | (go_at_call 22; (with_reducible refine (HT12.out _ _ HTZ.out (by simp; omega)).mono ?_); rintro r z2 ⟨rfl, htz2, hfz2⟩; have HTZ2 := Lib.hid htz2; have HFZ2 := Lib.hid hfz2; clear htz2 hfz2) | fail)
              go_roundw
              case rel => exact ⟨k + 1, by omega, by first | rfl | simp, by rw [HNEXT.out]; exact HTZ2.out, ((HFR.out.trans (Fr.of_below (HY.out.alloc HY.out.size _))).trans (HFZ.out.mono (fun j _ hj => hj.elim .inl (fun h2 => .inr h2.1)))).trans (HFZ2.out.mono (fun j _ hj => hj.elim .inl (fun h2 => .inr h2.1)))⟩
              case measure => simp [intOf]; omega
          | true =>
            cases ht : (xi.tags.toList == x.tags.toList) with
            | false =>
              cases hst : (xi.stock == x.stock) with
              | true =>
                have hst2 : (xi.stock != x.stock) = false := by rw [bne, hst]; rfl
                have HND : Hid (needB xi x = true) := by rw [Hid, HNEED.out]; simp [*]
                rw [HND.out, hst] at HNX
                have HNEXT : Hid (F (ks.take (k + 1)) = o ++ [tellE src num at_ o (Ev.raw 11 ⟨s.toArray⟩ x.price (textOf x))]) := HNX.out
                clear HNX
                have HBX : Hid (∀ z, Fr (fun k => k = qo ∨ (w8.heap.size ≤ k ∧ EvBlk (y.alloc (.cells xi.cells 42)) k)) (y.alloc (.cells xi.cells 42)) z → ItAt z wr.heap.size x ∧ ItAt z y.heap.size xi) := by
                  intro z hz
                  have h1 := HIXY.out.below ((Below.refl _ _).alloc (Nat.le_refl _) (.cells xi.cells 42))
                  have h2 := ItAt.new y xi
                  refine ⟨(hz.block _ h1.lt (fun hc => hc.elim (fun e => by omega) (fun e => ?_))).trans h1, (hz.block _ h2.lt (fun hc => hc.elim (fun e => by omega) (fun e => ?_))).trans h2⟩
                  · obtain ⟨c, hc⟩ := e.2; unfold ItAt at h1; rw [h1] at hc; simp at hc
                  · obtain ⟨c, hc⟩ := e.2; unfold ItAt at h2; rw [h2] at hc; simp at hc
                unfold It.cells at HBX
                rw [hl] at HBX
                go_wp2_with (first | (go_at_call 22; (with_reducible refine (HT11.out _ (HTL.out.mv (HY.out.alloc HY.out.size _)) (by omega)).mono ?_); rintro r z ⟨rfl, htz, hfz⟩; have HTZ := Lib.hid htz; have HFZ := Lib.hid hfz; obtain ⟨gx, gi⟩ := HBX.out z hfz; obtain ⟨p0, p1, p2, p3, p4, p5, p6⟩ := gx.facts; obtain ⟨r0, r1, r2, r3, r4, r5, r6⟩ := gi.facts; clear htz hfz gx gi f0 f1 f2 f3 f4 f5 f6) | fail)
                go_roundw
                case rel => exact ⟨k + 1, by omega, by first | rfl | simp, by rw [HNEXT.out]; exact HTZ.out, (HFR.out.trans (Fr.of_below (HY.out.alloc HY.out.size _))).trans (HFZ.out.mono (fun j _ hj => hj.elim .inl (fun h2 => .inr h2.1)))⟩
                case measure => simp [intOf]; omega
              | false =>
                have hst2 : (xi.stock != x.stock) = true := by rw [bne, hst]; rfl
                have HND : Hid (needB xi x = true) := by rw [Hid, HNEED.out]; simp [*]
                rw [HND.out, hst] at HNX
                have HNEXT : Hid (F (ks.take (k + 1)) = (o ++ [tellE src num at_ o (Ev.raw 11 ⟨s.toArray⟩ x.price (textOf x))]) ++ [tellE src num at_ (o ++ [tellE src num at_ o (Ev.raw 11 ⟨s.toArray⟩ x.price (textOf x))]) (Ev.raw 12 ⟨s.toArray⟩ x.stock ⟨#[]⟩)]) := HNX.out
                clear HNX
                have HBX : Hid (∀ z, Fr (fun k => k = qo ∨ (w8.heap.size ≤ k ∧ EvBlk (y.alloc (.cells xi.cells 42)) k)) (y.alloc (.cells xi.cells 42)) z → ItAt z wr.heap.size x ∧ ItAt z y.heap.size xi) := by
                  intro z hz
                  have h1 := HIXY.out.below ((Below.refl _ _).alloc (Nat.le_refl _) (.cells xi.cells 42))
                  have h2 := ItAt.new y xi
                  refine ⟨(hz.block _ h1.lt (fun hc => hc.elim (fun e => by omega) (fun e => ?_))).trans h1, (hz.block _ h2.lt (fun hc => hc.elim (fun e => by omega) (fun e => ?_))).trans h2⟩
                  · obtain ⟨c, hc⟩ := e.2; unfold ItAt at h1; rw [h1] at hc; simp at hc
                  · obtain ⟨c, hc⟩ := e.2; unfold ItAt at h2; rw [h2] at hc; simp at hc
                unfold It.cells at HBX
                rw [hl] at HBX
                go_wp2_with (first | (go_at_call 22; (with_reducible refine (HT11.out _ (HTL.out.mv (HY.out.alloc HY.out.size _)) (by omega)).mono ?_); rintro r z ⟨rfl, htz, hfz⟩; have HTZ := Lib.hid htz; have HFZ := Lib.hid hfz; obtain ⟨gx, gi⟩ := HBX.out z hfz; obtain ⟨p0, p1, p2, p3, p4, p5, p6⟩ := gx.facts; obtain ⟨r0, r1, r2, r3, r4, r5, r6⟩ := gi.facts; clear htz hfz gx gi f0 f1 f2 f3 f4 f5 f6) | (go_at_call 22; (with_reducible refine (HT12.out _ _ HTZ.out (by simp; omega)).mono ?_); rintro r z2 ⟨rfl, htz2, hfz2⟩; have HTZ2 := Lib.hid htz2; have HFZ2 := Lib.hid hfz2; clear htz2 hfz2) | fail)
                go_roundw
                case rel => exact ⟨k + 1, by omega, by first | rfl | simp, by rw [HNEXT.out]; exact HTZ2.out, ((HFR.out.trans (Fr.of_below (HY.out.alloc HY.out.size _))).trans (HFZ.out.mono (fun j _ hj => hj.elim .inl (fun h2 => .inr h2.1)))).trans (HFZ2.out.mono (fun j _ hj => hj.elim .inl (fun h2 => .inr h2.1)))⟩
                case measure => simp [intOf]; omega
            | true =>
              cases hp : (xi.price == x.price) with
              | false =>
                have hp2 : (xi.price != x.price) = true := by rw [bne, hp]; rfl
                cases hst : (xi.stock == x.stock) with
                | true =>
                  have hst2 : (xi.stock != x.stock) = false := by rw [bne, hst]; rfl
                  have HND : Hid (needB xi x = true) := by rw [Hid, HNEED.out]; simp [*]
                  rw [HND.out, hst] at HNX
                  have HNEXT : Hid (F (ks.take (k + 1)) = o ++ [tellE src num at_ o (Ev.raw 11 ⟨s.toArray⟩ x.price (textOf x))]) := HNX.out
                  clear HNX
                  have HBX : Hid (∀ z, Fr (fun k => k = qo ∨ (w8.heap.size ≤ k ∧ EvBlk (y.alloc (.cells xi.cells 42)) k)) (y.alloc (.cells xi.cells 42)) z → ItAt z wr.heap.size x ∧ ItAt z y.heap.size xi) := by
                    intro z hz
                    have h1 := HIXY.out.below ((Below.refl _ _).alloc (Nat.le_refl _) (.cells xi.cells 42))
                    have h2 := ItAt.new y xi
                    refine ⟨(hz.block _ h1.lt (fun hc => hc.elim (fun e => by omega) (fun e => ?_))).trans h1, (hz.block _ h2.lt (fun hc => hc.elim (fun e => by omega) (fun e => ?_))).trans h2⟩
                    · obtain ⟨c, hc⟩ := e.2; unfold ItAt at h1; rw [h1] at hc; simp at hc
                    · obtain ⟨c, hc⟩ := e.2; unfold ItAt at h2; rw [h2] at hc; simp at hc
                  unfold It.cells at HBX
                  rw [hl] at HBX
                  go_wp2_with (first | (go_at_call 22; (with_reducible refine (HT11.out _ (HTL.out.mv (HY.out.alloc HY.out.size _)) (by omega)).mono ?_); rintro r z ⟨rfl, htz, hfz⟩; have HTZ := Lib.hid htz; have HFZ := Lib.hid hfz; obtain ⟨gx, gi⟩ := HBX.out z hfz; obtain ⟨p0, p1, p2, p3, p4, p5, p6⟩ := gx.facts; obtain ⟨r0, r1, r2, r3, r4, r5, r6⟩ := gi.facts; clear htz hfz gx gi f0 f1 f2 f3 f4 f5 f6) | fail)
                  go_roundw
                  case rel => exact ⟨k + 1, by omega, by first | rfl | simp, by rw [HNEXT.out]; exact HTZ.out, (HFR.out.trans (Fr.of_below (HY.out.alloc HY.out.size _))).trans (HFZ.out.mono (fun j _ hj => hj.elim .inl (fun h2 => .inr h2.1)))⟩
                  case measure => simp [intOf]; omega
                | false =>
                  have hst2 : (xi.stock != x.stock) = true := by rw [bne, hst]; rfl
                  have HND : Hid (needB xi x = true) := by rw [Hid, HNEED.out]; simp [*]
                  rw [HND.out, hst] at HNX
                  have HNEXT : Hid (F (ks.take (k + 1)) = (o ++ [tellE src num at_ o (Ev.raw 11 ⟨s.toArray⟩ x.price (textOf x))]) ++ [tellE src num at_ (o ++ [tellE src num at_ o (Ev.raw 11 ⟨s.toArray⟩ x.price (textOf x))]) (Ev.raw 12 ⟨s.toArray⟩ x.stock ⟨#[]⟩)]) := HNX.out
                  clear HNX
                  have HBX : Hid (∀ z, Fr (fun k => k = qo ∨ (w8.heap.size ≤ k ∧ EvBlk (y.alloc (.cells xi.cells 42)) k)) (y.alloc (.cells xi.cells 42)) z → ItAt z wr.heap.size x ∧ ItAt z y.heap.size xi) := by
                    intro z hz
                    have h1 := HIXY.out.below ((Below.refl _ _).alloc (Nat.le_refl _) (.cells xi.cells 42))
                    have h2 := ItAt.new y xi
                    refine ⟨(hz.block _ h1.lt (fun hc => hc.elim (fun e => by omega) (fun e => ?_))).trans h1, (hz.block _ h2.lt (fun hc => hc.elim (fun e => by omega) (fun e => ?_))).trans h2⟩
                    · obtain ⟨c, hc⟩ := e.2; unfold ItAt at h1; rw [h1] at hc; simp at hc
                    · obtain ⟨c, hc⟩ := e.2; unfold ItAt at h2; rw [h2] at hc; simp at hc
                  unfold It.cells at HBX
                  rw [hl] at HBX
                  go_wp2_with (first | (go_at_call 22; (with_reducible refine (HT11.out _ (HTL.out.mv (HY.out.alloc HY.out.size _)) (by omega)).mono ?_); rintro r z ⟨rfl, htz, hfz⟩; have HTZ := Lib.hid htz; have HFZ := Lib.hid hfz; obtain ⟨gx, gi⟩ := HBX.out z hfz; obtain ⟨p0, p1, p2, p3, p4, p5, p6⟩ := gx.facts; obtain ⟨r0, r1, r2, r3, r4, r5, r6⟩ := gi.facts; clear htz hfz gx gi f0 f1 f2 f3 f4 f5 f6) | (go_at_call 22; (with_reducible refine (HT12.out _ _ HTZ.out (by simp; omega)).mono ?_); rintro r z2 ⟨rfl, htz2, hfz2⟩; have HTZ2 := Lib.hid htz2; have HFZ2 := Lib.hid hfz2; clear htz2 hfz2) | fail)
                  go_roundw
                  case rel => exact ⟨k + 1, by omega, by first | rfl | simp, by rw [HNEXT.out]; exact HTZ2.out, ((HFR.out.trans (Fr.of_below (HY.out.alloc HY.out.size _))).trans (HFZ.out.mono (fun j _ hj => hj.elim .inl (fun h2 => .inr h2.1)))).trans (HFZ2.out.mono (fun j _ hj => hj.elim .inl (fun h2 => .inr h2.1)))⟩
                  case measure => simp [intOf]; omega
              | true =>
                have hp2 : (xi.price != x.price) = false := by rw [bne, hp]; rfl
                cases hst : (xi.stock == x.stock) with
                | true =>
                  have hst2 : (xi.stock != x.stock) = false := by rw [bne, hst]; rfl
                  have HND : Hid (needB xi x = false) := by rw [Hid, HNEED.out]; simp [*]
                  rw [HND.out, hst] at HNX
                  have HNEXT : Hid (F (ks.take (k + 1)) = o) := HNX.out
                  clear HNX
                  go_wp2_with (first | fail)
                  go_roundw
                  case rel => exact ⟨k + 1, by omega, by first | rfl | simp, by rw [HNEXT.out]; exact HTL.out.mv (HY.out.alloc HY.out.size _), HFR.out.trans (Fr.of_below (HY.out.alloc HY.out.size _))⟩
                  case measure => simp [intOf]; omega
                | false =>
                  have hst2 : (xi.stock != x.stock) = true := by rw [bne, hst]; rfl
                  have HND : Hid (needB xi x = false) := by rw [Hid, HNEED.out]; simp [*]
                  rw [HND.out, hst] at HNX
                  have HNEXT : Hid (F (ks.take (k + 1)) = o ++ [tellE src num at_ o (Ev.raw 12 ⟨s.toArray⟩ x.stock ⟨#[]⟩)]) := HNX.out
                  clear HNX
                  go_wp2_with (first | (go_at_call 22; (with_reducible refine (HT12.out _ _ (HTL.out.mv (HY.out.alloc HY.out.size _)) (by omega)).mono ?_); rintro r z2 ⟨rfl, htz2, hfz2⟩; have HTZ2 := Lib.hid htz2; have HFZ2 := Lib.hid hfz2; clear htz2 hfz2) | fail)
                  go_roundw
                  case rel => exact ⟨k + 1, by omega, by first | rfl | simp, by rw [HNEXT.out]; exact HTZ2.out, (HFR.out.trans (Fr.of_below (HY.out.alloc HY.out.size _))).trans (HFZ2.out.mono (fun j _ hj => hj.elim .inl (fun h2 => .inr h2.1)))⟩
                  case measure => simp [intOf]; omega
    · have htk : ks.take k = ks := List.take_of_length_le (by omega)
      have hfull : Hid (diffOut l L M at_ src num = diffCut num o) := by
        rw [Hid, HOUT.out]
        unfold diffFull
        rw [HF.out, HKS.out, ← HO.out, htk]
      obtain ⟨v, hv, hown⟩ := HTL.out.o
      obtain ⟨Ao, co, rfl⟩ := own_slice hown
      have cO := one_cell hv
      have cN := one_cell HTL.out.n
      have HOWN := Lib.hid (ownsRow_base_a hown (by have := HW8.out.size; exact this))
      clear htk hown hv g1 g2 g3 g4 g5 hs68 hs8r
      rcases Nat.eq_zero_or_pos o.length with h0 | h0
      · have b0 : decide ((0 : Int) < (o.length : Int)) = false := decide_eq_false (by omega)
        have b2 : decide (0 < o.length) = false := decide_eq_false (by omega)
        have HE : Hid (diffOut l L M at_ src num = o) := by rw [Hid, hfull.out]; unfold diffCut; rw [if_neg (by omega)]
        clear h0
        go_wp2_with fail
        go_ret
        exact ⟨.slice Ao o.length co, rfl, by rw [HE.out]; exact HOWN.out, HWR.out⟩
      · have b0 : decide ((0 : Int) < (o.length : Int)) = true := decide_eq_true (by omega)
        have b2 : decide (0 < o.length) = true := decide_eq_true h0
        by_cases h1 : 1099511627776 - (o.length : Int) + 1 < num
        · have b1 : decide (1099511627776 - (o.length : Int) + 1 < num) = true := decide_eq_true h1
          have HE : Hid (diffOut l L M at_ src num = []) := by rw [Hid, hfull.out]; unfold diffCut; rw [if_pos ⟨h0, h1⟩]
          clear h0 h1
          go_wp2_with fail
          go_ret
          exact DiffPost.none_ HE.out HWR.out
        · have b1 : decide (1099511627776 - (o.length : Int) + 1 < num) = false := decide_eq_false h1
          have HE : Hid (diffOut l L M at_ src num = o) := by rw [Hid, hfull.out]; unfold diffCut; rw [if_neg (fun hc => h1 hc.2)]
          clear h0 h1
          go_wp2_with fail
          go_ret
          exact ⟨.slice Ao o.length co, rfl, by rw [HE.out]; exact HOWN.out, HWR.out⟩
end Go.Proofs.YtgpadcokcdpmnaaDoor.Fd
end
