/-
  The reference's parts: the walk.
  No condition: lemmas.
-/
import Derived.Test.YtomnmgmehagjfaaGreatDoorRefNumP
import Derived.Test.YtomnmgmehagjfaaGreatDoorRefName
import Derived.Test.YtomnmgmehagjfaaGreatDoorWLast
import Derived.Deep.DeepMust
import Derived.IntWalk
namespace Go.Proofs.YtomnmgmehagjfaaGreatDoor.Ck
open Go Go.RowKit Go.Maps Go.Shelf Go.Lib Go.Proofs.YtomnmgmehagjfaaGreatDoorW.PrintLast
set_option linter.unusedVariables false
set_option linter.unusedSimpArgs false

theorem ownsRow_set {w : World} {base n g cap : Nat} {e : TypeId} {xs : List Value} (h : w.ownsRow base e 1 (.slice (some ⟨g, 0, none⟩) n cap) n xs) (i : Nat) (hi : i < n) (u : Value) :
    (w.setCell ⟨g, i, none⟩ u).ownsRow base e 1 (.slice (some ⟨g, 0, none⟩) n cap) n (xs.set i u) := by
  obtain ⟨hl, hr⟩ := h
  refine ⟨by rw [List.length_set]; exact hl, ?_⟩
  rcases hr with ⟨h1, _⟩ | ⟨g', cap', cur, h1, hb, hg, hn, hm, hs, ht⟩
  · cases h1
  · simp only [Value.slice.injEq, Option.some.injEq, Addr.mk.injEq, and_true, true_and] at h1
    obtain ⟨rfl, rfl⟩ := h1
    refine .inr ⟨g, cap, cur.setIfInBounds i u, rfl, hb, ?_, hn, hm, by simpa using hs, ?_⟩
    · rw [setCell_block hg]
    · rw [← ht]
      simp only [Array.toList_setIfInBounds, Nat.mul_one]
      rw [List.take_set]

def PR (w : World) (s : ByteArray) (c : UInt8) (v5 v6 : Value) (wr : World) : Prop :=
  ∃ (k : Nat) (u : List ByteArray) (x : ByteArray) (g cap : Nat), k ≤ s.size ∧ v6 = .int .i64 k ∧ v5 = .slice (some ⟨g, 0, none⟩) (u.length + 1) cap ∧
    (u ++ [x]).map (·.data.toList) = parts c (s.data.toList.take k) ∧ u.length ≤ k ∧ x.size ≤ k ∧ wr.ownsRow w.heap.size 9 1 v5 (u.length + 1) ((u ++ [x]).map Value.string) ∧ Below w.heap.size w wr

def PartsPost (s : List UInt8) (c : UInt8) (w : World) (e : Ending) (w' : World) : Prop :=
  ∃ (ps : List ByteArray) (g cap : Nat), e = .returned (.slice (some ⟨g, 0, none⟩) ps.length cap) ∧ ps.map (·.data.toList) = parts c s ∧ w'.ownsRow w.heap.size 9 1 (.slice (some ⟨g, 0, none⟩) ps.length cap) ps.length (ps.map Value.string) ∧ Below w.heap.size w w'

set_option maxHeartbeats 4000000 in
set_option maxRecDepth 100000 in
theorem parts_calls (s : ByteArray) (c : UInt8) (w : World) (hs : s.size ≤ 100000) :
    Calls Tryz.prog 16 #[.string s, .int .u8 c.toNat] w (PartsPost s.data.toList c w) := by
  obtain ⟨i0, hi, hz0, hz1, hz2⟩ := info_parts (show (Tryz.prog.info? 9).map (fun i => (i.zero, i.size, i.bytes)) = some (some (.string ByteArray.empty), 1, 16) by kernel_rfl)
  have HI0 := Lib.hid hi
  have HZ0 := Lib.hid hz0
  have HZ1 := Lib.hid hz1
  have HZ2 := Lib.hid hz2
  clear hi hz0 hz1 hz2
  go_enter Tryz.func16, Tryz.ntmps16
  go_wp2_with fail
  have hown0 : (w.alloc (.cells #[.string ⟨#[]⟩] 9)).ownsRow w.heap.size 9 1 (.slice (some ⟨w.heap.size, 0, none⟩) 1 1) 1 [.string ⟨#[]⟩] :=
    ⟨by simp, .inr ⟨w.heap.size, 1, #[.string ⟨#[]⟩], rfl, Nat.le_refl _, heap_alloc_new _ _, Nat.le_refl _, by unfold maxLen; omega, by simp, by simp⟩⟩
  go_loopw [5, 6] (fun v5 v6 wr => PR w s c v5 v6 wr) (fun _ i _ => s.size - (intOf i).toNat)
  case atStart => exact ⟨0, [], ⟨#[]⟩, _, _, Nat.zero_le _, rfl, rfl, rfl, Nat.le_refl _, Nat.le_refl _, hown0, (Below.refl _ _).alloc (Nat.le_refl _) _⟩
  case round =>
    clear hown0
    obtain ⟨k, u, x, g, cap, hk, rfl, rfl, hp, hul, hxl, hown, hbr⟩ := hrel
    have hbase := hbr.size
    have HP := Lib.hid hp
    clear hp
    have hgl := hown.lt g rfl
    by_cases hlt : k < s.size
    · have hb0 : s.data.toList[k]? = some s[k] := by
        rw [Array.getElem?_toList]
        exact Array.getElem?_eq_getElem (show k < s.data.size from hlt)
      have HTK : Hid (s.data.toList.take (k + 1) = s.data.toList.take k ++ [s[k]]) := by rw [Hid, List.take_add_one, hb0]; rfl
      clear hb0
      by_cases hc : s[k] = c
      · have hcb : ((s[k].toNat : Int) == (c.toNat : Int)) = true := by rw [hc]; simp
        have HCC := Lib.hid hc
        clear hc
        go_wp2_with (first
          | (at_builtin; go_must (refine wpList_append_own _ rfl (.tmp 19) (.tmp 20) _ rfl w.heap.size 9 i0 _ 1 16 Tryz.underlying36 HI0.out HZ0.out HZ1.out HZ2.out rfl (by decide) _ _ _ rfl (hown.alloc _) ⟨wr.heap.size, 0, none⟩ 1 1 [.string ⟨#[]⟩] rfl rfl (by intro j u hj; rcases j with _ | j <;> simp at hj; subst hj; simp [Addr.add]) (by simp [Value.oneCell']) (by unfold maxLen; omega) (by omega) (by simp; omega) ?_); intro v8' w3 hown3 hg3 _; go_must (have hb3 : Below w.heap.size w w3 := (hbr.alloc (by omega) _).grown hg3 (by simp; omega) (by intro b hb; exact (hown.lt b hb).1)))
          | fail)
        obtain ⟨g9, c9, rfl, _, _⟩ := hown3.form (by omega)
        clear hg3
        go_roundw
        case rel =>
          refine ⟨k + 1, u ++ [x], ⟨#[]⟩, g9, c9, by omega, by go_num, by rw [List.length_append]; rfl, ?_, by rw [List.length_append]; simp; omega, Nat.zero_le _, ?_, hb3⟩
          · rw [HTK.out, HCC.out, parts_snoc_eq, ← HP.out]; simp
          · have := hown3
            simp only [List.map_append, List.length_append, List.length_cons, List.length_nil] at this ⊢
            exact this
        case measure => simp [intOf]; omega
      · have hcb : ((s[k].toNat : Int) == (c.toNat : Int)) = false := by
          rw [beq_eq_false_iff_ne]
          intro he
          exact hc (UInt8.toNat.inj (by omega))
        have hcne : (s[k] == c) = false := by simpa using hc
        have HCC := Lib.hid hcne
        have hxc : wr.cell? ⟨g, u.length, none⟩ = some (.string x) := by
          have := hown.cells (g := g) rfl u.length (.string x) (by simp)
          rw [add_none] at this
          simpa using this
        clear hc hcne
        go_wp2_with fail
        refine wp_region_still_tail 17 (by kernel_rfl) (by kernel_rfl) ?_
        simp only [List.take_succ_cons, List.take_zero, List.drop_succ_cons, List.drop_zero]
        have hw1 : IntKind.i64.wrap (u.length : Int) = u.length := IntWalk.i64_in _ (by omega)
        have hw2 : IntKind.i64.wrap ((k : Int) + 1) = (k : Int) + 1 := IntWalk.i64_in _ (by omega)
        have n0 : (0 : Int) ≤ (u.length : Int) := by omega
        have n1 : (u.length : Int) < (u.length : Int) + 1 := by omega
        have n2 : (u.length : Int).toNat = u.length := by omega
        have n3 : u.length < u.length + 1 := by omega
        have n4 : (k : Int) ≤ (k : Int) + 1 := by omega
        have n5 : (k : Int) + 1 ≤ (s.size : Int) := by omega
        have n6 : ((k : Int) + 1).toNat = k + 1 := by omega
        have n7 : (0 : Int) ≤ (k : Int) := by omega
        have n8 : (0 : Int) ≤ (k : Int) + 1 := by omega
        have hex : (s.extract k (k + 1)).size = 1 := by rw [ByteArray.size_extract]; omega
        have n9 : ¬ 9223372036854775807 < x.size + (s.extract k (k + 1)).size := by omega
        have n10 : ¬ 9223372036854775807 < x.size + (min (k + 1) s.size - k) := by omega
        have HEX := Lib.hid hex
        clear hex
        repeat still_step
        refine wpStill_nil ?_
        change wpList _ _ _ _ _ wr.drew
        clear hw1 hw2 hxc n0 n1 n2 n3 n4 n5 n6 n7 n8 n9 n10
        obtain ⟨Y, hY⟩ : ∃ Y, Y = wr.drew := ⟨_, rfl⟩
        have hownY : Y.ownsRow w.heap.size 9 1 (.slice (some ⟨g, 0, none⟩) (u.length + 1) cap) (u.length + 1) ((u ++ [x]).map Value.string) := by rw [hY]; exact hown
        have hbY : Below w.heap.size w Y := by rw [hY]; exact hbr.drew
        rw [← hY]
        clear hY hown hbr
        have hcY : Y.cell? ⟨g, u.length, none⟩ = some (.string x) := by
          have := hownY.cells (g := g) rfl u.length (.string x) (by simp)
          rw [add_none] at this
          simpa using this
        have hfY : Y.frozen? ⟨g, u.length, none⟩ = false := by
          rcases hownY.2 with ⟨h1, _⟩ | ⟨g', cap', cur, h1, _, hg, _⟩
          · cases h1
          · simp only [Value.slice.injEq, Option.some.injEq, Addr.mk.injEq, and_true, true_and] at h1
            obtain ⟨rfl, rfl⟩ := h1
            simp [World.frozen?, hg]
        have hnew := ownsRow_set hownY u.length (by omega) (.string (x ++ s.extract k (k + 1)))
        have hbN := hbY.setCell (p := ⟨g, u.length, none⟩) hgl.1 (.string (x ++ s.extract k (k + 1)))
        have HN : Hid (PR w s c (.slice (some ⟨g, 0, none⟩) (u.length + 1) cap) (.int .i64 ((k : Int) + 1)) (Y.setCell ⟨g, u.length, none⟩ (.string (x ++ s.extract k (k + 1))))) := by
          have hext : (s.extract k (k + 1)).data.toList = [s[k]] := by
            have h1 : s.data.toList[k]? = some s[k] := by
              rw [Array.getElem?_toList]
              exact Array.getElem?_eq_getElem (show k < s.data.size from hlt)
            have h2 : (s.extract k (k + 1)).data.toList = (s.data.toList.drop k).take 1 := by
              rw [ByteArray.data_extract, Array.toList_extract]
              simp [List.extract_eq_take_drop]
            rw [h2, List.drop_eq_getElem_cons (by have := (List.getElem?_eq_some_iff.1 h1).1; exact this)]
            simp [(List.getElem?_eq_some_iff.1 h1).2]
          refine ⟨k + 1, u, x ++ s.extract k (k + 1), g, cap, by omega, by go_num, rfl, ?_, by omega, ?_, ?_, hbN⟩
          · rw [HTK.out, parts_snoc_ne HCC.out _ (u.map (·.data.toList)) x.data.toList (by rw [← HP.out]; simp)]
            rw [List.map_append, List.map_cons, List.map_nil, ba_append, hext]
          · have h3 := HEX.out
            rw [ba_size, ba_append, List.length_append, ← ba_size, ← ba_size]; omega
          · have h4 : ((u ++ [x]).map Value.string).set u.length (.string (x ++ s.extract k (k + 1))) = (u ++ [x ++ s.extract k (k + 1)]).map Value.string := by
              simp [List.set_append]
            rw [← h4]; exact hnew
        clear hnew hbN hownY hbY
        go_wp2_with fail
        go_roundw
        case rel => exact HN.out
        case measure => simp [intOf]; omega
    · have hkn : k = s.size := by omega
      subst hkn
      have hfin : Hid (PartsPost s.data.toList c w (.returned (.slice (some ⟨g, 0, none⟩) (u.length + 1) cap)) wr) := by
        refine ⟨u ++ [x], g, cap, by rw [List.length_append]; rfl, ?_, ?_, hbr⟩
        · rw [HP.out, List.take_of_length_le (by simp)]
        · rw [List.length_append]; exact hown
      go_wp2_with fail
      go_ret
      exact hfin.out

end Go.Proofs.YtomnmgmehagjfaaGreatDoor.Ck
