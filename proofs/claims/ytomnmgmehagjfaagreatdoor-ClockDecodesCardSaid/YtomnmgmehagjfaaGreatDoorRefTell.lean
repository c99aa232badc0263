/-
  The reference's clock: Tell, Name.
  No condition: lemmas.
-/
import Derived.Test.YtomnmgmehagjfaaGreatDoorRefRead
namespace Go.Proofs.YtomnmgmehagjfaaGreatDoor.Ck
open Go Go.RowKit Go.Maps Go.Shelf Go.Lib
set_option linter.unusedVariables false
set_option linter.unusedSimpArgs false

def TL (w : World) (c : Ck) (v3 v4 v5 : Value) (wr : World) : Prop :=
  ∃ (k : Nat) (m : Int) (o : Bool), k ≤ c.L.length ∧ v5 = .int .i64 k ∧ v4 = .bool o ∧ v3 = .int .i64 m ∧ -1099511627777 ≤ m ∧ m ≤ 1099511627776 ∧
    ((o = false ∧ least c.idle c.now (c.L.take k) = none) ∨ (o = true ∧ least c.idle c.now (c.L.take k) = some (m + c.slack + 1))) ∧ Below w.heap.size w wr

set_option maxHeartbeats 2000000 in
set_option maxRecDepth 100000 in
theorem tell_calls (q : Nat) (c : Ck) (w : World) (h : Rf w q c) (hok : Ok c) (hl : c.L.length ≤ 1000) :
    Calls Tryz.prog 19 #[.pointer (some ⟨q, 0, none⟩)] w fun e w' => e = .returned (.int .i64 (tellV c)) ∧ Below w.heap.size w w' := by
  obtain ⟨A, cap, h4, he, hcap, _⟩ := h.c4
  have h0 := h.c0
  have HE := Lib.hid he
  have hqq := h.ltq
  have g0 := hok.s0
  have g1 := hok.s1
  have HT : Hid (tellV c = match least c.idle c.now c.L with | none => -2 | some m => if m - c.slack - 1 < -2 then -2 else m - c.slack - 1) := rfl
  clear he
  go_enter Tryz.func19, Tryz.ntmps19
  go_wp2_with fail
  go_loopw [3, 4, 5] (fun v3 v4 v5 wr => TL w c v3 v4 v5 wr) (fun _ _ i _ => c.L.length - (intOf i).toNat)
  case atStart => exact ⟨0, 0, false, Nat.zero_le _, rfl, rfl, rfl, by omega, by omega, .inl ⟨rfl, by simp [least]⟩, Below.refl _ _⟩
  case round =>
    obtain ⟨k, m, o, hk, rfl, rfl, rfl, hm0, hm1, hrel, hbr⟩ := hrel
    have h4r : wr.cell? ⟨q, 4, none⟩ = some (.slice A c.L.length cap) := (hbr.cell (p := ⟨q, 4, none⟩) hqq).trans h4
    have h0r : wr.cell? ⟨q, 0, none⟩ = some (.int .i64 c.slack) := (hbr.cell (p := ⟨q, 0, none⟩) hqq).trans h0
    by_cases hlt : k < c.L.length
    · obtain ⟨x, hx⟩ : ∃ x, c.L[k]? = some x := ⟨_, List.getElem?_eq_getElem hlt⟩
      obtain ⟨B, O, rfl, hB, e0, e1, e2⟩ := (HE.out.below hbr) k x hx
      have hv := hok.l _ (List.mem_of_getElem? hx)
      have hn1 := hok.n1
      have HX : Hid (c.L.take (k + 1) = c.L.take k ++ [x]) := by
        show c.L.take (k + 1) = c.L.take k ++ [x]
        rw [List.take_add_one, hx]; rfl
      have HR := Lib.hid hrel
      have hrf := h.below hbr
      clear hx hrel
      have hs1 := least_snoc c.idle c.now x (c.L.take k)
      cases ha : activeB c.idle c.now x.2.2 with
      | false =>
        have HS : Hid (least c.idle c.now (c.L.take (k + 1)) = least c.idle c.now (c.L.take k)) := by
          show least c.idle c.now (c.L.take (k + 1)) = _
          rw [HX.out, hs1, ha]; rfl
        clear hs1
        go_wp2_with fail
        go_quiet (fail)
        go_wp2_with (go_at_call 36; refine (ractive_calls q c _ (hrf.drewN _) _ _ _ hok (by omega) (by omega)).mono ?_; rintro e w2 ⟨rfl, hb2⟩)
        have hbe : Below w.heap.size w w2 := (below_drewN hbr _).trans (hb2.mono hbr.size)
        go_roundw
        case rel =>
          refine ⟨k + 1, m, o, by omega, by go_num, rfl, rfl, hm0, hm1, ?_, hbe⟩
          rw [HS.out]; exact HR.out
        case measure => simp [intOf]; omega
      | true =>
        have hs2 : least c.idle c.now (c.L.take (k + 1)) = minT (least c.idle c.now (c.L.take k)) x.2.1 := by
          rw [HX.out, hs1, ha]; rfl
        have HS := Lib.hid hs2
        clear hs1 hs2
        cases o with
        | false =>
          have HN : Hid (least c.idle c.now (c.L.take k) = none) := by
            rcases HR.out with ⟨_, h⟩ | ⟨h, _⟩
            · exact h
            · cases h
          go_wp2_with fail
          go_quiet (fail)
          go_wp2_with (go_at_call 36; refine (ractive_calls q c _ (hrf.drewN _) _ _ _ hok (by omega) (by omega)).mono ?_; rintro e w2 ⟨rfl, hb2⟩)
          have hbe : Below w.heap.size w w2 := (below_drewN hbr _).trans (hb2.mono hbr.size)
          go_roundw
          case rel =>
            refine ⟨k + 1, x.2.1 - c.slack - 1, true, by omega, by go_num, rfl, rfl, by omega, by omega, .inr ⟨rfl, ?_⟩, hbe⟩
            rw [HS.out, HN.out]; show some x.2.1 = _; congr 1; omega
          case measure => simp [intOf]; omega
        | true =>
          have HN : Hid (least c.idle c.now (c.L.take k) = some (m + c.slack + 1)) := by
            rcases HR.out with ⟨h, _⟩ | ⟨_, h⟩
            · cases h
            · exact h
          by_cases hlt2 : x.2.1 - c.slack - 1 < m
          · have hd2 : decide (x.2.1 - c.slack - 1 < m) = true := decide_eq_true hlt2
            go_wp2_with fail
            go_quiet (fail)
            go_wp2_with (go_at_call 36; refine (ractive_calls q c _ (hrf.drewN _) _ _ _ hok (by omega) (by omega)).mono ?_; rintro e w2 ⟨rfl, hb2⟩)
            have hbe : Below w.heap.size w w2 := (below_drewN hbr _).trans (hb2.mono hbr.size)
            go_roundw
            case rel =>
              refine ⟨k + 1, x.2.1 - c.slack - 1, true, by omega, by go_num, rfl, rfl, by omega, by omega, .inr ⟨rfl, ?_⟩, hbe⟩
              rw [HS.out, HN.out]; show some (if _ then _ else _) = _; rw [if_pos (by omega)]; congr 1; omega
            case measure => simp [intOf]; omega
          · have hd2 : decide (x.2.1 - c.slack - 1 < m) = false := decide_eq_false hlt2
            go_wp2_with fail
            go_quiet (fail)
            go_wp2_with (go_at_call 36; refine (ractive_calls q c _ (hrf.drewN _) _ _ _ hok (by omega) (by omega)).mono ?_; rintro e w2 ⟨rfl, hb2⟩)
            have hbe : Below w.heap.size w w2 := (below_drewN hbr _).trans (hb2.mono hbr.size)
            go_roundw
            case rel =>
              refine ⟨k + 1, m, true, by omega, by go_num, rfl, rfl, hm0, hm1, .inr ⟨rfl, ?_⟩, hbe⟩
              rw [HS.out, HN.out]; show some (if _ then _ else _) = _; rw [if_neg (by omega)]
            case measure => simp [intOf]; omega
    · have hkn : k = c.L.length := by omega
      have htk : c.L.take k = c.L := by rw [hkn, List.take_length]
      rw [htk] at hrel
      cases o with
      | false =>
        have HN : Hid (least c.idle c.now c.L = none) := by
          rcases hrel with ⟨_, h⟩ | ⟨h, _⟩
          · exact h
          · cases h
        clear hrel hkn htk
        go_wp2_with fail
        go_ret
        exact ⟨by rw [HT.out, HN.out]; rfl, hbr⟩
      | true =>
        have HN : Hid (least c.idle c.now c.L = some (m + c.slack + 1)) := by
          rcases hrel with ⟨h, _⟩ | ⟨_, h⟩
          · cases h
          · exact h
        have HM : Hid (tellV c = if m < -2 then -2 else m) := by
          have := HT.out
          rw [HN.out] at this
          have e : m + c.slack + 1 - c.slack - 1 = m := by omega
          simp only [e] at this
          exact this
        clear hrel hkn htk
        by_cases hm2 : m < -2
        · go_wp2_with fail
          go_ret
          exact ⟨by rw [HM.out, if_pos hm2]; rfl, hbr⟩
        · go_wp2_with fail
          go_ret
          exact ⟨by rw [HM.out, if_neg (by omega)]; rfl, hbr⟩

end Go.Proofs.YtomnmgmehagjfaaGreatDoor.Ck
