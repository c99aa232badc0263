/-
  The reference's clock: place, Heard, Active.
  No condition: lemmas.
-/
import Derived.Test.YtomnmgmehagjfaaGreatDoorRef
namespace Go.Proofs.YtomnmgmehagjfaaGreatDoor.Ck
open Go Go.RowKit Go.Maps Go.Shelf Go.Lib
set_option linter.unusedVariables false
set_option linter.unusedSimpArgs false

def PL (w : World) (L : List Ent) (s : List UInt8) (v6 : Value) (wr : World) : Prop :=
  ∃ k : Nat, k ≤ L.length ∧ v6 = .int .i64 k ∧ (∀ j e, j < k → L[j]? = some e → bytesBefore e.1 s = true) ∧ Below w.heap.size w wr

set_option maxHeartbeats 2000000 in
set_option maxRecDepth 100000 in
theorem place_calls (q : Nat) (c : Ck) (s : ByteArray) (w : World) (h : Rf w q c) (hs : s.size ≤ maxLen) (hl : c.L.length ≤ 1000) :
    Calls Tryz.prog 41 #[.pointer (some ⟨q, 0, none⟩), .string s] w fun e w' => e = .returned (.tuple #[.int .i64 (pl c.L s.data.toList), .bool (get c.L s.data.toList).isSome]) ∧ Below w.heap.size w w' := by
  have hs' := hs
  unfold maxLen at hs'
  obtain ⟨A, cap, h4, he, hcap, _⟩ := h.c4
  have HE := Lib.hid he
  have HF := Lib.hid (place_found (s := s.data.toList) h.rs)
  have hq := h.ltq
  generalize hLg : c.L = L at *
  generalize hn : L.length = n at *
  have HN := Lib.hid hn
  clear hn he
  go_enter Tryz.func41, Tryz.ntmps41
  go_wp2_with fail
  go_loopw [6] (fun v6 wr => PL w L s.data.toList v6 wr) (fun i _ => n - (intOf i).toNat)
  case atStart => exact ⟨0, Nat.zero_le _, rfl, fun j e hj => by omega, Below.refl _ _⟩
  case round =>
    obtain ⟨k, hk, rfl, hall, hbr⟩ := hrel
    have h4r : wr.cell? ⟨q, 4, none⟩ = some (.slice A n cap) := (hbr.cell (p := ⟨q, 4, none⟩) hq).trans h4
    by_cases hlt : k < n
    · have hlk : k < L.length := by rw [HN.out]; exact hlt
      obtain ⟨x, hx⟩ : ∃ x, L[k]? = some x := ⟨_, List.getElem?_eq_getElem hlk⟩
      obtain ⟨B, O, rfl, hB, e0, e1, e2⟩ := (HE.out.below hbr) k x hx
      have HX := Lib.hid hx
      clear hx
      have hd : decide ((k : Int) < n) = true := decide_eq_true (by omega)
      cases hb : bytesBefore x.1 s.data.toList with
      | true =>
        have hb' : Op.bytesLess x.1 s.toList = true := by rw [ByteArray.toList_eq, less_before]; exact hb
        go_wp2_with fail
        go_roundw
        case rel =>
          refine ⟨k + 1, by omega, by go_num, fun j e hj hje => ?_, hbr⟩
          by_cases hjk : j = k
          · subst hjk; rw [HX.out] at hje; cases hje; exact hb
          · exact hall j e (by omega) hje
        case measure => simp [intOf]; omega
      | false =>
        have hb' : Op.bytesLess x.1 s.toList = false := by rw [ByteArray.toList_eq, less_before]; exact hb
        have hpl := place_stop hk hall (fun e he => by rw [HX.out] at he; cases he; exact hb)
        have hfd : Hid ((get L s.data.toList).isSome = (x.1 == s.data.toList)) := by
          have := HF.out; rw [← hpl, HX.out] at this; exact this
        have HPL := Lib.hid hpl
        clear hpl hall
        cases hq : (x.1 == s.data.toList) with
        | true =>
          have hq' : (x.1 == s.toList) = true := by rw [ByteArray.toList_eq]; exact hq
          go_wp2_with fail
          go_quiet (fail)
          go_wp2
          go_ret2
          exact ⟨by rw [hfd.out, hq, ← HPL.out]; rfl, below_drewN hbr _⟩
        | false =>
          have hq' : (x.1 == s.toList) = false := by rw [ByteArray.toList_eq]; exact hq
          go_wp2_with fail
          go_quiet (fail)
          go_wp2
          go_ret2
          exact ⟨by rw [hfd.out, hq, ← HPL.out]; rfl, below_drewN hbr _⟩
    · have hd : decide ((k : Int) < n) = false := decide_eq_false (by omega)
      have hnn : L[k]? = none := by rw [List.getElem?_eq_none_iff, HN.out]; omega
      have hpl := place_stop hk hall (fun e he => by rw [hnn] at he; cases he)
      have hfd : Hid ((get L s.data.toList).isSome = false) := by
        have := HF.out; rw [← hpl, hnn] at this; exact this
      have HPL := Lib.hid hpl
      clear hpl hall hnn
      go_wp2_with fail
      go_quiet (fail)
      go_wp2
      go_ret2
      exact ⟨by rw [hfd.out, ← HPL.out]; rfl, below_drewN hbr _⟩

theorem place_lt {L : List Ent} {s : List UInt8} {v : Int × Int} (hr : Rising L) (h : get L s = some v) : pl L s < L.length := (List.getElem?_eq_some_iff.1 (place_some hr h).1).1


set_option maxHeartbeats 1000000 in
set_option maxRecDepth 100000 in
theorem ractiveF_calls (q : Nat) (c : Ck) (s : ByteArray) (w : World) (h : Rf w q c) (hok : Ok c) (hs : s.size ≤ maxLen) (hl : c.L.length ≤ 1000) :
    Calls Tryz.prog 25 #[.pointer (some ⟨q, 0, none⟩), .string s] w fun e w' => e = .returned (.bool (activeV c s.data.toList)) ∧ Below w.heap.size w w' := by
  have H := Lib.hid (activeV_eq c s.data.toList)
  cases hg : get c.L s.data.toList with
  | none =>
    have HG := Lib.hid hg
    have hg' : (get c.L s.data.toList).isSome = false := by rw [hg]; rfl
    clear hg
    go_enter Tryz.func25, Tryz.ntmps25
    go_wp2_with (go_at_call 41; refine (place_calls q c s _ h hs hl).mono ?_; rintro e w1 ⟨rfl, hb1⟩)
    go_ret
    exact ⟨by rw [H.out, HG.out]; rfl, hb1⟩
  | some v =>
    have HG := Lib.hid hg
    have hp := (place_some h.rs hg).1
    have hplt := place_lt h.rs hg
    have hv := hok.l _ (List.mem_of_getElem? hp)
    have hn1 := hok.n1
    have hg' : (get c.L s.data.toList).isSome = true := by rw [hg]; rfl
    obtain ⟨A, cap, h4, he, hcap, _⟩ := h.c4
    obtain ⟨B, O, rfl, hB, e0, e1, e2⟩ := he _ _ hp
    have hqq := h.ltq
    clear hg he hp
    go_enter Tryz.func25, Tryz.ntmps25
    go_wp2_with (first
      | (go_at_call 41; refine (place_calls q c s _ h hs hl).mono ?_; rintro e w1 ⟨rfl, hb1⟩; have h4' := (hb1.cell (p := ⟨q, 4, none⟩) hqq).trans h4; have e0' := (hb1.cell (p := ⟨B, _, none⟩) hB).trans e0; have e1' := (hb1.cell (p := ⟨B, _, none⟩) hB).trans e1; have e2' := (hb1.cell (p := ⟨B, _, none⟩) hB).trans e2)
      | (go_at_call 36; refine (ractive_calls q c _ (h.below hb1) _ _ _ hok (by omega) (by omega)).mono ?_; rintro e w2 ⟨rfl, hb2⟩))
    go_ret
    exact ⟨by rw [H.out, HG.out]; rfl, hb1.trans (hb2.mono hb1.size)⟩

end Go.Proofs.YtomnmgmehagjfaaGreatDoor.Ck
