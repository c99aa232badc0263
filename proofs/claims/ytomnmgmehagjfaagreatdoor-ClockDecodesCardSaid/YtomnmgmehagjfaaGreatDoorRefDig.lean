/-
  The reference's clock: digits.
  No condition: lemmas.
-/
import Derived.Test.YtomnmgmehagjfaaGreatDoorRefTell
import Derived.Test.YtomnmgmehagjfaaGreatDoorRefName
import Derived.Test.YtomnmgmehagjfaaGreatDoorWLast
import Derived.Test.YtomnmgmehagjfaaGreatDoorEncode
namespace Go.Proofs.YtomnmgmehagjfaaGreatDoor.Ck
open Go Go.RowKit Go.Maps Go.Shelf Go.Lib
set_option linter.unusedVariables false
set_option linter.unusedSimpArgs false

def dig (n : Int) : List UInt8 := if n < 0 then [45, 49] else decDigits n.toNat
theorem dig_itoa {n : Int} (h : -1 ≤ n) : dig n = itoa n := by
  unfold dig itoa
  by_cases h0 : n < 0
  · have : n = -1 := by omega
    subst this
    rw [if_pos (by omega), if_pos (by omega)]
    show _ = 45 :: decDigits 1
    rw [decDigits_one (by omega)]
    rfl
  · rw [if_neg h0, if_neg h0]
theorem decDigits_step {u : Nat} (h : 10 ≤ u) : decDigits u = decDigits (u / 10) ++ [UInt8.ofNat (48 + u % 10)] := by
  rw [decDigits, dif_neg (by omega)]

/-- What the loop keeps: s is the end of N's digits, n what lies ahead of it. -/
def DG (w : World) (N : Int) (v0 v3 : Value) (wr : World) : Prop :=
  ∃ (n : Int) (s : ByteArray), 0 ≤ n ∧ n ≤ N ∧ v0 = .int .i64 n ∧ v3 = .string s ∧
    ((s.data.toList = [] ∧ n = N) ∨ (s.data.toList ≠ [] ∧ n = 0 ∧ s.data.toList = decDigits N.toNat) ∨ (s.data.toList ≠ [] ∧ 0 < n ∧ decDigits N.toNat = decDigits n.toNat ++ s.data.toList)) ∧ Below w.heap.size w wr
theorem dec_len {N : Int} (h0 : 0 ≤ N) (h1 : N ≤ 1099511627776) : (decDigits N.toNat).length ≤ 21 := by
  have := itoa_length_le N (by omega) (by omega)
  unfold itoa at this
  rw [if_neg (by omega)] at this
  omega
def digB (n : Int) : UInt8 := UInt8.ofNat (48 + n.toNat % 10)
theorem digB_toNat {n : Int} (h : 0 ≤ n) : ((digB n).toNat : Int) = 48 + n % 10 := by
  unfold digB
  rw [UInt8.toNat_ofNat']
  have : (48 + n.toNat % 10) % 256 = 48 + n.toNat % 10 := Nat.mod_eq_of_lt (by omega)
  show (((48 + n.toNat % 10) % 2 ^ 8 : Nat) : Int) = _
  rw [show (2 : Nat) ^ 8 = 256 from rfl, this]
  omega
theorem digB_conv {n : Int} (h : 0 ≤ n) (wr : World) : (convert 22 9 (.slice (some ⟨wr.heap.size, 0, none⟩) 1 1)).run Tryz.prog (wr.alloc (.cells #[.int .u8 (48 + n % 10)] 5)) = .ok (.string ⟨#[digB n]⟩) (wr.alloc (.cells #[.int .u8 (48 + n % 10)] 5)) := by
  have hb : BytesAt (wr.alloc (.cells #[.int .u8 (48 + n % 10)] 5)) wr.heap.size 1 [digB n] := by
    refine ⟨rfl, by simp, fun i hi => ?_⟩
    have : i = 0 := by omega
    subst this
    simp only [World.cell?, heap_alloc_new]
    rw [show ([digB n].getD 0 0) = digB n from rfl, digB_toNat h]
    rfl
  exact hb.str
theorem dec_more {n : Int} (h : 0 ≤ n) : (n < 10 ∧ decDigits n.toNat = [digB n]) ∨ (10 ≤ n ∧ decDigits n.toNat = decDigits (n / 10).toNat ++ [digB n]) := by
  unfold digB
  by_cases h1 : n < 10
  · refine .inl ⟨h1, ?_⟩
    rw [decDigits_one (by omega), Nat.mod_eq_of_lt (by omega)]
  · refine .inr ⟨by omega, ?_⟩
    rw [decDigits_step (by omega)]
    have : (n / 10).toNat = n.toNat / 10 := by omega
    rw [this]

set_option maxHeartbeats 2000000 in
set_option maxRecDepth 100000 in
theorem digits_calls (N : Int) (w : World) (h0 : -1 ≤ N) (h1 : N ≤ 1099511627776) :
    Calls Tryz.prog 39 #[.int .i64 N] w fun e w' => e = .returned (.string ⟨(itoa N).toArray⟩) ∧ Below w.heap.size w w' := by
  rw [← dig_itoa h0]
  by_cases hn : N < 0
  · have HD : Hid (dig N = [45, 49]) := by show dig N = _; unfold dig; rw [if_pos hn]
    go_enter Tryz.func39, Tryz.ntmps39
    go_wp2_with fail
    go_ret
    exact ⟨by rw [HD.out]; rfl, Below.refl _ _⟩
  · have HD : Hid (dig N = decDigits N.toNat) := by show dig N = _; unfold dig; rw [if_neg hn]
    have hdl := dec_len (N := N) (by omega) h1
    go_enter Tryz.func39, Tryz.ntmps39
    go_wp2_with fail
    go_loopw [0, 3] (fun v0 v3 wr => DG w N v0 v3 wr) (fun i s _ => (intOf i).toNat + (match s with | .string b => if b.size = 0 then 1 else 0 | _ => 0))
    case atStart => exact ⟨N, ⟨#[]⟩, by omega, by omega, rfl, rfl, .inl ⟨rfl, rfl⟩, Below.refl _ _⟩
    case round =>
      obtain ⟨n, s, hn0, hnN, rfl, rfl, hrel, hbr⟩ := hrel
      by_cases hB : s.data.toList ≠ [] ∧ n = 0
      · have he : s.toList.isEmpty = false := by
          rw [ByteArray.toList_eq]
          cases hl : s.data.toList with
          | nil => exact absurd hl hB.1
          | cons _ _ => rfl
        have hsd : Hid (s.data.toList = decDigits N.toNat) := by
          rcases hrel with ⟨h, _⟩ | ⟨_, _, h⟩ | ⟨_, h, _⟩
          · exact absurd h hB.1
          · exact h
          · omega
        have hn' := hB.2
        clear hrel hB
        go_wp2_with fail
        go_ret
        refine ⟨?_, hbr⟩
        rw [HD.out, ← hsd.out]; rfl
      · have hpre : decDigits N.toNat = decDigits n.toNat ++ s.data.toList := by
          rcases hrel with ⟨h, rfl⟩ | ⟨h, h2, _⟩ | ⟨_, _, h⟩
          · rw [h, List.append_nil]
          · exact absurd ⟨h, h2⟩ hB
          · exact h
        have hsl : s.size ≤ 21 := by
          have := congrArg List.length hpre
          rw [List.length_append] at this
          rw [ba_size]; omega
        have hgo : 0 < n ∨ (n ≤ 0 ∧ s.toList.isEmpty = true ∧ s.size = 0) := by
          by_cases h : 0 < n
          · exact .inl h
          · have h2 : s.data.toList = [] := by
              cases hl : s.data.toList with
              | nil => rfl
              | cons x r => exact absurd ⟨by rw [hl]; simp, by omega⟩ hB
            exact .inr ⟨by omega, by rw [ByteArray.toList_eq, h2]; rfl, by rw [ba_size, h2]; rfl⟩
        have hcv := digB_conv hn0 wr
        have hmr := dec_more hn0
        have HP := Lib.hid hpre
        have HM := Lib.hid hmr
        clear hrel hB hpre hmr
        have hrl : Hid (DG w N (.int .i64 (n / 10)) (.string (⟨#[digB n]⟩ ++ s)) (wr.alloc (.cells #[.int .u8 (48 + n % 10)] 5))) := by
          have hcat : (⟨#[digB n]⟩ ++ s : ByteArray).data.toList = [digB n] ++ s.data.toList := ba_append _ _
          refine ⟨n / 10, _, by omega, by omega, rfl, rfl, ?_, hbr.alloc hbr.size _⟩
          rcases HM.out with ⟨hlt, hd⟩ | ⟨hge, hd⟩
          · refine .inr (.inl ⟨by rw [hcat]; simp, by omega, ?_⟩)
            rw [hcat, HP.out, hd]
          · refine .inr (.inr ⟨by rw [hcat]; simp, by omega, ?_⟩)
            rw [hcat, HP.out, hd, List.append_assoc]
        have hsz1 : (⟨#[digB n]⟩ ++ s : ByteArray).size ≠ 0 := by
          rw [ba_size, ba_append]; simp
        have HZ := Lib.hid hsz1
        clear hsz1
        have hne : Hid ((⟨#[digB n]⟩ : ByteArray) ≠ ByteArray.empty) := by
          intro h
          have := congrArg ByteArray.size h
          have h2 : (1 : Nat) = 0 := this
          omega
        rcases hgo with hgo | ⟨hgo, hem, hs0⟩
        · go_wp2_with fail
          go_roundw
          case rel => exact hrl.out
          case measure => simp [intOf, hne.out]; split <;> omega
        · go_wp2_with fail
          go_roundw
          case rel => exact hrl.out
          case measure =>
            have hse : s = ByteArray.empty := ba_ext (by rw [ba_size] at hs0; rw [List.eq_nil_of_length_eq_zero hs0]; rfl)
            simp [intOf, hne.out, hse]; omega

end Go.Proofs.YtomnmgmehagjfaaGreatDoor.Ck
