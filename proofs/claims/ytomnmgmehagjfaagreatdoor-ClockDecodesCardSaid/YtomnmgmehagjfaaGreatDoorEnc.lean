/-
  The clock's text: line, Encode.
  No condition: lemmas.
-/
import Derived.Test.YtomnmgmehagjfaaGreatDoorSorted
import Derived.Test.YtomnmgmehagjfaaGreatDoorActs
import Derived.Test.YtomnmgmehagjfaaGreatDoorNums
import Derived.Test.YtomnmgmehagjfaaGreatDoorWLast
import Derived.Shelf.Unicode.PredsPay
import Derived.Lib.ItoaLen
import Derived.OpenShut
import Derived.WalkArith
namespace Go.Proofs.YtomnmgmehagjfaaGreatDoor.Ck
open Go Go.RowKit Go.Maps Go.Shelf Go.Lib Go.Proofs.YtomnmgmehagjfaaGreatDoorW.PrintLast
set_option linter.unusedVariables false
set_option linter.unusedSimpArgs false

/-- The table of powers of ten lies as its text lays it. -/
def Tab (w : World) : Prop := TabIs Tryz.prog w "internal/strconv.uint64pow10" .u64 pow10Tab
theorem Tab.below {w w' : World} (h : Tab w) (hb : Below w.heap.size w w') : Tab w' := by
  cases hg : Tryz.prog.globalNamed "internal/strconv.uint64pow10" with
  | none =>
    unfold Tab TabIs World.var? at h
    rw [hg] at h
    cases h
  | some g => exact Go.Proofs.TabIs_below hg h hb
theorem below_grow {B : Nat} {a w : World} (h : Below B a w) (hB : B ≤ w.heap.size) (k : Nat) (os : Array Obj) : Below B a (Go.Sort.grow (w.drewN k) os) :=
  h.trans ⟨rfl, rfl, rfl, by simp [Go.Sort.grow, World.drewN], fun i hi => by
    show (w.heap ++ os)[i]? = _
    rw [Array.getElem?_append_left (by omega)]⟩
theorem itoa_calls (n : Int) (h0 : -9223372036854775808 ≤ n) (h1 : n ≤ 9223372036854775807) (w : World) (hT : Tab w) :
    Calls Tryz.prog 42 #[.int .i64 n] w fun e w' => e = .returned (.string ⟨(itoa n).toArray⟩) ∧ Below w.heap.size w w' :=
  (Tryz.strconv_Itoa n h0 h1 w hT).mono (by
    rintro e w' ⟨rfl, k, os, rfl⟩
    exact ⟨rfl, below_grow (Below.refl _ _) (Nat.le_refl _) _ _⟩)

def numsB (acc : List UInt8) (l : List Int) : List UInt8 := l.foldl (fun acc v => acc ++ (32 :: itoa v)) acc
def lineB (word : List UInt8) (l : List Int) : List UInt8 := numsB word l ++ [10]
theorem numsB_snoc (acc : List UInt8) (l : List Int) (v : Int) : numsB acc (l ++ [v]) = numsB acc l ++ (32 :: itoa v) := by simp [numsB, List.foldl_append]
theorem numsB_length (acc : List UInt8) : ∀ (l : List Int), (∀ v ∈ l, -9223372036854775808 ≤ v ∧ v ≤ 9223372036854775807) → (numsB acc l).length ≤ acc.length + 22 * l.length := by
  intro l
  induction l generalizing acc with
  | nil => intro _; simp [numsB]
  | cons v r ih =>
    intro h
    have h1 := ih (acc ++ (32 :: itoa v)) (fun x hx => h x (by simp [hx]))
    have h2 := itoa_length_le v (h v (by simp)).1 (h v (by simp)).2
    show (numsB (acc ++ (32 :: itoa v)) r).length ≤ _
    simp only [List.length_append, List.length_cons] at h1 ⊢
    omega

theorem ba_append (s t : ByteArray) : (s ++ t).data.toList = s.data.toList ++ t.data.toList := by simp
theorem ba_size (s : ByteArray) : s.size = s.data.toList.length := by simp

def LL (w : World) (n : Nat) (word : List UInt8) (l : List Int) (v0 v9 : Value) (wr : World) : Prop :=
  ∃ (k : Nat) (s : ByteArray), k ≤ n ∧ v9 = .int .i64 k ∧ v0 = .string s ∧ s.data.toList = numsB word (l.take k) ∧ s.size ≤ word.length + 22 * k ∧ Below w.heap.size w wr

theorem ba_ext {s t : ByteArray} (h : s.data.toList = t.data.toList) : s = t := by
  cases s; cases t
  simp only at h
  congr 1
  exact Array.ext' h
theorem ret_str {s t : ByteArray} (h : s.data.toList = t.data.toList) : Ending.returned (.string s) = .returned (.string t) := by rw [ba_ext h]

set_option maxHeartbeats 2000000 in
set_option maxRecDepth 100000 in
theorem line_calls (word : ByteArray) (A : Option Addr) (n cap : Nat) (l : List Int) (w : World) (hw : word.size ≤ 100000) (h : Ints .i64 w A l) (hl : l.length = n) (hn : n ≤ 1000) (hT : Tab w) :
    Calls Tryz.prog 26 #[.string word, .slice A n cap] w fun e w' => e = .returned (.string ⟨(lineB word.data.toList l).toArray⟩) ∧ Below w.heap.size w w' := by
  have HL := Lib.hid hl
  have HA := Lib.hid h
  have HT := Lib.hid hT
  clear hl h hT
  go_enter Tryz.func26, Tryz.ntmps26
  go_wp2_with fail
  go_loopw [0, 9] (fun v0 v9 wr => LL w n word.data.toList l v0 v9 wr) (fun _ i _ => n - (intOf i).toNat)
  case atStart => exact ⟨0, word, Nat.zero_le _, rfl, rfl, by simp [numsB], by simp, Below.refl _ _⟩
  case round =>
    obtain ⟨k, s, hk, rfl, rfl, hs, hsz, hbr⟩ := hrel
    have hwl : word.data.toList.length = word.size := by simp
    rw [hwl] at hsz
    by_cases hlt : k < n
    · have hlk : k < l.length := by rw [HL.out]; exact hlt
      obtain ⟨x, hx⟩ : ∃ x, l[k]? = some x := ⟨_, List.getElem?_eq_getElem hlk⟩
      obtain ⟨B, O, rfl, hB, hwf, h0⟩ := (HA.out.below hbr) k x hx
      have htk : l.take (k + 1) = l.take k ++ [x] := by rw [List.take_add_one, hx]; rfl
      obtain ⟨hx0, hx1⟩ := bounds_i64 hwf
      have hil := itoa_length_le x (by omega) (by omega)
      have HS := Lib.hid hs
      have HTK := Lib.hid htk
      clear hx htk hlk hs hwl
      clear hwf
      go_wp2_with (go_at_call 42; refine (itoa_calls x (by omega) (by omega) _ (HT.out.below hbr)).mono ?_; rintro e w1 ⟨rfl, hb1⟩)
      go_roundw
      case rel =>
        refine ⟨k + 1, _, by omega, by go_num, rfl, ?_, ?_, hbr.trans (hb1.mono hbr.size)⟩
        · rw [HTK.out, numsB_snoc, ← HS.out, ba_append, ba_append]; rfl
        · rw [ba_size, ba_append, ba_append]
          rw [ba_size] at hsz
          simp only [List.length_append]
          have e1 : ((⟨#[32]⟩ : ByteArray).data.toList).length = 1 := rfl
          have e2 : ((⟨(itoa x).toArray⟩ : ByteArray).data.toList).length = (itoa x).length := by simp
          rw [e1, e2]
          rw [← ba_size]
          rw [← ba_size] at hsz
          have hwl : word.data.toList.length = word.size := by simp
          rw [hwl]
          omega
      case measure => simp [intOf]; omega
    · have hkn : k = n := by omega
      have HS : Hid (s.data.toList = numsB word.data.toList l) := by
        have := hs
        rw [hkn, ← HL.out, List.take_length] at this
        exact this
      clear hs hkn hwl
      go_wp2
      go_ret
      refine ⟨ret_str ?_, hbr⟩
      rw [ba_append, HS.out]; rfl

/-! ### Encode -/
def entsB (acc : List UInt8) (L : List Ent) : List UInt8 := L.foldl (fun acc e => acc ++ lineB e.1 [e.2.1, e.2.2]) acc
def encB (c : Ck) : List UInt8 := entsB (lineB [99, 108, 111, 99, 107] [c.slack, c.idle, c.now, c.mark]) c.L
theorem entsB_snoc (acc : List UInt8) (L : List Ent) (e : Ent) : entsB acc (L ++ [e]) = entsB acc L ++ lineB e.1 [e.2.1, e.2.2] := by simp [entsB, List.foldl_append]

end Go.Proofs.YtomnmgmehagjfaaGreatDoor.Ck
