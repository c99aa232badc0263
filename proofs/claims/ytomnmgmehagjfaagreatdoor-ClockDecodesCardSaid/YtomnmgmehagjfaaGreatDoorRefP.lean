/-
  The reference's clock in plain Lean: places in a row that rises, what it tells, its names.
  No condition: lemmas.
-/
import Derived.Test.YtomnmgmehagjfaaGreatDoorSorted
import Derived.WideShapes
import Derived.Laws.RangeAny
import Derived.Lib.ItoaNum
namespace Go.Proofs.YtomnmgmehagjfaaGreatDoor.Ck
open Go Go.RowKit Go.Maps Go.Shelf Go.Lib Go.WideAt Go.WideShapes
set_option linter.unusedVariables false
set_option linter.unusedSimpArgs false

/-! ### places -/
def pl (L : List Ent) (s : List UInt8) : Nat := (L.takeWhile fun e => bytesBefore e.1 s).length
theorem pl_le : ∀ (L : List Ent) (s : List UInt8), pl L s ≤ L.length
  | [], _ => by simp [pl]
  | y :: r, s => by
    have := pl_le r s
    unfold pl at this ⊢
    rw [List.takeWhile_cons]
    split <;> simp <;> omega
theorem pl_cons_lt {y : Ent} {r : List Ent} {s : List UInt8} (h : bytesBefore y.1 s = true) : pl (y :: r) s = pl r s + 1 := by
  unfold pl; rw [List.takeWhile_cons, if_pos h]; rfl
theorem pl_cons_ge {y : Ent} {r : List Ent} {s : List UInt8} (h : bytesBefore y.1 s = false) : pl (y :: r) s = 0 := by
  unfold pl; rw [List.takeWhile_cons, h]; rfl
theorem get_cons (y : Ent) (r : List Ent) (s : List UInt8) : get (y :: r) s = if y.1 == s then some y.2 else get r s := by
  unfold get; rw [List.find?_cons]; cases y.1 == s <;> rfl
theorem before_ne {a b : List UInt8} (h : bytesBefore a b = true) : (a == b) = false := by
  rw [beq_eq_false_iff_ne]; rintro rfl; rw [bytes_irrefl] at h; cases h
theorem before_asymm {a b : List UInt8} (h : bytesBefore a b = true) : bytesBefore b a = false := by
  cases hb : bytesBefore b a
  · rfl
  · have := bytes_trans _ _ _ h hb; rw [bytes_irrefl] at this; cases this
theorem Rising.tail {y : Ent} {r : List Ent} (h : Rising (y :: r)) : Rising r := (List.pairwise_cons.1 h).2
theorem Rising.head {y : Ent} {r : List Ent} (h : Rising (y :: r)) : ∀ e ∈ r, bytesBefore y.1 e.1 = true := (List.pairwise_cons.1 h).1
theorem get_above {L : List Ent} {s : List UInt8} (h : ∀ e ∈ L, bytesBefore s e.1 = true) : get L s = none := by
  unfold get
  rw [Option.map_eq_none_iff, List.find?_eq_none]
  intro e he
  have := before_ne (h e he)
  rw [beq_eq_false_iff_ne] at this
  simp only [beq_iff_eq]
  exact fun e => this e.symm
theorem filter_above {L : List Ent} {s : List UInt8} (h : ∀ e ∈ L, bytesBefore s e.1 = true) : L.filter (fun e => !(e.1 == s)) = L := by
  rw [List.filter_eq_self]
  intro e he
  have := before_ne (h e he)
  rw [beq_eq_false_iff_ne] at this
  simp only [Bool.not_eq_true', beq_eq_false_iff_ne]
  exact fun e => this e.symm
theorem ins_above {L : List Ent} {x : Ent} (h : ∀ e ∈ L, bytesBefore x.1 e.1 = true) : ins x L = x :: L := by
  cases L with
  | nil => rfl
  | cons y r => unfold ins; rw [if_pos (h y (by simp))]
theorem place_some : ∀ {L : List Ent} {s : List UInt8} {v : Int × Int}, Rising L → get L s = some v → L[pl L s]? = some (s, v) ∧ put L s v = L
  | [], s, v, _, h => by simp [get] at h
  | y :: r, s, v, hr, h => by
    rw [get_cons] at h
    cases hb : bytesBefore y.1 s with
    | true =>
      rw [before_ne hb] at h
      obtain ⟨h1, h2⟩ := place_some hr.tail h
      rw [pl_cons_lt hb]
      refine ⟨by simpa using h1, ?_⟩
      unfold put at h2 ⊢
      rw [List.filter_cons, before_ne hb]
      simp only [Bool.not_false, if_true]
      unfold ins
      rw [if_neg (by rw [before_asymm hb]; simp), h2]
    | false =>
      rw [pl_cons_ge hb]
      cases he : y.1 == s with
      | true =>
        rw [he] at h
        simp only [if_true, Option.some.injEq] at h
        subst h
        have he' : y.1 = s := by simpa using he
        subst he'
        refine ⟨rfl, ?_⟩
        unfold put
        rw [List.filter_cons]
        simp only [he, Bool.not_true, Bool.false_eq_true, if_false]
        rw [filter_above hr.head, ins_above hr.head]
      | false =>
        rw [he] at h
        have hs : bytesBefore s y.1 = true := by
          rcases bytes_total s y.1 (fun e => by subst e; simp at he) with h1 | h1
          · exact h1
          · rw [hb] at h1; cases h1
        rw [if_neg (by simp), get_above (fun e h2 => bytes_trans _ _ _ hs (hr.head e h2))] at h
        cases h
theorem put_some : ∀ {L : List Ent} {s : List UInt8} (v u : Int × Int), Rising L → get L s = some v → put L s u = L.set (pl L s) (s, u)
  | [], s, v, _, _, h => by simp [get] at h
  | y :: r, s, v, u, hr, h => by
    rw [get_cons] at h
    cases hb : bytesBefore y.1 s with
    | true =>
      rw [before_ne hb] at h
      have h2 := put_some v u hr.tail h
      rw [pl_cons_lt hb]
      unfold put at h2 ⊢
      rw [List.filter_cons, before_ne hb]
      simp only [Bool.not_false, if_true]
      unfold ins
      rw [if_neg (by rw [before_asymm hb]; simp), h2]
      rfl
    | false =>
      rw [pl_cons_ge hb]
      cases he : y.1 == s with
      | true =>
        have he' : y.1 = s := by simpa using he
        subst he'
        unfold put
        rw [List.filter_cons]
        simp only [he, Bool.not_true, Bool.false_eq_true, if_false]
        rw [filter_above hr.head, ins_above (x := (y.1, u)) hr.head]
        rfl
      | false =>
        rw [he] at h
        have hs : bytesBefore s y.1 = true := by
          rcases bytes_total s y.1 (fun e => by subst e; simp at he) with h1 | h1
          · exact h1
          · rw [hb] at h1; cases h1
        rw [if_neg (by simp), get_above (fun e h2 => bytes_trans _ _ _ hs (hr.head e h2))] at h
        cases h
theorem put_none : ∀ {L : List Ent} {s : List UInt8} (u : Int × Int), Rising L → get L s = none → put L s u = L.take (pl L s) ++ (s, u) :: L.drop (pl L s)
  | [], s, _, _, h => by simp [put, pl, ins]
  | y :: r, s, u, hr, h => by
    rw [get_cons] at h
    cases hb : bytesBefore y.1 s with
    | true =>
      rw [before_ne hb] at h
      have h2 := put_none u hr.tail h
      rw [pl_cons_lt hb]
      unfold put at h2 ⊢
      rw [List.filter_cons, before_ne hb]
      simp only [Bool.not_false, if_true]
      unfold ins
      rw [if_neg (by rw [before_asymm hb]; simp), h2]
      rfl
    | false =>
      rw [pl_cons_ge hb]
      cases he : y.1 == s with
      | true => rw [he] at h; cases h
      | false =>
        have hs : bytesBefore s y.1 = true := by
          rcases bytes_total s y.1 (fun e => by subst e; simp at he) with h1 | h1
          · exact h1
          · rw [hb] at h1; cases h1
        have hall : ∀ e ∈ y :: r, bytesBefore s e.1 = true := fun e h2 => by
          rcases List.mem_cons.1 h2 with rfl | h2
          · exact hs
          · exact bytes_trans _ _ _ hs (hr.head e h2)
        unfold put
        rw [filter_above hall, ins_above hall]
        rfl
/-- Where a walk up the row stops. -/
theorem place_stop : ∀ {L : List Ent} {s : List UInt8} {k : Nat}, k ≤ L.length → (∀ j e, j < k → L[j]? = some e → bytesBefore e.1 s = true) → (∀ e, L[k]? = some e → bytesBefore e.1 s = false) → k = pl L s
  | [], s, k, hk, _, _ => by simp at hk; subst hk; rfl
  | y :: r, s, 0, _, _, h => by rw [pl_cons_ge (h y rfl)]
  | y :: r, s, k + 1, hk, h1, h2 => by
    rw [pl_cons_lt (h1 0 y (by omega) rfl)]
    rw [← place_stop (L := r) (s := s) (k := k) (by simpa using hk) (fun j e hj he => h1 (j + 1) e (by omega) (by simpa using he)) (fun e he => h2 e (by simpa using he))]
theorem place_found : ∀ {L : List Ent} {s : List UInt8}, Rising L → (get L s).isSome = (match L[pl L s]? with | some e => e.1 == s | none => false)
  | L, s, hr => by
    cases hg : get L s with
    | some v => rw [(place_some hr hg).1]; simp
    | none =>
      cases he : L[pl L s]? with
      | none => rfl
      | some e =>
        cases hb : e.1 == s with
        | false => simp [hb]
        | true =>
          have hm := List.mem_of_getElem? he
          unfold get at hg
          rw [Option.map_eq_none_iff, List.find?_eq_none] at hg
          exact absurd hb (hg e hm)

theorem rising_ins {x : Ent} : ∀ {L : List Ent}, Rising L → (∀ e ∈ L, e.1 ≠ x.1) → Rising (ins x L)
  | [], _, _ => List.pairwise_singleton _ _
  | y :: r, hr, hn => by
    unfold ins
    split
    · rename_i hb
      refine List.pairwise_cons.2 ⟨fun e he => ?_, hr⟩
      rcases List.mem_cons.1 he with rfl | he
      · exact hb
      · exact bytes_trans _ _ _ hb (hr.head e he)
    · rename_i hb
      have hyx : bytesBefore y.1 x.1 = true := by
        rcases bytes_total y.1 x.1 (hn y (by simp)) with h1 | h1
        · exact h1
        · exact absurd h1 hb
      refine List.pairwise_cons.2 ⟨fun e he => ?_, rising_ins hr.tail (fun e he => hn e (by simp [he]))⟩
      rcases mem_ins.1 he with rfl | he
      · exact hyx
      · exact hr.head e he
theorem rising_put {L : List Ent} (hr : Rising L) (s : List UInt8) (v : Int × Int) : Rising (put L s v) := by
  unfold put
  refine rising_ins (List.Pairwise.filter _ hr) (fun e he => ?_)
  have := (List.mem_filter.1 he).2
  simpa using this

/-! ### what is told -/
def minT (m : Option Int) (a : Int) : Option Int := match m with | none => some a | some m => some (if a < m then a else m)
theorem least_snoc (idle now : Int) (e : Ent) : ∀ L : List Ent, least idle now (L ++ [e]) = if activeB idle now e.2.2 then minT (least idle now L) e.2.1 else least idle now L
  | [] => by simp [least, minT]
  | y :: r => by
    have ih := least_snoc idle now e r
    simp only [List.cons_append, least]
    rw [ih]
    cases activeB idle now e.2.2 <;> cases activeB idle now y.2.2 <;> simp [minT]
    cases least idle now r with
    | none => simp only [Option.some.injEq]; split <;> split <;> omega
    | some m => simp only [Option.some.injEq]; repeat (split <;> try omega)
def tellV (c : Ck) : Int := match least c.idle c.now c.L with | none => -2 | some m => if m - c.slack - 1 < -2 then -2 else m - c.slack - 1
theorem rise_tell (c : Ck) (h : -1 ≤ c.mark) : rise c = { c with mark := max c.mark (tellV c) } := by
  unfold rise tellV
  cases least c.idle c.now c.L with
  | none => have : max c.mark (-2) = c.mark := by omega
            rw [this]
  | some m =>
    simp only
    split
    · have : max c.mark (m - c.slack - 1) = max c.mark (-2) := by omega
      rw [this]
    · rfl

/-! ### names -/
theorem toNat_idx {oddP : Nat → Bool} (h128 : ∀ r, 128 ≤ r → oddP r = true) (s : ByteArray) : ∀ (f pos : Nat), s.size ≤ pos + f → (decide (idxFuncFrom oddP true s f pos < 0) = true ↔ ∀ i (h : i < s.size), pos ≤ i → oddP (s[i]'h).toNat = false)
  | 0, pos, hp => by
    simp only [idxFuncFrom, decide_eq_true_eq]
    exact ⟨fun _ i h hi => by omega, fun _ => by simp⟩
  | f + 1, pos, hp => by
    unfold idxFuncFrom
    by_cases hlt : pos < s.size
    · rw [if_pos hlt]
      by_cases ha : (s[pos]'hlt).toNat < 128
      · rw [decode_ascii s pos hlt ha]
        simp only
        by_cases ho : oddP (s[pos]'hlt).toNat = true
        · rw [if_pos ho]
          simp only [decide_eq_true_eq]
          exact ⟨fun h => by omega, fun h => by have := h pos hlt (Nat.le_refl _); rw [ho] at this; cases this⟩
        · rw [if_neg ho, toNat_idx h128 s f (pos + 1) (by omega)]
          constructor
          · intro h i hi hpi
            by_cases e : i = pos
            · subst e; simpa using ho
            · exact h i hi (by omega)
          · intro h i hi hpi; exact h i hi (by omega)
      · have hd := decode_high s pos hlt (by omega)
        rw [if_pos (h128 _ hd.1)]
        simp only [decide_eq_true_eq]
        exact ⟨fun h => by omega, fun h => by have := h pos hlt (Nat.le_refl _); rw [h128 _ (by omega)] at this; cases this⟩
    · rw [if_neg hlt]
      simp only [decide_eq_true_eq]
      exact ⟨fun _ i h hi => by omega, fun _ => by decide⟩
theorem oddB_high (r : Nat) (h : 128 ≤ r) : oddB r = true := by
  unfold oddB
  have h1 : decide (122 < r) = true := decide_eq_true (by omega)
  have h2 : decide (57 < r) = true := decide_eq_true (by omega)
  have h3 : (r != 45) = true := by simp; omega
  rw [h1, h2, h3]; simp
theorem nameB_iff (s : ByteArray) : nameB s = true ↔ 1 ≤ s.size ∧ s.size ≤ 24 ∧ ∀ i (h : i < s.size), oddB (s[i]'h).toNat = false := by
  unfold nameB idxFunc
  simp only [Bool.and_eq_true]
  rw [toNat_idx oddB_high s s.size 0 (by omega)]
  simp only [decide_eq_true_eq]
  exact ⟨fun h => ⟨h.1.1, h.1.2, fun i hi => h.2 i hi (Nat.zero_le _)⟩, fun h => ⟨⟨h.1, h.2.1⟩, fun i hi _ => h.2.2 i hi⟩⟩
theorem nameB_odd {s : ByteArray} {i : Nat} (h : i < s.size) (ho : oddB (s[i]'h).toNat = true) : nameB s = false := by
  cases hn : nameB s
  · rfl
  · have := ((nameB_iff s).1 hn).2.2 i h; rw [ho] at this; cases this
theorem nameB_all {s : ByteArray} (h : ∀ i (h : i < s.size), oddB (s[i]'h).toNat = false) : nameB s = (decide (1 ≤ s.size) && decide (s.size ≤ 24)) := by
  rw [Bool.eq_iff_iff, nameB_iff]
  simp only [Bool.and_eq_true, decide_eq_true_eq]
  exact ⟨fun h => ⟨h.1, h.2.1⟩, fun g => ⟨g.1, g.2, h⟩⟩

/-! ### the order of texts -/
theorem less_before : ∀ (a b : List UInt8), Op.bytesLess a b = bytesBefore a b
  | [], [] => rfl
  | _ :: _, [] => rfl
  | [], _ :: _ => rfl
  | a :: r, b :: s => by simp [Op.bytesLess, bytesBefore, less_before r s]

end Go.Proofs.YtomnmgmehagjfaaGreatDoor.Ck
