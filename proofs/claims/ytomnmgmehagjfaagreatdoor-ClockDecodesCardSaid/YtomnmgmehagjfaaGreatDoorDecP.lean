/-
  Decode in plain Lean: lines, numbers, the clock of a text; a clock's own text is decoded to it.
  No condition: definitions and lemmas.
-/
import Derived.Test.YtomnmgmehagjfaaGreatDoorSplitP
import Derived.Test.YtomnmgmehagjfaaGreatDoorEnc
import Derived.Lib.AtoiAll
import Derived.Lib.AtoiTie
namespace Go.Proofs.YtomnmgmehagjfaaGreatDoor.Ck
open Go Go.Lib
set_option linter.unusedVariables false
set_option linter.unusedSimpArgs false

/-! ### a text between signs -/
def parts (c : UInt8) : List UInt8 → List (List UInt8)
  | [] => [[]]
  | b :: r => if b == c then [] :: parts c r else match parts c r with
    | [] => [[b]]
    | h :: t => (b :: h) :: t
theorem parts_ne (c : UInt8) : ∀ s, parts c s ≠ []
  | [] => by simp [parts]
  | b :: r => by
    unfold parts
    split
    · simp
    · split <;> simp
theorem parts_cons_eq {c : UInt8} (r : List UInt8) : parts c (c :: r) = [] :: parts c r := by
  show (if (c == c) = true then _ else _) = _
  simp
theorem parts_cons_ne {b c : UInt8} (h : (b == c) = false) {r x : List UInt8} {t : List (List UInt8)} (hr : parts c r = x :: t) : parts c (b :: r) = (b :: x) :: t := by
  show (if (b == c) = true then _ else _) = _
  rw [h, hr]; rfl
theorem parts_not (c : UInt8) : ∀ s, ∀ w ∈ parts c s, c ∉ w
  | [], w, hw => by simp only [parts, List.mem_singleton] at hw; subst hw; simp
  | b :: r, w, hw => by
    cases hb : b == c with
    | true =>
      have : b = c := by simpa using hb
      subst this
      rw [parts_cons_eq] at hw
      rcases List.mem_cons.1 hw with rfl | hw
      · simp
      · exact parts_not b r w hw
    | false =>
      obtain ⟨x, t, hx⟩ := List.exists_cons_of_ne_nil (parts_ne c r)
      rw [parts_cons_ne hb hx] at hw
      have ih := parts_not c r
      rw [hx] at ih
      rcases List.mem_cons.1 hw with rfl | hw
      · intro hc
        rcases List.mem_cons.1 hc with rfl | hc
        · simp at hb
        · exact ih x (by simp) hc
      · exact ih w (by simp [hw])
theorem join_parts (c : UInt8) : ∀ s, joinC c (parts c s) = s
  | [] => rfl
  | b :: r => by
    have ih := join_parts c r
    obtain ⟨x, t, hx⟩ := List.exists_cons_of_ne_nil (parts_ne c r)
    rw [hx] at ih
    cases hb : b == c with
    | true =>
      have : b = c := by simpa using hb
      subst this
      rw [parts_cons_eq, hx]
      show [] ++ b :: joinC b (x :: t) = _
      rw [ih]; rfl
    | false =>
      rw [parts_cons_ne hb hx]
      cases t with
      | nil => simp only [joinC] at ih ⊢; rw [ih]
      | cons y t => simp only [joinC] at ih ⊢; rw [List.cons_append, ih]
theorem split_parts (c : UInt8) (s : List UInt8) : split s [c] = parts c s := by
  have := split_join c (parts c s) (parts_ne c s) (parts_not c s)
  rwa [join_parts] at this
theorem parts_join (c : UInt8) {ws : List (List UInt8)} (h : ws ≠ []) (hn : ∀ w ∈ ws, c ∉ w) : parts c (joinC c ws) = ws := by
  rw [← split_parts]; exact split_join c ws h hn
def sumLen : List (List UInt8) → Nat
  | [] => 0
  | w :: r => w.length + 1 + sumLen r
theorem join_length (c : UInt8) : ∀ {ws : List (List UInt8)}, ws ≠ [] → (joinC c ws).length + 1 = sumLen ws
  | [], h => absurd rfl h
  | [w], _ => by simp [joinC, sumLen]
  | w :: x :: r, _ => by
    have ih := join_length c (ws := x :: r) (by simp)
    simp only [joinC, sumLen, List.length_append, List.length_cons] at ih ⊢
    omega
theorem parts_sum (c : UInt8) (s : List UInt8) : sumLen (parts c s) = s.length + 1 := by
  rw [← join_length c (parts_ne c s), join_parts]
theorem sumLen_ge : ∀ (ws : List (List UInt8)), ws.length ≤ sumLen ws
  | [] => by simp [sumLen]
  | w :: r => by have := sumLen_ge r; simp only [sumLen, List.length_cons]; omega
theorem parts_length_le (c : UInt8) (s : List UInt8) : (parts c s).length ≤ s.length + 1 := by
  rw [← parts_sum c s]; exact sumLen_ge _

theorem sumLen_mem {ws : List (List UInt8)} {x : List UInt8} (h : x ∈ ws) : x.length + 1 ≤ sumLen ws := by
  induction ws with
  | nil => cases h
  | cons w r ih =>
    simp only [sumLen]
    rcases List.mem_cons.1 h with rfl | h
    · omega
    · have := ih h; omega

/-! ### lines -/
/-- The numbers that words spell; none: one is no number. -/
def numsOf : List (List UInt8) → Option (List Int)
  | [] => some []
  | w :: r => match atoiAll w with
    | .ok v => (numsOf r).map (v :: ·)
    | _ => none
/-- A line's word and numbers, as many as are asked for. -/
def nextOf (cnt : Nat) (s : List UInt8) : Option (List UInt8 × List Int) :=
  match parts 32 s with
  | [] => none
  | w :: r => match numsOf r with
    | some l => if l.length = cnt then some (w, l) else none
    | none => none
/-- The entries that lines tell. -/
def decL : List (List UInt8) → List Ent → Option (List Ent)
  | [], L => some L
  | s :: r, L => match nextOf 2 s with
    | some (w, [a, n]) => decL r (put L w (a, n))
    | _ => none
def fineT (c : Ck) : Bool := !toldB c || decide (toldV c ≤ c.mark)
def goodE (now : Int) (e : Ent) : Bool := nameB ⟨e.1.toArray⟩ && may e.2.1 && may e.2.2 && decide (e.2.2 ≤ now)
def fineH (c : Ck) : Bool := may c.slack && may c.idle && may c.now && (c.mark == -1 || may c.mark)
def fineB (c : Ck) : Bool := fineH c && c.L.all (goodE c.now) && fineT c
/-- The clock of a text. -/
def decB (s : List UInt8) : Option Ck :=
  match parts 10 s with
  | [] => none
  | f :: rest => match nextOf 4 f with
    | some (_, [a, b, c, d]) => match decL rest.dropLast [] with
      | some L => if fineB ⟨a, b, c, d, L⟩ && (encB ⟨a, b, c, d, L⟩ == s) then some ⟨a, b, c, d, L⟩ else none
      | none => none
    | _ => none

theorem numsOf_length : ∀ {ws : List (List UInt8)} {l : List Int}, numsOf ws = some l → l.length = ws.length
  | [], l, h => by simp only [numsOf, Option.some.injEq] at h; subst h; rfl
  | w :: r, l, h => by
    simp only [numsOf] at h
    split at h
    · cases hr : numsOf r with
      | none => rw [hr] at h; cases h
      | some m => rw [hr] at h; simp only [Option.map_some, Option.some.injEq] at h; subst h; simp [numsOf_length hr]
    · cases h
theorem nextOf_length {cnt : Nat} {s w : List UInt8} {l : List Int} (h : nextOf cnt s = some (w, l)) : l.length = cnt ∧ cnt ≤ s.length := by
  unfold nextOf at h
  cases hp : parts 32 s with
  | nil => exact absurd hp (parts_ne _ _)
  | cons x r =>
    rw [hp] at h
    simp only at h
    cases hn : numsOf r with
    | none => rw [hn] at h; cases h
    | some m =>
      rw [hn] at h
      simp only at h
      split at h
      · rename_i hm
        simp only [Option.some.injEq, Prod.mk.injEq] at h
        obtain ⟨_, rfl⟩ := h
        have h1 := numsOf_length hn
        have h2 := parts_length_le 32 s
        rw [hp] at h2
        simp only [List.length_cons] at h2
        exact ⟨hm, by omega⟩
      · cases h
theorem decL_length : ∀ {ws : List (List UInt8)} {L M : List Ent}, decL ws L = some M → M.length ≤ L.length + ws.length ∧ 3 * ws.length ≤ sumLen ws
  | [], L, M, h => by simp only [decL, Option.some.injEq] at h; subst h; simp [sumLen]
  | s :: r, L, M, h => by
    unfold decL at h
    split at h
    · rename_i w a n hn
      have h1 := nextOf_length hn
      have h2 := decL_length h
      have h3 := put_length L w (a, n)
      simp only [List.length_cons, sumLen] at h1 ⊢
      omega
    · cases h

/-! ### a clock's own text -/
theorem dec_len_le : ∀ (k u : Nat), 1 ≤ k → u < 10 ^ k → (decDigits u).length ≤ k
  | 0, _, h, _ => by omega
  | k + 1, u, _, hu => by
    by_cases h : u < 10
    · rw [decDigits_one h]; simp
    · rw [decDigits_step (by omega), List.length_append]
      have hk : 1 ≤ k := by
        cases k with
        | zero => simp at hu; omega
        | succ k => omega
      have := dec_len_le k (u / 10) hk (by rw [Nat.pow_succ] at hu; omega)
      simp only [List.length_cons, List.length_nil]; omega
theorem itoa_len_small {v : Int} (h0 : -1 ≤ v) (h1 : v ≤ 1099511627776) : (itoa v).length ≤ 18 := by
  unfold itoa
  split
  · have : v.natAbs < 10 ^ 1 := by omega
    have := dec_len_le 1 v.natAbs (by omega) this
    simp only [List.length_cons]; omega
  · have : v.toNat < 10 ^ 13 := by omega
    have := dec_len_le 13 v.toNat (by omega) this
    omega
theorem numsOf_itoa : ∀ (l : List Int), (∀ v ∈ l, -1 ≤ v ∧ v ≤ 1099511627776) → numsOf (l.map itoa) = some l
  | [], _ => rfl
  | v :: r, h => by
    have hv := h v (by simp)
    have h1 : atoiAll (itoa v) = .ok v := by
      rw [atoiAll_short _ (itoa_len_small hv.1 hv.2), atoi_itoa hv.1]
      rfl
    simp only [List.map_cons, numsOf, h1, numsOf_itoa r (fun x hx => h x (by simp [hx])), Option.map_some]
theorem joinC_append (c : UInt8) : ∀ (ws : List (List UInt8)) (x : List UInt8), ws ≠ [] → joinC c (ws ++ [x]) = joinC c ws ++ c :: x
  | [], _, h => absurd rfl h
  | [w], x, _ => rfl
  | w :: y :: r, x, _ => by
    have ih := joinC_append c (y :: r) x (by simp)
    simp only [List.cons_append, joinC] at ih ⊢
    rw [ih]; simp
theorem numsB_join (w : List UInt8) (l : List Int) : numsB w l = joinC 32 (w :: l.map itoa) := by
  suffices h : ∀ l : List Int, numsB w l.reverse = joinC 32 (w :: (l.reverse).map itoa) by
    have := h l.reverse; rwa [List.reverse_reverse] at this
  intro l
  induction l with
  | nil => rfl
  | cons v r ih =>
    rw [List.reverse_cons, numsB_snoc, ih, List.map_append, show (w :: (r.reverse.map itoa ++ [v].map itoa)) = (w :: r.reverse.map itoa) ++ [itoa v] from rfl]
    rw [joinC_append _ _ _ (by simp)]
theorem nextOf_line {w : List UInt8} {l : List Int} (hw : (32 : UInt8) ∉ w) (h : ∀ v ∈ l, -1 ≤ v ∧ v ≤ 1099511627776) : nextOf l.length (numsB w l) = some (w, l) := by
  unfold nextOf
  rw [numsB_join, parts_join 32 (by simp) (by
    intro x hx
    rcases List.mem_cons.1 hx with rfl | hx
    · exact hw
    · obtain ⟨v, _, rfl⟩ := List.mem_map.1 hx
      exact itoa_not (by decide))]
  simp only [numsOf_itoa l h, if_pos]
theorem put_end {L : List Ent} {s : List UInt8} (v : Int × Int) (h : ∀ e ∈ L, bytesBefore e.1 s = true) : put L s v = L ++ [(s, v)] := by
  have hf : L.filter (fun e => !(e.1 == s)) = L := by
    rw [List.filter_eq_self]
    intro e he
    rw [before_ne (h e he)]; rfl
  unfold put
  rw [hf]
  clear hf
  induction L with
  | nil => rfl
  | cons y r ih =>
    unfold ins
    rw [if_neg (by rw [before_asymm (h y (by simp))]; simp), ih (fun e he => h e (by simp [he]))]; rfl
def linE (e : Ent) : List UInt8 := numsB e.1 [e.2.1, e.2.2]
theorem decL_own : ∀ (M L : List Ent), Rising (L ++ M) → (∀ e ∈ M, (32 : UInt8) ∉ e.1 ∧ (-1 ≤ e.2.1 ∧ e.2.1 ≤ 1099511627776) ∧ (-1 ≤ e.2.2 ∧ e.2.2 ≤ 1099511627776)) → decL (M.map linE) L = some (L ++ M)
  | [], L, _, _ => by simp [decL]
  | e :: r, L, hr, h => by
    have he := h e (by simp)
    have h1 := nextOf_line (w := e.1) (l := [e.2.1, e.2.2]) he.1 (by
      intro v hv
      rcases List.mem_cons.1 hv with rfl | hv
      · exact he.2.1
      · rw [List.mem_singleton] at hv; subst hv; exact he.2.2)
    have h2 : put L e.1 e.2 = L ++ [e] := put_end e.2 (fun x hx => (List.pairwise_append.1 hr).2.2 x hx e (by simp))
    have ih := decL_own r (L ++ [e]) (by rw [List.append_assoc]; exact hr) (fun x hx => h x (by simp [hx]))
    simp only [List.map_cons, decL]
    rw [show nextOf 2 (linE e) = some (e.1, [e.2.1, e.2.2]) from h1]
    simp only
    rw [h2, ih, List.append_assoc]; rfl
theorem entsB_join (h : List UInt8) (L : List Ent) : entsB (h ++ [10]) L = joinC 10 ((h :: L.map linE) ++ [[]]) := by
  suffices H : ∀ L : List Ent, entsB (h ++ [10]) L.reverse = joinC 10 ((h :: L.reverse.map linE) ++ [[]]) by
    have := H L.reverse; rwa [List.reverse_reverse] at this
  intro L
  induction L with
  | nil => rfl
  | cons e r ih =>
    rw [List.reverse_cons, entsB_snoc, ih, List.map_append, show (h :: (r.reverse.map linE ++ [e].map linE)) = (h :: r.reverse.map linE) ++ [linE e] from rfl]
    rw [joinC_append _ _ _ (by simp), joinC_append _ _ _ (by simp), joinC_append _ _ _ (by simp)]
    simp [lineB, linE]
theorem numsB_not {c : UInt8} (hc : c.toNat < 32) {w : List UInt8} (hw : c ∉ w) (l : List Int) : c ∉ numsB w l := by
  induction l generalizing w with
  | nil => exact hw
  | cons v r ih =>
    show c ∉ numsB (w ++ (32 :: itoa v)) r
    apply ih
    intro h
    rcases List.mem_append.1 h with h | h
    · exact hw h
    · rcases List.mem_cons.1 h with rfl | h
      · simp at hc
      · exact itoa_not (by omega) h
theorem nameB_not {s : List UInt8} (h : nameB ⟨s.toArray⟩ = true) {c : UInt8} (hc : c.toNat < 45) : c ∉ s := by
  intro hm
  obtain ⟨i, hi, rfl⟩ := List.getElem_of_mem hm
  have h1 := ((nameB_iff _).1 h).2.2 i (by show i < s.toArray.size; simpa using hi)
  have h2 : ((⟨s.toArray⟩ : ByteArray)[i]'(by show i < s.toArray.size; simpa using hi)) = s[i] := by
    show s.toArray[i]'_ = _
    simp
  rw [h2] at h1
  unfold oddB at h1
  have e1 : decide (s[i].toNat < 97) = true := decide_eq_true (by omega)
  have e2 : decide (s[i].toNat < 48) = true := decide_eq_true (by omega)
  have e3 : (s[i].toNat != 45) = true := by simp; omega
  rw [e1, e2, e3] at h1
  simp at h1
theorem parts_enc {c : Ck} (hn : ∀ e ∈ c.L, nameB ⟨e.1.toArray⟩ = true) : parts 10 (encB c) = numsB [99, 108, 111, 99, 107] [c.slack, c.idle, c.now, c.mark] :: (c.L.map linE ++ [[]]) := by
  have hw : ∀ e ∈ c.L, ∀ u : UInt8, u.toNat < 45 → u ∉ e.1 := fun e he u hu => nameB_not (hn e he) hu
  unfold encB lineB
  rw [entsB_join, parts_join 10 (by simp) (by
    intro x hx
    rcases List.mem_append.1 hx with hx | hx
    · rcases List.mem_cons.1 hx with rfl | hx
      · exact numsB_not (by decide) (by decide) _
      · obtain ⟨e, he, rfl⟩ := List.mem_map.1 hx
        exact numsB_not (by decide) (hw e he 10 (by decide)) _
    · rw [List.mem_singleton] at hx; subst hx; simp)]
  rfl
theorem decL_enc {c : Ck} (hok : Ok c) (hr : Rising c.L) (hn : ∀ e ∈ c.L, nameB ⟨e.1.toArray⟩ = true) : decL (parts 10 (encB c)).tail.dropLast [] = some c.L := by
  have h0 := hok.n1
  rw [parts_enc hn]
  simp only [List.tail_cons, List.dropLast_concat]
  have := decL_own c.L [] (by simpa using hr) (fun e he => by
    have := hok.l e he
    exact ⟨nameB_not (hn e he) (by decide), ⟨by omega, this.2.1⟩, by omega, by omega⟩)
  simpa using this
theorem entsB_length : ∀ (L : List Ent) (acc : List UInt8), (∀ e ∈ L, e.1.length ≤ 24 ∧ (-9223372036854775808 ≤ e.2.1 ∧ e.2.1 ≤ 9223372036854775807) ∧ (-9223372036854775808 ≤ e.2.2 ∧ e.2.2 ≤ 9223372036854775807)) → (entsB acc L).length ≤ acc.length + 69 * L.length
  | [], acc, _ => by simp [entsB]
  | e :: r, acc, h => by
    have ih := entsB_length r (acc ++ lineB e.1 [e.2.1, e.2.2]) (fun x hx => h x (by simp [hx]))
    have he := h e (by simp)
    have h2 := numsB_length e.1 [e.2.1, e.2.2] (by
      intro v hv
      rcases List.mem_cons.1 hv with rfl | hv
      · exact he.2.1
      · rw [List.mem_singleton] at hv; subst hv; exact he.2.2)
    show (entsB (acc ++ lineB e.1 [e.2.1, e.2.2]) r).length ≤ _
    unfold lineB at ih ⊢
    simp only [List.length_append, List.length_cons, List.length_nil] at ih h2 ⊢
    omega
theorem encB_length {c : Ck} (hok : Ok c) (hn : ∀ e ∈ c.L, nameB ⟨e.1.toArray⟩ = true) : (encB c).length ≤ 94 + 69 * c.L.length := by
  have h0 := hok.s0; have h1 := hok.s1; have h2 := hok.i0; have h3 := hok.i1; have h4 := hok.n0; have h5 := hok.n1; have h6 := hok.m0; have h7 := hok.m1
  have hl := entsB_length c.L (lineB [99, 108, 111, 99, 107] [c.slack, c.idle, c.now, c.mark]) (fun e he => by
    have h8 := hok.l e he
    have h9 := ((nameB_iff _).1 (hn e he)).2.1
    have h10 : (⟨e.1.toArray⟩ : ByteArray).size = e.1.length := by simp [ByteArray.size]
    omega)
  have hh := numsB_length [99, 108, 111, 99, 107] [c.slack, c.idle, c.now, c.mark] (by
    intro v hv
    simp only [List.mem_cons, List.not_mem_nil, or_false] at hv
    rcases hv with rfl | rfl | rfl | rfl <;> omega)
  unfold encB
  unfold lineB at hl ⊢
  simp only [List.length_append, List.length_cons, List.length_nil] at hl hh ⊢
  omega
theorem decB_own {c : Ck} (hok : Ok c) (hr : Rising c.L) (hn : ∀ e ∈ c.L, nameB ⟨e.1.toArray⟩ = true) (ht : fineT c = true) : decB (encB c) = some c := by
  have hp := parts_enc hn
  have h0 := hok.s0; have h1 := hok.s1; have h2 := hok.i0; have h3 := hok.i1; have h4 := hok.n0; have h5 := hok.n1; have h6 := hok.m0; have h7 := hok.m1
  have h8 : nextOf 4 (numsB [99, 108, 111, 99, 107] [c.slack, c.idle, c.now, c.mark]) = some ([99, 108, 111, 99, 107], [c.slack, c.idle, c.now, c.mark]) :=
    nextOf_line (l := [c.slack, c.idle, c.now, c.mark]) (by decide) (by
      intro v hv
      simp only [List.mem_cons, List.not_mem_nil, or_false] at hv
      rcases hv with rfl | rfl | rfl | rfl <;> omega)
  have h9 := decL_enc hok hr hn
  rw [hp] at h9
  simp only [List.tail_cons, List.dropLast_concat] at h9
  have h10 : fineB c = true := by
    unfold fineB fineH
    rw [ht, (may_iff c.slack).2 ⟨h0, h1⟩, (may_iff c.idle).2 ⟨h2, h3⟩, (may_iff c.now).2 ⟨h4, h5⟩]
    have hm : (c.mark == -1 || may c.mark) = true := by
      by_cases hm : c.mark = -1
      · rw [hm]; rfl
      · rw [(may_iff c.mark).2 ⟨by omega, h7⟩]; simp
    rw [hm]
    simp only [Bool.and_true, Bool.true_and, List.all_eq_true]
    intro e he
    have := hok.l e he
    unfold goodE
    rw [hn e he, (may_iff e.2.1).2 ⟨this.1, this.2.1⟩, (may_iff e.2.2).2 ⟨this.2.2.1, by omega⟩]
    simp [this.2.2.2]
  unfold decB
  rw [hp]
  simp only [h8, List.dropLast_concat, h9]
  rw [show (⟨c.slack, c.idle, c.now, c.mark, c.L⟩ : Ck) = c from rfl, h10]
  simp
end Go.Proofs.YtomnmgmehagjfaaGreatDoor.Ck
