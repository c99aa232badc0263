/-
  The reference's Decode in plain Lean: it is the clock's.
  No condition: lemmas.
-/
import Derived.Test.YtomnmgmehagjfaaGreatDoorRefNumP
import Derived.Test.YtomnmgmehagjfaaGreatDoorGoesP
namespace Go.Proofs.YtomnmgmehagjfaaGreatDoor.Ck
open Go Go.RowKit Go.Maps Go.Shelf Go.Lib Go.WideAt Go.WideShapes
set_option linter.unusedVariables false
set_option linter.unusedSimpArgs false

def clockW : List UInt8 := [99, 108, 111, 99, 107]
def lastB (L : List Ent) (s : List UInt8) : Bool := match L.getLast? with | none => true | some e => bytesBefore e.1 s
def lineOk (now : Int) (L : List Ent) (x a n : List UInt8) : Bool := nameB ⟨x.toArray⟩ && decide (0 ≤ numF a) && decide (0 ≤ numF n) && decide (numF n ≤ now) && lastB L x
def refL (now : Int) : List (List UInt8) → List Ent → Option (List Ent)
  | [], L => some L
  | s :: r, L => match parts 32 s with
    | [x, a, n] => if lineOk now L x a n then refL now r (L ++ [(x, (numF a, numF n))]) else none
    | _ => none
def markF (d : List UInt8) : Int := if d = [45, 49] then -1 else numF d
def headOk (k a b c d : List UInt8) : Bool := decide (k = clockW) && decide (0 ≤ numF a) && decide (0 ≤ numF b) && decide (0 ≤ numF c) && decide (-1 ≤ markF d)
def refB (s : List UInt8) : Option Ck :=
  if (parts 10 s).getLast? ≠ some [] ∨ (parts 10 s).length < 2 then none
  else match parts 32 ((parts 10 s).headD []) with
    | [k, a, b, c, d] =>
      if headOk k a b c d then
        match refL (numF c) (parts 10 s).tail.dropLast [] with
        | some L => if markF d < tellV ⟨numF a, numF b, numF c, markF d, L⟩ then none else some ⟨numF a, numF b, numF c, markF d, L⟩
        | none => none
      else none
    | _ => none

theorem tell_fine {c : Ck} (h : -1 ≤ c.mark) : fineT c = decide (¬ c.mark < tellV c) := by
  unfold fineT toldB toldV tellV
  cases least c.idle c.now c.L with
  | none => simp; omega
  | some m =>
    simp only [Option.isSome_some, Bool.not_true, Bool.false_or, decide_eq_decide]
    split <;> omega
theorem lastB_all {L : List Ent} (hr : Rising L) {s : List UInt8} (h : lastB L s = true) : ∀ e ∈ L, bytesBefore e.1 s = true := by
  rcases List.eq_nil_or_concat L with rfl | ⟨u, x, rfl⟩
  · simp
  · unfold lastB at h
    simp only [List.concat_eq_append, List.getLast?_append, List.getLast?_singleton, Option.some_or] at h
    simp only [List.concat_eq_append] at hr ⊢
    intro e he
    rcases List.mem_append.1 he with he | he
    · exact bytes_trans _ _ _ ((List.pairwise_append.1 hr).2.2 e he x (by simp)) h
    · rw [List.mem_singleton] at he; subst he; exact h
theorem rising_snoc {L : List Ent} (hr : Rising L) {e : Ent} (h : lastB L e.1 = true) : Rising (L ++ [e]) :=
  List.pairwise_append.2 ⟨hr, List.pairwise_singleton _ _, fun x hx y hy => by rw [List.mem_singleton] at hy; subst hy; exact lastB_all hr h x hx⟩
theorem lastB_of {L : List Ent} {e : Ent} {r : List Ent} (hr : Rising (L ++ e :: r)) : lastB L e.1 = true := by
  unfold lastB
  cases hl : L.getLast? with
  | none => rfl
  | some x => exact (List.pairwise_append.1 hr).2.2 x (List.mem_of_getLast? hl) e (by simp)
def goodN (now : Int) (e : Ent) : Prop := nameB ⟨e.1.toArray⟩ = true ∧ (0 ≤ e.2.1 ∧ e.2.1 ≤ 1099511627776) ∧ (0 ≤ e.2.2 ∧ e.2.2 ≤ now)

theorem refL_inv (now : Int) : ∀ (ws : List (List UInt8)) (L M : List Ent), refL now ws L = some M → Rising L → ∃ N, M = L ++ N ∧ ws = N.map linE ∧ (∀ e ∈ N, goodN now e) ∧ Rising M
  | [], L, M, h, hr => by simp only [refL, Option.some.injEq] at h; subst h; exact ⟨[], by simp, rfl, by simp, hr⟩
  | s :: r, L, M, h, hr => by
    unfold refL at h
    split at h
    · rename_i x a n hp
      split at h
      · rename_i hk
        unfold lineOk at hk
        simp only [Bool.and_eq_true, decide_eq_true_eq] at hk
        obtain ⟨⟨⟨⟨h1, h2⟩, h3⟩, h4⟩, h5⟩ := hk
        obtain ⟨N, rfl, rfl, hg, hR⟩ := refL_inv now r _ M h (rising_snoc hr h5)
        obtain ⟨ea, ha⟩ := numF_inv h2
        obtain ⟨en, hn⟩ := numF_inv h3
        refine ⟨(x, (numF a, numF n)) :: N, by simp, ?_, ?_, hR⟩
        · rw [List.map_cons]
          congr 1
          rw [← join_parts 32 s, hp]
          show _ = numsB x [numF a, numF n]
          rw [numsB_join, List.map_cons, List.map_cons, List.map_nil, ← ea, ← en]
        · intro e he
          rcases List.mem_cons.1 he with rfl | he
          · exact ⟨h1, ⟨h2, ha⟩, h3, h4⟩
          · exact hg e he
      · cases h
    · cases h
theorem refL_own (now : Int) : ∀ (M L : List Ent), Rising (L ++ M) → (∀ e ∈ M, goodN now e) → now ≤ 1099511627776 → refL now (M.map linE) L = some (L ++ M)
  | [], L, _, _, _ => by simp [refL]
  | e :: r, L, hr, h, hnow => by
    obtain ⟨h1, ⟨h2, h3⟩, h4, h5⟩ := h e (by simp)
    have hp : parts 32 (linE e) = [e.1, itoa e.2.1, itoa e.2.2] := by
      show parts 32 (numsB e.1 [e.2.1, e.2.2]) = _
      rw [numsB_join, parts_join 32 (by simp) (by
        intro x hx
        rcases List.mem_cons.1 hx with rfl | hx
        · exact nameB_not h1 (by decide)
        · obtain ⟨v, _, rfl⟩ := List.mem_map.1 hx
          exact itoa_not (by decide))]
      rfl
    have ih := refL_own now r (L ++ [e]) (by rw [List.append_assoc]; exact hr) (fun x hx => h x (by simp [hx])) hnow
    have ea := numF_itoa h2 h3
    have en := numF_itoa h4 (Int.le_trans h5 hnow)
    have hk : lineOk now L e.1 (itoa e.2.1) (itoa e.2.2) = true := by
      unfold lineOk
      rw [ea, en, h1, lastB_of hr, decide_eq_true h2, decide_eq_true h4, decide_eq_true h5]; rfl
    simp only [List.map_cons, refL, hp]
    rw [if_pos hk, ea, en, ih, List.append_assoc]; rfl

theorem itoa_neg1 : itoa (-1) = [45, 49] := by
  unfold itoa
  rw [if_pos (by omega)]
  show 45 :: decDigits 1 = _
  rw [decDigits_one (by omega)]; rfl
theorem markF_itoa {v : Int} (h0 : -1 ≤ v) (h1 : v ≤ 1099511627776) : markF (itoa v) = v := by
  unfold markF
  by_cases h : v = -1
  · subst h; rw [if_pos itoa_neg1]
  · rw [if_neg, numF_itoa (by omega) h1]
    intro he
    have : (45 : UInt8) ∈ itoa v := by rw [he]; simp
    unfold itoa at this
    rw [if_neg (by omega)] at this
    have := (dec_mem _ _ this).1
    have e : (45 : UInt8).toNat = 45 := rfl
    omega
theorem markF_inv {d : List UInt8} (h : -1 ≤ markF d) : d = itoa (markF d) ∧ markF d ≤ 1099511627776 := by
  unfold markF at h ⊢
  split at h
  · rename_i hd; rw [if_pos hd, itoa_neg1]; exact ⟨hd, by omega⟩
  · rename_i hd
    rw [if_neg hd]
    by_cases h0 : 0 ≤ numF d
    · exact numF_inv h0
    · exfalso
      have hb := numF_bd d
      have : numF d = -1 := by omega
      unfold numF at this
      split at this
      · omega
      · split at this
        · split at this <;> omega
        · omega

theorem ref_some {s : List UInt8} {c : Ck} (h : refB s = some c) : s = encB c ∧ Own c ∧ Rising c.L := by
  unfold refB at h
  split at h
  · cases h
  · rename_i hg
    have hg1 := not_or.1 hg
    have hlast : (parts 10 s).getLast? = some [] := Classical.not_not.1 hg1.1
    have hlen : 2 ≤ (parts 10 s).length := by omega
    split at h
    · rename_i k a b c' d hp
      split at h
      · rename_i hk
        unfold headOk at hk
        simp only [Bool.and_eq_true, decide_eq_true_eq] at hk
        obtain ⟨⟨⟨⟨rfl, h1⟩, h2⟩, h3⟩, h4⟩ := hk
        split at h
        · rename_i L hL
          split at h
          · cases h
          · rename_i ht
            simp only [Option.some.injEq] at h
            subst h
            obtain ⟨N, hN, hws, hgood, hR⟩ := refL_inv _ _ _ _ hL List.Pairwise.nil
            rw [List.nil_append] at hN
            subst hN
            obtain ⟨ea, ba⟩ := numF_inv h1
            obtain ⟨eb, bb⟩ := numF_inv h2
            obtain ⟨ec, bc⟩ := numF_inv h3
            obtain ⟨ed, bd⟩ := markF_inv h4
            have hok : Ok ⟨numF a, numF b, numF c', markF d, L⟩ := ⟨h1, ba, h2, bb, h3, bc, h4, bd, fun e he => by
              obtain ⟨_, g1, g2⟩ := hgood e he
              exact ⟨g1.1, g1.2, g2.1, g2.2⟩⟩
            refine ⟨?_, ⟨hok, fun e he => (hgood e he).1, by rw [tell_fine h4]; exact decide_eq_true ht⟩, hR⟩
            obtain ⟨f, t, hft⟩ := List.exists_cons_of_ne_nil (parts_ne 10 s)
            rw [hft] at hlast hlen hp hws
            simp only [List.headD_cons] at hp
            simp only [List.tail_cons] at hws
            have htn : t ≠ [] := by rintro rfl; simp at hlen
            have htl : t = t.dropLast ++ [[]] := by
              have h8 := List.dropLast_concat_getLast htn
              rw [List.getLast?_cons_of_ne_nil htn, List.getLast?_eq_some_getLast htn, Option.some.injEq] at hlast
              rw [hlast] at h8
              exact h8.symm
            have hf : f = numsB clockW [numF a, numF b, numF c', markF d] := by
              rw [numsB_join, ← join_parts 32 f, hp]
              simp only [List.map_cons, List.map_nil]
              rw [← ea, ← eb, ← ec, ← ed]
            rw [← join_parts 10 s, hft, htl, hws, hf]
            show _ = entsB (numsB clockW [numF a, numF b, numF c', markF d] ++ [10]) L
            rw [entsB_join]; rfl
        · cases h
      · cases h
    · cases h
theorem ref_enc {c : Ck} (h : Own c) (hr : Rising c.L) : refB (encB c) = some c := by
  have hok := h.ok
  have h0 := hok.s0; have h1 := hok.s1; have h2 := hok.i0; have h3 := hok.i1; have h4 := hok.n0; have h5 := hok.n1; have h6 := hok.m0; have h7 := hok.m1
  have hp := parts_enc h.nm
  have hp2 : parts 32 (numsB [99, 108, 111, 99, 107] [c.slack, c.idle, c.now, c.mark]) = [clockW, itoa c.slack, itoa c.idle, itoa c.now, itoa c.mark] := by
    rw [numsB_join, parts_join 32 (by simp) (by
      intro x hx
      rcases List.mem_cons.1 hx with rfl | hx
      · decide
      · obtain ⟨v, _, rfl⟩ := List.mem_map.1 hx
        exact itoa_not (by decide))]
    rfl
  have hl := refL_own c.now c.L [] (by simpa using hr) (fun e he => by
    have g := hok.l e he
    exact ⟨h.nm e he, ⟨g.1, g.2.1⟩, g.2.2.1, g.2.2.2⟩) h5
  unfold refB
  rw [hp]
  rw [if_neg (by
    rintro (h8 | h8)
    · exact h8 (by
        rw [show ∀ (x : List UInt8) (l : List (List UInt8)), x :: (l ++ [[]]) = (x :: l) ++ [[]] from fun _ _ => rfl, List.getLast?_append]
        rfl)
    · simp at h8; omega)]
  simp only [List.headD_cons, hp2, List.tail_cons, List.dropLast_concat]
  have hk : headOk clockW (itoa c.slack) (itoa c.idle) (itoa c.now) (itoa c.mark) = true := by
    unfold headOk
    rw [numF_itoa h0 h1, numF_itoa h2 h3, numF_itoa h4 h5, markF_itoa h6 h7, decide_eq_true h0, decide_eq_true h2, decide_eq_true h4, decide_eq_true h6]; rfl
  rw [if_pos hk, numF_itoa h4 h5, hl]
  simp only [List.nil_append]
  rw [numF_itoa h0 h1, numF_itoa h2 h3, markF_itoa h6 h7]
  have ht := h.ft
  rw [tell_fine h6] at ht
  have ht2 := of_decide_eq_true ht
  show (if c.mark < tellV c then none else some c) = some c
  rw [if_neg ht2]
theorem rising_decL : ∀ {ws : List (List UInt8)} {L M : List Ent}, decL ws L = some M → Rising L → Rising M
  | [], L, M, h, hr => by simp only [decL, Option.some.injEq] at h; subst h; exact hr
  | s :: r, L, M, h, hr => by
    unfold decL at h
    split at h
    · exact rising_decL h (rising_put hr _ _)
    · cases h
theorem good_iff' {now : Int} {e : Ent} (h : goodE now e = true) : nameB ⟨e.1.toArray⟩ = true := by
  unfold goodE at h
  simp only [Bool.and_eq_true] at h
  exact h.1.1.1
theorem ok_of' {c : Ck} (h : fineH c = true) (hg : ∀ e ∈ c.L, goodE c.now e = true) : Ok c := by
  unfold fineH at h
  simp only [Bool.and_eq_true, Bool.or_eq_true, beq_iff_eq, may_iff] at h
  obtain ⟨⟨⟨h0, h1⟩, h2⟩, h3⟩ := h
  exact ⟨h0.1, h0.2, h1.1, h1.2, h2.1, h2.2, by omega, by omega, fun e he => by
    have g := hg e he
    unfold goodE at g
    simp only [Bool.and_eq_true, decide_eq_true_eq, may_iff] at g
    exact ⟨g.1.1.2.1, g.1.1.2.2, g.1.2.1, g.2⟩⟩
theorem dec_some {s : List UInt8} {c : Ck} (h : decB s = some c) : s = encB c ∧ Own c ∧ Rising c.L := by
  unfold decB at h
  split at h
  · cases h
  · split at h
    · split at h
      · rename_i L hL
        split at h
        · rename_i hk
          simp only [Option.some.injEq] at h
          subst h
          simp only [Bool.and_eq_true, beq_iff_eq] at hk
          obtain ⟨h1, h2⟩ := hk
          unfold fineB at h1
          simp only [Bool.and_eq_true, List.all_eq_true] at h1
          exact ⟨h2.symm, ⟨ok_of' h1.1.1 h1.1.2, fun e he => (good_iff' (h1.1.2 e he)), h1.2⟩, rising_decL hL List.Pairwise.nil⟩
        · cases h
      · cases h
    · cases h
theorem dec_ref (s : List UInt8) : decB s = refB s := by
  cases hd : decB s with
  | some c =>
    obtain ⟨he, ho, hr⟩ := dec_some hd
    rw [he, ref_enc ho hr]
  | none =>
    cases hr : refB s with
    | none => rfl
    | some c =>
      obtain ⟨he, ho, hr'⟩ := ref_some hr
      rw [he, own_dec ho hr'] at hd
      cases hd
end Go.Proofs.YtomnmgmehagjfaaGreatDoor.Ck
