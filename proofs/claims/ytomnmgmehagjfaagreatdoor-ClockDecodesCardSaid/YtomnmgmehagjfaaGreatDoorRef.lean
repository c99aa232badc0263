/-
  The reference's clock in memory; the contracts of its small functions.
  No condition: lemmas.
-/
import Derived.Test.YtomnmgmehagjfaaGreatDoorRefP
import Derived.Test.YtomnmgmehagjfaaGreatDoorActs
import Derived.Test.YtomnmgmehagjfaaGreatDoorEnc
namespace Go.Proofs.YtomnmgmehagjfaaGreatDoor.Ck
open Go Go.RowKit Go.Maps Go.Shelf Go.Lib
set_option linter.unusedVariables false
set_option linter.unusedSimpArgs false

def cellsE (e : Ent) : List Value := [.string ⟨e.1.toArray⟩, .int .i64 e.2.1, .int .i64 e.2.2]
def cellsS (L : List Ent) : List Value := L.flatMap cellsE
theorem cellsS_length : ∀ L : List Ent, (cellsS L).length = L.length * 3
  | [] => rfl
  | a :: r => by
    have := cellsS_length r
    unfold cellsS at this ⊢
    rw [List.flatMap_cons, List.length_append, this]
    simp [cellsE]; omega
theorem cellsS_get : ∀ (L : List Ent) (i j : Nat) (a : Ent), L[i]? = some a → j < 3 → (cellsS L)[i * 3 + j]? = (cellsE a)[j]?
  | [], i, j, a, h, _ => by simp at h
  | x :: r, 0, j, a, h, hj => by
    simp at h; subst h
    unfold cellsS
    rw [List.flatMap_cons, List.getElem?_append_left (by simp [cellsE]; omega)]
    simp
  | x :: r, i + 1, j, a, h, hj => by
    simp at h
    have := cellsS_get r i j a h hj
    unfold cellsS at this ⊢
    rw [List.flatMap_cons, List.getElem?_append_right (by simp [cellsE]; omega)]
    have e : (i + 1) * 3 + j - (cellsE x).length = i * 3 + j := by simp [cellsE]; omega
    rw [e]; exact this
theorem cellsS_one (L : List Ent) : ∀ u ∈ cellsS L, u.oneCell' = true := by
  intro u hu
  obtain ⟨a, _, ha⟩ := List.mem_flatMap.1 hu
  simp [cellsE] at ha
  rcases ha with rfl | rfl | rfl <;> rfl
theorem cellsS_append (l m : List Ent) : cellsS (l ++ m) = cellsS l ++ cellsS m := by simp [cellsS, List.flatMap_append]
theorem cellsS_drop (l : List Ent) (k : Nat) : (cellsS l).drop (k * 3) = cellsS (l.drop k) := by
  induction k generalizing l with
  | zero => simp
  | succ k ih =>
    cases l with
    | nil => simp [cellsS]
    | cons a r =>
      rw [List.drop_succ_cons, ← ih r]
      have e : (k + 1) * 3 = (cellsE a).length + k * 3 := by simp [cellsE]; omega
      show ((a :: r).flatMap cellsE).drop ((k + 1) * 3) = _
      rw [List.flatMap_cons, e, List.drop_append, List.drop_of_length_le (by omega), List.nil_append, Nat.add_sub_cancel_left]; rfl
theorem cellsS_take (l : List Ent) (k : Nat) : (cellsS l).take (k * 3) = cellsS (l.take k) := by
  induction k generalizing l with
  | zero => simp [cellsS]
  | succ k ih =>
    cases l with
    | nil => simp [cellsS]
    | cons a r =>
      rw [List.take_succ_cons]
      show ((a :: r).flatMap cellsE).take ((k + 1) * 3) = cellsE a ++ cellsS (r.take k)
      rw [← ih r, List.flatMap_cons, List.take_append]
      have e : (k + 1) * 3 - (cellsE a).length = k * 3 := by simp [cellsE]; omega
      rw [e, List.take_of_length_le (by simp [cellsE]; omega)]; rfl

theorem cellsE_set (e x : Ent) (r : List Value) : ((((cellsE e ++ r).set 0 (.string ⟨x.1.toArray⟩)).set 1 (.int .i64 x.2.1)).set 2 (.int .i64 x.2.2)) = cellsE x ++ r := rfl
theorem cellsS_set : ∀ (L : List Ent) (k : Nat) (x : Ent), k < L.length → (((cellsS L).set (k * 3) (.string ⟨x.1.toArray⟩)).set (k * 3 + 1) (.int .i64 x.2.1)).set (k * 3 + 2) (.int .i64 x.2.2) = cellsS (L.set k x)
  | [], k, x, h => by simp at h
  | e :: r, 0, x, _ => rfl
  | e :: r, k + 1, x, h => by
    have ih := cellsS_set r k x (by simpa using h)
    have e1 : (k + 1) * 3 = k * 3 + 1 + 1 + 1 := by omega
    rw [e1]
    show cellsE e ++ _ = _
    rw [List.set_cons_succ, cellsS, List.flatMap_cons]
    show _ = cellsE e ++ cellsS (r.set k x)
    rw [← ih]
    rfl

/-- The slice at A holds the sources of L. -/
def Ents (w : World) (A : Option Addr) (L : List Ent) : Prop :=
  ∀ i e, L[i]? = some e → ∃ B O, A = some ⟨B, O, none⟩ ∧ B < w.heap.size ∧ w.cell? ⟨B, O + i * 3, none⟩ = some (.string ⟨e.1.toArray⟩) ∧ w.cell? ⟨B, O + i * 3 + 1, none⟩ = some (.int .i64 e.2.1) ∧
    w.cell? ⟨B, O + i * 3 + 2, none⟩ = some (.int .i64 e.2.2)

/-- Block q is the reference's clock. -/
structure Rf (w : World) (q : Nat) (c : Ck) : Prop where
  ex : ∃ v, w.heap[q]? = some (.cells #[.int .i64 c.slack, .int .i64 c.idle, .int .i64 c.now, .int .i64 c.mark, v] 54 (0, 0)) ∧ w.ownsRow 0 57 3 v c.L.length (cellsS c.L)
  rs : Rising c.L
  nm : ∀ e ∈ c.L, e.1.length ≤ 1000

theorem Ents.of_own {w : World} {base n : Nat} {e : TypeId} {A : Option Addr} {cap : Nat} {L : List Ent} (hn : L.length = n) (h : w.ownsRow base e 3 (.slice A n cap) n (cellsS L)) : Ents w A L := by
  intro i a hi
  have hp : 0 < n := by have := (List.getElem?_eq_some_iff.1 hi).1; omega
  obtain ⟨g, cap', hv, hg, hlt⟩ := h.form hp
  have hA : A = some ⟨g, 0, none⟩ := by injection hv
  subst hA
  have hc := h.cells (g := g) rfl
  have key : ∀ j, j < 3 → ∀ u, (cellsE a)[j]? = some u → w.cell? ⟨g, i * 3 + j, none⟩ = some u := by
    intro j hj u hu
    have := hc (i * 3 + j) u (by rw [cellsS_get L i j a hi hj]; exact hu)
    rw [add_none] at this
    simpa using this
  refine ⟨g, 0, rfl, hlt, ?_, ?_, ?_⟩
  · simpa using key 0 (by omega) _ rfl
  · simpa using key 1 (by omega) _ rfl
  · simpa using key 2 (by omega) _ rfl
theorem Ents.below {w w' : World} {A : Option Addr} {L : List Ent} (h : Ents w A L) (hb : Below w.heap.size w w') : Ents w' A L := by
  intro i a hi
  obtain ⟨B, O, e, hB, h0, h1, h2⟩ := h i a hi
  have hz := hb.size
  have key : ∀ o, w'.cell? ⟨B, o, none⟩ = w.cell? ⟨B, o, none⟩ := fun o => World.cell?_of_block (w := w) (hb.block B hB)
  exact ⟨B, O, e, by omega, (key _).trans h0, (key _).trans h1, (key _).trans h2⟩

theorem Rf.open_ {w : World} {q : Nat} {c : Ck} (h : Rf w q c) : ∃ A cap, w.heap[q]? = some (.cells #[.int .i64 c.slack, .int .i64 c.idle, .int .i64 c.now, .int .i64 c.mark, .slice A c.L.length cap] 54 (0, 0)) ∧
    w.ownsRow 0 57 3 (.slice A c.L.length cap) c.L.length (cellsS c.L) ∧ Ents w A c.L ∧ c.L.length ≤ cap := by
  obtain ⟨v, hq, ho⟩ := h.ex
  rcases ho.2 with ⟨rfl, h0⟩ | ⟨g, cap, cur, rfl, r⟩
  · have ho' : w.ownsRow 0 57 3 (.slice none c.L.length 0) c.L.length (cellsS c.L) := by rw [h0] at ho ⊢; exact ho
    refine ⟨none, 0, ?_, ho', Ents.of_own rfl ho', by omega⟩
    rw [hq, h0]
  · exact ⟨_, cap, hq, ho, Ents.of_own rfl ho, r.2.2.1⟩
theorem Rf.ltq {w : World} {q : Nat} {c : Ck} (h : Rf w q c) : q < w.heap.size := by
  obtain ⟨v, hq, _⟩ := h.ex
  exact (Array.getElem?_eq_some_iff.1 hq).1
theorem Rf.c0 {w : World} {q : Nat} {c : Ck} (h : Rf w q c) : w.cell? ⟨q, 0, none⟩ = some (.int .i64 c.slack) := by obtain ⟨v, hq, _⟩ := h.ex; simp [World.cell?, hq]
theorem Rf.c1 {w : World} {q : Nat} {c : Ck} (h : Rf w q c) : w.cell? ⟨q, 1, none⟩ = some (.int .i64 c.idle) := by obtain ⟨v, hq, _⟩ := h.ex; simp [World.cell?, hq]
theorem Rf.c2 {w : World} {q : Nat} {c : Ck} (h : Rf w q c) : w.cell? ⟨q, 2, none⟩ = some (.int .i64 c.now) := by obtain ⟨v, hq, _⟩ := h.ex; simp [World.cell?, hq]
theorem Rf.c3 {w : World} {q : Nat} {c : Ck} (h : Rf w q c) : w.cell? ⟨q, 3, none⟩ = some (.int .i64 c.mark) := by obtain ⟨v, hq, _⟩ := h.ex; simp [World.cell?, hq]
theorem Rf.c4 {w : World} {q : Nat} {c : Ck} (h : Rf w q c) : ∃ A cap, w.cell? ⟨q, 4, none⟩ = some (.slice A c.L.length cap) ∧ Ents w A c.L ∧ c.L.length ≤ cap ∧ w.ownsRow 0 57 3 (.slice A c.L.length cap) c.L.length (cellsS c.L) := by
  obtain ⟨A, cap, hq, ho, he, hc⟩ := h.open_
  exact ⟨A, cap, by simp [World.cell?, hq], he, hc, ho⟩
theorem Rf.fz {w : World} {q : Nat} {c : Ck} (h : Rf w q c) (i : Nat) : w.frozen? ⟨q, i, none⟩ = false := by obtain ⟨v, hq, _⟩ := h.ex; simp [World.frozen?, hq]
theorem ownsRow_fr {S : Nat → Prop} {w w' : World} {base size n : Nat} {e : TypeId} {v : Value} {xs : List Value} (h : w.ownsRow base e size v n xs) (hf : Fr S w w') (hS : ∀ k o, S k → w.heap[k]? = some o → ∀ cur, o ≠ .cells cur e (0, 0)) : w'.ownsRow base e size v n xs := by
  refine ⟨h.1, ?_⟩
  rcases h.2 with hn | ⟨g, cap, cur, rfl, hb, hgg, rest⟩
  · exact .inl hn
  · refine .inr ⟨g, cap, cur, rfl, hb, ?_, rest⟩
    rw [hf.block g (Array.getElem?_eq_some_iff.1 hgg).1 (fun hk => hS g _ hk hgg cur rfl)]
    exact hgg
/-- Blocks that are neither the clock nor a row of sources may turn. -/
theorem Rf.fr {S : Nat → Prop} {w w' : World} {q : Nat} {c : Ck} (h : Rf w q c) (hf : Fr S w w') (hq : ¬ S q) (hS : ∀ k o, S k → w.heap[k]? = some o → ∀ cur, o ≠ .cells cur 57 (0, 0)) : Rf w' q c := by
  obtain ⟨v, hv, ho⟩ := h.ex
  exact ⟨⟨v, (hf.block q (Array.getElem?_eq_some_iff.1 hv).1 hq).trans hv, ownsRow_fr ho hf hS⟩, h.rs, h.nm⟩
theorem Rf.below {w w' : World} {q : Nat} {c : Ck} (h : Rf w q c) (hb : Below w.heap.size w w') : Rf w' q c :=
  h.fr (S := fun _ => False) (Fr.of_below hb) (fun h => h) (fun _ _ h => h.elim)
theorem Rf.drew {w : World} {q : Nat} {c : Ck} (h : Rf w q c) : Rf w.drew q c := ⟨h.ex, h.rs, h.nm⟩
theorem Rf.drewN {w : World} {q : Nat} {c : Ck} (h : Rf w q c) (k : Nat) : Rf (w.drewN k) q c := ⟨h.ex, h.rs, h.nm⟩
/-- A cell of the clock is stored. -/
theorem Rf.set {w : World} {q : Nat} {c c' : Ck} (h : Rf w q c) (i : Nat) (u : Value)
    (hu : ∀ v, #[.int .i64 c.slack, .int .i64 c.idle, .int .i64 c.now, .int .i64 c.mark, v].setIfInBounds i u = #[.int .i64 c'.slack, .int .i64 c'.idle, .int .i64 c'.now, .int .i64 c'.mark, v]) (hL : c'.L = c.L) : Rf (w.setCell ⟨q, i, none⟩ u) q c' := by
  obtain ⟨v, hv, ho⟩ := h.ex
  refine ⟨⟨v, ?_, ?_⟩, hL ▸ h.rs, hL ▸ h.nm⟩
  · rw [setCell_block hv, hu]
  · rw [hL]
    refine ownsRow_fr (S := fun k => k = q) ho (Fr.setCell (S := fun k => k = q) (Fr.refl _ _) (p := ⟨q, i, none⟩) rfl u) ?_
    rintro k o rfl hk cur rfl
    rw [hk] at hv
    cases hv
theorem Rf.set_now {w : World} {q : Nat} {c : Ck} (h : Rf w q c) (v : Int) : Rf (w.setCell ⟨q, 2, none⟩ (.int .i64 v)) q { c with now := v } := h.set 2 _ (fun _ => rfl) rfl
theorem Rf.set_mark {w : World} {q : Nat} {c : Ck} (h : Rf w q c) (v : Int) : Rf (w.setCell ⟨q, 3, none⟩ (.int .i64 v)) q { c with mark := v } := h.set 3 _ (fun _ => rfl) rfl

/-- The clock's row is stored. -/
theorem Rf.setL {w : World} {q : Nat} {c : Ck} (h : Rf w q c) (d : Ck) (h0 : d.slack = c.slack) (h1 : d.idle = c.idle) (h2 : d.now = c.now) (h3 : d.mark = c.mark) {base : Nat} {u : Value} (ho : w.ownsRow base 57 3 u d.L.length (cellsS d.L)) (hr : Rising d.L) (hn : ∀ e ∈ d.L, e.1.length ≤ 1000) : Rf (w.setCell ⟨q, 4, none⟩ u) q d := by
  obtain ⟨v, hv, _⟩ := h.ex
  refine ⟨⟨u, ?_, ?_⟩, hr, hn⟩
  · rw [setCell_block hv, h0, h1, h2, h3]; rfl
  · have ho0 : w.ownsRow 0 57 3 u d.L.length (cellsS d.L) := ⟨ho.1, ho.2.imp (fun h => h) (fun ⟨g, cap, cur, h1, _, h2⟩ => ⟨g, cap, cur, h1, Nat.zero_le _, h2⟩)⟩
    refine ownsRow_fr (S := fun k => k = q) ho0 (Fr.setCell (S := fun k => k = q) (Fr.refl _ _) (p := ⟨q, 4, none⟩) rfl u) ?_
    rintro k o rfl hk cur rfl
    rw [hk] at hv
    cases hv

/-! ### the leaves -/

theorem ractive_calls (q : Nat) (c : Ck) (w : World) (h : Rf w q c) (s : ByteArray) (a n : Int) (hok : Ok c) (h0 : 0 ≤ n) (h1 : n ≤ 1099511627776) :
    Calls Tryz.prog 36 #[.pointer (some ⟨q, 0, none⟩), .agg #[.string s, .int .i64 a, .int .i64 n]] w fun e w' => e = .returned (.bool (activeB c.idle c.now n)) ∧ Below w.heap.size w w' := by
  have h2 := h.c2
  have h3 := h.c1
  have g0 := hok.n0
  have g1 := hok.n1
  have H : Hid (activeB c.idle c.now n = (c.idle == 0 || decide (c.now - n ≤ c.idle))) := rfl
  have hp := h.ltq
  by_cases hi : c.idle = 0
  · have hi' : (c.idle == 0) = true := by simp [hi]
    have HI := Lib.hid hi
    clear hi
    go_enter Tryz.func36, Tryz.ntmps36
    go_wp2_with fail
    go_quiet (fail)
    go_wp2
    go_ret
    exact ⟨by rw [H.out, HI.out]; simp, below_drewN ((Below.refl _ _).alloc (Nat.le_refl _) _) _⟩
  · have hi' : (c.idle == 0) = false := by simp [hi]
    go_enter Tryz.func36, Tryz.ntmps36
    go_wp2_with fail
    go_quiet (fail)
    go_wp2
    go_ret
    exact ⟨by rw [H.out]; simp [hi], below_drewN ((Below.refl _ _).alloc (Nat.le_refl _) _) _⟩

theorem rown_empty {w : World} {g base : Nat} {e : TypeId} {size : Nat} (hb : w.heap[g]? = some (.cells #[] e (0, 0))) (h : base ≤ g) : w.ownsRow base e size (.slice (some ⟨g, 0, none⟩) 0 0) 0 [] :=
  ⟨by simp, .inr ⟨g, 0, #[], rfl, h, hb, Nat.le_refl _, Nat.zero_le _, by simp, by simp⟩⟩


end Go.Proofs.YtomnmgmehagjfaaGreatDoor.Ck
