/-
  The clock in plain Lean: its state, and what each call makes of it.
  No condition: definitions and lemmas on lists and numbers alone.
-/
import Derived.Maps.Ext
namespace Go.Proofs.YtomnmgmehagjfaaGreatDoor.Ck
open Go Go.RowKit Go.Maps
set_option linter.unusedVariables false
set_option linter.unusedSimpArgs false

abbrev Ent := List UInt8 × Int × Int
structure Ck where
  slack : Int
  idle : Int
  now : Int
  mark : Int
  L : List Ent

def within (v : Int) : Int := min (max v 0) 1099511627776
theorem within_lo (v : Int) : 0 ≤ within v := by unfold within; omega
theorem within_hi (v : Int) : within v ≤ 1099511627776 := by unfold within; omega
theorem within_mono {a b : Int} (h : a ≤ b) : within a ≤ within b := by unfold within; omega
theorem within_id {a : Int} (h : 0 ≤ a) (h2 : a ≤ 1099511627776) : within a = a := by unfold within; omega
def may (v : Int) : Bool := v == within v
theorem may_iff (v : Int) : may v = true ↔ 0 ≤ v ∧ v ≤ 1099511627776 := by
  unfold may
  rw [beq_iff_eq]
  constructor
  · intro h; rw [h]; exact ⟨within_lo v, within_hi v⟩
  · intro ⟨h, h2⟩; exact (within_id h h2).symm

def activeB (idle now last : Int) : Bool := idle == 0 || decide (now - last ≤ idle)

/-- The least tick of the active entries. -/
def least (idle now : Int) : List Ent → Option Int
  | [] => none
  | e :: r => if activeB idle now e.2.2 then (match least idle now r with | none => some e.2.1 | some m => some (if e.2.1 < m then e.2.1 else m)) else least idle now r

theorem least_none {idle now : Int} : ∀ {L : List Ent}, least idle now L = none ↔ ∀ e ∈ L, activeB idle now e.2.2 = false
  | [] => by simp [least]
  | e :: r => by
    have ih := least_none (idle := idle) (now := now) (L := r)
    unfold least
    cases ha : activeB idle now e.2.2
    · simp [ha, ih]
    · simp only [if_true, List.mem_cons, forall_eq_or_imp, ha]
      cases h : least idle now r <;> simp

theorem least_some {idle now m : Int} : ∀ {L : List Ent}, least idle now L = some m ↔ (∃ e ∈ L, activeB idle now e.2.2 = true ∧ e.2.1 = m) ∧ ∀ e ∈ L, activeB idle now e.2.2 = true → m ≤ e.2.1
  | [] => by simp [least]
  | e :: r => by
    have ih := fun m' => least_some (idle := idle) (now := now) (m := m') (L := r)
    have ihn := least_none (idle := idle) (now := now) (L := r)
    unfold least
    cases ha : activeB idle now e.2.2
    · simp [ha, ih m]
    · simp only [if_true, List.mem_cons, forall_eq_or_imp, exists_eq_or_imp, ha, true_and, true_implies]
      cases h : least idle now r with
      | none =>
        have hn := ihn.1 h
        simp only [Option.some.injEq]
        constructor
        · rintro rfl
          exact ⟨.inl rfl, Int.le_refl _, fun x hx hax => by rw [hn x hx] at hax; cases hax⟩
        · rintro ⟨h1 | ⟨x, hx, hax, _⟩, _⟩
          · exact h1
          · rw [hn x hx] at hax; cases hax
      | some m' =>
        obtain ⟨⟨x, hx, hax, hxm⟩, hall⟩ := (ih m').1 h
        simp only [Option.some.injEq]
        constructor
        · intro hm
          refine ⟨?_, ?_, ?_⟩
          · split at hm
            · exact .inl hm
            · exact .inr ⟨x, hx, hax, by omega⟩
          · split at hm <;> omega
          · intro y hy hay
            have := hall y hy hay
            split at hm <;> omega
        · rintro ⟨h1, h2, h3⟩
          have := h3 x hx hax
          split
          · rcases h1 with h1 | ⟨y, hy, hay, hym⟩
            · exact h1
            · have := hall y hy hay; omega
          · rcases h1 with h1 | ⟨y, hy, hay, hym⟩
            · omega
            · have := hall y hy hay; omega

def rise (c : Ck) : Ck :=
  match least c.idle c.now c.L with
  | none => c
  | some m => { c with mark := max c.mark (m - c.slack - 1) }
def tick (c : Ck) (n : Int) : Ck := rise { c with now := max c.now (within n) }

/-- A list in the order of its names, with one more. -/
def ins (x : Ent) : List Ent → List Ent
  | [] => [x]
  | y :: r => if bytesBefore x.1 y.1 then x :: y :: r else y :: ins x r
def put (L : List Ent) (s : List UInt8) (v : Int × Int) : List Ent := ins (s, v) (L.filter fun e => !(e.1 == s))
def get (L : List Ent) (s : List UInt8) : Option (Int × Int) := (L.find? fun e => e.1 == s).map (·.2)
def at0 (L : List Ent) (s : List UInt8) : Int := match get L s with | some v => v.1 | none => 0

def at1 (L : List Ent) (s : List UInt8) : Int := match get L s with | some v => v.2 | none => 0

theorem mem_ins {x y : Ent} : ∀ {L : List Ent}, y ∈ ins x L ↔ y = x ∨ y ∈ L
  | [] => by simp [ins]
  | z :: r => by
    unfold ins
    split
    · simp
    · simp [mem_ins (L := r)]; constructor <;> (intro h; rcases h with h | h | h <;> simp [h])
theorem mem_put {L : List Ent} {s : List UInt8} {v : Int × Int} {y : Ent} : y ∈ put L s v ↔ y = (s, v) ∨ (y ∈ L ∧ y.1 ≠ s) := by
  unfold put; rw [mem_ins]; simp
theorem ins_length (x : Ent) : ∀ L : List Ent, (ins x L).length = L.length + 1
  | [] => rfl
  | y :: r => by unfold ins; split <;> simp [ins_length x r]
theorem put_length (L : List Ent) (s : List UInt8) (v : Int × Int) : (put L s v).length ≤ L.length + 1 := by
  unfold put; rw [ins_length]; have := List.length_filter_le (fun e : Ent => !(e.1 == s)) L; omega

/-- name, and tick, within bounds and above the mark: heard; else late. -/
def hearOk (nm : Bool) (c : Ck) (a n : Int) : Bool := nm && may a && decide ((tick c n).mark < a)
def heard (c : Ck) (s : List UInt8) (a n : Int) : Ck :=
  let t := tick c n
  rise { t with L := put t.L s (max a (at0 t.L s), t.now) }
def hear (nm : Bool) (c : Ck) (s : List UInt8) (a n : Int) : Ck := if hearOk nm c a n then heard c s a n else tick c n

structure Ok (c : Ck) : Prop where
  s0 : 0 ≤ c.slack
  s1 : c.slack ≤ 1099511627776
  i0 : 0 ≤ c.idle
  i1 : c.idle ≤ 1099511627776
  n0 : 0 ≤ c.now
  n1 : c.now ≤ 1099511627776
  m0 : -1 ≤ c.mark
  m1 : c.mark ≤ 1099511627776
  l : ∀ e ∈ c.L, 0 ≤ e.2.1 ∧ e.2.1 ≤ 1099511627776 ∧ 0 ≤ e.2.2 ∧ e.2.2 ≤ c.now

theorem rise_slack (c : Ck) : (rise c).slack = c.slack := by unfold rise; split <;> rfl
theorem rise_idle (c : Ck) : (rise c).idle = c.idle := by unfold rise; split <;> rfl
theorem rise_now (c : Ck) : (rise c).now = c.now := by unfold rise; split <;> rfl
theorem rise_L (c : Ck) : (rise c).L = c.L := by unfold rise; split <;> rfl
theorem mx_ge (a b : Int) : a ≤ max a b := by omega
theorem rise_mark_le (c : Ck) : c.mark ≤ (rise c).mark := by
  unfold rise; split
  · exact Int.le_refl _
  · exact mx_ge _ _
theorem tick_slack (c : Ck) (n : Int) : (tick c n).slack = c.slack := rise_slack _
theorem tick_idle (c : Ck) (n : Int) : (tick c n).idle = c.idle := rise_idle _
theorem tick_now (c : Ck) (n : Int) : (tick c n).now = max c.now (within n) := rise_now _
theorem tick_L (c : Ck) (n : Int) : (tick c n).L = c.L := rise_L _
theorem tick_mark_le (c : Ck) (n : Int) : c.mark ≤ (tick c n).mark := rise_mark_le { c with now := max c.now (within n) }
theorem tick_now_le (c : Ck) (n : Int) : c.now ≤ (tick c n).now := by rw [tick_now]; omega

theorem mx_bd {lo hi a b : Int} (h0 : lo ≤ a) (h1 : a ≤ hi) (h2 : b ≤ hi) : lo ≤ max a b ∧ max a b ≤ hi ∧ a ≤ max a b := by
  omega
theorem ok_rise {c : Ck} (h : Ok c) : Ok (rise c) := by
  unfold rise
  cases hl : least c.idle c.now c.L with
  | none => exact h
  | some m =>
    obtain ⟨⟨e, he, _, rfl⟩, _⟩ := least_some.1 hl
    have h1 := h.l e he
    have h2 := h.s0
    have hb := mx_bd (b := e.2.1 - c.slack - 1) h.m0 h.m1 (by omega)
    exact ⟨h.s0, h.s1, h.i0, h.i1, h.n0, h.n1, hb.1, hb.2.1, h.l⟩
theorem ok_now {c : Ck} (h : Ok c) (n : Int) : Ok { c with now := max c.now (within n) } := by
  have hb := mx_bd h.n0 h.n1 (within_hi n)
  refine ⟨h.s0, h.s1, h.i0, h.i1, hb.1, hb.2.1, h.m0, h.m1, fun e he => ?_⟩
  have h1 := h.l e he
  exact ⟨h1.1, h1.2.1, h1.2.2.1, Int.le_trans h1.2.2.2 hb.2.2⟩
theorem ok_tick {c : Ck} (h : Ok c) (n : Int) : Ok (tick c n) := ok_rise (ok_now h n)
theorem at0_bd {c : Ck} (h : Ok c) (s : List UInt8) : 0 ≤ at0 c.L s ∧ at0 c.L s ≤ 1099511627776 := by
  unfold at0 get
  cases hf : c.L.find? (fun e => e.1 == s) with
  | none => simp
  | some e =>
    have := h.l e (List.mem_of_find?_eq_some hf)
    exact ⟨this.1, this.2.1⟩
theorem ok_heard {c : Ck} (h : Ok c) (s : List UInt8) {a : Int} (n : Int) (ha : 0 ≤ a) (ha2 : a ≤ 1099511627776) : Ok (heard c s a n) := by
  have ht := ok_tick h n
  refine ok_rise ⟨ht.s0, ht.s1, ht.i0, ht.i1, ht.n0, ht.n1, ht.m0, ht.m1, fun e he => ?_⟩
  have hb := at0_bd ht s
  rcases mem_put.1 he with rfl | ⟨he, _⟩
  · refine ⟨?_, ?_, ht.n0, Int.le_refl _⟩ <;> (simp only; omega)
  · exact ht.l e he
theorem hearOk_may {nm : Bool} {c : Ck} {a n : Int} (h : hearOk nm c a n = true) : 0 ≤ a ∧ a ≤ 1099511627776 ∧ (tick c n).mark < a ∧ nm = true := by
  unfold hearOk at h
  simp only [Bool.and_eq_true, decide_eq_true_eq, may_iff] at h
  exact ⟨h.1.2.1, h.1.2.2, h.2, h.1.1⟩
theorem ok_hear {nm : Bool} {c : Ck} (h : Ok c) (s : List UInt8) (a n : Int) : Ok (hear nm c s a n) := by
  unfold hear
  split
  · rename_i hk
    obtain ⟨h1, h2, _⟩ := hearOk_may hk
    exact ok_heard h s n h1 h2
  · exact ok_tick h n
theorem hear_length (nm : Bool) (c : Ck) (s : List UInt8) (a n : Int) : (hear nm c s a n).L.length ≤ c.L.length + 1 := by
  unfold hear heard
  split
  · rw [rise_L, tick_L]; exact put_length _ _ _
  · rw [tick_L]; omega

/-! ### the list as the datum of a map -/
def hd (a n : Int) : DataW Unit := .agg [.lit (.int .i64 a), .lit (.int .i64 n)]
def ent (e : Ent) : Lit × DataW Unit := (.string e.1, hd e.2.1 e.2.2)
def DM (L : List Ent) : DataW Unit := .map (L.map ent)
theorem ent_before (x y : Ent) : (ent x).1.before (ent y).1 = bytesBefore x.1 y.1 := rfl
theorem insert_ins (x : Ent) : ∀ L : List Ent, DataW.insert (ent x) (L.map ent) = (ins x L).map ent
  | [] => rfl
  | y :: r => by
    simp only [List.map_cons, DataW.insert, ins]
    by_cases h : (ent x).1.before (ent y).1 = true
    · rw [if_pos h, if_pos (show bytesBefore x.1 y.1 = true from h)]; rfl
    · rw [if_neg h, if_neg (show ¬ bytesBefore x.1 y.1 = true from h), insert_ins x r]; rfl
theorem DM_put (L : List Ent) (s : List UInt8) (v : Int × Int) : (DM L).put (.string s) (hd v.1 v.2) = DM (put L s v) := by
  unfold DM put DataW.put
  simp only
  congr 1
  rw [List.filter_map]
  exact insert_ins (s, v) _
theorem DM_size (L : List Ent) : Maps.size (DM L) = L.length := by simp [DM, Maps.size]
theorem DM_has (L : List Ent) (s : List UInt8) : Maps.has (DM L) (.string s) = (get L s).isSome := by
  unfold DM get
  show (L.map ent).any _ = _
  rw [List.any_map, Option.isSome_map, List.isSome_find?]
  rfl
theorem find_map_ent (s : List UInt8) : ∀ L : List Ent, (L.map ent).find? (fun p => p.1.sameKey (.string s)) = (L.find? fun e => e.1 == s).map ent
  | [] => rfl
  | e :: r => by
    simp only [List.map_cons, List.find?_cons]
    have : (ent e).1.sameKey (.string s) = (e.1 == s) := rfl
    rw [this]
    cases e.1 == s
    · exact find_map_ent s r
    · rfl
theorem DM_at (L : List Ent) (s : List UInt8) (z : DataW Unit) : (DM L).atKey (.string s) z = match get L s with | some v => hd v.1 v.2 | none => z := by
  unfold DM get DataW.atKey
  simp only [find_map_ent]
  cases L.find? (fun e => e.1 == s) <;> rfl

/-! ### the loop over the entries, in whatever order -/
def KD (L : List Ent) : Prop := L.Pairwise (fun x y => x.1 ≠ y.1)
theorem KD_uniq : ∀ {L : List Ent}, KD L → ∀ {x y : Ent}, x ∈ L → y ∈ L → x.1 = y.1 → x = y
  | [], _, _, _, hx, _, _ => by simp at hx
  | a :: r, hp, x, y, hx, hy, h => by
    obtain ⟨h1, h2⟩ := List.pairwise_cons.1 hp
    rcases List.mem_cons.1 hx with ex | hx'
    · rcases List.mem_cons.1 hy with ey | hy'
      · rw [ex, ey]
      · exact absurd (ex ▸ h) (h1 y hy')
    · rcases List.mem_cons.1 hy with ey | hy'
      · exact absurd (ey ▸ h).symm (h1 x hx')
      · exact KD_uniq h2 hx' hy' h
theorem get_mem {L : List Ent} {s : List UInt8} {v : Int × Int} (h : get L s = some v) : (s, v) ∈ L := by
  unfold get at h
  cases hf : L.find? (fun e => e.1 == s) with
  | none => rw [hf] at h; cases h
  | some e =>
    rw [hf] at h
    have h1 := List.mem_of_find?_eq_some hf
    have h2 := List.find?_some hf
    simp only [beq_iff_eq] at h2
    simp only [Option.map_some, Option.some.injEq] at h
    subst h2; subst h
    exact h1
theorem mem_get {L : List Ent} (hd : KD L) {e : Ent} (h : e ∈ L) : get L e.1 = some e.2 := by
  unfold get
  cases hf : L.find? (fun x => x.1 == e.1) with
  | none => exact absurd (by simp : (e.1 == e.1) = true) (List.find?_eq_none.1 hf e h)
  | some x =>
    have h1 := List.mem_of_find?_eq_some hf
    have h2 := List.find?_some hf
    simp only [beq_iff_eq] at h2
    rw [KD_uniq hd h1 h h2]; rfl

def LR (c : Ck) (left : Lit → Bool) (m : Int) (o : Bool) : Prop :=
  (o = false ∧ m = 0 ∧ ∀ e ∈ c.L, left (.string e.1) = false → activeB c.idle c.now e.2.2 = false) ∨
  (o = true ∧ (∃ e ∈ c.L, activeB c.idle c.now e.2.2 = true ∧ e.2.1 = m) ∧ ∀ e ∈ c.L, left (.string e.1) = false → activeB c.idle c.now e.2.2 = true → m ≤ e.2.1)
theorem LR_start (c : Ck) : LR c (Maps.has (DM c.L)) 0 false := by
  refine .inl ⟨rfl, rfl, fun e he hl => ?_⟩
  rw [DM_has] at hl
  unfold get at hl
  rw [Option.isSome_map, List.isSome_find?, List.any_eq_false] at hl
  exact absurd (by simp) (hl e he)
theorem LR_bd {c : Ck} {left : Lit → Bool} {m : Int} {o : Bool} (hok : Ok c) (h : LR c left m o) : 0 ≤ m ∧ m ≤ 1099511627776 := by
  rcases h with ⟨_, rfl, _⟩ | ⟨_, ⟨e, he, _, rfl⟩, _⟩
  · omega
  · have := hok.l e he; exact ⟨this.1, this.2.1⟩
theorem left_new {left : Lit → Bool} {s t : List UInt8} (h : (left (.string t) && !(Lit.string t).sameKey (.string s)) = false) : left (.string t) = false ∨ t = s := by
  simp only [Bool.and_eq_false_imp, Bool.not_eq_false'] at h
  cases hl : left (.string t)
  · exact .inl rfl
  · right; have := h hl; simpa [Lit.sameKey] using this
theorem LR_skip {c : Ck} {left : Lit → Bool} {m : Int} {o : Bool} {s : List UInt8} {a n : Int} (hd : KD c.L) (hg : get c.L s = some (a, n)) (h : LR c left m o)
    (hs : activeB c.idle c.now n = false ∨ (o = true ∧ m ≤ a)) : LR c (fun z => left z && !z.sameKey (.string s)) m o := by
  have hm := get_mem hg
  have key : ∀ e ∈ c.L, (left (.string e.1) && !(Lit.string e.1).sameKey (.string s)) = false → left (.string e.1) = false ∨ e = (s, (a, n)) := by
    intro e he hl
    rcases left_new hl with h1 | h1
    · exact .inl h1
    · exact .inr (KD_uniq hd he hm h1)
  rcases h with ⟨h1, h2, h3⟩ | ⟨h1, h2, h3⟩
  · refine .inl ⟨h1, h2, fun e he hl => ?_⟩
    rcases key e he hl with h4 | rfl
    · exact h3 e he h4
    · rcases hs with hs | ⟨hs, _⟩
      · exact hs
      · rw [h1] at hs; cases hs
  · refine .inr ⟨h1, h2, fun e he hl ha => ?_⟩
    rcases key e he hl with h4 | rfl
    · exact h3 e he h4 ha
    · rcases hs with hs | ⟨_, hs⟩
      · simp only at ha; rw [hs] at ha; cases ha
      · exact hs
theorem LR_take {c : Ck} {left : Lit → Bool} {m : Int} {o : Bool} {s : List UInt8} {a n : Int} (hd : KD c.L) (hg : get c.L s = some (a, n)) (h : LR c left m o)
    (ha : activeB c.idle c.now n = true) (hs : o = false ∨ a ≤ m) : LR c (fun z => left z && !z.sameKey (.string s)) a true := by
  have hm := get_mem hg
  refine .inr ⟨rfl, ⟨_, hm, ha, rfl⟩, fun e he hl hae => ?_⟩
  rcases left_new hl with h1 | h1
  · rcases h with ⟨h2, h3, h4⟩ | ⟨h2, h3, h4⟩
    · rw [h4 e he h1] at hae; cases hae
    · have := h4 e he h1 hae
      rcases hs with hs | hs
      · rw [h2] at hs; cases hs
      · omega
  · rw [KD_uniq hd he hm h1]; exact Int.le_refl _
def toldV (c : Ck) : Int := (match least c.idle c.now c.L with | none => 0 | some m => m) - c.slack - 1
def toldB (c : Ck) : Bool := (least c.idle c.now c.L).isSome
theorem LR_end {c : Ck} {left : Lit → Bool} {m : Int} {o : Bool} (h : LR c left m o) (hl : ∀ k, left k = false) : m - c.slack - 1 = toldV c ∧ o = toldB c := by
  unfold toldV toldB
  rcases h with ⟨rfl, rfl, h⟩ | ⟨rfl, h1, h2⟩
  · rw [least_none.2 (fun e he => h e he (hl _))]; exact ⟨rfl, rfl⟩
  · rw [least_some.2 ⟨h1, fun e he ha => h2 e he (hl _) ha⟩]; exact ⟨rfl, rfl⟩
theorem rise_told (c : Ck) : rise c = if toldB c = true then { c with mark := max c.mark (toldV c) } else c := by
  unfold rise toldB toldV
  cases least c.idle c.now c.L <;> rfl

def heardV (c : Ck) (s : List UInt8) : Int := match get c.L s with | some v => v.1 | none => -1
def activeV (c : Ck) (s : List UInt8) : Bool := match get c.L s with | some v => activeB c.idle c.now v.2 | none => false

theorem heardV_eq (c : Ck) (s : List UInt8) : heardV c s = match get c.L s with | some v => v.1 | none => -1 := rfl
theorem activeV_eq (c : Ck) (s : List UInt8) : activeV c s = match get c.L s with | some v => activeB c.idle c.now v.2 | none => false := rfl
theorem at0_eq (L : List Ent) (s : List UInt8) : at0 L s = match get L s with | some v => v.1 | none => 0 := rfl
theorem at1_eq (L : List Ent) (s : List UInt8) : at1 L s = match get L s with | some v => v.2 | none => 0 := rfl

end Go.Proofs.YtomnmgmehagjfaaGreatDoor.Ck
