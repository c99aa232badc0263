/-
  ClockOrder, the plain part: the sources that were heard hang on what was heard alone, not on its order.
  No condition: lemmas.
-/
import Derived.Test.YtomnmgmehagjfaaSorted
import Derived.Test.YtomnmgmehagjfaaFew
namespace Go.Proofs.Ytomnmgmehagjfaa.Ck
open Go Go.RowKit Go.Maps

theorem find_ins_hit {s : List UInt8} {v : Int × Int} : ∀ {L : List Ent}, (∀ e ∈ L, e.1 ≠ s) → (ins (s, v) L).find? (fun e => e.1 == s) = some (s, v)
  | [], _ => by simp [ins]
  | y :: r, h => by
    unfold ins
    split
    · simp
    · have h1 : (y.1 == s) = false := by simpa using h y (by simp)
      rw [List.find?_cons, h1]
      exact find_ins_hit (fun e he => h e (by simp [he]))
theorem find_ins_miss {s t : List UInt8} {v : Int × Int} (hne : t ≠ s) : ∀ {L : List Ent}, (ins (s, v) L).find? (fun e => e.1 == t) = L.find? (fun e => e.1 == t)
  | [] => by simp [ins, hne.symm]
  | y :: r => by
    have h0 : (s == t) = false := by simpa using hne.symm
    unfold ins
    split
    · rw [List.find?_cons]; simp only [h0]
    · rw [List.find?_cons, List.find?_cons]
      cases hy : y.1 == t
      · exact find_ins_miss hne
      · rfl
theorem get_put_same (L : List Ent) (s : List UInt8) (v : Int × Int) : get (put L s v) s = some v := by
  unfold get put
  rw [find_ins_hit (fun e he => by have := (List.mem_filter.1 he).2; simpa using this)]; rfl
theorem get_put_other (L : List Ent) {s t : List UInt8} (v : Int × Int) (hne : t ≠ s) : get (put L s v) t = get L t := by
  unfold get put
  rw [find_ins_miss hne, Go.Maps.find_filter_keep (fun p hp => by
    have : p.1 = t := by simpa using hp
    simpa [this] using hne)]

theorem snoc_ind {α : Type} {p : List α → Prop} (nil : p []) (snoc : ∀ l a, p l → p (l ++ [a])) (l : List α) : p l := by
  have : ∀ r : List α, p r.reverse := by
    intro r
    induction r with
    | nil => exact nil
    | cons a r ih => rw [List.reverse_cons]; exact snoc _ _ ih
  have h := this l.reverse
  rwa [List.reverse_reverse] at h

def key (a : ActT) : List UInt8 := a.name.data.toList
def FLstep (L : List Ent) (a : ActT) : List Ent := put L (key a) (max a.at_ (at0 L (key a)), 0)
def FL (l : List ActT) : List Ent := l.foldl FLstep []
theorem FL_snoc (l : List ActT) (a : ActT) : FL (l ++ [a]) = FLstep (FL l) a := by simp [FL, List.foldl_append]
theorem FL_none : ∀ (l : List ActT) (s : List UInt8), get (FL l) s = none ↔ ∀ a ∈ l, key a ≠ s := by
  intro l
  induction l using snoc_ind with
  | nil => intro s; simp [FL, get]
  | snoc l a ih =>
    intro s
    rw [FL_snoc]
    unfold FLstep
    by_cases h : s = key a
    · subst h; rw [get_put_same]; simp
    · rw [get_put_other _ _ h, ih s]
      simp only [List.mem_append, List.mem_singleton]
      constructor
      · rintro h1 x (hx | rfl)
        · exact h1 x hx
        · exact fun e => h e.symm
      · exact fun h1 x hx => h1 x (.inl hx)
theorem FL_some : ∀ (l : List ActT), (∀ a ∈ l, 0 ≤ a.at_) → ∀ (s : List UInt8) (v : Int × Int), get (FL l) s = some v → v.2 = 0 ∧ (∃ a ∈ l, key a = s ∧ a.at_ = v.1) ∧ ∀ a ∈ l, key a = s → a.at_ ≤ v.1 := by
  intro l
  induction l using snoc_ind with
  | nil => intro _ s v h; simp [FL, get] at h
  | snoc l a ih =>
    intro h0 s v h
    rw [FL_snoc] at h
    unfold FLstep at h
    have h0' : ∀ x ∈ l, 0 ≤ x.at_ := fun x hx => h0 x (by simp [hx])
    by_cases hs : s = key a
    · subst hs
      rw [get_put_same] at h
      cases h
      have ha := h0 a (by simp)
      unfold at0
      cases hg : get (FL l) (key a) with
      | none =>
        have hn := (FL_none l (key a)).1 hg
        have e : max a.at_ 0 = a.at_ := by omega
        simp only [e]
        refine ⟨by simp, ⟨a, by simp, rfl, rfl⟩, ?_⟩
        intro x hx hk
        rcases List.mem_append.1 hx with hx | hx
        · exact absurd hk (hn x hx)
        · rw [List.mem_singleton.1 hx]; exact Int.le_refl _
      | some u =>
        obtain ⟨_, ⟨y, hy, hyk, hyv⟩, hall⟩ := ih h0' _ _ hg
        simp only
        refine ⟨by simp, ?_, ?_⟩
        · rcases Int.le_total u.1 a.at_ with hle | hle
          · exact ⟨a, by simp, rfl, by omega⟩
          · exact ⟨y, by simp [hy], hyk, by omega⟩
        · intro x hx hk
          rcases List.mem_append.1 hx with hx | hx
          · have := hall x hx hk; omega
          · rw [List.mem_singleton.1 hx]; omega
    · rw [get_put_other _ _ hs] at h
      obtain ⟨e, ⟨y, hy, hyk, hyv⟩, hall⟩ := ih h0' _ _ h
      refine ⟨e, ⟨y, by simp [hy], hyk, hyv⟩, ?_⟩
      intro x hx hk
      rcases List.mem_append.1 hx with hx | hx
      · exact hall x hx hk
      · rw [List.mem_singleton.1 hx] at hk; exact absurd hk.symm hs
theorem FL_same {l m : List ActT} (hm : ∀ a, a ∈ l ↔ a ∈ m) (h0 : ∀ a ∈ l, 0 ≤ a.at_) (s : List UInt8) : get (FL l) s = get (FL m) s := by
  have h0' : ∀ a ∈ m, 0 ≤ a.at_ := fun a ha => h0 a ((hm a).2 ha)
  cases hg : get (FL l) s with
  | none =>
    have := (FL_none l s).1 hg
    exact ((FL_none m s).2 (fun a ha => this a ((hm a).2 ha))).symm
  | some v =>
    obtain ⟨e1, ⟨a, ha, hk, hv⟩, hall⟩ := FL_some l h0 s v hg
    cases hg2 : get (FL m) s with
    | none => exact absurd hk ((FL_none m s).1 hg2 a ((hm a).1 ha))
    | some u =>
      obtain ⟨e2, ⟨b, hb, hbk, hbv⟩, hall2⟩ := FL_some m h0' s u hg2
      have h1 := hall b ((hm b).2 hb) hbk
      have h2 := hall2 a ((hm a).1 ha) hk
      have : v = u := Prod.ext (by omega) (by rw [e1, e2])
      rw [this]

theorem before_irr : ∀ (a : List UInt8), bytesBefore a a = false
  | [] => rfl
  | a :: r => by simp [bytesBefore, before_irr r]
theorem Rising.kd {L : List Ent} (h : Rising L) : KD L := h.imp (fun {x y} hb he => by rw [he, before_irr] at hb; cases hb)
theorem hd_inj' {a n a' n' : Int} (h : hd a n = hd a' n') : a = a' ∧ n = n' := by
  unfold hd at h
  simpa using h
theorem ent_inj {x y : Ent} (h : ent x = ent y) : x = y := by
  unfold ent at h
  simp only [Prod.mk.injEq, Lit.string.injEq] at h
  obtain ⟨h1, h2⟩ := h
  obtain ⟨h3, h4⟩ := hd_inj' h2
  exact Prod.ext h1 (Prod.ext h3 h4)
theorem rising_ext {L M : List Ent} (hL : Rising L) (hM : Rising M) (h : ∀ s, get L s = get M s) : L = M := by
  have hmem : ∀ e, e ∈ L ↔ e ∈ M := by
    intro e
    constructor
    · intro he
      have := mem_get hL.kd he
      rw [h] at this
      exact get_mem this
    · intro he
      have := mem_get hM.kd he
      rw [← h] at this
      exact get_mem this
  have key : L.map ent = M.map ent := by
    refine Go.Maps.eq_of_mem_rising ?_ ?_ ?_
    · rw [List.pairwise_map]; exact hL
    · rw [List.pairwise_map]; exact hM
    · intro p
      simp only [List.mem_map]
      constructor
      · rintro ⟨e, he, rfl⟩; exact ⟨e, (hmem e).1 he, rfl⟩
      · rintro ⟨e, he, rfl⟩; exact ⟨e, (hmem e).2 he, rfl⟩
  exact (List.map_inj_right (fun x y hxy => ent_inj hxy)).1 key

theorem hear_now' {nm : Bool} {c : Ck} {s : List UInt8} {a n : Int} (hk : hearOk nm c a n = true) : (hear nm c s a n).now = (tick c n).now := by
  unfold hear heard; rw [if_pos hk, rise_now]

/-- What the loops keep of a clock that has heard l, with the clock at 0 and nothing idle. -/
structure OI (c : Ck) (l : List ActT) : Prop where
  ok : Ok c
  now : c.now = 0
  idle : c.idle = 0
  ls : c.L = FL l
  pos : ∀ a ∈ l, 0 ≤ a.at_
  len : c.L.length ≤ l.length
theorem OI_new (s : Int) : OI (newC s 0) [] := ⟨ok_new _ _, rfl, rfl, rfl, by simp, Nat.le_refl _⟩
theorem OI_step {c : Ck} {l : List ActT} (h : OI c l) {nm : Bool} {a : ActT} (hk : hearOk nm c a.at_ 0 = true) : OI (hear nm c (key a) a.at_ 0) (l ++ [a]) := by
  obtain ⟨h1, h2, h3, _⟩ := hearOk_may hk
  have hw : within 0 = 0 := within_id (by omega) (by omega)
  have hn : (tick c 0).now = 0 := by rw [tick_now, hw, h.now]; omega
  have hl := hear_length nm c (key a) a.at_ 0
  refine ⟨ok_hear h.ok _ _ _, by rw [hear_now' hk]; exact hn, ?_, ?_, ?_, by have := h.len; simp; omega⟩
  · unfold hear heard; rw [if_pos hk, rise_idle]; show (tick c 0).idle = 0; rw [tick_idle]; exact h.idle
  · unfold hear heard; rw [if_pos hk, rise_L, FL_snoc]
    show put (tick c 0).L (key a) (max a.at_ (at0 (tick c 0).L (key a)), (tick c 0).now) = _
    rw [hn, tick_L, h.ls]; rfl
  · intro x hx
    rcases List.mem_append.1 hx with hx | hx
    · exact h.pos x hx
    · rw [List.mem_singleton.1 hx]; exact h1
theorem OI_active {c : Ck} {l : List ActT} (h : OI c l) {e : Ent} (he : e ∈ c.L) (hr : Rising c.L) : activeV c e.1 = true := by
  rw [activeV_eq, mem_get hr.kd he, h.idle]; rfl

end Go.Proofs.Ytomnmgmehagjfaa.Ck
