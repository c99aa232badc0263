import Derived.Test.YtgpadcokcdpmnaaDoorMd10
import Derived.Test.YtgpadcokcdpmnaaDoorMd11
import Derived.Deep.Slices
import Derived.Deep.Fields
import Derived.ChangeSame
import Derived.ProofKit
import Derived.OpenShut
import Derived.ShutString
import Derived.ChangeOld
import Derived.SizedLaws
set_option linter.unusedVariables false
set_option linter.unusedSimpArgs false
section
namespace Go.Proofs.YtgpadcokcdpmnaaDoor.Fd
open Go Go.RowKit Go.Maps Go.Sort Go.Shelf Go.Lib Go.WideAt Go.WideShapes
set_option linter.unusedVariables false
set_option linter.unusedSimpArgs false
theorem diff_calls (B p b : Nat) (L : List Ev) (M : List GE) (A : Option Addr) (n cap : Nat) (l : List It) (at_ num : Int) (src : ByteArray) (w : World) (h : DiffIn B p b L M A n l w) :
    Calls Tryd.prog 11 #[.pointer (some ⟨p, 0, none⟩), .int .i64 at_, .string src, .int .i64 num, .slice A n cap] w fun r w' => DiffPost w (diffOut l L M at_ src num) r w' := by
  cases hgo : diffGo l at_ src num with
  | false => exact diff_no B p b L M A n cap l at_ num src w h hgo
  | true => exact diff_go B p b L M A n cap l at_ num src w h hgo
theorem norm_one (s : Tx) : normL [s] = [s] := by
  obtain ⟨h1, h2⟩ := normL_rise [s]
  exact rise_ext h1 (by simp [RiseL]) h2
def xIt : It := ⟨⟨#[120]⟩, ⟨#[109]⟩, ⟨#[]⟩, 0, 3, 0, false⟩
def xEv : Ev := ⟨⟨#[115]⟩, 1, 5, 11, ⟨#[]⟩, ⟨#[120]⟩, 3, ⟨#[109, 59]⟩⟩
theorem lives_out : diffOut [xIt] [] [] 5 ⟨#[115]⟩ 1 = [xEv] := by
  have h1 : diffGo [xIt] 5 ⟨#[115]⟩ 1 = true := by kernel_rfl
  have h2 : diffNames [xIt] [] [] 5 = [[120]] := norm_one [120]
  have h3 : diffFull [xIt] [] [] 5 ⟨#[115]⟩ 1 = [xEv] := by
    unfold diffFull; rw [h2]; kernel_rfl
  unfold diffOut
  rw [h1, h3]; rfl
set_option maxHeartbeats 4000000 in
set_option maxRecDepth 100000 in
theorem lives_calls (w : World) : Calls Tryd.prog 6 #[] w fun e w' => e = .returned (.bool true) ∧ Below w.heap.size w w' := by
  have HNEW := Lib.hid new_calls
  have hEQ := PFeedDiffs.eqA37
  go_enter Tryd.func6, Tryd.ntmps6
  go_wp2_with (first
    | (go_at_call 18; (with_reducible refine (HNEW.out _).mono ?_); rintro r w1 ⟨rfl, hc, hb⟩; have HCAT := Lib.hid hc; have HB1 := Lib.hid hb; have hw1 := hc.ltp; clear hc hb; refine Hid.out ?_)
    | fail)
  refine Lib.hid ?_
  have HDI : Hid (DiffIn w.heap.size (w.heap.size + 1) w.heap.size [] [] (some ⟨w1.heap.size, 0, none⟩) 1 [xIt] (w1.alloc (.cells xIt.cells 42))) := by
    refine ⟨HCAT.out.below ((Below.refl _ _).alloc (Nat.le_refl _) _), ?_, rfl, by omega, by simp, by simp, by simp, by simp, ?_⟩
    · intro i x hx
      have hi : i = 0 := by have := (List.getElem?_eq_some_iff.1 hx).1; simpa using this
      subst hi
      simp at hx
      subst hx
      refine ⟨_, rfl, by simp, fun j u hu => ?_⟩
      have h9 := heap_alloc_new w1 (.cells xIt.cells 42)
      simp only [World.cell?, h9]
      simpa using hu
    · intro x hx
      simp at hx
      subst hx
      exact ⟨by decide, by decide, by decide⟩
  have hDIFF := fun cap => diff_calls w.heap.size (w.heap.size + 1) w.heap.size [] [] (some ⟨w1.heap.size, 0, none⟩) 1 cap [xIt] 5 1 ⟨#[115]⟩ _ HDI.out
  rw [lives_out] at hDIFF
  have HB2 : Hid (Below w.heap.size w (w1.alloc (.cells xIt.cells 42))) := HB1.out.alloc HB1.out.size _
  simp only [It.cells, xIt] at hDIFF HB2
  have HDIFF := Lib.hid hDIFF
  clear hDIFF HDI HCAT
  go_wp2_with (first
    | (go_at_call 11; (with_reducible refine (HDIFF.out _).mono ?_); rintro r y ⟨v, rfl, hown, hy⟩; refine Hid.out ?_)
    | fail)
  refine Lib.hid ?_
  have HBY : Hid (Below w.heap.size w y) := HB2.out.trans (hy.mono HB2.out.size)
  obtain ⟨g, cap, rfl, _, hgl⟩ := hown.form (by simp)
  have hc := hown.cells (g := g) rfl
  have f : ∀ j u, xEv.cells.toList[j]? = some u → y.cell? ⟨g, j, none⟩ = some u := by
    intro j u hj
    have := hc j u (by simpa [cellsV] using hj)
    rwa [add_none'] at this
  have f0 := f 0 (.string ⟨#[115]⟩) rfl
  have f1 := f 1 (.int .i64 1) rfl
  have f2 := f 2 (.int .i64 5) rfl
  have f3 := f 3 (.int .i64 11) rfl
  have f4 := f 4 (.string ⟨#[]⟩) rfl
  have f5 := f 5 (.string ⟨#[120]⟩) rfl
  have f6 := f 6 (.int .i64 3) rfl
  have f7 := f 7 (.string ⟨#[109, 59]⟩) rfl
  clear hc f hown hy
  go_wp2_with fail
  go_ret
  exact ⟨rfl, HBY.out⟩
def madeFrom (pre : List Ev) : List Ev → Bool
  | [] => true
  | e :: r => applyOk pre e && madeFrom (pre ++ [e]) r
def madeOk (l : List Ev) : Bool := madeFrom [] l
def CatFine (B : Nat) (w : World) (p b : Nat) (L : List Ev) (M : List GE) : Prop := Cat B w p b L M ∧ M.length ≤ L.length ∧ ∀ e ∈ M, ∃ x ∈ L, x.item.data.toList = e.1
def MadePost (w : World) (l : List Ev) (r : Ending) (w' : World) : Prop :=
  (madeOk l = false → r = .returned (.pointer none)) ∧ (madeOk l = true → ∃ p b M, r = .returned (.pointer (some ⟨p, 0, none⟩)) ∧ CatFine w.heap.size w' p b l M) ∧ Below w.heap.size w w'
def ML (B : Nat) (w : World) (p b : Nat) (l : List Ev) (v4 : Value) (wr : World) : Prop :=
  ∃ (k : Nat) (M : List GE), k ≤ l.length ∧ v4 = .int .i64 k ∧ CatFine B wr p b (l.take k) M ∧ madeOk l = madeFrom (l.take k) (l.drop k) ∧ Below B w wr
theorem CatFine.snoc {B : Nat} {w w' : World} {p b : Nat} {L : List Ev} {M : List GE} (h : CatFine B w p b L M) {e : Ev} {v : Value} (hc : Cat B w' p b (L ++ [e]) (gput M e.item.data.toList v)) : CatFine B w' p b (L ++ [e]) (gput M e.item.data.toList v) := by
  refine ⟨hc, ?_, fun x hx => ?_⟩
  · have := gput_length M e.item.data.toList v
    have := h.2.1
    simp; omega
  · rcases mem_gput.1 hx with rfl | ⟨hx, _⟩
    · exact ⟨e, by simp, rfl⟩
    · obtain ⟨y, hy, he⟩ := h.2.2 x hx
      exact ⟨y, by simp [hy], he⟩
set_option maxHeartbeats 4000000 in
set_option maxRecDepth 100000 in
theorem made_calls (A : Option Addr) (cap : Nat) (l : List Ev) (w : World) (h : EvsO w A l) (hf : EvFine l) :
    Calls Tryd.prog 9 #[.slice A l.length cap] w fun r w' => MadePost w l r w' := by
  have H := Lib.hid h
  have hl1 := hf.1
  have HF := Lib.hid hf.2
  have HNEW := Lib.hid new_calls
  clear h hf
  go_enter Tryd.func9, Tryd.ntmps9
  go_wp2_with (first
    | (go_at_call 18; (with_reducible refine (HNEW.out _).mono ?_); rintro r w1 ⟨rfl, hc, hb⟩; have HCAT := Lib.hid hc; have HB1 := Lib.hid hb; clear hc hb)
    | fail)
  go_loopw [4] (fun v4 wr => ML w.heap.size w (w.heap.size + 1) w.heap.size l v4 wr) (fun i _ => l.length - (intOf i).toNat)
  case atStart => exact ⟨0, [], Nat.zero_le _, rfl, ⟨HCAT.out, Nat.le_refl _, by simp⟩, rfl, HB1.out⟩
  case round =>
    clear HCAT HB1
    obtain ⟨k, M, hk, rfl, hcf, hmd, hbr⟩ := hrel
    have HCF := Lib.hid hcf
    have HMD := Lib.hid hmd
    have HBR := Lib.hid hbr
    clear hcf hmd hbr
    by_cases hlt : k < l.length
    · obtain ⟨e, he⟩ : ∃ x, l[k]? = some x := ⟨_, List.getElem?_eq_getElem hlt⟩
      obtain ⟨g, O, rfl, hg, hcs⟩ := (H.out.below HBR.out) k e he
      obtain ⟨ht, hi⟩ := HF.out e (List.mem_of_getElem? he)
      have hdr : l.drop k = e :: l.drop (k + 1) := by rw [List.drop_eq_getElem_cons hlt, (List.getElem?_eq_some_iff.1 he).2]
      have htk : l.take (k + 1) = l.take k ++ [e] := by rw [List.take_add_one, he]; rfl
      have hstep := HMD.out
      rw [hdr, madeFrom, ← htk] at hstep
      have HSTEP := Lib.hid hstep
      have HTK := Lib.hid htk
      have f0 : wr.cell? ⟨g, O + k * 8, none⟩ = some (.string e.src) := hcs 0 _ rfl
      have f1 := hcs 1 (.int .i64 e.num) rfl
      have f2 := hcs 2 (.int .i64 e.at_) rfl
      have f3 := hcs 3 (.int .i64 e.kind) rfl
      have f4 := hcs 4 (.string e.person) rfl
      have f5 := hcs 5 (.string e.item) rfl
      have f6 := hcs 6 (.int .i64 e.value) rfl
      have f7 := hcs 7 (.string e.text) rfl
      have hkl : (l.take k).length ≤ 1000 := by simp; omega
      have hAP := apply_calls w.heap.size (w.heap.size + 1) w.heap.size (l.take k) M e wr HCF.out.1 ht HBR.out.size (by unfold maxLen; omega) (by omega) (by have := HCF.out.2.1; omega)
      simp only [Ev.val, Ev.cells] at hAP
      have HAP := Lib.hid hAP
      have hki : (0 : Int) ≤ k := by omega
      have hli : (k : Int) < l.length := by omega
      clear hcs hdr htk hstep hAP he
      cases hok : applyOk (l.take k) e with
      | false =>
        have HR : Hid (madeOk l = false) := by rw [Hid, HSTEP.out, hok]; rfl
        rw [hok] at HAP
        go_wp2_with (first
          | (go_at_call 15; (with_reducible refine HAP.out.mono ?_); rintro r y ⟨rfl, hap⟩; have HY := Lib.hid hap; clear hap)
          | fail)
        go_ret
        exact ⟨fun _ => rfl, (fun h1 => by rw [HR.out] at h1; cases h1), HBR.out.trans (HY.out.2.2.mono (Nat.le_refl _))⟩
      | true =>
        have HR : Hid (madeOk l = madeFrom (l.take (k + 1)) (l.drop (k + 1))) := by rw [Hid, HSTEP.out, hok, Bool.true_and]
        rw [hok] at HAP
        go_wp2_with (first
          | (go_at_call 15; (with_reducible refine HAP.out.mono ?_); rintro r y ⟨rfl, hap⟩; have HY := Lib.hid hap; clear hap)
          | fail)
        have HNEXT : Hid (∃ M', CatFine w.heap.size y (w.heap.size + 1) w.heap.size (l.take (k + 1)) M') := by
          obtain ⟨v, hv⟩ := HY.out.1 rfl
          rw [Hid, HTK.out]
          exact ⟨_, HCF.out.snoc hv⟩
        obtain ⟨M', hM'⟩ := HNEXT.out
        have HM' := Lib.hid hM'
        clear hM'
        go_roundw
        case rel => exact ⟨k + 1, M', by omega, by first | rfl | simp, HM'.out, HR.out, HBR.out.trans (HY.out.2.2.mono (Nat.le_refl _))⟩
        case measure => simp [intOf]; omega
    · have hke : k = l.length := by omega
      have HR : Hid (madeOk l = true) := by rw [Hid, HMD.out, List.drop_of_length_le (by omega)]; rfl
      have HC : Hid (CatFine w.heap.size wr (w.heap.size + 1) w.heap.size l M) := by
        have h9 := HCF.out
        rw [List.take_of_length_le (by omega)] at h9; exact h9
      clear hke
      go_wp2_with fail
      go_ret
      exact ⟨(fun h1 => by rw [HR.out] at h1; cases h1), fun _ => ⟨_, _, M, rfl, HC.out⟩, HBR.out⟩
theorem its_of_R {w : World} {base : Nat} {ok : Nat → Prop} {v : Value} {l : List It} (h : YtgpadcokcdpmnaaDoorW.PrintWords.Kd.R PFeedDiffs.k42 42 w base ok v (l.map toI)) : ∃ A cap, v = .slice A l.length cap ∧ Its w A l := by
  obtain ⟨_, inner, hown, hlen, hr⟩ := h
  rw [List.length_map] at hown
  obtain ⟨A, cap, rfl⟩ := own_slice hown
  refine ⟨A, cap, rfl, fun i x hx => ?_⟩
  have hi := (List.getElem?_eq_some_iff.1 hx).1
  obtain ⟨g, cap', hv, hg, hlt⟩ := hown.form (by omega)
  have hA : A = some ⟨g, 0, none⟩ := by injection hv
  subst hA
  refine ⟨g, rfl, hlt, fun j u hj => ?_⟩
  have h1 := PFeedDiffs.k42_openM (hr i (toI x) (by rw [List.getElem?_map, hx]; rfl))
  have hj7 : j < 7 := by have := (List.getElem?_eq_some_iff.1 hj).1; simpa [It.cells] using this
  have h2 : ((inner.drop (i * 7)).take 7)[j]? = some u := by
    have h3 : (inner.drop (i * 7)).take 7 = x.cells.toList := h1
    rw [h3]; exact hj
  rw [List.getElem?_take_of_lt hj7, List.getElem?_drop] at h2
  have := hown.cells (g := g) rfl (i * 7 + j) u h2
  rwa [add_none'] at this
theorem items_calls (A : Option Addr) (cap : Nat) (l : List Rw) (w : World) (h : RwsAt w A l) (hl : l.length ≤ 1000000) (hc : l.length ≤ cap) :
    Calls Tryd.prog 12 #[.slice A l.length cap] w fun e w' => ∃ A' cap', e = .returned (.slice A' l.length cap') ∧ Its w' A' (itemsL l 0) ∧ Below w.heap.size w w' := by
  have := PFeedDiffs.ciceronelaw46_items.calls _ A cap (l.map toR) _ w (h.C hl) (by simpa using hc) (pItems l hl)
  rw [List.length_map] at this
  refine this.mono ?_
  rintro e w' ⟨v, rfl, hr, hb⟩
  obtain ⟨A', cap', rfl, hi⟩ := its_of_R hr
  have hlen : ∀ (l : List Rw) (i : Nat), (itemsL l i).length = l.length := by
    intro l
    induction l with
    | nil => intro i; rfl
    | cons x r ih => intro i; simp [itemsL, ih]
  rw [hlen]
  exact ⟨A', cap', rfl, hi, hb⟩
end Go.Proofs.YtgpadcokcdpmnaaDoor.Fd
end
section
namespace Go.Proofs.YtgpadcokcdpmnaaDoor.Fd
open Go Go.RowKit Go.Maps Go.Sort Go.Shelf Go.Lib Go.WideAt Go.WideShapes
set_option linter.unusedVariables false
set_option linter.unusedSimpArgs false
structure Own (L : List Ev) : Prop where
  rise : L.Pairwise (fun a b => a.at_ ≤ b.at_)
  own : ∀ e ∈ L, ownB e = true
theorem cmp_at {a b : Ev} (h : 0 < cmpE a b) : b.at_ ≤ a.at_ := by
  unfold cmpE orI cmpI at h
  by_cases h1 : a.at_ < b.at_
  · rw [if_pos h1] at h; simp at h
  · omega
theorem lastE_mem {L : List Ev} (h : L ≠ []) : L = L.dropLast ++ [lastE L] := by
  unfold lastE
  rw [List.getLast?_eq_some_getLast h]
  exact (List.dropLast_concat_getLast h).symm
theorem own_from : ∀ (r pre : List Ev), madeFrom pre r = true → Own pre → Own (pre ++ r)
  | [], pre, _, hp => by rw [List.append_nil]; exact hp
  | e :: r, pre, h, hp => by
    unfold madeFrom at h
    rw [Bool.and_eq_true] at h
    obtain ⟨h1, h2⟩ := h
    unfold applyOk at h1
    rw [Bool.and_eq_true, Bool.or_eq_true] at h1
    have hpe : Own (pre ++ [e]) := by
      refine ⟨?_, fun x hx => ?_⟩
      · rw [List.pairwise_append]
        refine ⟨hp.rise, by simp, fun a ha b hb => ?_⟩
        rw [List.mem_singleton] at hb
        subst hb
        rcases h1.2 with h3 | h3
        · have : pre = [] := by simpa using h3
          rw [this] at ha; simp at ha
        · have hc := cmp_at (of_decide_eq_true h3)
          have hne : pre ≠ [] := by rintro rfl; simp at ha
          have hsp := lastE_mem hne
          have hr := hp.rise
          rw [hsp, List.pairwise_append] at hr
          rw [hsp] at ha
          rcases List.mem_append.1 ha with ha | ha
          · have := hr.2.2 a ha _ (List.mem_singleton.2 rfl); omega
          · rw [List.mem_singleton] at ha; rw [ha]; exact hc
      · rcases List.mem_append.1 hx with hx | hx
        · exact hp.own x hx
        · rw [List.mem_singleton] at hx; subst hx; exact h1.1
    have := own_from r (pre ++ [e]) h2 hpe
    rwa [List.append_assoc] at this
theorem own_made {L : List Ev} (h : madeOk L = true) : Own L := by
  have := own_from L [] h ⟨by simp, by simp⟩
  simpa using this
theorem own_kind {e : Ev} (h : ownB e = true) : e.kind = 11 ∨ e.kind = 12 ∨ e.kind = 13 := by
  unfold ownB at h
  simp only [Bool.and_eq_true, Bool.or_eq_true, decide_eq_true_eq] at h
  have := h.2
  omega
def hit (s : ByteArray) (at_ : Int) (e : Ev) : Bool := (e.item.data.toList == s.data.toList) && decide (e.at_ ≤ at_)
theorem refAt_filter (s : ByteArray) (at_ : Int) : ∀ (L : List Ev) (st : RSt), L.foldl (stepR s at_) st = (L.filter (hit s at_)).foldl (stepR s at_) st
  | [], st => rfl
  | e :: r, st => by
    rw [List.foldl_cons, List.filter_cons, refAt_filter s at_ r]
    by_cases h : e.item.data.toList = s.data.toList ∧ e.at_ ≤ at_
    · have : hit s at_ e = true := by unfold hit; simp [h.1, h.2]
      rw [if_pos this, List.foldl_cons]
    · have h2 : hit s at_ e = false := by
        unfold hit
        rw [Bool.and_eq_false_iff]
        by_cases h1 : e.item.data.toList = s.data.toList
        · exact .inr (decide_eq_false (fun h3 => h ⟨h1, h3⟩))
        · exact .inl (by simpa using h1)
      rw [h2]
      simp only [Bool.false_eq_true, if_false]
      rw [show stepR s at_ st e = st from if_neg h]
theorem upto_filter (at_ : Int) : ∀ {L : List Ev}, L.Pairwise (fun a b => a.at_ ≤ b.at_) → upto at_ L = L.filter (fun e => decide (e.at_ ≤ at_))
  | [], _ => rfl
  | x :: r, h => by
    have hp := List.pairwise_cons.1 h
    unfold upto
    rw [List.takeWhile_cons, List.filter_cons]
    by_cases hx : x.at_ ≤ at_
    · rw [if_pos (decide_eq_true hx), if_pos (decide_eq_true hx)]
      congr 1
      exact upto_filter at_ hp.2
    · rw [if_neg (by simpa using hx), if_neg (by simpa using hx)]
      symm
      rw [List.filter_eq_nil_iff]
      intro y hy
      have := hp.1 y hy
      simp; omega
theorem hits_upto (s : ByteArray) (at_ : Int) {L : List Ev} (h : L.Pairwise (fun a b => a.at_ ≤ b.at_)) : L.filter (hit s at_) = upto at_ (evsOf L s.data.toList) := by
  unfold evsOf
  rw [upto_filter at_ (h.filter _), List.filter_filter]
  congr 1
  funext e
  unfold hit
  rw [Bool.and_comm]
theorem stepR_hit {s : ByteArray} {at_ : Int} {st : RSt} {e : Ev} (hh : hit s at_ e = true) (hk : e.kind = 11 ∨ e.kind = 12 ∨ e.kind = 13) :
    stepR s at_ st e = ⟨chg { st.x with name := s } e st.born, true, st.born || decide (e.kind = 11)⟩ := by
  have h : e.item.data.toList = s.data.toList ∧ e.at_ ≤ at_ := by
    unfold hit at hh
    rw [Bool.and_eq_true, beq_iff_eq, decide_eq_true_eq] at hh
    exact hh
  unfold stepR chg
  rw [if_pos h]
  rcases hk with hk | hk | hk
  · rw [if_pos hk, if_pos hk]; simp [hk]
  · simp [hk]
  · simp [hk]
theorem chg_name (x : It) (e : Ev) (l : Bool) : (chg x e l).name = x.name := by
  unfold chg
  split
  · rfl
  · split
    · rfl
    · split <;> rfl
theorem fold_hits (s : ByteArray) (at_ : Int) : ∀ (l : List Ev) (x : It) (th f : Bool), x.name = s → (∀ e ∈ l, hit s at_ e = true ∧ (e.kind = 11 ∨ e.kind = 12 ∨ e.kind = 13)) →
    l.foldl (stepR s at_) ⟨x, true, f⟩ = ⟨(l.foldl stepAt (x, f)).1, true, (l.foldl stepAt (x, f)).2⟩
  | [], x, th, f, _, _ => rfl
  | e :: r, x, th, f, hx, h => by
    obtain ⟨h1, h2⟩ := h e (by simp)
    rw [List.foldl_cons, List.foldl_cons, stepR_hit h1 h2]
    have hxx : ({ x with name := s } : It) = x := by cases x; simp at hx; subst hx; rfl
    show (r.foldl (stepR s at_) ⟨chg { x with name := s } e f, true, f || decide (e.kind = 11)⟩) = _
    rw [hxx]
    exact fold_hits s at_ r (chg x e f) true _ (by rw [chg_name]; exact hx) (fun e he => h e (by simp [he]))
theorem ref_at {L : List Ev} (h : Own L) (s : ByteArray) (at_ : Int) : atL (evsOf L s.data.toList) s at_ = ((refAt L s at_).x, (refAt L s at_).there) := by
  unfold refAt
  rw [refAt_filter, hits_upto s at_ h.rise]
  have hall : ∀ e ∈ upto at_ (evsOf L s.data.toList), hit s at_ e = true ∧ (e.kind = 11 ∨ e.kind = 12 ∨ e.kind = 13) := by
    intro e he
    rw [← hits_upto s at_ h.rise] at he
    obtain ⟨h1, h2⟩ := List.mem_filter.1 he
    exact ⟨h2, own_kind (h.own e h1)⟩
  unfold atL
  cases hu : upto at_ (evsOf L s.data.toList) with
  | nil => rfl
  | cons e r =>
    rw [hu] at hall
    rw [if_neg (by simp)]
    obtain ⟨h1, h2⟩ := hall e (by simp)
    rw [List.foldl_cons, stepR_hit h1 h2]
    have := fold_hits s at_ r (chg { It.z with name := s } e false) true (false || decide (e.kind = 11)) (by rw [chg_name]) (fun e he => hall e (by simp [he]))
    show _ = ((r.foldl (stepR s at_) ⟨chg { It.z with name := s } e false, true, false || decide (e.kind = 11)⟩).x, (r.foldl (stepR s at_) ⟨chg { It.z with name := s } e false, true, false || decide (e.kind = 11)⟩).there)
    rw [this]
    rfl
theorem refAt_there {L : List Ev} {s : ByteArray} {at_ : Int} (h : Own L) (hl : (refAt L s at_).x.listed = true) : (refAt L s at_).there = true := by
  have := ref_at h s at_
  cases ht : (refAt L s at_).there with
  | true => rfl
  | false =>
    rw [ht] at this
    unfold atL at this
    split at this
    · have h1 := congrArg (fun p => p.1.listed) this
      simp only at h1
      rw [hl] at h1; cases h1
    · have h1 := congrArg (fun p => p.2) this
      simp at h1
theorem isOf_ref {L : List Ev} (h : Own L) (at_ : Int) (s : Tx) : isOf L at_ s = refIs L at_ s := by
  unfold isOf refIs
  have := ref_at h ⟨s.toArray⟩ at_
  rw [show ((⟨s.toArray⟩ : ByteArray).data.toList) = s from rfl] at this
  rw [this]
theorem listed_ref {L : List Ev} (h : Own L) (at_ : Int) (s : Tx) : listedB L at_ s = (refAt L ⟨s.toArray⟩ at_).x.listed := by
  unfold listedB
  have := ref_at h ⟨s.toArray⟩ at_
  rw [show ((⟨s.toArray⟩ : ByteArray).data.toList) = s from rfl] at this
  rw [this]
  cases hl : (refAt L ⟨s.toArray⟩ at_).x.listed with
  | false => simp
  | true => simp [refAt_there h hl]
theorem putNames_rise (start : List Tx) (hs : RiseL start) : ∀ (want : List Rw), RiseL (putNames start want) ∧ ∀ x, x ∈ putNames start want ↔ x ∈ start ∨ ∃ r ∈ want, r.name.data.toList = x := by
  intro want
  unfold putNames
  induction want generalizing start with
  | nil => exact ⟨hs, fun x => by simp⟩
  | cons r t ih =>
    obtain ⟨h1, h2⟩ := putL_rise hs r.name.data.toList
    obtain ⟨h3, h4⟩ := ih _ h1
    refine ⟨h3, fun x => (h4 x).trans ?_⟩
    rw [h2]
    constructor
    · rintro ((rfl | h) | ⟨q, hq, he⟩)
      · exact .inr ⟨r, by simp, rfl⟩
      · exact .inl h
      · exact .inr ⟨q, by simp [hq], he⟩
    · rintro (h | ⟨q, hq, he⟩)
      · exact .inl (.inr h)
      · rcases List.mem_cons.1 hq with rfl | hq
        · exact .inl (.inl he.symm)
        · exact .inr ⟨q, hq, he⟩
theorem refNames_rise (l : List Ev) (at_ : Int) : ∀ k, RiseL (refNames l at_ k) ∧ ∀ x, x ∈ refNames l at_ k ↔ ∃ e ∈ l.take k, e.item.data.toList = x ∧ (refAt l e.item at_).x.listed = true
  | 0 => ⟨by simp [refNames, RiseL], fun x => by simp [refNames]⟩
  | k + 1 => by
    obtain ⟨h1, h2⟩ := refNames_rise l at_ k
    cases h : l[k]? with
    | none =>
      have e1 : refNames l at_ (k + 1) = refNames l at_ k := by unfold refNames; rw [List.take_add_one, h]; simp
      have e2 : l.take (k + 1) = l.take k := by rw [List.take_add_one, h]; simp
      rw [e1, e2]; exact ⟨h1, h2⟩
    | some e =>
      have e2 : l.take (k + 1) = l.take k ++ [e] := by rw [List.take_add_one, h]; rfl
      rw [refNames_succ h, e2]
      unfold nameStep
      by_cases hl : (refAt l e.item at_).x.listed = true
      · rw [if_pos hl]
        obtain ⟨h3, h4⟩ := putL_rise h1 e.item.data.toList
        refine ⟨h3, fun x => (h4 x).trans ?_⟩
        rw [h2]
        constructor
        · rintro (rfl | ⟨q, hq, he⟩)
          · exact ⟨e, by simp, rfl, hl⟩
          · exact ⟨q, by simp [hq], he⟩
        · rintro ⟨q, hq, he⟩
          rcases List.mem_append.1 hq with hq | hq
          · exact .inr ⟨q, hq, he⟩
          · rw [List.mem_singleton] at hq; subst hq; exact .inl he.1.symm
      · rw [if_neg hl]
        refine ⟨h1, fun x => (h2 x).trans ?_⟩
        constructor
        · rintro ⟨q, hq, he⟩; exact ⟨q, by simp [hq], he⟩
        · rintro ⟨q, hq, he⟩
          rcases List.mem_append.1 hq with hq | hq
          · exact ⟨q, hq, he⟩
          · rw [List.mem_singleton] at hq; subst hq; exact absurd he.2 hl
theorem key_iff {B : Nat} {w : World} {p b : Nat} {L : List Ev} {M : List GE} (h : CatFine B w p b L M) (x : Tx) : x ∈ M.map (·.1) ↔ ∃ e ∈ L, e.item.data.toList = x := by
  constructor
  · intro hx
    obtain ⟨e, he, rfl⟩ := List.mem_map.1 hx
    exact h.2.2 e he
  · rintro ⟨e, he, rfl⟩
    cases hg : gget M e.item.data.toList with
    | none =>
      have := h.1.none_ _ hg
      unfold evsOf at this
      rw [List.filter_eq_nil_iff] at this
      exact absurd (by simp) (this e he)
    | some v => exact List.mem_map.2 ⟨_, gget_mem hg, rfl⟩
theorem rows_key (l : List It) (x : Tx) : x ∈ (rowsM l).map (·.1) ↔ ∃ y ∈ l, y.name.data.toList = x := by
  constructor
  · intro hx
    obtain ⟨e, he, rfl⟩ := List.mem_map.1 hx
    exact rowsM_mem he
  · rintro ⟨y, hy, rfl⟩
    have hs : (gget (rowsM l) y.name.data.toList).isSome = true := by
      rw [gget_rowsM, Option.isSome_map]
      unfold findIt
      rw [List.find?_isSome]
      exact ⟨y, List.mem_reverse.2 hy, by simp⟩
    obtain ⟨v, hv⟩ := Option.isSome_iff_exists.1 hs
    exact List.mem_map.2 ⟨_, gget_mem hv, rfl⟩
theorem items_name : ∀ (want : List Rw) (i : Nat) (x : Tx), (∃ y ∈ itemsL want i, y.name.data.toList = x) ↔ ∃ r ∈ want, r.name.data.toList = x
  | [], i, x => by simp [itemsL]
  | r :: t, i, x => by
    have ih := items_name t (i + 1) x
    unfold itemsL
    constructor
    · rintro ⟨y, hy, he⟩
      rcases List.mem_cons.1 hy with rfl | hy
      · exact ⟨r, by simp, he⟩
      · obtain ⟨q, hq, h⟩ := ih.1 ⟨y, hy, he⟩
        exact ⟨q, by simp [hq], h⟩
    · rintro ⟨q, hq, he⟩
      rcases List.mem_cons.1 hq with rfl | hq
      · exact ⟨itemOf q i, by simp, he⟩
      · obtain ⟨y, hy, h⟩ := ih.2 ⟨q, hq, he⟩
        exact ⟨y, by simp [hy], h⟩
theorem names_same {B : Nat} {w : World} {p b : Nat} {L : List Ev} {M : List GE} (h : CatFine B w p b L M) (ho : Own L) (at_ : Int) (want : List Rw) :
    diffNames (itemsL want 0) L M at_ = putNames (refNames L at_ L.length) want := by
  obtain ⟨h1, h2⟩ := refNames_rise L at_ L.length
  obtain ⟨h3, h4⟩ := putNames_rise _ h1 want
  unfold diffNames
  obtain ⟨h5, h6⟩ := normL_rise ((rowsM (itemsL want 0)).map (·.1) ++ namesG L M at_)
  refine rise_ext h5 h3 (fun x => (h6 x).trans (Iff.trans ?_ (h4 x).symm))
  rw [List.mem_append, rows_key, items_name, h2, List.take_length]
  have hn : x ∈ namesG L M at_ ↔ ∃ e ∈ L, e.item.data.toList = x ∧ (refAt L e.item at_).x.listed = true := by
    unfold namesG
    rw [List.mem_filter, key_iff h, listed_ref ho]
    constructor
    · rintro ⟨⟨e, he, rfl⟩, hl⟩; exact ⟨e, he, rfl, hl⟩
    · rintro ⟨e, he, rfl, hl⟩; exact ⟨⟨e, he, rfl⟩, hl⟩
  rw [hn]
  exact Or.comm
def apartI (l : List It) : Prop := l.Pairwise (fun a b => a.name.data.toList ≠ b.name.data.toList)
def apartR (l : List Rw) : Prop := l.Pairwise (fun a b => a.name.data.toList ≠ b.name.data.toList)
theorem gput_length_old {L : List GE} {s : Tx} {v u : Value} (h : gget L s = some v) : (gput L s u).length ≤ L.length := by
  unfold gput
  rw [gins_length]
  have hm := gget_mem h
  have : (L.filter fun e => !(e.1 == s)).length < L.length := by
    rw [List.length_filter_lt_length_iff_exists]
    exact ⟨_, hm, by simp⟩
  omega
theorem rowsM_apart (l : List It) : (rowsM l).length = l.length ↔ apartI l := by
  induction hn : l.length generalizing l with
  | zero => rw [List.length_eq_zero_iff.1 hn]; simp [rowsM, apartI]
  | succ n ih =>
    have hne : l ≠ [] := by rintro rfl; simp at hn
    obtain ⟨q, x, rfl⟩ : ∃ q x, l = q ++ [x] := ⟨l.dropLast, l.getLast hne, (List.dropLast_concat_getLast hne).symm⟩
    have hq : q.length = n := by simp at hn; exact hn
    have ih' := ih q hq
    rw [rowsM_snoc]
    have hle := rowsM_length q
    unfold apartI at ih' ⊢
    rw [List.pairwise_append]
    cases hg : gget (rowsM q) x.name.data.toList with
    | none =>
      rw [gput_length_new hg]
      have hno : ∀ a ∈ q, a.name.data.toList ≠ x.name.data.toList := by
        intro a ha he
        rw [gget_rowsM] at hg
        rw [Option.map_eq_none_iff] at hg
        unfold findIt at hg
        rw [List.find?_eq_none] at hg
        exact hg a (List.mem_reverse.2 ha) (by simp [he])
      constructor
      · intro h; exact ⟨ih'.1 (by omega), by simp, fun a ha b hb => by rw [List.mem_singleton] at hb; subst hb; exact hno a ha⟩
      · rintro ⟨h1, _, _⟩; have := ih'.2 h1; omega
    | some v =>
      have h1 := gput_length_old (u := x.val) hg
      constructor
      · intro h; omega
      · rintro ⟨_, _, h3⟩
        exfalso
        rw [gget_rowsM] at hg
        obtain ⟨y, hy, _⟩ := Option.map_eq_some_iff.1 hg
        unfold findIt at hy
        have h4 := List.mem_reverse.1 (List.mem_of_find?_eq_some hy)
        have h5 := List.find?_some hy
        exact h3 y h4 x (by simp) (by simpa using h5)
theorem items_apart : ∀ (want : List Rw) (i : Nat), apartI (itemsL want i) ↔ apartR want
  | [], i => by simp [apartI, apartR, itemsL]
  | r :: t, i => by
    have ih := items_apart t (i + 1)
    unfold apartI apartR at ih ⊢
    unfold itemsL
    rw [List.pairwise_cons, List.pairwise_cons, ih]
    refine and_congr ⟨fun h a ha he => ?_, fun h y hy he => ?_⟩ Iff.rfl
    · obtain ⟨y, hy, hye⟩ := (items_name t (i + 1) a.name.data.toList).2 ⟨a, ha, rfl⟩
      exact h y hy (by rw [hye]; exact he)
    · obtain ⟨a, ha, hae⟩ := (items_name t (i + 1) y.name.data.toList).1 ⟨y, hy, rfl⟩
      exact h a ha (by rw [hae]; exact he)
theorem itemsL_length : ∀ (want : List Rw) (i : Nat), (itemsL want i).length = want.length
  | [], _ => rfl
  | x :: r, i => by simp [itemsL, itemsL_length r]
theorem items_all : ∀ (want : List Rw) (i : Nat), (itemsL want i).all rowB = want.all rwB
  | [], _ => rfl
  | x :: r, i => by
    unfold itemsL
    rw [List.all_cons, List.all_cons, items_all r, rowB_item]
theorem allFrom_iff : ∀ (r pre : List Rw), allFrom pre r = true ↔ (r.all rwB = true ∧ (∀ x ∈ r, ∀ y ∈ pre, y.name.data.toList ≠ x.name.data.toList) ∧ apartR r)
  | [], pre => by simp [allFrom, apartR]
  | x :: r, pre => by
    unfold allFrom apartR
    rw [Bool.and_eq_true, Bool.and_eq_true, allFrom_iff r, List.all_cons, Bool.and_eq_true, List.pairwise_cons, Bool.not_eq_true', List.any_eq_false]
    unfold apartR
    constructor
    · rintro ⟨⟨h1, h2⟩, h3, h4, h5⟩
      refine ⟨⟨h1, h3⟩, fun z hz y hy => ?_, fun z hz => ?_, h5⟩
      · rcases List.mem_cons.1 hz with rfl | hz
        · have := h2 y hy; simpa using this
        · exact h4 z hz y (by simp [hy])
      · exact h4 z hz x (by simp)
    · rintro ⟨⟨h1, h3⟩, h4, h5, h6⟩
      refine ⟨⟨h1, fun y hy => by have := h4 x (by simp) y hy; simpa using this⟩, h3, fun z hz y hy => ?_, h6⟩
      rcases List.mem_append.1 hy with hy | hy
      · exact h4 z (by simp [hz]) y hy
      · rw [List.mem_singleton] at hy; subst hy; exact h5 z hz
theorem rows_all (want : List Rw) : rowsOk (itemsL want 0) = allR want := by
  unfold rowsOk allR
  rw [items_all, itemsL_length]
  congr 1
  rw [Bool.eq_iff_iff, Bool.and_eq_true, decide_eq_true_eq, allFrom_iff]
  have h := rowsM_apart (itemsL want 0)
  rw [itemsL_length] at h
  rw [h, items_apart]
  simp
theorem find_unique {l : List It} (h : apartI l) {s : Tx} {x y : It} (hx : x ∈ l) (hy : y ∈ l) (ex : x.name.data.toList = s) (ey : y.name.data.toList = s) : x = y := by
  unfold apartI at h
  induction l with
  | nil => simp at hx
  | cons a t ih =>
    have hc := List.pairwise_cons.1 h
    rcases List.mem_cons.1 hx with h1 | h1 <;> rcases List.mem_cons.1 hy with h2 | h2
    · rw [h1, h2]
    · rw [h1] at ex; exact absurd (ex.trans ey.symm) (hc.1 y h2)
    · rw [h2] at ey; exact absurd (ey.trans ex.symm) (hc.1 x h1)
    · exact ih hc.2 h1 h2
theorem items_of : ∀ (want : List Rw) (i : Nat) (r : Rw), r ∈ want → ∃ j, itemOf r j ∈ itemsL want i
  | x :: t, i, r, h => by
    unfold itemsL
    rcases List.mem_cons.1 h with rfl | h
    · exact ⟨i, by simp⟩
    · obtain ⟨j, hj⟩ := items_of t (i + 1) r h
      exact ⟨j, by simp [hj]⟩
theorem want_same {want : List Rw} (h : apartR want) (s : Tx) (i : It) (nm : ByteArray) : toldE (findIt (itemsL want 0) s) i nm = toldE (refWant want s) i nm := by
  have ha := (items_apart want 0).2 h
  unfold refWant
  cases hr : rfnd want s with
  | none =>
    have : findIt (itemsL want 0) s = none := by
      unfold findIt
      rw [List.find?_eq_none]
      intro y hy
      obtain ⟨a, ha, hae⟩ := (items_name want 0 y.name.data.toList).1 ⟨y, List.mem_reverse.1 hy, rfl⟩
      unfold rfnd at hr
      rw [List.find?_eq_none] at hr
      have := hr a ha
      rw [hae] at this
      exact this
    rw [this]; rfl
  | some r =>
    have hm := List.mem_of_find?_eq_some hr
    have hn : r.name.data.toList = s := by have := List.find?_some hr; simpa using this
    obtain ⟨j, hj⟩ := items_of want 0 r hm
    have hsome : (findIt (itemsL want 0) s).isSome = true := by
      unfold findIt
      rw [List.find?_isSome]
      exact ⟨_, List.mem_reverse.2 hj, by simpa [itemOf] using hn⟩
    obtain ⟨y, hy⟩ := Option.isSome_iff_exists.1 hsome
    have hy1 := List.mem_reverse.1 (List.mem_of_find?_eq_some hy)
    have hy2 : y.name.data.toList = s := by have := List.find?_some hy; simpa using this
    have := find_unique ha hy1 hj hy2 hn
    rw [hy, this]
    rfl
theorem diffL_congr {f g : Tx → Option It} {p q : Tx → It} (src : ByteArray) (num at_ : Int) (names : List Tx) (h : ∀ s, toldE (f s) (p s) ⟨s.toArray⟩ = toldE (g s) (q s) ⟨s.toArray⟩) :
    diffL f p src num at_ names = diffL g q src num at_ names := by
  unfold diffL
  congr 1
  funext o s
  rw [h]
theorem diffs_same {B : Nat} {w : World} {p b : Nat} {L : List Ev} {M : List GE} (h : CatFine B w p b L M) (hm : madeOk L = true) (at_ : Int) (src : ByteArray) (num : Int) (want : List Rw) :
    diffOut (itemsL want 0) L M at_ src num = refOut L at_ src num want := by
  have ho := own_made hm
  unfold diffOut refOut
  have hg : diffGo (itemsL want 0) at_ src num = refGo want at_ src num := by unfold diffGo refGo; rw [rows_all]
  rw [hg]
  cases hgo : refGo want at_ src num with
  | false => rfl
  | true =>
    simp only [if_true]
    have hall : allR want = true := by
      unfold refGo at hgo
      simp only [Bool.and_eq_true] at hgo
      exact hgo.1.1.1.1
    have hap : apartR want := by
      unfold allR at hall
      rw [Bool.and_eq_true] at hall
      exact ((allFrom_iff want []).1 hall.1).2.2
    congr 1
    unfold diffFull refFull
    rw [names_same h ho]
    exact diffL_congr src num at_ _ (fun s => by rw [isOf_ref ho, want_same hap])
end Go.Proofs.YtgpadcokcdpmnaaDoor.Fd
end
section
namespace Go.Proofs.YtgpadcokcdpmnaaDoor.Fd
open Go Go.RowKit Go.Maps Go.Sort Go.Shelf Go.Lib Go.Proofs.YtgpadcokcdpmnaaDoorW.PrintLast
set_option linter.unusedVariables false
set_option linter.unusedSimpArgs false
theorem RwsAt.C' {w : World} {A : Option Addr} {l : List Rw} (h : RwsAt w A l) (hl : l.length ≤ 9223372036854775807) : YtgpadcokcdpmnaaDoorW.PrintWords.Kd.C PFeedDiffs.k46 w A (l.map toR).length (l.map toR) := by
  refine ⟨rfl, by simp; omega, fun hn => ?_⟩
  have hn' : 0 < l.length := by simpa using hn
  obtain ⟨g, O, rfl, hg, _⟩ := h 0 _ (List.getElem?_eq_getElem hn')
  refine ⟨⟨g, O, none⟩, rfl, fun j p hj => ?_⟩
  rw [List.getElem?_map] at hj
  cases hx : l[j]? with
  | none => rw [hx] at hj; cases hj
  | some x =>
    rw [hx] at hj
    cases hj
    obtain ⟨g', O', e, _, hc⟩ := h j x hx
    cases e
    exact ⟨x.cells.toList, rfl, PFeedDiffs.k46_mk w (toR x), fun i u hu => by rw [add_off, ← Nat.add_assoc]; exact hc i u hu⟩
theorem few_calls (A : Option Addr) (cap : Nat) (l : List Rw) (w : World) (h : RwsAt w A l) (hl : l.length ≤ 9223372036854775807) (hc : l.length ≤ cap) (hz : ∀ x ∈ l, x.name.size ≤ maxT ∧ x.maker.size ≤ maxT ∧ x.tags.size ≤ maxT) :
    Calls Tryd.prog 8 #[.slice A l.length cap] w fun e w' => e = .returned (.bool (fewR l)) ∧ ∃ n, w' = w.drewN n := by
  have := PFeedDiffs.ciceroneref46_Few.calls _ A cap (l.map toR) _ w (h.C' hl) (by simpa using hc) (pFew l hz)
  rw [List.length_map] at this
  refine this.mono ?_
  rintro e w' ⟨h1, ⟨n, hn⟩⟩
  exact ⟨h1, n, hn⟩
theorem some_calls (A : Option Addr) (cap : Nat) (l : List Ev) (m : Int) (w : World) (h : EvsO w A l) (hl : l.length ≤ 1000000) (hc : l.length ≤ cap) :
    Calls Tryd.prog 7 #[.slice A l.length cap, .int .i64 m] w fun e w' => e = .returned (.bool (l.any (fun e => bigB e m))) ∧ Below w.heap.size w w' := by
  have := PFeedDiffs.ciceroneref02_Some.calls _ A cap (l.map toS) m _ w (h.C hl) (by simpa using hc) (pSome l m hl)
  rw [List.length_map] at this
  exact this
theorem same_calls (A0 A1 : Option Addr) (c0 c1 : Nat) (l : List Ev) (w : World) (h0 : EvsO w A0 l) (h1 : EvsO w A1 l) (hl : l.length ≤ 1000000) (hc0 : l.length ≤ c0) (hc1 : l.length ≤ c1) :
    Calls Tryd.prog 10 #[.slice A0 l.length c0, .slice A1 l.length c1] w fun e w' => e = .returned (.bool true) ∧ ∃ n, w' = w.drewN n := by
  have := PFeedDiffs.ciceroneref02_Same.calls _ A0 c0 (l.map toS) A1 c1 (l.map toS) _ w (h0.C hl) (by simpa using hc0) (h1.C hl) (by simpa using hc1) (pSame l hl)
  rw [List.length_map] at this
  refine this.mono ?_
  rintro e w' ⟨h1, ⟨n, hn⟩⟩
  exact ⟨h1, n, hn⟩
theorem fine_of_some {l : List Ev} (hl : l.length ≤ 40) (h : l.any (fun e => bigB e 300) = false) : EvFine l ∧ ∀ e ∈ l, e.item.size ≤ 300 ∧ e.text.size ≤ 300 := by
  have hm : ∀ e ∈ l, e.item.size ≤ 300 ∧ e.text.size ≤ 300 := by
    intro e he
    have := List.any_eq_false.1 h e he
    unfold bigB at this
    simp only [Bool.or_eq_true, decide_eq_true_eq, not_or] at this
    omega
  exact ⟨⟨by omega, fun e he => by have := hm e he; omega⟩, hm⟩
theorem fine_of_few {l : List Rw} (h : fewR l = true) : RwFine l ∧ l.length ≤ 31 ∧ ∀ x ∈ l, x.name.size ≤ 600 ∧ x.maker.size ≤ 600 ∧ x.tags.size ≤ 600 := by
  unfold fewR at h
  rw [Bool.and_eq_true, decide_eq_true_eq] at h
  have ht : l.take 31 = l := List.take_of_length_le h.1
  rw [ht] at h
  have hm : ∀ x ∈ l, x.name.size ≤ 600 ∧ x.maker.size ≤ 600 ∧ x.tags.size ≤ 600 := by
    intro x hx
    have := List.all_eq_true.1 h.2 x hx
    unfold longB at this
    simp only [Bool.not_eq_true', decide_eq_false_iff_not] at this
    omega
  exact ⟨⟨by omega, fun x hx => by have := hm x hx; omega⟩, h.1, hm⟩
theorem EvsO.of_post {w w' : World} {out : List Ev} {v : Value} (h : w'.ownsRow w.heap.size 37 8 v out.length (cellsV out)) : ∃ A cap, v = .slice A out.length cap ∧ EvsO w' A out ∧ out.length ≤ cap := by
  obtain ⟨A, cap, rfl⟩ := own_slice h
  refine ⟨A, cap, rfl, EvsO.of_own rfl h, ?_⟩
  rcases h.2 with ⟨hv, hn⟩ | ⟨g, cap', cur, hv, _, _, hle, _⟩
  · omega
  · injection hv with h1 h2 h3
    omega
theorem diffIn_of {B : Nat} {w0 w : World} {p b : Nat} {L : List Ev} {M : List GE} (h : CatFine B w0 p b L M) (hb : Below w0.heap.size w0 w) (hf : EvFine L) (hi : ∀ e ∈ L, e.item.size ≤ 300) {A : Option Addr} {l : List It} (hits : Its w A l) (hl : l.length ≤ 1000) (hz : ∀ x ∈ l, x.name.size ≤ 1000000 ∧ x.tags.size ≤ 1000000 ∧ x.maker.size ≤ 1000000) : DiffIn B p b L M A l.length l w where
  cat := h.1.below hb
  its := hits
  len := rfl
  n1 := hl
  m1 := Nat.le_trans h.2.1 hf.1
  mkey := fun e he => by
    obtain ⟨x, hx, hxe⟩ := h.2.2 e he
    have := hi x hx
    rw [← hxe, ← ba_size]; omega
  lt := fun e he => (hf.2 e he).1
  ll := Nat.le_trans hf.1 (by omega)
  sz := hz
theorem items_fine : ∀ (want : List Rw) (i : Nat), RwFine want → ∀ x ∈ itemsL want i, x.name.size ≤ 1000000 ∧ x.tags.size ≤ 1000000 ∧ x.maker.size ≤ 1000000
  | [], i, h, x, hx => by cases hx
  | r :: t, i, h, x, hx => by
    rcases List.mem_cons.1 hx with rfl | hx
    · have := h.2 r (by simp); exact ⟨this.1, this.2.2, this.2.1⟩
    · exact items_fine t (i + 1) ⟨by have := h.1; simp at this; omega, fun y hy => h.2 y (by simp [hy])⟩ x hx
theorem refOut_length {l : List Ev} {want : List Rw} (hl : EvFine l) (hw : RwFine want) {at_ num : Int} {src : ByteArray} : (refOut l at_ src num want).length ≤ 1000000 := by
  unfold refOut diffCut
  have h1 := diffL_length (refWant want) (refIs l at_) src num at_ (putNames (refNames l at_ l.length) want)
  have h2 := putNames_length (refNames l at_ l.length) want want.length
  rw [List.take_length] at h2
  have h3 := refNames_length l at_ l.length
  have h4 := hl.1
  have h5 := hw.1
  split
  · split
    · simp
    · unfold refFull; omega
  · simp
end Go.Proofs.YtgpadcokcdpmnaaDoor.Fd
end
section
namespace Go.Proofs.YtgpadcokcdpmnaaDoor.Fd
open Go Go.ChangeShapes Go.WideShapes Go.Deep Go.RowKit Go.ChangeAt
set_option linter.unusedVariables false
set_option linter.unusedSimpArgs false
theorem weightsAll_mem {H : Type} {P : Program} {e : TypeId} : ∀ {l : List (DataW H)} {d : DataW H}, d ∈ l → ∀ n ∈ d.weights P e, n ∈ DataW.weightsAll P e l
  | d' :: r, d, hd, n, hn => by
    simp only [DataW.weightsAll, List.mem_append]
    rcases List.mem_cons.1 hd with rfl | h
    · exact Or.inl hn
    · exact Or.inr (weightsAll_mem h n hn)
def Light {H : Type} (P : Program) (t : TypeId) (d : DataW H) : Prop := ∀ n ∈ d.weights P t, n ≤ reachBytes
theorem light_of {H : Type} {P : Program} {ts : List TypeId} {ds : List (DataW H)} (h : (DataW.weightsEach P ts ds).all (· ≤ reachBytes) = true) {j : Nat} {t : TypeId} {d : DataW H} (ht : ts[j]? = some t) (hd : ds[j]? = some d) : Light P t d :=
  fun n hn => of_decide_eq_true (List.all_eq_true.1 h n (DataW.weights_mem_each ht hd n hn))
theorem Light.elem {H : Type} {P : Program} {t e : TypeId} {elems spare : List (DataW H)} (h : Light P t (.slice elems spare)) (hu : P.underlying t = some (.slice e)) {d : DataW H} (hd : d ∈ elems) : Light P e d := fun n hn => h n (by
  simp only [DataW.weights, hu, List.mem_cons, List.mem_append]
  exact Or.inr (Or.inl (weightsAll_mem hd n hn)))
theorem Light.part {H : Type} {P : Program} {t : TypeId} {fs : Array Field} {parts : List (DataW H)} (h : Light P t (.agg parts)) (hu : P.underlying t = some (.struct fs)) {j : Nat} {f : Field} {d : DataW H} (hf : fs[j]? = some f) (hd : parts[j]? = some d) : Light P f.type d := fun n hn => h n (by
  simp only [DataW.weights, hu]
  refine DataW.weights_mem_each (j := j) (t := f.type) ?_ hd n hn
  rw [List.getElem?_map, Array.getElem?_toList, hf]; rfl)
section
variable {H : Type} {enc : TypeId × Value → H} {P : Program} {w : World} {base : Nat} {spare : Nat → Bool} {held : Bool}
theorem slice_light {t e : TypeId} {fs : Array Field} {fuel : Nat} {cs : List Value} {x : DataW H × List MemPlace} (ht : P.underlying t = some (.slice e)) (he : P.underlying e = some (.struct fs))
    (hone : oneCellFields P fs = true) (hC : P.cellsOf e = fs.size) (h : DataW.trod enc P w base spare held fuel t cs = some x) (hL : Light P t x.1) :
    cs = [.slice none 0 0] ∨
    ∃ (a : Addr) (len cap : Nat), cs = [.slice (some a) len cap] ∧ len ≤ cap ∧ cap ≤ maxLen ∧
      ∀ i, i < len → ∃ n : Nat, ∀ (j : Nat) (f : Field), fs[j]? = some f → ∃ (v : Value) (y : DataW H × List MemPlace), w.cell? (a.add (i * fs.size + j)) = some v ∧ DataW.trod enc P w base spare held n f.type [v] = some y ∧ Light P f.type y.1 := by
  rcases open_slice ht h with h0 | ⟨a, len, cap, m, n, D, Pl, hcs, hb, hl, hm, hmm, hx, hi⟩
  · exact .inl h0.1
  · refine .inr ⟨a, len, cap, hcs, hl, hm, fun i hil => ?_⟩
    obtain ⟨cs', hc, ht'⟩ := hi i (by rw [hmm]; split <;> omega)
    rw [hC] at hc
    have hLi : Light P e (D i) := by
      rw [hx] at hL
      exact hL.elem ht (List.mem_map.2 ⟨i, List.mem_range.2 hil, rfl⟩)
    obtain ⟨ys, n', hn', hy, hlen, hyl, hf⟩ := DataW.trod_struct he ht'
    obtain ⟨_, hcl, hat⟩ := World.cells?_some hc
    refine ⟨n', fun j f hj => ?_⟩
    obtain ⟨ho, hk⟩ := hone_of hone j f hj
    have hjl : j < fs.size := (Array.getElem?_eq_some_iff.1 hj).1
    have hcell := hat j hjl
    have hv : cs'[j]? = some (cs'[j]'(by omega)) := List.getElem?_eq_getElem (by omega)
    have h1 := hf j f hj
    rw [ho, hk] at h1
    have hone' : (cs'.drop j).take 1 = [cs'[j]'(by omega)] := by
      rw [List.drop_eq_getElem_cons (by omega)]
      rfl
    rw [hone'] at h1
    have hys : ys[j]? = some (ys[j]'(by omega)) := List.getElem?_eq_getElem (by omega)
    refine ⟨_, _, ?_, h1.trans hys, ?_⟩
    · rw [← Go.Deep.add_add, hcell, hv]
    · injection hy with hy1 hy2
      rw [hy1] at hLi
      exact hLi.part he hj (by rw [List.getElem?_map, hys]; rfl)
end
theorem trod_int_inv {H : Type} {enc : TypeId × Value → H} {P : Program} {w : World} {base : Nat} {spare : Nat → Bool} {held : Bool} {n : Nat} {t : TypeId} {k : IntKind} {v : Value} {y : DataW H × List MemPlace}
    (ht : P.underlying t = some (.int k)) (h : DataW.trod enc P w base spare held n t [v] = some y) : ∃ z, v = .int k z := by
  cases n with
  | zero => simp [DataW.trod] at h
  | succ n =>
    unfold DataW.trod at h
    rw [ht] at h
    cases v <;> simp at h
    exact ⟨_, by rw [h.1.1]⟩
theorem trod_string_inv {H : Type} {enc : TypeId × Value → H} {P : Program} {w : World} {base : Nat} {spare : Nat → Bool} {held : Bool} {n : Nat} {t : TypeId} {v : Value} {y : DataW H × List MemPlace}
    (ht : P.underlying t = some .string) (h : DataW.trod enc P w base spare held n t [v] = some y) (hl : Light P t y.1) : ∃ z : ByteArray, v = .string z ∧ z.size ≤ reachBytes := by
  cases n with
  | zero => simp [DataW.trod] at h
  | succ n =>
    unfold DataW.trod at h
    rw [ht] at h
    cases v <;> simp at h
    refine ⟨_, rfl, ?_⟩
    have h2 := hl
    rw [← h.2] at h2
    have := h2 _ (by simp only [DataW.weights]; exact List.mem_singleton.2 rfl)
    simpa using this
theorem build_list {α : Type} {Q : Nat → α → Prop} : ∀ n : Nat, (∀ i, i < n → ∃ x, Q i x) → ∃ l : List α, l.length = n ∧ ∀ i a, l[i]? = some a → Q i a
  | 0, _ => ⟨[], rfl, fun i a h => by simp at h⟩
  | n + 1, h => by
    obtain ⟨l, hl, hq⟩ := build_list n (fun i hi => h i (by omega))
    obtain ⟨x, hx⟩ := h n (by omega)
    refine ⟨l ++ [x], by simp [hl], fun i a ha => ?_⟩
    rw [List.getElem?_append] at ha
    split at ha
    · exact hq i a ha
    · rename_i hge
      have : i = n := by
        have := (List.getElem?_eq_some_iff.1 ha).1
        simp at this; omega
      subst this
      rw [hl] at ha
      simp at ha
      exact ha ▸ hx
theorem reach_max : reachBytes ≤ maxT := by decide
theorem open_rows {H : Type} {enc : TypeId × Value → H} {w : World} {base : Nat} {spare : Nat → Bool} {held : Bool} {fuel : Nat} {A : Option Addr} {len cap : Nat} {x : DataW H × List MemPlace}
    (h : DataW.trod enc Tryd.prog w base spare held fuel 23 [.slice A len cap] = some x) (hL : Light Tryd.prog 23 x.1) :
    ∃ l : List Rw, RwsAt w A l ∧ l.length = len ∧ len ≤ cap ∧ len ≤ 9223372036854775807 ∧ ∀ x ∈ l, x.name.size ≤ maxT ∧ x.maker.size ≤ maxT ∧ x.tags.size ≤ maxT := by
  rcases slice_light Tryd.underlying23 Tryd.underlying46 (by kernel_rfl) (by kernel_rfl) h hL with hcs | ⟨a, len', cap', hcs, hl, hm, hi⟩
  · simp at hcs
    obtain ⟨rfl, rfl, rfl⟩ := hcs
    exact ⟨[], fun i a hi => by simp at hi, rfl, by omega, by omega, by simp⟩
  · simp at hcs
    obtain ⟨rfl, rfl, rfl⟩ := hcs
    unfold maxLen at hm
    have hsp : 0 < len → a.spot = none := by
      intro hpos
      obtain ⟨n, hf⟩ := hi 0 hpos
      obtain ⟨v0, y0, c0, t0, l0⟩ := hf 0 _ rfl
      obtain ⟨B, O, sp⟩ := a
      cases sp with
      | none => rfl
      | some s =>
        exfalso
        simp [World.cell?, Addr.add] at c0
        split at c0 <;> simp at c0
    have hq : ∀ i, i < len → ∃ x : Rw, (∃ g O, some a = some ⟨g, O, none⟩ ∧ g < w.heap.size ∧ ∀ j u, x.cells.toList[j]? = some u → w.cell? ⟨g, O + i * 5 + j, none⟩ = some u) ∧ x.name.size ≤ maxT ∧ x.maker.size ≤ maxT ∧ x.tags.size ≤ maxT := by
      intro i hil
      obtain ⟨n, hf⟩ := hi i hil
      obtain ⟨v0, y0, c0, t0, l0⟩ := hf 0 _ rfl
      obtain ⟨v1, y1, c1, t1, l1⟩ := hf 1 _ rfl
      obtain ⟨v2, y2, c2, t2, l2⟩ := hf 2 _ rfl
      obtain ⟨v3, y3, c3, t3, l3⟩ := hf 3 _ rfl
      obtain ⟨v4, y4, c4, t4, l4⟩ := hf 4 _ rfl
      obtain ⟨z0, rfl, s0⟩ := trod_string_inv Tryd.underlying9 t0 l0
      obtain ⟨z1, rfl, s1⟩ := trod_string_inv Tryd.underlying9 t1 l1
      obtain ⟨z2, rfl, s2⟩ := trod_string_inv Tryd.underlying9 t2 l2
      obtain ⟨z3, rfl⟩ := trod_int_inv Tryd.underlying3 t3
      obtain ⟨z4, rfl⟩ := trod_int_inv Tryd.underlying3 t4
      have hs := hsp (by omega)
      obtain ⟨B, O, sp⟩ := a
      simp only at hs
      subst hs
      have key : ∀ m, (Addr.add ⟨B, O, none⟩ m) = ⟨B, O + m, none⟩ := fun m => by unfold Addr.add; split <;> simp_all
      rw [key, ← Nat.add_assoc] at c0 c1 c2 c3 c4
      have c0' : w.cell? ⟨B, O + i * 5, none⟩ = some (.string z0) := c0
      have hr := reach_max
      refine ⟨⟨z0, z1, z2, z3, z4⟩, ⟨B, O, rfl, ?_, ?_⟩, by show z0.size ≤ maxT; omega, by show z1.size ≤ maxT; omega, by show z2.size ≤ maxT; omega⟩
      · unfold World.cell? at c0'
        simp only at c0'
        split at c0'
        · rename_i hb; exact (Array.getElem?_eq_some_iff.1 hb).1
        · cases c0'
      · intro j u hu
        match j, hu with
        | 0, hu => injection hu with hu; rw [← hu]; exact c0
        | 1, hu => injection hu with hu; rw [← hu]; exact c1
        | 2, hu => injection hu with hu; rw [← hu]; exact c2
        | 3, hu => injection hu with hu; rw [← hu]; exact c3
        | 4, hu => injection hu with hu; rw [← hu]; exact c4
        | j + 5, hu => simp [Rw.cells] at hu
    obtain ⟨l, hl', hq'⟩ := build_list len hq
    exact ⟨l, fun i x hx => (hq' i x hx).1, hl', hl, by omega, fun x hx => by obtain ⟨i, hi⟩ := List.getElem?_of_mem hx; exact (hq' i x hi).2⟩
theorem open_evs {H : Type} {enc : TypeId × Value → H} {w : World} {base : Nat} {spare : Nat → Bool} {held : Bool} {fuel : Nat} {A : Option Addr} {len cap : Nat} {x : DataW H × List MemPlace}
    (h : DataW.trod enc Tryd.prog w base spare held fuel 22 [.slice A len cap] = some x) (hL : Light Tryd.prog 22 x.1) :
    ∃ l : List Ev, EvsO w A l ∧ l.length = len ∧ len ≤ cap ∧ len ≤ 9223372036854775807 := by
  rcases slice_light Tryd.underlying22 Tryd.underlying37 (by kernel_rfl) (by kernel_rfl) h hL with hcs | ⟨a, len', cap', hcs, hl, hm, hi⟩
  · simp at hcs
    obtain ⟨rfl, rfl, rfl⟩ := hcs
    exact ⟨[], fun i a hi => by simp at hi, rfl, by omega, by omega⟩
  · simp at hcs
    obtain ⟨rfl, rfl, rfl⟩ := hcs
    unfold maxLen at hm
    have hsp : 0 < len → a.spot = none := by
      intro hpos
      obtain ⟨n, hf⟩ := hi 0 hpos
      obtain ⟨v0, y0, c0, t0, l0⟩ := hf 0 _ rfl
      obtain ⟨B, O, sp⟩ := a
      cases sp with
      | none => rfl
      | some s =>
        exfalso
        simp [World.cell?, Addr.add] at c0
        split at c0 <;> simp at c0
    have hq : ∀ i, i < len → ∃ x : Ev, ∃ g O, some a = some ⟨g, O, none⟩ ∧ g < w.heap.size ∧ ∀ j u, x.cells.toList[j]? = some u → w.cell? ⟨g, O + i * 8 + j, none⟩ = some u := by
      intro i hil
      obtain ⟨n, hf⟩ := hi i hil
      obtain ⟨v0, y0, c0, t0, l0⟩ := hf 0 _ rfl
      obtain ⟨v1, y1, c1, t1, l1⟩ := hf 1 _ rfl
      obtain ⟨v2, y2, c2, t2, l2⟩ := hf 2 _ rfl
      obtain ⟨v3, y3, c3, t3, l3⟩ := hf 3 _ rfl
      obtain ⟨v4, y4, c4, t4, l4⟩ := hf 4 _ rfl
      obtain ⟨v5, y5, c5, t5, l5⟩ := hf 5 _ rfl
      obtain ⟨v6, y6, c6, t6, l6⟩ := hf 6 _ rfl
      obtain ⟨v7, y7, c7, t7, l7⟩ := hf 7 _ rfl
      obtain ⟨z0, rfl, s0⟩ := trod_string_inv Tryd.underlying9 t0 l0
      obtain ⟨z1, rfl⟩ := trod_int_inv Tryd.underlying3 t1
      obtain ⟨z2, rfl⟩ := trod_int_inv Tryd.underlying3 t2
      obtain ⟨z3, rfl⟩ := trod_int_inv Tryd.underlying35 t3
      obtain ⟨z4, rfl, s4⟩ := trod_string_inv Tryd.underlying9 t4 l4
      obtain ⟨z5, rfl, s5⟩ := trod_string_inv Tryd.underlying9 t5 l5
      obtain ⟨z6, rfl⟩ := trod_int_inv Tryd.underlying3 t6
      obtain ⟨z7, rfl, s7⟩ := trod_string_inv Tryd.underlying9 t7 l7
      have hs := hsp (by omega)
      obtain ⟨B, O, sp⟩ := a
      simp only at hs
      subst hs
      have key : ∀ m, (Addr.add ⟨B, O, none⟩ m) = ⟨B, O + m, none⟩ := fun m => by unfold Addr.add; split <;> simp_all
      rw [key, ← Nat.add_assoc] at c0 c1 c2 c3 c4 c5 c6 c7
      have c0' : w.cell? ⟨B, O + i * 8, none⟩ = some (.string z0) := c0
      refine ⟨⟨z0, z1, z2, z3, z4, z5, z6, z7⟩, B, O, rfl, ?_, ?_⟩
      · unfold World.cell? at c0'
        simp only at c0'
        split at c0'
        · rename_i hb; exact (Array.getElem?_eq_some_iff.1 hb).1
        · cases c0'
      · intro j u hu
        match j, hu with
        | 0, hu => injection hu with hu; rw [← hu]; exact c0
        | 1, hu => injection hu with hu; rw [← hu]; exact c1
        | 2, hu => injection hu with hu; rw [← hu]; exact c2
        | 3, hu => injection hu with hu; rw [← hu]; exact c3
        | 4, hu => injection hu with hu; rw [← hu]; exact c4
        | 5, hu => injection hu with hu; rw [← hu]; exact c5
        | 6, hu => injection hu with hu; rw [← hu]; exact c6
        | 7, hu => injection hu with hu; rw [← hu]; exact c7
        | j + 8, hu => simp [Ev.cells] at hu
    obtain ⟨l, hl', hq'⟩ := build_list len hq
    exact ⟨l, fun i x hx => hq' i x hx, hl', hl, by omega⟩
end Go.Proofs.YtgpadcokcdpmnaaDoor.Fd
end
section
namespace Go.Proofs.YtgpadcokcdpmnaaDoor.Fd
open Go Go.RowKit Go.Maps Go.Sort Go.Shelf Go.Lib Go.Proofs.YtgpadcokcdpmnaaDoorW.PrintLast
set_option linter.unusedVariables false
set_option linter.unusedSimpArgs false
structure LawIn (A0 : Option Addr) (c0 : Nat) (l : List Ev) (A4 : Option Addr) (c4 : Nat) (want : List Rw) (w : World) : Prop where
  evs : EvsO w A0 l
  ce : l.length ≤ c0
  rws : RwsAt w A4 want
  cr : want.length ≤ c4
  ll : l.length ≤ 9223372036854775807
  lw : want.length ≤ 9223372036854775807
  zw : ∀ x ∈ want, x.name.size ≤ maxT ∧ x.maker.size ≤ maxT ∧ x.tags.size ≤ maxT
def YesPost (w : World) (r : Ending) (w' : World) : Prop := r = .returned (.bool true) ∧ Below w.heap.size w w'
set_option maxHeartbeats 4000000 in
set_option maxRecDepth 100000 in
theorem diffs_a (A0 : Option Addr) (c0 : Nat) (l : List Ev) (at_ : Int) (src : ByteArray) (num : Int) (A4 : Option Addr) (c4 : Nat) (want : List Rw) (w : World) (h : LawIn A0 c0 l A4 c4 want w) (hs : src.size ≤ maxT) (h1 : ¬ l.length ≤ 40) :
    Calls Tryd.prog 3 #[.slice A0 l.length c0, .int .i64 at_, .string src, .int .i64 num, .slice A4 want.length c4] w fun r w' => YesPost w r w' := by
  have H := Lib.hid h
  have hll := h.ll
  have hlw := h.lw
  clear h
  have b1 : decide (40 < (l.length : Int)) = true := decide_eq_true (by omega)
  have b1' : decide (40 < l.length) = true := decide_eq_true (by omega)
  clear h1
  go_enter Tryd.func3, Tryd.ntmps3
  go_wp2_with (first
    | (go_at_call 6; (with_reducible refine (lives_calls _).mono ?_); rintro r y0 ⟨rfl, hy0⟩; have HY0 := Lib.hid hy0; clear hy0)
    | fail)
  go_ret
  exact ⟨rfl, HY0.out⟩
set_option maxHeartbeats 4000000 in
set_option maxRecDepth 100000 in
theorem diffs_b (A0 : Option Addr) (c0 : Nat) (l : List Ev) (at_ : Int) (src : ByteArray) (num : Int) (A4 : Option Addr) (c4 : Nat) (want : List Rw) (w : World) (h : LawIn A0 c0 l A4 c4 want w) (hs : src.size ≤ maxT) (h1 : l.length ≤ 40) (h2 : l.any (fun e => bigB e 300) = true) :
    Calls Tryd.prog 3 #[.slice A0 l.length c0, .int .i64 at_, .string src, .int .i64 num, .slice A4 want.length c4] w fun r w' => YesPost w r w' := by
  have H := Lib.hid h
  have hll := h.ll
  have hlw := h.lw
  clear h
  have b1 : decide (40 < (l.length : Int)) = false := decide_eq_false (by omega)
  have b1' : decide (40 < l.length) = false := decide_eq_false (by omega)
  have HS := Lib.hid h2
  have HSOME := Lib.hid (fun W (hW : Below w.heap.size w W) => some_calls A0 c0 l 300 W (H.out.evs.below hW) (by omega) H.out.ce)
  clear h2
  go_enter Tryd.func3, Tryd.ntmps3
  go_wp2_with (first
    | (go_at_call 6; (with_reducible refine (lives_calls _).mono ?_); rintro r y0 ⟨rfl, hy0⟩; have HY0 := Lib.hid hy0; clear hy0)
    | (go_at_call 7; (with_reducible refine (HSOME.out _ HY0.out).mono ?_); rintro r y1 ⟨rfl, hy1⟩; have HY1 : Hid (Below w.heap.size w y1) := HY0.out.trans (hy1.mono HY0.out.size); clear hy1; rw [HS.out])
    | fail)
  go_ret
  exact ⟨rfl, HY1.out⟩
set_option maxHeartbeats 4000000 in
set_option maxRecDepth 100000 in
theorem diffs_c (A0 : Option Addr) (c0 : Nat) (l : List Ev) (at_ : Int) (src : ByteArray) (num : Int) (A4 : Option Addr) (c4 : Nat) (want : List Rw) (w : World) (h : LawIn A0 c0 l A4 c4 want w) (hs : src.size ≤ maxT) (h1 : l.length ≤ 40) (h2 : l.any (fun e => bigB e 300) = false) (h3 : fewR want = false) :
    Calls Tryd.prog 3 #[.slice A0 l.length c0, .int .i64 at_, .string src, .int .i64 num, .slice A4 want.length c4] w fun r w' => YesPost w r w' := by
  have H := Lib.hid h
  have hll := h.ll
  have hlw := h.lw
  clear h
  have b1 : decide (40 < (l.length : Int)) = false := decide_eq_false (by omega)
  have b1' : decide (40 < l.length) = false := decide_eq_false (by omega)
  have HS := Lib.hid h2
  have HF := Lib.hid h3
  have HSOME := Lib.hid (fun W (hW : Below w.heap.size w W) => some_calls A0 c0 l 300 W (H.out.evs.below hW) (by omega) H.out.ce)
  have HFEW := Lib.hid (fun W (hW : Below w.heap.size w W) => few_calls A4 c4 want W (H.out.rws.below hW) H.out.lw H.out.cr H.out.zw)
  clear h2 h3
  go_enter Tryd.func3, Tryd.ntmps3
  go_wp2_with (first
    | (go_at_call 6; (with_reducible refine (lives_calls _).mono ?_); rintro r y0 ⟨rfl, hy0⟩; have HY0 := Lib.hid hy0; clear hy0)
    | (go_at_call 7; (with_reducible refine (HSOME.out _ HY0.out).mono ?_); rintro r y1 ⟨rfl, hy1⟩; have HY1 : Hid (Below w.heap.size w y1) := HY0.out.trans (hy1.mono HY0.out.size); clear hy1; rw [HS.out])
    | (go_at_call 8; (with_reducible refine (HFEW.out _ HY1.out).mono ?_); rintro r y2 ⟨rfl, n2, rfl⟩; rw [HF.out])
    | fail)
  go_ret
  exact ⟨rfl, below_dr HY1.out _⟩
set_option maxHeartbeats 4000000 in
set_option maxRecDepth 100000 in
theorem diffs_d (A0 : Option Addr) (c0 : Nat) (l : List Ev) (at_ : Int) (src : ByteArray) (num : Int) (A4 : Option Addr) (c4 : Nat) (want : List Rw) (w : World) (h : LawIn A0 c0 l A4 c4 want w) (hs : src.size ≤ maxT) (h1 : l.length ≤ 40) (h2 : l.any (fun e => bigB e 300) = false) (h3 : fewR want = true) (h4 : ¬ src.size ≤ 100) :
    Calls Tryd.prog 3 #[.slice A0 l.length c0, .int .i64 at_, .string src, .int .i64 num, .slice A4 want.length c4] w fun r w' => YesPost w r w' := by
  have H := Lib.hid h
  have hll := h.ll
  have hlw := h.lw
  clear h
  have b1 : decide (40 < (l.length : Int)) = false := decide_eq_false (by omega)
  have b1' : decide (40 < l.length) = false := decide_eq_false (by omega)
  have b4 : decide (100 < (src.size : Int)) = true := decide_eq_true (by omega)
  have b4' : decide (100 < src.size) = true := decide_eq_true (by omega)
  have HS := Lib.hid h2
  have HF := Lib.hid h3
  have HSOME := Lib.hid (fun W (hW : Below w.heap.size w W) => some_calls A0 c0 l 300 W (H.out.evs.below hW) (by omega) H.out.ce)
  have HFEW := Lib.hid (fun W (hW : Below w.heap.size w W) => few_calls A4 c4 want W (H.out.rws.below hW) H.out.lw H.out.cr H.out.zw)
  clear h2 h3 h4
  go_enter Tryd.func3, Tryd.ntmps3
  go_wp2_with (first
    | (go_at_call 6; (with_reducible refine (lives_calls _).mono ?_); rintro r y0 ⟨rfl, hy0⟩; have HY0 := Lib.hid hy0; clear hy0)
    | (go_at_call 7; (with_reducible refine (HSOME.out _ HY0.out).mono ?_); rintro r y1 ⟨rfl, hy1⟩; have HY1 : Hid (Below w.heap.size w y1) := HY0.out.trans (hy1.mono HY0.out.size); clear hy1; rw [HS.out])
    | (go_at_call 8; (with_reducible refine (HFEW.out _ HY1.out).mono ?_); rintro r y2 ⟨rfl, n2, rfl⟩; rw [HF.out])
    | fail)
  go_ret
  exact ⟨rfl, below_dr HY1.out _⟩
set_option maxHeartbeats 4000000 in
set_option maxRecDepth 100000 in
theorem diffs_e (A0 : Option Addr) (c0 : Nat) (l : List Ev) (at_ : Int) (src : ByteArray) (num : Int) (A4 : Option Addr) (c4 : Nat) (want : List Rw) (w : World) (h : LawIn A0 c0 l A4 c4 want w) (hs : src.size ≤ maxT) (h1 : l.length ≤ 40) (h2 : l.any (fun e => bigB e 300) = false) (h3 : fewR want = true) (h4 : src.size ≤ 100) (h5 : madeOk l = false) :
    Calls Tryd.prog 3 #[.slice A0 l.length c0, .int .i64 at_, .string src, .int .i64 num, .slice A4 want.length c4] w fun r w' => YesPost w r w' := by
  have H := Lib.hid h
  have hll := h.ll
  have hlw := h.lw
  clear h
  have b1 : decide (40 < (l.length : Int)) = false := decide_eq_false (by omega)
  have b1' : decide (40 < l.length) = false := decide_eq_false (by omega)
  have b4 : decide (100 < (src.size : Int)) = false := decide_eq_false (by omega)
  have b4' : decide (100 < src.size) = false := decide_eq_false (by omega)
  have HEF := Lib.hid (fine_of_some h1 h2)
  have HS := Lib.hid h2
  have HF := Lib.hid h3
  have HM := Lib.hid h5
  have HSOME := Lib.hid (fun W (hW : Below w.heap.size w W) => some_calls A0 c0 l 300 W (H.out.evs.below hW) (by omega) H.out.ce)
  have HFEW := Lib.hid (fun W (hW : Below w.heap.size w W) => few_calls A4 c4 want W (H.out.rws.below hW) H.out.lw H.out.cr H.out.zw)
  have HMADE := Lib.hid (fun W (hW : Below w.heap.size w W) => made_calls A0 c0 l W (H.out.evs.below hW) HEF.out.1)
  clear h2 h3 h5
  go_enter Tryd.func3, Tryd.ntmps3
  go_wp2_with (first
    | (go_at_call 6; (with_reducible refine (lives_calls _).mono ?_); rintro r y0 ⟨rfl, hy0⟩; have HY0 := Lib.hid hy0; clear hy0)
    | (go_at_call 7; (with_reducible refine (HSOME.out _ HY0.out).mono ?_); rintro r y1 ⟨rfl, hy1⟩; have HY1 : Hid (Below w.heap.size w y1) := HY0.out.trans (hy1.mono HY0.out.size); clear hy1; rw [HS.out])
    | (go_at_call 8; (with_reducible refine (HFEW.out _ HY1.out).mono ?_); rintro r y2 ⟨rfl, n2, rfl⟩; rw [HF.out])
    | (go_at_call 9; (with_reducible refine (HMADE.out _ (below_dr HY1.out _)).mono ?_); rintro r y3 ⟨hno, hyes, hb3⟩; have HY3 : Hid (Below w.heap.size w y3) := (below_dr HY1.out _).trans (hb3.mono (below_dr HY1.out _).size); clear hb3; obtain rfl := hno HM.out; clear hno hyes)
    | fail)
  go_ret
  exact ⟨rfl, HY3.out⟩
set_option maxHeartbeats 4000000 in
set_option maxRecDepth 100000 in
theorem diffs_f (A0 : Option Addr) (c0 : Nat) (l : List Ev) (at_ : Int) (src : ByteArray) (num : Int) (A4 : Option Addr) (c4 : Nat) (want : List Rw) (w : World) (h : LawIn A0 c0 l A4 c4 want w) (hs : src.size ≤ maxT) (h1 : l.length ≤ 40) (h2 : l.any (fun e => bigB e 300) = false) (h3 : fewR want = true) (h4 : src.size ≤ 100) (h5 : madeOk l = true) :
    Calls Tryd.prog 3 #[.slice A0 l.length c0, .int .i64 at_, .string src, .int .i64 num, .slice A4 want.length c4] w fun r w' => YesPost w r w' := by
  have H := Lib.hid h
  have hll := h.ll
  have hlw := h.lw
  clear h
  have b1 : decide (40 < (l.length : Int)) = false := decide_eq_false (by omega)
  have b1' : decide (40 < l.length) = false := decide_eq_false (by omega)
  have b4 : decide (100 < (src.size : Int)) = false := decide_eq_false (by omega)
  have b4' : decide (100 < src.size) = false := decide_eq_false (by omega)
  have HEF := Lib.hid (fine_of_some h1 h2)
  have HWF := Lib.hid (fine_of_few h3)
  have HS := Lib.hid h2
  have HF := Lib.hid h3
  have HM := Lib.hid h5
  have HSOME := Lib.hid (fun W (hW : Below w.heap.size w W) => some_calls A0 c0 l 300 W (H.out.evs.below hW) (by omega) H.out.ce)
  have HFEW := Lib.hid (fun W (hW : Below w.heap.size w W) => few_calls A4 c4 want W (H.out.rws.below hW) H.out.lw H.out.cr H.out.zw)
  have HMADE := Lib.hid (fun W (hW : Below w.heap.size w W) => made_calls A0 c0 l W (H.out.evs.below hW) HEF.out.1)
  clear h2 h3 h5
  go_enter Tryd.func3, Tryd.ntmps3
  go_wp2_with (first
    | (go_at_call 6; (with_reducible refine (lives_calls _).mono ?_); rintro r y0 ⟨rfl, hy0⟩; have HY0 := Lib.hid hy0; clear hy0)
    | (go_at_call 7; (with_reducible refine (HSOME.out _ HY0.out).mono ?_); rintro r y1 ⟨rfl, hy1⟩; have HY1 : Hid (Below w.heap.size w y1) := HY0.out.trans (hy1.mono HY0.out.size); clear hy1; rw [HS.out])
    | (go_at_call 8; (with_reducible refine (HFEW.out _ HY1.out).mono ?_); rintro r y2 ⟨rfl, n2, rfl⟩; rw [HF.out])
    | (go_at_call 9; (with_reducible refine (HMADE.out _ (below_dr HY1.out _)).mono ?_); rintro r y3 ⟨hno, hyes, hb3⟩; have HY3 : Hid (Below w.heap.size w y3) := (below_dr HY1.out _).trans (hb3.mono (below_dr HY1.out _).size); clear hb3; obtain ⟨p, b, M, rfl, hcf⟩ := hyes HM.out; have HCF := Lib.hid hcf; clear hcf hno hyes)
    | (go_at_call 12; (with_reducible refine (items_calls A4 c4 want _ (H.out.rws.below HY3.out) (Nat.le_trans HWF.out.2.1 (by omega)) H.out.cr).mono ?_); rintro r y4 ⟨A', c', rfl, hi4, hb4⟩; have HI4 := Lib.hid hi4; have HB4 := Lib.hid hb4; have HY4 : Hid (Below w.heap.size w y4) := HY3.out.trans (hb4.mono HY3.out.size); clear hi4 hb4)
    | (go_at_call 11; have HDI9 := diffIn_of HCF.out HB4.out HEF.out.1 (fun e he => (HEF.out.2 e he).1) HI4.out (by rw [itemsL_length]; exact HWF.out.1.1) (items_fine want 0 HWF.out.1); rw [itemsL_length] at HDI9; (with_reducible refine (diff_calls _ p b l M A' want.length c' (itemsL want 0) at_ num src _ HDI9).mono ?_); rintro r y5 ⟨v5, rfl, ho5, hb5⟩; rw [diffs_same HCF.out HM.out] at ho5; obtain ⟨A5, c5, rfl, he5, hc5⟩ := EvsO.of_post ho5; have HE5 := Lib.hid he5; have HC5 := Lib.hid hc5; have HY5 : Hid (Below w.heap.size w y5) := HY4.out.trans (hb5.mono HY4.out.size); have HL5 := Lib.hid (own_slice ho5); clear ho5 hb5 he5 hc5)
    | (go_at_call 13; (with_reducible refine (refdiff_calls A0 c0 l at_ src num A4 c4 want _ ⟨H.out.evs.below HY5.out, HEF.out.1, H.out.ce, H.out.rws.below HY5.out, HWF.out.1, H.out.cr⟩ (by omega)).mono ?_); rintro r y6 ⟨v6, rfl, ho6, hb6⟩; obtain ⟨A6, c6, rfl, he6, hc6⟩ := EvsO.of_post ho6; have HE6 := Lib.hid he6; have HC6 := Lib.hid hc6; have HE5' := Lib.hid (HE5.out.below hb6); have HY6 : Hid (Below w.heap.size w y6) := HY5.out.trans (hb6.mono HY5.out.size); clear ho6 hb6 he6 hc6)
    | (go_at_call 10; (with_reducible refine (same_calls A5 A6 c5 c6 (refOut l at_ src num want) _ HE5'.out HE6.out (refOut_length HEF.out.1 HWF.out.1) HC5.out HC6.out).mono ?_); rintro r y7 ⟨rfl, n7, rfl⟩)
    | fail)
  go_ret
  exact ⟨rfl, below_dr HY6.out _⟩
theorem feedDiffs_calls (A0 : Option Addr) (c0 : Nat) (l : List Ev) (at_ : Int) (src : ByteArray) (num : Int) (A4 : Option Addr) (c4 : Nat) (want : List Rw) (w : World) (h : LawIn A0 c0 l A4 c4 want w) (hs : src.size ≤ maxT) :
    Calls Tryd.prog 3 #[.slice A0 l.length c0, .int .i64 at_, .string src, .int .i64 num, .slice A4 want.length c4] w fun r w' => YesPost w r w' := by
  by_cases h1 : l.length ≤ 40
  · cases h2 : l.any (fun e => bigB e 300) with
    | true => exact diffs_b A0 c0 l at_ src num A4 c4 want w h hs h1 h2
    | false =>
      cases h3 : fewR want with
      | false => exact diffs_c A0 c0 l at_ src num A4 c4 want w h hs h1 h2 h3
      | true =>
        by_cases h4 : src.size ≤ 100
        · cases h5 : madeOk l with
          | false => exact diffs_e A0 c0 l at_ src num A4 c4 want w h hs h1 h2 h3 h4 h5
          | true => exact diffs_f A0 c0 l at_ src num A4 c4 want w h hs h1 h2 h3 h4 h5
        · exact diffs_d A0 c0 l at_ src num A4 c4 want w h hs h1 h2 h3 h4
  · exact diffs_a A0 c0 l at_ src num A4 c4 want w h hs h1
end Go.Proofs.YtgpadcokcdpmnaaDoor.Fd
end
