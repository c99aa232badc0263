import Derived.Test.YtgpadcokcdpmnaaDoorMd10
import Derived.Deep.DeepCutAuto
set_option linter.unusedVariables false
set_option linter.unusedSimpArgs false
section
namespace Go.Proofs.YtgpadcokcdpmnaaDoor.Fd
open Go Go.RowKit Go.Maps Go.Sort Go.Shelf Go.Lib Go.Proofs.YtgpadcokcdpmnaaDoorW.PrintLast
set_option linter.unusedVariables false
set_option linter.unusedSimpArgs false
def NL (W : World) (start : List Tx) (want : List Rw) (v11 v12 : Value) (wr : World) : Prop :=
  ∃ (k : Nat) (A : Option Addr) (cap : Nat), k ≤ want.length ∧ v12 = .int .i64 k ∧ v11 = .slice A (putNames start (want.take k)).length cap ∧ TxAt wr A (putNames start (want.take k)) ∧ (putNames start (want.take k)).length ≤ cap ∧ Below W.heap.size W wr
def DR (W : World) (F : List Tx → List Ev) (ks : List Tx) (v13 v14 : Value) (wr : World) : Prop :=
  ∃ k : Nat, k ≤ ks.length ∧ v14 = .int .i64 k ∧ wr.ownsRow W.heap.size 37 8 v13 (F (ks.take k)).length (cellsV (F (ks.take k))) ∧ Below W.heap.size W wr
def RIt (w : World) (q : Nat) (x : It) : Prop := w.heap[q]? = some (.cells x.cells 64 (0, 0))
theorem RIt.facts {w : World} {q : Nat} {x : It} (h : RIt w q x) :
    w.cell? ⟨q, 0, none⟩ = some (.string x.name) ∧ w.cell? ⟨q, 1, none⟩ = some (.string x.maker) ∧ w.cell? ⟨q, 2, none⟩ = some (.string x.tags) ∧ w.cell? ⟨q, 3, none⟩ = some (.int .i64 x.stock) ∧
    w.cell? ⟨q, 4, none⟩ = some (.int .i64 x.price) ∧ w.cell? ⟨q, 5, none⟩ = some (.int .i64 x.born) ∧ w.cell? ⟨q, 6, none⟩ = some (.bool x.listed) := by
  unfold RIt It.cells at h
  simp only [World.cell?, h]
  simp
theorem RIt.below {w w' : World} {q : Nat} {x : It} (h : RIt w q x) (hb : Below w.heap.size w w') : RIt w' q x := (hb.block q (Array.getElem?_eq_some_iff.1 h).1).trans h
theorem ev_news' (Y W2 : World) (e : Ev) (h : Y.heap.size = W2.heap.size) : ∀ j u, e.cells.toList[j]? = some u → (Y.alloc (.cells e.cells 37)).cell? ((⟨W2.heap.size, 0, none⟩ : Addr).add j) = some u := by
  rw [← h]; exact ev_news Y e
def CB (W0 : World) (qx rq g O : Nat) (s : Tx) (xi : It) (x : Rw) (on : List Ev) (v13 : Value) (wx : World) : Prop :=
  wx.ownsRow W0.heap.size 37 8 v13 on.length (cellsV on) ∧ Below W0.heap.size W0 wx ∧ RIt wx qx xi ∧ RwAt wx rq x ∧ wx.cell? ⟨g, O, none⟩ = some (.string ⟨s.toArray⟩) ∧ qx < wx.heap.size ∧ rq < wx.heap.size ∧ g < wx.heap.size
structure RDin (A0 : Option Addr) (c0 : Nat) (l : List Ev) (A4 : Option Addr) (c4 : Nat) (want : List Rw) (w : World) : Prop where
  evs : EvsO w A0 l
  fe : EvFine l
  ce : l.length ≤ c0
  rws : RwsAt w A4 want
  fr : RwFine want
  cr : want.length ≤ c4
set_option maxHeartbeats 4000000 in
set_option maxRecDepth 100000 in
theorem refdiff_no (A0 : Option Addr) (c0 : Nat) (l : List Ev) (at_ : Int) (src : ByteArray) (num : Int) (A4 : Option Addr) (c4 : Nat) (want : List Rw) (w : World) (h : RDin A0 c0 l A4 c4 want w) (hsz : src.size ≤ 1000000000) (hgo : refGo want at_ src num = false) :
    Calls Tryd.prog 13 #[.slice A0 l.length c0, .int .i64 at_, .string src, .int .i64 num, .slice A4 want.length c4] w fun r w' => DiffPost w (refOut l at_ src num want) r w' := by
  have HOUT : Hid (refOut l at_ src num want = []) := by unfold Hid refOut; rw [hgo]; rfl
  have HA := Lib.hid (refall_calls A4 c4 want w h.rws h.fr h.cr)
  have HN := Lib.hid (fun W => refname_calls src W hsz)
  clear h
  unfold refGo at hgo
  cases hro : allR want with
  | false =>
    clear hgo
    go_enter Tryd.func13, Tryd.ntmps13
    go_wp2_with (first
      | (go_at_call 14; (with_reducible refine HA.out.mono ?_); rintro r y ⟨rfl, hy⟩; have HY := Lib.hid hy; clear hy; rw [hro])
      | fail)
    go_ret
    exact DiffPost.none_ HOUT.out HY.out
  | true =>
    rw [hro] at hgo
    cases hnm : nameB src with
    | false =>
      clear hgo
      go_enter Tryd.func13, Tryd.ntmps13
      go_wp2_with (first
        | (go_at_call 14; (with_reducible refine HA.out.mono ?_); rintro r y ⟨rfl, hy⟩; have HY := Lib.hid hy; clear hy; rw [hro])
        | (go_at_call 27; (with_reducible refine (HN.out _).mono ?_); rintro r y2 ⟨rfl, n2, rfl⟩; rw [hnm])
        | fail)
      go_ret
      exact DiffPost.none_ HOUT.out (below_dr HY.out _)
    | true =>
      rw [hnm] at hgo
      have hfin : (decide (at_ < 0) = true) ∨ (decide (at_ < 0) = false ∧ decide (1099511627776 < at_) = true) ∨ (decide (at_ < 0) = false ∧ decide (1099511627776 < at_) = false ∧ decide (num < 1) = true) := by
        by_cases h1 : at_ < 0
        · exact .inl (decide_eq_true h1)
        · by_cases h2 : 1099511627776 < at_
          · exact .inr (.inl ⟨decide_eq_false h1, decide_eq_true h2⟩)
          · refine .inr (.inr ⟨decide_eq_false h1, decide_eq_false h2, decide_eq_true ?_⟩)
            simp at hgo
            have := hgo (by omega) (by omega)
            omega
      clear hgo
      rcases hfin with q1 | ⟨q1, q2⟩ | ⟨q1, q2, q3⟩
      all_goals
        go_enter Tryd.func13, Tryd.ntmps13
        go_wp2_with (first
          | (go_at_call 14; (with_reducible refine HA.out.mono ?_); rintro r y ⟨rfl, hy⟩; have HY := Lib.hid hy; clear hy; rw [hro])
          | (go_at_call 27; (with_reducible refine (HN.out _).mono ?_); rintro r y2 ⟨rfl, n2, rfl⟩; rw [hnm])
          | fail)
        go_ret
        exact DiffPost.none_ HOUT.out (below_dr HY.out _)
set_option maxHeartbeats 16000000 in
set_option maxRecDepth 100000 in
theorem refdiff_go (A0 : Option Addr) (c0 : Nat) (l : List Ev) (at_ : Int) (src : ByteArray) (num : Int) (A4 : Option Addr) (c4 : Nat) (want : List Rw) (w : World) (h : RDin A0 c0 l A4 c4 want w) (hsz : src.size ≤ 1000000000) (hgo : refGo want at_ src num = true) :
    Calls Tryd.prog 13 #[.slice A0 l.length c0, .int .i64 at_, .string src, .int .i64 num, .slice A4 want.length c4] w fun r w' => DiffPost w (refOut l at_ src num want) r w' := by
  have HOUT : Hid (refOut l at_ src num want = diffCut num (refFull l at_ src num want)) := by unfold Hid refOut; rw [hgo]; rfl
  have HA := Lib.hid (refall_calls A4 c4 want w h.rws h.fr h.cr)
  have HN := Lib.hid (fun W => refname_calls src W hsz)
  have hl1 := h.fe.1
  have hw1 := h.fr.1
  have HD := Lib.hid h
  clear h
  unfold refGo at hgo
  simp only [Bool.and_eq_true, decide_eq_true_eq] at hgo
  obtain ⟨⟨⟨⟨hro, hnm⟩, ha0⟩, ha1⟩, hnum⟩ := hgo
  have q1 : decide (at_ < 0) = false := decide_eq_false (by omega)
  have q2 : decide (1099511627776 < at_) = false := decide_eq_false (by omega)
  have q3 : decide (num < 1) = false := decide_eq_false (by omega)
  have HRO := Lib.hid hro
  have HNM := Lib.hid hnm
  have HNAMES := Lib.hid (fun W (hW : Below w.heap.size w W) => refnames_calls A0 c0 l at_ W (HD.out.evs.below hW) HD.out.fe HD.out.ce)
  clear hro hnm
  have hsl := refNames_length l at_ l.length
  obtain ⟨start, hst⟩ : ∃ s, refNames l at_ l.length = s := ⟨_, rfl⟩
  rw [hst] at HNAMES hsl
  have HST := Lib.hid hst
  clear hst
  go_enter Tryd.func13, Tryd.ntmps13
  go_wp2_with (first
    | (go_at_call 14; (with_reducible refine HA.out.mono ?_); rintro r y ⟨rfl, hy⟩; have HY := Lib.hid hy; clear hy; rw [HRO.out])
    | (go_at_call 27; (with_reducible refine (HN.out _).mono ?_); rintro r y2 ⟨rfl, n2, rfl⟩; rw [HNM.out])
    | (go_at_call 28; (with_reducible refine (HNAMES.out _ (below_dr HY.out _)).mono ?_); rintro r y3 ⟨A11, c11, rfl, ht11, hc11, hb11⟩; have HT11 := Lib.hid ht11; have HB11 : Hid (Below w.heap.size w y3) := (below_dr HY.out _).trans (hb11.mono (below_dr HY.out _).size); clear ht11 hb11)
    | fail)
  go_loopw [11, 12] (fun v11 v12 wr => NL y3 start want v11 v12 wr) (fun _ i _ => want.length - (intOf i).toNat)
  case atStart => exact ⟨0, A11, c11, Nat.zero_le _, rfl, rfl, HT11.out, hc11, Below.refl _ _⟩
  case round =>
    clear hc11 HT11
    obtain ⟨k, A, cap, hk, rfl, rfl, htx, hcp, hbr⟩ := hrel
    have hpl := putNames_length start want k
    have HBR : Hid (Below w.heap.size w wr) := HB11.out.trans (hbr.mono HB11.out.size)
    have HBY := Lib.hid hbr
    have HTX := Lib.hid htx
    clear htx hbr
    by_cases hlt : k < want.length
    · obtain ⟨x, hx⟩ : ∃ x, want[k]? = some x := ⟨_, List.getElem?_eq_getElem hlt⟩
      obtain ⟨g, O, rfl, hg, hcs⟩ := (HD.out.rws.below HBR.out) k x hx
      have f0 : wr.cell? ⟨g, O + k * 5, none⟩ = some (.string x.name) := hcs 0 _ rfl
      have HNX := Lib.hid (putNames_take (start := start) hx)
      obtain ⟨ns, hns⟩ : ∃ ns, putNames start (want.take k) = ns := ⟨_, rfl⟩
      rw [hns] at HTX HNX hcp hpl ⊢
      have HPUT := Lib.hid (put46_calls A cap ns x.name wr HTX.out hcp (by omega))
      have hki : (0 : Int) ≤ k := by omega
      have hli : (k : Int) < want.length := by omega
      clear hcs hx hns
      go_wp2_with (first
        | (go_at_call 29; (with_reducible refine HPUT.out.mono ?_); rintro r z ⟨A9, cap9, rfl, ht9, hc9, hb9⟩; have HT9 := Lib.hid ht9; have HB9 := Lib.hid hb9; clear ht9 hb9)
        | fail)
      go_roundw
      case rel => exact ⟨k + 1, A9, cap9, by omega, by first | rfl | simp, by rw [HNX.out], by rw [HNX.out]; exact HT9.out, by rw [HNX.out]; exact hc9, HBY.out.trans (HB9.out.mono HBY.out.size)⟩
      case measure => simp [intOf]; omega
    · have hke : k = want.length := by omega
      obtain ⟨ks, hks⟩ : ∃ ks, putNames start (want.take k) = ks := ⟨_, rfl⟩
      have HKS : Hid (putNames (refNames l at_ l.length) want = ks) := by rw [Hid, HST.out, ← hks, hke, List.take_length]
      rw [hks] at HTX hcp hpl ⊢
      have hkz : ∀ s ∈ ks, s.length ≤ 1000000 := by
        intro s hs
        rw [← HKS.out] at hs
        rcases putNames_mem _ _ s hs with h1 | ⟨r, hr, rfl⟩
        · obtain ⟨e, he, rfl⟩ := refNames_mem l at_ _ s h1
          have := (HD.out.fe.2 e he).2
          rw [ba_size] at this; exact this
        · have := (HD.out.fr.2 r hr).1
          rw [ba_size] at this; exact this
      have HKZ := Lib.hid hkz
      have hkl : ks.length ≤ 2000 := by omega
      obtain ⟨F, hF⟩ : ∃ F, diffL (refWant want) (refIs l at_) src num at_ = F := ⟨_, rfl⟩
      have HF := Lib.hid hF
      have HF0 : Hid (F [] = []) := by rw [← hF]; rfl
      have HFS : Hid (∀ names s, F (names ++ [s]) = tellAll src num at_ (F names) (toldE (refWant want s) (refIs l at_ s) ⟨s.toArray⟩)) := by rw [← hF]; exact fun names s => diffL_snoc _ _ _ _ _ _ _
      have HFL : Hid (∀ names, (F names).length ≤ 2 * names.length) := by rw [← hF]; exact fun names => diffL_length _ _ _ _ _ _
      obtain ⟨W0, hW0⟩ : ∃ W0, W0 = wr := ⟨_, rfl⟩
      rw [← hW0] at HTX HBR HBY ⊢
      obtain ⟨i0, hi, hz0, hz1, hz2⟩ := info_of ev_info
      have HI0 := Lib.hid hi
      have HZ0 := Lib.hid hz0
      have HZ1 := Lib.hid hz1
      have HZ2 := Lib.hid hz2
      clear hks hkz hF hW0 hke hi hz0 hz1 hz2
      go_wp2_with fail
      clear hlt hk hpl
      go_loopw [13, 14] (fun v13 v14 wr => DR W0 F ks v13 v14 wr) (fun _ i _ => ks.length - (intOf i).toNat)
      case atStart => exact ⟨0, Nat.zero_le _, rfl, by rw [List.take_zero, HF0.out]; exact World.ownsRow_nil _ _ _ _, Below.refl _ _⟩
      case round =>
        obtain ⟨k, hk, rfl, hown, hbr⟩ := hrel
        obtain ⟨o, ho⟩ : ∃ o, F (ks.take k) = o := ⟨_, rfl⟩
        have hol : o.length ≤ 4000 := by rw [← ho]; exact Nat.le_trans (HFL.out _) (by simp; omega)
        rw [ho] at hown
        obtain ⟨A13, c13, rfl⟩ := own_slice hown
        have HO := Lib.hid ho
        have HOWN := Lib.hid hown
        have HBW := Lib.hid hbr
        have HWR := Lib.hid (HBR.out.trans (hbr.mono HBR.out.size))
        clear ho hown hbr
        by_cases hlt : k < ks.length
        · obtain ⟨s, hs⟩ : ∃ s, ks[k]? = some s := ⟨_, List.getElem?_eq_getElem hlt⟩
          obtain ⟨g, O, rfl, hgW0, hnm0⟩ := HTX.out k s hs
          have hg : g < wr.heap.size := Nat.lt_of_lt_of_le hgW0 HBW.out.size
          have hnm := (HBW.out.cell (p := ⟨g, O + k, none⟩) hgW0).trans hnm0
          have hsz2 : s.length ≤ 1000000 := HKZ.out s (List.mem_of_getElem? hs)
          have hNX := HFS.out (ks.take k) s
          rw [show ks.take k ++ [s] = ks.take (k + 1) by rw [List.take_add_one, hs]; rfl, HO.out] at hNX
          have hAT := fun W (hW : Below w.heap.size w W) => refat_calls A0 c0 l ⟨s.toArray⟩ at_ W (HD.out.evs.below hW) HD.out.fe HD.out.ce
          have hIS : refIs l at_ s = (refAt l ⟨s.toArray⟩ at_).x := rfl
          obtain ⟨st, hst⟩ : ∃ st, refAt l ⟨s.toArray⟩ at_ = st := ⟨_, rfl⟩
          rw [hst] at hIS
          rw [hIS] at hNX
          simp only [hst, It.val, It.cells] at hAT
          have HAT := Lib.hid hAT
          have HFIND := Lib.hid (fun W (hW : Below w.heap.size w W) => reffind_calls A4 c4 want ⟨s.toArray⟩ W (HD.out.rws.below hW) (by omega) HD.out.cr)
          obtain ⟨xi, ti, _⟩ := st
          dsimp only at hNX HAT
          have HNX := Lib.hid hNX
          have hki : (0 : Int) ≤ k := by omega
          have hli : (k : Int) < ks.length := by omega
          clear hs hsz2 hNX hAT hIS hst hnm0
          go_wp2_with (first
            | (go_at_call 30; (with_reducible refine (HAT.out _ HWR.out).mono ?_); rintro r y ⟨rfl, hy⟩; have HY := Lib.hid hy; have fn := (hy.cell (p := ⟨g, O + k, none⟩) hg).trans hnm; have dgy := Nat.lt_of_lt_of_le hg hy.size; have dgy2 : g < y.heap.size + 1 := Nat.lt_succ_of_lt dgy; clear hy hnm)
            | (go_at_call 31; (with_reducible refine (HFIND.out _ (((HWR.out.trans (HY.out.mono HWR.out.size)).alloc (HWR.out.trans (HY.out.mono HWR.out.size)).size _).alloc ((HWR.out.trans (HY.out.mono HWR.out.size)).alloc (HWR.out.trans (HY.out.mono HWR.out.size)).size _).size _)).mono ?_); rintro r y4 ⟨rfl, n3, rfl⟩; refine Hid.out ?_)
            | fail)
          refine Lib.hid ?_
          obtain ⟨W2, hW2⟩ : ∃ W2, W2 = (((y.alloc (.cells #[.string xi.name, .string xi.maker, .string xi.tags, .int .i64 xi.stock, .int .i64 xi.price, .int .i64 xi.born, .bool xi.listed] 64)).alloc (.cells #[.string src, .int .i64 (wrap64 (num + (o.length : Int))), .int .i64 at_, .int .i64 0, .string ⟨#[]⟩, .string ⟨s.toArray⟩, .int .i64 0, .string ⟨#[]⟩] 37)).drewN n3) := ⟨_, rfl⟩
          have e0d : ∃ e0 : Ev, e0 = ⟨src, wrap64 (num + (o.length : Int)), at_, 0, ⟨#[]⟩, ⟨s.toArray⟩, 0, ⟨#[]⟩⟩ := ⟨_, rfl⟩
          have hq1 : RIt W2 y.heap.size xi := by
            rw [hW2]
            exact (show RIt (y.alloc (.cells xi.cells 64)) y.heap.size xi from heap_alloc_new y _).below (below_dr ((Below.refl _ _).alloc (Nat.le_refl _) _) n3)
          have hq2 : EvAt W2 (y.heap.size + 1) ⟨src, wrap64 (num + (o.length : Int)), at_, 0, ⟨#[]⟩, ⟨s.toArray⟩, 0, ⟨#[]⟩⟩ := by
            rw [hW2]
            have h9 := EvAt.new (y.alloc (.cells xi.cells 64)) ⟨src, wrap64 (num + (o.length : Int)), at_, 0, ⟨#[]⟩, ⟨s.toArray⟩, 0, ⟨#[]⟩⟩
            rw [alloc_sz] at h9
            exact h9
          have hb2 : Below wr.heap.size wr W2 := by
            rw [hW2]
            exact below_dr ((HY.out.alloc HY.out.size _).alloc (HY.out.alloc HY.out.size _).size _) n3
          have hfn2 : W2.cell? ⟨g, O + k, none⟩ = some (.string ⟨s.toArray⟩) := (hb2.cell (p := ⟨g, O + k, none⟩) hg).trans ((HY.out.cell (p := ⟨g, O + k, none⟩) hg).symm.trans fn)
          have hz2 : y.heap.size + 2 = W2.heap.size := by rw [hW2]; simp
          rw [← hW2]
          have hyr := HY.out.size
          obtain ⟨qx, hqx⟩ : ∃ q, q = y.heap.size := ⟨_, rfl⟩
          rw [← hqx] at hq1 hq2 hz2 hyr ⊢
          have hdg : g < qx := by omega
          clear e0d hW2 hqx fn dgy dgy2
          have HQ1 := Lib.hid hq1
          have HQ2 := Lib.hid hq2
          have HB2 := Lib.hid hb2
          have HFN2 := Lib.hid hfn2
          have HOWN2 := Lib.hid (ownsRow_below HOWN.out hb2)
          have HOBL : Hid (∀ k, (Value.slice A13 o.length c13).ownBlock = some k → W0.heap.size ≤ k ∧ k < wr.heap.size) := fun k hk => HOWN.out.lt k hk
          have hW0r := HBW.out.size
          clear hq1 hq2 hb2 hfn2
          rcases rfnd_cases want s with ⟨hfv, hrf⟩ | ⟨j, x, hfv, hj, hrf⟩
          · have HNEXT : Hid (F (ks.take (k + 1)) = o ++ [tellE src num at_ o (Ev.raw 13 ⟨s.toArray⟩ 0 ⟨#[]⟩)]) := by
              have h9 := HNX.out
              unfold refWant at h9
              rw [hrf] at h9
              exact h9
            rw [show findL want (⟨s.toArray⟩ : ByteArray).data.toList 0 = -1 from hfv]
            obtain ⟨x0, x1, x2, x3, x4, x5, x6, x7⟩ := HQ2.out.facts
            have hfz := fun i => cells_fz HQ2.out i
            obtain ⟨e13, he13⟩ : ∃ e, e = tellE src num at_ o (Ev.raw 13 ⟨s.toArray⟩ 0 ⟨#[]⟩) := ⟨_, rfl⟩
            have HOW3 : Hid ((W2.setCell ⟨qx + 1, 3, none⟩ (.int .i64 13)).ownsRow W0.heap.size 37 8 (.slice A13 o.length c13) o.length (cellsV o)) :=
              own_moved HOWN2.out (fun k hk _ => Below.heap_setCell _ _ _ _ (fun e => by have := (HOBL.out k hk).2; simp at e; omega))
            have HNW : Hid (∀ j u, (tellE src num at_ o (Ev.raw 13 ⟨s.toArray⟩ 0 ⟨#[]⟩)).cells.toList[j]? = some u → ((W2.setCell ⟨qx + 1, 3, none⟩ (.int .i64 13)).alloc (.cells (tellE src num at_ o (Ev.raw 13 ⟨s.toArray⟩ 0 ⟨#[]⟩)).cells 37)).cell? ((⟨W2.heap.size, 0, none⟩ : Addr).add j) = some u) := ev_news' _ _ _ (by simp [World.setCell])
            have HB3 : Hid (Below wr.heap.size wr (W2.setCell ⟨qx + 1, 3, none⟩ (.int .i64 13))) := HB2.out.setCell (p := ⟨qx + 1, 3, none⟩) (by simp; omega) _
            have HX1 := Lib.hid (ev_one (tellE src num at_ o (Ev.raw 13 ⟨s.toArray⟩ 0 ⟨#[]⟩)))
            have hbs : W0.heap.size ≤ ((W2.setCell ⟨qx + 1, 3, none⟩ (.int .i64 13)).alloc (.cells (tellE src num at_ o (Ev.raw 13 ⟨s.toArray⟩ 0 ⟨#[]⟩)).cells 37)).heap.size := by simp [World.setCell]; omega
            unfold tellE Ev.raw Ev.cells at hbs
            have hdW : g < W2.heap.size := by omega
            have hdq : qx + 1 < W2.heap.size := by omega
            clear he13 hfv hrf
            go_wp2_with (first
              | (at_builtin; go_must (refine wpList_append_own _ rfl (.tmp 92) (.tmp 94) _ rfl W0.heap.size 37 i0 _ 8 96 Tryd.underlying22 HI0.out HZ0.out HZ1.out HZ2.out rfl (by decide) _ _ _ rfl (HOW3.out.alloc _) ⟨W2.heap.size, 0, none⟩ 1 1 (tellE src num at_ o (Ev.raw 13 ⟨s.toArray⟩ 0 ⟨#[]⟩)).cells.toList rfl rfl HNW.out HX1.out (by unfold maxLen; omega) (by omega) hbs ?_); intro v8 w8 hown8 hg8 _; have HOWN8 := Lib.hid hown8; have HG8 := Lib.hid hg8; clear hown8 hg8)
              | fail)
            go_roundw
            case rel => exact ⟨k + 1, by omega, by first | rfl | simp, by rw [HNEXT.out, List.length_append, cellsV_snoc]; exact HOWN8.out, (HBW.out.trans ((HB3.out.alloc HB3.out.size _).mono HBW.out.size)).grown HG8.out (by simp [World.setCell]; omega) (fun k hk => (HOBL.out k hk).1)⟩
            case measure => simp [intOf]; omega
          · have hq3 := (HD.out.rws.below (HWR.out.trans (HB2.out.mono HWR.out.size))) j x hj
            obtain ⟨g4, O4, hA4, hg4, hcs4⟩ := hq3
            subst hA4
            obtain ⟨_, hsx1, hsx2⟩ := HD.out.fr.2 x (List.mem_of_getElem? hj)
            have f0 : W2.cell? ⟨g4, O4 + j * 5, none⟩ = some (.string x.name) := hcs4 0 _ rfl
            have f1 := hcs4 1 (.string x.maker) rfl
            have f2 := hcs4 2 (.string x.tags) rfl
            have f3 := hcs4 3 (.int .i64 x.price) rfl
            have f4 := hcs4 4 (.int .i64 x.stock) rfl
            have hjl := (List.getElem?_eq_some_iff.1 hj).1
            have hji : (0 : Int) ≤ (j : Int) := by omega
            have hjl2 : (j : Int) < want.length := by omega
            have hNX2 := HNX.out
            unfold refWant at hNX2
            rw [hrf] at hNX2
            have HTOLD : Hid (toldE (some (itemOf x 0)) xi ⟨s.toArray⟩ = (if needB xi (itemOf x 0) then [Ev.raw 11 ⟨s.toArray⟩ x.price (textOf (itemOf x 0))] else []) ++ (if (xi.stock == x.stock) = true then [] else [Ev.raw 12 ⟨s.toArray⟩ x.stock ⟨#[]⟩])) := rfl
            rw [Option.map_some, HTOLD.out] at hNX2
            have HNX2 := Lib.hid hNX2
            have HNEED : Hid (needB xi (itemOf x 0) = (!xi.listed || (!(xi.maker.toList == x.maker.toList) || (!(xi.tags.toList == x.tags.toList) || !(xi.price == x.price))))) := rfl
            rw [show findL want (⟨s.toArray⟩ : ByteArray).data.toList 0 = (j : Int) from hfv]
            obtain ⟨i0, i1, i2, i3, i4, i5, i6⟩ := HQ1.out.facts
            have hdq : qx < W2.heap.size := by omega
            have HQR : Hid (RwAt (W2.alloc (.cells x.cells 46)) W2.heap.size x) := RwAt.new W2 x
            clear hcs4 hj hfv hrf hNX2 HTOLD HNX hjl
            go_upto_region 19 with fail
            obtain ⟨W3, hW3⟩ : ∃ W3, W3 = W2.alloc (.cells #[.string x.name, .string x.maker, .string x.tags, .int .i64 x.price, .int .i64 x.stock] 46) := ⟨_, rfl⟩
            have hbd : Below W2.heap.size W2 W3 := by rw [hW3]; exact (Below.refl _ _).alloc (Nat.le_refl _) _
            have HQR3 : Hid (RwAt W3 W2.heap.size x) := by rw [Hid, hW3]; exact HQR.out
            have hz3 : W2.heap.size + 1 = W3.heap.size := by rw [hW3]; simp
            rw [← hW3]
            clear hW3 f0 f1 f2 f3 f4 i0 i1 i2 i3 i4 i5 i6
            have HRI3 : Hid (RIt W3 qx xi) := HQ1.out.below hbd
            have HBD := Lib.hid hbd
            obtain ⟨nd, hnd⟩ : ∃ b, b = needB xi (itemOf x 0) := ⟨_, rfl⟩
            have HND := Lib.hid hnd
            clear hbd hnd
            go_cut [123] (fun c wx => c = .bool nd ∧ wx = W3)
            case first =>
              obtain ⟨i0, i1, i2, i3, i4, i5, i6⟩ := HRI3.out.facts
              obtain ⟨p0, p1, p2, p3, p4⟩ := HQR3.out.facts
              cases hl : xi.listed with
              | false =>
                go_wp2_with fail
                go_meet
                exact ⟨by rw [HND.out, HNEED.out]; simp [hl], rfl⟩
              | true =>
                cases hm : (xi.maker.toList == x.maker.toList) with
                | false =>
                  go_wp2_with fail
                  go_meet
                  exact ⟨by rw [HND.out, HNEED.out]; simp [hl, hm], rfl⟩
                | true =>
                  cases ht : (xi.tags.toList == x.tags.toList) with
                  | false =>
                    go_wp2_with fail
                    go_meet
                    exact ⟨by rw [HND.out, HNEED.out]; simp [hl, hm, ht], rfl⟩
                  | true =>
                    cases hp : (xi.price == x.price) with
                    | false =>
                      have hp2 : (xi.price != x.price) = true := by rw [bne, hp]; rfl
                      go_wp2_with fail
                      go_meet
                      exact ⟨by rw [HND.out, HNEED.out]; simp [hl, hm, ht, hp], rfl⟩
                    | true =>
                      have hp2 : (xi.price != x.price) = false := by rw [bne, hp]; rfl
                      go_wp2_with fail
                      go_meet
                      exact ⟨by rw [HND.out, HNEED.out]; simp [hl, hm, ht, hp], rfl⟩
            case rest =>
            obtain ⟨hc1, hc2⟩ := hcut
            subst hc1
            rw [hc2]
            clear hc2 wc
            have hon0 : ∃ on, on = o ++ (if nd then [(tellE src num at_ o (Ev.raw 11 ⟨s.toArray⟩ x.price (textOf (itemOf x 0))))] else []) := ⟨_, rfl⟩
            obtain ⟨on, hon⟩ := hon0
            have hol1 : on.length ≤ 4001 := by rw [hon, List.length_append]; split <;> simp <;> omega
            have HON := Lib.hid hon
            clear hon
            go_upto_if 123 with fail
            go_cut [13] (fun v13 wx => CB W0 qx W2.heap.size g (O + k) s xi x on v13 wx)
            case first =>
              cases nd with
              | true =>
                have hev3 := HQ2.out.below HBD.out
                obtain ⟨p0, p1, p2, p3, p4⟩ := HQR3.out.facts
                have hfz := fun i => cells_fz hev3 i
                obtain ⟨x0, x1, x2, x3, x4, x5, x6, x7⟩ := hev3.facts
                have HEV3 := Lib.hid hev3
                have dW2 : ¬ W2.heap.size = qx + 1 := by omega
                have dW2b : ¬ qx + 1 = W2.heap.size := by omega
                clear hev3
                go_upto_region 20 with fail
                go_region
                obtain ⟨W4, hW4⟩ : ∃ W4, W4 = (((W3.setCell ⟨qx + 1, 3, none⟩ (.int .i64 11)).setCell ⟨qx + 1, 7, none⟩ (.string (x.maker ++ ⟨#[59]⟩ ++ x.tags))).setCell ⟨qx + 1, 6, none⟩ (.int .i64 x.price)).drew := ⟨_, rfl⟩
                rw [← hW4]
                obtain ⟨e11, he11⟩ : ∃ e, e = (tellE src num at_ o (Ev.raw 11 ⟨s.toArray⟩ x.price (textOf (itemOf x 0)))) := ⟨_, rfl⟩
                have hev4 : EvAt W4 (qx + 1) e11 := by
                  rw [hW4, he11]
                  exact setCell_block (setCell_block (setCell_block HEV3.out _) _) _
                have hf4 : Fr (fun k => k = qx + 1) W3 W4 := by
                  rw [hW4]
                  exact (((Fr.refl (fun k => k = qx + 1) W3).setCell (p := ⟨qx + 1, 3, none⟩) rfl _).setCell (p := ⟨qx + 1, 7, none⟩) rfl _ |>.setCell (p := ⟨qx + 1, 6, none⟩) rfl _).drew
                have hz4 : W3.heap.size = W4.heap.size := by rw [hW4]; simp [World.setCell]
                have hbw4 : Below wr.heap.size wr W4 := (HB2.out.trans (HBD.out.mono HB2.out.size)).trans (hf4.below (by omega) (fun k hk => by rw [hk]; omega))
                have HRI4 : Hid (RIt W4 qx xi) := (hf4.block qx (by omega) (by omega)).trans HRI3.out
                have HRW4 : Hid (RwAt W4 W2.heap.size x) := (hf4.block W2.heap.size (by omega) (by omega)).trans HQR3.out
                have HFN4 : Hid (W4.cell? ⟨g, O + k, none⟩ = some (.string ⟨s.toArray⟩)) := by
                  have h9 : W4.heap[g]? = W2.heap[g]? := (hf4.block g (by omega) (by omega)).trans (HBD.out.block g (by omega))
                  unfold Hid
                  rw [← HFN2.out]
                  simp only [World.cell?, h9]
                have HOW4 : Hid (W4.ownsRow W0.heap.size 37 8 (.slice A13 o.length c13) o.length (cellsV o)) := own_moved (ownsRow_below HOWN2.out HBD.out) (fun k hk hkl => hf4.block k hkl (fun e => by have := (HOBL.out k hk).2; omega))
                have HBW4 := Lib.hid hbw4
                have HE11 := Lib.hid he11
                have HNW := Lib.hid (ev_news W4 e11)
                have HX1 := Lib.hid (ev_one e11)
                have hbs : W0.heap.size ≤ (W4.alloc (.cells e11.cells 37)).heap.size := by simp; omega
                obtain ⟨t0, t1, t2, t3, t4, t5, t6, t7⟩ := hev4.facts
                unfold Ev.cells at hbs
                clear hW4 he11 hev4 hf4 hbw4 p0 p1 p2 p3 p4 x0 x1 x2 x3 x4 x5 x6 x7 hfz
                go_wp2_with (first
                  | (at_builtin; go_must (refine wpList_append_own _ rfl (.tmp 135) (.tmp 137) _ rfl W0.heap.size 37 i0 _ 8 96 Tryd.underlying22 HI0.out HZ0.out HZ1.out HZ2.out rfl (by decide) _ _ _ rfl (HOW4.out.alloc _) ⟨W4.heap.size, 0, none⟩ 1 1 e11.cells.toList rfl rfl HNW.out HX1.out (by unfold maxLen; omega) (by omega) hbs ?_); intro v8 w8 hown8 hg8 _; have HOWN8 := Lib.hid hown8; have HG8 := Lib.hid hg8; clear hown8 hg8)
                  | fail)
                go_meet
                have hon2 : on = o ++ [e11] := by rw [HON.out, HE11.out]; rfl
                have hmv : ∀ q, q < W4.heap.size → some q ≠ (Value.slice A13 o.length c13).ownBlock → w8.heap[q]? = W4.heap[q]? := fun q hq hne => (HG8.out.block q (by simp; omega) hne).trans (((Below.refl W4.heap.size W4).alloc (Nat.le_refl _) (.cells e11.cells 37)).block q hq)
                have hnb : ∀ q, wr.heap.size ≤ q → some q ≠ (Value.slice A13 o.length c13).ownBlock := fun q hq hc => by have := (HOBL.out q hc.symm).2; omega
                have hz8 := HG8.out.size
                have hz8b : W4.heap.size < w8.heap.size := by simp at hz8; omega
                refine ⟨?_, (HBW.out.trans ((HBW4.out.alloc HBW4.out.size _).mono HBW.out.size)).grown HG8.out (by simp; omega) (fun k hk => (HOBL.out k hk).1), (hmv qx (by omega) (hnb qx (by omega))).trans HRI4.out, (hmv W2.heap.size (by omega) (hnb _ (by omega))).trans HRW4.out, ?_, by omega, by omega, by omega⟩
                · rw [hon2, List.length_append, cellsV_snoc]; exact HOWN8.out
                · have hne : some g ≠ (Value.slice A13 o.length c13).ownBlock := fun hc => by have := (HOBL.out g hc.symm).1; omega
                  rw [← HFN4.out]
                  simp only [World.cell?, hmv g (by omega) hne]
              | false =>
                go_wp2_with fail
                go_meet
                have hon2 : on = o := by rw [HON.out]; simp
                rw [hon2]
                exact ⟨ownsRow_below HOWN2.out HBD.out, HBW.out.trans ((HB2.out.trans (HBD.out.mono HB2.out.size)).mono HBW.out.size), HRI3.out, HQR3.out, (HBD.out.cell (p := ⟨g, O + k, none⟩) (by show g < W2.heap.size; exact Nat.lt_trans hdg hdq)).trans HFN2.out, by omega, by omega, by omega⟩
            case rest =>
            obtain ⟨hown8, hbw8, hri8, hrw8, hfn8, hq8, hr8, hgW⟩ := hcut
            obtain ⟨A8, c8, rfl⟩ := own_slice hown8
            have HOWN8 := Lib.hid hown8
            have HBW8 := Lib.hid hbw8
            have HRWW := Lib.hid hrw8
            have HFN8 := Lib.hid hfn8
            have hB0 : W0.heap.size ≤ wc.heap.size := hbw8.size
            obtain ⟨i0, i1, i2, i3, i4, i5, i6⟩ := hri8.facts
            obtain ⟨p0, p1, p2, p3, p4⟩ := hrw8.facts
            have hrW : W2.heap.size < wc.heap.size := hr8
            clear hown8 hbw8 hri8 hrw8 hfn8 hr8
            cases hst : (xi.stock == x.stock) with
            | true =>
              have hst2 : (xi.stock != x.stock) = false := by rw [bne, hst]; rfl
              have HNEXT : Hid (F (ks.take (k + 1)) = on) := by
                have h9 := HNX2.out
                rw [← HND.out, hst] at h9
                rw [Hid, HON.out]
                cases nd
                · rw [show o ++ (if false = true then [(tellE src num at_ o (Ev.raw 11 ⟨s.toArray⟩ x.price (textOf (itemOf x 0))))] else []) = o by simp]; exact h9
                · exact h9
              clear HNX2 HNEED
              go_wp2_with fail
              go_roundw
              case rel => exact ⟨k + 1, by omega, by first | rfl | simp, by rw [HNEXT.out]; exact HOWN8.out, HBW8.out⟩
              case measure => simp [intOf]; omega
            | false =>
              have hst2 : (xi.stock != x.stock) = true := by rw [bne, hst]; rfl
              have HNEXT : Hid (F (ks.take (k + 1)) = on ++ [tellE src num at_ on (Ev.raw 12 ⟨s.toArray⟩ x.stock ⟨#[]⟩)]) := by
                have h9 := HNX2.out
                rw [← HND.out, hst] at h9
                rw [Hid, HON.out]
                cases nd
                · rw [show o ++ (if false = true then [(tellE src num at_ o (Ev.raw 11 ⟨s.toArray⟩ x.price (textOf (itemOf x 0))))] else []) = o by simp]; exact h9
                · exact h9
              clear HNX2 HNEED
              go_upto_region 23 with fail
              refine start_ (n := 17) (S := fun w' => w'.cell? ⟨g, O + k, none⟩ = some (.string ⟨s.toArray⟩) ∧ w'.cell? ⟨W2.heap.size, 4, none⟩ = some (.int .i64 x.stock)) (ds := []) #[false, false, false, false, false, false, false, false, false, false, false, false, false, false, false, false, false] (by kernel_rfl) rfl rfl ⟨HFN8.out, p4⟩ (fun hHeld => ?_)
              refine pure_ (i := 0) (N := some 144) (v := ?_) (a' := ?_) #[true, false, false, false, false, false, false, false, false, false, false, false, false, false, false, false, false] rfl rfl (by kernel_rfl) (fun _ _ _ h => h) (Or.inl ⟨by rfl, ?_⟩) ?_ ?_
              rotate_left
              · intro w'
                go_simp
                with_reducible rfl
              rotate_left
              · simp only [Act.put, List.setIfInBounds_toArray, List.set_cons_zero, List.set_cons_succ, i64_w, i32_w]
                rfl
              refine pure_ (i := 1) (N := some 145) (v := ?_) (a' := ?_) #[true, true, false, false, false, false, false, false, false, false, false, false, false, false, false, false, false] rfl rfl (by kernel_rfl) (fun _ _ _ h => h) (Or.inl ⟨by rfl, ?_⟩) ?_ ?_
              rotate_left
              · intro w'
                go_simp
                with_reducible rfl
              rotate_left
              · simp only [Act.put, List.setIfInBounds_toArray, List.set_cons_zero, List.set_cons_succ, i64_w, i32_w]
                rfl
              refine pure_ (i := 2) (N := some 146) (v := ?_) (a' := ?_) #[true, true, true, false, false, false, false, false, false, false, false, false, false, false, false, false, false] rfl rfl (by kernel_rfl) (fun _ _ _ h => h) (Or.inl ⟨by rfl, ?_⟩) ?_ ?_
              rotate_left
              · intro w'
                go_simp
                with_reducible rfl
              rotate_left
              · simp only [Act.put, List.setIfInBounds_toArray, List.set_cons_zero, List.set_cons_succ, i64_w, i32_w]
                rfl
              refine pure_ (i := 3) (N := some 147) (v := ?_) (a' := ?_) #[true, true, true, true, false, false, false, false, false, false, false, false, false, false, false, false, false] rfl rfl (by kernel_rfl) (fun _ _ _ h => h) (Or.inl ⟨by rfl, ?_⟩) ?_ ?_
              rotate_left
              · intro w'
                go_simp
                with_reducible rfl
              rotate_left
              · simp only [Act.put, List.setIfInBounds_toArray, List.set_cons_zero, List.set_cons_succ, i64_w, i32_w]
                rfl
              refine pure_ (i := 4) (N := some 148) (v := ?_) (a' := ?_) #[true, true, true, true, true, false, false, false, false, false, false, false, false, false, false, false, false] rfl rfl (by kernel_rfl) (fun _ _ _ h => h) (Or.inl ⟨by rfl, ?_⟩) ?_ ?_
              rotate_left
              · intro w'
                go_simp
                with_reducible rfl
              rotate_left
              · simp only [Act.put, List.setIfInBounds_toArray, List.set_cons_zero, List.set_cons_succ, i64_w, i32_w]
                rfl
              refine pure_ (i := 5) (N := some 149) (v := ?_) (a' := ?_) #[true, true, true, true, true, true, false, false, false, false, false, false, false, false, false, false, false] rfl rfl (by kernel_rfl) (fun _ _ _ h => h) (Or.inl ⟨by rfl, ?_⟩) ?_ ?_
              rotate_left
              · intro w'
                go_simp
                with_reducible rfl
              rotate_left
              · simp only [Act.put, List.setIfInBounds_toArray, List.set_cons_zero, List.set_cons_succ, i64_w, i32_w]
                rfl
              refine pure_ (i := 6) (N := some 150) (v := ?_) (a' := ?_) #[true, true, true, true, true, true, true, false, false, false, false, false, false, false, false, false, false] rfl rfl (by kernel_rfl) (fun _ _ _ h => h) (Or.inl ⟨by rfl, ?_⟩) ?_ ?_
              rotate_left
              · intro w'
                go_simp
                with_reducible rfl
              rotate_left
              · simp only [Act.put, List.setIfInBounds_toArray, List.set_cons_zero, List.set_cons_succ, i64_w, i32_w]
                rfl
              refine pure_ (i := 7) (N := some 151) (v := ?_) (a' := ?_) #[true, true, true, true, true, true, true, true, false, false, false, false, false, false, false, false, false] rfl rfl (by kernel_rfl) (fun _ _ _ h => h) (Or.inl ⟨by rfl, ?_⟩) ?_ ?_
              rotate_left
              · intro w'
                go_simp
                with_reducible rfl
              rotate_left
              · simp only [Act.put, List.setIfInBounds_toArray, List.set_cons_zero, List.set_cons_succ, i64_w, i32_w]
                rfl
              refine pure_ (i := 8) (N := some 152) (v := ?_) (a' := ?_) #[true, true, true, true, true, true, true, true, true, false, false, false, false, false, false, false, false] rfl rfl (by kernel_rfl) (fun _ _ _ h => h) (Or.inl ⟨by rfl, ?_⟩) ?_ ?_
              rotate_left
              · intro w'
                go_simp
                with_reducible rfl
              rotate_left
              · simp only [Act.put, List.setIfInBounds_toArray, List.set_cons_zero, List.set_cons_succ, i64_w, i32_w]
                rfl
              refine pure_ (i := 9) (N := some 153) (v := ?_) (a' := ?_) #[true, true, true, true, true, true, true, true, true, true, false, false, false, false, false, false, false] rfl rfl (by kernel_rfl) (fun _ _ _ h => h) (Or.inl ⟨by rfl, ?_⟩) ?_ ?_
              rotate_left
              · intro w'
                go_simp
                with_reducible rfl
              rotate_left
              · simp only [Act.put, List.setIfInBounds_toArray, List.set_cons_zero, List.set_cons_succ, i64_w, i32_w]
                rfl
              refine pure_ (i := 11) (N := some 155) (v := ?_) (a' := ?_) #[true, true, true, true, true, true, true, true, true, true, false, true, false, false, false, false, false] rfl rfl (by kernel_rfl) (fun _ _ _ h => h) (Or.inl ⟨by rfl, ?_⟩) ?_ ?_
              rotate_left
              · intro w'
                go_simp
                with_reducible rfl
              rotate_left
              · simp only [Act.put, List.setIfInBounds_toArray, List.set_cons_zero, List.set_cons_succ, i64_w, i32_w]
                rfl
              refine take_ (i := 10) (N := some 154) (v := ?_) (a' := ?_) #[true, true, true, true, true, true, true, true, true, true, true, true, false, false, false, false, false] rfl rfl (by kernel_rfl) (fun _ _ _ h => h) (Or.inl ⟨by rfl, ?_⟩) hHeld ?_ ?_
              rotate_left
              · rintro w' ⟨s0, s1⟩
                go_simp
                with_reducible rfl
              rotate_left
              · simp only [Act.put, List.setIfInBounds_toArray, List.set_cons_zero, List.set_cons_succ, i64_w, i32_w]
                rfl
              refine take_ (i := 12) (N := some 156) (v := ?_) (a' := ?_) #[true, true, true, true, true, true, true, true, true, true, true, true, true, false, false, false, false] rfl rfl (by kernel_rfl) (fun _ _ _ h => h) (Or.inl ⟨by rfl, ?_⟩) hHeld ?_ ?_
              rotate_left
              · rintro w' ⟨s0, s1⟩
                go_simp
                with_reducible rfl
              rotate_left
              · simp only [Act.put, List.setIfInBounds_toArray, List.set_cons_zero, List.set_cons_succ, i64_w, i32_w]
                rfl
              refine pure_ (i := 13) (N := some 157) (v := ?_) (a' := ?_) #[true, true, true, true, true, true, true, true, true, true, true, true, true, true, false, false, false] rfl rfl (by kernel_rfl) (fun _ _ _ h => h) (Or.inl ⟨by rfl, ?_⟩) ?_ ?_
              rotate_left
              · intro w'
                go_simp
                with_reducible rfl
              rotate_left
              · simp only [Act.put, List.setIfInBounds_toArray, List.set_cons_zero, List.set_cons_succ, i64_w, i32_w]
                rfl
              refine one_ (i := 14) (N := some 158) #[true, true, true, true, true, true, true, true, true, true, true, true, true, true, true, false, false] rfl rfl (by kernel_rfl) (by decide) (fun K hK => ?_)
              refine value_ (w1 := ?_) (v := ?_) (by rfl) rfl ?_ ?_
              rotate_left 2
              · go_simp
                constructor
                · rfl
                · rfl
              have fa : (wc.drew.alloc (.cells #[.string src, .int .i64 (wrap64 (num + (on.length : Int))), .int .i64 at_, .int .i64 12, .string ⟨#[]⟩, .string ⟨s.toArray⟩, .int .i64 x.stock, .string ⟨#[]⟩] 37)).cell? ⟨g, O + k, none⟩ = some (.string ⟨s.toArray⟩) := (((Below.refl _ wc).drew.alloc (Nat.le_refl _) _).cell (p := ⟨g, O + k, none⟩) (by exact hgW)).trans HFN8.out
              have fb : (wc.drew.alloc (.cells #[.string src, .int .i64 (wrap64 (num + (on.length : Int))), .int .i64 at_, .int .i64 12, .string ⟨#[]⟩, .string ⟨s.toArray⟩, .int .i64 x.stock, .string ⟨#[]⟩] 37)).cell? ⟨W2.heap.size, 4, none⟩ = some (.int .i64 x.stock) := (((Below.refl _ wc).drew.alloc (Nat.le_refl _) _).cell (p := ⟨W2.heap.size, 4, none⟩) (by exact hrW)).trans p4
              refine hK.out _ _ ⟨fa, fb⟩ (fun hHeld => ?_)
              clear hK K
              refine norm_ (a' := ?_) ?_ ?_
              rotate_left
              · show Act.put _ (some 158) _ = _
                simp only [Act.put, List.setIfInBounds_toArray, List.set_cons_zero, List.set_cons_succ, i64_w, i32_w]
                rfl
              refine one_ (i := 15) (N := some 159) #[true, true, true, true, true, true, true, true, true, true, true, true, true, true, true, true, false] rfl rfl (by kernel_rfl) (by decide) (fun K hK => ?_)
              refine YtgpadcokcdpmnaaDoorW.PrintWords.step_append_cells (w0 := wc.drew) (W := wc.drew) W0.heap.size (by rfl) (.tmp 144) (.tmp 158) 22 37 (.agg #[.string ⟨#[]⟩, .int .i64 0, .int .i64 0, .int .i64 0, .string ⟨#[]⟩, .string ⟨#[]⟩, .int .i64 0, .string ⟨#[]⟩]) 8 96 rfl Tryd.underlying22 ev_info rfl (by decide) (by decide) (.slice A8 on.length c8) on.length (cellsV on) (#[.string src, .int .i64 (wrap64 (num + (on.length : Int))), .int .i64 at_, .int .i64 12, .string ⟨#[]⟩, .string ⟨s.toArray⟩, .int .i64 x.stock, .string ⟨#[]⟩] : Array Value).toList rfl rfl rfl (ev_one (tellE src num at_ on (Ev.raw 12 ⟨s.toArray⟩ x.stock ⟨#[]⟩))) (own_moved HOWN8.out (fun k _ _ => rfl)) (below_of_le wc.drew hB0) hB0 (by omega) ?_
              intro v9 w9 hown9 hb9 hg9 hat9
              have HOWN9 := Lib.hid hown9
              have HG9 := Lib.hid hg9
              have fc : w9.cell? ⟨g, O + k, none⟩ = some (.string ⟨s.toArray⟩) := by
                have hne : some g ≠ (Value.slice A8 on.length c8).ownBlock := fun hc => by
                  have := (HOWN8.out.lt g hc.symm).1
                  omega
                rw [← HFN8.out]
                simp only [World.cell?, hg9.block g (by exact hgW) hne]
                rfl
              have fd : w9.cell? ⟨W2.heap.size, 4, none⟩ = some (.int .i64 x.stock) := by
                have hne : some W2.heap.size ≠ (Value.slice A8 on.length c8).ownBlock := fun hc => by
                  obtain ⟨c, hk⟩ := own_evblk HOWN8.out hc.symm
                  have hk2 := HRWW.out
                  unfold RwAt at hk2
                  rw [hk2] at hk; simp at hk
                rw [← p4]
                simp only [World.cell?, hg9.block W2.heap.size (by exact hrW) hne]
                rfl
              clear hown9 hb9 hg9 hat9
              refine hK.out _ _ ⟨fc, fd⟩ (fun hHeld => ?_)
              clear hK K
              refine norm_ (a' := ?_) ?_ ?_
              rotate_left
              · show Act.put _ (some 159) _ = _
                simp only [Act.put, List.setIfInBounds_toArray, List.set_cons_zero, List.set_cons_succ, i64_w, i32_w]
                rfl
              refine pure_ (i := 16) (N := some 13) (v := ?_) (a' := ?_) #[true, true, true, true, true, true, true, true, true, true, true, true, true, true, true, true, true] rfl rfl (by kernel_rfl) (fun _ _ _ h => h) (Or.inl ⟨by rfl, ?_⟩) ?_ ?_
              rotate_left
              · intro w'
                go_simp
                with_reducible rfl
              rotate_left
              · simp only [Act.put, List.setIfInBounds_toArray, List.set_cons_zero, List.set_cons_succ, i64_w, i32_w]
                rfl
              refine done_ (by kernel_rfl) ?_
              go_wp2_with fail
              go_roundw
              case rel => exact ⟨k + 1, by omega, by first | rfl | simp, by rw [HNEXT.out, List.length_append, cellsV_snoc]; exact HOWN9.out, HBW8.out.drew.grown HG9.out (by exact hB0) (fun k hk => (HOWN8.out.lt k hk).1)⟩
              case measure => simp [intOf]; omega
        · have htk : ks.take k = ks := List.take_of_length_le (by omega)
          have hfull : Hid (refOut l at_ src num want = diffCut num o) := by
            rw [Hid, HOUT.out]
            unfold refFull
            rw [HF.out, HKS.out, ← HO.out, htk]
          have HOWNW := Lib.hid (ownsRow_base_a HOWN.out (by have := HBR.out.size; exact this))
          clear htk
          rcases Nat.eq_zero_or_pos o.length with h0 | h0
          · have b0 : decide ((0 : Int) < (o.length : Int)) = false := decide_eq_false (by omega)
            have b2 : decide (0 < o.length) = false := decide_eq_false (by omega)
            have HE : Hid (refOut l at_ src num want = o) := by rw [Hid, hfull.out]; unfold diffCut; rw [if_neg (by omega)]
            clear h0
            go_wp2_with fail
            go_ret
            exact ⟨.slice A13 o.length c13, rfl, by rw [HE.out]; exact HOWNW.out, HWR.out⟩
          · have b0 : decide ((0 : Int) < (o.length : Int)) = true := decide_eq_true (by omega)
            have b2 : decide (0 < o.length) = true := decide_eq_true h0
            by_cases h1 : 1099511627777 - (o.length : Int) < num
            · have b1 : decide (1099511627777 - (o.length : Int) < num) = true := decide_eq_true h1
              have HE : Hid (refOut l at_ src num want = []) := by rw [Hid, hfull.out]; unfold diffCut; rw [if_pos ⟨h0, by omega⟩]
              clear h0 h1
              go_wp2_with fail
              go_ret
              exact DiffPost.none_ HE.out HWR.out
            · have b1 : decide (1099511627777 - (o.length : Int) < num) = false := decide_eq_false h1
              have HE : Hid (refOut l at_ src num want = o) := by rw [Hid, hfull.out]; unfold diffCut; rw [if_neg (fun hc => h1 (by have := hc.2; omega))]
              clear h0 h1
              go_wp2_with fail
              go_ret
              exact ⟨.slice A13 o.length c13, rfl, by rw [HE.out]; exact HOWNW.out, HWR.out⟩
theorem refdiff_calls (A0 : Option Addr) (c0 : Nat) (l : List Ev) (at_ : Int) (src : ByteArray) (num : Int) (A4 : Option Addr) (c4 : Nat) (want : List Rw) (w : World) (h : RDin A0 c0 l A4 c4 want w) (hsz : src.size ≤ 1000000000) :
    Calls Tryd.prog 13 #[.slice A0 l.length c0, .int .i64 at_, .string src, .int .i64 num, .slice A4 want.length c4] w fun r w' => DiffPost w (refOut l at_ src num want) r w' := by
  cases hgo : refGo want at_ src num with
  | false => exact refdiff_no A0 c0 l at_ src num A4 c4 want w h hsz hgo
  | true => exact refdiff_go A0 c0 l at_ src num A4 c4 want w h hsz hgo
end Go.Proofs.YtgpadcokcdpmnaaDoor.Fd
end
