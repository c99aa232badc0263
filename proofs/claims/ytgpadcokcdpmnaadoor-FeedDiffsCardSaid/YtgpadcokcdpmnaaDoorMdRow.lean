import Derived.Test.YtgpadcokcdpmnaaDoorRows
import Derived.Test.YtgpadcokcdpmnaaDoorMd12
import Derived.Test.YtgpadcokcdpmnaaDoorTie
import Derived.Test.YtgpadcokcdpmnaaDoorCards
import Derived.LaidMore
import Derived.Stop.Joined
import Derived.Lay
import Derived.SevenTiedAt
import Derived.WalkKit
import Derived.ProofKit
import Derived.OpenShut
import Derived.ShutString
import Derived.ChangeOld
import Derived.Below
import Derived.SizedLaws
set_option linter.unusedVariables false
set_option linter.unusedSimpArgs false
section
namespace Go.Proofs.YtgpadcokcdpmnaaDoor.feedDiffs
open Go Go.ChangeShapes Go.WideShapes Go.ChangeAt Go.RowKit Go.Proofs.YtgpadcokcdpmnaaDoor.Fd
open Go.ChangeMaps (open_string shut_string)
set_option linter.unusedVariables false
set_option linter.unusedSimpArgs false
theorem own : ownKnob Tryd.prog.godebug = none := by kernel_rfl
theorem laidOut : laidOutB Tryd.prog = true := by kernel_rfl
set_option maxRecDepth 100000 in
theorem lifted (os : Os) (started : os.Started) (H : Type) (enc : TypeId × Value → H) :
    ReturnsInHanded {} Tryd.checked os 3 .any (fun w args => (Rows.feedDiffsSpec.pre enc Tryd.prog Tryd.f3 [] false w args ∧ laidMetH Tryd.prog Rows.feedDiffsRow.laid w) ∧ sizedMet enc Tryd.prog Tryd.f3 (OpenSpec.ofChange Rows.feedDiffsSpec) false w args) (Rows.feedDiffsSpec.post enc Tryd.prog Tryd.f3 false true false false) := by
  refine returnsInHanded_of_change_and (C := Tryd.checked) (X := fun w _ => laidMetH Tryd.prog Rows.feedDiffsRow.laid w) (fun _ _ _ hh h => h.of_heap hh) own started (by kernel_rfl) Tryd.func3
    (ChangeSpec.witness_shaped (enc := enc) (C := Tryd.checked) (os := os) (X := fun w _ => laidMetH Tryd.prog Rows.feedDiffsRow.laid w) false (World.laidAll Tryd.prog os Rows.feedDiffsRow.laid) #[.slice none 0 0, .int .i64 0, .string ⟨#[]⟩, .int .i64 0, .slice none 0 0] 8 (World.laidAll_os _ _ _) (World.shaped_of_ZipB (by kernel_rfl) (by kernel_rfl)) (by kernel_rfl) (by kernel_rfl) (by kernel_rfl)
      (by rw [MakeChecks.laidMetH_plain _ _ _ (by kernel_rfl)]; exact laidMet_laidAll _ (by kernel_rfl) (by kernel_rfl))) ?_
  intro W base args ds gs before hval0 hW hcnd hsz0 hL _
  have hsz : (DataW.weightsEach Tryd.prog (Tryd.f3.params.toList ++ Rows.feedDiffsSpec.plain.varTypes Tryd.prog) (ds ++ gs)).all (· ≤ reachBytes) = true := hsz0
  have hval : ∀ (j : Nat) t v, Tryd.f3.params[j]? = some t → args[j]? = some v → Value.okWide Tryd.prog W .any base t v := hval0
  have hW' := hW
  obtain ⟨p, q, hA0, hV, rfl, hfz, hnd⟩ := hW
  have hA : DataW.TrodAll enc Tryd.prog W 0 (fun _ => true) true Tryd.f3.params.toList args.toList ds p := hA0
  rw [Tryd.params3] at hA hval hsz
  obtain ⟨v0, vs0, d0, ds0, p0, q0, hargs, rfl, rfl, h0, r0⟩ := trodAll_cons hA
  obtain ⟨v1, vs1, d1, ds1, p1, q1, rfl, rfl, rfl, h1, r1⟩ := trodAll_cons r0
  obtain ⟨v2, vs2, d2, ds2, p2, q2, rfl, rfl, rfl, h2, r2⟩ := trodAll_cons r1
  obtain ⟨v3, vs3, d3, ds3, p3, q3, rfl, rfl, rfl, h3, r3⟩ := trodAll_cons r2
  obtain ⟨v4, vs4, d4, ds4, p4, q4, rfl, rfl, rfl, h4, r4⟩ := trodAll_cons r3
  obtain ⟨rfl, rfl, rfl⟩ := trodAll_nil r4
  obtain rfl : args = #[v0, v1, v2, v3, v4] := by cases args; simp_all
  obtain ⟨rfl, rfl⟩ := trodVars_none hV
  have g0 : Light Tryd.prog 22 d0 := light_of hsz (j := 0) rfl rfl
  have g4 : Light Tryd.prog 23 d4 := light_of hsz (j := 4) rfl rfl
  obtain ⟨a0, n0, c0, rfl⟩ := okWide_slice Tryd.underlying22 (hval 0 22 v0 rfl rfl)
  have k0 := h0
  have lt0 : ∀ x ∈ p0, x.block < W.heap.size := by obtain ⟨m, hm⟩ := k0; exact DataW.trod_lt m _ _ _ hm
  obtain ⟨l0, w0, rfl, e0, b0⟩ : ∃ l : List Ev, EvsO W a0 l ∧ l.length = n0 ∧ n0 ≤ c0 ∧ n0 ≤ 9223372036854775807 := by obtain ⟨fuel, hf⟩ := h0; exact open_evs hf g0
  obtain ⟨x1, rfl, rfl, rfl, u1⟩ := open_int Tryd.underlying3 (hval 1 3 v1 rfl rfl) h1
  obtain ⟨x2, rfl, rfl, rfl, u2⟩ := open_string Tryd.underlying9 (hval 2 9 v2 rfl rfl) h2
  have s2 : x2.size ≤ maxT := by have h9 := sized_string hsz (j := 2) (t := 9) (bytes := x2.data.toList) rfl rfl; have h8 := reach_max; have h7 := ba_size x2; omega
  obtain ⟨x3, rfl, rfl, rfl, u3⟩ := open_int Tryd.underlying3 (hval 3 3 v3 rfl rfl) h3
  obtain ⟨a4, n4, c4, rfl⟩ := okWide_slice Tryd.underlying23 (hval 4 23 v4 rfl rfl)
  have k4 := h4
  have lt4 : ∀ x ∈ p4, x.block < W.heap.size := by obtain ⟨m, hm⟩ := k4; exact DataW.trod_lt m _ _ _ hm
  obtain ⟨l4, w4, rfl, e4, b4, z4⟩ : ∃ l : List Rw, RwsAt W a4 l ∧ l.length = n4 ∧ n4 ≤ c4 ∧ n4 ≤ 9223372036854775807 ∧ ∀ x ∈ l, x.name.size ≤ maxT ∧ x.maker.size ≤ maxT ∧ x.tags.size ≤ maxT := by obtain ⟨fuel, hf⟩ := h4; exact open_rows hf g4
  clear hA0 hval0 hsz0
  refine (feedDiffs_calls a0 c0 l0 x1 x2 x3 a4 c4 l4 W ⟨w0, e0, w4, e4, b0, b4, z4⟩ s2).mono fun e W' ⟨he, bel⟩ => ?_
  subst he
  exact ⟨_, rfl, _, _, _, [], _, [], hW', trodAll_mk1 (shut_bool Tryd.underlying4 _), (trodAll_cons_mk (Below.trod laidOut (by kernel_rfl) (of_decide_eq_true (by kernel_rfl)) k0 bel lt0) (trodAll_cons_mk (shut_int Tryd.underlying3 u1) (trodAll_cons_mk (shut_string Tryd.underlying9 u2) (trodAll_cons_mk (shut_int Tryd.underlying3 u3) (trodAll_cons_mk (Below.trod laidOut (by kernel_rfl) (of_decide_eq_true (by kernel_rfl)) k4 bel lt4) trodAll_mk0))))), rfl, bel.frame _, fun h => by cases h⟩
theorem over : Rows.feedDiffsRow.holds Tryd.pinned (OpenSpec.ofChange Rows.feedDiffsSpec) :=
  OpenClaim.holds_of_wide 3 Tryd.f3 rfl rfl rfl rfl rfl rfl rfl ⟨rfl, rfl, rfl, rfl, rfl⟩ rfl rfl rfl rfl rfl (by kernel_rfl) Tryd.func3 (by kernel_rfl)
    (of_decide_eq_true (by kernel_rfl)) (by unfold Func.isWrapper; first | (rw [if_pos (by decide +kernel)]; kernel_rfl) | (rw [if_neg (by decide +kernel)]; exact ⟨rfl, rfl⟩))
    (fun os started H enc _ => lifted os started H enc)
theorem proved : Rows.FeedDiffsSaid := over
set_option maxRecDepth 100000 in
theorem card_proved : Rows.FeedDiffsCardSaid :=
  Claim7.holds_tied_plain_at .later [] [.data, .pinned] true Rows.feedDiffsCard.stood.harness false
    proved (fun _ h => by cases h) (by kernel_rfl) (fun _ h => by cases h) feedDiffs_row_tie rfl ⟨rfl, rfl⟩ (by kernel_rfl) rfl
    (fun f fn hf hfn => by
      obtain rfl : f = 3 := Option.some.inj ((show Tryd.prog.funcNamed "cicerone/ciceronelaw46.FeedDiffs" = some 3 by kernel_rfl).symm.trans hf) |>.symm
      obtain rfl : fn = Tryd.f3 := (Option.some.inj (Tryd.func3.symm.trans hfn)).symm
      exact ⟨by kernel_rfl, fun j t ht => by
        rw [Tryd.params3] at ht
        have hm : t ∈ [22, 3, 9, 3, 23] := by simpa using Array.mem_of_getElem? ht
        have hall : ([22, 3, 9, 3, 23].all fun u => !Tryd.prog.wantsStandIn u) = true := by kernel_rfl
        exact (show Tryd.prog.wantsStandIn t = false by simpa using List.all_eq_true.1 hall t hm)⟩)
    (by kernel_rfl)
end Go.Proofs.YtgpadcokcdpmnaaDoor.feedDiffs
namespace Go.Proofs.YtgpadcokcdpmnaaDoor
theorem feedDiffs_holds : Rows.FeedDiffsCardSaid := feedDiffs.card_proved
end Go.Proofs.YtgpadcokcdpmnaaDoor
end
