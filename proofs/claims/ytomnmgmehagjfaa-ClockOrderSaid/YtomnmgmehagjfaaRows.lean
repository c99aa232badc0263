/-
  No cell of these rows narrows 'for every input' (looked for: loops, veiled, ifaces, maps, wideKeys, modest, calm, conditions, laid).
  DERIVED. THE GIVEN ROWS OF THIS SEAT. 4 by the template 'for every input the law returns true; each argument reads behind the call as it read before'; 0 by the template 'total and deterministic' (their statements: YtomnmgmehagjfaaTotals.lean).
  GIVEN WITH THE SEED: the statements are not yours to turn. If you find one false, say at which input.
  Laid BY PROGRAM, IN A SANDBOX (cutbox-rows.mjs): the forced cells as the released guide's own fill.sh prints them over the translation 36ece31cee33b6b6… (all of the seat's roots in one cut). By AI agents, Wed Nov 11 2026. No macro, syntax, notation, axiom, sorry.
-/
import Derived.Test.YtomnmgmehagjfaaChecked
import GoSem.Claim
import GoSem.ClaimJoined
import GoSem.ClaimMapViews
import Derived.JoinedTies
import Derived.KernelRfl
namespace Go.Proofs.Ytomnmgmehagjfaa
/- THE CELL 'sum', in the pinned program and in every row, IS THE sha256 OF THE DUMP (.gsa) THAT YtomnmgmehagjfaaProg.lean LOADS. Nothing in Lean hashes anything: it is a label: what it is worth is what the hold of that sum in a sandbox is worth. -/
noncomputable def Try.pinned : Pinned := { name := "ytomnmgmehagjfaa", sum := "36ece31cee33b6b6068019c75525771e876a43899e63ca655bea8f2a18ac3db4", checked := Try.checked }
namespace Rows
def none {H : Type} : Left H := { results := [], args := [] }

/-- 'ciceronelaw06.ClockRises': WHATEVER THE INPUT: true; the input reads as it did. -/
def clockRisesSpec : ChangeSpec := { name := "clockRises", fn := fun _ => fun
  | [d1, d2, d3] => { results := [.lit (.bool true)], args := [d1, d2, d3] }
  | _ => none }
def clockRisesRow : OpenClaim := { program := "ytomnmgmehagjfaa", sum := "36ece31cee33b6b6068019c75525771e876a43899e63ca655bea8f2a18ac3db4", func := "cicerone/ciceronelaw06.ClockRises", spec := "clockRises", unfollowed := true, recurses := true, apart := false }
def ClockRisesSaid : Prop := clockRisesRow.holds Try.pinned (OpenSpec.ofChange clockRisesSpec)

/-- ITS FALSE NEIGHBOUR: 'it returns false'. Refute it at one input. -/
def clockRisesWrong : ChangeSpec := { name := "clockRises", fn := fun _ => fun
  | [d1, d2, d3] => { results := [.lit (.bool false)], args := [d1, d2, d3] }
  | _ => none }
def ClockRisesWrongFalsely : Prop := clockRisesRow.holds Try.pinned (OpenSpec.ofChange clockRisesWrong)

/-- 'ciceronelaw06.ClockSlack': WHATEVER THE INPUT: true; the input reads as it did. -/
def clockSlackSpec : ChangeSpec := { name := "clockSlack", fn := fun _ => fun
  | [d1, d2, d3, d4] => { results := [.lit (.bool true)], args := [d1, d2, d3, d4] }
  | _ => none }
def clockSlackRow : OpenClaim := { program := "ytomnmgmehagjfaa", sum := "36ece31cee33b6b6068019c75525771e876a43899e63ca655bea8f2a18ac3db4", func := "cicerone/ciceronelaw06.ClockSlack", spec := "clockSlack", unfollowed := true, recurses := true, apart := false }
def ClockSlackSaid : Prop := clockSlackRow.holds Try.pinned (OpenSpec.ofChange clockSlackSpec)

/-- ITS FALSE NEIGHBOUR: 'it returns false'. Refute it at one input. -/
def clockSlackWrong : ChangeSpec := { name := "clockSlack", fn := fun _ => fun
  | [d1, d2, d3, d4] => { results := [.lit (.bool false)], args := [d1, d2, d3, d4] }
  | _ => none }
def ClockSlackWrongFalsely : Prop := clockSlackRow.holds Try.pinned (OpenSpec.ofChange clockSlackWrong)

/-- 'ciceronelaw06.ClockAlone': WHATEVER THE INPUT: true; the input reads as it did. -/
def clockAloneSpec : ChangeSpec := { name := "clockAlone", fn := fun _ => fun
  | [d1, d2] => { results := [.lit (.bool true)], args := [d1, d2] }
  | _ => none }
def clockAloneRow : OpenClaim := { program := "ytomnmgmehagjfaa", sum := "36ece31cee33b6b6068019c75525771e876a43899e63ca655bea8f2a18ac3db4", func := "cicerone/ciceronelaw06.ClockAlone", spec := "clockAlone", unfollowed := true, recurses := true, apart := false }
def ClockAloneSaid : Prop := clockAloneRow.holds Try.pinned (OpenSpec.ofChange clockAloneSpec)

/-- ITS FALSE NEIGHBOUR: 'it returns false'. Refute it at one input. -/
def clockAloneWrong : ChangeSpec := { name := "clockAlone", fn := fun _ => fun
  | [d1, d2] => { results := [.lit (.bool false)], args := [d1, d2] }
  | _ => none }
def ClockAloneWrongFalsely : Prop := clockAloneRow.holds Try.pinned (OpenSpec.ofChange clockAloneWrong)

/-- 'ciceronelaw06.ClockOrder': WHATEVER THE INPUT: true; the input reads as it did. -/
def clockOrderSpec : ChangeSpec := { name := "clockOrder", fn := fun _ => fun
  | [d1, d2, d3] => { results := [.lit (.bool true)], args := [d1, d2, d3] }
  | _ => none }
def clockOrderRow : OpenClaim := { program := "ytomnmgmehagjfaa", sum := "36ece31cee33b6b6068019c75525771e876a43899e63ca655bea8f2a18ac3db4", func := "cicerone/ciceronelaw06.ClockOrder", spec := "clockOrder", unfollowed := true, recurses := true, apart := false }
def ClockOrderSaid : Prop := clockOrderRow.holds Try.pinned (OpenSpec.ofChange clockOrderSpec)

/-- ITS FALSE NEIGHBOUR: 'it returns false'. Refute it at one input. -/
def clockOrderWrong : ChangeSpec := { name := "clockOrder", fn := fun _ => fun
  | [d1, d2, d3] => { results := [.lit (.bool false)], args := [d1, d2, d3] }
  | _ => none }
def ClockOrderWrongFalsely : Prop := clockOrderRow.holds Try.pinned (OpenSpec.ofChange clockOrderWrong)

/- THE SECOND FORM. 'bulk': how many values and letters a reading holds, each counted each time it is reached (what is shared counts as often as it is met; a slice's spare places count too). A statement '..UptoSaid' is the law's where the arguments, and the package variables that the reading takes, are together of bulk at most 1048576: NARROWER than '..Said'. Prove '..Said' where nothing that the law and all that it calls make is longer than what came in: it says more and counts as full. Else prove '..UptoSaid'. A law counts once. -/
mutual
def uptoBulk {H : Type} : DataW H → Nat
  | .lit (.string bytes) => bytes.length + 1
  | .lit _ => 1
  | .nil => 1
  | .ptr d => uptoBulk d + 1
  | .slice elems spare => uptoBulkAll elems + uptoBulkAll spare + 1
  | .agg parts => uptoBulkAll parts + 1
  | .iface _ d => uptoBulk d + 1
  | .map entries => uptoBulkEntries entries + 1
  | .held _ => 1
def uptoBulkAll {H : Type} : List (DataW H) → Nat
  | [] => 0
  | d :: r => uptoBulk d + uptoBulkAll r
def uptoBulkEntries {H : Type} : List (Lit × DataW H) → Nat
  | [] => 0
  | x :: r => uptoBulkEntry x + uptoBulkEntries r
def uptoBulkEntry {H : Type} : Lit × DataW H → Nat
  | (.string bytes, d) => bytes.length + uptoBulk d + 1
  | (_, d) => uptoBulk d + 1
 end
def uptoSmall : (H : Type) → List (DataW H) → Bool := fun _ ds => decide (uptoBulkAll ds ≤ 1048576)
def OpenSpec.upto (s : _root_.Go.ChangeSpec) : _root_.Go.OpenSpec := { _root_.Go.OpenSpec.ofChange s with cond := some uptoSmall }

/-- 'ciceronelaw06.ClockRises', WHERE WHAT IT READS IS OF BULK AT MOST 1048576: true; the input reads as it did. -/
def clockRisesUptoRow : OpenClaim := { program := "ytomnmgmehagjfaa", sum := "36ece31cee33b6b6068019c75525771e876a43899e63ca655bea8f2a18ac3db4", func := "cicerone/ciceronelaw06.ClockRises", spec := "clockRises", unfollowed := true, recurses := true, apart := false, narrowed := true }
def ClockRisesUptoSaid : Prop := clockRisesUptoRow.holds Try.pinned (OpenSpec.upto clockRisesSpec)

/-- 'ciceronelaw06.ClockSlack', WHERE WHAT IT READS IS OF BULK AT MOST 1048576: true; the input reads as it did. -/
def clockSlackUptoRow : OpenClaim := { program := "ytomnmgmehagjfaa", sum := "36ece31cee33b6b6068019c75525771e876a43899e63ca655bea8f2a18ac3db4", func := "cicerone/ciceronelaw06.ClockSlack", spec := "clockSlack", unfollowed := true, recurses := true, apart := false, narrowed := true }
def ClockSlackUptoSaid : Prop := clockSlackUptoRow.holds Try.pinned (OpenSpec.upto clockSlackSpec)

/-- 'ciceronelaw06.ClockAlone', WHERE WHAT IT READS IS OF BULK AT MOST 1048576: true; the input reads as it did. -/
def clockAloneUptoRow : OpenClaim := { program := "ytomnmgmehagjfaa", sum := "36ece31cee33b6b6068019c75525771e876a43899e63ca655bea8f2a18ac3db4", func := "cicerone/ciceronelaw06.ClockAlone", spec := "clockAlone", unfollowed := true, recurses := true, apart := false, narrowed := true }
def ClockAloneUptoSaid : Prop := clockAloneUptoRow.holds Try.pinned (OpenSpec.upto clockAloneSpec)

/-- 'ciceronelaw06.ClockOrder', WHERE WHAT IT READS IS OF BULK AT MOST 1048576: true; the input reads as it did. -/
def clockOrderUptoRow : OpenClaim := { program := "ytomnmgmehagjfaa", sum := "36ece31cee33b6b6068019c75525771e876a43899e63ca655bea8f2a18ac3db4", func := "cicerone/ciceronelaw06.ClockOrder", spec := "clockOrder", unfollowed := true, recurses := true, apart := false, narrowed := true }
def ClockOrderUptoSaid : Prop := clockOrderUptoRow.holds Try.pinned (OpenSpec.upto clockOrderSpec)

end Rows
end Go.Proofs.Ytomnmgmehagjfaa
