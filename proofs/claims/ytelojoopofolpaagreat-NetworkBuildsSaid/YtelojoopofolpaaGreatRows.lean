/-
  NARROWER THAN 'FOR EVERY INPUT', by the rows' own cells (each row's printed sentence says how): NetworkBuilds: loops.
  DERIVED. THE GIVEN ROWS OF THIS SEAT. 3 by the template 'for every input the law returns true; each argument reads behind the call as it read before'; 0 by the template 'total and deterministic' (their statements: YtelojoopofolpaaGreatTotals.lean).
  GIVEN WITH THE SEED: the statements are not yours to turn. If you find one false, say at which input.
  Laid BY PROGRAM, IN A SANDBOX (cutbox-rows.mjs): the forced cells as the released guide's own fill.sh prints them over the translation 52ad5469bc2c4447… (all of the seat's roots in one cut). By AI agents, Wed Nov 11 2026. No macro, syntax, notation, axiom, sorry.
-/
import Derived.Test.YtelojoopofolpaaGreatChecked
import GoSem.Claim
import GoSem.ClaimJoined
import GoSem.ClaimMapViews
import Derived.JoinedTies
import Derived.KernelRfl
namespace Go.Proofs.YtelojoopofolpaaGreat
/- THE CELL 'sum', in the pinned program and in every row, IS THE sha256 OF THE DUMP (.gsa) THAT YtelojoopofolpaaGreatProg.lean LOADS. Nothing in Lean hashes anything: it is a label: what it is worth is what the hold of that sum in a sandbox is worth. -/
noncomputable def Tryz.pinned : Pinned := { name := "ytelojoopofolpaagreat", sum := "52ad5469bc2c4447cf441d914281a2c66adf038fbcca7550d5e6005da26b8110", checked := Tryz.checked }
namespace Rows
def none {H : Type} : Left H := { results := [], args := [] }

/-- 'pairinglaw15.MeasureCases': WHATEVER THE INPUT: true; the input reads as it did. -/
def measureCasesSpec : ChangeSpec := { name := "measureCases", fn := fun _ => fun
  | [d1, d2] => { results := [.lit (.bool true)], args := [d1, d2] }
  | _ => none }
def measureCasesRow : OpenClaim := { program := "ytelojoopofolpaagreat", sum := "52ad5469bc2c4447cf441d914281a2c66adf038fbcca7550d5e6005da26b8110", func := "pairing/pairinglaw15.MeasureCases", spec := "measureCases", inPlace := ["internal/bytealg.IndexByteString", "internal/bytealg.IndexString"], recurses := true, named := ["internal/bytealg.MaxLen"], plainKeys := false, apart := false }
def MeasureCasesSaid : Prop := measureCasesRow.holds Tryz.pinned (OpenSpec.ofChange measureCasesSpec)

/-- ITS FALSE NEIGHBOUR: 'it returns false'. Refute it at one input. -/
def measureCasesWrong : ChangeSpec := { name := "measureCases", fn := fun _ => fun
  | [d1, d2] => { results := [.lit (.bool false)], args := [d1, d2] }
  | _ => none }
def MeasureCasesWrongFalsely : Prop := measureCasesRow.holds Tryz.pinned (OpenSpec.ofChange measureCasesWrong)

/-- 'pairinglaw16.LegalCases': WHATEVER THE INPUT: true; the input reads as it did. -/
def legalCasesSpec : ChangeSpec := { name := "legalCases", fn := fun _ => fun
  | [d1, d2] => { results := [.lit (.bool true)], args := [d1, d2] }
  | _ => none }
def legalCasesRow : OpenClaim := { program := "ytelojoopofolpaagreat", sum := "52ad5469bc2c4447cf441d914281a2c66adf038fbcca7550d5e6005da26b8110", func := "pairing/pairinglaw16.LegalCases", spec := "legalCases", inPlace := ["internal/bytealg.IndexByteString", "internal/bytealg.IndexString"], recurses := true, named := ["internal/bytealg.MaxLen"], plainKeys := false, apart := false }
def LegalCasesSaid : Prop := legalCasesRow.holds Tryz.pinned (OpenSpec.ofChange legalCasesSpec)

/-- ITS FALSE NEIGHBOUR: 'it returns false'. Refute it at one input. -/
def legalCasesWrong : ChangeSpec := { name := "legalCases", fn := fun _ => fun
  | [d1, d2] => { results := [.lit (.bool false)], args := [d1, d2] }
  | _ => none }
def LegalCasesWrongFalsely : Prop := legalCasesRow.holds Tryz.pinned (OpenSpec.ofChange legalCasesWrong)

/-- 'pairinglaw21.NetworkBuilds': WHATEVER THE INPUT: true; the input reads as it did. -/
def networkBuildsSpec : ChangeSpec := { name := "networkBuilds", fn := fun _ => fun
  | [d1, d2, d3, d4] => { results := [.lit (.bool true)], args := [d1, d2, d3, d4] }
  | _ => none }
def networkBuildsRow : OpenClaim := { program := "ytelojoopofolpaagreat", sum := "52ad5469bc2c4447cf441d914281a2c66adf038fbcca7550d5e6005da26b8110", func := "pairing/pairinglaw21.NetworkBuilds", spec := "networkBuilds", inPlace := ["internal/bytealg.IndexByteString", "internal/bytealg.IndexString"], unfollowed := true, recurses := true, named := ["internal/bytealg.MaxLen"], loops := true, plainKeys := false, apart := false }
def NetworkBuildsSaid : Prop := networkBuildsRow.holds Tryz.pinned (OpenSpec.ofChange networkBuildsSpec)

/-- ITS FALSE NEIGHBOUR: 'it returns false'. Refute it at one input. -/
def networkBuildsWrong : ChangeSpec := { name := "networkBuilds", fn := fun _ => fun
  | [d1, d2, d3, d4] => { results := [.lit (.bool false)], args := [d1, d2, d3, d4] }
  | _ => none }
def NetworkBuildsWrongFalsely : Prop := networkBuildsRow.holds Tryz.pinned (OpenSpec.ofChange networkBuildsWrong)

/- THE SECOND FORM. 'bulk': how many values and letters a reading holds, each counted each time it is reached (what is shared counts as often as it is met; a slice's spare places count too). A statement '..UptoSaid' is the law's where the arguments, and the package variables that the reading takes, are together of bulk at most 1048576: NARROWER than '..Said'. Prove '..Said' where nothing that the law and all that it calls make is longer than what came in: it says more and counts as full. Else prove '..UptoSaid'. A law counts once. -/
mutual
def uptoBulk {H : Type} : DataW H → Nat
  | .lit (.string bytes) => bytes.length + 1
  | .lit _ => 1
  | .nil => 1
  | .ptr d => uptoBulk d + 1
  | .slice elems spare => uptoBulkAll elems + uptoBulkAll spare + 1
  | .agg parts => uptoBulkAll parts + 1
  | .iface _ d => uptoBulk d + 1
  | .map entries => uptoBulkEntries entries + 1
  | .held _ => 1
def uptoBulkAll {H : Type} : List (DataW H) → Nat
  | [] => 0
  | d :: r => uptoBulk d + uptoBulkAll r
def uptoBulkEntries {H : Type} : List (Lit × DataW H) → Nat
  | [] => 0
  | x :: r => uptoBulkEntry x + uptoBulkEntries r
def uptoBulkEntry {H : Type} : Lit × DataW H → Nat
  | (.string bytes, d) => bytes.length + uptoBulk d + 1
  | (_, d) => uptoBulk d + 1
 end
def uptoSmall : (H : Type) → List (DataW H) → Bool := fun _ ds => decide (uptoBulkAll ds ≤ 1048576)
def OpenSpec.upto (s : _root_.Go.ChangeSpec) : _root_.Go.OpenSpec := { _root_.Go.OpenSpec.ofChange s with cond := some uptoSmall }

/-- 'pairinglaw15.MeasureCases', WHERE WHAT IT READS IS OF BULK AT MOST 1048576: true; the input reads as it did. -/
def measureCasesUptoRow : OpenClaim := { program := "ytelojoopofolpaagreat", sum := "52ad5469bc2c4447cf441d914281a2c66adf038fbcca7550d5e6005da26b8110", func := "pairing/pairinglaw15.MeasureCases", spec := "measureCases", inPlace := ["internal/bytealg.IndexByteString", "internal/bytealg.IndexString"], recurses := true, named := ["internal/bytealg.MaxLen"], plainKeys := false, apart := false, narrowed := true }
def MeasureCasesUptoSaid : Prop := measureCasesUptoRow.holds Tryz.pinned (OpenSpec.upto measureCasesSpec)

/-- 'pairinglaw16.LegalCases', WHERE WHAT IT READS IS OF BULK AT MOST 1048576: true; the input reads as it did. -/
def legalCasesUptoRow : OpenClaim := { program := "ytelojoopofolpaagreat", sum := "52ad5469bc2c4447cf441d914281a2c66adf038fbcca7550d5e6005da26b8110", func := "pairing/pairinglaw16.LegalCases", spec := "legalCases", inPlace := ["internal/bytealg.IndexByteString", "internal/bytealg.IndexString"], recurses := true, named := ["internal/bytealg.MaxLen"], plainKeys := false, apart := false, narrowed := true }
def LegalCasesUptoSaid : Prop := legalCasesUptoRow.holds Tryz.pinned (OpenSpec.upto legalCasesSpec)

/-- 'pairinglaw21.NetworkBuilds', WHERE WHAT IT READS IS OF BULK AT MOST 1048576: true; the input reads as it did. -/
def networkBuildsUptoRow : OpenClaim := { program := "ytelojoopofolpaagreat", sum := "52ad5469bc2c4447cf441d914281a2c66adf038fbcca7550d5e6005da26b8110", func := "pairing/pairinglaw21.NetworkBuilds", spec := "networkBuilds", inPlace := ["internal/bytealg.IndexByteString", "internal/bytealg.IndexString"], unfollowed := true, recurses := true, named := ["internal/bytealg.MaxLen"], loops := true, plainKeys := false, apart := false, narrowed := true }
def NetworkBuildsUptoSaid : Prop := networkBuildsUptoRow.holds Tryz.pinned (OpenSpec.upto networkBuildsSpec)

end Rows
end Go.Proofs.YtelojoopofolpaaGreat
