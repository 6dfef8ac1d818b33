/-
  NARROWER THAN 'FOR EVERY INPUT', by the rows' own cells (each row's printed sentence says how): MeasurePairings: loops · LegalRests: loops · LegalPairings: loops.
  DERIVED. THE GIVEN ROWS OF THIS SEAT. 8 by the template 'for every input the law returns true; each argument reads behind the call as it read before'; 0 by the template 'total and deterministic' (their statements: YtllakjblamfjbaaGreatTotals.lean).
  GIVEN WITH THE SEED: the statements are not yours to turn. If you find one false, say at which input.
  Laid BY PROGRAM, IN A SANDBOX (cutbox-rows.mjs): the forced cells as the released guide's own fill.sh prints them over the translation 7721fdf421016198… (all of the seat's roots in one cut). By AI agents, Wed Nov 11 2026. No macro, syntax, notation, axiom, sorry.
-/
import Derived.Test.YtllakjblamfjbaaGreatChecked
import GoSem.Claim
import GoSem.ClaimJoined
import GoSem.ClaimMapViews
import Derived.JoinedTies
import Derived.KernelRfl
namespace Go.Proofs.YtllakjblamfjbaaGreat
/- THE CELL 'sum', in the pinned program and in every row, IS THE sha256 OF THE DUMP (.gsa) THAT YtllakjblamfjbaaGreatProg.lean LOADS. Nothing in Lean hashes anything: it is a label: what it is worth is what the hold of that sum in a sandbox is worth. -/
noncomputable def Tryz.pinned : Pinned := { name := "ytllakjblamfjbaagreat", sum := "7721fdf4210161980a90fa454010b83dd75a76ec1965a2030d88c4151dec6042", checked := Tryz.checked }
namespace Rows
def none {H : Type} : Left H := { results := [], args := [] }

/-- 'pairinglaw15.MeasurePairings': WHATEVER THE INPUT: true; the input reads as it did. -/
def measurePairingsSpec : ChangeSpec := { name := "measurePairings", fn := fun _ => fun
  | [d1, d2, d3] => { results := [.lit (.bool true)], args := [d1, d2, d3] }
  | _ => none }
def measurePairingsRow : OpenClaim := { program := "ytllakjblamfjbaagreat", sum := "7721fdf4210161980a90fa454010b83dd75a76ec1965a2030d88c4151dec6042", func := "pairing/pairinglaw15.MeasurePairings", spec := "measurePairings", inPlace := ["internal/bytealg.IndexByteString", "internal/bytealg.IndexString"], recurses := true, named := ["internal/bytealg.MaxLen"], loops := true, plainKeys := false, apart := false }
def MeasurePairingsSaid : Prop := measurePairingsRow.holds Tryz.pinned (OpenSpec.ofChange measurePairingsSpec)

/-- ITS FALSE NEIGHBOUR: 'it returns false'. Refute it at one input. -/
def measurePairingsWrong : ChangeSpec := { name := "measurePairings", fn := fun _ => fun
  | [d1, d2, d3] => { results := [.lit (.bool false)], args := [d1, d2, d3] }
  | _ => none }
def MeasurePairingsWrongFalsely : Prop := measurePairingsRow.holds Tryz.pinned (OpenSpec.ofChange measurePairingsWrong)

/-- 'pairinglaw16.LegalRests': WHATEVER THE INPUT: true; the input reads as it did. -/
def legalRestsSpec : ChangeSpec := { name := "legalRests", fn := fun _ => fun
  | [d1, d2, d3, d4, d5] => { results := [.lit (.bool true)], args := [d1, d2, d3, d4, d5] }
  | _ => none }
def legalRestsRow : OpenClaim := { program := "ytllakjblamfjbaagreat", sum := "7721fdf4210161980a90fa454010b83dd75a76ec1965a2030d88c4151dec6042", func := "pairing/pairinglaw16.LegalRests", spec := "legalRests", inPlace := ["internal/bytealg.IndexByteString", "internal/bytealg.IndexString"], recurses := true, named := ["internal/bytealg.MaxLen"], loops := true, plainKeys := false, apart := false }
def LegalRestsSaid : Prop := legalRestsRow.holds Tryz.pinned (OpenSpec.ofChange legalRestsSpec)

/-- ITS FALSE NEIGHBOUR: 'it returns false'. Refute it at one input. -/
def legalRestsWrong : ChangeSpec := { name := "legalRests", fn := fun _ => fun
  | [d1, d2, d3, d4, d5] => { results := [.lit (.bool false)], args := [d1, d2, d3, d4, d5] }
  | _ => none }
def LegalRestsWrongFalsely : Prop := legalRestsRow.holds Tryz.pinned (OpenSpec.ofChange legalRestsWrong)

/-- 'pairinglaw15.MeasureCases': WHATEVER THE INPUT: true; the input reads as it did. -/
def measureCasesSpec : ChangeSpec := { name := "measureCases", fn := fun _ => fun
  | [d1, d2] => { results := [.lit (.bool true)], args := [d1, d2] }
  | _ => none }
def measureCasesRow : OpenClaim := { program := "ytllakjblamfjbaagreat", sum := "7721fdf4210161980a90fa454010b83dd75a76ec1965a2030d88c4151dec6042", func := "pairing/pairinglaw15.MeasureCases", spec := "measureCases", inPlace := ["internal/bytealg.IndexByteString", "internal/bytealg.IndexString"], recurses := true, named := ["internal/bytealg.MaxLen"], plainKeys := false, apart := false }
def MeasureCasesSaid : Prop := measureCasesRow.holds Tryz.pinned (OpenSpec.ofChange measureCasesSpec)

/-- ITS FALSE NEIGHBOUR: 'it returns false'. Refute it at one input. -/
def measureCasesWrong : ChangeSpec := { name := "measureCases", fn := fun _ => fun
  | [d1, d2] => { results := [.lit (.bool false)], args := [d1, d2] }
  | _ => none }
def MeasureCasesWrongFalsely : Prop := measureCasesRow.holds Tryz.pinned (OpenSpec.ofChange measureCasesWrong)

/-- 'pairinglaw15.MeasureSums': WHATEVER THE INPUT: true; the input reads as it did. -/
def measureSumsSpec : ChangeSpec := { name := "measureSums", fn := fun _ => fun
  | [d1, d2] => { results := [.lit (.bool true)], args := [d1, d2] }
  | _ => none }
def measureSumsRow : OpenClaim := { program := "ytllakjblamfjbaagreat", sum := "7721fdf4210161980a90fa454010b83dd75a76ec1965a2030d88c4151dec6042", func := "pairing/pairinglaw15.MeasureSums", spec := "measureSums", inPlace := ["internal/bytealg.IndexByteString", "internal/bytealg.IndexString"], recurses := true, named := ["internal/bytealg.MaxLen"], plainKeys := false, apart := false }
def MeasureSumsSaid : Prop := measureSumsRow.holds Tryz.pinned (OpenSpec.ofChange measureSumsSpec)

/-- ITS FALSE NEIGHBOUR: 'it returns false'. Refute it at one input. -/
def measureSumsWrong : ChangeSpec := { name := "measureSums", fn := fun _ => fun
  | [d1, d2] => { results := [.lit (.bool false)], args := [d1, d2] }
  | _ => none }
def MeasureSumsWrongFalsely : Prop := measureSumsRow.holds Tryz.pinned (OpenSpec.ofChange measureSumsWrong)

/-- 'pairinglaw16.LegalPairings': WHATEVER THE INPUT: true; the input reads as it did. -/
def legalPairingsSpec : ChangeSpec := { name := "legalPairings", fn := fun _ => fun
  | [d1, d2, d3] => { results := [.lit (.bool true)], args := [d1, d2, d3] }
  | _ => none }
def legalPairingsRow : OpenClaim := { program := "ytllakjblamfjbaagreat", sum := "7721fdf4210161980a90fa454010b83dd75a76ec1965a2030d88c4151dec6042", func := "pairing/pairinglaw16.LegalPairings", spec := "legalPairings", inPlace := ["internal/bytealg.IndexByteString", "internal/bytealg.IndexString"], recurses := true, named := ["internal/bytealg.MaxLen"], loops := true, plainKeys := false, apart := false }
def LegalPairingsSaid : Prop := legalPairingsRow.holds Tryz.pinned (OpenSpec.ofChange legalPairingsSpec)

/-- ITS FALSE NEIGHBOUR: 'it returns false'. Refute it at one input. -/
def legalPairingsWrong : ChangeSpec := { name := "legalPairings", fn := fun _ => fun
  | [d1, d2, d3] => { results := [.lit (.bool false)], args := [d1, d2, d3] }
  | _ => none }
def LegalPairingsWrongFalsely : Prop := legalPairingsRow.holds Tryz.pinned (OpenSpec.ofChange legalPairingsWrong)

/-- 'pairinglaw16.LegalFewer': WHATEVER THE INPUT: true; the input reads as it did. -/
def legalFewerSpec : ChangeSpec := { name := "legalFewer", fn := fun _ => fun
  | [d1, d2, d3] => { results := [.lit (.bool true)], args := [d1, d2, d3] }
  | _ => none }
def legalFewerRow : OpenClaim := { program := "ytllakjblamfjbaagreat", sum := "7721fdf4210161980a90fa454010b83dd75a76ec1965a2030d88c4151dec6042", func := "pairing/pairinglaw16.LegalFewer", spec := "legalFewer", inPlace := ["internal/bytealg.IndexByteString", "internal/bytealg.IndexString"], recurses := true, named := ["internal/bytealg.MaxLen"], plainKeys := false, apart := false }
def LegalFewerSaid : Prop := legalFewerRow.holds Tryz.pinned (OpenSpec.ofChange legalFewerSpec)

/-- ITS FALSE NEIGHBOUR: 'it returns false'. Refute it at one input. -/
def legalFewerWrong : ChangeSpec := { name := "legalFewer", fn := fun _ => fun
  | [d1, d2, d3] => { results := [.lit (.bool false)], args := [d1, d2, d3] }
  | _ => none }
def LegalFewerWrongFalsely : Prop := legalFewerRow.holds Tryz.pinned (OpenSpec.ofChange legalFewerWrong)

/-- 'pairinglaw16.LegalCases': WHATEVER THE INPUT: true; the input reads as it did. -/
def legalCasesSpec : ChangeSpec := { name := "legalCases", fn := fun _ => fun
  | [d1, d2] => { results := [.lit (.bool true)], args := [d1, d2] }
  | _ => none }
def legalCasesRow : OpenClaim := { program := "ytllakjblamfjbaagreat", sum := "7721fdf4210161980a90fa454010b83dd75a76ec1965a2030d88c4151dec6042", func := "pairing/pairinglaw16.LegalCases", spec := "legalCases", inPlace := ["internal/bytealg.IndexByteString", "internal/bytealg.IndexString"], recurses := true, named := ["internal/bytealg.MaxLen"], plainKeys := false, apart := false }
def LegalCasesSaid : Prop := legalCasesRow.holds Tryz.pinned (OpenSpec.ofChange legalCasesSpec)

/-- ITS FALSE NEIGHBOUR: 'it returns false'. Refute it at one input. -/
def legalCasesWrong : ChangeSpec := { name := "legalCases", fn := fun _ => fun
  | [d1, d2] => { results := [.lit (.bool false)], args := [d1, d2] }
  | _ => none }
def LegalCasesWrongFalsely : Prop := legalCasesRow.holds Tryz.pinned (OpenSpec.ofChange legalCasesWrong)

/-- 'pairinglaw16.LegalParts': WHATEVER THE INPUT: true; the input reads as it did. -/
def legalPartsSpec : ChangeSpec := { name := "legalParts", fn := fun _ => fun
  | [d1, d2] => { results := [.lit (.bool true)], args := [d1, d2] }
  | _ => none }
def legalPartsRow : OpenClaim := { program := "ytllakjblamfjbaagreat", sum := "7721fdf4210161980a90fa454010b83dd75a76ec1965a2030d88c4151dec6042", func := "pairing/pairinglaw16.LegalParts", spec := "legalParts", inPlace := ["internal/bytealg.IndexByteString", "internal/bytealg.IndexString"], recurses := true, named := ["internal/bytealg.MaxLen"], plainKeys := false, apart := false }
def LegalPartsSaid : Prop := legalPartsRow.holds Tryz.pinned (OpenSpec.ofChange legalPartsSpec)

/-- ITS FALSE NEIGHBOUR: 'it returns false'. Refute it at one input. -/
def legalPartsWrong : ChangeSpec := { name := "legalParts", fn := fun _ => fun
  | [d1, d2] => { results := [.lit (.bool false)], args := [d1, d2] }
  | _ => none }
def LegalPartsWrongFalsely : Prop := legalPartsRow.holds Tryz.pinned (OpenSpec.ofChange legalPartsWrong)

/- THE SECOND FORM. 'bulk': how many values and letters a reading holds, each counted each time it is reached (what is shared counts as often as it is met; a slice's spare places count too). A statement '..UptoSaid' is the law's where the arguments, and the package variables that the reading takes, are together of bulk at most 1048576: NARROWER than '..Said'. Prove '..Said' where nothing that the law and all that it calls make is longer than what came in: it says more and counts as full. Else prove '..UptoSaid'. A law counts once. -/
mutual
def uptoBulk {H : Type} : DataW H → Nat
  | .lit (.string bytes) => bytes.length + 1
  | .lit _ => 1
  | .nil => 1
  | .ptr d => uptoBulk d + 1
  | .slice elems spare => uptoBulkAll elems + uptoBulkAll spare + 1
  | .agg parts => uptoBulkAll parts + 1
  | .iface _ d => uptoBulk d + 1
  | .map entries => uptoBulkEntries entries + 1
  | .held _ => 1
def uptoBulkAll {H : Type} : List (DataW H) → Nat
  | [] => 0
  | d :: r => uptoBulk d + uptoBulkAll r
def uptoBulkEntries {H : Type} : List (Lit × DataW H) → Nat
  | [] => 0
  | x :: r => uptoBulkEntry x + uptoBulkEntries r
def uptoBulkEntry {H : Type} : Lit × DataW H → Nat
  | (.string bytes, d) => bytes.length + uptoBulk d + 1
  | (_, d) => uptoBulk d + 1
 end
def uptoSmall : (H : Type) → List (DataW H) → Bool := fun _ ds => decide (uptoBulkAll ds ≤ 1048576)
def OpenSpec.upto (s : _root_.Go.ChangeSpec) : _root_.Go.OpenSpec := { _root_.Go.OpenSpec.ofChange s with cond := some uptoSmall }

/-- 'pairinglaw15.MeasurePairings', WHERE WHAT IT READS IS OF BULK AT MOST 1048576: true; the input reads as it did. -/
def measurePairingsUptoRow : OpenClaim := { program := "ytllakjblamfjbaagreat", sum := "7721fdf4210161980a90fa454010b83dd75a76ec1965a2030d88c4151dec6042", func := "pairing/pairinglaw15.MeasurePairings", spec := "measurePairings", inPlace := ["internal/bytealg.IndexByteString", "internal/bytealg.IndexString"], recurses := true, named := ["internal/bytealg.MaxLen"], loops := true, plainKeys := false, apart := false, narrowed := true }
def MeasurePairingsUptoSaid : Prop := measurePairingsUptoRow.holds Tryz.pinned (OpenSpec.upto measurePairingsSpec)

/-- 'pairinglaw16.LegalRests', WHERE WHAT IT READS IS OF BULK AT MOST 1048576: true; the input reads as it did. -/
def legalRestsUptoRow : OpenClaim := { program := "ytllakjblamfjbaagreat", sum := "7721fdf4210161980a90fa454010b83dd75a76ec1965a2030d88c4151dec6042", func := "pairing/pairinglaw16.LegalRests", spec := "legalRests", inPlace := ["internal/bytealg.IndexByteString", "internal/bytealg.IndexString"], recurses := true, named := ["internal/bytealg.MaxLen"], loops := true, plainKeys := false, apart := false, narrowed := true }
def LegalRestsUptoSaid : Prop := legalRestsUptoRow.holds Tryz.pinned (OpenSpec.upto legalRestsSpec)

/-- 'pairinglaw15.MeasureCases', WHERE WHAT IT READS IS OF BULK AT MOST 1048576: true; the input reads as it did. -/
def measureCasesUptoRow : OpenClaim := { program := "ytllakjblamfjbaagreat", sum := "7721fdf4210161980a90fa454010b83dd75a76ec1965a2030d88c4151dec6042", func := "pairing/pairinglaw15.MeasureCases", spec := "measureCases", inPlace := ["internal/bytealg.IndexByteString", "internal/bytealg.IndexString"], recurses := true, named := ["internal/bytealg.MaxLen"], plainKeys := false, apart := false, narrowed := true }
def MeasureCasesUptoSaid : Prop := measureCasesUptoRow.holds Tryz.pinned (OpenSpec.upto measureCasesSpec)

/-- 'pairinglaw15.MeasureSums', WHERE WHAT IT READS IS OF BULK AT MOST 1048576: true; the input reads as it did. -/
def measureSumsUptoRow : OpenClaim := { program := "ytllakjblamfjbaagreat", sum := "7721fdf4210161980a90fa454010b83dd75a76ec1965a2030d88c4151dec6042", func := "pairing/pairinglaw15.MeasureSums", spec := "measureSums", inPlace := ["internal/bytealg.IndexByteString", "internal/bytealg.IndexString"], recurses := true, named := ["internal/bytealg.MaxLen"], plainKeys := false, apart := false, narrowed := true }
def MeasureSumsUptoSaid : Prop := measureSumsUptoRow.holds Tryz.pinned (OpenSpec.upto measureSumsSpec)

/-- 'pairinglaw16.LegalPairings', WHERE WHAT IT READS IS OF BULK AT MOST 1048576: true; the input reads as it did. -/
def legalPairingsUptoRow : OpenClaim := { program := "ytllakjblamfjbaagreat", sum := "7721fdf4210161980a90fa454010b83dd75a76ec1965a2030d88c4151dec6042", func := "pairing/pairinglaw16.LegalPairings", spec := "legalPairings", inPlace := ["internal/bytealg.IndexByteString", "internal/bytealg.IndexString"], recurses := true, named := ["internal/bytealg.MaxLen"], loops := true, plainKeys := false, apart := false, narrowed := true }
def LegalPairingsUptoSaid : Prop := legalPairingsUptoRow.holds Tryz.pinned (OpenSpec.upto legalPairingsSpec)

/-- 'pairinglaw16.LegalFewer', WHERE WHAT IT READS IS OF BULK AT MOST 1048576: true; the input reads as it did. -/
def legalFewerUptoRow : OpenClaim := { program := "ytllakjblamfjbaagreat", sum := "7721fdf4210161980a90fa454010b83dd75a76ec1965a2030d88c4151dec6042", func := "pairing/pairinglaw16.LegalFewer", spec := "legalFewer", inPlace := ["internal/bytealg.IndexByteString", "internal/bytealg.IndexString"], recurses := true, named := ["internal/bytealg.MaxLen"], plainKeys := false, apart := false, narrowed := true }
def LegalFewerUptoSaid : Prop := legalFewerUptoRow.holds Tryz.pinned (OpenSpec.upto legalFewerSpec)

/-- 'pairinglaw16.LegalCases', WHERE WHAT IT READS IS OF BULK AT MOST 1048576: true; the input reads as it did. -/
def legalCasesUptoRow : OpenClaim := { program := "ytllakjblamfjbaagreat", sum := "7721fdf4210161980a90fa454010b83dd75a76ec1965a2030d88c4151dec6042", func := "pairing/pairinglaw16.LegalCases", spec := "legalCases", inPlace := ["internal/bytealg.IndexByteString", "internal/bytealg.IndexString"], recurses := true, named := ["internal/bytealg.MaxLen"], plainKeys := false, apart := false, narrowed := true }
def LegalCasesUptoSaid : Prop := legalCasesUptoRow.holds Tryz.pinned (OpenSpec.upto legalCasesSpec)

/-- 'pairinglaw16.LegalParts', WHERE WHAT IT READS IS OF BULK AT MOST 1048576: true; the input reads as it did. -/
def legalPartsUptoRow : OpenClaim := { program := "ytllakjblamfjbaagreat", sum := "7721fdf4210161980a90fa454010b83dd75a76ec1965a2030d88c4151dec6042", func := "pairing/pairinglaw16.LegalParts", spec := "legalParts", inPlace := ["internal/bytealg.IndexByteString", "internal/bytealg.IndexString"], recurses := true, named := ["internal/bytealg.MaxLen"], plainKeys := false, apart := false, narrowed := true }
def LegalPartsUptoSaid : Prop := legalPartsUptoRow.holds Tryz.pinned (OpenSpec.upto legalPartsSpec)

end Rows
end Go.Proofs.YtllakjblamfjbaaGreat
