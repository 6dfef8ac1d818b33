/-
  NARROWER THAN 'FOR EVERY INPUT', by the rows' own cells (each row's printed sentence says how): MeasurePairings: loops · LegalRests: loops · LegalPairings: loops.
  DERIVED. THE GIVEN ROWS OF THIS SEAT. 3 by the template 'for every input the law returns true; each argument reads behind the call as it read before'; 0 by the template 'total and deterministic' (their statements: YtbhhejkolnigfaaGreatTotals.lean).
  GIVEN WITH THE SEED: the statements are not yours to turn. If you find one false, say at which input.
  Laid BY PROGRAM, IN A SANDBOX (cutbox-rows.mjs): the forced cells as the released guide's own fill.sh prints them over the translation 5777d3481c995b30… (all of the seat's roots in one cut). By AI agents, Wed Nov 11 2026. No macro, syntax, notation, axiom, sorry.
-/
import Derived.Test.YtbhhejkolnigfaaGreatChecked
import GoSem.Claim
import GoSem.ClaimJoined
import GoSem.ClaimMapViews
import Derived.JoinedTies
import Derived.KernelRfl
namespace Go.Proofs.YtbhhejkolnigfaaGreat
/- THE CELL 'sum', in the pinned program and in every row, IS THE sha256 OF THE DUMP (.gsa) THAT YtbhhejkolnigfaaGreatProg.lean LOADS. Nothing in Lean hashes anything: it is a label: what it is worth is what the hold of that sum in a sandbox is worth. -/
noncomputable def Tryz.pinned : Pinned := { name := "ytbhhejkolnigfaagreat", sum := "5777d3481c995b302fe1e47e34e70e7b50cdf39603c5ea8e6bd1b9c63d6ec3a5", checked := Tryz.checked }
namespace Rows
def none {H : Type} : Left H := { results := [], args := [] }

/-- 'pairinglaw15.MeasurePairings': WHATEVER THE INPUT: true; the input reads as it did. -/
def measurePairingsSpec : ChangeSpec := { name := "measurePairings", fn := fun _ => fun
  | [d1, d2, d3] => { results := [.lit (.bool true)], args := [d1, d2, d3] }
  | _ => none }
def measurePairingsRow : OpenClaim := { program := "ytbhhejkolnigfaagreat", sum := "5777d3481c995b302fe1e47e34e70e7b50cdf39603c5ea8e6bd1b9c63d6ec3a5", func := "pairing/pairinglaw15.MeasurePairings", spec := "measurePairings", inPlace := ["internal/bytealg.IndexByteString", "internal/bytealg.IndexString"], recurses := true, named := ["internal/bytealg.MaxLen"], loops := true, plainKeys := false, apart := false }
def MeasurePairingsSaid : Prop := measurePairingsRow.holds Tryz.pinned (OpenSpec.ofChange measurePairingsSpec)

/-- ITS FALSE NEIGHBOUR: 'it returns false'. Refute it at one input. -/
def measurePairingsWrong : ChangeSpec := { name := "measurePairings", fn := fun _ => fun
  | [d1, d2, d3] => { results := [.lit (.bool false)], args := [d1, d2, d3] }
  | _ => none }
def MeasurePairingsWrongFalsely : Prop := measurePairingsRow.holds Tryz.pinned (OpenSpec.ofChange measurePairingsWrong)

/-- 'pairinglaw16.LegalRests': WHATEVER THE INPUT: true; the input reads as it did. -/
def legalRestsSpec : ChangeSpec := { name := "legalRests", fn := fun _ => fun
  | [d1, d2, d3, d4, d5] => { results := [.lit (.bool true)], args := [d1, d2, d3, d4, d5] }
  | _ => none }
def legalRestsRow : OpenClaim := { program := "ytbhhejkolnigfaagreat", sum := "5777d3481c995b302fe1e47e34e70e7b50cdf39603c5ea8e6bd1b9c63d6ec3a5", func := "pairing/pairinglaw16.LegalRests", spec := "legalRests", inPlace := ["internal/bytealg.IndexByteString", "internal/bytealg.IndexString"], recurses := true, named := ["internal/bytealg.MaxLen"], loops := true, plainKeys := false, apart := false }
def LegalRestsSaid : Prop := legalRestsRow.holds Tryz.pinned (OpenSpec.ofChange legalRestsSpec)

/-- ITS FALSE NEIGHBOUR: 'it returns false'. Refute it at one input. -/
def legalRestsWrong : ChangeSpec := { name := "legalRests", fn := fun _ => fun
  | [d1, d2, d3, d4, d5] => { results := [.lit (.bool false)], args := [d1, d2, d3, d4, d5] }
  | _ => none }
def LegalRestsWrongFalsely : Prop := legalRestsRow.holds Tryz.pinned (OpenSpec.ofChange legalRestsWrong)

/-- 'pairinglaw16.LegalPairings': WHATEVER THE INPUT: true; the input reads as it did. -/
def legalPairingsSpec : ChangeSpec := { name := "legalPairings", fn := fun _ => fun
  | [d1, d2, d3] => { results := [.lit (.bool true)], args := [d1, d2, d3] }
  | _ => none }
def legalPairingsRow : OpenClaim := { program := "ytbhhejkolnigfaagreat", sum := "5777d3481c995b302fe1e47e34e70e7b50cdf39603c5ea8e6bd1b9c63d6ec3a5", func := "pairing/pairinglaw16.LegalPairings", spec := "legalPairings", inPlace := ["internal/bytealg.IndexByteString", "internal/bytealg.IndexString"], recurses := true, named := ["internal/bytealg.MaxLen"], loops := true, plainKeys := false, apart := false }
def LegalPairingsSaid : Prop := legalPairingsRow.holds Tryz.pinned (OpenSpec.ofChange legalPairingsSpec)

/-- ITS FALSE NEIGHBOUR: 'it returns false'. Refute it at one input. -/
def legalPairingsWrong : ChangeSpec := { name := "legalPairings", fn := fun _ => fun
  | [d1, d2, d3] => { results := [.lit (.bool false)], args := [d1, d2, d3] }
  | _ => none }
def LegalPairingsWrongFalsely : Prop := legalPairingsRow.holds Tryz.pinned (OpenSpec.ofChange legalPairingsWrong)

/- THE SECOND FORM. 'bulk': how many values and letters a reading holds, each counted each time it is reached (what is shared counts as often as it is met; a slice's spare places count too). A statement '..UptoSaid' is the law's where the arguments, and the package variables that the reading takes, are together of bulk at most 1048576: NARROWER than '..Said'. Prove '..Said' where nothing that the law and all that it calls make is longer than what came in: it says more and counts as full. Else prove '..UptoSaid'. A law counts once. -/
mutual
def uptoBulk {H : Type} : DataW H → Nat
  | .lit (.string bytes) => bytes.length + 1
  | .lit _ => 1
  | .nil => 1
  | .ptr d => uptoBulk d + 1
  | .slice elems spare => uptoBulkAll elems + uptoBulkAll spare + 1
  | .agg parts => uptoBulkAll parts + 1
  | .iface _ d => uptoBulk d + 1
  | .map entries => uptoBulkEntries entries + 1
  | .held _ => 1
def uptoBulkAll {H : Type} : List (DataW H) → Nat
  | [] => 0
  | d :: r => uptoBulk d + uptoBulkAll r
def uptoBulkEntries {H : Type} : List (Lit × DataW H) → Nat
  | [] => 0
  | x :: r => uptoBulkEntry x + uptoBulkEntries r
def uptoBulkEntry {H : Type} : Lit × DataW H → Nat
  | (.string bytes, d) => bytes.length + uptoBulk d + 1
  | (_, d) => uptoBulk d + 1
 end
def uptoSmall : (H : Type) → List (DataW H) → Bool := fun _ ds => decide (uptoBulkAll ds ≤ 1048576)
def OpenSpec.upto (s : _root_.Go.ChangeSpec) : _root_.Go.OpenSpec := { _root_.Go.OpenSpec.ofChange s with cond := some uptoSmall }

/-- 'pairinglaw15.MeasurePairings', WHERE WHAT IT READS IS OF BULK AT MOST 1048576: true; the input reads as it did. -/
def measurePairingsUptoRow : OpenClaim := { program := "ytbhhejkolnigfaagreat", sum := "5777d3481c995b302fe1e47e34e70e7b50cdf39603c5ea8e6bd1b9c63d6ec3a5", func := "pairing/pairinglaw15.MeasurePairings", spec := "measurePairings", inPlace := ["internal/bytealg.IndexByteString", "internal/bytealg.IndexString"], recurses := true, named := ["internal/bytealg.MaxLen"], loops := true, plainKeys := false, apart := false, narrowed := true }
def MeasurePairingsUptoSaid : Prop := measurePairingsUptoRow.holds Tryz.pinned (OpenSpec.upto measurePairingsSpec)

/-- 'pairinglaw16.LegalRests', WHERE WHAT IT READS IS OF BULK AT MOST 1048576: true; the input reads as it did. -/
def legalRestsUptoRow : OpenClaim := { program := "ytbhhejkolnigfaagreat", sum := "5777d3481c995b302fe1e47e34e70e7b50cdf39603c5ea8e6bd1b9c63d6ec3a5", func := "pairing/pairinglaw16.LegalRests", spec := "legalRests", inPlace := ["internal/bytealg.IndexByteString", "internal/bytealg.IndexString"], recurses := true, named := ["internal/bytealg.MaxLen"], loops := true, plainKeys := false, apart := false, narrowed := true }
def LegalRestsUptoSaid : Prop := legalRestsUptoRow.holds Tryz.pinned (OpenSpec.upto legalRestsSpec)

/-- 'pairinglaw16.LegalPairings', WHERE WHAT IT READS IS OF BULK AT MOST 1048576: true; the input reads as it did. -/
def legalPairingsUptoRow : OpenClaim := { program := "ytbhhejkolnigfaagreat", sum := "5777d3481c995b302fe1e47e34e70e7b50cdf39603c5ea8e6bd1b9c63d6ec3a5", func := "pairing/pairinglaw16.LegalPairings", spec := "legalPairings", inPlace := ["internal/bytealg.IndexByteString", "internal/bytealg.IndexString"], recurses := true, named := ["internal/bytealg.MaxLen"], loops := true, plainKeys := false, apart := false, narrowed := true }
def LegalPairingsUptoSaid : Prop := legalPairingsUptoRow.holds Tryz.pinned (OpenSpec.upto legalPairingsSpec)

end Rows
end Go.Proofs.YtbhhejkolnigfaaGreat
