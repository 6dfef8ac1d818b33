/-
  No cell of these rows narrows 'for every input' (looked for: loops, veiled, ifaces, maps, wideKeys, modest, calm, conditions, laid).
  DERIVED. THE GIVEN ROWS OF THIS SEAT. 4 by the template 'for every input the law returns true; each argument reads behind the call as it read before'; 0 by the template 'total and deterministic' (their statements: YtafdcbmgdfliiaaGreatTotals.lean).
  GIVEN WITH THE SEED: the statements are not yours to turn. If you find one false, say at which input.
  Laid BY PROGRAM, IN A SANDBOX (cutbox-rows.mjs): the forced cells as the released guide's own fill.sh prints them over the translation ff83459d7db5cd96… (all of the seat's roots in one cut). By AI agents, Wed Nov 11 2026. No macro, syntax, notation, axiom, sorry.
-/
import Derived.Test.YtafdcbmgdfliiaaGreatChecked
import GoSem.Claim
import GoSem.ClaimJoined
import GoSem.ClaimMapViews
import Derived.JoinedTies
import Derived.KernelRfl
namespace Go.Proofs.YtafdcbmgdfliiaaGreat
/- THE CELL 'sum', in the pinned program and in every row, IS THE sha256 OF THE DUMP (.gsa) THAT YtafdcbmgdfliiaaGreatProg.lean LOADS. Nothing in Lean hashes anything: it is a label: what it is worth is what the hold of that sum in a sandbox is worth. -/
noncomputable def Tryz.pinned : Pinned := { name := "ytafdcbmgdfliiaagreat", sum := "ff83459d7db5cd96cf09638dd8dcdee5ddd90ba9b55ed2442f0ba6c76055f523", checked := Tryz.checked }
namespace Rows
def none {H : Type} : Left H := { results := [], args := [] }

/-- 'pairinglaw15.MeasureSums': WHATEVER THE INPUT: true; the input reads as it did. -/
def measureSumsSpec : ChangeSpec := { name := "measureSums", fn := fun _ => fun
  | [d1, d2] => { results := [.lit (.bool true)], args := [d1, d2] }
  | _ => none }
def measureSumsRow : OpenClaim := { program := "ytafdcbmgdfliiaagreat", sum := "ff83459d7db5cd96cf09638dd8dcdee5ddd90ba9b55ed2442f0ba6c76055f523", func := "pairing/pairinglaw15.MeasureSums", spec := "measureSums", inPlace := ["internal/bytealg.IndexByteString", "internal/bytealg.IndexString"], recurses := true, named := ["internal/bytealg.MaxLen"], plainKeys := false, apart := false }
def MeasureSumsSaid : Prop := measureSumsRow.holds Tryz.pinned (OpenSpec.ofChange measureSumsSpec)

/-- ITS FALSE NEIGHBOUR: 'it returns false'. Refute it at one input. -/
def measureSumsWrong : ChangeSpec := { name := "measureSums", fn := fun _ => fun
  | [d1, d2] => { results := [.lit (.bool false)], args := [d1, d2] }
  | _ => none }
def MeasureSumsWrongFalsely : Prop := measureSumsRow.holds Tryz.pinned (OpenSpec.ofChange measureSumsWrong)

/-- 'pairinglaw16.LegalFewer': WHATEVER THE INPUT: true; the input reads as it did. -/
def legalFewerSpec : ChangeSpec := { name := "legalFewer", fn := fun _ => fun
  | [d1, d2, d3] => { results := [.lit (.bool true)], args := [d1, d2, d3] }
  | _ => none }
def legalFewerRow : OpenClaim := { program := "ytafdcbmgdfliiaagreat", sum := "ff83459d7db5cd96cf09638dd8dcdee5ddd90ba9b55ed2442f0ba6c76055f523", func := "pairing/pairinglaw16.LegalFewer", spec := "legalFewer", inPlace := ["internal/bytealg.IndexByteString", "internal/bytealg.IndexString"], recurses := true, named := ["internal/bytealg.MaxLen"], plainKeys := false, apart := false }
def LegalFewerSaid : Prop := legalFewerRow.holds Tryz.pinned (OpenSpec.ofChange legalFewerSpec)

/-- ITS FALSE NEIGHBOUR: 'it returns false'. Refute it at one input. -/
def legalFewerWrong : ChangeSpec := { name := "legalFewer", fn := fun _ => fun
  | [d1, d2, d3] => { results := [.lit (.bool false)], args := [d1, d2, d3] }
  | _ => none }
def LegalFewerWrongFalsely : Prop := legalFewerRow.holds Tryz.pinned (OpenSpec.ofChange legalFewerWrong)

/-- 'pairinglaw16.LegalParts': WHATEVER THE INPUT: true; the input reads as it did. -/
def legalPartsSpec : ChangeSpec := { name := "legalParts", fn := fun _ => fun
  | [d1, d2] => { results := [.lit (.bool true)], args := [d1, d2] }
  | _ => none }
def legalPartsRow : OpenClaim := { program := "ytafdcbmgdfliiaagreat", sum := "ff83459d7db5cd96cf09638dd8dcdee5ddd90ba9b55ed2442f0ba6c76055f523", func := "pairing/pairinglaw16.LegalParts", spec := "legalParts", inPlace := ["internal/bytealg.IndexByteString", "internal/bytealg.IndexString"], recurses := true, named := ["internal/bytealg.MaxLen"], plainKeys := false, apart := false }
def LegalPartsSaid : Prop := legalPartsRow.holds Tryz.pinned (OpenSpec.ofChange legalPartsSpec)

/-- ITS FALSE NEIGHBOUR: 'it returns false'. Refute it at one input. -/
def legalPartsWrong : ChangeSpec := { name := "legalParts", fn := fun _ => fun
  | [d1, d2] => { results := [.lit (.bool false)], args := [d1, d2] }
  | _ => none }
def LegalPartsWrongFalsely : Prop := legalPartsRow.holds Tryz.pinned (OpenSpec.ofChange legalPartsWrong)

/-- 'pairinglaw21.NetworkLinks': WHATEVER THE INPUT: true; the input reads as it did. -/
def networkLinksSpec : ChangeSpec := { name := "networkLinks", fn := fun _ => fun
  | [d1, d2] => { results := [.lit (.bool true)], args := [d1, d2] }
  | _ => none }
def networkLinksRow : OpenClaim := { program := "ytafdcbmgdfliiaagreat", sum := "ff83459d7db5cd96cf09638dd8dcdee5ddd90ba9b55ed2442f0ba6c76055f523", func := "pairing/pairinglaw21.NetworkLinks", spec := "networkLinks", inPlace := ["internal/bytealg.IndexByteString", "internal/bytealg.IndexString"], unfollowed := true, recurses := true, named := ["internal/bytealg.MaxLen"], plainKeys := false, apart := false }
def NetworkLinksSaid : Prop := networkLinksRow.holds Tryz.pinned (OpenSpec.ofChange networkLinksSpec)

/-- ITS FALSE NEIGHBOUR: 'it returns false'. Refute it at one input. -/
def networkLinksWrong : ChangeSpec := { name := "networkLinks", fn := fun _ => fun
  | [d1, d2] => { results := [.lit (.bool false)], args := [d1, d2] }
  | _ => none }
def NetworkLinksWrongFalsely : Prop := networkLinksRow.holds Tryz.pinned (OpenSpec.ofChange networkLinksWrong)

/- THE SECOND FORM. 'bulk': how many values and letters a reading holds, each counted each time it is reached (what is shared counts as often as it is met; a slice's spare places count too). A statement '..UptoSaid' is the law's where the arguments, and the package variables that the reading takes, are together of bulk at most 1048576: NARROWER than '..Said'. Prove '..Said' where nothing that the law and all that it calls make is longer than what came in: it says more and counts as full. Else prove '..UptoSaid'. A law counts once. -/
mutual
def uptoBulk {H : Type} : DataW H → Nat
  | .lit (.string bytes) => bytes.length + 1
  | .lit _ => 1
  | .nil => 1
  | .ptr d => uptoBulk d + 1
  | .slice elems spare => uptoBulkAll elems + uptoBulkAll spare + 1
  | .agg parts => uptoBulkAll parts + 1
  | .iface _ d => uptoBulk d + 1
  | .map entries => uptoBulkEntries entries + 1
  | .held _ => 1
def uptoBulkAll {H : Type} : List (DataW H) → Nat
  | [] => 0
  | d :: r => uptoBulk d + uptoBulkAll r
def uptoBulkEntries {H : Type} : List (Lit × DataW H) → Nat
  | [] => 0
  | x :: r => uptoBulkEntry x + uptoBulkEntries r
def uptoBulkEntry {H : Type} : Lit × DataW H → Nat
  | (.string bytes, d) => bytes.length + uptoBulk d + 1
  | (_, d) => uptoBulk d + 1
 end
def uptoSmall : (H : Type) → List (DataW H) → Bool := fun _ ds => decide (uptoBulkAll ds ≤ 1048576)
def OpenSpec.upto (s : _root_.Go.ChangeSpec) : _root_.Go.OpenSpec := { _root_.Go.OpenSpec.ofChange s with cond := some uptoSmall }

/-- 'pairinglaw15.MeasureSums', WHERE WHAT IT READS IS OF BULK AT MOST 1048576: true; the input reads as it did. -/
def measureSumsUptoRow : OpenClaim := { program := "ytafdcbmgdfliiaagreat", sum := "ff83459d7db5cd96cf09638dd8dcdee5ddd90ba9b55ed2442f0ba6c76055f523", func := "pairing/pairinglaw15.MeasureSums", spec := "measureSums", inPlace := ["internal/bytealg.IndexByteString", "internal/bytealg.IndexString"], recurses := true, named := ["internal/bytealg.MaxLen"], plainKeys := false, apart := false, narrowed := true }
def MeasureSumsUptoSaid : Prop := measureSumsUptoRow.holds Tryz.pinned (OpenSpec.upto measureSumsSpec)

/-- 'pairinglaw16.LegalFewer', WHERE WHAT IT READS IS OF BULK AT MOST 1048576: true; the input reads as it did. -/
def legalFewerUptoRow : OpenClaim := { program := "ytafdcbmgdfliiaagreat", sum := "ff83459d7db5cd96cf09638dd8dcdee5ddd90ba9b55ed2442f0ba6c76055f523", func := "pairing/pairinglaw16.LegalFewer", spec := "legalFewer", inPlace := ["internal/bytealg.IndexByteString", "internal/bytealg.IndexString"], recurses := true, named := ["internal/bytealg.MaxLen"], plainKeys := false, apart := false, narrowed := true }
def LegalFewerUptoSaid : Prop := legalFewerUptoRow.holds Tryz.pinned (OpenSpec.upto legalFewerSpec)

/-- 'pairinglaw16.LegalParts', WHERE WHAT IT READS IS OF BULK AT MOST 1048576: true; the input reads as it did. -/
def legalPartsUptoRow : OpenClaim := { program := "ytafdcbmgdfliiaagreat", sum := "ff83459d7db5cd96cf09638dd8dcdee5ddd90ba9b55ed2442f0ba6c76055f523", func := "pairing/pairinglaw16.LegalParts", spec := "legalParts", inPlace := ["internal/bytealg.IndexByteString", "internal/bytealg.IndexString"], recurses := true, named := ["internal/bytealg.MaxLen"], plainKeys := false, apart := false, narrowed := true }
def LegalPartsUptoSaid : Prop := legalPartsUptoRow.holds Tryz.pinned (OpenSpec.upto legalPartsSpec)

/-- 'pairinglaw21.NetworkLinks', WHERE WHAT IT READS IS OF BULK AT MOST 1048576: true; the input reads as it did. -/
def networkLinksUptoRow : OpenClaim := { program := "ytafdcbmgdfliiaagreat", sum := "ff83459d7db5cd96cf09638dd8dcdee5ddd90ba9b55ed2442f0ba6c76055f523", func := "pairing/pairinglaw21.NetworkLinks", spec := "networkLinks", inPlace := ["internal/bytealg.IndexByteString", "internal/bytealg.IndexString"], unfollowed := true, recurses := true, named := ["internal/bytealg.MaxLen"], plainKeys := false, apart := false, narrowed := true }
def NetworkLinksUptoSaid : Prop := networkLinksUptoRow.holds Tryz.pinned (OpenSpec.upto networkLinksSpec)

end Rows
end Go.Proofs.YtafdcbmgdfliiaaGreat
