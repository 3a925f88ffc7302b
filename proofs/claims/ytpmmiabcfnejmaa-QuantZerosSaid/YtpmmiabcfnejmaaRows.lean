/-
  No cell of these rows narrows 'for every input' (looked for: loops, veiled, ifaces, maps, wideKeys, modest, calm, conditions, laid).
  DERIVED. THE GIVEN ROWS OF THIS SEAT. 5 by the template 'for every input the law returns true; each argument reads behind the call as it read before'; 0 by the template 'total and deterministic' (their statements: YtpmmiabcfnejmaaTotals.lean).
  GIVEN WITH THE SEED: the statements are not yours to turn. If you find one false, say at which input.
  Laid BY PROGRAM, IN A SANDBOX (cutbox-rows.mjs): the forced cells as the released guide's own fill.sh prints them over the translation 34dad559941a18f8… (all of the seat's roots in one cut). By AI agents, Wed Nov 11 2026. No macro, syntax, notation, axiom, sorry.
-/
import Derived.Test.YtpmmiabcfnejmaaChecked
import GoSem.Claim
import GoSem.ClaimJoined
import GoSem.ClaimMapViews
import Derived.JoinedTies
import Derived.KernelRfl
namespace Go.Proofs.Ytpmmiabcfnejmaa
/- THE CELL 'sum', in the pinned program and in every row, IS THE sha256 OF THE DUMP (.gsa) THAT YtpmmiabcfnejmaaProg.lean LOADS. Nothing in Lean hashes anything: it is a label: what it is worth is what the hold of that sum in a sandbox is worth. -/
noncomputable def Try.pinned : Pinned := { name := "ytpmmiabcfnejmaa", sum := "34dad559941a18f8ef5de8c6a3f7c286585a1cf3c26921bb568d6a5ec85b0b2f", checked := Try.checked }
namespace Rows
def none {H : Type} : Left H := { results := [], args := [] }

/-- 'triremelaw03.QuantParses': WHATEVER THE INPUT: true; the input reads as it did. -/
def quantParsesSpec : ChangeSpec := { name := "quantParses", fn := fun _ => fun
  | [d] => { results := [.lit (.bool true)], args := [d] }
  | _ => none }
def quantParsesRow : OpenClaim := { program := "ytpmmiabcfnejmaa", sum := "34dad559941a18f8ef5de8c6a3f7c286585a1cf3c26921bb568d6a5ec85b0b2f", func := "trireme/triremelaw03.QuantParses", spec := "quantParses", unfollowed := true, recurses := true, named := ["math/bits.divideError", "math/bits.overflowError"], apart := false }
def QuantParsesSaid : Prop := quantParsesRow.holds Try.pinned (OpenSpec.ofChange quantParsesSpec)

/-- ITS FALSE NEIGHBOUR: 'it returns false'. Refute it at one input. -/
def quantParsesWrong : ChangeSpec := { name := "quantParses", fn := fun _ => fun
  | [d] => { results := [.lit (.bool false)], args := [d] }
  | _ => none }
def QuantParsesWrongFalsely : Prop := quantParsesRow.holds Try.pinned (OpenSpec.ofChange quantParsesWrong)

/-- 'triremelaw03.QuantShows': WHATEVER THE INPUT: true; the input reads as it did. -/
def quantShowsSpec : ChangeSpec := { name := "quantShows", fn := fun _ => fun
  | [d] => { results := [.lit (.bool true)], args := [d] }
  | _ => none }
def quantShowsRow : OpenClaim := { program := "ytpmmiabcfnejmaa", sum := "34dad559941a18f8ef5de8c6a3f7c286585a1cf3c26921bb568d6a5ec85b0b2f", func := "trireme/triremelaw03.QuantShows", spec := "quantShows", unfollowed := true, recurses := true, named := ["math/bits.divideError", "math/bits.overflowError"], apart := false }
def QuantShowsSaid : Prop := quantShowsRow.holds Try.pinned (OpenSpec.ofChange quantShowsSpec)

/-- ITS FALSE NEIGHBOUR: 'it returns false'. Refute it at one input. -/
def quantShowsWrong : ChangeSpec := { name := "quantShows", fn := fun _ => fun
  | [d] => { results := [.lit (.bool false)], args := [d] }
  | _ => none }
def QuantShowsWrongFalsely : Prop := quantShowsRow.holds Try.pinned (OpenSpec.ofChange quantShowsWrong)

/-- 'triremelaw03.QuantBack': WHATEVER THE INPUT: true; the input reads as it did. -/
def quantBackSpec : ChangeSpec := { name := "quantBack", fn := fun _ => fun
  | [d] => { results := [.lit (.bool true)], args := [d] }
  | _ => none }
def quantBackRow : OpenClaim := { program := "ytpmmiabcfnejmaa", sum := "34dad559941a18f8ef5de8c6a3f7c286585a1cf3c26921bb568d6a5ec85b0b2f", func := "trireme/triremelaw03.QuantBack", spec := "quantBack", unfollowed := true, recurses := true, named := ["math/bits.divideError", "math/bits.overflowError"], apart := false }
def QuantBackSaid : Prop := quantBackRow.holds Try.pinned (OpenSpec.ofChange quantBackSpec)

/-- ITS FALSE NEIGHBOUR: 'it returns false'. Refute it at one input. -/
def quantBackWrong : ChangeSpec := { name := "quantBack", fn := fun _ => fun
  | [d] => { results := [.lit (.bool false)], args := [d] }
  | _ => none }
def QuantBackWrongFalsely : Prop := quantBackRow.holds Try.pinned (OpenSpec.ofChange quantBackWrong)

/-- 'triremelaw03.QuantUnits': WHATEVER THE INPUT: true; the input reads as it did. -/
def quantUnitsSpec : ChangeSpec := { name := "quantUnits", fn := fun _ => fun
  | [d1, d2, d3] => { results := [.lit (.bool true)], args := [d1, d2, d3] }
  | _ => none }
def quantUnitsRow : OpenClaim := { program := "ytpmmiabcfnejmaa", sum := "34dad559941a18f8ef5de8c6a3f7c286585a1cf3c26921bb568d6a5ec85b0b2f", func := "trireme/triremelaw03.QuantUnits", spec := "quantUnits", unfollowed := true, recurses := true, named := ["math/bits.divideError", "math/bits.overflowError"], apart := false }
def QuantUnitsSaid : Prop := quantUnitsRow.holds Try.pinned (OpenSpec.ofChange quantUnitsSpec)

/-- ITS FALSE NEIGHBOUR: 'it returns false'. Refute it at one input. -/
def quantUnitsWrong : ChangeSpec := { name := "quantUnits", fn := fun _ => fun
  | [d1, d2, d3] => { results := [.lit (.bool false)], args := [d1, d2, d3] }
  | _ => none }
def QuantUnitsWrongFalsely : Prop := quantUnitsRow.holds Try.pinned (OpenSpec.ofChange quantUnitsWrong)

/-- 'triremelaw03.QuantZeros': WHATEVER THE INPUT: true; the input reads as it did. -/
def quantZerosSpec : ChangeSpec := { name := "quantZeros", fn := fun _ => fun
  | [d] => { results := [.lit (.bool true)], args := [d] }
  | _ => none }
def quantZerosRow : OpenClaim := { program := "ytpmmiabcfnejmaa", sum := "34dad559941a18f8ef5de8c6a3f7c286585a1cf3c26921bb568d6a5ec85b0b2f", func := "trireme/triremelaw03.QuantZeros", spec := "quantZeros", unfollowed := true, recurses := true, named := ["math/bits.divideError", "math/bits.overflowError"], apart := false }
def QuantZerosSaid : Prop := quantZerosRow.holds Try.pinned (OpenSpec.ofChange quantZerosSpec)

/-- ITS FALSE NEIGHBOUR: 'it returns false'. Refute it at one input. -/
def quantZerosWrong : ChangeSpec := { name := "quantZeros", fn := fun _ => fun
  | [d] => { results := [.lit (.bool false)], args := [d] }
  | _ => none }
def QuantZerosWrongFalsely : Prop := quantZerosRow.holds Try.pinned (OpenSpec.ofChange quantZerosWrong)

/- THE SECOND FORM. 'bulk': how many values and letters a reading holds, each counted each time it is reached (what is shared counts as often as it is met; a slice's spare places count too). A statement '..UptoSaid' is the law's where the arguments, and the package variables that the reading takes, are together of bulk at most 1048576: NARROWER than '..Said'. Prove '..Said' where nothing that the law and all that it calls make is longer than what came in: it says more and counts as full. Else prove '..UptoSaid'. A law counts once. -/
mutual
def uptoBulk {H : Type} : DataW H → Nat
  | .lit (.string bytes) => bytes.length + 1
  | .lit _ => 1
  | .nil => 1
  | .ptr d => uptoBulk d + 1
  | .slice elems spare => uptoBulkAll elems + uptoBulkAll spare + 1
  | .agg parts => uptoBulkAll parts + 1
  | .iface _ d => uptoBulk d + 1
  | .map entries => uptoBulkEntries entries + 1
  | .held _ => 1
def uptoBulkAll {H : Type} : List (DataW H) → Nat
  | [] => 0
  | d :: r => uptoBulk d + uptoBulkAll r
def uptoBulkEntries {H : Type} : List (Lit × DataW H) → Nat
  | [] => 0
  | x :: r => uptoBulkEntry x + uptoBulkEntries r
def uptoBulkEntry {H : Type} : Lit × DataW H → Nat
  | (.string bytes, d) => bytes.length + uptoBulk d + 1
  | (_, d) => uptoBulk d + 1
 end
def uptoSmall : (H : Type) → List (DataW H) → Bool := fun _ ds => decide (uptoBulkAll ds ≤ 1048576)
def OpenSpec.upto (s : _root_.Go.ChangeSpec) : _root_.Go.OpenSpec := { _root_.Go.OpenSpec.ofChange s with cond := some uptoSmall }

/-- 'triremelaw03.QuantParses', WHERE WHAT IT READS IS OF BULK AT MOST 1048576: true; the input reads as it did. -/
def quantParsesUptoRow : OpenClaim := { program := "ytpmmiabcfnejmaa", sum := "34dad559941a18f8ef5de8c6a3f7c286585a1cf3c26921bb568d6a5ec85b0b2f", func := "trireme/triremelaw03.QuantParses", spec := "quantParses", unfollowed := true, recurses := true, named := ["math/bits.divideError", "math/bits.overflowError"], apart := false, narrowed := true }
def QuantParsesUptoSaid : Prop := quantParsesUptoRow.holds Try.pinned (OpenSpec.upto quantParsesSpec)

/-- 'triremelaw03.QuantShows', WHERE WHAT IT READS IS OF BULK AT MOST 1048576: true; the input reads as it did. -/
def quantShowsUptoRow : OpenClaim := { program := "ytpmmiabcfnejmaa", sum := "34dad559941a18f8ef5de8c6a3f7c286585a1cf3c26921bb568d6a5ec85b0b2f", func := "trireme/triremelaw03.QuantShows", spec := "quantShows", unfollowed := true, recurses := true, named := ["math/bits.divideError", "math/bits.overflowError"], apart := false, narrowed := true }
def QuantShowsUptoSaid : Prop := quantShowsUptoRow.holds Try.pinned (OpenSpec.upto quantShowsSpec)

/-- 'triremelaw03.QuantBack', WHERE WHAT IT READS IS OF BULK AT MOST 1048576: true; the input reads as it did. -/
def quantBackUptoRow : OpenClaim := { program := "ytpmmiabcfnejmaa", sum := "34dad559941a18f8ef5de8c6a3f7c286585a1cf3c26921bb568d6a5ec85b0b2f", func := "trireme/triremelaw03.QuantBack", spec := "quantBack", unfollowed := true, recurses := true, named := ["math/bits.divideError", "math/bits.overflowError"], apart := false, narrowed := true }
def QuantBackUptoSaid : Prop := quantBackUptoRow.holds Try.pinned (OpenSpec.upto quantBackSpec)

/-- 'triremelaw03.QuantUnits', WHERE WHAT IT READS IS OF BULK AT MOST 1048576: true; the input reads as it did. -/
def quantUnitsUptoRow : OpenClaim := { program := "ytpmmiabcfnejmaa", sum := "34dad559941a18f8ef5de8c6a3f7c286585a1cf3c26921bb568d6a5ec85b0b2f", func := "trireme/triremelaw03.QuantUnits", spec := "quantUnits", unfollowed := true, recurses := true, named := ["math/bits.divideError", "math/bits.overflowError"], apart := false, narrowed := true }
def QuantUnitsUptoSaid : Prop := quantUnitsUptoRow.holds Try.pinned (OpenSpec.upto quantUnitsSpec)

/-- 'triremelaw03.QuantZeros', WHERE WHAT IT READS IS OF BULK AT MOST 1048576: true; the input reads as it did. -/
def quantZerosUptoRow : OpenClaim := { program := "ytpmmiabcfnejmaa", sum := "34dad559941a18f8ef5de8c6a3f7c286585a1cf3c26921bb568d6a5ec85b0b2f", func := "trireme/triremelaw03.QuantZeros", spec := "quantZeros", unfollowed := true, recurses := true, named := ["math/bits.divideError", "math/bits.overflowError"], apart := false, narrowed := true }
def QuantZerosUptoSaid : Prop := quantZerosUptoRow.holds Try.pinned (OpenSpec.upto quantZerosSpec)

end Rows
end Go.Proofs.Ytpmmiabcfnejmaa
