/-
  No cell of these rows narrows 'for every input' (looked for: loops, veiled, ifaces, maps, wideKeys, modest, calm, conditions, laid).
  DERIVED. THE GIVEN ROWS OF THIS SEAT. 7 by the template 'for every input the law returns true; each argument reads behind the call as it read before'; 0 by the template 'total and deterministic' (their statements: YtnfkddanbhibbaaTotals.lean).
  GIVEN WITH THE SEED: the statements are not yours to turn. If you find one false, say at which input.
  Laid BY PROGRAM, IN A SANDBOX (cutbox-rows.mjs): the forced cells as the released guide's own fill.sh prints them over the translation dde0a8ec6af0d45c… (all of the seat's roots in one cut). By AI agents, Wed Nov 11 2026. No macro, syntax, notation, axiom, sorry.
-/
import Derived.Test.YtnfkddanbhibbaaChecked
import GoSem.Claim
import GoSem.ClaimJoined
import GoSem.ClaimMapViews
import Derived.JoinedTies
import Derived.KernelRfl
namespace Go.Proofs.Ytnfkddanbhibbaa
/- THE CELL 'sum', in the pinned program and in every row, IS THE sha256 OF THE DUMP (.gsa) THAT YtnfkddanbhibbaaProg.lean LOADS. Nothing in Lean hashes anything: it is a label: what it is worth is what the hold of that sum in a sandbox is worth. -/
noncomputable def Try.pinned : Pinned := { name := "ytnfkddanbhibbaa", sum := "dde0a8ec6af0d45c7affe8aca4ae055b74140fb3cd0bd6e896ee47a96ada35d0", checked := Try.checked }
namespace Rows
def none {H : Type} : Left H := { results := [], args := [] }

/-- 'chargeparklaw06.FuseMatchesReference': WHATEVER THE INPUT: true; the input reads as it did. -/
def fuseMatchesReferenceSpec : ChangeSpec := { name := "fuseMatchesReference", fn := fun _ => fun
  | [d1, d2, d3, d4] => { results := [.lit (.bool true)], args := [d1, d2, d3, d4] }
  | _ => none }
def fuseMatchesReferenceRow : OpenClaim := { program := "ytnfkddanbhibbaa", sum := "dde0a8ec6af0d45c7affe8aca4ae055b74140fb3cd0bd6e896ee47a96ada35d0", func := "chargepark/chargeparklaw06.FuseMatchesReference", spec := "fuseMatchesReference", unfollowed := true, recurses := true, apart := false }
def FuseMatchesReferenceSaid : Prop := fuseMatchesReferenceRow.holds Try.pinned (OpenSpec.ofChange fuseMatchesReferenceSpec)

/-- ITS FALSE NEIGHBOUR: 'it returns false'. Refute it at one input. -/
def fuseMatchesReferenceWrong : ChangeSpec := { name := "fuseMatchesReference", fn := fun _ => fun
  | [d1, d2, d3, d4] => { results := [.lit (.bool false)], args := [d1, d2, d3, d4] }
  | _ => none }
def FuseMatchesReferenceWrongFalsely : Prop := fuseMatchesReferenceRow.holds Try.pinned (OpenSpec.ofChange fuseMatchesReferenceWrong)

/-- 'chargeparklaw06.FuseRated': WHATEVER THE INPUT: true; the input reads as it did. -/
def fuseRatedSpec : ChangeSpec := { name := "fuseRated", fn := fun _ => fun
  | [d1, d2, d3] => { results := [.lit (.bool true)], args := [d1, d2, d3] }
  | _ => none }
def fuseRatedRow : OpenClaim := { program := "ytnfkddanbhibbaa", sum := "dde0a8ec6af0d45c7affe8aca4ae055b74140fb3cd0bd6e896ee47a96ada35d0", func := "chargepark/chargeparklaw06.FuseRated", spec := "fuseRated", unfollowed := true, recurses := true, apart := false }
def FuseRatedSaid : Prop := fuseRatedRow.holds Try.pinned (OpenSpec.ofChange fuseRatedSpec)

/-- ITS FALSE NEIGHBOUR: 'it returns false'. Refute it at one input. -/
def fuseRatedWrong : ChangeSpec := { name := "fuseRated", fn := fun _ => fun
  | [d1, d2, d3] => { results := [.lit (.bool false)], args := [d1, d2, d3] }
  | _ => none }
def FuseRatedWrongFalsely : Prop := fuseRatedRow.holds Try.pinned (OpenSpec.ofChange fuseRatedWrong)

/-- 'chargeparklaw06.FuseBursts': WHATEVER THE INPUT: true; the input reads as it did. -/
def fuseBurstsSpec : ChangeSpec := { name := "fuseBursts", fn := fun _ => fun
  | [d1, d2] => { results := [.lit (.bool true)], args := [d1, d2] }
  | _ => none }
def fuseBurstsRow : OpenClaim := { program := "ytnfkddanbhibbaa", sum := "dde0a8ec6af0d45c7affe8aca4ae055b74140fb3cd0bd6e896ee47a96ada35d0", func := "chargepark/chargeparklaw06.FuseBursts", spec := "fuseBursts", unfollowed := true, recurses := true, apart := false }
def FuseBurstsSaid : Prop := fuseBurstsRow.holds Try.pinned (OpenSpec.ofChange fuseBurstsSpec)

/-- ITS FALSE NEIGHBOUR: 'it returns false'. Refute it at one input. -/
def fuseBurstsWrong : ChangeSpec := { name := "fuseBursts", fn := fun _ => fun
  | [d1, d2] => { results := [.lit (.bool false)], args := [d1, d2] }
  | _ => none }
def FuseBurstsWrongFalsely : Prop := fuseBurstsRow.holds Try.pinned (OpenSpec.ofChange fuseBurstsWrong)

/-- 'chargeparklaw06.FuseMoreCurrent': WHATEVER THE INPUT: true; the input reads as it did. -/
def fuseMoreCurrentSpec : ChangeSpec := { name := "fuseMoreCurrent", fn := fun _ => fun
  | [d1, d2, d3, d4, d5] => { results := [.lit (.bool true)], args := [d1, d2, d3, d4, d5] }
  | _ => none }
def fuseMoreCurrentRow : OpenClaim := { program := "ytnfkddanbhibbaa", sum := "dde0a8ec6af0d45c7affe8aca4ae055b74140fb3cd0bd6e896ee47a96ada35d0", func := "chargepark/chargeparklaw06.FuseMoreCurrent", spec := "fuseMoreCurrent", unfollowed := true, recurses := true, apart := false }
def FuseMoreCurrentSaid : Prop := fuseMoreCurrentRow.holds Try.pinned (OpenSpec.ofChange fuseMoreCurrentSpec)

/-- ITS FALSE NEIGHBOUR: 'it returns false'. Refute it at one input. -/
def fuseMoreCurrentWrong : ChangeSpec := { name := "fuseMoreCurrent", fn := fun _ => fun
  | [d1, d2, d3, d4, d5] => { results := [.lit (.bool false)], args := [d1, d2, d3, d4, d5] }
  | _ => none }
def FuseMoreCurrentWrongFalsely : Prop := fuseMoreCurrentRow.holds Try.pinned (OpenSpec.ofChange fuseMoreCurrentWrong)

/-- 'chargeparklaw06.FuseHolds': WHATEVER THE INPUT: true; the input reads as it did. -/
def fuseHoldsSpec : ChangeSpec := { name := "fuseHolds", fn := fun _ => fun
  | [d1, d2, d3] => { results := [.lit (.bool true)], args := [d1, d2, d3] }
  | _ => none }
def fuseHoldsRow : OpenClaim := { program := "ytnfkddanbhibbaa", sum := "dde0a8ec6af0d45c7affe8aca4ae055b74140fb3cd0bd6e896ee47a96ada35d0", func := "chargepark/chargeparklaw06.FuseHolds", spec := "fuseHolds", unfollowed := true, recurses := true, apart := false }
def FuseHoldsSaid : Prop := fuseHoldsRow.holds Try.pinned (OpenSpec.ofChange fuseHoldsSpec)

/-- ITS FALSE NEIGHBOUR: 'it returns false'. Refute it at one input. -/
def fuseHoldsWrong : ChangeSpec := { name := "fuseHolds", fn := fun _ => fun
  | [d1, d2, d3] => { results := [.lit (.bool false)], args := [d1, d2, d3] }
  | _ => none }
def FuseHoldsWrongFalsely : Prop := fuseHoldsRow.holds Try.pinned (OpenSpec.ofChange fuseHoldsWrong)

/-- 'chargeparklaw06.FuseRest': WHATEVER THE INPUT: true; the input reads as it did. -/
def fuseRestSpec : ChangeSpec := { name := "fuseRest", fn := fun _ => fun
  | [d1, d2, d3, d4] => { results := [.lit (.bool true)], args := [d1, d2, d3, d4] }
  | _ => none }
def fuseRestRow : OpenClaim := { program := "ytnfkddanbhibbaa", sum := "dde0a8ec6af0d45c7affe8aca4ae055b74140fb3cd0bd6e896ee47a96ada35d0", func := "chargepark/chargeparklaw06.FuseRest", spec := "fuseRest", unfollowed := true, recurses := true, apart := false }
def FuseRestSaid : Prop := fuseRestRow.holds Try.pinned (OpenSpec.ofChange fuseRestSpec)

/-- ITS FALSE NEIGHBOUR: 'it returns false'. Refute it at one input. -/
def fuseRestWrong : ChangeSpec := { name := "fuseRest", fn := fun _ => fun
  | [d1, d2, d3, d4] => { results := [.lit (.bool false)], args := [d1, d2, d3, d4] }
  | _ => none }
def FuseRestWrongFalsely : Prop := fuseRestRow.holds Try.pinned (OpenSpec.ofChange fuseRestWrong)

/-- 'chargeparklaw06.FuseStronger': WHATEVER THE INPUT: true; the input reads as it did. -/
def fuseStrongerSpec : ChangeSpec := { name := "fuseStronger", fn := fun _ => fun
  | [d1, d2, d3, d4, d5] => { results := [.lit (.bool true)], args := [d1, d2, d3, d4, d5] }
  | _ => none }
def fuseStrongerRow : OpenClaim := { program := "ytnfkddanbhibbaa", sum := "dde0a8ec6af0d45c7affe8aca4ae055b74140fb3cd0bd6e896ee47a96ada35d0", func := "chargepark/chargeparklaw06.FuseStronger", spec := "fuseStronger", unfollowed := true, recurses := true, apart := false }
def FuseStrongerSaid : Prop := fuseStrongerRow.holds Try.pinned (OpenSpec.ofChange fuseStrongerSpec)

/-- ITS FALSE NEIGHBOUR: 'it returns false'. Refute it at one input. -/
def fuseStrongerWrong : ChangeSpec := { name := "fuseStronger", fn := fun _ => fun
  | [d1, d2, d3, d4, d5] => { results := [.lit (.bool false)], args := [d1, d2, d3, d4, d5] }
  | _ => none }
def FuseStrongerWrongFalsely : Prop := fuseStrongerRow.holds Try.pinned (OpenSpec.ofChange fuseStrongerWrong)

/- THE SECOND FORM. 'bulk': how many values and letters a reading holds, each counted each time it is reached (what is shared counts as often as it is met; a slice's spare places count too). A statement '..UptoSaid' is the law's where the arguments, and the package variables that the reading takes, are together of bulk at most 1048576: NARROWER than '..Said'. Prove '..Said' where nothing that the law and all that it calls make is longer than what came in: it says more and counts as full. Else prove '..UptoSaid'. A law counts once. -/
mutual
def uptoBulk {H : Type} : DataW H → Nat
  | .lit (.string bytes) => bytes.length + 1
  | .lit _ => 1
  | .nil => 1
  | .ptr d => uptoBulk d + 1
  | .slice elems spare => uptoBulkAll elems + uptoBulkAll spare + 1
  | .agg parts => uptoBulkAll parts + 1
  | .iface _ d => uptoBulk d + 1
  | .map entries => uptoBulkEntries entries + 1
  | .held _ => 1
def uptoBulkAll {H : Type} : List (DataW H) → Nat
  | [] => 0
  | d :: r => uptoBulk d + uptoBulkAll r
def uptoBulkEntries {H : Type} : List (Lit × DataW H) → Nat
  | [] => 0
  | x :: r => uptoBulkEntry x + uptoBulkEntries r
def uptoBulkEntry {H : Type} : Lit × DataW H → Nat
  | (.string bytes, d) => bytes.length + uptoBulk d + 1
  | (_, d) => uptoBulk d + 1
 end
def uptoSmall : (H : Type) → List (DataW H) → Bool := fun _ ds => decide (uptoBulkAll ds ≤ 1048576)
def OpenSpec.upto (s : _root_.Go.ChangeSpec) : _root_.Go.OpenSpec := { _root_.Go.OpenSpec.ofChange s with cond := some uptoSmall }

/-- 'chargeparklaw06.FuseMatchesReference', WHERE WHAT IT READS IS OF BULK AT MOST 1048576: true; the input reads as it did. -/
def fuseMatchesReferenceUptoRow : OpenClaim := { program := "ytnfkddanbhibbaa", sum := "dde0a8ec6af0d45c7affe8aca4ae055b74140fb3cd0bd6e896ee47a96ada35d0", func := "chargepark/chargeparklaw06.FuseMatchesReference", spec := "fuseMatchesReference", unfollowed := true, recurses := true, apart := false, narrowed := true }
def FuseMatchesReferenceUptoSaid : Prop := fuseMatchesReferenceUptoRow.holds Try.pinned (OpenSpec.upto fuseMatchesReferenceSpec)

/-- 'chargeparklaw06.FuseRated', WHERE WHAT IT READS IS OF BULK AT MOST 1048576: true; the input reads as it did. -/
def fuseRatedUptoRow : OpenClaim := { program := "ytnfkddanbhibbaa", sum := "dde0a8ec6af0d45c7affe8aca4ae055b74140fb3cd0bd6e896ee47a96ada35d0", func := "chargepark/chargeparklaw06.FuseRated", spec := "fuseRated", unfollowed := true, recurses := true, apart := false, narrowed := true }
def FuseRatedUptoSaid : Prop := fuseRatedUptoRow.holds Try.pinned (OpenSpec.upto fuseRatedSpec)

/-- 'chargeparklaw06.FuseBursts', WHERE WHAT IT READS IS OF BULK AT MOST 1048576: true; the input reads as it did. -/
def fuseBurstsUptoRow : OpenClaim := { program := "ytnfkddanbhibbaa", sum := "dde0a8ec6af0d45c7affe8aca4ae055b74140fb3cd0bd6e896ee47a96ada35d0", func := "chargepark/chargeparklaw06.FuseBursts", spec := "fuseBursts", unfollowed := true, recurses := true, apart := false, narrowed := true }
def FuseBurstsUptoSaid : Prop := fuseBurstsUptoRow.holds Try.pinned (OpenSpec.upto fuseBurstsSpec)

/-- 'chargeparklaw06.FuseMoreCurrent', WHERE WHAT IT READS IS OF BULK AT MOST 1048576: true; the input reads as it did. -/
def fuseMoreCurrentUptoRow : OpenClaim := { program := "ytnfkddanbhibbaa", sum := "dde0a8ec6af0d45c7affe8aca4ae055b74140fb3cd0bd6e896ee47a96ada35d0", func := "chargepark/chargeparklaw06.FuseMoreCurrent", spec := "fuseMoreCurrent", unfollowed := true, recurses := true, apart := false, narrowed := true }
def FuseMoreCurrentUptoSaid : Prop := fuseMoreCurrentUptoRow.holds Try.pinned (OpenSpec.upto fuseMoreCurrentSpec)

/-- 'chargeparklaw06.FuseHolds', WHERE WHAT IT READS IS OF BULK AT MOST 1048576: true; the input reads as it did. -/
def fuseHoldsUptoRow : OpenClaim := { program := "ytnfkddanbhibbaa", sum := "dde0a8ec6af0d45c7affe8aca4ae055b74140fb3cd0bd6e896ee47a96ada35d0", func := "chargepark/chargeparklaw06.FuseHolds", spec := "fuseHolds", unfollowed := true, recurses := true, apart := false, narrowed := true }
def FuseHoldsUptoSaid : Prop := fuseHoldsUptoRow.holds Try.pinned (OpenSpec.upto fuseHoldsSpec)

/-- 'chargeparklaw06.FuseRest', WHERE WHAT IT READS IS OF BULK AT MOST 1048576: true; the input reads as it did. -/
def fuseRestUptoRow : OpenClaim := { program := "ytnfkddanbhibbaa", sum := "dde0a8ec6af0d45c7affe8aca4ae055b74140fb3cd0bd6e896ee47a96ada35d0", func := "chargepark/chargeparklaw06.FuseRest", spec := "fuseRest", unfollowed := true, recurses := true, apart := false, narrowed := true }
def FuseRestUptoSaid : Prop := fuseRestUptoRow.holds Try.pinned (OpenSpec.upto fuseRestSpec)

/-- 'chargeparklaw06.FuseStronger', WHERE WHAT IT READS IS OF BULK AT MOST 1048576: true; the input reads as it did. -/
def fuseStrongerUptoRow : OpenClaim := { program := "ytnfkddanbhibbaa", sum := "dde0a8ec6af0d45c7affe8aca4ae055b74140fb3cd0bd6e896ee47a96ada35d0", func := "chargepark/chargeparklaw06.FuseStronger", spec := "fuseStronger", unfollowed := true, recurses := true, apart := false, narrowed := true }
def FuseStrongerUptoSaid : Prop := fuseStrongerUptoRow.holds Try.pinned (OpenSpec.upto fuseStrongerSpec)

end Rows
end Go.Proofs.Ytnfkddanbhibbaa
