/-
  No cell of these rows narrows 'for every input' (looked for: loops, veiled, ifaces, maps, wideKeys, modest, calm, conditions, laid).
  DERIVED. THE GIVEN ROWS OF THIS SEAT. 7 by the template 'for every input the law returns true; each argument reads behind the call as it read before'; 0 by the template 'total and deterministic' (their statements: YtihfcnhiknljpaaTotals.lean).
  GIVEN WITH THE SEED: the statements are not yours to turn. If you find one false, say at which input.
  Laid BY PROGRAM, IN A SANDBOX (cutbox-rows.mjs): the forced cells as the released guide's own fill.sh prints them over the translation 78c9cd4ae09eacf2… (all of the seat's roots in one cut). By AI agents, Wed Nov 11 2026. No macro, syntax, notation, axiom, sorry.
-/
import Derived.Test.YtihfcnhiknljpaaChecked
import GoSem.Claim
import GoSem.ClaimJoined
import GoSem.ClaimMapViews
import Derived.JoinedTies
import Derived.KernelRfl
namespace Go.Proofs.Ytihfcnhiknljpaa
/- THE CELL 'sum', in the pinned program and in every row, IS THE sha256 OF THE DUMP (.gsa) THAT YtihfcnhiknljpaaProg.lean LOADS. Nothing in Lean hashes anything: it is a label: what it is worth is what the hold of that sum in a sandbox is worth. -/
noncomputable def Try.pinned : Pinned := { name := "ytihfcnhiknljpaa", sum := "78c9cd4ae09eacf25565cc9f28b744806dfc23da86c3f8933e2ed2595446371d", checked := Try.checked }
namespace Rows
def none {H : Type} : Left H := { results := [], args := [] }

/-- 'chargeparklaw05.PhasesMatchesReference': WHATEVER THE INPUT: true; the input reads as it did. -/
def phasesMatchesReferenceSpec : ChangeSpec := { name := "phasesMatchesReference", fn := fun _ => fun
  | [d1, d2, d3] => { results := [.lit (.bool true)], args := [d1, d2, d3] }
  | _ => none }
def phasesMatchesReferenceRow : OpenClaim := { program := "ytihfcnhiknljpaa", sum := "78c9cd4ae09eacf25565cc9f28b744806dfc23da86c3f8933e2ed2595446371d", func := "chargepark/chargeparklaw05.PhasesMatchesReference", spec := "phasesMatchesReference", unfollowed := true, recurses := true, apart := false }
def PhasesMatchesReferenceSaid : Prop := phasesMatchesReferenceRow.holds Try.pinned (OpenSpec.ofChange phasesMatchesReferenceSpec)

/-- ITS FALSE NEIGHBOUR: 'it returns false'. Refute it at one input. -/
def phasesMatchesReferenceWrong : ChangeSpec := { name := "phasesMatchesReference", fn := fun _ => fun
  | [d1, d2, d3] => { results := [.lit (.bool false)], args := [d1, d2, d3] }
  | _ => none }
def PhasesMatchesReferenceWrongFalsely : Prop := phasesMatchesReferenceRow.holds Try.pinned (OpenSpec.ofChange phasesMatchesReferenceWrong)

/-- 'chargeparklaw05.PhasesLeast': WHATEVER THE INPUT: true; the input reads as it did. -/
def phasesLeastSpec : ChangeSpec := { name := "phasesLeast", fn := fun _ => fun
  | [d1, d2, d3] => { results := [.lit (.bool true)], args := [d1, d2, d3] }
  | _ => none }
def phasesLeastRow : OpenClaim := { program := "ytihfcnhiknljpaa", sum := "78c9cd4ae09eacf25565cc9f28b744806dfc23da86c3f8933e2ed2595446371d", func := "chargepark/chargeparklaw05.PhasesLeast", spec := "phasesLeast", unfollowed := true, recurses := true, apart := false }
def PhasesLeastSaid : Prop := phasesLeastRow.holds Try.pinned (OpenSpec.ofChange phasesLeastSpec)

/-- ITS FALSE NEIGHBOUR: 'it returns false'. Refute it at one input. -/
def phasesLeastWrong : ChangeSpec := { name := "phasesLeast", fn := fun _ => fun
  | [d1, d2, d3] => { results := [.lit (.bool false)], args := [d1, d2, d3] }
  | _ => none }
def PhasesLeastWrongFalsely : Prop := phasesLeastRow.holds Try.pinned (OpenSpec.ofChange phasesLeastWrong)

/-- 'chargeparklaw05.PhasesOrder': WHATEVER THE INPUT: true; the input reads as it did. -/
def phasesOrderSpec : ChangeSpec := { name := "phasesOrder", fn := fun _ => fun
  | [d1, d2, d3] => { results := [.lit (.bool true)], args := [d1, d2, d3] }
  | _ => none }
def phasesOrderRow : OpenClaim := { program := "ytihfcnhiknljpaa", sum := "78c9cd4ae09eacf25565cc9f28b744806dfc23da86c3f8933e2ed2595446371d", func := "chargepark/chargeparklaw05.PhasesOrder", spec := "phasesOrder", unfollowed := true, recurses := true, apart := false }
def PhasesOrderSaid : Prop := phasesOrderRow.holds Try.pinned (OpenSpec.ofChange phasesOrderSpec)

/-- ITS FALSE NEIGHBOUR: 'it returns false'. Refute it at one input. -/
def phasesOrderWrong : ChangeSpec := { name := "phasesOrder", fn := fun _ => fun
  | [d1, d2, d3] => { results := [.lit (.bool false)], args := [d1, d2, d3] }
  | _ => none }
def PhasesOrderWrongFalsely : Prop := phasesOrderRow.holds Try.pinned (OpenSpec.ofChange phasesOrderWrong)

/-- 'chargeparklaw05.PhasesBalance': WHATEVER THE INPUT: true; the input reads as it did. -/
def phasesBalanceSpec : ChangeSpec := { name := "phasesBalance", fn := fun _ => fun
  | [d1, d2, d3, d4] => { results := [.lit (.bool true)], args := [d1, d2, d3, d4] }
  | _ => none }
def phasesBalanceRow : OpenClaim := { program := "ytihfcnhiknljpaa", sum := "78c9cd4ae09eacf25565cc9f28b744806dfc23da86c3f8933e2ed2595446371d", func := "chargepark/chargeparklaw05.PhasesBalance", spec := "phasesBalance", unfollowed := true, recurses := true, apart := false }
def PhasesBalanceSaid : Prop := phasesBalanceRow.holds Try.pinned (OpenSpec.ofChange phasesBalanceSpec)

/-- ITS FALSE NEIGHBOUR: 'it returns false'. Refute it at one input. -/
def phasesBalanceWrong : ChangeSpec := { name := "phasesBalance", fn := fun _ => fun
  | [d1, d2, d3, d4] => { results := [.lit (.bool false)], args := [d1, d2, d3, d4] }
  | _ => none }
def PhasesBalanceWrongFalsely : Prop := phasesBalanceRow.holds Try.pinned (OpenSpec.ofChange phasesBalanceWrong)

/-- 'chargeparklaw05.PhasesOne': WHATEVER THE INPUT: true; the input reads as it did. -/
def phasesOneSpec : ChangeSpec := { name := "phasesOne", fn := fun _ => fun
  | [d1, d2, d3] => { results := [.lit (.bool true)], args := [d1, d2, d3] }
  | _ => none }
def phasesOneRow : OpenClaim := { program := "ytihfcnhiknljpaa", sum := "78c9cd4ae09eacf25565cc9f28b744806dfc23da86c3f8933e2ed2595446371d", func := "chargepark/chargeparklaw05.PhasesOne", spec := "phasesOne", unfollowed := true, recurses := true, apart := false }
def PhasesOneSaid : Prop := phasesOneRow.holds Try.pinned (OpenSpec.ofChange phasesOneSpec)

/-- ITS FALSE NEIGHBOUR: 'it returns false'. Refute it at one input. -/
def phasesOneWrong : ChangeSpec := { name := "phasesOne", fn := fun _ => fun
  | [d1, d2, d3] => { results := [.lit (.bool false)], args := [d1, d2, d3] }
  | _ => none }
def PhasesOneWrongFalsely : Prop := phasesOneRow.holds Try.pinned (OpenSpec.ofChange phasesOneWrong)

/-- 'chargeparklaw05.PhasesWorst': WHATEVER THE INPUT: true; the input reads as it did. -/
def phasesWorstSpec : ChangeSpec := { name := "phasesWorst", fn := fun _ => fun
  | [d1, d2, d3, d4, d5, d6] => { results := [.lit (.bool true)], args := [d1, d2, d3, d4, d5, d6] }
  | _ => none }
def phasesWorstRow : OpenClaim := { program := "ytihfcnhiknljpaa", sum := "78c9cd4ae09eacf25565cc9f28b744806dfc23da86c3f8933e2ed2595446371d", func := "chargepark/chargeparklaw05.PhasesWorst", spec := "phasesWorst", unfollowed := true, recurses := true, apart := false }
def PhasesWorstSaid : Prop := phasesWorstRow.holds Try.pinned (OpenSpec.ofChange phasesWorstSpec)

/-- ITS FALSE NEIGHBOUR: 'it returns false'. Refute it at one input. -/
def phasesWorstWrong : ChangeSpec := { name := "phasesWorst", fn := fun _ => fun
  | [d1, d2, d3, d4, d5, d6] => { results := [.lit (.bool false)], args := [d1, d2, d3, d4, d5, d6] }
  | _ => none }
def PhasesWorstWrongFalsely : Prop := phasesWorstRow.holds Try.pinned (OpenSpec.ofChange phasesWorstWrong)

/-- 'chargeparklaw05.PhasesSums': WHATEVER THE INPUT: true; the input reads as it did. -/
def phasesSumsSpec : ChangeSpec := { name := "phasesSums", fn := fun _ => fun
  | [d1, d2, d3, d4, d5, d6] => { results := [.lit (.bool true)], args := [d1, d2, d3, d4, d5, d6] }
  | _ => none }
def phasesSumsRow : OpenClaim := { program := "ytihfcnhiknljpaa", sum := "78c9cd4ae09eacf25565cc9f28b744806dfc23da86c3f8933e2ed2595446371d", func := "chargepark/chargeparklaw05.PhasesSums", spec := "phasesSums", unfollowed := true, recurses := true, apart := false }
def PhasesSumsSaid : Prop := phasesSumsRow.holds Try.pinned (OpenSpec.ofChange phasesSumsSpec)

/-- ITS FALSE NEIGHBOUR: 'it returns false'. Refute it at one input. -/
def phasesSumsWrong : ChangeSpec := { name := "phasesSums", fn := fun _ => fun
  | [d1, d2, d3, d4, d5, d6] => { results := [.lit (.bool false)], args := [d1, d2, d3, d4, d5, d6] }
  | _ => none }
def PhasesSumsWrongFalsely : Prop := phasesSumsRow.holds Try.pinned (OpenSpec.ofChange phasesSumsWrong)

/- THE SECOND FORM. 'bulk': how many values and letters a reading holds, each counted each time it is reached (what is shared counts as often as it is met; a slice's spare places count too). A statement '..UptoSaid' is the law's where the arguments, and the package variables that the reading takes, are together of bulk at most 1048576: NARROWER than '..Said'. Prove '..Said' where nothing that the law and all that it calls make is longer than what came in: it says more and counts as full. Else prove '..UptoSaid'. A law counts once. -/
mutual
def uptoBulk {H : Type} : DataW H → Nat
  | .lit (.string bytes) => bytes.length + 1
  | .lit _ => 1
  | .nil => 1
  | .ptr d => uptoBulk d + 1
  | .slice elems spare => uptoBulkAll elems + uptoBulkAll spare + 1
  | .agg parts => uptoBulkAll parts + 1
  | .iface _ d => uptoBulk d + 1
  | .map entries => uptoBulkEntries entries + 1
  | .held _ => 1
def uptoBulkAll {H : Type} : List (DataW H) → Nat
  | [] => 0
  | d :: r => uptoBulk d + uptoBulkAll r
def uptoBulkEntries {H : Type} : List (Lit × DataW H) → Nat
  | [] => 0
  | x :: r => uptoBulkEntry x + uptoBulkEntries r
def uptoBulkEntry {H : Type} : Lit × DataW H → Nat
  | (.string bytes, d) => bytes.length + uptoBulk d + 1
  | (_, d) => uptoBulk d + 1
 end
def uptoSmall : (H : Type) → List (DataW H) → Bool := fun _ ds => decide (uptoBulkAll ds ≤ 1048576)
def OpenSpec.upto (s : _root_.Go.ChangeSpec) : _root_.Go.OpenSpec := { _root_.Go.OpenSpec.ofChange s with cond := some uptoSmall }

/-- 'chargeparklaw05.PhasesMatchesReference', WHERE WHAT IT READS IS OF BULK AT MOST 1048576: true; the input reads as it did. -/
def phasesMatchesReferenceUptoRow : OpenClaim := { program := "ytihfcnhiknljpaa", sum := "78c9cd4ae09eacf25565cc9f28b744806dfc23da86c3f8933e2ed2595446371d", func := "chargepark/chargeparklaw05.PhasesMatchesReference", spec := "phasesMatchesReference", unfollowed := true, recurses := true, apart := false, narrowed := true }
def PhasesMatchesReferenceUptoSaid : Prop := phasesMatchesReferenceUptoRow.holds Try.pinned (OpenSpec.upto phasesMatchesReferenceSpec)

/-- 'chargeparklaw05.PhasesLeast', WHERE WHAT IT READS IS OF BULK AT MOST 1048576: true; the input reads as it did. -/
def phasesLeastUptoRow : OpenClaim := { program := "ytihfcnhiknljpaa", sum := "78c9cd4ae09eacf25565cc9f28b744806dfc23da86c3f8933e2ed2595446371d", func := "chargepark/chargeparklaw05.PhasesLeast", spec := "phasesLeast", unfollowed := true, recurses := true, apart := false, narrowed := true }
def PhasesLeastUptoSaid : Prop := phasesLeastUptoRow.holds Try.pinned (OpenSpec.upto phasesLeastSpec)

/-- 'chargeparklaw05.PhasesOrder', WHERE WHAT IT READS IS OF BULK AT MOST 1048576: true; the input reads as it did. -/
def phasesOrderUptoRow : OpenClaim := { program := "ytihfcnhiknljpaa", sum := "78c9cd4ae09eacf25565cc9f28b744806dfc23da86c3f8933e2ed2595446371d", func := "chargepark/chargeparklaw05.PhasesOrder", spec := "phasesOrder", unfollowed := true, recurses := true, apart := false, narrowed := true }
def PhasesOrderUptoSaid : Prop := phasesOrderUptoRow.holds Try.pinned (OpenSpec.upto phasesOrderSpec)

/-- 'chargeparklaw05.PhasesBalance', WHERE WHAT IT READS IS OF BULK AT MOST 1048576: true; the input reads as it did. -/
def phasesBalanceUptoRow : OpenClaim := { program := "ytihfcnhiknljpaa", sum := "78c9cd4ae09eacf25565cc9f28b744806dfc23da86c3f8933e2ed2595446371d", func := "chargepark/chargeparklaw05.PhasesBalance", spec := "phasesBalance", unfollowed := true, recurses := true, apart := false, narrowed := true }
def PhasesBalanceUptoSaid : Prop := phasesBalanceUptoRow.holds Try.pinned (OpenSpec.upto phasesBalanceSpec)

/-- 'chargeparklaw05.PhasesOne', WHERE WHAT IT READS IS OF BULK AT MOST 1048576: true; the input reads as it did. -/
def phasesOneUptoRow : OpenClaim := { program := "ytihfcnhiknljpaa", sum := "78c9cd4ae09eacf25565cc9f28b744806dfc23da86c3f8933e2ed2595446371d", func := "chargepark/chargeparklaw05.PhasesOne", spec := "phasesOne", unfollowed := true, recurses := true, apart := false, narrowed := true }
def PhasesOneUptoSaid : Prop := phasesOneUptoRow.holds Try.pinned (OpenSpec.upto phasesOneSpec)

/-- 'chargeparklaw05.PhasesWorst', WHERE WHAT IT READS IS OF BULK AT MOST 1048576: true; the input reads as it did. -/
def phasesWorstUptoRow : OpenClaim := { program := "ytihfcnhiknljpaa", sum := "78c9cd4ae09eacf25565cc9f28b744806dfc23da86c3f8933e2ed2595446371d", func := "chargepark/chargeparklaw05.PhasesWorst", spec := "phasesWorst", unfollowed := true, recurses := true, apart := false, narrowed := true }
def PhasesWorstUptoSaid : Prop := phasesWorstUptoRow.holds Try.pinned (OpenSpec.upto phasesWorstSpec)

/-- 'chargeparklaw05.PhasesSums', WHERE WHAT IT READS IS OF BULK AT MOST 1048576: true; the input reads as it did. -/
def phasesSumsUptoRow : OpenClaim := { program := "ytihfcnhiknljpaa", sum := "78c9cd4ae09eacf25565cc9f28b744806dfc23da86c3f8933e2ed2595446371d", func := "chargepark/chargeparklaw05.PhasesSums", spec := "phasesSums", unfollowed := true, recurses := true, apart := false, narrowed := true }
def PhasesSumsUptoSaid : Prop := phasesSumsUptoRow.holds Try.pinned (OpenSpec.upto phasesSumsSpec)

end Rows
end Go.Proofs.Ytihfcnhiknljpaa
