/-
  No cell of these rows narrows 'for every input' (looked for: loops, veiled, ifaces, maps, wideKeys, modest, calm, conditions, laid).
  DERIVED. THE GIVEN ROWS OF THIS SEAT. 7 by the template 'for every input the law returns true; each argument reads behind the call as it read before'; 0 by the template 'total and deterministic' (their statements: YtffaljncdcldpaaTotals.lean).
  GIVEN WITH THE SEED: the statements are not yours to turn. If you find one false, say at which input.
  Laid BY PROGRAM, IN A SANDBOX (cutbox-rows.mjs): the forced cells as the released guide's own fill.sh prints them over the translation e47e90c88cf9b4d5… (all of the seat's roots in one cut). By AI agents, Wed Nov 11 2026. No macro, syntax, notation, axiom, sorry.
-/
import Derived.Test.YtffaljncdcldpaaChecked
import GoSem.Claim
import GoSem.ClaimJoined
import GoSem.ClaimMapViews
import Derived.JoinedTies
import Derived.KernelRfl
namespace Go.Proofs.Ytffaljncdcldpaa
/- THE CELL 'sum', in the pinned program and in every row, IS THE sha256 OF THE DUMP (.gsa) THAT YtffaljncdcldpaaProg.lean LOADS. Nothing in Lean hashes anything: it is a label: what it is worth is what the hold of that sum in a sandbox is worth. -/
noncomputable def Try.pinned : Pinned := { name := "ytffaljncdcldpaa", sum := "e47e90c88cf9b4d5a0beefd0fe2888bc4c17aeb7099ffdf8379193ba50a1369b", checked := Try.checked }
namespace Rows
def none {H : Type} : Left H := { results := [], args := [] }

/-- 'truchmanlaw14.CallsMay': WHATEVER THE INPUT: true; the input reads as it did. -/
def callsMaySpec : ChangeSpec := { name := "callsMay", fn := fun _ => fun
  | [d1, d2, d3, d4] => { results := [.lit (.bool true)], args := [d1, d2, d3, d4] }
  | _ => none }
def callsMayRow : OpenClaim := { program := "ytffaljncdcldpaa", sum := "e47e90c88cf9b4d5a0beefd0fe2888bc4c17aeb7099ffdf8379193ba50a1369b", func := "truchman/truchmanlaw14.CallsMay", spec := "callsMay", unfollowed := true, recurses := true, apart := false }
def CallsMaySaid : Prop := callsMayRow.holds Try.pinned (OpenSpec.ofChange callsMaySpec)

/-- ITS FALSE NEIGHBOUR: 'it returns false'. Refute it at one input. -/
def callsMayWrong : ChangeSpec := { name := "callsMay", fn := fun _ => fun
  | [d1, d2, d3, d4] => { results := [.lit (.bool false)], args := [d1, d2, d3, d4] }
  | _ => none }
def CallsMayWrongFalsely : Prop := callsMayRow.holds Try.pinned (OpenSpec.ofChange callsMayWrong)

/-- 'truchmanlaw14.CallsBounds': WHATEVER THE INPUT: true; the input reads as it did. -/
def callsBoundsSpec : ChangeSpec := { name := "callsBounds", fn := fun _ => fun
  | [d1, d2] => { results := [.lit (.bool true)], args := [d1, d2] }
  | _ => none }
def callsBoundsRow : OpenClaim := { program := "ytffaljncdcldpaa", sum := "e47e90c88cf9b4d5a0beefd0fe2888bc4c17aeb7099ffdf8379193ba50a1369b", func := "truchman/truchmanlaw14.CallsBounds", spec := "callsBounds", unfollowed := true, recurses := true, apart := false }
def CallsBoundsSaid : Prop := callsBoundsRow.holds Try.pinned (OpenSpec.ofChange callsBoundsSpec)

/-- ITS FALSE NEIGHBOUR: 'it returns false'. Refute it at one input. -/
def callsBoundsWrong : ChangeSpec := { name := "callsBounds", fn := fun _ => fun
  | [d1, d2] => { results := [.lit (.bool false)], args := [d1, d2] }
  | _ => none }
def CallsBoundsWrongFalsely : Prop := callsBoundsRow.holds Try.pinned (OpenSpec.ofChange callsBoundsWrong)

/-- 'truchmanlaw14.CallsSame': WHATEVER THE INPUT: true; the input reads as it did. -/
def callsSameSpec : ChangeSpec := { name := "callsSame", fn := fun _ => fun
  | [d1, d2, d3, d4, d5] => { results := [.lit (.bool true)], args := [d1, d2, d3, d4, d5] }
  | _ => none }
def callsSameRow : OpenClaim := { program := "ytffaljncdcldpaa", sum := "e47e90c88cf9b4d5a0beefd0fe2888bc4c17aeb7099ffdf8379193ba50a1369b", func := "truchman/truchmanlaw14.CallsSame", spec := "callsSame", unfollowed := true, recurses := true, apart := false }
def CallsSameSaid : Prop := callsSameRow.holds Try.pinned (OpenSpec.ofChange callsSameSpec)

/-- ITS FALSE NEIGHBOUR: 'it returns false'. Refute it at one input. -/
def callsSameWrong : ChangeSpec := { name := "callsSame", fn := fun _ => fun
  | [d1, d2, d3, d4, d5] => { results := [.lit (.bool false)], args := [d1, d2, d3, d4, d5] }
  | _ => none }
def CallsSameWrongFalsely : Prop := callsSameRow.holds Try.pinned (OpenSpec.ofChange callsSameWrong)

/-- 'truchmanlaw14.CallsProcs': WHATEVER THE INPUT: true; the input reads as it did. -/
def callsProcsSpec : ChangeSpec := { name := "callsProcs", fn := fun _ => fun
  | [d] => { results := [.lit (.bool true)], args := [d] }
  | _ => none }
def callsProcsRow : OpenClaim := { program := "ytffaljncdcldpaa", sum := "e47e90c88cf9b4d5a0beefd0fe2888bc4c17aeb7099ffdf8379193ba50a1369b", func := "truchman/truchmanlaw14.CallsProcs", spec := "callsProcs", unfollowed := true, recurses := true, apart := false }
def CallsProcsSaid : Prop := callsProcsRow.holds Try.pinned (OpenSpec.ofChange callsProcsSpec)

/-- ITS FALSE NEIGHBOUR: 'it returns false'. Refute it at one input. -/
def callsProcsWrong : ChangeSpec := { name := "callsProcs", fn := fun _ => fun
  | [d] => { results := [.lit (.bool false)], args := [d] }
  | _ => none }
def CallsProcsWrongFalsely : Prop := callsProcsRow.holds Try.pinned (OpenSpec.ofChange callsProcsWrong)

/-- 'truchmanlaw14.CallsReads': WHATEVER THE INPUT: true; the input reads as it did. -/
def callsReadsSpec : ChangeSpec := { name := "callsReads", fn := fun _ => fun
  | [d1, d2, d3, d4, d5] => { results := [.lit (.bool true)], args := [d1, d2, d3, d4, d5] }
  | _ => none }
def callsReadsRow : OpenClaim := { program := "ytffaljncdcldpaa", sum := "e47e90c88cf9b4d5a0beefd0fe2888bc4c17aeb7099ffdf8379193ba50a1369b", func := "truchman/truchmanlaw14.CallsReads", spec := "callsReads", unfollowed := true, recurses := true, apart := false }
def CallsReadsSaid : Prop := callsReadsRow.holds Try.pinned (OpenSpec.ofChange callsReadsSpec)

/-- ITS FALSE NEIGHBOUR: 'it returns false'. Refute it at one input. -/
def callsReadsWrong : ChangeSpec := { name := "callsReads", fn := fun _ => fun
  | [d1, d2, d3, d4, d5] => { results := [.lit (.bool false)], args := [d1, d2, d3, d4, d5] }
  | _ => none }
def CallsReadsWrongFalsely : Prop := callsReadsRow.holds Try.pinned (OpenSpec.ofChange callsReadsWrong)

/-- 'truchmanlaw14.CallsRound': WHATEVER THE INPUT: true; the input reads as it did. -/
def callsRoundSpec : ChangeSpec := { name := "callsRound", fn := fun _ => fun
  | [d] => { results := [.lit (.bool true)], args := [d] }
  | _ => none }
def callsRoundRow : OpenClaim := { program := "ytffaljncdcldpaa", sum := "e47e90c88cf9b4d5a0beefd0fe2888bc4c17aeb7099ffdf8379193ba50a1369b", func := "truchman/truchmanlaw14.CallsRound", spec := "callsRound", unfollowed := true, recurses := true, apart := false }
def CallsRoundSaid : Prop := callsRoundRow.holds Try.pinned (OpenSpec.ofChange callsRoundSpec)

/-- ITS FALSE NEIGHBOUR: 'it returns false'. Refute it at one input. -/
def callsRoundWrong : ChangeSpec := { name := "callsRound", fn := fun _ => fun
  | [d] => { results := [.lit (.bool false)], args := [d] }
  | _ => none }
def CallsRoundWrongFalsely : Prop := callsRoundRow.holds Try.pinned (OpenSpec.ofChange callsRoundWrong)

/-- 'truchmanlaw14.CallsCuts': WHATEVER THE INPUT: true; the input reads as it did. -/
def callsCutsSpec : ChangeSpec := { name := "callsCuts", fn := fun _ => fun
  | [d] => { results := [.lit (.bool true)], args := [d] }
  | _ => none }
def callsCutsRow : OpenClaim := { program := "ytffaljncdcldpaa", sum := "e47e90c88cf9b4d5a0beefd0fe2888bc4c17aeb7099ffdf8379193ba50a1369b", func := "truchman/truchmanlaw14.CallsCuts", spec := "callsCuts", unfollowed := true, recurses := true, apart := false }
def CallsCutsSaid : Prop := callsCutsRow.holds Try.pinned (OpenSpec.ofChange callsCutsSpec)

/-- ITS FALSE NEIGHBOUR: 'it returns false'. Refute it at one input. -/
def callsCutsWrong : ChangeSpec := { name := "callsCuts", fn := fun _ => fun
  | [d] => { results := [.lit (.bool false)], args := [d] }
  | _ => none }
def CallsCutsWrongFalsely : Prop := callsCutsRow.holds Try.pinned (OpenSpec.ofChange callsCutsWrong)

/- THE SECOND FORM. 'bulk': how many values and letters a reading holds, each counted each time it is reached (what is shared counts as often as it is met; a slice's spare places count too). A statement '..UptoSaid' is the law's where the arguments, and the package variables that the reading takes, are together of bulk at most 1048576: NARROWER than '..Said'. Prove '..Said' where nothing that the law and all that it calls make is longer than what came in: it says more and counts as full. Else prove '..UptoSaid'. A law counts once. -/
mutual
def uptoBulk {H : Type} : DataW H → Nat
  | .lit (.string bytes) => bytes.length + 1
  | .lit _ => 1
  | .nil => 1
  | .ptr d => uptoBulk d + 1
  | .slice elems spare => uptoBulkAll elems + uptoBulkAll spare + 1
  | .agg parts => uptoBulkAll parts + 1
  | .iface _ d => uptoBulk d + 1
  | .map entries => uptoBulkEntries entries + 1
  | .held _ => 1
def uptoBulkAll {H : Type} : List (DataW H) → Nat
  | [] => 0
  | d :: r => uptoBulk d + uptoBulkAll r
def uptoBulkEntries {H : Type} : List (Lit × DataW H) → Nat
  | [] => 0
  | x :: r => uptoBulkEntry x + uptoBulkEntries r
def uptoBulkEntry {H : Type} : Lit × DataW H → Nat
  | (.string bytes, d) => bytes.length + uptoBulk d + 1
  | (_, d) => uptoBulk d + 1
 end
def uptoSmall : (H : Type) → List (DataW H) → Bool := fun _ ds => decide (uptoBulkAll ds ≤ 1048576)
def OpenSpec.upto (s : _root_.Go.ChangeSpec) : _root_.Go.OpenSpec := { _root_.Go.OpenSpec.ofChange s with cond := some uptoSmall }

/-- 'truchmanlaw14.CallsMay', WHERE WHAT IT READS IS OF BULK AT MOST 1048576: true; the input reads as it did. -/
def callsMayUptoRow : OpenClaim := { program := "ytffaljncdcldpaa", sum := "e47e90c88cf9b4d5a0beefd0fe2888bc4c17aeb7099ffdf8379193ba50a1369b", func := "truchman/truchmanlaw14.CallsMay", spec := "callsMay", unfollowed := true, recurses := true, apart := false, narrowed := true }
def CallsMayUptoSaid : Prop := callsMayUptoRow.holds Try.pinned (OpenSpec.upto callsMaySpec)

/-- 'truchmanlaw14.CallsBounds', WHERE WHAT IT READS IS OF BULK AT MOST 1048576: true; the input reads as it did. -/
def callsBoundsUptoRow : OpenClaim := { program := "ytffaljncdcldpaa", sum := "e47e90c88cf9b4d5a0beefd0fe2888bc4c17aeb7099ffdf8379193ba50a1369b", func := "truchman/truchmanlaw14.CallsBounds", spec := "callsBounds", unfollowed := true, recurses := true, apart := false, narrowed := true }
def CallsBoundsUptoSaid : Prop := callsBoundsUptoRow.holds Try.pinned (OpenSpec.upto callsBoundsSpec)

/-- 'truchmanlaw14.CallsSame', WHERE WHAT IT READS IS OF BULK AT MOST 1048576: true; the input reads as it did. -/
def callsSameUptoRow : OpenClaim := { program := "ytffaljncdcldpaa", sum := "e47e90c88cf9b4d5a0beefd0fe2888bc4c17aeb7099ffdf8379193ba50a1369b", func := "truchman/truchmanlaw14.CallsSame", spec := "callsSame", unfollowed := true, recurses := true, apart := false, narrowed := true }
def CallsSameUptoSaid : Prop := callsSameUptoRow.holds Try.pinned (OpenSpec.upto callsSameSpec)

/-- 'truchmanlaw14.CallsProcs', WHERE WHAT IT READS IS OF BULK AT MOST 1048576: true; the input reads as it did. -/
def callsProcsUptoRow : OpenClaim := { program := "ytffaljncdcldpaa", sum := "e47e90c88cf9b4d5a0beefd0fe2888bc4c17aeb7099ffdf8379193ba50a1369b", func := "truchman/truchmanlaw14.CallsProcs", spec := "callsProcs", unfollowed := true, recurses := true, apart := false, narrowed := true }
def CallsProcsUptoSaid : Prop := callsProcsUptoRow.holds Try.pinned (OpenSpec.upto callsProcsSpec)

/-- 'truchmanlaw14.CallsReads', WHERE WHAT IT READS IS OF BULK AT MOST 1048576: true; the input reads as it did. -/
def callsReadsUptoRow : OpenClaim := { program := "ytffaljncdcldpaa", sum := "e47e90c88cf9b4d5a0beefd0fe2888bc4c17aeb7099ffdf8379193ba50a1369b", func := "truchman/truchmanlaw14.CallsReads", spec := "callsReads", unfollowed := true, recurses := true, apart := false, narrowed := true }
def CallsReadsUptoSaid : Prop := callsReadsUptoRow.holds Try.pinned (OpenSpec.upto callsReadsSpec)

/-- 'truchmanlaw14.CallsRound', WHERE WHAT IT READS IS OF BULK AT MOST 1048576: true; the input reads as it did. -/
def callsRoundUptoRow : OpenClaim := { program := "ytffaljncdcldpaa", sum := "e47e90c88cf9b4d5a0beefd0fe2888bc4c17aeb7099ffdf8379193ba50a1369b", func := "truchman/truchmanlaw14.CallsRound", spec := "callsRound", unfollowed := true, recurses := true, apart := false, narrowed := true }
def CallsRoundUptoSaid : Prop := callsRoundUptoRow.holds Try.pinned (OpenSpec.upto callsRoundSpec)

/-- 'truchmanlaw14.CallsCuts', WHERE WHAT IT READS IS OF BULK AT MOST 1048576: true; the input reads as it did. -/
def callsCutsUptoRow : OpenClaim := { program := "ytffaljncdcldpaa", sum := "e47e90c88cf9b4d5a0beefd0fe2888bc4c17aeb7099ffdf8379193ba50a1369b", func := "truchman/truchmanlaw14.CallsCuts", spec := "callsCuts", unfollowed := true, recurses := true, apart := false, narrowed := true }
def CallsCutsUptoSaid : Prop := callsCutsUptoRow.holds Try.pinned (OpenSpec.upto callsCutsSpec)

end Rows
end Go.Proofs.Ytffaljncdcldpaa
