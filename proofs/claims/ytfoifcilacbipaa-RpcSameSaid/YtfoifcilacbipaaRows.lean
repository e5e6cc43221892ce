/-
  No cell of these rows narrows 'for every input' (looked for: loops, veiled, ifaces, maps, wideKeys, modest, calm, conditions, laid).
  DERIVED. THE GIVEN ROWS OF THIS SEAT. 7 by the template 'for every input the law returns true; each argument reads behind the call as it read before'; 0 by the template 'total and deterministic' (their statements: YtfoifcilacbipaaTotals.lean).
  GIVEN WITH THE SEED: the statements are not yours to turn. If you find one false, say at which input.
  Laid BY PROGRAM, IN A SANDBOX (cutbox-rows.mjs): the forced cells as the released guide's own fill.sh prints them over the translation 4666a21924557f37… (all of the seat's roots in one cut). By AI agents, Wed Nov 11 2026. No macro, syntax, notation, axiom, sorry.
-/
import Derived.Test.YtfoifcilacbipaaChecked
import GoSem.Claim
import GoSem.ClaimJoined
import GoSem.ClaimMapViews
import Derived.JoinedTies
import Derived.KernelRfl
namespace Go.Proofs.Ytfoifcilacbipaa
/- THE CELL 'sum', in the pinned program and in every row, IS THE sha256 OF THE DUMP (.gsa) THAT YtfoifcilacbipaaProg.lean LOADS. Nothing in Lean hashes anything: it is a label: what it is worth is what the hold of that sum in a sandbox is worth. -/
noncomputable def Try.pinned : Pinned := { name := "ytfoifcilacbipaa", sum := "4666a21924557f37021c3712e4188bf91723646a9565447c7fe16d892ec4f48c", checked := Try.checked }
namespace Rows
def none {H : Type} : Left H := { results := [], args := [] }

/-- 'truchmanlaw06.RpcSame': WHATEVER THE INPUT: true; the input reads as it did. -/
def rpcSameSpec : ChangeSpec := { name := "rpcSame", fn := fun _ => fun
  | [d1, d2] => { results := [.lit (.bool true)], args := [d1, d2] }
  | _ => none }
def rpcSameRow : OpenClaim := { program := "ytfoifcilacbipaa", sum := "4666a21924557f37021c3712e4188bf91723646a9565447c7fe16d892ec4f48c", func := "truchman/truchmanlaw06.RpcSame", spec := "rpcSame", apart := false }
def RpcSameSaid : Prop := rpcSameRow.holds Try.pinned (OpenSpec.ofChange rpcSameSpec)

/-- ITS FALSE NEIGHBOUR: 'it returns false'. Refute it at one input. -/
def rpcSameWrong : ChangeSpec := { name := "rpcSame", fn := fun _ => fun
  | [d1, d2] => { results := [.lit (.bool false)], args := [d1, d2] }
  | _ => none }
def RpcSameWrongFalsely : Prop := rpcSameRow.holds Try.pinned (OpenSpec.ofChange rpcSameWrong)

/-- 'truchmanlaw06.RpcWrites': WHATEVER THE INPUT: true; the input reads as it did. -/
def rpcWritesSpec : ChangeSpec := { name := "rpcWrites", fn := fun _ => fun
  | [d] => { results := [.lit (.bool true)], args := [d] }
  | _ => none }
def rpcWritesRow : OpenClaim := { program := "ytfoifcilacbipaa", sum := "4666a21924557f37021c3712e4188bf91723646a9565447c7fe16d892ec4f48c", func := "truchman/truchmanlaw06.RpcWrites", spec := "rpcWrites", unfollowed := true, recurses := true, apart := false }
def RpcWritesSaid : Prop := rpcWritesRow.holds Try.pinned (OpenSpec.ofChange rpcWritesSpec)

/-- ITS FALSE NEIGHBOUR: 'it returns false'. Refute it at one input. -/
def rpcWritesWrong : ChangeSpec := { name := "rpcWrites", fn := fun _ => fun
  | [d] => { results := [.lit (.bool false)], args := [d] }
  | _ => none }
def RpcWritesWrongFalsely : Prop := rpcWritesRow.holds Try.pinned (OpenSpec.ofChange rpcWritesWrong)

/-- 'truchmanlaw04.DemarkFeeds': WHATEVER THE INPUT: true; the input reads as it did. -/
def demarkFeedsSpec : ChangeSpec := { name := "demarkFeeds", fn := fun _ => fun
  | [d1, d2, d3, d4, d5, d6] => { results := [.lit (.bool true)], args := [d1, d2, d3, d4, d5, d6] }
  | _ => none }
def demarkFeedsRow : OpenClaim := { program := "ytfoifcilacbipaa", sum := "4666a21924557f37021c3712e4188bf91723646a9565447c7fe16d892ec4f48c", func := "truchman/truchmanlaw04.DemarkFeeds", spec := "demarkFeeds", unfollowed := true, recurses := true, apart := false }
def DemarkFeedsSaid : Prop := demarkFeedsRow.holds Try.pinned (OpenSpec.ofChange demarkFeedsSpec)

/-- ITS FALSE NEIGHBOUR: 'it returns false'. Refute it at one input. -/
def demarkFeedsWrong : ChangeSpec := { name := "demarkFeeds", fn := fun _ => fun
  | [d1, d2, d3, d4, d5, d6] => { results := [.lit (.bool false)], args := [d1, d2, d3, d4, d5, d6] }
  | _ => none }
def DemarkFeedsWrongFalsely : Prop := demarkFeedsRow.holds Try.pinned (OpenSpec.ofChange demarkFeedsWrong)

/-- 'truchmanlaw04.DemarkRound': WHATEVER THE INPUT: true; the input reads as it did. -/
def demarkRoundSpec : ChangeSpec := { name := "demarkRound", fn := fun _ => fun
  | [d1, d2, d3] => { results := [.lit (.bool true)], args := [d1, d2, d3] }
  | _ => none }
def demarkRoundRow : OpenClaim := { program := "ytfoifcilacbipaa", sum := "4666a21924557f37021c3712e4188bf91723646a9565447c7fe16d892ec4f48c", func := "truchman/truchmanlaw04.DemarkRound", spec := "demarkRound", unfollowed := true, recurses := true, apart := false }
def DemarkRoundSaid : Prop := demarkRoundRow.holds Try.pinned (OpenSpec.ofChange demarkRoundSpec)

/-- ITS FALSE NEIGHBOUR: 'it returns false'. Refute it at one input. -/
def demarkRoundWrong : ChangeSpec := { name := "demarkRound", fn := fun _ => fun
  | [d1, d2, d3] => { results := [.lit (.bool false)], args := [d1, d2, d3] }
  | _ => none }
def DemarkRoundWrongFalsely : Prop := demarkRoundRow.holds Try.pinned (OpenSpec.ofChange demarkRoundWrong)

/-- 'truchmanlaw04.DemarkCuts': WHATEVER THE INPUT: true; the input reads as it did. -/
def demarkCutsSpec : ChangeSpec := { name := "demarkCuts", fn := fun _ => fun
  | [d1, d2, d3, d4, d5] => { results := [.lit (.bool true)], args := [d1, d2, d3, d4, d5] }
  | _ => none }
def demarkCutsRow : OpenClaim := { program := "ytfoifcilacbipaa", sum := "4666a21924557f37021c3712e4188bf91723646a9565447c7fe16d892ec4f48c", func := "truchman/truchmanlaw04.DemarkCuts", spec := "demarkCuts", unfollowed := true, recurses := true, apart := false }
def DemarkCutsSaid : Prop := demarkCutsRow.holds Try.pinned (OpenSpec.ofChange demarkCutsSpec)

/-- ITS FALSE NEIGHBOUR: 'it returns false'. Refute it at one input. -/
def demarkCutsWrong : ChangeSpec := { name := "demarkCuts", fn := fun _ => fun
  | [d1, d2, d3, d4, d5] => { results := [.lit (.bool false)], args := [d1, d2, d3, d4, d5] }
  | _ => none }
def DemarkCutsWrongFalsely : Prop := demarkCutsRow.holds Try.pinned (OpenSpec.ofChange demarkCutsWrong)

/-- 'truchmanlaw04.DemarkErrors': WHATEVER THE INPUT: true; the input reads as it did. -/
def demarkErrorsSpec : ChangeSpec := { name := "demarkErrors", fn := fun _ => fun
  | [d1, d2, d3] => { results := [.lit (.bool true)], args := [d1, d2, d3] }
  | _ => none }
def demarkErrorsRow : OpenClaim := { program := "ytfoifcilacbipaa", sum := "4666a21924557f37021c3712e4188bf91723646a9565447c7fe16d892ec4f48c", func := "truchman/truchmanlaw04.DemarkErrors", spec := "demarkErrors", unfollowed := true, recurses := true, apart := false }
def DemarkErrorsSaid : Prop := demarkErrorsRow.holds Try.pinned (OpenSpec.ofChange demarkErrorsSpec)

/-- ITS FALSE NEIGHBOUR: 'it returns false'. Refute it at one input. -/
def demarkErrorsWrong : ChangeSpec := { name := "demarkErrors", fn := fun _ => fun
  | [d1, d2, d3] => { results := [.lit (.bool false)], args := [d1, d2, d3] }
  | _ => none }
def DemarkErrorsWrongFalsely : Prop := demarkErrorsRow.holds Try.pinned (OpenSpec.ofChange demarkErrorsWrong)

/-- 'truchmanlaw04.DemarkNews': WHATEVER THE INPUT: true; the input reads as it did. -/
def demarkNewsSpec : ChangeSpec := { name := "demarkNews", fn := fun _ => fun
  | [d1, d2] => { results := [.lit (.bool true)], args := [d1, d2] }
  | _ => none }
def demarkNewsRow : OpenClaim := { program := "ytfoifcilacbipaa", sum := "4666a21924557f37021c3712e4188bf91723646a9565447c7fe16d892ec4f48c", func := "truchman/truchmanlaw04.DemarkNews", spec := "demarkNews", unfollowed := true, recurses := true, apart := false }
def DemarkNewsSaid : Prop := demarkNewsRow.holds Try.pinned (OpenSpec.ofChange demarkNewsSpec)

/-- ITS FALSE NEIGHBOUR: 'it returns false'. Refute it at one input. -/
def demarkNewsWrong : ChangeSpec := { name := "demarkNews", fn := fun _ => fun
  | [d1, d2] => { results := [.lit (.bool false)], args := [d1, d2] }
  | _ => none }
def DemarkNewsWrongFalsely : Prop := demarkNewsRow.holds Try.pinned (OpenSpec.ofChange demarkNewsWrong)

/- THE SECOND FORM. 'bulk': how many values and letters a reading holds, each counted each time it is reached (what is shared counts as often as it is met; a slice's spare places count too). A statement '..UptoSaid' is the law's where the arguments, and the package variables that the reading takes, are together of bulk at most 1048576: NARROWER than '..Said'. Prove '..Said' where nothing that the law and all that it calls make is longer than what came in: it says more and counts as full. Else prove '..UptoSaid'. A law counts once. -/
mutual
def uptoBulk {H : Type} : DataW H → Nat
  | .lit (.string bytes) => bytes.length + 1
  | .lit _ => 1
  | .nil => 1
  | .ptr d => uptoBulk d + 1
  | .slice elems spare => uptoBulkAll elems + uptoBulkAll spare + 1
  | .agg parts => uptoBulkAll parts + 1
  | .iface _ d => uptoBulk d + 1
  | .map entries => uptoBulkEntries entries + 1
  | .held _ => 1
def uptoBulkAll {H : Type} : List (DataW H) → Nat
  | [] => 0
  | d :: r => uptoBulk d + uptoBulkAll r
def uptoBulkEntries {H : Type} : List (Lit × DataW H) → Nat
  | [] => 0
  | x :: r => uptoBulkEntry x + uptoBulkEntries r
def uptoBulkEntry {H : Type} : Lit × DataW H → Nat
  | (.string bytes, d) => bytes.length + uptoBulk d + 1
  | (_, d) => uptoBulk d + 1
 end
def uptoSmall : (H : Type) → List (DataW H) → Bool := fun _ ds => decide (uptoBulkAll ds ≤ 1048576)
def OpenSpec.upto (s : _root_.Go.ChangeSpec) : _root_.Go.OpenSpec := { _root_.Go.OpenSpec.ofChange s with cond := some uptoSmall }

/-- 'truchmanlaw06.RpcSame', WHERE WHAT IT READS IS OF BULK AT MOST 1048576: true; the input reads as it did. -/
def rpcSameUptoRow : OpenClaim := { program := "ytfoifcilacbipaa", sum := "4666a21924557f37021c3712e4188bf91723646a9565447c7fe16d892ec4f48c", func := "truchman/truchmanlaw06.RpcSame", spec := "rpcSame", apart := false, narrowed := true }
def RpcSameUptoSaid : Prop := rpcSameUptoRow.holds Try.pinned (OpenSpec.upto rpcSameSpec)

/-- 'truchmanlaw06.RpcWrites', WHERE WHAT IT READS IS OF BULK AT MOST 1048576: true; the input reads as it did. -/
def rpcWritesUptoRow : OpenClaim := { program := "ytfoifcilacbipaa", sum := "4666a21924557f37021c3712e4188bf91723646a9565447c7fe16d892ec4f48c", func := "truchman/truchmanlaw06.RpcWrites", spec := "rpcWrites", unfollowed := true, recurses := true, apart := false, narrowed := true }
def RpcWritesUptoSaid : Prop := rpcWritesUptoRow.holds Try.pinned (OpenSpec.upto rpcWritesSpec)

/-- 'truchmanlaw04.DemarkFeeds', WHERE WHAT IT READS IS OF BULK AT MOST 1048576: true; the input reads as it did. -/
def demarkFeedsUptoRow : OpenClaim := { program := "ytfoifcilacbipaa", sum := "4666a21924557f37021c3712e4188bf91723646a9565447c7fe16d892ec4f48c", func := "truchman/truchmanlaw04.DemarkFeeds", spec := "demarkFeeds", unfollowed := true, recurses := true, apart := false, narrowed := true }
def DemarkFeedsUptoSaid : Prop := demarkFeedsUptoRow.holds Try.pinned (OpenSpec.upto demarkFeedsSpec)

/-- 'truchmanlaw04.DemarkRound', WHERE WHAT IT READS IS OF BULK AT MOST 1048576: true; the input reads as it did. -/
def demarkRoundUptoRow : OpenClaim := { program := "ytfoifcilacbipaa", sum := "4666a21924557f37021c3712e4188bf91723646a9565447c7fe16d892ec4f48c", func := "truchman/truchmanlaw04.DemarkRound", spec := "demarkRound", unfollowed := true, recurses := true, apart := false, narrowed := true }
def DemarkRoundUptoSaid : Prop := demarkRoundUptoRow.holds Try.pinned (OpenSpec.upto demarkRoundSpec)

/-- 'truchmanlaw04.DemarkCuts', WHERE WHAT IT READS IS OF BULK AT MOST 1048576: true; the input reads as it did. -/
def demarkCutsUptoRow : OpenClaim := { program := "ytfoifcilacbipaa", sum := "4666a21924557f37021c3712e4188bf91723646a9565447c7fe16d892ec4f48c", func := "truchman/truchmanlaw04.DemarkCuts", spec := "demarkCuts", unfollowed := true, recurses := true, apart := false, narrowed := true }
def DemarkCutsUptoSaid : Prop := demarkCutsUptoRow.holds Try.pinned (OpenSpec.upto demarkCutsSpec)

/-- 'truchmanlaw04.DemarkErrors', WHERE WHAT IT READS IS OF BULK AT MOST 1048576: true; the input reads as it did. -/
def demarkErrorsUptoRow : OpenClaim := { program := "ytfoifcilacbipaa", sum := "4666a21924557f37021c3712e4188bf91723646a9565447c7fe16d892ec4f48c", func := "truchman/truchmanlaw04.DemarkErrors", spec := "demarkErrors", unfollowed := true, recurses := true, apart := false, narrowed := true }
def DemarkErrorsUptoSaid : Prop := demarkErrorsUptoRow.holds Try.pinned (OpenSpec.upto demarkErrorsSpec)

/-- 'truchmanlaw04.DemarkNews', WHERE WHAT IT READS IS OF BULK AT MOST 1048576: true; the input reads as it did. -/
def demarkNewsUptoRow : OpenClaim := { program := "ytfoifcilacbipaa", sum := "4666a21924557f37021c3712e4188bf91723646a9565447c7fe16d892ec4f48c", func := "truchman/truchmanlaw04.DemarkNews", spec := "demarkNews", unfollowed := true, recurses := true, apart := false, narrowed := true }
def DemarkNewsUptoSaid : Prop := demarkNewsUptoRow.holds Try.pinned (OpenSpec.upto demarkNewsSpec)

end Rows
end Go.Proofs.Ytfoifcilacbipaa
