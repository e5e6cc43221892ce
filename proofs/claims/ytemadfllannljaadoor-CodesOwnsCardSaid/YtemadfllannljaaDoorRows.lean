/-
  NARROWER THAN 'FOR EVERY INPUT', by the rows' own cells (each row's printed sentence says how): CodesOf: laid · CodesFrom: laid · CodesTotal: laid · CodesOwns: laid · CodesRound: laid.
  DERIVED. THE GIVEN ROWS OF THIS SEAT. 5 by the template 'for every input the law returns true; each argument reads behind the call as it read before'; 0 by the template 'total and deterministic' (their statements: YtemadfllannljaaDoorTotals.lean).
  GIVEN WITH THE SEED: the statements are not yours to turn. If you find one false, say at which input.
  Laid BY PROGRAM, IN A SANDBOX (cutbox-rows.mjs): the forced cells as the released guide's own fill.sh prints them over the translation 4f3bd07da0baa6fb… (all of the seat's roots in one cut). By AI agents, Wed Nov 11 2026. No macro, syntax, notation, axiom, sorry.
-/
import Derived.Test.YtemadfllannljaaDoorChecked
import GoSem.Claim
import GoSem.ClaimJoined
import GoSem.ClaimMapViews
import Derived.JoinedTies
import Derived.KernelRfl
namespace Go.Proofs.YtemadfllannljaaDoor
/- THE CELL 'sum', in the pinned program and in every row, IS THE sha256 OF THE DUMP (.gsa) THAT YtemadfllannljaaDoorProg.lean LOADS. Nothing in Lean hashes anything: it is a label: what it is worth is what the hold of that sum in a sandbox is worth. -/
noncomputable def Tryd.pinned : Pinned := { name := "ytemadfllannljaadoor", sum := "4f3bd07da0baa6fbe67c2004c33b2e9249684a1792992ce1892a7e5de901aea5", checked := Tryd.checked }
namespace Rows
def none {H : Type} : Left H := { results := [], args := [] }

/- WHAT THE LISTED PACKAGE-LEVEL VARIABLES READ AS WHEN THE CALL BEGINS. Each datum BY PROGRAM (the guide's laid-datum.mjs) off the statement by which the dump's own 'gosem.cut.vars' lays the variable. In a bare row this is a premise. The card (YtemadfllannljaaDoorCards.lean) ties it to the program's text. -/
def laid_truchman_codes_rows {H : Type} : DataW H := .agg [.agg [.lit (.int .i64 0), .lit (.int .u32 0), .lit (.string [111, 107])], .agg [.lit (.int .i64 8), .lit (.int .u32 70), .lit (.string [115, 116, 97, 108, 101])], .agg [.lit (.int .i64 9), .lit (.int .u32 2), .lit (.string [110, 111, 32, 115, 117, 99, 104, 32, 110, 97, 109, 101])], .agg [.lit (.int .i64 10), .lit (.int .u32 17), .lit (.string [110, 97, 109, 101, 32, 101, 120, 105, 115, 116, 115])], .agg [.lit (.int .i64 11), .lit (.int .u32 20), .lit (.string [110, 111, 116, 32, 97, 32, 100, 105, 114, 101, 99, 116, 111, 114, 121])], .agg [.lit (.int .i64 12), .lit (.int .u32 21), .lit (.string [105, 115, 32, 97, 32, 100, 105, 114, 101, 99, 116, 111, 114, 121])], .agg [.lit (.int .i64 13), .lit (.int .u32 66), .lit (.string [110, 111, 116, 32, 101, 109, 112, 116, 121])], .agg [.lit (.int .i64 14), .lit (.int .u32 28), .lit (.string [110, 111, 32, 115, 112, 97, 99, 101])], .agg [.lit (.int .i64 15), .lit (.int .u32 27), .lit (.string [116, 111, 111, 32, 98, 105, 103])], .agg [.lit (.int .i64 16), .lit (.int .u32 63), .lit (.string [98, 97, 100, 32, 110, 97, 109, 101])], .agg [.lit (.int .i64 20), .lit (.int .u32 10003), .lit (.string [98, 97, 100, 32, 99, 111, 111, 107, 105, 101])], .agg [.lit (.int .i64 17), .lit (.int .u32 10101), .lit (.string [98, 97, 100, 32, 102, 105, 100])], .agg [.lit (.int .i64 18), .lit (.int .u32 10102), .lit (.string [102, 105, 100, 32, 105, 110, 32, 117, 115, 101])], .agg [.lit (.int .i64 19), .lit (.int .u32 10103), .lit (.string [98, 97, 100, 32, 109, 111, 100, 101])], .agg [.lit (.int .i64 22), .lit (.int .u32 10104), .lit (.string [102, 108, 117, 115, 104, 101, 100])], .agg [.lit (.int .i64 21), .lit (.int .u32 5), .lit (.string [105, 47, 111, 32, 101, 114, 114, 111, 114])], .agg [.lit (.int .i64 7), .lit (.int .u32 10105), .lit (.string [116, 97, 103, 32, 105, 110, 32, 117, 115, 101])], .agg [.lit (.int .i64 5), .lit (.int .u32 10106), .lit (.string [116, 111, 111, 32, 109, 97, 110, 121, 32, 114, 101, 113, 117, 101, 115, 116, 115])], .agg [.lit (.int .i64 2), .lit (.int .u32 10107), .lit (.string [98, 97, 100, 32, 109, 101, 115, 115, 97, 103, 101])]]

/-- 'truchmanlaw08.CodesOf': WHATEVER THE INPUT: true; the input reads as it did. -/
def codesOfSpec : ChangeSpec := { name := "codesOf", fn := fun _ => fun
  | [d] => { results := [.lit (.bool true)], args := [d] }
  | _ => none }
def codesOfRow : OpenClaim := { program := "ytemadfllannljaadoor", sum := "4f3bd07da0baa6fbe67c2004c33b2e9249684a1792992ce1892a7e5de901aea5", func := "truchman/truchmanlaw08.CodesOf", spec := "codesOf", unfollowed := true, recurses := true, named := ["truchman/codes.rows"], apart := false, laid := [("truchman/codes.rows", laid_truchman_codes_rows)] }
def CodesOfSaid : Prop := codesOfRow.holds Tryd.pinned (OpenSpec.ofChange codesOfSpec)

/-- ITS FALSE NEIGHBOUR: 'it returns false'. Refute it at one input. -/
def codesOfWrong : ChangeSpec := { name := "codesOf", fn := fun _ => fun
  | [d] => { results := [.lit (.bool false)], args := [d] }
  | _ => none }
def CodesOfWrongFalsely : Prop := codesOfRow.holds Tryd.pinned (OpenSpec.ofChange codesOfWrong)

/-- 'truchmanlaw08.CodesFrom': WHATEVER THE INPUT: true; the input reads as it did. -/
def codesFromSpec : ChangeSpec := { name := "codesFrom", fn := fun _ => fun
  | [d1, d2] => { results := [.lit (.bool true)], args := [d1, d2] }
  | _ => none }
def codesFromRow : OpenClaim := { program := "ytemadfllannljaadoor", sum := "4f3bd07da0baa6fbe67c2004c33b2e9249684a1792992ce1892a7e5de901aea5", func := "truchman/truchmanlaw08.CodesFrom", spec := "codesFrom", unfollowed := true, recurses := true, named := ["truchman/codes.rows"], apart := false, laid := [("truchman/codes.rows", laid_truchman_codes_rows)] }
def CodesFromSaid : Prop := codesFromRow.holds Tryd.pinned (OpenSpec.ofChange codesFromSpec)

/-- ITS FALSE NEIGHBOUR: 'it returns false'. Refute it at one input. -/
def codesFromWrong : ChangeSpec := { name := "codesFrom", fn := fun _ => fun
  | [d1, d2] => { results := [.lit (.bool false)], args := [d1, d2] }
  | _ => none }
def CodesFromWrongFalsely : Prop := codesFromRow.holds Tryd.pinned (OpenSpec.ofChange codesFromWrong)

/-- 'truchmanlaw08.CodesTotal': WHATEVER THE INPUT: true; the input reads as it did. -/
def codesTotalSpec : ChangeSpec := { name := "codesTotal", fn := fun _ => fun
  | [d] => { results := [.lit (.bool true)], args := [d] }
  | _ => none }
def codesTotalRow : OpenClaim := { program := "ytemadfllannljaadoor", sum := "4f3bd07da0baa6fbe67c2004c33b2e9249684a1792992ce1892a7e5de901aea5", func := "truchman/truchmanlaw08.CodesTotal", spec := "codesTotal", unfollowed := true, recurses := true, named := ["truchman/codes.rows"], apart := false, laid := [("truchman/codes.rows", laid_truchman_codes_rows)] }
def CodesTotalSaid : Prop := codesTotalRow.holds Tryd.pinned (OpenSpec.ofChange codesTotalSpec)

/-- ITS FALSE NEIGHBOUR: 'it returns false'. Refute it at one input. -/
def codesTotalWrong : ChangeSpec := { name := "codesTotal", fn := fun _ => fun
  | [d] => { results := [.lit (.bool false)], args := [d] }
  | _ => none }
def CodesTotalWrongFalsely : Prop := codesTotalRow.holds Tryd.pinned (OpenSpec.ofChange codesTotalWrong)

/-- 'truchmanlaw08.CodesOwns': WHATEVER THE INPUT: true; the input reads as it did. -/
def codesOwnsSpec : ChangeSpec := { name := "codesOwns", fn := fun _ => fun
  | [d] => { results := [.lit (.bool true)], args := [d] }
  | _ => none }
def codesOwnsRow : OpenClaim := { program := "ytemadfllannljaadoor", sum := "4f3bd07da0baa6fbe67c2004c33b2e9249684a1792992ce1892a7e5de901aea5", func := "truchman/truchmanlaw08.CodesOwns", spec := "codesOwns", unfollowed := true, recurses := true, named := ["truchman/codes.rows"], apart := false, laid := [("truchman/codes.rows", laid_truchman_codes_rows)] }
def CodesOwnsSaid : Prop := codesOwnsRow.holds Tryd.pinned (OpenSpec.ofChange codesOwnsSpec)

/-- ITS FALSE NEIGHBOUR: 'it returns false'. Refute it at one input. -/
def codesOwnsWrong : ChangeSpec := { name := "codesOwns", fn := fun _ => fun
  | [d] => { results := [.lit (.bool false)], args := [d] }
  | _ => none }
def CodesOwnsWrongFalsely : Prop := codesOwnsRow.holds Tryd.pinned (OpenSpec.ofChange codesOwnsWrong)

/-- 'truchmanlaw08.CodesRound': WHATEVER THE INPUT: true; the input reads as it did. -/
def codesRoundSpec : ChangeSpec := { name := "codesRound", fn := fun _ => fun
  | [d1, d2] => { results := [.lit (.bool true)], args := [d1, d2] }
  | _ => none }
def codesRoundRow : OpenClaim := { program := "ytemadfllannljaadoor", sum := "4f3bd07da0baa6fbe67c2004c33b2e9249684a1792992ce1892a7e5de901aea5", func := "truchman/truchmanlaw08.CodesRound", spec := "codesRound", unfollowed := true, recurses := true, named := ["truchman/codes.rows"], apart := false, laid := [("truchman/codes.rows", laid_truchman_codes_rows)] }
def CodesRoundSaid : Prop := codesRoundRow.holds Tryd.pinned (OpenSpec.ofChange codesRoundSpec)

/-- ITS FALSE NEIGHBOUR: 'it returns false'. Refute it at one input. -/
def codesRoundWrong : ChangeSpec := { name := "codesRound", fn := fun _ => fun
  | [d1, d2] => { results := [.lit (.bool false)], args := [d1, d2] }
  | _ => none }
def CodesRoundWrongFalsely : Prop := codesRoundRow.holds Tryd.pinned (OpenSpec.ofChange codesRoundWrong)

/- THE SECOND FORM. 'bulk': how many values and letters a reading holds, each counted each time it is reached (what is shared counts as often as it is met; a slice's spare places count too). A statement '..UptoSaid' is the law's where the arguments, and the package variables that the reading takes, are together of bulk at most 1048576: NARROWER than '..Said'. Prove '..Said' where nothing that the law and all that it calls make is longer than what came in: it says more and counts as full. Else prove '..UptoSaid'. A law counts once. -/
mutual
def uptoBulk {H : Type} : DataW H → Nat
  | .lit (.string bytes) => bytes.length + 1
  | .lit _ => 1
  | .nil => 1
  | .ptr d => uptoBulk d + 1
  | .slice elems spare => uptoBulkAll elems + uptoBulkAll spare + 1
  | .agg parts => uptoBulkAll parts + 1
  | .iface _ d => uptoBulk d + 1
  | .map entries => uptoBulkEntries entries + 1
  | .held _ => 1
def uptoBulkAll {H : Type} : List (DataW H) → Nat
  | [] => 0
  | d :: r => uptoBulk d + uptoBulkAll r
def uptoBulkEntries {H : Type} : List (Lit × DataW H) → Nat
  | [] => 0
  | x :: r => uptoBulkEntry x + uptoBulkEntries r
def uptoBulkEntry {H : Type} : Lit × DataW H → Nat
  | (.string bytes, d) => bytes.length + uptoBulk d + 1
  | (_, d) => uptoBulk d + 1
 end
def uptoSmall : (H : Type) → List (DataW H) → Bool := fun _ ds => decide (uptoBulkAll ds ≤ 1048576)
def OpenSpec.upto (s : _root_.Go.ChangeSpec) : _root_.Go.OpenSpec := { _root_.Go.OpenSpec.ofChange s with cond := some uptoSmall }

/-- 'truchmanlaw08.CodesOf', WHERE WHAT IT READS IS OF BULK AT MOST 1048576: true; the input reads as it did. -/
def codesOfUptoRow : OpenClaim := { program := "ytemadfllannljaadoor", sum := "4f3bd07da0baa6fbe67c2004c33b2e9249684a1792992ce1892a7e5de901aea5", func := "truchman/truchmanlaw08.CodesOf", spec := "codesOf", unfollowed := true, recurses := true, named := ["truchman/codes.rows"], apart := false, laid := [("truchman/codes.rows", laid_truchman_codes_rows)], narrowed := true }
def CodesOfUptoSaid : Prop := codesOfUptoRow.holds Tryd.pinned (OpenSpec.upto codesOfSpec)

/-- 'truchmanlaw08.CodesFrom', WHERE WHAT IT READS IS OF BULK AT MOST 1048576: true; the input reads as it did. -/
def codesFromUptoRow : OpenClaim := { program := "ytemadfllannljaadoor", sum := "4f3bd07da0baa6fbe67c2004c33b2e9249684a1792992ce1892a7e5de901aea5", func := "truchman/truchmanlaw08.CodesFrom", spec := "codesFrom", unfollowed := true, recurses := true, named := ["truchman/codes.rows"], apart := false, laid := [("truchman/codes.rows", laid_truchman_codes_rows)], narrowed := true }
def CodesFromUptoSaid : Prop := codesFromUptoRow.holds Tryd.pinned (OpenSpec.upto codesFromSpec)

/-- 'truchmanlaw08.CodesTotal', WHERE WHAT IT READS IS OF BULK AT MOST 1048576: true; the input reads as it did. -/
def codesTotalUptoRow : OpenClaim := { program := "ytemadfllannljaadoor", sum := "4f3bd07da0baa6fbe67c2004c33b2e9249684a1792992ce1892a7e5de901aea5", func := "truchman/truchmanlaw08.CodesTotal", spec := "codesTotal", unfollowed := true, recurses := true, named := ["truchman/codes.rows"], apart := false, laid := [("truchman/codes.rows", laid_truchman_codes_rows)], narrowed := true }
def CodesTotalUptoSaid : Prop := codesTotalUptoRow.holds Tryd.pinned (OpenSpec.upto codesTotalSpec)

/-- 'truchmanlaw08.CodesOwns', WHERE WHAT IT READS IS OF BULK AT MOST 1048576: true; the input reads as it did. -/
def codesOwnsUptoRow : OpenClaim := { program := "ytemadfllannljaadoor", sum := "4f3bd07da0baa6fbe67c2004c33b2e9249684a1792992ce1892a7e5de901aea5", func := "truchman/truchmanlaw08.CodesOwns", spec := "codesOwns", unfollowed := true, recurses := true, named := ["truchman/codes.rows"], apart := false, laid := [("truchman/codes.rows", laid_truchman_codes_rows)], narrowed := true }
def CodesOwnsUptoSaid : Prop := codesOwnsUptoRow.holds Tryd.pinned (OpenSpec.upto codesOwnsSpec)

/-- 'truchmanlaw08.CodesRound', WHERE WHAT IT READS IS OF BULK AT MOST 1048576: true; the input reads as it did. -/
def codesRoundUptoRow : OpenClaim := { program := "ytemadfllannljaadoor", sum := "4f3bd07da0baa6fbe67c2004c33b2e9249684a1792992ce1892a7e5de901aea5", func := "truchman/truchmanlaw08.CodesRound", spec := "codesRound", unfollowed := true, recurses := true, named := ["truchman/codes.rows"], apart := false, laid := [("truchman/codes.rows", laid_truchman_codes_rows)], narrowed := true }
def CodesRoundUptoSaid : Prop := codesRoundUptoRow.holds Tryd.pinned (OpenSpec.upto codesRoundSpec)

end Rows
end Go.Proofs.YtemadfllannljaaDoor
