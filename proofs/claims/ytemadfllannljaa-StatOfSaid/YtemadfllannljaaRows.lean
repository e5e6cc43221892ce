/-
  No cell of these rows narrows 'for every input' (looked for: loops, veiled, ifaces, maps, wideKeys, modest, calm, conditions, laid).
  DERIVED. THE GIVEN ROWS OF THIS SEAT. 3 by the template 'for every input the law returns true; each argument reads behind the call as it read before'; 0 by the template 'total and deterministic' (their statements: YtemadfllannljaaTotals.lean).
  GIVEN WITH THE SEED: the statements are not yours to turn. If you find one false, say at which input.
  Laid BY PROGRAM, IN A SANDBOX (cutbox-rows.mjs): the forced cells as the released guide's own fill.sh prints them over the translation e9f12b251ddac954… (all of the seat's roots in one cut). By AI agents, Wed Nov 11 2026. No macro, syntax, notation, axiom, sorry.
-/
import Derived.Test.YtemadfllannljaaChecked
import GoSem.Claim
import GoSem.ClaimJoined
import GoSem.ClaimMapViews
import Derived.JoinedTies
import Derived.KernelRfl
namespace Go.Proofs.Ytemadfllannljaa
/- THE CELL 'sum', in the pinned program and in every row, IS THE sha256 OF THE DUMP (.gsa) THAT YtemadfllannljaaProg.lean LOADS. Nothing in Lean hashes anything: it is a label: what it is worth is what the hold of that sum in a sandbox is worth. -/
noncomputable def Try.pinned : Pinned := { name := "ytemadfllannljaa", sum := "e9f12b251ddac95479b5541b6754d476a172f0cf89e180c1fad81cbbe156bcc3", checked := Try.checked }
namespace Rows
def none {H : Type} : Left H := { results := [], args := [] }

/-- 'truchmanlaw19.StatPerms': WHATEVER THE INPUT: true; the input reads as it did. -/
def statPermsSpec : ChangeSpec := { name := "statPerms", fn := fun _ => fun
  | [d] => { results := [.lit (.bool true)], args := [d] }
  | _ => none }
def statPermsRow : OpenClaim := { program := "ytemadfllannljaa", sum := "e9f12b251ddac95479b5541b6754d476a172f0cf89e180c1fad81cbbe156bcc3", func := "truchman/truchmanlaw19.StatPerms", spec := "statPerms", apart := false }
def StatPermsSaid : Prop := statPermsRow.holds Try.pinned (OpenSpec.ofChange statPermsSpec)

/-- ITS FALSE NEIGHBOUR: 'it returns false'. Refute it at one input. -/
def statPermsWrong : ChangeSpec := { name := "statPerms", fn := fun _ => fun
  | [d] => { results := [.lit (.bool false)], args := [d] }
  | _ => none }
def StatPermsWrongFalsely : Prop := statPermsRow.holds Try.pinned (OpenSpec.ofChange statPermsWrong)

/-- 'truchmanlaw19.StatOf': WHATEVER THE INPUT: true; the input reads as it did. -/
def statOfSpec : ChangeSpec := { name := "statOf", fn := fun _ => fun
  | [d1, d2] => { results := [.lit (.bool true)], args := [d1, d2] }
  | _ => none }
def statOfRow : OpenClaim := { program := "ytemadfllannljaa", sum := "e9f12b251ddac95479b5541b6754d476a172f0cf89e180c1fad81cbbe156bcc3", func := "truchman/truchmanlaw19.StatOf", spec := "statOf", apart := false }
def StatOfSaid : Prop := statOfRow.holds Try.pinned (OpenSpec.ofChange statOfSpec)

/-- ITS FALSE NEIGHBOUR: 'it returns false'. Refute it at one input. -/
def statOfWrong : ChangeSpec := { name := "statOf", fn := fun _ => fun
  | [d1, d2] => { results := [.lit (.bool false)], args := [d1, d2] }
  | _ => none }
def StatOfWrongFalsely : Prop := statOfRow.holds Try.pinned (OpenSpec.ofChange statOfWrong)

/-- 'truchmanlaw19.StatPacks': WHATEVER THE INPUT: true; the input reads as it did. -/
def statPacksSpec : ChangeSpec := { name := "statPacks", fn := fun _ => fun
  | [d1, d2] => { results := [.lit (.bool true)], args := [d1, d2] }
  | _ => none }
def statPacksRow : OpenClaim := { program := "ytemadfllannljaa", sum := "e9f12b251ddac95479b5541b6754d476a172f0cf89e180c1fad81cbbe156bcc3", func := "truchman/truchmanlaw19.StatPacks", spec := "statPacks", inPlace := ["internal/bytealg.IndexByteString", "internal/bytealg.IndexString"], named := ["internal/bytealg.MaxLen"], apart := false }
def StatPacksSaid : Prop := statPacksRow.holds Try.pinned (OpenSpec.ofChange statPacksSpec)

/-- ITS FALSE NEIGHBOUR: 'it returns false'. Refute it at one input. -/
def statPacksWrong : ChangeSpec := { name := "statPacks", fn := fun _ => fun
  | [d1, d2] => { results := [.lit (.bool false)], args := [d1, d2] }
  | _ => none }
def StatPacksWrongFalsely : Prop := statPacksRow.holds Try.pinned (OpenSpec.ofChange statPacksWrong)

/- THE SECOND FORM. 'bulk': how many values and letters a reading holds, each counted each time it is reached (what is shared counts as often as it is met; a slice's spare places count too). A statement '..UptoSaid' is the law's where the arguments, and the package variables that the reading takes, are together of bulk at most 1048576: NARROWER than '..Said'. Prove '..Said' where nothing that the law and all that it calls make is longer than what came in: it says more and counts as full. Else prove '..UptoSaid'. A law counts once. -/
mutual
def uptoBulk {H : Type} : DataW H → Nat
  | .lit (.string bytes) => bytes.length + 1
  | .lit _ => 1
  | .nil => 1
  | .ptr d => uptoBulk d + 1
  | .slice elems spare => uptoBulkAll elems + uptoBulkAll spare + 1
  | .agg parts => uptoBulkAll parts + 1
  | .iface _ d => uptoBulk d + 1
  | .map entries => uptoBulkEntries entries + 1
  | .held _ => 1
def uptoBulkAll {H : Type} : List (DataW H) → Nat
  | [] => 0
  | d :: r => uptoBulk d + uptoBulkAll r
def uptoBulkEntries {H : Type} : List (Lit × DataW H) → Nat
  | [] => 0
  | x :: r => uptoBulkEntry x + uptoBulkEntries r
def uptoBulkEntry {H : Type} : Lit × DataW H → Nat
  | (.string bytes, d) => bytes.length + uptoBulk d + 1
  | (_, d) => uptoBulk d + 1
 end
def uptoSmall : (H : Type) → List (DataW H) → Bool := fun _ ds => decide (uptoBulkAll ds ≤ 1048576)
def OpenSpec.upto (s : _root_.Go.ChangeSpec) : _root_.Go.OpenSpec := { _root_.Go.OpenSpec.ofChange s with cond := some uptoSmall }

/-- 'truchmanlaw19.StatPerms', WHERE WHAT IT READS IS OF BULK AT MOST 1048576: true; the input reads as it did. -/
def statPermsUptoRow : OpenClaim := { program := "ytemadfllannljaa", sum := "e9f12b251ddac95479b5541b6754d476a172f0cf89e180c1fad81cbbe156bcc3", func := "truchman/truchmanlaw19.StatPerms", spec := "statPerms", apart := false, narrowed := true }
def StatPermsUptoSaid : Prop := statPermsUptoRow.holds Try.pinned (OpenSpec.upto statPermsSpec)

/-- 'truchmanlaw19.StatOf', WHERE WHAT IT READS IS OF BULK AT MOST 1048576: true; the input reads as it did. -/
def statOfUptoRow : OpenClaim := { program := "ytemadfllannljaa", sum := "e9f12b251ddac95479b5541b6754d476a172f0cf89e180c1fad81cbbe156bcc3", func := "truchman/truchmanlaw19.StatOf", spec := "statOf", apart := false, narrowed := true }
def StatOfUptoSaid : Prop := statOfUptoRow.holds Try.pinned (OpenSpec.upto statOfSpec)

/-- 'truchmanlaw19.StatPacks', WHERE WHAT IT READS IS OF BULK AT MOST 1048576: true; the input reads as it did. -/
def statPacksUptoRow : OpenClaim := { program := "ytemadfllannljaa", sum := "e9f12b251ddac95479b5541b6754d476a172f0cf89e180c1fad81cbbe156bcc3", func := "truchman/truchmanlaw19.StatPacks", spec := "statPacks", inPlace := ["internal/bytealg.IndexByteString", "internal/bytealg.IndexString"], named := ["internal/bytealg.MaxLen"], apart := false, narrowed := true }
def StatPacksUptoSaid : Prop := statPacksUptoRow.holds Try.pinned (OpenSpec.upto statPacksSpec)

end Rows
end Go.Proofs.Ytemadfllannljaa
