/-
  DERIVED. GIVEN WITH THE SEED: THE CARDS: each row of YtemadfllannljaaDoorRows.lean that lists a variable, with what it lists TIED to the program's text (the seventh form; the later family's looks); each row that meets fmt, with fmt's text TOLD by the authors' own Lean function (tested against real Go, not proved from fmt's source: count such statements apart). THE CARD IS WHAT COUNTS. Prove the row's statement (the work); the ties are given (YtemadfllannljaaDoorTie.lean); close each card by the builder's one call (the guide's Derived/Test/ToyasCard.lean, 'card_holds'). Laid BY PROGRAM, IN A SANDBOX (cutbox-door.mjs). By AI agents, Wed Nov 11 2026. No macro, syntax, notation, axiom, sorry.
-/
import Derived.Test.YtemadfllannljaaDoorRows
import GoSem.ClaimSeven
namespace Go.Proofs.YtemadfllannljaaDoor
namespace Rows

/-- THE TIED CARD OF 'truchmanlaw08.CodesOf'. -/
def codesOfCard : Claim7 := { stood := { row := codesOfRow, standIns := [], harness := (true, "fc6f4a88475c5865493f21372617b2ba0c5b3d398b449f0b3881279e2706153c"), looks := false }, kinds := [], alts := [], laidByText := true, laidKinds := [.data], laidTests := true, laidLooks := .later }
def CodesOfCardSaid : Prop := Claim7.holds Tryd.pinned (.plain (OpenSpec.ofChange codesOfSpec)) codesOfCard

/-- THE TIED CARD OF 'truchmanlaw08.CodesFrom'. -/
def codesFromCard : Claim7 := { stood := { row := codesFromRow, standIns := [], harness := (true, "fc6f4a88475c5865493f21372617b2ba0c5b3d398b449f0b3881279e2706153c"), looks := false }, kinds := [], alts := [], laidByText := true, laidKinds := [.data], laidTests := true, laidLooks := .later }
def CodesFromCardSaid : Prop := Claim7.holds Tryd.pinned (.plain (OpenSpec.ofChange codesFromSpec)) codesFromCard

/-- THE TIED CARD OF 'truchmanlaw08.CodesTotal'. -/
def codesTotalCard : Claim7 := { stood := { row := codesTotalRow, standIns := [], harness := (true, "fc6f4a88475c5865493f21372617b2ba0c5b3d398b449f0b3881279e2706153c"), looks := false }, kinds := [], alts := [], laidByText := true, laidKinds := [.data], laidTests := true, laidLooks := .later }
def CodesTotalCardSaid : Prop := Claim7.holds Tryd.pinned (.plain (OpenSpec.ofChange codesTotalSpec)) codesTotalCard

/-- THE TIED CARD OF 'truchmanlaw08.CodesOwns'. -/
def codesOwnsCard : Claim7 := { stood := { row := codesOwnsRow, standIns := [], harness := (true, "fc6f4a88475c5865493f21372617b2ba0c5b3d398b449f0b3881279e2706153c"), looks := false }, kinds := [], alts := [], laidByText := true, laidKinds := [.data], laidTests := true, laidLooks := .later }
def CodesOwnsCardSaid : Prop := Claim7.holds Tryd.pinned (.plain (OpenSpec.ofChange codesOwnsSpec)) codesOwnsCard

/-- THE TIED CARD OF 'truchmanlaw08.CodesRound'. -/
def codesRoundCard : Claim7 := { stood := { row := codesRoundRow, standIns := [], harness := (true, "fc6f4a88475c5865493f21372617b2ba0c5b3d398b449f0b3881279e2706153c"), looks := false }, kinds := [], alts := [], laidByText := true, laidKinds := [.data], laidTests := true, laidLooks := .later }
def CodesRoundCardSaid : Prop := Claim7.holds Tryd.pinned (.plain (OpenSpec.ofChange codesRoundSpec)) codesRoundCard

/-- THE SECOND FORM's CARD OF 'truchmanlaw08.CodesOf'. -/
def codesOfUptoCard : Claim7 := { stood := { row := codesOfUptoRow, standIns := [], harness := (true, "fc6f4a88475c5865493f21372617b2ba0c5b3d398b449f0b3881279e2706153c"), looks := false }, kinds := [], alts := [], laidByText := true, laidKinds := [.data], laidTests := true, laidLooks := .later }
def CodesOfUptoCardSaid : Prop := Claim7.holds Tryd.pinned (.plain (OpenSpec.upto codesOfSpec)) codesOfUptoCard

/-- THE SECOND FORM's CARD OF 'truchmanlaw08.CodesFrom'. -/
def codesFromUptoCard : Claim7 := { stood := { row := codesFromUptoRow, standIns := [], harness := (true, "fc6f4a88475c5865493f21372617b2ba0c5b3d398b449f0b3881279e2706153c"), looks := false }, kinds := [], alts := [], laidByText := true, laidKinds := [.data], laidTests := true, laidLooks := .later }
def CodesFromUptoCardSaid : Prop := Claim7.holds Tryd.pinned (.plain (OpenSpec.upto codesFromSpec)) codesFromUptoCard

/-- THE SECOND FORM's CARD OF 'truchmanlaw08.CodesTotal'. -/
def codesTotalUptoCard : Claim7 := { stood := { row := codesTotalUptoRow, standIns := [], harness := (true, "fc6f4a88475c5865493f21372617b2ba0c5b3d398b449f0b3881279e2706153c"), looks := false }, kinds := [], alts := [], laidByText := true, laidKinds := [.data], laidTests := true, laidLooks := .later }
def CodesTotalUptoCardSaid : Prop := Claim7.holds Tryd.pinned (.plain (OpenSpec.upto codesTotalSpec)) codesTotalUptoCard

/-- THE SECOND FORM's CARD OF 'truchmanlaw08.CodesOwns'. -/
def codesOwnsUptoCard : Claim7 := { stood := { row := codesOwnsUptoRow, standIns := [], harness := (true, "fc6f4a88475c5865493f21372617b2ba0c5b3d398b449f0b3881279e2706153c"), looks := false }, kinds := [], alts := [], laidByText := true, laidKinds := [.data], laidTests := true, laidLooks := .later }
def CodesOwnsUptoCardSaid : Prop := Claim7.holds Tryd.pinned (.plain (OpenSpec.upto codesOwnsSpec)) codesOwnsUptoCard

/-- THE SECOND FORM's CARD OF 'truchmanlaw08.CodesRound'. -/
def codesRoundUptoCard : Claim7 := { stood := { row := codesRoundUptoRow, standIns := [], harness := (true, "fc6f4a88475c5865493f21372617b2ba0c5b3d398b449f0b3881279e2706153c"), looks := false }, kinds := [], alts := [], laidByText := true, laidKinds := [.data], laidTests := true, laidLooks := .later }
def CodesRoundUptoCardSaid : Prop := Claim7.holds Tryd.pinned (.plain (OpenSpec.upto codesRoundSpec)) codesRoundUptoCard
end Rows
end Go.Proofs.YtemadfllannljaaDoor
