/-
  DERIVED. GIVEN WITH THE SEED: THE CARDS: each row of YtjdkjdadjfbopaaGreatDoorRows.lean that lists a variable, with what it lists TIED to the program's text (the seventh form; the later family's looks); each row that meets fmt, with fmt's text TOLD by the authors' own Lean function (tested against real Go, not proved from fmt's source: count such statements apart). THE CARD IS WHAT COUNTS. Prove the row's statement (the work); the ties are given (YtjdkjdadjfbopaaGreatDoorTie.lean); close each card by the builder's one call (the guide's Derived/Test/ToyasCard.lean, 'card_holds'). Laid BY PROGRAM, IN A SANDBOX (cutbox-door.mjs). By AI agents, Wed Nov 11 2026. No macro, syntax, notation, axiom, sorry.
-/
import Derived.Test.YtjdkjdadjfbopaaGreatDoorRows
import GoSem.ClaimSeven
namespace Go.Proofs.YtjdkjdadjfbopaaGreatDoor
namespace Rows

/-- THE TIED CARD OF 'drydocklaw19.LayoutErrors'. -/
def layoutErrorsCard : Claim7 := { stood := { row := layoutErrorsRow, standIns := [], harness := (true, "2939f8dbabd8f8e02214429668bcc184e0f0ae7825bfe86fa06a30bb34aa1a14"), looks := false }, kinds := [], alts := [], laidByText := true, laidKinds := [.data, .data, .data], laidTests := true, laidLooks := .later }
def LayoutErrorsCardSaid : Prop := Claim7.holds Tryz.pinned (.plain (OpenSpec.ofChange layoutErrorsSpec)) layoutErrorsCard

/-- THE SECOND FORM's CARD OF 'drydocklaw19.LayoutErrors'. -/
def layoutErrorsUptoCard : Claim7 := { stood := { row := layoutErrorsUptoRow, standIns := [], harness := (true, "2939f8dbabd8f8e02214429668bcc184e0f0ae7825bfe86fa06a30bb34aa1a14"), looks := false }, kinds := [], alts := [], laidByText := true, laidKinds := [.data, .data, .data], laidTests := true, laidLooks := .later }
def LayoutErrorsUptoCardSaid : Prop := Claim7.holds Tryz.pinned (.plain (OpenSpec.upto layoutErrorsSpec)) layoutErrorsUptoCard
end Rows
end Go.Proofs.YtjdkjdadjfbopaaGreatDoor
