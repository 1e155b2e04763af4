/-
  DERIVED. GIVEN WITH THE SEED: THE CARDS: each row of YtpbnjifefoniiaaGreatDoorRows.lean that lists a variable, with what it lists TIED to the program's text (the seventh form; the later family's looks); each row that meets fmt, with fmt's text TOLD by the authors' own Lean function (tested against real Go, not proved from fmt's source: count such statements apart). THE CARD IS WHAT COUNTS. Prove the row's statement (the work); the ties are given (YtpbnjifefoniiaaGreatDoorTie.lean); close each card by the builder's one call (the guide's Derived/Test/ToyasCard.lean, 'card_holds'). Laid BY PROGRAM, IN A SANDBOX (cutbox-door.mjs). By AI agents, Wed Nov 11 2026. No macro, syntax, notation, axiom, sorry.
-/
import Derived.Test.YtpbnjifefoniiaaGreatDoorRows
import GoSem.ClaimSeven
namespace Go.Proofs.YtpbnjifefoniiaaGreatDoor
namespace Rows

/-- THE TIED CARD OF 'roundellaw18.LifeEven'. -/
def lifeEvenCard : Claim7 := { stood := { row := lifeEvenRow, standIns := [], harness := (true, "34f89f5f0ed0e37c87a271db4817c51aea4f06609f18d01bd35d34ecdfd9c30c"), looks := false }, kinds := [], alts := [], laidByText := true, laidKinds := [.data], laidTests := true, laidLooks := .later }
def LifeEvenCardSaid : Prop := Claim7.holds Tryz.pinned (.plain (OpenSpec.ofChange lifeEvenSpec)) lifeEvenCard

/-- THE TIED CARD OF 'roundellaw14.StateWhole'. -/
def stateWholeCard : Claim7 := { stood := { row := stateWholeRow, standIns := [], harness := (true, "34f89f5f0ed0e37c87a271db4817c51aea4f06609f18d01bd35d34ecdfd9c30c"), looks := false }, kinds := [], alts := [], laidByText := true, laidKinds := [.data], laidTests := true, laidLooks := .later }
def StateWholeCardSaid : Prop := Claim7.holds Tryz.pinned (.plain (OpenSpec.ofChange stateWholeSpec)) stateWholeCard

/-- THE TIED CARD OF 'roundellaw14.StateTicks'. -/
def stateTicksCard : Claim7 := { stood := { row := stateTicksRow, standIns := [], harness := (true, "34f89f5f0ed0e37c87a271db4817c51aea4f06609f18d01bd35d34ecdfd9c30c"), looks := false }, kinds := [], alts := [], laidByText := true, laidKinds := [.data], laidTests := true, laidLooks := .later }
def StateTicksCardSaid : Prop := Claim7.holds Tryz.pinned (.plain (OpenSpec.ofChange stateTicksSpec)) stateTicksCard

/-- THE TIED CARD OF 'roundellaw14.StateNaps'. -/
def stateNapsCard : Claim7 := { stood := { row := stateNapsRow, standIns := [], harness := (true, "34f89f5f0ed0e37c87a271db4817c51aea4f06609f18d01bd35d34ecdfd9c30c"), looks := false }, kinds := [], alts := [], laidByText := true, laidKinds := [.data], laidTests := true, laidLooks := .later }
def StateNapsCardSaid : Prop := Claim7.holds Tryz.pinned (.plain (OpenSpec.ofChange stateNapsSpec)) stateNapsCard

/-- THE SECOND FORM's CARD OF 'roundellaw18.LifeEven'. -/
def lifeEvenUptoCard : Claim7 := { stood := { row := lifeEvenUptoRow, standIns := [], harness := (true, "34f89f5f0ed0e37c87a271db4817c51aea4f06609f18d01bd35d34ecdfd9c30c"), looks := false }, kinds := [], alts := [], laidByText := true, laidKinds := [.data], laidTests := true, laidLooks := .later }
def LifeEvenUptoCardSaid : Prop := Claim7.holds Tryz.pinned (.plain (OpenSpec.upto lifeEvenSpec)) lifeEvenUptoCard

/-- THE SECOND FORM's CARD OF 'roundellaw14.StateWhole'. -/
def stateWholeUptoCard : Claim7 := { stood := { row := stateWholeUptoRow, standIns := [], harness := (true, "34f89f5f0ed0e37c87a271db4817c51aea4f06609f18d01bd35d34ecdfd9c30c"), looks := false }, kinds := [], alts := [], laidByText := true, laidKinds := [.data], laidTests := true, laidLooks := .later }
def StateWholeUptoCardSaid : Prop := Claim7.holds Tryz.pinned (.plain (OpenSpec.upto stateWholeSpec)) stateWholeUptoCard

/-- THE SECOND FORM's CARD OF 'roundellaw14.StateTicks'. -/
def stateTicksUptoCard : Claim7 := { stood := { row := stateTicksUptoRow, standIns := [], harness := (true, "34f89f5f0ed0e37c87a271db4817c51aea4f06609f18d01bd35d34ecdfd9c30c"), looks := false }, kinds := [], alts := [], laidByText := true, laidKinds := [.data], laidTests := true, laidLooks := .later }
def StateTicksUptoCardSaid : Prop := Claim7.holds Tryz.pinned (.plain (OpenSpec.upto stateTicksSpec)) stateTicksUptoCard

/-- THE SECOND FORM's CARD OF 'roundellaw14.StateNaps'. -/
def stateNapsUptoCard : Claim7 := { stood := { row := stateNapsUptoRow, standIns := [], harness := (true, "34f89f5f0ed0e37c87a271db4817c51aea4f06609f18d01bd35d34ecdfd9c30c"), looks := false }, kinds := [], alts := [], laidByText := true, laidKinds := [.data], laidTests := true, laidLooks := .later }
def StateNapsUptoCardSaid : Prop := Claim7.holds Tryz.pinned (.plain (OpenSpec.upto stateNapsSpec)) stateNapsUptoCard
end Rows
end Go.Proofs.YtpbnjifefoniiaaGreatDoor
