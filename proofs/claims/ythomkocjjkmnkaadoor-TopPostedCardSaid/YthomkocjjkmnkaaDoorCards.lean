/-
  DERIVED. GIVEN WITH THE SEED: THE CARDS: each row of YthomkocjjkmnkaaDoorRows.lean that lists a variable, with what it lists TIED to the program's text (the seventh form; the later family's looks); each row that meets fmt, with fmt's text TOLD by the authors' own Lean function (tested against real Go, not proved from fmt's source: count such statements apart). THE CARD IS WHAT COUNTS. Prove the row's statement (the work); the ties are given (YthomkocjjkmnkaaDoorTie.lean); close each card by the builder's one call (the guide's Derived/Test/ToyasCard.lean, 'card_holds'). Laid BY PROGRAM, IN A SANDBOX (cutbox-door.mjs). By AI agents, Wed Nov 11 2026. No macro, syntax, notation, axiom, sorry.
-/
import Derived.Test.YthomkocjjkmnkaaDoorRows
import GoSem.ClaimSeven
namespace Go.Proofs.YthomkocjjkmnkaaDoor
namespace Rows

/-- THE TIED CARD OF 'starlingtop.TopPosted'. -/
def topPostedCard : Claim7 := { stood := { row := topPostedRow, standIns := [], harness := (true, "b1fea6a3359dede24e04ce9319008e898ea9229be0ea09c42d0c92c005644dfb"), looks := true }, kinds := [], alts := [], laidByText := true, laidKinds := [.data], laidTests := true, laidLooks := .later }
def TopPostedCardSaid : Prop := Claim7.holds Tryd.pinned (.plain (OpenSpec.ofChange topPostedSpec)) topPostedCard

/-- THE TIED CARD OF 'starlingtop.TopTracked'. -/
def topTrackedCard : Claim7 := { stood := { row := topTrackedRow, standIns := [], harness := (true, "b1fea6a3359dede24e04ce9319008e898ea9229be0ea09c42d0c92c005644dfb"), looks := true }, kinds := [], alts := [], laidByText := true, laidKinds := [.data], laidTests := true, laidLooks := .later }
def TopTrackedCardSaid : Prop := Claim7.holds Tryd.pinned (.plain (OpenSpec.ofChange topTrackedSpec)) topTrackedCard

/-- THE TIED CARD OF 'starlingtop.TopKnown'. -/
def topKnownCard : Claim7 := { stood := { row := topKnownRow, standIns := [], harness := (true, "b1fea6a3359dede24e04ce9319008e898ea9229be0ea09c42d0c92c005644dfb"), looks := true }, kinds := [], alts := [], laidByText := true, laidKinds := [.data], laidTests := true, laidLooks := .later }
def TopKnownCardSaid : Prop := Claim7.holds Tryd.pinned (.plain (OpenSpec.ofChange topKnownSpec)) topKnownCard

/-- THE TIED CARD OF 'starlingtop.TopKept'. -/
def topKeptCard : Claim7 := { stood := { row := topKeptRow, standIns := [], harness := (true, "b1fea6a3359dede24e04ce9319008e898ea9229be0ea09c42d0c92c005644dfb"), looks := true }, kinds := [], alts := [], laidByText := true, laidKinds := [.data], laidTests := true, laidLooks := .later }
def TopKeptCardSaid : Prop := Claim7.holds Tryd.pinned (.plain (OpenSpec.ofChange topKeptSpec)) topKeptCard

/-- THE TIED CARD OF 'starlingtop.TopFair'. -/
def topFairCard : Claim7 := { stood := { row := topFairRow, standIns := [], harness := (true, "b1fea6a3359dede24e04ce9319008e898ea9229be0ea09c42d0c92c005644dfb"), looks := true }, kinds := [], alts := [], laidByText := true, laidKinds := [.data], laidTests := true, laidLooks := .later }
def TopFairCardSaid : Prop := Claim7.holds Tryd.pinned (.plain (OpenSpec.ofChange topFairSpec)) topFairCard

/-- THE SECOND FORM's CARD OF 'starlingtop.TopPosted'. -/
def topPostedUptoCard : Claim7 := { stood := { row := topPostedUptoRow, standIns := [], harness := (true, "b1fea6a3359dede24e04ce9319008e898ea9229be0ea09c42d0c92c005644dfb"), looks := true }, kinds := [], alts := [], laidByText := true, laidKinds := [.data], laidTests := true, laidLooks := .later }
def TopPostedUptoCardSaid : Prop := Claim7.holds Tryd.pinned (.plain (OpenSpec.upto topPostedSpec)) topPostedUptoCard

/-- THE SECOND FORM's CARD OF 'starlingtop.TopTracked'. -/
def topTrackedUptoCard : Claim7 := { stood := { row := topTrackedUptoRow, standIns := [], harness := (true, "b1fea6a3359dede24e04ce9319008e898ea9229be0ea09c42d0c92c005644dfb"), looks := true }, kinds := [], alts := [], laidByText := true, laidKinds := [.data], laidTests := true, laidLooks := .later }
def TopTrackedUptoCardSaid : Prop := Claim7.holds Tryd.pinned (.plain (OpenSpec.upto topTrackedSpec)) topTrackedUptoCard

/-- THE SECOND FORM's CARD OF 'starlingtop.TopKnown'. -/
def topKnownUptoCard : Claim7 := { stood := { row := topKnownUptoRow, standIns := [], harness := (true, "b1fea6a3359dede24e04ce9319008e898ea9229be0ea09c42d0c92c005644dfb"), looks := true }, kinds := [], alts := [], laidByText := true, laidKinds := [.data], laidTests := true, laidLooks := .later }
def TopKnownUptoCardSaid : Prop := Claim7.holds Tryd.pinned (.plain (OpenSpec.upto topKnownSpec)) topKnownUptoCard

/-- THE SECOND FORM's CARD OF 'starlingtop.TopKept'. -/
def topKeptUptoCard : Claim7 := { stood := { row := topKeptUptoRow, standIns := [], harness := (true, "b1fea6a3359dede24e04ce9319008e898ea9229be0ea09c42d0c92c005644dfb"), looks := true }, kinds := [], alts := [], laidByText := true, laidKinds := [.data], laidTests := true, laidLooks := .later }
def TopKeptUptoCardSaid : Prop := Claim7.holds Tryd.pinned (.plain (OpenSpec.upto topKeptSpec)) topKeptUptoCard

/-- THE SECOND FORM's CARD OF 'starlingtop.TopFair'. -/
def topFairUptoCard : Claim7 := { stood := { row := topFairUptoRow, standIns := [], harness := (true, "b1fea6a3359dede24e04ce9319008e898ea9229be0ea09c42d0c92c005644dfb"), looks := true }, kinds := [], alts := [], laidByText := true, laidKinds := [.data], laidTests := true, laidLooks := .later }
def TopFairUptoCardSaid : Prop := Claim7.holds Tryd.pinned (.plain (OpenSpec.upto topFairSpec)) topFairUptoCard
end Rows
end Go.Proofs.YthomkocjjkmnkaaDoor
