/-
  DERIVED. GIVEN WITH THE SEED: THE CARDS: each row of YtblfbanfepocnaaDoorRows.lean that lists a variable, with what it lists TIED to the program's text (the seventh form; the later family's looks); each row that meets fmt, with fmt's text TOLD by the authors' own Lean function (tested against real Go, not proved from fmt's source: count such statements apart). THE CARD IS WHAT COUNTS. Prove the row's statement (the work); the ties are given (YtblfbanfepocnaaDoorTie.lean); close each card by the builder's one call (the guide's Derived/Test/ToyasCard.lean, 'card_holds'). Laid BY PROGRAM, IN A SANDBOX (cutbox-door.mjs). By AI agents, Wed Nov 11 2026. No macro, syntax, notation, axiom, sorry.
-/
import Derived.Test.YtblfbanfepocnaaDoorRows
import GoSem.ClaimSeven
namespace Go.Proofs.YtblfbanfepocnaaDoor
namespace Rows

/-- THE TIED CARD OF 'radiolinklaw13.StreamQuarter'. -/
def streamQuarterCard : Claim7 := { stood := { row := streamQuarterRow, standIns := [], harness := (true, "c112e2109725c26ca3f9ec6a7900c4ca3929f204d3bcc6569560d263eb539e88"), looks := false }, kinds := [], alts := [], laidByText := true, laidKinds := [.data], laidTests := true, laidLooks := .later }
def StreamQuarterCardSaid : Prop := Claim7.holds Tryd.pinned (.plain (OpenSpec.ofChange streamQuarterSpec)) streamQuarterCard

/-- THE TIED CARD OF 'radiolinklaw13.StreamExact'. -/
def streamExactCard : Claim7 := { stood := { row := streamExactRow, standIns := [], harness := (true, "c112e2109725c26ca3f9ec6a7900c4ca3929f204d3bcc6569560d263eb539e88"), looks := false }, kinds := [], alts := [], laidByText := true, laidKinds := [.data], laidTests := true, laidLooks := .later }
def StreamExactCardSaid : Prop := Claim7.holds Tryd.pinned (.plain (OpenSpec.ofChange streamExactSpec)) streamExactCard

/-- THE TIED CARD OF 'radiolinklaw13.StreamLimits'. -/
def streamLimitsCard : Claim7 := { stood := { row := streamLimitsRow, standIns := [], harness := (true, "c112e2109725c26ca3f9ec6a7900c4ca3929f204d3bcc6569560d263eb539e88"), looks := false }, kinds := [], alts := [], laidByText := true, laidKinds := [.data], laidTests := true, laidLooks := .later }
def StreamLimitsCardSaid : Prop := Claim7.holds Tryd.pinned (.plain (OpenSpec.ofChange streamLimitsSpec)) streamLimitsCard

/-- THE TIED CARD OF 'radiolinklaw13.StreamTwice'. -/
def streamTwiceCard : Claim7 := { stood := { row := streamTwiceRow, standIns := [], harness := (true, "c112e2109725c26ca3f9ec6a7900c4ca3929f204d3bcc6569560d263eb539e88"), looks := false }, kinds := [], alts := [], laidByText := true, laidKinds := [.data], laidTests := true, laidLooks := .later }
def StreamTwiceCardSaid : Prop := Claim7.holds Tryd.pinned (.plain (OpenSpec.ofChange streamTwiceSpec)) streamTwiceCard

/-- THE TIED CARD OF 'radiolinklaw13.StreamBlocks'. -/
def streamBlocksCard : Claim7 := { stood := { row := streamBlocksRow, standIns := [], harness := (true, "c112e2109725c26ca3f9ec6a7900c4ca3929f204d3bcc6569560d263eb539e88"), looks := false }, kinds := [], alts := [], laidByText := true, laidKinds := [.data], laidTests := true, laidLooks := .later }
def StreamBlocksCardSaid : Prop := Claim7.holds Tryd.pinned (.plain (OpenSpec.ofChange streamBlocksSpec)) streamBlocksCard

/-- THE SECOND FORM's CARD OF 'radiolinklaw13.StreamQuarter'. -/
def streamQuarterUptoCard : Claim7 := { stood := { row := streamQuarterUptoRow, standIns := [], harness := (true, "c112e2109725c26ca3f9ec6a7900c4ca3929f204d3bcc6569560d263eb539e88"), looks := false }, kinds := [], alts := [], laidByText := true, laidKinds := [.data], laidTests := true, laidLooks := .later }
def StreamQuarterUptoCardSaid : Prop := Claim7.holds Tryd.pinned (.plain (OpenSpec.upto streamQuarterSpec)) streamQuarterUptoCard

/-- THE SECOND FORM's CARD OF 'radiolinklaw13.StreamExact'. -/
def streamExactUptoCard : Claim7 := { stood := { row := streamExactUptoRow, standIns := [], harness := (true, "c112e2109725c26ca3f9ec6a7900c4ca3929f204d3bcc6569560d263eb539e88"), looks := false }, kinds := [], alts := [], laidByText := true, laidKinds := [.data], laidTests := true, laidLooks := .later }
def StreamExactUptoCardSaid : Prop := Claim7.holds Tryd.pinned (.plain (OpenSpec.upto streamExactSpec)) streamExactUptoCard

/-- THE SECOND FORM's CARD OF 'radiolinklaw13.StreamLimits'. -/
def streamLimitsUptoCard : Claim7 := { stood := { row := streamLimitsUptoRow, standIns := [], harness := (true, "c112e2109725c26ca3f9ec6a7900c4ca3929f204d3bcc6569560d263eb539e88"), looks := false }, kinds := [], alts := [], laidByText := true, laidKinds := [.data], laidTests := true, laidLooks := .later }
def StreamLimitsUptoCardSaid : Prop := Claim7.holds Tryd.pinned (.plain (OpenSpec.upto streamLimitsSpec)) streamLimitsUptoCard

/-- THE SECOND FORM's CARD OF 'radiolinklaw13.StreamTwice'. -/
def streamTwiceUptoCard : Claim7 := { stood := { row := streamTwiceUptoRow, standIns := [], harness := (true, "c112e2109725c26ca3f9ec6a7900c4ca3929f204d3bcc6569560d263eb539e88"), looks := false }, kinds := [], alts := [], laidByText := true, laidKinds := [.data], laidTests := true, laidLooks := .later }
def StreamTwiceUptoCardSaid : Prop := Claim7.holds Tryd.pinned (.plain (OpenSpec.upto streamTwiceSpec)) streamTwiceUptoCard

/-- THE SECOND FORM's CARD OF 'radiolinklaw13.StreamBlocks'. -/
def streamBlocksUptoCard : Claim7 := { stood := { row := streamBlocksUptoRow, standIns := [], harness := (true, "c112e2109725c26ca3f9ec6a7900c4ca3929f204d3bcc6569560d263eb539e88"), looks := false }, kinds := [], alts := [], laidByText := true, laidKinds := [.data], laidTests := true, laidLooks := .later }
def StreamBlocksUptoCardSaid : Prop := Claim7.holds Tryd.pinned (.plain (OpenSpec.upto streamBlocksSpec)) streamBlocksUptoCard
end Rows
end Go.Proofs.YtblfbanfepocnaaDoor
