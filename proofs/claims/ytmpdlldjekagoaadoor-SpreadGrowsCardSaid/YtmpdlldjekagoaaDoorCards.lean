/-
  DERIVED. GIVEN WITH THE SEED: THE CARDS: each row of YtmpdlldjekagoaaDoorRows.lean that lists a variable, with what it lists TIED to the program's text (the seventh form; the later family's looks); each row that meets fmt, with fmt's text TOLD by the authors' own Lean function (tested against real Go, not proved from fmt's source: count such statements apart). THE CARD IS WHAT COUNTS. Prove the row's statement (the work); the ties are given (YtmpdlldjekagoaaDoorTie.lean); close each card by the builder's one call (the guide's Derived/Test/ToyasCard.lean, 'card_holds'). Laid BY PROGRAM, IN A SANDBOX (cutbox-door.mjs). By AI agents, Wed Nov 11 2026. No macro, syntax, notation, axiom, sorry.
-/
import Derived.Test.YtmpdlldjekagoaaDoorRows
import GoSem.ClaimSeven
namespace Go.Proofs.YtmpdlldjekagoaaDoor
namespace Rows

/-- THE TIED CARD OF 'aneroidlaw08.SpreadOn'. -/
def spreadOnCard : Claim7 := { stood := { row := spreadOnRow, standIns := [], harness := (true, "8fd46b6fe991f4332dfe2421dab31bc3f793a52f7e3300fe00883dcdb1adaab9"), looks := true }, kinds := [], alts := [], laidByText := true, laidKinds := [.data, .data, .data], laidTests := true, laidLooks := .later }
def SpreadOnCardSaid : Prop := Claim7.holds Tryd.pinned (.plain (OpenSpec.ofChange spreadOnSpec)) spreadOnCard

/-- THE TIED CARD OF 'aneroidlaw08.SpreadAdds'. -/
def spreadAddsCard : Claim7 := { stood := { row := spreadAddsRow, standIns := [], harness := (true, "8fd46b6fe991f4332dfe2421dab31bc3f793a52f7e3300fe00883dcdb1adaab9"), looks := true }, kinds := [], alts := [], laidByText := true, laidKinds := [.data, .data, .data], laidTests := true, laidLooks := .later }
def SpreadAddsCardSaid : Prop := Claim7.holds Tryd.pinned (.plain (OpenSpec.ofChange spreadAddsSpec)) spreadAddsCard

/-- THE TIED CARD OF 'aneroidlaw08.SpreadGrows'. -/
def spreadGrowsCard : Claim7 := { stood := { row := spreadGrowsRow, standIns := [], harness := (true, "8fd46b6fe991f4332dfe2421dab31bc3f793a52f7e3300fe00883dcdb1adaab9"), looks := true }, kinds := [], alts := [], laidByText := true, laidKinds := [.data, .data, .data], laidTests := true, laidLooks := .later }
def SpreadGrowsCardSaid : Prop := Claim7.holds Tryd.pinned (.plain (OpenSpec.ofChange spreadGrowsSpec)) spreadGrowsCard

/-- THE TIED CARD OF 'aneroidlaw12.JosephPart'. -/
def josephPartCard : Claim7 := { stood := { row := josephPartRow, standIns := [], harness := (true, "8fd46b6fe991f4332dfe2421dab31bc3f793a52f7e3300fe00883dcdb1adaab9"), looks := true }, kinds := [], alts := [], laidByText := true, laidKinds := [.data, .data], laidTests := true, laidLooks := .later }
def JosephPartCardSaid : Prop := Claim7.holds Tryd.pinned (.plain (OpenSpec.ofChange josephPartSpec)) josephPartCard

/-- THE TIED CARD OF 'aneroidlaw12.JosephNothing'. -/
def josephNothingCard : Claim7 := { stood := { row := josephNothingRow, standIns := [], harness := (true, "8fd46b6fe991f4332dfe2421dab31bc3f793a52f7e3300fe00883dcdb1adaab9"), looks := true }, kinds := [], alts := [], laidByText := true, laidKinds := [.data, .data], laidTests := true, laidLooks := .later }
def JosephNothingCardSaid : Prop := Claim7.holds Tryd.pinned (.plain (OpenSpec.ofChange josephNothingSpec)) josephNothingCard

/-- THE TIED CARD OF 'aneroidlaw14.ParsePuts'. -/
def parsePutsCard : Claim7 := { stood := { row := parsePutsRow, standIns := [], harness := (true, "8fd46b6fe991f4332dfe2421dab31bc3f793a52f7e3300fe00883dcdb1adaab9"), looks := true }, kinds := [], alts := [], laidByText := true, laidKinds := [.data, .data, .data, .data, .sentinel, .sentinel, .pinned], laidTests := true, laidLooks := .later }
def ParsePutsCardSaid : Prop := Claim7.holds Tryd.pinned (.plain (OpenSpec.ofChange parsePutsSpec)) parsePutsCard

/-- THE TIED CARD OF 'aneroidlaw14.ParseGets'. -/
def parseGetsCard : Claim7 := { stood := { row := parseGetsRow, standIns := [], harness := (true, "8fd46b6fe991f4332dfe2421dab31bc3f793a52f7e3300fe00883dcdb1adaab9"), looks := true }, kinds := [], alts := [], laidByText := true, laidKinds := [.data, .data, .data, .data, .sentinel, .sentinel, .pinned], laidTests := true, laidLooks := .later }
def ParseGetsCardSaid : Prop := Claim7.holds Tryd.pinned (.plain (OpenSpec.ofChange parseGetsSpec)) parseGetsCard

/-- THE SECOND FORM's CARD OF 'aneroidlaw08.SpreadOn'. -/
def spreadOnUptoCard : Claim7 := { stood := { row := spreadOnUptoRow, standIns := [], harness := (true, "8fd46b6fe991f4332dfe2421dab31bc3f793a52f7e3300fe00883dcdb1adaab9"), looks := true }, kinds := [], alts := [], laidByText := true, laidKinds := [.data, .data, .data], laidTests := true, laidLooks := .later }
def SpreadOnUptoCardSaid : Prop := Claim7.holds Tryd.pinned (.plain (OpenSpec.upto spreadOnSpec)) spreadOnUptoCard

/-- THE SECOND FORM's CARD OF 'aneroidlaw08.SpreadAdds'. -/
def spreadAddsUptoCard : Claim7 := { stood := { row := spreadAddsUptoRow, standIns := [], harness := (true, "8fd46b6fe991f4332dfe2421dab31bc3f793a52f7e3300fe00883dcdb1adaab9"), looks := true }, kinds := [], alts := [], laidByText := true, laidKinds := [.data, .data, .data], laidTests := true, laidLooks := .later }
def SpreadAddsUptoCardSaid : Prop := Claim7.holds Tryd.pinned (.plain (OpenSpec.upto spreadAddsSpec)) spreadAddsUptoCard

/-- THE SECOND FORM's CARD OF 'aneroidlaw08.SpreadGrows'. -/
def spreadGrowsUptoCard : Claim7 := { stood := { row := spreadGrowsUptoRow, standIns := [], harness := (true, "8fd46b6fe991f4332dfe2421dab31bc3f793a52f7e3300fe00883dcdb1adaab9"), looks := true }, kinds := [], alts := [], laidByText := true, laidKinds := [.data, .data, .data], laidTests := true, laidLooks := .later }
def SpreadGrowsUptoCardSaid : Prop := Claim7.holds Tryd.pinned (.plain (OpenSpec.upto spreadGrowsSpec)) spreadGrowsUptoCard

/-- THE SECOND FORM's CARD OF 'aneroidlaw12.JosephPart'. -/
def josephPartUptoCard : Claim7 := { stood := { row := josephPartUptoRow, standIns := [], harness := (true, "8fd46b6fe991f4332dfe2421dab31bc3f793a52f7e3300fe00883dcdb1adaab9"), looks := true }, kinds := [], alts := [], laidByText := true, laidKinds := [.data, .data], laidTests := true, laidLooks := .later }
def JosephPartUptoCardSaid : Prop := Claim7.holds Tryd.pinned (.plain (OpenSpec.upto josephPartSpec)) josephPartUptoCard

/-- THE SECOND FORM's CARD OF 'aneroidlaw12.JosephNothing'. -/
def josephNothingUptoCard : Claim7 := { stood := { row := josephNothingUptoRow, standIns := [], harness := (true, "8fd46b6fe991f4332dfe2421dab31bc3f793a52f7e3300fe00883dcdb1adaab9"), looks := true }, kinds := [], alts := [], laidByText := true, laidKinds := [.data, .data], laidTests := true, laidLooks := .later }
def JosephNothingUptoCardSaid : Prop := Claim7.holds Tryd.pinned (.plain (OpenSpec.upto josephNothingSpec)) josephNothingUptoCard

/-- THE SECOND FORM's CARD OF 'aneroidlaw14.ParsePuts'. -/
def parsePutsUptoCard : Claim7 := { stood := { row := parsePutsUptoRow, standIns := [], harness := (true, "8fd46b6fe991f4332dfe2421dab31bc3f793a52f7e3300fe00883dcdb1adaab9"), looks := true }, kinds := [], alts := [], laidByText := true, laidKinds := [.data, .data, .data, .data, .sentinel, .sentinel, .pinned], laidTests := true, laidLooks := .later }
def ParsePutsUptoCardSaid : Prop := Claim7.holds Tryd.pinned (.plain (OpenSpec.upto parsePutsSpec)) parsePutsUptoCard

/-- THE SECOND FORM's CARD OF 'aneroidlaw14.ParseGets'. -/
def parseGetsUptoCard : Claim7 := { stood := { row := parseGetsUptoRow, standIns := [], harness := (true, "8fd46b6fe991f4332dfe2421dab31bc3f793a52f7e3300fe00883dcdb1adaab9"), looks := true }, kinds := [], alts := [], laidByText := true, laidKinds := [.data, .data, .data, .data, .sentinel, .sentinel, .pinned], laidTests := true, laidLooks := .later }
def ParseGetsUptoCardSaid : Prop := Claim7.holds Tryd.pinned (.plain (OpenSpec.upto parseGetsSpec)) parseGetsUptoCard
end Rows
end Go.Proofs.YtmpdlldjekagoaaDoor
