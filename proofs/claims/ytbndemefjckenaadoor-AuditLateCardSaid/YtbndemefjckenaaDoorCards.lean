/-
  DERIVED. GIVEN WITH THE SEED: THE CARDS: each row of YtbndemefjckenaaDoorRows.lean that lists a variable, with what it lists TIED to the program's text (the seventh form; the later family's looks); each row that meets fmt, with fmt's text TOLD by the authors' own Lean function (tested against real Go, not proved from fmt's source: count such statements apart). THE CARD IS WHAT COUNTS. Prove the row's statement (the work); the ties are given (YtbndemefjckenaaDoorTie.lean); close each card by the builder's one call (the guide's Derived/Test/ToyasCard.lean, 'card_holds'). Laid BY PROGRAM, IN A SANDBOX (cutbox-door.mjs). By AI agents, Wed Nov 11 2026. No macro, syntax, notation, axiom, sorry.
-/
import Derived.Test.YtbndemefjckenaaDoorRows
import GoSem.ClaimSeven
namespace Go.Proofs.YtbndemefjckenaaDoor
namespace Rows

/-- THE TIED CARD OF 'baileelaw24.AuditHonest'. -/
def auditHonestCard : Claim7 := { stood := { row := auditHonestRow, standIns := [], harness := (true, "c576fde983c7ce05e6cd382b91897468294c3cd738747027aadf3427abc2070e"), looks := false }, kinds := [], alts := [], laidByText := true, laidKinds := [.data], laidTests := true, laidLooks := .later }
def AuditHonestCardSaid : Prop := Claim7.holds Tryd.pinned (.plain (OpenSpec.ofChange auditHonestSpec)) auditHonestCard

/-- THE TIED CARD OF 'baileelaw24.AuditTells'. -/
def auditTellsCard : Claim7 := { stood := { row := auditTellsRow, standIns := [], harness := (true, "c576fde983c7ce05e6cd382b91897468294c3cd738747027aadf3427abc2070e"), looks := false }, kinds := [], alts := [], laidByText := true, laidKinds := [.data], laidTests := true, laidLooks := .later }
def AuditTellsCardSaid : Prop := Claim7.holds Tryd.pinned (.plain (OpenSpec.ofChange auditTellsSpec)) auditTellsCard

/-- THE TIED CARD OF 'baileelaw24.AuditPlays'. -/
def auditPlaysCard : Claim7 := { stood := { row := auditPlaysRow, standIns := [], harness := (true, "c576fde983c7ce05e6cd382b91897468294c3cd738747027aadf3427abc2070e"), looks := false }, kinds := [], alts := [], laidByText := true, laidKinds := [.data], laidTests := true, laidLooks := .later }
def AuditPlaysCardSaid : Prop := Claim7.holds Tryd.pinned (.plain (OpenSpec.ofChange auditPlaysSpec)) auditPlaysCard

/-- THE TIED CARD OF 'baileelaw24.AuditLate'. -/
def auditLateCard : Claim7 := { stood := { row := auditLateRow, standIns := [], harness := (true, "c576fde983c7ce05e6cd382b91897468294c3cd738747027aadf3427abc2070e"), looks := false }, kinds := [], alts := [], laidByText := true, laidKinds := [.data], laidTests := true, laidLooks := .later }
def AuditLateCardSaid : Prop := Claim7.holds Tryd.pinned (.plain (OpenSpec.ofChange auditLateSpec)) auditLateCard

/-- THE TIED CARD OF 'baileelaw24.AuditMany'. -/
def auditManyCard : Claim7 := { stood := { row := auditManyRow, standIns := [], harness := (true, "c576fde983c7ce05e6cd382b91897468294c3cd738747027aadf3427abc2070e"), looks := false }, kinds := [], alts := [], laidByText := true, laidKinds := [.data], laidTests := true, laidLooks := .later }
def AuditManyCardSaid : Prop := Claim7.holds Tryd.pinned (.plain (OpenSpec.ofChange auditManySpec)) auditManyCard

/-- THE SECOND FORM's CARD OF 'baileelaw24.AuditHonest'. -/
def auditHonestUptoCard : Claim7 := { stood := { row := auditHonestUptoRow, standIns := [], harness := (true, "c576fde983c7ce05e6cd382b91897468294c3cd738747027aadf3427abc2070e"), looks := false }, kinds := [], alts := [], laidByText := true, laidKinds := [.data], laidTests := true, laidLooks := .later }
def AuditHonestUptoCardSaid : Prop := Claim7.holds Tryd.pinned (.plain (OpenSpec.upto auditHonestSpec)) auditHonestUptoCard

/-- THE SECOND FORM's CARD OF 'baileelaw24.AuditTells'. -/
def auditTellsUptoCard : Claim7 := { stood := { row := auditTellsUptoRow, standIns := [], harness := (true, "c576fde983c7ce05e6cd382b91897468294c3cd738747027aadf3427abc2070e"), looks := false }, kinds := [], alts := [], laidByText := true, laidKinds := [.data], laidTests := true, laidLooks := .later }
def AuditTellsUptoCardSaid : Prop := Claim7.holds Tryd.pinned (.plain (OpenSpec.upto auditTellsSpec)) auditTellsUptoCard

/-- THE SECOND FORM's CARD OF 'baileelaw24.AuditPlays'. -/
def auditPlaysUptoCard : Claim7 := { stood := { row := auditPlaysUptoRow, standIns := [], harness := (true, "c576fde983c7ce05e6cd382b91897468294c3cd738747027aadf3427abc2070e"), looks := false }, kinds := [], alts := [], laidByText := true, laidKinds := [.data], laidTests := true, laidLooks := .later }
def AuditPlaysUptoCardSaid : Prop := Claim7.holds Tryd.pinned (.plain (OpenSpec.upto auditPlaysSpec)) auditPlaysUptoCard

/-- THE SECOND FORM's CARD OF 'baileelaw24.AuditLate'. -/
def auditLateUptoCard : Claim7 := { stood := { row := auditLateUptoRow, standIns := [], harness := (true, "c576fde983c7ce05e6cd382b91897468294c3cd738747027aadf3427abc2070e"), looks := false }, kinds := [], alts := [], laidByText := true, laidKinds := [.data], laidTests := true, laidLooks := .later }
def AuditLateUptoCardSaid : Prop := Claim7.holds Tryd.pinned (.plain (OpenSpec.upto auditLateSpec)) auditLateUptoCard

/-- THE SECOND FORM's CARD OF 'baileelaw24.AuditMany'. -/
def auditManyUptoCard : Claim7 := { stood := { row := auditManyUptoRow, standIns := [], harness := (true, "c576fde983c7ce05e6cd382b91897468294c3cd738747027aadf3427abc2070e"), looks := false }, kinds := [], alts := [], laidByText := true, laidKinds := [.data], laidTests := true, laidLooks := .later }
def AuditManyUptoCardSaid : Prop := Claim7.holds Tryd.pinned (.plain (OpenSpec.upto auditManySpec)) auditManyUptoCard
end Rows
end Go.Proofs.YtbndemefjckenaaDoor
