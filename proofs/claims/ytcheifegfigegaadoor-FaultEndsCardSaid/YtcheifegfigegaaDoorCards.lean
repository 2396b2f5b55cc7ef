/-
  DERIVED. GIVEN WITH THE SEED: THE CARDS: each row of YtcheifegfigegaaDoorRows.lean that lists a variable, with what it lists TIED to the program's text (the seventh form; the later family's looks); each row that meets fmt, with fmt's text TOLD by the authors' own Lean function (tested against real Go, not proved from fmt's source: count such statements apart). THE CARD IS WHAT COUNTS. Prove the row's statement (the work); the ties are given (YtcheifegfigegaaDoorTie.lean); close each card by the builder's one call (the guide's Derived/Test/ToyasCard.lean, 'card_holds'). Laid BY PROGRAM, IN A SANDBOX (cutbox-door.mjs). By AI agents, Wed Nov 11 2026. No macro, syntax, notation, axiom, sorry.
-/
import Derived.Test.YtcheifegfigegaaDoorRows
import GoSem.ClaimSeven
namespace Go.Proofs.YtcheifegfigegaaDoor
namespace Rows

/-- THE TIED CARD OF 'crossbucklaw01.FaultMakes'. -/
def faultMakesCard : Claim7 := { stood := { row := faultMakesRow, standIns := [], harness := (true, "69a6a9c9acd1c92980b18b91ba5c887376c40695db6e6ed1737abb773f29e907"), looks := true }, kinds := [], alts := [], laidByText := true, laidKinds := [.data, .data, .data, .handle], laidTests := true, laidLooks := .later }
def FaultMakesCardSaid : Prop := Claim7.holds Tryd.pinned (.plain (OpenSpec.ofChange faultMakesSpec)) faultMakesCard

/-- THE TIED CARD OF 'crossbucklaw01.FaultIs'. -/
def faultIsCard : Claim7 := { stood := { row := faultIsRow, standIns := [], harness := (true, "69a6a9c9acd1c92980b18b91ba5c887376c40695db6e6ed1737abb773f29e907"), looks := true }, kinds := [], alts := [], laidByText := true, laidKinds := [.handle], laidTests := true, laidLooks := .later }
def FaultIsCardSaid : Prop := Claim7.holds Tryd.pinned (.plain (OpenSpec.ofChange faultIsSpec)) faultIsCard

/-- THE TIED CARD OF 'crossbucklaw01.FaultFinds'. -/
def faultFindsCard : Claim7 := { stood := { row := faultFindsRow, standIns := [], harness := (true, "69a6a9c9acd1c92980b18b91ba5c887376c40695db6e6ed1737abb773f29e907"), looks := true }, kinds := [], alts := [], laidByText := true, laidKinds := [.handle], laidTests := true, laidLooks := .later }
def FaultFindsCardSaid : Prop := Claim7.holds Tryd.pinned (.plain (OpenSpec.ofChange faultFindsSpec)) faultFindsCard

/-- THE TIED CARD OF 'crossbucklaw01.FaultDeep'. -/
def faultDeepCard : Claim7 := { stood := { row := faultDeepRow, standIns := [], harness := (true, "69a6a9c9acd1c92980b18b91ba5c887376c40695db6e6ed1737abb773f29e907"), looks := true }, kinds := [], alts := [], laidByText := true, laidKinds := [.handle], laidTests := true, laidLooks := .later }
def FaultDeepCardSaid : Prop := Claim7.holds Tryd.pinned (.plain (OpenSpec.ofChange faultDeepSpec)) faultDeepCard

/-- THE TIED CARD OF 'crossbucklaw01.FaultEnds'. -/
def faultEndsCard : Claim7 := { stood := { row := faultEndsRow, standIns := [], harness := (true, "69a6a9c9acd1c92980b18b91ba5c887376c40695db6e6ed1737abb773f29e907"), looks := true }, kinds := [], alts := [], laidByText := true, laidKinds := [.data, .data, .data, .handle], laidTests := true, laidLooks := .later }
def FaultEndsCardSaid : Prop := Claim7.holds Tryd.pinned (.plain (OpenSpec.ofChange faultEndsSpec)) faultEndsCard

/-- THE TIED CARD OF 'crossbucklaw01.FaultPlain'. -/
def faultPlainCard : Claim7 := { stood := { row := faultPlainRow, standIns := [], harness := (true, "69a6a9c9acd1c92980b18b91ba5c887376c40695db6e6ed1737abb773f29e907"), looks := true }, kinds := [], alts := [], laidByText := true, laidKinds := [.handle], laidTests := true, laidLooks := .later }
def FaultPlainCardSaid : Prop := Claim7.holds Tryd.pinned (.plain (OpenSpec.ofChange faultPlainSpec)) faultPlainCard

/-- THE SECOND FORM's CARD OF 'crossbucklaw01.FaultMakes'. -/
def faultMakesUptoCard : Claim7 := { stood := { row := faultMakesUptoRow, standIns := [], harness := (true, "69a6a9c9acd1c92980b18b91ba5c887376c40695db6e6ed1737abb773f29e907"), looks := true }, kinds := [], alts := [], laidByText := true, laidKinds := [.data, .data, .data, .handle], laidTests := true, laidLooks := .later }
def FaultMakesUptoCardSaid : Prop := Claim7.holds Tryd.pinned (.plain (OpenSpec.upto faultMakesSpec)) faultMakesUptoCard

/-- THE SECOND FORM's CARD OF 'crossbucklaw01.FaultIs'. -/
def faultIsUptoCard : Claim7 := { stood := { row := faultIsUptoRow, standIns := [], harness := (true, "69a6a9c9acd1c92980b18b91ba5c887376c40695db6e6ed1737abb773f29e907"), looks := true }, kinds := [], alts := [], laidByText := true, laidKinds := [.handle], laidTests := true, laidLooks := .later }
def FaultIsUptoCardSaid : Prop := Claim7.holds Tryd.pinned (.plain (OpenSpec.upto faultIsSpec)) faultIsUptoCard

/-- THE SECOND FORM's CARD OF 'crossbucklaw01.FaultFinds'. -/
def faultFindsUptoCard : Claim7 := { stood := { row := faultFindsUptoRow, standIns := [], harness := (true, "69a6a9c9acd1c92980b18b91ba5c887376c40695db6e6ed1737abb773f29e907"), looks := true }, kinds := [], alts := [], laidByText := true, laidKinds := [.handle], laidTests := true, laidLooks := .later }
def FaultFindsUptoCardSaid : Prop := Claim7.holds Tryd.pinned (.plain (OpenSpec.upto faultFindsSpec)) faultFindsUptoCard

/-- THE SECOND FORM's CARD OF 'crossbucklaw01.FaultDeep'. -/
def faultDeepUptoCard : Claim7 := { stood := { row := faultDeepUptoRow, standIns := [], harness := (true, "69a6a9c9acd1c92980b18b91ba5c887376c40695db6e6ed1737abb773f29e907"), looks := true }, kinds := [], alts := [], laidByText := true, laidKinds := [.handle], laidTests := true, laidLooks := .later }
def FaultDeepUptoCardSaid : Prop := Claim7.holds Tryd.pinned (.plain (OpenSpec.upto faultDeepSpec)) faultDeepUptoCard

/-- THE SECOND FORM's CARD OF 'crossbucklaw01.FaultEnds'. -/
def faultEndsUptoCard : Claim7 := { stood := { row := faultEndsUptoRow, standIns := [], harness := (true, "69a6a9c9acd1c92980b18b91ba5c887376c40695db6e6ed1737abb773f29e907"), looks := true }, kinds := [], alts := [], laidByText := true, laidKinds := [.data, .data, .data, .handle], laidTests := true, laidLooks := .later }
def FaultEndsUptoCardSaid : Prop := Claim7.holds Tryd.pinned (.plain (OpenSpec.upto faultEndsSpec)) faultEndsUptoCard

/-- THE SECOND FORM's CARD OF 'crossbucklaw01.FaultPlain'. -/
def faultPlainUptoCard : Claim7 := { stood := { row := faultPlainUptoRow, standIns := [], harness := (true, "69a6a9c9acd1c92980b18b91ba5c887376c40695db6e6ed1737abb773f29e907"), looks := true }, kinds := [], alts := [], laidByText := true, laidKinds := [.handle], laidTests := true, laidLooks := .later }
def FaultPlainUptoCardSaid : Prop := Claim7.holds Tryd.pinned (.plain (OpenSpec.upto faultPlainSpec)) faultPlainUptoCard
end Rows
end Go.Proofs.YtcheifegfigegaaDoor
