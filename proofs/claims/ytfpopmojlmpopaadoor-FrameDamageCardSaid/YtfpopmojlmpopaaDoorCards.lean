/-
  DERIVED. GIVEN WITH THE SEED: THE CARDS: each row of YtfpopmojlmpopaaDoorRows.lean that lists a variable, with what it lists TIED to the program's text (the seventh form; the later family's looks); each row that meets fmt, with fmt's text TOLD by the authors' own Lean function (tested against real Go, not proved from fmt's source: count such statements apart). THE CARD IS WHAT COUNTS. Prove the row's statement (the work); the ties are given (YtfpopmojlmpopaaDoorTie.lean); close each card by the builder's one call (the guide's Derived/Test/ToyasCard.lean, 'card_holds'). Laid BY PROGRAM, IN A SANDBOX (cutbox-door.mjs). By AI agents, Wed Nov 11 2026. No macro, syntax, notation, axiom, sorry.
-/
import Derived.Test.YtfpopmojlmpopaaDoorRows
import GoSem.ClaimSeven
namespace Go.Proofs.YtfpopmojlmpopaaDoor
namespace Rows

/-- THE TIED CARD OF 'salchowlaw49.FrameSums'. -/
def frameSumsCard : Claim7 := { stood := { row := frameSumsRow, standIns := [], harness := (true, "6b462eb325728ae18f47a0354160277bd724a72b7f62f8e01c5e16a78c976214"), looks := true }, kinds := [], alts := [], laidByText := true, laidKinds := [.data, .data, .data, .sentinel, .sentinel], laidTests := true, laidLooks := .later }
def FrameSumsCardSaid : Prop := Claim7.holds Tryd.pinned (.plain (OpenSpec.ofChange frameSumsSpec)) frameSumsCard

/-- THE TIED CARD OF 'salchowlaw49.FrameDamage'. -/
def frameDamageCard : Claim7 := { stood := { row := frameDamageRow, standIns := [], harness := (true, "6b462eb325728ae18f47a0354160277bd724a72b7f62f8e01c5e16a78c976214"), looks := true }, kinds := [], alts := [], laidByText := true, laidKinds := [.data, .data, .data, .sentinel, .sentinel], laidTests := true, laidLooks := .later }
def FrameDamageCardSaid : Prop := Claim7.holds Tryd.pinned (.plain (OpenSpec.ofChange frameDamageSpec)) frameDamageCard

/-- THE TIED CARD OF 'salchowlaw49.FrameApplies'. -/
def frameAppliesCard : Claim7 := { stood := { row := frameAppliesRow, standIns := [], harness := (true, "6b462eb325728ae18f47a0354160277bd724a72b7f62f8e01c5e16a78c976214"), looks := true }, kinds := [], alts := [], laidByText := true, laidKinds := [.data, .data, .data, .sentinel, .sentinel], laidTests := true, laidLooks := .later }
def FrameAppliesCardSaid : Prop := Claim7.holds Tryd.pinned (.plain (OpenSpec.ofChange frameAppliesSpec)) frameAppliesCard

/-- THE TIED CARD OF 'salchowlaw49.FrameDiffs'. -/
def frameDiffsCard : Claim7 := { stood := { row := frameDiffsRow, standIns := [], harness := (true, "6b462eb325728ae18f47a0354160277bd724a72b7f62f8e01c5e16a78c976214"), looks := true }, kinds := [], alts := [], laidByText := true, laidKinds := [.data, .data, .data, .sentinel, .sentinel], laidTests := true, laidLooks := .later }
def FrameDiffsCardSaid : Prop := Claim7.holds Tryd.pinned (.plain (OpenSpec.ofChange frameDiffsSpec)) frameDiffsCard

/-- THE TIED CARD OF 'salchowlaw49.FrameMakes'. -/
def frameMakesCard : Claim7 := { stood := { row := frameMakesRow, standIns := [], harness := (true, "6b462eb325728ae18f47a0354160277bd724a72b7f62f8e01c5e16a78c976214"), looks := true }, kinds := [], alts := [], laidByText := true, laidKinds := [.data, .data, .data, .sentinel, .sentinel], laidTests := true, laidLooks := .later }
def FrameMakesCardSaid : Prop := Claim7.holds Tryd.pinned (.plain (OpenSpec.ofChange frameMakesSpec)) frameMakesCard

/-- THE TIED CARD OF 'salchowlaw49.FrameLeast'. -/
def frameLeastCard : Claim7 := { stood := { row := frameLeastRow, standIns := [], harness := (true, "6b462eb325728ae18f47a0354160277bd724a72b7f62f8e01c5e16a78c976214"), looks := true }, kinds := [], alts := [], laidByText := true, laidKinds := [.data, .data, .data, .sentinel, .sentinel], laidTests := true, laidLooks := .later }
def FrameLeastCardSaid : Prop := Claim7.holds Tryd.pinned (.plain (OpenSpec.ofChange frameLeastSpec)) frameLeastCard

/-- THE TIED CARD OF 'salchowlaw49.FrameEqual'. -/
def frameEqualCard : Claim7 := { stood := { row := frameEqualRow, standIns := [], harness := (true, "6b462eb325728ae18f47a0354160277bd724a72b7f62f8e01c5e16a78c976214"), looks := true }, kinds := [], alts := [], laidByText := true, laidKinds := [.data, .data, .data, .sentinel, .sentinel], laidTests := true, laidLooks := .later }
def FrameEqualCardSaid : Prop := Claim7.holds Tryd.pinned (.plain (OpenSpec.ofChange frameEqualSpec)) frameEqualCard

/-- THE SECOND FORM's CARD OF 'salchowlaw49.FrameSums'. -/
def frameSumsUptoCard : Claim7 := { stood := { row := frameSumsUptoRow, standIns := [], harness := (true, "6b462eb325728ae18f47a0354160277bd724a72b7f62f8e01c5e16a78c976214"), looks := true }, kinds := [], alts := [], laidByText := true, laidKinds := [.data, .data, .data, .sentinel, .sentinel], laidTests := true, laidLooks := .later }
def FrameSumsUptoCardSaid : Prop := Claim7.holds Tryd.pinned (.plain (OpenSpec.upto frameSumsSpec)) frameSumsUptoCard

/-- THE SECOND FORM's CARD OF 'salchowlaw49.FrameDamage'. -/
def frameDamageUptoCard : Claim7 := { stood := { row := frameDamageUptoRow, standIns := [], harness := (true, "6b462eb325728ae18f47a0354160277bd724a72b7f62f8e01c5e16a78c976214"), looks := true }, kinds := [], alts := [], laidByText := true, laidKinds := [.data, .data, .data, .sentinel, .sentinel], laidTests := true, laidLooks := .later }
def FrameDamageUptoCardSaid : Prop := Claim7.holds Tryd.pinned (.plain (OpenSpec.upto frameDamageSpec)) frameDamageUptoCard

/-- THE SECOND FORM's CARD OF 'salchowlaw49.FrameApplies'. -/
def frameAppliesUptoCard : Claim7 := { stood := { row := frameAppliesUptoRow, standIns := [], harness := (true, "6b462eb325728ae18f47a0354160277bd724a72b7f62f8e01c5e16a78c976214"), looks := true }, kinds := [], alts := [], laidByText := true, laidKinds := [.data, .data, .data, .sentinel, .sentinel], laidTests := true, laidLooks := .later }
def FrameAppliesUptoCardSaid : Prop := Claim7.holds Tryd.pinned (.plain (OpenSpec.upto frameAppliesSpec)) frameAppliesUptoCard

/-- THE SECOND FORM's CARD OF 'salchowlaw49.FrameDiffs'. -/
def frameDiffsUptoCard : Claim7 := { stood := { row := frameDiffsUptoRow, standIns := [], harness := (true, "6b462eb325728ae18f47a0354160277bd724a72b7f62f8e01c5e16a78c976214"), looks := true }, kinds := [], alts := [], laidByText := true, laidKinds := [.data, .data, .data, .sentinel, .sentinel], laidTests := true, laidLooks := .later }
def FrameDiffsUptoCardSaid : Prop := Claim7.holds Tryd.pinned (.plain (OpenSpec.upto frameDiffsSpec)) frameDiffsUptoCard

/-- THE SECOND FORM's CARD OF 'salchowlaw49.FrameMakes'. -/
def frameMakesUptoCard : Claim7 := { stood := { row := frameMakesUptoRow, standIns := [], harness := (true, "6b462eb325728ae18f47a0354160277bd724a72b7f62f8e01c5e16a78c976214"), looks := true }, kinds := [], alts := [], laidByText := true, laidKinds := [.data, .data, .data, .sentinel, .sentinel], laidTests := true, laidLooks := .later }
def FrameMakesUptoCardSaid : Prop := Claim7.holds Tryd.pinned (.plain (OpenSpec.upto frameMakesSpec)) frameMakesUptoCard

/-- THE SECOND FORM's CARD OF 'salchowlaw49.FrameLeast'. -/
def frameLeastUptoCard : Claim7 := { stood := { row := frameLeastUptoRow, standIns := [], harness := (true, "6b462eb325728ae18f47a0354160277bd724a72b7f62f8e01c5e16a78c976214"), looks := true }, kinds := [], alts := [], laidByText := true, laidKinds := [.data, .data, .data, .sentinel, .sentinel], laidTests := true, laidLooks := .later }
def FrameLeastUptoCardSaid : Prop := Claim7.holds Tryd.pinned (.plain (OpenSpec.upto frameLeastSpec)) frameLeastUptoCard

/-- THE SECOND FORM's CARD OF 'salchowlaw49.FrameEqual'. -/
def frameEqualUptoCard : Claim7 := { stood := { row := frameEqualUptoRow, standIns := [], harness := (true, "6b462eb325728ae18f47a0354160277bd724a72b7f62f8e01c5e16a78c976214"), looks := true }, kinds := [], alts := [], laidByText := true, laidKinds := [.data, .data, .data, .sentinel, .sentinel], laidTests := true, laidLooks := .later }
def FrameEqualUptoCardSaid : Prop := Claim7.holds Tryd.pinned (.plain (OpenSpec.upto frameEqualSpec)) frameEqualUptoCard
end Rows
end Go.Proofs.YtfpopmojlmpopaaDoor
