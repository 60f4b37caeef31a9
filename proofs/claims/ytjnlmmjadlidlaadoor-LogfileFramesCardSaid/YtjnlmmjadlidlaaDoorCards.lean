/-
  DERIVED. GIVEN WITH THE SEED: THE CARDS: each row of YtjnlmmjadlidlaaDoorRows.lean that lists a variable, with what it lists TIED to the program's text (the seventh form; the later family's looks); each row that meets fmt, with fmt's text TOLD by the authors' own Lean function (tested against real Go, not proved from fmt's source: count such statements apart). THE CARD IS WHAT COUNTS. Prove the row's statement (the work); the ties are given (YtjnlmmjadlidlaaDoorTie.lean); close each card by the builder's one call (the guide's Derived/Test/ToyasCard.lean, 'card_holds'). Laid BY PROGRAM, IN A SANDBOX (cutbox-door.mjs). By AI agents, Wed Nov 11 2026. No macro, syntax, notation, axiom, sorry.
-/
import Derived.Test.YtjnlmmjadlidlaaDoorRows
import GoSem.ClaimSeven
namespace Go.Proofs.YtjnlmmjadlidlaaDoor
namespace Rows

/-- THE TIED CARD OF 'kauditlaw37.NamesChecks'. -/
def namesChecksCard : Claim7 := { stood := { row := namesChecksRow, standIns := [], harness := (true, "e99c802acb091b7429fdd6175d77c14e59691182feb54cb1d251167ec7657fcc"), looks := false }, kinds := [], alts := [], laidByText := true, laidKinds := [.data, .data, .data, .data], laidTests := true, laidLooks := .later }
def NamesChecksCardSaid : Prop := Claim7.holds Tryd.pinned (.plain (OpenSpec.ofChange namesChecksSpec)) namesChecksCard

/-- THE TIED CARD OF 'kauditlaw37.NamesInterprets'. -/
def namesInterpretsCard : Claim7 := { stood := { row := namesInterpretsRow, standIns := [], harness := (true, "e99c802acb091b7429fdd6175d77c14e59691182feb54cb1d251167ec7657fcc"), looks := false }, kinds := [], alts := [], laidByText := true, laidKinds := [.data, .data, .data, .data], laidTests := true, laidLooks := .later }
def NamesInterpretsCardSaid : Prop := Claim7.holds Tryd.pinned (.plain (OpenSpec.ofChange namesInterpretsSpec)) namesInterpretsCard

/-- THE TIED CARD OF 'kauditlaw37.NamesThen'. -/
def namesThenCard : Claim7 := { stood := { row := namesThenRow, standIns := [], harness := (true, "e99c802acb091b7429fdd6175d77c14e59691182feb54cb1d251167ec7657fcc"), looks := false }, kinds := [], alts := [], laidByText := true, laidKinds := [.data, .data, .data, .data], laidTests := true, laidLooks := .later }
def NamesThenCardSaid : Prop := Claim7.holds Tryd.pinned (.plain (OpenSpec.ofChange namesThenSpec)) namesThenCard

/-- THE TIED CARD OF 'kauditlaw03.RecordChecks'. -/
def recordChecksCard : Claim7 := { stood := { row := recordChecksRow, standIns := [], harness := (true, "e99c802acb091b7429fdd6175d77c14e59691182feb54cb1d251167ec7657fcc"), looks := false }, kinds := [], alts := [], laidByText := true, laidKinds := [.data, .data, .data, .data, .data], laidTests := true, laidLooks := .later }
def RecordChecksCardSaid : Prop := Claim7.holds Tryd.pinned (.plain (OpenSpec.ofChange recordChecksSpec)) recordChecksCard

/-- THE TIED CARD OF 'kauditlaw03.RecordDiffer'. -/
def recordDifferCard : Claim7 := { stood := { row := recordDifferRow, standIns := [], harness := (true, "e99c802acb091b7429fdd6175d77c14e59691182feb54cb1d251167ec7657fcc"), looks := false }, kinds := [], alts := [], laidByText := true, laidKinds := [.data, .data, .data, .data, .data], laidTests := true, laidLooks := .later }
def RecordDifferCardSaid : Prop := Claim7.holds Tryd.pinned (.plain (OpenSpec.ofChange recordDifferSpec)) recordDifferCard

/-- THE TIED CARD OF 'kauditlaw03.RecordGets'. -/
def recordGetsCard : Claim7 := { stood := { row := recordGetsRow, standIns := [], harness := (true, "e99c802acb091b7429fdd6175d77c14e59691182feb54cb1d251167ec7657fcc"), looks := false }, kinds := [], alts := [], laidByText := true, laidKinds := [.data, .data, .data, .data, .data], laidTests := true, laidLooks := .later }
def RecordGetsCardSaid : Prop := Claim7.holds Tryd.pinned (.plain (OpenSpec.ofChange recordGetsSpec)) recordGetsCard

/-- THE TIED CARD OF 'kauditlaw03.RecordNames'. -/
def recordNamesCard : Claim7 := { stood := { row := recordNamesRow, standIns := [], harness := (true, "e99c802acb091b7429fdd6175d77c14e59691182feb54cb1d251167ec7657fcc"), looks := false }, kinds := [], alts := [], laidByText := true, laidKinds := [.data, .data, .data, .data, .data], laidTests := true, laidLooks := .later }
def RecordNamesCardSaid : Prop := Claim7.holds Tryd.pinned (.plain (OpenSpec.ofChange recordNamesSpec)) recordNamesCard

/-- THE TIED CARD OF 'kauditlaw25.LogfileFrames'. -/
def logfileFramesCard : Claim7 := { stood := { row := logfileFramesRow, standIns := [], harness := (true, "e99c802acb091b7429fdd6175d77c14e59691182feb54cb1d251167ec7657fcc"), looks := false }, kinds := [], alts := [], laidByText := true, laidKinds := [.data, .data, .data, .data, .data], laidTests := true, laidLooks := .later }
def LogfileFramesCardSaid : Prop := Claim7.holds Tryd.pinned (.plain (OpenSpec.ofChange logfileFramesSpec)) logfileFramesCard

/-- THE TIED CARD OF 'kauditlaw41.SessionsOf'. -/
def sessionsOfCard : Claim7 := { stood := { row := sessionsOfRow, standIns := [], harness := (true, "e99c802acb091b7429fdd6175d77c14e59691182feb54cb1d251167ec7657fcc"), looks := false }, kinds := [], alts := [], laidByText := true, laidKinds := [.data, .data, .data], laidTests := true, laidLooks := .later }
def SessionsOfCardSaid : Prop := Claim7.holds Tryd.pinned (.plain (OpenSpec.ofChange sessionsOfSpec)) sessionsOfCard

/-- THE TIED CARD OF 'kauditlaw41.SessionsSums'. -/
def sessionsSumsCard : Claim7 := { stood := { row := sessionsSumsRow, standIns := [], harness := (true, "e99c802acb091b7429fdd6175d77c14e59691182feb54cb1d251167ec7657fcc"), looks := false }, kinds := [], alts := [], laidByText := true, laidKinds := [.data, .data, .data], laidTests := true, laidLooks := .later }
def SessionsSumsCardSaid : Prop := Claim7.holds Tryd.pinned (.plain (OpenSpec.ofChange sessionsSumsSpec)) sessionsSumsCard

/-- THE SECOND FORM's CARD OF 'kauditlaw37.NamesChecks'. -/
def namesChecksUptoCard : Claim7 := { stood := { row := namesChecksUptoRow, standIns := [], harness := (true, "e99c802acb091b7429fdd6175d77c14e59691182feb54cb1d251167ec7657fcc"), looks := false }, kinds := [], alts := [], laidByText := true, laidKinds := [.data, .data, .data, .data], laidTests := true, laidLooks := .later }
def NamesChecksUptoCardSaid : Prop := Claim7.holds Tryd.pinned (.plain (OpenSpec.upto namesChecksSpec)) namesChecksUptoCard

/-- THE SECOND FORM's CARD OF 'kauditlaw37.NamesInterprets'. -/
def namesInterpretsUptoCard : Claim7 := { stood := { row := namesInterpretsUptoRow, standIns := [], harness := (true, "e99c802acb091b7429fdd6175d77c14e59691182feb54cb1d251167ec7657fcc"), looks := false }, kinds := [], alts := [], laidByText := true, laidKinds := [.data, .data, .data, .data], laidTests := true, laidLooks := .later }
def NamesInterpretsUptoCardSaid : Prop := Claim7.holds Tryd.pinned (.plain (OpenSpec.upto namesInterpretsSpec)) namesInterpretsUptoCard

/-- THE SECOND FORM's CARD OF 'kauditlaw37.NamesThen'. -/
def namesThenUptoCard : Claim7 := { stood := { row := namesThenUptoRow, standIns := [], harness := (true, "e99c802acb091b7429fdd6175d77c14e59691182feb54cb1d251167ec7657fcc"), looks := false }, kinds := [], alts := [], laidByText := true, laidKinds := [.data, .data, .data, .data], laidTests := true, laidLooks := .later }
def NamesThenUptoCardSaid : Prop := Claim7.holds Tryd.pinned (.plain (OpenSpec.upto namesThenSpec)) namesThenUptoCard

/-- THE SECOND FORM's CARD OF 'kauditlaw03.RecordChecks'. -/
def recordChecksUptoCard : Claim7 := { stood := { row := recordChecksUptoRow, standIns := [], harness := (true, "e99c802acb091b7429fdd6175d77c14e59691182feb54cb1d251167ec7657fcc"), looks := false }, kinds := [], alts := [], laidByText := true, laidKinds := [.data, .data, .data, .data, .data], laidTests := true, laidLooks := .later }
def RecordChecksUptoCardSaid : Prop := Claim7.holds Tryd.pinned (.plain (OpenSpec.upto recordChecksSpec)) recordChecksUptoCard

/-- THE SECOND FORM's CARD OF 'kauditlaw03.RecordDiffer'. -/
def recordDifferUptoCard : Claim7 := { stood := { row := recordDifferUptoRow, standIns := [], harness := (true, "e99c802acb091b7429fdd6175d77c14e59691182feb54cb1d251167ec7657fcc"), looks := false }, kinds := [], alts := [], laidByText := true, laidKinds := [.data, .data, .data, .data, .data], laidTests := true, laidLooks := .later }
def RecordDifferUptoCardSaid : Prop := Claim7.holds Tryd.pinned (.plain (OpenSpec.upto recordDifferSpec)) recordDifferUptoCard

/-- THE SECOND FORM's CARD OF 'kauditlaw03.RecordGets'. -/
def recordGetsUptoCard : Claim7 := { stood := { row := recordGetsUptoRow, standIns := [], harness := (true, "e99c802acb091b7429fdd6175d77c14e59691182feb54cb1d251167ec7657fcc"), looks := false }, kinds := [], alts := [], laidByText := true, laidKinds := [.data, .data, .data, .data, .data], laidTests := true, laidLooks := .later }
def RecordGetsUptoCardSaid : Prop := Claim7.holds Tryd.pinned (.plain (OpenSpec.upto recordGetsSpec)) recordGetsUptoCard

/-- THE SECOND FORM's CARD OF 'kauditlaw03.RecordNames'. -/
def recordNamesUptoCard : Claim7 := { stood := { row := recordNamesUptoRow, standIns := [], harness := (true, "e99c802acb091b7429fdd6175d77c14e59691182feb54cb1d251167ec7657fcc"), looks := false }, kinds := [], alts := [], laidByText := true, laidKinds := [.data, .data, .data, .data, .data], laidTests := true, laidLooks := .later }
def RecordNamesUptoCardSaid : Prop := Claim7.holds Tryd.pinned (.plain (OpenSpec.upto recordNamesSpec)) recordNamesUptoCard

/-- THE SECOND FORM's CARD OF 'kauditlaw25.LogfileFrames'. -/
def logfileFramesUptoCard : Claim7 := { stood := { row := logfileFramesUptoRow, standIns := [], harness := (true, "e99c802acb091b7429fdd6175d77c14e59691182feb54cb1d251167ec7657fcc"), looks := false }, kinds := [], alts := [], laidByText := true, laidKinds := [.data, .data, .data, .data, .data], laidTests := true, laidLooks := .later }
def LogfileFramesUptoCardSaid : Prop := Claim7.holds Tryd.pinned (.plain (OpenSpec.upto logfileFramesSpec)) logfileFramesUptoCard

/-- THE SECOND FORM's CARD OF 'kauditlaw41.SessionsOf'. -/
def sessionsOfUptoCard : Claim7 := { stood := { row := sessionsOfUptoRow, standIns := [], harness := (true, "e99c802acb091b7429fdd6175d77c14e59691182feb54cb1d251167ec7657fcc"), looks := false }, kinds := [], alts := [], laidByText := true, laidKinds := [.data, .data, .data], laidTests := true, laidLooks := .later }
def SessionsOfUptoCardSaid : Prop := Claim7.holds Tryd.pinned (.plain (OpenSpec.upto sessionsOfSpec)) sessionsOfUptoCard

/-- THE SECOND FORM's CARD OF 'kauditlaw41.SessionsSums'. -/
def sessionsSumsUptoCard : Claim7 := { stood := { row := sessionsSumsUptoRow, standIns := [], harness := (true, "e99c802acb091b7429fdd6175d77c14e59691182feb54cb1d251167ec7657fcc"), looks := false }, kinds := [], alts := [], laidByText := true, laidKinds := [.data, .data, .data], laidTests := true, laidLooks := .later }
def SessionsSumsUptoCardSaid : Prop := Claim7.holds Tryd.pinned (.plain (OpenSpec.upto sessionsSumsSpec)) sessionsSumsUptoCard
end Rows
end Go.Proofs.YtjnlmmjadlidlaaDoor
