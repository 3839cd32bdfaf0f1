/-
  DERIVED. GIVEN WITH THE SEED: THE CARDS: each row of YtgmlhmojcemliaaDoorRows.lean that lists a variable, with what it lists TIED to the program's text (the seventh form; the later family's looks); each row that meets fmt, with fmt's text TOLD by the authors' own Lean function (tested against real Go, not proved from fmt's source: count such statements apart). THE CARD IS WHAT COUNTS. Prove the row's statement (the work); the ties are given (YtgmlhmojcemliaaDoorTie.lean); close each card by the builder's one call (the guide's Derived/Test/ToyasCard.lean, 'card_holds'). Laid BY PROGRAM, IN A SANDBOX (cutbox-door.mjs). By AI agents, Wed Nov 11 2026. No macro, syntax, notation, axiom, sorry.
-/
import Derived.Test.YtgmlhmojcemliaaDoorRows
import GoSem.ClaimSeven
namespace Go.Proofs.YtgmlhmojcemliaaDoor
namespace Rows

/-- THE TIED CARD OF 'postbaglaw5.LetterSaid'. -/
def letterSaidCard : Claim7 := { stood := { row := letterSaidRow, standIns := [], harness := (true, "bc805e89cb9fbb2eb90f7ab781fe890eea96b9d037d63c1c8cb1ba0baf24da50"), looks := false }, kinds := [], alts := [], laidByText := true, laidKinds := [.data, .pinned], laidTests := true, laidLooks := .later }
def LetterSaidCardSaid : Prop := Claim7.holds Tryd.pinned (.plain (OpenSpec.ofChange letterSaidSpec)) letterSaidCard

/-- THE TIED CARD OF 'postbaglaw6.LimbHoldsTogether'. -/
def limbHoldsTogetherCard : Claim7 := { stood := { row := limbHoldsTogetherRow, standIns := [], harness := (true, "bc805e89cb9fbb2eb90f7ab781fe890eea96b9d037d63c1c8cb1ba0baf24da50"), looks := false }, kinds := [], alts := [], laidByText := true, laidKinds := [.data, .data, .data, .data, .pinned], laidTests := true, laidLooks := .later }
def LimbHoldsTogetherCardSaid : Prop := Claim7.holds Tryd.pinned (.plain (OpenSpec.ofChange limbHoldsTogetherSpec)) limbHoldsTogetherCard

/-- THE TIED CARD OF 'postbaglaw6.LimbSeams'. -/
def limbSeamsCard : Claim7 := { stood := { row := limbSeamsRow, standIns := [], harness := (true, "bc805e89cb9fbb2eb90f7ab781fe890eea96b9d037d63c1c8cb1ba0baf24da50"), looks := false }, kinds := [], alts := [], laidByText := true, laidKinds := [.data, .data, .data, .data, .pinned], laidTests := true, laidLooks := .later }
def LimbSeamsCardSaid : Prop := Claim7.holds Tryd.pinned (.plain (OpenSpec.ofChange limbSeamsSpec)) limbSeamsCard

/-- THE TIED CARD OF 'postbaglaw6.LimbMultiparts'. -/
def limbMultipartsCard : Claim7 := { stood := { row := limbMultipartsRow, standIns := [], harness := (true, "bc805e89cb9fbb2eb90f7ab781fe890eea96b9d037d63c1c8cb1ba0baf24da50"), looks := false }, kinds := [], alts := [], laidByText := true, laidKinds := [.data, .data, .data, .data, .pinned], laidTests := true, laidLooks := .later }
def LimbMultipartsCardSaid : Prop := Claim7.holds Tryd.pinned (.plain (OpenSpec.ofChange limbMultipartsSpec)) limbMultipartsCard

/-- THE SECOND FORM's CARD OF 'postbaglaw5.LetterSaid'. -/
def letterSaidUptoCard : Claim7 := { stood := { row := letterSaidUptoRow, standIns := [], harness := (true, "bc805e89cb9fbb2eb90f7ab781fe890eea96b9d037d63c1c8cb1ba0baf24da50"), looks := false }, kinds := [], alts := [], laidByText := true, laidKinds := [.data, .pinned], laidTests := true, laidLooks := .later }
def LetterSaidUptoCardSaid : Prop := Claim7.holds Tryd.pinned (.plain (OpenSpec.upto letterSaidSpec)) letterSaidUptoCard

/-- THE SECOND FORM's CARD OF 'postbaglaw6.LimbHoldsTogether'. -/
def limbHoldsTogetherUptoCard : Claim7 := { stood := { row := limbHoldsTogetherUptoRow, standIns := [], harness := (true, "bc805e89cb9fbb2eb90f7ab781fe890eea96b9d037d63c1c8cb1ba0baf24da50"), looks := false }, kinds := [], alts := [], laidByText := true, laidKinds := [.data, .data, .data, .data, .pinned], laidTests := true, laidLooks := .later }
def LimbHoldsTogetherUptoCardSaid : Prop := Claim7.holds Tryd.pinned (.plain (OpenSpec.upto limbHoldsTogetherSpec)) limbHoldsTogetherUptoCard

/-- THE SECOND FORM's CARD OF 'postbaglaw6.LimbSeams'. -/
def limbSeamsUptoCard : Claim7 := { stood := { row := limbSeamsUptoRow, standIns := [], harness := (true, "bc805e89cb9fbb2eb90f7ab781fe890eea96b9d037d63c1c8cb1ba0baf24da50"), looks := false }, kinds := [], alts := [], laidByText := true, laidKinds := [.data, .data, .data, .data, .pinned], laidTests := true, laidLooks := .later }
def LimbSeamsUptoCardSaid : Prop := Claim7.holds Tryd.pinned (.plain (OpenSpec.upto limbSeamsSpec)) limbSeamsUptoCard

/-- THE SECOND FORM's CARD OF 'postbaglaw6.LimbMultiparts'. -/
def limbMultipartsUptoCard : Claim7 := { stood := { row := limbMultipartsUptoRow, standIns := [], harness := (true, "bc805e89cb9fbb2eb90f7ab781fe890eea96b9d037d63c1c8cb1ba0baf24da50"), looks := false }, kinds := [], alts := [], laidByText := true, laidKinds := [.data, .data, .data, .data, .pinned], laidTests := true, laidLooks := .later }
def LimbMultipartsUptoCardSaid : Prop := Claim7.holds Tryd.pinned (.plain (OpenSpec.upto limbMultipartsSpec)) limbMultipartsUptoCard
end Rows
end Go.Proofs.YtgmlhmojcemliaaDoor
