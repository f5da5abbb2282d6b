/-
  NARROWER THAN 'FOR EVERY INPUT', by the rows' own cells (each row's printed sentence says how): TopModes: laid.
  DERIVED. THE GIVEN ROWS OF THIS SEAT. 1 by the template 'for every input the law returns true; each argument reads behind the call as it read before'; 0 by the template 'total and deterministic' (their statements: YtfnghamklcdgnaaGreatDoorTotals.lean).
  GIVEN WITH THE SEED: the statements are not yours to turn. If you find one false, say at which input.
  Laid BY PROGRAM, IN A SANDBOX (cutbox-rows.mjs): the forced cells as the released guide's own fill.sh prints them over the translation 2a26aaf51d4f2d78… (all of the seat's roots in one cut). By AI agents, Wed Nov 11 2026. No macro, syntax, notation, axiom, sorry.
-/
import Derived.Test.YtfnghamklcdgnaaGreatDoorChecked
import GoSem.Claim
import GoSem.ClaimJoined
import GoSem.ClaimMapViews
import Derived.JoinedTies
import Derived.KernelRfl
namespace Go.Proofs.YtfnghamklcdgnaaGreatDoor
/- THE CELL 'sum', in the pinned program and in every row, IS THE sha256 OF THE DUMP (.gsa) THAT YtfnghamklcdgnaaGreatDoorProg.lean LOADS. Nothing in Lean hashes anything: it is a label: what it is worth is what the hold of that sum in a sandbox is worth. -/
noncomputable def Tryz.pinned : Pinned := { name := "ytfnghamklcdgnaagreatdoor", sum := "2a26aaf51d4f2d783a34cfee032a5efd065ec9807ff45dc754f01d1d4784c1ed", checked := Tryz.checked }
namespace Rows
def none {H : Type} : Left H := { results := [], args := [] }

/- WHAT THE LISTED PACKAGE-LEVEL VARIABLES READ AS WHEN THE CALL BEGINS. Each datum BY PROGRAM (the guide's laid-datum.mjs) off the statement by which the dump's own 'gosem.cut.vars' lays the variable. In a bare row this is a premise. The card (YtfnghamklcdgnaaGreatDoorCards.lean) ties it to the program's text. -/
def laid_strongtx_tdrf_none {H : Type} : DataW H := .agg [.lit (.int .i64 (-1)), .lit (.int .i64 (-1)), .lit (.int .i64 (-1))]
def laid_strongtx_isa_forms {H : Type} : DataW H := .agg [.agg [.lit (.string [110, 111, 112]), .lit (.string [])], .agg [.lit (.string [99, 111, 110, 115, 116]), .lit (.string [65, 73])], .agg [.lit (.string [109, 111, 118, 101]), .lit (.string [65, 66])], .agg [.lit (.string []), .lit (.string [65, 66, 67])], .agg [.lit (.string [106, 117, 109, 112]), .lit (.string [73])], .agg [.lit (.string [122, 101, 114, 111]), .lit (.string [65, 73])], .agg [.lit (.string [110, 111, 110, 122, 101, 114, 111]), .lit (.string [65, 73])], .agg [.lit (.string [98, 101, 103, 105, 110]), .lit (.string [73])], .agg [.lit (.string [99, 111, 109, 109, 105, 116]), .lit (.string [])], .agg [.lit (.string [97, 98, 111, 114, 116]), .lit (.string [])], .agg [.lit (.string [116, 114, 101, 97, 100]), .lit (.string [65, 66, 73])], .agg [.lit (.string [116, 119, 114, 105, 116, 101]), .lit (.string [65, 66, 73])], .agg [.lit (.string [112, 114, 101, 97, 100]), .lit (.string [65, 66, 73])], .agg [.lit (.string [112, 119, 114, 105, 116, 101]), .lit (.string [65, 66, 73])], .agg [.lit (.string [97, 108, 108, 111, 99]), .lit (.string [65, 73])], .agg [.lit (.string [102, 114, 101, 101]), .lit (.string [65])], .agg [.lit (.string [102, 101, 110, 99, 101]), .lit (.string [])], .agg [.lit (.string [111, 117, 116, 99, 111, 109, 101]), .lit (.string [65])]]

/-- 'strongtxtop.TopModes': WHATEVER THE INPUT: true; the input reads as it did. -/
def topModesSpec : ChangeSpec := { name := "topModes", fn := fun _ => fun
  | [d1, d2, d3] => { results := [.lit (.bool true)], args := [d1, d2, d3] }
  | _ => none }
def topModesRow : OpenClaim := { program := "ytfnghamklcdgnaagreatdoor", sum := "2a26aaf51d4f2d783a34cfee032a5efd065ec9807ff45dc754f01d1d4784c1ed", func := "strongtx/strongtxtop.TopModes", spec := "topModes", inPlace := ["internal/bytealg.IndexByteString", "internal/bytealg.IndexString", "math.Float64bits", "math.Float64frombits", "math.archMin", "math.archMax", "maps.clone"], unfollowed := true, recurses := true, named := ["strongtx/isa.forms", "internal/bytealg.MaxLen", "strongtx/tdrf.none"], apart := false, laid := [("strongtx/tdrf.none", laid_strongtx_tdrf_none), ("strongtx/isa.forms", laid_strongtx_isa_forms)] }
def TopModesSaid : Prop := topModesRow.holds Tryz.pinned (OpenSpec.ofChange topModesSpec)

/-- ITS FALSE NEIGHBOUR: 'it returns false'. Refute it at one input. -/
def topModesWrong : ChangeSpec := { name := "topModes", fn := fun _ => fun
  | [d1, d2, d3] => { results := [.lit (.bool false)], args := [d1, d2, d3] }
  | _ => none }
def TopModesWrongFalsely : Prop := topModesRow.holds Tryz.pinned (OpenSpec.ofChange topModesWrong)

/- THE SECOND FORM. 'bulk': how many values and letters a reading holds, each counted each time it is reached (what is shared counts as often as it is met; a slice's spare places count too). A statement '..UptoSaid' is the law's where the arguments, and the package variables that the reading takes, are together of bulk at most 1048576: NARROWER than '..Said'. Prove '..Said' where nothing that the law and all that it calls make is longer than what came in: it says more and counts as full. Else prove '..UptoSaid'. A law counts once. -/
mutual
def uptoBulk {H : Type} : DataW H → Nat
  | .lit (.string bytes) => bytes.length + 1
  | .lit _ => 1
  | .nil => 1
  | .ptr d => uptoBulk d + 1
  | .slice elems spare => uptoBulkAll elems + uptoBulkAll spare + 1
  | .agg parts => uptoBulkAll parts + 1
  | .iface _ d => uptoBulk d + 1
  | .map entries => uptoBulkEntries entries + 1
  | .held _ => 1
def uptoBulkAll {H : Type} : List (DataW H) → Nat
  | [] => 0
  | d :: r => uptoBulk d + uptoBulkAll r
def uptoBulkEntries {H : Type} : List (Lit × DataW H) → Nat
  | [] => 0
  | x :: r => uptoBulkEntry x + uptoBulkEntries r
def uptoBulkEntry {H : Type} : Lit × DataW H → Nat
  | (.string bytes, d) => bytes.length + uptoBulk d + 1
  | (_, d) => uptoBulk d + 1
 end
def uptoSmall : (H : Type) → List (DataW H) → Bool := fun _ ds => decide (uptoBulkAll ds ≤ 1048576)
def OpenSpec.upto (s : _root_.Go.ChangeSpec) : _root_.Go.OpenSpec := { _root_.Go.OpenSpec.ofChange s with cond := some uptoSmall }

/-- 'strongtxtop.TopModes', WHERE WHAT IT READS IS OF BULK AT MOST 1048576: true; the input reads as it did. -/
def topModesUptoRow : OpenClaim := { program := "ytfnghamklcdgnaagreatdoor", sum := "2a26aaf51d4f2d783a34cfee032a5efd065ec9807ff45dc754f01d1d4784c1ed", func := "strongtx/strongtxtop.TopModes", spec := "topModes", inPlace := ["internal/bytealg.IndexByteString", "internal/bytealg.IndexString", "math.Float64bits", "math.Float64frombits", "math.archMin", "math.archMax", "maps.clone"], unfollowed := true, recurses := true, named := ["strongtx/isa.forms", "internal/bytealg.MaxLen", "strongtx/tdrf.none"], apart := false, laid := [("strongtx/tdrf.none", laid_strongtx_tdrf_none), ("strongtx/isa.forms", laid_strongtx_isa_forms)], narrowed := true }
def TopModesUptoSaid : Prop := topModesUptoRow.holds Tryz.pinned (OpenSpec.upto topModesSpec)

end Rows
end Go.Proofs.YtfnghamklcdgnaaGreatDoor
