/-
  NARROWER THAN 'FOR EVERY INPUT', by the rows' own cells (each row's printed sentence says how): AluApplies: laid · AluAll: laid · AluWhole: laid · AluFloats: laid · AluMinMax: laid · AluCompares: laid · AluConverts: laid · AluNames: laid.
  DERIVED. THE GIVEN ROWS OF THIS SEAT. 8 by the template 'for every input the law returns true; each argument reads behind the call as it read before'; 0 by the template 'total and deterministic' (their statements: YtdbeajjomifbpaaDoorTotals.lean).
  GIVEN WITH THE SEED: the statements are not yours to turn. If you find one false, say at which input.
  Laid BY PROGRAM, IN A SANDBOX (cutbox-rows.mjs): the forced cells as the released guide's own fill.sh prints them over the translation 7be12feb30a73e94… (all of the seat's roots in one cut). By AI agents, Wed Nov 11 2026. No macro, syntax, notation, axiom, sorry.
-/
import Derived.Test.YtdbeajjomifbpaaDoorChecked
import GoSem.Claim
import GoSem.ClaimJoined
import GoSem.ClaimMapViews
import Derived.JoinedTies
import Derived.KernelRfl
namespace Go.Proofs.YtdbeajjomifbpaaDoor
/- THE CELL 'sum', in the pinned program and in every row, IS THE sha256 OF THE DUMP (.gsa) THAT YtdbeajjomifbpaaDoorProg.lean LOADS. Nothing in Lean hashes anything: it is a label: what it is worth is what the hold of that sum in a sandbox is worth. -/
noncomputable def Tryd.pinned : Pinned := { name := "ytdbeajjomifbpaadoor", sum := "7be12feb30a73e944a1797b884de00260f86ea3f3ea4bdcfafad769022a7401e", checked := Tryd.checked }
namespace Rows
def none {H : Type} : Left H := { results := [], args := [] }

/- WHAT THE LISTED PACKAGE-LEVEL VARIABLES READ AS WHEN THE CALL BEGINS. Each datum BY PROGRAM (the guide's laid-datum.mjs) off the statement by which the dump's own 'gosem.cut.vars' lays the variable. In a bare row this is a premise. The card (YtdbeajjomifbpaaDoorCards.lean) ties it to the program's text. -/
def laid_strongtx_alu_names {H : Type} : DataW H := .agg [.lit (.string [97, 100, 100]), .lit (.string [115, 117, 98]), .lit (.string [109, 117, 108]), .lit (.string [97, 110, 100]), .lit (.string [111, 114]), .lit (.string [120, 111, 114]), .lit (.string [115, 104, 108]), .lit (.string [115, 104, 114]), .lit (.string [101, 113]), .lit (.string [110, 101]), .lit (.string [108, 116]), .lit (.string [108, 116, 117]), .lit (.string [102, 97, 100, 100]), .lit (.string [102, 115, 117, 98]), .lit (.string [102, 109, 117, 108]), .lit (.string [102, 100, 105, 118]), .lit (.string [102, 109, 105, 110]), .lit (.string [102, 109, 97, 120]), .lit (.string [102, 101, 113]), .lit (.string [102, 108, 116]), .lit (.string [102, 114, 111, 109, 105, 110, 116]), .lit (.string [116, 111, 105, 110, 116])]

/-- 'strongtxlaw02.AluApplies': WHATEVER THE INPUT: true; the input reads as it did. -/
def aluAppliesSpec : ChangeSpec := { name := "aluApplies", fn := fun _ => fun
  | [d1, d2, d3] => { results := [.lit (.bool true)], args := [d1, d2, d3] }
  | _ => none }
def aluAppliesRow : OpenClaim := { program := "ytdbeajjomifbpaadoor", sum := "7be12feb30a73e944a1797b884de00260f86ea3f3ea4bdcfafad769022a7401e", func := "strongtx/strongtxlaw02.AluApplies", spec := "aluApplies", inPlace := ["math.Float64bits", "math.Float64frombits", "math.archMin", "math.archMax"], named := ["strongtx/alu.names"], apart := false, laid := [("strongtx/alu.names", laid_strongtx_alu_names)] }
def AluAppliesSaid : Prop := aluAppliesRow.holds Tryd.pinned (OpenSpec.ofChange aluAppliesSpec)

/-- ITS FALSE NEIGHBOUR: 'it returns false'. Refute it at one input. -/
def aluAppliesWrong : ChangeSpec := { name := "aluApplies", fn := fun _ => fun
  | [d1, d2, d3] => { results := [.lit (.bool false)], args := [d1, d2, d3] }
  | _ => none }
def AluAppliesWrongFalsely : Prop := aluAppliesRow.holds Tryd.pinned (OpenSpec.ofChange aluAppliesWrong)

/-- 'strongtxlaw02.AluAll': WHATEVER THE INPUT: true; the input reads as it did. -/
def aluAllSpec : ChangeSpec := { name := "aluAll", fn := fun _ => fun
  | [d1, d2] => { results := [.lit (.bool true)], args := [d1, d2] }
  | _ => none }
def aluAllRow : OpenClaim := { program := "ytdbeajjomifbpaadoor", sum := "7be12feb30a73e944a1797b884de00260f86ea3f3ea4bdcfafad769022a7401e", func := "strongtx/strongtxlaw02.AluAll", spec := "aluAll", inPlace := ["math.Float64bits", "math.Float64frombits", "math.archMin", "math.archMax"], named := ["strongtx/alu.names"], apart := false, laid := [("strongtx/alu.names", laid_strongtx_alu_names)] }
def AluAllSaid : Prop := aluAllRow.holds Tryd.pinned (OpenSpec.ofChange aluAllSpec)

/-- ITS FALSE NEIGHBOUR: 'it returns false'. Refute it at one input. -/
def aluAllWrong : ChangeSpec := { name := "aluAll", fn := fun _ => fun
  | [d1, d2] => { results := [.lit (.bool false)], args := [d1, d2] }
  | _ => none }
def AluAllWrongFalsely : Prop := aluAllRow.holds Tryd.pinned (OpenSpec.ofChange aluAllWrong)

/-- 'strongtxlaw02.AluWhole': WHATEVER THE INPUT: true; the input reads as it did. -/
def aluWholeSpec : ChangeSpec := { name := "aluWhole", fn := fun _ => fun
  | [d1, d2, d3] => { results := [.lit (.bool true)], args := [d1, d2, d3] }
  | _ => none }
def aluWholeRow : OpenClaim := { program := "ytdbeajjomifbpaadoor", sum := "7be12feb30a73e944a1797b884de00260f86ea3f3ea4bdcfafad769022a7401e", func := "strongtx/strongtxlaw02.AluWhole", spec := "aluWhole", inPlace := ["math.Float64bits", "math.Float64frombits", "math.archMin", "math.archMax"], named := ["strongtx/alu.names"], apart := false, laid := [("strongtx/alu.names", laid_strongtx_alu_names)] }
def AluWholeSaid : Prop := aluWholeRow.holds Tryd.pinned (OpenSpec.ofChange aluWholeSpec)

/-- ITS FALSE NEIGHBOUR: 'it returns false'. Refute it at one input. -/
def aluWholeWrong : ChangeSpec := { name := "aluWhole", fn := fun _ => fun
  | [d1, d2, d3] => { results := [.lit (.bool false)], args := [d1, d2, d3] }
  | _ => none }
def AluWholeWrongFalsely : Prop := aluWholeRow.holds Tryd.pinned (OpenSpec.ofChange aluWholeWrong)

/-- 'strongtxlaw02.AluFloats': WHATEVER THE INPUT: true; the input reads as it did. -/
def aluFloatsSpec : ChangeSpec := { name := "aluFloats", fn := fun _ => fun
  | [d1, d2] => { results := [.lit (.bool true)], args := [d1, d2] }
  | _ => none }
def aluFloatsRow : OpenClaim := { program := "ytdbeajjomifbpaadoor", sum := "7be12feb30a73e944a1797b884de00260f86ea3f3ea4bdcfafad769022a7401e", func := "strongtx/strongtxlaw02.AluFloats", spec := "aluFloats", inPlace := ["math.Float64bits", "math.Float64frombits", "math.archMin", "math.archMax"], named := ["strongtx/alu.names"], apart := false, laid := [("strongtx/alu.names", laid_strongtx_alu_names)] }
def AluFloatsSaid : Prop := aluFloatsRow.holds Tryd.pinned (OpenSpec.ofChange aluFloatsSpec)

/-- ITS FALSE NEIGHBOUR: 'it returns false'. Refute it at one input. -/
def aluFloatsWrong : ChangeSpec := { name := "aluFloats", fn := fun _ => fun
  | [d1, d2] => { results := [.lit (.bool false)], args := [d1, d2] }
  | _ => none }
def AluFloatsWrongFalsely : Prop := aluFloatsRow.holds Tryd.pinned (OpenSpec.ofChange aluFloatsWrong)

/-- 'strongtxlaw02.AluMinMax': WHATEVER THE INPUT: true; the input reads as it did. -/
def aluMinMaxSpec : ChangeSpec := { name := "aluMinMax", fn := fun _ => fun
  | [d1, d2] => { results := [.lit (.bool true)], args := [d1, d2] }
  | _ => none }
def aluMinMaxRow : OpenClaim := { program := "ytdbeajjomifbpaadoor", sum := "7be12feb30a73e944a1797b884de00260f86ea3f3ea4bdcfafad769022a7401e", func := "strongtx/strongtxlaw02.AluMinMax", spec := "aluMinMax", inPlace := ["math.Float64bits", "math.Float64frombits", "math.archMin", "math.archMax"], named := ["strongtx/alu.names"], apart := false, laid := [("strongtx/alu.names", laid_strongtx_alu_names)] }
def AluMinMaxSaid : Prop := aluMinMaxRow.holds Tryd.pinned (OpenSpec.ofChange aluMinMaxSpec)

/-- ITS FALSE NEIGHBOUR: 'it returns false'. Refute it at one input. -/
def aluMinMaxWrong : ChangeSpec := { name := "aluMinMax", fn := fun _ => fun
  | [d1, d2] => { results := [.lit (.bool false)], args := [d1, d2] }
  | _ => none }
def AluMinMaxWrongFalsely : Prop := aluMinMaxRow.holds Tryd.pinned (OpenSpec.ofChange aluMinMaxWrong)

/-- 'strongtxlaw02.AluCompares': WHATEVER THE INPUT: true; the input reads as it did. -/
def aluComparesSpec : ChangeSpec := { name := "aluCompares", fn := fun _ => fun
  | [d1, d2] => { results := [.lit (.bool true)], args := [d1, d2] }
  | _ => none }
def aluComparesRow : OpenClaim := { program := "ytdbeajjomifbpaadoor", sum := "7be12feb30a73e944a1797b884de00260f86ea3f3ea4bdcfafad769022a7401e", func := "strongtx/strongtxlaw02.AluCompares", spec := "aluCompares", inPlace := ["math.Float64bits", "math.Float64frombits", "math.archMin", "math.archMax"], named := ["strongtx/alu.names"], apart := false, laid := [("strongtx/alu.names", laid_strongtx_alu_names)] }
def AluComparesSaid : Prop := aluComparesRow.holds Tryd.pinned (OpenSpec.ofChange aluComparesSpec)

/-- ITS FALSE NEIGHBOUR: 'it returns false'. Refute it at one input. -/
def aluComparesWrong : ChangeSpec := { name := "aluCompares", fn := fun _ => fun
  | [d1, d2] => { results := [.lit (.bool false)], args := [d1, d2] }
  | _ => none }
def AluComparesWrongFalsely : Prop := aluComparesRow.holds Tryd.pinned (OpenSpec.ofChange aluComparesWrong)

/-- 'strongtxlaw02.AluConverts': WHATEVER THE INPUT: true; the input reads as it did. -/
def aluConvertsSpec : ChangeSpec := { name := "aluConverts", fn := fun _ => fun
  | [d1, d2] => { results := [.lit (.bool true)], args := [d1, d2] }
  | _ => none }
def aluConvertsRow : OpenClaim := { program := "ytdbeajjomifbpaadoor", sum := "7be12feb30a73e944a1797b884de00260f86ea3f3ea4bdcfafad769022a7401e", func := "strongtx/strongtxlaw02.AluConverts", spec := "aluConverts", inPlace := ["math.Float64bits", "math.Float64frombits", "math.archMin", "math.archMax"], named := ["strongtx/alu.names"], apart := false, laid := [("strongtx/alu.names", laid_strongtx_alu_names)] }
def AluConvertsSaid : Prop := aluConvertsRow.holds Tryd.pinned (OpenSpec.ofChange aluConvertsSpec)

/-- ITS FALSE NEIGHBOUR: 'it returns false'. Refute it at one input. -/
def aluConvertsWrong : ChangeSpec := { name := "aluConverts", fn := fun _ => fun
  | [d1, d2] => { results := [.lit (.bool false)], args := [d1, d2] }
  | _ => none }
def AluConvertsWrongFalsely : Prop := aluConvertsRow.holds Tryd.pinned (OpenSpec.ofChange aluConvertsWrong)

/-- 'strongtxlaw02.AluNames': WHATEVER THE INPUT: true; the input reads as it did. -/
def aluNamesSpec : ChangeSpec := { name := "aluNames", fn := fun _ => fun
  | [d1, d2] => { results := [.lit (.bool true)], args := [d1, d2] }
  | _ => none }
def aluNamesRow : OpenClaim := { program := "ytdbeajjomifbpaadoor", sum := "7be12feb30a73e944a1797b884de00260f86ea3f3ea4bdcfafad769022a7401e", func := "strongtx/strongtxlaw02.AluNames", spec := "aluNames", inPlace := ["math.Float64bits", "math.Float64frombits", "math.archMin", "math.archMax"], named := ["strongtx/alu.names"], apart := false, laid := [("strongtx/alu.names", laid_strongtx_alu_names)] }
def AluNamesSaid : Prop := aluNamesRow.holds Tryd.pinned (OpenSpec.ofChange aluNamesSpec)

/-- ITS FALSE NEIGHBOUR: 'it returns false'. Refute it at one input. -/
def aluNamesWrong : ChangeSpec := { name := "aluNames", fn := fun _ => fun
  | [d1, d2] => { results := [.lit (.bool false)], args := [d1, d2] }
  | _ => none }
def AluNamesWrongFalsely : Prop := aluNamesRow.holds Tryd.pinned (OpenSpec.ofChange aluNamesWrong)

/- THE SECOND FORM. 'bulk': how many values and letters a reading holds, each counted each time it is reached (what is shared counts as often as it is met; a slice's spare places count too). A statement '..UptoSaid' is the law's where the arguments, and the package variables that the reading takes, are together of bulk at most 1048576: NARROWER than '..Said'. Prove '..Said' where nothing that the law and all that it calls make is longer than what came in: it says more and counts as full. Else prove '..UptoSaid'. A law counts once. -/
mutual
def uptoBulk {H : Type} : DataW H → Nat
  | .lit (.string bytes) => bytes.length + 1
  | .lit _ => 1
  | .nil => 1
  | .ptr d => uptoBulk d + 1
  | .slice elems spare => uptoBulkAll elems + uptoBulkAll spare + 1
  | .agg parts => uptoBulkAll parts + 1
  | .iface _ d => uptoBulk d + 1
  | .map entries => uptoBulkEntries entries + 1
  | .held _ => 1
def uptoBulkAll {H : Type} : List (DataW H) → Nat
  | [] => 0
  | d :: r => uptoBulk d + uptoBulkAll r
def uptoBulkEntries {H : Type} : List (Lit × DataW H) → Nat
  | [] => 0
  | x :: r => uptoBulkEntry x + uptoBulkEntries r
def uptoBulkEntry {H : Type} : Lit × DataW H → Nat
  | (.string bytes, d) => bytes.length + uptoBulk d + 1
  | (_, d) => uptoBulk d + 1
 end
def uptoSmall : (H : Type) → List (DataW H) → Bool := fun _ ds => decide (uptoBulkAll ds ≤ 1048576)
def OpenSpec.upto (s : _root_.Go.ChangeSpec) : _root_.Go.OpenSpec := { _root_.Go.OpenSpec.ofChange s with cond := some uptoSmall }

/-- 'strongtxlaw02.AluApplies', WHERE WHAT IT READS IS OF BULK AT MOST 1048576: true; the input reads as it did. -/
def aluAppliesUptoRow : OpenClaim := { program := "ytdbeajjomifbpaadoor", sum := "7be12feb30a73e944a1797b884de00260f86ea3f3ea4bdcfafad769022a7401e", func := "strongtx/strongtxlaw02.AluApplies", spec := "aluApplies", inPlace := ["math.Float64bits", "math.Float64frombits", "math.archMin", "math.archMax"], named := ["strongtx/alu.names"], apart := false, laid := [("strongtx/alu.names", laid_strongtx_alu_names)], narrowed := true }
def AluAppliesUptoSaid : Prop := aluAppliesUptoRow.holds Tryd.pinned (OpenSpec.upto aluAppliesSpec)

/-- 'strongtxlaw02.AluAll', WHERE WHAT IT READS IS OF BULK AT MOST 1048576: true; the input reads as it did. -/
def aluAllUptoRow : OpenClaim := { program := "ytdbeajjomifbpaadoor", sum := "7be12feb30a73e944a1797b884de00260f86ea3f3ea4bdcfafad769022a7401e", func := "strongtx/strongtxlaw02.AluAll", spec := "aluAll", inPlace := ["math.Float64bits", "math.Float64frombits", "math.archMin", "math.archMax"], named := ["strongtx/alu.names"], apart := false, laid := [("strongtx/alu.names", laid_strongtx_alu_names)], narrowed := true }
def AluAllUptoSaid : Prop := aluAllUptoRow.holds Tryd.pinned (OpenSpec.upto aluAllSpec)

/-- 'strongtxlaw02.AluWhole', WHERE WHAT IT READS IS OF BULK AT MOST 1048576: true; the input reads as it did. -/
def aluWholeUptoRow : OpenClaim := { program := "ytdbeajjomifbpaadoor", sum := "7be12feb30a73e944a1797b884de00260f86ea3f3ea4bdcfafad769022a7401e", func := "strongtx/strongtxlaw02.AluWhole", spec := "aluWhole", inPlace := ["math.Float64bits", "math.Float64frombits", "math.archMin", "math.archMax"], named := ["strongtx/alu.names"], apart := false, laid := [("strongtx/alu.names", laid_strongtx_alu_names)], narrowed := true }
def AluWholeUptoSaid : Prop := aluWholeUptoRow.holds Tryd.pinned (OpenSpec.upto aluWholeSpec)

/-- 'strongtxlaw02.AluFloats', WHERE WHAT IT READS IS OF BULK AT MOST 1048576: true; the input reads as it did. -/
def aluFloatsUptoRow : OpenClaim := { program := "ytdbeajjomifbpaadoor", sum := "7be12feb30a73e944a1797b884de00260f86ea3f3ea4bdcfafad769022a7401e", func := "strongtx/strongtxlaw02.AluFloats", spec := "aluFloats", inPlace := ["math.Float64bits", "math.Float64frombits", "math.archMin", "math.archMax"], named := ["strongtx/alu.names"], apart := false, laid := [("strongtx/alu.names", laid_strongtx_alu_names)], narrowed := true }
def AluFloatsUptoSaid : Prop := aluFloatsUptoRow.holds Tryd.pinned (OpenSpec.upto aluFloatsSpec)

/-- 'strongtxlaw02.AluMinMax', WHERE WHAT IT READS IS OF BULK AT MOST 1048576: true; the input reads as it did. -/
def aluMinMaxUptoRow : OpenClaim := { program := "ytdbeajjomifbpaadoor", sum := "7be12feb30a73e944a1797b884de00260f86ea3f3ea4bdcfafad769022a7401e", func := "strongtx/strongtxlaw02.AluMinMax", spec := "aluMinMax", inPlace := ["math.Float64bits", "math.Float64frombits", "math.archMin", "math.archMax"], named := ["strongtx/alu.names"], apart := false, laid := [("strongtx/alu.names", laid_strongtx_alu_names)], narrowed := true }
def AluMinMaxUptoSaid : Prop := aluMinMaxUptoRow.holds Tryd.pinned (OpenSpec.upto aluMinMaxSpec)

/-- 'strongtxlaw02.AluCompares', WHERE WHAT IT READS IS OF BULK AT MOST 1048576: true; the input reads as it did. -/
def aluComparesUptoRow : OpenClaim := { program := "ytdbeajjomifbpaadoor", sum := "7be12feb30a73e944a1797b884de00260f86ea3f3ea4bdcfafad769022a7401e", func := "strongtx/strongtxlaw02.AluCompares", spec := "aluCompares", inPlace := ["math.Float64bits", "math.Float64frombits", "math.archMin", "math.archMax"], named := ["strongtx/alu.names"], apart := false, laid := [("strongtx/alu.names", laid_strongtx_alu_names)], narrowed := true }
def AluComparesUptoSaid : Prop := aluComparesUptoRow.holds Tryd.pinned (OpenSpec.upto aluComparesSpec)

/-- 'strongtxlaw02.AluConverts', WHERE WHAT IT READS IS OF BULK AT MOST 1048576: true; the input reads as it did. -/
def aluConvertsUptoRow : OpenClaim := { program := "ytdbeajjomifbpaadoor", sum := "7be12feb30a73e944a1797b884de00260f86ea3f3ea4bdcfafad769022a7401e", func := "strongtx/strongtxlaw02.AluConverts", spec := "aluConverts", inPlace := ["math.Float64bits", "math.Float64frombits", "math.archMin", "math.archMax"], named := ["strongtx/alu.names"], apart := false, laid := [("strongtx/alu.names", laid_strongtx_alu_names)], narrowed := true }
def AluConvertsUptoSaid : Prop := aluConvertsUptoRow.holds Tryd.pinned (OpenSpec.upto aluConvertsSpec)

/-- 'strongtxlaw02.AluNames', WHERE WHAT IT READS IS OF BULK AT MOST 1048576: true; the input reads as it did. -/
def aluNamesUptoRow : OpenClaim := { program := "ytdbeajjomifbpaadoor", sum := "7be12feb30a73e944a1797b884de00260f86ea3f3ea4bdcfafad769022a7401e", func := "strongtx/strongtxlaw02.AluNames", spec := "aluNames", inPlace := ["math.Float64bits", "math.Float64frombits", "math.archMin", "math.archMax"], named := ["strongtx/alu.names"], apart := false, laid := [("strongtx/alu.names", laid_strongtx_alu_names)], narrowed := true }
def AluNamesUptoSaid : Prop := aluNamesUptoRow.holds Tryd.pinned (OpenSpec.upto aluNamesSpec)

end Rows
end Go.Proofs.YtdbeajjomifbpaaDoor
