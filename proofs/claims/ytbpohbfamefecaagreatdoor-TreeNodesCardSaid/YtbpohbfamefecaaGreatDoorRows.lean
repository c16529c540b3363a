/-
  NARROWER THAN 'FOR EVERY INPUT', by the rows' own cells (each row's printed sentence says how): TreeRoots: laid · TreeNodes: laid · TreeMap: laid · TreeScans: laid · TreeHints: laid · TreeShape: laid · TreePosts: laid · TreeLow: laid · TreeKills: laid · TreeTrips: laid.
  DERIVED. THE GIVEN ROWS OF THIS SEAT. 10 by the template 'for every input the law returns true; each argument reads behind the call as it read before'; 0 by the template 'total and deterministic' (their statements: YtbpohbfamefecaaGreatDoorTotals.lean).
  GIVEN WITH THE SEED: the statements are not yours to turn. If you find one false, say at which input.
  Laid BY PROGRAM, IN A SANDBOX (cutbox-rows.mjs): the forced cells as the released guide's own fill.sh prints them over the translation 94660191b824d4f2… (all of the seat's roots in one cut). By AI agents, Wed Nov 11 2026. No macro, syntax, notation, axiom, sorry.
-/
import Derived.Test.YtbpohbfamefecaaGreatDoorChecked
import GoSem.Claim
import GoSem.ClaimJoined
import GoSem.ClaimMapViews
import Derived.JoinedTies
import Derived.KernelRfl
namespace Go.Proofs.YtbpohbfamefecaaGreatDoor
/- THE CELL 'sum', in the pinned program and in every row, IS THE sha256 OF THE DUMP (.gsa) THAT YtbpohbfamefecaaGreatDoorProg.lean LOADS. Nothing in Lean hashes anything: it is a label: what it is worth is what the hold of that sum in a sandbox is worth. -/
noncomputable def Tryz.pinned : Pinned := { name := "ytbpohbfamefecaagreatdoor", sum := "94660191b824d4f23908de32962db200bdf8c082fc960a0c7677c36053e376a2", checked := Tryz.checked }
namespace Rows
def none {H : Type} : Left H := { results := [], args := [] }

/- WHAT THE LISTED PACKAGE-LEVEL VARIABLES READ AS WHEN THE CALL BEGINS. Each datum BY PROGRAM (the guide's laid-datum.mjs) off the statement by which the dump's own 'gosem.cut.vars' lays the variable. In a bare row this is a premise. The card (YtbpohbfamefecaaGreatDoorCards.lean) ties it to the program's text. -/
def laid_bodega_btree_none {H : Type} : DataW H := .agg [.lit (.int .i64 0), .lit (.int .i64 0)]

/-- 'bodegalaw24.TreeRoots': WHATEVER THE INPUT: true; the input reads as it did. -/
def treeRootsSpec : ChangeSpec := { name := "treeRoots", fn := fun _ => fun
  | [d1, d2, d3, d4] => { results := [.lit (.bool true)], args := [d1, d2, d3, d4] }
  | _ => none }
def treeRootsRow : OpenClaim := { program := "ytbpohbfamefecaagreatdoor", sum := "94660191b824d4f23908de32962db200bdf8c082fc960a0c7677c36053e376a2", func := "bodega/bodegalaw24.TreeRoots", spec := "treeRoots", inPlace := ["slices.overlaps[bodega/hashindex.Entry]"], unfollowed := true, recurses := true, named := ["bodega/btree.none"], apart := false, laid := [("bodega/btree.none", laid_bodega_btree_none)] }
def TreeRootsSaid : Prop := treeRootsRow.holds Tryz.pinned (OpenSpec.ofChange treeRootsSpec)

/-- ITS FALSE NEIGHBOUR: 'it returns false'. Refute it at one input. -/
def treeRootsWrong : ChangeSpec := { name := "treeRoots", fn := fun _ => fun
  | [d1, d2, d3, d4] => { results := [.lit (.bool false)], args := [d1, d2, d3, d4] }
  | _ => none }
def TreeRootsWrongFalsely : Prop := treeRootsRow.holds Tryz.pinned (OpenSpec.ofChange treeRootsWrong)

/-- 'bodegalaw24.TreeNodes': WHATEVER THE INPUT: true; the input reads as it did. -/
def treeNodesSpec : ChangeSpec := { name := "treeNodes", fn := fun _ => fun
  | [d1, d2, d3] => { results := [.lit (.bool true)], args := [d1, d2, d3] }
  | _ => none }
def treeNodesRow : OpenClaim := { program := "ytbpohbfamefecaagreatdoor", sum := "94660191b824d4f23908de32962db200bdf8c082fc960a0c7677c36053e376a2", func := "bodega/bodegalaw24.TreeNodes", spec := "treeNodes", inPlace := ["slices.overlaps[bodega/hashindex.Entry]"], unfollowed := true, recurses := true, named := ["bodega/btree.none"], apart := false, laid := [("bodega/btree.none", laid_bodega_btree_none)] }
def TreeNodesSaid : Prop := treeNodesRow.holds Tryz.pinned (OpenSpec.ofChange treeNodesSpec)

/-- ITS FALSE NEIGHBOUR: 'it returns false'. Refute it at one input. -/
def treeNodesWrong : ChangeSpec := { name := "treeNodes", fn := fun _ => fun
  | [d1, d2, d3] => { results := [.lit (.bool false)], args := [d1, d2, d3] }
  | _ => none }
def TreeNodesWrongFalsely : Prop := treeNodesRow.holds Tryz.pinned (OpenSpec.ofChange treeNodesWrong)

/-- 'bodegalaw24.TreeMap': WHATEVER THE INPUT: true; the input reads as it did. -/
def treeMapSpec : ChangeSpec := { name := "treeMap", fn := fun _ => fun
  | [d1, d2] => { results := [.lit (.bool true)], args := [d1, d2] }
  | _ => none }
def treeMapRow : OpenClaim := { program := "ytbpohbfamefecaagreatdoor", sum := "94660191b824d4f23908de32962db200bdf8c082fc960a0c7677c36053e376a2", func := "bodega/bodegalaw24.TreeMap", spec := "treeMap", inPlace := ["slices.overlaps[bodega/hashindex.Entry]"], unfollowed := true, recurses := true, named := ["bodega/btree.none"], apart := false, laid := [("bodega/btree.none", laid_bodega_btree_none)] }
def TreeMapSaid : Prop := treeMapRow.holds Tryz.pinned (OpenSpec.ofChange treeMapSpec)

/-- ITS FALSE NEIGHBOUR: 'it returns false'. Refute it at one input. -/
def treeMapWrong : ChangeSpec := { name := "treeMap", fn := fun _ => fun
  | [d1, d2] => { results := [.lit (.bool false)], args := [d1, d2] }
  | _ => none }
def TreeMapWrongFalsely : Prop := treeMapRow.holds Tryz.pinned (OpenSpec.ofChange treeMapWrong)

/-- 'bodegalaw24.TreeScans': WHATEVER THE INPUT: true; the input reads as it did. -/
def treeScansSpec : ChangeSpec := { name := "treeScans", fn := fun _ => fun
  | [d1, d2, d3, d4] => { results := [.lit (.bool true)], args := [d1, d2, d3, d4] }
  | _ => none }
def treeScansRow : OpenClaim := { program := "ytbpohbfamefecaagreatdoor", sum := "94660191b824d4f23908de32962db200bdf8c082fc960a0c7677c36053e376a2", func := "bodega/bodegalaw24.TreeScans", spec := "treeScans", inPlace := ["slices.overlaps[bodega/hashindex.Entry]"], unfollowed := true, recurses := true, named := ["bodega/btree.none"], apart := false, laid := [("bodega/btree.none", laid_bodega_btree_none)] }
def TreeScansSaid : Prop := treeScansRow.holds Tryz.pinned (OpenSpec.ofChange treeScansSpec)

/-- ITS FALSE NEIGHBOUR: 'it returns false'. Refute it at one input. -/
def treeScansWrong : ChangeSpec := { name := "treeScans", fn := fun _ => fun
  | [d1, d2, d3, d4] => { results := [.lit (.bool false)], args := [d1, d2, d3, d4] }
  | _ => none }
def TreeScansWrongFalsely : Prop := treeScansRow.holds Tryz.pinned (OpenSpec.ofChange treeScansWrong)

/-- 'bodegalaw24.TreeHints': WHATEVER THE INPUT: true; the input reads as it did. -/
def treeHintsSpec : ChangeSpec := { name := "treeHints", fn := fun _ => fun
  | [d1, d2, d3] => { results := [.lit (.bool true)], args := [d1, d2, d3] }
  | _ => none }
def treeHintsRow : OpenClaim := { program := "ytbpohbfamefecaagreatdoor", sum := "94660191b824d4f23908de32962db200bdf8c082fc960a0c7677c36053e376a2", func := "bodega/bodegalaw24.TreeHints", spec := "treeHints", inPlace := ["slices.overlaps[bodega/hashindex.Entry]"], unfollowed := true, recurses := true, named := ["bodega/btree.none"], apart := false, laid := [("bodega/btree.none", laid_bodega_btree_none)] }
def TreeHintsSaid : Prop := treeHintsRow.holds Tryz.pinned (OpenSpec.ofChange treeHintsSpec)

/-- ITS FALSE NEIGHBOUR: 'it returns false'. Refute it at one input. -/
def treeHintsWrong : ChangeSpec := { name := "treeHints", fn := fun _ => fun
  | [d1, d2, d3] => { results := [.lit (.bool false)], args := [d1, d2, d3] }
  | _ => none }
def TreeHintsWrongFalsely : Prop := treeHintsRow.holds Tryz.pinned (OpenSpec.ofChange treeHintsWrong)

/-- 'bodegalaw24.TreeShape': WHATEVER THE INPUT: true; the input reads as it did. -/
def treeShapeSpec : ChangeSpec := { name := "treeShape", fn := fun _ => fun
  | [d] => { results := [.lit (.bool true)], args := [d] }
  | _ => none }
def treeShapeRow : OpenClaim := { program := "ytbpohbfamefecaagreatdoor", sum := "94660191b824d4f23908de32962db200bdf8c082fc960a0c7677c36053e376a2", func := "bodega/bodegalaw24.TreeShape", spec := "treeShape", inPlace := ["slices.overlaps[bodega/hashindex.Entry]"], unfollowed := true, recurses := true, named := ["bodega/btree.none"], apart := false, laid := [("bodega/btree.none", laid_bodega_btree_none)] }
def TreeShapeSaid : Prop := treeShapeRow.holds Tryz.pinned (OpenSpec.ofChange treeShapeSpec)

/-- ITS FALSE NEIGHBOUR: 'it returns false'. Refute it at one input. -/
def treeShapeWrong : ChangeSpec := { name := "treeShape", fn := fun _ => fun
  | [d] => { results := [.lit (.bool false)], args := [d] }
  | _ => none }
def TreeShapeWrongFalsely : Prop := treeShapeRow.holds Tryz.pinned (OpenSpec.ofChange treeShapeWrong)

/-- 'bodegalaw24.TreePosts': WHATEVER THE INPUT: true; the input reads as it did. -/
def treePostsSpec : ChangeSpec := { name := "treePosts", fn := fun _ => fun
  | [d] => { results := [.lit (.bool true)], args := [d] }
  | _ => none }
def treePostsRow : OpenClaim := { program := "ytbpohbfamefecaagreatdoor", sum := "94660191b824d4f23908de32962db200bdf8c082fc960a0c7677c36053e376a2", func := "bodega/bodegalaw24.TreePosts", spec := "treePosts", inPlace := ["slices.overlaps[bodega/hashindex.Entry]"], unfollowed := true, recurses := true, named := ["bodega/btree.none"], apart := false, laid := [("bodega/btree.none", laid_bodega_btree_none)] }
def TreePostsSaid : Prop := treePostsRow.holds Tryz.pinned (OpenSpec.ofChange treePostsSpec)

/-- ITS FALSE NEIGHBOUR: 'it returns false'. Refute it at one input. -/
def treePostsWrong : ChangeSpec := { name := "treePosts", fn := fun _ => fun
  | [d] => { results := [.lit (.bool false)], args := [d] }
  | _ => none }
def TreePostsWrongFalsely : Prop := treePostsRow.holds Tryz.pinned (OpenSpec.ofChange treePostsWrong)

/-- 'bodegalaw24.TreeLow': WHATEVER THE INPUT: true; the input reads as it did. -/
def treeLowSpec : ChangeSpec := { name := "treeLow", fn := fun _ => fun
  | [d] => { results := [.lit (.bool true)], args := [d] }
  | _ => none }
def treeLowRow : OpenClaim := { program := "ytbpohbfamefecaagreatdoor", sum := "94660191b824d4f23908de32962db200bdf8c082fc960a0c7677c36053e376a2", func := "bodega/bodegalaw24.TreeLow", spec := "treeLow", inPlace := ["slices.overlaps[bodega/hashindex.Entry]"], unfollowed := true, recurses := true, named := ["bodega/btree.none"], apart := false, laid := [("bodega/btree.none", laid_bodega_btree_none)] }
def TreeLowSaid : Prop := treeLowRow.holds Tryz.pinned (OpenSpec.ofChange treeLowSpec)

/-- ITS FALSE NEIGHBOUR: 'it returns false'. Refute it at one input. -/
def treeLowWrong : ChangeSpec := { name := "treeLow", fn := fun _ => fun
  | [d] => { results := [.lit (.bool false)], args := [d] }
  | _ => none }
def TreeLowWrongFalsely : Prop := treeLowRow.holds Tryz.pinned (OpenSpec.ofChange treeLowWrong)

/-- 'bodegalaw24.TreeKills': WHATEVER THE INPUT: true; the input reads as it did. -/
def treeKillsSpec : ChangeSpec := { name := "treeKills", fn := fun _ => fun
  | [d1, d2] => { results := [.lit (.bool true)], args := [d1, d2] }
  | _ => none }
def treeKillsRow : OpenClaim := { program := "ytbpohbfamefecaagreatdoor", sum := "94660191b824d4f23908de32962db200bdf8c082fc960a0c7677c36053e376a2", func := "bodega/bodegalaw24.TreeKills", spec := "treeKills", inPlace := ["slices.overlaps[bodega/hashindex.Entry]"], unfollowed := true, recurses := true, named := ["bodega/btree.none"], apart := false, laid := [("bodega/btree.none", laid_bodega_btree_none)] }
def TreeKillsSaid : Prop := treeKillsRow.holds Tryz.pinned (OpenSpec.ofChange treeKillsSpec)

/-- ITS FALSE NEIGHBOUR: 'it returns false'. Refute it at one input. -/
def treeKillsWrong : ChangeSpec := { name := "treeKills", fn := fun _ => fun
  | [d1, d2] => { results := [.lit (.bool false)], args := [d1, d2] }
  | _ => none }
def TreeKillsWrongFalsely : Prop := treeKillsRow.holds Tryz.pinned (OpenSpec.ofChange treeKillsWrong)

/-- 'bodegalaw24.TreeTrips': WHATEVER THE INPUT: true; the input reads as it did. -/
def treeTripsSpec : ChangeSpec := { name := "treeTrips", fn := fun _ => fun
  | [d1, d2] => { results := [.lit (.bool true)], args := [d1, d2] }
  | _ => none }
def treeTripsRow : OpenClaim := { program := "ytbpohbfamefecaagreatdoor", sum := "94660191b824d4f23908de32962db200bdf8c082fc960a0c7677c36053e376a2", func := "bodega/bodegalaw24.TreeTrips", spec := "treeTrips", inPlace := ["slices.overlaps[bodega/hashindex.Entry]"], unfollowed := true, recurses := true, named := ["bodega/btree.none"], apart := false, laid := [("bodega/btree.none", laid_bodega_btree_none)] }
def TreeTripsSaid : Prop := treeTripsRow.holds Tryz.pinned (OpenSpec.ofChange treeTripsSpec)

/-- ITS FALSE NEIGHBOUR: 'it returns false'. Refute it at one input. -/
def treeTripsWrong : ChangeSpec := { name := "treeTrips", fn := fun _ => fun
  | [d1, d2] => { results := [.lit (.bool false)], args := [d1, d2] }
  | _ => none }
def TreeTripsWrongFalsely : Prop := treeTripsRow.holds Tryz.pinned (OpenSpec.ofChange treeTripsWrong)

/- THE SECOND FORM. 'bulk': how many values and letters a reading holds, each counted each time it is reached (what is shared counts as often as it is met; a slice's spare places count too). A statement '..UptoSaid' is the law's where the arguments, and the package variables that the reading takes, are together of bulk at most 1048576: NARROWER than '..Said'. Prove '..Said' where nothing that the law and all that it calls make is longer than what came in: it says more and counts as full. Else prove '..UptoSaid'. A law counts once. -/
mutual
def uptoBulk {H : Type} : DataW H → Nat
  | .lit (.string bytes) => bytes.length + 1
  | .lit _ => 1
  | .nil => 1
  | .ptr d => uptoBulk d + 1
  | .slice elems spare => uptoBulkAll elems + uptoBulkAll spare + 1
  | .agg parts => uptoBulkAll parts + 1
  | .iface _ d => uptoBulk d + 1
  | .map entries => uptoBulkEntries entries + 1
  | .held _ => 1
def uptoBulkAll {H : Type} : List (DataW H) → Nat
  | [] => 0
  | d :: r => uptoBulk d + uptoBulkAll r
def uptoBulkEntries {H : Type} : List (Lit × DataW H) → Nat
  | [] => 0
  | x :: r => uptoBulkEntry x + uptoBulkEntries r
def uptoBulkEntry {H : Type} : Lit × DataW H → Nat
  | (.string bytes, d) => bytes.length + uptoBulk d + 1
  | (_, d) => uptoBulk d + 1
 end
def uptoSmall : (H : Type) → List (DataW H) → Bool := fun _ ds => decide (uptoBulkAll ds ≤ 1048576)
def OpenSpec.upto (s : _root_.Go.ChangeSpec) : _root_.Go.OpenSpec := { _root_.Go.OpenSpec.ofChange s with cond := some uptoSmall }

/-- 'bodegalaw24.TreeRoots', WHERE WHAT IT READS IS OF BULK AT MOST 1048576: true; the input reads as it did. -/
def treeRootsUptoRow : OpenClaim := { program := "ytbpohbfamefecaagreatdoor", sum := "94660191b824d4f23908de32962db200bdf8c082fc960a0c7677c36053e376a2", func := "bodega/bodegalaw24.TreeRoots", spec := "treeRoots", inPlace := ["slices.overlaps[bodega/hashindex.Entry]"], unfollowed := true, recurses := true, named := ["bodega/btree.none"], apart := false, laid := [("bodega/btree.none", laid_bodega_btree_none)], narrowed := true }
def TreeRootsUptoSaid : Prop := treeRootsUptoRow.holds Tryz.pinned (OpenSpec.upto treeRootsSpec)

/-- 'bodegalaw24.TreeNodes', WHERE WHAT IT READS IS OF BULK AT MOST 1048576: true; the input reads as it did. -/
def treeNodesUptoRow : OpenClaim := { program := "ytbpohbfamefecaagreatdoor", sum := "94660191b824d4f23908de32962db200bdf8c082fc960a0c7677c36053e376a2", func := "bodega/bodegalaw24.TreeNodes", spec := "treeNodes", inPlace := ["slices.overlaps[bodega/hashindex.Entry]"], unfollowed := true, recurses := true, named := ["bodega/btree.none"], apart := false, laid := [("bodega/btree.none", laid_bodega_btree_none)], narrowed := true }
def TreeNodesUptoSaid : Prop := treeNodesUptoRow.holds Tryz.pinned (OpenSpec.upto treeNodesSpec)

/-- 'bodegalaw24.TreeMap', WHERE WHAT IT READS IS OF BULK AT MOST 1048576: true; the input reads as it did. -/
def treeMapUptoRow : OpenClaim := { program := "ytbpohbfamefecaagreatdoor", sum := "94660191b824d4f23908de32962db200bdf8c082fc960a0c7677c36053e376a2", func := "bodega/bodegalaw24.TreeMap", spec := "treeMap", inPlace := ["slices.overlaps[bodega/hashindex.Entry]"], unfollowed := true, recurses := true, named := ["bodega/btree.none"], apart := false, laid := [("bodega/btree.none", laid_bodega_btree_none)], narrowed := true }
def TreeMapUptoSaid : Prop := treeMapUptoRow.holds Tryz.pinned (OpenSpec.upto treeMapSpec)

/-- 'bodegalaw24.TreeScans', WHERE WHAT IT READS IS OF BULK AT MOST 1048576: true; the input reads as it did. -/
def treeScansUptoRow : OpenClaim := { program := "ytbpohbfamefecaagreatdoor", sum := "94660191b824d4f23908de32962db200bdf8c082fc960a0c7677c36053e376a2", func := "bodega/bodegalaw24.TreeScans", spec := "treeScans", inPlace := ["slices.overlaps[bodega/hashindex.Entry]"], unfollowed := true, recurses := true, named := ["bodega/btree.none"], apart := false, laid := [("bodega/btree.none", laid_bodega_btree_none)], narrowed := true }
def TreeScansUptoSaid : Prop := treeScansUptoRow.holds Tryz.pinned (OpenSpec.upto treeScansSpec)

/-- 'bodegalaw24.TreeHints', WHERE WHAT IT READS IS OF BULK AT MOST 1048576: true; the input reads as it did. -/
def treeHintsUptoRow : OpenClaim := { program := "ytbpohbfamefecaagreatdoor", sum := "94660191b824d4f23908de32962db200bdf8c082fc960a0c7677c36053e376a2", func := "bodega/bodegalaw24.TreeHints", spec := "treeHints", inPlace := ["slices.overlaps[bodega/hashindex.Entry]"], unfollowed := true, recurses := true, named := ["bodega/btree.none"], apart := false, laid := [("bodega/btree.none", laid_bodega_btree_none)], narrowed := true }
def TreeHintsUptoSaid : Prop := treeHintsUptoRow.holds Tryz.pinned (OpenSpec.upto treeHintsSpec)

/-- 'bodegalaw24.TreeShape', WHERE WHAT IT READS IS OF BULK AT MOST 1048576: true; the input reads as it did. -/
def treeShapeUptoRow : OpenClaim := { program := "ytbpohbfamefecaagreatdoor", sum := "94660191b824d4f23908de32962db200bdf8c082fc960a0c7677c36053e376a2", func := "bodega/bodegalaw24.TreeShape", spec := "treeShape", inPlace := ["slices.overlaps[bodega/hashindex.Entry]"], unfollowed := true, recurses := true, named := ["bodega/btree.none"], apart := false, laid := [("bodega/btree.none", laid_bodega_btree_none)], narrowed := true }
def TreeShapeUptoSaid : Prop := treeShapeUptoRow.holds Tryz.pinned (OpenSpec.upto treeShapeSpec)

/-- 'bodegalaw24.TreePosts', WHERE WHAT IT READS IS OF BULK AT MOST 1048576: true; the input reads as it did. -/
def treePostsUptoRow : OpenClaim := { program := "ytbpohbfamefecaagreatdoor", sum := "94660191b824d4f23908de32962db200bdf8c082fc960a0c7677c36053e376a2", func := "bodega/bodegalaw24.TreePosts", spec := "treePosts", inPlace := ["slices.overlaps[bodega/hashindex.Entry]"], unfollowed := true, recurses := true, named := ["bodega/btree.none"], apart := false, laid := [("bodega/btree.none", laid_bodega_btree_none)], narrowed := true }
def TreePostsUptoSaid : Prop := treePostsUptoRow.holds Tryz.pinned (OpenSpec.upto treePostsSpec)

/-- 'bodegalaw24.TreeLow', WHERE WHAT IT READS IS OF BULK AT MOST 1048576: true; the input reads as it did. -/
def treeLowUptoRow : OpenClaim := { program := "ytbpohbfamefecaagreatdoor", sum := "94660191b824d4f23908de32962db200bdf8c082fc960a0c7677c36053e376a2", func := "bodega/bodegalaw24.TreeLow", spec := "treeLow", inPlace := ["slices.overlaps[bodega/hashindex.Entry]"], unfollowed := true, recurses := true, named := ["bodega/btree.none"], apart := false, laid := [("bodega/btree.none", laid_bodega_btree_none)], narrowed := true }
def TreeLowUptoSaid : Prop := treeLowUptoRow.holds Tryz.pinned (OpenSpec.upto treeLowSpec)

/-- 'bodegalaw24.TreeKills', WHERE WHAT IT READS IS OF BULK AT MOST 1048576: true; the input reads as it did. -/
def treeKillsUptoRow : OpenClaim := { program := "ytbpohbfamefecaagreatdoor", sum := "94660191b824d4f23908de32962db200bdf8c082fc960a0c7677c36053e376a2", func := "bodega/bodegalaw24.TreeKills", spec := "treeKills", inPlace := ["slices.overlaps[bodega/hashindex.Entry]"], unfollowed := true, recurses := true, named := ["bodega/btree.none"], apart := false, laid := [("bodega/btree.none", laid_bodega_btree_none)], narrowed := true }
def TreeKillsUptoSaid : Prop := treeKillsUptoRow.holds Tryz.pinned (OpenSpec.upto treeKillsSpec)

/-- 'bodegalaw24.TreeTrips', WHERE WHAT IT READS IS OF BULK AT MOST 1048576: true; the input reads as it did. -/
def treeTripsUptoRow : OpenClaim := { program := "ytbpohbfamefecaagreatdoor", sum := "94660191b824d4f23908de32962db200bdf8c082fc960a0c7677c36053e376a2", func := "bodega/bodegalaw24.TreeTrips", spec := "treeTrips", inPlace := ["slices.overlaps[bodega/hashindex.Entry]"], unfollowed := true, recurses := true, named := ["bodega/btree.none"], apart := false, laid := [("bodega/btree.none", laid_bodega_btree_none)], narrowed := true }
def TreeTripsUptoSaid : Prop := treeTripsUptoRow.holds Tryz.pinned (OpenSpec.upto treeTripsSpec)

end Rows
end Go.Proofs.YtbpohbfamefecaaGreatDoor
