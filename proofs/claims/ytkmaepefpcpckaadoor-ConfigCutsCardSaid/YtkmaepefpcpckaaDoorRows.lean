/-
  NARROWER THAN 'FOR EVERY INPUT', by the rows' own cells (each row's printed sentence says how): ConfigKeeps: laid · ConfigCuts: laid · ConfigWhere: laid · ConfigTables: laid · ConfigReplays: laid.
  DERIVED. THE GIVEN ROWS OF THIS SEAT. 5 by the template 'for every input the law returns true; each argument reads behind the call as it read before'; 0 by the template 'total and deterministic' (their statements: YtkmaepefpcpckaaDoorTotals.lean).
  GIVEN WITH THE SEED: the statements are not yours to turn. If you find one false, say at which input.
  Laid BY PROGRAM, IN A SANDBOX (cutbox-rows.mjs): the forced cells as the released guide's own fill.sh prints them over the translation c0879ec633f91c66… (all of the seat's roots in one cut). By AI agents, Wed Nov 11 2026. No macro, syntax, notation, axiom, sorry.
-/
import Derived.Test.YtkmaepefpcpckaaDoorChecked
import GoSem.Claim
import GoSem.ClaimJoined
import GoSem.ClaimMapViews
import Derived.JoinedTies
import Derived.KernelRfl
namespace Go.Proofs.YtkmaepefpcpckaaDoor
/- THE CELL 'sum', in the pinned program and in every row, IS THE sha256 OF THE DUMP (.gsa) THAT YtkmaepefpcpckaaDoorProg.lean LOADS. Nothing in Lean hashes anything: it is a label: what it is worth is what the hold of that sum in a sandbox is worth. -/
noncomputable def Tryd.pinned : Pinned := { name := "ytkmaepefpcpckaadoor", sum := "c0879ec633f91c66f54ad2168dbaebae6b9da5f000ab8ccb4062ccf184ce75ec", checked := Tryd.checked }
namespace Rows
def none {H : Type} : Left H := { results := [], args := [] }

/- WHAT THE LISTED PACKAGE-LEVEL VARIABLES READ AS WHEN THE CALL BEGINS. Each datum BY PROGRAM (the guide's laid-datum.mjs) off the statement by which the dump's own 'gosem.cut.vars' lays the variable. In a bare row this is a premise. The card (YtkmaepefpcpckaaDoorCards.lean) ties it to the program's text. -/
def laid_weirkeep_config_kinds {H : Type} : DataW H := .iface "func table" (.agg [.agg [.nil], .agg [.iface "func" (.lit (.string [119, 101, 105, 114, 107, 101, 101, 112, 47, 99, 111, 110, 102, 105, 103, 46, 99, 111, 109, 101]))], .agg [.iface "func" (.lit (.string [119, 101, 105, 114, 107, 101, 101, 112, 47, 99, 111, 110, 102, 105, 103, 46, 108, 101, 97, 118, 101]))], .agg [.iface "func" (.lit (.string [119, 101, 105, 114, 107, 101, 101, 112, 47, 99, 111, 110, 102, 105, 103, 46, 112, 108, 97, 99, 101]))], .agg [.iface "func" (.lit (.string [119, 101, 105, 114, 107, 101, 101, 112, 47, 99, 111, 110, 102, 105, 103, 46, 116, 97, 98, 108, 101, 115]))]])

/-- 'weirkeeplaw12.ConfigKeeps': WHATEVER THE INPUT: true; the input reads as it did. -/
def configKeepsSpec : ChangeSpec := { name := "configKeeps", fn := fun _ => fun
  | [d1, d2, d3] => { results := [.lit (.bool true)], args := [d1, d2, d3] }
  | _ => none }
def configKeepsRow : OpenClaim := { program := "ytkmaepefpcpckaadoor", sum := "c0879ec633f91c66f54ad2168dbaebae6b9da5f000ab8ccb4062ccf184ce75ec", func := "weirkeep/weirkeeplaw12.ConfigKeeps", spec := "configKeeps", unfollowed := true, recurses := true, named := ["weirkeep/config.kinds"], apart := false, laid := [("weirkeep/config.kinds", laid_weirkeep_config_kinds)] }
def ConfigKeepsSaid : Prop := configKeepsRow.holds Tryd.pinned (OpenSpec.ofChange configKeepsSpec)

/-- ITS FALSE NEIGHBOUR: 'it returns false'. Refute it at one input. -/
def configKeepsWrong : ChangeSpec := { name := "configKeeps", fn := fun _ => fun
  | [d1, d2, d3] => { results := [.lit (.bool false)], args := [d1, d2, d3] }
  | _ => none }
def ConfigKeepsWrongFalsely : Prop := configKeepsRow.holds Tryd.pinned (OpenSpec.ofChange configKeepsWrong)

/-- 'weirkeeplaw12.ConfigCuts': WHATEVER THE INPUT: true; the input reads as it did. -/
def configCutsSpec : ChangeSpec := { name := "configCuts", fn := fun _ => fun
  | [d1, d2, d3, d4] => { results := [.lit (.bool true)], args := [d1, d2, d3, d4] }
  | _ => none }
def configCutsRow : OpenClaim := { program := "ytkmaepefpcpckaadoor", sum := "c0879ec633f91c66f54ad2168dbaebae6b9da5f000ab8ccb4062ccf184ce75ec", func := "weirkeep/weirkeeplaw12.ConfigCuts", spec := "configCuts", unfollowed := true, recurses := true, named := ["weirkeep/config.kinds"], apart := false, laid := [("weirkeep/config.kinds", laid_weirkeep_config_kinds)] }
def ConfigCutsSaid : Prop := configCutsRow.holds Tryd.pinned (OpenSpec.ofChange configCutsSpec)

/-- ITS FALSE NEIGHBOUR: 'it returns false'. Refute it at one input. -/
def configCutsWrong : ChangeSpec := { name := "configCuts", fn := fun _ => fun
  | [d1, d2, d3, d4] => { results := [.lit (.bool false)], args := [d1, d2, d3, d4] }
  | _ => none }
def ConfigCutsWrongFalsely : Prop := configCutsRow.holds Tryd.pinned (OpenSpec.ofChange configCutsWrong)

/-- 'weirkeeplaw12.ConfigWhere': WHATEVER THE INPUT: true; the input reads as it did. -/
def configWhereSpec : ChangeSpec := { name := "configWhere", fn := fun _ => fun
  | [d1, d2] => { results := [.lit (.bool true)], args := [d1, d2] }
  | _ => none }
def configWhereRow : OpenClaim := { program := "ytkmaepefpcpckaadoor", sum := "c0879ec633f91c66f54ad2168dbaebae6b9da5f000ab8ccb4062ccf184ce75ec", func := "weirkeep/weirkeeplaw12.ConfigWhere", spec := "configWhere", unfollowed := true, recurses := true, named := ["weirkeep/config.kinds"], apart := false, laid := [("weirkeep/config.kinds", laid_weirkeep_config_kinds)] }
def ConfigWhereSaid : Prop := configWhereRow.holds Tryd.pinned (OpenSpec.ofChange configWhereSpec)

/-- ITS FALSE NEIGHBOUR: 'it returns false'. Refute it at one input. -/
def configWhereWrong : ChangeSpec := { name := "configWhere", fn := fun _ => fun
  | [d1, d2] => { results := [.lit (.bool false)], args := [d1, d2] }
  | _ => none }
def ConfigWhereWrongFalsely : Prop := configWhereRow.holds Tryd.pinned (OpenSpec.ofChange configWhereWrong)

/-- 'weirkeeplaw12.ConfigTables': WHATEVER THE INPUT: true; the input reads as it did. -/
def configTablesSpec : ChangeSpec := { name := "configTables", fn := fun _ => fun
  | [d1, d2, d3, d4] => { results := [.lit (.bool true)], args := [d1, d2, d3, d4] }
  | _ => none }
def configTablesRow : OpenClaim := { program := "ytkmaepefpcpckaadoor", sum := "c0879ec633f91c66f54ad2168dbaebae6b9da5f000ab8ccb4062ccf184ce75ec", func := "weirkeep/weirkeeplaw12.ConfigTables", spec := "configTables", unfollowed := true, recurses := true, named := ["weirkeep/config.kinds"], apart := false, laid := [("weirkeep/config.kinds", laid_weirkeep_config_kinds)] }
def ConfigTablesSaid : Prop := configTablesRow.holds Tryd.pinned (OpenSpec.ofChange configTablesSpec)

/-- ITS FALSE NEIGHBOUR: 'it returns false'. Refute it at one input. -/
def configTablesWrong : ChangeSpec := { name := "configTables", fn := fun _ => fun
  | [d1, d2, d3, d4] => { results := [.lit (.bool false)], args := [d1, d2, d3, d4] }
  | _ => none }
def ConfigTablesWrongFalsely : Prop := configTablesRow.holds Tryd.pinned (OpenSpec.ofChange configTablesWrong)

/-- 'weirkeeplaw12.ConfigReplays': WHATEVER THE INPUT: true; the input reads as it did. -/
def configReplaysSpec : ChangeSpec := { name := "configReplays", fn := fun _ => fun
  | [d1, d2] => { results := [.lit (.bool true)], args := [d1, d2] }
  | _ => none }
def configReplaysRow : OpenClaim := { program := "ytkmaepefpcpckaadoor", sum := "c0879ec633f91c66f54ad2168dbaebae6b9da5f000ab8ccb4062ccf184ce75ec", func := "weirkeep/weirkeeplaw12.ConfigReplays", spec := "configReplays", unfollowed := true, recurses := true, named := ["weirkeep/config.kinds"], apart := false, laid := [("weirkeep/config.kinds", laid_weirkeep_config_kinds)] }
def ConfigReplaysSaid : Prop := configReplaysRow.holds Tryd.pinned (OpenSpec.ofChange configReplaysSpec)

/-- ITS FALSE NEIGHBOUR: 'it returns false'. Refute it at one input. -/
def configReplaysWrong : ChangeSpec := { name := "configReplays", fn := fun _ => fun
  | [d1, d2] => { results := [.lit (.bool false)], args := [d1, d2] }
  | _ => none }
def ConfigReplaysWrongFalsely : Prop := configReplaysRow.holds Tryd.pinned (OpenSpec.ofChange configReplaysWrong)

/- THE SECOND FORM. 'bulk': how many values and letters a reading holds, each counted each time it is reached (what is shared counts as often as it is met; a slice's spare places count too). A statement '..UptoSaid' is the law's where the arguments, and the package variables that the reading takes, are together of bulk at most 1048576: NARROWER than '..Said'. Prove '..Said' where nothing that the law and all that it calls make is longer than what came in: it says more and counts as full. Else prove '..UptoSaid'. A law counts once. -/
mutual
def uptoBulk {H : Type} : DataW H → Nat
  | .lit (.string bytes) => bytes.length + 1
  | .lit _ => 1
  | .nil => 1
  | .ptr d => uptoBulk d + 1
  | .slice elems spare => uptoBulkAll elems + uptoBulkAll spare + 1
  | .agg parts => uptoBulkAll parts + 1
  | .iface _ d => uptoBulk d + 1
  | .map entries => uptoBulkEntries entries + 1
  | .held _ => 1
def uptoBulkAll {H : Type} : List (DataW H) → Nat
  | [] => 0
  | d :: r => uptoBulk d + uptoBulkAll r
def uptoBulkEntries {H : Type} : List (Lit × DataW H) → Nat
  | [] => 0
  | x :: r => uptoBulkEntry x + uptoBulkEntries r
def uptoBulkEntry {H : Type} : Lit × DataW H → Nat
  | (.string bytes, d) => bytes.length + uptoBulk d + 1
  | (_, d) => uptoBulk d + 1
 end
def uptoSmall : (H : Type) → List (DataW H) → Bool := fun _ ds => decide (uptoBulkAll ds ≤ 1048576)
def OpenSpec.upto (s : _root_.Go.ChangeSpec) : _root_.Go.OpenSpec := { _root_.Go.OpenSpec.ofChange s with cond := some uptoSmall }

/-- 'weirkeeplaw12.ConfigKeeps', WHERE WHAT IT READS IS OF BULK AT MOST 1048576: true; the input reads as it did. -/
def configKeepsUptoRow : OpenClaim := { program := "ytkmaepefpcpckaadoor", sum := "c0879ec633f91c66f54ad2168dbaebae6b9da5f000ab8ccb4062ccf184ce75ec", func := "weirkeep/weirkeeplaw12.ConfigKeeps", spec := "configKeeps", unfollowed := true, recurses := true, named := ["weirkeep/config.kinds"], apart := false, laid := [("weirkeep/config.kinds", laid_weirkeep_config_kinds)], narrowed := true }
def ConfigKeepsUptoSaid : Prop := configKeepsUptoRow.holds Tryd.pinned (OpenSpec.upto configKeepsSpec)

/-- 'weirkeeplaw12.ConfigCuts', WHERE WHAT IT READS IS OF BULK AT MOST 1048576: true; the input reads as it did. -/
def configCutsUptoRow : OpenClaim := { program := "ytkmaepefpcpckaadoor", sum := "c0879ec633f91c66f54ad2168dbaebae6b9da5f000ab8ccb4062ccf184ce75ec", func := "weirkeep/weirkeeplaw12.ConfigCuts", spec := "configCuts", unfollowed := true, recurses := true, named := ["weirkeep/config.kinds"], apart := false, laid := [("weirkeep/config.kinds", laid_weirkeep_config_kinds)], narrowed := true }
def ConfigCutsUptoSaid : Prop := configCutsUptoRow.holds Tryd.pinned (OpenSpec.upto configCutsSpec)

/-- 'weirkeeplaw12.ConfigWhere', WHERE WHAT IT READS IS OF BULK AT MOST 1048576: true; the input reads as it did. -/
def configWhereUptoRow : OpenClaim := { program := "ytkmaepefpcpckaadoor", sum := "c0879ec633f91c66f54ad2168dbaebae6b9da5f000ab8ccb4062ccf184ce75ec", func := "weirkeep/weirkeeplaw12.ConfigWhere", spec := "configWhere", unfollowed := true, recurses := true, named := ["weirkeep/config.kinds"], apart := false, laid := [("weirkeep/config.kinds", laid_weirkeep_config_kinds)], narrowed := true }
def ConfigWhereUptoSaid : Prop := configWhereUptoRow.holds Tryd.pinned (OpenSpec.upto configWhereSpec)

/-- 'weirkeeplaw12.ConfigTables', WHERE WHAT IT READS IS OF BULK AT MOST 1048576: true; the input reads as it did. -/
def configTablesUptoRow : OpenClaim := { program := "ytkmaepefpcpckaadoor", sum := "c0879ec633f91c66f54ad2168dbaebae6b9da5f000ab8ccb4062ccf184ce75ec", func := "weirkeep/weirkeeplaw12.ConfigTables", spec := "configTables", unfollowed := true, recurses := true, named := ["weirkeep/config.kinds"], apart := false, laid := [("weirkeep/config.kinds", laid_weirkeep_config_kinds)], narrowed := true }
def ConfigTablesUptoSaid : Prop := configTablesUptoRow.holds Tryd.pinned (OpenSpec.upto configTablesSpec)

/-- 'weirkeeplaw12.ConfigReplays', WHERE WHAT IT READS IS OF BULK AT MOST 1048576: true; the input reads as it did. -/
def configReplaysUptoRow : OpenClaim := { program := "ytkmaepefpcpckaadoor", sum := "c0879ec633f91c66f54ad2168dbaebae6b9da5f000ab8ccb4062ccf184ce75ec", func := "weirkeep/weirkeeplaw12.ConfigReplays", spec := "configReplays", unfollowed := true, recurses := true, named := ["weirkeep/config.kinds"], apart := false, laid := [("weirkeep/config.kinds", laid_weirkeep_config_kinds)], narrowed := true }
def ConfigReplaysUptoSaid : Prop := configReplaysUptoRow.holds Tryd.pinned (OpenSpec.upto configReplaysSpec)

end Rows
end Go.Proofs.YtkmaepefpcpckaaDoor
