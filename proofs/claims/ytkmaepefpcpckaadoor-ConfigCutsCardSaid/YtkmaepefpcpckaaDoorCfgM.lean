/- Layer 12's Apply, whole. -/
import Derived.Test.YtkmaepefpcpckaaDoorCfgL1
import Derived.Test.YtkmaepefpcpckaaDoorCfgL2
import Derived.Test.YtkmaepefpcpckaaDoorCfgL3
import Derived.Test.YtkmaepefpcpckaaDoorCfgL4
set_option linter.unusedVariables false
set_option linter.unusedSimpArgs false
namespace Go.Proofs.YtkmaepefpcpckaaDoor
open Go.RowKit

theorem apply_any (w : World) (v : Value) (c : Cf.Cfg) (o : Cf.Ord) (h : CIn w v c) (hK : Kinds w) :
    Calls Tryd.prog 10 #[v, ordV o] w (Applied w (Cf.apply c o)) := by
  by_cases hck : Cf.check c = 0
  · by_cases hep : c.ep = 1099511627776
    · exact apply_e2 w v c o h hck hep
    cases hkk : Cf.withinB o.k 1 4
    · exact apply_e3 w v c o h hck hep hkk
    · have h14 : 1 ≤ o.k ∧ o.k ≤ 4 := by simpa [Cf.withinB] using hkk
      by_cases h1 : o.k = 1
      · exact apply_come w v c o h hck hep h1 hK
      by_cases h2 : o.k = 2
      · exact apply_leave w v c o h hck hep h2 hK
      by_cases h3 : o.k = 3
      · exact apply_place w v c o h hck hep h3 hK
      · exact apply_tables w v c o h hck hep (by omega) hK
  · exact apply_e1 w v c o h _ rfl hck
end Go.Proofs.YtkmaepefpcpckaaDoor
