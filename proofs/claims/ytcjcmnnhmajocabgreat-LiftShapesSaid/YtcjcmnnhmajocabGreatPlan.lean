/- opt: step, of each sort. -/
import Derived.Deep.RegionHeld3
import Derived.Test.YtcjcmnnhmajocabGreatPlam
set_option linter.unusedVariables false
set_option linter.unusedSimpArgs false
set_option maxRecDepth 100000
set_option maxHeartbeats 16000000
namespace Go.Proofs.YtcjcmnnhmajocabGreat.Ot
open Go.RowKit Kt Ic Me Ev
variable {K : Wc} {s : Wk} {W W' : World}
theorem OB.drew {b : Nat} {o : Opr} (h : OB b o W) : OB b o W.drew := h.upto (Upto.refl (fun _ => False) W).drew id
theorem WW.drew (a : WW K s W) : WW K s W.drew := a.quiet (Upto.refl (fun _ => False) W).drew
end Go.Proofs.YtcjcmnnhmajocabGreat.Ot
