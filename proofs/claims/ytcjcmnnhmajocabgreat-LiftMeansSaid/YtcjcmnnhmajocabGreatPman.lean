import Derived.Test.YtcjcmnnhmajocabGreatPmam
set_option linter.unusedVariables false
set_option linter.unusedSimpArgs false
set_option maxRecDepth 100000
set_option maxHeartbeats 16000000
namespace Go.Proofs.YtcjcmnnhmajocabGreat.Ot
open Go.RowKit Kt Ic Me Ev
variable {K:Wc} {s:Wk} {W W':World}
theorem OB.drew {b:Nat} {o:aV} (h:OB b o W):OB b o W.drew:=h.upto (ah.refl (fun _=>False) W).drew id
theorem WW.drew (a:WW K s W):WW K s W.drew:=a.quiet (ah.refl (fun _=>False) W).drew
end Go.Proofs.YtcjcmnnhmajocabGreat.Ot
