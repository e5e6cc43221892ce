/- However bytes are cut, the same records are told, and the same error: for every input that the statement takes. -/
import Derived.Test.YtfoifcilacbipaaQDemarkCutsx1
namespace Go.Proofs.Ytfoifcilacbipaa.Pure
theorem DemarkCuts : Go.Proofs.Ytfoifcilacbipaa.QDemarkCuts.truchmanlaw04_DemarkCuts.Pure := trivial
end Go.Proofs.Ytfoifcilacbipaa.Pure
