/- Fragments of records, however they are cut, and in whatever pieces they come, are these records, in their row, and nothing is left over: for every input that the statement takes. -/
import Derived.Test.YtfoifcilacbipaaQDemarkRoundx1
namespace Go.Proofs.Ytfoifcilacbipaa.Pure
theorem DemarkRound : Go.Proofs.Ytfoifcilacbipaa.QDemarkRound.truchmanlaw04_DemarkRound.Pure := trivial
end Go.Proofs.Ytfoifcilacbipaa.Pure
