/- Behind an error nothing is told, whatever is given, and the error stays: for every input that the statement takes. -/
import Derived.Test.YtfoifcilacbipaaQDemarkErrorsx1
namespace Go.Proofs.Ytfoifcilacbipaa.Pure
theorem DemarkErrors : Go.Proofs.Ytfoifcilacbipaa.QDemarkErrors.truchmanlaw04_DemarkErrors.Pure := trivial
end Go.Proofs.Ytfoifcilacbipaa.Pure
