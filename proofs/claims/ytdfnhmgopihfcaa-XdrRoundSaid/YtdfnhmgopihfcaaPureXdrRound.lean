/- What is laid is read as it was, and nothing is left: for every input that the statement takes. -/
import Derived.Test.YtdfnhmgopihfcaaQXdrRoundx1
namespace Go.Proofs.Ytdfnhmgopihfcaa.Pure
theorem XdrRound : Go.Proofs.Ytdfnhmgopihfcaa.QXdrRound.truchmanlaw01_XdrRound.Pure := trivial
end Go.Proofs.Ytdfnhmgopihfcaa.Pure
