/- A byte behind a text that is not 0 is an error: for every input that the statement takes. -/
import Derived.Test.YtdfnhmgopihfcaaQXdrPadsx1
namespace Go.Proofs.Ytdfnhmgopihfcaa.Pure
theorem XdrPads : Go.Proofs.Ytdfnhmgopihfcaa.QXdrPads.truchmanlaw01_XdrPads.Pure := trivial
end Go.Proofs.Ytdfnhmgopihfcaa.Pure
