/- Fragments have all of a record's bytes, four more each, and just the last one is marked: for every input that the statement takes. -/
import Derived.Test.YtdfnhmgopihfcaaQMarkHasx1
namespace Go.Proofs.Ytdfnhmgopihfcaa.Pure
theorem MarkHas : Go.Proofs.Ytdfnhmgopihfcaa.QMarkHas.truchmanlaw03_MarkHas.Pure := trivial
end Go.Proofs.Ytdfnhmgopihfcaa.Pure
