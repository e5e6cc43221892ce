/- Which records are there behind each piece, the error, and what is kept, is the document's: for every input that the statement takes. -/
import Derived.Test.YtfoifcilacbipaaQDemarkFeedsx1
namespace Go.Proofs.Ytfoifcilacbipaa.Pure
theorem DemarkFeeds : Go.Proofs.Ytfoifcilacbipaa.QDemarkFeeds.truchmanlaw04_DemarkFeeds.Pure := trivial
end Go.Proofs.Ytfoifcilacbipaa.Pure
