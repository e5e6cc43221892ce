/- Which limits may be is told as the document says: for every input that the statement takes. -/
import Derived.Test.YtfoifcilacbipaaQDemarkNewsx1
namespace Go.Proofs.Ytfoifcilacbipaa.Pure
theorem DemarkNews : Go.Proofs.Ytfoifcilacbipaa.QDemarkNews.truchmanlaw04_DemarkNews.Pure := trivial
end Go.Proofs.Ytfoifcilacbipaa.Pure
