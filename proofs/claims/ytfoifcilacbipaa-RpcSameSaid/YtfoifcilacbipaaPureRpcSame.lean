/- Whether two messages are the same is told as the document says: for every input that the statement takes. -/
import Derived.Test.YtfoifcilacbipaaQRpcSamex1
namespace Go.Proofs.Ytfoifcilacbipaa.Pure
theorem RpcSame : Go.Proofs.Ytfoifcilacbipaa.QRpcSame.truchmanlaw06_RpcSame.Pure := trivial
end Go.Proofs.Ytfoifcilacbipaa.Pure
