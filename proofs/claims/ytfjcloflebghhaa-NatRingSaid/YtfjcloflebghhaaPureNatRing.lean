/- NatRing: its walk alone proves it. -/
import Derived.Test.YtfjcloflebghhaaGx8
namespace Go.Proofs.Ytfjcloflebghhaa.Pure
open Go.Proofs.Ytfjcloflebghhaa.G
theorem NatRing : tribunallaw01_NatRing.Pure := trivial
end Go.Proofs.Ytfjcloflebghhaa.Pure
