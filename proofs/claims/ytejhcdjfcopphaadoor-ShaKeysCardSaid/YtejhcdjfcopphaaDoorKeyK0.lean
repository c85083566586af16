/- A quarter of the cube roots, reckoned. -/
import Derived.Test.YtejhcdjfcopphaaDoorKeyPure
set_option maxRecDepth 100000
namespace Go.Sx
theorem keys0 : ∀ t, t < 16 → rootN (PL.getD (0 + t) 0) 36 % 4294967296 = (KT.getD (0 + t) 0).toNat := by decide +kernel
end Go.Sx
