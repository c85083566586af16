/- A quarter of the cube roots, reckoned. -/
import Derived.Test.YtejhcdjfcopphaaDoorKeyPure
set_option maxRecDepth 100000
namespace Go.Sx
theorem keys3 : ∀ t, t < 16 → rootN (PL.getD (48 + t) 0) 36 % 4294967296 = (KT.getD (48 + t) 0).toNat := by decide +kernel
end Go.Sx
