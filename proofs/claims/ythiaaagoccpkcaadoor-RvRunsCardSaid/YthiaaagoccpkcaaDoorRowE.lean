/- RowD beside the walks of RvSteps and RvRuns. -/
import Derived.Test.YthiaaagoccpkcaaDoorRowD
import Derived.Test.YthiaaagoccpkcaaDoorMachR
namespace Go.Proofs.YthiaaagoccpkcaaDoor
theorem rowE_ok : True := trivial
end Go.Proofs.YthiaaagoccpkcaaDoor
