/- RowD beside RvSteps' walk. -/
import Derived.Test.YthiaaagoccpkcaaDoorRowD
import Derived.Test.YthiaaagoccpkcaaDoorMaZ
namespace Go.Proofs.YthiaaagoccpkcaaDoor
theorem rowE_ok : True := trivial
end Go.Proofs.YthiaaagoccpkcaaDoor
