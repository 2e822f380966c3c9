/- RowB beside RvLists' walk. -/
import Derived.Test.YthiaaagoccpkcaaDoorRowB
import Derived.Test.YthiaaagoccpkcaaDoorRvZc
namespace Go.Proofs.YthiaaagoccpkcaaDoor
theorem rowC_ok : True := trivial
end Go.Proofs.YthiaaagoccpkcaaDoor
