import Derived.Test.YtojkpenjeglipaaIYT
import Derived.Test.YtojkpenjeglipaaICVX
import Derived.Test.YtojkpenjeglipaaICPrim
import Derived.Test.YtojkpenjeglipaaIYD1
import Derived.Test.YtojkpenjeglipaaIYD7
import Derived.Test.YtojkpenjeglipaaIYD9
import Derived.Test.YtojkpenjeglipaaIYD10
import Derived.Test.YtojkpenjeglipaaIYD17
import Derived.Test.YtojkpenjeglipaaIYD19
set_option linter.unusedVariables false
set_option linter.unusedSimpArgs false
namespace Go.Ax
attribute [local irreducible] BL ER FD Bf CF Fz B6 KZ HX upd ev u0 Dt frz A6 EB mmD bnd BV Ft Do CO GU Ht G2 cutV I1 Cv
variable {st : List Content}
end Go.Ax
