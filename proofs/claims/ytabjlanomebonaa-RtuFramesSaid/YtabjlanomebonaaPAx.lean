-- Made by a program of this session over the translation.
import Derived.Test.YtabjlanomebonaaPAx0
import Derived.Test.YtabjlanomebonaaPAx1
import Derived.Test.YtabjlanomebonaaPAx2
import Derived.Test.YtabjlanomebonaaPAx3
import Derived.Test.YtabjlanomebonaaPAx4
import Derived.Test.YtabjlanomebonaaPAx5
import Derived.Test.YtabjlanomebonaaPAx6
namespace Go.Proofs.Ytabjlanomebonaa.PA
open Go.RowKit Go.Proofs.YtabjlanomebonaaW.PrintWords Go.Proofs.YtabjlanomebonaaW.PrintLast Go.Proofs.YtabjlanomebonaaW.PrintMore
attribute [local go_sem] max2_int min2_int max_two min_two max_three min_three max_four min_four   -- for this text's walks alone
set_option linter.unusedVariables false
set_option linter.unusedSimpArgs false
open Go.Proofs.Ytabjlanomebonaa.Ext

end Go.Proofs.Ytabjlanomebonaa.PA
