/- What is proved: each Go function named here comes to what the plain function of its name comes to, whatever the memory; no conditions. Written by a program of this session (kp.py) over the kit's print. -/
import Derived.Test.YthljanmfanppdaaKBackx0
import Derived.Test.YthljanmfanppdaaKBackx1
import Derived.Test.YthljanmfanppdaaKBackx2
import Derived.Test.YthljanmfanppdaaKBackx3
import Derived.Test.YthljanmfanppdaaKBackx4
import Derived.Test.YthljanmfanppdaaKBackx5
import Derived.Test.YthljanmfanppdaaKBackx6
namespace Go.Proofs.Ythljanmfanppdaa.KBack
open Go.RowKit Go.Proofs.YthljanmfanppdaaW.PrintWords Go.Proofs.YthljanmfanppdaaW.PrintLast Go.Proofs.YthljanmfanppdaaW.PrintMore
attribute [local go_sem] max2_int min2_int max_two min_two max_three min_three max_four min_four   -- for this text's walks alone
set_option linter.unusedVariables false
set_option linter.unusedSimpArgs false

end Go.Proofs.Ythljanmfanppdaa.KBack
