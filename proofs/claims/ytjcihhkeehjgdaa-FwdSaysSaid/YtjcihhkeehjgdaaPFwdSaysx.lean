-- PRINTED BY print.sh 35421559b90ae4d0a3588c463048766b98c2df88dd9212a6774a882060cdf62d: not written by this session
import Derived.Test.YtjcihhkeehjgdaaPFwdSaysx0
import Derived.Test.YtjcihhkeehjgdaaPFwdSaysx1
import Derived.Test.YtjcihhkeehjgdaaPFwdSaysx2
import Derived.Test.YtjcihhkeehjgdaaPFwdSaysx3
import Derived.Test.YtjcihhkeehjgdaaPFwdSaysx4
import Derived.Test.YtjcihhkeehjgdaaPFwdSaysx5
import Derived.Test.YtjcihhkeehjgdaaPFwdSaysx6
import Derived.Test.YtjcihhkeehjgdaaPFwdSaysx7
namespace Go.Proofs.Ytjcihhkeehjgdaa.PFwdSays
open Go.RowKit Go.Proofs.YtjcihhkeehjgdaaW.PrintWords Go.Proofs.YtjcihhkeehjgdaaW.PrintLast Go.Proofs.YtjcihhkeehjgdaaW.PrintMore
attribute [local go_sem] max2_int min2_int max_two min_two max_three min_three max_four min_four   -- for this text's walks alone
set_option linter.unusedVariables false
set_option linter.unusedSimpArgs false

end Go.Proofs.Ytjcihhkeehjgdaa.PFwdSays
