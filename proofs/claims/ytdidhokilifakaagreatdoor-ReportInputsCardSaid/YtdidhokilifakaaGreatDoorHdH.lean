/- Part of the proof that ReportInputs gives true at every text. -/
import Derived.Test.YtdidhokilifakaaGreatDoorHdK0
import Derived.Test.YtdidhokilifakaaGreatDoorHdK21467
import Derived.Test.YtdidhokilifakaaGreatDoorHdK41219
import Derived.Test.YtdidhokilifakaaGreatDoorHdK61065
import Derived.Test.YtdidhokilifakaaGreatDoorHdK79704
import Derived.Test.YtdidhokilifakaaGreatDoorHdK101378
import Derived.Test.YtdidhokilifakaaGreatDoorHdK120580
import Derived.Test.YtdidhokilifakaaGreatDoorHdK135427
import Derived.Test.YtdidhokilifakaaGreatDoorHdF
import Derived.Test.YtdidhokilifakaaGreatDoorHdK165009
import Derived.Test.YtdidhokilifakaaGreatDoorHdK184601
import Derived.Test.YtdidhokilifakaaGreatDoorHdK201549
import Derived.Test.YtdidhokilifakaaGreatDoorHdE
namespace Go.Ab.Hd
open Go Go.Ab Go.Proofs
/-- the head's run, on every tape: it ends with true -/
theorem head_reaches : Reaches AA (.bool true) 4 S0 :=
  k0 <| k21467 <| k41219 <| k61065 <| k79704 <| k101378 <| k120580 <| k135427 <| k161946 <| k165009 <| k184601 <| k201549 k225860
end Go.Ab.Hd
