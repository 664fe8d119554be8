-- all printed functions of this seat but the laws
import Derived.Test.YtfjmbmlmbchglaaPx0
import Derived.Test.YtfjmbmlmbchglaaPx1
import Derived.Test.YtfjmbmlmbchglaaPx2
import Derived.Test.YtfjmbmlmbchglaaPx3
import Derived.Test.YtfjmbmlmbchglaaPx5
import Derived.Test.YtfjmbmlmbchglaaPx7
import Derived.Test.YtfjmbmlmbchglaaPx9
import Derived.Test.YtfjmbmlmbchglaaPx10
