-- all printed functions of this seat but the laws
import Derived.Test.YtkhhnihcagnbaaaPx0
import Derived.Test.YtkhhnihcagnbaaaPx1
import Derived.Test.YtkhhnihcagnbaaaPx2
import Derived.Test.YtkhhnihcagnbaaaPx4
import Derived.Test.YtkhhnihcagnbaaaPx6
