-- all printed functions of this seat but the laws
import Derived.Test.YtbpjhlkcolgmjaaPx0
import Derived.Test.YtbpjhlkcolgmjaaPx1
import Derived.Test.YtbpjhlkcolgmjaaPx2
import Derived.Test.YtbpjhlkcolgmjaaPx4
import Derived.Test.YtbpjhlkcolgmjaaPx8
