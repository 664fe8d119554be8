-- all printed functions of this seat but the laws
import Derived.Test.YtlaadaigffmibaaPx0
import Derived.Test.YtlaadaigffmibaaPx1
import Derived.Test.YtlaadaigffmibaaPx2
import Derived.Test.YtlaadaigffmibaaPx3
import Derived.Test.YtlaadaigffmibaaPx4
import Derived.Test.YtlaadaigffmibaaPx5
import Derived.Test.YtlaadaigffmibaaPx6
import Derived.Test.YtlaadaigffmibaaPx7
import Derived.Test.YtlaadaigffmibaaPx9
import Derived.Test.YtlaadaigffmibaaPx10
