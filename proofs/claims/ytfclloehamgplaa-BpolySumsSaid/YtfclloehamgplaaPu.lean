-- all printed functions of this seat but the laws
import Derived.Test.YtfclloehamgplaaPx0
import Derived.Test.YtfclloehamgplaaPx1
import Derived.Test.YtfclloehamgplaaPx2
import Derived.Test.YtfclloehamgplaaPx3
import Derived.Test.YtfclloehamgplaaPx4
import Derived.Test.YtfclloehamgplaaPx5
import Derived.Test.YtfclloehamgplaaPx7
import Derived.Test.YtfclloehamgplaaPx9
import Derived.Test.YtfclloehamgplaaPx11
import Derived.Test.YtfclloehamgplaaPx13
