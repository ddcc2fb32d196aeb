/- Walk and plain law joined. -/
import Derived.Test.YtbpbeighpaaeaaaK
import Derived.Test.YtbpbeighpaaeaaaFqa
import Derived.Test.YtbpbeighpaaeaaaGx13
