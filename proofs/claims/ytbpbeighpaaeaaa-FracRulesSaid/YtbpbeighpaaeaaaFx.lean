/- Walk and plain law joined. -/
import Derived.Test.YtbpbeighpaaeaaaK
import Derived.Test.YtbpbeighpaaeaaaFrl
import Derived.Test.YtbpbeighpaaeaaaGrl
