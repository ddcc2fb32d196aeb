/- Walk and plain law joined. -/
import Derived.Test.YtbpbeighpaaeaaaK
import Derived.Test.YtbpbeighpaaeaaaFsn
import Derived.Test.YtbpbeighpaaeaaaGsm
