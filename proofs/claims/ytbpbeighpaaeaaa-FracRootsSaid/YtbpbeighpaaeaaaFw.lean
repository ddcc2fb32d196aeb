/- Walk and plain law joined. -/
import Derived.Test.YtbpbeighpaaeaaaK
import Derived.Test.YtbpbeighpaaeaaaFqb
import Derived.Test.YtbpbeighpaaeaaaGx12
