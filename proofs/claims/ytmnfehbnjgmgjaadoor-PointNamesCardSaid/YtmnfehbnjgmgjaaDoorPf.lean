/- Chapter 8: the example, and Write, Read. -/
import Derived.Test.YtmnfehbnjgmgjaaDoorPt
import Derived.Test.YtmnfehbnjgmgjaaDoorP8
