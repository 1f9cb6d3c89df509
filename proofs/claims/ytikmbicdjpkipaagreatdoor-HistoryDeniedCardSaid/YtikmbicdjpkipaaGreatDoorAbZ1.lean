/- Several texts of one kind, merged. No condition. -/
import Derived.Test.YtikmbicdjpkipaaGreatDoorAbR8
import Derived.Lib.SlTrimSet
import Derived.Test.YtikmbicdjpkipaaGreatDoorAbR1
import Derived.KernelRfl
import Derived.Test.YtikmbicdjpkipaaGreatDoorAbR6
