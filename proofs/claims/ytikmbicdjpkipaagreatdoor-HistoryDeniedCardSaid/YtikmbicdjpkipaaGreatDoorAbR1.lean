/- Several texts of one kind, merged. No condition. -/
import Derived.Test.YtikmbicdjpkipaaGreatDoorAbP1
import Derived.Test.YtikmbicdjpkipaaGreatDoorAbK1
import Derived.Test.YtikmbicdjpkipaaGreatDoorAbK4
import Derived.KernelRfl
