/- Several texts of one kind, merged. No condition. -/
import Derived.Test.YtikmbicdjpkipaaGreatDoorAbZ1
import Derived.Test.YtikmbicdjpkipaaGreatDoorAbK1
import Derived.Test.YtikmbicdjpkipaaGreatDoorAbE5
import Derived.Test.YtikmbicdjpkipaaGreatDoorAbR7
import Derived.Test.YtikmbicdjpkipaaGreatDoorAbK4
