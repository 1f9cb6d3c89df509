/- The reference's tokens, continued. No condition. -/
import Derived.Test.YtikmbicdjpkipaaGreatDoorAbR1
