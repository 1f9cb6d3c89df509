/- Several texts of one kind, merged. No condition. -/
import Derived.Shelf.Strings.IndexAnyAll
import Derived.Shelf.Small.Utf8
import Derived.Laws.RangeAny
import Derived.Laws.Runes
import Derived.WalkMore
import Derived.Shelf.RegionOpenPlain
import Derived.WalkKit
import Derived.Deep.Draws
import Derived.RegionTactic
import Derived.Deep.QuietTactic
import Derived.Test.YtikmbicdjpkipaaGreatDoorAbP1
import Derived.Test.YtikmbicdjpkipaaGreatDoorAbR1
