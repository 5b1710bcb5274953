/- The contracts and facts that the laws of this seat need, in one text (AbI, AbD). -/
import Derived.Test.YtidomjacfogjlaaGreatT8
import Derived.Sort.OwnSortedInts
set_option linter.all false
set_option maxRecDepth 10000

