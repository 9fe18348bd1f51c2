/- A region that draws its order and ends in a call: the library's word for it. -/
import Derived.StillTailTactics
import Derived.Deep.RegionLaw
