/- A text of imports: the library's laws on strings that are ranged over; no condition. -/
import Derived.Lib.OthersKept
