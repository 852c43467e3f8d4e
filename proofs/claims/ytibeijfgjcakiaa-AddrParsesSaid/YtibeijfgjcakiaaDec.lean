/- A text of imports: the library's laws on what a string decodes to, on a rune made a string, and on code that holds a label; no condition. -/
import Derived.Lib.QuoteLoop
import Derived.Laws.Runes
import Derived.WalkMore
