/- A text of imports: the library's law on a constant string made bytes; no condition. -/
import Derived.Lib.SlBytesConst
