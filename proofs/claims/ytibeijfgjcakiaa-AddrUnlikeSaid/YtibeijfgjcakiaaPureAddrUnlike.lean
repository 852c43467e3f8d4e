import Derived.Test.YtibeijfgjcakiaaPAddrUnlikex1
namespace Go.Proofs.Ytibeijfgjcakiaa.Pure
open Go.RowKit Go.Proofs.Ytibeijfgjcakiaa.PAddrUnlike Go.Proofs.YtibeijfgjcakiaaW.PrintWords Go.Proofs.YtibeijfgjcakiaaW.PrintLast

/-- YOURS: 
What it reaches (each with k first where it has rounds; `.mono`: more rounds tell the same; `.l0`, ..: its loops, with `.mono_l`): addr_Good.f, addr_Kept.f, abi_NoEscape.f, strings_Builder_copyCheck.f, strings_Builder_WriteByte.f, strings_Builder_String.f, addr_Show.f, addr_Vid.f, kissgatelaw02_alive.f, kissgateref02_Good.f, addr_Many.f, kissgatelaw02_AddrUnlike.f -/
theorem AddrUnlike : kissgatelaw02_AddrUnlike.Pure := by
  trivial

end Go.Proofs.Ytibeijfgjcakiaa.Pure
