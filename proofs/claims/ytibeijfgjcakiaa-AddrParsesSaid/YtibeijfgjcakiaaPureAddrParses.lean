import Derived.Test.YtibeijfgjcakiaaPAddrParsesx2
namespace Go.Proofs.Ytibeijfgjcakiaa.Pure
open Go.RowKit Go.Proofs.Ytibeijfgjcakiaa.PAddrParses Go.Proofs.YtibeijfgjcakiaaW.PrintWords Go.Proofs.YtibeijfgjcakiaaW.PrintLast

/-- YOURS: 
What it reaches (each with k first where it has rounds; `.mono`: more rounds tell the same; `.l0`, ..: its loops, with `.mono_l`): addr_Good.f, addr_Kept.f, abi_NoEscape.f, strings_Builder_copyCheck.f, strings_Builder_WriteByte.f, strings_Builder_String.f, addr_Show.f, addr_Vid.f, kissgatelaw02_alive.f, bytealg_IndexByteString.f, stringslite_IndexByte.f, strings_IndexByte.f, utf8_ValidRune.f, bytealg_Cutover.f, bytealg_IndexString.f, strings_IndexRune.f, addr_Parse.f, kissgateref02_Good.f, kissgateref02_digit.f, kissgateref02_Show.f, kissgatelaw02_AddrParses.f -/
theorem AddrParses : kissgatelaw02_AddrParses.Pure := by
  trivial

end Go.Proofs.Ytibeijfgjcakiaa.Pure
