import Derived.Test.YtkjkcmcfbnamaaaPOctetPartsx2
namespace Go.Proofs.Ytkjkcmcfbnamaaa.Pure
open Go.RowKit Go.Proofs.Ytkjkcmcfbnamaaa.POctetParts Go.Proofs.YtkjkcmcfbnamaaaW.PrintWords Go.Proofs.YtkjkcmcfbnamaaaW.PrintLast

/-- YOURS: 
What it reaches (each with k first where it has rounds; `.mono`: more rounds tell the same; `.l0`, ..: its loops, with `.mono_l`): octet_Writer_Put.f, octet_Writer_Raw.f, octet_Writer_Text.f, octet_Open.f, octet_Reader_End.f, octet_Reader_Fault.f, kissgatelaw01_alive.f, octet_Reader_take.f, octet_Reader_Raw.f, kissgatelaw01_OctetParts.f -/
theorem OctetParts : kissgatelaw01_OctetParts.Pure := by
  trivial

end Go.Proofs.Ytkjkcmcfbnamaaa.Pure
