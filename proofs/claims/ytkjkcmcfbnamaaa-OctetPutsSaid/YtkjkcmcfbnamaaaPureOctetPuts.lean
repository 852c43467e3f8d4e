import Derived.Test.YtkjkcmcfbnamaaaPOctetPutsx1
namespace Go.Proofs.Ytkjkcmcfbnamaaa.Pure
open Go.RowKit Go.Proofs.Ytkjkcmcfbnamaaa.POctetPuts Go.Proofs.YtkjkcmcfbnamaaaW.PrintWords Go.Proofs.YtkjkcmcfbnamaaaW.PrintLast

/-- YOURS: 
What it reaches (each with k first where it has rounds; `.mono`: more rounds tell the same; `.l0`, ..: its loops, with `.mono_l`): octet_Writer_Put.f, octet_Writer_Raw.f, octet_Writer_Text.f, octet_Open.f, octet_Reader_End.f, octet_Reader_Fault.f, kissgatelaw01_alive.f, kissgateref01_Number.f, kissgatelaw01_OctetPuts.f -/
theorem OctetPuts : kissgatelaw01_OctetPuts.Pure := by
  trivial

end Go.Proofs.Ytkjkcmcfbnamaaa.Pure
