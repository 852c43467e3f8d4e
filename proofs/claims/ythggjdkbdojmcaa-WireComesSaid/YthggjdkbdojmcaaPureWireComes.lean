import Derived.Test.YthggjdkbdojmcaaPWireComesx2
namespace Go.Proofs.Ythggjdkbdojmcaa.Pure
open Go.RowKit Go.Proofs.Ythggjdkbdojmcaa.PWireComes Go.Proofs.YthggjdkbdojmcaaW.PrintWords Go.Proofs.YthggjdkbdojmcaaW.PrintLast

/-- YOURS: 
What it reaches (each with k first where it has rounds; `.mono`: more rounds tell the same; `.l0`, ..: its loops, with `.mono_l`): wire_New.f, wire_Wire_count.f, wire_Wire_Put.f, wire_Wire_Pull.f, wire_Wire_Up.f, kissgatelaw22_alive.f, kissgatelaw22_great.f, wire_Piece.f, wire_Wire_Way.f, kissgatelaw22_WireComes.f -/
theorem WireComes : kissgatelaw22_WireComes.Pure := by
  trivial

end Go.Proofs.Ythggjdkbdojmcaa.Pure
