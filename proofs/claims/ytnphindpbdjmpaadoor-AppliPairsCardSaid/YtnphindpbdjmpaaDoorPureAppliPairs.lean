import Derived.Test.YtnphindpbdjmpaaDoorPAppliPairsx2
namespace Go.Proofs.YtnphindpbdjmpaaDoor.Pure
open Go.RowKit Go.Proofs.YtnphindpbdjmpaaDoor.PAppliPairs Go.Proofs.YtnphindpbdjmpaaDoorW.PrintWords Go.Proofs.YtnphindpbdjmpaaDoorW.PrintLast

/-- YOURS: 
What it reaches (each with k first where it has rounds; `.mono`: more rounds tell the same; `.l0`, ..: its loops, with `.mono_l`): table_At.f, table_Applicant.f, appli_App_step.f, appli_says.f, appli_App_Want.f, appli_App_Say.f, kissgatelaw15_alive.f, appli_App_All.f, appli_App_Again.f, kissgatelaw15_AppliPairs.f -/
theorem AppliPairs : kissgatelaw15_AppliPairs.Pure := by
  trivial

end Go.Proofs.YtnphindpbdjmpaaDoor.Pure
