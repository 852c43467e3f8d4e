import Derived.Test.YtnphindpbdjmpaaDoorPAppliDoesx4
namespace Go.Proofs.YtnphindpbdjmpaaDoor.Pure
open Go.RowKit Go.Proofs.YtnphindpbdjmpaaDoor.PAppliDoes Go.Proofs.YtnphindpbdjmpaaDoorW.PrintWords Go.Proofs.YtnphindpbdjmpaaDoorW.PrintLast

/-- YOURS: 
What it reaches (each with k first where it has rounds; `.mono`: more rounds tell the same; `.l0`, ..: its loops, with `.mono_l`): table_At.f, table_Applicant.f, appli_App_step.f, appli_says.f, appli_App_Want.f, appli_App_Say.f, kissgatelaw15_alive.f, appli_App_All.f, appli_App_Again.f, appli_App_Speaks.f, appli_App_Pending.f, appli_App_Idle.f, kissgateref15_App_Speaks.f, kissgateref13_Act.f, kissgateref13_Next.f, kissgateref15_App_step.f, kissgateref15_App_Want.f, kissgateref15_App_Do.f, kissgateref15_App_Say.f, appli_App_State.f, kissgatelaw15_AppliDoes.f -/
theorem AppliDoes : kissgatelaw15_AppliDoes.Pure := by
  trivial

end Go.Proofs.YtnphindpbdjmpaaDoor.Pure
