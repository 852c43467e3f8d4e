import Derived.Test.YtgmnkilnajkidaaPRegisModesx3
namespace Go.Proofs.Ytgmnkilnajkidaa.Pure
open Go.RowKit Go.Proofs.Ytgmnkilnajkidaa.PRegisModes Go.Proofs.YtgmnkilnajkidaaW.PrintWords Go.Proofs.YtgmnkilnajkidaaW.PrintLast

/-- YOURS: 
What it reaches (each with k first where it has rounds; `.mono`: more rounds tell the same; `.l0`, ..: its loops, with `.mono_l`): regis_New.f, regis_Reg_Has.f, regis_old.f, table_At.f, table_Registrar.f, regis_Reg_step.f, regis_Reg_Hear.f, regis_Reg_Tick.f, kissgatelaw14_alive.f, regis_Reg_All.f, kissgatelaw14_great.f, regis_Reg_Flush.f, regis_Reg_Born.f, kissgatelaw14_RegisModes.f -/
theorem RegisModes : kissgatelaw14_RegisModes.Pure := by
  trivial

end Go.Proofs.Ytgmnkilnajkidaa.Pure
