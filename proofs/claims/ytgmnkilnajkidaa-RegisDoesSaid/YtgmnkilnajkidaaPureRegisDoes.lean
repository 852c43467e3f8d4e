import Derived.Test.YtgmnkilnajkidaaPRegisDoesx6
namespace Go.Proofs.Ytgmnkilnajkidaa.Pure
open Go.RowKit Go.Proofs.Ytgmnkilnajkidaa.PRegisDoes Go.Proofs.YtgmnkilnajkidaaW.PrintWords Go.Proofs.YtgmnkilnajkidaaW.PrintLast

/-- YOURS: 
What it reaches (each with k first where it has rounds; `.mono`: more rounds tell the same; `.l0`, ..: its loops, with `.mono_l`): regis_New.f, regis_Reg_Has.f, regis_old.f, table_At.f, table_Registrar.f, regis_Reg_step.f, regis_Reg_Hear.f, regis_Reg_Tick.f, kissgatelaw14_alive.f, regis_Reg_All.f, regis_Reg_State.f, kissgatelaw14_great.f, regis_Reg_Flush.f, regis_Reg_Born.f, regis_Reg_Mode.f, regis_Reg_Set.f, regis_Reg_Idle.f, kissgateref14_Reg_Has.f, kissgateref13_Act.f, kissgateref13_Next.f, kissgateref14_Reg_Step.f, kissgateref14_Reg_Hear.f, kissgateref14_Reg_Tick.f, kissgatelaw14_RegisDoes.f -/
theorem RegisDoes : kissgatelaw14_RegisDoes.Pure := by
  trivial

end Go.Proofs.Ytgmnkilnajkidaa.Pure
