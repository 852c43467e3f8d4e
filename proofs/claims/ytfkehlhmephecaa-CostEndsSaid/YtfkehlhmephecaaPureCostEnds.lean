import Derived.Test.YtfkehlhmephecaaPCostEndsx1
namespace Go.Proofs.Ytfkehlhmephecaa.Pure
open Go.RowKit Go.Proofs.Ytfkehlhmephecaa.PCostEnds Go.Proofs.YtfkehlhmephecaaW.PrintWords Go.Proofs.YtfkehlhmephecaaW.PrintLast

/-- YOURS: 
What it reaches (each with k first where it has rounds; `.mono`: more rounds tell the same; `.l0`, ..: its loops, with `.mono_l`): math_archFloor.f, math_Float64frombits.f, math_Float64bits.f, math_Abs.f, math_IsInf.f, math_IsNaN.f, math_Copysign.f, math_archTrunc.f, math_trunc.f, math_Trunc.f, math_Modf.f, math_floor.f, math_Floor.f, cost_Of.f, math_NaN.f, kissgatelaw03_alive.f, math_Inf.f, cost_Speed.f, kissgatelaw03_CostEnds.f -/
theorem CostEnds : kissgatelaw03_CostEnds.Pure := by
  trivial

end Go.Proofs.Ytfkehlhmephecaa.Pure
