import Derived.Test.YtfkehlhmephecaaPCostSumsx1
namespace Go.Proofs.Ytfkehlhmephecaa.Pure
open Go.RowKit Go.Proofs.Ytfkehlhmephecaa.PCostSums Go.Proofs.YtfkehlhmephecaaW.PrintWords Go.Proofs.YtfkehlhmephecaaW.PrintLast

/-- YOURS: 
What it reaches (each with k first where it has rounds; `.mono`: more rounds tell the same; `.l0`, ..: its loops, with `.mono_l`): math_archFloor.f, math_Float64frombits.f, math_Float64bits.f, math_Abs.f, math_IsInf.f, math_IsNaN.f, math_Copysign.f, math_archTrunc.f, math_trunc.f, math_Trunc.f, math_Modf.f, math_floor.f, math_Floor.f, cost_Of.f, math_NaN.f, kissgatelaw03_alive.f, cost_Sum.f, kissgatelaw03_CostSums.f -/
theorem CostSums : kissgatelaw03_CostSums.Pure := by
  trivial

end Go.Proofs.Ytfkehlhmephecaa.Pure
