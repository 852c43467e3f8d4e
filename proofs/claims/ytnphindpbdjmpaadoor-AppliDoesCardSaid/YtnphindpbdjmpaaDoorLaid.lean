import Derived.Test.YtnphindpbdjmpaaDoorTie
import Derived.Test.YtnphindpbdjmpaaDoorCards
import Derived.ProofKit
import Derived.LaidMore
import Derived.OpenShut
import Derived.SevenTiedAt
import Derived.Stop.Joined
namespace Go.Proofs.YtnphindpbdjmpaaDoor.Laid
open Go.ChangeShapes Go.WideShapes Go.ChangeAt Go.RowKit
theorem gTurns : Tryd.prog.globalNamed "kissgate/appli.events" = some 0 := by kernel_rfl
theorem tTurns : (Tryd.prog.globals[0]?).map (·.type) = some 43 := by kernel_rfl
noncomputable def laidL : List (String × DataW Unit) := [("kissgate/appli.events", Rows.laid_kissgate_appli_events)]
theorem door_met (os : Os) (args : Array Value) : laidMetH Tryd.prog laidL ((World.doorLaid Tryd.prog 400 os).forCall (fun _ _ => 0) ⟨#[], args, []⟩).memory :=
  laidMetH_of_parts3 (fuel := 8) (laidMet_of_run' 8 (by kernel_rfl) (by kernel_rfl)) (by kernel_rfl) (by kernel_rfl)
def tab : List Nat := [0, 0, 1, 5]
/-- What the condition gives the walks: the table's cells. -/
theorem of_laid {W : World} (h : laidMetH Tryd.prog laidL W) : ∀ k : Nat, k < 4 → W.cell? ⟨0, k, none⟩ = some (.int .i64 ((tab.getD k 0 : Nat) : Int)) := by
  rw [MakeChecks.laidMetH_plain _ _ _ (by kernel_rfl)] at h
  obtain ⟨ps, ⟨g0, t0, cs0, f0, p0, q0, hg0, ht0, hv0, hd0, _, _⟩, _, _⟩ := h
  obtain rfl := Option.some.inj (gTurns.symm.trans hg0)
  obtain rfl := Option.some.inj (tTurns.symm.trans ht0)
  obtain ⟨xs, m1, rfl, hx1, hlen, hn, hel⟩ := DataW.trod_array Tryd.underlying43 hd0
  have c1 : Tryd.prog.cellsOf 3 = 1 := by kernel_rfl
  simp only [Prod.mk.injEq] at hx1
  intro k hk
  have hk' : k < xs.length := by omega
  have h0 := hel k hk
  rw [c1, List.getElem?_eq_getElem hk'] at h0
  obtain ⟨n, e1, e2, _⟩ := DataW.trod_int Tryd.underlying3 h0
  have hx2 := congrArg (fun d : DataW Unit => match d with | .agg l => l[k]? | _ => Option.none) hx1.1
  simp only at hx2
  have e3 : (xs.map (·.1))[k]? = some (.lit (.int .i64 n)) := by rw [List.getElem?_map, List.getElem?_eq_getElem hk', e2]; rfl
  have e4 : (match (Rows.laid_kissgate_appli_events : DataW Unit) with | .agg l => l[k]? | _ => Option.none) = some (.lit (.int .i64 n)) := by rw [← e3]; exact hx2
  have e5 : cs0.toList[k]? = some (.int .i64 n) := by
    have e6 : ((cs0.toList.drop (k * 1)).take 1)[0]? = some (.int .i64 n) := by rw [e1]; rfl
    rw [List.getElem?_take_of_lt (by decide), List.getElem?_drop, Nat.mul_one, Nat.add_zero] at e6
    exact e6
  rw [World.var?_cell hg0 hv0 k, ← Array.getElem?_toList, e5]
  congr 2
  have : k = 0 ∨ k = 1 ∨ k = 2 ∨ k = 3 := by omega
  clear hel h0 e1 e2 e3 e5 hx1 hx2
  rcases this with rfl | rfl | rfl | rfl <;> (simp [Rows.laid_kissgate_appli_events] at e4; subst e4; rfl)
end Go.Proofs.YtnphindpbdjmpaaDoor.Laid
