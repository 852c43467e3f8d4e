-- Written by a program of this session (see NOTES.md), which reads the translation's print; Lean checks it.
import Derived.Test.YtibeijfgjcakiaaPAddrNumbersx0
import Derived.Test.YtibeijfgjcakiaaPAddrNumbersx1
namespace Go.Proofs.Ytibeijfgjcakiaa.PAddrNumbers
open Go.RowKit Go.Proofs.YtibeijfgjcakiaaW.PrintWords Go.Proofs.YtibeijfgjcakiaaW.PrintLast Go.Proofs.YtibeijfgjcakiaaW.PrintMore
attribute [local go_sem] max2_int min2_int max_two min_two max_three min_three max_four min_four   -- for this text's walks alone
set_option linter.unusedVariables false
set_option linter.unusedSimpArgs false

/-! ### kissgatelaw02_AddrNumbers: function 5 -/
def kissgatelaw02_AddrNumbers.f (a0 : Int) : Option (Bool) := (kissgatelaw02_alive.f).bind fun t105 => (if t105 = true then ((addr_Vid.f a0).bind fun t106 => (if a0 > 0 then (if (t106 == (decide (a0 < 4095))) = true then ((addr_Type.f a0).bind fun t107 => (if a0 > 1535 then (if (t107 == (decide (a0 < 65536))) = true then ((addr_Length.f a0).bind fun t108 => (if a0 > (-1) then (if (t108 == (decide (a0 < 1501))) = true then ((addr_Type.f a0).bind fun t109 => (if t109 = true then ((addr_Length.f a0).bind fun t110 => (if t110 = true then (some false) else ((addr_Type.f 33024).bind fun t111 => (if t111 = true then ((addr_Type.f 35061).bind fun t112 => (if t112 = true then ((addr_Type.f 35062).bind fun t113 => (if t113 = true then ((addr_Type.f 2048).bind fun t114 => (some t114)) else (some false))) else (some false))) else (some false))))) else ((addr_Type.f 33024).bind fun t115 => (if t115 = true then ((addr_Type.f 35061).bind fun t116 => (if t116 = true then ((addr_Type.f 35062).bind fun t117 => (if t117 = true then ((addr_Type.f 2048).bind fun t118 => (some t118)) else (some false))) else (some false))) else (some false))))) else (some false)) else (if (t108 == false) = true then ((addr_Type.f a0).bind fun t119 => (if t119 = true then ((addr_Length.f a0).bind fun t120 => (if t120 = true then (some false) else ((addr_Type.f 33024).bind fun t121 => (if t121 = true then ((addr_Type.f 35061).bind fun t122 => (if t122 = true then ((addr_Type.f 35062).bind fun t123 => (if t123 = true then ((addr_Type.f 2048).bind fun t124 => (some t124)) else (some false))) else (some false))) else (some false))))) else ((addr_Type.f 33024).bind fun t125 => (if t125 = true then ((addr_Type.f 35061).bind fun t126 => (if t126 = true then ((addr_Type.f 35062).bind fun t127 => (if t127 = true then ((addr_Type.f 2048).bind fun t128 => (some t128)) else (some false))) else (some false))) else (some false))))) else (some false)))) else (some false)) else (if (t107 == false) = true then ((addr_Length.f a0).bind fun t129 => (if a0 > (-1) then (if (t129 == (decide (a0 < 1501))) = true then ((addr_Type.f a0).bind fun t130 => (if t130 = true then ((addr_Length.f a0).bind fun t131 => (if t131 = true then (some false) else ((addr_Type.f 33024).bind fun t132 => (if t132 = true then ((addr_Type.f 35061).bind fun t133 => (if t133 = true then ((addr_Type.f 35062).bind fun t134 => (if t134 = true then ((addr_Type.f 2048).bind fun t135 => (some t135)) else (some false))) else (some false))) else (some false))))) else ((addr_Type.f 33024).bind fun t136 => (if t136 = true then ((addr_Type.f 35061).bind fun t137 => (if t137 = true then ((addr_Type.f 35062).bind fun t138 => (if t138 = true then ((addr_Type.f 2048).bind fun t139 => (some t139)) else (some false))) else (some false))) else (some false))))) else (some false)) else (if (t129 == false) = true then ((addr_Type.f a0).bind fun t140 => (if t140 = true then ((addr_Length.f a0).bind fun t141 => (if t141 = true then (some false) else ((addr_Type.f 33024).bind fun t142 => (if t142 = true then ((addr_Type.f 35061).bind fun t143 => (if t143 = true then ((addr_Type.f 35062).bind fun t144 => (if t144 = true then ((addr_Type.f 2048).bind fun t145 => (some t145)) else (some false))) else (some false))) else (some false))))) else ((addr_Type.f 33024).bind fun t146 => (if t146 = true then ((addr_Type.f 35061).bind fun t147 => (if t147 = true then ((addr_Type.f 35062).bind fun t148 => (if t148 = true then ((addr_Type.f 2048).bind fun t149 => (some t149)) else (some false))) else (some false))) else (some false))))) else (some false)))) else (some false)))) else (some false)) else (if (t106 == false) = true then ((addr_Type.f a0).bind fun t150 => (if a0 > 1535 then (if (t150 == (decide (a0 < 65536))) = true then ((addr_Length.f a0).bind fun t151 => (if a0 > (-1) then (if (t151 == (decide (a0 < 1501))) = true then ((addr_Type.f a0).bind fun t152 => (if t152 = true then ((addr_Length.f a0).bind fun t153 => (if t153 = true then (some false) else ((addr_Type.f 33024).bind fun t154 => (if t154 = true then ((addr_Type.f 35061).bind fun t155 => (if t155 = true then ((addr_Type.f 35062).bind fun t156 => (if t156 = true then ((addr_Type.f 2048).bind fun t157 => (some t157)) else (some false))) else (some false))) else (some false))))) else ((addr_Type.f 33024).bind fun t158 => (if t158 = true then ((addr_Type.f 35061).bind fun t159 => (if t159 = true then ((addr_Type.f 35062).bind fun t160 => (if t160 = true then ((addr_Type.f 2048).bind fun t161 => (some t161)) else (some false))) else (some false))) else (some false))))) else (some false)) else (if (t151 == false) = true then ((addr_Type.f a0).bind fun t162 => (if t162 = true then ((addr_Length.f a0).bind fun t163 => (if t163 = true then (some false) else ((addr_Type.f 33024).bind fun t164 => (if t164 = true then ((addr_Type.f 35061).bind fun t165 => (if t165 = true then ((addr_Type.f 35062).bind fun t166 => (if t166 = true then ((addr_Type.f 2048).bind fun t167 => (some t167)) else (some false))) else (some false))) else (some false))))) else ((addr_Type.f 33024).bind fun t168 => (if t168 = true then ((addr_Type.f 35061).bind fun t169 => (if t169 = true then ((addr_Type.f 35062).bind fun t170 => (if t170 = true then ((addr_Type.f 2048).bind fun t171 => (some t171)) else (some false))) else (some false))) else (some false))))) else (some false)))) else (some false)) else (if (t150 == false) = true then ((addr_Length.f a0).bind fun t172 => (if a0 > (-1) then (if (t172 == (decide (a0 < 1501))) = true then ((addr_Type.f a0).bind fun t173 => (if t173 = true then ((addr_Length.f a0).bind fun t174 => (if t174 = true then (some false) else ((addr_Type.f 33024).bind fun t175 => (if t175 = true then ((addr_Type.f 35061).bind fun t176 => (if t176 = true then ((addr_Type.f 35062).bind fun t177 => (if t177 = true then ((addr_Type.f 2048).bind fun t178 => (some t178)) else (some false))) else (some false))) else (some false))))) else ((addr_Type.f 33024).bind fun t179 => (if t179 = true then ((addr_Type.f 35061).bind fun t180 => (if t180 = true then ((addr_Type.f 35062).bind fun t181 => (if t181 = true then ((addr_Type.f 2048).bind fun t182 => (some t182)) else (some false))) else (some false))) else (some false))))) else (some false)) else (if (t172 == false) = true then ((addr_Type.f a0).bind fun t183 => (if t183 = true then ((addr_Length.f a0).bind fun t184 => (if t184 = true then (some false) else ((addr_Type.f 33024).bind fun t185 => (if t185 = true then ((addr_Type.f 35061).bind fun t186 => (if t186 = true then ((addr_Type.f 35062).bind fun t187 => (if t187 = true then ((addr_Type.f 2048).bind fun t188 => (some t188)) else (some false))) else (some false))) else (some false))))) else ((addr_Type.f 33024).bind fun t189 => (if t189 = true then ((addr_Type.f 35061).bind fun t190 => (if t190 = true then ((addr_Type.f 35062).bind fun t191 => (if t191 = true then ((addr_Type.f 2048).bind fun t192 => (some t192)) else (some false))) else (some false))) else (some false))))) else (some false)))) else (some false)))) else (some false)))) else (some false))
set_option maxHeartbeats 8000000 in
set_option maxRecDepth 100000 in
theorem kissgatelaw02_AddrNumbers.calls (a0 : Int) (r : Bool) (w : World) (h : kissgatelaw02_AddrNumbers.f a0 = some r) :
  Calls Try.prog 5 #[.int .i64 a0] w fun e w' => e = .returned (.bool r) ∧ Below w.heap.size w w' := by
 have HB := Aside0.mk (Below.refl w.heap.size w)
 have H : ((kissgatelaw02_alive.f).bind fun t105 => (if t105 = true then ((addr_Vid.f a0).bind fun t106 => (if a0 > 0 then (if (t106 == (decide (a0 < 4095))) = true then ((addr_Type.f a0).bind fun t107 => (if a0 > 1535 then (if (t107 == (decide (a0 < 65536))) = true then ((addr_Length.f a0).bind fun t108 => (if a0 > (-1) then (if (t108 == (decide (a0 < 1501))) = true then ((addr_Type.f a0).bind fun t109 => (if t109 = true then ((addr_Length.f a0).bind fun t110 => (if t110 = true then (some false) else ((addr_Type.f 33024).bind fun t111 => (if t111 = true then ((addr_Type.f 35061).bind fun t112 => (if t112 = true then ((addr_Type.f 35062).bind fun t113 => (if t113 = true then ((addr_Type.f 2048).bind fun t114 => (some t114)) else (some false))) else (some false))) else (some false))))) else ((addr_Type.f 33024).bind fun t115 => (if t115 = true then ((addr_Type.f 35061).bind fun t116 => (if t116 = true then ((addr_Type.f 35062).bind fun t117 => (if t117 = true then ((addr_Type.f 2048).bind fun t118 => (some t118)) else (some false))) else (some false))) else (some false))))) else (some false)) else (if (t108 == false) = true then ((addr_Type.f a0).bind fun t119 => (if t119 = true then ((addr_Length.f a0).bind fun t120 => (if t120 = true then (some false) else ((addr_Type.f 33024).bind fun t121 => (if t121 = true then ((addr_Type.f 35061).bind fun t122 => (if t122 = true then ((addr_Type.f 35062).bind fun t123 => (if t123 = true then ((addr_Type.f 2048).bind fun t124 => (some t124)) else (some false))) else (some false))) else (some false))))) else ((addr_Type.f 33024).bind fun t125 => (if t125 = true then ((addr_Type.f 35061).bind fun t126 => (if t126 = true then ((addr_Type.f 35062).bind fun t127 => (if t127 = true then ((addr_Type.f 2048).bind fun t128 => (some t128)) else (some false))) else (some false))) else (some false))))) else (some false)))) else (some false)) else (if (t107 == false) = true then ((addr_Length.f a0).bind fun t129 => (if a0 > (-1) then (if (t129 == (decide (a0 < 1501))) = true then ((addr_Type.f a0).bind fun t130 => (if t130 = true then ((addr_Length.f a0).bind fun t131 => (if t131 = true then (some false) else ((addr_Type.f 33024).bind fun t132 => (if t132 = true then ((addr_Type.f 35061).bind fun t133 => (if t133 = true then ((addr_Type.f 35062).bind fun t134 => (if t134 = true then ((addr_Type.f 2048).bind fun t135 => (some t135)) else (some false))) else (some false))) else (some false))))) else ((addr_Type.f 33024).bind fun t136 => (if t136 = true then ((addr_Type.f 35061).bind fun t137 => (if t137 = true then ((addr_Type.f 35062).bind fun t138 => (if t138 = true then ((addr_Type.f 2048).bind fun t139 => (some t139)) else (some false))) else (some false))) else (some false))))) else (some false)) else (if (t129 == false) = true then ((addr_Type.f a0).bind fun t140 => (if t140 = true then ((addr_Length.f a0).bind fun t141 => (if t141 = true then (some false) else ((addr_Type.f 33024).bind fun t142 => (if t142 = true then ((addr_Type.f 35061).bind fun t143 => (if t143 = true then ((addr_Type.f 35062).bind fun t144 => (if t144 = true then ((addr_Type.f 2048).bind fun t145 => (some t145)) else (some false))) else (some false))) else (some false))))) else ((addr_Type.f 33024).bind fun t146 => (if t146 = true then ((addr_Type.f 35061).bind fun t147 => (if t147 = true then ((addr_Type.f 35062).bind fun t148 => (if t148 = true then ((addr_Type.f 2048).bind fun t149 => (some t149)) else (some false))) else (some false))) else (some false))))) else (some false)))) else (some false)))) else (some false)) else (if (t106 == false) = true then ((addr_Type.f a0).bind fun t150 => (if a0 > 1535 then (if (t150 == (decide (a0 < 65536))) = true then ((addr_Length.f a0).bind fun t151 => (if a0 > (-1) then (if (t151 == (decide (a0 < 1501))) = true then ((addr_Type.f a0).bind fun t152 => (if t152 = true then ((addr_Length.f a0).bind fun t153 => (if t153 = true then (some false) else ((addr_Type.f 33024).bind fun t154 => (if t154 = true then ((addr_Type.f 35061).bind fun t155 => (if t155 = true then ((addr_Type.f 35062).bind fun t156 => (if t156 = true then ((addr_Type.f 2048).bind fun t157 => (some t157)) else (some false))) else (some false))) else (some false))))) else ((addr_Type.f 33024).bind fun t158 => (if t158 = true then ((addr_Type.f 35061).bind fun t159 => (if t159 = true then ((addr_Type.f 35062).bind fun t160 => (if t160 = true then ((addr_Type.f 2048).bind fun t161 => (some t161)) else (some false))) else (some false))) else (some false))))) else (some false)) else (if (t151 == false) = true then ((addr_Type.f a0).bind fun t162 => (if t162 = true then ((addr_Length.f a0).bind fun t163 => (if t163 = true then (some false) else ((addr_Type.f 33024).bind fun t164 => (if t164 = true then ((addr_Type.f 35061).bind fun t165 => (if t165 = true then ((addr_Type.f 35062).bind fun t166 => (if t166 = true then ((addr_Type.f 2048).bind fun t167 => (some t167)) else (some false))) else (some false))) else (some false))))) else ((addr_Type.f 33024).bind fun t168 => (if t168 = true then ((addr_Type.f 35061).bind fun t169 => (if t169 = true then ((addr_Type.f 35062).bind fun t170 => (if t170 = true then ((addr_Type.f 2048).bind fun t171 => (some t171)) else (some false))) else (some false))) else (some false))))) else (some false)))) else (some false)) else (if (t150 == false) = true then ((addr_Length.f a0).bind fun t172 => (if a0 > (-1) then (if (t172 == (decide (a0 < 1501))) = true then ((addr_Type.f a0).bind fun t173 => (if t173 = true then ((addr_Length.f a0).bind fun t174 => (if t174 = true then (some false) else ((addr_Type.f 33024).bind fun t175 => (if t175 = true then ((addr_Type.f 35061).bind fun t176 => (if t176 = true then ((addr_Type.f 35062).bind fun t177 => (if t177 = true then ((addr_Type.f 2048).bind fun t178 => (some t178)) else (some false))) else (some false))) else (some false))))) else ((addr_Type.f 33024).bind fun t179 => (if t179 = true then ((addr_Type.f 35061).bind fun t180 => (if t180 = true then ((addr_Type.f 35062).bind fun t181 => (if t181 = true then ((addr_Type.f 2048).bind fun t182 => (some t182)) else (some false))) else (some false))) else (some false))))) else (some false)) else (if (t172 == false) = true then ((addr_Type.f a0).bind fun t183 => (if t183 = true then ((addr_Length.f a0).bind fun t184 => (if t184 = true then (some false) else ((addr_Type.f 33024).bind fun t185 => (if t185 = true then ((addr_Type.f 35061).bind fun t186 => (if t186 = true then ((addr_Type.f 35062).bind fun t187 => (if t187 = true then ((addr_Type.f 2048).bind fun t188 => (some t188)) else (some false))) else (some false))) else (some false))))) else ((addr_Type.f 33024).bind fun t189 => (if t189 = true then ((addr_Type.f 35061).bind fun t190 => (if t190 = true then ((addr_Type.f 35062).bind fun t191 => (if t191 = true then ((addr_Type.f 2048).bind fun t192 => (some t192)) else (some false))) else (some false))) else (some false))))) else (some false)))) else (some false)))) else (some false)))) else (some false))) = some r := h
 clear h
 replace H := Option.bind_eq_some_iff.mp H
 obtain ⟨t105, A20, H⟩ := H
 replace H : (if t105 = true then ((addr_Vid.f a0).bind fun t106 => (if a0 > 0 then (if (t106 == (decide (a0 < 4095))) = true then ((addr_Type.f a0).bind fun t107 => (if a0 > 1535 then (if (t107 == (decide (a0 < 65536))) = true then ((addr_Length.f a0).bind fun t108 => (if a0 > (-1) then (if (t108 == (decide (a0 < 1501))) = true then ((addr_Type.f a0).bind fun t109 => (if t109 = true then ((addr_Length.f a0).bind fun t110 => (if t110 = true then (some false) else ((addr_Type.f 33024).bind fun t111 => (if t111 = true then ((addr_Type.f 35061).bind fun t112 => (if t112 = true then ((addr_Type.f 35062).bind fun t113 => (if t113 = true then ((addr_Type.f 2048).bind fun t114 => (some t114)) else (some false))) else (some false))) else (some false))))) else ((addr_Type.f 33024).bind fun t115 => (if t115 = true then ((addr_Type.f 35061).bind fun t116 => (if t116 = true then ((addr_Type.f 35062).bind fun t117 => (if t117 = true then ((addr_Type.f 2048).bind fun t118 => (some t118)) else (some false))) else (some false))) else (some false))))) else (some false)) else (if (t108 == false) = true then ((addr_Type.f a0).bind fun t119 => (if t119 = true then ((addr_Length.f a0).bind fun t120 => (if t120 = true then (some false) else ((addr_Type.f 33024).bind fun t121 => (if t121 = true then ((addr_Type.f 35061).bind fun t122 => (if t122 = true then ((addr_Type.f 35062).bind fun t123 => (if t123 = true then ((addr_Type.f 2048).bind fun t124 => (some t124)) else (some false))) else (some false))) else (some false))))) else ((addr_Type.f 33024).bind fun t125 => (if t125 = true then ((addr_Type.f 35061).bind fun t126 => (if t126 = true then ((addr_Type.f 35062).bind fun t127 => (if t127 = true then ((addr_Type.f 2048).bind fun t128 => (some t128)) else (some false))) else (some false))) else (some false))))) else (some false)))) else (some false)) else (if (t107 == false) = true then ((addr_Length.f a0).bind fun t129 => (if a0 > (-1) then (if (t129 == (decide (a0 < 1501))) = true then ((addr_Type.f a0).bind fun t130 => (if t130 = true then ((addr_Length.f a0).bind fun t131 => (if t131 = true then (some false) else ((addr_Type.f 33024).bind fun t132 => (if t132 = true then ((addr_Type.f 35061).bind fun t133 => (if t133 = true then ((addr_Type.f 35062).bind fun t134 => (if t134 = true then ((addr_Type.f 2048).bind fun t135 => (some t135)) else (some false))) else (some false))) else (some false))))) else ((addr_Type.f 33024).bind fun t136 => (if t136 = true then ((addr_Type.f 35061).bind fun t137 => (if t137 = true then ((addr_Type.f 35062).bind fun t138 => (if t138 = true then ((addr_Type.f 2048).bind fun t139 => (some t139)) else (some false))) else (some false))) else (some false))))) else (some false)) else (if (t129 == false) = true then ((addr_Type.f a0).bind fun t140 => (if t140 = true then ((addr_Length.f a0).bind fun t141 => (if t141 = true then (some false) else ((addr_Type.f 33024).bind fun t142 => (if t142 = true then ((addr_Type.f 35061).bind fun t143 => (if t143 = true then ((addr_Type.f 35062).bind fun t144 => (if t144 = true then ((addr_Type.f 2048).bind fun t145 => (some t145)) else (some false))) else (some false))) else (some false))))) else ((addr_Type.f 33024).bind fun t146 => (if t146 = true then ((addr_Type.f 35061).bind fun t147 => (if t147 = true then ((addr_Type.f 35062).bind fun t148 => (if t148 = true then ((addr_Type.f 2048).bind fun t149 => (some t149)) else (some false))) else (some false))) else (some false))))) else (some false)))) else (some false)))) else (some false)) else (if (t106 == false) = true then ((addr_Type.f a0).bind fun t150 => (if a0 > 1535 then (if (t150 == (decide (a0 < 65536))) = true then ((addr_Length.f a0).bind fun t151 => (if a0 > (-1) then (if (t151 == (decide (a0 < 1501))) = true then ((addr_Type.f a0).bind fun t152 => (if t152 = true then ((addr_Length.f a0).bind fun t153 => (if t153 = true then (some false) else ((addr_Type.f 33024).bind fun t154 => (if t154 = true then ((addr_Type.f 35061).bind fun t155 => (if t155 = true then ((addr_Type.f 35062).bind fun t156 => (if t156 = true then ((addr_Type.f 2048).bind fun t157 => (some t157)) else (some false))) else (some false))) else (some false))))) else ((addr_Type.f 33024).bind fun t158 => (if t158 = true then ((addr_Type.f 35061).bind fun t159 => (if t159 = true then ((addr_Type.f 35062).bind fun t160 => (if t160 = true then ((addr_Type.f 2048).bind fun t161 => (some t161)) else (some false))) else (some false))) else (some false))))) else (some false)) else (if (t151 == false) = true then ((addr_Type.f a0).bind fun t162 => (if t162 = true then ((addr_Length.f a0).bind fun t163 => (if t163 = true then (some false) else ((addr_Type.f 33024).bind fun t164 => (if t164 = true then ((addr_Type.f 35061).bind fun t165 => (if t165 = true then ((addr_Type.f 35062).bind fun t166 => (if t166 = true then ((addr_Type.f 2048).bind fun t167 => (some t167)) else (some false))) else (some false))) else (some false))))) else ((addr_Type.f 33024).bind fun t168 => (if t168 = true then ((addr_Type.f 35061).bind fun t169 => (if t169 = true then ((addr_Type.f 35062).bind fun t170 => (if t170 = true then ((addr_Type.f 2048).bind fun t171 => (some t171)) else (some false))) else (some false))) else (some false))))) else (some false)))) else (some false)) else (if (t150 == false) = true then ((addr_Length.f a0).bind fun t172 => (if a0 > (-1) then (if (t172 == (decide (a0 < 1501))) = true then ((addr_Type.f a0).bind fun t173 => (if t173 = true then ((addr_Length.f a0).bind fun t174 => (if t174 = true then (some false) else ((addr_Type.f 33024).bind fun t175 => (if t175 = true then ((addr_Type.f 35061).bind fun t176 => (if t176 = true then ((addr_Type.f 35062).bind fun t177 => (if t177 = true then ((addr_Type.f 2048).bind fun t178 => (some t178)) else (some false))) else (some false))) else (some false))))) else ((addr_Type.f 33024).bind fun t179 => (if t179 = true then ((addr_Type.f 35061).bind fun t180 => (if t180 = true then ((addr_Type.f 35062).bind fun t181 => (if t181 = true then ((addr_Type.f 2048).bind fun t182 => (some t182)) else (some false))) else (some false))) else (some false))))) else (some false)) else (if (t172 == false) = true then ((addr_Type.f a0).bind fun t183 => (if t183 = true then ((addr_Length.f a0).bind fun t184 => (if t184 = true then (some false) else ((addr_Type.f 33024).bind fun t185 => (if t185 = true then ((addr_Type.f 35061).bind fun t186 => (if t186 = true then ((addr_Type.f 35062).bind fun t187 => (if t187 = true then ((addr_Type.f 2048).bind fun t188 => (some t188)) else (some false))) else (some false))) else (some false))))) else ((addr_Type.f 33024).bind fun t189 => (if t189 = true then ((addr_Type.f 35061).bind fun t190 => (if t190 = true then ((addr_Type.f 35062).bind fun t191 => (if t191 = true then ((addr_Type.f 2048).bind fun t192 => (some t192)) else (some false))) else (some false))) else (some false))))) else (some false)))) else (some false)))) else (some false)))) else (some false)) = some r := H
 have A2 := Aside0.mk A20
 clear A20
 by_cases c3 : t105 = true
 ·
  subst c3
  rw [if_pos rfl] at H
  replace H := Option.bind_eq_some_iff.mp H
  obtain ⟨t106, A40, H⟩ := H
  replace H : (if a0 > 0 then (if (t106 == (decide (a0 < 4095))) = true then ((addr_Type.f a0).bind fun t107 => (if a0 > 1535 then (if (t107 == (decide (a0 < 65536))) = true then ((addr_Length.f a0).bind fun t108 => (if a0 > (-1) then (if (t108 == (decide (a0 < 1501))) = true then ((addr_Type.f a0).bind fun t109 => (if t109 = true then ((addr_Length.f a0).bind fun t110 => (if t110 = true then (some false) else ((addr_Type.f 33024).bind fun t111 => (if t111 = true then ((addr_Type.f 35061).bind fun t112 => (if t112 = true then ((addr_Type.f 35062).bind fun t113 => (if t113 = true then ((addr_Type.f 2048).bind fun t114 => (some t114)) else (some false))) else (some false))) else (some false))))) else ((addr_Type.f 33024).bind fun t115 => (if t115 = true then ((addr_Type.f 35061).bind fun t116 => (if t116 = true then ((addr_Type.f 35062).bind fun t117 => (if t117 = true then ((addr_Type.f 2048).bind fun t118 => (some t118)) else (some false))) else (some false))) else (some false))))) else (some false)) else (if (t108 == false) = true then ((addr_Type.f a0).bind fun t119 => (if t119 = true then ((addr_Length.f a0).bind fun t120 => (if t120 = true then (some false) else ((addr_Type.f 33024).bind fun t121 => (if t121 = true then ((addr_Type.f 35061).bind fun t122 => (if t122 = true then ((addr_Type.f 35062).bind fun t123 => (if t123 = true then ((addr_Type.f 2048).bind fun t124 => (some t124)) else (some false))) else (some false))) else (some false))))) else ((addr_Type.f 33024).bind fun t125 => (if t125 = true then ((addr_Type.f 35061).bind fun t126 => (if t126 = true then ((addr_Type.f 35062).bind fun t127 => (if t127 = true then ((addr_Type.f 2048).bind fun t128 => (some t128)) else (some false))) else (some false))) else (some false))))) else (some false)))) else (some false)) else (if (t107 == false) = true then ((addr_Length.f a0).bind fun t129 => (if a0 > (-1) then (if (t129 == (decide (a0 < 1501))) = true then ((addr_Type.f a0).bind fun t130 => (if t130 = true then ((addr_Length.f a0).bind fun t131 => (if t131 = true then (some false) else ((addr_Type.f 33024).bind fun t132 => (if t132 = true then ((addr_Type.f 35061).bind fun t133 => (if t133 = true then ((addr_Type.f 35062).bind fun t134 => (if t134 = true then ((addr_Type.f 2048).bind fun t135 => (some t135)) else (some false))) else (some false))) else (some false))))) else ((addr_Type.f 33024).bind fun t136 => (if t136 = true then ((addr_Type.f 35061).bind fun t137 => (if t137 = true then ((addr_Type.f 35062).bind fun t138 => (if t138 = true then ((addr_Type.f 2048).bind fun t139 => (some t139)) else (some false))) else (some false))) else (some false))))) else (some false)) else (if (t129 == false) = true then ((addr_Type.f a0).bind fun t140 => (if t140 = true then ((addr_Length.f a0).bind fun t141 => (if t141 = true then (some false) else ((addr_Type.f 33024).bind fun t142 => (if t142 = true then ((addr_Type.f 35061).bind fun t143 => (if t143 = true then ((addr_Type.f 35062).bind fun t144 => (if t144 = true then ((addr_Type.f 2048).bind fun t145 => (some t145)) else (some false))) else (some false))) else (some false))))) else ((addr_Type.f 33024).bind fun t146 => (if t146 = true then ((addr_Type.f 35061).bind fun t147 => (if t147 = true then ((addr_Type.f 35062).bind fun t148 => (if t148 = true then ((addr_Type.f 2048).bind fun t149 => (some t149)) else (some false))) else (some false))) else (some false))))) else (some false)))) else (some false)))) else (some false)) else (if (t106 == false) = true then ((addr_Type.f a0).bind fun t150 => (if a0 > 1535 then (if (t150 == (decide (a0 < 65536))) = true then ((addr_Length.f a0).bind fun t151 => (if a0 > (-1) then (if (t151 == (decide (a0 < 1501))) = true then ((addr_Type.f a0).bind fun t152 => (if t152 = true then ((addr_Length.f a0).bind fun t153 => (if t153 = true then (some false) else ((addr_Type.f 33024).bind fun t154 => (if t154 = true then ((addr_Type.f 35061).bind fun t155 => (if t155 = true then ((addr_Type.f 35062).bind fun t156 => (if t156 = true then ((addr_Type.f 2048).bind fun t157 => (some t157)) else (some false))) else (some false))) else (some false))))) else ((addr_Type.f 33024).bind fun t158 => (if t158 = true then ((addr_Type.f 35061).bind fun t159 => (if t159 = true then ((addr_Type.f 35062).bind fun t160 => (if t160 = true then ((addr_Type.f 2048).bind fun t161 => (some t161)) else (some false))) else (some false))) else (some false))))) else (some false)) else (if (t151 == false) = true then ((addr_Type.f a0).bind fun t162 => (if t162 = true then ((addr_Length.f a0).bind fun t163 => (if t163 = true then (some false) else ((addr_Type.f 33024).bind fun t164 => (if t164 = true then ((addr_Type.f 35061).bind fun t165 => (if t165 = true then ((addr_Type.f 35062).bind fun t166 => (if t166 = true then ((addr_Type.f 2048).bind fun t167 => (some t167)) else (some false))) else (some false))) else (some false))))) else ((addr_Type.f 33024).bind fun t168 => (if t168 = true then ((addr_Type.f 35061).bind fun t169 => (if t169 = true then ((addr_Type.f 35062).bind fun t170 => (if t170 = true then ((addr_Type.f 2048).bind fun t171 => (some t171)) else (some false))) else (some false))) else (some false))))) else (some false)))) else (some false)) else (if (t150 == false) = true then ((addr_Length.f a0).bind fun t172 => (if a0 > (-1) then (if (t172 == (decide (a0 < 1501))) = true then ((addr_Type.f a0).bind fun t173 => (if t173 = true then ((addr_Length.f a0).bind fun t174 => (if t174 = true then (some false) else ((addr_Type.f 33024).bind fun t175 => (if t175 = true then ((addr_Type.f 35061).bind fun t176 => (if t176 = true then ((addr_Type.f 35062).bind fun t177 => (if t177 = true then ((addr_Type.f 2048).bind fun t178 => (some t178)) else (some false))) else (some false))) else (some false))))) else ((addr_Type.f 33024).bind fun t179 => (if t179 = true then ((addr_Type.f 35061).bind fun t180 => (if t180 = true then ((addr_Type.f 35062).bind fun t181 => (if t181 = true then ((addr_Type.f 2048).bind fun t182 => (some t182)) else (some false))) else (some false))) else (some false))))) else (some false)) else (if (t172 == false) = true then ((addr_Type.f a0).bind fun t183 => (if t183 = true then ((addr_Length.f a0).bind fun t184 => (if t184 = true then (some false) else ((addr_Type.f 33024).bind fun t185 => (if t185 = true then ((addr_Type.f 35061).bind fun t186 => (if t186 = true then ((addr_Type.f 35062).bind fun t187 => (if t187 = true then ((addr_Type.f 2048).bind fun t188 => (some t188)) else (some false))) else (some false))) else (some false))))) else ((addr_Type.f 33024).bind fun t189 => (if t189 = true then ((addr_Type.f 35061).bind fun t190 => (if t190 = true then ((addr_Type.f 35062).bind fun t191 => (if t191 = true then ((addr_Type.f 2048).bind fun t192 => (some t192)) else (some false))) else (some false))) else (some false))))) else (some false)))) else (some false)))) else (some false))) = some r := H
  have A4 := Aside0.mk A40
  clear A40
  by_cases c5 : a0 > 0
  ·
   rw [if_pos c5] at H
   have c5b0 : decide (0 < a0) = true := decide_eq_true c5
   clear c5
   by_cases c6 : (t106 == (decide (a0 < 4095))) = true
   ·
    rw [if_pos c6] at H
    have c6b0 : (t106 == (decide (a0 < 4095))) = true := c6
    (try (have c6b1 : decide (t106 = (decide (a0 < 4095))) = true := by simpa using c6))
    (try (have c6b2 : (t106 == (decide (a0 < 4095))) = true := by simpa using c6))
    clear c6
    replace H := Option.bind_eq_some_iff.mp H
    obtain ⟨t107, A70, H⟩ := H
    replace H : (if a0 > 1535 then (if (t107 == (decide (a0 < 65536))) = true then ((addr_Length.f a0).bind fun t108 => (if a0 > (-1) then (if (t108 == (decide (a0 < 1501))) = true then ((addr_Type.f a0).bind fun t109 => (if t109 = true then ((addr_Length.f a0).bind fun t110 => (if t110 = true then (some false) else ((addr_Type.f 33024).bind fun t111 => (if t111 = true then ((addr_Type.f 35061).bind fun t112 => (if t112 = true then ((addr_Type.f 35062).bind fun t113 => (if t113 = true then ((addr_Type.f 2048).bind fun t114 => (some t114)) else (some false))) else (some false))) else (some false))))) else ((addr_Type.f 33024).bind fun t115 => (if t115 = true then ((addr_Type.f 35061).bind fun t116 => (if t116 = true then ((addr_Type.f 35062).bind fun t117 => (if t117 = true then ((addr_Type.f 2048).bind fun t118 => (some t118)) else (some false))) else (some false))) else (some false))))) else (some false)) else (if (t108 == false) = true then ((addr_Type.f a0).bind fun t119 => (if t119 = true then ((addr_Length.f a0).bind fun t120 => (if t120 = true then (some false) else ((addr_Type.f 33024).bind fun t121 => (if t121 = true then ((addr_Type.f 35061).bind fun t122 => (if t122 = true then ((addr_Type.f 35062).bind fun t123 => (if t123 = true then ((addr_Type.f 2048).bind fun t124 => (some t124)) else (some false))) else (some false))) else (some false))))) else ((addr_Type.f 33024).bind fun t125 => (if t125 = true then ((addr_Type.f 35061).bind fun t126 => (if t126 = true then ((addr_Type.f 35062).bind fun t127 => (if t127 = true then ((addr_Type.f 2048).bind fun t128 => (some t128)) else (some false))) else (some false))) else (some false))))) else (some false)))) else (some false)) else (if (t107 == false) = true then ((addr_Length.f a0).bind fun t129 => (if a0 > (-1) then (if (t129 == (decide (a0 < 1501))) = true then ((addr_Type.f a0).bind fun t130 => (if t130 = true then ((addr_Length.f a0).bind fun t131 => (if t131 = true then (some false) else ((addr_Type.f 33024).bind fun t132 => (if t132 = true then ((addr_Type.f 35061).bind fun t133 => (if t133 = true then ((addr_Type.f 35062).bind fun t134 => (if t134 = true then ((addr_Type.f 2048).bind fun t135 => (some t135)) else (some false))) else (some false))) else (some false))))) else ((addr_Type.f 33024).bind fun t136 => (if t136 = true then ((addr_Type.f 35061).bind fun t137 => (if t137 = true then ((addr_Type.f 35062).bind fun t138 => (if t138 = true then ((addr_Type.f 2048).bind fun t139 => (some t139)) else (some false))) else (some false))) else (some false))))) else (some false)) else (if (t129 == false) = true then ((addr_Type.f a0).bind fun t140 => (if t140 = true then ((addr_Length.f a0).bind fun t141 => (if t141 = true then (some false) else ((addr_Type.f 33024).bind fun t142 => (if t142 = true then ((addr_Type.f 35061).bind fun t143 => (if t143 = true then ((addr_Type.f 35062).bind fun t144 => (if t144 = true then ((addr_Type.f 2048).bind fun t145 => (some t145)) else (some false))) else (some false))) else (some false))))) else ((addr_Type.f 33024).bind fun t146 => (if t146 = true then ((addr_Type.f 35061).bind fun t147 => (if t147 = true then ((addr_Type.f 35062).bind fun t148 => (if t148 = true then ((addr_Type.f 2048).bind fun t149 => (some t149)) else (some false))) else (some false))) else (some false))))) else (some false)))) else (some false))) = some r := H
    have A7 := Aside0.mk A70
    clear A70
    by_cases c8 : a0 > 1535
    ·
     rw [if_pos c8] at H
     have c8b0 : decide (1535 < a0) = true := decide_eq_true c8
     clear c8
     by_cases c9 : (t107 == (decide (a0 < 65536))) = true
     ·
      rw [if_pos c9] at H
      have c9b0 : (t107 == (decide (a0 < 65536))) = true := c9
      (try (have c9b1 : decide (t107 = (decide (a0 < 65536))) = true := by simpa using c9))
      (try (have c9b2 : (t107 == (decide (a0 < 65536))) = true := by simpa using c9))
      clear c9
      replace H := Option.bind_eq_some_iff.mp H
      obtain ⟨t108, A100, H⟩ := H
      replace H : (if a0 > (-1) then (if (t108 == (decide (a0 < 1501))) = true then ((addr_Type.f a0).bind fun t109 => (if t109 = true then ((addr_Length.f a0).bind fun t110 => (if t110 = true then (some false) else ((addr_Type.f 33024).bind fun t111 => (if t111 = true then ((addr_Type.f 35061).bind fun t112 => (if t112 = true then ((addr_Type.f 35062).bind fun t113 => (if t113 = true then ((addr_Type.f 2048).bind fun t114 => (some t114)) else (some false))) else (some false))) else (some false))))) else ((addr_Type.f 33024).bind fun t115 => (if t115 = true then ((addr_Type.f 35061).bind fun t116 => (if t116 = true then ((addr_Type.f 35062).bind fun t117 => (if t117 = true then ((addr_Type.f 2048).bind fun t118 => (some t118)) else (some false))) else (some false))) else (some false))))) else (some false)) else (if (t108 == false) = true then ((addr_Type.f a0).bind fun t119 => (if t119 = true then ((addr_Length.f a0).bind fun t120 => (if t120 = true then (some false) else ((addr_Type.f 33024).bind fun t121 => (if t121 = true then ((addr_Type.f 35061).bind fun t122 => (if t122 = true then ((addr_Type.f 35062).bind fun t123 => (if t123 = true then ((addr_Type.f 2048).bind fun t124 => (some t124)) else (some false))) else (some false))) else (some false))))) else ((addr_Type.f 33024).bind fun t125 => (if t125 = true then ((addr_Type.f 35061).bind fun t126 => (if t126 = true then ((addr_Type.f 35062).bind fun t127 => (if t127 = true then ((addr_Type.f 2048).bind fun t128 => (some t128)) else (some false))) else (some false))) else (some false))))) else (some false))) = some r := H
      have A10 := Aside0.mk A100
      clear A100
      by_cases c11 : a0 > (-1)
      ·
       rw [if_pos c11] at H
       have c11b0 : decide ((-1) < a0) = true := decide_eq_true c11
       clear c11
       by_cases c12 : (t108 == (decide (a0 < 1501))) = true
       ·
        rw [if_pos c12] at H
        have c12b0 : (t108 == (decide (a0 < 1501))) = true := c12
        (try (have c12b1 : decide (t108 = (decide (a0 < 1501))) = true := by simpa using c12))
        (try (have c12b2 : (t108 == (decide (a0 < 1501))) = true := by simpa using c12))
        clear c12
        replace H := Option.bind_eq_some_iff.mp H
        obtain ⟨t109, A130, H⟩ := H
        try ((with_reducible have e_ := Option.some.inj (A130.symm.trans A7.out)); subst e_)
        replace H : (if t109 = true then ((addr_Length.f a0).bind fun t110 => (if t110 = true then (some false) else ((addr_Type.f 33024).bind fun t111 => (if t111 = true then ((addr_Type.f 35061).bind fun t112 => (if t112 = true then ((addr_Type.f 35062).bind fun t113 => (if t113 = true then ((addr_Type.f 2048).bind fun t114 => (some t114)) else (some false))) else (some false))) else (some false))))) else ((addr_Type.f 33024).bind fun t115 => (if t115 = true then ((addr_Type.f 35061).bind fun t116 => (if t116 = true then ((addr_Type.f 35062).bind fun t117 => (if t117 = true then ((addr_Type.f 2048).bind fun t118 => (some t118)) else (some false))) else (some false))) else (some false)))) = some r := H
        have A13 := Aside0.mk A130
        clear A130
        by_cases c14 : t109 = true
        ·
         subst c14
         rw [if_pos rfl] at H
         replace H := Option.bind_eq_some_iff.mp H
         obtain ⟨t110, A150, H⟩ := H
         try ((with_reducible have e_ := Option.some.inj (A150.symm.trans A10.out)); subst e_)
         replace H : (if t110 = true then (some false) else ((addr_Type.f 33024).bind fun t111 => (if t111 = true then ((addr_Type.f 35061).bind fun t112 => (if t112 = true then ((addr_Type.f 35062).bind fun t113 => (if t113 = true then ((addr_Type.f 2048).bind fun t114 => (some t114)) else (some false))) else (some false))) else (some false)))) = some r := H
         have A15 := Aside0.mk A150
         clear A150
         by_cases c16 : t110 = true
         ·
          subst c16
          rw [if_pos rfl] at H
          obtain rfl := Option.some.inj H
          go_enter Try.func5, Try.ntmps5
          go_wp2_with (first | ((with_reducible refine gate_callee (f := 8) rfl ?_); refine goesL_ (some 3) rfl rfl Try.func8 (by kernel_rfl) rfl #[] rfl (by (try simp only [List.map_toArray, List.map_cons, List.map_nil]); first | done | rfl | (simp only [List.length_drop, List.length_take]; rfl)) ?_; (with_reducible refine (kissgatelaw02_alive.calls  true _ A2.out).mono ?_); rintro e w17 ⟨rfl, hb⟩; refine ⟨_, rfl, ?_⟩; have n0_ := Aside0.mk (below_step (by repeat (first | (with_reducible first | exact HB.out | apply below_alloc | apply pw_below_drewN | apply below_drew1) | exact HB.out)) hb); clear HB; have HB := n0_; clear n0_; (try clear hb); (try clear hb2); (try clear hk); (try clear hi)) | ((with_reducible refine gate_callee (f := 16) rfl ?_); refine goesL_ (some 6) rfl rfl Try.func16 (by kernel_rfl) rfl #[.int .i64 a0] rfl (by (try simp only [List.map_toArray, List.map_cons, List.map_nil]); first | done | rfl | (simp only [List.length_drop, List.length_take]; rfl)) ?_; (with_reducible refine (addr_Vid.calls a0 t106 _ A4.out).mono ?_); rintro e w' ⟨rfl, ⟨nd, rfl⟩⟩; refine ⟨_, rfl, ?_⟩) | (go_at_call 17; (with_reducible refine (addr_Type.calls a0 t107 _ A7.out).mono ?_); rintro e w' ⟨rfl, ⟨nd, rfl⟩⟩) | (go_at_call 18; (with_reducible refine (addr_Length.calls a0 t108 _ A10.out).mono ?_); rintro e w' ⟨rfl, ⟨nd, rfl⟩⟩) | (go_at_call 17; (with_reducible refine (addr_Type.calls a0 true _ A13.out).mono ?_); rintro e w' ⟨rfl, ⟨nd, rfl⟩⟩) | (go_at_call 18; (with_reducible refine (addr_Length.calls a0 true _ A15.out).mono ?_); rintro e w' ⟨rfl, ⟨nd, rfl⟩⟩))
          go_ret
          exact ⟨by first | rfl | (simp [*] <;> rfl), by repeat (first | exact HB.out | apply below_alloc | apply pw_below_drewN | apply below_drew1)⟩
         ·
          replace c16 := Bool.eq_false_iff.mpr c16
          subst c16
          rw [if_neg (show ¬ (false = true) by decide)] at H
          replace H := Option.bind_eq_some_iff.mp H
          obtain ⟨t111, A180, H⟩ := H
          replace H : (if t111 = true then ((addr_Type.f 35061).bind fun t112 => (if t112 = true then ((addr_Type.f 35062).bind fun t113 => (if t113 = true then ((addr_Type.f 2048).bind fun t114 => (some t114)) else (some false))) else (some false))) else (some false)) = some r := H
          have A18 := Aside0.mk A180
          clear A180
          by_cases c19 : t111 = true
          ·
           subst c19
           rw [if_pos rfl] at H
           replace H := Option.bind_eq_some_iff.mp H
           obtain ⟨t112, A200, H⟩ := H
           replace H : (if t112 = true then ((addr_Type.f 35062).bind fun t113 => (if t113 = true then ((addr_Type.f 2048).bind fun t114 => (some t114)) else (some false))) else (some false)) = some r := H
           have A20 := Aside0.mk A200
           clear A200
           by_cases c21 : t112 = true
           ·
            subst c21
            rw [if_pos rfl] at H
            replace H := Option.bind_eq_some_iff.mp H
            obtain ⟨t113, A220, H⟩ := H
            replace H : (if t113 = true then ((addr_Type.f 2048).bind fun t114 => (some t114)) else (some false)) = some r := H
            have A22 := Aside0.mk A220
            clear A220
            by_cases c23 : t113 = true
            ·
             subst c23
             rw [if_pos rfl] at H
             replace H := Option.bind_eq_some_iff.mp H
             obtain ⟨t114, A240, H⟩ := H
             replace H : (some t114) = some r := H
             have A24 := Aside0.mk A240
             clear A240
             obtain rfl := Option.some.inj H
             go_enter Try.func5, Try.ntmps5
             go_wp2_with (first | ((with_reducible refine gate_callee (f := 8) rfl ?_); refine goesL_ (some 3) rfl rfl Try.func8 (by kernel_rfl) rfl #[] rfl (by (try simp only [List.map_toArray, List.map_cons, List.map_nil]); first | done | rfl | (simp only [List.length_drop, List.length_take]; rfl)) ?_; (with_reducible refine (kissgatelaw02_alive.calls  true _ A2.out).mono ?_); rintro e w25 ⟨rfl, hb⟩; refine ⟨_, rfl, ?_⟩; have n0_ := Aside0.mk (below_step (by repeat (first | (with_reducible first | exact HB.out | apply below_alloc | apply pw_below_drewN | apply below_drew1) | exact HB.out)) hb); clear HB; have HB := n0_; clear n0_; (try clear hb); (try clear hb2); (try clear hk); (try clear hi)) | ((with_reducible refine gate_callee (f := 16) rfl ?_); refine goesL_ (some 6) rfl rfl Try.func16 (by kernel_rfl) rfl #[.int .i64 a0] rfl (by (try simp only [List.map_toArray, List.map_cons, List.map_nil]); first | done | rfl | (simp only [List.length_drop, List.length_take]; rfl)) ?_; (with_reducible refine (addr_Vid.calls a0 t106 _ A4.out).mono ?_); rintro e w' ⟨rfl, ⟨nd, rfl⟩⟩; refine ⟨_, rfl, ?_⟩) | (go_at_call 17; (with_reducible refine (addr_Type.calls a0 t107 _ A7.out).mono ?_); rintro e w' ⟨rfl, ⟨nd, rfl⟩⟩) | (go_at_call 18; (with_reducible refine (addr_Length.calls a0 t108 _ A10.out).mono ?_); rintro e w' ⟨rfl, ⟨nd, rfl⟩⟩) | (go_at_call 17; (with_reducible refine (addr_Type.calls a0 true _ A13.out).mono ?_); rintro e w' ⟨rfl, ⟨nd, rfl⟩⟩) | (go_at_call 18; (with_reducible refine (addr_Length.calls a0 false _ A15.out).mono ?_); rintro e w' ⟨rfl, ⟨nd, rfl⟩⟩) | (go_at_call 17; (with_reducible refine (addr_Type.calls 33024 true _ A18.out).mono ?_); rintro e w' ⟨rfl, ⟨nd, rfl⟩⟩) | (go_at_call 17; (with_reducible refine (addr_Type.calls 35061 true _ A20.out).mono ?_); rintro e w' ⟨rfl, ⟨nd, rfl⟩⟩) | (go_at_call 17; (with_reducible refine (addr_Type.calls 35062 true _ A22.out).mono ?_); rintro e w' ⟨rfl, ⟨nd, rfl⟩⟩) | (go_at_call 17; (with_reducible refine (addr_Type.calls 2048 t114 _ A24.out).mono ?_); rintro e w' ⟨rfl, ⟨nd, rfl⟩⟩))
             go_ret
             exact ⟨by first | rfl | (simp [*] <;> rfl), by repeat (first | exact HB.out | apply below_alloc | apply pw_below_drewN | apply below_drew1)⟩
            ·
             replace c23 := Bool.eq_false_iff.mpr c23
             subst c23
             rw [if_neg (show ¬ (false = true) by decide)] at H
             obtain rfl := Option.some.inj H
             go_enter Try.func5, Try.ntmps5
             go_wp2_with (first | ((with_reducible refine gate_callee (f := 8) rfl ?_); refine goesL_ (some 3) rfl rfl Try.func8 (by kernel_rfl) rfl #[] rfl (by (try simp only [List.map_toArray, List.map_cons, List.map_nil]); first | done | rfl | (simp only [List.length_drop, List.length_take]; rfl)) ?_; (with_reducible refine (kissgatelaw02_alive.calls  true _ A2.out).mono ?_); rintro e w26 ⟨rfl, hb⟩; refine ⟨_, rfl, ?_⟩; have n0_ := Aside0.mk (below_step (by repeat (first | (with_reducible first | exact HB.out | apply below_alloc | apply pw_below_drewN | apply below_drew1) | exact HB.out)) hb); clear HB; have HB := n0_; clear n0_; (try clear hb); (try clear hb2); (try clear hk); (try clear hi)) | ((with_reducible refine gate_callee (f := 16) rfl ?_); refine goesL_ (some 6) rfl rfl Try.func16 (by kernel_rfl) rfl #[.int .i64 a0] rfl (by (try simp only [List.map_toArray, List.map_cons, List.map_nil]); first | done | rfl | (simp only [List.length_drop, List.length_take]; rfl)) ?_; (with_reducible refine (addr_Vid.calls a0 t106 _ A4.out).mono ?_); rintro e w' ⟨rfl, ⟨nd, rfl⟩⟩; refine ⟨_, rfl, ?_⟩) | (go_at_call 17; (with_reducible refine (addr_Type.calls a0 t107 _ A7.out).mono ?_); rintro e w' ⟨rfl, ⟨nd, rfl⟩⟩) | (go_at_call 18; (with_reducible refine (addr_Length.calls a0 t108 _ A10.out).mono ?_); rintro e w' ⟨rfl, ⟨nd, rfl⟩⟩) | (go_at_call 17; (with_reducible refine (addr_Type.calls a0 true _ A13.out).mono ?_); rintro e w' ⟨rfl, ⟨nd, rfl⟩⟩) | (go_at_call 18; (with_reducible refine (addr_Length.calls a0 false _ A15.out).mono ?_); rintro e w' ⟨rfl, ⟨nd, rfl⟩⟩) | (go_at_call 17; (with_reducible refine (addr_Type.calls 33024 true _ A18.out).mono ?_); rintro e w' ⟨rfl, ⟨nd, rfl⟩⟩) | (go_at_call 17; (with_reducible refine (addr_Type.calls 35061 true _ A20.out).mono ?_); rintro e w' ⟨rfl, ⟨nd, rfl⟩⟩) | (go_at_call 17; (with_reducible refine (addr_Type.calls 35062 false _ A22.out).mono ?_); rintro e w' ⟨rfl, ⟨nd, rfl⟩⟩))
             go_ret
             exact ⟨by first | rfl | (simp [*] <;> rfl), by repeat (first | exact HB.out | apply below_alloc | apply pw_below_drewN | apply below_drew1)⟩
           ·
            replace c21 := Bool.eq_false_iff.mpr c21
            subst c21
            rw [if_neg (show ¬ (false = true) by decide)] at H
            obtain rfl := Option.some.inj H
            go_enter Try.func5, Try.ntmps5
            go_wp2_with (first | ((with_reducible refine gate_callee (f := 8) rfl ?_); refine goesL_ (some 3) rfl rfl Try.func8 (by kernel_rfl) rfl #[] rfl (by (try simp only [List.map_toArray, List.map_cons, List.map_nil]); first | done | rfl | (simp only [List.length_drop, List.length_take]; rfl)) ?_; (with_reducible refine (kissgatelaw02_alive.calls  true _ A2.out).mono ?_); rintro e w27 ⟨rfl, hb⟩; refine ⟨_, rfl, ?_⟩; have n0_ := Aside0.mk (below_step (by repeat (first | (with_reducible first | exact HB.out | apply below_alloc | apply pw_below_drewN | apply below_drew1) | exact HB.out)) hb); clear HB; have HB := n0_; clear n0_; (try clear hb); (try clear hb2); (try clear hk); (try clear hi)) | ((with_reducible refine gate_callee (f := 16) rfl ?_); refine goesL_ (some 6) rfl rfl Try.func16 (by kernel_rfl) rfl #[.int .i64 a0] rfl (by (try simp only [List.map_toArray, List.map_cons, List.map_nil]); first | done | rfl | (simp only [List.length_drop, List.length_take]; rfl)) ?_; (with_reducible refine (addr_Vid.calls a0 t106 _ A4.out).mono ?_); rintro e w' ⟨rfl, ⟨nd, rfl⟩⟩; refine ⟨_, rfl, ?_⟩) | (go_at_call 17; (with_reducible refine (addr_Type.calls a0 t107 _ A7.out).mono ?_); rintro e w' ⟨rfl, ⟨nd, rfl⟩⟩) | (go_at_call 18; (with_reducible refine (addr_Length.calls a0 t108 _ A10.out).mono ?_); rintro e w' ⟨rfl, ⟨nd, rfl⟩⟩) | (go_at_call 17; (with_reducible refine (addr_Type.calls a0 true _ A13.out).mono ?_); rintro e w' ⟨rfl, ⟨nd, rfl⟩⟩) | (go_at_call 18; (with_reducible refine (addr_Length.calls a0 false _ A15.out).mono ?_); rintro e w' ⟨rfl, ⟨nd, rfl⟩⟩) | (go_at_call 17; (with_reducible refine (addr_Type.calls 33024 true _ A18.out).mono ?_); rintro e w' ⟨rfl, ⟨nd, rfl⟩⟩) | (go_at_call 17; (with_reducible refine (addr_Type.calls 35061 false _ A20.out).mono ?_); rintro e w' ⟨rfl, ⟨nd, rfl⟩⟩))
            go_ret
            exact ⟨by first | rfl | (simp [*] <;> rfl), by repeat (first | exact HB.out | apply below_alloc | apply pw_below_drewN | apply below_drew1)⟩
          ·
           replace c19 := Bool.eq_false_iff.mpr c19
           subst c19
           rw [if_neg (show ¬ (false = true) by decide)] at H
           obtain rfl := Option.some.inj H
           go_enter Try.func5, Try.ntmps5
           go_wp2_with (first | ((with_reducible refine gate_callee (f := 8) rfl ?_); refine goesL_ (some 3) rfl rfl Try.func8 (by kernel_rfl) rfl #[] rfl (by (try simp only [List.map_toArray, List.map_cons, List.map_nil]); first | done | rfl | (simp only [List.length_drop, List.length_take]; rfl)) ?_; (with_reducible refine (kissgatelaw02_alive.calls  true _ A2.out).mono ?_); rintro e w28 ⟨rfl, hb⟩; refine ⟨_, rfl, ?_⟩; have n0_ := Aside0.mk (below_step (by repeat (first | (with_reducible first | exact HB.out | apply below_alloc | apply pw_below_drewN | apply below_drew1) | exact HB.out)) hb); clear HB; have HB := n0_; clear n0_; (try clear hb); (try clear hb2); (try clear hk); (try clear hi)) | ((with_reducible refine gate_callee (f := 16) rfl ?_); refine goesL_ (some 6) rfl rfl Try.func16 (by kernel_rfl) rfl #[.int .i64 a0] rfl (by (try simp only [List.map_toArray, List.map_cons, List.map_nil]); first | done | rfl | (simp only [List.length_drop, List.length_take]; rfl)) ?_; (with_reducible refine (addr_Vid.calls a0 t106 _ A4.out).mono ?_); rintro e w' ⟨rfl, ⟨nd, rfl⟩⟩; refine ⟨_, rfl, ?_⟩) | (go_at_call 17; (with_reducible refine (addr_Type.calls a0 t107 _ A7.out).mono ?_); rintro e w' ⟨rfl, ⟨nd, rfl⟩⟩) | (go_at_call 18; (with_reducible refine (addr_Length.calls a0 t108 _ A10.out).mono ?_); rintro e w' ⟨rfl, ⟨nd, rfl⟩⟩) | (go_at_call 17; (with_reducible refine (addr_Type.calls a0 true _ A13.out).mono ?_); rintro e w' ⟨rfl, ⟨nd, rfl⟩⟩) | (go_at_call 18; (with_reducible refine (addr_Length.calls a0 false _ A15.out).mono ?_); rintro e w' ⟨rfl, ⟨nd, rfl⟩⟩) | (go_at_call 17; (with_reducible refine (addr_Type.calls 33024 false _ A18.out).mono ?_); rintro e w' ⟨rfl, ⟨nd, rfl⟩⟩))
           go_ret
           exact ⟨by first | rfl | (simp [*] <;> rfl), by repeat (first | exact HB.out | apply below_alloc | apply pw_below_drewN | apply below_drew1)⟩
        ·
         replace c14 := Bool.eq_false_iff.mpr c14
         subst c14
         rw [if_neg (show ¬ (false = true) by decide)] at H
         replace H := Option.bind_eq_some_iff.mp H
         obtain ⟨t115, A290, H⟩ := H
         replace H : (if t115 = true then ((addr_Type.f 35061).bind fun t116 => (if t116 = true then ((addr_Type.f 35062).bind fun t117 => (if t117 = true then ((addr_Type.f 2048).bind fun t118 => (some t118)) else (some false))) else (some false))) else (some false)) = some r := H
         have A29 := Aside0.mk A290
         clear A290
         by_cases c30 : t115 = true
         ·
          subst c30
          rw [if_pos rfl] at H
          replace H := Option.bind_eq_some_iff.mp H
          obtain ⟨t116, A310, H⟩ := H
          replace H : (if t116 = true then ((addr_Type.f 35062).bind fun t117 => (if t117 = true then ((addr_Type.f 2048).bind fun t118 => (some t118)) else (some false))) else (some false)) = some r := H
          have A31 := Aside0.mk A310
          clear A310
          by_cases c32 : t116 = true
          ·
           subst c32
           rw [if_pos rfl] at H
           replace H := Option.bind_eq_some_iff.mp H
           obtain ⟨t117, A330, H⟩ := H
           replace H : (if t117 = true then ((addr_Type.f 2048).bind fun t118 => (some t118)) else (some false)) = some r := H
           have A33 := Aside0.mk A330
           clear A330
           by_cases c34 : t117 = true
           ·
            subst c34
            rw [if_pos rfl] at H
            replace H := Option.bind_eq_some_iff.mp H
            obtain ⟨t118, A350, H⟩ := H
            replace H : (some t118) = some r := H
            have A35 := Aside0.mk A350
            clear A350
            obtain rfl := Option.some.inj H
            go_enter Try.func5, Try.ntmps5
            go_wp2_with (first | ((with_reducible refine gate_callee (f := 8) rfl ?_); refine goesL_ (some 3) rfl rfl Try.func8 (by kernel_rfl) rfl #[] rfl (by (try simp only [List.map_toArray, List.map_cons, List.map_nil]); first | done | rfl | (simp only [List.length_drop, List.length_take]; rfl)) ?_; (with_reducible refine (kissgatelaw02_alive.calls  true _ A2.out).mono ?_); rintro e w36 ⟨rfl, hb⟩; refine ⟨_, rfl, ?_⟩; have n0_ := Aside0.mk (below_step (by repeat (first | (with_reducible first | exact HB.out | apply below_alloc | apply pw_below_drewN | apply below_drew1) | exact HB.out)) hb); clear HB; have HB := n0_; clear n0_; (try clear hb); (try clear hb2); (try clear hk); (try clear hi)) | ((with_reducible refine gate_callee (f := 16) rfl ?_); refine goesL_ (some 6) rfl rfl Try.func16 (by kernel_rfl) rfl #[.int .i64 a0] rfl (by (try simp only [List.map_toArray, List.map_cons, List.map_nil]); first | done | rfl | (simp only [List.length_drop, List.length_take]; rfl)) ?_; (with_reducible refine (addr_Vid.calls a0 t106 _ A4.out).mono ?_); rintro e w' ⟨rfl, ⟨nd, rfl⟩⟩; refine ⟨_, rfl, ?_⟩) | (go_at_call 17; (with_reducible refine (addr_Type.calls a0 t107 _ A7.out).mono ?_); rintro e w' ⟨rfl, ⟨nd, rfl⟩⟩) | (go_at_call 18; (with_reducible refine (addr_Length.calls a0 t108 _ A10.out).mono ?_); rintro e w' ⟨rfl, ⟨nd, rfl⟩⟩) | (go_at_call 17; (with_reducible refine (addr_Type.calls a0 false _ A13.out).mono ?_); rintro e w' ⟨rfl, ⟨nd, rfl⟩⟩) | (go_at_call 17; (with_reducible refine (addr_Type.calls 33024 true _ A29.out).mono ?_); rintro e w' ⟨rfl, ⟨nd, rfl⟩⟩) | (go_at_call 17; (with_reducible refine (addr_Type.calls 35061 true _ A31.out).mono ?_); rintro e w' ⟨rfl, ⟨nd, rfl⟩⟩) | (go_at_call 17; (with_reducible refine (addr_Type.calls 35062 true _ A33.out).mono ?_); rintro e w' ⟨rfl, ⟨nd, rfl⟩⟩) | (go_at_call 17; (with_reducible refine (addr_Type.calls 2048 t118 _ A35.out).mono ?_); rintro e w' ⟨rfl, ⟨nd, rfl⟩⟩))
            go_ret
            exact ⟨by first | rfl | (simp [*] <;> rfl), by repeat (first | exact HB.out | apply below_alloc | apply pw_below_drewN | apply below_drew1)⟩
           ·
            replace c34 := Bool.eq_false_iff.mpr c34
            subst c34
            rw [if_neg (show ¬ (false = true) by decide)] at H
            obtain rfl := Option.some.inj H
            go_enter Try.func5, Try.ntmps5
            go_wp2_with (first | ((with_reducible refine gate_callee (f := 8) rfl ?_); refine goesL_ (some 3) rfl rfl Try.func8 (by kernel_rfl) rfl #[] rfl (by (try simp only [List.map_toArray, List.map_cons, List.map_nil]); first | done | rfl | (simp only [List.length_drop, List.length_take]; rfl)) ?_; (with_reducible refine (kissgatelaw02_alive.calls  true _ A2.out).mono ?_); rintro e w37 ⟨rfl, hb⟩; refine ⟨_, rfl, ?_⟩; have n0_ := Aside0.mk (below_step (by repeat (first | (with_reducible first | exact HB.out | apply below_alloc | apply pw_below_drewN | apply below_drew1) | exact HB.out)) hb); clear HB; have HB := n0_; clear n0_; (try clear hb); (try clear hb2); (try clear hk); (try clear hi)) | ((with_reducible refine gate_callee (f := 16) rfl ?_); refine goesL_ (some 6) rfl rfl Try.func16 (by kernel_rfl) rfl #[.int .i64 a0] rfl (by (try simp only [List.map_toArray, List.map_cons, List.map_nil]); first | done | rfl | (simp only [List.length_drop, List.length_take]; rfl)) ?_; (with_reducible refine (addr_Vid.calls a0 t106 _ A4.out).mono ?_); rintro e w' ⟨rfl, ⟨nd, rfl⟩⟩; refine ⟨_, rfl, ?_⟩) | (go_at_call 17; (with_reducible refine (addr_Type.calls a0 t107 _ A7.out).mono ?_); rintro e w' ⟨rfl, ⟨nd, rfl⟩⟩) | (go_at_call 18; (with_reducible refine (addr_Length.calls a0 t108 _ A10.out).mono ?_); rintro e w' ⟨rfl, ⟨nd, rfl⟩⟩) | (go_at_call 17; (with_reducible refine (addr_Type.calls a0 false _ A13.out).mono ?_); rintro e w' ⟨rfl, ⟨nd, rfl⟩⟩) | (go_at_call 17; (with_reducible refine (addr_Type.calls 33024 true _ A29.out).mono ?_); rintro e w' ⟨rfl, ⟨nd, rfl⟩⟩) | (go_at_call 17; (with_reducible refine (addr_Type.calls 35061 true _ A31.out).mono ?_); rintro e w' ⟨rfl, ⟨nd, rfl⟩⟩) | (go_at_call 17; (with_reducible refine (addr_Type.calls 35062 false _ A33.out).mono ?_); rintro e w' ⟨rfl, ⟨nd, rfl⟩⟩))
            go_ret
            exact ⟨by first | rfl | (simp [*] <;> rfl), by repeat (first | exact HB.out | apply below_alloc | apply pw_below_drewN | apply below_drew1)⟩
          ·
           replace c32 := Bool.eq_false_iff.mpr c32
           subst c32
           rw [if_neg (show ¬ (false = true) by decide)] at H
           obtain rfl := Option.some.inj H
           go_enter Try.func5, Try.ntmps5
           go_wp2_with (first | ((with_reducible refine gate_callee (f := 8) rfl ?_); refine goesL_ (some 3) rfl rfl Try.func8 (by kernel_rfl) rfl #[] rfl (by (try simp only [List.map_toArray, List.map_cons, List.map_nil]); first | done | rfl | (simp only [List.length_drop, List.length_take]; rfl)) ?_; (with_reducible refine (kissgatelaw02_alive.calls  true _ A2.out).mono ?_); rintro e w38 ⟨rfl, hb⟩; refine ⟨_, rfl, ?_⟩; have n0_ := Aside0.mk (below_step (by repeat (first | (with_reducible first | exact HB.out | apply below_alloc | apply pw_below_drewN | apply below_drew1) | exact HB.out)) hb); clear HB; have HB := n0_; clear n0_; (try clear hb); (try clear hb2); (try clear hk); (try clear hi)) | ((with_reducible refine gate_callee (f := 16) rfl ?_); refine goesL_ (some 6) rfl rfl Try.func16 (by kernel_rfl) rfl #[.int .i64 a0] rfl (by (try simp only [List.map_toArray, List.map_cons, List.map_nil]); first | done | rfl | (simp only [List.length_drop, List.length_take]; rfl)) ?_; (with_reducible refine (addr_Vid.calls a0 t106 _ A4.out).mono ?_); rintro e w' ⟨rfl, ⟨nd, rfl⟩⟩; refine ⟨_, rfl, ?_⟩) | (go_at_call 17; (with_reducible refine (addr_Type.calls a0 t107 _ A7.out).mono ?_); rintro e w' ⟨rfl, ⟨nd, rfl⟩⟩) | (go_at_call 18; (with_reducible refine (addr_Length.calls a0 t108 _ A10.out).mono ?_); rintro e w' ⟨rfl, ⟨nd, rfl⟩⟩) | (go_at_call 17; (with_reducible refine (addr_Type.calls a0 false _ A13.out).mono ?_); rintro e w' ⟨rfl, ⟨nd, rfl⟩⟩) | (go_at_call 17; (with_reducible refine (addr_Type.calls 33024 true _ A29.out).mono ?_); rintro e w' ⟨rfl, ⟨nd, rfl⟩⟩) | (go_at_call 17; (with_reducible refine (addr_Type.calls 35061 false _ A31.out).mono ?_); rintro e w' ⟨rfl, ⟨nd, rfl⟩⟩))
           go_ret
           exact ⟨by first | rfl | (simp [*] <;> rfl), by repeat (first | exact HB.out | apply below_alloc | apply pw_below_drewN | apply below_drew1)⟩
         ·
          replace c30 := Bool.eq_false_iff.mpr c30
          subst c30
          rw [if_neg (show ¬ (false = true) by decide)] at H
          obtain rfl := Option.some.inj H
          go_enter Try.func5, Try.ntmps5
          go_wp2_with (first | ((with_reducible refine gate_callee (f := 8) rfl ?_); refine goesL_ (some 3) rfl rfl Try.func8 (by kernel_rfl) rfl #[] rfl (by (try simp only [List.map_toArray, List.map_cons, List.map_nil]); first | done | rfl | (simp only [List.length_drop, List.length_take]; rfl)) ?_; (with_reducible refine (kissgatelaw02_alive.calls  true _ A2.out).mono ?_); rintro e w39 ⟨rfl, hb⟩; refine ⟨_, rfl, ?_⟩; have n0_ := Aside0.mk (below_step (by repeat (first | (with_reducible first | exact HB.out | apply below_alloc | apply pw_below_drewN | apply below_drew1) | exact HB.out)) hb); clear HB; have HB := n0_; clear n0_; (try clear hb); (try clear hb2); (try clear hk); (try clear hi)) | ((with_reducible refine gate_callee (f := 16) rfl ?_); refine goesL_ (some 6) rfl rfl Try.func16 (by kernel_rfl) rfl #[.int .i64 a0] rfl (by (try simp only [List.map_toArray, List.map_cons, List.map_nil]); first | done | rfl | (simp only [List.length_drop, List.length_take]; rfl)) ?_; (with_reducible refine (addr_Vid.calls a0 t106 _ A4.out).mono ?_); rintro e w' ⟨rfl, ⟨nd, rfl⟩⟩; refine ⟨_, rfl, ?_⟩) | (go_at_call 17; (with_reducible refine (addr_Type.calls a0 t107 _ A7.out).mono ?_); rintro e w' ⟨rfl, ⟨nd, rfl⟩⟩) | (go_at_call 18; (with_reducible refine (addr_Length.calls a0 t108 _ A10.out).mono ?_); rintro e w' ⟨rfl, ⟨nd, rfl⟩⟩) | (go_at_call 17; (with_reducible refine (addr_Type.calls a0 false _ A13.out).mono ?_); rintro e w' ⟨rfl, ⟨nd, rfl⟩⟩) | (go_at_call 17; (with_reducible refine (addr_Type.calls 33024 false _ A29.out).mono ?_); rintro e w' ⟨rfl, ⟨nd, rfl⟩⟩))
          go_ret
          exact ⟨by first | rfl | (simp [*] <;> rfl), by repeat (first | exact HB.out | apply below_alloc | apply pw_below_drewN | apply below_drew1)⟩
       ·
        rw [if_neg c12] at H
        have c12b0 : (t108 == (decide (a0 < 1501))) = false := by simpa using c12
        (try (have c12b1 : decide (t108 = (decide (a0 < 1501))) = false := by simpa using c12))
        (try (have c12b2 : (t108 == (decide (a0 < 1501))) = false := by simpa using c12))
        (try (have c12b3 : ¬ (t108 = (decide (a0 < 1501))) := by simpa using c12))
        clear c12
        obtain rfl := Option.some.inj H
        go_enter Try.func5, Try.ntmps5
        go_wp2_with (first | ((with_reducible refine gate_callee (f := 8) rfl ?_); refine goesL_ (some 3) rfl rfl Try.func8 (by kernel_rfl) rfl #[] rfl (by (try simp only [List.map_toArray, List.map_cons, List.map_nil]); first | done | rfl | (simp only [List.length_drop, List.length_take]; rfl)) ?_; (with_reducible refine (kissgatelaw02_alive.calls  true _ A2.out).mono ?_); rintro e w40 ⟨rfl, hb⟩; refine ⟨_, rfl, ?_⟩; have n0_ := Aside0.mk (below_step (by repeat (first | (with_reducible first | exact HB.out | apply below_alloc | apply pw_below_drewN | apply below_drew1) | exact HB.out)) hb); clear HB; have HB := n0_; clear n0_; (try clear hb); (try clear hb2); (try clear hk); (try clear hi)) | ((with_reducible refine gate_callee (f := 16) rfl ?_); refine goesL_ (some 6) rfl rfl Try.func16 (by kernel_rfl) rfl #[.int .i64 a0] rfl (by (try simp only [List.map_toArray, List.map_cons, List.map_nil]); first | done | rfl | (simp only [List.length_drop, List.length_take]; rfl)) ?_; (with_reducible refine (addr_Vid.calls a0 t106 _ A4.out).mono ?_); rintro e w' ⟨rfl, ⟨nd, rfl⟩⟩; refine ⟨_, rfl, ?_⟩) | (go_at_call 17; (with_reducible refine (addr_Type.calls a0 t107 _ A7.out).mono ?_); rintro e w' ⟨rfl, ⟨nd, rfl⟩⟩) | (go_at_call 18; (with_reducible refine (addr_Length.calls a0 t108 _ A10.out).mono ?_); rintro e w' ⟨rfl, ⟨nd, rfl⟩⟩))
        go_ret
        exact ⟨by first | rfl | (simp [*] <;> rfl), by repeat (first | exact HB.out | apply below_alloc | apply pw_below_drewN | apply below_drew1)⟩
      ·
       rw [if_neg c11] at H
       have c11b0 : decide ((-1) < a0) = false := decide_eq_false c11
       clear c11
       by_cases c41 : (t108 == false) = true
       ·
        rw [if_pos c41] at H
        have c41b0 : (t108 == false) = true := c41
        (try (have c41b1 : decide (t108 = false) = true := by simpa using c41))
        (try (have c41b2 : (t108 == false) = true := by simpa using c41))
        clear c41
        replace H := Option.bind_eq_some_iff.mp H
        obtain ⟨t119, A420, H⟩ := H
        try ((with_reducible have e_ := Option.some.inj (A420.symm.trans A7.out)); subst e_)
        replace H : (if t119 = true then ((addr_Length.f a0).bind fun t120 => (if t120 = true then (some false) else ((addr_Type.f 33024).bind fun t121 => (if t121 = true then ((addr_Type.f 35061).bind fun t122 => (if t122 = true then ((addr_Type.f 35062).bind fun t123 => (if t123 = true then ((addr_Type.f 2048).bind fun t124 => (some t124)) else (some false))) else (some false))) else (some false))))) else ((addr_Type.f 33024).bind fun t125 => (if t125 = true then ((addr_Type.f 35061).bind fun t126 => (if t126 = true then ((addr_Type.f 35062).bind fun t127 => (if t127 = true then ((addr_Type.f 2048).bind fun t128 => (some t128)) else (some false))) else (some false))) else (some false)))) = some r := H
        have A42 := Aside0.mk A420
        clear A420
        by_cases c43 : t119 = true
        ·
         subst c43
         rw [if_pos rfl] at H
         replace H := Option.bind_eq_some_iff.mp H
         obtain ⟨t120, A440, H⟩ := H
         try ((with_reducible have e_ := Option.some.inj (A440.symm.trans A10.out)); subst e_)
         replace H : (if t120 = true then (some false) else ((addr_Type.f 33024).bind fun t121 => (if t121 = true then ((addr_Type.f 35061).bind fun t122 => (if t122 = true then ((addr_Type.f 35062).bind fun t123 => (if t123 = true then ((addr_Type.f 2048).bind fun t124 => (some t124)) else (some false))) else (some false))) else (some false)))) = some r := H
         have A44 := Aside0.mk A440
         clear A440
         by_cases c45 : t120 = true
         ·
          subst c45
          rw [if_pos rfl] at H
          obtain rfl := Option.some.inj H
          go_enter Try.func5, Try.ntmps5
          go_wp2_with (first | ((with_reducible refine gate_callee (f := 8) rfl ?_); refine goesL_ (some 3) rfl rfl Try.func8 (by kernel_rfl) rfl #[] rfl (by (try simp only [List.map_toArray, List.map_cons, List.map_nil]); first | done | rfl | (simp only [List.length_drop, List.length_take]; rfl)) ?_; (with_reducible refine (kissgatelaw02_alive.calls  true _ A2.out).mono ?_); rintro e w46 ⟨rfl, hb⟩; refine ⟨_, rfl, ?_⟩; have n0_ := Aside0.mk (below_step (by repeat (first | (with_reducible first | exact HB.out | apply below_alloc | apply pw_below_drewN | apply below_drew1) | exact HB.out)) hb); clear HB; have HB := n0_; clear n0_; (try clear hb); (try clear hb2); (try clear hk); (try clear hi)) | ((with_reducible refine gate_callee (f := 16) rfl ?_); refine goesL_ (some 6) rfl rfl Try.func16 (by kernel_rfl) rfl #[.int .i64 a0] rfl (by (try simp only [List.map_toArray, List.map_cons, List.map_nil]); first | done | rfl | (simp only [List.length_drop, List.length_take]; rfl)) ?_; (with_reducible refine (addr_Vid.calls a0 t106 _ A4.out).mono ?_); rintro e w' ⟨rfl, ⟨nd, rfl⟩⟩; refine ⟨_, rfl, ?_⟩) | (go_at_call 17; (with_reducible refine (addr_Type.calls a0 t107 _ A7.out).mono ?_); rintro e w' ⟨rfl, ⟨nd, rfl⟩⟩) | (go_at_call 18; (with_reducible refine (addr_Length.calls a0 t108 _ A10.out).mono ?_); rintro e w' ⟨rfl, ⟨nd, rfl⟩⟩) | (go_at_call 17; (with_reducible refine (addr_Type.calls a0 true _ A42.out).mono ?_); rintro e w' ⟨rfl, ⟨nd, rfl⟩⟩) | (go_at_call 18; (with_reducible refine (addr_Length.calls a0 true _ A44.out).mono ?_); rintro e w' ⟨rfl, ⟨nd, rfl⟩⟩))
          go_ret
          exact ⟨by first | rfl | (simp [*] <;> rfl), by repeat (first | exact HB.out | apply below_alloc | apply pw_below_drewN | apply below_drew1)⟩
         ·
          replace c45 := Bool.eq_false_iff.mpr c45
          subst c45
          rw [if_neg (show ¬ (false = true) by decide)] at H
          replace H := Option.bind_eq_some_iff.mp H
          obtain ⟨t121, A470, H⟩ := H
          replace H : (if t121 = true then ((addr_Type.f 35061).bind fun t122 => (if t122 = true then ((addr_Type.f 35062).bind fun t123 => (if t123 = true then ((addr_Type.f 2048).bind fun t124 => (some t124)) else (some false))) else (some false))) else (some false)) = some r := H
          have A47 := Aside0.mk A470
          clear A470
          by_cases c48 : t121 = true
          ·
           subst c48
           rw [if_pos rfl] at H
           replace H := Option.bind_eq_some_iff.mp H
           obtain ⟨t122, A490, H⟩ := H
           replace H : (if t122 = true then ((addr_Type.f 35062).bind fun t123 => (if t123 = true then ((addr_Type.f 2048).bind fun t124 => (some t124)) else (some false))) else (some false)) = some r := H
           have A49 := Aside0.mk A490
           clear A490
           by_cases c50 : t122 = true
           ·
            subst c50
            rw [if_pos rfl] at H
            replace H := Option.bind_eq_some_iff.mp H
            obtain ⟨t123, A510, H⟩ := H
            replace H : (if t123 = true then ((addr_Type.f 2048).bind fun t124 => (some t124)) else (some false)) = some r := H
            have A51 := Aside0.mk A510
            clear A510
            by_cases c52 : t123 = true
            ·
             subst c52
             rw [if_pos rfl] at H
             replace H := Option.bind_eq_some_iff.mp H
             obtain ⟨t124, A530, H⟩ := H
             replace H : (some t124) = some r := H
             have A53 := Aside0.mk A530
             clear A530
             obtain rfl := Option.some.inj H
             go_enter Try.func5, Try.ntmps5
             go_wp2_with (first | ((with_reducible refine gate_callee (f := 8) rfl ?_); refine goesL_ (some 3) rfl rfl Try.func8 (by kernel_rfl) rfl #[] rfl (by (try simp only [List.map_toArray, List.map_cons, List.map_nil]); first | done | rfl | (simp only [List.length_drop, List.length_take]; rfl)) ?_; (with_reducible refine (kissgatelaw02_alive.calls  true _ A2.out).mono ?_); rintro e w54 ⟨rfl, hb⟩; refine ⟨_, rfl, ?_⟩; have n0_ := Aside0.mk (below_step (by repeat (first | (with_reducible first | exact HB.out | apply below_alloc | apply pw_below_drewN | apply below_drew1) | exact HB.out)) hb); clear HB; have HB := n0_; clear n0_; (try clear hb); (try clear hb2); (try clear hk); (try clear hi)) | ((with_reducible refine gate_callee (f := 16) rfl ?_); refine goesL_ (some 6) rfl rfl Try.func16 (by kernel_rfl) rfl #[.int .i64 a0] rfl (by (try simp only [List.map_toArray, List.map_cons, List.map_nil]); first | done | rfl | (simp only [List.length_drop, List.length_take]; rfl)) ?_; (with_reducible refine (addr_Vid.calls a0 t106 _ A4.out).mono ?_); rintro e w' ⟨rfl, ⟨nd, rfl⟩⟩; refine ⟨_, rfl, ?_⟩) | (go_at_call 17; (with_reducible refine (addr_Type.calls a0 t107 _ A7.out).mono ?_); rintro e w' ⟨rfl, ⟨nd, rfl⟩⟩) | (go_at_call 18; (with_reducible refine (addr_Length.calls a0 t108 _ A10.out).mono ?_); rintro e w' ⟨rfl, ⟨nd, rfl⟩⟩) | (go_at_call 17; (with_reducible refine (addr_Type.calls a0 true _ A42.out).mono ?_); rintro e w' ⟨rfl, ⟨nd, rfl⟩⟩) | (go_at_call 18; (with_reducible refine (addr_Length.calls a0 false _ A44.out).mono ?_); rintro e w' ⟨rfl, ⟨nd, rfl⟩⟩) | (go_at_call 17; (with_reducible refine (addr_Type.calls 33024 true _ A47.out).mono ?_); rintro e w' ⟨rfl, ⟨nd, rfl⟩⟩) | (go_at_call 17; (with_reducible refine (addr_Type.calls 35061 true _ A49.out).mono ?_); rintro e w' ⟨rfl, ⟨nd, rfl⟩⟩) | (go_at_call 17; (with_reducible refine (addr_Type.calls 35062 true _ A51.out).mono ?_); rintro e w' ⟨rfl, ⟨nd, rfl⟩⟩) | (go_at_call 17; (with_reducible refine (addr_Type.calls 2048 t124 _ A53.out).mono ?_); rintro e w' ⟨rfl, ⟨nd, rfl⟩⟩))
             go_ret
             exact ⟨by first | rfl | (simp [*] <;> rfl), by repeat (first | exact HB.out | apply below_alloc | apply pw_below_drewN | apply below_drew1)⟩
            ·
             replace c52 := Bool.eq_false_iff.mpr c52
             subst c52
             rw [if_neg (show ¬ (false = true) by decide)] at H
             obtain rfl := Option.some.inj H
             go_enter Try.func5, Try.ntmps5
             go_wp2_with (first | ((with_reducible refine gate_callee (f := 8) rfl ?_); refine goesL_ (some 3) rfl rfl Try.func8 (by kernel_rfl) rfl #[] rfl (by (try simp only [List.map_toArray, List.map_cons, List.map_nil]); first | done | rfl | (simp only [List.length_drop, List.length_take]; rfl)) ?_; (with_reducible refine (kissgatelaw02_alive.calls  true _ A2.out).mono ?_); rintro e w55 ⟨rfl, hb⟩; refine ⟨_, rfl, ?_⟩; have n0_ := Aside0.mk (below_step (by repeat (first | (with_reducible first | exact HB.out | apply below_alloc | apply pw_below_drewN | apply below_drew1) | exact HB.out)) hb); clear HB; have HB := n0_; clear n0_; (try clear hb); (try clear hb2); (try clear hk); (try clear hi)) | ((with_reducible refine gate_callee (f := 16) rfl ?_); refine goesL_ (some 6) rfl rfl Try.func16 (by kernel_rfl) rfl #[.int .i64 a0] rfl (by (try simp only [List.map_toArray, List.map_cons, List.map_nil]); first | done | rfl | (simp only [List.length_drop, List.length_take]; rfl)) ?_; (with_reducible refine (addr_Vid.calls a0 t106 _ A4.out).mono ?_); rintro e w' ⟨rfl, ⟨nd, rfl⟩⟩; refine ⟨_, rfl, ?_⟩) | (go_at_call 17; (with_reducible refine (addr_Type.calls a0 t107 _ A7.out).mono ?_); rintro e w' ⟨rfl, ⟨nd, rfl⟩⟩) | (go_at_call 18; (with_reducible refine (addr_Length.calls a0 t108 _ A10.out).mono ?_); rintro e w' ⟨rfl, ⟨nd, rfl⟩⟩) | (go_at_call 17; (with_reducible refine (addr_Type.calls a0 true _ A42.out).mono ?_); rintro e w' ⟨rfl, ⟨nd, rfl⟩⟩) | (go_at_call 18; (with_reducible refine (addr_Length.calls a0 false _ A44.out).mono ?_); rintro e w' ⟨rfl, ⟨nd, rfl⟩⟩) | (go_at_call 17; (with_reducible refine (addr_Type.calls 33024 true _ A47.out).mono ?_); rintro e w' ⟨rfl, ⟨nd, rfl⟩⟩) | (go_at_call 17; (with_reducible refine (addr_Type.calls 35061 true _ A49.out).mono ?_); rintro e w' ⟨rfl, ⟨nd, rfl⟩⟩) | (go_at_call 17; (with_reducible refine (addr_Type.calls 35062 false _ A51.out).mono ?_); rintro e w' ⟨rfl, ⟨nd, rfl⟩⟩))
             go_ret
             exact ⟨by first | rfl | (simp [*] <;> rfl), by repeat (first | exact HB.out | apply below_alloc | apply pw_below_drewN | apply below_drew1)⟩
           ·
            replace c50 := Bool.eq_false_iff.mpr c50
            subst c50
            rw [if_neg (show ¬ (false = true) by decide)] at H
            obtain rfl := Option.some.inj H
            go_enter Try.func5, Try.ntmps5
            go_wp2_with (first | ((with_reducible refine gate_callee (f := 8) rfl ?_); refine goesL_ (some 3) rfl rfl Try.func8 (by kernel_rfl) rfl #[] rfl (by (try simp only [List.map_toArray, List.map_cons, List.map_nil]); first | done | rfl | (simp only [List.length_drop, List.length_take]; rfl)) ?_; (with_reducible refine (kissgatelaw02_alive.calls  true _ A2.out).mono ?_); rintro e w56 ⟨rfl, hb⟩; refine ⟨_, rfl, ?_⟩; have n0_ := Aside0.mk (below_step (by repeat (first | (with_reducible first | exact HB.out | apply below_alloc | apply pw_below_drewN | apply below_drew1) | exact HB.out)) hb); clear HB; have HB := n0_; clear n0_; (try clear hb); (try clear hb2); (try clear hk); (try clear hi)) | ((with_reducible refine gate_callee (f := 16) rfl ?_); refine goesL_ (some 6) rfl rfl Try.func16 (by kernel_rfl) rfl #[.int .i64 a0] rfl (by (try simp only [List.map_toArray, List.map_cons, List.map_nil]); first | done | rfl | (simp only [List.length_drop, List.length_take]; rfl)) ?_; (with_reducible refine (addr_Vid.calls a0 t106 _ A4.out).mono ?_); rintro e w' ⟨rfl, ⟨nd, rfl⟩⟩; refine ⟨_, rfl, ?_⟩) | (go_at_call 17; (with_reducible refine (addr_Type.calls a0 t107 _ A7.out).mono ?_); rintro e w' ⟨rfl, ⟨nd, rfl⟩⟩) | (go_at_call 18; (with_reducible refine (addr_Length.calls a0 t108 _ A10.out).mono ?_); rintro e w' ⟨rfl, ⟨nd, rfl⟩⟩) | (go_at_call 17; (with_reducible refine (addr_Type.calls a0 true _ A42.out).mono ?_); rintro e w' ⟨rfl, ⟨nd, rfl⟩⟩) | (go_at_call 18; (with_reducible refine (addr_Length.calls a0 false _ A44.out).mono ?_); rintro e w' ⟨rfl, ⟨nd, rfl⟩⟩) | (go_at_call 17; (with_reducible refine (addr_Type.calls 33024 true _ A47.out).mono ?_); rintro e w' ⟨rfl, ⟨nd, rfl⟩⟩) | (go_at_call 17; (with_reducible refine (addr_Type.calls 35061 false _ A49.out).mono ?_); rintro e w' ⟨rfl, ⟨nd, rfl⟩⟩))
            go_ret
            exact ⟨by first | rfl | (simp [*] <;> rfl), by repeat (first | exact HB.out | apply below_alloc | apply pw_below_drewN | apply below_drew1)⟩
          ·
           replace c48 := Bool.eq_false_iff.mpr c48
           subst c48
           rw [if_neg (show ¬ (false = true) by decide)] at H
           obtain rfl := Option.some.inj H
           go_enter Try.func5, Try.ntmps5
           go_wp2_with (first | ((with_reducible refine gate_callee (f := 8) rfl ?_); refine goesL_ (some 3) rfl rfl Try.func8 (by kernel_rfl) rfl #[] rfl (by (try simp only [List.map_toArray, List.map_cons, List.map_nil]); first | done | rfl | (simp only [List.length_drop, List.length_take]; rfl)) ?_; (with_reducible refine (kissgatelaw02_alive.calls  true _ A2.out).mono ?_); rintro e w57 ⟨rfl, hb⟩; refine ⟨_, rfl, ?_⟩; have n0_ := Aside0.mk (below_step (by repeat (first | (with_reducible first | exact HB.out | apply below_alloc | apply pw_below_drewN | apply below_drew1) | exact HB.out)) hb); clear HB; have HB := n0_; clear n0_; (try clear hb); (try clear hb2); (try clear hk); (try clear hi)) | ((with_reducible refine gate_callee (f := 16) rfl ?_); refine goesL_ (some 6) rfl rfl Try.func16 (by kernel_rfl) rfl #[.int .i64 a0] rfl (by (try simp only [List.map_toArray, List.map_cons, List.map_nil]); first | done | rfl | (simp only [List.length_drop, List.length_take]; rfl)) ?_; (with_reducible refine (addr_Vid.calls a0 t106 _ A4.out).mono ?_); rintro e w' ⟨rfl, ⟨nd, rfl⟩⟩; refine ⟨_, rfl, ?_⟩) | (go_at_call 17; (with_reducible refine (addr_Type.calls a0 t107 _ A7.out).mono ?_); rintro e w' ⟨rfl, ⟨nd, rfl⟩⟩) | (go_at_call 18; (with_reducible refine (addr_Length.calls a0 t108 _ A10.out).mono ?_); rintro e w' ⟨rfl, ⟨nd, rfl⟩⟩) | (go_at_call 17; (with_reducible refine (addr_Type.calls a0 true _ A42.out).mono ?_); rintro e w' ⟨rfl, ⟨nd, rfl⟩⟩) | (go_at_call 18; (with_reducible refine (addr_Length.calls a0 false _ A44.out).mono ?_); rintro e w' ⟨rfl, ⟨nd, rfl⟩⟩) | (go_at_call 17; (with_reducible refine (addr_Type.calls 33024 false _ A47.out).mono ?_); rintro e w' ⟨rfl, ⟨nd, rfl⟩⟩))
           go_ret
           exact ⟨by first | rfl | (simp [*] <;> rfl), by repeat (first | exact HB.out | apply below_alloc | apply pw_below_drewN | apply below_drew1)⟩
        ·
         replace c43 := Bool.eq_false_iff.mpr c43
         subst c43
         rw [if_neg (show ¬ (false = true) by decide)] at H
         replace H := Option.bind_eq_some_iff.mp H
         obtain ⟨t125, A580, H⟩ := H
         replace H : (if t125 = true then ((addr_Type.f 35061).bind fun t126 => (if t126 = true then ((addr_Type.f 35062).bind fun t127 => (if t127 = true then ((addr_Type.f 2048).bind fun t128 => (some t128)) else (some false))) else (some false))) else (some false)) = some r := H
         have A58 := Aside0.mk A580
         clear A580
         by_cases c59 : t125 = true
         ·
          subst c59
          rw [if_pos rfl] at H
          replace H := Option.bind_eq_some_iff.mp H
          obtain ⟨t126, A600, H⟩ := H
          replace H : (if t126 = true then ((addr_Type.f 35062).bind fun t127 => (if t127 = true then ((addr_Type.f 2048).bind fun t128 => (some t128)) else (some false))) else (some false)) = some r := H
          have A60 := Aside0.mk A600
          clear A600
          by_cases c61 : t126 = true
          ·
           subst c61
           rw [if_pos rfl] at H
           replace H := Option.bind_eq_some_iff.mp H
           obtain ⟨t127, A620, H⟩ := H
           replace H : (if t127 = true then ((addr_Type.f 2048).bind fun t128 => (some t128)) else (some false)) = some r := H
           have A62 := Aside0.mk A620
           clear A620
           by_cases c63 : t127 = true
           ·
            subst c63
            rw [if_pos rfl] at H
            replace H := Option.bind_eq_some_iff.mp H
            obtain ⟨t128, A640, H⟩ := H
            replace H : (some t128) = some r := H
            have A64 := Aside0.mk A640
            clear A640
            obtain rfl := Option.some.inj H
            go_enter Try.func5, Try.ntmps5
            go_wp2_with (first | ((with_reducible refine gate_callee (f := 8) rfl ?_); refine goesL_ (some 3) rfl rfl Try.func8 (by kernel_rfl) rfl #[] rfl (by (try simp only [List.map_toArray, List.map_cons, List.map_nil]); first | done | rfl | (simp only [List.length_drop, List.length_take]; rfl)) ?_; (with_reducible refine (kissgatelaw02_alive.calls  true _ A2.out).mono ?_); rintro e w65 ⟨rfl, hb⟩; refine ⟨_, rfl, ?_⟩; have n0_ := Aside0.mk (below_step (by repeat (first | (with_reducible first | exact HB.out | apply below_alloc | apply pw_below_drewN | apply below_drew1) | exact HB.out)) hb); clear HB; have HB := n0_; clear n0_; (try clear hb); (try clear hb2); (try clear hk); (try clear hi)) | ((with_reducible refine gate_callee (f := 16) rfl ?_); refine goesL_ (some 6) rfl rfl Try.func16 (by kernel_rfl) rfl #[.int .i64 a0] rfl (by (try simp only [List.map_toArray, List.map_cons, List.map_nil]); first | done | rfl | (simp only [List.length_drop, List.length_take]; rfl)) ?_; (with_reducible refine (addr_Vid.calls a0 t106 _ A4.out).mono ?_); rintro e w' ⟨rfl, ⟨nd, rfl⟩⟩; refine ⟨_, rfl, ?_⟩) | (go_at_call 17; (with_reducible refine (addr_Type.calls a0 t107 _ A7.out).mono ?_); rintro e w' ⟨rfl, ⟨nd, rfl⟩⟩) | (go_at_call 18; (with_reducible refine (addr_Length.calls a0 t108 _ A10.out).mono ?_); rintro e w' ⟨rfl, ⟨nd, rfl⟩⟩) | (go_at_call 17; (with_reducible refine (addr_Type.calls a0 false _ A42.out).mono ?_); rintro e w' ⟨rfl, ⟨nd, rfl⟩⟩) | (go_at_call 17; (with_reducible refine (addr_Type.calls 33024 true _ A58.out).mono ?_); rintro e w' ⟨rfl, ⟨nd, rfl⟩⟩) | (go_at_call 17; (with_reducible refine (addr_Type.calls 35061 true _ A60.out).mono ?_); rintro e w' ⟨rfl, ⟨nd, rfl⟩⟩) | (go_at_call 17; (with_reducible refine (addr_Type.calls 35062 true _ A62.out).mono ?_); rintro e w' ⟨rfl, ⟨nd, rfl⟩⟩) | (go_at_call 17; (with_reducible refine (addr_Type.calls 2048 t128 _ A64.out).mono ?_); rintro e w' ⟨rfl, ⟨nd, rfl⟩⟩))
            go_ret
            exact ⟨by first | rfl | (simp [*] <;> rfl), by repeat (first | exact HB.out | apply below_alloc | apply pw_below_drewN | apply below_drew1)⟩
           ·
            replace c63 := Bool.eq_false_iff.mpr c63
            subst c63
            rw [if_neg (show ¬ (false = true) by decide)] at H
            obtain rfl := Option.some.inj H
            go_enter Try.func5, Try.ntmps5
            go_wp2_with (first | ((with_reducible refine gate_callee (f := 8) rfl ?_); refine goesL_ (some 3) rfl rfl Try.func8 (by kernel_rfl) rfl #[] rfl (by (try simp only [List.map_toArray, List.map_cons, List.map_nil]); first | done | rfl | (simp only [List.length_drop, List.length_take]; rfl)) ?_; (with_reducible refine (kissgatelaw02_alive.calls  true _ A2.out).mono ?_); rintro e w66 ⟨rfl, hb⟩; refine ⟨_, rfl, ?_⟩; have n0_ := Aside0.mk (below_step (by repeat (first | (with_reducible first | exact HB.out | apply below_alloc | apply pw_below_drewN | apply below_drew1) | exact HB.out)) hb); clear HB; have HB := n0_; clear n0_; (try clear hb); (try clear hb2); (try clear hk); (try clear hi)) | ((with_reducible refine gate_callee (f := 16) rfl ?_); refine goesL_ (some 6) rfl rfl Try.func16 (by kernel_rfl) rfl #[.int .i64 a0] rfl (by (try simp only [List.map_toArray, List.map_cons, List.map_nil]); first | done | rfl | (simp only [List.length_drop, List.length_take]; rfl)) ?_; (with_reducible refine (addr_Vid.calls a0 t106 _ A4.out).mono ?_); rintro e w' ⟨rfl, ⟨nd, rfl⟩⟩; refine ⟨_, rfl, ?_⟩) | (go_at_call 17; (with_reducible refine (addr_Type.calls a0 t107 _ A7.out).mono ?_); rintro e w' ⟨rfl, ⟨nd, rfl⟩⟩) | (go_at_call 18; (with_reducible refine (addr_Length.calls a0 t108 _ A10.out).mono ?_); rintro e w' ⟨rfl, ⟨nd, rfl⟩⟩) | (go_at_call 17; (with_reducible refine (addr_Type.calls a0 false _ A42.out).mono ?_); rintro e w' ⟨rfl, ⟨nd, rfl⟩⟩) | (go_at_call 17; (with_reducible refine (addr_Type.calls 33024 true _ A58.out).mono ?_); rintro e w' ⟨rfl, ⟨nd, rfl⟩⟩) | (go_at_call 17; (with_reducible refine (addr_Type.calls 35061 true _ A60.out).mono ?_); rintro e w' ⟨rfl, ⟨nd, rfl⟩⟩) | (go_at_call 17; (with_reducible refine (addr_Type.calls 35062 false _ A62.out).mono ?_); rintro e w' ⟨rfl, ⟨nd, rfl⟩⟩))
            go_ret
            exact ⟨by first | rfl | (simp [*] <;> rfl), by repeat (first | exact HB.out | apply below_alloc | apply pw_below_drewN | apply below_drew1)⟩
          ·
           replace c61 := Bool.eq_false_iff.mpr c61
           subst c61
           rw [if_neg (show ¬ (false = true) by decide)] at H
           obtain rfl := Option.some.inj H
           go_enter Try.func5, Try.ntmps5
           go_wp2_with (first | ((with_reducible refine gate_callee (f := 8) rfl ?_); refine goesL_ (some 3) rfl rfl Try.func8 (by kernel_rfl) rfl #[] rfl (by (try simp only [List.map_toArray, List.map_cons, List.map_nil]); first | done | rfl | (simp only [List.length_drop, List.length_take]; rfl)) ?_; (with_reducible refine (kissgatelaw02_alive.calls  true _ A2.out).mono ?_); rintro e w67 ⟨rfl, hb⟩; refine ⟨_, rfl, ?_⟩; have n0_ := Aside0.mk (below_step (by repeat (first | (with_reducible first | exact HB.out | apply below_alloc | apply pw_below_drewN | apply below_drew1) | exact HB.out)) hb); clear HB; have HB := n0_; clear n0_; (try clear hb); (try clear hb2); (try clear hk); (try clear hi)) | ((with_reducible refine gate_callee (f := 16) rfl ?_); refine goesL_ (some 6) rfl rfl Try.func16 (by kernel_rfl) rfl #[.int .i64 a0] rfl (by (try simp only [List.map_toArray, List.map_cons, List.map_nil]); first | done | rfl | (simp only [List.length_drop, List.length_take]; rfl)) ?_; (with_reducible refine (addr_Vid.calls a0 t106 _ A4.out).mono ?_); rintro e w' ⟨rfl, ⟨nd, rfl⟩⟩; refine ⟨_, rfl, ?_⟩) | (go_at_call 17; (with_reducible refine (addr_Type.calls a0 t107 _ A7.out).mono ?_); rintro e w' ⟨rfl, ⟨nd, rfl⟩⟩) | (go_at_call 18; (with_reducible refine (addr_Length.calls a0 t108 _ A10.out).mono ?_); rintro e w' ⟨rfl, ⟨nd, rfl⟩⟩) | (go_at_call 17; (with_reducible refine (addr_Type.calls a0 false _ A42.out).mono ?_); rintro e w' ⟨rfl, ⟨nd, rfl⟩⟩) | (go_at_call 17; (with_reducible refine (addr_Type.calls 33024 true _ A58.out).mono ?_); rintro e w' ⟨rfl, ⟨nd, rfl⟩⟩) | (go_at_call 17; (with_reducible refine (addr_Type.calls 35061 false _ A60.out).mono ?_); rintro e w' ⟨rfl, ⟨nd, rfl⟩⟩))
           go_ret
           exact ⟨by first | rfl | (simp [*] <;> rfl), by repeat (first | exact HB.out | apply below_alloc | apply pw_below_drewN | apply below_drew1)⟩
         ·
          replace c59 := Bool.eq_false_iff.mpr c59
          subst c59
          rw [if_neg (show ¬ (false = true) by decide)] at H
          obtain rfl := Option.some.inj H
          go_enter Try.func5, Try.ntmps5
          go_wp2_with (first | ((with_reducible refine gate_callee (f := 8) rfl ?_); refine goesL_ (some 3) rfl rfl Try.func8 (by kernel_rfl) rfl #[] rfl (by (try simp only [List.map_toArray, List.map_cons, List.map_nil]); first | done | rfl | (simp only [List.length_drop, List.length_take]; rfl)) ?_; (with_reducible refine (kissgatelaw02_alive.calls  true _ A2.out).mono ?_); rintro e w68 ⟨rfl, hb⟩; refine ⟨_, rfl, ?_⟩; have n0_ := Aside0.mk (below_step (by repeat (first | (with_reducible first | exact HB.out | apply below_alloc | apply pw_below_drewN | apply below_drew1) | exact HB.out)) hb); clear HB; have HB := n0_; clear n0_; (try clear hb); (try clear hb2); (try clear hk); (try clear hi)) | ((with_reducible refine gate_callee (f := 16) rfl ?_); refine goesL_ (some 6) rfl rfl Try.func16 (by kernel_rfl) rfl #[.int .i64 a0] rfl (by (try simp only [List.map_toArray, List.map_cons, List.map_nil]); first | done | rfl | (simp only [List.length_drop, List.length_take]; rfl)) ?_; (with_reducible refine (addr_Vid.calls a0 t106 _ A4.out).mono ?_); rintro e w' ⟨rfl, ⟨nd, rfl⟩⟩; refine ⟨_, rfl, ?_⟩) | (go_at_call 17; (with_reducible refine (addr_Type.calls a0 t107 _ A7.out).mono ?_); rintro e w' ⟨rfl, ⟨nd, rfl⟩⟩) | (go_at_call 18; (with_reducible refine (addr_Length.calls a0 t108 _ A10.out).mono ?_); rintro e w' ⟨rfl, ⟨nd, rfl⟩⟩) | (go_at_call 17; (with_reducible refine (addr_Type.calls a0 false _ A42.out).mono ?_); rintro e w' ⟨rfl, ⟨nd, rfl⟩⟩) | (go_at_call 17; (with_reducible refine (addr_Type.calls 33024 false _ A58.out).mono ?_); rintro e w' ⟨rfl, ⟨nd, rfl⟩⟩))
          go_ret
          exact ⟨by first | rfl | (simp [*] <;> rfl), by repeat (first | exact HB.out | apply below_alloc | apply pw_below_drewN | apply below_drew1)⟩
       ·
        rw [if_neg c41] at H
        have c41b0 : (t108 == false) = false := by simpa using c41
        (try (have c41b1 : decide (t108 = false) = false := by simpa using c41))
        (try (have c41b2 : (t108 == false) = false := by simpa using c41))
        (try (have c41b3 : ¬ (t108 = false) := by simpa using c41))
        clear c41
        obtain rfl := Option.some.inj H
        go_enter Try.func5, Try.ntmps5
        go_wp2_with (first | ((with_reducible refine gate_callee (f := 8) rfl ?_); refine goesL_ (some 3) rfl rfl Try.func8 (by kernel_rfl) rfl #[] rfl (by (try simp only [List.map_toArray, List.map_cons, List.map_nil]); first | done | rfl | (simp only [List.length_drop, List.length_take]; rfl)) ?_; (with_reducible refine (kissgatelaw02_alive.calls  true _ A2.out).mono ?_); rintro e w69 ⟨rfl, hb⟩; refine ⟨_, rfl, ?_⟩; have n0_ := Aside0.mk (below_step (by repeat (first | (with_reducible first | exact HB.out | apply below_alloc | apply pw_below_drewN | apply below_drew1) | exact HB.out)) hb); clear HB; have HB := n0_; clear n0_; (try clear hb); (try clear hb2); (try clear hk); (try clear hi)) | ((with_reducible refine gate_callee (f := 16) rfl ?_); refine goesL_ (some 6) rfl rfl Try.func16 (by kernel_rfl) rfl #[.int .i64 a0] rfl (by (try simp only [List.map_toArray, List.map_cons, List.map_nil]); first | done | rfl | (simp only [List.length_drop, List.length_take]; rfl)) ?_; (with_reducible refine (addr_Vid.calls a0 t106 _ A4.out).mono ?_); rintro e w' ⟨rfl, ⟨nd, rfl⟩⟩; refine ⟨_, rfl, ?_⟩) | (go_at_call 17; (with_reducible refine (addr_Type.calls a0 t107 _ A7.out).mono ?_); rintro e w' ⟨rfl, ⟨nd, rfl⟩⟩) | (go_at_call 18; (with_reducible refine (addr_Length.calls a0 t108 _ A10.out).mono ?_); rintro e w' ⟨rfl, ⟨nd, rfl⟩⟩))
        go_ret
        exact ⟨by first | rfl | (simp [*] <;> rfl), by repeat (first | exact HB.out | apply below_alloc | apply pw_below_drewN | apply below_drew1)⟩
     ·
      rw [if_neg c9] at H
      have c9b0 : (t107 == (decide (a0 < 65536))) = false := by simpa using c9
      (try (have c9b1 : decide (t107 = (decide (a0 < 65536))) = false := by simpa using c9))
      (try (have c9b2 : (t107 == (decide (a0 < 65536))) = false := by simpa using c9))
      (try (have c9b3 : ¬ (t107 = (decide (a0 < 65536))) := by simpa using c9))
      clear c9
      obtain rfl := Option.some.inj H
      go_enter Try.func5, Try.ntmps5
      go_wp2_with (first | ((with_reducible refine gate_callee (f := 8) rfl ?_); refine goesL_ (some 3) rfl rfl Try.func8 (by kernel_rfl) rfl #[] rfl (by (try simp only [List.map_toArray, List.map_cons, List.map_nil]); first | done | rfl | (simp only [List.length_drop, List.length_take]; rfl)) ?_; (with_reducible refine (kissgatelaw02_alive.calls  true _ A2.out).mono ?_); rintro e w70 ⟨rfl, hb⟩; refine ⟨_, rfl, ?_⟩; have n0_ := Aside0.mk (below_step (by repeat (first | (with_reducible first | exact HB.out | apply below_alloc | apply pw_below_drewN | apply below_drew1) | exact HB.out)) hb); clear HB; have HB := n0_; clear n0_; (try clear hb); (try clear hb2); (try clear hk); (try clear hi)) | ((with_reducible refine gate_callee (f := 16) rfl ?_); refine goesL_ (some 6) rfl rfl Try.func16 (by kernel_rfl) rfl #[.int .i64 a0] rfl (by (try simp only [List.map_toArray, List.map_cons, List.map_nil]); first | done | rfl | (simp only [List.length_drop, List.length_take]; rfl)) ?_; (with_reducible refine (addr_Vid.calls a0 t106 _ A4.out).mono ?_); rintro e w' ⟨rfl, ⟨nd, rfl⟩⟩; refine ⟨_, rfl, ?_⟩) | (go_at_call 17; (with_reducible refine (addr_Type.calls a0 t107 _ A7.out).mono ?_); rintro e w' ⟨rfl, ⟨nd, rfl⟩⟩))
      go_ret
      exact ⟨by first | rfl | (simp [*] <;> rfl), by repeat (first | exact HB.out | apply below_alloc | apply pw_below_drewN | apply below_drew1)⟩
    ·
     rw [if_neg c8] at H
     have c8b0 : decide (1535 < a0) = false := decide_eq_false c8
     clear c8
     by_cases c71 : (t107 == false) = true
     ·
      rw [if_pos c71] at H
      have c71b0 : (t107 == false) = true := c71
      (try (have c71b1 : decide (t107 = false) = true := by simpa using c71))
      (try (have c71b2 : (t107 == false) = true := by simpa using c71))
      clear c71
      replace H := Option.bind_eq_some_iff.mp H
      obtain ⟨t129, A720, H⟩ := H
      replace H : (if a0 > (-1) then (if (t129 == (decide (a0 < 1501))) = true then ((addr_Type.f a0).bind fun t130 => (if t130 = true then ((addr_Length.f a0).bind fun t131 => (if t131 = true then (some false) else ((addr_Type.f 33024).bind fun t132 => (if t132 = true then ((addr_Type.f 35061).bind fun t133 => (if t133 = true then ((addr_Type.f 35062).bind fun t134 => (if t134 = true then ((addr_Type.f 2048).bind fun t135 => (some t135)) else (some false))) else (some false))) else (some false))))) else ((addr_Type.f 33024).bind fun t136 => (if t136 = true then ((addr_Type.f 35061).bind fun t137 => (if t137 = true then ((addr_Type.f 35062).bind fun t138 => (if t138 = true then ((addr_Type.f 2048).bind fun t139 => (some t139)) else (some false))) else (some false))) else (some false))))) else (some false)) else (if (t129 == false) = true then ((addr_Type.f a0).bind fun t140 => (if t140 = true then ((addr_Length.f a0).bind fun t141 => (if t141 = true then (some false) else ((addr_Type.f 33024).bind fun t142 => (if t142 = true then ((addr_Type.f 35061).bind fun t143 => (if t143 = true then ((addr_Type.f 35062).bind fun t144 => (if t144 = true then ((addr_Type.f 2048).bind fun t145 => (some t145)) else (some false))) else (some false))) else (some false))))) else ((addr_Type.f 33024).bind fun t146 => (if t146 = true then ((addr_Type.f 35061).bind fun t147 => (if t147 = true then ((addr_Type.f 35062).bind fun t148 => (if t148 = true then ((addr_Type.f 2048).bind fun t149 => (some t149)) else (some false))) else (some false))) else (some false))))) else (some false))) = some r := H
      have A72 := Aside0.mk A720
      clear A720
      by_cases c73 : a0 > (-1)
      ·
       rw [if_pos c73] at H
       have c73b0 : decide ((-1) < a0) = true := decide_eq_true c73
       clear c73
       by_cases c74 : (t129 == (decide (a0 < 1501))) = true
       ·
        rw [if_pos c74] at H
        have c74b0 : (t129 == (decide (a0 < 1501))) = true := c74
        (try (have c74b1 : decide (t129 = (decide (a0 < 1501))) = true := by simpa using c74))
        (try (have c74b2 : (t129 == (decide (a0 < 1501))) = true := by simpa using c74))
        clear c74
        replace H := Option.bind_eq_some_iff.mp H
        obtain ⟨t130, A750, H⟩ := H
        try ((with_reducible have e_ := Option.some.inj (A750.symm.trans A7.out)); subst e_)
        replace H : (if t130 = true then ((addr_Length.f a0).bind fun t131 => (if t131 = true then (some false) else ((addr_Type.f 33024).bind fun t132 => (if t132 = true then ((addr_Type.f 35061).bind fun t133 => (if t133 = true then ((addr_Type.f 35062).bind fun t134 => (if t134 = true then ((addr_Type.f 2048).bind fun t135 => (some t135)) else (some false))) else (some false))) else (some false))))) else ((addr_Type.f 33024).bind fun t136 => (if t136 = true then ((addr_Type.f 35061).bind fun t137 => (if t137 = true then ((addr_Type.f 35062).bind fun t138 => (if t138 = true then ((addr_Type.f 2048).bind fun t139 => (some t139)) else (some false))) else (some false))) else (some false)))) = some r := H
        have A75 := Aside0.mk A750
        clear A750
        by_cases c76 : t130 = true
        ·
         subst c76
         rw [if_pos rfl] at H
         replace H := Option.bind_eq_some_iff.mp H
         obtain ⟨t131, A770, H⟩ := H
         try ((with_reducible have e_ := Option.some.inj (A770.symm.trans A72.out)); subst e_)
         replace H : (if t131 = true then (some false) else ((addr_Type.f 33024).bind fun t132 => (if t132 = true then ((addr_Type.f 35061).bind fun t133 => (if t133 = true then ((addr_Type.f 35062).bind fun t134 => (if t134 = true then ((addr_Type.f 2048).bind fun t135 => (some t135)) else (some false))) else (some false))) else (some false)))) = some r := H
         have A77 := Aside0.mk A770
         clear A770
         by_cases c78 : t131 = true
         ·
          subst c78
          rw [if_pos rfl] at H
          obtain rfl := Option.some.inj H
          go_enter Try.func5, Try.ntmps5
          go_wp2_with (first | ((with_reducible refine gate_callee (f := 8) rfl ?_); refine goesL_ (some 3) rfl rfl Try.func8 (by kernel_rfl) rfl #[] rfl (by (try simp only [List.map_toArray, List.map_cons, List.map_nil]); first | done | rfl | (simp only [List.length_drop, List.length_take]; rfl)) ?_; (with_reducible refine (kissgatelaw02_alive.calls  true _ A2.out).mono ?_); rintro e w79 ⟨rfl, hb⟩; refine ⟨_, rfl, ?_⟩; have n0_ := Aside0.mk (below_step (by repeat (first | (with_reducible first | exact HB.out | apply below_alloc | apply pw_below_drewN | apply below_drew1) | exact HB.out)) hb); clear HB; have HB := n0_; clear n0_; (try clear hb); (try clear hb2); (try clear hk); (try clear hi)) | ((with_reducible refine gate_callee (f := 16) rfl ?_); refine goesL_ (some 6) rfl rfl Try.func16 (by kernel_rfl) rfl #[.int .i64 a0] rfl (by (try simp only [List.map_toArray, List.map_cons, List.map_nil]); first | done | rfl | (simp only [List.length_drop, List.length_take]; rfl)) ?_; (with_reducible refine (addr_Vid.calls a0 t106 _ A4.out).mono ?_); rintro e w' ⟨rfl, ⟨nd, rfl⟩⟩; refine ⟨_, rfl, ?_⟩) | (go_at_call 17; (with_reducible refine (addr_Type.calls a0 t107 _ A7.out).mono ?_); rintro e w' ⟨rfl, ⟨nd, rfl⟩⟩) | (go_at_call 18; (with_reducible refine (addr_Length.calls a0 t129 _ A72.out).mono ?_); rintro e w' ⟨rfl, ⟨nd, rfl⟩⟩) | (go_at_call 17; (with_reducible refine (addr_Type.calls a0 true _ A75.out).mono ?_); rintro e w' ⟨rfl, ⟨nd, rfl⟩⟩) | (go_at_call 18; (with_reducible refine (addr_Length.calls a0 true _ A77.out).mono ?_); rintro e w' ⟨rfl, ⟨nd, rfl⟩⟩))
          go_ret
          exact ⟨by first | rfl | (simp [*] <;> rfl), by repeat (first | exact HB.out | apply below_alloc | apply pw_below_drewN | apply below_drew1)⟩
         ·
          replace c78 := Bool.eq_false_iff.mpr c78
          subst c78
          rw [if_neg (show ¬ (false = true) by decide)] at H
          replace H := Option.bind_eq_some_iff.mp H
          obtain ⟨t132, A800, H⟩ := H
          replace H : (if t132 = true then ((addr_Type.f 35061).bind fun t133 => (if t133 = true then ((addr_Type.f 35062).bind fun t134 => (if t134 = true then ((addr_Type.f 2048).bind fun t135 => (some t135)) else (some false))) else (some false))) else (some false)) = some r := H
          have A80 := Aside0.mk A800
          clear A800
          by_cases c81 : t132 = true
          ·
           subst c81
           rw [if_pos rfl] at H
           replace H := Option.bind_eq_some_iff.mp H
           obtain ⟨t133, A820, H⟩ := H
           replace H : (if t133 = true then ((addr_Type.f 35062).bind fun t134 => (if t134 = true then ((addr_Type.f 2048).bind fun t135 => (some t135)) else (some false))) else (some false)) = some r := H
           have A82 := Aside0.mk A820
           clear A820
           by_cases c83 : t133 = true
           ·
            subst c83
            rw [if_pos rfl] at H
            replace H := Option.bind_eq_some_iff.mp H
            obtain ⟨t134, A840, H⟩ := H
            replace H : (if t134 = true then ((addr_Type.f 2048).bind fun t135 => (some t135)) else (some false)) = some r := H
            have A84 := Aside0.mk A840
            clear A840
            by_cases c85 : t134 = true
            ·
             subst c85
             rw [if_pos rfl] at H
             replace H := Option.bind_eq_some_iff.mp H
             obtain ⟨t135, A860, H⟩ := H
             replace H : (some t135) = some r := H
             have A86 := Aside0.mk A860
             clear A860
             obtain rfl := Option.some.inj H
             go_enter Try.func5, Try.ntmps5
             go_wp2_with (first | ((with_reducible refine gate_callee (f := 8) rfl ?_); refine goesL_ (some 3) rfl rfl Try.func8 (by kernel_rfl) rfl #[] rfl (by (try simp only [List.map_toArray, List.map_cons, List.map_nil]); first | done | rfl | (simp only [List.length_drop, List.length_take]; rfl)) ?_; (with_reducible refine (kissgatelaw02_alive.calls  true _ A2.out).mono ?_); rintro e w87 ⟨rfl, hb⟩; refine ⟨_, rfl, ?_⟩; have n0_ := Aside0.mk (below_step (by repeat (first | (with_reducible first | exact HB.out | apply below_alloc | apply pw_below_drewN | apply below_drew1) | exact HB.out)) hb); clear HB; have HB := n0_; clear n0_; (try clear hb); (try clear hb2); (try clear hk); (try clear hi)) | ((with_reducible refine gate_callee (f := 16) rfl ?_); refine goesL_ (some 6) rfl rfl Try.func16 (by kernel_rfl) rfl #[.int .i64 a0] rfl (by (try simp only [List.map_toArray, List.map_cons, List.map_nil]); first | done | rfl | (simp only [List.length_drop, List.length_take]; rfl)) ?_; (with_reducible refine (addr_Vid.calls a0 t106 _ A4.out).mono ?_); rintro e w' ⟨rfl, ⟨nd, rfl⟩⟩; refine ⟨_, rfl, ?_⟩) | (go_at_call 17; (with_reducible refine (addr_Type.calls a0 t107 _ A7.out).mono ?_); rintro e w' ⟨rfl, ⟨nd, rfl⟩⟩) | (go_at_call 18; (with_reducible refine (addr_Length.calls a0 t129 _ A72.out).mono ?_); rintro e w' ⟨rfl, ⟨nd, rfl⟩⟩) | (go_at_call 17; (with_reducible refine (addr_Type.calls a0 true _ A75.out).mono ?_); rintro e w' ⟨rfl, ⟨nd, rfl⟩⟩) | (go_at_call 18; (with_reducible refine (addr_Length.calls a0 false _ A77.out).mono ?_); rintro e w' ⟨rfl, ⟨nd, rfl⟩⟩) | (go_at_call 17; (with_reducible refine (addr_Type.calls 33024 true _ A80.out).mono ?_); rintro e w' ⟨rfl, ⟨nd, rfl⟩⟩) | (go_at_call 17; (with_reducible refine (addr_Type.calls 35061 true _ A82.out).mono ?_); rintro e w' ⟨rfl, ⟨nd, rfl⟩⟩) | (go_at_call 17; (with_reducible refine (addr_Type.calls 35062 true _ A84.out).mono ?_); rintro e w' ⟨rfl, ⟨nd, rfl⟩⟩) | (go_at_call 17; (with_reducible refine (addr_Type.calls 2048 t135 _ A86.out).mono ?_); rintro e w' ⟨rfl, ⟨nd, rfl⟩⟩))
             go_ret
             exact ⟨by first | rfl | (simp [*] <;> rfl), by repeat (first | exact HB.out | apply below_alloc | apply pw_below_drewN | apply below_drew1)⟩
            ·
             replace c85 := Bool.eq_false_iff.mpr c85
             subst c85
             rw [if_neg (show ¬ (false = true) by decide)] at H
             obtain rfl := Option.some.inj H
             go_enter Try.func5, Try.ntmps5
             go_wp2_with (first | ((with_reducible refine gate_callee (f := 8) rfl ?_); refine goesL_ (some 3) rfl rfl Try.func8 (by kernel_rfl) rfl #[] rfl (by (try simp only [List.map_toArray, List.map_cons, List.map_nil]); first | done | rfl | (simp only [List.length_drop, List.length_take]; rfl)) ?_; (with_reducible refine (kissgatelaw02_alive.calls  true _ A2.out).mono ?_); rintro e w88 ⟨rfl, hb⟩; refine ⟨_, rfl, ?_⟩; have n0_ := Aside0.mk (below_step (by repeat (first | (with_reducible first | exact HB.out | apply below_alloc | apply pw_below_drewN | apply below_drew1) | exact HB.out)) hb); clear HB; have HB := n0_; clear n0_; (try clear hb); (try clear hb2); (try clear hk); (try clear hi)) | ((with_reducible refine gate_callee (f := 16) rfl ?_); refine goesL_ (some 6) rfl rfl Try.func16 (by kernel_rfl) rfl #[.int .i64 a0] rfl (by (try simp only [List.map_toArray, List.map_cons, List.map_nil]); first | done | rfl | (simp only [List.length_drop, List.length_take]; rfl)) ?_; (with_reducible refine (addr_Vid.calls a0 t106 _ A4.out).mono ?_); rintro e w' ⟨rfl, ⟨nd, rfl⟩⟩; refine ⟨_, rfl, ?_⟩) | (go_at_call 17; (with_reducible refine (addr_Type.calls a0 t107 _ A7.out).mono ?_); rintro e w' ⟨rfl, ⟨nd, rfl⟩⟩) | (go_at_call 18; (with_reducible refine (addr_Length.calls a0 t129 _ A72.out).mono ?_); rintro e w' ⟨rfl, ⟨nd, rfl⟩⟩) | (go_at_call 17; (with_reducible refine (addr_Type.calls a0 true _ A75.out).mono ?_); rintro e w' ⟨rfl, ⟨nd, rfl⟩⟩) | (go_at_call 18; (with_reducible refine (addr_Length.calls a0 false _ A77.out).mono ?_); rintro e w' ⟨rfl, ⟨nd, rfl⟩⟩) | (go_at_call 17; (with_reducible refine (addr_Type.calls 33024 true _ A80.out).mono ?_); rintro e w' ⟨rfl, ⟨nd, rfl⟩⟩) | (go_at_call 17; (with_reducible refine (addr_Type.calls 35061 true _ A82.out).mono ?_); rintro e w' ⟨rfl, ⟨nd, rfl⟩⟩) | (go_at_call 17; (with_reducible refine (addr_Type.calls 35062 false _ A84.out).mono ?_); rintro e w' ⟨rfl, ⟨nd, rfl⟩⟩))
             go_ret
             exact ⟨by first | rfl | (simp [*] <;> rfl), by repeat (first | exact HB.out | apply below_alloc | apply pw_below_drewN | apply below_drew1)⟩
           ·
            replace c83 := Bool.eq_false_iff.mpr c83
            subst c83
            rw [if_neg (show ¬ (false = true) by decide)] at H
            obtain rfl := Option.some.inj H
            go_enter Try.func5, Try.ntmps5
            go_wp2_with (first | ((with_reducible refine gate_callee (f := 8) rfl ?_); refine goesL_ (some 3) rfl rfl Try.func8 (by kernel_rfl) rfl #[] rfl (by (try simp only [List.map_toArray, List.map_cons, List.map_nil]); first | done | rfl | (simp only [List.length_drop, List.length_take]; rfl)) ?_; (with_reducible refine (kissgatelaw02_alive.calls  true _ A2.out).mono ?_); rintro e w89 ⟨rfl, hb⟩; refine ⟨_, rfl, ?_⟩; have n0_ := Aside0.mk (below_step (by repeat (first | (with_reducible first | exact HB.out | apply below_alloc | apply pw_below_drewN | apply below_drew1) | exact HB.out)) hb); clear HB; have HB := n0_; clear n0_; (try clear hb); (try clear hb2); (try clear hk); (try clear hi)) | ((with_reducible refine gate_callee (f := 16) rfl ?_); refine goesL_ (some 6) rfl rfl Try.func16 (by kernel_rfl) rfl #[.int .i64 a0] rfl (by (try simp only [List.map_toArray, List.map_cons, List.map_nil]); first | done | rfl | (simp only [List.length_drop, List.length_take]; rfl)) ?_; (with_reducible refine (addr_Vid.calls a0 t106 _ A4.out).mono ?_); rintro e w' ⟨rfl, ⟨nd, rfl⟩⟩; refine ⟨_, rfl, ?_⟩) | (go_at_call 17; (with_reducible refine (addr_Type.calls a0 t107 _ A7.out).mono ?_); rintro e w' ⟨rfl, ⟨nd, rfl⟩⟩) | (go_at_call 18; (with_reducible refine (addr_Length.calls a0 t129 _ A72.out).mono ?_); rintro e w' ⟨rfl, ⟨nd, rfl⟩⟩) | (go_at_call 17; (with_reducible refine (addr_Type.calls a0 true _ A75.out).mono ?_); rintro e w' ⟨rfl, ⟨nd, rfl⟩⟩) | (go_at_call 18; (with_reducible refine (addr_Length.calls a0 false _ A77.out).mono ?_); rintro e w' ⟨rfl, ⟨nd, rfl⟩⟩) | (go_at_call 17; (with_reducible refine (addr_Type.calls 33024 true _ A80.out).mono ?_); rintro e w' ⟨rfl, ⟨nd, rfl⟩⟩) | (go_at_call 17; (with_reducible refine (addr_Type.calls 35061 false _ A82.out).mono ?_); rintro e w' ⟨rfl, ⟨nd, rfl⟩⟩))
            go_ret
            exact ⟨by first | rfl | (simp [*] <;> rfl), by repeat (first | exact HB.out | apply below_alloc | apply pw_below_drewN | apply below_drew1)⟩
          ·
           replace c81 := Bool.eq_false_iff.mpr c81
           subst c81
           rw [if_neg (show ¬ (false = true) by decide)] at H
           obtain rfl := Option.some.inj H
           go_enter Try.func5, Try.ntmps5
           go_wp2_with (first | ((with_reducible refine gate_callee (f := 8) rfl ?_); refine goesL_ (some 3) rfl rfl Try.func8 (by kernel_rfl) rfl #[] rfl (by (try simp only [List.map_toArray, List.map_cons, List.map_nil]); first | done | rfl | (simp only [List.length_drop, List.length_take]; rfl)) ?_; (with_reducible refine (kissgatelaw02_alive.calls  true _ A2.out).mono ?_); rintro e w90 ⟨rfl, hb⟩; refine ⟨_, rfl, ?_⟩; have n0_ := Aside0.mk (below_step (by repeat (first | (with_reducible first | exact HB.out | apply below_alloc | apply pw_below_drewN | apply below_drew1) | exact HB.out)) hb); clear HB; have HB := n0_; clear n0_; (try clear hb); (try clear hb2); (try clear hk); (try clear hi)) | ((with_reducible refine gate_callee (f := 16) rfl ?_); refine goesL_ (some 6) rfl rfl Try.func16 (by kernel_rfl) rfl #[.int .i64 a0] rfl (by (try simp only [List.map_toArray, List.map_cons, List.map_nil]); first | done | rfl | (simp only [List.length_drop, List.length_take]; rfl)) ?_; (with_reducible refine (addr_Vid.calls a0 t106 _ A4.out).mono ?_); rintro e w' ⟨rfl, ⟨nd, rfl⟩⟩; refine ⟨_, rfl, ?_⟩) | (go_at_call 17; (with_reducible refine (addr_Type.calls a0 t107 _ A7.out).mono ?_); rintro e w' ⟨rfl, ⟨nd, rfl⟩⟩) | (go_at_call 18; (with_reducible refine (addr_Length.calls a0 t129 _ A72.out).mono ?_); rintro e w' ⟨rfl, ⟨nd, rfl⟩⟩) | (go_at_call 17; (with_reducible refine (addr_Type.calls a0 true _ A75.out).mono ?_); rintro e w' ⟨rfl, ⟨nd, rfl⟩⟩) | (go_at_call 18; (with_reducible refine (addr_Length.calls a0 false _ A77.out).mono ?_); rintro e w' ⟨rfl, ⟨nd, rfl⟩⟩) | (go_at_call 17; (with_reducible refine (addr_Type.calls 33024 false _ A80.out).mono ?_); rintro e w' ⟨rfl, ⟨nd, rfl⟩⟩))
           go_ret
           exact ⟨by first | rfl | (simp [*] <;> rfl), by repeat (first | exact HB.out | apply below_alloc | apply pw_below_drewN | apply below_drew1)⟩
        ·
         replace c76 := Bool.eq_false_iff.mpr c76
         subst c76
         rw [if_neg (show ¬ (false = true) by decide)] at H
         replace H := Option.bind_eq_some_iff.mp H
         obtain ⟨t136, A910, H⟩ := H
         replace H : (if t136 = true then ((addr_Type.f 35061).bind fun t137 => (if t137 = true then ((addr_Type.f 35062).bind fun t138 => (if t138 = true then ((addr_Type.f 2048).bind fun t139 => (some t139)) else (some false))) else (some false))) else (some false)) = some r := H
         have A91 := Aside0.mk A910
         clear A910
         by_cases c92 : t136 = true
         ·
          subst c92
          rw [if_pos rfl] at H
          replace H := Option.bind_eq_some_iff.mp H
          obtain ⟨t137, A930, H⟩ := H
          replace H : (if t137 = true then ((addr_Type.f 35062).bind fun t138 => (if t138 = true then ((addr_Type.f 2048).bind fun t139 => (some t139)) else (some false))) else (some false)) = some r := H
          have A93 := Aside0.mk A930
          clear A930
          by_cases c94 : t137 = true
          ·
           subst c94
           rw [if_pos rfl] at H
           replace H := Option.bind_eq_some_iff.mp H
           obtain ⟨t138, A950, H⟩ := H
           replace H : (if t138 = true then ((addr_Type.f 2048).bind fun t139 => (some t139)) else (some false)) = some r := H
           have A95 := Aside0.mk A950
           clear A950
           by_cases c96 : t138 = true
           ·
            subst c96
            rw [if_pos rfl] at H
            replace H := Option.bind_eq_some_iff.mp H
            obtain ⟨t139, A970, H⟩ := H
            replace H : (some t139) = some r := H
            have A97 := Aside0.mk A970
            clear A970
            obtain rfl := Option.some.inj H
            go_enter Try.func5, Try.ntmps5
            go_wp2_with (first | ((with_reducible refine gate_callee (f := 8) rfl ?_); refine goesL_ (some 3) rfl rfl Try.func8 (by kernel_rfl) rfl #[] rfl (by (try simp only [List.map_toArray, List.map_cons, List.map_nil]); first | done | rfl | (simp only [List.length_drop, List.length_take]; rfl)) ?_; (with_reducible refine (kissgatelaw02_alive.calls  true _ A2.out).mono ?_); rintro e w98 ⟨rfl, hb⟩; refine ⟨_, rfl, ?_⟩; have n0_ := Aside0.mk (below_step (by repeat (first | (with_reducible first | exact HB.out | apply below_alloc | apply pw_below_drewN | apply below_drew1) | exact HB.out)) hb); clear HB; have HB := n0_; clear n0_; (try clear hb); (try clear hb2); (try clear hk); (try clear hi)) | ((with_reducible refine gate_callee (f := 16) rfl ?_); refine goesL_ (some 6) rfl rfl Try.func16 (by kernel_rfl) rfl #[.int .i64 a0] rfl (by (try simp only [List.map_toArray, List.map_cons, List.map_nil]); first | done | rfl | (simp only [List.length_drop, List.length_take]; rfl)) ?_; (with_reducible refine (addr_Vid.calls a0 t106 _ A4.out).mono ?_); rintro e w' ⟨rfl, ⟨nd, rfl⟩⟩; refine ⟨_, rfl, ?_⟩) | (go_at_call 17; (with_reducible refine (addr_Type.calls a0 t107 _ A7.out).mono ?_); rintro e w' ⟨rfl, ⟨nd, rfl⟩⟩) | (go_at_call 18; (with_reducible refine (addr_Length.calls a0 t129 _ A72.out).mono ?_); rintro e w' ⟨rfl, ⟨nd, rfl⟩⟩) | (go_at_call 17; (with_reducible refine (addr_Type.calls a0 false _ A75.out).mono ?_); rintro e w' ⟨rfl, ⟨nd, rfl⟩⟩) | (go_at_call 17; (with_reducible refine (addr_Type.calls 33024 true _ A91.out).mono ?_); rintro e w' ⟨rfl, ⟨nd, rfl⟩⟩) | (go_at_call 17; (with_reducible refine (addr_Type.calls 35061 true _ A93.out).mono ?_); rintro e w' ⟨rfl, ⟨nd, rfl⟩⟩) | (go_at_call 17; (with_reducible refine (addr_Type.calls 35062 true _ A95.out).mono ?_); rintro e w' ⟨rfl, ⟨nd, rfl⟩⟩) | (go_at_call 17; (with_reducible refine (addr_Type.calls 2048 t139 _ A97.out).mono ?_); rintro e w' ⟨rfl, ⟨nd, rfl⟩⟩))
            go_ret
            exact ⟨by first | rfl | (simp [*] <;> rfl), by repeat (first | exact HB.out | apply below_alloc | apply pw_below_drewN | apply below_drew1)⟩
           ·
            replace c96 := Bool.eq_false_iff.mpr c96
            subst c96
            rw [if_neg (show ¬ (false = true) by decide)] at H
            obtain rfl := Option.some.inj H
            go_enter Try.func5, Try.ntmps5
            go_wp2_with (first | ((with_reducible refine gate_callee (f := 8) rfl ?_); refine goesL_ (some 3) rfl rfl Try.func8 (by kernel_rfl) rfl #[] rfl (by (try simp only [List.map_toArray, List.map_cons, List.map_nil]); first | done | rfl | (simp only [List.length_drop, List.length_take]; rfl)) ?_; (with_reducible refine (kissgatelaw02_alive.calls  true _ A2.out).mono ?_); rintro e w99 ⟨rfl, hb⟩; refine ⟨_, rfl, ?_⟩; have n0_ := Aside0.mk (below_step (by repeat (first | (with_reducible first | exact HB.out | apply below_alloc | apply pw_below_drewN | apply below_drew1) | exact HB.out)) hb); clear HB; have HB := n0_; clear n0_; (try clear hb); (try clear hb2); (try clear hk); (try clear hi)) | ((with_reducible refine gate_callee (f := 16) rfl ?_); refine goesL_ (some 6) rfl rfl Try.func16 (by kernel_rfl) rfl #[.int .i64 a0] rfl (by (try simp only [List.map_toArray, List.map_cons, List.map_nil]); first | done | rfl | (simp only [List.length_drop, List.length_take]; rfl)) ?_; (with_reducible refine (addr_Vid.calls a0 t106 _ A4.out).mono ?_); rintro e w' ⟨rfl, ⟨nd, rfl⟩⟩; refine ⟨_, rfl, ?_⟩) | (go_at_call 17; (with_reducible refine (addr_Type.calls a0 t107 _ A7.out).mono ?_); rintro e w' ⟨rfl, ⟨nd, rfl⟩⟩) | (go_at_call 18; (with_reducible refine (addr_Length.calls a0 t129 _ A72.out).mono ?_); rintro e w' ⟨rfl, ⟨nd, rfl⟩⟩) | (go_at_call 17; (with_reducible refine (addr_Type.calls a0 false _ A75.out).mono ?_); rintro e w' ⟨rfl, ⟨nd, rfl⟩⟩) | (go_at_call 17; (with_reducible refine (addr_Type.calls 33024 true _ A91.out).mono ?_); rintro e w' ⟨rfl, ⟨nd, rfl⟩⟩) | (go_at_call 17; (with_reducible refine (addr_Type.calls 35061 true _ A93.out).mono ?_); rintro e w' ⟨rfl, ⟨nd, rfl⟩⟩) | (go_at_call 17; (with_reducible refine (addr_Type.calls 35062 false _ A95.out).mono ?_); rintro e w' ⟨rfl, ⟨nd, rfl⟩⟩))
            go_ret
            exact ⟨by first | rfl | (simp [*] <;> rfl), by repeat (first | exact HB.out | apply below_alloc | apply pw_below_drewN | apply below_drew1)⟩
          ·
           replace c94 := Bool.eq_false_iff.mpr c94
           subst c94
           rw [if_neg (show ¬ (false = true) by decide)] at H
           obtain rfl := Option.some.inj H
           go_enter Try.func5, Try.ntmps5
           go_wp2_with (first | ((with_reducible refine gate_callee (f := 8) rfl ?_); refine goesL_ (some 3) rfl rfl Try.func8 (by kernel_rfl) rfl #[] rfl (by (try simp only [List.map_toArray, List.map_cons, List.map_nil]); first | done | rfl | (simp only [List.length_drop, List.length_take]; rfl)) ?_; (with_reducible refine (kissgatelaw02_alive.calls  true _ A2.out).mono ?_); rintro e w100 ⟨rfl, hb⟩; refine ⟨_, rfl, ?_⟩; have n0_ := Aside0.mk (below_step (by repeat (first | (with_reducible first | exact HB.out | apply below_alloc | apply pw_below_drewN | apply below_drew1) | exact HB.out)) hb); clear HB; have HB := n0_; clear n0_; (try clear hb); (try clear hb2); (try clear hk); (try clear hi)) | ((with_reducible refine gate_callee (f := 16) rfl ?_); refine goesL_ (some 6) rfl rfl Try.func16 (by kernel_rfl) rfl #[.int .i64 a0] rfl (by (try simp only [List.map_toArray, List.map_cons, List.map_nil]); first | done | rfl | (simp only [List.length_drop, List.length_take]; rfl)) ?_; (with_reducible refine (addr_Vid.calls a0 t106 _ A4.out).mono ?_); rintro e w' ⟨rfl, ⟨nd, rfl⟩⟩; refine ⟨_, rfl, ?_⟩) | (go_at_call 17; (with_reducible refine (addr_Type.calls a0 t107 _ A7.out).mono ?_); rintro e w' ⟨rfl, ⟨nd, rfl⟩⟩) | (go_at_call 18; (with_reducible refine (addr_Length.calls a0 t129 _ A72.out).mono ?_); rintro e w' ⟨rfl, ⟨nd, rfl⟩⟩) | (go_at_call 17; (with_reducible refine (addr_Type.calls a0 false _ A75.out).mono ?_); rintro e w' ⟨rfl, ⟨nd, rfl⟩⟩) | (go_at_call 17; (with_reducible refine (addr_Type.calls 33024 true _ A91.out).mono ?_); rintro e w' ⟨rfl, ⟨nd, rfl⟩⟩) | (go_at_call 17; (with_reducible refine (addr_Type.calls 35061 false _ A93.out).mono ?_); rintro e w' ⟨rfl, ⟨nd, rfl⟩⟩))
           go_ret
           exact ⟨by first | rfl | (simp [*] <;> rfl), by repeat (first | exact HB.out | apply below_alloc | apply pw_below_drewN | apply below_drew1)⟩
         ·
          replace c92 := Bool.eq_false_iff.mpr c92
          subst c92
          rw [if_neg (show ¬ (false = true) by decide)] at H
          obtain rfl := Option.some.inj H
          go_enter Try.func5, Try.ntmps5
          go_wp2_with (first | ((with_reducible refine gate_callee (f := 8) rfl ?_); refine goesL_ (some 3) rfl rfl Try.func8 (by kernel_rfl) rfl #[] rfl (by (try simp only [List.map_toArray, List.map_cons, List.map_nil]); first | done | rfl | (simp only [List.length_drop, List.length_take]; rfl)) ?_; (with_reducible refine (kissgatelaw02_alive.calls  true _ A2.out).mono ?_); rintro e w101 ⟨rfl, hb⟩; refine ⟨_, rfl, ?_⟩; have n0_ := Aside0.mk (below_step (by repeat (first | (with_reducible first | exact HB.out | apply below_alloc | apply pw_below_drewN | apply below_drew1) | exact HB.out)) hb); clear HB; have HB := n0_; clear n0_; (try clear hb); (try clear hb2); (try clear hk); (try clear hi)) | ((with_reducible refine gate_callee (f := 16) rfl ?_); refine goesL_ (some 6) rfl rfl Try.func16 (by kernel_rfl) rfl #[.int .i64 a0] rfl (by (try simp only [List.map_toArray, List.map_cons, List.map_nil]); first | done | rfl | (simp only [List.length_drop, List.length_take]; rfl)) ?_; (with_reducible refine (addr_Vid.calls a0 t106 _ A4.out).mono ?_); rintro e w' ⟨rfl, ⟨nd, rfl⟩⟩; refine ⟨_, rfl, ?_⟩) | (go_at_call 17; (with_reducible refine (addr_Type.calls a0 t107 _ A7.out).mono ?_); rintro e w' ⟨rfl, ⟨nd, rfl⟩⟩) | (go_at_call 18; (with_reducible refine (addr_Length.calls a0 t129 _ A72.out).mono ?_); rintro e w' ⟨rfl, ⟨nd, rfl⟩⟩) | (go_at_call 17; (with_reducible refine (addr_Type.calls a0 false _ A75.out).mono ?_); rintro e w' ⟨rfl, ⟨nd, rfl⟩⟩) | (go_at_call 17; (with_reducible refine (addr_Type.calls 33024 false _ A91.out).mono ?_); rintro e w' ⟨rfl, ⟨nd, rfl⟩⟩))
          go_ret
          exact ⟨by first | rfl | (simp [*] <;> rfl), by repeat (first | exact HB.out | apply below_alloc | apply pw_below_drewN | apply below_drew1)⟩
       ·
        rw [if_neg c74] at H
        have c74b0 : (t129 == (decide (a0 < 1501))) = false := by simpa using c74
        (try (have c74b1 : decide (t129 = (decide (a0 < 1501))) = false := by simpa using c74))
        (try (have c74b2 : (t129 == (decide (a0 < 1501))) = false := by simpa using c74))
        (try (have c74b3 : ¬ (t129 = (decide (a0 < 1501))) := by simpa using c74))
        clear c74
        obtain rfl := Option.some.inj H
        go_enter Try.func5, Try.ntmps5
        go_wp2_with (first | ((with_reducible refine gate_callee (f := 8) rfl ?_); refine goesL_ (some 3) rfl rfl Try.func8 (by kernel_rfl) rfl #[] rfl (by (try simp only [List.map_toArray, List.map_cons, List.map_nil]); first | done | rfl | (simp only [List.length_drop, List.length_take]; rfl)) ?_; (with_reducible refine (kissgatelaw02_alive.calls  true _ A2.out).mono ?_); rintro e w102 ⟨rfl, hb⟩; refine ⟨_, rfl, ?_⟩; have n0_ := Aside0.mk (below_step (by repeat (first | (with_reducible first | exact HB.out | apply below_alloc | apply pw_below_drewN | apply below_drew1) | exact HB.out)) hb); clear HB; have HB := n0_; clear n0_; (try clear hb); (try clear hb2); (try clear hk); (try clear hi)) | ((with_reducible refine gate_callee (f := 16) rfl ?_); refine goesL_ (some 6) rfl rfl Try.func16 (by kernel_rfl) rfl #[.int .i64 a0] rfl (by (try simp only [List.map_toArray, List.map_cons, List.map_nil]); first | done | rfl | (simp only [List.length_drop, List.length_take]; rfl)) ?_; (with_reducible refine (addr_Vid.calls a0 t106 _ A4.out).mono ?_); rintro e w' ⟨rfl, ⟨nd, rfl⟩⟩; refine ⟨_, rfl, ?_⟩) | (go_at_call 17; (with_reducible refine (addr_Type.calls a0 t107 _ A7.out).mono ?_); rintro e w' ⟨rfl, ⟨nd, rfl⟩⟩) | (go_at_call 18; (with_reducible refine (addr_Length.calls a0 t129 _ A72.out).mono ?_); rintro e w' ⟨rfl, ⟨nd, rfl⟩⟩))
        go_ret
        exact ⟨by first | rfl | (simp [*] <;> rfl), by repeat (first | exact HB.out | apply below_alloc | apply pw_below_drewN | apply below_drew1)⟩
      ·
       rw [if_neg c73] at H
       have c73b0 : decide ((-1) < a0) = false := decide_eq_false c73
       clear c73
       by_cases c103 : (t129 == false) = true
       ·
        rw [if_pos c103] at H
        have c103b0 : (t129 == false) = true := c103
        (try (have c103b1 : decide (t129 = false) = true := by simpa using c103))
        (try (have c103b2 : (t129 == false) = true := by simpa using c103))
        clear c103
        replace H := Option.bind_eq_some_iff.mp H
        obtain ⟨t140, A1040, H⟩ := H
        try ((with_reducible have e_ := Option.some.inj (A1040.symm.trans A7.out)); subst e_)
        replace H : (if t140 = true then ((addr_Length.f a0).bind fun t141 => (if t141 = true then (some false) else ((addr_Type.f 33024).bind fun t142 => (if t142 = true then ((addr_Type.f 35061).bind fun t143 => (if t143 = true then ((addr_Type.f 35062).bind fun t144 => (if t144 = true then ((addr_Type.f 2048).bind fun t145 => (some t145)) else (some false))) else (some false))) else (some false))))) else ((addr_Type.f 33024).bind fun t146 => (if t146 = true then ((addr_Type.f 35061).bind fun t147 => (if t147 = true then ((addr_Type.f 35062).bind fun t148 => (if t148 = true then ((addr_Type.f 2048).bind fun t149 => (some t149)) else (some false))) else (some false))) else (some false)))) = some r := H
        have A104 := Aside0.mk A1040
        clear A1040
        by_cases c105 : t140 = true
        ·
         subst c105
         rw [if_pos rfl] at H
         replace H := Option.bind_eq_some_iff.mp H
         obtain ⟨t141, A1060, H⟩ := H
         try ((with_reducible have e_ := Option.some.inj (A1060.symm.trans A72.out)); subst e_)
         replace H : (if t141 = true then (some false) else ((addr_Type.f 33024).bind fun t142 => (if t142 = true then ((addr_Type.f 35061).bind fun t143 => (if t143 = true then ((addr_Type.f 35062).bind fun t144 => (if t144 = true then ((addr_Type.f 2048).bind fun t145 => (some t145)) else (some false))) else (some false))) else (some false)))) = some r := H
         have A106 := Aside0.mk A1060
         clear A1060
         by_cases c107 : t141 = true
         ·
          subst c107
          rw [if_pos rfl] at H
          obtain rfl := Option.some.inj H
          go_enter Try.func5, Try.ntmps5
          go_wp2_with (first | ((with_reducible refine gate_callee (f := 8) rfl ?_); refine goesL_ (some 3) rfl rfl Try.func8 (by kernel_rfl) rfl #[] rfl (by (try simp only [List.map_toArray, List.map_cons, List.map_nil]); first | done | rfl | (simp only [List.length_drop, List.length_take]; rfl)) ?_; (with_reducible refine (kissgatelaw02_alive.calls  true _ A2.out).mono ?_); rintro e w108 ⟨rfl, hb⟩; refine ⟨_, rfl, ?_⟩; have n0_ := Aside0.mk (below_step (by repeat (first | (with_reducible first | exact HB.out | apply below_alloc | apply pw_below_drewN | apply below_drew1) | exact HB.out)) hb); clear HB; have HB := n0_; clear n0_; (try clear hb); (try clear hb2); (try clear hk); (try clear hi)) | ((with_reducible refine gate_callee (f := 16) rfl ?_); refine goesL_ (some 6) rfl rfl Try.func16 (by kernel_rfl) rfl #[.int .i64 a0] rfl (by (try simp only [List.map_toArray, List.map_cons, List.map_nil]); first | done | rfl | (simp only [List.length_drop, List.length_take]; rfl)) ?_; (with_reducible refine (addr_Vid.calls a0 t106 _ A4.out).mono ?_); rintro e w' ⟨rfl, ⟨nd, rfl⟩⟩; refine ⟨_, rfl, ?_⟩) | (go_at_call 17; (with_reducible refine (addr_Type.calls a0 t107 _ A7.out).mono ?_); rintro e w' ⟨rfl, ⟨nd, rfl⟩⟩) | (go_at_call 18; (with_reducible refine (addr_Length.calls a0 t129 _ A72.out).mono ?_); rintro e w' ⟨rfl, ⟨nd, rfl⟩⟩) | (go_at_call 17; (with_reducible refine (addr_Type.calls a0 true _ A104.out).mono ?_); rintro e w' ⟨rfl, ⟨nd, rfl⟩⟩) | (go_at_call 18; (with_reducible refine (addr_Length.calls a0 true _ A106.out).mono ?_); rintro e w' ⟨rfl, ⟨nd, rfl⟩⟩))
          go_ret
          exact ⟨by first | rfl | (simp [*] <;> rfl), by repeat (first | exact HB.out | apply below_alloc | apply pw_below_drewN | apply below_drew1)⟩
         ·
          replace c107 := Bool.eq_false_iff.mpr c107
          subst c107
          rw [if_neg (show ¬ (false = true) by decide)] at H
          replace H := Option.bind_eq_some_iff.mp H
          obtain ⟨t142, A1090, H⟩ := H
          replace H : (if t142 = true then ((addr_Type.f 35061).bind fun t143 => (if t143 = true then ((addr_Type.f 35062).bind fun t144 => (if t144 = true then ((addr_Type.f 2048).bind fun t145 => (some t145)) else (some false))) else (some false))) else (some false)) = some r := H
          have A109 := Aside0.mk A1090
          clear A1090
          by_cases c110 : t142 = true
          ·
           subst c110
           rw [if_pos rfl] at H
           replace H := Option.bind_eq_some_iff.mp H
           obtain ⟨t143, A1110, H⟩ := H
           replace H : (if t143 = true then ((addr_Type.f 35062).bind fun t144 => (if t144 = true then ((addr_Type.f 2048).bind fun t145 => (some t145)) else (some false))) else (some false)) = some r := H
           have A111 := Aside0.mk A1110
           clear A1110
           by_cases c112 : t143 = true
           ·
            subst c112
            rw [if_pos rfl] at H
            replace H := Option.bind_eq_some_iff.mp H
            obtain ⟨t144, A1130, H⟩ := H
            replace H : (if t144 = true then ((addr_Type.f 2048).bind fun t145 => (some t145)) else (some false)) = some r := H
            have A113 := Aside0.mk A1130
            clear A1130
            by_cases c114 : t144 = true
            ·
             subst c114
             rw [if_pos rfl] at H
             replace H := Option.bind_eq_some_iff.mp H
             obtain ⟨t145, A1150, H⟩ := H
             replace H : (some t145) = some r := H
             have A115 := Aside0.mk A1150
             clear A1150
             obtain rfl := Option.some.inj H
             go_enter Try.func5, Try.ntmps5
             go_wp2_with (first | ((with_reducible refine gate_callee (f := 8) rfl ?_); refine goesL_ (some 3) rfl rfl Try.func8 (by kernel_rfl) rfl #[] rfl (by (try simp only [List.map_toArray, List.map_cons, List.map_nil]); first | done | rfl | (simp only [List.length_drop, List.length_take]; rfl)) ?_; (with_reducible refine (kissgatelaw02_alive.calls  true _ A2.out).mono ?_); rintro e w116 ⟨rfl, hb⟩; refine ⟨_, rfl, ?_⟩; have n0_ := Aside0.mk (below_step (by repeat (first | (with_reducible first | exact HB.out | apply below_alloc | apply pw_below_drewN | apply below_drew1) | exact HB.out)) hb); clear HB; have HB := n0_; clear n0_; (try clear hb); (try clear hb2); (try clear hk); (try clear hi)) | ((with_reducible refine gate_callee (f := 16) rfl ?_); refine goesL_ (some 6) rfl rfl Try.func16 (by kernel_rfl) rfl #[.int .i64 a0] rfl (by (try simp only [List.map_toArray, List.map_cons, List.map_nil]); first | done | rfl | (simp only [List.length_drop, List.length_take]; rfl)) ?_; (with_reducible refine (addr_Vid.calls a0 t106 _ A4.out).mono ?_); rintro e w' ⟨rfl, ⟨nd, rfl⟩⟩; refine ⟨_, rfl, ?_⟩) | (go_at_call 17; (with_reducible refine (addr_Type.calls a0 t107 _ A7.out).mono ?_); rintro e w' ⟨rfl, ⟨nd, rfl⟩⟩) | (go_at_call 18; (with_reducible refine (addr_Length.calls a0 t129 _ A72.out).mono ?_); rintro e w' ⟨rfl, ⟨nd, rfl⟩⟩) | (go_at_call 17; (with_reducible refine (addr_Type.calls a0 true _ A104.out).mono ?_); rintro e w' ⟨rfl, ⟨nd, rfl⟩⟩) | (go_at_call 18; (with_reducible refine (addr_Length.calls a0 false _ A106.out).mono ?_); rintro e w' ⟨rfl, ⟨nd, rfl⟩⟩) | (go_at_call 17; (with_reducible refine (addr_Type.calls 33024 true _ A109.out).mono ?_); rintro e w' ⟨rfl, ⟨nd, rfl⟩⟩) | (go_at_call 17; (with_reducible refine (addr_Type.calls 35061 true _ A111.out).mono ?_); rintro e w' ⟨rfl, ⟨nd, rfl⟩⟩) | (go_at_call 17; (with_reducible refine (addr_Type.calls 35062 true _ A113.out).mono ?_); rintro e w' ⟨rfl, ⟨nd, rfl⟩⟩) | (go_at_call 17; (with_reducible refine (addr_Type.calls 2048 t145 _ A115.out).mono ?_); rintro e w' ⟨rfl, ⟨nd, rfl⟩⟩))
             go_ret
             exact ⟨by first | rfl | (simp [*] <;> rfl), by repeat (first | exact HB.out | apply below_alloc | apply pw_below_drewN | apply below_drew1)⟩
            ·
             replace c114 := Bool.eq_false_iff.mpr c114
             subst c114
             rw [if_neg (show ¬ (false = true) by decide)] at H
             obtain rfl := Option.some.inj H
             go_enter Try.func5, Try.ntmps5
             go_wp2_with (first | ((with_reducible refine gate_callee (f := 8) rfl ?_); refine goesL_ (some 3) rfl rfl Try.func8 (by kernel_rfl) rfl #[] rfl (by (try simp only [List.map_toArray, List.map_cons, List.map_nil]); first | done | rfl | (simp only [List.length_drop, List.length_take]; rfl)) ?_; (with_reducible refine (kissgatelaw02_alive.calls  true _ A2.out).mono ?_); rintro e w117 ⟨rfl, hb⟩; refine ⟨_, rfl, ?_⟩; have n0_ := Aside0.mk (below_step (by repeat (first | (with_reducible first | exact HB.out | apply below_alloc | apply pw_below_drewN | apply below_drew1) | exact HB.out)) hb); clear HB; have HB := n0_; clear n0_; (try clear hb); (try clear hb2); (try clear hk); (try clear hi)) | ((with_reducible refine gate_callee (f := 16) rfl ?_); refine goesL_ (some 6) rfl rfl Try.func16 (by kernel_rfl) rfl #[.int .i64 a0] rfl (by (try simp only [List.map_toArray, List.map_cons, List.map_nil]); first | done | rfl | (simp only [List.length_drop, List.length_take]; rfl)) ?_; (with_reducible refine (addr_Vid.calls a0 t106 _ A4.out).mono ?_); rintro e w' ⟨rfl, ⟨nd, rfl⟩⟩; refine ⟨_, rfl, ?_⟩) | (go_at_call 17; (with_reducible refine (addr_Type.calls a0 t107 _ A7.out).mono ?_); rintro e w' ⟨rfl, ⟨nd, rfl⟩⟩) | (go_at_call 18; (with_reducible refine (addr_Length.calls a0 t129 _ A72.out).mono ?_); rintro e w' ⟨rfl, ⟨nd, rfl⟩⟩) | (go_at_call 17; (with_reducible refine (addr_Type.calls a0 true _ A104.out).mono ?_); rintro e w' ⟨rfl, ⟨nd, rfl⟩⟩) | (go_at_call 18; (with_reducible refine (addr_Length.calls a0 false _ A106.out).mono ?_); rintro e w' ⟨rfl, ⟨nd, rfl⟩⟩) | (go_at_call 17; (with_reducible refine (addr_Type.calls 33024 true _ A109.out).mono ?_); rintro e w' ⟨rfl, ⟨nd, rfl⟩⟩) | (go_at_call 17; (with_reducible refine (addr_Type.calls 35061 true _ A111.out).mono ?_); rintro e w' ⟨rfl, ⟨nd, rfl⟩⟩) | (go_at_call 17; (with_reducible refine (addr_Type.calls 35062 false _ A113.out).mono ?_); rintro e w' ⟨rfl, ⟨nd, rfl⟩⟩))
             go_ret
             exact ⟨by first | rfl | (simp [*] <;> rfl), by repeat (first | exact HB.out | apply below_alloc | apply pw_below_drewN | apply below_drew1)⟩
           ·
            replace c112 := Bool.eq_false_iff.mpr c112
            subst c112
            rw [if_neg (show ¬ (false = true) by decide)] at H
            obtain rfl := Option.some.inj H
            go_enter Try.func5, Try.ntmps5
            go_wp2_with (first | ((with_reducible refine gate_callee (f := 8) rfl ?_); refine goesL_ (some 3) rfl rfl Try.func8 (by kernel_rfl) rfl #[] rfl (by (try simp only [List.map_toArray, List.map_cons, List.map_nil]); first | done | rfl | (simp only [List.length_drop, List.length_take]; rfl)) ?_; (with_reducible refine (kissgatelaw02_alive.calls  true _ A2.out).mono ?_); rintro e w118 ⟨rfl, hb⟩; refine ⟨_, rfl, ?_⟩; have n0_ := Aside0.mk (below_step (by repeat (first | (with_reducible first | exact HB.out | apply below_alloc | apply pw_below_drewN | apply below_drew1) | exact HB.out)) hb); clear HB; have HB := n0_; clear n0_; (try clear hb); (try clear hb2); (try clear hk); (try clear hi)) | ((with_reducible refine gate_callee (f := 16) rfl ?_); refine goesL_ (some 6) rfl rfl Try.func16 (by kernel_rfl) rfl #[.int .i64 a0] rfl (by (try simp only [List.map_toArray, List.map_cons, List.map_nil]); first | done | rfl | (simp only [List.length_drop, List.length_take]; rfl)) ?_; (with_reducible refine (addr_Vid.calls a0 t106 _ A4.out).mono ?_); rintro e w' ⟨rfl, ⟨nd, rfl⟩⟩; refine ⟨_, rfl, ?_⟩) | (go_at_call 17; (with_reducible refine (addr_Type.calls a0 t107 _ A7.out).mono ?_); rintro e w' ⟨rfl, ⟨nd, rfl⟩⟩) | (go_at_call 18; (with_reducible refine (addr_Length.calls a0 t129 _ A72.out).mono ?_); rintro e w' ⟨rfl, ⟨nd, rfl⟩⟩) | (go_at_call 17; (with_reducible refine (addr_Type.calls a0 true _ A104.out).mono ?_); rintro e w' ⟨rfl, ⟨nd, rfl⟩⟩) | (go_at_call 18; (with_reducible refine (addr_Length.calls a0 false _ A106.out).mono ?_); rintro e w' ⟨rfl, ⟨nd, rfl⟩⟩) | (go_at_call 17; (with_reducible refine (addr_Type.calls 33024 true _ A109.out).mono ?_); rintro e w' ⟨rfl, ⟨nd, rfl⟩⟩) | (go_at_call 17; (with_reducible refine (addr_Type.calls 35061 false _ A111.out).mono ?_); rintro e w' ⟨rfl, ⟨nd, rfl⟩⟩))
            go_ret
            exact ⟨by first | rfl | (simp [*] <;> rfl), by repeat (first | exact HB.out | apply below_alloc | apply pw_below_drewN | apply below_drew1)⟩
          ·
           replace c110 := Bool.eq_false_iff.mpr c110
           subst c110
           rw [if_neg (show ¬ (false = true) by decide)] at H
           obtain rfl := Option.some.inj H
           go_enter Try.func5, Try.ntmps5
           go_wp2_with (first | ((with_reducible refine gate_callee (f := 8) rfl ?_); refine goesL_ (some 3) rfl rfl Try.func8 (by kernel_rfl) rfl #[] rfl (by (try simp only [List.map_toArray, List.map_cons, List.map_nil]); first | done | rfl | (simp only [List.length_drop, List.length_take]; rfl)) ?_; (with_reducible refine (kissgatelaw02_alive.calls  true _ A2.out).mono ?_); rintro e w119 ⟨rfl, hb⟩; refine ⟨_, rfl, ?_⟩; have n0_ := Aside0.mk (below_step (by repeat (first | (with_reducible first | exact HB.out | apply below_alloc | apply pw_below_drewN | apply below_drew1) | exact HB.out)) hb); clear HB; have HB := n0_; clear n0_; (try clear hb); (try clear hb2); (try clear hk); (try clear hi)) | ((with_reducible refine gate_callee (f := 16) rfl ?_); refine goesL_ (some 6) rfl rfl Try.func16 (by kernel_rfl) rfl #[.int .i64 a0] rfl (by (try simp only [List.map_toArray, List.map_cons, List.map_nil]); first | done | rfl | (simp only [List.length_drop, List.length_take]; rfl)) ?_; (with_reducible refine (addr_Vid.calls a0 t106 _ A4.out).mono ?_); rintro e w' ⟨rfl, ⟨nd, rfl⟩⟩; refine ⟨_, rfl, ?_⟩) | (go_at_call 17; (with_reducible refine (addr_Type.calls a0 t107 _ A7.out).mono ?_); rintro e w' ⟨rfl, ⟨nd, rfl⟩⟩) | (go_at_call 18; (with_reducible refine (addr_Length.calls a0 t129 _ A72.out).mono ?_); rintro e w' ⟨rfl, ⟨nd, rfl⟩⟩) | (go_at_call 17; (with_reducible refine (addr_Type.calls a0 true _ A104.out).mono ?_); rintro e w' ⟨rfl, ⟨nd, rfl⟩⟩) | (go_at_call 18; (with_reducible refine (addr_Length.calls a0 false _ A106.out).mono ?_); rintro e w' ⟨rfl, ⟨nd, rfl⟩⟩) | (go_at_call 17; (with_reducible refine (addr_Type.calls 33024 false _ A109.out).mono ?_); rintro e w' ⟨rfl, ⟨nd, rfl⟩⟩))
           go_ret
           exact ⟨by first | rfl | (simp [*] <;> rfl), by repeat (first | exact HB.out | apply below_alloc | apply pw_below_drewN | apply below_drew1)⟩
        ·
         replace c105 := Bool.eq_false_iff.mpr c105
         subst c105
         rw [if_neg (show ¬ (false = true) by decide)] at H
         replace H := Option.bind_eq_some_iff.mp H
         obtain ⟨t146, A1200, H⟩ := H
         replace H : (if t146 = true then ((addr_Type.f 35061).bind fun t147 => (if t147 = true then ((addr_Type.f 35062).bind fun t148 => (if t148 = true then ((addr_Type.f 2048).bind fun t149 => (some t149)) else (some false))) else (some false))) else (some false)) = some r := H
         have A120 := Aside0.mk A1200
         clear A1200
         by_cases c121 : t146 = true
         ·
          subst c121
          rw [if_pos rfl] at H
          replace H := Option.bind_eq_some_iff.mp H
          obtain ⟨t147, A1220, H⟩ := H
          replace H : (if t147 = true then ((addr_Type.f 35062).bind fun t148 => (if t148 = true then ((addr_Type.f 2048).bind fun t149 => (some t149)) else (some false))) else (some false)) = some r := H
          have A122 := Aside0.mk A1220
          clear A1220
          by_cases c123 : t147 = true
          ·
           subst c123
           rw [if_pos rfl] at H
           replace H := Option.bind_eq_some_iff.mp H
           obtain ⟨t148, A1240, H⟩ := H
           replace H : (if t148 = true then ((addr_Type.f 2048).bind fun t149 => (some t149)) else (some false)) = some r := H
           have A124 := Aside0.mk A1240
           clear A1240
           by_cases c125 : t148 = true
           ·
            subst c125
            rw [if_pos rfl] at H
            replace H := Option.bind_eq_some_iff.mp H
            obtain ⟨t149, A1260, H⟩ := H
            replace H : (some t149) = some r := H
            have A126 := Aside0.mk A1260
            clear A1260
            obtain rfl := Option.some.inj H
            go_enter Try.func5, Try.ntmps5
            go_wp2_with (first | ((with_reducible refine gate_callee (f := 8) rfl ?_); refine goesL_ (some 3) rfl rfl Try.func8 (by kernel_rfl) rfl #[] rfl (by (try simp only [List.map_toArray, List.map_cons, List.map_nil]); first | done | rfl | (simp only [List.length_drop, List.length_take]; rfl)) ?_; (with_reducible refine (kissgatelaw02_alive.calls  true _ A2.out).mono ?_); rintro e w127 ⟨rfl, hb⟩; refine ⟨_, rfl, ?_⟩; have n0_ := Aside0.mk (below_step (by repeat (first | (with_reducible first | exact HB.out | apply below_alloc | apply pw_below_drewN | apply below_drew1) | exact HB.out)) hb); clear HB; have HB := n0_; clear n0_; (try clear hb); (try clear hb2); (try clear hk); (try clear hi)) | ((with_reducible refine gate_callee (f := 16) rfl ?_); refine goesL_ (some 6) rfl rfl Try.func16 (by kernel_rfl) rfl #[.int .i64 a0] rfl (by (try simp only [List.map_toArray, List.map_cons, List.map_nil]); first | done | rfl | (simp only [List.length_drop, List.length_take]; rfl)) ?_; (with_reducible refine (addr_Vid.calls a0 t106 _ A4.out).mono ?_); rintro e w' ⟨rfl, ⟨nd, rfl⟩⟩; refine ⟨_, rfl, ?_⟩) | (go_at_call 17; (with_reducible refine (addr_Type.calls a0 t107 _ A7.out).mono ?_); rintro e w' ⟨rfl, ⟨nd, rfl⟩⟩) | (go_at_call 18; (with_reducible refine (addr_Length.calls a0 t129 _ A72.out).mono ?_); rintro e w' ⟨rfl, ⟨nd, rfl⟩⟩) | (go_at_call 17; (with_reducible refine (addr_Type.calls a0 false _ A104.out).mono ?_); rintro e w' ⟨rfl, ⟨nd, rfl⟩⟩) | (go_at_call 17; (with_reducible refine (addr_Type.calls 33024 true _ A120.out).mono ?_); rintro e w' ⟨rfl, ⟨nd, rfl⟩⟩) | (go_at_call 17; (with_reducible refine (addr_Type.calls 35061 true _ A122.out).mono ?_); rintro e w' ⟨rfl, ⟨nd, rfl⟩⟩) | (go_at_call 17; (with_reducible refine (addr_Type.calls 35062 true _ A124.out).mono ?_); rintro e w' ⟨rfl, ⟨nd, rfl⟩⟩) | (go_at_call 17; (with_reducible refine (addr_Type.calls 2048 t149 _ A126.out).mono ?_); rintro e w' ⟨rfl, ⟨nd, rfl⟩⟩))
            go_ret
            exact ⟨by first | rfl | (simp [*] <;> rfl), by repeat (first | exact HB.out | apply below_alloc | apply pw_below_drewN | apply below_drew1)⟩
           ·
            replace c125 := Bool.eq_false_iff.mpr c125
            subst c125
            rw [if_neg (show ¬ (false = true) by decide)] at H
            obtain rfl := Option.some.inj H
            go_enter Try.func5, Try.ntmps5
            go_wp2_with (first | ((with_reducible refine gate_callee (f := 8) rfl ?_); refine goesL_ (some 3) rfl rfl Try.func8 (by kernel_rfl) rfl #[] rfl (by (try simp only [List.map_toArray, List.map_cons, List.map_nil]); first | done | rfl | (simp only [List.length_drop, List.length_take]; rfl)) ?_; (with_reducible refine (kissgatelaw02_alive.calls  true _ A2.out).mono ?_); rintro e w128 ⟨rfl, hb⟩; refine ⟨_, rfl, ?_⟩; have n0_ := Aside0.mk (below_step (by repeat (first | (with_reducible first | exact HB.out | apply below_alloc | apply pw_below_drewN | apply below_drew1) | exact HB.out)) hb); clear HB; have HB := n0_; clear n0_; (try clear hb); (try clear hb2); (try clear hk); (try clear hi)) | ((with_reducible refine gate_callee (f := 16) rfl ?_); refine goesL_ (some 6) rfl rfl Try.func16 (by kernel_rfl) rfl #[.int .i64 a0] rfl (by (try simp only [List.map_toArray, List.map_cons, List.map_nil]); first | done | rfl | (simp only [List.length_drop, List.length_take]; rfl)) ?_; (with_reducible refine (addr_Vid.calls a0 t106 _ A4.out).mono ?_); rintro e w' ⟨rfl, ⟨nd, rfl⟩⟩; refine ⟨_, rfl, ?_⟩) | (go_at_call 17; (with_reducible refine (addr_Type.calls a0 t107 _ A7.out).mono ?_); rintro e w' ⟨rfl, ⟨nd, rfl⟩⟩) | (go_at_call 18; (with_reducible refine (addr_Length.calls a0 t129 _ A72.out).mono ?_); rintro e w' ⟨rfl, ⟨nd, rfl⟩⟩) | (go_at_call 17; (with_reducible refine (addr_Type.calls a0 false _ A104.out).mono ?_); rintro e w' ⟨rfl, ⟨nd, rfl⟩⟩) | (go_at_call 17; (with_reducible refine (addr_Type.calls 33024 true _ A120.out).mono ?_); rintro e w' ⟨rfl, ⟨nd, rfl⟩⟩) | (go_at_call 17; (with_reducible refine (addr_Type.calls 35061 true _ A122.out).mono ?_); rintro e w' ⟨rfl, ⟨nd, rfl⟩⟩) | (go_at_call 17; (with_reducible refine (addr_Type.calls 35062 false _ A124.out).mono ?_); rintro e w' ⟨rfl, ⟨nd, rfl⟩⟩))
            go_ret
            exact ⟨by first | rfl | (simp [*] <;> rfl), by repeat (first | exact HB.out | apply below_alloc | apply pw_below_drewN | apply below_drew1)⟩
          ·
           replace c123 := Bool.eq_false_iff.mpr c123
           subst c123
           rw [if_neg (show ¬ (false = true) by decide)] at H
           obtain rfl := Option.some.inj H
           go_enter Try.func5, Try.ntmps5
           go_wp2_with (first | ((with_reducible refine gate_callee (f := 8) rfl ?_); refine goesL_ (some 3) rfl rfl Try.func8 (by kernel_rfl) rfl #[] rfl (by (try simp only [List.map_toArray, List.map_cons, List.map_nil]); first | done | rfl | (simp only [List.length_drop, List.length_take]; rfl)) ?_; (with_reducible refine (kissgatelaw02_alive.calls  true _ A2.out).mono ?_); rintro e w129 ⟨rfl, hb⟩; refine ⟨_, rfl, ?_⟩; have n0_ := Aside0.mk (below_step (by repeat (first | (with_reducible first | exact HB.out | apply below_alloc | apply pw_below_drewN | apply below_drew1) | exact HB.out)) hb); clear HB; have HB := n0_; clear n0_; (try clear hb); (try clear hb2); (try clear hk); (try clear hi)) | ((with_reducible refine gate_callee (f := 16) rfl ?_); refine goesL_ (some 6) rfl rfl Try.func16 (by kernel_rfl) rfl #[.int .i64 a0] rfl (by (try simp only [List.map_toArray, List.map_cons, List.map_nil]); first | done | rfl | (simp only [List.length_drop, List.length_take]; rfl)) ?_; (with_reducible refine (addr_Vid.calls a0 t106 _ A4.out).mono ?_); rintro e w' ⟨rfl, ⟨nd, rfl⟩⟩; refine ⟨_, rfl, ?_⟩) | (go_at_call 17; (with_reducible refine (addr_Type.calls a0 t107 _ A7.out).mono ?_); rintro e w' ⟨rfl, ⟨nd, rfl⟩⟩) | (go_at_call 18; (with_reducible refine (addr_Length.calls a0 t129 _ A72.out).mono ?_); rintro e w' ⟨rfl, ⟨nd, rfl⟩⟩) | (go_at_call 17; (with_reducible refine (addr_Type.calls a0 false _ A104.out).mono ?_); rintro e w' ⟨rfl, ⟨nd, rfl⟩⟩) | (go_at_call 17; (with_reducible refine (addr_Type.calls 33024 true _ A120.out).mono ?_); rintro e w' ⟨rfl, ⟨nd, rfl⟩⟩) | (go_at_call 17; (with_reducible refine (addr_Type.calls 35061 false _ A122.out).mono ?_); rintro e w' ⟨rfl, ⟨nd, rfl⟩⟩))
           go_ret
           exact ⟨by first | rfl | (simp [*] <;> rfl), by repeat (first | exact HB.out | apply below_alloc | apply pw_below_drewN | apply below_drew1)⟩
         ·
          replace c121 := Bool.eq_false_iff.mpr c121
          subst c121
          rw [if_neg (show ¬ (false = true) by decide)] at H
          obtain rfl := Option.some.inj H
          go_enter Try.func5, Try.ntmps5
          go_wp2_with (first | ((with_reducible refine gate_callee (f := 8) rfl ?_); refine goesL_ (some 3) rfl rfl Try.func8 (by kernel_rfl) rfl #[] rfl (by (try simp only [List.map_toArray, List.map_cons, List.map_nil]); first | done | rfl | (simp only [List.length_drop, List.length_take]; rfl)) ?_; (with_reducible refine (kissgatelaw02_alive.calls  true _ A2.out).mono ?_); rintro e w130 ⟨rfl, hb⟩; refine ⟨_, rfl, ?_⟩; have n0_ := Aside0.mk (below_step (by repeat (first | (with_reducible first | exact HB.out | apply below_alloc | apply pw_below_drewN | apply below_drew1) | exact HB.out)) hb); clear HB; have HB := n0_; clear n0_; (try clear hb); (try clear hb2); (try clear hk); (try clear hi)) | ((with_reducible refine gate_callee (f := 16) rfl ?_); refine goesL_ (some 6) rfl rfl Try.func16 (by kernel_rfl) rfl #[.int .i64 a0] rfl (by (try simp only [List.map_toArray, List.map_cons, List.map_nil]); first | done | rfl | (simp only [List.length_drop, List.length_take]; rfl)) ?_; (with_reducible refine (addr_Vid.calls a0 t106 _ A4.out).mono ?_); rintro e w' ⟨rfl, ⟨nd, rfl⟩⟩; refine ⟨_, rfl, ?_⟩) | (go_at_call 17; (with_reducible refine (addr_Type.calls a0 t107 _ A7.out).mono ?_); rintro e w' ⟨rfl, ⟨nd, rfl⟩⟩) | (go_at_call 18; (with_reducible refine (addr_Length.calls a0 t129 _ A72.out).mono ?_); rintro e w' ⟨rfl, ⟨nd, rfl⟩⟩) | (go_at_call 17; (with_reducible refine (addr_Type.calls a0 false _ A104.out).mono ?_); rintro e w' ⟨rfl, ⟨nd, rfl⟩⟩) | (go_at_call 17; (with_reducible refine (addr_Type.calls 33024 false _ A120.out).mono ?_); rintro e w' ⟨rfl, ⟨nd, rfl⟩⟩))
          go_ret
          exact ⟨by first | rfl | (simp [*] <;> rfl), by repeat (first | exact HB.out | apply below_alloc | apply pw_below_drewN | apply below_drew1)⟩
       ·
        rw [if_neg c103] at H
        have c103b0 : (t129 == false) = false := by simpa using c103
        (try (have c103b1 : decide (t129 = false) = false := by simpa using c103))
        (try (have c103b2 : (t129 == false) = false := by simpa using c103))
        (try (have c103b3 : ¬ (t129 = false) := by simpa using c103))
        clear c103
        obtain rfl := Option.some.inj H
        go_enter Try.func5, Try.ntmps5
        go_wp2_with (first | ((with_reducible refine gate_callee (f := 8) rfl ?_); refine goesL_ (some 3) rfl rfl Try.func8 (by kernel_rfl) rfl #[] rfl (by (try simp only [List.map_toArray, List.map_cons, List.map_nil]); first | done | rfl | (simp only [List.length_drop, List.length_take]; rfl)) ?_; (with_reducible refine (kissgatelaw02_alive.calls  true _ A2.out).mono ?_); rintro e w131 ⟨rfl, hb⟩; refine ⟨_, rfl, ?_⟩; have n0_ := Aside0.mk (below_step (by repeat (first | (with_reducible first | exact HB.out | apply below_alloc | apply pw_below_drewN | apply below_drew1) | exact HB.out)) hb); clear HB; have HB := n0_; clear n0_; (try clear hb); (try clear hb2); (try clear hk); (try clear hi)) | ((with_reducible refine gate_callee (f := 16) rfl ?_); refine goesL_ (some 6) rfl rfl Try.func16 (by kernel_rfl) rfl #[.int .i64 a0] rfl (by (try simp only [List.map_toArray, List.map_cons, List.map_nil]); first | done | rfl | (simp only [List.length_drop, List.length_take]; rfl)) ?_; (with_reducible refine (addr_Vid.calls a0 t106 _ A4.out).mono ?_); rintro e w' ⟨rfl, ⟨nd, rfl⟩⟩; refine ⟨_, rfl, ?_⟩) | (go_at_call 17; (with_reducible refine (addr_Type.calls a0 t107 _ A7.out).mono ?_); rintro e w' ⟨rfl, ⟨nd, rfl⟩⟩) | (go_at_call 18; (with_reducible refine (addr_Length.calls a0 t129 _ A72.out).mono ?_); rintro e w' ⟨rfl, ⟨nd, rfl⟩⟩))
        go_ret
        exact ⟨by first | rfl | (simp [*] <;> rfl), by repeat (first | exact HB.out | apply below_alloc | apply pw_below_drewN | apply below_drew1)⟩
     ·
      rw [if_neg c71] at H
      have c71b0 : (t107 == false) = false := by simpa using c71
      (try (have c71b1 : decide (t107 = false) = false := by simpa using c71))
      (try (have c71b2 : (t107 == false) = false := by simpa using c71))
      (try (have c71b3 : ¬ (t107 = false) := by simpa using c71))
      clear c71
      obtain rfl := Option.some.inj H
      go_enter Try.func5, Try.ntmps5
      go_wp2_with (first | ((with_reducible refine gate_callee (f := 8) rfl ?_); refine goesL_ (some 3) rfl rfl Try.func8 (by kernel_rfl) rfl #[] rfl (by (try simp only [List.map_toArray, List.map_cons, List.map_nil]); first | done | rfl | (simp only [List.length_drop, List.length_take]; rfl)) ?_; (with_reducible refine (kissgatelaw02_alive.calls  true _ A2.out).mono ?_); rintro e w132 ⟨rfl, hb⟩; refine ⟨_, rfl, ?_⟩; have n0_ := Aside0.mk (below_step (by repeat (first | (with_reducible first | exact HB.out | apply below_alloc | apply pw_below_drewN | apply below_drew1) | exact HB.out)) hb); clear HB; have HB := n0_; clear n0_; (try clear hb); (try clear hb2); (try clear hk); (try clear hi)) | ((with_reducible refine gate_callee (f := 16) rfl ?_); refine goesL_ (some 6) rfl rfl Try.func16 (by kernel_rfl) rfl #[.int .i64 a0] rfl (by (try simp only [List.map_toArray, List.map_cons, List.map_nil]); first | done | rfl | (simp only [List.length_drop, List.length_take]; rfl)) ?_; (with_reducible refine (addr_Vid.calls a0 t106 _ A4.out).mono ?_); rintro e w' ⟨rfl, ⟨nd, rfl⟩⟩; refine ⟨_, rfl, ?_⟩) | (go_at_call 17; (with_reducible refine (addr_Type.calls a0 t107 _ A7.out).mono ?_); rintro e w' ⟨rfl, ⟨nd, rfl⟩⟩))
      go_ret
      exact ⟨by first | rfl | (simp [*] <;> rfl), by repeat (first | exact HB.out | apply below_alloc | apply pw_below_drewN | apply below_drew1)⟩
   ·
    rw [if_neg c6] at H
    have c6b0 : (t106 == (decide (a0 < 4095))) = false := by simpa using c6
    (try (have c6b1 : decide (t106 = (decide (a0 < 4095))) = false := by simpa using c6))
    (try (have c6b2 : (t106 == (decide (a0 < 4095))) = false := by simpa using c6))
    (try (have c6b3 : ¬ (t106 = (decide (a0 < 4095))) := by simpa using c6))
    clear c6
    obtain rfl := Option.some.inj H
    go_enter Try.func5, Try.ntmps5
    go_wp2_with (first | ((with_reducible refine gate_callee (f := 8) rfl ?_); refine goesL_ (some 3) rfl rfl Try.func8 (by kernel_rfl) rfl #[] rfl (by (try simp only [List.map_toArray, List.map_cons, List.map_nil]); first | done | rfl | (simp only [List.length_drop, List.length_take]; rfl)) ?_; (with_reducible refine (kissgatelaw02_alive.calls  true _ A2.out).mono ?_); rintro e w133 ⟨rfl, hb⟩; refine ⟨_, rfl, ?_⟩; have n0_ := Aside0.mk (below_step (by repeat (first | (with_reducible first | exact HB.out | apply below_alloc | apply pw_below_drewN | apply below_drew1) | exact HB.out)) hb); clear HB; have HB := n0_; clear n0_; (try clear hb); (try clear hb2); (try clear hk); (try clear hi)) | ((with_reducible refine gate_callee (f := 16) rfl ?_); refine goesL_ (some 6) rfl rfl Try.func16 (by kernel_rfl) rfl #[.int .i64 a0] rfl (by (try simp only [List.map_toArray, List.map_cons, List.map_nil]); first | done | rfl | (simp only [List.length_drop, List.length_take]; rfl)) ?_; (with_reducible refine (addr_Vid.calls a0 t106 _ A4.out).mono ?_); rintro e w' ⟨rfl, ⟨nd, rfl⟩⟩; refine ⟨_, rfl, ?_⟩))
    go_ret
    exact ⟨by first | rfl | (simp [*] <;> rfl), by repeat (first | exact HB.out | apply below_alloc | apply pw_below_drewN | apply below_drew1)⟩
  ·
   rw [if_neg c5] at H
   have c5b0 : decide (0 < a0) = false := decide_eq_false c5
   clear c5
   by_cases c134 : (t106 == false) = true
   ·
    rw [if_pos c134] at H
    have c134b0 : (t106 == false) = true := c134
    (try (have c134b1 : decide (t106 = false) = true := by simpa using c134))
    (try (have c134b2 : (t106 == false) = true := by simpa using c134))
    clear c134
    replace H := Option.bind_eq_some_iff.mp H
    obtain ⟨t150, A1350, H⟩ := H
    replace H : (if a0 > 1535 then (if (t150 == (decide (a0 < 65536))) = true then ((addr_Length.f a0).bind fun t151 => (if a0 > (-1) then (if (t151 == (decide (a0 < 1501))) = true then ((addr_Type.f a0).bind fun t152 => (if t152 = true then ((addr_Length.f a0).bind fun t153 => (if t153 = true then (some false) else ((addr_Type.f 33024).bind fun t154 => (if t154 = true then ((addr_Type.f 35061).bind fun t155 => (if t155 = true then ((addr_Type.f 35062).bind fun t156 => (if t156 = true then ((addr_Type.f 2048).bind fun t157 => (some t157)) else (some false))) else (some false))) else (some false))))) else ((addr_Type.f 33024).bind fun t158 => (if t158 = true then ((addr_Type.f 35061).bind fun t159 => (if t159 = true then ((addr_Type.f 35062).bind fun t160 => (if t160 = true then ((addr_Type.f 2048).bind fun t161 => (some t161)) else (some false))) else (some false))) else (some false))))) else (some false)) else (if (t151 == false) = true then ((addr_Type.f a0).bind fun t162 => (if t162 = true then ((addr_Length.f a0).bind fun t163 => (if t163 = true then (some false) else ((addr_Type.f 33024).bind fun t164 => (if t164 = true then ((addr_Type.f 35061).bind fun t165 => (if t165 = true then ((addr_Type.f 35062).bind fun t166 => (if t166 = true then ((addr_Type.f 2048).bind fun t167 => (some t167)) else (some false))) else (some false))) else (some false))))) else ((addr_Type.f 33024).bind fun t168 => (if t168 = true then ((addr_Type.f 35061).bind fun t169 => (if t169 = true then ((addr_Type.f 35062).bind fun t170 => (if t170 = true then ((addr_Type.f 2048).bind fun t171 => (some t171)) else (some false))) else (some false))) else (some false))))) else (some false)))) else (some false)) else (if (t150 == false) = true then ((addr_Length.f a0).bind fun t172 => (if a0 > (-1) then (if (t172 == (decide (a0 < 1501))) = true then ((addr_Type.f a0).bind fun t173 => (if t173 = true then ((addr_Length.f a0).bind fun t174 => (if t174 = true then (some false) else ((addr_Type.f 33024).bind fun t175 => (if t175 = true then ((addr_Type.f 35061).bind fun t176 => (if t176 = true then ((addr_Type.f 35062).bind fun t177 => (if t177 = true then ((addr_Type.f 2048).bind fun t178 => (some t178)) else (some false))) else (some false))) else (some false))))) else ((addr_Type.f 33024).bind fun t179 => (if t179 = true then ((addr_Type.f 35061).bind fun t180 => (if t180 = true then ((addr_Type.f 35062).bind fun t181 => (if t181 = true then ((addr_Type.f 2048).bind fun t182 => (some t182)) else (some false))) else (some false))) else (some false))))) else (some false)) else (if (t172 == false) = true then ((addr_Type.f a0).bind fun t183 => (if t183 = true then ((addr_Length.f a0).bind fun t184 => (if t184 = true then (some false) else ((addr_Type.f 33024).bind fun t185 => (if t185 = true then ((addr_Type.f 35061).bind fun t186 => (if t186 = true then ((addr_Type.f 35062).bind fun t187 => (if t187 = true then ((addr_Type.f 2048).bind fun t188 => (some t188)) else (some false))) else (some false))) else (some false))))) else ((addr_Type.f 33024).bind fun t189 => (if t189 = true then ((addr_Type.f 35061).bind fun t190 => (if t190 = true then ((addr_Type.f 35062).bind fun t191 => (if t191 = true then ((addr_Type.f 2048).bind fun t192 => (some t192)) else (some false))) else (some false))) else (some false))))) else (some false)))) else (some false))) = some r := H
    have A135 := Aside0.mk A1350
    clear A1350
    by_cases c136 : a0 > 1535
    ·
     rw [if_pos c136] at H
     have c136b0 : decide (1535 < a0) = true := decide_eq_true c136
     clear c136
     by_cases c137 : (t150 == (decide (a0 < 65536))) = true
     ·
      rw [if_pos c137] at H
      have c137b0 : (t150 == (decide (a0 < 65536))) = true := c137
      (try (have c137b1 : decide (t150 = (decide (a0 < 65536))) = true := by simpa using c137))
      (try (have c137b2 : (t150 == (decide (a0 < 65536))) = true := by simpa using c137))
      clear c137
      replace H := Option.bind_eq_some_iff.mp H
      obtain ⟨t151, A1380, H⟩ := H
      replace H : (if a0 > (-1) then (if (t151 == (decide (a0 < 1501))) = true then ((addr_Type.f a0).bind fun t152 => (if t152 = true then ((addr_Length.f a0).bind fun t153 => (if t153 = true then (some false) else ((addr_Type.f 33024).bind fun t154 => (if t154 = true then ((addr_Type.f 35061).bind fun t155 => (if t155 = true then ((addr_Type.f 35062).bind fun t156 => (if t156 = true then ((addr_Type.f 2048).bind fun t157 => (some t157)) else (some false))) else (some false))) else (some false))))) else ((addr_Type.f 33024).bind fun t158 => (if t158 = true then ((addr_Type.f 35061).bind fun t159 => (if t159 = true then ((addr_Type.f 35062).bind fun t160 => (if t160 = true then ((addr_Type.f 2048).bind fun t161 => (some t161)) else (some false))) else (some false))) else (some false))))) else (some false)) else (if (t151 == false) = true then ((addr_Type.f a0).bind fun t162 => (if t162 = true then ((addr_Length.f a0).bind fun t163 => (if t163 = true then (some false) else ((addr_Type.f 33024).bind fun t164 => (if t164 = true then ((addr_Type.f 35061).bind fun t165 => (if t165 = true then ((addr_Type.f 35062).bind fun t166 => (if t166 = true then ((addr_Type.f 2048).bind fun t167 => (some t167)) else (some false))) else (some false))) else (some false))))) else ((addr_Type.f 33024).bind fun t168 => (if t168 = true then ((addr_Type.f 35061).bind fun t169 => (if t169 = true then ((addr_Type.f 35062).bind fun t170 => (if t170 = true then ((addr_Type.f 2048).bind fun t171 => (some t171)) else (some false))) else (some false))) else (some false))))) else (some false))) = some r := H
      have A138 := Aside0.mk A1380
      clear A1380
      by_cases c139 : a0 > (-1)
      ·
       rw [if_pos c139] at H
       have c139b0 : decide ((-1) < a0) = true := decide_eq_true c139
       clear c139
       by_cases c140 : (t151 == (decide (a0 < 1501))) = true
       ·
        rw [if_pos c140] at H
        have c140b0 : (t151 == (decide (a0 < 1501))) = true := c140
        (try (have c140b1 : decide (t151 = (decide (a0 < 1501))) = true := by simpa using c140))
        (try (have c140b2 : (t151 == (decide (a0 < 1501))) = true := by simpa using c140))
        clear c140
        replace H := Option.bind_eq_some_iff.mp H
        obtain ⟨t152, A1410, H⟩ := H
        try ((with_reducible have e_ := Option.some.inj (A1410.symm.trans A135.out)); subst e_)
        replace H : (if t152 = true then ((addr_Length.f a0).bind fun t153 => (if t153 = true then (some false) else ((addr_Type.f 33024).bind fun t154 => (if t154 = true then ((addr_Type.f 35061).bind fun t155 => (if t155 = true then ((addr_Type.f 35062).bind fun t156 => (if t156 = true then ((addr_Type.f 2048).bind fun t157 => (some t157)) else (some false))) else (some false))) else (some false))))) else ((addr_Type.f 33024).bind fun t158 => (if t158 = true then ((addr_Type.f 35061).bind fun t159 => (if t159 = true then ((addr_Type.f 35062).bind fun t160 => (if t160 = true then ((addr_Type.f 2048).bind fun t161 => (some t161)) else (some false))) else (some false))) else (some false)))) = some r := H
        have A141 := Aside0.mk A1410
        clear A1410
        by_cases c142 : t152 = true
        ·
         subst c142
         rw [if_pos rfl] at H
         replace H := Option.bind_eq_some_iff.mp H
         obtain ⟨t153, A1430, H⟩ := H
         try ((with_reducible have e_ := Option.some.inj (A1430.symm.trans A138.out)); subst e_)
         replace H : (if t153 = true then (some false) else ((addr_Type.f 33024).bind fun t154 => (if t154 = true then ((addr_Type.f 35061).bind fun t155 => (if t155 = true then ((addr_Type.f 35062).bind fun t156 => (if t156 = true then ((addr_Type.f 2048).bind fun t157 => (some t157)) else (some false))) else (some false))) else (some false)))) = some r := H
         have A143 := Aside0.mk A1430
         clear A1430
         by_cases c144 : t153 = true
         ·
          subst c144
          rw [if_pos rfl] at H
          obtain rfl := Option.some.inj H
          go_enter Try.func5, Try.ntmps5
          go_wp2_with (first | ((with_reducible refine gate_callee (f := 8) rfl ?_); refine goesL_ (some 3) rfl rfl Try.func8 (by kernel_rfl) rfl #[] rfl (by (try simp only [List.map_toArray, List.map_cons, List.map_nil]); first | done | rfl | (simp only [List.length_drop, List.length_take]; rfl)) ?_; (with_reducible refine (kissgatelaw02_alive.calls  true _ A2.out).mono ?_); rintro e w145 ⟨rfl, hb⟩; refine ⟨_, rfl, ?_⟩; have n0_ := Aside0.mk (below_step (by repeat (first | (with_reducible first | exact HB.out | apply below_alloc | apply pw_below_drewN | apply below_drew1) | exact HB.out)) hb); clear HB; have HB := n0_; clear n0_; (try clear hb); (try clear hb2); (try clear hk); (try clear hi)) | ((with_reducible refine gate_callee (f := 16) rfl ?_); refine goesL_ (some 6) rfl rfl Try.func16 (by kernel_rfl) rfl #[.int .i64 a0] rfl (by (try simp only [List.map_toArray, List.map_cons, List.map_nil]); first | done | rfl | (simp only [List.length_drop, List.length_take]; rfl)) ?_; (with_reducible refine (addr_Vid.calls a0 t106 _ A4.out).mono ?_); rintro e w' ⟨rfl, ⟨nd, rfl⟩⟩; refine ⟨_, rfl, ?_⟩) | (go_at_call 17; (with_reducible refine (addr_Type.calls a0 t150 _ A135.out).mono ?_); rintro e w' ⟨rfl, ⟨nd, rfl⟩⟩) | (go_at_call 18; (with_reducible refine (addr_Length.calls a0 t151 _ A138.out).mono ?_); rintro e w' ⟨rfl, ⟨nd, rfl⟩⟩) | (go_at_call 17; (with_reducible refine (addr_Type.calls a0 true _ A141.out).mono ?_); rintro e w' ⟨rfl, ⟨nd, rfl⟩⟩) | (go_at_call 18; (with_reducible refine (addr_Length.calls a0 true _ A143.out).mono ?_); rintro e w' ⟨rfl, ⟨nd, rfl⟩⟩))
          go_ret
          exact ⟨by first | rfl | (simp [*] <;> rfl), by repeat (first | exact HB.out | apply below_alloc | apply pw_below_drewN | apply below_drew1)⟩
         ·
          replace c144 := Bool.eq_false_iff.mpr c144
          subst c144
          rw [if_neg (show ¬ (false = true) by decide)] at H
          replace H := Option.bind_eq_some_iff.mp H
          obtain ⟨t154, A1460, H⟩ := H
          replace H : (if t154 = true then ((addr_Type.f 35061).bind fun t155 => (if t155 = true then ((addr_Type.f 35062).bind fun t156 => (if t156 = true then ((addr_Type.f 2048).bind fun t157 => (some t157)) else (some false))) else (some false))) else (some false)) = some r := H
          have A146 := Aside0.mk A1460
          clear A1460
          by_cases c147 : t154 = true
          ·
           subst c147
           rw [if_pos rfl] at H
           replace H := Option.bind_eq_some_iff.mp H
           obtain ⟨t155, A1480, H⟩ := H
           replace H : (if t155 = true then ((addr_Type.f 35062).bind fun t156 => (if t156 = true then ((addr_Type.f 2048).bind fun t157 => (some t157)) else (some false))) else (some false)) = some r := H
           have A148 := Aside0.mk A1480
           clear A1480
           by_cases c149 : t155 = true
           ·
            subst c149
            rw [if_pos rfl] at H
            replace H := Option.bind_eq_some_iff.mp H
            obtain ⟨t156, A1500, H⟩ := H
            replace H : (if t156 = true then ((addr_Type.f 2048).bind fun t157 => (some t157)) else (some false)) = some r := H
            have A150 := Aside0.mk A1500
            clear A1500
            by_cases c151 : t156 = true
            ·
             subst c151
             rw [if_pos rfl] at H
             replace H := Option.bind_eq_some_iff.mp H
             obtain ⟨t157, A1520, H⟩ := H
             replace H : (some t157) = some r := H
             have A152 := Aside0.mk A1520
             clear A1520
             obtain rfl := Option.some.inj H
             go_enter Try.func5, Try.ntmps5
             go_wp2_with (first | ((with_reducible refine gate_callee (f := 8) rfl ?_); refine goesL_ (some 3) rfl rfl Try.func8 (by kernel_rfl) rfl #[] rfl (by (try simp only [List.map_toArray, List.map_cons, List.map_nil]); first | done | rfl | (simp only [List.length_drop, List.length_take]; rfl)) ?_; (with_reducible refine (kissgatelaw02_alive.calls  true _ A2.out).mono ?_); rintro e w153 ⟨rfl, hb⟩; refine ⟨_, rfl, ?_⟩; have n0_ := Aside0.mk (below_step (by repeat (first | (with_reducible first | exact HB.out | apply below_alloc | apply pw_below_drewN | apply below_drew1) | exact HB.out)) hb); clear HB; have HB := n0_; clear n0_; (try clear hb); (try clear hb2); (try clear hk); (try clear hi)) | ((with_reducible refine gate_callee (f := 16) rfl ?_); refine goesL_ (some 6) rfl rfl Try.func16 (by kernel_rfl) rfl #[.int .i64 a0] rfl (by (try simp only [List.map_toArray, List.map_cons, List.map_nil]); first | done | rfl | (simp only [List.length_drop, List.length_take]; rfl)) ?_; (with_reducible refine (addr_Vid.calls a0 t106 _ A4.out).mono ?_); rintro e w' ⟨rfl, ⟨nd, rfl⟩⟩; refine ⟨_, rfl, ?_⟩) | (go_at_call 17; (with_reducible refine (addr_Type.calls a0 t150 _ A135.out).mono ?_); rintro e w' ⟨rfl, ⟨nd, rfl⟩⟩) | (go_at_call 18; (with_reducible refine (addr_Length.calls a0 t151 _ A138.out).mono ?_); rintro e w' ⟨rfl, ⟨nd, rfl⟩⟩) | (go_at_call 17; (with_reducible refine (addr_Type.calls a0 true _ A141.out).mono ?_); rintro e w' ⟨rfl, ⟨nd, rfl⟩⟩) | (go_at_call 18; (with_reducible refine (addr_Length.calls a0 false _ A143.out).mono ?_); rintro e w' ⟨rfl, ⟨nd, rfl⟩⟩) | (go_at_call 17; (with_reducible refine (addr_Type.calls 33024 true _ A146.out).mono ?_); rintro e w' ⟨rfl, ⟨nd, rfl⟩⟩) | (go_at_call 17; (with_reducible refine (addr_Type.calls 35061 true _ A148.out).mono ?_); rintro e w' ⟨rfl, ⟨nd, rfl⟩⟩) | (go_at_call 17; (with_reducible refine (addr_Type.calls 35062 true _ A150.out).mono ?_); rintro e w' ⟨rfl, ⟨nd, rfl⟩⟩) | (go_at_call 17; (with_reducible refine (addr_Type.calls 2048 t157 _ A152.out).mono ?_); rintro e w' ⟨rfl, ⟨nd, rfl⟩⟩))
             go_ret
             exact ⟨by first | rfl | (simp [*] <;> rfl), by repeat (first | exact HB.out | apply below_alloc | apply pw_below_drewN | apply below_drew1)⟩
            ·
             replace c151 := Bool.eq_false_iff.mpr c151
             subst c151
             rw [if_neg (show ¬ (false = true) by decide)] at H
             obtain rfl := Option.some.inj H
             go_enter Try.func5, Try.ntmps5
             go_wp2_with (first | ((with_reducible refine gate_callee (f := 8) rfl ?_); refine goesL_ (some 3) rfl rfl Try.func8 (by kernel_rfl) rfl #[] rfl (by (try simp only [List.map_toArray, List.map_cons, List.map_nil]); first | done | rfl | (simp only [List.length_drop, List.length_take]; rfl)) ?_; (with_reducible refine (kissgatelaw02_alive.calls  true _ A2.out).mono ?_); rintro e w154 ⟨rfl, hb⟩; refine ⟨_, rfl, ?_⟩; have n0_ := Aside0.mk (below_step (by repeat (first | (with_reducible first | exact HB.out | apply below_alloc | apply pw_below_drewN | apply below_drew1) | exact HB.out)) hb); clear HB; have HB := n0_; clear n0_; (try clear hb); (try clear hb2); (try clear hk); (try clear hi)) | ((with_reducible refine gate_callee (f := 16) rfl ?_); refine goesL_ (some 6) rfl rfl Try.func16 (by kernel_rfl) rfl #[.int .i64 a0] rfl (by (try simp only [List.map_toArray, List.map_cons, List.map_nil]); first | done | rfl | (simp only [List.length_drop, List.length_take]; rfl)) ?_; (with_reducible refine (addr_Vid.calls a0 t106 _ A4.out).mono ?_); rintro e w' ⟨rfl, ⟨nd, rfl⟩⟩; refine ⟨_, rfl, ?_⟩) | (go_at_call 17; (with_reducible refine (addr_Type.calls a0 t150 _ A135.out).mono ?_); rintro e w' ⟨rfl, ⟨nd, rfl⟩⟩) | (go_at_call 18; (with_reducible refine (addr_Length.calls a0 t151 _ A138.out).mono ?_); rintro e w' ⟨rfl, ⟨nd, rfl⟩⟩) | (go_at_call 17; (with_reducible refine (addr_Type.calls a0 true _ A141.out).mono ?_); rintro e w' ⟨rfl, ⟨nd, rfl⟩⟩) | (go_at_call 18; (with_reducible refine (addr_Length.calls a0 false _ A143.out).mono ?_); rintro e w' ⟨rfl, ⟨nd, rfl⟩⟩) | (go_at_call 17; (with_reducible refine (addr_Type.calls 33024 true _ A146.out).mono ?_); rintro e w' ⟨rfl, ⟨nd, rfl⟩⟩) | (go_at_call 17; (with_reducible refine (addr_Type.calls 35061 true _ A148.out).mono ?_); rintro e w' ⟨rfl, ⟨nd, rfl⟩⟩) | (go_at_call 17; (with_reducible refine (addr_Type.calls 35062 false _ A150.out).mono ?_); rintro e w' ⟨rfl, ⟨nd, rfl⟩⟩))
             go_ret
             exact ⟨by first | rfl | (simp [*] <;> rfl), by repeat (first | exact HB.out | apply below_alloc | apply pw_below_drewN | apply below_drew1)⟩
           ·
            replace c149 := Bool.eq_false_iff.mpr c149
            subst c149
            rw [if_neg (show ¬ (false = true) by decide)] at H
            obtain rfl := Option.some.inj H
            go_enter Try.func5, Try.ntmps5
            go_wp2_with (first | ((with_reducible refine gate_callee (f := 8) rfl ?_); refine goesL_ (some 3) rfl rfl Try.func8 (by kernel_rfl) rfl #[] rfl (by (try simp only [List.map_toArray, List.map_cons, List.map_nil]); first | done | rfl | (simp only [List.length_drop, List.length_take]; rfl)) ?_; (with_reducible refine (kissgatelaw02_alive.calls  true _ A2.out).mono ?_); rintro e w155 ⟨rfl, hb⟩; refine ⟨_, rfl, ?_⟩; have n0_ := Aside0.mk (below_step (by repeat (first | (with_reducible first | exact HB.out | apply below_alloc | apply pw_below_drewN | apply below_drew1) | exact HB.out)) hb); clear HB; have HB := n0_; clear n0_; (try clear hb); (try clear hb2); (try clear hk); (try clear hi)) | ((with_reducible refine gate_callee (f := 16) rfl ?_); refine goesL_ (some 6) rfl rfl Try.func16 (by kernel_rfl) rfl #[.int .i64 a0] rfl (by (try simp only [List.map_toArray, List.map_cons, List.map_nil]); first | done | rfl | (simp only [List.length_drop, List.length_take]; rfl)) ?_; (with_reducible refine (addr_Vid.calls a0 t106 _ A4.out).mono ?_); rintro e w' ⟨rfl, ⟨nd, rfl⟩⟩; refine ⟨_, rfl, ?_⟩) | (go_at_call 17; (with_reducible refine (addr_Type.calls a0 t150 _ A135.out).mono ?_); rintro e w' ⟨rfl, ⟨nd, rfl⟩⟩) | (go_at_call 18; (with_reducible refine (addr_Length.calls a0 t151 _ A138.out).mono ?_); rintro e w' ⟨rfl, ⟨nd, rfl⟩⟩) | (go_at_call 17; (with_reducible refine (addr_Type.calls a0 true _ A141.out).mono ?_); rintro e w' ⟨rfl, ⟨nd, rfl⟩⟩) | (go_at_call 18; (with_reducible refine (addr_Length.calls a0 false _ A143.out).mono ?_); rintro e w' ⟨rfl, ⟨nd, rfl⟩⟩) | (go_at_call 17; (with_reducible refine (addr_Type.calls 33024 true _ A146.out).mono ?_); rintro e w' ⟨rfl, ⟨nd, rfl⟩⟩) | (go_at_call 17; (with_reducible refine (addr_Type.calls 35061 false _ A148.out).mono ?_); rintro e w' ⟨rfl, ⟨nd, rfl⟩⟩))
            go_ret
            exact ⟨by first | rfl | (simp [*] <;> rfl), by repeat (first | exact HB.out | apply below_alloc | apply pw_below_drewN | apply below_drew1)⟩
          ·
           replace c147 := Bool.eq_false_iff.mpr c147
           subst c147
           rw [if_neg (show ¬ (false = true) by decide)] at H
           obtain rfl := Option.some.inj H
           go_enter Try.func5, Try.ntmps5
           go_wp2_with (first | ((with_reducible refine gate_callee (f := 8) rfl ?_); refine goesL_ (some 3) rfl rfl Try.func8 (by kernel_rfl) rfl #[] rfl (by (try simp only [List.map_toArray, List.map_cons, List.map_nil]); first | done | rfl | (simp only [List.length_drop, List.length_take]; rfl)) ?_; (with_reducible refine (kissgatelaw02_alive.calls  true _ A2.out).mono ?_); rintro e w156 ⟨rfl, hb⟩; refine ⟨_, rfl, ?_⟩; have n0_ := Aside0.mk (below_step (by repeat (first | (with_reducible first | exact HB.out | apply below_alloc | apply pw_below_drewN | apply below_drew1) | exact HB.out)) hb); clear HB; have HB := n0_; clear n0_; (try clear hb); (try clear hb2); (try clear hk); (try clear hi)) | ((with_reducible refine gate_callee (f := 16) rfl ?_); refine goesL_ (some 6) rfl rfl Try.func16 (by kernel_rfl) rfl #[.int .i64 a0] rfl (by (try simp only [List.map_toArray, List.map_cons, List.map_nil]); first | done | rfl | (simp only [List.length_drop, List.length_take]; rfl)) ?_; (with_reducible refine (addr_Vid.calls a0 t106 _ A4.out).mono ?_); rintro e w' ⟨rfl, ⟨nd, rfl⟩⟩; refine ⟨_, rfl, ?_⟩) | (go_at_call 17; (with_reducible refine (addr_Type.calls a0 t150 _ A135.out).mono ?_); rintro e w' ⟨rfl, ⟨nd, rfl⟩⟩) | (go_at_call 18; (with_reducible refine (addr_Length.calls a0 t151 _ A138.out).mono ?_); rintro e w' ⟨rfl, ⟨nd, rfl⟩⟩) | (go_at_call 17; (with_reducible refine (addr_Type.calls a0 true _ A141.out).mono ?_); rintro e w' ⟨rfl, ⟨nd, rfl⟩⟩) | (go_at_call 18; (with_reducible refine (addr_Length.calls a0 false _ A143.out).mono ?_); rintro e w' ⟨rfl, ⟨nd, rfl⟩⟩) | (go_at_call 17; (with_reducible refine (addr_Type.calls 33024 false _ A146.out).mono ?_); rintro e w' ⟨rfl, ⟨nd, rfl⟩⟩))
           go_ret
           exact ⟨by first | rfl | (simp [*] <;> rfl), by repeat (first | exact HB.out | apply below_alloc | apply pw_below_drewN | apply below_drew1)⟩
        ·
         replace c142 := Bool.eq_false_iff.mpr c142
         subst c142
         rw [if_neg (show ¬ (false = true) by decide)] at H
         replace H := Option.bind_eq_some_iff.mp H
         obtain ⟨t158, A1570, H⟩ := H
         replace H : (if t158 = true then ((addr_Type.f 35061).bind fun t159 => (if t159 = true then ((addr_Type.f 35062).bind fun t160 => (if t160 = true then ((addr_Type.f 2048).bind fun t161 => (some t161)) else (some false))) else (some false))) else (some false)) = some r := H
         have A157 := Aside0.mk A1570
         clear A1570
         by_cases c158 : t158 = true
         ·
          subst c158
          rw [if_pos rfl] at H
          replace H := Option.bind_eq_some_iff.mp H
          obtain ⟨t159, A1590, H⟩ := H
          replace H : (if t159 = true then ((addr_Type.f 35062).bind fun t160 => (if t160 = true then ((addr_Type.f 2048).bind fun t161 => (some t161)) else (some false))) else (some false)) = some r := H
          have A159 := Aside0.mk A1590
          clear A1590
          by_cases c160 : t159 = true
          ·
           subst c160
           rw [if_pos rfl] at H
           replace H := Option.bind_eq_some_iff.mp H
           obtain ⟨t160, A1610, H⟩ := H
           replace H : (if t160 = true then ((addr_Type.f 2048).bind fun t161 => (some t161)) else (some false)) = some r := H
           have A161 := Aside0.mk A1610
           clear A1610
           by_cases c162 : t160 = true
           ·
            subst c162
            rw [if_pos rfl] at H
            replace H := Option.bind_eq_some_iff.mp H
            obtain ⟨t161, A1630, H⟩ := H
            replace H : (some t161) = some r := H
            have A163 := Aside0.mk A1630
            clear A1630
            obtain rfl := Option.some.inj H
            go_enter Try.func5, Try.ntmps5
            go_wp2_with (first | ((with_reducible refine gate_callee (f := 8) rfl ?_); refine goesL_ (some 3) rfl rfl Try.func8 (by kernel_rfl) rfl #[] rfl (by (try simp only [List.map_toArray, List.map_cons, List.map_nil]); first | done | rfl | (simp only [List.length_drop, List.length_take]; rfl)) ?_; (with_reducible refine (kissgatelaw02_alive.calls  true _ A2.out).mono ?_); rintro e w164 ⟨rfl, hb⟩; refine ⟨_, rfl, ?_⟩; have n0_ := Aside0.mk (below_step (by repeat (first | (with_reducible first | exact HB.out | apply below_alloc | apply pw_below_drewN | apply below_drew1) | exact HB.out)) hb); clear HB; have HB := n0_; clear n0_; (try clear hb); (try clear hb2); (try clear hk); (try clear hi)) | ((with_reducible refine gate_callee (f := 16) rfl ?_); refine goesL_ (some 6) rfl rfl Try.func16 (by kernel_rfl) rfl #[.int .i64 a0] rfl (by (try simp only [List.map_toArray, List.map_cons, List.map_nil]); first | done | rfl | (simp only [List.length_drop, List.length_take]; rfl)) ?_; (with_reducible refine (addr_Vid.calls a0 t106 _ A4.out).mono ?_); rintro e w' ⟨rfl, ⟨nd, rfl⟩⟩; refine ⟨_, rfl, ?_⟩) | (go_at_call 17; (with_reducible refine (addr_Type.calls a0 t150 _ A135.out).mono ?_); rintro e w' ⟨rfl, ⟨nd, rfl⟩⟩) | (go_at_call 18; (with_reducible refine (addr_Length.calls a0 t151 _ A138.out).mono ?_); rintro e w' ⟨rfl, ⟨nd, rfl⟩⟩) | (go_at_call 17; (with_reducible refine (addr_Type.calls a0 false _ A141.out).mono ?_); rintro e w' ⟨rfl, ⟨nd, rfl⟩⟩) | (go_at_call 17; (with_reducible refine (addr_Type.calls 33024 true _ A157.out).mono ?_); rintro e w' ⟨rfl, ⟨nd, rfl⟩⟩) | (go_at_call 17; (with_reducible refine (addr_Type.calls 35061 true _ A159.out).mono ?_); rintro e w' ⟨rfl, ⟨nd, rfl⟩⟩) | (go_at_call 17; (with_reducible refine (addr_Type.calls 35062 true _ A161.out).mono ?_); rintro e w' ⟨rfl, ⟨nd, rfl⟩⟩) | (go_at_call 17; (with_reducible refine (addr_Type.calls 2048 t161 _ A163.out).mono ?_); rintro e w' ⟨rfl, ⟨nd, rfl⟩⟩))
            go_ret
            exact ⟨by first | rfl | (simp [*] <;> rfl), by repeat (first | exact HB.out | apply below_alloc | apply pw_below_drewN | apply below_drew1)⟩
           ·
            replace c162 := Bool.eq_false_iff.mpr c162
            subst c162
            rw [if_neg (show ¬ (false = true) by decide)] at H
            obtain rfl := Option.some.inj H
            go_enter Try.func5, Try.ntmps5
            go_wp2_with (first | ((with_reducible refine gate_callee (f := 8) rfl ?_); refine goesL_ (some 3) rfl rfl Try.func8 (by kernel_rfl) rfl #[] rfl (by (try simp only [List.map_toArray, List.map_cons, List.map_nil]); first | done | rfl | (simp only [List.length_drop, List.length_take]; rfl)) ?_; (with_reducible refine (kissgatelaw02_alive.calls  true _ A2.out).mono ?_); rintro e w165 ⟨rfl, hb⟩; refine ⟨_, rfl, ?_⟩; have n0_ := Aside0.mk (below_step (by repeat (first | (with_reducible first | exact HB.out | apply below_alloc | apply pw_below_drewN | apply below_drew1) | exact HB.out)) hb); clear HB; have HB := n0_; clear n0_; (try clear hb); (try clear hb2); (try clear hk); (try clear hi)) | ((with_reducible refine gate_callee (f := 16) rfl ?_); refine goesL_ (some 6) rfl rfl Try.func16 (by kernel_rfl) rfl #[.int .i64 a0] rfl (by (try simp only [List.map_toArray, List.map_cons, List.map_nil]); first | done | rfl | (simp only [List.length_drop, List.length_take]; rfl)) ?_; (with_reducible refine (addr_Vid.calls a0 t106 _ A4.out).mono ?_); rintro e w' ⟨rfl, ⟨nd, rfl⟩⟩; refine ⟨_, rfl, ?_⟩) | (go_at_call 17; (with_reducible refine (addr_Type.calls a0 t150 _ A135.out).mono ?_); rintro e w' ⟨rfl, ⟨nd, rfl⟩⟩) | (go_at_call 18; (with_reducible refine (addr_Length.calls a0 t151 _ A138.out).mono ?_); rintro e w' ⟨rfl, ⟨nd, rfl⟩⟩) | (go_at_call 17; (with_reducible refine (addr_Type.calls a0 false _ A141.out).mono ?_); rintro e w' ⟨rfl, ⟨nd, rfl⟩⟩) | (go_at_call 17; (with_reducible refine (addr_Type.calls 33024 true _ A157.out).mono ?_); rintro e w' ⟨rfl, ⟨nd, rfl⟩⟩) | (go_at_call 17; (with_reducible refine (addr_Type.calls 35061 true _ A159.out).mono ?_); rintro e w' ⟨rfl, ⟨nd, rfl⟩⟩) | (go_at_call 17; (with_reducible refine (addr_Type.calls 35062 false _ A161.out).mono ?_); rintro e w' ⟨rfl, ⟨nd, rfl⟩⟩))
            go_ret
            exact ⟨by first | rfl | (simp [*] <;> rfl), by repeat (first | exact HB.out | apply below_alloc | apply pw_below_drewN | apply below_drew1)⟩
          ·
           replace c160 := Bool.eq_false_iff.mpr c160
           subst c160
           rw [if_neg (show ¬ (false = true) by decide)] at H
           obtain rfl := Option.some.inj H
           go_enter Try.func5, Try.ntmps5
           go_wp2_with (first | ((with_reducible refine gate_callee (f := 8) rfl ?_); refine goesL_ (some 3) rfl rfl Try.func8 (by kernel_rfl) rfl #[] rfl (by (try simp only [List.map_toArray, List.map_cons, List.map_nil]); first | done | rfl | (simp only [List.length_drop, List.length_take]; rfl)) ?_; (with_reducible refine (kissgatelaw02_alive.calls  true _ A2.out).mono ?_); rintro e w166 ⟨rfl, hb⟩; refine ⟨_, rfl, ?_⟩; have n0_ := Aside0.mk (below_step (by repeat (first | (with_reducible first | exact HB.out | apply below_alloc | apply pw_below_drewN | apply below_drew1) | exact HB.out)) hb); clear HB; have HB := n0_; clear n0_; (try clear hb); (try clear hb2); (try clear hk); (try clear hi)) | ((with_reducible refine gate_callee (f := 16) rfl ?_); refine goesL_ (some 6) rfl rfl Try.func16 (by kernel_rfl) rfl #[.int .i64 a0] rfl (by (try simp only [List.map_toArray, List.map_cons, List.map_nil]); first | done | rfl | (simp only [List.length_drop, List.length_take]; rfl)) ?_; (with_reducible refine (addr_Vid.calls a0 t106 _ A4.out).mono ?_); rintro e w' ⟨rfl, ⟨nd, rfl⟩⟩; refine ⟨_, rfl, ?_⟩) | (go_at_call 17; (with_reducible refine (addr_Type.calls a0 t150 _ A135.out).mono ?_); rintro e w' ⟨rfl, ⟨nd, rfl⟩⟩) | (go_at_call 18; (with_reducible refine (addr_Length.calls a0 t151 _ A138.out).mono ?_); rintro e w' ⟨rfl, ⟨nd, rfl⟩⟩) | (go_at_call 17; (with_reducible refine (addr_Type.calls a0 false _ A141.out).mono ?_); rintro e w' ⟨rfl, ⟨nd, rfl⟩⟩) | (go_at_call 17; (with_reducible refine (addr_Type.calls 33024 true _ A157.out).mono ?_); rintro e w' ⟨rfl, ⟨nd, rfl⟩⟩) | (go_at_call 17; (with_reducible refine (addr_Type.calls 35061 false _ A159.out).mono ?_); rintro e w' ⟨rfl, ⟨nd, rfl⟩⟩))
           go_ret
           exact ⟨by first | rfl | (simp [*] <;> rfl), by repeat (first | exact HB.out | apply below_alloc | apply pw_below_drewN | apply below_drew1)⟩
         ·
          replace c158 := Bool.eq_false_iff.mpr c158
          subst c158
          rw [if_neg (show ¬ (false = true) by decide)] at H
          obtain rfl := Option.some.inj H
          go_enter Try.func5, Try.ntmps5
          go_wp2_with (first | ((with_reducible refine gate_callee (f := 8) rfl ?_); refine goesL_ (some 3) rfl rfl Try.func8 (by kernel_rfl) rfl #[] rfl (by (try simp only [List.map_toArray, List.map_cons, List.map_nil]); first | done | rfl | (simp only [List.length_drop, List.length_take]; rfl)) ?_; (with_reducible refine (kissgatelaw02_alive.calls  true _ A2.out).mono ?_); rintro e w167 ⟨rfl, hb⟩; refine ⟨_, rfl, ?_⟩; have n0_ := Aside0.mk (below_step (by repeat (first | (with_reducible first | exact HB.out | apply below_alloc | apply pw_below_drewN | apply below_drew1) | exact HB.out)) hb); clear HB; have HB := n0_; clear n0_; (try clear hb); (try clear hb2); (try clear hk); (try clear hi)) | ((with_reducible refine gate_callee (f := 16) rfl ?_); refine goesL_ (some 6) rfl rfl Try.func16 (by kernel_rfl) rfl #[.int .i64 a0] rfl (by (try simp only [List.map_toArray, List.map_cons, List.map_nil]); first | done | rfl | (simp only [List.length_drop, List.length_take]; rfl)) ?_; (with_reducible refine (addr_Vid.calls a0 t106 _ A4.out).mono ?_); rintro e w' ⟨rfl, ⟨nd, rfl⟩⟩; refine ⟨_, rfl, ?_⟩) | (go_at_call 17; (with_reducible refine (addr_Type.calls a0 t150 _ A135.out).mono ?_); rintro e w' ⟨rfl, ⟨nd, rfl⟩⟩) | (go_at_call 18; (with_reducible refine (addr_Length.calls a0 t151 _ A138.out).mono ?_); rintro e w' ⟨rfl, ⟨nd, rfl⟩⟩) | (go_at_call 17; (with_reducible refine (addr_Type.calls a0 false _ A141.out).mono ?_); rintro e w' ⟨rfl, ⟨nd, rfl⟩⟩) | (go_at_call 17; (with_reducible refine (addr_Type.calls 33024 false _ A157.out).mono ?_); rintro e w' ⟨rfl, ⟨nd, rfl⟩⟩))
          go_ret
          exact ⟨by first | rfl | (simp [*] <;> rfl), by repeat (first | exact HB.out | apply below_alloc | apply pw_below_drewN | apply below_drew1)⟩
       ·
        rw [if_neg c140] at H
        have c140b0 : (t151 == (decide (a0 < 1501))) = false := by simpa using c140
        (try (have c140b1 : decide (t151 = (decide (a0 < 1501))) = false := by simpa using c140))
        (try (have c140b2 : (t151 == (decide (a0 < 1501))) = false := by simpa using c140))
        (try (have c140b3 : ¬ (t151 = (decide (a0 < 1501))) := by simpa using c140))
        clear c140
        obtain rfl := Option.some.inj H
        go_enter Try.func5, Try.ntmps5
        go_wp2_with (first | ((with_reducible refine gate_callee (f := 8) rfl ?_); refine goesL_ (some 3) rfl rfl Try.func8 (by kernel_rfl) rfl #[] rfl (by (try simp only [List.map_toArray, List.map_cons, List.map_nil]); first | done | rfl | (simp only [List.length_drop, List.length_take]; rfl)) ?_; (with_reducible refine (kissgatelaw02_alive.calls  true _ A2.out).mono ?_); rintro e w168 ⟨rfl, hb⟩; refine ⟨_, rfl, ?_⟩; have n0_ := Aside0.mk (below_step (by repeat (first | (with_reducible first | exact HB.out | apply below_alloc | apply pw_below_drewN | apply below_drew1) | exact HB.out)) hb); clear HB; have HB := n0_; clear n0_; (try clear hb); (try clear hb2); (try clear hk); (try clear hi)) | ((with_reducible refine gate_callee (f := 16) rfl ?_); refine goesL_ (some 6) rfl rfl Try.func16 (by kernel_rfl) rfl #[.int .i64 a0] rfl (by (try simp only [List.map_toArray, List.map_cons, List.map_nil]); first | done | rfl | (simp only [List.length_drop, List.length_take]; rfl)) ?_; (with_reducible refine (addr_Vid.calls a0 t106 _ A4.out).mono ?_); rintro e w' ⟨rfl, ⟨nd, rfl⟩⟩; refine ⟨_, rfl, ?_⟩) | (go_at_call 17; (with_reducible refine (addr_Type.calls a0 t150 _ A135.out).mono ?_); rintro e w' ⟨rfl, ⟨nd, rfl⟩⟩) | (go_at_call 18; (with_reducible refine (addr_Length.calls a0 t151 _ A138.out).mono ?_); rintro e w' ⟨rfl, ⟨nd, rfl⟩⟩))
        go_ret
        exact ⟨by first | rfl | (simp [*] <;> rfl), by repeat (first | exact HB.out | apply below_alloc | apply pw_below_drewN | apply below_drew1)⟩
      ·
       rw [if_neg c139] at H
       have c139b0 : decide ((-1) < a0) = false := decide_eq_false c139
       clear c139
       by_cases c169 : (t151 == false) = true
       ·
        rw [if_pos c169] at H
        have c169b0 : (t151 == false) = true := c169
        (try (have c169b1 : decide (t151 = false) = true := by simpa using c169))
        (try (have c169b2 : (t151 == false) = true := by simpa using c169))
        clear c169
        replace H := Option.bind_eq_some_iff.mp H
        obtain ⟨t162, A1700, H⟩ := H
        try ((with_reducible have e_ := Option.some.inj (A1700.symm.trans A135.out)); subst e_)
        replace H : (if t162 = true then ((addr_Length.f a0).bind fun t163 => (if t163 = true then (some false) else ((addr_Type.f 33024).bind fun t164 => (if t164 = true then ((addr_Type.f 35061).bind fun t165 => (if t165 = true then ((addr_Type.f 35062).bind fun t166 => (if t166 = true then ((addr_Type.f 2048).bind fun t167 => (some t167)) else (some false))) else (some false))) else (some false))))) else ((addr_Type.f 33024).bind fun t168 => (if t168 = true then ((addr_Type.f 35061).bind fun t169 => (if t169 = true then ((addr_Type.f 35062).bind fun t170 => (if t170 = true then ((addr_Type.f 2048).bind fun t171 => (some t171)) else (some false))) else (some false))) else (some false)))) = some r := H
        have A170 := Aside0.mk A1700
        clear A1700
        by_cases c171 : t162 = true
        ·
         subst c171
         rw [if_pos rfl] at H
         replace H := Option.bind_eq_some_iff.mp H
         obtain ⟨t163, A1720, H⟩ := H
         try ((with_reducible have e_ := Option.some.inj (A1720.symm.trans A138.out)); subst e_)
         replace H : (if t163 = true then (some false) else ((addr_Type.f 33024).bind fun t164 => (if t164 = true then ((addr_Type.f 35061).bind fun t165 => (if t165 = true then ((addr_Type.f 35062).bind fun t166 => (if t166 = true then ((addr_Type.f 2048).bind fun t167 => (some t167)) else (some false))) else (some false))) else (some false)))) = some r := H
         have A172 := Aside0.mk A1720
         clear A1720
         by_cases c173 : t163 = true
         ·
          subst c173
          rw [if_pos rfl] at H
          obtain rfl := Option.some.inj H
          go_enter Try.func5, Try.ntmps5
          go_wp2_with (first | ((with_reducible refine gate_callee (f := 8) rfl ?_); refine goesL_ (some 3) rfl rfl Try.func8 (by kernel_rfl) rfl #[] rfl (by (try simp only [List.map_toArray, List.map_cons, List.map_nil]); first | done | rfl | (simp only [List.length_drop, List.length_take]; rfl)) ?_; (with_reducible refine (kissgatelaw02_alive.calls  true _ A2.out).mono ?_); rintro e w174 ⟨rfl, hb⟩; refine ⟨_, rfl, ?_⟩; have n0_ := Aside0.mk (below_step (by repeat (first | (with_reducible first | exact HB.out | apply below_alloc | apply pw_below_drewN | apply below_drew1) | exact HB.out)) hb); clear HB; have HB := n0_; clear n0_; (try clear hb); (try clear hb2); (try clear hk); (try clear hi)) | ((with_reducible refine gate_callee (f := 16) rfl ?_); refine goesL_ (some 6) rfl rfl Try.func16 (by kernel_rfl) rfl #[.int .i64 a0] rfl (by (try simp only [List.map_toArray, List.map_cons, List.map_nil]); first | done | rfl | (simp only [List.length_drop, List.length_take]; rfl)) ?_; (with_reducible refine (addr_Vid.calls a0 t106 _ A4.out).mono ?_); rintro e w' ⟨rfl, ⟨nd, rfl⟩⟩; refine ⟨_, rfl, ?_⟩) | (go_at_call 17; (with_reducible refine (addr_Type.calls a0 t150 _ A135.out).mono ?_); rintro e w' ⟨rfl, ⟨nd, rfl⟩⟩) | (go_at_call 18; (with_reducible refine (addr_Length.calls a0 t151 _ A138.out).mono ?_); rintro e w' ⟨rfl, ⟨nd, rfl⟩⟩) | (go_at_call 17; (with_reducible refine (addr_Type.calls a0 true _ A170.out).mono ?_); rintro e w' ⟨rfl, ⟨nd, rfl⟩⟩) | (go_at_call 18; (with_reducible refine (addr_Length.calls a0 true _ A172.out).mono ?_); rintro e w' ⟨rfl, ⟨nd, rfl⟩⟩))
          go_ret
          exact ⟨by first | rfl | (simp [*] <;> rfl), by repeat (first | exact HB.out | apply below_alloc | apply pw_below_drewN | apply below_drew1)⟩
         ·
          replace c173 := Bool.eq_false_iff.mpr c173
          subst c173
          rw [if_neg (show ¬ (false = true) by decide)] at H
          replace H := Option.bind_eq_some_iff.mp H
          obtain ⟨t164, A1750, H⟩ := H
          replace H : (if t164 = true then ((addr_Type.f 35061).bind fun t165 => (if t165 = true then ((addr_Type.f 35062).bind fun t166 => (if t166 = true then ((addr_Type.f 2048).bind fun t167 => (some t167)) else (some false))) else (some false))) else (some false)) = some r := H
          have A175 := Aside0.mk A1750
          clear A1750
          by_cases c176 : t164 = true
          ·
           subst c176
           rw [if_pos rfl] at H
           replace H := Option.bind_eq_some_iff.mp H
           obtain ⟨t165, A1770, H⟩ := H
           replace H : (if t165 = true then ((addr_Type.f 35062).bind fun t166 => (if t166 = true then ((addr_Type.f 2048).bind fun t167 => (some t167)) else (some false))) else (some false)) = some r := H
           have A177 := Aside0.mk A1770
           clear A1770
           by_cases c178 : t165 = true
           ·
            subst c178
            rw [if_pos rfl] at H
            replace H := Option.bind_eq_some_iff.mp H
            obtain ⟨t166, A1790, H⟩ := H
            replace H : (if t166 = true then ((addr_Type.f 2048).bind fun t167 => (some t167)) else (some false)) = some r := H
            have A179 := Aside0.mk A1790
            clear A1790
            by_cases c180 : t166 = true
            ·
             subst c180
             rw [if_pos rfl] at H
             replace H := Option.bind_eq_some_iff.mp H
             obtain ⟨t167, A1810, H⟩ := H
             replace H : (some t167) = some r := H
             have A181 := Aside0.mk A1810
             clear A1810
             obtain rfl := Option.some.inj H
             go_enter Try.func5, Try.ntmps5
             go_wp2_with (first | ((with_reducible refine gate_callee (f := 8) rfl ?_); refine goesL_ (some 3) rfl rfl Try.func8 (by kernel_rfl) rfl #[] rfl (by (try simp only [List.map_toArray, List.map_cons, List.map_nil]); first | done | rfl | (simp only [List.length_drop, List.length_take]; rfl)) ?_; (with_reducible refine (kissgatelaw02_alive.calls  true _ A2.out).mono ?_); rintro e w182 ⟨rfl, hb⟩; refine ⟨_, rfl, ?_⟩; have n0_ := Aside0.mk (below_step (by repeat (first | (with_reducible first | exact HB.out | apply below_alloc | apply pw_below_drewN | apply below_drew1) | exact HB.out)) hb); clear HB; have HB := n0_; clear n0_; (try clear hb); (try clear hb2); (try clear hk); (try clear hi)) | ((with_reducible refine gate_callee (f := 16) rfl ?_); refine goesL_ (some 6) rfl rfl Try.func16 (by kernel_rfl) rfl #[.int .i64 a0] rfl (by (try simp only [List.map_toArray, List.map_cons, List.map_nil]); first | done | rfl | (simp only [List.length_drop, List.length_take]; rfl)) ?_; (with_reducible refine (addr_Vid.calls a0 t106 _ A4.out).mono ?_); rintro e w' ⟨rfl, ⟨nd, rfl⟩⟩; refine ⟨_, rfl, ?_⟩) | (go_at_call 17; (with_reducible refine (addr_Type.calls a0 t150 _ A135.out).mono ?_); rintro e w' ⟨rfl, ⟨nd, rfl⟩⟩) | (go_at_call 18; (with_reducible refine (addr_Length.calls a0 t151 _ A138.out).mono ?_); rintro e w' ⟨rfl, ⟨nd, rfl⟩⟩) | (go_at_call 17; (with_reducible refine (addr_Type.calls a0 true _ A170.out).mono ?_); rintro e w' ⟨rfl, ⟨nd, rfl⟩⟩) | (go_at_call 18; (with_reducible refine (addr_Length.calls a0 false _ A172.out).mono ?_); rintro e w' ⟨rfl, ⟨nd, rfl⟩⟩) | (go_at_call 17; (with_reducible refine (addr_Type.calls 33024 true _ A175.out).mono ?_); rintro e w' ⟨rfl, ⟨nd, rfl⟩⟩) | (go_at_call 17; (with_reducible refine (addr_Type.calls 35061 true _ A177.out).mono ?_); rintro e w' ⟨rfl, ⟨nd, rfl⟩⟩) | (go_at_call 17; (with_reducible refine (addr_Type.calls 35062 true _ A179.out).mono ?_); rintro e w' ⟨rfl, ⟨nd, rfl⟩⟩) | (go_at_call 17; (with_reducible refine (addr_Type.calls 2048 t167 _ A181.out).mono ?_); rintro e w' ⟨rfl, ⟨nd, rfl⟩⟩))
             go_ret
             exact ⟨by first | rfl | (simp [*] <;> rfl), by repeat (first | exact HB.out | apply below_alloc | apply pw_below_drewN | apply below_drew1)⟩
            ·
             replace c180 := Bool.eq_false_iff.mpr c180
             subst c180
             rw [if_neg (show ¬ (false = true) by decide)] at H
             obtain rfl := Option.some.inj H
             go_enter Try.func5, Try.ntmps5
             go_wp2_with (first | ((with_reducible refine gate_callee (f := 8) rfl ?_); refine goesL_ (some 3) rfl rfl Try.func8 (by kernel_rfl) rfl #[] rfl (by (try simp only [List.map_toArray, List.map_cons, List.map_nil]); first | done | rfl | (simp only [List.length_drop, List.length_take]; rfl)) ?_; (with_reducible refine (kissgatelaw02_alive.calls  true _ A2.out).mono ?_); rintro e w183 ⟨rfl, hb⟩; refine ⟨_, rfl, ?_⟩; have n0_ := Aside0.mk (below_step (by repeat (first | (with_reducible first | exact HB.out | apply below_alloc | apply pw_below_drewN | apply below_drew1) | exact HB.out)) hb); clear HB; have HB := n0_; clear n0_; (try clear hb); (try clear hb2); (try clear hk); (try clear hi)) | ((with_reducible refine gate_callee (f := 16) rfl ?_); refine goesL_ (some 6) rfl rfl Try.func16 (by kernel_rfl) rfl #[.int .i64 a0] rfl (by (try simp only [List.map_toArray, List.map_cons, List.map_nil]); first | done | rfl | (simp only [List.length_drop, List.length_take]; rfl)) ?_; (with_reducible refine (addr_Vid.calls a0 t106 _ A4.out).mono ?_); rintro e w' ⟨rfl, ⟨nd, rfl⟩⟩; refine ⟨_, rfl, ?_⟩) | (go_at_call 17; (with_reducible refine (addr_Type.calls a0 t150 _ A135.out).mono ?_); rintro e w' ⟨rfl, ⟨nd, rfl⟩⟩) | (go_at_call 18; (with_reducible refine (addr_Length.calls a0 t151 _ A138.out).mono ?_); rintro e w' ⟨rfl, ⟨nd, rfl⟩⟩) | (go_at_call 17; (with_reducible refine (addr_Type.calls a0 true _ A170.out).mono ?_); rintro e w' ⟨rfl, ⟨nd, rfl⟩⟩) | (go_at_call 18; (with_reducible refine (addr_Length.calls a0 false _ A172.out).mono ?_); rintro e w' ⟨rfl, ⟨nd, rfl⟩⟩) | (go_at_call 17; (with_reducible refine (addr_Type.calls 33024 true _ A175.out).mono ?_); rintro e w' ⟨rfl, ⟨nd, rfl⟩⟩) | (go_at_call 17; (with_reducible refine (addr_Type.calls 35061 true _ A177.out).mono ?_); rintro e w' ⟨rfl, ⟨nd, rfl⟩⟩) | (go_at_call 17; (with_reducible refine (addr_Type.calls 35062 false _ A179.out).mono ?_); rintro e w' ⟨rfl, ⟨nd, rfl⟩⟩))
             go_ret
             exact ⟨by first | rfl | (simp [*] <;> rfl), by repeat (first | exact HB.out | apply below_alloc | apply pw_below_drewN | apply below_drew1)⟩
           ·
            replace c178 := Bool.eq_false_iff.mpr c178
            subst c178
            rw [if_neg (show ¬ (false = true) by decide)] at H
            obtain rfl := Option.some.inj H
            go_enter Try.func5, Try.ntmps5
            go_wp2_with (first | ((with_reducible refine gate_callee (f := 8) rfl ?_); refine goesL_ (some 3) rfl rfl Try.func8 (by kernel_rfl) rfl #[] rfl (by (try simp only [List.map_toArray, List.map_cons, List.map_nil]); first | done | rfl | (simp only [List.length_drop, List.length_take]; rfl)) ?_; (with_reducible refine (kissgatelaw02_alive.calls  true _ A2.out).mono ?_); rintro e w184 ⟨rfl, hb⟩; refine ⟨_, rfl, ?_⟩; have n0_ := Aside0.mk (below_step (by repeat (first | (with_reducible first | exact HB.out | apply below_alloc | apply pw_below_drewN | apply below_drew1) | exact HB.out)) hb); clear HB; have HB := n0_; clear n0_; (try clear hb); (try clear hb2); (try clear hk); (try clear hi)) | ((with_reducible refine gate_callee (f := 16) rfl ?_); refine goesL_ (some 6) rfl rfl Try.func16 (by kernel_rfl) rfl #[.int .i64 a0] rfl (by (try simp only [List.map_toArray, List.map_cons, List.map_nil]); first | done | rfl | (simp only [List.length_drop, List.length_take]; rfl)) ?_; (with_reducible refine (addr_Vid.calls a0 t106 _ A4.out).mono ?_); rintro e w' ⟨rfl, ⟨nd, rfl⟩⟩; refine ⟨_, rfl, ?_⟩) | (go_at_call 17; (with_reducible refine (addr_Type.calls a0 t150 _ A135.out).mono ?_); rintro e w' ⟨rfl, ⟨nd, rfl⟩⟩) | (go_at_call 18; (with_reducible refine (addr_Length.calls a0 t151 _ A138.out).mono ?_); rintro e w' ⟨rfl, ⟨nd, rfl⟩⟩) | (go_at_call 17; (with_reducible refine (addr_Type.calls a0 true _ A170.out).mono ?_); rintro e w' ⟨rfl, ⟨nd, rfl⟩⟩) | (go_at_call 18; (with_reducible refine (addr_Length.calls a0 false _ A172.out).mono ?_); rintro e w' ⟨rfl, ⟨nd, rfl⟩⟩) | (go_at_call 17; (with_reducible refine (addr_Type.calls 33024 true _ A175.out).mono ?_); rintro e w' ⟨rfl, ⟨nd, rfl⟩⟩) | (go_at_call 17; (with_reducible refine (addr_Type.calls 35061 false _ A177.out).mono ?_); rintro e w' ⟨rfl, ⟨nd, rfl⟩⟩))
            go_ret
            exact ⟨by first | rfl | (simp [*] <;> rfl), by repeat (first | exact HB.out | apply below_alloc | apply pw_below_drewN | apply below_drew1)⟩
          ·
           replace c176 := Bool.eq_false_iff.mpr c176
           subst c176
           rw [if_neg (show ¬ (false = true) by decide)] at H
           obtain rfl := Option.some.inj H
           go_enter Try.func5, Try.ntmps5
           go_wp2_with (first | ((with_reducible refine gate_callee (f := 8) rfl ?_); refine goesL_ (some 3) rfl rfl Try.func8 (by kernel_rfl) rfl #[] rfl (by (try simp only [List.map_toArray, List.map_cons, List.map_nil]); first | done | rfl | (simp only [List.length_drop, List.length_take]; rfl)) ?_; (with_reducible refine (kissgatelaw02_alive.calls  true _ A2.out).mono ?_); rintro e w185 ⟨rfl, hb⟩; refine ⟨_, rfl, ?_⟩; have n0_ := Aside0.mk (below_step (by repeat (first | (with_reducible first | exact HB.out | apply below_alloc | apply pw_below_drewN | apply below_drew1) | exact HB.out)) hb); clear HB; have HB := n0_; clear n0_; (try clear hb); (try clear hb2); (try clear hk); (try clear hi)) | ((with_reducible refine gate_callee (f := 16) rfl ?_); refine goesL_ (some 6) rfl rfl Try.func16 (by kernel_rfl) rfl #[.int .i64 a0] rfl (by (try simp only [List.map_toArray, List.map_cons, List.map_nil]); first | done | rfl | (simp only [List.length_drop, List.length_take]; rfl)) ?_; (with_reducible refine (addr_Vid.calls a0 t106 _ A4.out).mono ?_); rintro e w' ⟨rfl, ⟨nd, rfl⟩⟩; refine ⟨_, rfl, ?_⟩) | (go_at_call 17; (with_reducible refine (addr_Type.calls a0 t150 _ A135.out).mono ?_); rintro e w' ⟨rfl, ⟨nd, rfl⟩⟩) | (go_at_call 18; (with_reducible refine (addr_Length.calls a0 t151 _ A138.out).mono ?_); rintro e w' ⟨rfl, ⟨nd, rfl⟩⟩) | (go_at_call 17; (with_reducible refine (addr_Type.calls a0 true _ A170.out).mono ?_); rintro e w' ⟨rfl, ⟨nd, rfl⟩⟩) | (go_at_call 18; (with_reducible refine (addr_Length.calls a0 false _ A172.out).mono ?_); rintro e w' ⟨rfl, ⟨nd, rfl⟩⟩) | (go_at_call 17; (with_reducible refine (addr_Type.calls 33024 false _ A175.out).mono ?_); rintro e w' ⟨rfl, ⟨nd, rfl⟩⟩))
           go_ret
           exact ⟨by first | rfl | (simp [*] <;> rfl), by repeat (first | exact HB.out | apply below_alloc | apply pw_below_drewN | apply below_drew1)⟩
        ·
         replace c171 := Bool.eq_false_iff.mpr c171
         subst c171
         rw [if_neg (show ¬ (false = true) by decide)] at H
         replace H := Option.bind_eq_some_iff.mp H
         obtain ⟨t168, A1860, H⟩ := H
         replace H : (if t168 = true then ((addr_Type.f 35061).bind fun t169 => (if t169 = true then ((addr_Type.f 35062).bind fun t170 => (if t170 = true then ((addr_Type.f 2048).bind fun t171 => (some t171)) else (some false))) else (some false))) else (some false)) = some r := H
         have A186 := Aside0.mk A1860
         clear A1860
         by_cases c187 : t168 = true
         ·
          subst c187
          rw [if_pos rfl] at H
          replace H := Option.bind_eq_some_iff.mp H
          obtain ⟨t169, A1880, H⟩ := H
          replace H : (if t169 = true then ((addr_Type.f 35062).bind fun t170 => (if t170 = true then ((addr_Type.f 2048).bind fun t171 => (some t171)) else (some false))) else (some false)) = some r := H
          have A188 := Aside0.mk A1880
          clear A1880
          by_cases c189 : t169 = true
          ·
           subst c189
           rw [if_pos rfl] at H
           replace H := Option.bind_eq_some_iff.mp H
           obtain ⟨t170, A1900, H⟩ := H
           replace H : (if t170 = true then ((addr_Type.f 2048).bind fun t171 => (some t171)) else (some false)) = some r := H
           have A190 := Aside0.mk A1900
           clear A1900
           by_cases c191 : t170 = true
           ·
            subst c191
            rw [if_pos rfl] at H
            replace H := Option.bind_eq_some_iff.mp H
            obtain ⟨t171, A1920, H⟩ := H
            replace H : (some t171) = some r := H
            have A192 := Aside0.mk A1920
            clear A1920
            obtain rfl := Option.some.inj H
            go_enter Try.func5, Try.ntmps5
            go_wp2_with (first | ((with_reducible refine gate_callee (f := 8) rfl ?_); refine goesL_ (some 3) rfl rfl Try.func8 (by kernel_rfl) rfl #[] rfl (by (try simp only [List.map_toArray, List.map_cons, List.map_nil]); first | done | rfl | (simp only [List.length_drop, List.length_take]; rfl)) ?_; (with_reducible refine (kissgatelaw02_alive.calls  true _ A2.out).mono ?_); rintro e w193 ⟨rfl, hb⟩; refine ⟨_, rfl, ?_⟩; have n0_ := Aside0.mk (below_step (by repeat (first | (with_reducible first | exact HB.out | apply below_alloc | apply pw_below_drewN | apply below_drew1) | exact HB.out)) hb); clear HB; have HB := n0_; clear n0_; (try clear hb); (try clear hb2); (try clear hk); (try clear hi)) | ((with_reducible refine gate_callee (f := 16) rfl ?_); refine goesL_ (some 6) rfl rfl Try.func16 (by kernel_rfl) rfl #[.int .i64 a0] rfl (by (try simp only [List.map_toArray, List.map_cons, List.map_nil]); first | done | rfl | (simp only [List.length_drop, List.length_take]; rfl)) ?_; (with_reducible refine (addr_Vid.calls a0 t106 _ A4.out).mono ?_); rintro e w' ⟨rfl, ⟨nd, rfl⟩⟩; refine ⟨_, rfl, ?_⟩) | (go_at_call 17; (with_reducible refine (addr_Type.calls a0 t150 _ A135.out).mono ?_); rintro e w' ⟨rfl, ⟨nd, rfl⟩⟩) | (go_at_call 18; (with_reducible refine (addr_Length.calls a0 t151 _ A138.out).mono ?_); rintro e w' ⟨rfl, ⟨nd, rfl⟩⟩) | (go_at_call 17; (with_reducible refine (addr_Type.calls a0 false _ A170.out).mono ?_); rintro e w' ⟨rfl, ⟨nd, rfl⟩⟩) | (go_at_call 17; (with_reducible refine (addr_Type.calls 33024 true _ A186.out).mono ?_); rintro e w' ⟨rfl, ⟨nd, rfl⟩⟩) | (go_at_call 17; (with_reducible refine (addr_Type.calls 35061 true _ A188.out).mono ?_); rintro e w' ⟨rfl, ⟨nd, rfl⟩⟩) | (go_at_call 17; (with_reducible refine (addr_Type.calls 35062 true _ A190.out).mono ?_); rintro e w' ⟨rfl, ⟨nd, rfl⟩⟩) | (go_at_call 17; (with_reducible refine (addr_Type.calls 2048 t171 _ A192.out).mono ?_); rintro e w' ⟨rfl, ⟨nd, rfl⟩⟩))
            go_ret
            exact ⟨by first | rfl | (simp [*] <;> rfl), by repeat (first | exact HB.out | apply below_alloc | apply pw_below_drewN | apply below_drew1)⟩
           ·
            replace c191 := Bool.eq_false_iff.mpr c191
            subst c191
            rw [if_neg (show ¬ (false = true) by decide)] at H
            obtain rfl := Option.some.inj H
            go_enter Try.func5, Try.ntmps5
            go_wp2_with (first | ((with_reducible refine gate_callee (f := 8) rfl ?_); refine goesL_ (some 3) rfl rfl Try.func8 (by kernel_rfl) rfl #[] rfl (by (try simp only [List.map_toArray, List.map_cons, List.map_nil]); first | done | rfl | (simp only [List.length_drop, List.length_take]; rfl)) ?_; (with_reducible refine (kissgatelaw02_alive.calls  true _ A2.out).mono ?_); rintro e w194 ⟨rfl, hb⟩; refine ⟨_, rfl, ?_⟩; have n0_ := Aside0.mk (below_step (by repeat (first | (with_reducible first | exact HB.out | apply below_alloc | apply pw_below_drewN | apply below_drew1) | exact HB.out)) hb); clear HB; have HB := n0_; clear n0_; (try clear hb); (try clear hb2); (try clear hk); (try clear hi)) | ((with_reducible refine gate_callee (f := 16) rfl ?_); refine goesL_ (some 6) rfl rfl Try.func16 (by kernel_rfl) rfl #[.int .i64 a0] rfl (by (try simp only [List.map_toArray, List.map_cons, List.map_nil]); first | done | rfl | (simp only [List.length_drop, List.length_take]; rfl)) ?_; (with_reducible refine (addr_Vid.calls a0 t106 _ A4.out).mono ?_); rintro e w' ⟨rfl, ⟨nd, rfl⟩⟩; refine ⟨_, rfl, ?_⟩) | (go_at_call 17; (with_reducible refine (addr_Type.calls a0 t150 _ A135.out).mono ?_); rintro e w' ⟨rfl, ⟨nd, rfl⟩⟩) | (go_at_call 18; (with_reducible refine (addr_Length.calls a0 t151 _ A138.out).mono ?_); rintro e w' ⟨rfl, ⟨nd, rfl⟩⟩) | (go_at_call 17; (with_reducible refine (addr_Type.calls a0 false _ A170.out).mono ?_); rintro e w' ⟨rfl, ⟨nd, rfl⟩⟩) | (go_at_call 17; (with_reducible refine (addr_Type.calls 33024 true _ A186.out).mono ?_); rintro e w' ⟨rfl, ⟨nd, rfl⟩⟩) | (go_at_call 17; (with_reducible refine (addr_Type.calls 35061 true _ A188.out).mono ?_); rintro e w' ⟨rfl, ⟨nd, rfl⟩⟩) | (go_at_call 17; (with_reducible refine (addr_Type.calls 35062 false _ A190.out).mono ?_); rintro e w' ⟨rfl, ⟨nd, rfl⟩⟩))
            go_ret
            exact ⟨by first | rfl | (simp [*] <;> rfl), by repeat (first | exact HB.out | apply below_alloc | apply pw_below_drewN | apply below_drew1)⟩
          ·
           replace c189 := Bool.eq_false_iff.mpr c189
           subst c189
           rw [if_neg (show ¬ (false = true) by decide)] at H
           obtain rfl := Option.some.inj H
           go_enter Try.func5, Try.ntmps5
           go_wp2_with (first | ((with_reducible refine gate_callee (f := 8) rfl ?_); refine goesL_ (some 3) rfl rfl Try.func8 (by kernel_rfl) rfl #[] rfl (by (try simp only [List.map_toArray, List.map_cons, List.map_nil]); first | done | rfl | (simp only [List.length_drop, List.length_take]; rfl)) ?_; (with_reducible refine (kissgatelaw02_alive.calls  true _ A2.out).mono ?_); rintro e w195 ⟨rfl, hb⟩; refine ⟨_, rfl, ?_⟩; have n0_ := Aside0.mk (below_step (by repeat (first | (with_reducible first | exact HB.out | apply below_alloc | apply pw_below_drewN | apply below_drew1) | exact HB.out)) hb); clear HB; have HB := n0_; clear n0_; (try clear hb); (try clear hb2); (try clear hk); (try clear hi)) | ((with_reducible refine gate_callee (f := 16) rfl ?_); refine goesL_ (some 6) rfl rfl Try.func16 (by kernel_rfl) rfl #[.int .i64 a0] rfl (by (try simp only [List.map_toArray, List.map_cons, List.map_nil]); first | done | rfl | (simp only [List.length_drop, List.length_take]; rfl)) ?_; (with_reducible refine (addr_Vid.calls a0 t106 _ A4.out).mono ?_); rintro e w' ⟨rfl, ⟨nd, rfl⟩⟩; refine ⟨_, rfl, ?_⟩) | (go_at_call 17; (with_reducible refine (addr_Type.calls a0 t150 _ A135.out).mono ?_); rintro e w' ⟨rfl, ⟨nd, rfl⟩⟩) | (go_at_call 18; (with_reducible refine (addr_Length.calls a0 t151 _ A138.out).mono ?_); rintro e w' ⟨rfl, ⟨nd, rfl⟩⟩) | (go_at_call 17; (with_reducible refine (addr_Type.calls a0 false _ A170.out).mono ?_); rintro e w' ⟨rfl, ⟨nd, rfl⟩⟩) | (go_at_call 17; (with_reducible refine (addr_Type.calls 33024 true _ A186.out).mono ?_); rintro e w' ⟨rfl, ⟨nd, rfl⟩⟩) | (go_at_call 17; (with_reducible refine (addr_Type.calls 35061 false _ A188.out).mono ?_); rintro e w' ⟨rfl, ⟨nd, rfl⟩⟩))
           go_ret
           exact ⟨by first | rfl | (simp [*] <;> rfl), by repeat (first | exact HB.out | apply below_alloc | apply pw_below_drewN | apply below_drew1)⟩
         ·
          replace c187 := Bool.eq_false_iff.mpr c187
          subst c187
          rw [if_neg (show ¬ (false = true) by decide)] at H
          obtain rfl := Option.some.inj H
          go_enter Try.func5, Try.ntmps5
          go_wp2_with (first | ((with_reducible refine gate_callee (f := 8) rfl ?_); refine goesL_ (some 3) rfl rfl Try.func8 (by kernel_rfl) rfl #[] rfl (by (try simp only [List.map_toArray, List.map_cons, List.map_nil]); first | done | rfl | (simp only [List.length_drop, List.length_take]; rfl)) ?_; (with_reducible refine (kissgatelaw02_alive.calls  true _ A2.out).mono ?_); rintro e w196 ⟨rfl, hb⟩; refine ⟨_, rfl, ?_⟩; have n0_ := Aside0.mk (below_step (by repeat (first | (with_reducible first | exact HB.out | apply below_alloc | apply pw_below_drewN | apply below_drew1) | exact HB.out)) hb); clear HB; have HB := n0_; clear n0_; (try clear hb); (try clear hb2); (try clear hk); (try clear hi)) | ((with_reducible refine gate_callee (f := 16) rfl ?_); refine goesL_ (some 6) rfl rfl Try.func16 (by kernel_rfl) rfl #[.int .i64 a0] rfl (by (try simp only [List.map_toArray, List.map_cons, List.map_nil]); first | done | rfl | (simp only [List.length_drop, List.length_take]; rfl)) ?_; (with_reducible refine (addr_Vid.calls a0 t106 _ A4.out).mono ?_); rintro e w' ⟨rfl, ⟨nd, rfl⟩⟩; refine ⟨_, rfl, ?_⟩) | (go_at_call 17; (with_reducible refine (addr_Type.calls a0 t150 _ A135.out).mono ?_); rintro e w' ⟨rfl, ⟨nd, rfl⟩⟩) | (go_at_call 18; (with_reducible refine (addr_Length.calls a0 t151 _ A138.out).mono ?_); rintro e w' ⟨rfl, ⟨nd, rfl⟩⟩) | (go_at_call 17; (with_reducible refine (addr_Type.calls a0 false _ A170.out).mono ?_); rintro e w' ⟨rfl, ⟨nd, rfl⟩⟩) | (go_at_call 17; (with_reducible refine (addr_Type.calls 33024 false _ A186.out).mono ?_); rintro e w' ⟨rfl, ⟨nd, rfl⟩⟩))
          go_ret
          exact ⟨by first | rfl | (simp [*] <;> rfl), by repeat (first | exact HB.out | apply below_alloc | apply pw_below_drewN | apply below_drew1)⟩
       ·
        rw [if_neg c169] at H
        have c169b0 : (t151 == false) = false := by simpa using c169
        (try (have c169b1 : decide (t151 = false) = false := by simpa using c169))
        (try (have c169b2 : (t151 == false) = false := by simpa using c169))
        (try (have c169b3 : ¬ (t151 = false) := by simpa using c169))
        clear c169
        obtain rfl := Option.some.inj H
        go_enter Try.func5, Try.ntmps5
        go_wp2_with (first | ((with_reducible refine gate_callee (f := 8) rfl ?_); refine goesL_ (some 3) rfl rfl Try.func8 (by kernel_rfl) rfl #[] rfl (by (try simp only [List.map_toArray, List.map_cons, List.map_nil]); first | done | rfl | (simp only [List.length_drop, List.length_take]; rfl)) ?_; (with_reducible refine (kissgatelaw02_alive.calls  true _ A2.out).mono ?_); rintro e w197 ⟨rfl, hb⟩; refine ⟨_, rfl, ?_⟩; have n0_ := Aside0.mk (below_step (by repeat (first | (with_reducible first | exact HB.out | apply below_alloc | apply pw_below_drewN | apply below_drew1) | exact HB.out)) hb); clear HB; have HB := n0_; clear n0_; (try clear hb); (try clear hb2); (try clear hk); (try clear hi)) | ((with_reducible refine gate_callee (f := 16) rfl ?_); refine goesL_ (some 6) rfl rfl Try.func16 (by kernel_rfl) rfl #[.int .i64 a0] rfl (by (try simp only [List.map_toArray, List.map_cons, List.map_nil]); first | done | rfl | (simp only [List.length_drop, List.length_take]; rfl)) ?_; (with_reducible refine (addr_Vid.calls a0 t106 _ A4.out).mono ?_); rintro e w' ⟨rfl, ⟨nd, rfl⟩⟩; refine ⟨_, rfl, ?_⟩) | (go_at_call 17; (with_reducible refine (addr_Type.calls a0 t150 _ A135.out).mono ?_); rintro e w' ⟨rfl, ⟨nd, rfl⟩⟩) | (go_at_call 18; (with_reducible refine (addr_Length.calls a0 t151 _ A138.out).mono ?_); rintro e w' ⟨rfl, ⟨nd, rfl⟩⟩))
        go_ret
        exact ⟨by first | rfl | (simp [*] <;> rfl), by repeat (first | exact HB.out | apply below_alloc | apply pw_below_drewN | apply below_drew1)⟩
     ·
      rw [if_neg c137] at H
      have c137b0 : (t150 == (decide (a0 < 65536))) = false := by simpa using c137
      (try (have c137b1 : decide (t150 = (decide (a0 < 65536))) = false := by simpa using c137))
      (try (have c137b2 : (t150 == (decide (a0 < 65536))) = false := by simpa using c137))
      (try (have c137b3 : ¬ (t150 = (decide (a0 < 65536))) := by simpa using c137))
      clear c137
      obtain rfl := Option.some.inj H
      go_enter Try.func5, Try.ntmps5
      go_wp2_with (first | ((with_reducible refine gate_callee (f := 8) rfl ?_); refine goesL_ (some 3) rfl rfl Try.func8 (by kernel_rfl) rfl #[] rfl (by (try simp only [List.map_toArray, List.map_cons, List.map_nil]); first | done | rfl | (simp only [List.length_drop, List.length_take]; rfl)) ?_; (with_reducible refine (kissgatelaw02_alive.calls  true _ A2.out).mono ?_); rintro e w198 ⟨rfl, hb⟩; refine ⟨_, rfl, ?_⟩; have n0_ := Aside0.mk (below_step (by repeat (first | (with_reducible first | exact HB.out | apply below_alloc | apply pw_below_drewN | apply below_drew1) | exact HB.out)) hb); clear HB; have HB := n0_; clear n0_; (try clear hb); (try clear hb2); (try clear hk); (try clear hi)) | ((with_reducible refine gate_callee (f := 16) rfl ?_); refine goesL_ (some 6) rfl rfl Try.func16 (by kernel_rfl) rfl #[.int .i64 a0] rfl (by (try simp only [List.map_toArray, List.map_cons, List.map_nil]); first | done | rfl | (simp only [List.length_drop, List.length_take]; rfl)) ?_; (with_reducible refine (addr_Vid.calls a0 t106 _ A4.out).mono ?_); rintro e w' ⟨rfl, ⟨nd, rfl⟩⟩; refine ⟨_, rfl, ?_⟩) | (go_at_call 17; (with_reducible refine (addr_Type.calls a0 t150 _ A135.out).mono ?_); rintro e w' ⟨rfl, ⟨nd, rfl⟩⟩))
      go_ret
      exact ⟨by first | rfl | (simp [*] <;> rfl), by repeat (first | exact HB.out | apply below_alloc | apply pw_below_drewN | apply below_drew1)⟩
    ·
     rw [if_neg c136] at H
     have c136b0 : decide (1535 < a0) = false := decide_eq_false c136
     clear c136
     by_cases c199 : (t150 == false) = true
     ·
      rw [if_pos c199] at H
      have c199b0 : (t150 == false) = true := c199
      (try (have c199b1 : decide (t150 = false) = true := by simpa using c199))
      (try (have c199b2 : (t150 == false) = true := by simpa using c199))
      clear c199
      replace H := Option.bind_eq_some_iff.mp H
      obtain ⟨t172, A2000, H⟩ := H
      replace H : (if a0 > (-1) then (if (t172 == (decide (a0 < 1501))) = true then ((addr_Type.f a0).bind fun t173 => (if t173 = true then ((addr_Length.f a0).bind fun t174 => (if t174 = true then (some false) else ((addr_Type.f 33024).bind fun t175 => (if t175 = true then ((addr_Type.f 35061).bind fun t176 => (if t176 = true then ((addr_Type.f 35062).bind fun t177 => (if t177 = true then ((addr_Type.f 2048).bind fun t178 => (some t178)) else (some false))) else (some false))) else (some false))))) else ((addr_Type.f 33024).bind fun t179 => (if t179 = true then ((addr_Type.f 35061).bind fun t180 => (if t180 = true then ((addr_Type.f 35062).bind fun t181 => (if t181 = true then ((addr_Type.f 2048).bind fun t182 => (some t182)) else (some false))) else (some false))) else (some false))))) else (some false)) else (if (t172 == false) = true then ((addr_Type.f a0).bind fun t183 => (if t183 = true then ((addr_Length.f a0).bind fun t184 => (if t184 = true then (some false) else ((addr_Type.f 33024).bind fun t185 => (if t185 = true then ((addr_Type.f 35061).bind fun t186 => (if t186 = true then ((addr_Type.f 35062).bind fun t187 => (if t187 = true then ((addr_Type.f 2048).bind fun t188 => (some t188)) else (some false))) else (some false))) else (some false))))) else ((addr_Type.f 33024).bind fun t189 => (if t189 = true then ((addr_Type.f 35061).bind fun t190 => (if t190 = true then ((addr_Type.f 35062).bind fun t191 => (if t191 = true then ((addr_Type.f 2048).bind fun t192 => (some t192)) else (some false))) else (some false))) else (some false))))) else (some false))) = some r := H
      have A200 := Aside0.mk A2000
      clear A2000
      by_cases c201 : a0 > (-1)
      ·
       rw [if_pos c201] at H
       have c201b0 : decide ((-1) < a0) = true := decide_eq_true c201
       clear c201
       by_cases c202 : (t172 == (decide (a0 < 1501))) = true
       ·
        rw [if_pos c202] at H
        have c202b0 : (t172 == (decide (a0 < 1501))) = true := c202
        (try (have c202b1 : decide (t172 = (decide (a0 < 1501))) = true := by simpa using c202))
        (try (have c202b2 : (t172 == (decide (a0 < 1501))) = true := by simpa using c202))
        clear c202
        replace H := Option.bind_eq_some_iff.mp H
        obtain ⟨t173, A2030, H⟩ := H
        try ((with_reducible have e_ := Option.some.inj (A2030.symm.trans A135.out)); subst e_)
        replace H : (if t173 = true then ((addr_Length.f a0).bind fun t174 => (if t174 = true then (some false) else ((addr_Type.f 33024).bind fun t175 => (if t175 = true then ((addr_Type.f 35061).bind fun t176 => (if t176 = true then ((addr_Type.f 35062).bind fun t177 => (if t177 = true then ((addr_Type.f 2048).bind fun t178 => (some t178)) else (some false))) else (some false))) else (some false))))) else ((addr_Type.f 33024).bind fun t179 => (if t179 = true then ((addr_Type.f 35061).bind fun t180 => (if t180 = true then ((addr_Type.f 35062).bind fun t181 => (if t181 = true then ((addr_Type.f 2048).bind fun t182 => (some t182)) else (some false))) else (some false))) else (some false)))) = some r := H
        have A203 := Aside0.mk A2030
        clear A2030
        by_cases c204 : t173 = true
        ·
         subst c204
         rw [if_pos rfl] at H
         replace H := Option.bind_eq_some_iff.mp H
         obtain ⟨t174, A2050, H⟩ := H
         try ((with_reducible have e_ := Option.some.inj (A2050.symm.trans A200.out)); subst e_)
         replace H : (if t174 = true then (some false) else ((addr_Type.f 33024).bind fun t175 => (if t175 = true then ((addr_Type.f 35061).bind fun t176 => (if t176 = true then ((addr_Type.f 35062).bind fun t177 => (if t177 = true then ((addr_Type.f 2048).bind fun t178 => (some t178)) else (some false))) else (some false))) else (some false)))) = some r := H
         have A205 := Aside0.mk A2050
         clear A2050
         by_cases c206 : t174 = true
         ·
          subst c206
          rw [if_pos rfl] at H
          obtain rfl := Option.some.inj H
          go_enter Try.func5, Try.ntmps5
          go_wp2_with (first | ((with_reducible refine gate_callee (f := 8) rfl ?_); refine goesL_ (some 3) rfl rfl Try.func8 (by kernel_rfl) rfl #[] rfl (by (try simp only [List.map_toArray, List.map_cons, List.map_nil]); first | done | rfl | (simp only [List.length_drop, List.length_take]; rfl)) ?_; (with_reducible refine (kissgatelaw02_alive.calls  true _ A2.out).mono ?_); rintro e w207 ⟨rfl, hb⟩; refine ⟨_, rfl, ?_⟩; have n0_ := Aside0.mk (below_step (by repeat (first | (with_reducible first | exact HB.out | apply below_alloc | apply pw_below_drewN | apply below_drew1) | exact HB.out)) hb); clear HB; have HB := n0_; clear n0_; (try clear hb); (try clear hb2); (try clear hk); (try clear hi)) | ((with_reducible refine gate_callee (f := 16) rfl ?_); refine goesL_ (some 6) rfl rfl Try.func16 (by kernel_rfl) rfl #[.int .i64 a0] rfl (by (try simp only [List.map_toArray, List.map_cons, List.map_nil]); first | done | rfl | (simp only [List.length_drop, List.length_take]; rfl)) ?_; (with_reducible refine (addr_Vid.calls a0 t106 _ A4.out).mono ?_); rintro e w' ⟨rfl, ⟨nd, rfl⟩⟩; refine ⟨_, rfl, ?_⟩) | (go_at_call 17; (with_reducible refine (addr_Type.calls a0 t150 _ A135.out).mono ?_); rintro e w' ⟨rfl, ⟨nd, rfl⟩⟩) | (go_at_call 18; (with_reducible refine (addr_Length.calls a0 t172 _ A200.out).mono ?_); rintro e w' ⟨rfl, ⟨nd, rfl⟩⟩) | (go_at_call 17; (with_reducible refine (addr_Type.calls a0 true _ A203.out).mono ?_); rintro e w' ⟨rfl, ⟨nd, rfl⟩⟩) | (go_at_call 18; (with_reducible refine (addr_Length.calls a0 true _ A205.out).mono ?_); rintro e w' ⟨rfl, ⟨nd, rfl⟩⟩))
          go_ret
          exact ⟨by first | rfl | (simp [*] <;> rfl), by repeat (first | exact HB.out | apply below_alloc | apply pw_below_drewN | apply below_drew1)⟩
         ·
          replace c206 := Bool.eq_false_iff.mpr c206
          subst c206
          rw [if_neg (show ¬ (false = true) by decide)] at H
          replace H := Option.bind_eq_some_iff.mp H
          obtain ⟨t175, A2080, H⟩ := H
          replace H : (if t175 = true then ((addr_Type.f 35061).bind fun t176 => (if t176 = true then ((addr_Type.f 35062).bind fun t177 => (if t177 = true then ((addr_Type.f 2048).bind fun t178 => (some t178)) else (some false))) else (some false))) else (some false)) = some r := H
          have A208 := Aside0.mk A2080
          clear A2080
          by_cases c209 : t175 = true
          ·
           subst c209
           rw [if_pos rfl] at H
           replace H := Option.bind_eq_some_iff.mp H
           obtain ⟨t176, A2100, H⟩ := H
           replace H : (if t176 = true then ((addr_Type.f 35062).bind fun t177 => (if t177 = true then ((addr_Type.f 2048).bind fun t178 => (some t178)) else (some false))) else (some false)) = some r := H
           have A210 := Aside0.mk A2100
           clear A2100
           by_cases c211 : t176 = true
           ·
            subst c211
            rw [if_pos rfl] at H
            replace H := Option.bind_eq_some_iff.mp H
            obtain ⟨t177, A2120, H⟩ := H
            replace H : (if t177 = true then ((addr_Type.f 2048).bind fun t178 => (some t178)) else (some false)) = some r := H
            have A212 := Aside0.mk A2120
            clear A2120
            by_cases c213 : t177 = true
            ·
             subst c213
             rw [if_pos rfl] at H
             replace H := Option.bind_eq_some_iff.mp H
             obtain ⟨t178, A2140, H⟩ := H
             replace H : (some t178) = some r := H
             have A214 := Aside0.mk A2140
             clear A2140
             obtain rfl := Option.some.inj H
             go_enter Try.func5, Try.ntmps5
             go_wp2_with (first | ((with_reducible refine gate_callee (f := 8) rfl ?_); refine goesL_ (some 3) rfl rfl Try.func8 (by kernel_rfl) rfl #[] rfl (by (try simp only [List.map_toArray, List.map_cons, List.map_nil]); first | done | rfl | (simp only [List.length_drop, List.length_take]; rfl)) ?_; (with_reducible refine (kissgatelaw02_alive.calls  true _ A2.out).mono ?_); rintro e w215 ⟨rfl, hb⟩; refine ⟨_, rfl, ?_⟩; have n0_ := Aside0.mk (below_step (by repeat (first | (with_reducible first | exact HB.out | apply below_alloc | apply pw_below_drewN | apply below_drew1) | exact HB.out)) hb); clear HB; have HB := n0_; clear n0_; (try clear hb); (try clear hb2); (try clear hk); (try clear hi)) | ((with_reducible refine gate_callee (f := 16) rfl ?_); refine goesL_ (some 6) rfl rfl Try.func16 (by kernel_rfl) rfl #[.int .i64 a0] rfl (by (try simp only [List.map_toArray, List.map_cons, List.map_nil]); first | done | rfl | (simp only [List.length_drop, List.length_take]; rfl)) ?_; (with_reducible refine (addr_Vid.calls a0 t106 _ A4.out).mono ?_); rintro e w' ⟨rfl, ⟨nd, rfl⟩⟩; refine ⟨_, rfl, ?_⟩) | (go_at_call 17; (with_reducible refine (addr_Type.calls a0 t150 _ A135.out).mono ?_); rintro e w' ⟨rfl, ⟨nd, rfl⟩⟩) | (go_at_call 18; (with_reducible refine (addr_Length.calls a0 t172 _ A200.out).mono ?_); rintro e w' ⟨rfl, ⟨nd, rfl⟩⟩) | (go_at_call 17; (with_reducible refine (addr_Type.calls a0 true _ A203.out).mono ?_); rintro e w' ⟨rfl, ⟨nd, rfl⟩⟩) | (go_at_call 18; (with_reducible refine (addr_Length.calls a0 false _ A205.out).mono ?_); rintro e w' ⟨rfl, ⟨nd, rfl⟩⟩) | (go_at_call 17; (with_reducible refine (addr_Type.calls 33024 true _ A208.out).mono ?_); rintro e w' ⟨rfl, ⟨nd, rfl⟩⟩) | (go_at_call 17; (with_reducible refine (addr_Type.calls 35061 true _ A210.out).mono ?_); rintro e w' ⟨rfl, ⟨nd, rfl⟩⟩) | (go_at_call 17; (with_reducible refine (addr_Type.calls 35062 true _ A212.out).mono ?_); rintro e w' ⟨rfl, ⟨nd, rfl⟩⟩) | (go_at_call 17; (with_reducible refine (addr_Type.calls 2048 t178 _ A214.out).mono ?_); rintro e w' ⟨rfl, ⟨nd, rfl⟩⟩))
             go_ret
             exact ⟨by first | rfl | (simp [*] <;> rfl), by repeat (first | exact HB.out | apply below_alloc | apply pw_below_drewN | apply below_drew1)⟩
            ·
             replace c213 := Bool.eq_false_iff.mpr c213
             subst c213
             rw [if_neg (show ¬ (false = true) by decide)] at H
             obtain rfl := Option.some.inj H
             go_enter Try.func5, Try.ntmps5
             go_wp2_with (first | ((with_reducible refine gate_callee (f := 8) rfl ?_); refine goesL_ (some 3) rfl rfl Try.func8 (by kernel_rfl) rfl #[] rfl (by (try simp only [List.map_toArray, List.map_cons, List.map_nil]); first | done | rfl | (simp only [List.length_drop, List.length_take]; rfl)) ?_; (with_reducible refine (kissgatelaw02_alive.calls  true _ A2.out).mono ?_); rintro e w216 ⟨rfl, hb⟩; refine ⟨_, rfl, ?_⟩; have n0_ := Aside0.mk (below_step (by repeat (first | (with_reducible first | exact HB.out | apply below_alloc | apply pw_below_drewN | apply below_drew1) | exact HB.out)) hb); clear HB; have HB := n0_; clear n0_; (try clear hb); (try clear hb2); (try clear hk); (try clear hi)) | ((with_reducible refine gate_callee (f := 16) rfl ?_); refine goesL_ (some 6) rfl rfl Try.func16 (by kernel_rfl) rfl #[.int .i64 a0] rfl (by (try simp only [List.map_toArray, List.map_cons, List.map_nil]); first | done | rfl | (simp only [List.length_drop, List.length_take]; rfl)) ?_; (with_reducible refine (addr_Vid.calls a0 t106 _ A4.out).mono ?_); rintro e w' ⟨rfl, ⟨nd, rfl⟩⟩; refine ⟨_, rfl, ?_⟩) | (go_at_call 17; (with_reducible refine (addr_Type.calls a0 t150 _ A135.out).mono ?_); rintro e w' ⟨rfl, ⟨nd, rfl⟩⟩) | (go_at_call 18; (with_reducible refine (addr_Length.calls a0 t172 _ A200.out).mono ?_); rintro e w' ⟨rfl, ⟨nd, rfl⟩⟩) | (go_at_call 17; (with_reducible refine (addr_Type.calls a0 true _ A203.out).mono ?_); rintro e w' ⟨rfl, ⟨nd, rfl⟩⟩) | (go_at_call 18; (with_reducible refine (addr_Length.calls a0 false _ A205.out).mono ?_); rintro e w' ⟨rfl, ⟨nd, rfl⟩⟩) | (go_at_call 17; (with_reducible refine (addr_Type.calls 33024 true _ A208.out).mono ?_); rintro e w' ⟨rfl, ⟨nd, rfl⟩⟩) | (go_at_call 17; (with_reducible refine (addr_Type.calls 35061 true _ A210.out).mono ?_); rintro e w' ⟨rfl, ⟨nd, rfl⟩⟩) | (go_at_call 17; (with_reducible refine (addr_Type.calls 35062 false _ A212.out).mono ?_); rintro e w' ⟨rfl, ⟨nd, rfl⟩⟩))
             go_ret
             exact ⟨by first | rfl | (simp [*] <;> rfl), by repeat (first | exact HB.out | apply below_alloc | apply pw_below_drewN | apply below_drew1)⟩
           ·
            replace c211 := Bool.eq_false_iff.mpr c211
            subst c211
            rw [if_neg (show ¬ (false = true) by decide)] at H
            obtain rfl := Option.some.inj H
            go_enter Try.func5, Try.ntmps5
            go_wp2_with (first | ((with_reducible refine gate_callee (f := 8) rfl ?_); refine goesL_ (some 3) rfl rfl Try.func8 (by kernel_rfl) rfl #[] rfl (by (try simp only [List.map_toArray, List.map_cons, List.map_nil]); first | done | rfl | (simp only [List.length_drop, List.length_take]; rfl)) ?_; (with_reducible refine (kissgatelaw02_alive.calls  true _ A2.out).mono ?_); rintro e w217 ⟨rfl, hb⟩; refine ⟨_, rfl, ?_⟩; have n0_ := Aside0.mk (below_step (by repeat (first | (with_reducible first | exact HB.out | apply below_alloc | apply pw_below_drewN | apply below_drew1) | exact HB.out)) hb); clear HB; have HB := n0_; clear n0_; (try clear hb); (try clear hb2); (try clear hk); (try clear hi)) | ((with_reducible refine gate_callee (f := 16) rfl ?_); refine goesL_ (some 6) rfl rfl Try.func16 (by kernel_rfl) rfl #[.int .i64 a0] rfl (by (try simp only [List.map_toArray, List.map_cons, List.map_nil]); first | done | rfl | (simp only [List.length_drop, List.length_take]; rfl)) ?_; (with_reducible refine (addr_Vid.calls a0 t106 _ A4.out).mono ?_); rintro e w' ⟨rfl, ⟨nd, rfl⟩⟩; refine ⟨_, rfl, ?_⟩) | (go_at_call 17; (with_reducible refine (addr_Type.calls a0 t150 _ A135.out).mono ?_); rintro e w' ⟨rfl, ⟨nd, rfl⟩⟩) | (go_at_call 18; (with_reducible refine (addr_Length.calls a0 t172 _ A200.out).mono ?_); rintro e w' ⟨rfl, ⟨nd, rfl⟩⟩) | (go_at_call 17; (with_reducible refine (addr_Type.calls a0 true _ A203.out).mono ?_); rintro e w' ⟨rfl, ⟨nd, rfl⟩⟩) | (go_at_call 18; (with_reducible refine (addr_Length.calls a0 false _ A205.out).mono ?_); rintro e w' ⟨rfl, ⟨nd, rfl⟩⟩) | (go_at_call 17; (with_reducible refine (addr_Type.calls 33024 true _ A208.out).mono ?_); rintro e w' ⟨rfl, ⟨nd, rfl⟩⟩) | (go_at_call 17; (with_reducible refine (addr_Type.calls 35061 false _ A210.out).mono ?_); rintro e w' ⟨rfl, ⟨nd, rfl⟩⟩))
            go_ret
            exact ⟨by first | rfl | (simp [*] <;> rfl), by repeat (first | exact HB.out | apply below_alloc | apply pw_below_drewN | apply below_drew1)⟩
          ·
           replace c209 := Bool.eq_false_iff.mpr c209
           subst c209
           rw [if_neg (show ¬ (false = true) by decide)] at H
           obtain rfl := Option.some.inj H
           go_enter Try.func5, Try.ntmps5
           go_wp2_with (first | ((with_reducible refine gate_callee (f := 8) rfl ?_); refine goesL_ (some 3) rfl rfl Try.func8 (by kernel_rfl) rfl #[] rfl (by (try simp only [List.map_toArray, List.map_cons, List.map_nil]); first | done | rfl | (simp only [List.length_drop, List.length_take]; rfl)) ?_; (with_reducible refine (kissgatelaw02_alive.calls  true _ A2.out).mono ?_); rintro e w218 ⟨rfl, hb⟩; refine ⟨_, rfl, ?_⟩; have n0_ := Aside0.mk (below_step (by repeat (first | (with_reducible first | exact HB.out | apply below_alloc | apply pw_below_drewN | apply below_drew1) | exact HB.out)) hb); clear HB; have HB := n0_; clear n0_; (try clear hb); (try clear hb2); (try clear hk); (try clear hi)) | ((with_reducible refine gate_callee (f := 16) rfl ?_); refine goesL_ (some 6) rfl rfl Try.func16 (by kernel_rfl) rfl #[.int .i64 a0] rfl (by (try simp only [List.map_toArray, List.map_cons, List.map_nil]); first | done | rfl | (simp only [List.length_drop, List.length_take]; rfl)) ?_; (with_reducible refine (addr_Vid.calls a0 t106 _ A4.out).mono ?_); rintro e w' ⟨rfl, ⟨nd, rfl⟩⟩; refine ⟨_, rfl, ?_⟩) | (go_at_call 17; (with_reducible refine (addr_Type.calls a0 t150 _ A135.out).mono ?_); rintro e w' ⟨rfl, ⟨nd, rfl⟩⟩) | (go_at_call 18; (with_reducible refine (addr_Length.calls a0 t172 _ A200.out).mono ?_); rintro e w' ⟨rfl, ⟨nd, rfl⟩⟩) | (go_at_call 17; (with_reducible refine (addr_Type.calls a0 true _ A203.out).mono ?_); rintro e w' ⟨rfl, ⟨nd, rfl⟩⟩) | (go_at_call 18; (with_reducible refine (addr_Length.calls a0 false _ A205.out).mono ?_); rintro e w' ⟨rfl, ⟨nd, rfl⟩⟩) | (go_at_call 17; (with_reducible refine (addr_Type.calls 33024 false _ A208.out).mono ?_); rintro e w' ⟨rfl, ⟨nd, rfl⟩⟩))
           go_ret
           exact ⟨by first | rfl | (simp [*] <;> rfl), by repeat (first | exact HB.out | apply below_alloc | apply pw_below_drewN | apply below_drew1)⟩
        ·
         replace c204 := Bool.eq_false_iff.mpr c204
         subst c204
         rw [if_neg (show ¬ (false = true) by decide)] at H
         replace H := Option.bind_eq_some_iff.mp H
         obtain ⟨t179, A2190, H⟩ := H
         replace H : (if t179 = true then ((addr_Type.f 35061).bind fun t180 => (if t180 = true then ((addr_Type.f 35062).bind fun t181 => (if t181 = true then ((addr_Type.f 2048).bind fun t182 => (some t182)) else (some false))) else (some false))) else (some false)) = some r := H
         have A219 := Aside0.mk A2190
         clear A2190
         by_cases c220 : t179 = true
         ·
          subst c220
          rw [if_pos rfl] at H
          replace H := Option.bind_eq_some_iff.mp H
          obtain ⟨t180, A2210, H⟩ := H
          replace H : (if t180 = true then ((addr_Type.f 35062).bind fun t181 => (if t181 = true then ((addr_Type.f 2048).bind fun t182 => (some t182)) else (some false))) else (some false)) = some r := H
          have A221 := Aside0.mk A2210
          clear A2210
          by_cases c222 : t180 = true
          ·
           subst c222
           rw [if_pos rfl] at H
           replace H := Option.bind_eq_some_iff.mp H
           obtain ⟨t181, A2230, H⟩ := H
           replace H : (if t181 = true then ((addr_Type.f 2048).bind fun t182 => (some t182)) else (some false)) = some r := H
           have A223 := Aside0.mk A2230
           clear A2230
           by_cases c224 : t181 = true
           ·
            subst c224
            rw [if_pos rfl] at H
            replace H := Option.bind_eq_some_iff.mp H
            obtain ⟨t182, A2250, H⟩ := H
            replace H : (some t182) = some r := H
            have A225 := Aside0.mk A2250
            clear A2250
            obtain rfl := Option.some.inj H
            go_enter Try.func5, Try.ntmps5
            go_wp2_with (first | ((with_reducible refine gate_callee (f := 8) rfl ?_); refine goesL_ (some 3) rfl rfl Try.func8 (by kernel_rfl) rfl #[] rfl (by (try simp only [List.map_toArray, List.map_cons, List.map_nil]); first | done | rfl | (simp only [List.length_drop, List.length_take]; rfl)) ?_; (with_reducible refine (kissgatelaw02_alive.calls  true _ A2.out).mono ?_); rintro e w226 ⟨rfl, hb⟩; refine ⟨_, rfl, ?_⟩; have n0_ := Aside0.mk (below_step (by repeat (first | (with_reducible first | exact HB.out | apply below_alloc | apply pw_below_drewN | apply below_drew1) | exact HB.out)) hb); clear HB; have HB := n0_; clear n0_; (try clear hb); (try clear hb2); (try clear hk); (try clear hi)) | ((with_reducible refine gate_callee (f := 16) rfl ?_); refine goesL_ (some 6) rfl rfl Try.func16 (by kernel_rfl) rfl #[.int .i64 a0] rfl (by (try simp only [List.map_toArray, List.map_cons, List.map_nil]); first | done | rfl | (simp only [List.length_drop, List.length_take]; rfl)) ?_; (with_reducible refine (addr_Vid.calls a0 t106 _ A4.out).mono ?_); rintro e w' ⟨rfl, ⟨nd, rfl⟩⟩; refine ⟨_, rfl, ?_⟩) | (go_at_call 17; (with_reducible refine (addr_Type.calls a0 t150 _ A135.out).mono ?_); rintro e w' ⟨rfl, ⟨nd, rfl⟩⟩) | (go_at_call 18; (with_reducible refine (addr_Length.calls a0 t172 _ A200.out).mono ?_); rintro e w' ⟨rfl, ⟨nd, rfl⟩⟩) | (go_at_call 17; (with_reducible refine (addr_Type.calls a0 false _ A203.out).mono ?_); rintro e w' ⟨rfl, ⟨nd, rfl⟩⟩) | (go_at_call 17; (with_reducible refine (addr_Type.calls 33024 true _ A219.out).mono ?_); rintro e w' ⟨rfl, ⟨nd, rfl⟩⟩) | (go_at_call 17; (with_reducible refine (addr_Type.calls 35061 true _ A221.out).mono ?_); rintro e w' ⟨rfl, ⟨nd, rfl⟩⟩) | (go_at_call 17; (with_reducible refine (addr_Type.calls 35062 true _ A223.out).mono ?_); rintro e w' ⟨rfl, ⟨nd, rfl⟩⟩) | (go_at_call 17; (with_reducible refine (addr_Type.calls 2048 t182 _ A225.out).mono ?_); rintro e w' ⟨rfl, ⟨nd, rfl⟩⟩))
            go_ret
            exact ⟨by first | rfl | (simp [*] <;> rfl), by repeat (first | exact HB.out | apply below_alloc | apply pw_below_drewN | apply below_drew1)⟩
           ·
            replace c224 := Bool.eq_false_iff.mpr c224
            subst c224
            rw [if_neg (show ¬ (false = true) by decide)] at H
            obtain rfl := Option.some.inj H
            go_enter Try.func5, Try.ntmps5
            go_wp2_with (first | ((with_reducible refine gate_callee (f := 8) rfl ?_); refine goesL_ (some 3) rfl rfl Try.func8 (by kernel_rfl) rfl #[] rfl (by (try simp only [List.map_toArray, List.map_cons, List.map_nil]); first | done | rfl | (simp only [List.length_drop, List.length_take]; rfl)) ?_; (with_reducible refine (kissgatelaw02_alive.calls  true _ A2.out).mono ?_); rintro e w227 ⟨rfl, hb⟩; refine ⟨_, rfl, ?_⟩; have n0_ := Aside0.mk (below_step (by repeat (first | (with_reducible first | exact HB.out | apply below_alloc | apply pw_below_drewN | apply below_drew1) | exact HB.out)) hb); clear HB; have HB := n0_; clear n0_; (try clear hb); (try clear hb2); (try clear hk); (try clear hi)) | ((with_reducible refine gate_callee (f := 16) rfl ?_); refine goesL_ (some 6) rfl rfl Try.func16 (by kernel_rfl) rfl #[.int .i64 a0] rfl (by (try simp only [List.map_toArray, List.map_cons, List.map_nil]); first | done | rfl | (simp only [List.length_drop, List.length_take]; rfl)) ?_; (with_reducible refine (addr_Vid.calls a0 t106 _ A4.out).mono ?_); rintro e w' ⟨rfl, ⟨nd, rfl⟩⟩; refine ⟨_, rfl, ?_⟩) | (go_at_call 17; (with_reducible refine (addr_Type.calls a0 t150 _ A135.out).mono ?_); rintro e w' ⟨rfl, ⟨nd, rfl⟩⟩) | (go_at_call 18; (with_reducible refine (addr_Length.calls a0 t172 _ A200.out).mono ?_); rintro e w' ⟨rfl, ⟨nd, rfl⟩⟩) | (go_at_call 17; (with_reducible refine (addr_Type.calls a0 false _ A203.out).mono ?_); rintro e w' ⟨rfl, ⟨nd, rfl⟩⟩) | (go_at_call 17; (with_reducible refine (addr_Type.calls 33024 true _ A219.out).mono ?_); rintro e w' ⟨rfl, ⟨nd, rfl⟩⟩) | (go_at_call 17; (with_reducible refine (addr_Type.calls 35061 true _ A221.out).mono ?_); rintro e w' ⟨rfl, ⟨nd, rfl⟩⟩) | (go_at_call 17; (with_reducible refine (addr_Type.calls 35062 false _ A223.out).mono ?_); rintro e w' ⟨rfl, ⟨nd, rfl⟩⟩))
            go_ret
            exact ⟨by first | rfl | (simp [*] <;> rfl), by repeat (first | exact HB.out | apply below_alloc | apply pw_below_drewN | apply below_drew1)⟩
          ·
           replace c222 := Bool.eq_false_iff.mpr c222
           subst c222
           rw [if_neg (show ¬ (false = true) by decide)] at H
           obtain rfl := Option.some.inj H
           go_enter Try.func5, Try.ntmps5
           go_wp2_with (first | ((with_reducible refine gate_callee (f := 8) rfl ?_); refine goesL_ (some 3) rfl rfl Try.func8 (by kernel_rfl) rfl #[] rfl (by (try simp only [List.map_toArray, List.map_cons, List.map_nil]); first | done | rfl | (simp only [List.length_drop, List.length_take]; rfl)) ?_; (with_reducible refine (kissgatelaw02_alive.calls  true _ A2.out).mono ?_); rintro e w228 ⟨rfl, hb⟩; refine ⟨_, rfl, ?_⟩; have n0_ := Aside0.mk (below_step (by repeat (first | (with_reducible first | exact HB.out | apply below_alloc | apply pw_below_drewN | apply below_drew1) | exact HB.out)) hb); clear HB; have HB := n0_; clear n0_; (try clear hb); (try clear hb2); (try clear hk); (try clear hi)) | ((with_reducible refine gate_callee (f := 16) rfl ?_); refine goesL_ (some 6) rfl rfl Try.func16 (by kernel_rfl) rfl #[.int .i64 a0] rfl (by (try simp only [List.map_toArray, List.map_cons, List.map_nil]); first | done | rfl | (simp only [List.length_drop, List.length_take]; rfl)) ?_; (with_reducible refine (addr_Vid.calls a0 t106 _ A4.out).mono ?_); rintro e w' ⟨rfl, ⟨nd, rfl⟩⟩; refine ⟨_, rfl, ?_⟩) | (go_at_call 17; (with_reducible refine (addr_Type.calls a0 t150 _ A135.out).mono ?_); rintro e w' ⟨rfl, ⟨nd, rfl⟩⟩) | (go_at_call 18; (with_reducible refine (addr_Length.calls a0 t172 _ A200.out).mono ?_); rintro e w' ⟨rfl, ⟨nd, rfl⟩⟩) | (go_at_call 17; (with_reducible refine (addr_Type.calls a0 false _ A203.out).mono ?_); rintro e w' ⟨rfl, ⟨nd, rfl⟩⟩) | (go_at_call 17; (with_reducible refine (addr_Type.calls 33024 true _ A219.out).mono ?_); rintro e w' ⟨rfl, ⟨nd, rfl⟩⟩) | (go_at_call 17; (with_reducible refine (addr_Type.calls 35061 false _ A221.out).mono ?_); rintro e w' ⟨rfl, ⟨nd, rfl⟩⟩))
           go_ret
           exact ⟨by first | rfl | (simp [*] <;> rfl), by repeat (first | exact HB.out | apply below_alloc | apply pw_below_drewN | apply below_drew1)⟩
         ·
          replace c220 := Bool.eq_false_iff.mpr c220
          subst c220
          rw [if_neg (show ¬ (false = true) by decide)] at H
          obtain rfl := Option.some.inj H
          go_enter Try.func5, Try.ntmps5
          go_wp2_with (first | ((with_reducible refine gate_callee (f := 8) rfl ?_); refine goesL_ (some 3) rfl rfl Try.func8 (by kernel_rfl) rfl #[] rfl (by (try simp only [List.map_toArray, List.map_cons, List.map_nil]); first | done | rfl | (simp only [List.length_drop, List.length_take]; rfl)) ?_; (with_reducible refine (kissgatelaw02_alive.calls  true _ A2.out).mono ?_); rintro e w229 ⟨rfl, hb⟩; refine ⟨_, rfl, ?_⟩; have n0_ := Aside0.mk (below_step (by repeat (first | (with_reducible first | exact HB.out | apply below_alloc | apply pw_below_drewN | apply below_drew1) | exact HB.out)) hb); clear HB; have HB := n0_; clear n0_; (try clear hb); (try clear hb2); (try clear hk); (try clear hi)) | ((with_reducible refine gate_callee (f := 16) rfl ?_); refine goesL_ (some 6) rfl rfl Try.func16 (by kernel_rfl) rfl #[.int .i64 a0] rfl (by (try simp only [List.map_toArray, List.map_cons, List.map_nil]); first | done | rfl | (simp only [List.length_drop, List.length_take]; rfl)) ?_; (with_reducible refine (addr_Vid.calls a0 t106 _ A4.out).mono ?_); rintro e w' ⟨rfl, ⟨nd, rfl⟩⟩; refine ⟨_, rfl, ?_⟩) | (go_at_call 17; (with_reducible refine (addr_Type.calls a0 t150 _ A135.out).mono ?_); rintro e w' ⟨rfl, ⟨nd, rfl⟩⟩) | (go_at_call 18; (with_reducible refine (addr_Length.calls a0 t172 _ A200.out).mono ?_); rintro e w' ⟨rfl, ⟨nd, rfl⟩⟩) | (go_at_call 17; (with_reducible refine (addr_Type.calls a0 false _ A203.out).mono ?_); rintro e w' ⟨rfl, ⟨nd, rfl⟩⟩) | (go_at_call 17; (with_reducible refine (addr_Type.calls 33024 false _ A219.out).mono ?_); rintro e w' ⟨rfl, ⟨nd, rfl⟩⟩))
          go_ret
          exact ⟨by first | rfl | (simp [*] <;> rfl), by repeat (first | exact HB.out | apply below_alloc | apply pw_below_drewN | apply below_drew1)⟩
       ·
        rw [if_neg c202] at H
        have c202b0 : (t172 == (decide (a0 < 1501))) = false := by simpa using c202
        (try (have c202b1 : decide (t172 = (decide (a0 < 1501))) = false := by simpa using c202))
        (try (have c202b2 : (t172 == (decide (a0 < 1501))) = false := by simpa using c202))
        (try (have c202b3 : ¬ (t172 = (decide (a0 < 1501))) := by simpa using c202))
        clear c202
        obtain rfl := Option.some.inj H
        go_enter Try.func5, Try.ntmps5
        go_wp2_with (first | ((with_reducible refine gate_callee (f := 8) rfl ?_); refine goesL_ (some 3) rfl rfl Try.func8 (by kernel_rfl) rfl #[] rfl (by (try simp only [List.map_toArray, List.map_cons, List.map_nil]); first | done | rfl | (simp only [List.length_drop, List.length_take]; rfl)) ?_; (with_reducible refine (kissgatelaw02_alive.calls  true _ A2.out).mono ?_); rintro e w230 ⟨rfl, hb⟩; refine ⟨_, rfl, ?_⟩; have n0_ := Aside0.mk (below_step (by repeat (first | (with_reducible first | exact HB.out | apply below_alloc | apply pw_below_drewN | apply below_drew1) | exact HB.out)) hb); clear HB; have HB := n0_; clear n0_; (try clear hb); (try clear hb2); (try clear hk); (try clear hi)) | ((with_reducible refine gate_callee (f := 16) rfl ?_); refine goesL_ (some 6) rfl rfl Try.func16 (by kernel_rfl) rfl #[.int .i64 a0] rfl (by (try simp only [List.map_toArray, List.map_cons, List.map_nil]); first | done | rfl | (simp only [List.length_drop, List.length_take]; rfl)) ?_; (with_reducible refine (addr_Vid.calls a0 t106 _ A4.out).mono ?_); rintro e w' ⟨rfl, ⟨nd, rfl⟩⟩; refine ⟨_, rfl, ?_⟩) | (go_at_call 17; (with_reducible refine (addr_Type.calls a0 t150 _ A135.out).mono ?_); rintro e w' ⟨rfl, ⟨nd, rfl⟩⟩) | (go_at_call 18; (with_reducible refine (addr_Length.calls a0 t172 _ A200.out).mono ?_); rintro e w' ⟨rfl, ⟨nd, rfl⟩⟩))
        go_ret
        exact ⟨by first | rfl | (simp [*] <;> rfl), by repeat (first | exact HB.out | apply below_alloc | apply pw_below_drewN | apply below_drew1)⟩
      ·
       rw [if_neg c201] at H
       have c201b0 : decide ((-1) < a0) = false := decide_eq_false c201
       clear c201
       by_cases c231 : (t172 == false) = true
       ·
        rw [if_pos c231] at H
        have c231b0 : (t172 == false) = true := c231
        (try (have c231b1 : decide (t172 = false) = true := by simpa using c231))
        (try (have c231b2 : (t172 == false) = true := by simpa using c231))
        clear c231
        replace H := Option.bind_eq_some_iff.mp H
        obtain ⟨t183, A2320, H⟩ := H
        try ((with_reducible have e_ := Option.some.inj (A2320.symm.trans A135.out)); subst e_)
        replace H : (if t183 = true then ((addr_Length.f a0).bind fun t184 => (if t184 = true then (some false) else ((addr_Type.f 33024).bind fun t185 => (if t185 = true then ((addr_Type.f 35061).bind fun t186 => (if t186 = true then ((addr_Type.f 35062).bind fun t187 => (if t187 = true then ((addr_Type.f 2048).bind fun t188 => (some t188)) else (some false))) else (some false))) else (some false))))) else ((addr_Type.f 33024).bind fun t189 => (if t189 = true then ((addr_Type.f 35061).bind fun t190 => (if t190 = true then ((addr_Type.f 35062).bind fun t191 => (if t191 = true then ((addr_Type.f 2048).bind fun t192 => (some t192)) else (some false))) else (some false))) else (some false)))) = some r := H
        have A232 := Aside0.mk A2320
        clear A2320
        by_cases c233 : t183 = true
        ·
         subst c233
         rw [if_pos rfl] at H
         replace H := Option.bind_eq_some_iff.mp H
         obtain ⟨t184, A2340, H⟩ := H
         try ((with_reducible have e_ := Option.some.inj (A2340.symm.trans A200.out)); subst e_)
         replace H : (if t184 = true then (some false) else ((addr_Type.f 33024).bind fun t185 => (if t185 = true then ((addr_Type.f 35061).bind fun t186 => (if t186 = true then ((addr_Type.f 35062).bind fun t187 => (if t187 = true then ((addr_Type.f 2048).bind fun t188 => (some t188)) else (some false))) else (some false))) else (some false)))) = some r := H
         have A234 := Aside0.mk A2340
         clear A2340
         by_cases c235 : t184 = true
         ·
          subst c235
          rw [if_pos rfl] at H
          obtain rfl := Option.some.inj H
          go_enter Try.func5, Try.ntmps5
          go_wp2_with (first | ((with_reducible refine gate_callee (f := 8) rfl ?_); refine goesL_ (some 3) rfl rfl Try.func8 (by kernel_rfl) rfl #[] rfl (by (try simp only [List.map_toArray, List.map_cons, List.map_nil]); first | done | rfl | (simp only [List.length_drop, List.length_take]; rfl)) ?_; (with_reducible refine (kissgatelaw02_alive.calls  true _ A2.out).mono ?_); rintro e w236 ⟨rfl, hb⟩; refine ⟨_, rfl, ?_⟩; have n0_ := Aside0.mk (below_step (by repeat (first | (with_reducible first | exact HB.out | apply below_alloc | apply pw_below_drewN | apply below_drew1) | exact HB.out)) hb); clear HB; have HB := n0_; clear n0_; (try clear hb); (try clear hb2); (try clear hk); (try clear hi)) | ((with_reducible refine gate_callee (f := 16) rfl ?_); refine goesL_ (some 6) rfl rfl Try.func16 (by kernel_rfl) rfl #[.int .i64 a0] rfl (by (try simp only [List.map_toArray, List.map_cons, List.map_nil]); first | done | rfl | (simp only [List.length_drop, List.length_take]; rfl)) ?_; (with_reducible refine (addr_Vid.calls a0 t106 _ A4.out).mono ?_); rintro e w' ⟨rfl, ⟨nd, rfl⟩⟩; refine ⟨_, rfl, ?_⟩) | (go_at_call 17; (with_reducible refine (addr_Type.calls a0 t150 _ A135.out).mono ?_); rintro e w' ⟨rfl, ⟨nd, rfl⟩⟩) | (go_at_call 18; (with_reducible refine (addr_Length.calls a0 t172 _ A200.out).mono ?_); rintro e w' ⟨rfl, ⟨nd, rfl⟩⟩) | (go_at_call 17; (with_reducible refine (addr_Type.calls a0 true _ A232.out).mono ?_); rintro e w' ⟨rfl, ⟨nd, rfl⟩⟩) | (go_at_call 18; (with_reducible refine (addr_Length.calls a0 true _ A234.out).mono ?_); rintro e w' ⟨rfl, ⟨nd, rfl⟩⟩))
          go_ret
          exact ⟨by first | rfl | (simp [*] <;> rfl), by repeat (first | exact HB.out | apply below_alloc | apply pw_below_drewN | apply below_drew1)⟩
         ·
          replace c235 := Bool.eq_false_iff.mpr c235
          subst c235
          rw [if_neg (show ¬ (false = true) by decide)] at H
          replace H := Option.bind_eq_some_iff.mp H
          obtain ⟨t185, A2370, H⟩ := H
          replace H : (if t185 = true then ((addr_Type.f 35061).bind fun t186 => (if t186 = true then ((addr_Type.f 35062).bind fun t187 => (if t187 = true then ((addr_Type.f 2048).bind fun t188 => (some t188)) else (some false))) else (some false))) else (some false)) = some r := H
          have A237 := Aside0.mk A2370
          clear A2370
          by_cases c238 : t185 = true
          ·
           subst c238
           rw [if_pos rfl] at H
           replace H := Option.bind_eq_some_iff.mp H
           obtain ⟨t186, A2390, H⟩ := H
           replace H : (if t186 = true then ((addr_Type.f 35062).bind fun t187 => (if t187 = true then ((addr_Type.f 2048).bind fun t188 => (some t188)) else (some false))) else (some false)) = some r := H
           have A239 := Aside0.mk A2390
           clear A2390
           by_cases c240 : t186 = true
           ·
            subst c240
            rw [if_pos rfl] at H
            replace H := Option.bind_eq_some_iff.mp H
            obtain ⟨t187, A2410, H⟩ := H
            replace H : (if t187 = true then ((addr_Type.f 2048).bind fun t188 => (some t188)) else (some false)) = some r := H
            have A241 := Aside0.mk A2410
            clear A2410
            by_cases c242 : t187 = true
            ·
             subst c242
             rw [if_pos rfl] at H
             replace H := Option.bind_eq_some_iff.mp H
             obtain ⟨t188, A2430, H⟩ := H
             replace H : (some t188) = some r := H
             have A243 := Aside0.mk A2430
             clear A2430
             obtain rfl := Option.some.inj H
             go_enter Try.func5, Try.ntmps5
             go_wp2_with (first | ((with_reducible refine gate_callee (f := 8) rfl ?_); refine goesL_ (some 3) rfl rfl Try.func8 (by kernel_rfl) rfl #[] rfl (by (try simp only [List.map_toArray, List.map_cons, List.map_nil]); first | done | rfl | (simp only [List.length_drop, List.length_take]; rfl)) ?_; (with_reducible refine (kissgatelaw02_alive.calls  true _ A2.out).mono ?_); rintro e w244 ⟨rfl, hb⟩; refine ⟨_, rfl, ?_⟩; have n0_ := Aside0.mk (below_step (by repeat (first | (with_reducible first | exact HB.out | apply below_alloc | apply pw_below_drewN | apply below_drew1) | exact HB.out)) hb); clear HB; have HB := n0_; clear n0_; (try clear hb); (try clear hb2); (try clear hk); (try clear hi)) | ((with_reducible refine gate_callee (f := 16) rfl ?_); refine goesL_ (some 6) rfl rfl Try.func16 (by kernel_rfl) rfl #[.int .i64 a0] rfl (by (try simp only [List.map_toArray, List.map_cons, List.map_nil]); first | done | rfl | (simp only [List.length_drop, List.length_take]; rfl)) ?_; (with_reducible refine (addr_Vid.calls a0 t106 _ A4.out).mono ?_); rintro e w' ⟨rfl, ⟨nd, rfl⟩⟩; refine ⟨_, rfl, ?_⟩) | (go_at_call 17; (with_reducible refine (addr_Type.calls a0 t150 _ A135.out).mono ?_); rintro e w' ⟨rfl, ⟨nd, rfl⟩⟩) | (go_at_call 18; (with_reducible refine (addr_Length.calls a0 t172 _ A200.out).mono ?_); rintro e w' ⟨rfl, ⟨nd, rfl⟩⟩) | (go_at_call 17; (with_reducible refine (addr_Type.calls a0 true _ A232.out).mono ?_); rintro e w' ⟨rfl, ⟨nd, rfl⟩⟩) | (go_at_call 18; (with_reducible refine (addr_Length.calls a0 false _ A234.out).mono ?_); rintro e w' ⟨rfl, ⟨nd, rfl⟩⟩) | (go_at_call 17; (with_reducible refine (addr_Type.calls 33024 true _ A237.out).mono ?_); rintro e w' ⟨rfl, ⟨nd, rfl⟩⟩) | (go_at_call 17; (with_reducible refine (addr_Type.calls 35061 true _ A239.out).mono ?_); rintro e w' ⟨rfl, ⟨nd, rfl⟩⟩) | (go_at_call 17; (with_reducible refine (addr_Type.calls 35062 true _ A241.out).mono ?_); rintro e w' ⟨rfl, ⟨nd, rfl⟩⟩) | (go_at_call 17; (with_reducible refine (addr_Type.calls 2048 t188 _ A243.out).mono ?_); rintro e w' ⟨rfl, ⟨nd, rfl⟩⟩))
             go_ret
             exact ⟨by first | rfl | (simp [*] <;> rfl), by repeat (first | exact HB.out | apply below_alloc | apply pw_below_drewN | apply below_drew1)⟩
            ·
             replace c242 := Bool.eq_false_iff.mpr c242
             subst c242
             rw [if_neg (show ¬ (false = true) by decide)] at H
             obtain rfl := Option.some.inj H
             go_enter Try.func5, Try.ntmps5
             go_wp2_with (first | ((with_reducible refine gate_callee (f := 8) rfl ?_); refine goesL_ (some 3) rfl rfl Try.func8 (by kernel_rfl) rfl #[] rfl (by (try simp only [List.map_toArray, List.map_cons, List.map_nil]); first | done | rfl | (simp only [List.length_drop, List.length_take]; rfl)) ?_; (with_reducible refine (kissgatelaw02_alive.calls  true _ A2.out).mono ?_); rintro e w245 ⟨rfl, hb⟩; refine ⟨_, rfl, ?_⟩; have n0_ := Aside0.mk (below_step (by repeat (first | (with_reducible first | exact HB.out | apply below_alloc | apply pw_below_drewN | apply below_drew1) | exact HB.out)) hb); clear HB; have HB := n0_; clear n0_; (try clear hb); (try clear hb2); (try clear hk); (try clear hi)) | ((with_reducible refine gate_callee (f := 16) rfl ?_); refine goesL_ (some 6) rfl rfl Try.func16 (by kernel_rfl) rfl #[.int .i64 a0] rfl (by (try simp only [List.map_toArray, List.map_cons, List.map_nil]); first | done | rfl | (simp only [List.length_drop, List.length_take]; rfl)) ?_; (with_reducible refine (addr_Vid.calls a0 t106 _ A4.out).mono ?_); rintro e w' ⟨rfl, ⟨nd, rfl⟩⟩; refine ⟨_, rfl, ?_⟩) | (go_at_call 17; (with_reducible refine (addr_Type.calls a0 t150 _ A135.out).mono ?_); rintro e w' ⟨rfl, ⟨nd, rfl⟩⟩) | (go_at_call 18; (with_reducible refine (addr_Length.calls a0 t172 _ A200.out).mono ?_); rintro e w' ⟨rfl, ⟨nd, rfl⟩⟩) | (go_at_call 17; (with_reducible refine (addr_Type.calls a0 true _ A232.out).mono ?_); rintro e w' ⟨rfl, ⟨nd, rfl⟩⟩) | (go_at_call 18; (with_reducible refine (addr_Length.calls a0 false _ A234.out).mono ?_); rintro e w' ⟨rfl, ⟨nd, rfl⟩⟩) | (go_at_call 17; (with_reducible refine (addr_Type.calls 33024 true _ A237.out).mono ?_); rintro e w' ⟨rfl, ⟨nd, rfl⟩⟩) | (go_at_call 17; (with_reducible refine (addr_Type.calls 35061 true _ A239.out).mono ?_); rintro e w' ⟨rfl, ⟨nd, rfl⟩⟩) | (go_at_call 17; (with_reducible refine (addr_Type.calls 35062 false _ A241.out).mono ?_); rintro e w' ⟨rfl, ⟨nd, rfl⟩⟩))
             go_ret
             exact ⟨by first | rfl | (simp [*] <;> rfl), by repeat (first | exact HB.out | apply below_alloc | apply pw_below_drewN | apply below_drew1)⟩
           ·
            replace c240 := Bool.eq_false_iff.mpr c240
            subst c240
            rw [if_neg (show ¬ (false = true) by decide)] at H
            obtain rfl := Option.some.inj H
            go_enter Try.func5, Try.ntmps5
            go_wp2_with (first | ((with_reducible refine gate_callee (f := 8) rfl ?_); refine goesL_ (some 3) rfl rfl Try.func8 (by kernel_rfl) rfl #[] rfl (by (try simp only [List.map_toArray, List.map_cons, List.map_nil]); first | done | rfl | (simp only [List.length_drop, List.length_take]; rfl)) ?_; (with_reducible refine (kissgatelaw02_alive.calls  true _ A2.out).mono ?_); rintro e w246 ⟨rfl, hb⟩; refine ⟨_, rfl, ?_⟩; have n0_ := Aside0.mk (below_step (by repeat (first | (with_reducible first | exact HB.out | apply below_alloc | apply pw_below_drewN | apply below_drew1) | exact HB.out)) hb); clear HB; have HB := n0_; clear n0_; (try clear hb); (try clear hb2); (try clear hk); (try clear hi)) | ((with_reducible refine gate_callee (f := 16) rfl ?_); refine goesL_ (some 6) rfl rfl Try.func16 (by kernel_rfl) rfl #[.int .i64 a0] rfl (by (try simp only [List.map_toArray, List.map_cons, List.map_nil]); first | done | rfl | (simp only [List.length_drop, List.length_take]; rfl)) ?_; (with_reducible refine (addr_Vid.calls a0 t106 _ A4.out).mono ?_); rintro e w' ⟨rfl, ⟨nd, rfl⟩⟩; refine ⟨_, rfl, ?_⟩) | (go_at_call 17; (with_reducible refine (addr_Type.calls a0 t150 _ A135.out).mono ?_); rintro e w' ⟨rfl, ⟨nd, rfl⟩⟩) | (go_at_call 18; (with_reducible refine (addr_Length.calls a0 t172 _ A200.out).mono ?_); rintro e w' ⟨rfl, ⟨nd, rfl⟩⟩) | (go_at_call 17; (with_reducible refine (addr_Type.calls a0 true _ A232.out).mono ?_); rintro e w' ⟨rfl, ⟨nd, rfl⟩⟩) | (go_at_call 18; (with_reducible refine (addr_Length.calls a0 false _ A234.out).mono ?_); rintro e w' ⟨rfl, ⟨nd, rfl⟩⟩) | (go_at_call 17; (with_reducible refine (addr_Type.calls 33024 true _ A237.out).mono ?_); rintro e w' ⟨rfl, ⟨nd, rfl⟩⟩) | (go_at_call 17; (with_reducible refine (addr_Type.calls 35061 false _ A239.out).mono ?_); rintro e w' ⟨rfl, ⟨nd, rfl⟩⟩))
            go_ret
            exact ⟨by first | rfl | (simp [*] <;> rfl), by repeat (first | exact HB.out | apply below_alloc | apply pw_below_drewN | apply below_drew1)⟩
          ·
           replace c238 := Bool.eq_false_iff.mpr c238
           subst c238
           rw [if_neg (show ¬ (false = true) by decide)] at H
           obtain rfl := Option.some.inj H
           go_enter Try.func5, Try.ntmps5
           go_wp2_with (first | ((with_reducible refine gate_callee (f := 8) rfl ?_); refine goesL_ (some 3) rfl rfl Try.func8 (by kernel_rfl) rfl #[] rfl (by (try simp only [List.map_toArray, List.map_cons, List.map_nil]); first | done | rfl | (simp only [List.length_drop, List.length_take]; rfl)) ?_; (with_reducible refine (kissgatelaw02_alive.calls  true _ A2.out).mono ?_); rintro e w247 ⟨rfl, hb⟩; refine ⟨_, rfl, ?_⟩; have n0_ := Aside0.mk (below_step (by repeat (first | (with_reducible first | exact HB.out | apply below_alloc | apply pw_below_drewN | apply below_drew1) | exact HB.out)) hb); clear HB; have HB := n0_; clear n0_; (try clear hb); (try clear hb2); (try clear hk); (try clear hi)) | ((with_reducible refine gate_callee (f := 16) rfl ?_); refine goesL_ (some 6) rfl rfl Try.func16 (by kernel_rfl) rfl #[.int .i64 a0] rfl (by (try simp only [List.map_toArray, List.map_cons, List.map_nil]); first | done | rfl | (simp only [List.length_drop, List.length_take]; rfl)) ?_; (with_reducible refine (addr_Vid.calls a0 t106 _ A4.out).mono ?_); rintro e w' ⟨rfl, ⟨nd, rfl⟩⟩; refine ⟨_, rfl, ?_⟩) | (go_at_call 17; (with_reducible refine (addr_Type.calls a0 t150 _ A135.out).mono ?_); rintro e w' ⟨rfl, ⟨nd, rfl⟩⟩) | (go_at_call 18; (with_reducible refine (addr_Length.calls a0 t172 _ A200.out).mono ?_); rintro e w' ⟨rfl, ⟨nd, rfl⟩⟩) | (go_at_call 17; (with_reducible refine (addr_Type.calls a0 true _ A232.out).mono ?_); rintro e w' ⟨rfl, ⟨nd, rfl⟩⟩) | (go_at_call 18; (with_reducible refine (addr_Length.calls a0 false _ A234.out).mono ?_); rintro e w' ⟨rfl, ⟨nd, rfl⟩⟩) | (go_at_call 17; (with_reducible refine (addr_Type.calls 33024 false _ A237.out).mono ?_); rintro e w' ⟨rfl, ⟨nd, rfl⟩⟩))
           go_ret
           exact ⟨by first | rfl | (simp [*] <;> rfl), by repeat (first | exact HB.out | apply below_alloc | apply pw_below_drewN | apply below_drew1)⟩
        ·
         replace c233 := Bool.eq_false_iff.mpr c233
         subst c233
         rw [if_neg (show ¬ (false = true) by decide)] at H
         replace H := Option.bind_eq_some_iff.mp H
         obtain ⟨t189, A2480, H⟩ := H
         replace H : (if t189 = true then ((addr_Type.f 35061).bind fun t190 => (if t190 = true then ((addr_Type.f 35062).bind fun t191 => (if t191 = true then ((addr_Type.f 2048).bind fun t192 => (some t192)) else (some false))) else (some false))) else (some false)) = some r := H
         have A248 := Aside0.mk A2480
         clear A2480
         by_cases c249 : t189 = true
         ·
          subst c249
          rw [if_pos rfl] at H
          replace H := Option.bind_eq_some_iff.mp H
          obtain ⟨t190, A2500, H⟩ := H
          replace H : (if t190 = true then ((addr_Type.f 35062).bind fun t191 => (if t191 = true then ((addr_Type.f 2048).bind fun t192 => (some t192)) else (some false))) else (some false)) = some r := H
          have A250 := Aside0.mk A2500
          clear A2500
          by_cases c251 : t190 = true
          ·
           subst c251
           rw [if_pos rfl] at H
           replace H := Option.bind_eq_some_iff.mp H
           obtain ⟨t191, A2520, H⟩ := H
           replace H : (if t191 = true then ((addr_Type.f 2048).bind fun t192 => (some t192)) else (some false)) = some r := H
           have A252 := Aside0.mk A2520
           clear A2520
           by_cases c253 : t191 = true
           ·
            subst c253
            rw [if_pos rfl] at H
            replace H := Option.bind_eq_some_iff.mp H
            obtain ⟨t192, A2540, H⟩ := H
            replace H : (some t192) = some r := H
            have A254 := Aside0.mk A2540
            clear A2540
            obtain rfl := Option.some.inj H
            go_enter Try.func5, Try.ntmps5
            go_wp2_with (first | ((with_reducible refine gate_callee (f := 8) rfl ?_); refine goesL_ (some 3) rfl rfl Try.func8 (by kernel_rfl) rfl #[] rfl (by (try simp only [List.map_toArray, List.map_cons, List.map_nil]); first | done | rfl | (simp only [List.length_drop, List.length_take]; rfl)) ?_; (with_reducible refine (kissgatelaw02_alive.calls  true _ A2.out).mono ?_); rintro e w255 ⟨rfl, hb⟩; refine ⟨_, rfl, ?_⟩; have n0_ := Aside0.mk (below_step (by repeat (first | (with_reducible first | exact HB.out | apply below_alloc | apply pw_below_drewN | apply below_drew1) | exact HB.out)) hb); clear HB; have HB := n0_; clear n0_; (try clear hb); (try clear hb2); (try clear hk); (try clear hi)) | ((with_reducible refine gate_callee (f := 16) rfl ?_); refine goesL_ (some 6) rfl rfl Try.func16 (by kernel_rfl) rfl #[.int .i64 a0] rfl (by (try simp only [List.map_toArray, List.map_cons, List.map_nil]); first | done | rfl | (simp only [List.length_drop, List.length_take]; rfl)) ?_; (with_reducible refine (addr_Vid.calls a0 t106 _ A4.out).mono ?_); rintro e w' ⟨rfl, ⟨nd, rfl⟩⟩; refine ⟨_, rfl, ?_⟩) | (go_at_call 17; (with_reducible refine (addr_Type.calls a0 t150 _ A135.out).mono ?_); rintro e w' ⟨rfl, ⟨nd, rfl⟩⟩) | (go_at_call 18; (with_reducible refine (addr_Length.calls a0 t172 _ A200.out).mono ?_); rintro e w' ⟨rfl, ⟨nd, rfl⟩⟩) | (go_at_call 17; (with_reducible refine (addr_Type.calls a0 false _ A232.out).mono ?_); rintro e w' ⟨rfl, ⟨nd, rfl⟩⟩) | (go_at_call 17; (with_reducible refine (addr_Type.calls 33024 true _ A248.out).mono ?_); rintro e w' ⟨rfl, ⟨nd, rfl⟩⟩) | (go_at_call 17; (with_reducible refine (addr_Type.calls 35061 true _ A250.out).mono ?_); rintro e w' ⟨rfl, ⟨nd, rfl⟩⟩) | (go_at_call 17; (with_reducible refine (addr_Type.calls 35062 true _ A252.out).mono ?_); rintro e w' ⟨rfl, ⟨nd, rfl⟩⟩) | (go_at_call 17; (with_reducible refine (addr_Type.calls 2048 t192 _ A254.out).mono ?_); rintro e w' ⟨rfl, ⟨nd, rfl⟩⟩))
            go_ret
            exact ⟨by first | rfl | (simp [*] <;> rfl), by repeat (first | exact HB.out | apply below_alloc | apply pw_below_drewN | apply below_drew1)⟩
           ·
            replace c253 := Bool.eq_false_iff.mpr c253
            subst c253
            rw [if_neg (show ¬ (false = true) by decide)] at H
            obtain rfl := Option.some.inj H
            go_enter Try.func5, Try.ntmps5
            go_wp2_with (first | ((with_reducible refine gate_callee (f := 8) rfl ?_); refine goesL_ (some 3) rfl rfl Try.func8 (by kernel_rfl) rfl #[] rfl (by (try simp only [List.map_toArray, List.map_cons, List.map_nil]); first | done | rfl | (simp only [List.length_drop, List.length_take]; rfl)) ?_; (with_reducible refine (kissgatelaw02_alive.calls  true _ A2.out).mono ?_); rintro e w256 ⟨rfl, hb⟩; refine ⟨_, rfl, ?_⟩; have n0_ := Aside0.mk (below_step (by repeat (first | (with_reducible first | exact HB.out | apply below_alloc | apply pw_below_drewN | apply below_drew1) | exact HB.out)) hb); clear HB; have HB := n0_; clear n0_; (try clear hb); (try clear hb2); (try clear hk); (try clear hi)) | ((with_reducible refine gate_callee (f := 16) rfl ?_); refine goesL_ (some 6) rfl rfl Try.func16 (by kernel_rfl) rfl #[.int .i64 a0] rfl (by (try simp only [List.map_toArray, List.map_cons, List.map_nil]); first | done | rfl | (simp only [List.length_drop, List.length_take]; rfl)) ?_; (with_reducible refine (addr_Vid.calls a0 t106 _ A4.out).mono ?_); rintro e w' ⟨rfl, ⟨nd, rfl⟩⟩; refine ⟨_, rfl, ?_⟩) | (go_at_call 17; (with_reducible refine (addr_Type.calls a0 t150 _ A135.out).mono ?_); rintro e w' ⟨rfl, ⟨nd, rfl⟩⟩) | (go_at_call 18; (with_reducible refine (addr_Length.calls a0 t172 _ A200.out).mono ?_); rintro e w' ⟨rfl, ⟨nd, rfl⟩⟩) | (go_at_call 17; (with_reducible refine (addr_Type.calls a0 false _ A232.out).mono ?_); rintro e w' ⟨rfl, ⟨nd, rfl⟩⟩) | (go_at_call 17; (with_reducible refine (addr_Type.calls 33024 true _ A248.out).mono ?_); rintro e w' ⟨rfl, ⟨nd, rfl⟩⟩) | (go_at_call 17; (with_reducible refine (addr_Type.calls 35061 true _ A250.out).mono ?_); rintro e w' ⟨rfl, ⟨nd, rfl⟩⟩) | (go_at_call 17; (with_reducible refine (addr_Type.calls 35062 false _ A252.out).mono ?_); rintro e w' ⟨rfl, ⟨nd, rfl⟩⟩))
            go_ret
            exact ⟨by first | rfl | (simp [*] <;> rfl), by repeat (first | exact HB.out | apply below_alloc | apply pw_below_drewN | apply below_drew1)⟩
          ·
           replace c251 := Bool.eq_false_iff.mpr c251
           subst c251
           rw [if_neg (show ¬ (false = true) by decide)] at H
           obtain rfl := Option.some.inj H
           go_enter Try.func5, Try.ntmps5
           go_wp2_with (first | ((with_reducible refine gate_callee (f := 8) rfl ?_); refine goesL_ (some 3) rfl rfl Try.func8 (by kernel_rfl) rfl #[] rfl (by (try simp only [List.map_toArray, List.map_cons, List.map_nil]); first | done | rfl | (simp only [List.length_drop, List.length_take]; rfl)) ?_; (with_reducible refine (kissgatelaw02_alive.calls  true _ A2.out).mono ?_); rintro e w257 ⟨rfl, hb⟩; refine ⟨_, rfl, ?_⟩; have n0_ := Aside0.mk (below_step (by repeat (first | (with_reducible first | exact HB.out | apply below_alloc | apply pw_below_drewN | apply below_drew1) | exact HB.out)) hb); clear HB; have HB := n0_; clear n0_; (try clear hb); (try clear hb2); (try clear hk); (try clear hi)) | ((with_reducible refine gate_callee (f := 16) rfl ?_); refine goesL_ (some 6) rfl rfl Try.func16 (by kernel_rfl) rfl #[.int .i64 a0] rfl (by (try simp only [List.map_toArray, List.map_cons, List.map_nil]); first | done | rfl | (simp only [List.length_drop, List.length_take]; rfl)) ?_; (with_reducible refine (addr_Vid.calls a0 t106 _ A4.out).mono ?_); rintro e w' ⟨rfl, ⟨nd, rfl⟩⟩; refine ⟨_, rfl, ?_⟩) | (go_at_call 17; (with_reducible refine (addr_Type.calls a0 t150 _ A135.out).mono ?_); rintro e w' ⟨rfl, ⟨nd, rfl⟩⟩) | (go_at_call 18; (with_reducible refine (addr_Length.calls a0 t172 _ A200.out).mono ?_); rintro e w' ⟨rfl, ⟨nd, rfl⟩⟩) | (go_at_call 17; (with_reducible refine (addr_Type.calls a0 false _ A232.out).mono ?_); rintro e w' ⟨rfl, ⟨nd, rfl⟩⟩) | (go_at_call 17; (with_reducible refine (addr_Type.calls 33024 true _ A248.out).mono ?_); rintro e w' ⟨rfl, ⟨nd, rfl⟩⟩) | (go_at_call 17; (with_reducible refine (addr_Type.calls 35061 false _ A250.out).mono ?_); rintro e w' ⟨rfl, ⟨nd, rfl⟩⟩))
           go_ret
           exact ⟨by first | rfl | (simp [*] <;> rfl), by repeat (first | exact HB.out | apply below_alloc | apply pw_below_drewN | apply below_drew1)⟩
         ·
          replace c249 := Bool.eq_false_iff.mpr c249
          subst c249
          rw [if_neg (show ¬ (false = true) by decide)] at H
          obtain rfl := Option.some.inj H
          go_enter Try.func5, Try.ntmps5
          go_wp2_with (first | ((with_reducible refine gate_callee (f := 8) rfl ?_); refine goesL_ (some 3) rfl rfl Try.func8 (by kernel_rfl) rfl #[] rfl (by (try simp only [List.map_toArray, List.map_cons, List.map_nil]); first | done | rfl | (simp only [List.length_drop, List.length_take]; rfl)) ?_; (with_reducible refine (kissgatelaw02_alive.calls  true _ A2.out).mono ?_); rintro e w258 ⟨rfl, hb⟩; refine ⟨_, rfl, ?_⟩; have n0_ := Aside0.mk (below_step (by repeat (first | (with_reducible first | exact HB.out | apply below_alloc | apply pw_below_drewN | apply below_drew1) | exact HB.out)) hb); clear HB; have HB := n0_; clear n0_; (try clear hb); (try clear hb2); (try clear hk); (try clear hi)) | ((with_reducible refine gate_callee (f := 16) rfl ?_); refine goesL_ (some 6) rfl rfl Try.func16 (by kernel_rfl) rfl #[.int .i64 a0] rfl (by (try simp only [List.map_toArray, List.map_cons, List.map_nil]); first | done | rfl | (simp only [List.length_drop, List.length_take]; rfl)) ?_; (with_reducible refine (addr_Vid.calls a0 t106 _ A4.out).mono ?_); rintro e w' ⟨rfl, ⟨nd, rfl⟩⟩; refine ⟨_, rfl, ?_⟩) | (go_at_call 17; (with_reducible refine (addr_Type.calls a0 t150 _ A135.out).mono ?_); rintro e w' ⟨rfl, ⟨nd, rfl⟩⟩) | (go_at_call 18; (with_reducible refine (addr_Length.calls a0 t172 _ A200.out).mono ?_); rintro e w' ⟨rfl, ⟨nd, rfl⟩⟩) | (go_at_call 17; (with_reducible refine (addr_Type.calls a0 false _ A232.out).mono ?_); rintro e w' ⟨rfl, ⟨nd, rfl⟩⟩) | (go_at_call 17; (with_reducible refine (addr_Type.calls 33024 false _ A248.out).mono ?_); rintro e w' ⟨rfl, ⟨nd, rfl⟩⟩))
          go_ret
          exact ⟨by first | rfl | (simp [*] <;> rfl), by repeat (first | exact HB.out | apply below_alloc | apply pw_below_drewN | apply below_drew1)⟩
       ·
        rw [if_neg c231] at H
        have c231b0 : (t172 == false) = false := by simpa using c231
        (try (have c231b1 : decide (t172 = false) = false := by simpa using c231))
        (try (have c231b2 : (t172 == false) = false := by simpa using c231))
        (try (have c231b3 : ¬ (t172 = false) := by simpa using c231))
        clear c231
        obtain rfl := Option.some.inj H
        go_enter Try.func5, Try.ntmps5
        go_wp2_with (first | ((with_reducible refine gate_callee (f := 8) rfl ?_); refine goesL_ (some 3) rfl rfl Try.func8 (by kernel_rfl) rfl #[] rfl (by (try simp only [List.map_toArray, List.map_cons, List.map_nil]); first | done | rfl | (simp only [List.length_drop, List.length_take]; rfl)) ?_; (with_reducible refine (kissgatelaw02_alive.calls  true _ A2.out).mono ?_); rintro e w259 ⟨rfl, hb⟩; refine ⟨_, rfl, ?_⟩; have n0_ := Aside0.mk (below_step (by repeat (first | (with_reducible first | exact HB.out | apply below_alloc | apply pw_below_drewN | apply below_drew1) | exact HB.out)) hb); clear HB; have HB := n0_; clear n0_; (try clear hb); (try clear hb2); (try clear hk); (try clear hi)) | ((with_reducible refine gate_callee (f := 16) rfl ?_); refine goesL_ (some 6) rfl rfl Try.func16 (by kernel_rfl) rfl #[.int .i64 a0] rfl (by (try simp only [List.map_toArray, List.map_cons, List.map_nil]); first | done | rfl | (simp only [List.length_drop, List.length_take]; rfl)) ?_; (with_reducible refine (addr_Vid.calls a0 t106 _ A4.out).mono ?_); rintro e w' ⟨rfl, ⟨nd, rfl⟩⟩; refine ⟨_, rfl, ?_⟩) | (go_at_call 17; (with_reducible refine (addr_Type.calls a0 t150 _ A135.out).mono ?_); rintro e w' ⟨rfl, ⟨nd, rfl⟩⟩) | (go_at_call 18; (with_reducible refine (addr_Length.calls a0 t172 _ A200.out).mono ?_); rintro e w' ⟨rfl, ⟨nd, rfl⟩⟩))
        go_ret
        exact ⟨by first | rfl | (simp [*] <;> rfl), by repeat (first | exact HB.out | apply below_alloc | apply pw_below_drewN | apply below_drew1)⟩
     ·
      rw [if_neg c199] at H
      have c199b0 : (t150 == false) = false := by simpa using c199
      (try (have c199b1 : decide (t150 = false) = false := by simpa using c199))
      (try (have c199b2 : (t150 == false) = false := by simpa using c199))
      (try (have c199b3 : ¬ (t150 = false) := by simpa using c199))
      clear c199
      obtain rfl := Option.some.inj H
      go_enter Try.func5, Try.ntmps5
      go_wp2_with (first | ((with_reducible refine gate_callee (f := 8) rfl ?_); refine goesL_ (some 3) rfl rfl Try.func8 (by kernel_rfl) rfl #[] rfl (by (try simp only [List.map_toArray, List.map_cons, List.map_nil]); first | done | rfl | (simp only [List.length_drop, List.length_take]; rfl)) ?_; (with_reducible refine (kissgatelaw02_alive.calls  true _ A2.out).mono ?_); rintro e w260 ⟨rfl, hb⟩; refine ⟨_, rfl, ?_⟩; have n0_ := Aside0.mk (below_step (by repeat (first | (with_reducible first | exact HB.out | apply below_alloc | apply pw_below_drewN | apply below_drew1) | exact HB.out)) hb); clear HB; have HB := n0_; clear n0_; (try clear hb); (try clear hb2); (try clear hk); (try clear hi)) | ((with_reducible refine gate_callee (f := 16) rfl ?_); refine goesL_ (some 6) rfl rfl Try.func16 (by kernel_rfl) rfl #[.int .i64 a0] rfl (by (try simp only [List.map_toArray, List.map_cons, List.map_nil]); first | done | rfl | (simp only [List.length_drop, List.length_take]; rfl)) ?_; (with_reducible refine (addr_Vid.calls a0 t106 _ A4.out).mono ?_); rintro e w' ⟨rfl, ⟨nd, rfl⟩⟩; refine ⟨_, rfl, ?_⟩) | (go_at_call 17; (with_reducible refine (addr_Type.calls a0 t150 _ A135.out).mono ?_); rintro e w' ⟨rfl, ⟨nd, rfl⟩⟩))
      go_ret
      exact ⟨by first | rfl | (simp [*] <;> rfl), by repeat (first | exact HB.out | apply below_alloc | apply pw_below_drewN | apply below_drew1)⟩
   ·
    rw [if_neg c134] at H
    have c134b0 : (t106 == false) = false := by simpa using c134
    (try (have c134b1 : decide (t106 = false) = false := by simpa using c134))
    (try (have c134b2 : (t106 == false) = false := by simpa using c134))
    (try (have c134b3 : ¬ (t106 = false) := by simpa using c134))
    clear c134
    obtain rfl := Option.some.inj H
    go_enter Try.func5, Try.ntmps5
    go_wp2_with (first | ((with_reducible refine gate_callee (f := 8) rfl ?_); refine goesL_ (some 3) rfl rfl Try.func8 (by kernel_rfl) rfl #[] rfl (by (try simp only [List.map_toArray, List.map_cons, List.map_nil]); first | done | rfl | (simp only [List.length_drop, List.length_take]; rfl)) ?_; (with_reducible refine (kissgatelaw02_alive.calls  true _ A2.out).mono ?_); rintro e w261 ⟨rfl, hb⟩; refine ⟨_, rfl, ?_⟩; have n0_ := Aside0.mk (below_step (by repeat (first | (with_reducible first | exact HB.out | apply below_alloc | apply pw_below_drewN | apply below_drew1) | exact HB.out)) hb); clear HB; have HB := n0_; clear n0_; (try clear hb); (try clear hb2); (try clear hk); (try clear hi)) | ((with_reducible refine gate_callee (f := 16) rfl ?_); refine goesL_ (some 6) rfl rfl Try.func16 (by kernel_rfl) rfl #[.int .i64 a0] rfl (by (try simp only [List.map_toArray, List.map_cons, List.map_nil]); first | done | rfl | (simp only [List.length_drop, List.length_take]; rfl)) ?_; (with_reducible refine (addr_Vid.calls a0 t106 _ A4.out).mono ?_); rintro e w' ⟨rfl, ⟨nd, rfl⟩⟩; refine ⟨_, rfl, ?_⟩))
    go_ret
    exact ⟨by first | rfl | (simp [*] <;> rfl), by repeat (first | exact HB.out | apply below_alloc | apply pw_below_drewN | apply below_drew1)⟩
 ·
  replace c3 := Bool.eq_false_iff.mpr c3
  subst c3
  rw [if_neg (show ¬ (false = true) by decide)] at H
  obtain rfl := Option.some.inj H
  go_enter Try.func5, Try.ntmps5
  go_wp2_with (first | ((with_reducible refine gate_callee (f := 8) rfl ?_); refine goesL_ (some 3) rfl rfl Try.func8 (by kernel_rfl) rfl #[] rfl (by (try simp only [List.map_toArray, List.map_cons, List.map_nil]); first | done | rfl | (simp only [List.length_drop, List.length_take]; rfl)) ?_; (with_reducible refine (kissgatelaw02_alive.calls  false _ A2.out).mono ?_); rintro e w262 ⟨rfl, hb⟩; refine ⟨_, rfl, ?_⟩; have n0_ := Aside0.mk (below_step (by repeat (first | (with_reducible first | exact HB.out | apply below_alloc | apply pw_below_drewN | apply below_drew1) | exact HB.out)) hb); clear HB; have HB := n0_; clear n0_; (try clear hb); (try clear hb2); (try clear hk); (try clear hi)))
  go_ret
  exact ⟨by first | rfl | (simp [*] <;> rfl), by repeat (first | exact HB.out | apply below_alloc | apply pw_below_drewN | apply below_drew1)⟩

/-- THE ONE PURE STATEMENT of kissgatelaw02_AddrNumbers: yours. -/
def kissgatelaw02_AddrNumbers.Pure : Prop := ∀ (a0 : Int), (Lit.int .i64 a0).wf = true → kissgatelaw02_AddrNumbers.f a0 = some true
theorem kissgatelaw02_AddrNumbers.walk (P : kissgatelaw02_AddrNumbers.Pure) (a0 : Int) (w : World) (w0 : (Lit.int .i64 a0).wf = true) :
  Calls Try.prog 5 #[.int .i64 a0] w fun e w' => e = .returned (.bool true) ∧ Below w.heap.size w w' := by
 have h := P a0 w0
 refine (kissgatelaw02_AddrNumbers.calls a0 true w h).mono ?_
 rintro e w' ⟨rfl, hd⟩
 exact ⟨rfl, hd⟩

end Go.Proofs.Ytibeijfgjcakiaa.PAddrNumbers
