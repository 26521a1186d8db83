/- Part of the proof that ConfigCopies returns true for every input of the second form's bound (no other condition). -/
import Derived.Test.YtjjebbijkcknbaaChecked
import Derived.Test.YtjjebbijkcknbaaPF
import Derived.Test.YtjjebbijkcknbaaPC
set_option linter.all false
/- The abstract machine's text is the program's. Written by a tool. -/
namespace Go.Ab.T
open Go Go.Ab Go.Proofs
def wr0 : Wr := fun f => wrs.contains f
theorem tie_Q0 : compF Try.prog wr0 Try.f3 = some t_Q0 := by kernel_rfl
theorem tie_Q1 : compF Try.prog wr0 Try.f4 = some t_Q1 := by kernel_rfl
theorem tie_Q2 : compF Try.prog wr0 Try.f5 = some t_Q2 := by kernel_rfl
theorem tie_Q3 : compF Try.prog wr0 Try.f6 = some t_Q3 := by kernel_rfl
theorem tie_Q4 : compF Try.prog wr0 Try.f7 = some t_Q4 := by kernel_rfl
theorem tie_Q5 : compF Try.prog wr0 Try.f8 = some t_Q5 := by kernel_rfl
theorem tie_Q6 : compF Try.prog wr0 Try.f9 = some t_Q6 := by kernel_rfl
theorem tie_Q7 : compF Try.prog wr0 Try.f10 = some t_Q7 := by kernel_rfl
theorem tie_Q8 : compF Try.prog wr0 Try.f11 = some t_Q8 := by kernel_rfl
theorem tie_Q9 : compF Try.prog wr0 Try.f12 = some t_Q9 := by kernel_rfl
theorem tie_Q10 : compF Try.prog wr0 Try.f13 = some t_Q10 := by kernel_rfl
theorem tie_Q11 : compF Try.prog wr0 Try.f14 = some t_Q11 := by kernel_rfl
theorem tie_Q12 : compF Try.prog wr0 Try.f15 = some t_Q12 := by kernel_rfl
theorem tie_Q13 : compF Try.prog wr0 Try.f16 = some t_Q13 := by kernel_rfl
theorem tie_Q14 : compF Try.prog wr0 Try.f17 = some t_Q14 := by kernel_rfl
theorem tie_Q15 : compF Try.prog wr0 Try.f18 = some t_Q15 := by kernel_rfl
theorem tie_Q16 : compF Try.prog wr0 Try.f19 = some t_Q16 := by kernel_rfl
theorem tie_Q17 : compF Try.prog wr0 Try.f20 = some t_Q17 := by kernel_rfl
theorem tie_Q18 : compF Try.prog wr0 Try.f21 = some t_Q18 := by kernel_rfl
theorem tie_Q19 : compF Try.prog wr0 Try.f22 = some t_Q19 := by kernel_rfl
theorem tie_Q20 : compF Try.prog wr0 Try.f23 = some t_Q20 := by kernel_rfl
theorem tie_Q21 : compF Try.prog wr0 Try.f24 = some t_Q21 := by kernel_rfl
theorem tie_Q22 : compF Try.prog wr0 Try.f25 = some t_Q22 := by kernel_rfl
theorem tie_Q23 : compF Try.prog wr0 Try.f26 = some t_Q23 := by kernel_rfl
theorem tie_Q24 : compF Try.prog wr0 Try.f27 = some t_Q24 := by kernel_rfl
theorem tie_Q25 : compF Try.prog wr0 Try.f28 = some t_Q25 := by kernel_rfl
theorem tie_Q26 : compF Try.prog wr0 Try.f29 = some t_Q26 := by kernel_rfl
theorem tie_Q27 : compF Try.prog wr0 Try.f30 = some t_Q27 := by kernel_rfl
theorem tie_Q28 : compF Try.prog wr0 Try.f31 = some t_Q28 := by kernel_rfl
theorem tie_Q29 : compF Try.prog wr0 Try.f32 = some t_Q29 := by kernel_rfl
theorem tie_Q30 : compF Try.prog wr0 Try.f33 = some t_Q30 := by kernel_rfl
theorem tie_Q31 : compF Try.prog wr0 Try.f34 = some t_Q31 := by kernel_rfl
theorem tie_Q32 : compF Try.prog wr0 Try.f35 = some t_Q32 := by kernel_rfl
theorem tie_Q33 : compF Try.prog wr0 Try.f36 = some t_Q33 := by kernel_rfl
theorem tie_Q34 : compF Try.prog wr0 Try.f37 = some t_Q34 := by kernel_rfl
theorem tie_Q35 : compF Try.prog wr0 Try.f38 = some t_Q35 := by kernel_rfl
theorem tie_Q36 : compF Try.prog wr0 Try.f39 = some t_Q36 := by kernel_rfl
theorem tie_Q37 : compF Try.prog wr0 Try.f40 = some t_Q37 := by kernel_rfl
theorem tie_Q38 : compF Try.prog wr0 Try.f41 = some t_Q38 := by kernel_rfl
theorem tie_Q39 : compF Try.prog wr0 Try.f42 = some t_Q39 := by kernel_rfl
theorem tie_Q40 : compF Try.prog wr0 Try.f43 = some t_Q40 := by kernel_rfl
theorem tie_Q41 : compF Try.prog wr0 Try.f44 = some t_Q41 := by kernel_rfl
theorem tie_Q42 : compF Try.prog wr0 Try.f45 = some t_Q42 := by kernel_rfl
theorem tie_Q43 : compF Try.prog wr0 Try.f46 = some t_Q43 := by kernel_rfl
theorem tie_Q44 : compF Try.prog wr0 Try.f47 = some t_Q44 := by kernel_rfl
theorem tie_Q45 : compF Try.prog wr0 Try.f48 = some t_Q45 := by kernel_rfl
theorem tie_Q46 : compF Try.prog wr0 Try.f49 = some t_Q46 := by kernel_rfl
theorem tie_Q47 : compF Try.prog wr0 Try.f50 = some t_Q47 := by kernel_rfl
theorem tie_Q48 : compF Try.prog wr0 Try.f51 = some t_Q48 := by kernel_rfl
theorem tie_Q49 : compF Try.prog wr0 Try.f52 = some t_Q49 := by kernel_rfl
theorem tie_Q50 : compF Try.prog wr0 Try.f53 = some t_Q50 := by kernel_rfl
theorem tie_Q51 : compF Try.prog wr0 Try.f54 = some t_Q51 := by kernel_rfl
theorem tie_Q52 : compF Try.prog wr0 Try.f55 = some t_Q52 := by kernel_rfl
theorem tie_Q53 : compF Try.prog wr0 Try.f56 = some t_Q53 := by kernel_rfl
theorem tie_Q54 : compF Try.prog wr0 Try.f57 = some t_Q54 := by kernel_rfl
theorem tie_Q55 : compF Try.prog wr0 Try.f58 = some t_Q55 := by kernel_rfl
theorem tie_Q56 : compF Try.prog wr0 Try.f59 = some t_Q56 := by kernel_rfl
theorem tie_Q57 : compF Try.prog wr0 Try.f60 = some t_Q57 := by kernel_rfl
theorem tie_Q58 : compF Try.prog wr0 Try.f61 = some t_Q58 := by kernel_rfl
theorem tie_Q59 : compF Try.prog wr0 Try.f62 = some t_Q59 := by kernel_rfl
theorem tie_Q60 : compF Try.prog wr0 Try.f63 = some t_Q60 := by kernel_rfl
theorem tie_Q61 : compF Try.prog wr0 Try.f64 = some t_Q61 := by kernel_rfl
theorem tie_Q62 : compF Try.prog wr0 Try.f65 = some t_Q62 := by kernel_rfl
theorem tie_Q63 : compF Try.prog wr0 Try.f66 = some t_Q63 := by kernel_rfl
theorem tie_Q64 : compF Try.prog wr0 Try.f67 = some t_Q64 := by kernel_rfl
theorem tie_Q65 : compF Try.prog wr0 Try.f68 = some t_Q65 := by kernel_rfl
theorem tie_Q66 : compF Try.prog wr0 Try.f69 = some t_Q66 := by kernel_rfl
theorem tie_Q67 : compF Try.prog wr0 Try.f70 = some t_Q67 := by kernel_rfl
theorem tie_Q68 : compF Try.prog wr0 Try.f71 = some t_Q68 := by kernel_rfl
theorem tie_Q69 : compF Try.prog wr0 Try.f72 = some t_Q69 := by kernel_rfl
theorem tie_Q70 : compF Try.prog wr0 Try.f73 = some t_Q70 := by kernel_rfl
theorem tie_Q71 : compF Try.prog wr0 Try.f74 = some t_Q71 := by kernel_rfl
theorem tie_Q72 : compF Try.prog wr0 Try.f75 = some t_Q72 := by kernel_rfl
theorem tie_Q73 : compF Try.prog wr0 Try.f76 = some t_Q73 := by kernel_rfl
theorem tie_Q74 : compF Try.prog wr0 Try.f77 = some t_Q74 := by kernel_rfl
theorem tie_Q75 : compF Try.prog wr0 Try.f78 = some t_Q75 := by kernel_rfl
theorem tie_Q76 : compF Try.prog wr0 Try.f79 = some t_Q76 := by kernel_rfl
theorem tie_Q77 : compF Try.prog wr0 Try.f80 = some t_Q77 := by kernel_rfl
theorem tie_Q78 : compF Try.prog wr0 Try.f81 = some t_Q78 := by kernel_rfl
theorem tie_Q79 : compF Try.prog wr0 Try.f82 = some t_Q79 := by kernel_rfl
theorem tie_Q80 : compF Try.prog wr0 Try.f83 = some t_Q80 := by kernel_rfl
theorem tie_Q81 : compF Try.prog wr0 Try.f84 = some t_Q81 := by kernel_rfl
theorem tie_Q82 : compF Try.prog wr0 Try.f85 = some t_Q82 := by kernel_rfl
theorem tie_Q83 : compF Try.prog wr0 Try.f86 = some t_Q83 := by kernel_rfl
theorem tie_Q84 : compF Try.prog wr0 Try.f87 = some t_Q84 := by kernel_rfl
theorem tie_Q85 : compF Try.prog wr0 Try.f88 = some t_Q85 := by kernel_rfl
theorem tie_Q86 : compF Try.prog wr0 Try.f89 = some t_Q86 := by kernel_rfl
theorem tie_Q87 : compF Try.prog wr0 Try.f90 = some t_Q87 := by kernel_rfl
theorem tie_Q88 : compF Try.prog wr0 Try.f91 = some t_Q88 := by kernel_rfl
theorem tie_Q89 : compF Try.prog wr0 Try.f92 = some t_Q89 := by kernel_rfl
theorem tie_Q90 : compF Try.prog wr0 Try.f93 = some t_Q90 := by kernel_rfl
theorem tie_Q91 : compF Try.prog wr0 Try.f94 = some t_Q91 := by kernel_rfl
theorem tie_Q92 : compF Try.prog wr0 Try.f95 = some t_Q92 := by kernel_rfl
theorem tie_Q93 : compF Try.prog wr0 Try.f96 = some t_Q93 := by kernel_rfl
theorem tie_Q94 : compF Try.prog wr0 Try.f97 = some t_Q94 := by kernel_rfl
theorem tie_Q95 : compF Try.prog wr0 Try.f98 = some t_Q95 := by kernel_rfl
theorem tie_Q96 : compF Try.prog wr0 Try.f99 = some t_Q96 := by kernel_rfl
theorem tie_Q97 : compF Try.prog wr0 Try.f100 = some t_Q97 := by kernel_rfl
theorem tie_Q98 : compF Try.prog wr0 Try.f101 = some t_Q98 := by kernel_rfl
theorem tie_Q99 : compF Try.prog wr0 Try.f102 = some t_Q99 := by kernel_rfl
theorem tie_Q100 : compF Try.prog wr0 Try.f103 = some t_Q100 := by kernel_rfl
theorem tie_Q101 : compF Try.prog wr0 Try.f104 = some t_Q101 := by kernel_rfl
theorem tie_Q102 : compF Try.prog wr0 Try.f105 = some t_Q102 := by kernel_rfl
theorem tie_Q103 : compF Try.prog wr0 Try.f106 = some t_Q103 := by kernel_rfl
theorem tpOk : TpOk Try.prog wr0 tp := by
  intro f tf h
  have h' : tpFn f = some tf := h
  clear h
  unfold tpFn at h'
  split at h'
  · cases h'; exact ⟨Try.f3, Try.func3, tie_Q0⟩
  · cases h'; exact ⟨Try.f4, Try.func4, tie_Q1⟩
  · cases h'; exact ⟨Try.f5, Try.func5, tie_Q2⟩
  · cases h'; exact ⟨Try.f6, Try.func6, tie_Q3⟩
  · cases h'; exact ⟨Try.f7, Try.func7, tie_Q4⟩
  · cases h'; exact ⟨Try.f8, Try.func8, tie_Q5⟩
  · cases h'; exact ⟨Try.f9, Try.func9, tie_Q6⟩
  · cases h'; exact ⟨Try.f10, Try.func10, tie_Q7⟩
  · cases h'; exact ⟨Try.f11, Try.func11, tie_Q8⟩
  · cases h'; exact ⟨Try.f12, Try.func12, tie_Q9⟩
  · cases h'; exact ⟨Try.f13, Try.func13, tie_Q10⟩
  · cases h'; exact ⟨Try.f14, Try.func14, tie_Q11⟩
  · cases h'; exact ⟨Try.f15, Try.func15, tie_Q12⟩
  · cases h'; exact ⟨Try.f16, Try.func16, tie_Q13⟩
  · cases h'; exact ⟨Try.f17, Try.func17, tie_Q14⟩
  · cases h'; exact ⟨Try.f18, Try.func18, tie_Q15⟩
  · cases h'; exact ⟨Try.f19, Try.func19, tie_Q16⟩
  · cases h'; exact ⟨Try.f20, Try.func20, tie_Q17⟩
  · cases h'; exact ⟨Try.f21, Try.func21, tie_Q18⟩
  · cases h'; exact ⟨Try.f22, Try.func22, tie_Q19⟩
  · cases h'; exact ⟨Try.f23, Try.func23, tie_Q20⟩
  · cases h'; exact ⟨Try.f24, Try.func24, tie_Q21⟩
  · cases h'; exact ⟨Try.f25, Try.func25, tie_Q22⟩
  · cases h'; exact ⟨Try.f26, Try.func26, tie_Q23⟩
  · cases h'; exact ⟨Try.f27, Try.func27, tie_Q24⟩
  · cases h'; exact ⟨Try.f28, Try.func28, tie_Q25⟩
  · cases h'; exact ⟨Try.f29, Try.func29, tie_Q26⟩
  · cases h'; exact ⟨Try.f30, Try.func30, tie_Q27⟩
  · cases h'; exact ⟨Try.f31, Try.func31, tie_Q28⟩
  · cases h'; exact ⟨Try.f32, Try.func32, tie_Q29⟩
  · cases h'; exact ⟨Try.f33, Try.func33, tie_Q30⟩
  · cases h'; exact ⟨Try.f34, Try.func34, tie_Q31⟩
  · cases h'; exact ⟨Try.f35, Try.func35, tie_Q32⟩
  · cases h'; exact ⟨Try.f36, Try.func36, tie_Q33⟩
  · cases h'; exact ⟨Try.f37, Try.func37, tie_Q34⟩
  · cases h'; exact ⟨Try.f38, Try.func38, tie_Q35⟩
  · cases h'; exact ⟨Try.f39, Try.func39, tie_Q36⟩
  · cases h'; exact ⟨Try.f40, Try.func40, tie_Q37⟩
  · cases h'; exact ⟨Try.f41, Try.func41, tie_Q38⟩
  · cases h'; exact ⟨Try.f42, Try.func42, tie_Q39⟩
  · cases h'; exact ⟨Try.f43, Try.func43, tie_Q40⟩
  · cases h'; exact ⟨Try.f44, Try.func44, tie_Q41⟩
  · cases h'; exact ⟨Try.f45, Try.func45, tie_Q42⟩
  · cases h'; exact ⟨Try.f46, Try.func46, tie_Q43⟩
  · cases h'; exact ⟨Try.f47, Try.func47, tie_Q44⟩
  · cases h'; exact ⟨Try.f48, Try.func48, tie_Q45⟩
  · cases h'; exact ⟨Try.f49, Try.func49, tie_Q46⟩
  · cases h'; exact ⟨Try.f50, Try.func50, tie_Q47⟩
  · cases h'; exact ⟨Try.f51, Try.func51, tie_Q48⟩
  · cases h'; exact ⟨Try.f52, Try.func52, tie_Q49⟩
  · cases h'; exact ⟨Try.f53, Try.func53, tie_Q50⟩
  · cases h'; exact ⟨Try.f54, Try.func54, tie_Q51⟩
  · cases h'; exact ⟨Try.f55, Try.func55, tie_Q52⟩
  · cases h'; exact ⟨Try.f56, Try.func56, tie_Q53⟩
  · cases h'; exact ⟨Try.f57, Try.func57, tie_Q54⟩
  · cases h'; exact ⟨Try.f58, Try.func58, tie_Q55⟩
  · cases h'; exact ⟨Try.f59, Try.func59, tie_Q56⟩
  · cases h'; exact ⟨Try.f60, Try.func60, tie_Q57⟩
  · cases h'; exact ⟨Try.f61, Try.func61, tie_Q58⟩
  · cases h'; exact ⟨Try.f62, Try.func62, tie_Q59⟩
  · cases h'; exact ⟨Try.f63, Try.func63, tie_Q60⟩
  · cases h'; exact ⟨Try.f64, Try.func64, tie_Q61⟩
  · cases h'; exact ⟨Try.f65, Try.func65, tie_Q62⟩
  · cases h'; exact ⟨Try.f66, Try.func66, tie_Q63⟩
  · cases h'; exact ⟨Try.f67, Try.func67, tie_Q64⟩
  · cases h'; exact ⟨Try.f68, Try.func68, tie_Q65⟩
  · cases h'; exact ⟨Try.f69, Try.func69, tie_Q66⟩
  · cases h'; exact ⟨Try.f70, Try.func70, tie_Q67⟩
  · cases h'; exact ⟨Try.f71, Try.func71, tie_Q68⟩
  · cases h'; exact ⟨Try.f72, Try.func72, tie_Q69⟩
  · cases h'; exact ⟨Try.f73, Try.func73, tie_Q70⟩
  · cases h'; exact ⟨Try.f74, Try.func74, tie_Q71⟩
  · cases h'; exact ⟨Try.f75, Try.func75, tie_Q72⟩
  · cases h'; exact ⟨Try.f76, Try.func76, tie_Q73⟩
  · cases h'; exact ⟨Try.f77, Try.func77, tie_Q74⟩
  · cases h'; exact ⟨Try.f78, Try.func78, tie_Q75⟩
  · cases h'; exact ⟨Try.f79, Try.func79, tie_Q76⟩
  · cases h'; exact ⟨Try.f80, Try.func80, tie_Q77⟩
  · cases h'; exact ⟨Try.f81, Try.func81, tie_Q78⟩
  · cases h'; exact ⟨Try.f82, Try.func82, tie_Q79⟩
  · cases h'; exact ⟨Try.f83, Try.func83, tie_Q80⟩
  · cases h'; exact ⟨Try.f84, Try.func84, tie_Q81⟩
  · cases h'; exact ⟨Try.f85, Try.func85, tie_Q82⟩
  · cases h'; exact ⟨Try.f86, Try.func86, tie_Q83⟩
  · cases h'; exact ⟨Try.f87, Try.func87, tie_Q84⟩
  · cases h'; exact ⟨Try.f88, Try.func88, tie_Q85⟩
  · cases h'; exact ⟨Try.f89, Try.func89, tie_Q86⟩
  · cases h'; exact ⟨Try.f90, Try.func90, tie_Q87⟩
  · cases h'; exact ⟨Try.f91, Try.func91, tie_Q88⟩
  · cases h'; exact ⟨Try.f92, Try.func92, tie_Q89⟩
  · cases h'; exact ⟨Try.f93, Try.func93, tie_Q90⟩
  · cases h'; exact ⟨Try.f94, Try.func94, tie_Q91⟩
  · cases h'; exact ⟨Try.f95, Try.func95, tie_Q92⟩
  · cases h'; exact ⟨Try.f96, Try.func96, tie_Q93⟩
  · cases h'; exact ⟨Try.f97, Try.func97, tie_Q94⟩
  · cases h'; exact ⟨Try.f98, Try.func98, tie_Q95⟩
  · cases h'; exact ⟨Try.f99, Try.func99, tie_Q96⟩
  · cases h'; exact ⟨Try.f100, Try.func100, tie_Q97⟩
  · cases h'; exact ⟨Try.f101, Try.func101, tie_Q98⟩
  · cases h'; exact ⟨Try.f102, Try.func102, tie_Q99⟩
  · cases h'; exact ⟨Try.f103, Try.func103, tie_Q100⟩
  · cases h'; exact ⟨Try.f104, Try.func104, tie_Q101⟩
  · cases h'; exact ⟨Try.f105, Try.func105, tie_Q102⟩
  · cases h'; exact ⟨Try.f106, Try.func106, tie_Q103⟩
  · cases h'
theorem methsOk : MethsOk Try.prog tp := by
  intro t m q h
  cases h
end Go.Ab.T
