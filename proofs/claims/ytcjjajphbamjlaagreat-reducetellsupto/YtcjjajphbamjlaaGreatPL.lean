/- Part of a proof that a law returns true for every input of the second form's bound (no other condition). -/
import Derived.Test.YtcjjajphbamjlaaGreatChecked
import Derived.Test.YtcjjajphbamjlaaGreatPF
import Derived.Test.YtcjjajphbamjlaaGreatPC
set_option linter.all false
/- The abstract machine's text is the program's. Written by a tool. -/
namespace Go.Ab.T
open Go Go.Ab Go.Proofs
def wr0:Wr:=fun f=>wrs.contains f
theorem tie_Q0:compF Tryz.prog wr0 Tryz.f6=some t_Q0:=by kernel_rfl
theorem tie_Q1:compF Tryz.prog wr0 Tryz.f12=some t_Q1:=by kernel_rfl
theorem tie_Q2:compF Tryz.prog wr0 Tryz.f13=some t_Q2:=by kernel_rfl
theorem tie_Q3:compF Tryz.prog wr0 Tryz.f14=some t_Q3:=by kernel_rfl
theorem tie_Q4:compF Tryz.prog wr0 Tryz.f15=some t_Q4:=by kernel_rfl
theorem tie_Q5:compF Tryz.prog wr0 Tryz.f17=some t_Q5:=by kernel_rfl
theorem tie_Q6:compF Tryz.prog wr0 Tryz.f18=some t_Q6:=by kernel_rfl
theorem tie_Q7:compF Tryz.prog wr0 Tryz.f19=some t_Q7:=by kernel_rfl
theorem tie_Q8:compF Tryz.prog wr0 Tryz.f20=some t_Q8:=by kernel_rfl
theorem tie_Q9:compF Tryz.prog wr0 Tryz.f21=some t_Q9:=by kernel_rfl
theorem tie_Q10:compF Tryz.prog wr0 Tryz.f22=some t_Q10:=by kernel_rfl
theorem tie_Q11:compF Tryz.prog wr0 Tryz.f23=some t_Q11:=by kernel_rfl
theorem tie_Q12:compF Tryz.prog wr0 Tryz.f25=some t_Q12:=by kernel_rfl
theorem tie_Q13:compF Tryz.prog wr0 Tryz.f26=some t_Q13:=by kernel_rfl
theorem tie_Q14:compF Tryz.prog wr0 Tryz.f27=some t_Q14:=by kernel_rfl
theorem tie_Q15:compF Tryz.prog wr0 Tryz.f28=some t_Q15:=by kernel_rfl
theorem tie_Q16:compF Tryz.prog wr0 Tryz.f29=some t_Q16:=by kernel_rfl
theorem tie_Q17:compF Tryz.prog wr0 Tryz.f30=some t_Q17:=by kernel_rfl
theorem tie_Q18:compF Tryz.prog wr0 Tryz.f31=some t_Q18:=by kernel_rfl
theorem tie_Q19:compF Tryz.prog wr0 Tryz.f32=some t_Q19:=by kernel_rfl
theorem tie_Q20:compF Tryz.prog wr0 Tryz.f33=some t_Q20:=by kernel_rfl
theorem tie_Q21:compF Tryz.prog wr0 Tryz.f41=some t_Q21:=by kernel_rfl
theorem tie_Q22:compF Tryz.prog wr0 Tryz.f47=some t_Q22:=by kernel_rfl
theorem tie_Q23:compF Tryz.prog wr0 Tryz.f48=some t_Q23:=by kernel_rfl
theorem tie_Q24:compF Tryz.prog wr0 Tryz.f49=some t_Q24:=by kernel_rfl
theorem tie_Q25:compF Tryz.prog wr0 Tryz.f50=some t_Q25:=by kernel_rfl
theorem tie_Q26:compF Tryz.prog wr0 Tryz.f51=some t_Q26:=by kernel_rfl
theorem tie_Q27:compF Tryz.prog wr0 Tryz.f52=some t_Q27:=by kernel_rfl
theorem tie_Q28:compF Tryz.prog wr0 Tryz.f53=some t_Q28:=by kernel_rfl
theorem tie_Q29:compF Tryz.prog wr0 Tryz.f54=some t_Q29:=by kernel_rfl
theorem tie_Q30:compF Tryz.prog wr0 Tryz.f55=some t_Q30:=by kernel_rfl
theorem tie_Q31:compF Tryz.prog wr0 Tryz.f56=some t_Q31:=by kernel_rfl
theorem tie_Q32:compF Tryz.prog wr0 Tryz.f57=some t_Q32:=by kernel_rfl
theorem tie_Q33:compF Tryz.prog wr0 Tryz.f58=some t_Q33:=by kernel_rfl
theorem tie_Q34:compF Tryz.prog wr0 Tryz.f59=some t_Q34:=by kernel_rfl
theorem tie_Q35:compF Tryz.prog wr0 Tryz.f60=some t_Q35:=by kernel_rfl
theorem tie_Q36:compF Tryz.prog wr0 Tryz.f61=some t_Q36:=by kernel_rfl
theorem tie_Q37:compF Tryz.prog wr0 Tryz.f62=some t_Q37:=by kernel_rfl
theorem tie_Q38:compF Tryz.prog wr0 Tryz.f63=some t_Q38:=by kernel_rfl
theorem tie_Q39:compF Tryz.prog wr0 Tryz.f64=some t_Q39:=by kernel_rfl
theorem tie_Q40:compF Tryz.prog wr0 Tryz.f65=some t_Q40:=by kernel_rfl
theorem tie_Q41:compF Tryz.prog wr0 Tryz.f66=some t_Q41:=by kernel_rfl
theorem tie_Q42:compF Tryz.prog wr0 Tryz.f67=some t_Q42:=by kernel_rfl
theorem tie_Q43:compF Tryz.prog wr0 Tryz.f68=some t_Q43:=by kernel_rfl
theorem tie_Q44:compF Tryz.prog wr0 Tryz.f69=some t_Q44:=by kernel_rfl
theorem tie_Q45:compF Tryz.prog wr0 Tryz.f70=some t_Q45:=by kernel_rfl
theorem tie_Q46:compF Tryz.prog wr0 Tryz.f71=some t_Q46:=by kernel_rfl
theorem tie_Q47:compF Tryz.prog wr0 Tryz.f72=some t_Q47:=by kernel_rfl
theorem tie_Q48:compF Tryz.prog wr0 Tryz.f73=some t_Q48:=by kernel_rfl
theorem tie_Q49:compF Tryz.prog wr0 Tryz.f74=some t_Q49:=by kernel_rfl
theorem tie_Q50:compF Tryz.prog wr0 Tryz.f75=some t_Q50:=by kernel_rfl
theorem tie_Q51:compF Tryz.prog wr0 Tryz.f76=some t_Q51:=by kernel_rfl
theorem tie_Q52:compF Tryz.prog wr0 Tryz.f77=some t_Q52:=by kernel_rfl
theorem tie_Q53:compF Tryz.prog wr0 Tryz.f78=some t_Q53:=by kernel_rfl
theorem tie_Q54:compF Tryz.prog wr0 Tryz.f79=some t_Q54:=by kernel_rfl
theorem tie_Q55:compF Tryz.prog wr0 Tryz.f80=some t_Q55:=by kernel_rfl
theorem tie_Q56:compF Tryz.prog wr0 Tryz.f94=some t_Q56:=by kernel_rfl
theorem tie_Q57:compF Tryz.prog wr0 Tryz.f95=some t_Q57:=by kernel_rfl
theorem tie_Q58:compF Tryz.prog wr0 Tryz.f96=some t_Q58:=by kernel_rfl
theorem tie_Q59:compF Tryz.prog wr0 Tryz.f97=some t_Q59:=by kernel_rfl
theorem tie_Q60:compF Tryz.prog wr0 Tryz.f98=some t_Q60:=by kernel_rfl
theorem tie_Q61:compF Tryz.prog wr0 Tryz.f99=some t_Q61:=by kernel_rfl
theorem tie_Q62:compF Tryz.prog wr0 Tryz.f100=some t_Q62:=by kernel_rfl
theorem tie_Q63:compF Tryz.prog wr0 Tryz.f101=some t_Q63:=by kernel_rfl
theorem tie_Q64:compF Tryz.prog wr0 Tryz.f102=some t_Q64:=by kernel_rfl
theorem tie_Q65:compF Tryz.prog wr0 Tryz.f103=some t_Q65:=by kernel_rfl
theorem tie_Q66:compF Tryz.prog wr0 Tryz.f104=some t_Q66:=by kernel_rfl
theorem tie_Q67:compF Tryz.prog wr0 Tryz.f105=some t_Q67:=by kernel_rfl
theorem tie_Q68:compF Tryz.prog wr0 Tryz.f106=some t_Q68:=by kernel_rfl
theorem tie_Q69:compF Tryz.prog wr0 Tryz.f107=some t_Q69:=by kernel_rfl
theorem tie_Q70:compF Tryz.prog wr0 Tryz.f108=some t_Q70:=by kernel_rfl
theorem tie_Q71:compF Tryz.prog wr0 Tryz.f109=some t_Q71:=by kernel_rfl
theorem tie_Q72:compF Tryz.prog wr0 Tryz.f110=some t_Q72:=by kernel_rfl
theorem tie_Q73:compF Tryz.prog wr0 Tryz.f111=some t_Q73:=by kernel_rfl
theorem tie_Q74:compF Tryz.prog wr0 Tryz.f112=some t_Q74:=by kernel_rfl
theorem tie_Q75:compF Tryz.prog wr0 Tryz.f113=some t_Q75:=by kernel_rfl
theorem tie_Q76:compF Tryz.prog wr0 Tryz.f114=some t_Q76:=by kernel_rfl
theorem tie_Q77:compF Tryz.prog wr0 Tryz.f115=some t_Q77:=by kernel_rfl
theorem tie_Q78:compF Tryz.prog wr0 Tryz.f116=some t_Q78:=by kernel_rfl
theorem tie_Q79:compF Tryz.prog wr0 Tryz.f117=some t_Q79:=by kernel_rfl
theorem tie_Q80:compF Tryz.prog wr0 Tryz.f118=some t_Q80:=by kernel_rfl
theorem tie_Q81:compF Tryz.prog wr0 Tryz.f119=some t_Q81:=by kernel_rfl
theorem tie_Q82:compF Tryz.prog wr0 Tryz.f120=some t_Q82:=by kernel_rfl
theorem tie_Q83:compF Tryz.prog wr0 Tryz.f121=some t_Q83:=by kernel_rfl
theorem tie_Q84:compF Tryz.prog wr0 Tryz.f122=some t_Q84:=by kernel_rfl
theorem tie_Q85:compF Tryz.prog wr0 Tryz.f123=some t_Q85:=by kernel_rfl
theorem tie_Q86:compF Tryz.prog wr0 Tryz.f124=some t_Q86:=by kernel_rfl
theorem tie_Q87:compF Tryz.prog wr0 Tryz.f125=some t_Q87:=by kernel_rfl
theorem tie_Q88:compF Tryz.prog wr0 Tryz.f126=some t_Q88:=by kernel_rfl
theorem tie_Q89:compF Tryz.prog wr0 Tryz.f127=some t_Q89:=by kernel_rfl
theorem tie_Q90:compF Tryz.prog wr0 Tryz.f128=some t_Q90:=by kernel_rfl
theorem tie_Q91:compF Tryz.prog wr0 Tryz.f129=some t_Q91:=by kernel_rfl
theorem tie_Q92:compF Tryz.prog wr0 Tryz.f150=some t_Q92:=by kernel_rfl
theorem tie_Q93:compF Tryz.prog wr0 Tryz.f151=some t_Q93:=by kernel_rfl
theorem tie_Q94:compF Tryz.prog wr0 Tryz.f152=some t_Q94:=by kernel_rfl
theorem tie_Q95:compF Tryz.prog wr0 Tryz.f153=some t_Q95:=by kernel_rfl
theorem tie_Q96:compF Tryz.prog wr0 Tryz.f154=some t_Q96:=by kernel_rfl
theorem tie_Q97:compF Tryz.prog wr0 Tryz.f155=some t_Q97:=by kernel_rfl
theorem tie_Q98:compF Tryz.prog wr0 Tryz.f156=some t_Q98:=by kernel_rfl
theorem tie_Q99:compF Tryz.prog wr0 Tryz.f157=some t_Q99:=by kernel_rfl
theorem tie_Q100:compF Tryz.prog wr0 Tryz.f158=some t_Q100:=by kernel_rfl
theorem tie_Q101:compF Tryz.prog wr0 Tryz.f159=some t_Q101:=by kernel_rfl
theorem tie_Q102:compF Tryz.prog wr0 Tryz.f160=some t_Q102:=by kernel_rfl
theorem tie_Q103:compF Tryz.prog wr0 Tryz.f161=some t_Q103:=by kernel_rfl
theorem tie_Q104:compF Tryz.prog wr0 Tryz.f162=some t_Q104:=by kernel_rfl
theorem tie_Q105:compF Tryz.prog wr0 Tryz.f163=some t_Q105:=by kernel_rfl
theorem tie_Q106:compF Tryz.prog wr0 Tryz.f164=some t_Q106:=by kernel_rfl
theorem tie_Q107:compF Tryz.prog wr0 Tryz.f165=some t_Q107:=by kernel_rfl
theorem tie_Q108:compF Tryz.prog wr0 Tryz.f166=some t_Q108:=by kernel_rfl
theorem tie_Q109:compF Tryz.prog wr0 Tryz.f167=some t_Q109:=by kernel_rfl
theorem tie_Q110:compF Tryz.prog wr0 Tryz.f168=some t_Q110:=by kernel_rfl
theorem tie_Q111:compF Tryz.prog wr0 Tryz.f169=some t_Q111:=by kernel_rfl
theorem tie_Q112:compF Tryz.prog wr0 Tryz.f170=some t_Q112:=by kernel_rfl
theorem tie_Q113:compF Tryz.prog wr0 Tryz.f171=some t_Q113:=by kernel_rfl
theorem tie_Q114:compF Tryz.prog wr0 Tryz.f172=some t_Q114:=by kernel_rfl
theorem tie_Q115:compF Tryz.prog wr0 Tryz.f173=some t_Q115:=by kernel_rfl
theorem tie_Q116:compF Tryz.prog wr0 Tryz.f174=some t_Q116:=by kernel_rfl
theorem tie_Q117:compF Tryz.prog wr0 Tryz.f175=some t_Q117:=by kernel_rfl
theorem tie_Q118:compF Tryz.prog wr0 Tryz.f176=some t_Q118:=by kernel_rfl
theorem tie_Q119:compF Tryz.prog wr0 Tryz.f177=some t_Q119:=by kernel_rfl
theorem tie_Q120:compF Tryz.prog wr0 Tryz.f178=some t_Q120:=by kernel_rfl
theorem tie_Q121:compF Tryz.prog wr0 Tryz.f179=some t_Q121:=by kernel_rfl
theorem tie_Q122:compF Tryz.prog wr0 Tryz.f180=some t_Q122:=by kernel_rfl
theorem tie_Q123:compF Tryz.prog wr0 Tryz.f181=some t_Q123:=by kernel_rfl
theorem tie_Q124:compF Tryz.prog wr0 Tryz.f182=some t_Q124:=by kernel_rfl
theorem tie_Q125:compF Tryz.prog wr0 Tryz.f183=some t_Q125:=by kernel_rfl
theorem tie_Q126:compF Tryz.prog wr0 Tryz.f184=some t_Q126:=by kernel_rfl
theorem tie_Q127:compF Tryz.prog wr0 Tryz.f185=some t_Q127:=by kernel_rfl
theorem tie_Q128:compF Tryz.prog wr0 Tryz.f186=some t_Q128:=by kernel_rfl
theorem tie_Q129:compF Tryz.prog wr0 Tryz.f201=some t_Q129:=by kernel_rfl
theorem tie_Q130:compF Tryz.prog wr0 Tryz.f202=some t_Q130:=by kernel_rfl
theorem tie_Q131:compF Tryz.prog wr0 Tryz.f203=some t_Q131:=by kernel_rfl
theorem tie_Q132:compF Tryz.prog wr0 Tryz.f204=some t_Q132:=by kernel_rfl
theorem tie_Q133:compF Tryz.prog wr0 Tryz.f205=some t_Q133:=by kernel_rfl
theorem tie_Q134:compF Tryz.prog wr0 Tryz.f206=some t_Q134:=by kernel_rfl
theorem tie_Q135:compF Tryz.prog wr0 Tryz.f207=some t_Q135:=by kernel_rfl
theorem tie_Q136:compF Tryz.prog wr0 Tryz.f208=some t_Q136:=by kernel_rfl
theorem tie_Q137:compF Tryz.prog wr0 Tryz.f209=some t_Q137:=by kernel_rfl
theorem tie_Q138:compF Tryz.prog wr0 Tryz.f210=some t_Q138:=by kernel_rfl
theorem tpOk:TpOk Tryz.prog wr0 tp:=by
  intro f tf h
  have h':tpFn f=some tf:=h
  clear h
  unfold tpFn at h'
  split at h'
  · cases h';exact ⟨Tryz.f6,Tryz.func6,tie_Q0⟩
  · cases h';exact ⟨Tryz.f12,Tryz.func12,tie_Q1⟩
  · cases h';exact ⟨Tryz.f13,Tryz.func13,tie_Q2⟩
  · cases h';exact ⟨Tryz.f14,Tryz.func14,tie_Q3⟩
  · cases h';exact ⟨Tryz.f15,Tryz.func15,tie_Q4⟩
  · cases h';exact ⟨Tryz.f17,Tryz.func17,tie_Q5⟩
  · cases h';exact ⟨Tryz.f18,Tryz.func18,tie_Q6⟩
  · cases h';exact ⟨Tryz.f19,Tryz.func19,tie_Q7⟩
  · cases h';exact ⟨Tryz.f20,Tryz.func20,tie_Q8⟩
  · cases h';exact ⟨Tryz.f21,Tryz.func21,tie_Q9⟩
  · cases h';exact ⟨Tryz.f22,Tryz.func22,tie_Q10⟩
  · cases h';exact ⟨Tryz.f23,Tryz.func23,tie_Q11⟩
  · cases h';exact ⟨Tryz.f25,Tryz.func25,tie_Q12⟩
  · cases h';exact ⟨Tryz.f26,Tryz.func26,tie_Q13⟩
  · cases h';exact ⟨Tryz.f27,Tryz.func27,tie_Q14⟩
  · cases h';exact ⟨Tryz.f28,Tryz.func28,tie_Q15⟩
  · cases h';exact ⟨Tryz.f29,Tryz.func29,tie_Q16⟩
  · cases h';exact ⟨Tryz.f30,Tryz.func30,tie_Q17⟩
  · cases h';exact ⟨Tryz.f31,Tryz.func31,tie_Q18⟩
  · cases h';exact ⟨Tryz.f32,Tryz.func32,tie_Q19⟩
  · cases h';exact ⟨Tryz.f33,Tryz.func33,tie_Q20⟩
  · cases h';exact ⟨Tryz.f41,Tryz.func41,tie_Q21⟩
  · cases h';exact ⟨Tryz.f47,Tryz.func47,tie_Q22⟩
  · cases h';exact ⟨Tryz.f48,Tryz.func48,tie_Q23⟩
  · cases h';exact ⟨Tryz.f49,Tryz.func49,tie_Q24⟩
  · cases h';exact ⟨Tryz.f50,Tryz.func50,tie_Q25⟩
  · cases h';exact ⟨Tryz.f51,Tryz.func51,tie_Q26⟩
  · cases h';exact ⟨Tryz.f52,Tryz.func52,tie_Q27⟩
  · cases h';exact ⟨Tryz.f53,Tryz.func53,tie_Q28⟩
  · cases h';exact ⟨Tryz.f54,Tryz.func54,tie_Q29⟩
  · cases h';exact ⟨Tryz.f55,Tryz.func55,tie_Q30⟩
  · cases h';exact ⟨Tryz.f56,Tryz.func56,tie_Q31⟩
  · cases h';exact ⟨Tryz.f57,Tryz.func57,tie_Q32⟩
  · cases h';exact ⟨Tryz.f58,Tryz.func58,tie_Q33⟩
  · cases h';exact ⟨Tryz.f59,Tryz.func59,tie_Q34⟩
  · cases h';exact ⟨Tryz.f60,Tryz.func60,tie_Q35⟩
  · cases h';exact ⟨Tryz.f61,Tryz.func61,tie_Q36⟩
  · cases h';exact ⟨Tryz.f62,Tryz.func62,tie_Q37⟩
  · cases h';exact ⟨Tryz.f63,Tryz.func63,tie_Q38⟩
  · cases h';exact ⟨Tryz.f64,Tryz.func64,tie_Q39⟩
  · cases h';exact ⟨Tryz.f65,Tryz.func65,tie_Q40⟩
  · cases h';exact ⟨Tryz.f66,Tryz.func66,tie_Q41⟩
  · cases h';exact ⟨Tryz.f67,Tryz.func67,tie_Q42⟩
  · cases h';exact ⟨Tryz.f68,Tryz.func68,tie_Q43⟩
  · cases h';exact ⟨Tryz.f69,Tryz.func69,tie_Q44⟩
  · cases h';exact ⟨Tryz.f70,Tryz.func70,tie_Q45⟩
  · cases h';exact ⟨Tryz.f71,Tryz.func71,tie_Q46⟩
  · cases h';exact ⟨Tryz.f72,Tryz.func72,tie_Q47⟩
  · cases h';exact ⟨Tryz.f73,Tryz.func73,tie_Q48⟩
  · cases h';exact ⟨Tryz.f74,Tryz.func74,tie_Q49⟩
  · cases h';exact ⟨Tryz.f75,Tryz.func75,tie_Q50⟩
  · cases h';exact ⟨Tryz.f76,Tryz.func76,tie_Q51⟩
  · cases h';exact ⟨Tryz.f77,Tryz.func77,tie_Q52⟩
  · cases h';exact ⟨Tryz.f78,Tryz.func78,tie_Q53⟩
  · cases h';exact ⟨Tryz.f79,Tryz.func79,tie_Q54⟩
  · cases h';exact ⟨Tryz.f80,Tryz.func80,tie_Q55⟩
  · cases h';exact ⟨Tryz.f94,Tryz.func94,tie_Q56⟩
  · cases h';exact ⟨Tryz.f95,Tryz.func95,tie_Q57⟩
  · cases h';exact ⟨Tryz.f96,Tryz.func96,tie_Q58⟩
  · cases h';exact ⟨Tryz.f97,Tryz.func97,tie_Q59⟩
  · cases h';exact ⟨Tryz.f98,Tryz.func98,tie_Q60⟩
  · cases h';exact ⟨Tryz.f99,Tryz.func99,tie_Q61⟩
  · cases h';exact ⟨Tryz.f100,Tryz.func100,tie_Q62⟩
  · cases h';exact ⟨Tryz.f101,Tryz.func101,tie_Q63⟩
  · cases h';exact ⟨Tryz.f102,Tryz.func102,tie_Q64⟩
  · cases h';exact ⟨Tryz.f103,Tryz.func103,tie_Q65⟩
  · cases h';exact ⟨Tryz.f104,Tryz.func104,tie_Q66⟩
  · cases h';exact ⟨Tryz.f105,Tryz.func105,tie_Q67⟩
  · cases h';exact ⟨Tryz.f106,Tryz.func106,tie_Q68⟩
  · cases h';exact ⟨Tryz.f107,Tryz.func107,tie_Q69⟩
  · cases h';exact ⟨Tryz.f108,Tryz.func108,tie_Q70⟩
  · cases h';exact ⟨Tryz.f109,Tryz.func109,tie_Q71⟩
  · cases h';exact ⟨Tryz.f110,Tryz.func110,tie_Q72⟩
  · cases h';exact ⟨Tryz.f111,Tryz.func111,tie_Q73⟩
  · cases h';exact ⟨Tryz.f112,Tryz.func112,tie_Q74⟩
  · cases h';exact ⟨Tryz.f113,Tryz.func113,tie_Q75⟩
  · cases h';exact ⟨Tryz.f114,Tryz.func114,tie_Q76⟩
  · cases h';exact ⟨Tryz.f115,Tryz.func115,tie_Q77⟩
  · cases h';exact ⟨Tryz.f116,Tryz.func116,tie_Q78⟩
  · cases h';exact ⟨Tryz.f117,Tryz.func117,tie_Q79⟩
  · cases h';exact ⟨Tryz.f118,Tryz.func118,tie_Q80⟩
  · cases h';exact ⟨Tryz.f119,Tryz.func119,tie_Q81⟩
  · cases h';exact ⟨Tryz.f120,Tryz.func120,tie_Q82⟩
  · cases h';exact ⟨Tryz.f121,Tryz.func121,tie_Q83⟩
  · cases h';exact ⟨Tryz.f122,Tryz.func122,tie_Q84⟩
  · cases h';exact ⟨Tryz.f123,Tryz.func123,tie_Q85⟩
  · cases h';exact ⟨Tryz.f124,Tryz.func124,tie_Q86⟩
  · cases h';exact ⟨Tryz.f125,Tryz.func125,tie_Q87⟩
  · cases h';exact ⟨Tryz.f126,Tryz.func126,tie_Q88⟩
  · cases h';exact ⟨Tryz.f127,Tryz.func127,tie_Q89⟩
  · cases h';exact ⟨Tryz.f128,Tryz.func128,tie_Q90⟩
  · cases h';exact ⟨Tryz.f129,Tryz.func129,tie_Q91⟩
  · cases h';exact ⟨Tryz.f150,Tryz.func150,tie_Q92⟩
  · cases h';exact ⟨Tryz.f151,Tryz.func151,tie_Q93⟩
  · cases h';exact ⟨Tryz.f152,Tryz.func152,tie_Q94⟩
  · cases h';exact ⟨Tryz.f153,Tryz.func153,tie_Q95⟩
  · cases h';exact ⟨Tryz.f154,Tryz.func154,tie_Q96⟩
  · cases h';exact ⟨Tryz.f155,Tryz.func155,tie_Q97⟩
  · cases h';exact ⟨Tryz.f156,Tryz.func156,tie_Q98⟩
  · cases h';exact ⟨Tryz.f157,Tryz.func157,tie_Q99⟩
  · cases h';exact ⟨Tryz.f158,Tryz.func158,tie_Q100⟩
  · cases h';exact ⟨Tryz.f159,Tryz.func159,tie_Q101⟩
  · cases h';exact ⟨Tryz.f160,Tryz.func160,tie_Q102⟩
  · cases h';exact ⟨Tryz.f161,Tryz.func161,tie_Q103⟩
  · cases h';exact ⟨Tryz.f162,Tryz.func162,tie_Q104⟩
  · cases h';exact ⟨Tryz.f163,Tryz.func163,tie_Q105⟩
  · cases h';exact ⟨Tryz.f164,Tryz.func164,tie_Q106⟩
  · cases h';exact ⟨Tryz.f165,Tryz.func165,tie_Q107⟩
  · cases h';exact ⟨Tryz.f166,Tryz.func166,tie_Q108⟩
  · cases h';exact ⟨Tryz.f167,Tryz.func167,tie_Q109⟩
  · cases h';exact ⟨Tryz.f168,Tryz.func168,tie_Q110⟩
  · cases h';exact ⟨Tryz.f169,Tryz.func169,tie_Q111⟩
  · cases h';exact ⟨Tryz.f170,Tryz.func170,tie_Q112⟩
  · cases h';exact ⟨Tryz.f171,Tryz.func171,tie_Q113⟩
  · cases h';exact ⟨Tryz.f172,Tryz.func172,tie_Q114⟩
  · cases h';exact ⟨Tryz.f173,Tryz.func173,tie_Q115⟩
  · cases h';exact ⟨Tryz.f174,Tryz.func174,tie_Q116⟩
  · cases h';exact ⟨Tryz.f175,Tryz.func175,tie_Q117⟩
  · cases h';exact ⟨Tryz.f176,Tryz.func176,tie_Q118⟩
  · cases h';exact ⟨Tryz.f177,Tryz.func177,tie_Q119⟩
  · cases h';exact ⟨Tryz.f178,Tryz.func178,tie_Q120⟩
  · cases h';exact ⟨Tryz.f179,Tryz.func179,tie_Q121⟩
  · cases h';exact ⟨Tryz.f180,Tryz.func180,tie_Q122⟩
  · cases h';exact ⟨Tryz.f181,Tryz.func181,tie_Q123⟩
  · cases h';exact ⟨Tryz.f182,Tryz.func182,tie_Q124⟩
  · cases h';exact ⟨Tryz.f183,Tryz.func183,tie_Q125⟩
  · cases h';exact ⟨Tryz.f184,Tryz.func184,tie_Q126⟩
  · cases h';exact ⟨Tryz.f185,Tryz.func185,tie_Q127⟩
  · cases h';exact ⟨Tryz.f186,Tryz.func186,tie_Q128⟩
  · cases h';exact ⟨Tryz.f201,Tryz.func201,tie_Q129⟩
  · cases h';exact ⟨Tryz.f202,Tryz.func202,tie_Q130⟩
  · cases h';exact ⟨Tryz.f203,Tryz.func203,tie_Q131⟩
  · cases h';exact ⟨Tryz.f204,Tryz.func204,tie_Q132⟩
  · cases h';exact ⟨Tryz.f205,Tryz.func205,tie_Q133⟩
  · cases h';exact ⟨Tryz.f206,Tryz.func206,tie_Q134⟩
  · cases h';exact ⟨Tryz.f207,Tryz.func207,tie_Q135⟩
  · cases h';exact ⟨Tryz.f208,Tryz.func208,tie_Q136⟩
  · cases h';exact ⟨Tryz.f209,Tryz.func209,tie_Q137⟩
  · cases h';exact ⟨Tryz.f210,Tryz.func210,tie_Q138⟩
  · cases h'
theorem methsOk:MethsOk Tryz.prog tp:=by
  intro t m q h
  cases h
end Go.Ab.T
