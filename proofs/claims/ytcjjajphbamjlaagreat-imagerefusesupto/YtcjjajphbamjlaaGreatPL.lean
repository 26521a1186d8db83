/- Part of a proof that a law returns true for every input of the second form's bound (no other condition). -/
import Derived.Test.YtcjjajphbamjlaaGreatChecked
import Derived.Test.YtcjjajphbamjlaaGreatPF
import Derived.Test.YtcjjajphbamjlaaGreatPC
set_option linter.all false
/- The abstract machine's text is the program's. Written by a tool. -/
namespace Go.Ab.T
open Go Go.Ab Go.Proofs
def wr0:Wr:=fun f=>wrs.contains f
theorem tie_Q0:compF Tryz.prog wr0 Tryz.f10=some t_Q0:=by kernel_rfl
theorem tie_Q1:compF Tryz.prog wr0 Tryz.f12=some t_Q1:=by kernel_rfl
theorem tie_Q2:compF Tryz.prog wr0 Tryz.f14=some t_Q2:=by kernel_rfl
theorem tie_Q3:compF Tryz.prog wr0 Tryz.f15=some t_Q3:=by kernel_rfl
theorem tie_Q4:compF Tryz.prog wr0 Tryz.f17=some t_Q4:=by kernel_rfl
theorem tie_Q5:compF Tryz.prog wr0 Tryz.f21=some t_Q5:=by kernel_rfl
theorem tie_Q6:compF Tryz.prog wr0 Tryz.f29=some t_Q6:=by kernel_rfl
theorem tie_Q7:compF Tryz.prog wr0 Tryz.f39=some t_Q7:=by kernel_rfl
theorem tie_Q8:compF Tryz.prog wr0 Tryz.f40=some t_Q8:=by kernel_rfl
theorem tie_Q9:compF Tryz.prog wr0 Tryz.f41=some t_Q9:=by kernel_rfl
theorem tie_Q10:compF Tryz.prog wr0 Tryz.f43=some t_Q10:=by kernel_rfl
theorem tie_Q11:compF Tryz.prog wr0 Tryz.f44=some t_Q11:=by kernel_rfl
theorem tie_Q12:compF Tryz.prog wr0 Tryz.f45=some t_Q12:=by kernel_rfl
theorem tie_Q13:compF Tryz.prog wr0 Tryz.f46=some t_Q13:=by kernel_rfl
theorem tie_Q14:compF Tryz.prog wr0 Tryz.f47=some t_Q14:=by kernel_rfl
theorem tie_Q15:compF Tryz.prog wr0 Tryz.f48=some t_Q15:=by kernel_rfl
theorem tie_Q16:compF Tryz.prog wr0 Tryz.f49=some t_Q16:=by kernel_rfl
theorem tie_Q17:compF Tryz.prog wr0 Tryz.f50=some t_Q17:=by kernel_rfl
theorem tie_Q18:compF Tryz.prog wr0 Tryz.f51=some t_Q18:=by kernel_rfl
theorem tie_Q19:compF Tryz.prog wr0 Tryz.f54=some t_Q19:=by kernel_rfl
theorem tie_Q20:compF Tryz.prog wr0 Tryz.f55=some t_Q20:=by kernel_rfl
theorem tie_Q21:compF Tryz.prog wr0 Tryz.f56=some t_Q21:=by kernel_rfl
theorem tie_Q22:compF Tryz.prog wr0 Tryz.f57=some t_Q22:=by kernel_rfl
theorem tie_Q23:compF Tryz.prog wr0 Tryz.f58=some t_Q23:=by kernel_rfl
theorem tie_Q24:compF Tryz.prog wr0 Tryz.f59=some t_Q24:=by kernel_rfl
theorem tie_Q25:compF Tryz.prog wr0 Tryz.f60=some t_Q25:=by kernel_rfl
theorem tie_Q26:compF Tryz.prog wr0 Tryz.f61=some t_Q26:=by kernel_rfl
theorem tie_Q27:compF Tryz.prog wr0 Tryz.f80=some t_Q27:=by kernel_rfl
theorem tie_Q28:compF Tryz.prog wr0 Tryz.f85=some t_Q28:=by kernel_rfl
theorem tie_Q29:compF Tryz.prog wr0 Tryz.f86=some t_Q29:=by kernel_rfl
theorem tie_Q30:compF Tryz.prog wr0 Tryz.f87=some t_Q30:=by kernel_rfl
theorem tie_Q31:compF Tryz.prog wr0 Tryz.f88=some t_Q31:=by kernel_rfl
theorem tie_Q32:compF Tryz.prog wr0 Tryz.f89=some t_Q32:=by kernel_rfl
theorem tie_Q33:compF Tryz.prog wr0 Tryz.f90=some t_Q33:=by kernel_rfl
theorem tie_Q34:compF Tryz.prog wr0 Tryz.f91=some t_Q34:=by kernel_rfl
theorem tie_Q35:compF Tryz.prog wr0 Tryz.f92=some t_Q35:=by kernel_rfl
theorem tie_Q36:compF Tryz.prog wr0 Tryz.f93=some t_Q36:=by kernel_rfl
theorem tie_Q37:compF Tryz.prog wr0 Tryz.f94=some t_Q37:=by kernel_rfl
theorem tie_Q38:compF Tryz.prog wr0 Tryz.f95=some t_Q38:=by kernel_rfl
theorem tie_Q39:compF Tryz.prog wr0 Tryz.f96=some t_Q39:=by kernel_rfl
theorem tie_Q40:compF Tryz.prog wr0 Tryz.f97=some t_Q40:=by kernel_rfl
theorem tie_Q41:compF Tryz.prog wr0 Tryz.f98=some t_Q41:=by kernel_rfl
theorem tie_Q42:compF Tryz.prog wr0 Tryz.f107=some t_Q42:=by kernel_rfl
theorem tie_Q43:compF Tryz.prog wr0 Tryz.f108=some t_Q43:=by kernel_rfl
theorem tie_Q44:compF Tryz.prog wr0 Tryz.f109=some t_Q44:=by kernel_rfl
theorem tie_Q45:compF Tryz.prog wr0 Tryz.f110=some t_Q45:=by kernel_rfl
theorem tie_Q46:compF Tryz.prog wr0 Tryz.f111=some t_Q46:=by kernel_rfl
theorem tie_Q47:compF Tryz.prog wr0 Tryz.f112=some t_Q47:=by kernel_rfl
theorem tie_Q48:compF Tryz.prog wr0 Tryz.f113=some t_Q48:=by kernel_rfl
theorem tie_Q49:compF Tryz.prog wr0 Tryz.f129=some t_Q49:=by kernel_rfl
theorem tie_Q50:compF Tryz.prog wr0 Tryz.f136=some t_Q50:=by kernel_rfl
theorem tie_Q51:compF Tryz.prog wr0 Tryz.f137=some t_Q51:=by kernel_rfl
theorem tie_Q52:compF Tryz.prog wr0 Tryz.f138=some t_Q52:=by kernel_rfl
theorem tie_Q53:compF Tryz.prog wr0 Tryz.f139=some t_Q53:=by kernel_rfl
theorem tie_Q54:compF Tryz.prog wr0 Tryz.f140=some t_Q54:=by kernel_rfl
theorem tie_Q55:compF Tryz.prog wr0 Tryz.f141=some t_Q55:=by kernel_rfl
theorem tie_Q56:compF Tryz.prog wr0 Tryz.f142=some t_Q56:=by kernel_rfl
theorem tie_Q57:compF Tryz.prog wr0 Tryz.f143=some t_Q57:=by kernel_rfl
theorem tie_Q58:compF Tryz.prog wr0 Tryz.f144=some t_Q58:=by kernel_rfl
theorem tie_Q59:compF Tryz.prog wr0 Tryz.f145=some t_Q59:=by kernel_rfl
theorem tie_Q60:compF Tryz.prog wr0 Tryz.f146=some t_Q60:=by kernel_rfl
theorem tie_Q61:compF Tryz.prog wr0 Tryz.f147=some t_Q61:=by kernel_rfl
theorem tie_Q62:compF Tryz.prog wr0 Tryz.f148=some t_Q62:=by kernel_rfl
theorem tie_Q63:compF Tryz.prog wr0 Tryz.f149=some t_Q63:=by kernel_rfl
theorem tie_Q64:compF Tryz.prog wr0 Tryz.f150=some t_Q64:=by kernel_rfl
theorem tie_Q65:compF Tryz.prog wr0 Tryz.f151=some t_Q65:=by kernel_rfl
theorem tie_Q66:compF Tryz.prog wr0 Tryz.f152=some t_Q66:=by kernel_rfl
theorem tie_Q67:compF Tryz.prog wr0 Tryz.f153=some t_Q67:=by kernel_rfl
theorem tie_Q68:compF Tryz.prog wr0 Tryz.f154=some t_Q68:=by kernel_rfl
theorem tie_Q69:compF Tryz.prog wr0 Tryz.f155=some t_Q69:=by kernel_rfl
theorem tie_Q70:compF Tryz.prog wr0 Tryz.f156=some t_Q70:=by kernel_rfl
theorem tie_Q71:compF Tryz.prog wr0 Tryz.f157=some t_Q71:=by kernel_rfl
theorem tie_Q72:compF Tryz.prog wr0 Tryz.f165=some t_Q72:=by kernel_rfl
theorem tie_Q73:compF Tryz.prog wr0 Tryz.f166=some t_Q73:=by kernel_rfl
theorem tie_Q74:compF Tryz.prog wr0 Tryz.f167=some t_Q74:=by kernel_rfl
theorem tie_Q75:compF Tryz.prog wr0 Tryz.f168=some t_Q75:=by kernel_rfl
theorem tie_Q76:compF Tryz.prog wr0 Tryz.f169=some t_Q76:=by kernel_rfl
theorem tie_Q77:compF Tryz.prog wr0 Tryz.f170=some t_Q77:=by kernel_rfl
theorem tie_Q78:compF Tryz.prog wr0 Tryz.f178=some t_Q78:=by kernel_rfl
theorem tie_Q79:compF Tryz.prog wr0 Tryz.f184=some t_Q79:=by kernel_rfl
theorem tie_Q80:compF Tryz.prog wr0 Tryz.f185=some t_Q80:=by kernel_rfl
theorem tie_Q81:compF Tryz.prog wr0 Tryz.f186=some t_Q81:=by kernel_rfl
theorem tie_Q82:compF Tryz.prog wr0 Tryz.f189=some t_Q82:=by kernel_rfl
theorem tie_Q83:compF Tryz.prog wr0 Tryz.f190=some t_Q83:=by kernel_rfl
theorem tie_Q84:compF Tryz.prog wr0 Tryz.f191=some t_Q84:=by kernel_rfl
theorem tie_Q85:compF Tryz.prog wr0 Tryz.f192=some t_Q85:=by kernel_rfl
theorem tie_Q86:compF Tryz.prog wr0 Tryz.f193=some t_Q86:=by kernel_rfl
theorem tie_Q87:compF Tryz.prog wr0 Tryz.f194=some t_Q87:=by kernel_rfl
theorem tie_Q88:compF Tryz.prog wr0 Tryz.f195=some t_Q88:=by kernel_rfl
theorem tie_Q89:compF Tryz.prog wr0 Tryz.f196=some t_Q89:=by kernel_rfl
theorem tie_Q90:compF Tryz.prog wr0 Tryz.f197=some t_Q90:=by kernel_rfl
theorem tie_Q91:compF Tryz.prog wr0 Tryz.f198=some t_Q91:=by kernel_rfl
theorem tie_Q92:compF Tryz.prog wr0 Tryz.f199=some t_Q92:=by kernel_rfl
theorem tie_Q93:compF Tryz.prog wr0 Tryz.f200=some t_Q93:=by kernel_rfl
theorem tie_Q94:compF Tryz.prog wr0 Tryz.f201=some t_Q94:=by kernel_rfl
theorem tie_Q95:compF Tryz.prog wr0 Tryz.f203=some t_Q95:=by kernel_rfl
theorem tie_Q96:compF Tryz.prog wr0 Tryz.f204=some t_Q96:=by kernel_rfl
theorem tie_Q97:compF Tryz.prog wr0 Tryz.f205=some t_Q97:=by kernel_rfl
theorem tie_Q98:compF Tryz.prog wr0 Tryz.f206=some t_Q98:=by kernel_rfl
theorem tie_Q99:compF Tryz.prog wr0 Tryz.f209=some t_Q99:=by kernel_rfl
theorem tie_Q100:compF Tryz.prog wr0 Tryz.f212=some t_Q100:=by kernel_rfl
theorem tie_Q101:compF Tryz.prog wr0 Tryz.f213=some t_Q101:=by kernel_rfl
theorem tie_Q102:compF Tryz.prog wr0 Tryz.f214=some t_Q102:=by kernel_rfl
theorem tie_Q103:compF Tryz.prog wr0 Tryz.f215=some t_Q103:=by kernel_rfl
theorem tie_Q104:compF Tryz.prog wr0 Tryz.f216=some t_Q104:=by kernel_rfl
theorem tie_Q105:compF Tryz.prog wr0 Tryz.f217=some t_Q105:=by kernel_rfl
theorem tie_Q106:compF Tryz.prog wr0 Tryz.f218=some t_Q106:=by kernel_rfl
theorem tpOk:TpOk Tryz.prog wr0 tp:=by
  intro f tf h
  have h':tpFn f=some tf:=h
  clear h
  unfold tpFn at h'
  split at h'
  · cases h';exact ⟨Tryz.f10,Tryz.func10,tie_Q0⟩
  · cases h';exact ⟨Tryz.f12,Tryz.func12,tie_Q1⟩
  · cases h';exact ⟨Tryz.f14,Tryz.func14,tie_Q2⟩
  · cases h';exact ⟨Tryz.f15,Tryz.func15,tie_Q3⟩
  · cases h';exact ⟨Tryz.f17,Tryz.func17,tie_Q4⟩
  · cases h';exact ⟨Tryz.f21,Tryz.func21,tie_Q5⟩
  · cases h';exact ⟨Tryz.f29,Tryz.func29,tie_Q6⟩
  · cases h';exact ⟨Tryz.f39,Tryz.func39,tie_Q7⟩
  · cases h';exact ⟨Tryz.f40,Tryz.func40,tie_Q8⟩
  · cases h';exact ⟨Tryz.f41,Tryz.func41,tie_Q9⟩
  · cases h';exact ⟨Tryz.f43,Tryz.func43,tie_Q10⟩
  · cases h';exact ⟨Tryz.f44,Tryz.func44,tie_Q11⟩
  · cases h';exact ⟨Tryz.f45,Tryz.func45,tie_Q12⟩
  · cases h';exact ⟨Tryz.f46,Tryz.func46,tie_Q13⟩
  · cases h';exact ⟨Tryz.f47,Tryz.func47,tie_Q14⟩
  · cases h';exact ⟨Tryz.f48,Tryz.func48,tie_Q15⟩
  · cases h';exact ⟨Tryz.f49,Tryz.func49,tie_Q16⟩
  · cases h';exact ⟨Tryz.f50,Tryz.func50,tie_Q17⟩
  · cases h';exact ⟨Tryz.f51,Tryz.func51,tie_Q18⟩
  · cases h';exact ⟨Tryz.f54,Tryz.func54,tie_Q19⟩
  · cases h';exact ⟨Tryz.f55,Tryz.func55,tie_Q20⟩
  · cases h';exact ⟨Tryz.f56,Tryz.func56,tie_Q21⟩
  · cases h';exact ⟨Tryz.f57,Tryz.func57,tie_Q22⟩
  · cases h';exact ⟨Tryz.f58,Tryz.func58,tie_Q23⟩
  · cases h';exact ⟨Tryz.f59,Tryz.func59,tie_Q24⟩
  · cases h';exact ⟨Tryz.f60,Tryz.func60,tie_Q25⟩
  · cases h';exact ⟨Tryz.f61,Tryz.func61,tie_Q26⟩
  · cases h';exact ⟨Tryz.f80,Tryz.func80,tie_Q27⟩
  · cases h';exact ⟨Tryz.f85,Tryz.func85,tie_Q28⟩
  · cases h';exact ⟨Tryz.f86,Tryz.func86,tie_Q29⟩
  · cases h';exact ⟨Tryz.f87,Tryz.func87,tie_Q30⟩
  · cases h';exact ⟨Tryz.f88,Tryz.func88,tie_Q31⟩
  · cases h';exact ⟨Tryz.f89,Tryz.func89,tie_Q32⟩
  · cases h';exact ⟨Tryz.f90,Tryz.func90,tie_Q33⟩
  · cases h';exact ⟨Tryz.f91,Tryz.func91,tie_Q34⟩
  · cases h';exact ⟨Tryz.f92,Tryz.func92,tie_Q35⟩
  · cases h';exact ⟨Tryz.f93,Tryz.func93,tie_Q36⟩
  · cases h';exact ⟨Tryz.f94,Tryz.func94,tie_Q37⟩
  · cases h';exact ⟨Tryz.f95,Tryz.func95,tie_Q38⟩
  · cases h';exact ⟨Tryz.f96,Tryz.func96,tie_Q39⟩
  · cases h';exact ⟨Tryz.f97,Tryz.func97,tie_Q40⟩
  · cases h';exact ⟨Tryz.f98,Tryz.func98,tie_Q41⟩
  · cases h';exact ⟨Tryz.f107,Tryz.func107,tie_Q42⟩
  · cases h';exact ⟨Tryz.f108,Tryz.func108,tie_Q43⟩
  · cases h';exact ⟨Tryz.f109,Tryz.func109,tie_Q44⟩
  · cases h';exact ⟨Tryz.f110,Tryz.func110,tie_Q45⟩
  · cases h';exact ⟨Tryz.f111,Tryz.func111,tie_Q46⟩
  · cases h';exact ⟨Tryz.f112,Tryz.func112,tie_Q47⟩
  · cases h';exact ⟨Tryz.f113,Tryz.func113,tie_Q48⟩
  · cases h';exact ⟨Tryz.f129,Tryz.func129,tie_Q49⟩
  · cases h';exact ⟨Tryz.f136,Tryz.func136,tie_Q50⟩
  · cases h';exact ⟨Tryz.f137,Tryz.func137,tie_Q51⟩
  · cases h';exact ⟨Tryz.f138,Tryz.func138,tie_Q52⟩
  · cases h';exact ⟨Tryz.f139,Tryz.func139,tie_Q53⟩
  · cases h';exact ⟨Tryz.f140,Tryz.func140,tie_Q54⟩
  · cases h';exact ⟨Tryz.f141,Tryz.func141,tie_Q55⟩
  · cases h';exact ⟨Tryz.f142,Tryz.func142,tie_Q56⟩
  · cases h';exact ⟨Tryz.f143,Tryz.func143,tie_Q57⟩
  · cases h';exact ⟨Tryz.f144,Tryz.func144,tie_Q58⟩
  · cases h';exact ⟨Tryz.f145,Tryz.func145,tie_Q59⟩
  · cases h';exact ⟨Tryz.f146,Tryz.func146,tie_Q60⟩
  · cases h';exact ⟨Tryz.f147,Tryz.func147,tie_Q61⟩
  · cases h';exact ⟨Tryz.f148,Tryz.func148,tie_Q62⟩
  · cases h';exact ⟨Tryz.f149,Tryz.func149,tie_Q63⟩
  · cases h';exact ⟨Tryz.f150,Tryz.func150,tie_Q64⟩
  · cases h';exact ⟨Tryz.f151,Tryz.func151,tie_Q65⟩
  · cases h';exact ⟨Tryz.f152,Tryz.func152,tie_Q66⟩
  · cases h';exact ⟨Tryz.f153,Tryz.func153,tie_Q67⟩
  · cases h';exact ⟨Tryz.f154,Tryz.func154,tie_Q68⟩
  · cases h';exact ⟨Tryz.f155,Tryz.func155,tie_Q69⟩
  · cases h';exact ⟨Tryz.f156,Tryz.func156,tie_Q70⟩
  · cases h';exact ⟨Tryz.f157,Tryz.func157,tie_Q71⟩
  · cases h';exact ⟨Tryz.f165,Tryz.func165,tie_Q72⟩
  · cases h';exact ⟨Tryz.f166,Tryz.func166,tie_Q73⟩
  · cases h';exact ⟨Tryz.f167,Tryz.func167,tie_Q74⟩
  · cases h';exact ⟨Tryz.f168,Tryz.func168,tie_Q75⟩
  · cases h';exact ⟨Tryz.f169,Tryz.func169,tie_Q76⟩
  · cases h';exact ⟨Tryz.f170,Tryz.func170,tie_Q77⟩
  · cases h';exact ⟨Tryz.f178,Tryz.func178,tie_Q78⟩
  · cases h';exact ⟨Tryz.f184,Tryz.func184,tie_Q79⟩
  · cases h';exact ⟨Tryz.f185,Tryz.func185,tie_Q80⟩
  · cases h';exact ⟨Tryz.f186,Tryz.func186,tie_Q81⟩
  · cases h';exact ⟨Tryz.f189,Tryz.func189,tie_Q82⟩
  · cases h';exact ⟨Tryz.f190,Tryz.func190,tie_Q83⟩
  · cases h';exact ⟨Tryz.f191,Tryz.func191,tie_Q84⟩
  · cases h';exact ⟨Tryz.f192,Tryz.func192,tie_Q85⟩
  · cases h';exact ⟨Tryz.f193,Tryz.func193,tie_Q86⟩
  · cases h';exact ⟨Tryz.f194,Tryz.func194,tie_Q87⟩
  · cases h';exact ⟨Tryz.f195,Tryz.func195,tie_Q88⟩
  · cases h';exact ⟨Tryz.f196,Tryz.func196,tie_Q89⟩
  · cases h';exact ⟨Tryz.f197,Tryz.func197,tie_Q90⟩
  · cases h';exact ⟨Tryz.f198,Tryz.func198,tie_Q91⟩
  · cases h';exact ⟨Tryz.f199,Tryz.func199,tie_Q92⟩
  · cases h';exact ⟨Tryz.f200,Tryz.func200,tie_Q93⟩
  · cases h';exact ⟨Tryz.f201,Tryz.func201,tie_Q94⟩
  · cases h';exact ⟨Tryz.f203,Tryz.func203,tie_Q95⟩
  · cases h';exact ⟨Tryz.f204,Tryz.func204,tie_Q96⟩
  · cases h';exact ⟨Tryz.f205,Tryz.func205,tie_Q97⟩
  · cases h';exact ⟨Tryz.f206,Tryz.func206,tie_Q98⟩
  · cases h';exact ⟨Tryz.f209,Tryz.func209,tie_Q99⟩
  · cases h';exact ⟨Tryz.f212,Tryz.func212,tie_Q100⟩
  · cases h';exact ⟨Tryz.f213,Tryz.func213,tie_Q101⟩
  · cases h';exact ⟨Tryz.f214,Tryz.func214,tie_Q102⟩
  · cases h';exact ⟨Tryz.f215,Tryz.func215,tie_Q103⟩
  · cases h';exact ⟨Tryz.f216,Tryz.func216,tie_Q104⟩
  · cases h';exact ⟨Tryz.f217,Tryz.func217,tie_Q105⟩
  · cases h';exact ⟨Tryz.f218,Tryz.func218,tie_Q106⟩
  · cases h'
theorem methsOk:MethsOk Tryz.prog tp:=by
  intro t m q h
  cases h
end Go.Ab.T
