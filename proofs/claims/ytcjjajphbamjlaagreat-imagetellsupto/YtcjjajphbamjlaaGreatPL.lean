/- Part of a proof that a law returns true for every input of the second form's bound (no other condition). -/
import Derived.Test.YtcjjajphbamjlaaGreatChecked
import Derived.Test.YtcjjajphbamjlaaGreatPE
import Derived.Test.YtcjjajphbamjlaaGreatPC
set_option linter.all false
/- The abstract machine's text is the program's. Written by a tool. -/
namespace Go.Ab.T
open Go Go.Ab Go.Proofs
def Bp:Wr:=fun f=>wrs.contains f
theorem aHZ:Ao Tryz.prog Bp Tryz.f9=some bV:=by kernel_rfl
theorem aH0:Ao Tryz.prog Bp Tryz.f12=some bW:=by kernel_rfl
theorem aH1:Ao Tryz.prog Bp Tryz.f14=some bX:=by kernel_rfl
theorem aH2:Ao Tryz.prog Bp Tryz.f15=some bZ:=by kernel_rfl
theorem aH3:Ao Tryz.prog Bp Tryz.f17=some cA:=by kernel_rfl
theorem aH4:Ao Tryz.prog Bp Tryz.f21=some cB:=by kernel_rfl
theorem aH5:Ao Tryz.prog Bp Tryz.f29=some Ss:=by kernel_rfl
theorem aH6:Ao Tryz.prog Bp Tryz.f35=some Su:=by kernel_rfl
theorem aH7:Ao Tryz.prog Bp Tryz.f36=some cC:=by kernel_rfl
theorem aH8:Ao Tryz.prog Bp Tryz.f37=some cD:=by kernel_rfl
theorem nU:Ao Tryz.prog Bp Tryz.f38=some OK:=by kernel_rfl
theorem nV:Ao Tryz.prog Bp Tryz.f39=some OL:=by kernel_rfl
theorem nW:Ao Tryz.prog Bp Tryz.f40=some OM:=by kernel_rfl
theorem nX:Ao Tryz.prog Bp Tryz.f41=some ON:=by kernel_rfl
theorem nY:Ao Tryz.prog Bp Tryz.f42=some OO:=by kernel_rfl
theorem nZ:Ao Tryz.prog Bp Tryz.f43=some OP:=by kernel_rfl
theorem oA:Ao Tryz.prog Bp Tryz.f44=some OQ:=by kernel_rfl
theorem oB:Ao Tryz.prog Bp Tryz.f45=some OS:=by kernel_rfl
theorem oC:Ao Tryz.prog Bp Tryz.f46=some OT:=by kernel_rfl
theorem oD:Ao Tryz.prog Bp Tryz.f47=some OU:=by kernel_rfl
theorem oE:Ao Tryz.prog Bp Tryz.f48=some OV:=by kernel_rfl
theorem oF:Ao Tryz.prog Bp Tryz.f49=some OW:=by kernel_rfl
theorem oG:Ao Tryz.prog Bp Tryz.f50=some OX:=by kernel_rfl
theorem oH:Ao Tryz.prog Bp Tryz.f51=some OY:=by kernel_rfl
theorem oI:Ao Tryz.prog Bp Tryz.f54=some OZ:=by kernel_rfl
theorem oJ:Ao Tryz.prog Bp Tryz.f55=some O0:=by kernel_rfl
theorem oK:Ao Tryz.prog Bp Tryz.f56=some O1:=by kernel_rfl
theorem oL:Ao Tryz.prog Bp Tryz.f57=some O2:=by kernel_rfl
theorem oM:Ao Tryz.prog Bp Tryz.f58=some O3:=by kernel_rfl
theorem oN:Ao Tryz.prog Bp Tryz.f59=some O4:=by kernel_rfl
theorem oO:Ao Tryz.prog Bp Tryz.f60=some O5:=by kernel_rfl
theorem oP:Ao Tryz.prog Bp Tryz.f61=some O6:=by kernel_rfl
theorem oQ:Ao Tryz.prog Bp Tryz.f80=some O7:=by kernel_rfl
theorem oS:Ao Tryz.prog Bp Tryz.f81=some O8:=by kernel_rfl
theorem oT:Ao Tryz.prog Bp Tryz.f82=some O9:=by kernel_rfl
theorem oU:Ao Tryz.prog Bp Tryz.f83=some Pa:=by kernel_rfl
theorem oV:Ao Tryz.prog Bp Tryz.f84=some Pb:=by kernel_rfl
theorem oW:Ao Tryz.prog Bp Tryz.f85=some Pc:=by kernel_rfl
theorem oX:Ao Tryz.prog Bp Tryz.f86=some Pd:=by kernel_rfl
theorem oY:Ao Tryz.prog Bp Tryz.f87=some Pe:=by kernel_rfl
theorem oZ:Ao Tryz.prog Bp Tryz.f88=some Pg:=by kernel_rfl
theorem pA:Ao Tryz.prog Bp Tryz.f89=some Ph:=by kernel_rfl
theorem pB:Ao Tryz.prog Bp Tryz.f90=some Pi:=by kernel_rfl
theorem pC:Ao Tryz.prog Bp Tryz.f91=some Pj:=by kernel_rfl
theorem pD:Ao Tryz.prog Bp Tryz.f92=some Pk:=by kernel_rfl
theorem pE:Ao Tryz.prog Bp Tryz.f93=some Pl:=by kernel_rfl
theorem pF:Ao Tryz.prog Bp Tryz.f94=some Pm:=by kernel_rfl
theorem pG:Ao Tryz.prog Bp Tryz.f95=some Lb:=by kernel_rfl
theorem pH:Ao Tryz.prog Bp Tryz.f96=some Pn:=by kernel_rfl
theorem pI:Ao Tryz.prog Bp Tryz.f97=some Po:=by kernel_rfl
theorem pJ:Ao Tryz.prog Bp Tryz.f98=some Pp:=by kernel_rfl
theorem pK:Ao Tryz.prog Bp Tryz.f107=some Pq:=by kernel_rfl
theorem pL:Ao Tryz.prog Bp Tryz.f108=some Pr:=by kernel_rfl
theorem pM:Ao Tryz.prog Bp Tryz.f109=some Pt:=by kernel_rfl
theorem pN:Ao Tryz.prog Bp Tryz.f110=some Pu:=by kernel_rfl
theorem pO:Ao Tryz.prog Bp Tryz.f111=some Pv:=by kernel_rfl
theorem pP:Ao Tryz.prog Bp Tryz.f112=some Il:=by kernel_rfl
theorem pQ:Ao Tryz.prog Bp Tryz.f113=some Pw:=by kernel_rfl
theorem pR:Ao Tryz.prog Bp Tryz.f129=some Px:=by kernel_rfl
theorem pS:Ao Tryz.prog Bp Tryz.f130=some Py:=by kernel_rfl
theorem pT:Ao Tryz.prog Bp Tryz.f131=some Pz:=by kernel_rfl
theorem pU:Ao Tryz.prog Bp Tryz.f132=some PA:=by kernel_rfl
theorem pV:Ao Tryz.prog Bp Tryz.f133=some PB:=by kernel_rfl
theorem pW:Ao Tryz.prog Bp Tryz.f134=some PC:=by kernel_rfl
theorem pX:Ao Tryz.prog Bp Tryz.f135=some PD:=by kernel_rfl
theorem pY:Ao Tryz.prog Bp Tryz.f136=some PE:=by kernel_rfl
theorem pZ:Ao Tryz.prog Bp Tryz.f137=some PF:=by kernel_rfl
theorem qA:Ao Tryz.prog Bp Tryz.f138=some PG:=by kernel_rfl
theorem qB:Ao Tryz.prog Bp Tryz.f139=some PH:=by kernel_rfl
theorem qC:Ao Tryz.prog Bp Tryz.f140=some PI:=by kernel_rfl
theorem qD:Ao Tryz.prog Bp Tryz.f141=some PJ:=by kernel_rfl
theorem qE:Ao Tryz.prog Bp Tryz.f142=some PK:=by kernel_rfl
theorem qF:Ao Tryz.prog Bp Tryz.f143=some PL:=by kernel_rfl
theorem qG:Ao Tryz.prog Bp Tryz.f144=some PM:=by kernel_rfl
theorem qH:Ao Tryz.prog Bp Tryz.f145=some PN:=by kernel_rfl
theorem qI:Ao Tryz.prog Bp Tryz.f146=some PP:=by kernel_rfl
theorem qJ:Ao Tryz.prog Bp Tryz.f147=some PQ:=by kernel_rfl
theorem qK:Ao Tryz.prog Bp Tryz.f148=some PS:=by kernel_rfl
theorem qL:Ao Tryz.prog Bp Tryz.f149=some PT:=by kernel_rfl
theorem qM:Ao Tryz.prog Bp Tryz.f150=some PU:=by kernel_rfl
theorem qN:Ao Tryz.prog Bp Tryz.f151=some PV:=by kernel_rfl
theorem qO:Ao Tryz.prog Bp Tryz.f152=some PX:=by kernel_rfl
theorem qP:Ao Tryz.prog Bp Tryz.f153=some PY:=by kernel_rfl
theorem qQ:Ao Tryz.prog Bp Tryz.f154=some PZ:=by kernel_rfl
theorem qR:Ao Tryz.prog Bp Tryz.f155=some P6:=by kernel_rfl
theorem qS:Ao Tryz.prog Bp Tryz.f156=some P7:=by kernel_rfl
theorem qT:Ao Tryz.prog Bp Tryz.f157=some P8:=by kernel_rfl
theorem qU:Ao Tryz.prog Bp Tryz.f165=some P9:=by kernel_rfl
theorem qV:Ao Tryz.prog Bp Tryz.f166=some Qa:=by kernel_rfl
theorem qW:Ao Tryz.prog Bp Tryz.f167=some Qb:=by kernel_rfl
theorem qX:Ao Tryz.prog Bp Tryz.f168=some Qc:=by kernel_rfl
theorem qY:Ao Tryz.prog Bp Tryz.f169=some Qd:=by kernel_rfl
theorem qZ:Ao Tryz.prog Bp Tryz.f170=some Qe:=by kernel_rfl
theorem rA:Ao Tryz.prog Bp Tryz.f178=some Qf:=by kernel_rfl
theorem rB:Ao Tryz.prog Bp Tryz.f184=some Qg:=by kernel_rfl
theorem rC:Ao Tryz.prog Bp Tryz.f185=some Qh:=by kernel_rfl
theorem rD:Ao Tryz.prog Bp Tryz.f186=some Qi:=by kernel_rfl
theorem rE:Ao Tryz.prog Bp Tryz.f187=some Qj:=by kernel_rfl
theorem rF:Ao Tryz.prog Bp Tryz.f188=some Qk:=by kernel_rfl
theorem rG:Ao Tryz.prog Bp Tryz.f189=some Ql:=by kernel_rfl
theorem cI:Ao Tryz.prog Bp Tryz.f190=some KK:=by kernel_rfl
theorem cJ:Ao Tryz.prog Bp Tryz.f191=some KL:=by kernel_rfl
theorem cK:Ao Tryz.prog Bp Tryz.f192=some KM:=by kernel_rfl
theorem cL:Ao Tryz.prog Bp Tryz.f193=some KN:=by kernel_rfl
theorem cM:Ao Tryz.prog Bp Tryz.f194=some KO:=by kernel_rfl
theorem cN:Ao Tryz.prog Bp Tryz.f195=some KP:=by kernel_rfl
theorem cO:Ao Tryz.prog Bp Tryz.f196=some KQ:=by kernel_rfl
theorem cP:Ao Tryz.prog Bp Tryz.f197=some KR:=by kernel_rfl
theorem cQ:Ao Tryz.prog Bp Tryz.f198=some KT:=by kernel_rfl
theorem cR:Ao Tryz.prog Bp Tryz.f199=some KU:=by kernel_rfl
theorem cS:Ao Tryz.prog Bp Tryz.f200=some KV:=by kernel_rfl
theorem cT:Ao Tryz.prog Bp Tryz.f201=some KW:=by kernel_rfl
theorem cU:Ao Tryz.prog Bp Tryz.f203=some KX:=by kernel_rfl
theorem cV:Ao Tryz.prog Bp Tryz.f204=some KY:=by kernel_rfl
theorem cW:Ao Tryz.prog Bp Tryz.f205=some KZ:=by kernel_rfl
theorem cX:Ao Tryz.prog Bp Tryz.f206=some K0:=by kernel_rfl
theorem cY:Ao Tryz.prog Bp Tryz.f209=some K1:=by kernel_rfl
theorem cZ:Ao Tryz.prog Bp Tryz.f211=some K3:=by kernel_rfl
theorem dA:Ao Tryz.prog Bp Tryz.f212=some K4:=by kernel_rfl
theorem dB:Ao Tryz.prog Bp Tryz.f213=some K5:=by kernel_rfl
theorem dC:Ao Tryz.prog Bp Tryz.f214=some K6:=by kernel_rfl
theorem dD:Ao Tryz.prog Bp Tryz.f215=some K7:=by kernel_rfl
theorem dE:Ao Tryz.prog Bp Tryz.f216=some K8:=by kernel_rfl
theorem dF:Ao Tryz.prog Bp Tryz.f217=some K9:=by kernel_rfl
theorem dG:Ao Tryz.prog Bp Tryz.f218=some La:=by kernel_rfl
theorem aXa:aEt Tryz.prog Bp tp:=by
 intro f tf h
 have h':aH9 f=some tf:=h
 clear h
 unfold aH9 at h'
 split at h'
 ·cases h';exact ⟨Tryz.f9,Tryz.func9,aHZ⟩
 ·cases h';exact ⟨Tryz.f12,Tryz.func12,aH0⟩
 ·cases h';exact ⟨Tryz.f14,Tryz.func14,aH1⟩
 ·cases h';exact ⟨Tryz.f15,Tryz.func15,aH2⟩
 ·cases h';exact ⟨Tryz.f17,Tryz.func17,aH3⟩
 ·cases h';exact ⟨Tryz.f21,Tryz.func21,aH4⟩
 ·cases h';exact ⟨Tryz.f29,Tryz.func29,aH5⟩
 ·cases h';exact ⟨Tryz.f35,Tryz.func35,aH6⟩
 ·cases h';exact ⟨Tryz.f36,Tryz.func36,aH7⟩
 ·cases h';exact ⟨Tryz.f37,Tryz.func37,aH8⟩
 ·cases h';exact ⟨Tryz.f38,Tryz.func38,nU⟩
 ·cases h';exact ⟨Tryz.f39,Tryz.func39,nV⟩
 ·cases h';exact ⟨Tryz.f40,Tryz.func40,nW⟩
 ·cases h';exact ⟨Tryz.f41,Tryz.func41,nX⟩
 ·cases h';exact ⟨Tryz.f42,Tryz.func42,nY⟩
 ·cases h';exact ⟨Tryz.f43,Tryz.func43,nZ⟩
 ·cases h';exact ⟨Tryz.f44,Tryz.func44,oA⟩
 ·cases h';exact ⟨Tryz.f45,Tryz.func45,oB⟩
 ·cases h';exact ⟨Tryz.f46,Tryz.func46,oC⟩
 ·cases h';exact ⟨Tryz.f47,Tryz.func47,oD⟩
 ·cases h';exact ⟨Tryz.f48,Tryz.func48,oE⟩
 ·cases h';exact ⟨Tryz.f49,Tryz.func49,oF⟩
 ·cases h';exact ⟨Tryz.f50,Tryz.func50,oG⟩
 ·cases h';exact ⟨Tryz.f51,Tryz.func51,oH⟩
 ·cases h';exact ⟨Tryz.f54,Tryz.func54,oI⟩
 ·cases h';exact ⟨Tryz.f55,Tryz.func55,oJ⟩
 ·cases h';exact ⟨Tryz.f56,Tryz.func56,oK⟩
 ·cases h';exact ⟨Tryz.f57,Tryz.func57,oL⟩
 ·cases h';exact ⟨Tryz.f58,Tryz.func58,oM⟩
 ·cases h';exact ⟨Tryz.f59,Tryz.func59,oN⟩
 ·cases h';exact ⟨Tryz.f60,Tryz.func60,oO⟩
 ·cases h';exact ⟨Tryz.f61,Tryz.func61,oP⟩
 ·cases h';exact ⟨Tryz.f80,Tryz.func80,oQ⟩
 ·cases h';exact ⟨Tryz.f81,Tryz.func81,oS⟩
 ·cases h';exact ⟨Tryz.f82,Tryz.func82,oT⟩
 ·cases h';exact ⟨Tryz.f83,Tryz.func83,oU⟩
 ·cases h';exact ⟨Tryz.f84,Tryz.func84,oV⟩
 ·cases h';exact ⟨Tryz.f85,Tryz.func85,oW⟩
 ·cases h';exact ⟨Tryz.f86,Tryz.func86,oX⟩
 ·cases h';exact ⟨Tryz.f87,Tryz.func87,oY⟩
 ·cases h';exact ⟨Tryz.f88,Tryz.func88,oZ⟩
 ·cases h';exact ⟨Tryz.f89,Tryz.func89,pA⟩
 ·cases h';exact ⟨Tryz.f90,Tryz.func90,pB⟩
 ·cases h';exact ⟨Tryz.f91,Tryz.func91,pC⟩
 ·cases h';exact ⟨Tryz.f92,Tryz.func92,pD⟩
 ·cases h';exact ⟨Tryz.f93,Tryz.func93,pE⟩
 ·cases h';exact ⟨Tryz.f94,Tryz.func94,pF⟩
 ·cases h';exact ⟨Tryz.f95,Tryz.func95,pG⟩
 ·cases h';exact ⟨Tryz.f96,Tryz.func96,pH⟩
 ·cases h';exact ⟨Tryz.f97,Tryz.func97,pI⟩
 ·cases h';exact ⟨Tryz.f98,Tryz.func98,pJ⟩
 ·cases h';exact ⟨Tryz.f107,Tryz.func107,pK⟩
 ·cases h';exact ⟨Tryz.f108,Tryz.func108,pL⟩
 ·cases h';exact ⟨Tryz.f109,Tryz.func109,pM⟩
 ·cases h';exact ⟨Tryz.f110,Tryz.func110,pN⟩
 ·cases h';exact ⟨Tryz.f111,Tryz.func111,pO⟩
 ·cases h';exact ⟨Tryz.f112,Tryz.func112,pP⟩
 ·cases h';exact ⟨Tryz.f113,Tryz.func113,pQ⟩
 ·cases h';exact ⟨Tryz.f129,Tryz.func129,pR⟩
 ·cases h';exact ⟨Tryz.f130,Tryz.func130,pS⟩
 ·cases h';exact ⟨Tryz.f131,Tryz.func131,pT⟩
 ·cases h';exact ⟨Tryz.f132,Tryz.func132,pU⟩
 ·cases h';exact ⟨Tryz.f133,Tryz.func133,pV⟩
 ·cases h';exact ⟨Tryz.f134,Tryz.func134,pW⟩
 ·cases h';exact ⟨Tryz.f135,Tryz.func135,pX⟩
 ·cases h';exact ⟨Tryz.f136,Tryz.func136,pY⟩
 ·cases h';exact ⟨Tryz.f137,Tryz.func137,pZ⟩
 ·cases h';exact ⟨Tryz.f138,Tryz.func138,qA⟩
 ·cases h';exact ⟨Tryz.f139,Tryz.func139,qB⟩
 ·cases h';exact ⟨Tryz.f140,Tryz.func140,qC⟩
 ·cases h';exact ⟨Tryz.f141,Tryz.func141,qD⟩
 ·cases h';exact ⟨Tryz.f142,Tryz.func142,qE⟩
 ·cases h';exact ⟨Tryz.f143,Tryz.func143,qF⟩
 ·cases h';exact ⟨Tryz.f144,Tryz.func144,qG⟩
 ·cases h';exact ⟨Tryz.f145,Tryz.func145,qH⟩
 ·cases h';exact ⟨Tryz.f146,Tryz.func146,qI⟩
 ·cases h';exact ⟨Tryz.f147,Tryz.func147,qJ⟩
 ·cases h';exact ⟨Tryz.f148,Tryz.func148,qK⟩
 ·cases h';exact ⟨Tryz.f149,Tryz.func149,qL⟩
 ·cases h';exact ⟨Tryz.f150,Tryz.func150,qM⟩
 ·cases h';exact ⟨Tryz.f151,Tryz.func151,qN⟩
 ·cases h';exact ⟨Tryz.f152,Tryz.func152,qO⟩
 ·cases h';exact ⟨Tryz.f153,Tryz.func153,qP⟩
 ·cases h';exact ⟨Tryz.f154,Tryz.func154,qQ⟩
 ·cases h';exact ⟨Tryz.f155,Tryz.func155,qR⟩
 ·cases h';exact ⟨Tryz.f156,Tryz.func156,qS⟩
 ·cases h';exact ⟨Tryz.f157,Tryz.func157,qT⟩
 ·cases h';exact ⟨Tryz.f165,Tryz.func165,qU⟩
 ·cases h';exact ⟨Tryz.f166,Tryz.func166,qV⟩
 ·cases h';exact ⟨Tryz.f167,Tryz.func167,qW⟩
 ·cases h';exact ⟨Tryz.f168,Tryz.func168,qX⟩
 ·cases h';exact ⟨Tryz.f169,Tryz.func169,qY⟩
 ·cases h';exact ⟨Tryz.f170,Tryz.func170,qZ⟩
 ·cases h';exact ⟨Tryz.f178,Tryz.func178,rA⟩
 ·cases h';exact ⟨Tryz.f184,Tryz.func184,rB⟩
 ·cases h';exact ⟨Tryz.f185,Tryz.func185,rC⟩
 ·cases h';exact ⟨Tryz.f186,Tryz.func186,rD⟩
 ·cases h';exact ⟨Tryz.f187,Tryz.func187,rE⟩
 ·cases h';exact ⟨Tryz.f188,Tryz.func188,rF⟩
 ·cases h';exact ⟨Tryz.f189,Tryz.func189,rG⟩
 ·cases h';exact ⟨Tryz.f190,Tryz.func190,cI⟩
 ·cases h';exact ⟨Tryz.f191,Tryz.func191,cJ⟩
 ·cases h';exact ⟨Tryz.f192,Tryz.func192,cK⟩
 ·cases h';exact ⟨Tryz.f193,Tryz.func193,cL⟩
 ·cases h';exact ⟨Tryz.f194,Tryz.func194,cM⟩
 ·cases h';exact ⟨Tryz.f195,Tryz.func195,cN⟩
 ·cases h';exact ⟨Tryz.f196,Tryz.func196,cO⟩
 ·cases h';exact ⟨Tryz.f197,Tryz.func197,cP⟩
 ·cases h';exact ⟨Tryz.f198,Tryz.func198,cQ⟩
 ·cases h';exact ⟨Tryz.f199,Tryz.func199,cR⟩
 ·cases h';exact ⟨Tryz.f200,Tryz.func200,cS⟩
 ·cases h';exact ⟨Tryz.f201,Tryz.func201,cT⟩
 ·cases h';exact ⟨Tryz.f203,Tryz.func203,cU⟩
 ·cases h';exact ⟨Tryz.f204,Tryz.func204,cV⟩
 ·cases h';exact ⟨Tryz.f205,Tryz.func205,cW⟩
 ·cases h';exact ⟨Tryz.f206,Tryz.func206,cX⟩
 ·cases h';exact ⟨Tryz.f209,Tryz.func209,cY⟩
 ·cases h';exact ⟨Tryz.f211,Tryz.func211,cZ⟩
 ·cases h';exact ⟨Tryz.f212,Tryz.func212,dA⟩
 ·cases h';exact ⟨Tryz.f213,Tryz.func213,dB⟩
 ·cases h';exact ⟨Tryz.f214,Tryz.func214,dC⟩
 ·cases h';exact ⟨Tryz.f215,Tryz.func215,dD⟩
 ·cases h';exact ⟨Tryz.f216,Tryz.func216,dE⟩
 ·cases h';exact ⟨Tryz.f217,Tryz.func217,dF⟩
 ·cases h';exact ⟨Tryz.f218,Tryz.func218,dG⟩
 ·cases h'
theorem lP:Dx Tryz.prog tp:=by
 intro t m q h
 cases h
end Go.Ab.T
