/- Part of a proof that a law returns true for every input of the second form's bound (no other condition). -/
import Derived.Test.YtlcknhidblndnaaGreatChecked
import Derived.Test.YtlcknhidblndnaaGreatPE
import Derived.Test.YtlcknhidblndnaaGreatPC
set_option linter.all false
/- The abstract machine's text is the program's. Written by a tool. -/
namespace Go.Ab.T
open Go Go.Ab Go.Proofs
def A6:Wr:=fun f=>wrs.contains f
theorem aFC:Aj Tryz.prog A6 Tryz.f5=some YJ:=by kernel_rfl
theorem aFD:Aj Tryz.prog A6 Tryz.f10=some YK:=by kernel_rfl
theorem aFE:Aj Tryz.prog A6 Tryz.f11=some YL:=by kernel_rfl
theorem aFF:Aj Tryz.prog A6 Tryz.f12=some YM:=by kernel_rfl
theorem aFG:Aj Tryz.prog A6 Tryz.f13=some Md:=by kernel_rfl
theorem aFH:Aj Tryz.prog A6 Tryz.f14=some QH:=by kernel_rfl
theorem aFI:Aj Tryz.prog A6 Tryz.f15=some QI:=by kernel_rfl
theorem aFJ:Aj Tryz.prog A6 Tryz.f16=some QJ:=by kernel_rfl
theorem aFK:Aj Tryz.prog A6 Tryz.f17=some YN:=by kernel_rfl
theorem aFL:Aj Tryz.prog A6 Tryz.f18=some YO:=by kernel_rfl
theorem jR:Aj Tryz.prog A6 Tryz.f22=some NB:=by kernel_rfl
theorem jS:Aj Tryz.prog A6 Tryz.f23=some NC:=by kernel_rfl
theorem jT:Aj Tryz.prog A6 Tryz.f24=some ND:=by kernel_rfl
theorem jU:Aj Tryz.prog A6 Tryz.f25=some NE:=by kernel_rfl
theorem jV:Aj Tryz.prog A6 Tryz.f26=some NF:=by kernel_rfl
theorem jW:Aj Tryz.prog A6 Tryz.f27=some NG:=by kernel_rfl
theorem jX:Aj Tryz.prog A6 Tryz.f28=some Kf:=by kernel_rfl
theorem jY:Aj Tryz.prog A6 Tryz.f29=some NH:=by kernel_rfl
theorem jZ:Aj Tryz.prog A6 Tryz.f30=some NI:=by kernel_rfl
theorem kB:Aj Tryz.prog A6 Tryz.f31=some NJ:=by kernel_rfl
theorem kC:Aj Tryz.prog A6 Tryz.f32=some NK:=by kernel_rfl
theorem kD:Aj Tryz.prog A6 Tryz.f33=some NL:=by kernel_rfl
theorem kE:Aj Tryz.prog A6 Tryz.f34=some NM:=by kernel_rfl
theorem kF:Aj Tryz.prog A6 Tryz.f35=some NN:=by kernel_rfl
theorem kG:Aj Tryz.prog A6 Tryz.f36=some NO:=by kernel_rfl
theorem kH:Aj Tryz.prog A6 Tryz.f37=some Ck:=by kernel_rfl
theorem kI:Aj Tryz.prog A6 Tryz.f38=some NP:=by kernel_rfl
theorem kJ:Aj Tryz.prog A6 Tryz.f39=some NQ:=by kernel_rfl
theorem kK:Aj Tryz.prog A6 Tryz.f40=some NR:=by kernel_rfl
theorem kL:Aj Tryz.prog A6 Tryz.f41=some NS:=by kernel_rfl
theorem kM:Aj Tryz.prog A6 Tryz.f42=some NT:=by kernel_rfl
theorem kN:Aj Tryz.prog A6 Tryz.f43=some NU:=by kernel_rfl
theorem kO:Aj Tryz.prog A6 Tryz.f51=some Kg:=by kernel_rfl
theorem kQ:Aj Tryz.prog A6 Tryz.f52=some NV:=by kernel_rfl
theorem kR:Aj Tryz.prog A6 Tryz.f53=some NW:=by kernel_rfl
theorem kS:Aj Tryz.prog A6 Tryz.f54=some NX:=by kernel_rfl
theorem kT:Aj Tryz.prog A6 Tryz.f55=some NY:=by kernel_rfl
theorem kU:Aj Tryz.prog A6 Tryz.f56=some NZ:=by kernel_rfl
theorem kV:Aj Tryz.prog A6 Tryz.f57=some N0:=by kernel_rfl
theorem kW:Aj Tryz.prog A6 Tryz.f58=some Kh:=by kernel_rfl
theorem kX:Aj Tryz.prog A6 Tryz.f59=some Ki:=by kernel_rfl
theorem kY:Aj Tryz.prog A6 Tryz.f60=some N1:=by kernel_rfl
theorem kZ:Aj Tryz.prog A6 Tryz.f61=some N2:=by kernel_rfl
theorem lA:Aj Tryz.prog A6 Tryz.f62=some Kj:=by kernel_rfl
theorem lB:Aj Tryz.prog A6 Tryz.f63=some Kk:=by kernel_rfl
theorem lC:Aj Tryz.prog A6 Tryz.f64=some N7:=by kernel_rfl
theorem lD:Aj Tryz.prog A6 Tryz.f65=some N8:=by kernel_rfl
theorem lE:Aj Tryz.prog A6 Tryz.f66=some N9:=by kernel_rfl
theorem lF:Aj Tryz.prog A6 Tryz.f67=some Oa:=by kernel_rfl
theorem lG:Aj Tryz.prog A6 Tryz.f68=some Ob:=by kernel_rfl
theorem lH:Aj Tryz.prog A6 Tryz.f69=some Kl:=by kernel_rfl
theorem lI:Aj Tryz.prog A6 Tryz.f70=some Cl:=by kernel_rfl
theorem lJ:Aj Tryz.prog A6 Tryz.f71=some G7:=by kernel_rfl
theorem lK:Aj Tryz.prog A6 Tryz.f72=some Oc:=by kernel_rfl
theorem lL:Aj Tryz.prog A6 Tryz.f73=some Od:=by kernel_rfl
theorem lM:Aj Tryz.prog A6 Tryz.f74=some Oe:=by kernel_rfl
theorem lN:Aj Tryz.prog A6 Tryz.f75=some FF:=by kernel_rfl
theorem lO:Aj Tryz.prog A6 Tryz.f76=some Og:=by kernel_rfl
theorem lP:Aj Tryz.prog A6 Tryz.f77=some Oh:=by kernel_rfl
theorem lQ:Aj Tryz.prog A6 Tryz.f78=some Oi:=by kernel_rfl
theorem lR:Aj Tryz.prog A6 Tryz.f86=some Oj:=by kernel_rfl
theorem lS:Aj Tryz.prog A6 Tryz.f87=some Ol:=by kernel_rfl
theorem lT:Aj Tryz.prog A6 Tryz.f88=some Om:=by kernel_rfl
theorem lU:Aj Tryz.prog A6 Tryz.f89=some Oo:=by kernel_rfl
theorem lV:Aj Tryz.prog A6 Tryz.f90=some Oq:=by kernel_rfl
theorem lW:Aj Tryz.prog A6 Tryz.f91=some Ot:=by kernel_rfl
theorem lX:Aj Tryz.prog A6 Tryz.f92=some Ou:=by kernel_rfl
theorem lY:Aj Tryz.prog A6 Tryz.f93=some Ov:=by kernel_rfl
theorem lZ:Aj Tryz.prog A6 Tryz.f94=some Ow:=by kernel_rfl
theorem mA:Aj Tryz.prog A6 Tryz.f95=some Ox:=by kernel_rfl
theorem mB:Aj Tryz.prog A6 Tryz.f96=some Oy:=by kernel_rfl
theorem mC:Aj Tryz.prog A6 Tryz.f97=some Oz:=by kernel_rfl
theorem mD:Aj Tryz.prog A6 Tryz.f98=some Km:=by kernel_rfl
theorem mE:Aj Tryz.prog A6 Tryz.f99=some G8:=by kernel_rfl
theorem mF:Aj Tryz.prog A6 Tryz.f100=some OA:=by kernel_rfl
theorem mG:Aj Tryz.prog A6 Tryz.f101=some FG:=by kernel_rfl
theorem mH:Aj Tryz.prog A6 Tryz.f102=some Dy:=by kernel_rfl
theorem mI:Aj Tryz.prog A6 Tryz.f103=some G9:=by kernel_rfl
theorem mJ:Aj Tryz.prog A6 Tryz.f107=some OB:=by kernel_rfl
theorem mK:Aj Tryz.prog A6 Tryz.f108=some OC:=by kernel_rfl
theorem mL:Aj Tryz.prog A6 Tryz.f109=some Ha:=by kernel_rfl
theorem mM:Aj Tryz.prog A6 Tryz.f110=some OD:=by kernel_rfl
theorem mN:Aj Tryz.prog A6 Tryz.f111=some OE:=by kernel_rfl
theorem mO:Aj Tryz.prog A6 Tryz.f112=some OF:=by kernel_rfl
theorem mP:Aj Tryz.prog A6 Tryz.f113=some OG:=by kernel_rfl
theorem mQ:Aj Tryz.prog A6 Tryz.f114=some OH:=by kernel_rfl
theorem mR:Aj Tryz.prog A6 Tryz.f115=some OI:=by kernel_rfl
theorem mS:Aj Tryz.prog A6 Tryz.f116=some OJ:=by kernel_rfl
theorem mT:Aj Tryz.prog A6 Tryz.f117=some OK:=by kernel_rfl
theorem mU:Aj Tryz.prog A6 Tryz.f118=some OL:=by kernel_rfl
theorem mV:Aj Tryz.prog A6 Tryz.f119=some OM:=by kernel_rfl
theorem mW:Aj Tryz.prog A6 Tryz.f120=some ON:=by kernel_rfl
theorem mX:Aj Tryz.prog A6 Tryz.f123=some OO:=by kernel_rfl
theorem mY:Aj Tryz.prog A6 Tryz.f124=some OP:=by kernel_rfl
theorem mZ:Aj Tryz.prog A6 Tryz.f125=some OQ:=by kernel_rfl
theorem nA:Aj Tryz.prog A6 Tryz.f126=some OS:=by kernel_rfl
theorem nB:Aj Tryz.prog A6 Tryz.f127=some OT:=by kernel_rfl
theorem nC:Aj Tryz.prog A6 Tryz.f128=some OU:=by kernel_rfl
theorem nD:Aj Tryz.prog A6 Tryz.f129=some Ko:=by kernel_rfl
theorem nE:Aj Tryz.prog A6 Tryz.f130=some OV:=by kernel_rfl
theorem YS:Aj Tryz.prog A6 Tryz.f131=some JJ:=by kernel_rfl
theorem YT:Aj Tryz.prog A6 Tryz.f132=some JK:=by kernel_rfl
theorem YU:Aj Tryz.prog A6 Tryz.f133=some JL:=by kernel_rfl
theorem YV:Aj Tryz.prog A6 Tryz.f134=some JM:=by kernel_rfl
theorem YW:Aj Tryz.prog A6 Tryz.f135=some JN:=by kernel_rfl
theorem YX:Aj Tryz.prog A6 Tryz.f136=some JO:=by kernel_rfl
theorem YY:Aj Tryz.prog A6 Tryz.f137=some JP:=by kernel_rfl
theorem YZ:Aj Tryz.prog A6 Tryz.f138=some JQ:=by kernel_rfl
theorem Y0:Aj Tryz.prog A6 Tryz.f139=some JR:=by kernel_rfl
theorem Y1:Aj Tryz.prog A6 Tryz.f140=some JS:=by kernel_rfl
theorem Y2:Aj Tryz.prog A6 Tryz.f141=some JT:=by kernel_rfl
theorem Y3:Aj Tryz.prog A6 Tryz.f142=some JU:=by kernel_rfl
theorem Y4:Aj Tryz.prog A6 Tryz.f143=some JV:=by kernel_rfl
theorem Y5:Aj Tryz.prog A6 Tryz.f144=some JW:=by kernel_rfl
theorem Y6:Aj Tryz.prog A6 Tryz.f145=some JX:=by kernel_rfl
theorem Y7:Aj Tryz.prog A6 Tryz.f146=some JY:=by kernel_rfl
theorem Y8:Aj Tryz.prog A6 Tryz.f147=some JZ:=by kernel_rfl
theorem Y9:Aj Tryz.prog A6 Tryz.f148=some J0:=by kernel_rfl
theorem Za:Aj Tryz.prog A6 Tryz.f149=some J1:=by kernel_rfl
theorem Zb:Aj Tryz.prog A6 Tryz.f150=some J2:=by kernel_rfl
theorem Zc:Aj Tryz.prog A6 Tryz.f151=some J3:=by kernel_rfl
theorem Zd:Aj Tryz.prog A6 Tryz.f169=some J4:=by kernel_rfl
theorem Ze:Aj Tryz.prog A6 Tryz.f170=some J5:=by kernel_rfl
theorem Zf:Aj Tryz.prog A6 Tryz.f171=some J6:=by kernel_rfl
theorem Zg:Aj Tryz.prog A6 Tryz.f172=some J7:=by kernel_rfl
theorem Zh:Aj Tryz.prog A6 Tryz.f177=some J8:=by kernel_rfl
theorem Zi:Aj Tryz.prog A6 Tryz.f178=some J9:=by kernel_rfl
theorem Zj:Aj Tryz.prog A6 Tryz.f179=some Ka:=by kernel_rfl
theorem Zk:Aj Tryz.prog A6 Tryz.f180=some Kb:=by kernel_rfl
theorem Zl:Aj Tryz.prog A6 Tryz.f181=some Kc:=by kernel_rfl
theorem Zm:Aj Tryz.prog A6 Tryz.f182=some Kd:=by kernel_rfl
theorem Zn:Aj Tryz.prog A6 Tryz.f183=some Ke:=by kernel_rfl
theorem aSx:aCE Tryz.prog A6 tp:=by
 intro f tf h
 have h':aFM f=some tf:=h
 clear h
 unfold aFM at h'
 split at h'
 ·cases h';exact ⟨Tryz.f5,Tryz.func5,aFC⟩
 ·cases h';exact ⟨Tryz.f10,Tryz.func10,aFD⟩
 ·cases h';exact ⟨Tryz.f11,Tryz.func11,aFE⟩
 ·cases h';exact ⟨Tryz.f12,Tryz.func12,aFF⟩
 ·cases h';exact ⟨Tryz.f13,Tryz.func13,aFG⟩
 ·cases h';exact ⟨Tryz.f14,Tryz.func14,aFH⟩
 ·cases h';exact ⟨Tryz.f15,Tryz.func15,aFI⟩
 ·cases h';exact ⟨Tryz.f16,Tryz.func16,aFJ⟩
 ·cases h';exact ⟨Tryz.f17,Tryz.func17,aFK⟩
 ·cases h';exact ⟨Tryz.f18,Tryz.func18,aFL⟩
 ·cases h';exact ⟨Tryz.f22,Tryz.func22,jR⟩
 ·cases h';exact ⟨Tryz.f23,Tryz.func23,jS⟩
 ·cases h';exact ⟨Tryz.f24,Tryz.func24,jT⟩
 ·cases h';exact ⟨Tryz.f25,Tryz.func25,jU⟩
 ·cases h';exact ⟨Tryz.f26,Tryz.func26,jV⟩
 ·cases h';exact ⟨Tryz.f27,Tryz.func27,jW⟩
 ·cases h';exact ⟨Tryz.f28,Tryz.func28,jX⟩
 ·cases h';exact ⟨Tryz.f29,Tryz.func29,jY⟩
 ·cases h';exact ⟨Tryz.f30,Tryz.func30,jZ⟩
 ·cases h';exact ⟨Tryz.f31,Tryz.func31,kB⟩
 ·cases h';exact ⟨Tryz.f32,Tryz.func32,kC⟩
 ·cases h';exact ⟨Tryz.f33,Tryz.func33,kD⟩
 ·cases h';exact ⟨Tryz.f34,Tryz.func34,kE⟩
 ·cases h';exact ⟨Tryz.f35,Tryz.func35,kF⟩
 ·cases h';exact ⟨Tryz.f36,Tryz.func36,kG⟩
 ·cases h';exact ⟨Tryz.f37,Tryz.func37,kH⟩
 ·cases h';exact ⟨Tryz.f38,Tryz.func38,kI⟩
 ·cases h';exact ⟨Tryz.f39,Tryz.func39,kJ⟩
 ·cases h';exact ⟨Tryz.f40,Tryz.func40,kK⟩
 ·cases h';exact ⟨Tryz.f41,Tryz.func41,kL⟩
 ·cases h';exact ⟨Tryz.f42,Tryz.func42,kM⟩
 ·cases h';exact ⟨Tryz.f43,Tryz.func43,kN⟩
 ·cases h';exact ⟨Tryz.f51,Tryz.func51,kO⟩
 ·cases h';exact ⟨Tryz.f52,Tryz.func52,kQ⟩
 ·cases h';exact ⟨Tryz.f53,Tryz.func53,kR⟩
 ·cases h';exact ⟨Tryz.f54,Tryz.func54,kS⟩
 ·cases h';exact ⟨Tryz.f55,Tryz.func55,kT⟩
 ·cases h';exact ⟨Tryz.f56,Tryz.func56,kU⟩
 ·cases h';exact ⟨Tryz.f57,Tryz.func57,kV⟩
 ·cases h';exact ⟨Tryz.f58,Tryz.func58,kW⟩
 ·cases h';exact ⟨Tryz.f59,Tryz.func59,kX⟩
 ·cases h';exact ⟨Tryz.f60,Tryz.func60,kY⟩
 ·cases h';exact ⟨Tryz.f61,Tryz.func61,kZ⟩
 ·cases h';exact ⟨Tryz.f62,Tryz.func62,lA⟩
 ·cases h';exact ⟨Tryz.f63,Tryz.func63,lB⟩
 ·cases h';exact ⟨Tryz.f64,Tryz.func64,lC⟩
 ·cases h';exact ⟨Tryz.f65,Tryz.func65,lD⟩
 ·cases h';exact ⟨Tryz.f66,Tryz.func66,lE⟩
 ·cases h';exact ⟨Tryz.f67,Tryz.func67,lF⟩
 ·cases h';exact ⟨Tryz.f68,Tryz.func68,lG⟩
 ·cases h';exact ⟨Tryz.f69,Tryz.func69,lH⟩
 ·cases h';exact ⟨Tryz.f70,Tryz.func70,lI⟩
 ·cases h';exact ⟨Tryz.f71,Tryz.func71,lJ⟩
 ·cases h';exact ⟨Tryz.f72,Tryz.func72,lK⟩
 ·cases h';exact ⟨Tryz.f73,Tryz.func73,lL⟩
 ·cases h';exact ⟨Tryz.f74,Tryz.func74,lM⟩
 ·cases h';exact ⟨Tryz.f75,Tryz.func75,lN⟩
 ·cases h';exact ⟨Tryz.f76,Tryz.func76,lO⟩
 ·cases h';exact ⟨Tryz.f77,Tryz.func77,lP⟩
 ·cases h';exact ⟨Tryz.f78,Tryz.func78,lQ⟩
 ·cases h';exact ⟨Tryz.f86,Tryz.func86,lR⟩
 ·cases h';exact ⟨Tryz.f87,Tryz.func87,lS⟩
 ·cases h';exact ⟨Tryz.f88,Tryz.func88,lT⟩
 ·cases h';exact ⟨Tryz.f89,Tryz.func89,lU⟩
 ·cases h';exact ⟨Tryz.f90,Tryz.func90,lV⟩
 ·cases h';exact ⟨Tryz.f91,Tryz.func91,lW⟩
 ·cases h';exact ⟨Tryz.f92,Tryz.func92,lX⟩
 ·cases h';exact ⟨Tryz.f93,Tryz.func93,lY⟩
 ·cases h';exact ⟨Tryz.f94,Tryz.func94,lZ⟩
 ·cases h';exact ⟨Tryz.f95,Tryz.func95,mA⟩
 ·cases h';exact ⟨Tryz.f96,Tryz.func96,mB⟩
 ·cases h';exact ⟨Tryz.f97,Tryz.func97,mC⟩
 ·cases h';exact ⟨Tryz.f98,Tryz.func98,mD⟩
 ·cases h';exact ⟨Tryz.f99,Tryz.func99,mE⟩
 ·cases h';exact ⟨Tryz.f100,Tryz.func100,mF⟩
 ·cases h';exact ⟨Tryz.f101,Tryz.func101,mG⟩
 ·cases h';exact ⟨Tryz.f102,Tryz.func102,mH⟩
 ·cases h';exact ⟨Tryz.f103,Tryz.func103,mI⟩
 ·cases h';exact ⟨Tryz.f107,Tryz.func107,mJ⟩
 ·cases h';exact ⟨Tryz.f108,Tryz.func108,mK⟩
 ·cases h';exact ⟨Tryz.f109,Tryz.func109,mL⟩
 ·cases h';exact ⟨Tryz.f110,Tryz.func110,mM⟩
 ·cases h';exact ⟨Tryz.f111,Tryz.func111,mN⟩
 ·cases h';exact ⟨Tryz.f112,Tryz.func112,mO⟩
 ·cases h';exact ⟨Tryz.f113,Tryz.func113,mP⟩
 ·cases h';exact ⟨Tryz.f114,Tryz.func114,mQ⟩
 ·cases h';exact ⟨Tryz.f115,Tryz.func115,mR⟩
 ·cases h';exact ⟨Tryz.f116,Tryz.func116,mS⟩
 ·cases h';exact ⟨Tryz.f117,Tryz.func117,mT⟩
 ·cases h';exact ⟨Tryz.f118,Tryz.func118,mU⟩
 ·cases h';exact ⟨Tryz.f119,Tryz.func119,mV⟩
 ·cases h';exact ⟨Tryz.f120,Tryz.func120,mW⟩
 ·cases h';exact ⟨Tryz.f123,Tryz.func123,mX⟩
 ·cases h';exact ⟨Tryz.f124,Tryz.func124,mY⟩
 ·cases h';exact ⟨Tryz.f125,Tryz.func125,mZ⟩
 ·cases h';exact ⟨Tryz.f126,Tryz.func126,nA⟩
 ·cases h';exact ⟨Tryz.f127,Tryz.func127,nB⟩
 ·cases h';exact ⟨Tryz.f128,Tryz.func128,nC⟩
 ·cases h';exact ⟨Tryz.f129,Tryz.func129,nD⟩
 ·cases h';exact ⟨Tryz.f130,Tryz.func130,nE⟩
 ·cases h';exact ⟨Tryz.f131,Tryz.func131,YS⟩
 ·cases h';exact ⟨Tryz.f132,Tryz.func132,YT⟩
 ·cases h';exact ⟨Tryz.f133,Tryz.func133,YU⟩
 ·cases h';exact ⟨Tryz.f134,Tryz.func134,YV⟩
 ·cases h';exact ⟨Tryz.f135,Tryz.func135,YW⟩
 ·cases h';exact ⟨Tryz.f136,Tryz.func136,YX⟩
 ·cases h';exact ⟨Tryz.f137,Tryz.func137,YY⟩
 ·cases h';exact ⟨Tryz.f138,Tryz.func138,YZ⟩
 ·cases h';exact ⟨Tryz.f139,Tryz.func139,Y0⟩
 ·cases h';exact ⟨Tryz.f140,Tryz.func140,Y1⟩
 ·cases h';exact ⟨Tryz.f141,Tryz.func141,Y2⟩
 ·cases h';exact ⟨Tryz.f142,Tryz.func142,Y3⟩
 ·cases h';exact ⟨Tryz.f143,Tryz.func143,Y4⟩
 ·cases h';exact ⟨Tryz.f144,Tryz.func144,Y5⟩
 ·cases h';exact ⟨Tryz.f145,Tryz.func145,Y6⟩
 ·cases h';exact ⟨Tryz.f146,Tryz.func146,Y7⟩
 ·cases h';exact ⟨Tryz.f147,Tryz.func147,Y8⟩
 ·cases h';exact ⟨Tryz.f148,Tryz.func148,Y9⟩
 ·cases h';exact ⟨Tryz.f149,Tryz.func149,Za⟩
 ·cases h';exact ⟨Tryz.f150,Tryz.func150,Zb⟩
 ·cases h';exact ⟨Tryz.f151,Tryz.func151,Zc⟩
 ·cases h';exact ⟨Tryz.f169,Tryz.func169,Zd⟩
 ·cases h';exact ⟨Tryz.f170,Tryz.func170,Ze⟩
 ·cases h';exact ⟨Tryz.f171,Tryz.func171,Zf⟩
 ·cases h';exact ⟨Tryz.f172,Tryz.func172,Zg⟩
 ·cases h';exact ⟨Tryz.f177,Tryz.func177,Zh⟩
 ·cases h';exact ⟨Tryz.f178,Tryz.func178,Zi⟩
 ·cases h';exact ⟨Tryz.f179,Tryz.func179,Zj⟩
 ·cases h';exact ⟨Tryz.f180,Tryz.func180,Zk⟩
 ·cases h';exact ⟨Tryz.f181,Tryz.func181,Zl⟩
 ·cases h';exact ⟨Tryz.f182,Tryz.func182,Zm⟩
 ·cases h';exact ⟨Tryz.f183,Tryz.func183,Zn⟩
 ·cases h'
theorem gX:BG Tryz.prog tp:=by
 intro t m q h
 have h':QK t m=some q:=h
 clear h
 unfold QK at h'
 split at h'
 ·cases h';show _=true;kernel_rfl
 ·cases h';show _=true;kernel_rfl
 ·cases h';show _=true;kernel_rfl
 ·cases h';show _=true;kernel_rfl
 ·cases h';show _=true;kernel_rfl
 ·cases h';show _=true;kernel_rfl
 ·cases h';show _=true;kernel_rfl
 ·cases h';show _=true;kernel_rfl
 ·cases h';show _=true;kernel_rfl
 ·cases h'
end Go.Ab.T
