/- Part of a proof that a law returns true for every input of the second form's bound (no other condition). -/
import Derived.Test.YtlcknhidblndnaaGreatChecked
import Derived.Test.YtlcknhidblndnaaGreatPE
import Derived.Test.YtlcknhidblndnaaGreatPC
set_option linter.all false
/- The abstract machine's text is the program's. Written by a tool. -/
namespace Go.Ab.T
open Go Go.Ab Go.Proofs
def A6:Wr:=fun f=>wrs.contains f
theorem aEZ:Aj Tryz.prog A6 Tryz.f8=some Yz:=by kernel_rfl
theorem aE0:Aj Tryz.prog A6 Tryz.f10=some YA:=by kernel_rfl
theorem aE1:Aj Tryz.prog A6 Tryz.f12=some YB:=by kernel_rfl
theorem aE2:Aj Tryz.prog A6 Tryz.f13=some L2:=by kernel_rfl
theorem aE3:Aj Tryz.prog A6 Tryz.f14=some Qx:=by kernel_rfl
theorem aE4:Aj Tryz.prog A6 Tryz.f15=some Qy:=by kernel_rfl
theorem aE5:Aj Tryz.prog A6 Tryz.f16=some Qz:=by kernel_rfl
theorem aE6:Aj Tryz.prog A6 Tryz.f17=some YC:=by kernel_rfl
theorem aE7:Aj Tryz.prog A6 Tryz.f18=some YD:=by kernel_rfl
theorem aE8:Aj Tryz.prog A6 Tryz.f21=some YE:=by kernel_rfl
theorem jF:Aj Tryz.prog A6 Tryz.f22=some Ns:=by kernel_rfl
theorem jG:Aj Tryz.prog A6 Tryz.f23=some Nt:=by kernel_rfl
theorem jH:Aj Tryz.prog A6 Tryz.f24=some Nu:=by kernel_rfl
theorem jI:Aj Tryz.prog A6 Tryz.f25=some Nv:=by kernel_rfl
theorem jJ:Aj Tryz.prog A6 Tryz.f27=some Nw:=by kernel_rfl
theorem jK:Aj Tryz.prog A6 Tryz.f28=some J8:=by kernel_rfl
theorem jL:Aj Tryz.prog A6 Tryz.f29=some Nx:=by kernel_rfl
theorem jM:Aj Tryz.prog A6 Tryz.f30=some Ny:=by kernel_rfl
theorem jN:Aj Tryz.prog A6 Tryz.f31=some Nz:=by kernel_rfl
theorem jO:Aj Tryz.prog A6 Tryz.f32=some NA:=by kernel_rfl
theorem jQ:Aj Tryz.prog A6 Tryz.f33=some NB:=by kernel_rfl
theorem jR:Aj Tryz.prog A6 Tryz.f34=some NC:=by kernel_rfl
theorem jS:Aj Tryz.prog A6 Tryz.f35=some ND:=by kernel_rfl
theorem jT:Aj Tryz.prog A6 Tryz.f36=some NE:=by kernel_rfl
theorem jU:Aj Tryz.prog A6 Tryz.f37=some Ci:=by kernel_rfl
theorem jV:Aj Tryz.prog A6 Tryz.f38=some NF:=by kernel_rfl
theorem jW:Aj Tryz.prog A6 Tryz.f39=some NG:=by kernel_rfl
theorem jX:Aj Tryz.prog A6 Tryz.f40=some NH:=by kernel_rfl
theorem jY:Aj Tryz.prog A6 Tryz.f41=some NI:=by kernel_rfl
theorem jZ:Aj Tryz.prog A6 Tryz.f42=some NJ:=by kernel_rfl
theorem kB:Aj Tryz.prog A6 Tryz.f43=some NK:=by kernel_rfl
theorem kC:Aj Tryz.prog A6 Tryz.f51=some J9:=by kernel_rfl
theorem kD:Aj Tryz.prog A6 Tryz.f52=some NL:=by kernel_rfl
theorem kE:Aj Tryz.prog A6 Tryz.f53=some NM:=by kernel_rfl
theorem kF:Aj Tryz.prog A6 Tryz.f54=some NN:=by kernel_rfl
theorem kG:Aj Tryz.prog A6 Tryz.f55=some NO:=by kernel_rfl
theorem kH:Aj Tryz.prog A6 Tryz.f56=some NP:=by kernel_rfl
theorem kI:Aj Tryz.prog A6 Tryz.f57=some NQ:=by kernel_rfl
theorem kJ:Aj Tryz.prog A6 Tryz.f58=some Ka:=by kernel_rfl
theorem kK:Aj Tryz.prog A6 Tryz.f59=some Kb:=by kernel_rfl
theorem kL:Aj Tryz.prog A6 Tryz.f60=some NR:=by kernel_rfl
theorem kM:Aj Tryz.prog A6 Tryz.f61=some NS:=by kernel_rfl
theorem kN:Aj Tryz.prog A6 Tryz.f62=some Kc:=by kernel_rfl
theorem kO:Aj Tryz.prog A6 Tryz.f63=some Kd:=by kernel_rfl
theorem kQ:Aj Tryz.prog A6 Tryz.f64=some NT:=by kernel_rfl
theorem kR:Aj Tryz.prog A6 Tryz.f65=some NU:=by kernel_rfl
theorem kS:Aj Tryz.prog A6 Tryz.f66=some NV:=by kernel_rfl
theorem kT:Aj Tryz.prog A6 Tryz.f67=some NW:=by kernel_rfl
theorem kU:Aj Tryz.prog A6 Tryz.f68=some NX:=by kernel_rfl
theorem kV:Aj Tryz.prog A6 Tryz.f69=some Ke:=by kernel_rfl
theorem kW:Aj Tryz.prog A6 Tryz.f70=some Cj:=by kernel_rfl
theorem kX:Aj Tryz.prog A6 Tryz.f71=some GZ:=by kernel_rfl
theorem kY:Aj Tryz.prog A6 Tryz.f72=some NY:=by kernel_rfl
theorem kZ:Aj Tryz.prog A6 Tryz.f73=some NZ:=by kernel_rfl
theorem lA:Aj Tryz.prog A6 Tryz.f74=some N0:=by kernel_rfl
theorem lB:Aj Tryz.prog A6 Tryz.f75=some Fy:=by kernel_rfl
theorem lC:Aj Tryz.prog A6 Tryz.f76=some N1:=by kernel_rfl
theorem lD:Aj Tryz.prog A6 Tryz.f77=some N2:=by kernel_rfl
theorem lE:Aj Tryz.prog A6 Tryz.f78=some N7:=by kernel_rfl
theorem lF:Aj Tryz.prog A6 Tryz.f86=some N8:=by kernel_rfl
theorem lG:Aj Tryz.prog A6 Tryz.f87=some N9:=by kernel_rfl
theorem lH:Aj Tryz.prog A6 Tryz.f88=some Oa:=by kernel_rfl
theorem lI:Aj Tryz.prog A6 Tryz.f89=some Ob:=by kernel_rfl
theorem lJ:Aj Tryz.prog A6 Tryz.f90=some Oc:=by kernel_rfl
theorem lK:Aj Tryz.prog A6 Tryz.f91=some Od:=by kernel_rfl
theorem lL:Aj Tryz.prog A6 Tryz.f92=some Oe:=by kernel_rfl
theorem lM:Aj Tryz.prog A6 Tryz.f93=some Og:=by kernel_rfl
theorem lN:Aj Tryz.prog A6 Tryz.f94=some Oh:=by kernel_rfl
theorem lO:Aj Tryz.prog A6 Tryz.f95=some Oi:=by kernel_rfl
theorem lP:Aj Tryz.prog A6 Tryz.f96=some Oj:=by kernel_rfl
theorem lQ:Aj Tryz.prog A6 Tryz.f97=some Ol:=by kernel_rfl
theorem lR:Aj Tryz.prog A6 Tryz.f98=some Kf:=by kernel_rfl
theorem lS:Aj Tryz.prog A6 Tryz.f99=some G2:=by kernel_rfl
theorem lT:Aj Tryz.prog A6 Tryz.f100=some Om:=by kernel_rfl
theorem lU:Aj Tryz.prog A6 Tryz.f101=some FA:=by kernel_rfl
theorem lV:Aj Tryz.prog A6 Tryz.f102=some Dx:=by kernel_rfl
theorem lW:Aj Tryz.prog A6 Tryz.f103=some G3:=by kernel_rfl
theorem lX:Aj Tryz.prog A6 Tryz.f107=some Oo:=by kernel_rfl
theorem lY:Aj Tryz.prog A6 Tryz.f108=some Oq:=by kernel_rfl
theorem lZ:Aj Tryz.prog A6 Tryz.f109=some G4:=by kernel_rfl
theorem mA:Aj Tryz.prog A6 Tryz.f110=some Ot:=by kernel_rfl
theorem mB:Aj Tryz.prog A6 Tryz.f111=some Ou:=by kernel_rfl
theorem mC:Aj Tryz.prog A6 Tryz.f112=some Ov:=by kernel_rfl
theorem mD:Aj Tryz.prog A6 Tryz.f113=some Ow:=by kernel_rfl
theorem mE:Aj Tryz.prog A6 Tryz.f114=some Ox:=by kernel_rfl
theorem mF:Aj Tryz.prog A6 Tryz.f115=some Oy:=by kernel_rfl
theorem mG:Aj Tryz.prog A6 Tryz.f116=some Oz:=by kernel_rfl
theorem mH:Aj Tryz.prog A6 Tryz.f117=some OA:=by kernel_rfl
theorem mI:Aj Tryz.prog A6 Tryz.f118=some OB:=by kernel_rfl
theorem mJ:Aj Tryz.prog A6 Tryz.f119=some OC:=by kernel_rfl
theorem mK:Aj Tryz.prog A6 Tryz.f120=some OD:=by kernel_rfl
theorem mL:Aj Tryz.prog A6 Tryz.f123=some OE:=by kernel_rfl
theorem mM:Aj Tryz.prog A6 Tryz.f124=some OF:=by kernel_rfl
theorem mN:Aj Tryz.prog A6 Tryz.f125=some OG:=by kernel_rfl
theorem mO:Aj Tryz.prog A6 Tryz.f126=some OH:=by kernel_rfl
theorem mP:Aj Tryz.prog A6 Tryz.f127=some OI:=by kernel_rfl
theorem mQ:Aj Tryz.prog A6 Tryz.f128=some OJ:=by kernel_rfl
theorem mR:Aj Tryz.prog A6 Tryz.f129=some Kg:=by kernel_rfl
theorem mS:Aj Tryz.prog A6 Tryz.f130=some OK:=by kernel_rfl
theorem mT:Aj Tryz.prog A6 Tryz.f131=some OL:=by kernel_rfl
theorem YJ:Aj Tryz.prog A6 Tryz.f132=some JD:=by kernel_rfl
theorem YK:Aj Tryz.prog A6 Tryz.f133=some JE:=by kernel_rfl
theorem YL:Aj Tryz.prog A6 Tryz.f134=some JF:=by kernel_rfl
theorem YM:Aj Tryz.prog A6 Tryz.f135=some JG:=by kernel_rfl
theorem YN:Aj Tryz.prog A6 Tryz.f136=some JH:=by kernel_rfl
theorem YO:Aj Tryz.prog A6 Tryz.f137=some JI:=by kernel_rfl
theorem YP:Aj Tryz.prog A6 Tryz.f138=some JJ:=by kernel_rfl
theorem YQ:Aj Tryz.prog A6 Tryz.f139=some JK:=by kernel_rfl
theorem YR:Aj Tryz.prog A6 Tryz.f140=some JL:=by kernel_rfl
theorem YS:Aj Tryz.prog A6 Tryz.f141=some JM:=by kernel_rfl
theorem YT:Aj Tryz.prog A6 Tryz.f142=some JN:=by kernel_rfl
theorem YU:Aj Tryz.prog A6 Tryz.f143=some JO:=by kernel_rfl
theorem YV:Aj Tryz.prog A6 Tryz.f144=some JP:=by kernel_rfl
theorem YW:Aj Tryz.prog A6 Tryz.f145=some JQ:=by kernel_rfl
theorem YX:Aj Tryz.prog A6 Tryz.f146=some JR:=by kernel_rfl
theorem YY:Aj Tryz.prog A6 Tryz.f147=some JS:=by kernel_rfl
theorem YZ:Aj Tryz.prog A6 Tryz.f148=some JT:=by kernel_rfl
theorem Y0:Aj Tryz.prog A6 Tryz.f149=some JU:=by kernel_rfl
theorem Y1:Aj Tryz.prog A6 Tryz.f150=some JV:=by kernel_rfl
theorem Y2:Aj Tryz.prog A6 Tryz.f151=some JW:=by kernel_rfl
theorem Y3:Aj Tryz.prog A6 Tryz.f169=some JX:=by kernel_rfl
theorem Y4:Aj Tryz.prog A6 Tryz.f170=some JY:=by kernel_rfl
theorem Y5:Aj Tryz.prog A6 Tryz.f171=some JZ:=by kernel_rfl
theorem Y6:Aj Tryz.prog A6 Tryz.f172=some J0:=by kernel_rfl
theorem Y7:Aj Tryz.prog A6 Tryz.f177=some J1:=by kernel_rfl
theorem Y8:Aj Tryz.prog A6 Tryz.f178=some J2:=by kernel_rfl
theorem Y9:Aj Tryz.prog A6 Tryz.f179=some J3:=by kernel_rfl
theorem Za:Aj Tryz.prog A6 Tryz.f180=some J4:=by kernel_rfl
theorem Zb:Aj Tryz.prog A6 Tryz.f181=some J5:=by kernel_rfl
theorem Zc:Aj Tryz.prog A6 Tryz.f182=some J6:=by kernel_rfl
theorem Zd:Aj Tryz.prog A6 Tryz.f183=some J7:=by kernel_rfl
theorem aRN:aB0 Tryz.prog A6 tp:=by
 intro f tf h
 have h':aE9 f=some tf:=h
 clear h
 unfold aE9 at h'
 split at h'
 ·cases h';exact ⟨Tryz.f8,Tryz.func8,aEZ⟩
 ·cases h';exact ⟨Tryz.f10,Tryz.func10,aE0⟩
 ·cases h';exact ⟨Tryz.f12,Tryz.func12,aE1⟩
 ·cases h';exact ⟨Tryz.f13,Tryz.func13,aE2⟩
 ·cases h';exact ⟨Tryz.f14,Tryz.func14,aE3⟩
 ·cases h';exact ⟨Tryz.f15,Tryz.func15,aE4⟩
 ·cases h';exact ⟨Tryz.f16,Tryz.func16,aE5⟩
 ·cases h';exact ⟨Tryz.f17,Tryz.func17,aE6⟩
 ·cases h';exact ⟨Tryz.f18,Tryz.func18,aE7⟩
 ·cases h';exact ⟨Tryz.f21,Tryz.func21,aE8⟩
 ·cases h';exact ⟨Tryz.f22,Tryz.func22,jF⟩
 ·cases h';exact ⟨Tryz.f23,Tryz.func23,jG⟩
 ·cases h';exact ⟨Tryz.f24,Tryz.func24,jH⟩
 ·cases h';exact ⟨Tryz.f25,Tryz.func25,jI⟩
 ·cases h';exact ⟨Tryz.f27,Tryz.func27,jJ⟩
 ·cases h';exact ⟨Tryz.f28,Tryz.func28,jK⟩
 ·cases h';exact ⟨Tryz.f29,Tryz.func29,jL⟩
 ·cases h';exact ⟨Tryz.f30,Tryz.func30,jM⟩
 ·cases h';exact ⟨Tryz.f31,Tryz.func31,jN⟩
 ·cases h';exact ⟨Tryz.f32,Tryz.func32,jO⟩
 ·cases h';exact ⟨Tryz.f33,Tryz.func33,jQ⟩
 ·cases h';exact ⟨Tryz.f34,Tryz.func34,jR⟩
 ·cases h';exact ⟨Tryz.f35,Tryz.func35,jS⟩
 ·cases h';exact ⟨Tryz.f36,Tryz.func36,jT⟩
 ·cases h';exact ⟨Tryz.f37,Tryz.func37,jU⟩
 ·cases h';exact ⟨Tryz.f38,Tryz.func38,jV⟩
 ·cases h';exact ⟨Tryz.f39,Tryz.func39,jW⟩
 ·cases h';exact ⟨Tryz.f40,Tryz.func40,jX⟩
 ·cases h';exact ⟨Tryz.f41,Tryz.func41,jY⟩
 ·cases h';exact ⟨Tryz.f42,Tryz.func42,jZ⟩
 ·cases h';exact ⟨Tryz.f43,Tryz.func43,kB⟩
 ·cases h';exact ⟨Tryz.f51,Tryz.func51,kC⟩
 ·cases h';exact ⟨Tryz.f52,Tryz.func52,kD⟩
 ·cases h';exact ⟨Tryz.f53,Tryz.func53,kE⟩
 ·cases h';exact ⟨Tryz.f54,Tryz.func54,kF⟩
 ·cases h';exact ⟨Tryz.f55,Tryz.func55,kG⟩
 ·cases h';exact ⟨Tryz.f56,Tryz.func56,kH⟩
 ·cases h';exact ⟨Tryz.f57,Tryz.func57,kI⟩
 ·cases h';exact ⟨Tryz.f58,Tryz.func58,kJ⟩
 ·cases h';exact ⟨Tryz.f59,Tryz.func59,kK⟩
 ·cases h';exact ⟨Tryz.f60,Tryz.func60,kL⟩
 ·cases h';exact ⟨Tryz.f61,Tryz.func61,kM⟩
 ·cases h';exact ⟨Tryz.f62,Tryz.func62,kN⟩
 ·cases h';exact ⟨Tryz.f63,Tryz.func63,kO⟩
 ·cases h';exact ⟨Tryz.f64,Tryz.func64,kQ⟩
 ·cases h';exact ⟨Tryz.f65,Tryz.func65,kR⟩
 ·cases h';exact ⟨Tryz.f66,Tryz.func66,kS⟩
 ·cases h';exact ⟨Tryz.f67,Tryz.func67,kT⟩
 ·cases h';exact ⟨Tryz.f68,Tryz.func68,kU⟩
 ·cases h';exact ⟨Tryz.f69,Tryz.func69,kV⟩
 ·cases h';exact ⟨Tryz.f70,Tryz.func70,kW⟩
 ·cases h';exact ⟨Tryz.f71,Tryz.func71,kX⟩
 ·cases h';exact ⟨Tryz.f72,Tryz.func72,kY⟩
 ·cases h';exact ⟨Tryz.f73,Tryz.func73,kZ⟩
 ·cases h';exact ⟨Tryz.f74,Tryz.func74,lA⟩
 ·cases h';exact ⟨Tryz.f75,Tryz.func75,lB⟩
 ·cases h';exact ⟨Tryz.f76,Tryz.func76,lC⟩
 ·cases h';exact ⟨Tryz.f77,Tryz.func77,lD⟩
 ·cases h';exact ⟨Tryz.f78,Tryz.func78,lE⟩
 ·cases h';exact ⟨Tryz.f86,Tryz.func86,lF⟩
 ·cases h';exact ⟨Tryz.f87,Tryz.func87,lG⟩
 ·cases h';exact ⟨Tryz.f88,Tryz.func88,lH⟩
 ·cases h';exact ⟨Tryz.f89,Tryz.func89,lI⟩
 ·cases h';exact ⟨Tryz.f90,Tryz.func90,lJ⟩
 ·cases h';exact ⟨Tryz.f91,Tryz.func91,lK⟩
 ·cases h';exact ⟨Tryz.f92,Tryz.func92,lL⟩
 ·cases h';exact ⟨Tryz.f93,Tryz.func93,lM⟩
 ·cases h';exact ⟨Tryz.f94,Tryz.func94,lN⟩
 ·cases h';exact ⟨Tryz.f95,Tryz.func95,lO⟩
 ·cases h';exact ⟨Tryz.f96,Tryz.func96,lP⟩
 ·cases h';exact ⟨Tryz.f97,Tryz.func97,lQ⟩
 ·cases h';exact ⟨Tryz.f98,Tryz.func98,lR⟩
 ·cases h';exact ⟨Tryz.f99,Tryz.func99,lS⟩
 ·cases h';exact ⟨Tryz.f100,Tryz.func100,lT⟩
 ·cases h';exact ⟨Tryz.f101,Tryz.func101,lU⟩
 ·cases h';exact ⟨Tryz.f102,Tryz.func102,lV⟩
 ·cases h';exact ⟨Tryz.f103,Tryz.func103,lW⟩
 ·cases h';exact ⟨Tryz.f107,Tryz.func107,lX⟩
 ·cases h';exact ⟨Tryz.f108,Tryz.func108,lY⟩
 ·cases h';exact ⟨Tryz.f109,Tryz.func109,lZ⟩
 ·cases h';exact ⟨Tryz.f110,Tryz.func110,mA⟩
 ·cases h';exact ⟨Tryz.f111,Tryz.func111,mB⟩
 ·cases h';exact ⟨Tryz.f112,Tryz.func112,mC⟩
 ·cases h';exact ⟨Tryz.f113,Tryz.func113,mD⟩
 ·cases h';exact ⟨Tryz.f114,Tryz.func114,mE⟩
 ·cases h';exact ⟨Tryz.f115,Tryz.func115,mF⟩
 ·cases h';exact ⟨Tryz.f116,Tryz.func116,mG⟩
 ·cases h';exact ⟨Tryz.f117,Tryz.func117,mH⟩
 ·cases h';exact ⟨Tryz.f118,Tryz.func118,mI⟩
 ·cases h';exact ⟨Tryz.f119,Tryz.func119,mJ⟩
 ·cases h';exact ⟨Tryz.f120,Tryz.func120,mK⟩
 ·cases h';exact ⟨Tryz.f123,Tryz.func123,mL⟩
 ·cases h';exact ⟨Tryz.f124,Tryz.func124,mM⟩
 ·cases h';exact ⟨Tryz.f125,Tryz.func125,mN⟩
 ·cases h';exact ⟨Tryz.f126,Tryz.func126,mO⟩
 ·cases h';exact ⟨Tryz.f127,Tryz.func127,mP⟩
 ·cases h';exact ⟨Tryz.f128,Tryz.func128,mQ⟩
 ·cases h';exact ⟨Tryz.f129,Tryz.func129,mR⟩
 ·cases h';exact ⟨Tryz.f130,Tryz.func130,mS⟩
 ·cases h';exact ⟨Tryz.f131,Tryz.func131,mT⟩
 ·cases h';exact ⟨Tryz.f132,Tryz.func132,YJ⟩
 ·cases h';exact ⟨Tryz.f133,Tryz.func133,YK⟩
 ·cases h';exact ⟨Tryz.f134,Tryz.func134,YL⟩
 ·cases h';exact ⟨Tryz.f135,Tryz.func135,YM⟩
 ·cases h';exact ⟨Tryz.f136,Tryz.func136,YN⟩
 ·cases h';exact ⟨Tryz.f137,Tryz.func137,YO⟩
 ·cases h';exact ⟨Tryz.f138,Tryz.func138,YP⟩
 ·cases h';exact ⟨Tryz.f139,Tryz.func139,YQ⟩
 ·cases h';exact ⟨Tryz.f140,Tryz.func140,YR⟩
 ·cases h';exact ⟨Tryz.f141,Tryz.func141,YS⟩
 ·cases h';exact ⟨Tryz.f142,Tryz.func142,YT⟩
 ·cases h';exact ⟨Tryz.f143,Tryz.func143,YU⟩
 ·cases h';exact ⟨Tryz.f144,Tryz.func144,YV⟩
 ·cases h';exact ⟨Tryz.f145,Tryz.func145,YW⟩
 ·cases h';exact ⟨Tryz.f146,Tryz.func146,YX⟩
 ·cases h';exact ⟨Tryz.f147,Tryz.func147,YY⟩
 ·cases h';exact ⟨Tryz.f148,Tryz.func148,YZ⟩
 ·cases h';exact ⟨Tryz.f149,Tryz.func149,Y0⟩
 ·cases h';exact ⟨Tryz.f150,Tryz.func150,Y1⟩
 ·cases h';exact ⟨Tryz.f151,Tryz.func151,Y2⟩
 ·cases h';exact ⟨Tryz.f169,Tryz.func169,Y3⟩
 ·cases h';exact ⟨Tryz.f170,Tryz.func170,Y4⟩
 ·cases h';exact ⟨Tryz.f171,Tryz.func171,Y5⟩
 ·cases h';exact ⟨Tryz.f172,Tryz.func172,Y6⟩
 ·cases h';exact ⟨Tryz.f177,Tryz.func177,Y7⟩
 ·cases h';exact ⟨Tryz.f178,Tryz.func178,Y8⟩
 ·cases h';exact ⟨Tryz.f179,Tryz.func179,Y9⟩
 ·cases h';exact ⟨Tryz.f180,Tryz.func180,Za⟩
 ·cases h';exact ⟨Tryz.f181,Tryz.func181,Zb⟩
 ·cases h';exact ⟨Tryz.f182,Tryz.func182,Zc⟩
 ·cases h';exact ⟨Tryz.f183,Tryz.func183,Zd⟩
 ·cases h'
theorem gK:BG Tryz.prog tp:=by
 intro t m q h
 have h':QB t m=some q:=h
 clear h
 unfold QB at h'
 split at h'
 ·cases h';show _=true;kernel_rfl
 ·cases h';show _=true;kernel_rfl
 ·cases h';show _=true;kernel_rfl
 ·cases h';show _=true;kernel_rfl
 ·cases h';show _=true;kernel_rfl
 ·cases h';show _=true;kernel_rfl
 ·cases h';show _=true;kernel_rfl
 ·cases h';show _=true;kernel_rfl
 ·cases h';show _=true;kernel_rfl
 ·cases h'
end Go.Ab.T
