/- Part of a proof that a law returns true for every input of the second form's bound (no other condition). -/
import Derived.Test.YtcjjajphbamjlaaGreatChecked
import Derived.Test.YtcjjajphbamjlaaGreatPE
import Derived.Test.YtcjjajphbamjlaaGreatPC
set_option linter.all false
/- The abstract machine's text is the program's. Written by a tool. -/
namespace Go.Ab.T
open Go Go.Ab Go.Proofs
def Bo:Wr:=fun f=>wrs.contains f
theorem aHH:Ap Tryz.prog Bo Tryz.f8=some Z8:=by kernel_rfl
theorem aHI:Ap Tryz.prog Bo Tryz.f12=some Z9:=by kernel_rfl
theorem aHJ:Ap Tryz.prog Bo Tryz.f14=some aA:=by kernel_rfl
theorem aHK:Ap Tryz.prog Bo Tryz.f15=some aB:=by kernel_rfl
theorem aHL:Ap Tryz.prog Bo Tryz.f17=some aC:=by kernel_rfl
theorem aHM:Ap Tryz.prog Bo Tryz.f21=some aD:=by kernel_rfl
theorem aHN:Ap Tryz.prog Bo Tryz.f29=some RR:=by kernel_rfl
theorem aHO:Ap Tryz.prog Bo Tryz.f34=some aE:=by kernel_rfl
theorem aHP:Ap Tryz.prog Bo Tryz.f35=some RU:=by kernel_rfl
theorem aHQ:Ap Tryz.prog Bo Tryz.f36=some aF:=by kernel_rfl
theorem lX:Ap Tryz.prog Bo Tryz.f37=some Oe:=by kernel_rfl
theorem lY:Ap Tryz.prog Bo Tryz.f38=some Og:=by kernel_rfl
theorem lZ:Ap Tryz.prog Bo Tryz.f39=some Oh:=by kernel_rfl
theorem mA:Ap Tryz.prog Bo Tryz.f40=some Oi:=by kernel_rfl
theorem mB:Ap Tryz.prog Bo Tryz.f41=some Oj:=by kernel_rfl
theorem mC:Ap Tryz.prog Bo Tryz.f43=some Ok:=by kernel_rfl
theorem mD:Ap Tryz.prog Bo Tryz.f44=some Ol:=by kernel_rfl
theorem mE:Ap Tryz.prog Bo Tryz.f45=some Om:=by kernel_rfl
theorem mF:Ap Tryz.prog Bo Tryz.f46=some Oo:=by kernel_rfl
theorem mG:Ap Tryz.prog Bo Tryz.f47=some Oq:=by kernel_rfl
theorem mH:Ap Tryz.prog Bo Tryz.f48=some Ot:=by kernel_rfl
theorem mI:Ap Tryz.prog Bo Tryz.f49=some Ou:=by kernel_rfl
theorem mJ:Ap Tryz.prog Bo Tryz.f50=some Ov:=by kernel_rfl
theorem mK:Ap Tryz.prog Bo Tryz.f51=some Ow:=by kernel_rfl
theorem mL:Ap Tryz.prog Bo Tryz.f54=some Ox:=by kernel_rfl
theorem mM:Ap Tryz.prog Bo Tryz.f55=some Oy:=by kernel_rfl
theorem mN:Ap Tryz.prog Bo Tryz.f56=some Oz:=by kernel_rfl
theorem mO:Ap Tryz.prog Bo Tryz.f57=some OA:=by kernel_rfl
theorem mP:Ap Tryz.prog Bo Tryz.f58=some OB:=by kernel_rfl
theorem mQ:Ap Tryz.prog Bo Tryz.f59=some OC:=by kernel_rfl
theorem mR:Ap Tryz.prog Bo Tryz.f60=some OE:=by kernel_rfl
theorem mS:Ap Tryz.prog Bo Tryz.f61=some OF:=by kernel_rfl
theorem mT:Ap Tryz.prog Bo Tryz.f80=some OG:=by kernel_rfl
theorem mU:Ap Tryz.prog Bo Tryz.f81=some OH:=by kernel_rfl
theorem mV:Ap Tryz.prog Bo Tryz.f82=some OI:=by kernel_rfl
theorem mW:Ap Tryz.prog Bo Tryz.f83=some OJ:=by kernel_rfl
theorem mX:Ap Tryz.prog Bo Tryz.f84=some OK:=by kernel_rfl
theorem mY:Ap Tryz.prog Bo Tryz.f85=some OL:=by kernel_rfl
theorem mZ:Ap Tryz.prog Bo Tryz.f86=some OM:=by kernel_rfl
theorem nA:Ap Tryz.prog Bo Tryz.f87=some ON:=by kernel_rfl
theorem nB:Ap Tryz.prog Bo Tryz.f88=some OO:=by kernel_rfl
theorem nC:Ap Tryz.prog Bo Tryz.f89=some OP:=by kernel_rfl
theorem nD:Ap Tryz.prog Bo Tryz.f90=some OQ:=by kernel_rfl
theorem nE:Ap Tryz.prog Bo Tryz.f91=some OS:=by kernel_rfl
theorem nF:Ap Tryz.prog Bo Tryz.f92=some OT:=by kernel_rfl
theorem nG:Ap Tryz.prog Bo Tryz.f93=some OU:=by kernel_rfl
theorem nH:Ap Tryz.prog Bo Tryz.f94=some OV:=by kernel_rfl
theorem nJ:Ap Tryz.prog Bo Tryz.f95=some KP:=by kernel_rfl
theorem nK:Ap Tryz.prog Bo Tryz.f96=some OW:=by kernel_rfl
theorem nL:Ap Tryz.prog Bo Tryz.f97=some OX:=by kernel_rfl
theorem nM:Ap Tryz.prog Bo Tryz.f98=some OY:=by kernel_rfl
theorem nN:Ap Tryz.prog Bo Tryz.f107=some OZ:=by kernel_rfl
theorem nO:Ap Tryz.prog Bo Tryz.f108=some O0:=by kernel_rfl
theorem nP:Ap Tryz.prog Bo Tryz.f109=some O1:=by kernel_rfl
theorem nQ:Ap Tryz.prog Bo Tryz.f110=some O2:=by kernel_rfl
theorem nR:Ap Tryz.prog Bo Tryz.f111=some O3:=by kernel_rfl
theorem nS:Ap Tryz.prog Bo Tryz.f112=some H5:=by kernel_rfl
theorem nT:Ap Tryz.prog Bo Tryz.f113=some O4:=by kernel_rfl
theorem nU:Ap Tryz.prog Bo Tryz.f129=some O5:=by kernel_rfl
theorem nV:Ap Tryz.prog Bo Tryz.f130=some O6:=by kernel_rfl
theorem nW:Ap Tryz.prog Bo Tryz.f131=some O7:=by kernel_rfl
theorem nX:Ap Tryz.prog Bo Tryz.f132=some O8:=by kernel_rfl
theorem nY:Ap Tryz.prog Bo Tryz.f133=some O9:=by kernel_rfl
theorem nZ:Ap Tryz.prog Bo Tryz.f134=some Pa:=by kernel_rfl
theorem oA:Ap Tryz.prog Bo Tryz.f135=some Pb:=by kernel_rfl
theorem oB:Ap Tryz.prog Bo Tryz.f136=some Pc:=by kernel_rfl
theorem oC:Ap Tryz.prog Bo Tryz.f137=some Pd:=by kernel_rfl
theorem oD:Ap Tryz.prog Bo Tryz.f138=some Pe:=by kernel_rfl
theorem oE:Ap Tryz.prog Bo Tryz.f139=some Pg:=by kernel_rfl
theorem oF:Ap Tryz.prog Bo Tryz.f140=some Ph:=by kernel_rfl
theorem oG:Ap Tryz.prog Bo Tryz.f141=some Pi:=by kernel_rfl
theorem oH:Ap Tryz.prog Bo Tryz.f142=some Pj:=by kernel_rfl
theorem oI:Ap Tryz.prog Bo Tryz.f143=some Pk:=by kernel_rfl
theorem oJ:Ap Tryz.prog Bo Tryz.f144=some Pl:=by kernel_rfl
theorem oK:Ap Tryz.prog Bo Tryz.f145=some Pm:=by kernel_rfl
theorem oL:Ap Tryz.prog Bo Tryz.f146=some Pn:=by kernel_rfl
theorem oM:Ap Tryz.prog Bo Tryz.f147=some Po:=by kernel_rfl
theorem oN:Ap Tryz.prog Bo Tryz.f148=some Pp:=by kernel_rfl
theorem oO:Ap Tryz.prog Bo Tryz.f149=some Pq:=by kernel_rfl
theorem oP:Ap Tryz.prog Bo Tryz.f150=some Pr:=by kernel_rfl
theorem oQ:Ap Tryz.prog Bo Tryz.f151=some Pt:=by kernel_rfl
theorem oS:Ap Tryz.prog Bo Tryz.f152=some Pu:=by kernel_rfl
theorem oT:Ap Tryz.prog Bo Tryz.f153=some Pv:=by kernel_rfl
theorem oU:Ap Tryz.prog Bo Tryz.f154=some Pw:=by kernel_rfl
theorem oV:Ap Tryz.prog Bo Tryz.f155=some Px:=by kernel_rfl
theorem oW:Ap Tryz.prog Bo Tryz.f156=some Py:=by kernel_rfl
theorem oX:Ap Tryz.prog Bo Tryz.f157=some Pz:=by kernel_rfl
theorem oY:Ap Tryz.prog Bo Tryz.f165=some PA:=by kernel_rfl
theorem oZ:Ap Tryz.prog Bo Tryz.f166=some PB:=by kernel_rfl
theorem pA:Ap Tryz.prog Bo Tryz.f167=some PC:=by kernel_rfl
theorem pB:Ap Tryz.prog Bo Tryz.f168=some PD:=by kernel_rfl
theorem pC:Ap Tryz.prog Bo Tryz.f169=some PE:=by kernel_rfl
theorem pD:Ap Tryz.prog Bo Tryz.f170=some PF:=by kernel_rfl
theorem pE:Ap Tryz.prog Bo Tryz.f178=some PG:=by kernel_rfl
theorem pF:Ap Tryz.prog Bo Tryz.f184=some PH:=by kernel_rfl
theorem pG:Ap Tryz.prog Bo Tryz.f185=some PI:=by kernel_rfl
theorem pH:Ap Tryz.prog Bo Tryz.f186=some PJ:=by kernel_rfl
theorem pI:Ap Tryz.prog Bo Tryz.f187=some PK:=by kernel_rfl
theorem pJ:Ap Tryz.prog Bo Tryz.f188=some PL:=by kernel_rfl
theorem pK:Ap Tryz.prog Bo Tryz.f189=some PM:=by kernel_rfl
theorem aK:Ap Tryz.prog Bo Tryz.f190=some Kq:=by kernel_rfl
theorem aL:Ap Tryz.prog Bo Tryz.f191=some Kr:=by kernel_rfl
theorem aM:Ap Tryz.prog Bo Tryz.f192=some Ks:=by kernel_rfl
theorem aN:Ap Tryz.prog Bo Tryz.f193=some Kt:=by kernel_rfl
theorem aO:Ap Tryz.prog Bo Tryz.f194=some Ku:=by kernel_rfl
theorem aP:Ap Tryz.prog Bo Tryz.f195=some Kv:=by kernel_rfl
theorem aQ:Ap Tryz.prog Bo Tryz.f196=some Kw:=by kernel_rfl
theorem aR:Ap Tryz.prog Bo Tryz.f197=some Kx:=by kernel_rfl
theorem aS:Ap Tryz.prog Bo Tryz.f198=some Ky:=by kernel_rfl
theorem aU:Ap Tryz.prog Bo Tryz.f199=some Kz:=by kernel_rfl
theorem aV:Ap Tryz.prog Bo Tryz.f200=some KA:=by kernel_rfl
theorem aW:Ap Tryz.prog Bo Tryz.f201=some KB:=by kernel_rfl
theorem aX:Ap Tryz.prog Bo Tryz.f203=some KC:=by kernel_rfl
theorem aY:Ap Tryz.prog Bo Tryz.f204=some KD:=by kernel_rfl
theorem aZ:Ap Tryz.prog Bo Tryz.f205=some KE:=by kernel_rfl
theorem bA:Ap Tryz.prog Bo Tryz.f206=some KF:=by kernel_rfl
theorem bB:Ap Tryz.prog Bo Tryz.f209=some KG:=by kernel_rfl
theorem bC:Ap Tryz.prog Bo Tryz.f211=some KH:=by kernel_rfl
theorem bD:Ap Tryz.prog Bo Tryz.f212=some KI:=by kernel_rfl
theorem bE:Ap Tryz.prog Bo Tryz.f213=some KJ:=by kernel_rfl
theorem bF:Ap Tryz.prog Bo Tryz.f214=some KK:=by kernel_rfl
theorem bG:Ap Tryz.prog Bo Tryz.f215=some KL:=by kernel_rfl
theorem bH:Ap Tryz.prog Bo Tryz.f216=some KM:=by kernel_rfl
theorem bI:Ap Tryz.prog Bo Tryz.f217=some KN:=by kernel_rfl
theorem bJ:Ap Tryz.prog Bo Tryz.f218=some KO:=by kernel_rfl
theorem aWH:aEb Tryz.prog Bo tp:=by
 intro f tf h
 have h':aHR f=some tf:=h
 clear h
 unfold aHR at h'
 split at h'
 ·cases h';exact ⟨Tryz.f8,Tryz.func8,aHH⟩
 ·cases h';exact ⟨Tryz.f12,Tryz.func12,aHI⟩
 ·cases h';exact ⟨Tryz.f14,Tryz.func14,aHJ⟩
 ·cases h';exact ⟨Tryz.f15,Tryz.func15,aHK⟩
 ·cases h';exact ⟨Tryz.f17,Tryz.func17,aHL⟩
 ·cases h';exact ⟨Tryz.f21,Tryz.func21,aHM⟩
 ·cases h';exact ⟨Tryz.f29,Tryz.func29,aHN⟩
 ·cases h';exact ⟨Tryz.f34,Tryz.func34,aHO⟩
 ·cases h';exact ⟨Tryz.f35,Tryz.func35,aHP⟩
 ·cases h';exact ⟨Tryz.f36,Tryz.func36,aHQ⟩
 ·cases h';exact ⟨Tryz.f37,Tryz.func37,lX⟩
 ·cases h';exact ⟨Tryz.f38,Tryz.func38,lY⟩
 ·cases h';exact ⟨Tryz.f39,Tryz.func39,lZ⟩
 ·cases h';exact ⟨Tryz.f40,Tryz.func40,mA⟩
 ·cases h';exact ⟨Tryz.f41,Tryz.func41,mB⟩
 ·cases h';exact ⟨Tryz.f43,Tryz.func43,mC⟩
 ·cases h';exact ⟨Tryz.f44,Tryz.func44,mD⟩
 ·cases h';exact ⟨Tryz.f45,Tryz.func45,mE⟩
 ·cases h';exact ⟨Tryz.f46,Tryz.func46,mF⟩
 ·cases h';exact ⟨Tryz.f47,Tryz.func47,mG⟩
 ·cases h';exact ⟨Tryz.f48,Tryz.func48,mH⟩
 ·cases h';exact ⟨Tryz.f49,Tryz.func49,mI⟩
 ·cases h';exact ⟨Tryz.f50,Tryz.func50,mJ⟩
 ·cases h';exact ⟨Tryz.f51,Tryz.func51,mK⟩
 ·cases h';exact ⟨Tryz.f54,Tryz.func54,mL⟩
 ·cases h';exact ⟨Tryz.f55,Tryz.func55,mM⟩
 ·cases h';exact ⟨Tryz.f56,Tryz.func56,mN⟩
 ·cases h';exact ⟨Tryz.f57,Tryz.func57,mO⟩
 ·cases h';exact ⟨Tryz.f58,Tryz.func58,mP⟩
 ·cases h';exact ⟨Tryz.f59,Tryz.func59,mQ⟩
 ·cases h';exact ⟨Tryz.f60,Tryz.func60,mR⟩
 ·cases h';exact ⟨Tryz.f61,Tryz.func61,mS⟩
 ·cases h';exact ⟨Tryz.f80,Tryz.func80,mT⟩
 ·cases h';exact ⟨Tryz.f81,Tryz.func81,mU⟩
 ·cases h';exact ⟨Tryz.f82,Tryz.func82,mV⟩
 ·cases h';exact ⟨Tryz.f83,Tryz.func83,mW⟩
 ·cases h';exact ⟨Tryz.f84,Tryz.func84,mX⟩
 ·cases h';exact ⟨Tryz.f85,Tryz.func85,mY⟩
 ·cases h';exact ⟨Tryz.f86,Tryz.func86,mZ⟩
 ·cases h';exact ⟨Tryz.f87,Tryz.func87,nA⟩
 ·cases h';exact ⟨Tryz.f88,Tryz.func88,nB⟩
 ·cases h';exact ⟨Tryz.f89,Tryz.func89,nC⟩
 ·cases h';exact ⟨Tryz.f90,Tryz.func90,nD⟩
 ·cases h';exact ⟨Tryz.f91,Tryz.func91,nE⟩
 ·cases h';exact ⟨Tryz.f92,Tryz.func92,nF⟩
 ·cases h';exact ⟨Tryz.f93,Tryz.func93,nG⟩
 ·cases h';exact ⟨Tryz.f94,Tryz.func94,nH⟩
 ·cases h';exact ⟨Tryz.f95,Tryz.func95,nJ⟩
 ·cases h';exact ⟨Tryz.f96,Tryz.func96,nK⟩
 ·cases h';exact ⟨Tryz.f97,Tryz.func97,nL⟩
 ·cases h';exact ⟨Tryz.f98,Tryz.func98,nM⟩
 ·cases h';exact ⟨Tryz.f107,Tryz.func107,nN⟩
 ·cases h';exact ⟨Tryz.f108,Tryz.func108,nO⟩
 ·cases h';exact ⟨Tryz.f109,Tryz.func109,nP⟩
 ·cases h';exact ⟨Tryz.f110,Tryz.func110,nQ⟩
 ·cases h';exact ⟨Tryz.f111,Tryz.func111,nR⟩
 ·cases h';exact ⟨Tryz.f112,Tryz.func112,nS⟩
 ·cases h';exact ⟨Tryz.f113,Tryz.func113,nT⟩
 ·cases h';exact ⟨Tryz.f129,Tryz.func129,nU⟩
 ·cases h';exact ⟨Tryz.f130,Tryz.func130,nV⟩
 ·cases h';exact ⟨Tryz.f131,Tryz.func131,nW⟩
 ·cases h';exact ⟨Tryz.f132,Tryz.func132,nX⟩
 ·cases h';exact ⟨Tryz.f133,Tryz.func133,nY⟩
 ·cases h';exact ⟨Tryz.f134,Tryz.func134,nZ⟩
 ·cases h';exact ⟨Tryz.f135,Tryz.func135,oA⟩
 ·cases h';exact ⟨Tryz.f136,Tryz.func136,oB⟩
 ·cases h';exact ⟨Tryz.f137,Tryz.func137,oC⟩
 ·cases h';exact ⟨Tryz.f138,Tryz.func138,oD⟩
 ·cases h';exact ⟨Tryz.f139,Tryz.func139,oE⟩
 ·cases h';exact ⟨Tryz.f140,Tryz.func140,oF⟩
 ·cases h';exact ⟨Tryz.f141,Tryz.func141,oG⟩
 ·cases h';exact ⟨Tryz.f142,Tryz.func142,oH⟩
 ·cases h';exact ⟨Tryz.f143,Tryz.func143,oI⟩
 ·cases h';exact ⟨Tryz.f144,Tryz.func144,oJ⟩
 ·cases h';exact ⟨Tryz.f145,Tryz.func145,oK⟩
 ·cases h';exact ⟨Tryz.f146,Tryz.func146,oL⟩
 ·cases h';exact ⟨Tryz.f147,Tryz.func147,oM⟩
 ·cases h';exact ⟨Tryz.f148,Tryz.func148,oN⟩
 ·cases h';exact ⟨Tryz.f149,Tryz.func149,oO⟩
 ·cases h';exact ⟨Tryz.f150,Tryz.func150,oP⟩
 ·cases h';exact ⟨Tryz.f151,Tryz.func151,oQ⟩
 ·cases h';exact ⟨Tryz.f152,Tryz.func152,oS⟩
 ·cases h';exact ⟨Tryz.f153,Tryz.func153,oT⟩
 ·cases h';exact ⟨Tryz.f154,Tryz.func154,oU⟩
 ·cases h';exact ⟨Tryz.f155,Tryz.func155,oV⟩
 ·cases h';exact ⟨Tryz.f156,Tryz.func156,oW⟩
 ·cases h';exact ⟨Tryz.f157,Tryz.func157,oX⟩
 ·cases h';exact ⟨Tryz.f165,Tryz.func165,oY⟩
 ·cases h';exact ⟨Tryz.f166,Tryz.func166,oZ⟩
 ·cases h';exact ⟨Tryz.f167,Tryz.func167,pA⟩
 ·cases h';exact ⟨Tryz.f168,Tryz.func168,pB⟩
 ·cases h';exact ⟨Tryz.f169,Tryz.func169,pC⟩
 ·cases h';exact ⟨Tryz.f170,Tryz.func170,pD⟩
 ·cases h';exact ⟨Tryz.f178,Tryz.func178,pE⟩
 ·cases h';exact ⟨Tryz.f184,Tryz.func184,pF⟩
 ·cases h';exact ⟨Tryz.f185,Tryz.func185,pG⟩
 ·cases h';exact ⟨Tryz.f186,Tryz.func186,pH⟩
 ·cases h';exact ⟨Tryz.f187,Tryz.func187,pI⟩
 ·cases h';exact ⟨Tryz.f188,Tryz.func188,pJ⟩
 ·cases h';exact ⟨Tryz.f189,Tryz.func189,pK⟩
 ·cases h';exact ⟨Tryz.f190,Tryz.func190,aK⟩
 ·cases h';exact ⟨Tryz.f191,Tryz.func191,aL⟩
 ·cases h';exact ⟨Tryz.f192,Tryz.func192,aM⟩
 ·cases h';exact ⟨Tryz.f193,Tryz.func193,aN⟩
 ·cases h';exact ⟨Tryz.f194,Tryz.func194,aO⟩
 ·cases h';exact ⟨Tryz.f195,Tryz.func195,aP⟩
 ·cases h';exact ⟨Tryz.f196,Tryz.func196,aQ⟩
 ·cases h';exact ⟨Tryz.f197,Tryz.func197,aR⟩
 ·cases h';exact ⟨Tryz.f198,Tryz.func198,aS⟩
 ·cases h';exact ⟨Tryz.f199,Tryz.func199,aU⟩
 ·cases h';exact ⟨Tryz.f200,Tryz.func200,aV⟩
 ·cases h';exact ⟨Tryz.f201,Tryz.func201,aW⟩
 ·cases h';exact ⟨Tryz.f203,Tryz.func203,aX⟩
 ·cases h';exact ⟨Tryz.f204,Tryz.func204,aY⟩
 ·cases h';exact ⟨Tryz.f205,Tryz.func205,aZ⟩
 ·cases h';exact ⟨Tryz.f206,Tryz.func206,bA⟩
 ·cases h';exact ⟨Tryz.f209,Tryz.func209,bB⟩
 ·cases h';exact ⟨Tryz.f211,Tryz.func211,bC⟩
 ·cases h';exact ⟨Tryz.f212,Tryz.func212,bD⟩
 ·cases h';exact ⟨Tryz.f213,Tryz.func213,bE⟩
 ·cases h';exact ⟨Tryz.f214,Tryz.func214,bF⟩
 ·cases h';exact ⟨Tryz.f215,Tryz.func215,bG⟩
 ·cases h';exact ⟨Tryz.f216,Tryz.func216,bH⟩
 ·cases h';exact ⟨Tryz.f217,Tryz.func217,bI⟩
 ·cases h';exact ⟨Tryz.f218,Tryz.func218,bJ⟩
 ·cases h'
theorem jS:Ds Tryz.prog tp:=by
 intro t m q h
 cases h
end Go.Ab.T
