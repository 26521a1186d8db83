/- Part of a proof that a law returns true for every input of the second form's bound (no other condition). -/
import Derived.Test.YtlcknhidblndnaaGreatChecked
import Derived.Test.YtlcknhidblndnaaGreatPE
import Derived.Test.YtlcknhidblndnaaGreatPC
set_option linter.all false
/- The abstract machine's text is the program's. Written by a tool. -/
namespace Go.Ab.T
open Go Go.Ab Go.Proofs
def A6:Wr:=fun f=>wrs.contains f
theorem mU:Ai Tryz.prog A6 Tryz.f4=some TM:=by kernel_rfl
theorem mV:Ai Tryz.prog A6 Tryz.f12=some TN:=by kernel_rfl
theorem mW:Ai Tryz.prog A6 Tryz.f13=some Je:=by kernel_rfl
theorem mX:Ai Tryz.prog A6 Tryz.f14=some ME:=by kernel_rfl
theorem mY:Ai Tryz.prog A6 Tryz.f15=some MF:=by kernel_rfl
theorem mZ:Ai Tryz.prog A6 Tryz.f16=some MG:=by kernel_rfl
theorem nA:Ai Tryz.prog A6 Tryz.f17=some TQ:=by kernel_rfl
theorem nB:Ai Tryz.prog A6 Tryz.f18=some TR:=by kernel_rfl
theorem nC:Ai Tryz.prog A6 Tryz.f22=some TS:=by kernel_rfl
theorem nD:Ai Tryz.prog A6 Tryz.f27=some TT:=by kernel_rfl
theorem Xg:Ai Tryz.prog A6 Tryz.f28=some Hw:=by kernel_rfl
theorem Xh:Ai Tryz.prog A6 Tryz.f29=some Kn:=by kernel_rfl
theorem Xi:Ai Tryz.prog A6 Tryz.f30=some Ko:=by kernel_rfl
theorem Xj:Ai Tryz.prog A6 Tryz.f31=some Kp:=by kernel_rfl
theorem Xk:Ai Tryz.prog A6 Tryz.f32=some Kq:=by kernel_rfl
theorem Xl:Ai Tryz.prog A6 Tryz.f33=some Kr:=by kernel_rfl
theorem Xm:Ai Tryz.prog A6 Tryz.f34=some Ks:=by kernel_rfl
theorem Xn:Ai Tryz.prog A6 Tryz.f35=some Kt:=by kernel_rfl
theorem Xo:Ai Tryz.prog A6 Tryz.f36=some Ku:=by kernel_rfl
theorem Xp:Ai Tryz.prog A6 Tryz.f37=some BR:=by kernel_rfl
theorem Xq:Ai Tryz.prog A6 Tryz.f38=some Kv:=by kernel_rfl
theorem Xr:Ai Tryz.prog A6 Tryz.f39=some Kw:=by kernel_rfl
theorem Xs:Ai Tryz.prog A6 Tryz.f40=some Kx:=by kernel_rfl
theorem Xt:Ai Tryz.prog A6 Tryz.f41=some Ky:=by kernel_rfl
theorem Xu:Ai Tryz.prog A6 Tryz.f42=some Kz:=by kernel_rfl
theorem Xv:Ai Tryz.prog A6 Tryz.f43=some KA:=by kernel_rfl
theorem Xw:Ai Tryz.prog A6 Tryz.f57=some KB:=by kernel_rfl
theorem Xx:Ai Tryz.prog A6 Tryz.f58=some Hz:=by kernel_rfl
theorem Xy:Ai Tryz.prog A6 Tryz.f59=some HA:=by kernel_rfl
theorem Xz:Ai Tryz.prog A6 Tryz.f60=some KC:=by kernel_rfl
theorem XA:Ai Tryz.prog A6 Tryz.f61=some KD:=by kernel_rfl
theorem XB:Ai Tryz.prog A6 Tryz.f62=some HB:=by kernel_rfl
theorem XC:Ai Tryz.prog A6 Tryz.f63=some HC:=by kernel_rfl
theorem XD:Ai Tryz.prog A6 Tryz.f64=some KE:=by kernel_rfl
theorem XE:Ai Tryz.prog A6 Tryz.f65=some KF:=by kernel_rfl
theorem XF:Ai Tryz.prog A6 Tryz.f66=some KG:=by kernel_rfl
theorem XG:Ai Tryz.prog A6 Tryz.f67=some KH:=by kernel_rfl
theorem XH:Ai Tryz.prog A6 Tryz.f68=some KI:=by kernel_rfl
theorem XI:Ai Tryz.prog A6 Tryz.f69=some HD:=by kernel_rfl
theorem XJ:Ai Tryz.prog A6 Tryz.f70=some BS:=by kernel_rfl
theorem XK:Ai Tryz.prog A6 Tryz.f71=some FC:=by kernel_rfl
theorem XL:Ai Tryz.prog A6 Tryz.f72=some KJ:=by kernel_rfl
theorem XM:Ai Tryz.prog A6 Tryz.f73=some KK:=by kernel_rfl
theorem XN:Ai Tryz.prog A6 Tryz.f74=some KL:=by kernel_rfl
theorem XO:Ai Tryz.prog A6 Tryz.f75=some KM:=by kernel_rfl
theorem XP:Ai Tryz.prog A6 Tryz.f76=some KN:=by kernel_rfl
theorem XQ:Ai Tryz.prog A6 Tryz.f77=some KO:=by kernel_rfl
theorem XR:Ai Tryz.prog A6 Tryz.f78=some KP:=by kernel_rfl
theorem XS:Ai Tryz.prog A6 Tryz.f92=some KQ:=by kernel_rfl
theorem XT:Ai Tryz.prog A6 Tryz.f93=some KR:=by kernel_rfl
theorem XU:Ai Tryz.prog A6 Tryz.f94=some KT:=by kernel_rfl
theorem XV:Ai Tryz.prog A6 Tryz.f95=some KU:=by kernel_rfl
theorem XW:Ai Tryz.prog A6 Tryz.f96=some KV:=by kernel_rfl
theorem XX:Ai Tryz.prog A6 Tryz.f97=some KW:=by kernel_rfl
theorem XY:Ai Tryz.prog A6 Tryz.f98=some HE:=by kernel_rfl
theorem XZ:Ai Tryz.prog A6 Tryz.f99=some FD:=by kernel_rfl
theorem X0:Ai Tryz.prog A6 Tryz.f100=some KX:=by kernel_rfl
theorem X2:Ai Tryz.prog A6 Tryz.f101=some KY:=by kernel_rfl
theorem X3:Ai Tryz.prog A6 Tryz.f102=some CJ:=by kernel_rfl
theorem X4:Ai Tryz.prog A6 Tryz.f103=some FE:=by kernel_rfl
theorem X5:Ai Tryz.prog A6 Tryz.f114=some KZ:=by kernel_rfl
theorem X6:Ai Tryz.prog A6 Tryz.f115=some K0:=by kernel_rfl
theorem X7:Ai Tryz.prog A6 Tryz.f116=some K1:=by kernel_rfl
theorem X8:Ai Tryz.prog A6 Tryz.f117=some K2:=by kernel_rfl
theorem X9:Ai Tryz.prog A6 Tryz.f118=some K3:=by kernel_rfl
theorem Ya:Ai Tryz.prog A6 Tryz.f119=some K4:=by kernel_rfl
theorem Yb:Ai Tryz.prog A6 Tryz.f120=some K5:=by kernel_rfl
theorem Yc:Ai Tryz.prog A6 Tryz.f127=some K6:=by kernel_rfl
theorem Yd:Ai Tryz.prog A6 Tryz.f128=some K7:=by kernel_rfl
theorem Ye:Ai Tryz.prog A6 Tryz.f129=some HF:=by kernel_rfl
theorem Yf:Ai Tryz.prog A6 Tryz.f130=some K8:=by kernel_rfl
theorem Yg:Ai Tryz.prog A6 Tryz.f131=some K9:=by kernel_rfl
theorem Yh:Ai Tryz.prog A6 Tryz.f132=some La:=by kernel_rfl
theorem Yi:Ai Tryz.prog A6 Tryz.f133=some Lb:=by kernel_rfl
theorem Yj:Ai Tryz.prog A6 Tryz.f135=some Lc:=by kernel_rfl
theorem Yk:Ai Tryz.prog A6 Tryz.f136=some Ld:=by kernel_rfl
theorem Yl:Ai Tryz.prog A6 Tryz.f137=some Le:=by kernel_rfl
theorem Ym:Ai Tryz.prog A6 Tryz.f138=some Lf:=by kernel_rfl
theorem Yn:Ai Tryz.prog A6 Tryz.f139=some Lg:=by kernel_rfl
theorem Yo:Ai Tryz.prog A6 Tryz.f140=some Lh:=by kernel_rfl
theorem Yp:Ai Tryz.prog A6 Tryz.f141=some Li:=by kernel_rfl
theorem Yq:Ai Tryz.prog A6 Tryz.f142=some Lj:=by kernel_rfl
theorem Yr:Ai Tryz.prog A6 Tryz.f143=some Lk:=by kernel_rfl
theorem Ys:Ai Tryz.prog A6 Tryz.f144=some Ll:=by kernel_rfl
theorem Yt:Ai Tryz.prog A6 Tryz.f145=some Lm:=by kernel_rfl
theorem Yu:Ai Tryz.prog A6 Tryz.f146=some Ln:=by kernel_rfl
theorem Yv:Ai Tryz.prog A6 Tryz.f147=some Lo:=by kernel_rfl
theorem Yw:Ai Tryz.prog A6 Tryz.f148=some Lp:=by kernel_rfl
theorem Yx:Ai Tryz.prog A6 Tryz.f149=some Lq:=by kernel_rfl
theorem Yy:Ai Tryz.prog A6 Tryz.f150=some Lr:=by kernel_rfl
theorem Yz:Ai Tryz.prog A6 Tryz.f151=some Ls:=by kernel_rfl
theorem YA:Ai Tryz.prog A6 Tryz.f169=some Zw:=by kernel_rfl
theorem YB:Ai Tryz.prog A6 Tryz.f170=some Zx:=by kernel_rfl
theorem YC:Ai Tryz.prog A6 Tryz.f171=some Zy:=by kernel_rfl
theorem YD:Ai Tryz.prog A6 Tryz.f172=some Zz:=by kernel_rfl
theorem YE:Ai Tryz.prog A6 Tryz.f177=some Lt:=by kernel_rfl
theorem YF:Ai Tryz.prog A6 Tryz.f178=some Lu:=by kernel_rfl
theorem YG:Ai Tryz.prog A6 Tryz.f179=some Lv:=by kernel_rfl
theorem YH:Ai Tryz.prog A6 Tryz.f180=some Lw:=by kernel_rfl
theorem YI:Ai Tryz.prog A6 Tryz.f181=some Lx:=by kernel_rfl
theorem TX:Ai Tryz.prog A6 Tryz.f182=some Hx:=by kernel_rfl
theorem TY:Ai Tryz.prog A6 Tryz.f183=some Hy:=by kernel_rfl
theorem aFU:eT Tryz.prog A6 tp:=by
 intro f tf h
 have h':nE f=some tf:=h
 clear h
 unfold nE at h'
 split at h'
 ·cases h';exact ⟨Tryz.f4,Tryz.func4,mU⟩
 ·cases h';exact ⟨Tryz.f12,Tryz.func12,mV⟩
 ·cases h';exact ⟨Tryz.f13,Tryz.func13,mW⟩
 ·cases h';exact ⟨Tryz.f14,Tryz.func14,mX⟩
 ·cases h';exact ⟨Tryz.f15,Tryz.func15,mY⟩
 ·cases h';exact ⟨Tryz.f16,Tryz.func16,mZ⟩
 ·cases h';exact ⟨Tryz.f17,Tryz.func17,nA⟩
 ·cases h';exact ⟨Tryz.f18,Tryz.func18,nB⟩
 ·cases h';exact ⟨Tryz.f22,Tryz.func22,nC⟩
 ·cases h';exact ⟨Tryz.f27,Tryz.func27,nD⟩
 ·cases h';exact ⟨Tryz.f28,Tryz.func28,Xg⟩
 ·cases h';exact ⟨Tryz.f29,Tryz.func29,Xh⟩
 ·cases h';exact ⟨Tryz.f30,Tryz.func30,Xi⟩
 ·cases h';exact ⟨Tryz.f31,Tryz.func31,Xj⟩
 ·cases h';exact ⟨Tryz.f32,Tryz.func32,Xk⟩
 ·cases h';exact ⟨Tryz.f33,Tryz.func33,Xl⟩
 ·cases h';exact ⟨Tryz.f34,Tryz.func34,Xm⟩
 ·cases h';exact ⟨Tryz.f35,Tryz.func35,Xn⟩
 ·cases h';exact ⟨Tryz.f36,Tryz.func36,Xo⟩
 ·cases h';exact ⟨Tryz.f37,Tryz.func37,Xp⟩
 ·cases h';exact ⟨Tryz.f38,Tryz.func38,Xq⟩
 ·cases h';exact ⟨Tryz.f39,Tryz.func39,Xr⟩
 ·cases h';exact ⟨Tryz.f40,Tryz.func40,Xs⟩
 ·cases h';exact ⟨Tryz.f41,Tryz.func41,Xt⟩
 ·cases h';exact ⟨Tryz.f42,Tryz.func42,Xu⟩
 ·cases h';exact ⟨Tryz.f43,Tryz.func43,Xv⟩
 ·cases h';exact ⟨Tryz.f57,Tryz.func57,Xw⟩
 ·cases h';exact ⟨Tryz.f58,Tryz.func58,Xx⟩
 ·cases h';exact ⟨Tryz.f59,Tryz.func59,Xy⟩
 ·cases h';exact ⟨Tryz.f60,Tryz.func60,Xz⟩
 ·cases h';exact ⟨Tryz.f61,Tryz.func61,XA⟩
 ·cases h';exact ⟨Tryz.f62,Tryz.func62,XB⟩
 ·cases h';exact ⟨Tryz.f63,Tryz.func63,XC⟩
 ·cases h';exact ⟨Tryz.f64,Tryz.func64,XD⟩
 ·cases h';exact ⟨Tryz.f65,Tryz.func65,XE⟩
 ·cases h';exact ⟨Tryz.f66,Tryz.func66,XF⟩
 ·cases h';exact ⟨Tryz.f67,Tryz.func67,XG⟩
 ·cases h';exact ⟨Tryz.f68,Tryz.func68,XH⟩
 ·cases h';exact ⟨Tryz.f69,Tryz.func69,XI⟩
 ·cases h';exact ⟨Tryz.f70,Tryz.func70,XJ⟩
 ·cases h';exact ⟨Tryz.f71,Tryz.func71,XK⟩
 ·cases h';exact ⟨Tryz.f72,Tryz.func72,XL⟩
 ·cases h';exact ⟨Tryz.f73,Tryz.func73,XM⟩
 ·cases h';exact ⟨Tryz.f74,Tryz.func74,XN⟩
 ·cases h';exact ⟨Tryz.f75,Tryz.func75,XO⟩
 ·cases h';exact ⟨Tryz.f76,Tryz.func76,XP⟩
 ·cases h';exact ⟨Tryz.f77,Tryz.func77,XQ⟩
 ·cases h';exact ⟨Tryz.f78,Tryz.func78,XR⟩
 ·cases h';exact ⟨Tryz.f92,Tryz.func92,XS⟩
 ·cases h';exact ⟨Tryz.f93,Tryz.func93,XT⟩
 ·cases h';exact ⟨Tryz.f94,Tryz.func94,XU⟩
 ·cases h';exact ⟨Tryz.f95,Tryz.func95,XV⟩
 ·cases h';exact ⟨Tryz.f96,Tryz.func96,XW⟩
 ·cases h';exact ⟨Tryz.f97,Tryz.func97,XX⟩
 ·cases h';exact ⟨Tryz.f98,Tryz.func98,XY⟩
 ·cases h';exact ⟨Tryz.f99,Tryz.func99,XZ⟩
 ·cases h';exact ⟨Tryz.f100,Tryz.func100,X0⟩
 ·cases h';exact ⟨Tryz.f101,Tryz.func101,X2⟩
 ·cases h';exact ⟨Tryz.f102,Tryz.func102,X3⟩
 ·cases h';exact ⟨Tryz.f103,Tryz.func103,X4⟩
 ·cases h';exact ⟨Tryz.f114,Tryz.func114,X5⟩
 ·cases h';exact ⟨Tryz.f115,Tryz.func115,X6⟩
 ·cases h';exact ⟨Tryz.f116,Tryz.func116,X7⟩
 ·cases h';exact ⟨Tryz.f117,Tryz.func117,X8⟩
 ·cases h';exact ⟨Tryz.f118,Tryz.func118,X9⟩
 ·cases h';exact ⟨Tryz.f119,Tryz.func119,Ya⟩
 ·cases h';exact ⟨Tryz.f120,Tryz.func120,Yb⟩
 ·cases h';exact ⟨Tryz.f127,Tryz.func127,Yc⟩
 ·cases h';exact ⟨Tryz.f128,Tryz.func128,Yd⟩
 ·cases h';exact ⟨Tryz.f129,Tryz.func129,Ye⟩
 ·cases h';exact ⟨Tryz.f130,Tryz.func130,Yf⟩
 ·cases h';exact ⟨Tryz.f131,Tryz.func131,Yg⟩
 ·cases h';exact ⟨Tryz.f132,Tryz.func132,Yh⟩
 ·cases h';exact ⟨Tryz.f133,Tryz.func133,Yi⟩
 ·cases h';exact ⟨Tryz.f135,Tryz.func135,Yj⟩
 ·cases h';exact ⟨Tryz.f136,Tryz.func136,Yk⟩
 ·cases h';exact ⟨Tryz.f137,Tryz.func137,Yl⟩
 ·cases h';exact ⟨Tryz.f138,Tryz.func138,Ym⟩
 ·cases h';exact ⟨Tryz.f139,Tryz.func139,Yn⟩
 ·cases h';exact ⟨Tryz.f140,Tryz.func140,Yo⟩
 ·cases h';exact ⟨Tryz.f141,Tryz.func141,Yp⟩
 ·cases h';exact ⟨Tryz.f142,Tryz.func142,Yq⟩
 ·cases h';exact ⟨Tryz.f143,Tryz.func143,Yr⟩
 ·cases h';exact ⟨Tryz.f144,Tryz.func144,Ys⟩
 ·cases h';exact ⟨Tryz.f145,Tryz.func145,Yt⟩
 ·cases h';exact ⟨Tryz.f146,Tryz.func146,Yu⟩
 ·cases h';exact ⟨Tryz.f147,Tryz.func147,Yv⟩
 ·cases h';exact ⟨Tryz.f148,Tryz.func148,Yw⟩
 ·cases h';exact ⟨Tryz.f149,Tryz.func149,Yx⟩
 ·cases h';exact ⟨Tryz.f150,Tryz.func150,Yy⟩
 ·cases h';exact ⟨Tryz.f151,Tryz.func151,Yz⟩
 ·cases h';exact ⟨Tryz.f169,Tryz.func169,YA⟩
 ·cases h';exact ⟨Tryz.f170,Tryz.func170,YB⟩
 ·cases h';exact ⟨Tryz.f171,Tryz.func171,YC⟩
 ·cases h';exact ⟨Tryz.f172,Tryz.func172,YD⟩
 ·cases h';exact ⟨Tryz.f177,Tryz.func177,YE⟩
 ·cases h';exact ⟨Tryz.f178,Tryz.func178,YF⟩
 ·cases h';exact ⟨Tryz.f179,Tryz.func179,YG⟩
 ·cases h';exact ⟨Tryz.f180,Tryz.func180,YH⟩
 ·cases h';exact ⟨Tryz.f181,Tryz.func181,YI⟩
 ·cases h';exact ⟨Tryz.f182,Tryz.func182,TX⟩
 ·cases h';exact ⟨Tryz.f183,Tryz.func183,TY⟩
 ·cases h'
theorem Wq:B6 Tryz.prog tp:=by
 intro t m q h
 have h':MK t m=some q:=h
 clear h
 unfold MK at h'
 split at h'
 ·cases h';show _=true;kernel_rfl
 ·cases h';show _=true;kernel_rfl
 ·cases h';show _=true;kernel_rfl
 ·cases h';show _=true;kernel_rfl
 ·cases h';show _=true;kernel_rfl
 ·cases h';show _=true;kernel_rfl
 ·cases h';show _=true;kernel_rfl
 ·cases h';show _=true;kernel_rfl
 ·cases h';show _=true;kernel_rfl
 ·cases h'
end Go.Ab.T
