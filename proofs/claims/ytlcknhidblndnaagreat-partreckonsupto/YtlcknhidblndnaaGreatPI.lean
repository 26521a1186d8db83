/- Part of a proof that a law returns true for every input of the second form's bound (no other condition). -/
import Derived.Test.YtlcknhidblndnaaGreatChecked
import Derived.Test.YtlcknhidblndnaaGreatPE
import Derived.Test.YtlcknhidblndnaaGreatPC
set_option linter.all false
/- The abstract machine's text is the program's. Written by a tool. -/
namespace Go.Ab.T
open Go Go.Ab Go.Proofs
def A4:Wr:=fun f=>wrs.contains f
theorem nQ:Ai Tryz.prog A4 Tryz.f9=some Ge:=by kernel_rfl
theorem nR:Ai Tryz.prog A4 Tryz.f12=some T0:=by kernel_rfl
theorem nS:Ai Tryz.prog A4 Tryz.f13=some Jr:=by kernel_rfl
theorem nT:Ai Tryz.prog A4 Tryz.f14=some MV:=by kernel_rfl
theorem nU:Ai Tryz.prog A4 Tryz.f15=some MW:=by kernel_rfl
theorem nV:Ai Tryz.prog A4 Tryz.f16=some MX:=by kernel_rfl
theorem nW:Ai Tryz.prog A4 Tryz.f17=some T3:=by kernel_rfl
theorem nX:Ai Tryz.prog A4 Tryz.f18=some T4:=by kernel_rfl
theorem nY:Ai Tryz.prog A4 Tryz.f21=some T5:=by kernel_rfl
theorem nZ:Ai Tryz.prog A4 Tryz.f22=some T6:=by kernel_rfl
theorem Xu:Ai Tryz.prog A4 Tryz.f27=some KB:=by kernel_rfl
theorem Xv:Ai Tryz.prog A4 Tryz.f28=some HK:=by kernel_rfl
theorem Xw:Ai Tryz.prog A4 Tryz.f29=some KC:=by kernel_rfl
theorem Xx:Ai Tryz.prog A4 Tryz.f30=some KD:=by kernel_rfl
theorem Xy:Ai Tryz.prog A4 Tryz.f31=some KE:=by kernel_rfl
theorem Xz:Ai Tryz.prog A4 Tryz.f32=some KF:=by kernel_rfl
theorem XA:Ai Tryz.prog A4 Tryz.f33=some KG:=by kernel_rfl
theorem XB:Ai Tryz.prog A4 Tryz.f34=some KH:=by kernel_rfl
theorem XC:Ai Tryz.prog A4 Tryz.f35=some KI:=by kernel_rfl
theorem XD:Ai Tryz.prog A4 Tryz.f36=some KJ:=by kernel_rfl
theorem XE:Ai Tryz.prog A4 Tryz.f37=some BW:=by kernel_rfl
theorem XF:Ai Tryz.prog A4 Tryz.f38=some KK:=by kernel_rfl
theorem XG:Ai Tryz.prog A4 Tryz.f39=some KL:=by kernel_rfl
theorem XH:Ai Tryz.prog A4 Tryz.f40=some KM:=by kernel_rfl
theorem XI:Ai Tryz.prog A4 Tryz.f41=some KN:=by kernel_rfl
theorem XJ:Ai Tryz.prog A4 Tryz.f42=some KO:=by kernel_rfl
theorem XK:Ai Tryz.prog A4 Tryz.f43=some KP:=by kernel_rfl
theorem XL:Ai Tryz.prog A4 Tryz.f57=some KQ:=by kernel_rfl
theorem XM:Ai Tryz.prog A4 Tryz.f58=some HL:=by kernel_rfl
theorem XN:Ai Tryz.prog A4 Tryz.f59=some HM:=by kernel_rfl
theorem XO:Ai Tryz.prog A4 Tryz.f60=some KR:=by kernel_rfl
theorem XP:Ai Tryz.prog A4 Tryz.f61=some KT:=by kernel_rfl
theorem XQ:Ai Tryz.prog A4 Tryz.f62=some HN:=by kernel_rfl
theorem XR:Ai Tryz.prog A4 Tryz.f63=some HO:=by kernel_rfl
theorem XS:Ai Tryz.prog A4 Tryz.f64=some KU:=by kernel_rfl
theorem XT:Ai Tryz.prog A4 Tryz.f65=some KV:=by kernel_rfl
theorem XU:Ai Tryz.prog A4 Tryz.f66=some KW:=by kernel_rfl
theorem XV:Ai Tryz.prog A4 Tryz.f67=some KX:=by kernel_rfl
theorem XW:Ai Tryz.prog A4 Tryz.f68=some KY:=by kernel_rfl
theorem XX:Ai Tryz.prog A4 Tryz.f69=some HP:=by kernel_rfl
theorem XY:Ai Tryz.prog A4 Tryz.f70=some BX:=by kernel_rfl
theorem XZ:Ai Tryz.prog A4 Tryz.f71=some FL:=by kernel_rfl
theorem X0:Ai Tryz.prog A4 Tryz.f72=some KZ:=by kernel_rfl
theorem X2:Ai Tryz.prog A4 Tryz.f73=some K0:=by kernel_rfl
theorem X3:Ai Tryz.prog A4 Tryz.f74=some K1:=by kernel_rfl
theorem X4:Ai Tryz.prog A4 Tryz.f75=some K2:=by kernel_rfl
theorem X5:Ai Tryz.prog A4 Tryz.f76=some K3:=by kernel_rfl
theorem X6:Ai Tryz.prog A4 Tryz.f77=some K4:=by kernel_rfl
theorem X7:Ai Tryz.prog A4 Tryz.f78=some K5:=by kernel_rfl
theorem X8:Ai Tryz.prog A4 Tryz.f92=some K6:=by kernel_rfl
theorem X9:Ai Tryz.prog A4 Tryz.f93=some K7:=by kernel_rfl
theorem Ya:Ai Tryz.prog A4 Tryz.f94=some K8:=by kernel_rfl
theorem Yb:Ai Tryz.prog A4 Tryz.f95=some K9:=by kernel_rfl
theorem Yc:Ai Tryz.prog A4 Tryz.f96=some La:=by kernel_rfl
theorem Yd:Ai Tryz.prog A4 Tryz.f97=some Lb:=by kernel_rfl
theorem Ye:Ai Tryz.prog A4 Tryz.f98=some HQ:=by kernel_rfl
theorem Yf:Ai Tryz.prog A4 Tryz.f99=some FM:=by kernel_rfl
theorem Yg:Ai Tryz.prog A4 Tryz.f100=some Lc:=by kernel_rfl
theorem Yh:Ai Tryz.prog A4 Tryz.f101=some Ld:=by kernel_rfl
theorem Yi:Ai Tryz.prog A4 Tryz.f102=some CQ:=by kernel_rfl
theorem Yj:Ai Tryz.prog A4 Tryz.f103=some FN:=by kernel_rfl
theorem Yk:Ai Tryz.prog A4 Tryz.f114=some Le:=by kernel_rfl
theorem Yl:Ai Tryz.prog A4 Tryz.f115=some Lf:=by kernel_rfl
theorem Ym:Ai Tryz.prog A4 Tryz.f116=some Lg:=by kernel_rfl
theorem Yn:Ai Tryz.prog A4 Tryz.f117=some Lh:=by kernel_rfl
theorem Yo:Ai Tryz.prog A4 Tryz.f118=some Li:=by kernel_rfl
theorem Yp:Ai Tryz.prog A4 Tryz.f119=some Lj:=by kernel_rfl
theorem Yq:Ai Tryz.prog A4 Tryz.f120=some Lk:=by kernel_rfl
theorem Yr:Ai Tryz.prog A4 Tryz.f127=some Ll:=by kernel_rfl
theorem Ys:Ai Tryz.prog A4 Tryz.f128=some Lm:=by kernel_rfl
theorem Yt:Ai Tryz.prog A4 Tryz.f129=some HR:=by kernel_rfl
theorem Yu:Ai Tryz.prog A4 Tryz.f130=some Ln:=by kernel_rfl
theorem Yv:Ai Tryz.prog A4 Tryz.f131=some Lo:=by kernel_rfl
theorem Yw:Ai Tryz.prog A4 Tryz.f132=some Lp:=by kernel_rfl
theorem Yx:Ai Tryz.prog A4 Tryz.f133=some Lq:=by kernel_rfl
theorem Yy:Ai Tryz.prog A4 Tryz.f135=some Lr:=by kernel_rfl
theorem Yz:Ai Tryz.prog A4 Tryz.f136=some Ls:=by kernel_rfl
theorem YA:Ai Tryz.prog A4 Tryz.f137=some Lt:=by kernel_rfl
theorem YB:Ai Tryz.prog A4 Tryz.f138=some Lu:=by kernel_rfl
theorem YC:Ai Tryz.prog A4 Tryz.f139=some Lv:=by kernel_rfl
theorem YD:Ai Tryz.prog A4 Tryz.f140=some Lw:=by kernel_rfl
theorem YE:Ai Tryz.prog A4 Tryz.f141=some Lx:=by kernel_rfl
theorem YF:Ai Tryz.prog A4 Tryz.f142=some Ly:=by kernel_rfl
theorem YG:Ai Tryz.prog A4 Tryz.f143=some Lz:=by kernel_rfl
theorem YH:Ai Tryz.prog A4 Tryz.f144=some LA:=by kernel_rfl
theorem YI:Ai Tryz.prog A4 Tryz.f145=some LB:=by kernel_rfl
theorem YJ:Ai Tryz.prog A4 Tryz.f146=some LC:=by kernel_rfl
theorem YK:Ai Tryz.prog A4 Tryz.f147=some LD:=by kernel_rfl
theorem YL:Ai Tryz.prog A4 Tryz.f148=some LE:=by kernel_rfl
theorem YM:Ai Tryz.prog A4 Tryz.f149=some LF:=by kernel_rfl
theorem YN:Ai Tryz.prog A4 Tryz.f150=some LG:=by kernel_rfl
theorem YO:Ai Tryz.prog A4 Tryz.f151=some LH:=by kernel_rfl
theorem YP:Ai Tryz.prog A4 Tryz.f169=some ZI:=by kernel_rfl
theorem YQ:Ai Tryz.prog A4 Tryz.f170=some ZJ:=by kernel_rfl
theorem YR:Ai Tryz.prog A4 Tryz.f171=some ZK:=by kernel_rfl
theorem YS:Ai Tryz.prog A4 Tryz.f172=some ZL:=by kernel_rfl
theorem YT:Ai Tryz.prog A4 Tryz.f177=some LI:=by kernel_rfl
theorem YU:Ai Tryz.prog A4 Tryz.f178=some LJ:=by kernel_rfl
theorem YV:Ai Tryz.prog A4 Tryz.f179=some LK:=by kernel_rfl
theorem YW:Ai Tryz.prog A4 Tryz.f180=some LL:=by kernel_rfl
theorem Ua:Ai Tryz.prog A4 Tryz.f181=some HH:=by kernel_rfl
theorem Ub:Ai Tryz.prog A4 Tryz.f182=some HI:=by kernel_rfl
theorem Uc:Ai Tryz.prog A4 Tryz.f183=some HJ:=by kernel_rfl
theorem aGd:fO Tryz.prog A4 tp:=by
 intro f tf h
 have h':oA f=some tf:=h
 clear h
 unfold oA at h'
 split at h'
 ·cases h';exact ⟨Tryz.f9,Tryz.func9,nQ⟩
 ·cases h';exact ⟨Tryz.f12,Tryz.func12,nR⟩
 ·cases h';exact ⟨Tryz.f13,Tryz.func13,nS⟩
 ·cases h';exact ⟨Tryz.f14,Tryz.func14,nT⟩
 ·cases h';exact ⟨Tryz.f15,Tryz.func15,nU⟩
 ·cases h';exact ⟨Tryz.f16,Tryz.func16,nV⟩
 ·cases h';exact ⟨Tryz.f17,Tryz.func17,nW⟩
 ·cases h';exact ⟨Tryz.f18,Tryz.func18,nX⟩
 ·cases h';exact ⟨Tryz.f21,Tryz.func21,nY⟩
 ·cases h';exact ⟨Tryz.f22,Tryz.func22,nZ⟩
 ·cases h';exact ⟨Tryz.f27,Tryz.func27,Xu⟩
 ·cases h';exact ⟨Tryz.f28,Tryz.func28,Xv⟩
 ·cases h';exact ⟨Tryz.f29,Tryz.func29,Xw⟩
 ·cases h';exact ⟨Tryz.f30,Tryz.func30,Xx⟩
 ·cases h';exact ⟨Tryz.f31,Tryz.func31,Xy⟩
 ·cases h';exact ⟨Tryz.f32,Tryz.func32,Xz⟩
 ·cases h';exact ⟨Tryz.f33,Tryz.func33,XA⟩
 ·cases h';exact ⟨Tryz.f34,Tryz.func34,XB⟩
 ·cases h';exact ⟨Tryz.f35,Tryz.func35,XC⟩
 ·cases h';exact ⟨Tryz.f36,Tryz.func36,XD⟩
 ·cases h';exact ⟨Tryz.f37,Tryz.func37,XE⟩
 ·cases h';exact ⟨Tryz.f38,Tryz.func38,XF⟩
 ·cases h';exact ⟨Tryz.f39,Tryz.func39,XG⟩
 ·cases h';exact ⟨Tryz.f40,Tryz.func40,XH⟩
 ·cases h';exact ⟨Tryz.f41,Tryz.func41,XI⟩
 ·cases h';exact ⟨Tryz.f42,Tryz.func42,XJ⟩
 ·cases h';exact ⟨Tryz.f43,Tryz.func43,XK⟩
 ·cases h';exact ⟨Tryz.f57,Tryz.func57,XL⟩
 ·cases h';exact ⟨Tryz.f58,Tryz.func58,XM⟩
 ·cases h';exact ⟨Tryz.f59,Tryz.func59,XN⟩
 ·cases h';exact ⟨Tryz.f60,Tryz.func60,XO⟩
 ·cases h';exact ⟨Tryz.f61,Tryz.func61,XP⟩
 ·cases h';exact ⟨Tryz.f62,Tryz.func62,XQ⟩
 ·cases h';exact ⟨Tryz.f63,Tryz.func63,XR⟩
 ·cases h';exact ⟨Tryz.f64,Tryz.func64,XS⟩
 ·cases h';exact ⟨Tryz.f65,Tryz.func65,XT⟩
 ·cases h';exact ⟨Tryz.f66,Tryz.func66,XU⟩
 ·cases h';exact ⟨Tryz.f67,Tryz.func67,XV⟩
 ·cases h';exact ⟨Tryz.f68,Tryz.func68,XW⟩
 ·cases h';exact ⟨Tryz.f69,Tryz.func69,XX⟩
 ·cases h';exact ⟨Tryz.f70,Tryz.func70,XY⟩
 ·cases h';exact ⟨Tryz.f71,Tryz.func71,XZ⟩
 ·cases h';exact ⟨Tryz.f72,Tryz.func72,X0⟩
 ·cases h';exact ⟨Tryz.f73,Tryz.func73,X2⟩
 ·cases h';exact ⟨Tryz.f74,Tryz.func74,X3⟩
 ·cases h';exact ⟨Tryz.f75,Tryz.func75,X4⟩
 ·cases h';exact ⟨Tryz.f76,Tryz.func76,X5⟩
 ·cases h';exact ⟨Tryz.f77,Tryz.func77,X6⟩
 ·cases h';exact ⟨Tryz.f78,Tryz.func78,X7⟩
 ·cases h';exact ⟨Tryz.f92,Tryz.func92,X8⟩
 ·cases h';exact ⟨Tryz.f93,Tryz.func93,X9⟩
 ·cases h';exact ⟨Tryz.f94,Tryz.func94,Ya⟩
 ·cases h';exact ⟨Tryz.f95,Tryz.func95,Yb⟩
 ·cases h';exact ⟨Tryz.f96,Tryz.func96,Yc⟩
 ·cases h';exact ⟨Tryz.f97,Tryz.func97,Yd⟩
 ·cases h';exact ⟨Tryz.f98,Tryz.func98,Ye⟩
 ·cases h';exact ⟨Tryz.f99,Tryz.func99,Yf⟩
 ·cases h';exact ⟨Tryz.f100,Tryz.func100,Yg⟩
 ·cases h';exact ⟨Tryz.f101,Tryz.func101,Yh⟩
 ·cases h';exact ⟨Tryz.f102,Tryz.func102,Yi⟩
 ·cases h';exact ⟨Tryz.f103,Tryz.func103,Yj⟩
 ·cases h';exact ⟨Tryz.f114,Tryz.func114,Yk⟩
 ·cases h';exact ⟨Tryz.f115,Tryz.func115,Yl⟩
 ·cases h';exact ⟨Tryz.f116,Tryz.func116,Ym⟩
 ·cases h';exact ⟨Tryz.f117,Tryz.func117,Yn⟩
 ·cases h';exact ⟨Tryz.f118,Tryz.func118,Yo⟩
 ·cases h';exact ⟨Tryz.f119,Tryz.func119,Yp⟩
 ·cases h';exact ⟨Tryz.f120,Tryz.func120,Yq⟩
 ·cases h';exact ⟨Tryz.f127,Tryz.func127,Yr⟩
 ·cases h';exact ⟨Tryz.f128,Tryz.func128,Ys⟩
 ·cases h';exact ⟨Tryz.f129,Tryz.func129,Yt⟩
 ·cases h';exact ⟨Tryz.f130,Tryz.func130,Yu⟩
 ·cases h';exact ⟨Tryz.f131,Tryz.func131,Yv⟩
 ·cases h';exact ⟨Tryz.f132,Tryz.func132,Yw⟩
 ·cases h';exact ⟨Tryz.f133,Tryz.func133,Yx⟩
 ·cases h';exact ⟨Tryz.f135,Tryz.func135,Yy⟩
 ·cases h';exact ⟨Tryz.f136,Tryz.func136,Yz⟩
 ·cases h';exact ⟨Tryz.f137,Tryz.func137,YA⟩
 ·cases h';exact ⟨Tryz.f138,Tryz.func138,YB⟩
 ·cases h';exact ⟨Tryz.f139,Tryz.func139,YC⟩
 ·cases h';exact ⟨Tryz.f140,Tryz.func140,YD⟩
 ·cases h';exact ⟨Tryz.f141,Tryz.func141,YE⟩
 ·cases h';exact ⟨Tryz.f142,Tryz.func142,YF⟩
 ·cases h';exact ⟨Tryz.f143,Tryz.func143,YG⟩
 ·cases h';exact ⟨Tryz.f144,Tryz.func144,YH⟩
 ·cases h';exact ⟨Tryz.f145,Tryz.func145,YI⟩
 ·cases h';exact ⟨Tryz.f146,Tryz.func146,YJ⟩
 ·cases h';exact ⟨Tryz.f147,Tryz.func147,YK⟩
 ·cases h';exact ⟨Tryz.f148,Tryz.func148,YL⟩
 ·cases h';exact ⟨Tryz.f149,Tryz.func149,YM⟩
 ·cases h';exact ⟨Tryz.f150,Tryz.func150,YN⟩
 ·cases h';exact ⟨Tryz.f151,Tryz.func151,YO⟩
 ·cases h';exact ⟨Tryz.f169,Tryz.func169,YP⟩
 ·cases h';exact ⟨Tryz.f170,Tryz.func170,YQ⟩
 ·cases h';exact ⟨Tryz.f171,Tryz.func171,YR⟩
 ·cases h';exact ⟨Tryz.f172,Tryz.func172,YS⟩
 ·cases h';exact ⟨Tryz.f177,Tryz.func177,YT⟩
 ·cases h';exact ⟨Tryz.f178,Tryz.func178,YU⟩
 ·cases h';exact ⟨Tryz.f179,Tryz.func179,YV⟩
 ·cases h';exact ⟨Tryz.f180,Tryz.func180,YW⟩
 ·cases h';exact ⟨Tryz.f181,Tryz.func181,Ua⟩
 ·cases h';exact ⟨Tryz.f182,Tryz.func182,Ub⟩
 ·cases h';exact ⟨Tryz.f183,Tryz.func183,Uc⟩
 ·cases h'
theorem WG:Bj Tryz.prog tp:=by
 intro t m q h
 have h':M3 t m=some q:=h
 clear h
 unfold M3 at h'
 split at h'
 ·cases h';show _=true;kernel_rfl
 ·cases h';show _=true;kernel_rfl
 ·cases h';show _=true;kernel_rfl
 ·cases h';show _=true;kernel_rfl
 ·cases h';show _=true;kernel_rfl
 ·cases h';show _=true;kernel_rfl
 ·cases h';show _=true;kernel_rfl
 ·cases h';show _=true;kernel_rfl
 ·cases h';show _=true;kernel_rfl
 ·cases h'
end Go.Ab.T
