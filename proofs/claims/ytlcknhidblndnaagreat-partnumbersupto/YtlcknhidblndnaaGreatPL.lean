/- Part of a proof that a law returns true for every input of the second form's bound (no other condition). -/
import Derived.Test.YtlcknhidblndnaaGreatChecked
import Derived.Test.YtlcknhidblndnaaGreatPE
import Derived.Test.YtlcknhidblndnaaGreatPC
set_option linter.all false
/- The abstract machine's text is the program's. Written by a tool. -/
namespace Go.Ab.T
open Go Go.Ab Go.Proofs
def A6:Wr:=fun f=>wrs.contains f
theorem aN5:Aj Tryz.prog A6 Tryz.f6=some eK:=by kernel_rfl
theorem aN6:Aj Tryz.prog A6 Tryz.f10=some eL:=by kernel_rfl
theorem aN7:Aj Tryz.prog A6 Tryz.f11=some eM:=by kernel_rfl
theorem aN8:Aj Tryz.prog A6 Tryz.f12=some eO:=by kernel_rfl
theorem aN9:Aj Tryz.prog A6 Tryz.f13=some Oh:=by kernel_rfl
theorem aOa:Aj Tryz.prog A6 Tryz.f14=some Tq:=by kernel_rfl
theorem aOb:Aj Tryz.prog A6 Tryz.f15=some Tr:=by kernel_rfl
theorem aOc:Aj Tryz.prog A6 Tryz.f16=some Tt:=by kernel_rfl
theorem aOd:Aj Tryz.prog A6 Tryz.f17=some eP:=by kernel_rfl
theorem aOe:Aj Tryz.prog A6 Tryz.f18=some Tu:=by kernel_rfl
theorem vU:Aj Tryz.prog A6 Tryz.f19=some PY:=by kernel_rfl
theorem vV:Aj Tryz.prog A6 Tryz.f20=some PZ:=by kernel_rfl
theorem vW:Aj Tryz.prog A6 Tryz.f21=some Gl:=by kernel_rfl
theorem vX:Aj Tryz.prog A6 Tryz.f22=some P1:=by kernel_rfl
theorem vY:Aj Tryz.prog A6 Tryz.f23=some P5:=by kernel_rfl
theorem vZ:Aj Tryz.prog A6 Tryz.f24=some P6:=by kernel_rfl
theorem wA:Aj Tryz.prog A6 Tryz.f25=some P7:=by kernel_rfl
theorem wB:Aj Tryz.prog A6 Tryz.f26=some P8:=by kernel_rfl
theorem wC:Aj Tryz.prog A6 Tryz.f27=some LP:=by kernel_rfl
theorem wD:Aj Tryz.prog A6 Tryz.f28=some P9:=by kernel_rfl
theorem wE:Aj Tryz.prog A6 Tryz.f29=some Qa:=by kernel_rfl
theorem wF:Aj Tryz.prog A6 Tryz.f30=some Qb:=by kernel_rfl
theorem wG:Aj Tryz.prog A6 Tryz.f31=some Qc:=by kernel_rfl
theorem wH:Aj Tryz.prog A6 Tryz.f32=some Qd:=by kernel_rfl
theorem wI:Aj Tryz.prog A6 Tryz.f33=some Qe:=by kernel_rfl
theorem wJ:Aj Tryz.prog A6 Tryz.f34=some Qf:=by kernel_rfl
theorem wK:Aj Tryz.prog A6 Tryz.f35=some Qg:=by kernel_rfl
theorem wL:Aj Tryz.prog A6 Tryz.f36=some CV:=by kernel_rfl
theorem wM:Aj Tryz.prog A6 Tryz.f37=some Qh:=by kernel_rfl
theorem wN:Aj Tryz.prog A6 Tryz.f38=some Qi:=by kernel_rfl
theorem wO:Aj Tryz.prog A6 Tryz.f39=some Qj:=by kernel_rfl
theorem wP:Aj Tryz.prog A6 Tryz.f40=some Qk:=by kernel_rfl
theorem wQ:Aj Tryz.prog A6 Tryz.f41=some Ql:=by kernel_rfl
theorem wR:Aj Tryz.prog A6 Tryz.f42=some Qm:=by kernel_rfl
theorem wS:Aj Tryz.prog A6 Tryz.f43=some Qn:=by kernel_rfl
theorem wT:Aj Tryz.prog A6 Tryz.f44=some Qo:=by kernel_rfl
theorem wU:Aj Tryz.prog A6 Tryz.f45=some Fr:=by kernel_rfl
theorem wV:Aj Tryz.prog A6 Tryz.f46=some Gm:=by kernel_rfl
theorem wW:Aj Tryz.prog A6 Tryz.f47=some LQ:=by kernel_rfl
theorem wX:Aj Tryz.prog A6 Tryz.f48=some Qp:=by kernel_rfl
theorem wY:Aj Tryz.prog A6 Tryz.f49=some Qq:=by kernel_rfl
theorem wZ:Aj Tryz.prog A6 Tryz.f50=some LR:=by kernel_rfl
theorem xA:Aj Tryz.prog A6 Tryz.f51=some Qr:=by kernel_rfl
theorem xB:Aj Tryz.prog A6 Tryz.f52=some Qs:=by kernel_rfl
theorem xC:Aj Tryz.prog A6 Tryz.f53=some Qt:=by kernel_rfl
theorem xD:Aj Tryz.prog A6 Tryz.f54=some Qu:=by kernel_rfl
theorem xE:Aj Tryz.prog A6 Tryz.f55=some Qv:=by kernel_rfl
theorem xF:Aj Tryz.prog A6 Tryz.f56=some Qw:=by kernel_rfl
theorem xG:Aj Tryz.prog A6 Tryz.f57=some LS:=by kernel_rfl
theorem xI:Aj Tryz.prog A6 Tryz.f58=some LT:=by kernel_rfl
theorem xJ:Aj Tryz.prog A6 Tryz.f59=some Qx:=by kernel_rfl
theorem xK:Aj Tryz.prog A6 Tryz.f60=some Qy:=by kernel_rfl
theorem xL:Aj Tryz.prog A6 Tryz.f61=some LU:=by kernel_rfl
theorem xM:Aj Tryz.prog A6 Tryz.f62=some LV:=by kernel_rfl
theorem xN:Aj Tryz.prog A6 Tryz.f63=some Qz:=by kernel_rfl
theorem xO:Aj Tryz.prog A6 Tryz.f64=some QA:=by kernel_rfl
theorem xP:Aj Tryz.prog A6 Tryz.f65=some QB:=by kernel_rfl
theorem xQ:Aj Tryz.prog A6 Tryz.f66=some QC:=by kernel_rfl
theorem xR:Aj Tryz.prog A6 Tryz.f67=some QD:=by kernel_rfl
theorem xS:Aj Tryz.prog A6 Tryz.f68=some LW:=by kernel_rfl
theorem xU:Aj Tryz.prog A6 Tryz.f69=some CW:=by kernel_rfl
theorem xV:Aj Tryz.prog A6 Tryz.f70=some Ia:=by kernel_rfl
theorem xW:Aj Tryz.prog A6 Tryz.f71=some QE:=by kernel_rfl
theorem xX:Aj Tryz.prog A6 Tryz.f72=some QF:=by kernel_rfl
theorem xY:Aj Tryz.prog A6 Tryz.f73=some QG:=by kernel_rfl
theorem xZ:Aj Tryz.prog A6 Tryz.f74=some Gn:=by kernel_rfl
theorem yA:Aj Tryz.prog A6 Tryz.f75=some QH:=by kernel_rfl
theorem yB:Aj Tryz.prog A6 Tryz.f76=some QI:=by kernel_rfl
theorem yC:Aj Tryz.prog A6 Tryz.f77=some QJ:=by kernel_rfl
theorem yD:Aj Tryz.prog A6 Tryz.f78=some QK:=by kernel_rfl
theorem yE:Aj Tryz.prog A6 Tryz.f79=some QL:=by kernel_rfl
theorem yF:Aj Tryz.prog A6 Tryz.f80=some QM:=by kernel_rfl
theorem yG:Aj Tryz.prog A6 Tryz.f81=some QN:=by kernel_rfl
theorem yH:Aj Tryz.prog A6 Tryz.f82=some A9:=by kernel_rfl
theorem yI:Aj Tryz.prog A6 Tryz.f83=some QO:=by kernel_rfl
theorem yJ:Aj Tryz.prog A6 Tryz.f84=some QP:=by kernel_rfl
theorem yK:Aj Tryz.prog A6 Tryz.f85=some QQ:=by kernel_rfl
theorem yL:Aj Tryz.prog A6 Tryz.f86=some QR:=by kernel_rfl
theorem yM:Aj Tryz.prog A6 Tryz.f87=some QS:=by kernel_rfl
theorem yN:Aj Tryz.prog A6 Tryz.f88=some QT:=by kernel_rfl
theorem yO:Aj Tryz.prog A6 Tryz.f89=some QU:=by kernel_rfl
theorem yP:Aj Tryz.prog A6 Tryz.f90=some QV:=by kernel_rfl
theorem yQ:Aj Tryz.prog A6 Tryz.f91=some QW:=by kernel_rfl
theorem yR:Aj Tryz.prog A6 Tryz.f92=some QX:=by kernel_rfl
theorem yS:Aj Tryz.prog A6 Tryz.f93=some QY:=by kernel_rfl
theorem yT:Aj Tryz.prog A6 Tryz.f94=some QZ:=by kernel_rfl
theorem yU:Aj Tryz.prog A6 Tryz.f95=some Q0:=by kernel_rfl
theorem yV:Aj Tryz.prog A6 Tryz.f96=some Q4:=by kernel_rfl
theorem yW:Aj Tryz.prog A6 Tryz.f97=some LX:=by kernel_rfl
theorem yX:Aj Tryz.prog A6 Tryz.f98=some Ib:=by kernel_rfl
theorem yY:Aj Tryz.prog A6 Tryz.f99=some Q5:=by kernel_rfl
theorem yZ:Aj Tryz.prog A6 Tryz.f100=some Gp:=by kernel_rfl
theorem zA:Aj Tryz.prog A6 Tryz.f101=some Ea:=by kernel_rfl
theorem zB:Aj Tryz.prog A6 Tryz.f102=some Ic:=by kernel_rfl
theorem zC:Aj Tryz.prog A6 Tryz.f103=some Q6:=by kernel_rfl
theorem zD:Aj Tryz.prog A6 Tryz.f104=some Q7:=by kernel_rfl
theorem zE:Aj Tryz.prog A6 Tryz.f105=some CC:=by kernel_rfl
theorem zF:Aj Tryz.prog A6 Tryz.f106=some Q8:=by kernel_rfl
theorem zG:Aj Tryz.prog A6 Tryz.f107=some Q9:=by kernel_rfl
theorem zH:Aj Tryz.prog A6 Tryz.f108=some Id:=by kernel_rfl
theorem eT:Aj Tryz.prog A6 Tryz.f109=some KY:=by kernel_rfl
theorem eU:Aj Tryz.prog A6 Tryz.f110=some KZ:=by kernel_rfl
theorem eV:Aj Tryz.prog A6 Tryz.f111=some K0:=by kernel_rfl
theorem eW:Aj Tryz.prog A6 Tryz.f112=some K2:=by kernel_rfl
theorem eY:Aj Tryz.prog A6 Tryz.f113=some K3:=by kernel_rfl
theorem eZ:Aj Tryz.prog A6 Tryz.f114=some K4:=by kernel_rfl
theorem fA:Aj Tryz.prog A6 Tryz.f115=some K5:=by kernel_rfl
theorem fB:Aj Tryz.prog A6 Tryz.f116=some K6:=by kernel_rfl
theorem fC:Aj Tryz.prog A6 Tryz.f117=some K7:=by kernel_rfl
theorem fD:Aj Tryz.prog A6 Tryz.f118=some K8:=by kernel_rfl
theorem fE:Aj Tryz.prog A6 Tryz.f119=some K9:=by kernel_rfl
theorem fF:Aj Tryz.prog A6 Tryz.f120=some FQ:=by kernel_rfl
theorem fG:Aj Tryz.prog A6 Tryz.f121=some Hu:=by kernel_rfl
theorem fH:Aj Tryz.prog A6 Tryz.f122=some La:=by kernel_rfl
theorem fI:Aj Tryz.prog A6 Tryz.f123=some Lb:=by kernel_rfl
theorem fJ:Aj Tryz.prog A6 Tryz.f124=some Lc:=by kernel_rfl
theorem fK:Aj Tryz.prog A6 Tryz.f125=some Ld:=by kernel_rfl
theorem fL:Aj Tryz.prog A6 Tryz.f126=some Le:=by kernel_rfl
theorem fM:Aj Tryz.prog A6 Tryz.f127=some Lf:=by kernel_rfl
theorem fN:Aj Tryz.prog A6 Tryz.f128=some Hv:=by kernel_rfl
theorem fO:Aj Tryz.prog A6 Tryz.f129=some Lg:=by kernel_rfl
theorem fP:Aj Tryz.prog A6 Tryz.f130=some Lh:=by kernel_rfl
theorem fQ:Aj Tryz.prog A6 Tryz.f131=some Li:=by kernel_rfl
theorem fR:Aj Tryz.prog A6 Tryz.f132=some Lj:=by kernel_rfl
theorem fS:Aj Tryz.prog A6 Tryz.f133=some Lk:=by kernel_rfl
theorem fT:Aj Tryz.prog A6 Tryz.f134=some Ll:=by kernel_rfl
theorem fU:Aj Tryz.prog A6 Tryz.f135=some Lm:=by kernel_rfl
theorem fV:Aj Tryz.prog A6 Tryz.f136=some Ln:=by kernel_rfl
theorem fW:Aj Tryz.prog A6 Tryz.f137=some Lo:=by kernel_rfl
theorem fX:Aj Tryz.prog A6 Tryz.f138=some Lp:=by kernel_rfl
theorem fY:Aj Tryz.prog A6 Tryz.f139=some Lq:=by kernel_rfl
theorem fZ:Aj Tryz.prog A6 Tryz.f140=some Lr:=by kernel_rfl
theorem gA:Aj Tryz.prog A6 Tryz.f141=some Ls:=by kernel_rfl
theorem gB:Aj Tryz.prog A6 Tryz.f142=some Lt:=by kernel_rfl
theorem gC:Aj Tryz.prog A6 Tryz.f143=some Lu:=by kernel_rfl
theorem gD:Aj Tryz.prog A6 Tryz.f144=some Lv:=by kernel_rfl
theorem gE:Aj Tryz.prog A6 Tryz.f145=some Lw:=by kernel_rfl
theorem gF:Aj Tryz.prog A6 Tryz.f146=some Lx:=by kernel_rfl
theorem gG:Aj Tryz.prog A6 Tryz.f147=some Ly:=by kernel_rfl
theorem gH:Aj Tryz.prog A6 Tryz.f148=some Lz:=by kernel_rfl
theorem gI:Aj Tryz.prog A6 Tryz.f149=some LA:=by kernel_rfl
theorem gJ:Aj Tryz.prog A6 Tryz.f150=some LB:=by kernel_rfl
theorem gK:Aj Tryz.prog A6 Tryz.f151=some LC:=by kernel_rfl
theorem gL:Aj Tryz.prog A6 Tryz.f169=some LD:=by kernel_rfl
theorem gM:Aj Tryz.prog A6 Tryz.f170=some LE:=by kernel_rfl
theorem gN:Aj Tryz.prog A6 Tryz.f171=some LF:=by kernel_rfl
theorem gO:Aj Tryz.prog A6 Tryz.f172=some FR:=by kernel_rfl
theorem gP:Aj Tryz.prog A6 Tryz.f173=some LG:=by kernel_rfl
theorem gQ:Aj Tryz.prog A6 Tryz.f174=some LH:=by kernel_rfl
theorem gR:Aj Tryz.prog A6 Tryz.f175=some Hw:=by kernel_rfl
theorem gT:Aj Tryz.prog A6 Tryz.f176=some LI:=by kernel_rfl
theorem gU:Aj Tryz.prog A6 Tryz.f177=some LJ:=by kernel_rfl
theorem gV:Aj Tryz.prog A6 Tryz.f178=some LK:=by kernel_rfl
theorem gW:Aj Tryz.prog A6 Tryz.f179=some LL:=by kernel_rfl
theorem gX:Aj Tryz.prog A6 Tryz.f180=some LM:=by kernel_rfl
theorem gY:Aj Tryz.prog A6 Tryz.f181=some LN:=by kernel_rfl
theorem gZ:Aj Tryz.prog A6 Tryz.f182=some LO:=by kernel_rfl
theorem bBA:Aj Tryz.prog A6 Tryz.f183=some aAC:=by kernel_rfl
theorem bA1:aLf Tryz.prog A6 tp:=by
 intro f tf h
 have h':aOf f=some tf:=h
 clear h
 unfold aOf at h'
 split at h'
 ·cases h';exact ⟨Tryz.f6,Tryz.func6,aN5⟩
 ·cases h';exact ⟨Tryz.f10,Tryz.func10,aN6⟩
 ·cases h';exact ⟨Tryz.f11,Tryz.func11,aN7⟩
 ·cases h';exact ⟨Tryz.f12,Tryz.func12,aN8⟩
 ·cases h';exact ⟨Tryz.f13,Tryz.func13,aN9⟩
 ·cases h';exact ⟨Tryz.f14,Tryz.func14,aOa⟩
 ·cases h';exact ⟨Tryz.f15,Tryz.func15,aOb⟩
 ·cases h';exact ⟨Tryz.f16,Tryz.func16,aOc⟩
 ·cases h';exact ⟨Tryz.f17,Tryz.func17,aOd⟩
 ·cases h';exact ⟨Tryz.f18,Tryz.func18,aOe⟩
 ·cases h';exact ⟨Tryz.f19,Tryz.func19,vU⟩
 ·cases h';exact ⟨Tryz.f20,Tryz.func20,vV⟩
 ·cases h';exact ⟨Tryz.f21,Tryz.func21,vW⟩
 ·cases h';exact ⟨Tryz.f22,Tryz.func22,vX⟩
 ·cases h';exact ⟨Tryz.f23,Tryz.func23,vY⟩
 ·cases h';exact ⟨Tryz.f24,Tryz.func24,vZ⟩
 ·cases h';exact ⟨Tryz.f25,Tryz.func25,wA⟩
 ·cases h';exact ⟨Tryz.f26,Tryz.func26,wB⟩
 ·cases h';exact ⟨Tryz.f27,Tryz.func27,wC⟩
 ·cases h';exact ⟨Tryz.f28,Tryz.func28,wD⟩
 ·cases h';exact ⟨Tryz.f29,Tryz.func29,wE⟩
 ·cases h';exact ⟨Tryz.f30,Tryz.func30,wF⟩
 ·cases h';exact ⟨Tryz.f31,Tryz.func31,wG⟩
 ·cases h';exact ⟨Tryz.f32,Tryz.func32,wH⟩
 ·cases h';exact ⟨Tryz.f33,Tryz.func33,wI⟩
 ·cases h';exact ⟨Tryz.f34,Tryz.func34,wJ⟩
 ·cases h';exact ⟨Tryz.f35,Tryz.func35,wK⟩
 ·cases h';exact ⟨Tryz.f36,Tryz.func36,wL⟩
 ·cases h';exact ⟨Tryz.f37,Tryz.func37,wM⟩
 ·cases h';exact ⟨Tryz.f38,Tryz.func38,wN⟩
 ·cases h';exact ⟨Tryz.f39,Tryz.func39,wO⟩
 ·cases h';exact ⟨Tryz.f40,Tryz.func40,wP⟩
 ·cases h';exact ⟨Tryz.f41,Tryz.func41,wQ⟩
 ·cases h';exact ⟨Tryz.f42,Tryz.func42,wR⟩
 ·cases h';exact ⟨Tryz.f43,Tryz.func43,wS⟩
 ·cases h';exact ⟨Tryz.f44,Tryz.func44,wT⟩
 ·cases h';exact ⟨Tryz.f45,Tryz.func45,wU⟩
 ·cases h';exact ⟨Tryz.f46,Tryz.func46,wV⟩
 ·cases h';exact ⟨Tryz.f47,Tryz.func47,wW⟩
 ·cases h';exact ⟨Tryz.f48,Tryz.func48,wX⟩
 ·cases h';exact ⟨Tryz.f49,Tryz.func49,wY⟩
 ·cases h';exact ⟨Tryz.f50,Tryz.func50,wZ⟩
 ·cases h';exact ⟨Tryz.f51,Tryz.func51,xA⟩
 ·cases h';exact ⟨Tryz.f52,Tryz.func52,xB⟩
 ·cases h';exact ⟨Tryz.f53,Tryz.func53,xC⟩
 ·cases h';exact ⟨Tryz.f54,Tryz.func54,xD⟩
 ·cases h';exact ⟨Tryz.f55,Tryz.func55,xE⟩
 ·cases h';exact ⟨Tryz.f56,Tryz.func56,xF⟩
 ·cases h';exact ⟨Tryz.f57,Tryz.func57,xG⟩
 ·cases h';exact ⟨Tryz.f58,Tryz.func58,xI⟩
 ·cases h';exact ⟨Tryz.f59,Tryz.func59,xJ⟩
 ·cases h';exact ⟨Tryz.f60,Tryz.func60,xK⟩
 ·cases h';exact ⟨Tryz.f61,Tryz.func61,xL⟩
 ·cases h';exact ⟨Tryz.f62,Tryz.func62,xM⟩
 ·cases h';exact ⟨Tryz.f63,Tryz.func63,xN⟩
 ·cases h';exact ⟨Tryz.f64,Tryz.func64,xO⟩
 ·cases h';exact ⟨Tryz.f65,Tryz.func65,xP⟩
 ·cases h';exact ⟨Tryz.f66,Tryz.func66,xQ⟩
 ·cases h';exact ⟨Tryz.f67,Tryz.func67,xR⟩
 ·cases h';exact ⟨Tryz.f68,Tryz.func68,xS⟩
 ·cases h';exact ⟨Tryz.f69,Tryz.func69,xU⟩
 ·cases h';exact ⟨Tryz.f70,Tryz.func70,xV⟩
 ·cases h';exact ⟨Tryz.f71,Tryz.func71,xW⟩
 ·cases h';exact ⟨Tryz.f72,Tryz.func72,xX⟩
 ·cases h';exact ⟨Tryz.f73,Tryz.func73,xY⟩
 ·cases h';exact ⟨Tryz.f74,Tryz.func74,xZ⟩
 ·cases h';exact ⟨Tryz.f75,Tryz.func75,yA⟩
 ·cases h';exact ⟨Tryz.f76,Tryz.func76,yB⟩
 ·cases h';exact ⟨Tryz.f77,Tryz.func77,yC⟩
 ·cases h';exact ⟨Tryz.f78,Tryz.func78,yD⟩
 ·cases h';exact ⟨Tryz.f79,Tryz.func79,yE⟩
 ·cases h';exact ⟨Tryz.f80,Tryz.func80,yF⟩
 ·cases h';exact ⟨Tryz.f81,Tryz.func81,yG⟩
 ·cases h';exact ⟨Tryz.f82,Tryz.func82,yH⟩
 ·cases h';exact ⟨Tryz.f83,Tryz.func83,yI⟩
 ·cases h';exact ⟨Tryz.f84,Tryz.func84,yJ⟩
 ·cases h';exact ⟨Tryz.f85,Tryz.func85,yK⟩
 ·cases h';exact ⟨Tryz.f86,Tryz.func86,yL⟩
 ·cases h';exact ⟨Tryz.f87,Tryz.func87,yM⟩
 ·cases h';exact ⟨Tryz.f88,Tryz.func88,yN⟩
 ·cases h';exact ⟨Tryz.f89,Tryz.func89,yO⟩
 ·cases h';exact ⟨Tryz.f90,Tryz.func90,yP⟩
 ·cases h';exact ⟨Tryz.f91,Tryz.func91,yQ⟩
 ·cases h';exact ⟨Tryz.f92,Tryz.func92,yR⟩
 ·cases h';exact ⟨Tryz.f93,Tryz.func93,yS⟩
 ·cases h';exact ⟨Tryz.f94,Tryz.func94,yT⟩
 ·cases h';exact ⟨Tryz.f95,Tryz.func95,yU⟩
 ·cases h';exact ⟨Tryz.f96,Tryz.func96,yV⟩
 ·cases h';exact ⟨Tryz.f97,Tryz.func97,yW⟩
 ·cases h';exact ⟨Tryz.f98,Tryz.func98,yX⟩
 ·cases h';exact ⟨Tryz.f99,Tryz.func99,yY⟩
 ·cases h';exact ⟨Tryz.f100,Tryz.func100,yZ⟩
 ·cases h';exact ⟨Tryz.f101,Tryz.func101,zA⟩
 ·cases h';exact ⟨Tryz.f102,Tryz.func102,zB⟩
 ·cases h';exact ⟨Tryz.f103,Tryz.func103,zC⟩
 ·cases h';exact ⟨Tryz.f104,Tryz.func104,zD⟩
 ·cases h';exact ⟨Tryz.f105,Tryz.func105,zE⟩
 ·cases h';exact ⟨Tryz.f106,Tryz.func106,zF⟩
 ·cases h';exact ⟨Tryz.f107,Tryz.func107,zG⟩
 ·cases h';exact ⟨Tryz.f108,Tryz.func108,zH⟩
 ·cases h';exact ⟨Tryz.f109,Tryz.func109,eT⟩
 ·cases h';exact ⟨Tryz.f110,Tryz.func110,eU⟩
 ·cases h';exact ⟨Tryz.f111,Tryz.func111,eV⟩
 ·cases h';exact ⟨Tryz.f112,Tryz.func112,eW⟩
 ·cases h';exact ⟨Tryz.f113,Tryz.func113,eY⟩
 ·cases h';exact ⟨Tryz.f114,Tryz.func114,eZ⟩
 ·cases h';exact ⟨Tryz.f115,Tryz.func115,fA⟩
 ·cases h';exact ⟨Tryz.f116,Tryz.func116,fB⟩
 ·cases h';exact ⟨Tryz.f117,Tryz.func117,fC⟩
 ·cases h';exact ⟨Tryz.f118,Tryz.func118,fD⟩
 ·cases h';exact ⟨Tryz.f119,Tryz.func119,fE⟩
 ·cases h';exact ⟨Tryz.f120,Tryz.func120,fF⟩
 ·cases h';exact ⟨Tryz.f121,Tryz.func121,fG⟩
 ·cases h';exact ⟨Tryz.f122,Tryz.func122,fH⟩
 ·cases h';exact ⟨Tryz.f123,Tryz.func123,fI⟩
 ·cases h';exact ⟨Tryz.f124,Tryz.func124,fJ⟩
 ·cases h';exact ⟨Tryz.f125,Tryz.func125,fK⟩
 ·cases h';exact ⟨Tryz.f126,Tryz.func126,fL⟩
 ·cases h';exact ⟨Tryz.f127,Tryz.func127,fM⟩
 ·cases h';exact ⟨Tryz.f128,Tryz.func128,fN⟩
 ·cases h';exact ⟨Tryz.f129,Tryz.func129,fO⟩
 ·cases h';exact ⟨Tryz.f130,Tryz.func130,fP⟩
 ·cases h';exact ⟨Tryz.f131,Tryz.func131,fQ⟩
 ·cases h';exact ⟨Tryz.f132,Tryz.func132,fR⟩
 ·cases h';exact ⟨Tryz.f133,Tryz.func133,fS⟩
 ·cases h';exact ⟨Tryz.f134,Tryz.func134,fT⟩
 ·cases h';exact ⟨Tryz.f135,Tryz.func135,fU⟩
 ·cases h';exact ⟨Tryz.f136,Tryz.func136,fV⟩
 ·cases h';exact ⟨Tryz.f137,Tryz.func137,fW⟩
 ·cases h';exact ⟨Tryz.f138,Tryz.func138,fX⟩
 ·cases h';exact ⟨Tryz.f139,Tryz.func139,fY⟩
 ·cases h';exact ⟨Tryz.f140,Tryz.func140,fZ⟩
 ·cases h';exact ⟨Tryz.f141,Tryz.func141,gA⟩
 ·cases h';exact ⟨Tryz.f142,Tryz.func142,gB⟩
 ·cases h';exact ⟨Tryz.f143,Tryz.func143,gC⟩
 ·cases h';exact ⟨Tryz.f144,Tryz.func144,gD⟩
 ·cases h';exact ⟨Tryz.f145,Tryz.func145,gE⟩
 ·cases h';exact ⟨Tryz.f146,Tryz.func146,gF⟩
 ·cases h';exact ⟨Tryz.f147,Tryz.func147,gG⟩
 ·cases h';exact ⟨Tryz.f148,Tryz.func148,gH⟩
 ·cases h';exact ⟨Tryz.f149,Tryz.func149,gI⟩
 ·cases h';exact ⟨Tryz.f150,Tryz.func150,gJ⟩
 ·cases h';exact ⟨Tryz.f151,Tryz.func151,gK⟩
 ·cases h';exact ⟨Tryz.f169,Tryz.func169,gL⟩
 ·cases h';exact ⟨Tryz.f170,Tryz.func170,gM⟩
 ·cases h';exact ⟨Tryz.f171,Tryz.func171,gN⟩
 ·cases h';exact ⟨Tryz.f172,Tryz.func172,gO⟩
 ·cases h';exact ⟨Tryz.f173,Tryz.func173,gP⟩
 ·cases h';exact ⟨Tryz.f174,Tryz.func174,gQ⟩
 ·cases h';exact ⟨Tryz.f175,Tryz.func175,gR⟩
 ·cases h';exact ⟨Tryz.f176,Tryz.func176,gT⟩
 ·cases h';exact ⟨Tryz.f177,Tryz.func177,gU⟩
 ·cases h';exact ⟨Tryz.f178,Tryz.func178,gV⟩
 ·cases h';exact ⟨Tryz.f179,Tryz.func179,gW⟩
 ·cases h';exact ⟨Tryz.f180,Tryz.func180,gX⟩
 ·cases h';exact ⟨Tryz.f181,Tryz.func181,gY⟩
 ·cases h';exact ⟨Tryz.f182,Tryz.func182,gZ⟩
 ·cases h';exact ⟨Tryz.f183,Tryz.func183,bBA⟩
 ·cases h'
theorem tT:B3 Tryz.prog tp:=by
 intro t m q h
 have h':Tv t m=some q:=h
 clear h
 unfold Tv at h'
 split at h'
 ·cases h';show _=true;kernel_rfl
 ·cases h';show _=true;kernel_rfl
 ·cases h';show _=true;kernel_rfl
 ·cases h';show _=true;kernel_rfl
 ·cases h';show _=true;kernel_rfl
 ·cases h';show _=true;kernel_rfl
 ·cases h';show _=true;kernel_rfl
 ·cases h';show _=true;kernel_rfl
 ·cases h';show _=true;kernel_rfl
 ·cases h';show _=true;kernel_rfl
 ·cases h';show _=true;kernel_rfl
 ·cases h';show _=true;kernel_rfl
 ·cases h';show _=true;kernel_rfl
 ·cases h'
end Go.Ab.T
