/- Part of a proof that a law returns true for every input of the second form's bound (no other condition). -/
import Derived.JoinedCond
import Derived.ChangeArms
import Derived.WalkKit
import Derived.ProofKit
import Derived.OpenShut
import Derived.ShutString
import Derived.ChangeOld
import Derived.SizedLaws
import Derived.Test.YtlcknhidblndnaaGreatPG
import Derived.Test.YtlcknhidblndnaaGreatPC
import Derived.Test.YtlcknhidblndnaaGreatPD
set_option linter.all false
namespace Go.Ab.T
open Go Go.Ab
set_option maxHeartbeats 8000000
def PC.act (c:PC) (k:Int):Int:=ET c.h0 c.h1 c.h2 c.h3 c.h4 k
def GR (s:PS) (i:Nat) (n:Int):PS:={ s with all:=s.all.set i ⟨(nth s.all i).r,n⟩ }
def Fu (c:PC) (s:PS) (t:Int) (i:Nat) (pc k:Int):PS:=
 let s1:={ GR s i pc with fl:=s.fl++[⟨t,i,k⟩],halt:=decide (c.act k=2) }
 if c.act k=0 then GR s1 i (IntKind.wrap .i64 (pc+4)) else if c.act k=1 then QI c s1 else s1
structure PG (c:PC):Prop where
 p:c.p<c.c.parts.length
 l:1≤(nth c.c.parts c.p).procs.length∧(nth c.c.parts c.p).procs.length≤3
section
variable {b pp tb lg i:Nat} {h h':AH} {w a f:V} {c:PC} {s:PS} {t pc k:Int}
theorem PA.setF {F:List FT} {f':V} {st:Bool} (p:PA b h pp tb lg w a f c s) (x:Wr h (fun j=>j=lg∨(AI f=false∧j=Aq f)) h') (gl:h'.get lg=some ⟨7,[[.i .i64 c.h0,.i .i64 c.h1,.i .i64 c.h2,.i .i64 c.h3,.i .i64 c.h4,f',.b st]]⟩) (sf:Sl b h' 3 f' (F.map FT.enc)) (hne:Aq f'≠lg) (ho:(AI f=false∧Aq f'=Aq f)∨h.next≤Aq f') (hl:F.length≤s.clk):PA b h' pp tb lg w a f' c { s with fl:=F,halt:=st }:=by
 obtain ⟨d1,d2,d3⟩:=p.d
 obtain ⟨w1,w2,w3⟩:=p.dw
 obtain ⟨a1,a2,a3,a4⟩:=p.da
 have ff:AI f=false→Aq f≠pp∧Aq f≠tb∧Aq f≠lg∧Aq f≠Aq w∧Aq f≠Aq a:=fun q=>p.df.resolve_left (by rw [q];decide)
 have nw:¬ (Aq w=lg∨(AI f=false∧Aq w=Aq f)):=fun e=>e.elim w3 (fun e=>(ff e.1).2.2.2.1 e.2.symm)
 have na:¬ (Aq a=lg∨(AI f=false∧Aq a=Aq f)):=fun e=>e.elim a3 (fun e=>(ff e.1).2.2.2.2 e.2.symm)
 have lw:=Er p.sw
 have la:=Er p.sa
 have lnw:AI w=false:=by
  have:=p.l1.1
  rcases p.sw with ⟨_,z⟩ | ⟨_,_,_,_,rfl,_⟩
  ·rw [List.map_eq_nil_iff.1 z] at this;cases this
  ·rfl
 have lna:AI a=false:=by
  have:=p.l1.1
  rcases p.sa with ⟨_,z⟩ | ⟨_,_,_,_,rfl,_⟩
  ·rw [← p.l2,List.map_eq_nil_iff.1 z] at this;cases this
  ·rfl
 have lw:=lw.resolve_left (by rw [lnw];decide)
 have la:=la.resolve_left (by rw [lna];decide)
 have np:=p.np
 refine ⟨(x.get _ p.np.1 (fun e=>e.elim d2 (fun e=>(ff e.1).1 e.2.symm))).trans p.gp,(x.get _ p.np.2.1 (fun e=>e.elim d3 (fun e=>(ff e.1).2.1 e.2.symm))).trans p.gt,gl,
  CZ p.sw x (.inr nw),CZ p.sa x (.inr na),sf,by rw [x.lim];exact p.lim,p.bp,⟨Nat.lt_of_lt_of_le p.np.1 x.next,Nat.lt_of_lt_of_le p.np.2.1 x.next,Nat.lt_of_lt_of_le p.np.2.2 x.next⟩,p.d,p.dw,p.da,.inr ?_,p.l1,p.l2,p.l3,p.l4,p.l5,⟨hl,p.l6.2⟩⟩
 rcases ho with ⟨q,e⟩ | e
 ·rw [e];exact ff q
 ·exact ⟨by omega,by omega,hne,by omega,by omega⟩
theorem PA.setB {L:List BL} {a':V} (p:PA b h pp tb lg w a f c s) (x:Wr h (fun j=>j=pp∨j=Aq w) h') (gp:h'.get pp=some ⟨26,[Ar c tb lg a' (List.replicate 16 0) s.clk]⟩) (sw:Sl b h' 3 w ((Bt s.procs).map PR.enc)) (sa:Sl h.next h' 9 a' ((ID L).map ST.enc)) (hL:L.length=s.procs.length):PA b h' pp tb lg w a' f c { s with procs:=Bt s.procs,all:=ID L,mem:=List.replicate 16 0 }:=by
 obtain ⟨d1,d2,d3⟩:=p.d
 obtain ⟨w1,w2,w3⟩:=p.dw
 have np:=p.np
 have bp:=p.bp
 have lw:Aq w<h.next:=by
  have:=p.l1.1
  rcases p.sw with ⟨_,z⟩ | ⟨_,_,_,_,rfl,_,_,_,_,q,_⟩
  ·rw [List.map_eq_nil_iff.1 z] at this;cases this
  ·exact q
 have lf:=Er p.sf
 have la:h.next≤Aq a':=(BI sa).resolve_left (by
  have:=p.l1.1
  rcases sa with ⟨_,z⟩ | ⟨_,_,_,_,rfl,_⟩
  ·have z:=congrArg List.length z;simp [ID] at z;rw [← hL,z] at this;cases this
  ·simp [AI])
 refine ⟨gp,(x.get _ np.2.1 (fun e=>e.elim (fun e=>d1 e.symm) (fun e=>w2 e.symm))).trans p.gt,(x.get _ np.2.2 (fun e=>e.elim (fun e=>d2 e.symm) (fun e=>w3 e.symm))).trans p.gl,sw,Sl.weak sa (by omega),CZ p.sf x (p.df.imp (fun z=>z) (fun z e=>e.elim z.1 z.2.2.2.1)),by rw [x.lim];exact p.lim,bp,⟨Nat.lt_of_lt_of_le np.1 x.next,Nat.lt_of_lt_of_le np.2.1 x.next,Nat.lt_of_lt_of_le np.2.2 x.next⟩,p.d,p.dw,⟨by omega,by omega,by omega,by omega⟩, ?_,by simpa [Bt] using p.l1,by simp [ID,Bt,hL],by simp,fun y hy=>?_,fun z hz=>?_,p.l6⟩
 ·rcases p.df with z | z
  ·exact .inl z
  ·rcases lf with q | q
   ·exact .inl q
   ·exact .inr ⟨z.1,z.2.1,z.2.2.1,z.2.2.2.1,by omega⟩
 ·unfold ID at hy
  obtain ⟨q,_,rfl⟩:=List.mem_map.1 hy
  exact ⟨by simp,fun z hz=>by rw [(List.mem_replicate.1 hz).2];omega⟩
 ·rw [(List.mem_replicate.1 hz).2];omega
theorem PA.low (p:PA b h pp tb lg w a f c s):b≤Aq w∧b≤Aq a∧(AI f=true∨b≤Aq f):=by
 have l1:=p.l1.1
 refine ⟨(BI p.sw).resolve_left ?_,(BI p.sa).resolve_left ?_,BI p.sf⟩
 ·rcases p.sw with ⟨_,z⟩ | ⟨_,_,_,_,rfl,_⟩
  ·rw [List.map_eq_nil_iff.1 z] at l1;cases l1
  ·simp [AI]
 ·rcases p.sa with ⟨_,z⟩ | ⟨_,_,_,_,rfl,_⟩
  ·rw [← p.l2,List.map_eq_nil_iff.1 z] at l1;cases l1
  ·simp [AI]
theorem Wr.to {I:Nat→Prop} {b:Nat} {h h':AH} (x:Wr h I h') (hI:∀ j,I j→b≤j):Wr h (b≤·) h':=⟨x.next,x.lim,fun j hj hn=>x.get j hj (fun e=>hn (hI j e))⟩
def IP (pp lg:Nat) (w a f:V) (j:Nat):Prop:=j=pp∨j=lg∨j=Aq w∨j=Aq a∨(AI f=false∧j=Aq f)
structure Pt (pp lg:Nat) (w:V) (h:AH) (a f:V) (h':AH) (a' f':V):Prop where
 w:Wr h (IP pp lg w a f) h'
 a:Aq a'=Aq a∨h.next≤Aq a'
 f:AI f'=true∨(AI f=false∧Aq f'=Aq f)∨h.next≤Aq f'
theorem Pt.ip {j:Nat} {h':AH} {a' f':V} (x:Pt pp lg w h a f h' a' f') (hj:j<h.next) (e:IP pp lg w a' f' j):IP pp lg w a f j:=by
 have:=x.a
 have:=x.f
 rcases e with e | e | e | e | ⟨e1,e⟩
 ·exact .inl e
 ·exact .inr (.inl e)
 ·exact .inr (.inr (.inl e))
 ·exact .inr (.inr (.inr (.inl (by omega))))
 ·rcases this with q | q | q
  ·rw [e1] at q;cases q
  ·exact .inr (.inr (.inr (.inr ⟨q.1,by omega⟩)))
  ·omega
theorem Pt.trans {h1 h2:AH} {a1 f1 a2 f2:V} (x:Pt pp lg w h a f h1 a1 f1) (y:Pt pp lg w h1 a1 f1 h2 a2 f2):Pt pp lg w h a f h2 a2 f2:=by
 have n:=x.w.next
 refine ⟨x.w.trans y.w (fun j hj e=>x.ip hj e), ?_, ?_⟩
 ·rcases y.a with q | q
  ·rcases x.a with r | r
   ·exact .inl (q.trans r)
   ·exact .inr (by omega)
  ·exact .inr (by omega)
 ·rcases y.f with q | q | q
  ·exact .inl q
  ·rcases x.f with r | r | r
   ·rw [q.1] at r;cases r
   ·exact .inr (.inl ⟨r.1,q.2.trans r.2⟩)
   ·exact .inr (.inr (by omega))
  ·exact .inr (.inr (by omega))
theorem Pt.same {h':AH} (x:Wr h (IP pp lg w a f) h'):Pt pp lg w h a f h' a f:=⟨x,.inl rfl,by cases q:AI f;exact .inr (.inl ⟨rfl,rfl⟩);exact .inl rfl⟩
theorem MA (p:PA b h pp tb lg w a f c s) {n:Int} (hi:i<s.all.length) {h1:AH} (X:Am h h1):PA b (h1.put (Aq a) ⟨9,(AU h a).set (CU a+i) (ST.enc ⟨(nth s.all i).r,n⟩)⟩) pp tb lg w a f c (GR s i n):=by
 have q:=Dq p.sa hi
 have hx:=p.l4 _ (AR hi)
 exact (p.ext X).setA (Wr.put Wr.refl (.inr rfl)) (q.set _ X _) (by simp) (HD p.l4 ⟨hx.1,hx.2⟩)
theorem Hf {op v : Int} {K : V → AH → Prop} (p : PA b h pp tb lg w a f c s) (g : PG c) (hi : i < s.all.length) (hs : s.halt = false) (hl : s.fl.length + 1 ≤ s.clk) (hpl : (nth c.c.parts c.p).procs.length = s.procs.length)
    (kk:∀ h' a' f',Pt pp lg w h a f h' a' f'→PA b h' pp tb lg w a' f' c (Fu c s t i pc k)→K (.tup []) h'):Cq tp Nn [.p pp 0 0,.agg [.i .i64 t,.i .i64 i,.i .i64 pc,.i .i64 op,.i .i64 k,.i .u32 v],.i .i64 i] h K:=by
 obtain ⟨sg,sr,slt,slo,sat,set⟩:=Dq p.sa hi
 have hx:=p.l4 _ (AR hi)
 have gp:=p.gp
 obtain ⟨np1,np2,np3⟩:=p.np
 obtain ⟨bp1,bp2,bp3⟩:=p.bp
 have hlim:=p.lim
 have hle:h.lim≤Aq a:=by omega
 have at0:=sat (AU h a)
 have f7:=Ar.f7 (c:=c) (tb:=tb) (lg:=lg) (a:=a) (mem:=s.mem) (clk:=s.clk)
 have f24:=Ar.f24 (c:=c) (tb:=tb) (lg:=lg) (a:=a) (mem:=s.mem) (clk:=s.clk) p.l3
 have rl:=Ar.len (c:=c) (tb:=tb) (lg:=lg) (a:=a) (clk:=s.clk) p.l3
 have he:=ST.len hx.1
 have sp:=fun v=>ST.setpc (v:=v) hx.1
 have X1:Am h (h.alloc ⟨6,[[.i .i64 t,.i .i64 i,.i .i64 pc,.i .i64 op,.i .i64 k,.i .u32 v]]⟩):=by (repeat (first | exact Am.refl _ | refine Am.alloc ?_ _ | (refine Am.put ?_ _ _ ?_;rotate_left;(first | omega | (simp only [Aa,Ae];omega)))))
 have p1:=MA p (n:=pc) hi X1
 have wr1:Wr h (IP pp lg w a f) ((h.alloc ⟨6,[[.i .i64 t,.i .i64 i,.i .i64 pc,.i .i64 op,.i .i64 k,.i .u32 v]]⟩).put (Aq a) ⟨9,(AU h a).set (CU a+i) (ST.enc ⟨(nth s.all i).r,pc⟩)⟩):=(Wr.refl.alloc).put (.inr (.inr (.inr (.inr (.inl rfl)))))
 have da:=p.da
 have pgl:=p1.gl
 have hs1:(GR s i pc).halt=s.halt:=rfl
 rw [hs1,hs] at pgl
 have g6:((h.alloc ⟨6,[[.i .i64 t,.i .i64 i,.i .i64 pc,.i .i64 op,.i .i64 k,.i .u32 v]]⟩).put (Aq a) ⟨9,(AU h a).set (CU a+i) (ST.enc ⟨(nth s.all i).r,pc⟩)⟩).get h.next=some ⟨6,[[.i .i64 t,.i .i64 i,.i .i64 pc,.i .i64 op,.i .i64 k,.i .u32 v]]⟩:=by rw [Ah,An (by omega),A0,AK rfl]
 have gpp:=p1.gp
 have em:(GR s i pc).mem=s.mem:=rfl
 have ek:(GR s i pc).clk=s.clk:=rfl
 rw [em,ek] at gpp
 clear em ek
 have lf:=Er p.sf
 have ef:(GR s i pc).fl=s.fl:=rfl
 have hlk:s.fl.length<4000000000:=by have:=p.l6;omega
 refine Ad jF (by simp [KK]) fun wf rp=>?_;unfold KK;simp (disch:=omega)only[go_sem, *]
 refine RD (t:=t) (p:=i) (k:=k) pgl p1.sf p1.lim bp3 p1.np.2.2 (p1.df.imp (fun z=>z) (fun z=>z.2.2.1)) hlk ?_
 intro h2 f2 x2 gl2 sf2 d2 o2
 have p2:=p1.setF x2 gl2 sf2 d2 o2 (by rw [ef,List.length_append];simp only [List.length_cons,List.length_nil];show ((s.fl.length+1:Nat):Int)≤s.clk;omega)
 have pl:=p1.low
 have wr2:Wr h (IP pp lg w a f) h2:=wr1.trans x2 (fun j _ e=>e.elim (fun e=>.inr (.inl e)) (fun e=>.inr (.inr (.inr (.inr e)))))
 have pt2:Pt pp lg w h a f h2 a f2:=⟨wr2,.inl rfl,.inr (o2.imp (fun z=>z) (fun z=>by have:h.next+1≤Aq f2:=z;omega))⟩
 have g62:=(x2.get h.next (by show h.next<h.next+1;omega) (fun e=>e.elim (fun e=>by omega) (fun e=>by have:=lf.resolve_left (by rw [e.1];decide);omega))).trans g6
 have gp2:h2.get pp=some ⟨26,[Ar c tb lg a s.mem s.clk]⟩:=p2.gp
 have eact:ET c.h0 c.h1 c.h2 c.h3 c.h4 k=c.act k:=rfl
 rw [eact] at p2 ⊢
 rw [ef] at p2
 clear x2 gl2 sf2 d2 o2 g6 pgl p1 wr1 gpp sg sr set X1
 have efr:Fu c s t i pc k=(if c.act k=0 then GR { GR s i pc with fl:=s.fl++[⟨t,i,k⟩],halt:=decide (c.act k=2) } i (IntKind.wrap .i64 (pc+4)) else if c.act k=1 then QI c { GR s i pc with fl:=s.fl++[⟨t,i,k⟩],halt:=decide (c.act k=2) } else { GR s i pc with fl:=s.fl++[⟨t,i,k⟩],halt:=decide (c.act k=2) }):=rfl
 rw [efr] at kk
 clear efr eact ef
 generalize c.act k=z at *
 have hi2:i<({ GR s i pc with fl:=s.fl++[⟨t,i,k⟩],halt:=decide (z=2) }:PS).all.length:=by simpa [GR] using hi
 have q2:=Dq p2.sa hi2
 have e2:nth ({ GR s i pc with fl:=s.fl++[⟨t,i,k⟩],halt:=decide (z=2) }:PS).all i=⟨(nth s.all i).r,pc⟩:=by
  show nth (s.all.set i _) i=_
  rw [Dv (by simpa using hi),List.getElem_set_self]
 have p3:=fun n=>MA p2 (n:=n) hi2 (Am.refl h2)
 have r2:=q2.r
 have gt2:=q2.g
 have at2:=q2.at_ (AU h2 a)
 have l2:=p2.lim
 rw [e2] at r2
 rw [e2] at p3
 have hx2:(⟨(nth s.all i).r,pc⟩:ST).r.length=8:=hx.1
 have he2:=ST.len hx2
 have sp2:=fun v=>ST.setpc (v:=v) hx2
 have hle2:h2.lim≤Aq a:=by omega
 have wr3:Wr h (IP pp lg w a f) (h2.put (Aq a) ⟨9,(AU h2 a).set (CU a+i) (ST.enc ⟨(nth s.all i).r,IntKind.wrap .i64 (pc+4)⟩)⟩):=wr2.put (.inr (.inr (.inr (.inr (.inl rfl)))))
 simp (disch:=omega)only[go_sem, *]
 refine Af (fun hc=>?_) (fun hc=>?_)
 ·rw [if_pos hc] at kk
  have fin:=kk _ a f2 ⟨wr3,pt2.a,pt2.f⟩ (p3 _)
  clear kk p p2 p3 wr2 wr3 q2 pt2
  simp (disch:=omega)only[go_sem, *]
 ·rw [if_neg hc] at kk
  simp (disch:=omega)only[go_sem, *]
  refine Af (fun hc2=>?_) (fun hc2=>?_)
  ·rw [if_pos hc2] at kk
   simp (disch:=omega)only[go_sem, *]
   refine JF p2.gp p2.l3 p2.gt p2.sw p2.lim bp1 p2.d.1 p2.dw.2.1 p2.dw.1 p2.np.1 g.p g.l.2 ?_
   intro h3 a3 x3 gp3 sw3 sa3
   have n3:¬ AI a3=true:=by
    have:=g.l.1
    rcases sa3 with ⟨_,z⟩ | ⟨_,_,_,_,rfl,_⟩
    ·have z:=congrArg List.length z;rw [List.length_map,ID,List.length_map] at z;simp only [List.length_nil] at z;omega
    ·simp [AI]
   have p4:=p2.setB x3 gp3 sw3 sa3 hpl
   have fin:=kk h3 a3 f2 ⟨wr2.trans x3 (fun j _ e=>e.elim .inl (fun e=>.inr (.inr (.inl e)))),.inr ((BI sa3).resolve_left n3 |> Nat.le_trans wr2.next),pt2.f⟩ p4
   clear kk p p2 p3 wr2 wr3 q2 pt2 p4 x3 gp3 sw3 sa3
   simp (disch:=omega)only[go_sem, *]
  ·rw [if_neg hc2] at kk
   have fin:=kk h2 a f2 pt2 p2
   clear kk p p2 p3 wr2 wr3 q2 pt2
   simp (disch:=omega)only[go_sem, *]
end
end Go.Ab.T
namespace Go.Ab.T
open Go Go.Ab
set_option maxHeartbeats 8000000
structure Loc where
 t:Int
 proc:Int
 pc:Int
 op:Int
 fault:Int
 value:Int
 deriving DecidableEq,Inhabited
@[go_sem] def Loc.enc (x:Loc):List V:=[.i .i64 x.t,.i .i64 x.proc,.i .i64 x.pc,.i .i64 x.op,.i .i64 x.fault,.i .u32 x.value]
def goR (c:PC) (s:PS) (n:Nat) (x:Fg):Loc×PS:=
 let d:=FZ c (GR { s with clk:=s.clk+1 } n (IntKind.wrap .i64 ((nth s.all n).pc+4))) s.clk n x.op x.a.toNat x.b.toNat x.c.toNat
 if d.2.1=0 then (⟨s.clk,n,(nth s.all n).pc,x.op,0,d.1⟩,d.2.2) else (⟨s.clk,n,(nth s.all n).pc,x.op,d.2.1,0⟩,Fu c d.2.2 s.clk n (nth s.all n).pc d.2.1)
def GA (c:PC) (s:PS) (n:Nat):Loc×PS:=
 let y:=BC c.prog (nth s.all n).pc
 if y.2=false then (⟨s.clk,n,(nth s.all n).pc,y.1.op,2,0⟩,Fu c { s with clk:=s.clk+1 } s.clk n (nth s.all n).pc 2)
 else if E8 y.1=false then (⟨s.clk,n,(nth s.all n).pc,y.1.op,1,0⟩,Fu c { s with clk:=s.clk+1 } s.clk n (nth s.all n).pc 1)
 else goR c s n y.1
def Bq (c:PC) (s:PS):Loc×Bool×PS:=
 if s.halt=true then (⟨0,0,0,0,0,0⟩,false,s)
 else if FD s.procs s.clk<0 then (⟨s.clk,-1,0,0,0,0⟩,true,{ s with clk:=s.clk+1 })
 else ((GA c s (FD s.procs s.clk).toNat).1,true,(GA c s (FD s.procs s.clk).toNat).2)
theorem oE {P:List PR} {R:List Nat} {j n:Nat} (hj:j<R.length) (h:∀ x∈R,x<n):∀ x∈Uh P R j,x<n:=by
 unfold Uh
 split
 ·exact h
 ·split
  ·exact FK (by omega) hj h
  ·exact h
theorem Kn {P:List PR} {now:Int}:∀ (l:List PR) (i:Nat) (R:List Nat),(∀ x∈R,x<i)→∀ x∈Cy P now l i R,x<i+l.length
 | [],_,_,h=>h
 | y::l,i,R,h=>by
  rw [Cy,List.length_cons]
  intro x hx
  have:=Kn l (i+1) _ (fun z hz=>by
   split at hz
   ·refine oE (n:=i+1) (by simp) (fun q hq=>?_) z hz
    rcases List.mem_append.1 hq with q1 | q1
    ·have:=h q q1;omega
    ·rw [List.mem_singleton.1 q1];omega
   ·have:=h z hz;omega) x hx
  omega
theorem WZ {P:List PR} {now:Int} (h:¬ FD P now<0):∃ n:Nat,FD P now=n∧n<P.length:=by
 unfold FD at *
 split
 ·rename_i q;rw [if_pos q] at h;omega
 ·rename_i q
  refine ⟨_,rfl, ?_⟩
  have:=Kn P 0 [] (fun x hx=>by cases hx) _ (AR (L:=Cy P now P 0 []) (j:=0) (by omega))
  omega
@[go_sem] theorem aGu:D7 .ifc .ni .ni=some true:=rfl
section
variable {b pp tb lg:Nat} {h:AH} {w a f:V} {c:PC} {s:PS} {K:V→AH→Prop}
theorem Hy (p:PA b h pp tb lg w a f c s) (kk:K (.b s.halt) h):Cq tp Wj [.p pp 0 0] h K:=by
 have gp:=p.gp
 have f24:=Ar.f24 (c:=c) (tb:=tb) (lg:=lg) (a:=a) (mem:=s.mem) (clk:=s.clk) p.l3
 have rl:=Ar.len (c:=c) (tb:=tb) (lg:=lg) (a:=a) (clk:=s.clk) p.l3
 refine Ad Zx (by simp [MW]) fun wf rp=>?_;unfold MW;simp (disch:=omega)only[go_sem, *]
 refine JZ p.gl ?_
 simp (disch:=omega)only[go_sem, *]
structure PN (c:PC):Prop where
 b:∀ z∈c.prog,0≤z∧z<256
 o:∀ pc,(BC c.prog pc).1.op≠15∧(BC c.prog pc).1.op≠16
 ch:c.c.chans=[]
 u:HW c.ins
 ul:c.ins.length<4000000000
theorem PA.setC {h':AH} (p:PA b h pp tb lg w a f c s) (x:Wr h (·=pp) h') (gp:h'.get pp=some ⟨26,[Ar c tb lg a s.mem (s.clk+1)]⟩) (hk:s.clk+1<3000000000):PA b h' pp tb lg w a f c { s with clk:=s.clk+1 }:=by
 obtain ⟨d1,d2,d3⟩:=p.d
 have l6:=p.l6
 have n:=x.next
 obtain ⟨n1,n2,n3⟩:=p.np
 exact ⟨gp,(x.get tb n2 d1.symm).trans p.gt,(x.get lg n3 d2.symm).trans p.gl,CZ p.sw x (.inr p.dw.1),CZ p.sa x (.inr p.da.1),CZ p.sf x (p.df.imp (fun z=>z) (fun z=>z.1)),x.lim▸p.lim,p.bp,by omega,p.d,p.dw,p.da,p.df,p.l1,p.l2,p.l3,p.l4,p.l5,⟨by show (s.fl.length:Int)≤s.clk+1;omega,hk⟩⟩
theorem Wr.mono {I J:Nat→Prop} {h':AH} (x:Wr h I h') (s:∀ j,I j→J j):Wr h J h':=⟨x.next,x.lim,fun j hj hn=>x.get j hj (fun e=>hn (s j e))⟩
theorem Ep {b sz:Nat} {h:AH} {v:V} {R:List (List V)} (s:Sl b h sz v R):AI v=true∨Aq v<h.next:=by
 rcases s with ⟨hv,_⟩ | ⟨i,el,cap,cs,rfl,_,_,_,_,h1,_⟩
 ·rcases hv with rfl | rfl<;>exact .inl rfl
 ·exact .inr h1
theorem PA.fresh {j:Nat} (p:PA b h pp tb lg w a f c s) (hj:h.next≤j):j≠pp∧j≠tb∧j≠lg∧j≠Aq w∧j≠Aq a∧(AI f=true∨j≠Aq f):=by
 obtain ⟨n1,n2,n3⟩:=p.np
 have l1:=p.l1.1
 have w1:Aq w<h.next:=(Ep p.sw).resolve_left (fun z=>by
  rcases p.sw with ⟨_,z⟩ | ⟨_,_,_,_,rfl,_⟩
  ·rw [List.map_eq_nil_iff.1 z] at l1;cases l1
  ·simp [AI] at z)
 have a1:Aq a<h.next:=(Ep p.sa).resolve_left (fun z=>by
  rcases p.sa with ⟨_,z⟩ | ⟨_,_,_,_,rfl,_⟩
  ·rw [← p.l2,List.map_eq_nil_iff.1 z] at l1;cases l1
  ·simp [AI] at z)
 exact ⟨by omega,by omega,by omega,by omega,by omega,(Ep p.sf).imp (fun z=>z) (fun z=>by omega)⟩
theorem PA.box {h':AH} {a' f':V} {s':PS} {j:Nat} {k:Bo} (p:PA b h pp tb lg w a f c s) (pt:Pt pp lg w h a f h' a' f') (p':PA b h' pp tb lg w a' f' c s') (hj:j<h.next) (hn:j≠pp∧j≠tb∧j≠lg∧j≠Aq w∧j≠Aq a∧(AI f=true∨j≠Aq f)):PA b (h'.put j k) pp tb lg w a' f' c s'∧h'.get j=h.get j:=by
 obtain ⟨e1,e2,e3,e4,e5,e6⟩:=hn
 have x1:=pt.a
 have x2:=pt.f
 have nx:=pt.w.next
 refine ⟨p'.same (I:=(·=j)) (Wr.refl.put (.inr rfl)) (fun q e=>by
  rw [e]
  refine ⟨e1,e2,e3,e4,by omega, ?_⟩
  cases hf:AI f' with
  | true=>exact .inl rfl
  | false=>
   rcases x2 with z | ⟨z1,z2⟩ | z
   ·rw [hf] at z;cases z
   ·exact .inr (fun e=>(e6.resolve_left (by rw [z1];decide)) (e.trans z2))
   ·exact .inr (by omega)),pt.w.get j hj (fun e=>?_)⟩
 rcases e with e | e | e | e | ⟨z,e⟩
 ·exact e1 e
 ·exact e3 e
 ·exact e4 e
 ·exact e5 e
 ·exact (e6.resolve_left (by rw [z];decide)) e
theorem Pt.put {h':AH} {a' f':V} {j:Nat} {k:Bo} (x:Pt pp lg w h a f h' a' f') (hj:h.next≤j):Pt pp lg w h a f (h'.put j k) a' f':=⟨x.w.put (.inl hj),x.a,x.f⟩
theorem Q7 {t op:Int} {i A B C:Nat}:(FZ c s t i op A B C).2.2.halt=s.halt∧(FZ c s t i op A B C).2.2.fl=s.fl∧(FZ c s t i op A B C).2.2.clk=s.clk∧(FZ c s t i op A B C).2.2.procs.length=s.procs.length∧(FZ c s t i op A B C).2.2.all.length=s.all.length:=by
 unfold FZ
 repeat' split
 all_goals simp
theorem nD {C:List (List V)} {i:Nat} (p:PA b h pp tb lg w a f c s) (hC:AU h a=C) {n:Int} (hi:i<s.all.length) {h1:AH} (X:Am h h1):PA b (h1.put (Aq a) ⟨9,C.set (CU a+i) (ST.enc ⟨(nth s.all i).r,n⟩)⟩) pp tb lg w a f c (GR s i n):=hC▸MA p hi X
theorem Pp {i:Fg} (h:E8 i=true):∃ A B C:Nat,i=⟨i.op,A,B,C⟩∧Reg i.op A B C:=by
 unfold E8 Cw at h
 simp only [Bool.and_eq_true,Bool.or_eq_true,decide_eq_true_eq,Bool.not_eq_true'] at h
 obtain ⟨o,⟨a1,a2⟩,⟨b1,b2⟩,⟨c1,c2⟩⟩:=h
 obtain ⟨op,A,B,C⟩:=i
 simp only at *
 obtain ⟨A,rfl⟩:∃ k:Nat,A=k:=⟨A.toNat,by omega⟩
 obtain ⟨B,rfl⟩:∃ k:Nat,B=k:=⟨B.toNat,by omega⟩
 obtain ⟨C,rfl⟩:∃ k:Nat,C=k:=⟨C.toNat,by omega⟩
 exact ⟨A,B,C,rfl,⟨o,by omega,fun e=>by rcases a2 with z | z;rw [e] at z;cases z;omega,fun e=>by rcases b2 with z | z;rw [e] at z;cases z;omega,fun e=>by rcases c2 with z | z;rw [e] at z;cases z;omega⟩⟩
theorem Xs (p:PA b h pp tb lg w a f c s) (g:PG c) (n:PN c) (hpl:(nth c.c.parts c.p).procs.length=s.procs.length) (hk:s.clk+1<3000000000)
    (kk:∀ h' a' f',Pt pp lg w h a f h' a' f'→PA b h' pp tb lg w a' f' c (Bq c s).2.2→K (.tup [.agg (Bq c s).1.enc,.b (Bq c s).2.1]) h'):Cq tp RS [.p pp 0 0,.ni] h K:=by
 have gp:=p.gp
 obtain ⟨np1,np2,np3⟩:=p.np
 obtain ⟨bp1,bp2,bp3⟩:=p.bp
 have hlim:=p.lim
 have l6:=p.l6
 have f25:=Ar.f25 (c:=c) (tb:=tb) (lg:=lg) (a:=a) (mem:=s.mem) (clk:=s.clk) p.l3
 have s25:=Ar.s25 (c:=c) (tb:=tb) (lg:=lg) (a:=a) (mem:=s.mem) (clk:=s.clk) (clk':=s.clk+1) p.l3
 have rl:=fun k=>Ar.len (c:=c) (tb:=tb) (lg:=lg) (a:=a) (clk:=k) p.l3
 have f6:=Ar.f6 (c:=c) (tb:=tb) (lg:=lg) (a:=a) (mem:=s.mem) (clk:=s.clk+1)
 have X1:Am h (h.alloc ⟨6,[[.i .i64 0,.i .i64 0,.i .i64 0,.i .i64 0,.i .i64 0,.i .u32 0]]⟩):=by (repeat (first | exact Am.refl _ | refine Am.alloc ?_ _ | (refine Am.put ?_ _ _ ?_;rotate_left;(first | omega | (simp only [Aa,Ae];omega)))))
 have p1:=p.ext X1
 have w1:Wr h (·=pp) (h.alloc ⟨6,[[.i .i64 0,.i .i64 0,.i .i64 0,.i .i64 0,.i .i64 0,.i .u32 0]]⟩):=Wr.refl.alloc
 cases hh:s.halt with
 | true=>
  have e:Bq c s=(⟨0,0,0,0,0,0⟩,false,s):=if_pos hh
  rw [e] at kk
  have fin:=kk ((h.alloc ⟨6,[[.i .i64 0,.i .i64 0,.i .i64 0,.i .i64 0,.i .i64 0,.i .u32 0]]⟩).put h.next ⟨6,[[.i .i64 0,.i .i64 0,.i .i64 0,.i .i64 0,.i .i64 0,.i .u32 0]]⟩) a f (.same ((w1.put (.inl (Nat.le_refl _))).mono (fun _ e=>Or.inl e))) (p.ext (by (repeat (first | exact Am.refl _ | refine Am.alloc ?_ _ | (refine Am.put ?_ _ _ ?_;rotate_left;(first | omega | (simp only [Aa,Ae];omega)))))))
  clear kk p X1 w1 e
  refine Ad Zw (by simp [MV]) fun wf rp=>?_;unfold MV;simp (disch:=omega)only[go_sem, *]
  refine Hy p1 ?_
  rw [hh]
  clear p1
  simp (disch:=omega)only[go_sem, *]
  exact fin
 | false=>
  have wc:Wr h (·=pp) ((h.alloc ⟨6,[[.i .i64 0,.i .i64 0,.i .i64 0,.i .i64 0,.i .i64 0,.i .u32 0]]⟩).put pp ⟨26,[Ar c tb lg a s.mem (s.clk+1)]⟩):=w1.put (.inr rfl)
  have p2:=p.setC wc (by rw [Ah,AK rfl]) hk
  refine Ad Zw (by simp [MV]) fun wf rp=>?_;unfold MV;simp (disch:=omega)only[go_sem, *]
  refine Hy p1 ?_
  rw [hh]
  simp (disch:=omega)only[go_sem, *]
  refine W0 p2.gt p2.np.2.1 p2.sw p2.l1.2 ?_
  by_cases hp:FD s.procs s.clk<0
  ·have e:Bq c s=(⟨s.clk,-1,0,0,0,0⟩,true,{ s with clk:=s.clk+1 }):=by unfold Bq;rw [if_neg (by rw [hh];decide),if_pos hp]
   rw [e] at kk
   clear p1
   have wf:=wc.put (k:=⟨6,[[.i .i64 s.clk,.i .i64 (-1),.i .i64 0,.i .i64 0,.i .i64 0,.i .u32 0]]⟩) (.inl (Nat.le_refl h.next))
   have fin:=kk _ a f (.same (wf.mono (fun _ e=>Or.inl e))) (p.setC wf (by rw [Ah,An (by omega),Ah,AK rfl]) hk)
   clear kk wf p2 p wc
   simp (disch:=omega)only[go_sem, *]
   exact fin
  ·obtain ⟨i,hi,hl⟩:=WZ hp
   have f7:=Ar.f7 (c:=c) (tb:=tb) (lg:=lg) (a:=a) (mem:=s.mem) (clk:=s.clk+1)
   have f4:=Ar.f4 (c:=c) (tb:=tb) (lg:=lg) (a:=a) (mem:=s.mem) (clk:=s.clk+1)
   have hl2:i<({ s with clk:=s.clk+1 }:PS).all.length:=by show i<s.all.length;rw [p.l2];exact hl
   obtain ⟨sg,sr,slt,slo,sat,set⟩:=Dq p.sa hl2
   have na:=p.da.1
   have hx:=p.l4 _ (AR hl2)
   have he:=ST.len hx.1
   have ep:Bq c s=((GA c s i).1,true,(GA c s i).2):=by unfold Bq;rw [if_neg (by rw [hh];decide),if_neg hp,hi];rfl
   rw [ep] at kk
   clear ep p1
   rw [hi] at hp ⊢
   have at0:=sat (AU h a)
   have fr0:=p.fresh (Nat.le_refl h.next)
   have fr1:=p.fresh (Nat.le_succ h.next)
   have at8:=ST.at8 hx.1
   have fe:=OM (P:=c.prog) (pc:=(nth s.all i).pc) n.b
   have nop:=n.o (nth s.all i).pc
   have es:GA c s i=(if (BC c.prog (nth s.all i).pc).2=false then (⟨s.clk,i,(nth s.all i).pc,(BC c.prog (nth s.all i).pc).1.op,2,0⟩,Fu c { s with clk:=s.clk+1 } s.clk i (nth s.all i).pc 2)
    else if E8 (BC c.prog (nth s.all i).pc).1=false then (⟨s.clk,i,(nth s.all i).pc,(BC c.prog (nth s.all i).pc).1.op,1,0⟩,Fu c { s with clk:=s.clk+1 } s.clk i (nth s.all i).pc 1)
    else goR c s i (BC c.prog (nth s.all i).pc).1):=rfl
   rw [es] at kk
   clear es
   have ir:=OO (i:=(BC c.prog (nth s.all i).pc).1)
   generalize BC c.prog (nth s.all i).pc=y at *
   obtain ⟨⟨op,A,B,C⟩,ok⟩:=y
   simp only [Fg.enc] at fe ir nop kk
   cases ok with
   | false=>
    clear ir nop
    rw [if_pos rfl] at kk
    simp (disch:=omega)only[go_sem, *]
    refine Pf.go fe (by simp only [go_sem]) fun _=>?_
    simp (disch:=omega)only[go_sem, *]
    refine Hf (p2.ext ?_) g hl2 hh (by show s.fl.length+1≤s.clk+1;omega) hpl ?_
    ·(repeat (first | exact Am.refl _ | refine Am.alloc ?_ _ | (refine Am.put ?_ _ _ ?_;rotate_left;(first | omega | (simp only [Aa,Ae];omega)))))
    intro h4 a4 f4 pt p4;have l4:=p4.lim
    obtain ⟨-,g1⟩:=(p2.ext (by (repeat (first | exact Am.refl _ | refine Am.alloc ?_ _ | (refine Am.put ?_ _ _ ?_;rotate_left;(first | omega | (simp only [Aa,Ae];omega))))))).box (k:=⟨0,[]⟩) pt p4 (j:=h.next+1) (by simp only [go_sem];omega) fr1
    obtain ⟨-,g0⟩:=(p2.ext (by (repeat (first | exact Am.refl _ | refine Am.alloc ?_ _ | (refine Am.put ?_ _ _ ?_;rotate_left;(first | omega | (simp only [Aa,Ae];omega))))))).box (k:=⟨0,[]⟩) pt p4 (j:=h.next) (by simp only [go_sem];omega) fr0
    have p5:=((p2.ext (by (repeat (first | exact Am.refl _ | refine Am.alloc ?_ _ | (refine Am.put ?_ _ _ ?_;rotate_left;(first | omega | (simp only [Aa,Ae];omega))))))).box (k:=⟨6,[[.i .i64 s.clk,.i .i64 i,.i .i64 (nth s.all i).pc,.i .i64 op,.i .i64 2,.i .u32 0]]⟩) pt p4 (j:=h.next) (by simp only [go_sem];omega) fr0).1
    have fin:=kk _ a4 f4 (((Pt.same (by repeat (first | exact wc.mono (fun _ e=>Or.inl e) | refine Wr.alloc ?_ | refine Wr.put ?_ (.inl (by omega))))).trans pt).put (Nat.le_refl _)) p5
    simp (disch:=omega)only[go_sem, *] at g0 g1
    clear kk pt p4 p5 p2 p wc
    simp (disch:=omega)only[go_sem, *]
    exact fin
   | true=>
    rw [if_neg (by decide)] at kk
    cases hr:E8 ⟨op,A,B,C⟩ with
    | false=>
     rw [hr] at ir
     rw [if_pos hr] at kk
     clear nop hr
     simp (disch:=omega)only[go_sem, *]
     refine Pf.go fe (by simp only [go_sem]) fun _=>?_
     simp (disch:=omega)only[go_sem, *]
     refine Pf.go ir (by simp only [go_sem]) fun _=>?_
     simp (disch:=omega)only[go_sem, *]
     refine Hf (p2.ext ?_) g hl2 hh (by show s.fl.length+1≤s.clk+1;omega) hpl ?_
     ·(repeat (first | exact Am.refl _ | refine Am.alloc ?_ _ | (refine Am.put ?_ _ _ ?_;rotate_left;(first | omega | (simp only [Aa,Ae];omega)))))
     intro h4 a4 f4 pt p4;have l4:=p4.lim
     obtain ⟨-,g1⟩:=(p2.ext (by (repeat (first | exact Am.refl _ | refine Am.alloc ?_ _ | (refine Am.put ?_ _ _ ?_;rotate_left;(first | omega | (simp only [Aa,Ae];omega))))))).box (k:=⟨0,[]⟩) pt p4 (j:=h.next+1) (by simp only [go_sem];omega) fr1
     obtain ⟨-,g0⟩:=(p2.ext (by (repeat (first | exact Am.refl _ | refine Am.alloc ?_ _ | (refine Am.put ?_ _ _ ?_;rotate_left;(first | omega | (simp only [Aa,Ae];omega))))))).box (k:=⟨0,[]⟩) pt p4 (j:=h.next) (by simp only [go_sem];omega) fr0
     have p5:=((p2.ext (by (repeat (first | exact Am.refl _ | refine Am.alloc ?_ _ | (refine Am.put ?_ _ _ ?_;rotate_left;(first | omega | (simp only [Aa,Ae];omega))))))).box (k:=⟨6,[[.i .i64 s.clk,.i .i64 i,.i .i64 (nth s.all i).pc,.i .i64 op,.i .i64 1,.i .u32 0]]⟩) pt p4 (j:=h.next) (by simp only [go_sem];omega) fr0).1
     have fin:=kk _ a4 f4 (((Pt.same (by repeat (first | exact wc.mono (fun _ e=>Or.inl e) | refine Wr.alloc ?_ | refine Wr.put ?_ (.inl (by omega))))).trans pt).put (Nat.le_refl _)) p5
     simp (disch:=omega)only[go_sem, *] at g0 g1
     clear kk pt p4 p5 p2 p wc
     simp (disch:=omega)only[go_sem, *]
     exact fin
    | true=>
     rw [hr] at ir
     rw [if_neg (by rw [hr];decide)] at kk
     obtain ⟨A',B',C',eq,rg⟩:=Pp hr
     injection eq with e0 eA eB eC
     clear e0
     subst eA eB eC
     clear hr
     have sp:=fun v=>ST.setpc (v:=v) hx.1
     have ec:AU ((h.alloc ⟨6,[[.i .i64 0,.i .i64 0,.i .i64 0,.i .i64 0,.i .i64 0,.i .u32 0]]⟩).put pp ⟨26,[Ar c tb lg a s.mem (s.clk+1)]⟩) a=AU h a:=by unfold AU;rw [Ah,An na,A0,An (by omega)]
     have p6:=fun H (X:Am _ H)=>nD (n:=IntKind.wrap .i64 ((nth s.all i).pc+4)) p2 ec hl2 X
     simp (disch:=omega)only[go_sem, *]
     refine Pf.go fe (by simp only [go_sem]) fun _=>?_
     simp (disch:=omega)only[go_sem, *]
     refine Pf.go ir (by simp only [go_sem]) fun _=>?_
     simp (disch:=omega)only[go_sem, *]
     clear ec
     refine aEa (p6 _ ?_) (by show i<(s.all.set i _).length;rw [List.length_set];exact hl2) rg nop n.ch n.u n.ul (by omega) l6.2 ?_
     ·(repeat (first | exact Am.refl _ | refine Am.alloc ?_ _ | (refine Am.put ?_ _ _ ?_;rotate_left;(first | omega | (simp only [Aa,Ae];omega)))))
     intro h5 x5 p7
     obtain ⟨k1,k2,k3,k4,-⟩:=Q7 (c:=c) (s:=GR { s with clk:=s.clk+1 } i (IntKind.wrap .i64 ((nth s.all i).pc+4))) (t:=s.clk) (op:=op) (i:=i) (A:=A') (B:=B') (C:=C')
     have k1:=k1.trans (show _=s.halt from rfl)
     have k2:=k2.trans (show _=s.fl from rfl)
     have k3:=k3.trans (show _=s.clk+1 from rfl)
     have k4:=k4.trans (show _=s.procs.length from rfl)
     have eg:goR c s i ⟨op,A',B',C'⟩=(if (FZ c (GR { s with clk:=s.clk+1 } i (IntKind.wrap .i64 ((nth s.all i).pc+4))) s.clk i op A' B' C').2.1=0 then (⟨s.clk,i,(nth s.all i).pc,op,0,(FZ c (GR { s with clk:=s.clk+1 } i (IntKind.wrap .i64 ((nth s.all i).pc+4))) s.clk i op A' B' C').1⟩,(FZ c (GR { s with clk:=s.clk+1 } i (IntKind.wrap .i64 ((nth s.all i).pc+4))) s.clk i op A' B' C').2.2) else (⟨s.clk,i,(nth s.all i).pc,op,(FZ c (GR { s with clk:=s.clk+1 } i (IntKind.wrap .i64 ((nth s.all i).pc+4))) s.clk i op A' B' C').2.1,0⟩,Fu c (FZ c (GR { s with clk:=s.clk+1 } i (IntKind.wrap .i64 ((nth s.all i).pc+4))) s.clk i op A' B' C').2.2 s.clk i (nth s.all i).pc (FZ c (GR { s with clk:=s.clk+1 } i (IntKind.wrap .i64 ((nth s.all i).pc+4))) s.clk i op A' B' C').2.1)):=rfl
     rw [eg] at kk
     clear eg
     generalize (FZ c (GR { s with clk:=s.clk+1 } i (IntKind.wrap .i64 ((nth s.all i).pc+4))) s.clk i op A' B' C')=d at *
     obtain ⟨dv,df,ds⟩:=d
     simp only at k1 k2 k3 k4 p7 kk
     have n5:=x5.next
     have w5:Wr h (IP pp lg w a f) h5:=Wr.trans (by repeat (first | exact wc.mono (fun _ e=>Or.inl e) | refine Wr.alloc ?_ | refine Wr.put ?_ (.inl (by omega)) | refine Wr.put ?_ (.inr (.inr (.inr (.inr (.inl rfl))))))) x5 (fun j _ e=>e.elim .inl (fun e=>e.elim (fun e=>.inr (.inr (.inl e))) (fun e=>.inr (.inr (.inr (.inl e))))))
     have g1:=x5.get (h.next+1) (by simp only [go_sem];omega) (fun e=>e.elim fr1.1 (fun e=>e.elim fr1.2.2.2.1 fr1.2.2.2.2.1))
     have g0:=x5.get h.next (by simp only [go_sem];omega) (fun e=>e.elim fr0.1 (fun e=>e.elim fr0.2.2.2.1 fr0.2.2.2.2.1))
     have na1:=fr1.2.2.2.2.1
     have na0:=fr0.2.2.2.2.1
     simp (disch:=omega)only[go_sem] at g0 g1 n5
     have l5:=p7.lim
     have two:∀ {H':AH},Wr h5 (fun j=>j=h.next∨j=h.next+1) H'→PA b H' pp tb lg w a f c ds:=fun x=>p7.same x (fun j e=>e.elim (fun e=>e▸fr0) (fun e=>e▸fr1))
     clear p6 p7 x5 p2 p wc
     by_cases hd:df=0
     ·subst hd
      rw [if_pos rfl] at kk
      simp (disch:=omega)only[go_sem, *]
      exact kk _ a f (((Pt.same w5).put (Nat.le_succ h.next)).put (Nat.le_refl h.next)) (two (by repeat (first | exact Wr.refl | refine Wr.put ?_ (.inr (.inr rfl)) | refine Wr.put ?_ (.inr (.inl rfl)))))
     ·rw [if_neg hd] at kk
      simp (disch:=omega)only[go_sem, *]
      refine Hf (two ?_) g (by have:=two Wr.refl;rw [this.l2,k4];exact hl) (k1.trans hh) (by rw [k2,k3];omega) (hpl.trans k4.symm) ?_
      ·repeat (first | exact Wr.refl | refine Wr.put ?_ (.inr (.inr rfl)) | refine Wr.put ?_ (.inr (.inl rfl)))
      intro h4 a4 f4 pt p4;have l4:=p4.lim
      obtain ⟨-,g3⟩:=(two (by repeat (first | exact Wr.refl | refine Wr.put ?_ (.inr (.inr rfl)) | refine Wr.put ?_ (.inr (.inl rfl))))).box (k:=⟨0,[]⟩) pt p4 (j:=h.next+1) (by simp only [go_sem];omega) fr1
      obtain ⟨-,g2⟩:=(two (by repeat (first | exact Wr.refl | refine Wr.put ?_ (.inr (.inr rfl)) | refine Wr.put ?_ (.inr (.inl rfl))))).box (k:=⟨0,[]⟩) pt p4 (j:=h.next) (by simp only [go_sem];omega) fr0
      have p5:=((two (by repeat (first | exact Wr.refl | refine Wr.put ?_ (.inr (.inr rfl)) | refine Wr.put ?_ (.inr (.inl rfl))))).box (k:=⟨6,[[.i .i64 s.clk,.i .i64 i,.i .i64 (nth s.all i).pc,.i .i64 op,.i .i64 df,.i .u32 0]]⟩) pt p4 (j:=h.next) (by simp only [go_sem];omega) fr0).1
      have fin:=kk _ a4 f4 (((Pt.same (by repeat (first | exact w5 | refine Wr.put ?_ (.inl (by omega))))).trans pt).put (Nat.le_refl _)) p5
      simp (disch:=omega)only[go_sem,g0] at g2
      simp (disch:=omega)only[go_sem] at g3
      clear kk pt p4 p5 w5 two
      simp (disch:=omega)only[go_sem, *]
      exact fin
end
end Go.Ab.T
namespace Go.Ab.T
open Go Go.Ab
set_option maxHeartbeats 8000000
theorem H5 {xs:List (List V)}:Pf tp RG [.fl 1 xs] (.fl 1 xs):=by
 refine AN iX (by simp [KC]) fun rp=>?_;unfold KC;simp (disch:=omega)only[go_sem, *]
 have hb:=rp.head.big
 intro t ht
 cases t
 ·simp (disch:=omega)only[go_sem, *]
  refine AQ (R:=[]) (Sl.nil' 0 _ _) (Nat.le_refl _) (Nat.le_refl _) (by simp;omega) ?_
  intro w h4 s4 g4
  simp (disch:=omega)only[go_sem, *]
  exact s4.froze' rp.head.frzr trivial (by simp;omega)
 ·simp (disch:=omega)only[go_sem, *]
  have:xs=[]:=by
   rcases List.eq_nil_or_concat xs with h | ⟨l,a,h⟩
   ·exact h
   ·exact absurd (ht (by rw [h];simp)) (by simp)
  rw [this]
theorem GK {xs:List (List V)}:Pf tp RH [.fl 1 xs] (.fl 1 xs):=by
 refine AN iY (by simp [KD]) fun rp=>?_;unfold KD;simp (disch:=omega)only[go_sem, *]
 have hb:=rp.head.big
 intro t ht
 cases t
 ·simp (disch:=omega)only[go_sem, *]
  refine AQ (R:=[]) (Sl.nil' 0 _ _) (Nat.le_refl _) (Nat.le_refl _) (by simp;omega) ?_
  intro w h4 s4 g4
  simp (disch:=omega)only[go_sem, *]
  exact s4.froze' rp.head.frzr trivial (by simp;omega)
 ·simp (disch:=omega)only[go_sem, *]
  have:xs=[]:=by
   rcases List.eq_nil_or_concat xs with h | ⟨l,a,h⟩
   ·exact h
   ·exact absurd (ht (by rw [h];simp)) (by simp)
  rw [this]
def Mw (c:PC):PS:=⟨DD (nth c.c.parts c.p).procs,ID (nth c.c.parts c.p).procs,List.replicate 16 0,[],false,0⟩
def Jb (C:Av) (p:Nat) (prog ins:List Int):PC:=⟨C,p,prog.take 512,ins,(nth C.parts p).h0,(nth C.parts p).h1,(nth C.parts p).h2,(nth C.parts p).h3,(nth C.parts p).h4⟩
theorem NJ {n:Nat}:HW (List.replicate n 0):=fun z hz=>by rw [(List.mem_replicate.1 hz).2];decide
theorem Po (L:List BL):Bt (DD L)=DD L:=by unfold Bt DD;rw [List.map_map];rfl
section
variable {h:AH} {C:Av} {prog ins:List Int} {K:V→AH→Prop}
theorem W2 {p:Int} (hnm:N7 C) (hp:(CB C).1≠0∨p<0∨(C.parts.length:Int)≤p) {x y:V} (kk:∀ h',Am h h'→K .np h'):Cq tp Mq [.agg C.enc,.i .i64 p,x,y] h K:=by
 have rt:=Hz hnm
 have f:=kk (h.alloc ⟨3,[C.enc]⟩) (by (repeat (first | exact Am.refl _ | refine Am.alloc ?_ _ | (refine Am.put ?_ _ _ ?_;rotate_left;(first | omega | (simp only [Aa,Ae];omega))))))
 clear kk
 refine Ad Rm (by simp [Jr]) fun wf rp=>?_;unfold Jr;simp (disch:=omega)only[go_sem, *]
 refine Pf.go rt (by simp only [go_sem]) fun _=>?_
 clear rt
 by_cases q:(CB C).1=0
 ·rw [q]
  by_cases q1:p<0
  ·simp (disch:=omega)only[go_sem, *]
   exact f
  ·have q2:(C.parts.length:Int)≤p:=by omega
   simp (disch:=omega)only[go_sem, *]
   exact f
 ·simp (disch:=omega)only[go_sem, *]
  exact f
theorem Ez {p : Nat} (hnm : N7 C) (hr : (CB C).1 = 0) (hp : p < C.parts.length) (h1 : 1 ≤ (nth C.parts p).procs.length) (h3 : (nth C.parts p).procs.length ≤ 3) (hl : prog.length < 4000000000)
    (kk:∀ h' pp tb lg w a,Am h h'→PA h.next h' pp tb lg w a .ns (Jb C p prog ins) (Mw (Jb C p prog ins))→K (.p pp 0 0) h'):Cq tp Mq [.agg C.enc,.i .i64 p,.fl 1 (prog.map DR),.fl 1 (ins.map Ft)] h K:=by
 have rt:=Hz hnm
 rw [hr] at rt
 have cp:=VZ (C:=C)
 simp only [Av.enc] at cp
 have c1:=H5 (xs:=(prog.take 512).map DR)
 have c2:=GK (xs:=ins.map Ft)
 refine Ad Rm (by simp [Jr]) fun wf rp=>?_
 have hlo:=wf.1
 unfold Jr
 simp (disch:=omega)only[go_sem, *]
 refine Pf.go rt (by simp only [go_sem]) fun _=>?_
 have z1:¬ (p:Int)<0:=by omega
 have z2:¬ (C.parts.length:Int)≤p:=by omega
 simp (disch:=omega)only[go_sem, *]
 refine Pf.go cp (by simp only [go_sem]) fun _=>?_
 have et:List.take (min (prog.length:Int) 512).toNat (prog.map DR)=(prog.take 512).map DR:=by
  rw [List.map_take,List.take_eq_take_iff,List.length_map];omega
 simp (disch:=omega)only[go_sem, *]
 refine Pf.go c1 (by simp only [go_sem]) fun _=>?_
 simp (disch:=omega)only[go_sem, *]
 refine Pf.go c2 (by simp only [go_sem]) fun _=>?_
 simp (disch:=omega)only[go_sem, *]
 refine Wh ?_
 intro h2 x2 n2 g2
 have g0:=x2.get h.next (by simp only [go_sem];omega)
 have gb:=fun j (hj:j<h.next)=>x2.get j (by simp only [go_sem];omega)
 simp (disch:=omega)only[go_sem] at g0 g2 n2
 have gb2:∀ j,j<h.next→h2.get j=h.get j:=fun j hj=>by
  have:=gb j hj
  simp (disch:=omega)only[go_sem] at this
  exact this
 clear gb x2
 simp (disch:=omega)only[go_sem, *]
 refine YX h1 h3 ?_
 intro h4 tb w x4 l4 lt4 gt4 sw4 ne4
 have q0:=x4.get (h.next+3) (by simp only [go_sem];omega)
 have q1:=x4.get (h.next+2) (by simp only [go_sem];omega)
 have q2:=x4.lim
 have q3:=x4.next
 simp (disch:=omega)only[go_sem, *] at q0 q1 q2 q3
 simp (disch:=omega)only[go_sem] at l4
 have sw5:=Sl.weak (b':=h.next) sw4 (by simp only [go_sem];omega)
 have wn:AI w≠true:=fun z=>by
  rcases sw4 with ⟨_,z⟩ | ⟨_,_,_,_,rfl,_⟩
  ·have z:=congrArg List.length z;rw [List.length_map,DD,List.length_map] at z;simp only [List.length_nil] at z;omega
  ·simp [AI] at z
 have wlo:=(BI sw4).resolve_left wn
 have wlt:=(Ep sw4).resolve_left wn
 simp (disch:=omega)only[go_sem] at wlo
 have glow:∀ j,j<h.next→h4.get j=h.get j:=fun j hj=>by
  have:=x4.get j (by simp only [go_sem];omega)
  simp (disch:=omega)only[go_sem] at this
  exact this.trans (gb2 j hj)
 clear x4 sw4 gb2
 simp (disch:=omega)only[go_sem, *]
 refine JF (b:=h.next) (pp:=h.next+1+2) (tb:=tb) (lg:=h.next+1+1) (w:=w) (a:=.ns) (c:=Jb C p prog ins) (mem:=List.replicate 16 0) (clk:=0) (P:=DD (nth C.parts p).procs) (by rw [Ah,AK rfl];rfl) (by simp) (by rw [Ah,An (by omega)];exact gt4) (CA sw5 _ _ (.inr (by omega))) (by simp only [go_sem];omega) (by omega) (by omega) ne4 (by omega) (by simp only [go_sem];omega) hp h3 ?_
 intro h5 a5 x5 gp5 sw6 sa5
 have an:AI a5≠true:=fun z=>by
  rcases sa5 with ⟨_,z⟩ | ⟨_,_,_,_,rfl,_⟩
  ·have z:=congrArg List.length z
   rw [List.length_map,ID,List.length_map] at z
   have z:(nth C.parts p).procs.length=0:=z
   omega
  ·simp [AI] at z
 have alo:=(BI sa5).resolve_left an
 have alt:=(Ep sa5).resolve_left an
 have n5:=x5.next
 have m5:=x5.lim
 simp (disch:=omega)only[go_sem] at alo n5 m5
 rw [Po] at sw6
 have PA5:PA h.next h5 (h.next+1+2) tb (h.next+1+1) w a5 .ns (Jb C p prog ins) (Mw (Jb C p prog ins)):=by
  refine ⟨gp5, ?_, ?_,sw6,Sl.weak sa5 (by simp only [go_sem];omega),Sl.nil _ _ _,by omega,⟨by omega,by omega,by omega⟩,⟨by omega,by omega,by omega⟩,⟨by omega,by omega,by omega⟩,⟨by omega,by omega,by omega⟩,⟨by omega,by omega,by omega,by omega⟩,.inl rfl, ?_, ?_,by simp [Mw], ?_,NJ,⟨by simp [Mw],by simp [Mw]⟩⟩
  ·rw [x5.get tb (by simp only [go_sem];omega) (fun e=>e.elim (by omega) (by omega)),Ah,An (by omega)];exact gt4
  ·rw [x5.get (h.next+1+1) (by simp only [go_sem];omega) (fun e=>e.elim (by omega) (by omega)),Ah,An (by omega)];exact q1
  ·show 1≤(DD (nth C.parts p).procs).length∧(DD (nth C.parts p).procs).length≤3
   rw [DD,List.length_map];exact ⟨h1,h3⟩
  ·show (ID (nth C.parts p).procs).length=(DD (nth C.parts p).procs).length
   rw [DD,ID,List.length_map,List.length_map]
  ·intro x hx
   obtain ⟨y,-,rfl⟩:=List.mem_map.1 (show x∈(nth C.parts p).procs.map fun x=>(⟨List.replicate 8 0,x.entry⟩:ST) from hx)
   exact ⟨by simp,NJ⟩
 have fin:=kk h5 _ _ _ _ _ ⟨by omega,by omega,fun j hj=>by rw [x5.get j (by simp only [go_sem];omega) (fun e=>e.elim (by omega) (by omega)),Ah,An (by omega)];exact glow j hj⟩ PA5
 clear kk PA5 x5 glow
 simp (disch:=omega)only[go_sem, *]
end
end Go.Ab.T
namespace Go.Ab.T
open Go Go.Ab
set_option maxHeartbeats 8000000
@[go_sem] theorem aEP:D7 .ptr .np .np=some true:=rfl
@[go_sem] theorem aFY {i j k:Nat}:D7 .ptr (.p i j k) .np=some false:=rfl
theorem FT.eq (a b:FT):a=b↔a.t=b.t∧a.proc=b.proc∧a.kind=b.kind:=by cases a;cases b;simp
theorem PR.eq (a b:PR):a=b↔a.prio=b.prio∧a.wake=b.wake∧a.ended=b.ended:=by cases a;cases b;simp
theorem mI {l:List Int} (h:l.length=8):l=[nth l 0,nth l 1,nth l 2,nth l 3,nth l 4,nth l 5,nth l 6,nth l 7]:=by
 match l,h with
 | [a,b,c,d,e,f,g,i],_=>rfl
theorem ST.lit {x:ST} (h:x.r.length=8):x.enc=[.i .u32 (nth x.r 0),.i .u32 (nth x.r 1),.i .u32 (nth x.r 2),.i .u32 (nth x.r 3),.i .u32 (nth x.r 4),.i .u32 (nth x.r 5),.i .u32 (nth x.r 6),.i .u32 (nth x.r 7),.i .i64 x.pc]:=by
 unfold ST.enc
 rw [mI h];rfl
theorem ST.eq {a b:ST} (h:a.r.length=8) (h2:b.r.length=8):a=b↔nth a.r 0=nth b.r 0∧nth a.r 1=nth b.r 1∧nth a.r 2=nth b.r 2∧nth a.r 3=nth b.r 3∧nth a.r 4=nth b.r 4∧nth a.r 5=nth b.r 5∧nth a.r 6=nth b.r 6∧nth a.r 7=nth b.r 7∧a.pc=b.pc:=by
 refine ⟨fun e=>by rw [e];simp,fun ⟨e0,e1,e2,e3,e4,e5,e6,e7,e8⟩=>?_⟩
 obtain ⟨r,pc⟩:=a
 obtain ⟨r',pc'⟩:=b
 simp only at *
 rw [mI h,mI h2,e0,e1,e2,e3,e4,e5,e6,e7,e8]
theorem Mb {L M:List FT}:Pf tp RQ [.fl 3 (L.map FT.enc),.fl 3 (M.map FT.enc)] (.b (decide (L=M))):=by
 refine AN jJ (by simp [KO]) fun rp=>?_;unfold KO;simp (disch:=omega)only[go_sem, *]
 have hL:=rp.head.len
 have hM:=rp.tail.head.len
 refine Af (fun hc=>?_) (fun hc=>?_)
 ·simp (disch:=omega)only[go_sem, *]
  simp only [false_eq_decide_iff]
  rintro rfl;exact hc rfl
 ·simp (disch:=omega)only[go_sem, *]
  refine Au (fun n e h=>∃ (i:Nat),n=L.length - i∧h.lim=0∧e 0=.fl 3 (L.map FT.enc)∧e 1=.fl 3 (M.map FT.enc)∧e 12=.i .i64 L.length∧e 13=.i .i64 i∧i≤L.length∧L.take i=M.take i) ?_ _ _ _ ⟨0,rfl, ?_⟩
  ·rintro n e h ⟨i,rfl,hl,e0,e1,e12,e13,hi,hz⟩ ih
   rw [AA Zb.eq_1]
   simp (disch:=omega)only[go_sem, *]
   refine Af (fun hc2=>?_) (fun hc2=>?_)
   ·simp (disch:=omega)only[go_sem, *]
    refine Af (fun hc3=>?_) (fun hc3=>?_)
    ·simp (disch:=omega)only[go_sem, *]
     simp only [false_eq_decide_iff]
     exact Rf (i:=i) (by omega) (fun h=>hc3 (((FT.eq _ _).1 h)))
    ·have he:=(FT.eq (nth L i) (nth M i)).2 (Decidable.not_not.1 hc3)
     simp (disch:=omega)only[go_sem, *]
     refine ih _ _ _ ?_ ⟨i+1,rfl, ?_⟩
     ·omega
     ·simp (disch:=omega)only[go_sem, *]
      ((repeat' refine And.intro ?_ ?_)<;>first | omega | assumption | (exact I1 (by omega) (by omega) hz he))
   ·simp (disch:=omega)only[go_sem, *]
    simp only [true_eq_decide_iff]
    rw [List.take_of_length_le (by omega),List.take_of_length_le (by omega)] at hz
    exact hz
  ·simp (disch:=omega)only[go_sem, *]
   first | done | simp
theorem Mc {L M:List PR}:Pf tp R1 [.fl 3 (L.map PR.enc),.fl 3 (M.map PR.enc)] (.b (decide (L=M))):=by
 refine AN jZ (by simp [K4]) fun rp=>?_;unfold K4;simp (disch:=omega)only[go_sem, *]
 have hL:=rp.head.len
 have hM:=rp.tail.head.len
 refine Af (fun hc=>?_) (fun hc=>?_)
 ·simp (disch:=omega)only[go_sem, *]
  simp only [false_eq_decide_iff]
  rintro rfl;exact hc rfl
 ·simp (disch:=omega)only[go_sem, *]
  refine Au (fun n e h=>∃ (i:Nat),n=L.length - i∧h.lim=0∧e 0=.fl 3 (L.map PR.enc)∧e 1=.fl 3 (M.map PR.enc)∧e 12=.i .i64 L.length∧e 13=.i .i64 i∧i≤L.length∧L.take i=M.take i) ?_ _ _ _ ⟨0,rfl, ?_⟩
  ·rintro n e h ⟨i,rfl,hl,e0,e1,e12,e13,hi,hz⟩ ih
   rw [AA Zd.eq_1]
   simp (disch:=omega)only[go_sem, *]
   refine Af (fun hc2=>?_) (fun hc2=>?_)
   ·simp (disch:=omega)only[go_sem, *]
    refine Af (fun hc3=>?_) (fun hc3=>?_)
    ·simp (disch:=omega)only[go_sem, *]
     simp only [false_eq_decide_iff]
     exact Rf (i:=i) (by omega) (fun h=>hc3 (((PR.eq _ _).1 h)))
    ·have he:=(PR.eq (nth L i) (nth M i)).2 (Decidable.not_not.1 hc3)
     simp (disch:=omega)only[go_sem, *]
     refine ih _ _ _ ?_ ⟨i+1,rfl, ?_⟩
     ·omega
     ·simp (disch:=omega)only[go_sem, *]
      ((repeat' refine And.intro ?_ ?_)<;>first | omega | assumption | (exact I1 (by omega) (by omega) hz he))
   ·simp (disch:=omega)only[go_sem, *]
    simp only [true_eq_decide_iff]
    rw [List.take_of_length_le (by omega),List.take_of_length_le (by omega)] at hz
    exact hz
  ·simp (disch:=omega)only[go_sem, *]
   first | done | simp
theorem Md {L M:List ST} (hA:∀ x∈L,x.r.length=8) (hB:∀ x∈M,x.r.length=8):Pf tp RO [.fl 9 (L.map ST.enc),.fl 9 (M.map ST.enc)] (.b (decide (L=M))):=by
 refine AN jH (by simp [KM]) fun rp=>?_;unfold KM;simp (disch:=omega)only[go_sem, *]
 have hL:=rp.head.len
 have hM:=rp.tail.head.len
 refine Af (fun hc=>?_) (fun hc=>?_)
 ·simp (disch:=omega)only[go_sem, *]
  simp only [false_eq_decide_iff]
  rintro rfl;exact hc rfl
 ·simp (disch:=omega)only[go_sem, *]
  refine Au (fun n e h=>∃ (i:Nat),n=L.length - i∧h.lim=0∧e 0=.fl 9 (L.map ST.enc)∧e 1=.fl 9 (M.map ST.enc)∧e 12=.i .i64 L.length∧e 13=.i .i64 i∧i≤L.length∧L.take i=M.take i) ?_ _ _ _ ⟨0,rfl, ?_⟩
  ·rintro n e h ⟨i,rfl,hl,e0,e1,e12,e13,hi,hz⟩ ih
   rw [AA Za.eq_1]
   simp (disch:=omega)only[go_sem, *]
   refine Af (fun hc2=>?_) (fun hc2=>?_)
   ·have l1:=ST.lit (hA _ (AR (L:=L) (j:=i) (by omega)))
    have l2:=ST.lit (hB _ (AR (L:=M) (j:=i) (by omega)))
    have eq:=ST.eq (hA _ (AR (L:=L) (j:=i) (by omega))) (hB _ (AR (L:=M) (j:=i) (by omega)))
    simp (disch:=omega)only[go_sem, *]
    refine Af (fun hc3=>?_) (fun hc3=>?_)
    ·simp (disch:=omega)only[go_sem, *]
     simp only [false_eq_decide_iff]
     exact Rf (i:=i) (by omega) (fun h=>hc3 ((eq.1 h)))
    ·have he:=eq.2 (Decidable.not_not.1 hc3)
     simp (disch:=omega)only[go_sem, *]
     refine ih _ _ _ ?_ ⟨i+1,rfl, ?_⟩
     ·omega
     ·simp (disch:=omega)only[go_sem, *]
      ((repeat' refine And.intro ?_ ?_)<;>first | omega | assumption | (exact I1 (by omega) (by omega) hz he))
   ·simp (disch:=omega)only[go_sem, *]
    simp only [true_eq_decide_iff]
    rw [List.take_of_length_le (by omega),List.take_of_length_le (by omega)] at hz
    exact hz
  ·simp (disch:=omega)only[go_sem, *]
   first | done | simp
section
variable {b pp tb lg:Nat} {h:AH} {w a f:V} {c:PC} {s:PS} {K:V→AH→Prop}
theorem Pc (p:PA b h pp tb lg w a f c s) (kk:K (.i .i64 s.clk) h):Cq tp lZ [.p pp 0 0] h K:=by
 have gp:=p.gp
 have f25:=Ar.f25 (c:=c) (tb:=tb) (lg:=lg) (a:=a) (mem:=s.mem) (clk:=s.clk) p.l3
 have rl:=Ar.len (c:=c) (tb:=tb) (lg:=lg) (a:=a) (clk:=s.clk) p.l3
 clear p
 refine Ad aEo (by simp [T4]) fun wf rp=>?_;unfold T4;simp (disch:=omega)only[go_sem, *]
theorem Ox {R:List (List V)} (sf:Sl b h 3 f R) (hl:h.lim≤h.next) (hR:R.length<4000000000) (kk:∀ r h',Sl h.next h' 3 r R→Am h h'→K r h'):Cq tp Sf [f] h K:=by
 have hr:=sf.rows
 rcases sf with ⟨hv,rfl⟩ | ⟨i,el,cap,cs,rfl,hg,a1,a2,a3,a4,a5,a6⟩
 ·rcases hv with rfl | rfl
  ·have k:=kk .ns h (Sl.nil _ _ _) (Am.refl h)
   clear kk
   refine Ad Mi (by simp [FN]) fun wf rp=>?_;unfold FN;simp (disch:=omega)only[go_sem, *]
  ·refine Ad Mi (by simp [FN]) fun wf rp=>?_;unfold FN;simp (disch:=omega)only[go_sem, *]
   refine AQ (R:=[]) (Sl.nil' h.next _ _) hl (Nat.le_refl _) (by simp) ?_
   intro w h4 s4 g4
   simp (disch:=omega)only[go_sem, *]
   exact kk _ _ s4 ⟨g4.next,g4.lim,g4.low⟩
 ·refine Ad Mi (by simp [FN]) fun wf rp=>?_;unfold FN;simp (disch:=omega)only[go_sem, *]
  refine AQ (R:=[]) (Sl.nil' h.next _ _) hl (Nat.le_refl _) (by simp;omega) ?_
  intro w h4 s4 g4
  simp (disch:=omega)only[go_sem, *]
  exact kk _ _ s4 ⟨g4.next,g4.lim,g4.low⟩
theorem J8 {l:List Int} (h:l.length=16):l=[nth l 0,nth l 1,nth l 2,nth l 3,nth l 4,nth l 5,nth l 6,nth l 7,nth l 8,nth l 9,nth l 10,nth l 11,nth l 12,nth l 13,nth l 14,nth l 15]:=by
 match l,h with
 | [a,b,c,d,e,f,g,i,a',b',c',d',e',f',g',i'],_=>rfl
theorem aFW {l m:List Int} (h:l.length=16) (h2:m.length=16):l=m↔nth l 0=nth m 0∧nth l 1=nth m 1∧nth l 2=nth m 2∧nth l 3=nth m 3∧nth l 4=nth m 4∧nth l 5=nth m 5∧nth l 6=nth m 6∧nth l 7=nth m 7∧nth l 8=nth m 8∧nth l 9=nth m 9∧nth l 10=nth m 10∧nth l 11=nth m 11∧nth l 12=nth m 12∧nth l 13=nth m 13∧nth l 14=nth m 14∧nth l 15=nth m 15:=by
 refine ⟨fun e=>by rw [e];simp,fun ⟨e0,e1,e2,e3,e4,e5,e6,e7,e8,e9,f0,f1,f2,f3,f4,f5⟩=>?_⟩
 rw [J8 h,J8 h2,e0,e1,e2,e3,e4,e5,e6,e7,e8,e9,f0,f1,f2,f3,f4,f5]
theorem Wd {h0 h1 h2 h3 h4:Int} {st:Bool} {R:List (List V)} (gl:h.get lg=some ⟨7,[[.i .i64 h0,.i .i64 h1,.i .i64 h2,.i .i64 h3,.i .i64 h4,f,.b st]]⟩) (sf:Sl b h 3 f R) (hR:R.length<4000000000) (kk:∀ r h',Sl h.next h' 3 r R→Am h h'→K r h'):Cq tp R3 [.p lg 0 0] h K:=by
 refine Ad kB (by simp [K5]) fun wf rp=>?_;unfold K5;simp (disch:=omega)only[go_sem, *]
 refine Ox sf wf.1 hR ?_
 intro r h' s1 x1
 have k:=kk r h' s1 x1
 clear kk sf
 simp (disch:=omega)only[go_sem, *]
theorem Hw {mem fl:List (List V)} {st:Bool} {rw:List V} (gp:h.get pp=some ⟨26,[rw]⟩) (f24:rw[24]?=some (.p lg 0 0)) (rl:rw.length=26) (gl:h.get lg=some ⟨7,[[.i .i64 c.h0,.i .i64 c.h1,.i .i64 c.h2,.i .i64 c.h3,.i .i64 c.h4,f,.b st]]⟩) (sf:Sl b h 3 f fl) (hR:fl.length<4000000000) (kk:∀ r h',Sl h.next h' 3 r fl→Am h h'→K r h'):Cq tp No [.p pp 0 0] h K:=by
 refine Ad jK (by simp [KP]) fun wf rp=>?_;unfold KP;simp (disch:=omega)only[go_sem, *]
 refine Wd gl sf hR ?_
 intro r h' s1 x1
 have k:=kk r h' s1 x1
 clear kk sf
 simp (disch:=omega)only[go_sem, *]
theorem MC (p:PA b h pp tb lg w a f c s) (kk:∀ r h',Sl h.next h' 3 r (s.fl.map FT.enc)→Am h h'→K r h'):Cq tp No [.p pp 0 0] h K:=
 Hw (mem:=[]) p.gp (Ar.f24 p.l3) (Ar.len p.l3) p.gl p.sf (by rw [List.length_map];have:=p.l6;omega) kk
theorem Tt {st:Bool} {rw:List V} (gp:h.get pp=some ⟨26,[rw]⟩) (f24:rw[24]?=some (.p lg 0 0)) (rl:rw.length=26) (gl:h.get lg=some ⟨7,[[.i .i64 c.h0,.i .i64 c.h1,.i .i64 c.h2,.i .i64 c.h3,.i .i64 c.h4,f,.b st]]⟩) (kk:K (.b st) h):Cq tp Wj [.p pp 0 0] h K:=by
 refine Ad Zx (by simp [MW]) fun wf rp=>?_;unfold MW;simp (disch:=omega)only[go_sem, *]
 refine JZ gl ?_
 simp (disch:=omega)only[go_sem, *]
theorem BV {i:Nat} (p:PA b h pp tb lg w a f c s) (hi:i<s.all.length) (kk:∀ h',Am h h'→K (.agg [.i .u32 (nth (nth s.all i).r 0),.i .u32 (nth (nth s.all i).r 1),.i .u32 (nth (nth s.all i).r 2),.i .u32 (nth (nth s.all i).r 3),.i .u32 (nth (nth s.all i).r 4),.i .u32 (nth (nth s.all i).r 5),.i .u32 (nth (nth s.all i).r 6),.i .u32 (nth (nth s.all i).r 7)]) h'):Cq tp mB [.p pp 0 0,.i .i64 i] h K:=by
 obtain ⟨sg,sr,slt,slo,sat,set⟩:=Dq p.sa hi
 have hx:=p.l4 _ (AR hi)
 have gp:=p.gp
 have np:=p.np.1
 have lit:=ST.lit hx.1
 have len:=p.sa.facts.1
 have f7:=Ar.f7 (c:=c) (tb:=tb) (lg:=lg) (a:=a) (mem:=s.mem) (clk:=s.clk)
 have rl:=Ar.len (c:=c) (tb:=tb) (lg:=lg) (a:=a) (clk:=s.clk) p.l3
 have at0:=sat (AU h a)
 rw [lit] at sr
 have z1:¬ (i:Int)<0:=by omega
 have z2:¬ (s.all.length:Int)≤i:=by omega
 have hlim:=p.lim
 have bp:=p.bp.1
 have fin:=kk ((h.alloc ⟨8,[[.i .u32 0,.i .u32 0,.i .u32 0,.i .u32 0,.i .u32 0,.i .u32 0,.i .u32 0,.i .u32 0]]⟩).put h.next ⟨8,[[.i .u32 (nth (nth s.all i).r 0),.i .u32 (nth (nth s.all i).r 1),.i .u32 (nth (nth s.all i).r 2),.i .u32 (nth (nth s.all i).r 3),.i .u32 (nth (nth s.all i).r 4),.i .u32 (nth (nth s.all i).r 5),.i .u32 (nth (nth s.all i).r 6),.i .u32 (nth (nth s.all i).r 7)]]⟩) (by (repeat (first | exact Am.refl _ | refine Am.alloc ?_ _ | (refine Am.put ?_ _ _ ?_;rotate_left;(first | omega | (simp only [Aa,Ae];omega))))))
 clear kk p
 refine Ad aEq (by simp [T6]) fun wf rp=>?_;unfold T6;simp (disch:=omega)only[go_sem, *]
theorem GS (p:PA b h pp tb lg w a f c s) (kk:∀ h',Am h h'→K (.agg [.i .u32 (nth s.mem 0),.i .u32 (nth s.mem 1),.i .u32 (nth s.mem 2),.i .u32 (nth s.mem 3),.i .u32 (nth s.mem 4),.i .u32 (nth s.mem 5),.i .u32 (nth s.mem 6),.i .u32 (nth s.mem 7),.i .u32 (nth s.mem 8),.i .u32 (nth s.mem 9),.i .u32 (nth s.mem 10),.i .u32 (nth s.mem 11),.i .u32 (nth s.mem 12),.i .u32 (nth s.mem 13),.i .u32 (nth s.mem 14),.i .u32 (nth s.mem 15)]) h'):Cq tp mA [.p pp 0 0] h K:=by
 have gp:=p.gp
 have np:=p.np.1
 have hlim:=p.lim
 have bp:=p.bp.1
 have lit:=J8 p.l3
 unfold Ar at gp
 rw [lit] at gp
 simp only [go_sem,List.map_cons,List.map_nil,List.cons_append,List.nil_append] at gp
 have fin:=kk ((h.alloc ⟨16,[[.i .u32 0,.i .u32 0,.i .u32 0,.i .u32 0,.i .u32 0,.i .u32 0,.i .u32 0,.i .u32 0,.i .u32 0,.i .u32 0,.i .u32 0,.i .u32 0,.i .u32 0,.i .u32 0,.i .u32 0,.i .u32 0]]⟩).put h.next ⟨16,[[.i .u32 (nth s.mem 0),.i .u32 (nth s.mem 1),.i .u32 (nth s.mem 2),.i .u32 (nth s.mem 3),.i .u32 (nth s.mem 4),.i .u32 (nth s.mem 5),.i .u32 (nth s.mem 6),.i .u32 (nth s.mem 7),.i .u32 (nth s.mem 8),.i .u32 (nth s.mem 9),.i .u32 (nth s.mem 10),.i .u32 (nth s.mem 11),.i .u32 (nth s.mem 12),.i .u32 (nth s.mem 13),.i .u32 (nth s.mem 14),.i .u32 (nth s.mem 15)]]⟩) (by (repeat (first | exact Am.refl _ | refine Am.alloc ?_ _ | (refine Am.put ?_ _ _ ?_;rotate_left;(first | omega | (simp only [Aa,Ae];omega))))))
 clear kk p lit
 refine Ad aEp (by simp [T5]) fun wf rp=>?_;unfold T5;simp (disch:=omega)only[go_sem, *]
theorem NW (x:ST):x.enc.all MU=true:=by unfold ST.enc;simp [MU]
section
variable {b' tq:Nat} {w':V} {P Q:List PR}
theorem Ue (g1:h.get tb=some ⟨1,[[w]]⟩) (g2:h.get tq=some ⟨1,[[w']]⟩) (s1:Sl b h 3 w (P.map PR.enc)) (s2:Sl b' h 3 w' (Q.map PR.enc)) (h1:P.length≤3) (h2:Q.length≤3) (kk:K (.b (decide (P=Q))) h):Cq tp RP [.p tb 0 0,.p tq 0 0] h K:=by
 refine Ad jI (by simp [KN]) fun wf rp=>?_;unfold KN;simp (disch:=omega)only[go_sem, *]
 refine Pf.look (Mc (L:=P) (M:=Q)) (.cons _ _ _ _ _ (Sl.froze (Sl.raise s1) (fun _=>rfl) trivial (by omega)) (.cons _ _ _ _ _ (Sl.froze (Sl.raise s2) (fun _=>rfl) trivial (by omega)) (.nil _))) rfl fun _=>?_
 simp (disch:=omega)only[go_sem, *]
end
theorem Tr (p:PA b h pp tb lg w a f c s) (kk:K (.b false) h):Cq tp R6 [.p pp 0 0,.np] h K:=by
 clear p
 refine Ad Zy (by simp [MX]) fun wf rp=>?_;unfold MX;simp (disch:=omega)only[go_sem, *]
variable {pq tq lq:Nat} {w' a' f':V} {c':PC} {s':PS} {b':Nat}
theorem Tq (p:PA b h pp tb lg w a f c s) (q:PA b' h pq tq lq w' a' f' c' s') (kk:∀ h',Am h h'→K (.b (decide (s.clk=s'.clk∧s.mem=s'.mem∧s.all=s'.all∧s.procs=s'.procs∧s.halt=s'.halt∧s.fl=s'.fl))) h'):Cq tp R6 [.p pp 0 0,.p pq 0 0] h K:=by
 have g1:=p.gp
 have g2:=q.gp
 have lit1:=J8 p.l3
 have lit2:=J8 q.l3
 have e16:=aFW p.l3 q.l3
 unfold Ar at g1 g2
 rw [lit1] at g1
 rw [lit2] at g2
 clear lit1 lit2
 simp only [go_sem,List.map_cons,List.map_nil,List.cons_append,List.nil_append] at g1 g2
 refine Ad Zy (by simp [MX]) fun wf rp=>?_;unfold MX;simp (disch:=omega)only[go_sem, *]
 have rb:h.raise.back h.lim=h:=E7
 have no:¬ (s.clk=s'.clk∧s.mem=s'.mem∧s.all=s'.all∧s.procs=s'.procs∧s.halt=s'.halt∧s.fl=s'.fl)→K (.b false) h:=fun z=>by
  have:=kk h (Am.refl h)
  rwa [decide_eq_false z] at this
 refine AD (fun c1=>?_) (fun c1=>?_)
 rotate_left
 ·have:=no (fun z=>c1 z.1)
  clear kk no p q
  simp (disch:=omega)only[go_sem, *]
 have c1':s.clk=s'.clk:=c1
 clear c1
 simp (disch:=omega)only[go_sem, *]
 refine AD (fun c2=>?_) (fun c2=>?_)
 rotate_left
 ·have:=no (fun z=>c2 (e16.1 z.2.1))
  clear kk no p q
  simp (disch:=omega)only[go_sem, *]
 have c2':=e16.2 c2
 clear c2 e16
 simp (disch:=omega)only[go_sem, *]
 have l1:=p.l6
 have l2:=q.l6
 have l3:=p.l2
 have l4:=q.l2
 have l5:=p.l1
 have l7:=q.l1
 refine Pf.look (Md (L:=s.all) (M:=s'.all) (fun x hx=>(p.l4 x hx).1) (fun x hx=>(q.l4 x hx).1)) (.cons _ _ _ _ _ (Sl.froze (Sl.raise p.sa) (fun x=>NW x) trivial (by omega)) (.cons _ _ _ _ _ (Sl.froze (Sl.raise q.sa) (fun x=>NW x) trivial (by omega)) (.nil _))) rfl fun _=>?_
 simp (disch:=omega)only[go_sem, *]
 refine AD (fun c3=>?_) (fun c3=>?_)
 rotate_left
 ·have:=no (fun z=>c3 z.2.2.1)
  clear kk no p q
  simp (disch:=omega)only[go_sem, *]
 have c3':s.all=s'.all:=c3
 clear c3
 simp (disch:=omega)only[go_sem, *]
 refine Ue (h:=h.raise) (tb:=tb) (tq:=tq) (w:=w) (w':=w') (b:=b) (b':=b') (P:=s.procs) (Q:=s'.procs) p.gt q.gt (Sl.raise p.sw) (Sl.raise q.sw) l5.2 l7.2 ?_
 simp (disch:=omega)only[go_sem, *]
 refine AD (fun c4=>?_) (fun c4=>?_)
 rotate_left
 ·have:=no (fun z=>c4 z.2.2.2.1)
  clear kk no p q
  simp (disch:=omega)only[go_sem, *]
 have c4':s.procs=s'.procs:=c4
 clear c4
 simp (disch:=omega)only[go_sem, *]
 refine Tt (h:=h.raise) (c:=c) (lg:=lg) (f:=f) (st:=s.halt) p.gp (Ar.f24 p.l3) (Ar.len p.l3) p.gl ?_
 simp (disch:=omega)only[go_sem, *]
 refine Tt (h:=h.raise) (c:=c') (lg:=lq) (f:=f') (st:=s'.halt) q.gp (Ar.f24 q.l3) (Ar.len q.l3) q.gl ?_
 simp (disch:=omega)only[go_sem, *]
 rw [show h.raise.back (h.raise.back (h.raise.back (h.raise.back h.lim).lim).lim).lim=h from rfl]
 refine AD (fun c5=>?_) (fun c5=>?_)
 rotate_left
 ·have:=no (fun z=>c5 z.2.2.2.2.1)
  clear kk no p q
  simp (disch:=omega)only[go_sem, *]
 have c5':s.halt=s'.halt:=c5
 clear c5
 simp (disch:=omega)only[go_sem, *]
 have np:=p.np
 have nq:=q.np
 refine Hw (h:=h.raise) (b:=b) (c:=c) (lg:=lg) (f:=f) (st:=s.halt) (mem:=[]) (fl:=s.fl.map FT.enc) p.gp (Ar.f24 p.l3) (Ar.len p.l3) p.gl (Sl.raise p.sf) (by rw [List.length_map];omega) ?_
 intro r1 h1 s1 x1
 have x1':Am h (h1.back h.lim):=⟨x1.next,rfl,x1.get⟩
 have sf:=(q.sf).ext x1'
 have gp:=(x1'.get pq nq.1).trans q.gp
 have gl:=(x1'.get lq nq.2.2).trans q.gl
 have s1b:=Sl.back (l:=h.lim) s1
 simp (disch:=omega)only[go_sem, *]
 refine Hw (h:=(h1.back h.lim).raise) (b:=b') (c:=c') (lg:=lq) (f:=f') (st:=s'.halt) (mem:=[]) (fl:=s'.fl.map FT.enc) gp (Ar.f24 q.l3) (Ar.len q.l3) gl (Sl.raise sf) (by rw [List.length_map];omega) ?_
 intro r2 h2 s2 x2
 have x2':Am h (h2.back h.lim):=⟨Nat.le_trans x1.next x2.next,rfl,fun j hj=>(x2.get j (Nat.lt_of_lt_of_le hj x1.next)).trans (x1.get j hj)⟩
 have s1c:Sl h.next (h2.back h.lim) 3 r1 (s.fl.map FT.enc):=Sl.back (l:=h.lim) ((Sl.raise s1b).ext x2)
 have s2c:Sl h1.next (h2.back h.lim) 3 r2 (s'.fl.map FT.enc):=Sl.back (l:=h.lim) s2
 have fin:=kk _ x2'
 have er:(h2.back h.lim).raise.back h.lim=h2.back h.lim:=rfl
 simp (disch:=omega)only[go_sem, *]
 refine Pf.look (Mb (L:=s.fl) (M:=s'.fl)) (.cons _ _ _ _ _ (Sl.froze (Sl.raise s1c) (fun _=>rfl) trivial (by omega)) (.cons _ _ _ _ _ (Sl.froze (Sl.raise s2c) (fun _=>rfl) trivial (by omega)) (.nil _))) rfl fun _=>?_
 have ed:decide (s.clk=s'.clk∧s.mem=s'.mem∧s.all=s'.all∧s.procs=s'.procs∧s.halt=s'.halt∧s.fl=s'.fl)=decide (s.fl=s'.fl):=by simp [c1',c2',c3',c4',c5']
 rw [ed] at fin
 clear kk no p q x1 x2 x1' x2' s1 s2 s1b s1c s2c sf gp gl ed
 simp (disch:=omega)only[go_sem, *]
end
end Go.Ab.T
namespace Go.Ab.T
open Go Go.Ab
set_option maxHeartbeats 8000000
def kAP (h1:Int) (two:Bool):Part:=⟨⟨#[97]⟩,0,0,false,false,if two=true then [⟨0,0⟩,⟨12,9⟩] else [⟨0,0⟩],0,h1,0,0,0⟩
def kA (h1:Int) (two:Bool):Av:=⟨[kAP h1 two],[],[[⟨1,0,1⟩]]⟩
theorem Pi {L:List BL} (h:(L.all Gw&&decide (1≤L.length∧L.length≤3))=true):Ei L=true:=by unfold Ei;exact h
theorem SV {h1:Int} {two:Bool} (hh:h1=0∨h1=2):Hu (kAP h1 two)=true:=by
 have:∀ t:Bool,Ei (if t=true then [⟨0,0⟩,⟨12,9⟩] else [⟨0,0⟩])=true:=fun t=>by cases t<;>exact Pi (by decide)
 have:Ei (kAP h1 two).procs=true:=this two
 unfold Hu
 rw [this]
 rcases hh with rfl | rfl<;>cases two<;>decide
theorem DC {h1:Int} {two:Bool} (hh:h1=0∨h1=2):CB (kA h1 two)=(0,-1):=by
 rw [PB]
 refine ⟨⟨show 1≤1 by decide,show 1≤6 by decide,show 0≤8 by decide,show 1≤1 by decide,show 1≤3 by decide⟩,fun j hj=>?_,fun x hx=>(by cases hx),fun t ht=>?_⟩
 ·have hj:j<1:=hj
  obtain rfl:j=0:=by omega
  exact ⟨Ws,rfl,SV hh⟩
 ·rw [List.mem_singleton.1 ht,MY]
  refine ⟨aEu, ?_⟩
  rw [Ml]
  exact ⟨rfl,FE _ _ fun p hp=>by rw [List.mem_singleton.1 hp];rfl⟩
theorem Hl {h1:Int} {two:Bool}:N7 (kA h1 two):=fun p hp=>by
 rw [List.mem_singleton.1 hp]
 exact (by decide:(1:Nat)<4000000000)
section
variable {b pp tb lg:Nat} {h:AH} {w a f:V} {c:PC} {s s':PS} {l:Loc} {ok:Bool} {K:V→AH→Prop}
theorem EG (e:Bq c s=(l,ok,s')) (p:PA b h pp tb lg w a f c s) (g:PG c) (n:PN c) (hpl:(nth c.c.parts c.p).procs.length=s.procs.length) (hk:s.clk+1<3000000000)
    (kk:∀ h' a' f',Pt pp lg w h a f h' a' f'→PA b h' pp tb lg w a' f' c s'→K (.tup [.agg l.enc,.b ok]) h'):Cq tp RS [.p pp 0 0,.ni] h K:=
 Xs p g n hpl hk (by rw [e];exact kk)
theorem CF (p:PA b h pp tb lg w a f c s) {j:Nat} (hj:h.next≤j):¬ IP pp lg w a f j:=by
 obtain ⟨e1,e2,e3,e4,e5,e6⟩:=p.fresh hj
 rintro (e | e | e | e | ⟨z,e⟩)
 ·exact e1 e
 ·exact e3 e
 ·exact e4 e
 ·exact e5 e
 ·exact (e6.resolve_left (by rw [z];decide)) e
theorem BE {h':AH} {a' f':V} {j:Nat} (pt:Pt pp lg w h a f h' a' f') (hj:j<h.next) (hn:¬ IP pp lg w a f j):h'.get j=h.get j∧¬ IP pp lg w a' f' j:=
 ⟨pt.w.get j hj hn,fun e=>hn (pt.ip hj e)⟩
theorem MD {p:Int} {x y:V} (kk:∀ h',Am h h'→K .np h'):Cq tp Mq [.agg [.ns,.ns,.ns],.i .i64 p,x,y] h K:=by
 have rt:=Hz (C:=⟨[],[],[]⟩) (fun p hp=>by cases hp)
 have hw:=SU
 have f:=kk (h.alloc ⟨3,[[.ns,.ns,.ns]]⟩) (by (repeat (first | exact Am.refl _ | refine Am.alloc ?_ _ | (refine Am.put ?_ _ _ ?_;rotate_left;(first | omega | (simp only [Aa,Ae];omega))))))
 clear kk
 refine Ad Rm (by simp [Jr]) fun wf rp=>?_;unfold Jr;simp (disch:=omega)only[go_sem, *]
 refine Pf.look rt (.cons _ _ _ _ _ (.agg _ _ _ (.cons _ _ _ _ _ (.ns _ _) (.cons _ _ _ _ _ (.ns _ _) (.cons _ _ _ _ _ (.ns _ _) (.nil _))))) (.nil _)) rfl fun _=>?_
 simp (disch:=omega)only[go_sem, *]
end
theorem Wq {h : AH} {C : Av} {q f : Nat} {B : List Int} {sv vp vt : V} {K : V → AH → Prop} (hq : q < h.next) (g4 : h.get q = some ⟨3, [[vp, .ns, vt]]⟩) (hp : ∀ n, CW (· ≠ q) h n vp (.fl 11 (C.parts.map Part.enc))) (ht : ∀ n, CW (· ≠ q) h n vt (.fl 1 (C.tables.map Tab.enc))) (hc : C.chans = []) (hb : ∀ n, CW (· ≠ q) h n sv (.fl 1 (B.map DR)))
    (z:Cq tp f [.agg C.enc,.i .i64 ((0:Nat):Int),.fl 1 (B.map DR),.fl 1 (([]:List Int).map Ft)] ⟨fun i=>if i=q then some ⟨3,[C.enc]⟩ else none,h.next,h.lim⟩ K):Cq tp f [.agg [vp,.ns,vt],.i .i64 0,sv,.ns] h K:=by
 have en:C.enc=[.fl 11 (C.parts.map Part.enc),.fl 6 [],.fl 1 (C.tables.map Tab.enc)]:=by unfold Av.enc;rw [hc];rfl
 rw [en] at z
 refine Na (h2:=⟨fun i=>if i=q then some ⟨3,[[.fl 11 (C.parts.map Part.enc),.fl 6 [],.fl 1 (C.tables.map Tab.enc)]]⟩ else none,h.next,h.lim⟩) (args':=[.agg [.fl 11 (C.parts.map Part.enc),.fl 6 [],.fl 1 (C.tables.map Tab.enc)],.i .i64 ((0:Nat):Int),.fl 1 (B.map DR),.fl 1 (([]:List Int).map Ft)]) (fun i=>i≠q) rfl rfl (fun _ i k hk=>?_) (.cons _ _ _ _ _ (.agg _ _ _ (.cons _ _ _ _ _ (hp _) (.cons _ _ _ _ _ (.ns _ _) (.cons _ _ _ _ _ (ht _) (.nil _))))) (.cons _ _ _ _ _ (.z _ _ (.i _ _)) (.cons _ _ _ _ _ (hb _) (.cons _ _ _ _ _ (.ns _ _) (.nil _))))) z
 by_cases hi:i=q
 ·subst hi
  simp only [if_true] at hk
  cases hk
  exact ⟨hq,fun e=>e rfl,_,g4,.cons _ _ _ _ _ (.cons _ _ _ _ _ (hp _) (.cons _ _ _ _ _ (.ns _ _) (.cons _ _ _ _ _ (ht _) (.nil _)))) (.nil _)⟩
 ·simp only at hk
  rw [if_neg hi] at hk;cases hk
def kpP:List Int:=[1,1,0,7,5,2,1,3,11,0,1,0]
def Up:PC:=Jb (kA 2 false) 0 kpP []
def PI (pc:Int) (r1:Int) (fl:List FT) (st:Bool) (clk:Int):PS:=⟨[⟨0,0,false⟩],[⟨[0,r1,0,0,0,0,0,0],pc⟩],List.replicate 16 0,fl,st,clk⟩
theorem kp0:Mw Up=PI 0 0 [] false 0:=by decide +kernel
theorem kp1:Bq Up (PI 0 0 [] false 0)=(⟨0,0,0,1,0,7⟩,true,PI 4 7 [] false 1):=by decide +kernel
theorem kp2:Bq Up (PI 4 7 [] false 1)=(⟨1,0,4,5,4,0⟩,true,PI 8 7 [⟨1,0,4⟩] false 2):=by decide +kernel
theorem kp3:Bq Up (PI 8 7 [⟨1,0,4⟩] false 2)=(⟨2,0,8,11,5,0⟩,true,PI 12 7 [⟨1,0,4⟩,⟨2,0,5⟩] false 3):=by decide +kernel
theorem kp4:Bq Up (PI 12 7 [⟨1,0,4⟩,⟨2,0,5⟩] false 3)=(⟨3,0,12,0,2,0⟩,true,PI 12 7 [⟨1,0,4⟩,⟨2,0,5⟩,⟨3,0,2⟩] true 4):=by decide +kernel
theorem kp5:Bq Up (PI 12 7 [⟨1,0,4⟩,⟨2,0,5⟩,⟨3,0,2⟩] true 4)=(⟨0,0,0,0,0,0⟩,false,PI 12 7 [⟨1,0,4⟩,⟨2,0,5⟩,⟨3,0,2⟩] true 4):=by decide +kernel
theorem kpG:PG Up:=⟨by decide,by decide⟩
theorem ZG {P:List Int} (h:∀ j,4*j<P.length→nth P (4*j)≠15∧nth P (4*j)≠16) (pc:Int):(BC P pc).1.op≠15∧(BC P pc).1.op≠16:=by
 unfold BC
 split
 ·exact ⟨by decide,by decide⟩
 ·rename_i q
  obtain ⟨n,rfl⟩:∃ n:Nat,pc=n:=⟨pc.toNat,by omega⟩
  have q2:(n:Int).tmod 4=0:=by omega
  rw [Int.tmod_eq_emod_of_nonneg (by omega)] at q2
  obtain ⟨j,rfl⟩:∃ j,n=4*j:=⟨n / 4,by omega⟩
  exact h j (by omega)
theorem kpN:PN Up:=⟨by decide,ZG (fun j hj=>by
    have hj:4*j<12:=hj
    have:j=0∨j=1∨j=2:=by omega
    rcases this with rfl | rfl | rfl<;>decide),rfl,fun z hz=>(by cases hz),by decide⟩
theorem Mt:Pf tp lY [] (.b true):=by
 refine AN aEn (by simp [T3]) fun rp=>?_;unfold T3;simp (disch:=omega)only[go_sem, *]
 refine Wq (q:=4) (C:=kA 2 false) (B:=kpP) (by simp only [go_sem]) (by simp only [go_sem]) (fun n=>?_) (fun n=>?_) rfl (fun n=>?_) ?_
 ·exact A8 (by decide) rfl (.cons _ _ _ _ _ (.z _ _ (.s _)) (.cons _ _ _ _ _ (.z _ _ (.i _ _)) (.cons _ _ _ _ _ (.z _ _ (.i _ _)) (.cons _ _ _ _ _ (.z _ _ (.b _)) (.cons _ _ _ _ _ (.z _ _ (.b _)) (.cons _ _ _ _ _ (A8 (by decide) rfl (.cons _ _ _ _ _ (.z _ _ (.i _ _)) (.cons _ _ _ _ _ (.z _ _ (.i _ _)) (.nil _)))) (.cons _ _ _ _ _ (.z _ _ (.i _ _)) (.cons _ _ _ _ _ (.z _ _ (.i _ _)) (.cons _ _ _ _ _ (.z _ _ (.i _ _)) (.cons _ _ _ _ _ (.z _ _ (.i _ _)) (.cons _ _ _ _ _ (.z _ _ (.i _ _)) (.nil _))))))))))))
 ·exact A8 (by decide) rfl (.cons _ _ _ _ _ (A8 (by decide) rfl (.cons _ _ _ _ _ (.z _ _ (.i _ _)) (.cons _ _ _ _ _ (.z _ _ (.i _ _)) (.cons _ _ _ _ _ (.z _ _ (.i _ _)) (.nil _))))) (.nil _))
 ·exact .sl _ _ _ _ _ _ _ _ (by decide) rfl (by decide) (by decide) (by decide) (B1.of_map (enc:=DR) (fun _=>rfl) kpP)
 refine Ez (C:=kA 2 false) (p:=0) (prog:=kpP) (ins:=[]) Hl (by rw [DC (.inr rfl)]) (by decide) (by decide) (by decide) (by decide) ?_
 intro h1 pp tb lg w a x1 p0
 replace p0:PA 6 h1 pp tb lg w a .ns Up (Mw Up):=p0
 rw [kp0] at p0
 have c4:h1.get 4=some ⟨3,[(kA 2 false).enc]⟩:=x1.get 4 (by decide)
 have n4:6≤h1.next:=x1.next
 have eC:(kA 2 false).enc=[.fl 11 ((kA 2 false).parts.map Part.enc),.fl 6 ((kA 2 false).chans.map Bl.enc),.fl 1 ((kA 2 false).tables.map Tab.enc)]:=rfl
 rw [eC] at c4
 clear x1 eC
 simp (disch:=omega)only[go_sem, *]
 refine W2 (C:=kA 2 false) Hl (.inr (.inr (by decide))) ?_
 intro h2 x2
 have p1:=p0.ext x2
 clear p0 x2 c4
 simp (disch:=omega)only[go_sem, *]
 refine MD ?_
 intro h3 x3
 have p2:=p1.ext x3
 clear p1 x3
 simp (disch:=omega)only[go_sem, *]
 refine EG kp1 p2 kpG kpN rfl (by decide) ?_
 intro g1 a1 f1 pt1 q1
 have l1:=q1.lim
 have n1:=q1.np.1
 have b1:=q1.bp.1
 have m1:=CF q1 (Nat.le_refl g1.next)
 clear pt1 p2
 simp (disch:=omega)only[go_sem, *]
 refine EG kp2 (q1.ext (by (repeat (first | exact Am.refl _ | refine Am.alloc ?_ _ | (refine Am.put ?_ _ _ ?_;rotate_left;(first | omega | (simp only [Aa,Ae];omega))))))) kpG kpN rfl (by decide) ?_
 intro g2 a2 f2 pt2 q2
 have l2:=q2.lim
 have n2:=q2.np.1
 have b2:=q2.bp.1
 have x2:=pt2.w.next
 simp only [go_sem] at x2
 obtain ⟨e,m1⟩:=BE pt2 (j:=g1.next) (by simp only [go_sem];omega) m1
 simp (disch:=omega)only[go_sem] at e
 have v1:=e
 clear e
 have m2:=CF q2 (Nat.le_refl g2.next)
 clear pt2 q1 l1 n1 b1
 simp (disch:=omega)only[go_sem, *]
 refine EG kp3 (q2.ext (by (repeat (first | exact Am.refl _ | refine Am.alloc ?_ _ | (refine Am.put ?_ _ _ ?_;rotate_left;(first | omega | (simp only [Aa,Ae];omega))))))) kpG kpN rfl (by decide) ?_
 intro g3 a3 f3 pt3 q3
 have l3:=q3.lim
 have n3:=q3.np.1
 have b3:=q3.bp.1
 have x3:=pt3.w.next
 simp only [go_sem] at x3
 obtain ⟨e,m1⟩:=BE pt3 (j:=g1.next) (by simp only [go_sem];omega) m1
 simp (disch:=omega)only[go_sem,v1] at e
 clear v1
 have v1:=e
 clear e
 obtain ⟨e,m2⟩:=BE pt3 (j:=g2.next) (by simp only [go_sem];omega) m2
 simp (disch:=omega)only[go_sem] at e
 have v2:=e
 clear e
 have m3:=CF q3 (Nat.le_refl g3.next)
 clear pt3 q2 l2 n2 b2
 simp (disch:=omega)only[go_sem, *]
 refine EG kp4 (q3.ext (by (repeat (first | exact Am.refl _ | refine Am.alloc ?_ _ | (refine Am.put ?_ _ _ ?_;rotate_left;(first | omega | (simp only [Aa,Ae];omega))))))) kpG kpN rfl (by decide) ?_
 intro g4 a4 f4 pt4 q4
 have l4:=q4.lim
 have n4:=q4.np.1
 have b4:=q4.bp.1
 have x4:=pt4.w.next
 simp only [go_sem] at x4
 obtain ⟨e,m1⟩:=BE pt4 (j:=g1.next) (by simp only [go_sem];omega) m1
 simp (disch:=omega)only[go_sem,v1] at e
 clear v1
 have v1:=e
 clear e
 obtain ⟨e,m2⟩:=BE pt4 (j:=g2.next) (by simp only [go_sem];omega) m2
 simp (disch:=omega)only[go_sem,v2] at e
 clear v2
 have v2:=e
 clear e
 obtain ⟨e,m3⟩:=BE pt4 (j:=g3.next) (by simp only [go_sem];omega) m3
 simp (disch:=omega)only[go_sem] at e
 have v3:=e
 clear e
 have m4:=CF q4 (Nat.le_refl g4.next)
 clear pt4 q3 l3 n3 b3
 simp (disch:=omega)only[go_sem, *]
 refine EG kp5 (q4.ext (by (repeat (first | exact Am.refl _ | refine Am.alloc ?_ _ | (refine Am.put ?_ _ _ ?_;rotate_left;(first | omega | (simp only [Aa,Ae];omega))))))) kpG kpN rfl (by decide) ?_
 intro g5 a5 f5 pt5 q5
 have l5:=q5.lim
 have n5:=q5.np.1
 have b5:=q5.bp.1
 have x5:=pt5.w.next
 simp only [go_sem] at x5
 obtain ⟨e,m1⟩:=BE pt5 (j:=g1.next) (by simp only [go_sem];omega) m1
 simp (disch:=omega)only[go_sem,v1] at e
 clear v1
 have v1:=e
 clear e
 obtain ⟨e,m2⟩:=BE pt5 (j:=g2.next) (by simp only [go_sem];omega) m2
 simp (disch:=omega)only[go_sem,v2] at e
 clear v2
 have v2:=e
 clear e
 obtain ⟨e,m3⟩:=BE pt5 (j:=g3.next) (by simp only [go_sem];omega) m3
 simp (disch:=omega)only[go_sem,v3] at e
 clear v3
 have v3:=e
 clear e
 obtain ⟨e,m4⟩:=BE pt5 (j:=g4.next) (by simp only [go_sem];omega) m4
 simp (disch:=omega)only[go_sem] at e
 have v4:=e
 clear e
 have m5:=CF q5 (Nat.le_refl g5.next)
 clear pt5 q4 l4 n4 b4
 simp (disch:=omega)only[go_sem, *]
 generalize hE:PI 12 7 [⟨1,0,4⟩,⟨2,0,5⟩,⟨3,0,2⟩] true 4=E at q5
 have y1:E.halt=true:=by rw [← hE];rfl
 have y2:E.clk=4:=by rw [← hE];rfl
 have y3:nth (nth E.all 0).r 1=7:=by rw [← hE];rfl
 have y4:(E.fl.length:Int)=3:=by rw [← hE];rfl
 have y5:0<E.all.length:=by rw [← hE];decide
 clear hE v1 v2 v3 v4 m1 m2 m3 m4 m5
 refine Hy (q5.ext (by (repeat (first | exact Am.refl _ | refine Am.alloc ?_ _ | (refine Am.put ?_ _ _ ?_;rotate_left;(first | omega | (simp only [Aa,Ae];omega))))))) ?_
 simp (disch:=omega)only[go_sem, *]
 refine Pc (q5.ext (by (repeat (first | exact Am.refl _ | refine Am.alloc ?_ _ | (refine Am.put ?_ _ _ ?_;rotate_left;(first | omega | (simp only [Aa,Ae];omega))))))) ?_
 simp (disch:=omega)only[go_sem, *]
 refine BV (i:=0) (q5.ext (by (repeat (first | exact Am.refl _ | refine Am.alloc ?_ _ | (refine Am.put ?_ _ _ ?_;rotate_left;(first | omega | (simp only [Aa,Ae];omega))))))) y5 ?_
 intro h5 z5
 have r5:=(q5.ext (by (repeat (first | exact Am.refl _ | refine Am.alloc ?_ _ | (refine Am.put ?_ _ _ ?_;rotate_left;(first | omega | (simp only [Aa,Ae];omega))))))).ext z5
 clear q5 z5
 simp (disch:=omega)only[go_sem, *]
 refine MC r5 ?_
 intro r h6 s6 z6
 have r6:=r5.ext z6
 have fl:=s6.facts.1
 clear s6 z6 r5
 simp (disch:=omega)only[go_sem, *]
 refine Tq r6 r6 ?_
 intro h7 z7
 have r7:=r6.ext z7
 clear r6 z7
 rw [show decide (E.clk=E.clk∧E.mem=E.mem∧E.all=E.all∧E.procs=E.procs∧E.halt=E.halt∧E.fl=E.fl)=true from by simp]
 simp (disch:=omega)only[go_sem, *]
 refine Tr r7 ?_
 clear r7
 simp (disch:=omega)only[go_sem, *]
end Go.Ab.T
namespace Go.Ab.T
open Go Go.Ab
set_option maxHeartbeats 8000000
def Im (op:Int):List Int:=[13,1,0,0,13,2,0,0,op,3,1,2,7,3,4,15,6,5,4,15]
def Gs (op a b:Int):PC:=Jb (kA 0 false) 0 (Im op) [a,b]
def Du (r:List Int) (pc:Int) (m15:Int) (fl:List FT) (clk:Int):PS:=⟨[⟨0,0,false⟩],[⟨r,pc⟩],[0,0,0,0,0,0,0,0,0,0,0,0,0,0,0,m15],fl,false,clk⟩
section
variable {op a b:Int}
theorem kr1:Bq (Gs op a b) (Du [0,0,0,0,0,0,0,0] 0 0 [] 0)=(⟨0,0,0,13,0,a⟩,true,Du [0,a,0,0,0,0,0,0] 4 0 [] 1):=rfl
theorem kr2:Bq (Gs op a b) (Du [0,a,0,0,0,0,0,0] 4 0 [] 1)=(⟨1,0,4,13,0,b⟩,true,Du [0,a,b,0,0,0,0,0] 8 0 [] 2):=rfl
theorem aF1:Bq (Gs 2 a b) (Du [0,a,b,0,0,0,0,0] 8 0 [] 2)=(⟨2,0,8,2,0,IntKind.wrap .u32 (a+b)⟩,true,Du [0,a,b,IntKind.wrap .u32 (a+b),0,0,0,0] 12 0 [] 3):=rfl
theorem aF2:Bq (Gs 3 a b) (Du [0,a,b,0,0,0,0,0] 8 0 [] 2)=(⟨2,0,8,3,0,IntKind.wrap .u32 (a - b)⟩,true,Du [0,a,b,IntKind.wrap .u32 (a - b),0,0,0,0] 12 0 [] 3):=rfl
theorem aF3:Bq (Gs 4 a b) (Du [0,a,b,0,0,0,0,0] 8 0 [] 2)=(⟨2,0,8,4,0,IntKind.wrap .u32 (a*b)⟩,true,Du [0,a,b,IntKind.wrap .u32 (a*b),0,0,0,0] 12 0 [] 3):=rfl
theorem aF4 (hb:b≠0):Bq (Gs 5 a b) (Du [0,a,b,0,0,0,0,0] 8 0 [] 2)=(⟨2,0,8,5,0,IntKind.wrap .u32 (a.tdiv b)⟩,true,Du [0,a,b,IntKind.wrap .u32 (a.tdiv b),0,0,0,0] 12 0 [] 3):=by
 have hs:GA (Gs 5 a b) (Du [0,a,b,0,0,0,0,0] 8 0 [] 2) 0=(fun d:Int×Int×ST=>if d.2.1=0 then ((⟨2,0,8,5,0,d.1⟩:Loc),(⟨[⟨0,0,false⟩],[d.2.2],[0,0,0,0,0,0,0,0,0,0,0,0,0,0,0,0],[],false,3⟩:PS)) else (⟨2,0,8,5,d.2.1,0⟩,Fu (Gs 5 a b) ⟨[⟨0,0,false⟩],[d.2.2],[0,0,0,0,0,0,0,0,0,0,0,0,0,0,0,0],[],false,3⟩ 2 0 8 d.2.1)) (BB [a,b] 2 5 3 1 2 ⟨[0,a,b,0,0,0,0,0],12⟩):=rfl
 have e:BB [a,b] 2 5 3 1 2 ⟨[0,a,b,0,0,0,0,0],12⟩=(IntKind.wrap .u32 (a.tdiv b),0,⟨[0,a,b,IntKind.wrap .u32 (a.tdiv b),0,0,0,0],12⟩):=by
  unfold BB
  rw [if_neg (fun z=>hb z.2)];rfl
 have ht:Bq (Gs 5 a b) (Du [0,a,b,0,0,0,0,0] 8 0 [] 2)=((GA (Gs 5 a b) (Du [0,a,b,0,0,0,0,0] 8 0 [] 2) 0).1,true,(GA (Gs 5 a b) (Du [0,a,b,0,0,0,0,0] 8 0 [] 2) 0).2):=rfl
 rw [ht,hs,e];rfl
theorem aF5:Bq (Gs 5 a 0) (Du [0,a,0,0,0,0,0,0] 8 0 [] 2)=(⟨2,0,8,5,4,0⟩,true,Du [0,a,0,0,0,0,0,0] 12 0 [⟨2,0,4⟩] 3):=rfl
theorem kr4 {v:Int} {fl:List FT}:Bq (Gs op a b) (Du [0,a,b,v,0,0,0,0] 12 0 fl 3)=(⟨3,0,12,7,0,v⟩,true,Du [0,a,b,v,0,0,0,0] 16 v fl 4):=rfl
theorem kr5 {v:Int} {fl:List FT}:Bq (Gs op a b) (Du [0,a,b,v,0,0,0,0] 16 v fl 4)=(⟨4,0,16,6,0,v⟩,true,Du [0,a,b,v,0,v,0,0] 20 v fl 5):=rfl
end
end Go.Ab.T
namespace Go.Ab.T
open Go Go.Ab
set_option maxHeartbeats 8000000
theorem mN {b pp tb lg q:Nat} {w a f:V} {c:PC} {s:PS} {h:AH} (p:PA b h pp tb lg w a f c s) (n:¬ IP pp lg w a f q) (qt:q≠tb):q≠pp∧q≠tb∧q≠lg∧q≠Aq w∧q≠Aq a∧(AI f=true∨q≠Aq f):=
 ⟨fun e=>n (.inl e),qt,fun e=>n (.inr (.inl e)),fun e=>n (.inr (.inr (.inl e))),fun e=>n (.inr (.inr (.inr (.inl e)))),by
  cases hf:AI f with
  | true=>exact .inl rfl
  | false=>exact .inr (fun e=>n (.inr (.inr (.inr (.inr ⟨hf,e⟩)))))⟩
theorem aGc {l:List V} (h:l.length=6) (a b c d e f:V):((((((l.set 0 a).set 1 b).set 2 c).set 3 d).set 4 e).set 5 f)=[a,b,c,d,e,f]:=by
 match l,h with
 | [_,_,_,_,_,_],_=>rfl
theorem W9 {b pp tb lg q : Nat} {w a f : V} {c : PC} {st : Nat → PS} {lc : Nat → Loc} {bx : Nat → List V} {e : Env} {h : AH} {K : Ex → Env → AH → Prop} (g : PG c) (n : PN c) (p : PA b h pp tb lg w a f c (st 0))
    (hpl:∀ i,i<5→(nth c.c.parts c.p).procs.length=(st i).procs.length) (hck:∀ i,i<5→(st i).clk+1<3000000000) (er:∀ i,i<5→Bq c (st i)=(lc i,true,st (i+1)))
    (hb0:∀ i,i<5→i≠2→bx (i+1)=bx i) (hb1:bx 3=(lc 2).enc) (hbl:∀ i,(bx i).length=6)
    (gq:h.get q=some ⟨6,[bx 0]⟩) (hq:q<h.next) (nq:¬ IP pp lg w a f q) (qt:q≠tb) (bq:b≤q) (eq:e 10=.p q 0 0) (e9:e 9=.p pp 0 0) (e11:e 11=.i .i64 0)
    (kk:∀ e' h' a' f',(∀ t,t≤10→e' t=e t)→PA b h' pp tb lg w a' f' c (st 5)→h'.get q=some ⟨6,[bx 5]⟩→q<h'.next→K (.ex 0) e' h'):ZC tp (.loop Nb) e h K:=by
 refine Au (fun m e' hh=>∃ (i:Nat) (a f:V),m=5 - i∧PA b hh pp tb lg w a f c (st i)∧i≤5∧hh.get q=some ⟨6,[bx i]⟩∧q<hh.next∧¬ IP pp lg w a f q∧(∀ t,t≤10→e' t=e t)∧e' 11=.i .i64 i) ?_ _ _ _ ⟨0,a,f,rfl,p,by omega,gq,hq,nq,fun _ _=>rfl,e11⟩
 rintro m e' hh ⟨i,a,f,rfl,p,hi,gq,hq,nq,he,e11⟩ ih
 have eq':=(he 10 (by omega)).trans eq
 have e9':=(he 9 (by omega)).trans e9
 rw [AA Nb.eq_1]
 simp (disch:=omega)only[go_sem, *]
 refine Af (fun hc=>?_) (fun hc=>?_)
 ·have hi5:i<5:=by omega
  simp (disch:=omega)only[go_sem, *]
  refine EG (er i hi5) p g n (hpl i hi5) (hck i hi5) ?_
  intro h1 a1 f1 pt p1
  obtain ⟨k1,k2⟩:=BE pt hq nq
  have nx:=pt.w.next
  have lm:=p1.lim
  have g1:=k1.trans gq
  have hl:=hbl i
  have s6:=aGc hl
  have hq1:q<h1.next:=by omega
  clear k1 pt
  by_cases h2:i=2
  ·have h2i:(i:Int)=2:=by omega
   have eb:bx (i+1)=[.i .i64 (lc i).t,.i .i64 (lc i).proc,.i .i64 (lc i).pc,.i .i64 (lc i).op,.i .i64 (lc i).fault,.i .u32 (lc i).value]:=by subst h2;exact hb1
   clear h2
   simp (disch:=omega)only[go_sem, *]
   refine ih (5 - (i+1)) _ _ (by omega) ⟨i+1,a1,f1,rfl, ?_,by omega, ?_, ?_,k2, ?_, ?_⟩
   ·have px:=(p1.ext (h':=(h1.alloc ⟨6,[[.i .i64 0,.i .i64 0,.i .i64 0,.i .i64 0,.i .i64 0,.i .u32 0]]⟩).put h1.next ⟨6,[[.i .i64 (lc i).t,.i .i64 (lc i).proc,.i .i64 (lc i).pc,.i .i64 (lc i).op,.i .i64 (lc i).fault,.i .u32 (lc i).value]]⟩) (by (repeat (first | exact Am.refl _ | refine Am.alloc ?_ _ | (refine Am.put ?_ _ _ ?_;rotate_left;(first | omega | (simp only [Aa,Ae];omega)))))))
    exact (px.box (Pt.same Wr.refl) px (by simp only [go_sem];omega) (mN px k2 qt)).1
   ·clear ih kk p p1
    simp (disch:=omega)only[go_sem, *]
   ·clear ih kk p p1
    simp (disch:=omega)only[go_sem, *]
    all_goals omega
   ·intro t ht
    have h0:=he t ht
    clear ih kk p p1 he er hpl hck hb0 hb1 hbl eb s6
    simp only [go_sem]
    repeat rw [if_neg (by omega)]
    exact h0
   ·clear ih kk p p1
    simp (disch:=omega)only[go_sem, *]
    trace_state
  ·have h2':¬ (i:Int)=2:=by omega
   have eb:=hb0 i hi5 h2
   simp (disch:=omega)only[go_sem, *]
   refine ih (5 - (i+1)) _ _ (by omega) ⟨i+1,a1,f1,rfl,p1.ext ?_,by omega, ?_, ?_,k2, ?_, ?_⟩
   ·(repeat (first | exact Am.refl _ | refine Am.alloc ?_ _ | (refine Am.put ?_ _ _ ?_;rotate_left;(first | omega | (simp only [Aa,Ae];omega)))))
   ·clear ih kk p p1
    simp (disch:=omega)only[go_sem, *]
   ·clear ih kk p p1
    simp (disch:=omega)only[go_sem, *]
    all_goals omega
   ·intro t ht
    have h0:=he t ht
    clear ih kk p p1 he er hpl hck hb0 hb1 hbl eb s6
    simp only [go_sem]
    repeat rw [if_neg (by omega)]
    exact h0
   ·clear ih kk p p1
    simp (disch:=omega)only[go_sem, *]
    trace_state
 ·obtain rfl:i=5:=by omega
  clear ih
  simp (disch:=omega)only[go_sem, *]
  refine kk _ hh a f (fun t ht=>?_) p gq hq
  have h0:=he t ht
  clear he kk
  simp only [go_sem]
  repeat rw [if_neg (by omega)]
  exact h0
end Go.Ab.T
namespace Go.Ab.T
open Go Go.Ab
set_option maxHeartbeats 8000000
def aEx (a b v:Int) (fl:List FT):Nat→PS
 | 0=>Du [0,0,0,0,0,0,0,0] 0 0 [] 0
 | 1=>Du [0,a,0,0,0,0,0,0] 4 0 [] 1
 | 2=>Du [0,a,b,0,0,0,0,0] 8 0 [] 2
 | 3=>Du [0,a,b,v,0,0,0,0] 12 0 fl 3
 | 4=>Du [0,a,b,v,0,0,0,0] 16 v fl 4
 | _=>Du [0,a,b,v,0,v,0,0] 20 v fl 5
def aF6 (a b v:Int) (l:Loc):Nat→Loc
 | 0=>⟨0,0,0,13,0,a⟩
 | 1=>⟨1,0,4,13,0,b⟩
 | 2=>l
 | 3=>⟨3,0,12,7,0,v⟩
 | _=>⟨4,0,16,6,0,v⟩
def mG (l:Loc) (i:Nat):List V:=if i≤2 then [.i .i64 0,.i .i64 0,.i .i64 0,.i .i64 0,.i .i64 0,.i .u32 0] else l.enc
theorem krG {op a b:Int}:PG (Gs op a b):=⟨by show 0<1;decide,by show 1≤1;decide,by show 1≤3;decide⟩
theorem krN {op a b:Int} (ho:op=2∨op=3∨op=4∨op=5) (ha:0≤a∧a<4294967296) (hb:0≤b∧b<4294967296):PN (Gs op a b):=⟨fun z hz=>by
    have hz:z∈Im op:=hz
    simp only [Im,List.mem_cons,List.not_mem_nil,or_false] at hz
    omega,ZG (fun j hj=>by
    have hj:4*j<20:=hj
    have:j=0∨j=1∨j=2∨j=3∨j=4:=by omega
    rcases ho with rfl | rfl | rfl | rfl<;>rcases this with rfl | rfl | rfl | rfl | rfl<;>exact ⟨by show (_:Int)≠15;simp [Gs,Im,Jb,nth],by show (_:Int)≠16;simp [Gs,Im,Jb,nth]⟩),rfl,fun z hz=>by
    have hz:z∈[a,b]:=hz
    simp only [List.mem_cons,List.not_mem_nil,or_false] at hz
    rcases hz with rfl | rfl
    ·exact ha
    ·exact hb,by show 2<4000000000;decide⟩
theorem Ek {bb pp tb lg q : Nat} {w x f : V} {op a b v : Int} {l : Loc} {fl : List FT} {e : Env} {h : AH} {K : Ex → Env → AH → Prop} (ho : op = 2 ∨ op = 3 ∨ op = 4 ∨ op = 5) (ha : 0 ≤ a ∧ a < 4294967296) (hb : 0 ≤ b ∧ b < 4294967296)
    (e3:Bq (Gs op a b) (Du [0,a,b,0,0,0,0,0] 8 0 [] 2)=(l,true,Du [0,a,b,v,0,0,0,0] 12 0 fl 3)) (p:PA bb h pp tb lg w x f (Gs op a b) (Du [0,0,0,0,0,0,0,0] 0 0 [] 0))
    (gq:h.get q=some ⟨6,[[.i .i64 0,.i .i64 0,.i .i64 0,.i .i64 0,.i .i64 0,.i .u32 0]]⟩) (hq:q<h.next) (nq:¬ IP pp lg w x f q) (qt:q≠tb) (bq:bb≤q) (eq:e 10=.p q 0 0) (e9:e 9=.p pp 0 0) (e11:e 11=.i .i64 0)
    (kk:∀ e' h' a' f',(∀ t,t≤10→e' t=e t)→PA bb h' pp tb lg w a' f' (Gs op a b) (Du [0,a,b,v,0,v,0,0] 20 v fl 5)→h'.get q=some ⟨6,[l.enc]⟩→q<h'.next→K (.ex 0) e' h'):ZC tp (.loop Nb) e h K:=by
 refine W9 (st:=aEx a b v fl) (lc:=aF6 a b v l) (bx:=mG l) krG (krN ho ha hb) p (fun i hi=>?_) (fun i hi=>?_) (fun i hi=>?_) (fun i hi h2=>?_) rfl (fun i=>?_) gq hq nq qt bq eq e9 e11 kk
 ·have:i=0∨i=1∨i=2∨i=3∨i=4:=by omega
  rcases this with rfl | rfl | rfl | rfl | rfl<;>rfl
 ·have:i=0∨i=1∨i=2∨i=3∨i=4:=by omega
  rcases this with rfl | rfl | rfl | rfl | rfl<;>simp [aEx,Du]
 ·have:i=0∨i=1∨i=2∨i=3∨i=4:=by omega
  rcases this with rfl | rfl | rfl | rfl | rfl
  ·exact kr1
  ·exact kr2
  ·exact e3
  ·exact kr4
  ·exact kr5
 ·unfold mG
  by_cases h3:i≤1
  ·rw [if_pos (by omega),if_pos (by omega)]
  ·rw [if_neg (by omega),if_neg (by omega)]
 ·unfold mG;split<;>rfl
end Go.Ab.T
namespace Go.Ab.T
open Go Go.Ab
set_option maxHeartbeats 8000000
theorem Eg {h : AH} {C : Av} {q f : Nat} {B : List Int} {I : List Int} {sv tv vp vt : V} {K : V → AH → Prop} (hq : q < h.next) (g4 : h.get q = some ⟨3, [[vp, .ns, vt]]⟩) (hp : ∀ n, CW (· ≠ q) h n vp (.fl 11 (C.parts.map Part.enc))) (ht : ∀ n, CW (· ≠ q) h n vt (.fl 1 (C.tables.map Tab.enc))) (hc : C.chans = []) (hb : ∀ n, CW (· ≠ q) h n sv (.fl 1 (B.map DR))) (hi2 : ∀ n, CW (· ≠ q) h n tv (.fl 1 (I.map Ft)))
    (z:Cq tp f [.agg C.enc,.i .i64 ((0:Nat):Int),.fl 1 (B.map DR),.fl 1 (I.map Ft)] ⟨fun i=>if i=q then some ⟨3,[C.enc]⟩ else none,h.next,h.lim⟩ K):Cq tp f [.agg [vp,.ns,vt],.i .i64 0,sv,tv] h K:=by
 have en:C.enc=[.fl 11 (C.parts.map Part.enc),.fl 6 [],.fl 1 (C.tables.map Tab.enc)]:=by unfold Av.enc;rw [hc];rfl
 rw [en] at z
 refine Na (h2:=⟨fun i=>if i=q then some ⟨3,[[.fl 11 (C.parts.map Part.enc),.fl 6 [],.fl 1 (C.tables.map Tab.enc)]]⟩ else none,h.next,h.lim⟩) (args':=[.agg [.fl 11 (C.parts.map Part.enc),.fl 6 [],.fl 1 (C.tables.map Tab.enc)],.i .i64 ((0:Nat):Int),.fl 1 (B.map DR),.fl 1 (I.map Ft)]) (fun i=>i≠q) rfl rfl (fun _ i k hk=>?_) (.cons _ _ _ _ _ (.agg _ _ _ (.cons _ _ _ _ _ (hp _) (.cons _ _ _ _ _ (.ns _ _) (.cons _ _ _ _ _ (ht _) (.nil _))))) (.cons _ _ _ _ _ (.z _ _ (.i _ _)) (.cons _ _ _ _ _ (hb _) (.cons _ _ _ _ _ (hi2 _) (.nil _))))) z
 by_cases hi:i=q
 ·subst hi
  simp only [if_true] at hk
  cases hk
  exact ⟨hq,fun e=>e rfl,_,g4,.cons _ _ _ _ _ (.cons _ _ _ _ _ (hp _) (.cons _ _ _ _ _ (.ns _ _) (.cons _ _ _ _ _ (ht _) (.nil _)))) (.nil _)⟩
 ·simp only at hk
  rw [if_neg hi] at hk;cases hk
theorem MF {a b n:Int} (ha:0≤a∧a<4294967296) (hb:0≤b∧b<4294967296):Pf tp aEr [.i .u32 a,.i .u32 b,.i .i64 n] (.b true):=by
 have w:=PE (n:=n) (lo:=0) (hi:=3) (by omega) (by omega) (by omega)
 have hk:=PD (n:=n) (lo:=0) (hi:=3) (by omega)
 generalize Gg n 0 3=k at *
 have kn:=Mt
 have hk:k=0∨k=1∨k=2∨k=3:=by omega
 rcases hk with rfl | rfl | rfl | rfl
 ·refine AN JW (by simp [Ge]) fun rp=>?_;unfold Ge;simp (disch:=omega)only[go_sem, *]
  refine Pf.go w (by simp only [go_sem]) fun _=>?_
  simp (disch:=omega)only[go_sem, *]
  refine Eg (q:=4) (C:=kA 0 false) (B:=Im 2) (I:=[a,b]) (by simp only [go_sem]) (by simp only [go_sem]) (fun n=>?_) (fun n=>?_) rfl (fun n=>?_) (fun n=>?_) ?_
  ·exact A8 (by decide) rfl (.cons _ _ _ _ _ (.z _ _ (.s _)) (.cons _ _ _ _ _ (.z _ _ (.i _ _)) (.cons _ _ _ _ _ (.z _ _ (.i _ _)) (.cons _ _ _ _ _ (.z _ _ (.b _)) (.cons _ _ _ _ _ (.z _ _ (.b _)) (.cons _ _ _ _ _ (A8 (by decide) rfl (.cons _ _ _ _ _ (.z _ _ (.i _ _)) (.cons _ _ _ _ _ (.z _ _ (.i _ _)) (.nil _)))) (.cons _ _ _ _ _ (.z _ _ (.i _ _)) (.cons _ _ _ _ _ (.z _ _ (.i _ _)) (.cons _ _ _ _ _ (.z _ _ (.i _ _)) (.cons _ _ _ _ _ (.z _ _ (.i _ _)) (.cons _ _ _ _ _ (.z _ _ (.i _ _)) (.nil _))))))))))))
  ·exact A8 (by decide) rfl (.cons _ _ _ _ _ (A8 (by decide) rfl (.cons _ _ _ _ _ (.z _ _ (.i _ _)) (.cons _ _ _ _ _ (.z _ _ (.i _ _)) (.cons _ _ _ _ _ (.z _ _ (.i _ _)) (.nil _))))) (.nil _))
  ·exact .sl _ _ _ _ _ _ _ _ (by decide) rfl (by simp) (by simp) (by decide) (B1.of_map (enc:=DR) (fun _=>rfl) (Im 2))
  ·exact .sl _ _ _ _ _ _ _ _ (by decide) rfl (by simp) (by simp) (by decide) (B1.of_map (enc:=Ft) (fun _=>rfl) [a,b])
  refine Ez (C:=kA 0 false) (p:=0) (prog:=Im 2) (ins:=[a,b]) Hl (by rw [DC (.inl rfl)]) (by decide) (by decide) (by decide) (by show 20<4000000000;decide) ?_
  intro h1 pp tb lg w' x x1 p0
  replace p0:PA 8 h1 pp tb lg w' x .ns (Gs 2 a b) (Du [0,0,0,0,0,0,0,0] 0 0 [] 0):=p0
  have n4:8≤h1.next:=x1.next
  have nq:=CF p0 (Nat.le_refl h1.next)
  have qt:h1.next≠tb:=by have:=p0.np.2.1;omega
  clear x1
  simp (disch:=omega)only[go_sem, *]
  refine Ek (.inl rfl) ha hb aF1 (p0.ext (by (repeat (first | exact Am.refl _ | refine Am.alloc ?_ _ | (refine Am.put ?_ _ _ ?_;rotate_left;(first | omega | (simp only [Aa,Ae];omega))))))) (by simp (disch:=omega)only[go_sem, *]) (by simp only [go_sem];omega) nq qt (by omega) (by simp (disch:=omega)only[go_sem, *]) (by simp (disch:=omega)only[go_sem, *]) (by simp (disch:=omega)only[go_sem, *]) ?_
  clear p0 nq qt
  intro e' h2 a2 f2 he p5 gq5 hq5
  have i0:=he 0 (by omega)
  have i1:=he 1 (by omega)
  have i2:=he 2 (by omega)
  have i8:=he 8 (by omega)
  have i9:=he 9 (by omega)
  have i10:=he 10 (by omega)
  clear he
  simp (disch:=omega)only[go_sem, *] at i0 i1 i2 i8 i9 i10
  generalize hv:IntKind.wrap .u32 (a+b)=v at *
  generalize hE:Du [0,a,b,v,0,v,0,0] 20 v [] 5=E at p5
  have y1:nth (nth E.all 0).r 3=v:=by rw [← hE];rfl
  have y2:nth (nth E.all 0).r 5=v:=by rw [← hE];rfl
  have y3:nth E.mem 15=v:=by rw [← hE];rfl
  have y5:0<E.all.length:=by rw [← hE];show 0<1;decide
  clear hE
  simp (disch:=omega)only[go_sem, *]
  refine Pf.go w (by simp only [go_sem]) fun _=>?_
  simp (disch:=omega)only[go_sem, *]
  refine BV (i:=0) (p5.ext (by (repeat (first | exact Am.refl _ | refine Am.alloc ?_ _ | (refine Am.put ?_ _ _ ?_;rotate_left;(first | omega | (simp only [Aa,Ae];omega))))))) y5 ?_
  intro h3 z3
  have p6:=(p5.ext (by (repeat (first | exact Am.refl _ | refine Am.alloc ?_ _ | (refine Am.put ?_ _ _ ?_;rotate_left;(first | omega | (simp only [Aa,Ae];omega))))))).ext z3
  clear p5 z3 gq5
  simp (disch:=omega)only[go_sem, *]
  refine BV (i:=0) p6 y5 ?_
  intro h4 z4
  have p7:=p6.ext z4
  clear p6 z4
  simp (disch:=omega)only[go_sem, *]
  refine GS p7 ?_
  intro h5 z5
  clear p7 z5
  simp (disch:=omega)only[go_sem, *]
  refine Pf.go kn rfl fun _=>?_
  simp (disch:=omega)only[go_sem, *]
 ·refine AN JW (by simp [Ge]) fun rp=>?_;unfold Ge;simp (disch:=omega)only[go_sem, *]
  refine Pf.go w (by simp only [go_sem]) fun _=>?_
  simp (disch:=omega)only[go_sem, *]
  refine Eg (q:=4) (C:=kA 0 false) (B:=Im 3) (I:=[a,b]) (by simp only [go_sem]) (by simp only [go_sem]) (fun n=>?_) (fun n=>?_) rfl (fun n=>?_) (fun n=>?_) ?_
  ·exact A8 (by decide) rfl (.cons _ _ _ _ _ (.z _ _ (.s _)) (.cons _ _ _ _ _ (.z _ _ (.i _ _)) (.cons _ _ _ _ _ (.z _ _ (.i _ _)) (.cons _ _ _ _ _ (.z _ _ (.b _)) (.cons _ _ _ _ _ (.z _ _ (.b _)) (.cons _ _ _ _ _ (A8 (by decide) rfl (.cons _ _ _ _ _ (.z _ _ (.i _ _)) (.cons _ _ _ _ _ (.z _ _ (.i _ _)) (.nil _)))) (.cons _ _ _ _ _ (.z _ _ (.i _ _)) (.cons _ _ _ _ _ (.z _ _ (.i _ _)) (.cons _ _ _ _ _ (.z _ _ (.i _ _)) (.cons _ _ _ _ _ (.z _ _ (.i _ _)) (.cons _ _ _ _ _ (.z _ _ (.i _ _)) (.nil _))))))))))))
  ·exact A8 (by decide) rfl (.cons _ _ _ _ _ (A8 (by decide) rfl (.cons _ _ _ _ _ (.z _ _ (.i _ _)) (.cons _ _ _ _ _ (.z _ _ (.i _ _)) (.cons _ _ _ _ _ (.z _ _ (.i _ _)) (.nil _))))) (.nil _))
  ·exact .sl _ _ _ _ _ _ _ _ (by decide) rfl (by simp) (by simp) (by decide) (B1.of_map (enc:=DR) (fun _=>rfl) (Im 3))
  ·exact .sl _ _ _ _ _ _ _ _ (by decide) rfl (by simp) (by simp) (by decide) (B1.of_map (enc:=Ft) (fun _=>rfl) [a,b])
  refine Ez (C:=kA 0 false) (p:=0) (prog:=Im 3) (ins:=[a,b]) Hl (by rw [DC (.inl rfl)]) (by decide) (by decide) (by decide) (by show 20<4000000000;decide) ?_
  intro h1 pp tb lg w' x x1 p0
  replace p0:PA 8 h1 pp tb lg w' x .ns (Gs 3 a b) (Du [0,0,0,0,0,0,0,0] 0 0 [] 0):=p0
  have n4:8≤h1.next:=x1.next
  have nq:=CF p0 (Nat.le_refl h1.next)
  have qt:h1.next≠tb:=by have:=p0.np.2.1;omega
  clear x1
  simp (disch:=omega)only[go_sem, *]
  refine Ek (.inr (.inl rfl)) ha hb aF2 (p0.ext (by (repeat (first | exact Am.refl _ | refine Am.alloc ?_ _ | (refine Am.put ?_ _ _ ?_;rotate_left;(first | omega | (simp only [Aa,Ae];omega))))))) (by simp (disch:=omega)only[go_sem, *]) (by simp only [go_sem];omega) nq qt (by omega) (by simp (disch:=omega)only[go_sem, *]) (by simp (disch:=omega)only[go_sem, *]) (by simp (disch:=omega)only[go_sem, *]) ?_
  clear p0 nq qt
  intro e' h2 a2 f2 he p5 gq5 hq5
  have i0:=he 0 (by omega)
  have i1:=he 1 (by omega)
  have i2:=he 2 (by omega)
  have i8:=he 8 (by omega)
  have i9:=he 9 (by omega)
  have i10:=he 10 (by omega)
  clear he
  simp (disch:=omega)only[go_sem, *] at i0 i1 i2 i8 i9 i10
  generalize hv:IntKind.wrap .u32 (a - b)=v at *
  generalize hE:Du [0,a,b,v,0,v,0,0] 20 v [] 5=E at p5
  have y1:nth (nth E.all 0).r 3=v:=by rw [← hE];rfl
  have y2:nth (nth E.all 0).r 5=v:=by rw [← hE];rfl
  have y3:nth E.mem 15=v:=by rw [← hE];rfl
  have y5:0<E.all.length:=by rw [← hE];show 0<1;decide
  clear hE
  simp (disch:=omega)only[go_sem, *]
  refine Pf.go w (by simp only [go_sem]) fun _=>?_
  simp (disch:=omega)only[go_sem, *]
  refine BV (i:=0) (p5.ext (by (repeat (first | exact Am.refl _ | refine Am.alloc ?_ _ | (refine Am.put ?_ _ _ ?_;rotate_left;(first | omega | (simp only [Aa,Ae];omega))))))) y5 ?_
  intro h3 z3
  have p6:=(p5.ext (by (repeat (first | exact Am.refl _ | refine Am.alloc ?_ _ | (refine Am.put ?_ _ _ ?_;rotate_left;(first | omega | (simp only [Aa,Ae];omega))))))).ext z3
  clear p5 z3 gq5
  simp (disch:=omega)only[go_sem, *]
  refine BV (i:=0) p6 y5 ?_
  intro h4 z4
  have p7:=p6.ext z4
  clear p6 z4
  simp (disch:=omega)only[go_sem, *]
  refine GS p7 ?_
  intro h5 z5
  clear p7 z5
  simp (disch:=omega)only[go_sem, *]
  refine Pf.go kn rfl fun _=>?_
  simp (disch:=omega)only[go_sem, *]
 ·refine AN JW (by simp [Ge]) fun rp=>?_;unfold Ge;simp (disch:=omega)only[go_sem, *]
  refine Pf.go w (by simp only [go_sem]) fun _=>?_
  simp (disch:=omega)only[go_sem, *]
  refine Eg (q:=4) (C:=kA 0 false) (B:=Im 4) (I:=[a,b]) (by simp only [go_sem]) (by simp only [go_sem]) (fun n=>?_) (fun n=>?_) rfl (fun n=>?_) (fun n=>?_) ?_
  ·exact A8 (by decide) rfl (.cons _ _ _ _ _ (.z _ _ (.s _)) (.cons _ _ _ _ _ (.z _ _ (.i _ _)) (.cons _ _ _ _ _ (.z _ _ (.i _ _)) (.cons _ _ _ _ _ (.z _ _ (.b _)) (.cons _ _ _ _ _ (.z _ _ (.b _)) (.cons _ _ _ _ _ (A8 (by decide) rfl (.cons _ _ _ _ _ (.z _ _ (.i _ _)) (.cons _ _ _ _ _ (.z _ _ (.i _ _)) (.nil _)))) (.cons _ _ _ _ _ (.z _ _ (.i _ _)) (.cons _ _ _ _ _ (.z _ _ (.i _ _)) (.cons _ _ _ _ _ (.z _ _ (.i _ _)) (.cons _ _ _ _ _ (.z _ _ (.i _ _)) (.cons _ _ _ _ _ (.z _ _ (.i _ _)) (.nil _))))))))))))
  ·exact A8 (by decide) rfl (.cons _ _ _ _ _ (A8 (by decide) rfl (.cons _ _ _ _ _ (.z _ _ (.i _ _)) (.cons _ _ _ _ _ (.z _ _ (.i _ _)) (.cons _ _ _ _ _ (.z _ _ (.i _ _)) (.nil _))))) (.nil _))
  ·exact .sl _ _ _ _ _ _ _ _ (by decide) rfl (by simp) (by simp) (by decide) (B1.of_map (enc:=DR) (fun _=>rfl) (Im 4))
  ·exact .sl _ _ _ _ _ _ _ _ (by decide) rfl (by simp) (by simp) (by decide) (B1.of_map (enc:=Ft) (fun _=>rfl) [a,b])
  refine Ez (C:=kA 0 false) (p:=0) (prog:=Im 4) (ins:=[a,b]) Hl (by rw [DC (.inl rfl)]) (by decide) (by decide) (by decide) (by show 20<4000000000;decide) ?_
  intro h1 pp tb lg w' x x1 p0
  replace p0:PA 8 h1 pp tb lg w' x .ns (Gs 4 a b) (Du [0,0,0,0,0,0,0,0] 0 0 [] 0):=p0
  have n4:8≤h1.next:=x1.next
  have nq:=CF p0 (Nat.le_refl h1.next)
  have qt:h1.next≠tb:=by have:=p0.np.2.1;omega
  clear x1
  simp (disch:=omega)only[go_sem, *]
  refine Ek (.inr (.inr (.inl rfl))) ha hb aF3 (p0.ext (by (repeat (first | exact Am.refl _ | refine Am.alloc ?_ _ | (refine Am.put ?_ _ _ ?_;rotate_left;(first | omega | (simp only [Aa,Ae];omega))))))) (by simp (disch:=omega)only[go_sem, *]) (by simp only [go_sem];omega) nq qt (by omega) (by simp (disch:=omega)only[go_sem, *]) (by simp (disch:=omega)only[go_sem, *]) (by simp (disch:=omega)only[go_sem, *]) ?_
  clear p0 nq qt
  intro e' h2 a2 f2 he p5 gq5 hq5
  have i0:=he 0 (by omega)
  have i1:=he 1 (by omega)
  have i2:=he 2 (by omega)
  have i8:=he 8 (by omega)
  have i9:=he 9 (by omega)
  have i10:=he 10 (by omega)
  clear he
  simp (disch:=omega)only[go_sem, *] at i0 i1 i2 i8 i9 i10
  generalize hv:IntKind.wrap .u32 (a*b)=v at *
  generalize hE:Du [0,a,b,v,0,v,0,0] 20 v [] 5=E at p5
  have y1:nth (nth E.all 0).r 3=v:=by rw [← hE];rfl
  have y2:nth (nth E.all 0).r 5=v:=by rw [← hE];rfl
  have y3:nth E.mem 15=v:=by rw [← hE];rfl
  have y5:0<E.all.length:=by rw [← hE];show 0<1;decide
  clear hE
  simp (disch:=omega)only[go_sem, *]
  refine Pf.go w (by simp only [go_sem]) fun _=>?_
  simp (disch:=omega)only[go_sem, *]
  refine BV (i:=0) (p5.ext (by (repeat (first | exact Am.refl _ | refine Am.alloc ?_ _ | (refine Am.put ?_ _ _ ?_;rotate_left;(first | omega | (simp only [Aa,Ae];omega))))))) y5 ?_
  intro h3 z3
  have p6:=(p5.ext (by (repeat (first | exact Am.refl _ | refine Am.alloc ?_ _ | (refine Am.put ?_ _ _ ?_;rotate_left;(first | omega | (simp only [Aa,Ae];omega))))))).ext z3
  clear p5 z3 gq5
  simp (disch:=omega)only[go_sem, *]
  refine BV (i:=0) p6 y5 ?_
  intro h4 z4
  have p7:=p6.ext z4
  clear p6 z4
  simp (disch:=omega)only[go_sem, *]
  refine GS p7 ?_
  intro h5 z5
  clear p7 z5
  simp (disch:=omega)only[go_sem, *]
  refine Pf.go kn rfl fun _=>?_
  simp (disch:=omega)only[go_sem, *]
 ·by_cases hb0:b=0
  rotate_left
  ·have hq0:=0
   clear hq0
   refine AN JW (by simp [Ge]) fun rp=>?_;unfold Ge;simp (disch:=omega)only[go_sem, *]
   refine Pf.go w (by simp only [go_sem]) fun _=>?_
   simp (disch:=omega)only[go_sem, *]
   refine Eg (q:=4) (C:=kA 0 false) (B:=Im 5) (I:=[a,b]) (by simp only [go_sem]) (by simp only [go_sem]) (fun n=>?_) (fun n=>?_) rfl (fun n=>?_) (fun n=>?_) ?_
   ·exact A8 (by decide) rfl (.cons _ _ _ _ _ (.z _ _ (.s _)) (.cons _ _ _ _ _ (.z _ _ (.i _ _)) (.cons _ _ _ _ _ (.z _ _ (.i _ _)) (.cons _ _ _ _ _ (.z _ _ (.b _)) (.cons _ _ _ _ _ (.z _ _ (.b _)) (.cons _ _ _ _ _ (A8 (by decide) rfl (.cons _ _ _ _ _ (.z _ _ (.i _ _)) (.cons _ _ _ _ _ (.z _ _ (.i _ _)) (.nil _)))) (.cons _ _ _ _ _ (.z _ _ (.i _ _)) (.cons _ _ _ _ _ (.z _ _ (.i _ _)) (.cons _ _ _ _ _ (.z _ _ (.i _ _)) (.cons _ _ _ _ _ (.z _ _ (.i _ _)) (.cons _ _ _ _ _ (.z _ _ (.i _ _)) (.nil _))))))))))))
   ·exact A8 (by decide) rfl (.cons _ _ _ _ _ (A8 (by decide) rfl (.cons _ _ _ _ _ (.z _ _ (.i _ _)) (.cons _ _ _ _ _ (.z _ _ (.i _ _)) (.cons _ _ _ _ _ (.z _ _ (.i _ _)) (.nil _))))) (.nil _))
   ·exact .sl _ _ _ _ _ _ _ _ (by decide) rfl (by simp) (by simp) (by decide) (B1.of_map (enc:=DR) (fun _=>rfl) (Im 5))
   ·exact .sl _ _ _ _ _ _ _ _ (by decide) rfl (by simp) (by simp) (by decide) (B1.of_map (enc:=Ft) (fun _=>rfl) [a,b])
   refine Ez (C:=kA 0 false) (p:=0) (prog:=Im 5) (ins:=[a,b]) Hl (by rw [DC (.inl rfl)]) (by decide) (by decide) (by decide) (by show 20<4000000000;decide) ?_
   intro h1 pp tb lg w' x x1 p0
   replace p0:PA 8 h1 pp tb lg w' x .ns (Gs 5 a b) (Du [0,0,0,0,0,0,0,0] 0 0 [] 0):=p0
   have n4:8≤h1.next:=x1.next
   have nq:=CF p0 (Nat.le_refl h1.next)
   have qt:h1.next≠tb:=by have:=p0.np.2.1;omega
   clear x1
   simp (disch:=omega)only[go_sem, *]
   refine Ek (.inr (.inr (.inr rfl))) ha hb (aF4 hb0) (p0.ext (by (repeat (first | exact Am.refl _ | refine Am.alloc ?_ _ | (refine Am.put ?_ _ _ ?_;rotate_left;(first | omega | (simp only [Aa,Ae];omega))))))) (by simp (disch:=omega)only[go_sem, *]) (by simp only [go_sem];omega) nq qt (by omega) (by simp (disch:=omega)only[go_sem, *]) (by simp (disch:=omega)only[go_sem, *]) (by simp (disch:=omega)only[go_sem, *]) ?_
   clear p0 nq qt
   intro e' h2 a2 f2 he p5 gq5 hq5
   have i0:=he 0 (by omega)
   have i1:=he 1 (by omega)
   have i2:=he 2 (by omega)
   have i8:=he 8 (by omega)
   have i9:=he 9 (by omega)
   have i10:=he 10 (by omega)
   clear he
   simp (disch:=omega)only[go_sem, *] at i0 i1 i2 i8 i9 i10
   generalize hv:IntKind.wrap .u32 (a.tdiv b)=v at *
   generalize hE:Du [0,a,b,v,0,v,0,0] 20 v [] 5=E at p5
   have y1:nth (nth E.all 0).r 3=v:=by rw [← hE];rfl
   have y2:nth (nth E.all 0).r 5=v:=by rw [← hE];rfl
   have y3:nth E.mem 15=v:=by rw [← hE];rfl
   have y5:0<E.all.length:=by rw [← hE];show 0<1;decide
   clear hE
   simp (disch:=omega)only[go_sem, *]
   refine Pf.go w (by simp only [go_sem]) fun _=>?_
   simp (disch:=omega)only[go_sem, *]
   refine BV (i:=0) (p5.ext (by (repeat (first | exact Am.refl _ | refine Am.alloc ?_ _ | (refine Am.put ?_ _ _ ?_;rotate_left;(first | omega | (simp only [Aa,Ae];omega))))))) y5 ?_
   intro h3 z3
   have p6:=(p5.ext (by (repeat (first | exact Am.refl _ | refine Am.alloc ?_ _ | (refine Am.put ?_ _ _ ?_;rotate_left;(first | omega | (simp only [Aa,Ae];omega))))))).ext z3
   clear p5 z3 gq5
   simp (disch:=omega)only[go_sem, *]
   refine BV (i:=0) p6 y5 ?_
   intro h4 z4
   have p7:=p6.ext z4
   clear p6 z4
   simp (disch:=omega)only[go_sem, *]
   refine GS p7 ?_
   intro h5 z5
   clear p7 z5
   simp (disch:=omega)only[go_sem, *]
   refine Pf.go kn rfl fun _=>?_
   simp (disch:=omega)only[go_sem, *]
  ·subst hb0
   have hq0:=0
   clear hq0
   refine AN JW (by simp [Ge]) fun rp=>?_;unfold Ge;simp (disch:=omega)only[go_sem, *]
   refine Pf.go w (by simp only [go_sem]) fun _=>?_
   simp (disch:=omega)only[go_sem, *]
   refine Eg (q:=4) (C:=kA 0 false) (B:=Im 5) (I:=[a,0]) (by simp only [go_sem]) (by simp only [go_sem]) (fun n=>?_) (fun n=>?_) rfl (fun n=>?_) (fun n=>?_) ?_
   ·exact A8 (by decide) rfl (.cons _ _ _ _ _ (.z _ _ (.s _)) (.cons _ _ _ _ _ (.z _ _ (.i _ _)) (.cons _ _ _ _ _ (.z _ _ (.i _ _)) (.cons _ _ _ _ _ (.z _ _ (.b _)) (.cons _ _ _ _ _ (.z _ _ (.b _)) (.cons _ _ _ _ _ (A8 (by decide) rfl (.cons _ _ _ _ _ (.z _ _ (.i _ _)) (.cons _ _ _ _ _ (.z _ _ (.i _ _)) (.nil _)))) (.cons _ _ _ _ _ (.z _ _ (.i _ _)) (.cons _ _ _ _ _ (.z _ _ (.i _ _)) (.cons _ _ _ _ _ (.z _ _ (.i _ _)) (.cons _ _ _ _ _ (.z _ _ (.i _ _)) (.cons _ _ _ _ _ (.z _ _ (.i _ _)) (.nil _))))))))))))
   ·exact A8 (by decide) rfl (.cons _ _ _ _ _ (A8 (by decide) rfl (.cons _ _ _ _ _ (.z _ _ (.i _ _)) (.cons _ _ _ _ _ (.z _ _ (.i _ _)) (.cons _ _ _ _ _ (.z _ _ (.i _ _)) (.nil _))))) (.nil _))
   ·exact .sl _ _ _ _ _ _ _ _ (by decide) rfl (by simp) (by simp) (by decide) (B1.of_map (enc:=DR) (fun _=>rfl) (Im 5))
   ·exact .sl _ _ _ _ _ _ _ _ (by decide) rfl (by simp) (by simp) (by decide) (B1.of_map (enc:=Ft) (fun _=>rfl) [a,0])
   refine Ez (C:=kA 0 false) (p:=0) (prog:=Im 5) (ins:=[a,0]) Hl (by rw [DC (.inl rfl)]) (by decide) (by decide) (by decide) (by show 20<4000000000;decide) ?_
   intro h1 pp tb lg w' x x1 p0
   replace p0:PA 8 h1 pp tb lg w' x .ns (Gs 5 a 0) (Du [0,0,0,0,0,0,0,0] 0 0 [] 0):=p0
   have n4:8≤h1.next:=x1.next
   have nq:=CF p0 (Nat.le_refl h1.next)
   have qt:h1.next≠tb:=by have:=p0.np.2.1;omega
   clear x1
   simp (disch:=omega)only[go_sem, *]
   refine Ek (.inr (.inr (.inr rfl))) ha hb aF5 (p0.ext (by (repeat (first | exact Am.refl _ | refine Am.alloc ?_ _ | (refine Am.put ?_ _ _ ?_;rotate_left;(first | omega | (simp only [Aa,Ae];omega))))))) (by simp (disch:=omega)only[go_sem, *]) (by simp only [go_sem];omega) nq qt (by omega) (by simp (disch:=omega)only[go_sem, *]) (by simp (disch:=omega)only[go_sem, *]) (by simp (disch:=omega)only[go_sem, *]) ?_
   clear p0 nq qt
   intro e' h2 a2 f2 he p5 gq5 hq5
   have i0:=he 0 (by omega)
   have i1:=he 1 (by omega)
   have i2:=he 2 (by omega)
   have i8:=he 8 (by omega)
   have i9:=he 9 (by omega)
   have i10:=he 10 (by omega)
   clear he
   simp (disch:=omega)only[go_sem, *] at i0 i1 i2 i8 i9 i10
   skip
   generalize hE:Du [0,a,0,0,0,0,0,0] 20 0 [⟨2,0,4⟩] 5=E at p5
   have y1:nth (nth E.all 0).r 3=0:=by rw [← hE];rfl
   have y2:nth (nth E.all 0).r 5=0:=by rw [← hE];rfl
   have y3:nth E.mem 15=0:=by rw [← hE];rfl
   have y5:0<E.all.length:=by rw [← hE];show 0<1;decide
   clear hE
   simp (disch:=omega)only[go_sem, *]
   refine Pf.go w (by simp only [go_sem]) fun _=>?_
   simp (disch:=omega)only[go_sem, *]
   refine BV (i:=0) (p5.ext (by (repeat (first | exact Am.refl _ | refine Am.alloc ?_ _ | (refine Am.put ?_ _ _ ?_;rotate_left;(first | omega | (simp only [Aa,Ae];omega))))))) y5 ?_
   intro h3 z3
   have p6:=(p5.ext (by (repeat (first | exact Am.refl _ | refine Am.alloc ?_ _ | (refine Am.put ?_ _ _ ?_;rotate_left;(first | omega | (simp only [Aa,Ae];omega))))))).ext z3
   clear p5 z3 gq5
   simp (disch:=omega)only[go_sem, *]
   refine Pf.go kn rfl fun _=>?_
   simp (disch:=omega)only[go_sem, *]
end Go.Ab.T
/- From a call's arguments, as the form reads them, to an abstract heap. -/
namespace Go.Ab
open Go Go.RowKit
/-! ### Shapes of arguments -/
mutual
inductive Sh where
 | b
 | i (k:IntKind)
 | s
 | sl (e:Sh)
 | agg (l:HX)
inductive HX where
 | nil
 | cons (x:Sh) (l:HX)
end
mutual
def Sh.size:Sh→Nat
 | .b | .i _ | .s | .sl _=>1
 | .agg l=>l.size
def HX.size:HX→Nat
 | .nil=>0
 | .cons x l=>x.size+l.size
end
def HX.rep (x:Sh):Nat→HX
 | 0=>.nil
 | n+1=>.cons x (HX.rep x n)
mutual
inductive ShT (P:Program):TypeId→Sh→Prop where
 | b (t:TypeId):P.underlying t=some .bool→ShT P t .b
 | i (t:TypeId) (k:IntKind):P.underlying t=some (.int k)→ShT P t (.i k)
 | s (t:TypeId):P.underlying t=some .string→ShT P t .s
 | sl (t e:TypeId) (x:Sh):P.underlying t=some (.slice e)→ShT P e x→P.cellsOf e=x.size→0<x.size→ShT P t (.sl x)
 | agg (t:TypeId) (fs:Array Field) (l:HX):P.underlying t=some (.struct fs)→ShF P fs.toList 0 l→P.cellsOf t=l.size→ShT P t (.agg l)
 | arr (t e:TypeId) (n:Nat) (x:Sh):P.underlying t=some (.array n e)→ShT P e x→P.cellsOf e=x.size→P.cellsOf t=n*x.size→ShT P t (.agg (HX.rep x n))
inductive ShF (P:Program):List Field→Nat→HX→Prop where
 | nil (o:Nat):ShF P [] o .nil
 | cons (f:Field) (fs:List Field) (o:Nat) (x:Sh) (l:HX):f.offset=o→ShT P f.type x→P.cellsOf f.type=x.size→ShF P fs (o+x.size) l→ShF P (f::fs) o (.cons x l)
end
section
variable {H:Type}
mutual
def DV (h:AH):Sh→DataW H→List V→Prop
 | .b,d,vs=>∃ x,d=.lit (.bool x)∧vs=[.b x]
 | .i k,d,vs=>∃ n,d=.lit (.int k n)∧(Lit.int k n).wf=true∧vs=[.i k n]
 | .s,d,vs=>∃ x:ByteArray,d=.lit (.string x.data.toList)∧x.size≤maxLen∧vs=[.s x]
 | .sl e,d,vs=>(d=.nil∧vs=[.ns])∨∃ (Ay spare:List (DataW H)) (id:Nat) (rows:List (List V)),d=.slice Ay spare∧vs=[.sl id 0 Ay.length Ay.length]∧h.get id=some ⟨e.size,rows⟩∧id<h.next∧rows.length=Ay.length∧Ay.length<AV∧∀ (j:Nat) (x:DataW H) (r:List V),Ay[j]?=some x→rows[j]?=some r→DV h e x r
 | .agg l,d,vs=>∃ ds,d=.agg ds∧Uo h l ds vs
def Uo (h:AH):HX→List (DataW H)→List V→Prop
 | .nil,ds,vs=>ds=[]∧vs=[]
 | .cons x l,ds,vs=>∃ d ds' v1 v2,ds=d::ds'∧vs=v1++v2∧DV h x d v1∧Uo h l ds' v2
end
mutual
def Zo:Sh→DataW H→Prop
 | .sl e,d=>∀ Ay spare,d=.slice Ay spare→Ay.length<AV∧∀ x∈Ay,Zo e x
 | .agg l,d=>∀ ds,d=.agg ds→UD l ds
 | .b,_ | .i _,_ | .s,_=>True
def UD:HX→List (DataW H)→Prop
 | .nil,_=>True
 | .cons x l,ds=>∀ d ds',ds=d::ds'→Zo x d∧UD l ds'
end
structure Gr (M M':Mp) (h h':AH):Prop where
 keeps:Ba M M' h h'
 get:∀ id,id<h.next→h'.get id=h.get id
theorem Gr.refl (M:Mp) (h:AH):Gr M M h h:=⟨Ba.refl M h,fun _ _=>rfl⟩
theorem Gr.trans {M M1 M2:Mp} {h h1 h2:AH} (a:Gr M M1 h h1) (b:Gr M1 M2 h1 h2):Gr M M2 h h2:=
 ⟨a.keeps.trans b.keeps,fun id hi=>(b.get id (Nat.lt_of_lt_of_le hi a.keeps.next)).trans (a.get id hi)⟩
mutual
theorem DV.grow {M M':Mp} {h h':AH} (g:Gr M M' h h'):∀ (sh:Sh) (d:DataW H) (vs:List V),DV h sh d vs→DV h' sh d vs
 | .b,d,vs,k=>by simp only [DV] at k ⊢;exact k
 | .i _,d,vs,k=>by simp only [DV] at k ⊢;exact k
 | .s,d,vs,k=>by simp only [DV] at k ⊢;exact k
 | .sl e,d,vs,k=>by
  simp only [DV] at k ⊢
  rcases k with k | ⟨Ay,spare,id,rows,a,b,c,d,e1,f,g1⟩
  ·exact .inl k
  ·exact .inr ⟨Ay,spare,id,rows,a,b,(g.get id d).trans c,Nat.lt_of_lt_of_le d g.keeps.next,e1,f,fun j x r hx hr=>DV.grow g e x r (g1 j x r hx hr)⟩
 | .agg l,d,vs,k=>by
  simp only [DV] at k ⊢
  obtain ⟨ds,a,b⟩:=k
  exact ⟨ds,a,Uo.grow g l ds vs b⟩
theorem Uo.grow {M M':Mp} {h h':AH} (g:Gr M M' h h'):∀ (l:HX) (ds:List (DataW H)) (vs:List V),Uo h l ds vs→Uo h' l ds vs
 | .nil,ds,vs,k=>by simp only [Uo] at k ⊢;exact k
 | .cons x l,ds,vs,k=>by
  simp only [Uo] at k ⊢
  obtain ⟨d,ds',v1,v2,a,b,c,e⟩:=k
  exact ⟨d,ds',v1,v2,a,b,DV.grow g x d v1 c,Uo.grow g l ds' v2 e⟩
end
structure In (M:Mp) (w:World) (h:AH):Prop where
 cells:∀ id k m,h.get id=some k→M id=some m→m.b<w.heap.size∧B9 M h w m k
 own:∀ id m,M id=some m→m.own=false
 fresh:∀ id,h.live id→id<h.next
 lim:h.lim=h.next
theorem In.sim {M:Mp} {w:World} {h:AH} (i:In M w h):B8 M w.heap.size w h:=by
 refine ⟨i.cells,fun id m hl hm ho=>?_,fun id m hl hm hli=>?_,fun id id' m m' _ _ hm _ _ ho=>?_,i.fresh,by rw [i.lim];exact Nat.le_refl _,Nat.le_refl _⟩
 ·rw [i.own id m hm] at ho;cases ho
 ·have:=i.fresh id hl;have:=i.lim;omega
 ·rw [i.own id m hm] at ho;cases ho
def AH.give (h:AH) (k:Bo):AH:={ get:=fun j=>if j=h.next then some k else h.get j,next:=h.next+1,lim:=h.next+1 }
def O6 (M:Mp) (id:Nat) (m:MI):Mp:=fun j=>if j=id then some m else M j
theorem Nk {M:Mp} {h:AH} {k:Bo} {m:MI} (hf:∀ id,h.live id→id<h.next):Gr M (O6 M h.next m) h (h.give k):=by
 refine ⟨⟨by simp [AH.give],fun id hi hl=>?_,fun id hi hl=>?_⟩,fun id hi=>?_⟩
 ·have:(h.give k).get id=h.get id:=by simp only [AH.give];rw [if_neg (by omega)]
  rw [AH.live,this] at hl;exact hl
 ·simp only [O6];rw [if_neg (by omega)]
 ·simp only [AH.give];rw [if_neg (by omega)]
theorem In.give {M:Mp} {w:World} {h:AH} {k:Bo} {m:MI} (i:In M w h) (hb:m.b<w.heap.size) (ho:m.own=false) (hc:B9 M h w m k):In (O6 M h.next m) w (h.give k):=by
 have g:=Nk (M:=M) (k:=k) (m:=m) i.fresh
 refine ⟨fun id k' m' hk hm=>?_,fun id m' hm=>?_,fun id hl=>?_,rfl⟩
 ·simp only [AH.give,O6] at hk hm
  by_cases hid:id=h.next
  ·rw [if_pos hid] at hk hm
   cases hk;cases hm
   exact ⟨hb,B9.keep g.keeps rfl hc⟩
  ·rw [if_neg hid] at hk hm
   exact ⟨(i.cells id k' m' hk hm).1,B9.keep g.keeps rfl (i.cells id k' m' hk hm).2⟩
 ·simp only [O6] at hm
  split at hm
  ·cases hm;exact ho
  ·exact i.own id m' hm
 ·by_cases hid:id=h.next
  ·subst hid;simp [AH.give]
  ·have:(h.give k).get id=h.get id:=by simp only [AH.give];rw [if_neg hid]
   rw [AH.live,this] at hl
   have:=i.fresh id hl
   simp only [AH.give];omega
variable {P:Program} {w:World} {enc:TypeId×Value→H} {spare:Nat→Bool}
def aDS (M:Mp) (w:World) (h:AH) (sh:Sh) (d:DataW H) (cs:List Value):Prop:=
 ∃ (M':Mp) (h':AH) (vs:List V),In M' w h'∧Gr M M' h h'∧A6 M' h' vs cs∧DV h' sh d vs∧(∀ v∈vs,v.isCell=true)
def aDT (M:Mp) (w:World) (h:AH) (l:HX) (ds:List (DataW H)) (cs:List Value):Prop:=
 ∃ (M':Mp) (h':AH) (vs:List V),In M' w h'∧Gr M M' h h'∧A6 M' h' vs cs∧Uo h' l ds vs∧(∀ v∈vs,v.isCell=true)
theorem II {e : Sh} (ih : ∀ (cs : List Value) (d : DataW H) (M : Mp) (h : AH), (∃ fuel t ps, ShT P t e ∧ DataW.trod enc P w 0 spare true fuel t cs = some (d, ps)) → In M w h → Zo e d → aDS M w h e d cs) :
    ∀ (l:List (List Value×DataW H)) (M:Mp) (h:AH),In M w h→(∀ q∈l,(∃ fuel t ps,ShT P t e∧DataW.trod enc P w 0 spare true fuel t q.1=some (q.2,ps))∧Zo e q.2) →
     ∃ (M':Mp) (h':AH) (rows:List (List V)),In M' w h'∧Gr M M' h h'∧rows.length=l.length∧∀ (j:Nat) (q:List Value×DataW H) (r:List V),l[j]?=some q→rows[j]?=some r→A6 M' h' r q.1∧DV h' e q.2 r∧(∀ v∈r,v.isCell=true)
 | [],M,h,hi,_=>⟨M,h,[],hi,Gr.refl M h,rfl,fun j q r hq=>by simp at hq⟩
 | q::l,M,h,hi,hq=>by
  obtain ⟨M1,h1,vs,i1,g1,v1,d1,c1⟩:=ih q.1 q.2 M h (hq q (List.mem_cons_self ..)).1 hi (hq q (List.mem_cons_self ..)).2
  obtain ⟨M2,h2,rows,i2,g2,l2,a2⟩:=II ih l M1 h1 i1 (fun x hx=>hq x (List.mem_cons_of_mem _ hx))
  refine ⟨M2,h2,vs::rows,i2,g1.trans g2,by simp [l2],fun j x r hx hr=>?_⟩
  cases j with
  | zero=>
   simp at hx hr;subst hx;subst hr
   exact ⟨v1.keep g2.keeps,d1.grow g2,c1⟩
  | succ j=>exact a2 j x r (by simpa using hx) (by simpa using hr)
def Al (P:Program) (w:World) (enc:TypeId×Value→H) (spare:Nat→Bool):HX→List (List Value×DataW H)→Prop
 | .nil,q=>q=[]
 | .cons x l,q=>∃ p q',q=p::q'∧(∃ fuel t ps,ShT P t x∧DataW.trod enc P w 0 spare true fuel t p.1=some (p.2,ps))∧Al P w enc spare l q'
theorem H9 {n : Nat} {cs : List Value} : ∀ (fs : List Field) (o : Nat) (l : HX) (xs : List (DataW H × List MemPlace)), ShF P fs o l → xs.length = fs.length → (∀ (i : Nat) (f : Field), fs[i]? = some f → DataW.trod enc P w 0 spare true n f.type ((cs.drop f.offset).take (P.cellsOf f.type)) = xs[i]?) →
    ∃ q,Al P w enc spare l q∧q.map (·.2)=xs.map (·.1)∧(q.map (·.1)).flatten=(cs.drop o).take l.size
 | [],o,_,xs,.nil _,hl,ha=>by
  have:xs=[]:=List.length_eq_zero_iff.1 hl
  subst this
  exact ⟨[],rfl,rfl,by simp [HX.size]⟩
 | f::fs,o,_,xs,.cons _ _ _ x l hf ht hc hr,hl,ha=>by
  match xs,hl,ha with
  | y::ys,hl,ha=>
   obtain ⟨q,q1,q2,q3⟩:=H9 (n:=n) (cs:=cs) fs (o+x.size) l ys hr (by simpa using hl) (fun i g hg=>by simpa using ha (i+1) g (by simpa using hg))
   have h0:=ha 0 f rfl
   simp only [List.getElem?_cons_zero] at h0
   refine ⟨((cs.drop f.offset).take (P.cellsOf f.type),y.1)::q,⟨_,q,rfl,⟨n,f.type,y.2,ht,h0⟩,q1⟩,by simp [q2], ?_⟩
   simp only [List.map_cons,List.flatten_cons,q3,hf,hc,HX.size]
   rw [← List.drop_drop,List.take_add]
theorem JD {n : Nat} {e : TypeId} {x : Sh} {cs : List Value} (ht : ShT P e x) (hc : P.cellsOf e = x.size) : ∀ (m i : Nat) (xs : List (DataW H × List MemPlace)), xs.length = m → (∀ j, j < m → DataW.trod enc P w 0 spare true n e ((cs.drop ((i + j) * P.cellsOf e)).take (P.cellsOf e)) = xs[j]?) →
    ∃ q,Al P w enc spare (HX.rep x m) q∧q.map (·.2)=xs.map (·.1)∧(q.map (·.1)).flatten=(cs.drop (i*x.size)).take (m*x.size)
 | 0,i,xs,hl,ha=>by
  have:xs=[]:=List.length_eq_zero_iff.1 hl
  subst this
  exact ⟨[],rfl,rfl,by simp⟩
 | m+1,i,xs,hl,ha=>by
  match xs,hl,ha with
  | y::ys,hl,ha=>
   obtain ⟨q,q1,q2,q3⟩:=JD ht hc m (i+1) ys (by simpa using hl) (fun j hj=>by
    have:=ha (j+1) (by omega)
    simp only [List.getElem?_cons_succ] at this
    rw [← this,show i+(j+1)=i+1+j by omega])
   have h0:=ha 0 (by omega)
   simp only [List.getElem?_cons_zero,Nat.add_zero] at h0
   refine ⟨((cs.drop (i*P.cellsOf e)).take (P.cellsOf e),y.1)::q,⟨_,q,rfl,⟨n,e,y.2,ht,h0⟩,q1⟩,by simp [q2], ?_⟩
   simp only [List.map_cons,List.flatten_cons,q3,hc]
   rw [Nat.succ_mul,Nat.succ_mul,Nat.add_comm (m*x.size),List.take_add,List.drop_drop]
theorem M4 {n : Nat} {e t : TypeId} {fuel : Nat} {cs : List Value} {x : DataW H × List MemPlace} (ht : P.underlying t = some (.array n e)) (h : DataW.trod enc P w 0 spare true fuel t cs = some x) :
    ∃ (xs:List (DataW H×List MemPlace)) (m:Nat),x=(.agg (xs.map (·.1)),xs.flatMap (·.2))∧cs.length=P.cellsOf t∧xs.length=n∧∀ j,j<n→DataW.trod enc P w 0 spare true m e ((cs.drop (j*P.cellsOf e)).take (P.cellsOf e))=xs[j]?:=by
 cases fuel with
 | zero=>simp [DataW.trod] at h
 | succ m=>
  unfold DataW.trod at h
  rw [ht] at h
  split at h<;>simp_all
  obtain ⟨hl,xs,hp,hd⟩:=h
  exact ⟨xs,hd.symm,by simpa using mapM_some_length hp,m,fun j hj=>by simpa using mapM_some_get hp j j (by simp [hj])⟩
theorem FR {a:Addr} {n:Nat} (h:a.spot=none):a.add n=⟨a.block,a.off+n,none⟩:=by
 cases a
 simp only at h
 subst h
 simp only [Addr.add]
 split<;>simp_all
theorem Oi {a:Addr} {n:Nat} (h:a.spot=none):(a.add n).spot=none:=by rw [FR h]
mutual
theorem take (hpos:0<w.heap.size):∀ (sh:Sh) (cs:List Value) (d:DataW H) (M:Mp) (h:AH),(∃ fuel t ps,ShT P t sh∧DataW.trod enc P w 0 (fun _=>true) true fuel t cs=some (d,ps))→In M w h→Zo sh d→aDS M w h sh d cs
 | .b,cs,d,M,h,⟨fuel,t,ps,ht,hr⟩,hi,hs=>by
  cases ht with
  | b _ hu=>
   obtain ⟨x,rfl,he⟩:=DataW.trod_bool hu hr
   cases he
   exact ⟨M,h,[.b x],hi,Gr.refl M h,.cons _ _ _ _ (.b x) .nil,⟨x,rfl,rfl⟩,by simp [V.isCell]⟩
 | .i k,cs,d,M,h,⟨fuel,t,ps,ht,hr⟩,hi,hs=>by
  cases ht with
  | i _ _ hu=>
   obtain ⟨x,rfl,he,hw⟩:=DataW.trod_int hu hr
   cases he
   exact ⟨M,h,[.i k x],hi,Gr.refl M h,.cons _ _ _ _ (.i k x) .nil,⟨x,rfl,hw,rfl⟩,by simp [V.isCell]⟩
 | .s,cs,d,M,h,⟨fuel,t,ps,ht,hr⟩,hi,hs=>by
  cases ht with
  | s _ hu=>
   obtain ⟨x,rfl,he,hw⟩:=DataW.trod_string hu hr
   cases he
   exact ⟨M,h,[.s x],hi,Gr.refl M h,.cons _ _ _ _ (.s x) .nil,⟨x,rfl,hw,rfl⟩,by simp [V.isCell]⟩
 | .sl e,cs,d,M,h,⟨fuel,t,ps,ht,hr⟩,hi,hs=>by
  cases ht with
  | sl _ te _ hu hte hce hpe=>
   rcases DataW.trod_slice hu hr with ⟨rfl,he⟩ | ⟨a,len,cap,Ay,rest,n,_,rfl,he,hb,hlc,hcm,hlen,hel,hsp,_⟩
   ·cases he
    exact ⟨M,h,[.ns],hi,Gr.refl M h,.cons _ _ _ _ .ns .nil,.inl ⟨rfl,rfl⟩,by simp [V.isCell]⟩
   ·cases he
    simp only [Zo] at hs
    obtain ⟨hs1,hs2⟩:=hs _ _ rfl
    have hs1':Ay.length<AV:=by simpa using hs1
    have cell:∀ j (y:DataW H×List MemPlace),Ay[j]?=some y→∃ cs',w.cells? 0 (a.add (j*P.cellsOf te)) (P.cellsOf te)=some cs'∧DataW.trod enc P w 0 (fun _=>true) true n te cs'=some y:=by
     intro j y hy
     have hj:j<len:=by rw [← hlen];exact (List.getElem?_eq_some_iff.1 hy).1
     have:=hel j hj
     rw [hy] at this
     simpa [Option.bind_eq_some_iff] using this
    let q:List (List Value×DataW H):=(List.range Ay.length).map fun j=>((w.cells? 0 (a.add (j*P.cellsOf te)) (P.cellsOf te)).getD [],((Ay[j]?).map (·.1)).getD (.nil))
    have hq:∀ j (y:DataW H×List MemPlace),Ay[j]?=some y→∃ cs',w.cells? 0 (a.add (j*P.cellsOf te)) (P.cellsOf te)=some cs'∧DataW.trod enc P w 0 (fun _=>true) true n te cs'=some y∧q[j]?=some (cs',y.1):=by
     intro j y hy
     obtain ⟨cs',h1,h2⟩:=cell j y hy
     have hj:j<Ay.length:=(List.getElem?_eq_some_iff.1 hy).1
     refine ⟨cs',h1,h2, ?_⟩
     simp only [q,List.getElem?_map,List.getElem?_range hj,Option.map_some,h1,hy,Option.getD_some]
    have hql:q.length=Ay.length:=by simp [q]
    obtain ⟨M1,h1,rows,i1,g1,l1,a1⟩:=II (e:=e) (fun cs d M h hh hi hs=>take hpos e cs d M h hh hi hs) q M h hi (fun z hz=>by
     obtain ⟨j,hj,hz⟩:=List.getElem_of_mem hz
     have hj':j<Ay.length:=by rw [← hql];exact hj
     obtain ⟨cs',h1,h2,h3⟩:=hq j Ay[j] (by simp [hj'])
     rw [List.getElem?_eq_getElem hj,hz] at h3
     cases h3
     exact ⟨⟨n,te,Ay[j].2,hte,h2⟩,hs2 _ (List.mem_map.2 ⟨Ay[j],List.getElem_mem _,rfl⟩)⟩)
    have first:∀ cs',w.cells? 0 (a.add 0) (P.cellsOf te)=some cs'→a.block<w.heap.size∧a.spot=none:=by
     intro cs' hcs
     have h1:=World.cells?_block hcs (by omega)
     obtain ⟨_,h2,h3⟩:=World.cells?_some hcs
     have h4:=h3 0 (by omega)
     rw [List.getElem?_eq_getElem (by omega)] at h4
     have h5:=World.cell?_spot h4
     simp only [Addr.add,if_true] at h1 h5
     exact ⟨h1,h5⟩
    have hz:0<cap→a.block<w.heap.size∧a.spot=none:=by
     intro hcap
     by_cases h0:0<Ay.length
     ·obtain ⟨cs',h2,_,_⟩:=hq 0 Ay[0] (by simp [h0])
      exact first cs' (by simpa using h2)
     ·have:=(hsp rfl).2 0 (by omega)
      rw [List.getElem?_eq_getElem (by rw [(hsp rfl).1];omega)] at this
      simp only [Option.bind_eq_some_iff] at this
      obtain ⟨cs',h2,_⟩:=this
      exact first cs' (by rw [show (len+0)*P.cellsOf te=0 by rw [show len+0=0 by omega];simp] at h2;exact h2)
    let m:MI:=⟨if 0<cap then a.block else 0,a.off,0,e.size,false⟩
    have hmb:m.b<w.heap.size:=by
     simp only [m]
     split
     ·rename_i h0;exact (hz h0).1
     ·exact hpos
    have hrow:∀ (el:Nat) (r:List V),rows[el]?=some r→∃ y cs',Ay[el]?=some y∧q[el]?=some (cs',y.1)∧w.cells? 0 (a.add (el*P.cellsOf te)) (P.cellsOf te)=some cs':=by
     intro el r hr
     have hel2:el<Ay.length:=by rw [← hql,←l1];exact (List.getElem?_eq_some_iff.1 hr).1
     obtain ⟨cs',h2,h3,h4⟩:=hq el Ay[el] (by simp [hel2])
     exact ⟨Ay[el],cs',by simp [hel2],h4,h2⟩
    have hcells:B9 M1 h1 w m ⟨e.size,rows⟩:=by
     refine ⟨rfl,fun el r hr=>?_⟩
     obtain ⟨y,cs',hy,hqe,hcs⟩:=hrow el r hr
     obtain ⟨hv,_,hcell⟩:=a1 el _ r hqe hr
     obtain ⟨_,hcl,hcc⟩:=World.cells?_some hcs
     have hlen2:=hv.length
     have hel2:el<Ay.length:=(List.getElem?_eq_some_iff.1 hy).1
     have hz':=hz (by omega)
     refine ⟨by rw [hlen2];simp only;omega,fun j v hj=>⟨hcell v (List.mem_of_getElem? hj), ?_⟩⟩
     obtain ⟨x,hx,hvx⟩:=hv.get j v hj
     have hjl:j<P.cellsOf te:=by
      have:=(List.getElem?_eq_some_iff.1 hx).1
      simp only at this;omega
     refine ⟨x, ?_,hvx⟩
     have e1:=hcc j hjl
     simp only at hx
     rw [hx,FR (Oi hz'.2),FR hz'.2] at e1
     rw [← e1]
     simp only [m]
     rw [if_pos (by omega),hce]
    have i2:=i1.give (m:=m) hmb rfl hcells
    have g2:=Nk (M:=M1) (k:=⟨e.size,rows⟩) (m:=m) i1.fresh
    refine ⟨_,_,[.sl h1.next 0 Ay.length Ay.length],i2,g1.trans g2,.cons _ _ _ _ ?_ .nil,.inr ⟨Ay.map (·.1),rest.map (·.1),h1.next,rows,rfl,by simp,by simp [AH.give],by simp [AH.give],by simp [l1,hql],hs1,fun j x r hx hr=>?_⟩,by simp [V.isCell]⟩
    ·rw [hlen]
     refine .sl _ _ _ _ _ _ (by simp [AH.give]) (by omega) (fun _=>⟨m,by simp [O6],fun hc=>?_,by omega,fun ho=>by cases ho⟩)
     have:=hz hc
     simp only [m]
     rw [if_pos hc]
     cases a;simp_all
    ·obtain ⟨y,cs',hy,hqe,_⟩:=hrow j r hr
     simp only [List.getElem?_map,hy,Option.map_some,Option.some.injEq] at hx
     subst hx
     exact (a1 j _ r hqe hr).2.1.grow g2
 | .agg l,cs,d,M,h,⟨fuel,t,ps,ht,hr⟩,hi,hs=>by
  cases ht with
  | agg _ fs _ hu hf hc=>
   obtain ⟨xs,n,_,he,hlen,hxl,hx⟩:=DataW.trod_struct hu hr
   cases he
   simp only [Zo] at hs
   obtain ⟨q,q1,q2,q3⟩:=H9 (n:=n) (cs:=cs) fs.toList 0 l xs hf (by simpa using hxl) (fun i f hf=>hx i f (by simpa using hf))
   obtain ⟨M',h',vs,i',g',v',d',c'⟩:=T8 hpos l q M h q1 hi (by rw [q2];exact hs _ rfl)
   rw [q3,List.drop_zero,←hc,←hlen,List.take_length] at v'
   rw [q2] at d'
   exact ⟨M',h',vs,i',g',v',⟨_,rfl,d'⟩,c'⟩
  | arr _ e n x hu hte hce hct=>
   obtain ⟨xs,m,he,hlen,hxl,hx⟩:=M4 hu hr
   cases he
   simp only [Zo] at hs
   obtain ⟨q,q1,q2,q3⟩:=JD (n:=m) (cs:=cs) hte hce n 0 xs hxl (fun j hj=>by rw [Nat.zero_add];exact hx j hj)
   obtain ⟨M',h',vs,i',g',v',d',c'⟩:=T8 hpos (HX.rep x n) q M h q1 hi (by rw [q2];exact hs _ rfl)
   rw [q3,Nat.zero_mul,List.drop_zero,←hct,←hlen,List.take_length] at v'
   rw [q2] at d'
   exact ⟨M',h',vs,i',g',v',⟨_,rfl,d'⟩,c'⟩
theorem T8 (hpos:0<w.heap.size):∀ (l:HX) (q:List (List Value×DataW H)) (M:Mp) (h:AH),Al P w enc (fun _=>true) l q→In M w h→UD l (q.map (·.2))→aDT M w h l (q.map (·.2)) (q.map (·.1)).flatten
 | .nil,q,M,h,ha,hi,hs=>by
  simp only [Al] at ha;subst ha
  exact ⟨M,h,[],hi,Gr.refl M h,.nil,⟨rfl,rfl⟩,by simp⟩
 | .cons x l,q,M,h,ha,hi,hs=>by
  simp only [Al] at ha
  obtain ⟨p,q',rfl,ht,ha⟩:=ha
  simp only [UD] at hs
  obtain ⟨s1,s2⟩:=hs _ _ rfl
  obtain ⟨M1,h1,vs,i1,g1,v1,d1,c1⟩:=take hpos x p.1 p.2 M h ht hi s1
  obtain ⟨M2,h2,us,i2,g2,v2,d2,c2⟩:=T8 hpos l q' M1 h1 ha i1 s2
  refine ⟨M2,h2,vs++us,i2,g1.trans g2,by simpa using (v1.keep g2.keeps).append v2,⟨_,_,vs,us,rfl,rfl,d1.grow g2,d2⟩,fun v hv=>?_⟩
  rcases List.mem_append.1 hv with hv | hv
  ·exact c1 v hv
  ·exact c2 v hv
end
end
end Go.Ab
/- A law's row out of the abstract machine. -/
namespace Go.Ab
open Go Go.RowKit
theorem L0 {P : Program} {tp : TP} {wr : Wr} (hT : fO P wr tp) (hm : Bj P tp) (hx : P.follows .mixedOrders = true) {f : Nat} {args : List V} {h : AH} {M : Mp} {w : World} {xs : Array Value}
    (hi:In M w h) (ha:A6 M h args xs.toList) (he:Ev tp f args h (fun r _=>r=.b true)):Calls P f xs w fun e w'=>e=.returned (.bool true)∧Below w.heap.size w w':=by
 obtain ⟨k,v,h',hev,rfl⟩:=he
 refine ((Rh hT hm hx k f args h _ h' hev).2 M w.heap.size w xs hi.sim ha).mono fun e w' ⟨x,M',e1,hd⟩=>?_
 subst e1
 have hv:=hd.val
 cases hv
 exact ⟨rfl,hd.below⟩
theorem In.empty (w:World):In (fun _=>none) w ⟨fun _=>none,0,0⟩:=⟨fun _ _ _ hk=>(by cases hk),fun _ _ hm=>(by cases hm),fun _ hl=>absurd rfl hl,rfl⟩
def W3 (P:Program):Bool:=
 if P.globals.size=0 then decide (0<(begin P (fun _ _=>0) default).world.heap.size)
 else (((begin P (fun _ _=>0) default).world.heap[0]?).bind Obj.row?).isSome
theorem MT {P:Program} {w:World} (hp:W3 P=true) (hs:w.ShapedOpen P):0<w.heap.size:=by
 unfold W3 at hp
 split at hp
 ·rename_i h0
  simp only [decide_eq_true_eq] at hp
  obtain ⟨o,_,ho,_⟩:=hs.2 0 (by omega) hp
  by_cases hz:0<w.heap.size
  ·exact hz
  ·rw [Array.getElem?_eq_none (by omega)] at ho;cases ho
 ·rename_i h0
  cases hb:((begin P (fun _ _=>0) default).world.heap[0]?).bind Obj.row? with
  | none=>rw [hb] at hp;cases hp
  | some q=>
   obtain ⟨cs,hc,_⟩:=hs.1 0 q.1 q.2 (by omega) hb
   by_cases hz:0<w.heap.size
   ·exact hz
   ·rw [Array.getElem?_eq_none (by omega)] at hc;cases hc
theorem oF {n:Int} (h:(Lit.int .i64 n).wf=true): -9223372036854775808≤n∧n≤9223372036854775807:=by
 simpa [Lit.wf,IntKind.min,IntKind.max,IntKind.signed,IntKind.bits] using h
theorem Uj {n:Int} (h:(Lit.int .u32 n).wf=true):0≤n∧n≤4294967295:=by
 simpa [Lit.wf,IntKind.min,IntKind.max,IntKind.signed,IntKind.bits] using h
section
variable {H:Type} {enc:TypeId×Value→H}
theorem JY {a : Assume} {C : Checked} {os : Os} {f : FuncId} {fn : Func} {s : OpenSpec} {k : (H : Type) → List (DataW H) → Bool} (hk : s.cond = some k) {F : Stop.Interp} {conds : List PathCond} {apart fresh handsOn again : Bool}
    (own:ownKnob C.prog.godebug=none) (started:os.Started) (noInit:C.prog.inits.idxOf? f=none) (hfn:C.prog.funcs[f]?=some fn) (hpos:W3 C.prog=true)
    (witness:∃ (w:World) (tape:Tape) (i:Input),w.os=os∧(w.forCall tape i).Shaped C.prog∧i.vars=[]∧Input.okWide C.prog (w.forCall tape i) .any w.heap.size f i ∧
     s.pre6 enc C.prog fn conds apart (w.forCall tape i).memory i.args∧a.holds C.prog (lone (Frame.enter C.prog f i.args .normal) [] (w.forCall tape i)))
    (contract:∀ (W:World) (base:Nat) (args:Array Value) (ds gs:List (DataW H)) (before:List MemPlace),0<W.heap.size →
     (∀ (j:Nat) t v,fn.params[j]?=some t→args[j]?=some v→Value.okWide C.prog W .any base t v) →
     DataW.Whole enc C.prog fn.params.toList s.vars apart W args.toList ds gs before→k H (ds++gs)=true →
     Calls C.prog f args W fun e W'=>∃ v,e=.returned v∧(s.at F).post enc C.prog fn apart fresh handsOn again W args v W'):
    ReturnsInHanded a C os f .any (s.pre6 enc C.prog fn conds apart) ((s.at F).post enc C.prog fn apart fresh handsOn again):=by
 refine returnsInHanded_of_calls own started noInit witness ?_
 intro w tape i _ hshaped _ hok hpre _
 obtain ⟨_,_,_,fn',hfn',_,_,_,_,hval⟩:=hok
 obtain rfl:fn'=fn:=Option.some.inj (hfn'.symm.trans hfn)
 obtain ⟨ds,gs,before,hw,_,hkk⟩:=(OpenSpec.pre_some hk conds apart _ _).1 hpre.1
 have hw':=DataW.Whole.of_heap (w':=w.forCall tape i) (by rfl) hw
 refine (contract (w.forCall tape i) w.heap.size i.args ds gs before (MT hpos hshaped) hval hw' hkk).mono fun e W' ⟨v,he,hp⟩=>?_
 subst he
 exact ChangeSpec.post_blind hp
end
end Go.Ab
namespace Go.Ab.T
open Go Go.Ab
set_option maxHeartbeats 1000000
theorem Pf.ev {f:Nat} {args args1:List V} {h:AH} (pf:Pf tp f args (.b true)) (hl:h.lim≤h.next) (p:Bc (·<h.next) (fun i=>i) h.get 0 args args1):Ev tp f args1 h (fun r _=>r=.b true):=by
 refine (pf (·<h.next) (fun i=>i) h args1 (Ca.emp (fun a ha=>ha) hl _) p).imp ?_
 rintro r1 hc' ⟨r,h',S',m',c',a',q,rfl,rfl⟩
 cases q;rfl
structure BK {H:Type} (bk:DataW H→Nat):Prop where
 sl:∀ Ay spare,Ay.length≤bk (.slice Ay spare)
 el:∀ Ay spare x,x∈Ay→bk x≤bk (.slice Ay spare)
 ag:∀ parts x,x∈parts→bk x≤bk (.agg parts)
 st:∀ l,l.length≤bk (.lit (.string l))
section
variable {H:Type} {bk:DataW H→Nat} {h:AH}
end
end Go.Ab.T
