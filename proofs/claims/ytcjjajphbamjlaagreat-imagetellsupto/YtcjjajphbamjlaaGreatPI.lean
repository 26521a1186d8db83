/- Part of a proof that a law returns true for every input of the second form's bound (no other condition). -/
import Derived.Test.YtcjjajphbamjlaaGreatPH
import Derived.Test.YtcjjajphbamjlaaGreatPG
import Derived.Test.YtcjjajphbamjlaaGreatPF
set_option linter.all false
namespace Go.Ab.T
open Go Go.Ab
set_option maxHeartbeats 4000000
def BJ (B:List Int) (f:Bool):List Int:=Am B (if f=true then 1 else 0)
def B1 (B:List Int) (p:AN):List Int:=Am (Am B p.entry) p.prio
def Cb (B:List Int) (p:Part):List Int:=Am (Am (Am (Am (Am (p.procs.foldl B1 (Am (BJ (BJ (Am (Am (Am B p.name.size++sB p.name) p.budget) p.period) p.sched) p.stop) p.procs.length)) p.h0) p.h1) p.h2) p.h3) p.h4
def Cl (B:List Int) (x:Ar):List Int:=Am (Am (Am (BJ (Am (Am B x.src) x.dst) x.queue) x.cap) (IntKind.wrap .i64 x.top)) x.late
def CW (B:List Int) (n:Node):List Int:=Am (Am (Am B n.kind) n.part) n.n
def E2 (B:List Int) (t:List Node):List Int:=t.foldl CW (Am B t.length)
def Ci (C:Ah):List Int:=BL (C.tables.foldl E2 (Am (C.chans.foldl Cl (Am (C.parts.foldl Cb (Am [72,79,82,65] C.parts.length)) C.chans.length)) C.tables.length))
theorem CU (B:List Int) (f:Bool):(BJ B f).length≤B.length+9:=Ak _ _
theorem aFi {K : Ex → Env → AH → Prop} {e : Env} {h0 h' : AH} {v : V} {B : List Int} {L : List AN} {bx : Nat} {row : List V} {i : Nat} {v23 : V} {n24 : Int} (x0 : AJ h0 h') (hl0 : h0.lim = 0) (s : Sl 0 h' 1 v (B.map Aj)) (hB : B.length + 18 * L.length < 900000) (hb : h'.get bx = some ⟨11, [row]⟩) (hbl : bx < h'.next)
    (e1:e 1=.p 0 0 0) (e3:e 3=v) (e5:e 5=.p bx 0 0) (e23:e 23=v23) (e24:e 24=.i .i64 n24) (e25:e 25=.i .i64 i) (e51:e 51=.fl 2 (L.map AN.enc)) (e52:e 52=.i .i64 L.length) (e53:e 53=.i .i64 0)
    (kk:∀ e' h2 v,e' 1=.p 0 0 0→e' 3=v→e' 5=.p bx 0 0→e' 23=v23→e' 24=.i .i64 n24→e' 25=.i .i64 i→AJ h0 h2→Sl 0 h2 1 v ((L.foldl B1 B).map Aj)→(L.foldl B1 B).length≤B.length+18*L.length→h2.get bx=some ⟨11,[row]⟩→bx<h2.next→K (.ex 2) e' h2):ZC tp (.loop Wq) e h' K:=by
 refine Ae (fun n' e hh=>∃ (q:Nat) (v:V) (A:List Int),n'=L.length - q∧AJ h0 hh∧e 1=.p 0 0 0∧e 3=v∧e 5=.p bx 0 0∧e 23=v23∧e 24=.i .i64 n24∧e 25=.i .i64 i∧e 51=.fl 2 (L.map AN.enc)∧e 52=.i .i64 L.length∧e 53=.i .i64 q∧q≤L.length∧Sl 0 hh 1 v (A.map Aj)∧A.length≤B.length+18*q∧hh.get bx=some ⟨11,[row]⟩∧bx<hh.next∧(L.drop q).foldl B1 A=L.foldl B1 B) ?_ _ _ _ ⟨0,v,B,rfl,x0,e1,e3,e5,e23,e24,e25,e51,e52,e53,by omega,s,by omega,hb,hbl,rfl⟩
 clear e1 e3 e5 e23 e24 e25 e51 e52 e53 e x0 s hb hbl
 rintro n' e hh ⟨q,v,A,rfl,xx,e1,e3,e5,e23,e24,e25,e51,e52,e53,hq,s,hA,hb,hbl,hz⟩ ih
 have hlq:hh.lim≤hh.next:=by rw [xx.lim,hl0];exact Nat.zero_le _
 have hl00:hh.lim≤0:=by rw [xx.lim,hl0];exact Nat.le_refl _
 rw [Ai Wq.eq_1]
 have hz1:=hz
 clear hz
 simp (disch:=omega)only[go_sem, *]
 refine Aa (fun hc=>?_) (fun hc=>?_)
 ·rw [Ax (by omega),List.foldl_cons] at hz1
  have x1:AJ hh ((hh.alloc ⟨2,[[.i .i64 0,.i .i64 0]]⟩).put hh.next ⟨2,[[.i .i64 (nth L q).entry,.i .i64 (nth L q).prio]]⟩):=by (repeat (first | exact AJ.refl _ | refine AJ.alloc ?_ _ | (refine AJ.put ?_ _ _ ?_;rotate_left;(first | omega | (simp only [Ag,AB];omega)))))
  have b1:((hh.alloc ⟨2,[[.i .i64 0,.i .i64 0]]⟩).put hh.next ⟨2,[[.i .i64 (nth L q).entry,.i .i64 (nth L q).prio]]⟩).get hh.next=some ⟨2,[[.i .i64 (nth L q).entry,.i .i64 (nth L q).prio]]⟩:=by rw [Ad,AC rfl]
  have n1:hh.next<((hh.alloc ⟨2,[[.i .i64 0,.i .i64 0]]⟩).put hh.next ⟨2,[[.i .i64 (nth L q).entry,.i .i64 (nth L q).prio]]⟩).next:=Nat.lt_succ_self _
  have s1:=s.ext x1
  simp (disch:=omega)only[go_sem, *]
  generalize (hh.alloc ⟨2,[[.i .i64 0,.i .i64 0]]⟩).put hh.next ⟨2,[[.i .i64 (nth L q).entry,.i .i64 (nth L q).prio]]⟩=h1 at x1 b1 n1 s1 ⊢
  refine Bw (by simp only [Bj,Ba];exact Nat.le_refl _) (s1).raise (by omega)  ?_
  intro r2 k2 t2 y2
  have x2:AJ h1 (k2.back (h1).lim):=⟨y2.next,rfl,y2.get⟩
  have s2:Sl 0 (k2.back (h1).lim) 1 r2 _:=Sl.weak t2 (Nat.zero_le _)
  have hb2:=(x2.get _ n1).trans (b1)
  have lt2:=Nat.lt_of_lt_of_le n1 x2.next
  have len2:=(Ak A (nth L q).entry)
  clear t2 y2
  simp (disch:=omega)only[go_sem, *]
  generalize k2.back (h1).lim=g2 at x2 s2 hb2 lt2 ⊢
  refine Bw (by simp only [Bj,Ba];exact Nat.le_refl _) (s2).raise (by omega)  ?_
  intro r3 k3 t3 y3
  have x3:AJ g2 (k3.back (g2).lim):=⟨y3.next,rfl,y3.get⟩
  have s3:Sl 0 (k3.back (g2).lim) 1 r3 _:=Sl.weak t3 (Nat.zero_le _)
  have hb3:=(x3.get _ lt2).trans (hb2)
  have lt3:=Nat.lt_of_lt_of_le lt2 x3.next
  have len3:=(Ak (Am A (nth L q).entry) (nth L q).prio)
  clear t3 y3
  simp (disch:=omega)only[go_sem, *]
  generalize k3.back (g2).lim=g3 at x3 s3 hb3 lt3 ⊢
  have xn:=xx.trans (x1.trans (x2.trans x3))
  have hbn:=((x1.trans (x2.trans x3)).get bx hbl).trans hb
  have hbl2:bx<g3.next:=Nat.lt_of_lt_of_le hbl (x1.trans (x2.trans x3)).next
  have lA:(B1 A (nth L q)).length≤B.length+18*(q+1):=by unfold B1;omega
  refine ih _ _ _ ?_ ⟨q+1,r3,B1 A (nth L q),rfl, ?_⟩
  ·omega
  ·have hz3:=hz1
   clear hz1 ih kk
   simp (disch:=omega)only[go_sem, *]
   all_goals ((repeat' refine And.intro ?_ ?_)<;>first | omega | assumption | (exact xn) | (exact s3) | (exact lA) | (exact hbn) | (exact hz3))
 ·rw [List.drop_eq_nil_of_le (by omega),List.foldl_nil] at hz1
  have f:=kk
  clear kk
  simp (disch:=omega)only[go_sem, *]
  exact f _ hh v e1 e3 e5 e23 e24 e25 xx (by rw [← hz1];exact s) (by rw [← hz1];omega) hb hbl
theorem aFm {K : Ex → Env → AH → Prop} {e : Env} {h0 h' : AH} {v : V} {B : List Int} {L : List Node} {i : Nat} {v115 : V} {n116 : Int} (x0 : AJ h0 h') (hl0 : h0.lim = 0) (s : Sl 0 h' 1 v (B.map Aj)) (hB : B.length + 27 * L.length < 900000)
    (e3:e 3=v) (e115:e 115=v115) (e116:e 116=.i .i64 n116) (e117:e 117=.i .i64 i) (e125:e 125=.fl 3 (L.map Node.enc)) (e126:e 126=.i .i64 L.length) (e127:e 127=.i .i64 0)
    (kk:∀ e' h2 v,e' 3=v→e' 115=v115→e' 116=.i .i64 n116→e' 117=.i .i64 i→AJ h0 h2→Sl 0 h2 1 v ((L.foldl CW B).map Aj)→(L.foldl CW B).length≤B.length+27*L.length→K (.ex 10) e' h2):ZC tp (.loop Wu) e h' K:=by
 refine Ae (fun n' e hh=>∃ (q:Nat) (v:V) (A:List Int),n'=L.length - q∧AJ h0 hh∧e 3=v∧e 115=v115∧e 116=.i .i64 n116∧e 117=.i .i64 i∧e 125=.fl 3 (L.map Node.enc)∧e 126=.i .i64 L.length∧e 127=.i .i64 q∧q≤L.length∧Sl 0 hh 1 v (A.map Aj)∧A.length≤B.length+27*q∧(L.drop q).foldl CW A=L.foldl CW B) ?_ _ _ _ ⟨0,v,B,rfl,x0,e3,e115,e116,e117,e125,e126,e127,by omega,s,by omega,rfl⟩
 clear e3 e115 e116 e117 e125 e126 e127 e x0 s
 rintro n' e hh ⟨q,v,A,rfl,xx,e3,e115,e116,e117,e125,e126,e127,hq,s,hA,hz⟩ ih
 have hlq:hh.lim≤hh.next:=by rw [xx.lim,hl0];exact Nat.zero_le _
 have hl00:hh.lim≤0:=by rw [xx.lim,hl0];exact Nat.le_refl _
 rw [Ai Wu.eq_1]
 have hz1:=hz
 clear hz
 simp (disch:=omega)only[go_sem, *]
 refine Aa (fun hc=>?_) (fun hc=>?_)
 ·rw [Ax (by omega),List.foldl_cons] at hz1
  have x1:AJ hh ((hh.alloc ⟨3,[[.i .i64 0,.i .i64 0,.i .i64 0]]⟩).put hh.next ⟨3,[[.i .i64 (nth L q).kind,.i .i64 (nth L q).part,.i .i64 (nth L q).n]]⟩):=by (repeat (first | exact AJ.refl _ | refine AJ.alloc ?_ _ | (refine AJ.put ?_ _ _ ?_;rotate_left;(first | omega | (simp only [Ag,AB];omega)))))
  have b1:((hh.alloc ⟨3,[[.i .i64 0,.i .i64 0,.i .i64 0]]⟩).put hh.next ⟨3,[[.i .i64 (nth L q).kind,.i .i64 (nth L q).part,.i .i64 (nth L q).n]]⟩).get hh.next=some ⟨3,[[.i .i64 (nth L q).kind,.i .i64 (nth L q).part,.i .i64 (nth L q).n]]⟩:=by rw [Ad,AC rfl]
  have n1:hh.next<((hh.alloc ⟨3,[[.i .i64 0,.i .i64 0,.i .i64 0]]⟩).put hh.next ⟨3,[[.i .i64 (nth L q).kind,.i .i64 (nth L q).part,.i .i64 (nth L q).n]]⟩).next:=Nat.lt_succ_self _
  have s1:=s.ext x1
  simp (disch:=omega)only[go_sem, *]
  generalize (hh.alloc ⟨3,[[.i .i64 0,.i .i64 0,.i .i64 0]]⟩).put hh.next ⟨3,[[.i .i64 (nth L q).kind,.i .i64 (nth L q).part,.i .i64 (nth L q).n]]⟩=h1 at x1 b1 n1 s1 ⊢
  refine Bw (by simp only [Bj,Ba];exact Nat.le_refl _) (s1).raise (by omega)  ?_
  intro r2 k2 t2 y2
  have x2:AJ h1 (k2.back (h1).lim):=⟨y2.next,rfl,y2.get⟩
  have s2:Sl 0 (k2.back (h1).lim) 1 r2 _:=Sl.weak t2 (Nat.zero_le _)
  have hb2:=(x2.get _ n1).trans (b1)
  have lt2:=Nat.lt_of_lt_of_le n1 x2.next
  have len2:=(Ak A (nth L q).kind)
  clear t2 y2
  simp (disch:=omega)only[go_sem, *]
  generalize k2.back (h1).lim=g2 at x2 s2 hb2 lt2 ⊢
  refine Bw (by simp only [Bj,Ba];exact Nat.le_refl _) (s2).raise (by omega)  ?_
  intro r3 k3 t3 y3
  have x3:AJ g2 (k3.back (g2).lim):=⟨y3.next,rfl,y3.get⟩
  have s3:Sl 0 (k3.back (g2).lim) 1 r3 _:=Sl.weak t3 (Nat.zero_le _)
  have hb3:=(x3.get _ lt2).trans (hb2)
  have lt3:=Nat.lt_of_lt_of_le lt2 x3.next
  have len3:=(Ak (Am A (nth L q).kind) (nth L q).part)
  clear t3 y3
  simp (disch:=omega)only[go_sem, *]
  generalize k3.back (g2).lim=g3 at x3 s3 hb3 lt3 ⊢
  refine Bw (by simp only [Bj,Ba];exact Nat.le_refl _) (s3).raise (by omega)  ?_
  intro r4 k4 t4 y4
  have x4:AJ g3 (k4.back (g3).lim):=⟨y4.next,rfl,y4.get⟩
  have s4:Sl 0 (k4.back (g3).lim) 1 r4 _:=Sl.weak t4 (Nat.zero_le _)
  have hb4:=(x4.get _ lt3).trans (hb3)
  have lt4:=Nat.lt_of_lt_of_le lt3 x4.next
  have len4:=(Ak (Am (Am A (nth L q).kind) (nth L q).part) (nth L q).n)
  clear t4 y4
  simp (disch:=omega)only[go_sem, *]
  generalize k4.back (g3).lim=g4 at x4 s4 hb4 lt4 ⊢
  have xn:=xx.trans (x1.trans (x2.trans (x3.trans x4)))
  have lA:(CW A (nth L q)).length≤B.length+27*(q+1):=by unfold CW;omega
  refine ih _ _ _ ?_ ⟨q+1,r4,CW A (nth L q),rfl, ?_⟩
  ·omega
  ·have hz3:=hz1
   clear hz1 ih kk
   simp (disch:=omega)only[go_sem, *]
   all_goals ((repeat' refine And.intro ?_ ?_)<;>first | omega | assumption | (exact xn) | (exact s4) | (exact lA) | (exact hz3))
 ·rw [List.drop_eq_nil_of_le (by omega),List.foldl_nil] at hz1
  have f:=kk
  clear kk
  simp (disch:=omega)only[go_sem, *]
  exact f _ hh v e3 e115 e116 e117 xx (by rw [← hz1];exact s) (by rw [← hz1];omega)
theorem aFn {K : Ex → Env → AH → Prop} {e : Env} {h0 h' : AH} {v : V} {B : List Int} {L : List (List Node)} (x0 : AJ h0 h') (hl0 : h0.lim = 0) (s : Sl 0 h' 1 v (B.map Aj)) (hB : B.length + 20000 * L.length < 800000) (hT : ∀ t ∈ L, t.length ≤ 710)
    (e3:e 3=v) (e115:e 115=.fl 1 (L.map Tab.enc)) (e116:e 116=.i .i64 L.length) (e117:e 117=.i .i64 0)
    (kk:∀ e' h2 v,e' 3=v→AJ h0 h2→Sl 0 h2 1 v ((L.foldl E2 B).map Aj)→(L.foldl E2 B).length≤B.length+20000*L.length→K (.ex 8) e' h2):ZC tp (.loop Ww) e h' K:=by
 refine Ae (fun n' e hh=>∃ (q:Nat) (v:V) (A:List Int),n'=L.length - q∧AJ h0 hh∧e 3=v∧e 115=.fl 1 (L.map Tab.enc)∧e 116=.i .i64 L.length∧e 117=.i .i64 q∧q≤L.length∧Sl 0 hh 1 v (A.map Aj)∧A.length≤B.length+20000*q∧(L.drop q).foldl E2 A=L.foldl E2 B) ?_ _ _ _ ⟨0,v,B,rfl,x0,e3,e115,e116,e117,by omega,s,by omega,rfl⟩
 clear e3 e115 e116 e117 e x0 s
 rintro n' e hh ⟨q,v,A,rfl,xx,e3,e115,e116,e117,hq,s,hA,hz⟩ ih
 have hlq:hh.lim≤hh.next:=by rw [xx.lim,hl0];exact Nat.zero_le _
 rw [Ai Ww.eq_1]
 have hz1:=hz
 clear hz
 simp (disch:=omega)only[go_sem, *]
 refine Aa (fun hc=>?_) (fun hc=>?_)
 ·rw [Ax (by omega),List.foldl_cons] at hz1
  have ht:=hT _ (Bm (L:=L) (j:=q) (by omega))
  simp (disch:=omega)only[go_sem, *]
  refine Bw hlq s (by omega) ?_
  intro r2 h2 s2 x2
  have l2:=Ak A (nth L q).length
  have s2:=Sl.weak s2 (Nat.zero_le _)
  simp (disch:=omega)only[go_sem, *]
  refine aFm (L:=nth L q) (i:=q) (v115:=.fl 1 (L.map Tab.enc)) (n116:=L.length) (xx.trans x2) hl0 s2 (by omega) (by simp (disch:=omega)only[go_sem, *]) (by simp (disch:=omega)only[go_sem, *]) (by simp (disch:=omega)only[go_sem, *]) (by simp (disch:=omega)only[go_sem, *]) (by simp (disch:=omega)only[go_sem, *]) (by simp (disch:=omega)only[go_sem, *]) (by simp (disch:=omega)only[go_sem, *]) ?_
  intro e' h3 v3 f3 f115 f116 f117 x3 s3 l3
  have lA:(E2 A (nth L q)).length≤B.length+20000*(q+1):=by unfold E2;omega
  simp (disch:=omega)only[go_sem, *]
  refine ih _ _ _ ?_ ⟨q+1,v3,E2 A (nth L q),rfl, ?_⟩
  ·omega
  ·have hz3:=hz1
   clear hz1 ih kk
   simp (disch:=omega)only[go_sem, *]
   all_goals ((repeat' refine And.intro ?_ ?_)<;>first | omega | assumption | (exact x3) | (exact s3) | (exact lA) | (exact hz3))
 ·rw [List.drop_eq_nil_of_le (by omega),List.foldl_nil] at hz1
  have f:=kk
  clear kk
  simp (disch:=omega)only[go_sem, *]
  exact f _ hh v e3 xx (by rw [← hz1];exact s) (by rw [← hz1];omega)
theorem aFl {K : Ex → Env → AH → Prop} {e : Env} {h0 h' : AH} {v : V} {B : List Int} {L : List Ar} (x0 : AJ h0 h') (hl0 : h0.lim = 0) (s : Sl 0 h' 1 v (B.map Aj)) (hB : B.length + 54 * L.length < 900000)
    (e1:e 1=.p 0 0 0) (e3:e 3=v) (e81:e 81=.fl 6 (L.map Ar.enc)) (e82:e 82=.i .i64 L.length) (e83:e 83=.i .i64 0)
    (kk:∀ e' h2 v,e' 1=.p 0 0 0→e' 3=v→AJ h0 h2→Sl 0 h2 1 v ((L.foldl Cl B).map Aj)→(L.foldl Cl B).length≤B.length+54*L.length→K (.ex 6) e' h2):ZC tp (.loop Wt) e h' K:=by
 refine Ae (fun n' e hh=>∃ (q:Nat) (v:V) (A:List Int),n'=L.length - q∧AJ h0 hh∧e 1=.p 0 0 0∧e 3=v∧e 81=.fl 6 (L.map Ar.enc)∧e 82=.i .i64 L.length∧e 83=.i .i64 q∧q≤L.length∧Sl 0 hh 1 v (A.map Aj)∧A.length≤B.length+54*q∧(L.drop q).foldl Cl A=L.foldl Cl B) ?_ _ _ _ ⟨0,v,B,rfl,x0,e1,e3,e81,e82,e83,by omega,s,by omega,rfl⟩
 clear e1 e3 e81 e82 e83 e x0 s
 rintro n' e hh ⟨q,v,A,rfl,xx,e1,e3,e81,e82,e83,hq,s,hA,hz⟩ ih
 have hlq:hh.lim≤hh.next:=by rw [xx.lim,hl0];exact Nat.zero_le _
 have hl00:hh.lim≤0:=by rw [xx.lim,hl0];exact Nat.le_refl _
 rw [Ai Wt.eq_1]
 have hz1:=hz
 clear hz
 simp (disch:=omega)only[go_sem, *]
 refine Aa (fun hc=>?_) (fun hc=>?_)
 ·rw [Ax (by omega),List.foldl_cons] at hz1
  have x1:AJ hh ((hh.alloc ⟨6,[[.i .i64 0,.i .i64 0,.b false,.i .i64 0,.i .u32 0,.i .i64 0]]⟩).put hh.next ⟨6,[(nth L q).enc]⟩):=by (repeat (first | exact AJ.refl _ | refine AJ.alloc ?_ _ | (refine AJ.put ?_ _ _ ?_;rotate_left;(first | omega | (simp only [Ag,AB];omega)))))
  have b1:((hh.alloc ⟨6,[[.i .i64 0,.i .i64 0,.b false,.i .i64 0,.i .u32 0,.i .i64 0]]⟩).put hh.next ⟨6,[(nth L q).enc]⟩).get hh.next=some ⟨6,[(nth L q).enc]⟩:=by rw [Ad,AC rfl]
  have n1:hh.next<((hh.alloc ⟨6,[[.i .i64 0,.i .i64 0,.b false,.i .i64 0,.i .u32 0,.i .i64 0]]⟩).put hh.next ⟨6,[(nth L q).enc]⟩).next:=Nat.lt_succ_self _
  have s1:=s.ext x1
  simp only [Ar.enc] at x1 b1 n1 s1
  simp (disch:=omega)only[go_sem, *]
  generalize (hh.alloc ⟨6,[[.i .i64 0,.i .i64 0,.b false,.i .i64 0,.i .u32 0,.i .i64 0]]⟩).put hh.next ⟨6,[[.i .i64 (nth L q).src,.i .i64 (nth L q).dst,.b (nth L q).queue,.i .i64 (nth L q).cap,.i .u32 (nth L q).top,.i .i64 (nth L q).late]]⟩=h1 at x1 b1 n1 s1 ⊢
  refine Bw (by simp only [Bj,Ba];exact Nat.le_refl _) (s1).raise (by omega)  ?_
  intro r2 k2 t2 y2
  have x2:AJ h1 (k2.back (h1).lim):=⟨y2.next,rfl,y2.get⟩
  have s2:Sl 0 (k2.back (h1).lim) 1 r2 _:=Sl.weak t2 (Nat.zero_le _)
  have hb2:=(x2.get _ n1).trans (b1)
  have lt2:=Nat.lt_of_lt_of_le n1 x2.next
  have len2:=(Ak A (nth L q).src)
  clear t2 y2
  simp (disch:=omega)only[go_sem, *]
  generalize k2.back (h1).lim=g2 at x2 s2 hb2 lt2 ⊢
  refine Bw (by simp only [Bj,Ba];exact Nat.le_refl _) (s2).raise (by omega)  ?_
  intro r3 k3 t3 y3
  have x3:AJ g2 (k3.back (g2).lim):=⟨y3.next,rfl,y3.get⟩
  have s3:Sl 0 (k3.back (g2).lim) 1 r3 _:=Sl.weak t3 (Nat.zero_le _)
  have hb3:=(x3.get _ lt2).trans (hb2)
  have lt3:=Nat.lt_of_lt_of_le lt2 x3.next
  have len3:=(Ak (Am A (nth L q).src) (nth L q).dst)
  clear t3 y3
  simp (disch:=omega)only[go_sem, *]
  generalize k3.back (g2).lim=g3 at x3 s3 hb3 lt3 ⊢
  refine MH (by simp only [Bj,Ba];exact Nat.le_refl _) (s3).raise (by omega)  ?_
  intro r4 k4 t4 y4
  have x4:AJ g3 (k4.back (g3).lim):=⟨y4.next,rfl,y4.get⟩
  have s4:Sl 0 (k4.back (g3).lim) 1 r4 _:=Sl.weak t4 (Nat.zero_le _)
  have hb4:=(x4.get _ lt3).trans (hb3)
  have lt4:=Nat.lt_of_lt_of_le lt3 x4.next
  have len4:=(CU (Am (Am A (nth L q).src) (nth L q).dst) (nth L q).queue)
  clear t4 y4
  simp (disch:=omega)only[go_sem, *]
  generalize k4.back (g3).lim=g4 at x4 s4 hb4 lt4 ⊢
  have s4:Sl 0 g4 1 r4 ((BJ (Am (Am A (nth L q).src) (nth L q).dst) (nth L q).queue).map Aj):=s4
  generalize hG:BJ (Am (Am A (nth L q).src) (nth L q).dst) (nth L q).queue=G at s4 len4
  refine Bw (by simp only [Bj,Ba];exact Nat.le_refl _) (s4).raise (by omega)  ?_
  intro r5 k5 t5 y5
  have x5:AJ g4 (k5.back (g4).lim):=⟨y5.next,rfl,y5.get⟩
  have s5:Sl 0 (k5.back (g4).lim) 1 r5 _:=Sl.weak t5 (Nat.zero_le _)
  have hb5:=(x5.get _ lt4).trans (hb4)
  have lt5:=Nat.lt_of_lt_of_le lt4 x5.next
  have len5:=(Ak G (nth L q).cap)
  clear t5 y5
  simp (disch:=omega)only[go_sem, *]
  generalize k5.back (g4).lim=g5 at x5 s5 hb5 lt5 ⊢
  refine Bw (by simp only [Bj,Ba];exact Nat.le_refl _) (s5).raise (by omega)  ?_
  intro r6 k6 t6 y6
  have x6:AJ g5 (k6.back (g5).lim):=⟨y6.next,rfl,y6.get⟩
  have s6:Sl 0 (k6.back (g5).lim) 1 r6 _:=Sl.weak t6 (Nat.zero_le _)
  have hb6:=(x6.get _ lt5).trans (hb5)
  have lt6:=Nat.lt_of_lt_of_le lt5 x6.next
  have len6:=(Ak (Am G (nth L q).cap) (IntKind.wrap .i64 (nth L q).top))
  clear t6 y6
  simp (disch:=omega)only[go_sem, *]
  generalize k6.back (g5).lim=g6 at x6 s6 hb6 lt6 ⊢
  refine Bw (by simp only [Bj,Ba];exact Nat.le_refl _) (s6).raise (by omega)  ?_
  intro r7 k7 t7 y7
  have x7:AJ g6 (k7.back (g6).lim):=⟨y7.next,rfl,y7.get⟩
  have s7:Sl 0 (k7.back (g6).lim) 1 r7 _:=Sl.weak t7 (Nat.zero_le _)
  have hb7:=(x7.get _ lt6).trans (hb6)
  have lt7:=Nat.lt_of_lt_of_le lt6 x7.next
  have len7:=(Ak (Am (Am G (nth L q).cap) (IntKind.wrap .i64 (nth L q).top)) (nth L q).late)
  clear t7 y7
  simp (disch:=omega)only[go_sem, *]
  generalize k7.back (g6).lim=g7 at x7 s7 hb7 lt7 ⊢
  have xn:=xx.trans (x1.trans (x2.trans (x3.trans (x4.trans (x5.trans (x6.trans x7))))))
  have lA:(Cl A (nth L q)).length≤B.length+54*(q+1):=by unfold Cl;rw [hG];omega
  have s7':Sl 0 g7 1 r7 ((Cl A (nth L q)).map Aj):=by unfold Cl;rw [hG];exact s7
  clear hG
  refine ih _ _ _ ?_ ⟨q+1,r7,Cl A (nth L q),rfl, ?_⟩
  ·omega
  ·have hz3:=hz1
   clear hz1 ih kk
   simp (disch:=omega)only[go_sem, *]
   all_goals ((repeat' refine And.intro ?_ ?_)<;>first | omega | assumption | (exact xn) | (exact s7') | (exact lA) | (exact hz3))
 ·rw [List.drop_eq_nil_of_le (by omega),List.foldl_nil] at hz1
  have f:=kk
  clear kk
  simp (disch:=omega)only[go_sem, *]
  exact f _ hh v e1 e3 xx (by rw [← hz1];exact s) (by rw [← hz1];omega)
end Go.Ab.T
namespace Go.Ab.T
open Go Go.Ab
set_option maxHeartbeats 4000000
theorem aFj {K : Ex → Env → AH → Prop} {e : Env} {h0 h' : AH} {v : V} {B : List Int} {a0 a1 a2 a3 a4 : Int} {i : Nat} {v23 : V} {n24 : Int} (x0 : AJ h0 h') (hl0 : h0.lim = 0) (s0 : Sl 0 h' 1 v (B.map Aj)) (hB : B.length + 45 < 900000)
    (e1:e 1=.p 0 0 0) (e3:e 3=v) (e23:e 23=v23) (e24:e 24=.i .i64 n24) (e25:e 25=.i .i64 i) (e66:e 66=.agg [.i .i64 a0,.i .i64 a1,.i .i64 a2,.i .i64 a3,.i .i64 a4]) (e67:e 67=.i .i64 0)
    (kk:∀ e' h2 v,e' 1=.p 0 0 0→e' 3=v→e' 23=v23→e' 24=.i .i64 n24→e' 25=.i .i64 i→AJ h0 h2→Sl 0 h2 1 v ((Am (Am (Am (Am (Am B a0) a1) a2) a3) a4).map Aj)→(Am (Am (Am (Am (Am B a0) a1) a2) a3) a4).length≤B.length+45→K (.ex 4) e' h2):ZC tp (.loop I9) e h' K:=by
 have hq1:(h').lim≤(h').next:=by rw [(x0).lim,hl0];exact Nat.zero_le _
 refine Bc ?_
 rw [Ai I9.eq_1]
 simp (disch:=omega)only[go_sem, *]
 refine Bw hq1 s0 (by omega) ?_
 intro r1 g1 t1 y1
 have x1:=(x0).trans y1
 have s1:=Sl.weak t1 (Nat.zero_le _)
 have l1:=Ak B a0
 clear t1 y1
 simp (disch:=omega)only[go_sem, *]
 have hq2:(g1).lim≤(g1).next:=by rw [(x1).lim,hl0];exact Nat.zero_le _
 refine Bc ?_
 rw [Ai I9.eq_1]
 simp (disch:=omega)only[go_sem, *]
 refine Bw hq2 s1 (by omega) ?_
 intro r2 g2 t2 y2
 have x2:=(x1).trans y2
 have s2:=Sl.weak t2 (Nat.zero_le _)
 have l2:=Ak (Am B a0) a1
 clear t2 y2
 simp (disch:=omega)only[go_sem, *]
 have hq3:(g2).lim≤(g2).next:=by rw [(x2).lim,hl0];exact Nat.zero_le _
 refine Bc ?_
 rw [Ai I9.eq_1]
 simp (disch:=omega)only[go_sem, *]
 refine Bw hq3 s2 (by omega) ?_
 intro r3 g3 t3 y3
 have x3:=(x2).trans y3
 have s3:=Sl.weak t3 (Nat.zero_le _)
 have l3:=Ak (Am (Am B a0) a1) a2
 clear t3 y3
 simp (disch:=omega)only[go_sem, *]
 have hq4:(g3).lim≤(g3).next:=by rw [(x3).lim,hl0];exact Nat.zero_le _
 refine Bc ?_
 rw [Ai I9.eq_1]
 simp (disch:=omega)only[go_sem, *]
 refine Bw hq4 s3 (by omega) ?_
 intro r4 g4 t4 y4
 have x4:=(x3).trans y4
 have s4:=Sl.weak t4 (Nat.zero_le _)
 have l4:=Ak (Am (Am (Am B a0) a1) a2) a3
 clear t4 y4
 simp (disch:=omega)only[go_sem, *]
 have hq5:(g4).lim≤(g4).next:=by rw [(x4).lim,hl0];exact Nat.zero_le _
 refine Bc ?_
 rw [Ai I9.eq_1]
 simp (disch:=omega)only[go_sem, *]
 refine Bw hq5 s4 (by omega) ?_
 intro r5 g5 t5 y5
 have x5:=(x4).trans y5
 have s5:=Sl.weak t5 (Nat.zero_le _)
 have l5:=Ak (Am (Am (Am (Am B a0) a1) a2) a3) a4
 clear t5 y5
 simp (disch:=omega)only[go_sem, *]
 refine Bc ?_
 rw [Ai I9.eq_1]
 have f:=kk
 clear kk
 simp (disch:=omega)only[go_sem, *]
 refine f _ _ _ ?_ ?_ ?_ ?_ ?_ x5 s5 (by omega)<;>simp (disch:=omega)only[go_sem, *]
theorem aFk {K : Ex → Env → AH → Prop} {e : Env} {h0 h' : AH} {v : V} {B : List Int} {L : List Part} (x0 : AJ h0 h') (hl0 : h0.lim = 0) (s : Sl 0 h' 1 v (B.map Aj)) (hB : B.length + 3000 * L.length < 800000) (hP : ∀ p ∈ L, p.name.size < 1000 ∧ p.procs.length ≤ 100)
    (e1:e 1=.p 0 0 0) (e3:e 3=v) (e23:e 23=.fl 11 (L.map Part.enc)) (e24:e 24=.i .i64 L.length) (e25:e 25=.i .i64 0)
    (kk:∀ e' h2 v,e' 1=.p 0 0 0→e' 3=v→AJ h0 h2→Sl 0 h2 1 v ((L.foldl Cb B).map Aj)→(L.foldl Cb B).length≤B.length+3000*L.length→K (.ex 0) e' h2):ZC tp (.loop Ws) e h' K:=by
 refine Ae (fun n' e hh=>∃ (q:Nat) (v:V) (A:List Int),n'=L.length - q∧AJ h0 hh∧e 1=.p 0 0 0∧e 3=v∧e 23=.fl 11 (L.map Part.enc)∧e 24=.i .i64 L.length∧e 25=.i .i64 q∧q≤L.length∧Sl 0 hh 1 v (A.map Aj)∧A.length≤B.length+3000*q∧(L.drop q).foldl Cb A=L.foldl Cb B) ?_ _ _ _ ⟨0,v,B,rfl,x0,e1,e3,e23,e24,e25,by omega,s,by omega,rfl⟩
 clear e1 e3 e23 e24 e25 e x0 s
 rintro n' e hh ⟨q,v,A,rfl,xx,e1,e3,e23,e24,e25,hq,s,hA,hz⟩ ih
 have hlq:hh.lim≤hh.next:=by rw [xx.lim,hl0];exact Nat.zero_le _
 have hl00:hh.lim≤0:=by rw [xx.lim,hl0];exact Nat.le_refl _
 rw [Ai Ws.eq_1]
 have hz1:=hz
 clear hz
 simp (disch:=omega)only[go_sem, *]
 refine Aa (fun hc=>?_) (fun hc=>?_)
 ·rw [Ax (by omega),List.foldl_cons] at hz1
  obtain ⟨hnm,hpl⟩:=hP _ (Bm (L:=L) (j:=q) (by omega))
  have hsl:=IZ (nth L q).name
  have x1:AJ hh ((hh.alloc ⟨11,[[.s ⟨#[]⟩,.i .i64 0,.i .i64 0,.b false,.b false,.ns,.i .i64 0,.i .i64 0,.i .i64 0,.i .i64 0,.i .i64 0]]⟩).put hh.next ⟨11,[(nth L q).enc]⟩):=by (repeat (first | exact AJ.refl _ | refine AJ.alloc ?_ _ | (refine AJ.put ?_ _ _ ?_;rotate_left;(first | omega | (simp only [Ag,AB];omega)))))
  have b1:((hh.alloc ⟨11,[[.s ⟨#[]⟩,.i .i64 0,.i .i64 0,.b false,.b false,.ns,.i .i64 0,.i .i64 0,.i .i64 0,.i .i64 0,.i .i64 0]]⟩).put hh.next ⟨11,[(nth L q).enc]⟩).get hh.next=some ⟨11,[(nth L q).enc]⟩:=by rw [Ad,AC rfl]
  have n1:hh.next<((hh.alloc ⟨11,[[.s ⟨#[]⟩,.i .i64 0,.i .i64 0,.b false,.b false,.ns,.i .i64 0,.i .i64 0,.i .i64 0,.i .i64 0,.i .i64 0]]⟩).put hh.next ⟨11,[(nth L q).enc]⟩).next:=Nat.lt_succ_self _
  have s1:=s.ext x1
  simp only [Part.enc] at x1 b1 n1 s1
  simp (disch:=omega)only[go_sem, *]
  generalize (hh.alloc ⟨11,[[.s ⟨#[]⟩,.i .i64 0,.i .i64 0,.b false,.b false,.ns,.i .i64 0,.i .i64 0,.i .i64 0,.i .i64 0,.i .i64 0]]⟩).put hh.next ⟨11,[[.s (nth L q).name,.i .i64 (nth L q).budget,.i .i64 (nth L q).period,.b (nth L q).sched,.b (nth L q).stop,.fl 2 ((nth L q).procs.map AN.enc),.i .i64 (nth L q).h0,.i .i64 (nth L q).h1,.i .i64 (nth L q).h2,.i .i64 (nth L q).h3,.i .i64 (nth L q).h4]]⟩=h1 at x1 b1 n1 s1 ⊢
  refine nR (by simp only [Bj,Ba];exact Nat.le_refl _) (s1).raise (by omega) hnm ?_
  intro r2 k2 t2 y2
  have x2:AJ h1 (k2.back (h1).lim):=⟨y2.next,rfl,y2.get⟩
  have s2:Sl 0 (k2.back (h1).lim) 1 r2 _:=Sl.weak t2 (Nat.zero_le _)
  have hb2:=(x2.get _ n1).trans (b1)
  have lt2:=Nat.lt_of_lt_of_le n1 x2.next
  have len2:=(Ak A (nth L q).name.size)
  clear t2 y2
  simp (disch:=omega)only[go_sem, *]
  generalize k2.back (h1).lim=g2 at x2 s2 hb2 lt2 ⊢
  have s2:Sl 0 g2 1 r2 ((Am A (nth L q).name.size++sB (nth L q).name).map Aj):=s2
  have len2':(Am A (nth L q).name.size++sB (nth L q).name).length≤A.length+1009:=by rw [List.length_append,hsl];omega
  generalize hG:Am A (nth L q).name.size++sB (nth L q).name=G at s2 len2'
  refine Bw (by simp only [Bj,Ba];exact Nat.le_refl _) (s2).raise (by omega)  ?_
  intro r3 k3 t3 y3
  have x3:AJ g2 (k3.back (g2).lim):=⟨y3.next,rfl,y3.get⟩
  have s3:Sl 0 (k3.back (g2).lim) 1 r3 _:=Sl.weak t3 (Nat.zero_le _)
  have hb3:=(x3.get _ lt2).trans (hb2)
  have lt3:=Nat.lt_of_lt_of_le lt2 x3.next
  have len3:=(Ak G (nth L q).budget)
  clear t3 y3
  simp (disch:=omega)only[go_sem, *]
  generalize k3.back (g2).lim=g3 at x3 s3 hb3 lt3 ⊢
  refine Bw (by simp only [Bj,Ba];exact Nat.le_refl _) (s3).raise (by omega)  ?_
  intro r4 k4 t4 y4
  have x4:AJ g3 (k4.back (g3).lim):=⟨y4.next,rfl,y4.get⟩
  have s4:Sl 0 (k4.back (g3).lim) 1 r4 _:=Sl.weak t4 (Nat.zero_le _)
  have hb4:=(x4.get _ lt3).trans (hb3)
  have lt4:=Nat.lt_of_lt_of_le lt3 x4.next
  have len4:=(Ak (Am G (nth L q).budget) (nth L q).period)
  clear t4 y4
  simp (disch:=omega)only[go_sem, *]
  generalize k4.back (g3).lim=g4 at x4 s4 hb4 lt4 ⊢
  generalize hG2:Am (Am G (nth L q).budget) (nth L q).period=G2 at s4 len4
  refine MH (by simp only [Bj,Ba];exact Nat.le_refl _) (s4).raise (by omega)  ?_
  intro r5 k5 t5 y5
  have x5:AJ g4 (k5.back (g4).lim):=⟨y5.next,rfl,y5.get⟩
  have s5:Sl 0 (k5.back (g4).lim) 1 r5 _:=Sl.weak t5 (Nat.zero_le _)
  have hb5:=(x5.get _ lt4).trans (hb4)
  have lt5:=Nat.lt_of_lt_of_le lt4 x5.next
  have len5:=(CU G2 (nth L q).sched)
  clear t5 y5
  simp (disch:=omega)only[go_sem, *]
  generalize k5.back (g4).lim=g5 at x5 s5 hb5 lt5 ⊢
  have s5:Sl 0 g5 1 r5 ((BJ G2 (nth L q).sched).map Aj):=s5
  refine MH (by simp only [Bj,Ba];exact Nat.le_refl _) (s5).raise (by omega)  ?_
  intro r6 k6 t6 y6
  have x6:AJ g5 (k6.back (g5).lim):=⟨y6.next,rfl,y6.get⟩
  have s6:Sl 0 (k6.back (g5).lim) 1 r6 _:=Sl.weak t6 (Nat.zero_le _)
  have hb6:=(x6.get _ lt5).trans (hb5)
  have lt6:=Nat.lt_of_lt_of_le lt5 x6.next
  have len6:=(CU (BJ G2 (nth L q).sched) (nth L q).stop)
  clear t6 y6
  simp (disch:=omega)only[go_sem, *]
  generalize k6.back (g5).lim=g6 at x6 s6 hb6 lt6 ⊢
  have s6:Sl 0 g6 1 r6 ((BJ (BJ G2 (nth L q).sched) (nth L q).stop).map Aj):=s6
  refine Bw (by simp only [Bj,Ba];exact Nat.le_refl _) (s6).raise (by omega)  ?_
  intro r7 k7 t7 y7
  have x7:AJ g6 (k7.back (g6).lim):=⟨y7.next,rfl,y7.get⟩
  have s7:Sl 0 (k7.back (g6).lim) 1 r7 _:=Sl.weak t7 (Nat.zero_le _)
  have hb7:=(x7.get _ lt6).trans (hb6)
  have lt7:=Nat.lt_of_lt_of_le lt6 x7.next
  have len7:=(Ak (BJ (BJ G2 (nth L q).sched) (nth L q).stop) (nth L q).procs.length)
  clear t7 y7
  simp (disch:=omega)only[go_sem, *]
  generalize k7.back (g6).lim=g7 at x7 s7 hb7 lt7 ⊢
  generalize hG3:Am (BJ (BJ G2 (nth L q).sched) (nth L q).stop) (nth L q).procs.length=G3 at s7 len7
  have xn:=xx.trans (x1.trans (x2.trans (x3.trans (x4.trans (x5.trans (x6.trans x7))))))
  refine aFi (L:=(nth L q).procs) (i:=q) (v23:=.fl 11 (L.map Part.enc)) (n24:=L.length) (bx:=hh.next) xn hl0 s7 (by omega) hb7 lt7 (by simp (disch:=omega)only[go_sem, *]) (by simp (disch:=omega)only[go_sem, *]) (by simp (disch:=omega)only[go_sem, *]) (by simp (disch:=omega)only[go_sem, *]) (by simp (disch:=omega)only[go_sem, *]) (by simp (disch:=omega)only[go_sem, *]) (by simp (disch:=omega)only[go_sem, *]) (by simp (disch:=omega)only[go_sem, *]) (by simp (disch:=omega)only[go_sem, *]) ?_
  intro e' h8 v8 f1 f3 f5 f23 f24 f25 x8 s8 l8 b8 lt8
  clear x1 x2 x3 x4 x5 x6 x7 xn hb2 hb3 hb4 hb5 hb6 hb7 b1 s1 s2 s3 s4 s5 s6 s7 lt2 lt3 lt4 lt5 lt6 lt7 n1
  simp (disch:=omega)only[go_sem, *]
  refine aFj (i:=q) (v23:=.fl 11 (L.map Part.enc)) (n24:=L.length) (a0:=(nth L q).h0) (a1:=(nth L q).h1) (a2:=(nth L q).h2) (a3:=(nth L q).h3) (a4:=(nth L q).h4) x8 hl0 s8 (by omega) (by simp (disch:=omega)only[go_sem, *]) (by simp (disch:=omega)only[go_sem, *]) (by simp (disch:=omega)only[go_sem, *]) (by simp (disch:=omega)only[go_sem, *]) (by simp (disch:=omega)only[go_sem, *]) (by simp (disch:=omega)only[go_sem, *]) (by simp (disch:=omega)only[go_sem, *]) ?_
  intro e' h9 v9 k1 k3 k23 k24 k25 x9 s9 l9
  have eA:Am (Am (Am (Am (Am (List.foldl B1 G3 (nth L q).procs) (nth L q).h0) (nth L q).h1) (nth L q).h2) (nth L q).h3) (nth L q).h4=Cb A (nth L q):=by unfold Cb;rw [← hG3,←hG2,←hG]
  rw [eA] at s9 l9
  have lA:(Cb A (nth L q)).length≤B.length+3000*(q+1):=by omega
  clear hG hG2 hG3 eA
  simp (disch:=omega)only[go_sem, *]
  refine ih _ _ _ ?_ ⟨q+1,v9,Cb A (nth L q),rfl, ?_⟩
  ·omega
  ·have hz3:=hz1
   clear hz1 ih kk
   simp (disch:=omega)only[go_sem, *]
   all_goals ((repeat' refine And.intro ?_ ?_)<;>first | omega | assumption | (exact x9) | (exact s9) | (exact lA) | (exact hz3))
 ·rw [List.drop_eq_nil_of_le (by omega),List.foldl_nil] at hz1
  have f:=kk
  clear kk
  simp (disch:=omega)only[go_sem, *]
  exact f _ hh v e1 e3 xx (by rw [← hz1];exact s) (by rw [← hz1];omega)
end Go.Ab.T
namespace Go.Ab.T
open Go Go.Ab
set_option maxHeartbeats 4000000
@[go_sem] theorem Jc:∀ B:List Int,bytesOf? (B.map Aj)=some (B.map fun z=>UInt8.ofNat z.toNat)
 | []=>rfl
 | z::B=>by
  have:=Jc B
  simp only [List.map_cons,Aj,bytesOf?] at this ⊢
  rw [this];rfl
structure SF (C:Ah):Prop where
 p:C.parts.length≤16
 c:C.chans.length≤100
 t:C.tables.length≤10
 pp:∀ p∈C.parts,p.name.size<1000∧p.procs.length≤100
 tt:∀ t∈C.tables,t.length≤710
theorem J2 {C:Ah} (hC:SF C):Pf tp aHd [.agg C.enc] (.fl 1 ((Ci C).map Aj)):=by
 obtain ⟨hp,hc,ht,hpp,htt⟩:=hC
 refine AD aUI (by simp [cD]) fun rp=>?_
 unfold cD
 have s0:Sl 0 ((AH.emp.alloc ⟨3,[C.enc]⟩).alloc ⟨1,[Aj 72,Aj 79,Aj 82,Aj 65]⟩) 1 (.sl 1 0 4 4) (([72,79,82,65]:List Int).map Aj):=Sl.new (by omega) (by simp)
 have b0:((AH.emp.alloc ⟨3,[C.enc]⟩).alloc ⟨1,[Aj 72,Aj 79,Aj 82,Aj 65]⟩).get 0=some ⟨3,[C.enc]⟩:=rfl
 simp only [Aj,Ah.enc] at s0 b0
 simp (disch:=omega)only[go_sem, *]
 have hl0:((AH.emp.alloc ⟨3,[[.fl 11 (C.parts.map Part.enc),.fl 6 (C.chans.map Ar.enc),.fl 1 (C.tables.map Tab.enc)]]⟩).alloc ⟨1,[[.i .u8 72],[.i .u8 79],[.i .u8 82],[.i .u8 65]]⟩).lim=0:=rfl
 have hn0:((AH.emp.alloc ⟨3,[[.fl 11 (C.parts.map Part.enc),.fl 6 (C.chans.map Ar.enc),.fl 1 (C.tables.map Tab.enc)]]⟩).alloc ⟨1,[[.i .u8 72],[.i .u8 79],[.i .u8 82],[.i .u8 65]]⟩).next=2:=rfl
 generalize (AH.emp.alloc ⟨3,[[.fl 11 (C.parts.map Part.enc),.fl 6 (C.chans.map Ar.enc),.fl 1 (C.tables.map Tab.enc)]]⟩).alloc ⟨1,[[.i .u8 72],[.i .u8 79],[.i .u8 82],[.i .u8 65]]⟩=h0 at *
 refine Bw (by omega) s0 (by simp) ?_
 intro r1 h1 t1 x1
 have s1:=Sl.weak t1 (Nat.zero_le _)
 have l1:=Ak [72,79,82,65] C.parts.length
 have b1:=(x1.get 0 (by omega)).trans b0
 simp only [List.length_cons,List.length_nil] at l1
 clear t1 s0
 simp (disch:=omega)only[go_sem, *]
 refine aFk x1 hl0 s1 (by omega) hpp (by simp (disch:=omega)only[go_sem, *]) (by simp (disch:=omega)only[go_sem, *]) (by simp (disch:=omega)only[go_sem, *]) (by simp (disch:=omega)only[go_sem, *]) (by simp (disch:=omega)only[go_sem, *]) ?_
 intro e h2 r2 f1 f3 x2 s2 l2
 clear x1 s1 b1
 have b2:=(x2.get 0 (by omega)).trans b0
 have m2:=x2.lim
 generalize hB2:C.parts.foldl Cb (Am [72,79,82,65] C.parts.length)=B2 at s2 l2
 simp (disch:=omega)only[go_sem, *]
 refine Bw (by omega) s2 (by omega) ?_
 intro r3 h3 t3 y3
 have x3:=x2.trans y3
 have s3:=Sl.weak t3 (Nat.zero_le _)
 have l3:=Ak B2 C.chans.length
 have b3:=(x3.get 0 (by omega)).trans b0
 clear t3 y3 s2 b2
 simp (disch:=omega)only[go_sem, *]
 refine aFl (L:=C.chans) x3 hl0 s3 (by omega) (by simp (disch:=omega)only[go_sem, *]) (by simp (disch:=omega)only[go_sem, *]) (by simp (disch:=omega)only[go_sem, *]) (by simp (disch:=omega)only[go_sem, *]) (by simp (disch:=omega)only[go_sem, *]) ?_
 intro e h4 r4 g1 g3 x4 s4 l4
 clear x3 s3 b3
 have b4:=(x4.get 0 (by omega)).trans b0
 have m4:=x4.lim
 generalize hB4:C.chans.foldl Cl (Am B2 C.chans.length)=B4 at s4 l4
 simp (disch:=omega)only[go_sem, *]
 refine Bw (by omega) s4 (by omega) ?_
 intro r5 h5 t5 y5
 have x5:=x4.trans y5
 have s5:=Sl.weak t5 (Nat.zero_le _)
 have l5:=Ak B4 C.tables.length
 have b5:=(x5.get 0 (by omega)).trans b0
 clear t5 y5 s4 b4
 simp (disch:=omega)only[go_sem, *]
 refine aFn (L:=C.tables) x5 hl0 s5 (by omega) htt (by simp (disch:=omega)only[go_sem, *]) (by simp (disch:=omega)only[go_sem, *]) (by simp (disch:=omega)only[go_sem, *]) (by simp (disch:=omega)only[go_sem, *]) ?_
 intro e h6 r6 k3 x6 s6 l6
 clear x5 s5 b5
 have m6:=x6.lim
 generalize hB6:C.tables.foldl E2 (Am B4 C.tables.length)=B6 at s6 l6
 simp (disch:=omega)only[go_sem, *]
 have eB:Ci C=BL B6:=by unfold Ci;rw [hB2,hB4,hB6]
 rw [eB]
 clear hB2 hB4 hB6
 refine Pf.take [AW r6] (G1 (B:=B6) (by omega)) (.cons _ _ _ _ _ (s6.froze (fun _=>rfl) (by simp) (by omega)) (.nil _)) fun _=>?_
 simp (disch:=omega)only[go_sem, *]
end Go.Ab.T
namespace Go.Ab.T
open Go Go.Ab
set_option maxHeartbeats 1000000
theorem Be.drop {L:List AG} (h:Be L) (k:Nat):Be (L.drop k):=fun r hr=>h r (List.mem_of_mem_drop hr)
def aW5 (r:AG):Bool:=decide (1≤r.n∧r.n≤4096∧-1≤r.part∧r.part<6)
def Ya (L:List AG):Bool:=L.all aW5&&decide (0<L.length∧L.length≤96∧Ay L≤4096)
def aUV (L:List AG) (a b:Int):List AG:=L.filter (fun r=>decide (r.part=a∨r.part=b))
def tK (L:List AG) (a b:Int):List AG:=Bu (aUV L a b) []
end Go.Ab.T
namespace Go.Ab.T
open Go Go.Ab
set_option maxHeartbeats 1000000
/-! Who depends on whom: a square of yes and no. -/
@[go_sem] def FA (b:Bool):List V:=[.b b]
@[go_sem] def aFu (r:List Bool):List V:=[.fl 1 (r.map FA)]
def aUQ (M:List (List Bool)) (a b:Int):Bool:=decide (0≤a∧0≤b∧a<M.length∧b<(nth M a.toNat).length)&&nth (nth M a.toNat) b.toNat
def aUl (M:List (List Bool)) (a b:Int):Bool:=decide (a=b)||(aUQ M a b||aUQ M b a)
def aUn (x y:List AG) (M:List (List Bool)) (a b:Int):Bool:=aUl M a b&&!decide (tK x a b=tK y a b)
def XN (x y:List AG) (M:List (List Bool)) (a:Int):Nat→Int→Option Int
 | 0,_=>none
 | f+1,b=>if aUn x y M a b=true then some b else XN x y M a f (b+1)
def jL (x y:List AG) (M:List (List Bool)) (a:Int):Option Int:=XN x y M a (6 - a).toNat a
def XM (x y:List AG) (M:List (List Bool)):Nat→Int→Int×Int×Bool
 | 0,_=>(-1,-1,!decide (tk (-1) x=tk (-1) y))
 | f+1,a=>match jL x y M a with | some b=>(a,b,true) | none=>XM x y M f (a+1)
def aWW (x y:List AG) (M:List (List Bool)):Int×Int×Bool:=XM x y M 6 0
end Go.Ab.T
namespace Go.Ab.T
open Go Go.Ab
set_option maxHeartbeats 4000000
structure ET (b:Nat) (h:AH) (v:V) (n:Nat) (W:List (List V)) (F:List Nat) (M:List (List Bool)):Prop where
 out:Sl b h 1 v W
 len:M.length=F.length
 wl:F.length≤W.length
 pre:∀ i,i<F.length→nth W i=[V.sl (nth F i) 0 n n]
 row:∀ i,i<F.length→h.get (nth F i)=some ⟨1,(nth M i).map FA⟩∧(nth M i).length=n∧b≤nth F i∧nth F i<h.next∧nth F i≠AW v
 dis:∀ i j,i<F.length→j<F.length→i≠j→nth F i≠nth F j
theorem Ia {α:Type} [Inhabited α] {l:List α} {i j:Nat} {a:α} (hj:j<l.length):nth (l.set i a) j=if i=j then a else nth l j:=by
 by_cases h:i=j
 ·subst h;rw [if_pos rfl];simp [nth,List.getD,hj]
 ·rw [if_neg h];simp [nth,List.getD,List.getElem?_set_ne h]
theorem Bq {α:Type} [Inhabited α] {l m:List α} {j:Nat} (hj:j<l.length):nth (l++m) j=nth l j:=by simp [nth,List.getD,List.getElem?_append_left hj]
theorem BR {α:Type} [Inhabited α] {l:List α} {a:α}:nth (l++[a]) l.length=a:=by simp [nth,List.getD]
section
variable {b n:Nat} {h h':AH} {v:V} {W:List (List V)} {F:List Nat} {M:List (List Bool)}
theorem ET.keep (m:ET b h v n W F M) (hn:h.next≤h'.next) (g:∀ i,b≤i→i<h.next→h'.get i=h.get i):ET b h' v n W F M:=by
 refine ⟨?_,m.len,m.wl,m.pre,fun i hi=>?_,m.dis⟩
 ·rcases m.out with h1 | ⟨id,el,cap,cs,rfl,a,c,d,e,f,g1,g2⟩
  ·exact .inl h1
  ·exact .inr ⟨id,el,cap,cs,rfl,(g id g1 f).trans a,c,d,e,by omega,g1,g2⟩
 ·obtain ⟨a,c,d,e,f⟩:=m.row i hi
  exact ⟨(g _ d e).trans a,c,d,by omega,f⟩
theorem ET.ext (m:ET b h v n W F M) (x:AJ h h'):ET b h' v n W F M:=m.keep x.next (fun i _ hi=>x.get i hi)
theorem ET.set (m:ET b h v n W F M) {a:Nat} (ha:a<F.length) {r:List Bool} (hr:r.length=n):ET b (h.put (nth F a) ⟨1,r.map FA⟩) v n W F (M.set a r):=by
 have hl:=m.len
 refine ⟨m.out.putx _ _ (m.row a ha).2.2.2.2,by simp [hl],m.wl,m.pre,fun i hi=>?_,m.dis⟩
 obtain ⟨h1,h2,h3,h4,h5⟩:=m.row i hi
 rw [Ad,Ia (by omega)]
 by_cases e:a=i
 ·subst e
  rw [if_pos rfl,AC rfl]
  exact ⟨rfl,hr,h3,h4,h5⟩
 ·rw [if_neg e,Ac (m.dis i a hi ha (Ne.symm e))]
  exact ⟨h1,h2,h3,h4,h5⟩
theorem ET.push {h1 h4 : AH} {w : V} {r : List Bool} (m : ET b h v n W F M) (hW : W.length = F.length) (hb : b ≤ h.next) (x : AJ h h1) (hlt : h.next < h1.next) (hg : h1.get h.next = some ⟨1, r.map FA⟩) (hr : r.length = n)
    (s4:Sl b h4 1 w (W++[[.sl h.next 0 n n]])) (g4:Grown b h1 v w h4):ET b h4 w n (W++[[.sl h.next 0 n n]]) (F++[h.next]) (M++[r]):=by
 have hl:=m.len
 have hn:=g4.next
 have hvlow:Bb v=true∨AW v<h.next:=by
  rcases m.out with ⟨h1 | h1,_⟩ | ⟨id,el,cap,cs,rfl,a,c,d,e,f,g1,g2⟩
  ·subst h1;exact .inl rfl
  ·subst h1;exact .inl rfl
  ·exact .inr f
 have hw:Bb w=false:=by
  rcases s4 with ⟨_,h2⟩ | ⟨id,el,cap,cs,rfl,_⟩
  ·simp at h2
  ·rfl
 have hwid:∀ j,j<h1.next→(Bb v=true∨j≠AW v)→j≠AW w:=fun j hj hv=>by
  rcases g4.own with h2 | ⟨h2,h3⟩ | h2
  ·rw [hw] at h2;cases h2
  ·rw [h2] at hv;rw [h3];exact hv.resolve_left (by simp)
  ·omega
 refine ⟨s4,by simp [hl],by simp;omega,fun i hi=>?_,fun i hi=>?_,fun i j hi hj hij=>?_⟩
 ·simp only [List.length_append,List.length_cons,List.length_nil] at hi
  by_cases e:i<F.length
  ·rw [Bq (by omega),Bq e];exact m.pre i e
  ·obtain rfl:i=F.length:=by omega
   rw [BR];rw [← hW,BR]
 ·simp only [List.length_append,List.length_cons,List.length_nil] at hi
  by_cases e:i<F.length
  ·obtain ⟨a1,a2,a3,a4,a5⟩:=m.row i e
   rw [Bq e,Bq (by omega)]
   have:=x.next
   exact ⟨by rw [g4.get _ (by omega) (.inr a5),x.get _ a4];exact a1,a2,a3,by omega,hwid _ (by omega) (.inr a5)⟩
  ·obtain rfl:i=F.length:=by omega
   rw [BR];rw [← hl,BR]
   have hv:Bb v=true∨h.next≠AW v:=hvlow.imp id (fun h=>by omega)
   exact ⟨by rw [g4.get _ hlt hv];exact hg,hr,hb,by omega,hwid _ hlt hv⟩
 ·simp only [List.length_append,List.length_cons,List.length_nil] at hi hj
  by_cases e1:i<F.length
  ·by_cases e2:j<F.length
   ·rw [Bq e1,Bq e2];exact m.dis i j e1 e2 hij
   ·obtain rfl:j=F.length:=by omega
    have:=(m.row i e1).2.2.2.1
    rw [Bq e1,BR];omega
  ·obtain rfl:i=F.length:=by omega
   have:=(m.row j (by omega)).2.2.2.1
   rw [Bq (l:=F) (j:=j) (by omega),BR];omega
theorem ET.put {h4 : AH} {f : Nat} {r : List Bool} {W' : List (List V)} (m : ET b h v n W F M) (hf : f < h4.next) (hfb : b ≤ f) (hn : h.next ≤ f) (hg : h4.get f = some ⟨1, r.map FA⟩) (hr : r.length = n) (hwl : F.length < W.length)
    (hW:W'=W.set F.length [.sl f 0 n n]) (s4:Sl b h4 1 v W') (k:∀ i,i<h.next→i≠AW v→h4.get i=h.get i):ET b h4 v n W' (F++[f]) (M++[r]):=by
 subst hW
 have hl:=m.len
 have hvlow:AW v<h.next:=by
  rcases m.out with ⟨_,h1⟩ | ⟨id,el,cap,cs,rfl,a,c,d,e,f,g1,g2⟩
  ·subst h1;simp at hwl
  ·exact f
 refine ⟨s4,by simp [hl],by simp;omega,fun i hi=>?_,fun i hi=>?_,fun i j hi hj hij=>?_⟩
 ·simp only [List.length_append,List.length_cons,List.length_nil] at hi
  rw [Ia (by omega)]
  by_cases e:i<F.length
  ·rw [if_neg (by omega),Bq e];exact m.pre i e
  ·obtain rfl:i=F.length:=by omega
   rw [if_pos rfl,BR]
 ·simp only [List.length_append,List.length_cons,List.length_nil] at hi
  by_cases e:i<F.length
  ·obtain ⟨a1,a2,a3,a4,a5⟩:=m.row i e
   rw [Bq e,Bq (by omega)]
   exact ⟨by rw [k _ a4 a5];exact a1,a2,a3,by omega,a5⟩
  ·obtain rfl:i=F.length:=by omega
   rw [BR];rw [← hl,BR]
   exact ⟨hg,hr,hfb,hf,by omega⟩
 ·simp only [List.length_append,List.length_cons,List.length_nil] at hi hj
  by_cases e1:i<F.length
  ·by_cases e2:j<F.length
   ·rw [Bq e1,Bq e2];exact m.dis i j e1 e2 hij
   ·obtain rfl:j=F.length:=by omega
    have:=(m.row i e1).2.2.2.1
    rw [Bq e1,BR];omega
  ·obtain rfl:i=F.length:=by omega
   have:=(m.row j (by omega)).2.2.2.1
   rw [Bq (l:=F) (j:=j) (by omega),BR];omega
theorem ML {P:Nat→Prop} {h:AH} {n:Nat}:∀ {l l':List (List V)},l.length=l'.length→(∀ i,i<l.length→BS P h n (nth l i) (nth l' i))→BG P h n l l'
 | [],[],_,_=>.nil _
 | a::l,c::l',hl,hx=>.cons _ _ _ _ _ (hx 0 (by simp)) (ML (by simpa using hl) (fun i hi=>by have:=hx (i+1) (by simpa using hi);rwa [Ku,Ku] at this))
theorem GS {α β:Type} [Inhabited α] [Inhabited β] {f:α→β} {l:List α} {i:Nat} (hi:i<l.length):nth (l.map f) i=f (nth l i):=by simp [nth,List.getD,List.getElem?_eq_getElem hi]
theorem ET.frz {P:Nat→Prop} {k:Nat} (m:ET b h v n W F M) (hW:W.length=F.length) (hP:∀ i,b≤i→P i) (hL:W.length<4000000000) (hn:n<4000000000):CA P h k v (.fl 1 (M.map aFu)):=by
 have hl:=m.len
 have key:BG P h 0 W (M.map aFu):=ML (by simp;omega) (fun i hi=>by
  obtain ⟨a1,a2,a3,a4,a5⟩:=m.row i (by omega)
  rw [m.pre i (by omega),GS (by omega)]
  exact .cons _ _ _ _ _ (.sl _ _ _ _ _ _ _ _ (hP _ a3) a1 (by simp;omega) (Nat.le_refl _) (by simpa [Di] using hn) (by rw [List.drop_zero,List.take_of_length_le (by simp;omega)];exact BG.of_map (fun _=>rfl) _)) (.nil _))
 rcases m.out with ⟨hv,hR⟩ | ⟨id,el,cap,cs,rfl,a,c,d,e,f,g1,g2⟩
 ·subst hR
  have:M.map aFu=[]:=List.length_eq_zero_iff.1 (by have:=key.len;simpa using this.symm)
  rw [this]
  rcases hv with rfl | rfl
  ·exact .ns _ _
  ·exact .e0 _ _
 ·refine .sl _ id el _ cap 1 cs _ (hP _ g1) a (by omega) e (by simpa [Di] using hL) ?_
  rw [d];exact key
end
/-! Squares by their entries. -/
def Jz (n:Nat) (f:Nat→Nat→Bool):List (List Bool):=(List.range n).map fun a=>(List.range n).map fun b=>f a b
theorem H6 {n:Nat} {f:Nat→Nat→Bool}:(Jz n f).length=n:=by simp [Jz]
theorem IQ {n i:Nat} (hi:i<n):nth (List.range n) i=i:=by simp [nth,List.getD,hi]
theorem H7 {n a:Nat} {f:Nat→Nat→Bool} (ha:a<n):nth (Jz n f) a=(List.range n).map fun b=>f a b:=by
 unfold Jz;rw [GS (by simpa using ha),IQ ha]
theorem aHl {n a b:Nat} {f:Nat→Nat→Bool} (ha:a<n) (hb:b<n):nth (nth (Jz n f) a) b=f a b:=by
 rw [H7 ha,GS (by simpa using hb),IQ hb]
theorem NR {α:Type} [Inhabited α] {l m:List α} (hl:l.length=m.length) (h:∀ i,i<l.length→nth l i=nth m i):l=m:=by
 refine List.ext_getElem hl fun i h1 h2=>?_
 have:=h i h1
 rwa [BX h1,BX h2] at this
theorem Tl {n a b:Nat} {f:Nat→Nat→Bool} {x:Bool} (ha:a<n) (hb:b<n):(Jz n f).set a ((nth (Jz n f) a).set b x)=Jz n (fun i j=>if i=a∧j=b then x else f i j):=by
 refine NR (by simp [H6]) fun i hi=>?_
 simp only [List.length_set,H6] at hi
 rw [Ia (by rw [H6];exact hi),H7 ha,H7 hi]
 split
 ·rename_i e;subst e
  rw [H7 hi]
  refine NR (by simp) fun j hj=>?_
  simp only [List.length_set,List.length_map,List.length_range] at hj
  rw [Ia (by simpa using hj),GS (by simpa using hj),GS (by simpa using hj),IQ hj]
  by_cases e:b=j
  ·simp [e]
  ·simp [e,Ne.symm e]
 ·rename_i e
  rw [H7 hi]
  exact List.map_congr_left fun j _=>by simp [Ne.symm e]
end Go.Ab.T
namespace Go.Ab.T
open Go Go.Ab
set_option maxHeartbeats 4000000
def inB (n:Nat) (p:Int):Bool:=decide (0≤p∧p<n)
def aWU (C:Ah) (x y:Nat):Bool:=decide (x=y)||((nth C.parts x).sched&&(nth C.parts y).sched)
def aUP (n:Nat) (x y:Nat) (c:Ar):Bool:=inB n c.src&&inB n c.dst&&(decide (c.src=x∧c.dst=y)||decide (c.dst=x∧c.src=y))
def aWV (C:Ah) (k:Nat) (x y:Nat):Bool:=aWU C x y||(C.chans.take k).any (aUP C.parts.length x y)
def aUm (C:Ah):List (List Bool):=Jz C.parts.length (aWV C C.chans.length)
theorem ET.tell {b n : Nat} {h : AH} {v : V} {W : List (List V)} {F : List Nat} {f : Nat → Nat → Bool} (m : ET b h v n W F (Jz n f)) {a c : Nat} (ha : a < n) (hc : c < n) :
    nth W a=[.sl (nth F a) 0 n n]∧h.get (nth F a)=some ⟨1,(nth (Jz n f) a).map FA⟩∧((nth (Jz n f) a).map FA)[c]?=some [.b (f a c)]∧(∀ x:Bool,((nth (Jz n f) a).map FA).set c [.b x]=(((nth (Jz n f) a).set c x).map FA))∧b≤nth F a∧nth F a<h.next∧nth F a≠AW v ∧
    ∀ x:Bool,ET b (h.put (nth F a) ⟨1,((nth (Jz n f) a).set c x).map FA⟩) v n W F (Jz n fun i j=>if i=a∧j=c then x else f i j):=by
 have hl:=m.len
 rw [H6] at hl
 obtain ⟨a1,a2,a3,a4,a5⟩:=m.row a (by omega)
 refine ⟨m.pre a (by omega),a1, ?_,fun x=>by simp [List.map_set,FA],a3,a4,a5,fun x=>?_⟩
 ·rw [List.getElem?_map,Fg (by omega),aHl ha hc];rfl
 ·have:=m.set (a:=a) (by omega) (r:=(nth (Jz n f) a).set c x) (by simp [a2])
  rwa [Tl ha hc] at this
end Go.Ab.T
namespace Go.Ab.T
open Go Go.Ab
set_option maxHeartbeats 4000000
theorem ET.two {b n : Nat} {h : AH} {v : V} {W : List (List V)} {F : List Nat} {f : Nat → Nat → Bool} (m : ET b h v n W F (Jz n f)) {a c : Nat} (ha : a < n) (hc : c < n) :
    ET b ((h.put (nth F a) ⟨1,((nth (Jz n f) a).set c true).map FA⟩).put (nth F c) ⟨1,((if a=c then (nth (Jz n f) a).set c true else nth (Jz n f) c).set a true).map FA⟩) v n W F (Jz n fun i j=>if i=c∧j=a then true else if i=a∧j=c then true else f i j):=by
 obtain ⟨_,_,_,_,_,_,_,t8⟩:=m.tell ha hc
 obtain ⟨_,_,_,_,_,_,_,s8⟩:=(t8 true).tell hc ha
 have e:nth (Jz n fun i j=>if i=a∧j=c then true else f i j) c=if a=c then (nth (Jz n f) a).set c true else nth (Jz n f) c:=by
  rw [← Tl ha hc,Ia (by rw [H6];exact hc)]
 have:=s8 true
 rwa [e] at this
end Go.Ab.T
namespace Go.Ab.T
open Go Go.Ab
set_option maxHeartbeats 4000000
structure Move where
 i:Int
 j:Int
 right:Bool
 deriving Inhabited,DecidableEq
@[go_sem] def Move.enc (m:Move):List V:=[.i .i64 m.i,.i .i64 m.j,.b m.right]
def Tx (L:List AG) (m:Move):Bool:=decide (0≤m.i∧m.i<m.j∧m.j<L.length)
def aFh (M:List (List Bool)) (p:Int) (r:AG):Bool:=decide (r.part=p)||(decide (p≠-1)&&decide (r.part≠-1)&&aUl M p r.part)
def iA (L:List AG) (m:Move):List AG:=(L.drop (m.i+1).toNat).take (m.j.toNat - (m.i+1).toNat)
def aWZ (L:List AG) (M:List (List Bool)) (m:Move):Bool:=Tx L m&&decide ((nth L m.i.toNat).part=(nth L m.j.toNat).part)&&!(iA L m).any (aFh M (nth L m.i.toNat).part)
end Go.Ab.T
namespace Go.Ab.T
open Go Go.Ab
set_option maxHeartbeats 4000000
def toI (m:Move):Nat:=if m.right=true then m.j.toNat else m.i.toNat
def aUJ (m:Move):Nat:=if m.right=true then m.i.toNat else m.j.toNat
def aW0 (L:List AG) (t f:Nat):List AG:=(L.set t ⟨(nth L t).part,Gj (nth L t).n (nth L f).n⟩).set f ⟨(nth L f).part,0⟩
def doR (L:List AG) (m:Move):List AG:=if Tx L m=true then Bu (aW0 L (toI m) (aUJ m)) [] else L
end Go.Ab.T
namespace Go.Ab.T
open Go Go.Ab
set_option maxHeartbeats 4000000
def aUe (L:List AG) (M:List (List Bool)) (i:Nat):Nat→Nat→List Move→List Move
 | 0,_,acc=>acc
 | f+1,j,acc=>aUe L M i f (j+1) (if aWZ L M ⟨i,j,false⟩=true then acc++[⟨i,j,false⟩,⟨i,j,true⟩] else acc)
def aUd (L:List AG) (M:List (List Bool)):Nat→Nat→List Move→List Move
 | 0,_,acc=>acc
 | f+1,i,acc=>aUd L M f (i+1) (aUe L M i (L.length - (i+1)) (i+1) acc)
def aWQ (L:List AG) (M:List (List Bool)):List Move:=aUd L M L.length 0 []
end Go.Ab.T
namespace Go.Ab.T
open Go Go.Ab
set_option maxHeartbeats 4000000
section
variable {L:List AG} {t f:Nat}
end
section
variable {L:List AG} {m:Move}
end
/-! What is drawn, what is done till nothing goes. -/
def XQ (C:Ah) (L:List AG):List Move→List AG×Bool
 | []=>(L,false)
 | m::l=>if Ct C (doR L m)=0 then (doR L m,true) else XQ C L l
def XR (C:Ah) (L:List AG):List AG×Bool:=XQ C L (aWQ L (aUm C))
def RQ (L:List AG):List AG×Bool:=(Bu L [],!decide (Bu L []=L))
def dL (C:Ah) (a b:List AG):Bool:=!(aWW a b (aUm C)).2.2&&(decide (Ct C b=0)&&Ya b)
def tM (C:Ah) (L:List AG):List AG×Bool:=
 if (RQ L).2=true∧dL C L (RQ L).1=true then ((RQ L).1,true) else
 if (XR C L).2=true∧dL C L (XR C L).1=true then ((XR C L).1,true) else (L,false)
def bA (C:Ah):Nat→List AG→Int→List AG×Int
 | 0,L,n=>(L,n)
 | f+1,L,n=>if (tM C L).2=true then bA C f (tM C L).1 (n+1) else (L,n)
def Oy (C:Ah) (L:List AG):List AG×Int:=bA C (L.length+1) L 0
end Go.Ab.T
namespace Go.Ab.T
open Go Go.Ab
set_option maxHeartbeats 4000000
theorem SW:∀ {L:List AG},Be L→(L.length:Int)≤Ay L
 | [],_=>by simp [Ay]
 | r::l,h=>by
  have:=SW (L:=l) (fun q hq=>h q (List.mem_cons_of_mem _ hq))
  have:=h r (List.mem_cons_self ..)
  simp only [List.length_cons,Ay];omega
theorem HL.len {L:List AG} (h:HL L):L.length≤4096:=by
 have:=SW h.1;have:=h.2;omega
end Go.Ab.T
namespace Go.Ab.T
open Go Go.Ab
set_option maxHeartbeats 4000000
end Go.Ab.T
namespace Go.Ab.T
open Go Go.Ab
set_option maxHeartbeats 4000000
end Go.Ab.T
namespace Go.Ab.T
open Go Go.Ab
set_option maxHeartbeats 4000000
def aUc {α:Type} [DecidableEq α] (X:List α) (i p:Nat):Nat→Nat→Nat
 | 0,k=>k
 | f+1,k=>if i+(k+1)*p≤X.length∧(X.drop i).take p=(X.drop (i+k*p)).take p then aUc X i p f (k+1) else k
def agR {α:Type} [DecidableEq α] (X:List α) (i p:Nat):Nat:=aUc X i p X.length 1
end Go.Ab.T
namespace Go.Ab.T
open Go Go.Ab
set_option maxHeartbeats 4000000
structure St where
 i:Nat
 p:Nat
 n:Nat
 s:Int
 deriving Inhabited,DecidableEq
@[go_sem] def St.enc (x:St):List V:=[.i .i64 x.i,.i .i64 x.p,.i .i64 x.n,.i .i64 x.s]
def svs (z:Int) (n p:Nat):Int:=z*(n - 1) - 1 - (if 1<p then 1 else 0)
def aUi (sz:Nat→Int) (tm:Nat→Nat→Nat) (i:Nat):Nat→Nat→Int→St→St
 | 0,_,_,st=>st
 | f+1,p,z,st=>aUi sz tm i f (p+1) (z+sz (i+p - 1)) (if 1<tm i p∧st.s<svs (z+sz (i+p - 1)) (tm i p) p then ⟨i,p,tm i p,svs (z+sz (i+p - 1)) (tm i p) p⟩ else st)
def aUh (len:Nat) (sz:Nat→Int) (tm:Nat→Nat→Nat):Nat→Nat→St→St
 | 0,_,st=>st
 | f+1,i,st=>aUh len sz tm f (i+1) (aUi sz tm i ((len - i) / 2) 1 0 st)
def aWT (len:Nat) (sz:Nat→Int) (tm:Nat→Nat→Nat):St:=aUh len sz tm len 0 ⟨0,0,0,0⟩
end Go.Ab.T
namespace Go.Ab.T
open Go Go.Ab
set_option maxHeartbeats 4000000
end Go.Ab.T
namespace Go.Ab.T
open Go Go.Ab
set_option maxHeartbeats 4000000
def aUO (r:AG):Node:=if r.part = -1 then ⟨2,0,r.n⟩ else ⟨1,r.part,r.n⟩
def lH (L:List AG):List (List Node):=L.map fun r=>[aUO r]
structure I8 (b sz:Nat) (h:AH) (v:V) (W:List (List V)) (R:List (List (List V))):Prop where
 out:Sl b h 1 v W
 len:R.length=W.length
 row:∀ i,i<W.length→∃ id,nth W i=[V.sl id 0 (nth R i).length (nth R i).length]∧h.get id=some ⟨sz,nth R i⟩∧b≤id∧id<h.next∧id≠AW v
theorem I8.ext {b sz:Nat} {h h':AH} {v:V} {W:List (List V)} {R:List (List (List V))} (m:I8 b sz h v W R) (x:AJ h h'):I8 b sz h' v W R:=
 ⟨m.out.ext x,m.len,fun i hi=>by
  obtain ⟨id,a1,a2,a3,a4,a5⟩:=m.row i hi
  exact ⟨id,a1,(x.get _ a4).trans a2,a3,by have:=x.next;omega,a5⟩⟩
theorem I8.push {b sz id : Nat} {h h1 h4 : AH} {v w : V} {W : List (List V)} {R : List (List (List V))} {r : List (List V)} (m : I8 b sz h v W R) (hb : b ≤ h.next) (x : AJ h h1) (hid : h.next ≤ id) (hlt : id < h1.next) (hg : h1.get id = some ⟨sz, r⟩)
    (s4:Sl b h4 1 w (W++[[.sl id 0 r.length r.length]])) (g4:Grown b h1 v w h4):I8 b sz h4 w (W++[[.sl id 0 r.length r.length]]) (R++[r]):=by
 have hl:=m.len
 have hn:=g4.next
 have hvlow:=DK m.out
 have hw:Bb w=false:=by
  rcases s4 with ⟨_,h2⟩ | ⟨id,el,cap,cs,rfl,_⟩
  ·simp at h2
  ·rfl
 have hwid:∀ j,j<h1.next→(Bb v=true∨j≠AW v)→j≠AW w:=fun j hj hv=>by
  rcases g4.own with h2 | ⟨h2,h3⟩ | h2
  ·rw [hw] at h2;cases h2
  ·rw [h2] at hv;rw [h3];exact hv.resolve_left (by simp)
  ·omega
 refine ⟨s4,by simp [hl],fun i hi=>?_⟩
 simp only [List.length_append,List.length_cons,List.length_nil] at hi
 by_cases e:i<W.length
 ·obtain ⟨d,a1,a2,a3,a4,a5⟩:=m.row i e
  have:=x.next
  rw [Bq e,Bq (by omega)]
  exact ⟨d,a1,by rw [g4.get _ (by omega) (.inr a5),x.get _ a4];exact a2,a3,by omega,hwid _ (by omega) (.inr a5)⟩
 ·obtain rfl:i=W.length:=by omega
  rw [BR,←hl,BR]
  have hv:Bb v=true∨id≠AW v:=hvlow.imp (fun h=>h) (fun h=>by omega)
  exact ⟨id,rfl,by rw [g4.get _ hlt hv];exact hg,by omega,by omega,hwid _ hlt hv⟩
theorem Yc {b k:Nat} {h:AH} {v:V} {W R:List (List V)} {P:Nat→Prop} (s:Sl b h 1 v W) (key:BG P h 0 W R) (hP:∀ i,b≤i→P i) (hL:W.length<4000000000):CA P h k v (.fl 1 R):=by
 rcases s with ⟨hv,hR⟩ | ⟨id,el,cap,cs,rfl,a,c,d,e,f,g1,g2⟩
 ·subst hR
  have:R=[]:=List.length_eq_zero_iff.1 (by have:=key.len;simpa using this.symm)
  rw [this]
  rcases hv with rfl | rfl
  ·exact .ns _ _
  ·exact .e0 _ _
 ·refine .sl _ id el _ cap 1 cs _ (hP _ g1) a (by omega) e (by simpa [Di] using hL) ?_
  rw [d];exact key
theorem I8.frz {b sz k:Nat} {h:AH} {v:V} {W:List (List V)} {R:List (List (List V))} {P:Nat→Prop} (m:I8 b sz h v W R) (hP:∀ i,b≤i→P i) (hL:W.length<4000000000) (hr:∀ r∈R,r.length<4000000000∧BG P h 0 r r):CA P h k v (.fl 1 (R.map fun r=>[.fl sz r])):=by
 have hl:=m.len
 have key:BG P h 0 W (R.map fun r=>[V.fl sz r]):=ML (by simp;omega) (fun i hi=>by
  obtain ⟨id,a1,a2,a3,a4,a5⟩:=m.row i hi
  have hq:=hr (nth R i) (Bm (by omega))
  rw [a1,GS (by omega)]
  exact .cons _ _ _ _ _ (.sl _ _ _ _ _ _ _ _ (hP _ a3) a2 (by simp) (Nat.le_refl _) (by simpa [Di] using hq.1) (by rw [List.drop_zero,List.take_length];exact hq.2)) (.nil _))
 exact Yc m.out key (hP) hL
end Go.Ab.T
namespace Go.Ab.T
open Go Go.Ab
set_option maxHeartbeats 4000000
end Go.Ab.T
namespace Go.Ab.T
open Go Go.Ab
set_option maxHeartbeats 4000000
section
variable {tp:TP} {e:Env} {h:AH} {K:V→AH→Prop}
def iV:V→Option V | .ns=>some (.i .i64 0) | .e0=>some (.i .i64 0) | _=>none
theorem iX:iV .ns=some (.i .i64 0):=An rfl
theorem iW:iV .e0=some (.i .i64 0):=An rfl
theorem bP {g:Option BU} {sz:Nat} {k:IntKind}:HF g sz .ns none (some (.i k 0)) none=some .ns:=An rfl
theorem aHU {sz id el n:Nat} {cs:List (List V)} {k:IntKind}:HF (some ⟨sz,cs⟩) sz (.sl id el n n) none (some (.i k 0)) none=some (.sl id el 0 n):=by simp [HF,AO]
theorem aEH {x:X}:Z1 tp (.cap x) e h K=Wo (iV (x.e2 e)) (fun v=>K v h):=by
 unfold Z1;simp only [z1,BM,Af,iV]
 cases x.e2 e<;>simp only [AV,A5]
theorem gG {x:X}:Et tp (.cap x) e h K=Z1 tp (.cap x) e h K:=AY rfl
end
attribute [go_sem ↓] aEH gG
attribute [go_sem] iX iW bP aHU Int.sub_zero
def Wx (h:AH) (w:V) (vs:List V):Prop:=H2 w=some (.i .i64 vs.length)∧∀ h',AJ h h'→∀ (k:IntKind) (j:Nat),j<vs.length→∃ p,Jy (h'.get (AW w)) 1 w (.i k j)=some p∧Vr h' 1 false p=vs[j]?
def RowsIn (sz:Nat) (h:AH) (vs:List V) (Rs:List (List (List V))):Prop:=vs.length=Rs.length∧∀ h',AJ h h'→∀ j,j<vs.length→∃ v R,vs[j]?=some v∧Rs[j]?=some R∧En sz h' v=some R∧H2 v=some (.i .i64 R.length)
theorem Yh {h : AH} {n : Int} {K : V → AH → Prop} (h0 : 0 ≤ n) (h1 : n < 1000000)
    (kk:n=0→K .ns h) (k2:0<n→K (.sl h.next 0 0 n.toNat) (h.alloc ⟨1,List.replicate n.toNat [.i .u8 0]⟩)):Cq tp Rr [.ns,.i .i64 n] h K:=by
 refine A9 kB (by simp [KP]) fun wf rp=>?_;unfold KP;simp (disch:=omega)only[go_sem, *]
 refine Aa (fun hc=>?_) (fun hc=>?_)
 ·exact absurd hc (by omega)
 simp (disch:=omega)only[go_sem, *]
 refine Aa (fun hc=>?_) (fun hc=>?_)
 ·have f:=k2 (by omega)
  have h2:n<4294967296:=by omega
  clear kk k2
  simp (disch:=omega)only[go_sem, *]
 ·have f:=kk (by omega)
  clear kk k2
  simp (disch:=omega)only[go_sem, *]
theorem SO {K : Ex → Env → AH → Prop} {e : Env} {h h1 : AH} {w g0 : V} {vs : List V} {Rs : List (List (List V))} (x1 : AJ h h1) (hlo : h1.lim ≤ h.next) (s0 : Sl h.next h1 1 g0 []) (wl : H2 w = some (.i .i64 vs.length))
    (FO:∀ h',AJ h h'→∀ (k:IntKind) (j:Nat),j<vs.length→∃ p,Jy (h'.get (AW w)) 1 w (.i k j)=some p∧Vr h' 1 false p=vs[j]?) (hvl1:vs.length≤Rs.length) (hvl2:Rs.length≤vs.length)
    (hat:∀ h',AJ h h'→∀ j,j<vs.length→∃ v R,vs[j]?=some v∧Rs[j]?=some R∧En 1 h' v=some R∧H2 v=some (.i .i64 R.length)) (hR:Rs.flatten.length<1000000) (hv:vs.length<1000000)
    (e6:e 6=g0) (e25:e 25=w) (e26:e 26=.i .i64 vs.length) (e27:e 27=.i .i64 0)
    (kk:∀ e' h2 r,e' 6=r→AJ h h2→Sl h.next h2 1 r Rs.flatten→K (.ex 2) e' h2):ZC tp (.loop QR) e h1 K:=by
 refine Ae (fun n' e hh=>∃ (i:Nat) (g:V),n'=vs.length - i∧AJ h hh∧hh.lim≤h.next∧e 6=g∧e 25=w∧e 26=.i .i64 vs.length∧e 27=.i .i64 i∧i≤vs.length∧Sl h.next hh 1 g (Rs.take i).flatten) ?_ _ _ _ ⟨0,g0,rfl,x1,hlo,e6,e25,e26,e27,by omega,s0⟩
 clear x1 hlo s0 e6 e25 e26 e27 e
 rintro n' e hh ⟨i,g,rfl,x1,hlo,e6,e25,e26,e27,hi,s0⟩ ih
 rw [Ai QR.eq_1]
 simp (disch:=omega)only[go_sem, *]
 refine Aa (fun hc=>?_) (fun hc=>?_)
 ·have hil:i<vs.length:=by omega
  obtain ⟨p,hp1,hp2⟩:=FO hh x1 .i64 i hil
  obtain ⟨v,R,hv1,hv2,hv3,hv4⟩:=hat hh x1 i hil
  have hp3:=hp2.trans hv1
  have ht:(Rs.take (i+1)).flatten=(Rs.take i).flatten++R:=by
   rw [List.take_succ,hv2];simp
  have hle:(Rs.take (i+1)).flatten.length≤Rs.flatten.length:=by
   conv=>rhs;rw [← List.take_append_drop (i+1) Rs]
   rw [List.flatten_append,List.length_append];omega
  have hn:=x1.next
  rw [ht,List.length_append] at hle
  have ht2:=ht.symm
  clear wl FO hat hp2 hv1 ht kk
  simp (disch:=omega)only[go_sem, *]
  refine Ap s0 (by omega) (by omega) (by omega) ?_
  intro r h4 s4 g4
  have x4:AJ h h4:=⟨by have:=g4.next;omega,by rw [g4.lim];exact x1.lim,fun k hk=>by rw [g4.low k hk];exact x1.get k hk⟩
  have l4:h4.lim≤h.next:=by rw [g4.lim];exact hlo
  rw [ht2] at s4
  clear g4 ht2 s0
  simp (disch:=omega)only[go_sem, *]
  refine ih _ _ _ ?_ ⟨i+1,r,rfl, ?_⟩
  ·omega
  ·clear ih
   simp (disch:=omega)only[go_sem, *]
   all_goals ((repeat' refine And.intro ?_ ?_)<;>first | omega | assumption | (exact x4) | (exact s4))
 ·have hti:Rs.take i=Rs:=List.take_of_length_le (by omega)
  rw [hti] at s0
  have f:=kk
  clear hti ih kk
  simp (disch:=omega)only[go_sem, *]
  refine f _ hh g ?_ x1 s0
  simp (disch:=omega)only[go_sem, *]
theorem My {h : AH} {w : V} {vs : List V} {Rs : List (List (List V))} {K : V → AH → Prop} (hlo : h.lim ≤ h.next) (hw : Wx h w vs) (hr : RowsIn 1 h vs Rs) (hv : vs.length < 1000000) (hR : Rs.flatten.length < 1000000)
    (kk:∀ r h',Sl h.next h' 1 r Rs.flatten→AJ h h'→K r h'):Cq tp Y2 [w] h K:=by
 obtain ⟨wl,FO⟩:=hw
 obtain ⟨hvl0,hat⟩:=hr
 have hvl1:=Nat.le_of_eq hvl0
 have hvl2:=Nat.le_of_eq hvl0.symm
 clear hvl0
 refine A9 aGw (by simp [PG]) fun wf rp=>?_;unfold PG;simp (disch:=omega)only[go_sem, *]
 have hx:=AJ.refl h
 refine Ae (fun n' e hh=>∃ (i:Nat),n'=vs.length - i∧hh=h∧e 0=w∧e 9=w∧e 10=.i .i64 vs.length∧e 11=.i .i64 i∧e 3=.i .i64 ((Rs.take i).flatten.length:Nat)∧i≤vs.length) ?_ _ _ _ ⟨0,rfl, ?_⟩
 rotate_left
 ·simp (disch:=omega)only[go_sem, *]
  all_goals ((repeat' refine And.intro ?_ ?_)<;>first | omega | assumption | (rfl))
 rintro n' e hh ⟨i,rfl,rfl,e0,e9,e10,e11,e3,hi⟩ ih
 rw [Ai sF.eq_1]
 simp (disch:=omega)only[go_sem, *]
 refine Aa (fun hc=>?_) (fun hc=>?_)
 ·have hil:i<vs.length:=by omega
  obtain ⟨p,hp1,hp2⟩:=FO hh hx .i64 i hil
  obtain ⟨v,R,hv1,hv2,hv3,hv4⟩:=hat hh hx i hil
  have hp3:=hp2.trans hv1
  have hiR:i<Rs.length:=by omega
  have ht:(Rs.take (i+1)).flatten.length=(Rs.take i).flatten.length+R.length:=by
   rw [List.take_succ,hv2];simp
  have hle:(Rs.take (i+1)).flatten.length≤Rs.flatten.length:=by
   conv=>rhs;rw [← List.take_append_drop (i+1) Rs]
   rw [List.flatten_append,List.length_append];omega
  generalize (Rs.take i).flatten.length=A at *
  clear wl FO hat hp2 hv1 hv3
  simp (disch:=omega)only[go_sem, *]
  refine Aa (fun hc2=>?_) (fun hc2=>?_)
  ·exact absurd hc2 (by omega)
  simp (disch:=omega)only[go_sem, *]
  refine ih _ _ _ ?_ ⟨i+1,rfl, ?_⟩
  ·omega
  ·clear ih
   simp (disch:=omega)only[go_sem, *]
   all_goals ((repeat' refine And.intro ?_ ?_)<;>first | omega | assumption | (rfl))
 ·have hti:Rs.take i=Rs:=List.take_of_length_le (by omega)
  rw [hti] at e3
  clear hti ih
  simp (disch:=omega)only[go_sem, *]
  refine Yh (by omega) (by omega) (fun hz=>?_) (fun hp=>?_)
  ·simp (disch:=omega)only[go_sem, *]
   refine SO (g0:=.ns) hx hlo (Sl.nil _ _ _) wl FO hvl1 hvl2 hat hR hv (by simp (disch:=omega)only[go_sem, *]) (by simp (disch:=omega)only[go_sem, *]) (by simp (disch:=omega)only[go_sem, *]) (by simp (disch:=omega)only[go_sem, *]) ?_
   intro e' h2 r f6 x2 s2
   have f:=kk r h2 s2 x2
   clear kk s2
   simp (disch:=omega)only[go_sem, *]
  ·have s1:Sl hh.next (hh.alloc ⟨1,List.replicate ((Rs.flatten.length:Int)).toNat [.i .u8 0]⟩) 1 (.sl hh.next 0 0 ((Rs.flatten.length:Int)).toNat) []:=.inr ⟨_,_,_,_,rfl,by rw [AM,AC rfl],by simp,by simp,by simp,Nat.lt_succ_self _,Nat.le_refl _,by simp⟩
   have x1:AJ hh (hh.alloc ⟨1,List.replicate ((Rs.flatten.length:Int)).toNat [.i .u8 0]⟩):=hx.alloc _
   generalize hh.alloc ⟨1,List.replicate ((Rs.flatten.length:Int)).toNat [.i .u8 0]⟩=h1 at s1 x1 ⊢
   have l1:h1.lim≤hh.next:=by rw [x1.lim];exact hlo
   simp (disch:=omega)only[go_sem, *]
   refine SO (g0:=.sl hh.next 0 0 ((Rs.flatten.length:Int)).toNat) x1 l1 s1 wl FO hvl1 hvl2 hat hR hv (by simp (disch:=omega)only[go_sem, *]) (by simp (disch:=omega)only[go_sem, *]) (by simp (disch:=omega)only[go_sem, *]) (by simp (disch:=omega)only[go_sem, *]) ?_
   intro e' h2 r f6 x2 s2
   have f:=kk r h2 s2 x2
   clear kk s2
   simp (disch:=omega)only[go_sem, *]
end Go.Ab.T
namespace Go.Ab.T
open Go Go.Ab
set_option maxHeartbeats 4000000
end Go.Ab.T
namespace Go.Ab.T
open Go Go.Ab
set_option maxHeartbeats 4000000
/-! Folding, plain. -/
def aU8 (sz:Nat→Int) (i:Nat):Nat→Int
 | 0=>0
 | k+1=>aU8 sz i k+sz (i+k)
def aTW (len:Nat) (sz:Nat→Int) (tm:Nat→Nat→Nat) (st:St):Prop:=(st=⟨0,0,0,0⟩)∨(1≤st.p∧st.i+2*st.p≤len∧st.n=tm st.i st.p∧1<st.n∧st.s=svs (aU8 sz st.i st.p) st.n st.p∧0<st.s)
theorem aTW.pos {len:Nat} {sz:Nat→Int} {tm:Nat→Nat→Nat} {st:St} (h:aTW len sz tm st):0≤st.s:=by
 rcases h with rfl | h
 ·exact Int.le_refl _
 ·omega
def sX (X:List (List Node)):St:=aWT X.length (fun j=>((nth X j).length:Int)) (agR X)
def Zw (X:List (List Node)):List Node:=if X.length=1 then X.flatten else ⟨3,0,X.length⟩::X.flatten
def aG3 (X:List (List Node)) (s:St):List (List Node):=X.take s.i++[⟨4,0,s.n⟩::Zw ((X.drop s.i).take s.p)]++X.drop (s.i+s.p*s.n)
def tN:Nat→List (List Node)→List Node
 | 0,X=>Zw X
 | f+1,X=>if (sX X).n=0 then Zw X else tN f (aG3 X (sX X))
def X8 (L:List AG):List Node:=if Ya L=true then tN L.length (lH L) else []
end Go.Ab.T
namespace Go.Ab.T
open Go Go.Ab
set_option maxHeartbeats 4000000
end Go.Ab.T
namespace Go.Ab.T
open Go Go.Ab
set_option maxHeartbeats 4000000
theorem RX {h:AH} {D:List Nat}:(h.kills D).next=h.next:=An rfl
theorem UJ {h:AH} {D:List Nat}:(h.kills D).lim=h.lim:=An rfl
theorem Rk {h:AH} {i a b:Nat} (h1:¬ i=a) (h2:¬ i=b):(h.kills [a,b]).get i=h.get i:=by simp [AH.kills,h1,h2]
attribute [go_sem] RX UJ Rk
end Go.Ab.T
namespace Go.Ab.T
open Go Go.Ab
set_option maxHeartbeats 4000000
end Go.Ab.T
namespace Go.Ab.T
open Go Go.Ab
set_option maxHeartbeats 4000000
/-! Items as trees: what folding does to them. Plain. -/
theorem Fo.flat_inj:∀ (f g:Fo) (R R':List Node),f.ok→g.ok→f.count=g.count→f.flat++R=g.flat++R'→f=g∧R=R'
 | .nil,.nil,R,R',_,_,_,h=>⟨rfl,by simpa [Fo.flat] using h⟩
 | .nil,.leaf _ _,_,_,_,_,hc,_=>by simp [Fo.count] at hc
 | .nil,.seq _ _ _,_,_,_,_,hc,_=>by simp [Fo.count] at hc
 | .nil,.rep _ _ _,_,_,_,_,hc,_=>by simp [Fo.count] at hc
 | .leaf _ _,.nil,_,_,_,_,hc,_=>by simp [Fo.count] at hc
 | .seq _ _ _,.nil,_,_,_,_,hc,_=>by simp [Fo.count] at hc
 | .rep _ _ _,.nil,_,_,_,_,hc,_=>by simp [Fo.count] at hc
 | .leaf x r,.leaf y s,R,R',hf,hg,hc,h=>by
  simp only [Fo.flat,List.cons_append,List.cons.injEq] at h
  obtain ⟨h1,h2⟩:=Fo.flat_inj r s R R' hf.2 hg.2 (by simpa [Fo.count] using hc) h.2
  exact ⟨by rw [h.1,h1],h2⟩
 | .leaf x r,.seq y k s,R,R',hf,hg,hc,h=>by
  simp only [Fo.flat,List.cons_append,List.cons.injEq] at h
  have:=hf.1;have:=hg.2.1;have:=hg.2.2.1;rw [h.1] at *;omega
 | .leaf x r,.rep y k s,R,R',hf,hg,hc,h=>by
  simp only [Fo.flat,List.cons_append,List.cons.injEq] at h
  have:=hf.1;have:=hg.2.1;rw [h.1] at *;omega
 | .seq y k s,.leaf x r,R,R',hf,hg,hc,h=>by
  simp only [Fo.flat,List.cons_append,List.cons.injEq] at h
  have:=hg.1;have:=hf.2.1;have:=hf.2.2.1;rw [h.1] at *;omega
 | .rep y k s,.leaf x r,R,R',hf,hg,hc,h=>by
  simp only [Fo.flat,List.cons_append,List.cons.injEq] at h
  have:=hg.1;have:=hf.2.1;rw [h.1] at *;omega
 | .seq y k s,.rep x l r,R,R',hf,hg,hc,h=>by
  simp only [Fo.flat,List.cons_append,List.cons.injEq] at h
  have:=hf.1;have:=hg.1;rw [h.1] at *;omega
 | .rep y k s,.seq x l r,R,R',hf,hg,hc,h=>by
  simp only [Fo.flat,List.cons_append,List.cons.injEq] at h
  have:=hf.1;have:=hg.1;rw [h.1] at *;omega
 | .seq y k s,.seq x l r,R,R',hf,hg,hc,h=>by
  simp only [Fo.flat,List.cons_append,List.cons.injEq,List.append_assoc] at h
  obtain ⟨h0,h⟩:=h
  subst h0
  obtain ⟨h1,h2⟩:=Fo.flat_inj k l _ _ hf.2.2.2.1 hg.2.2.2.1 (by have:=hf.2.1;have:=hg.2.1;omega) h
  obtain ⟨h3,h4⟩:=Fo.flat_inj s r _ _ hf.2.2.2.2 hg.2.2.2.2 (by simpa [Fo.count] using hc) h2
  exact ⟨by rw [h1,h3],h4⟩
 | .rep y k s,.rep x l r,R,R',hf,hg,hc,h=>by
  simp only [Fo.flat,List.cons_append,List.cons.injEq,List.append_assoc] at h
  obtain ⟨h0,h⟩:=h
  subst h0
  obtain ⟨h1,h2⟩:=Fo.flat_inj k l _ _ hf.2.2.2.1 hg.2.2.2.1 (by have:=hf.2.2.1;have:=hg.2.2.1;omega) h
  obtain ⟨h3,h4⟩:=Fo.flat_inj s r _ _ hf.2.2.2.2 hg.2.2.2.2 (by simpa [Fo.count] using hc) h2
  exact ⟨by rw [h1,h3],h4⟩
theorem Uu {f:Fo} (ho:f.ok) (hc:f.count=1) (hd:f.depth≤16) (hl:f.len≤4096) (hn:f.flat.length≤128):FC f.flat=f:=by
 obtain ⟨_,h1,h2,h3,_⟩:=F3 (Hy ho hc hd hl hn)
 have:=Fo.flat_inj f (FC f.flat) [] [] ho h1 (by rw [hc,h2]) (by rw [List.append_nil,List.append_nil];exact h3)
 exact this.1.symm
end Go.Ab.T
namespace Go.Ab.T
open Go Go.Ab
set_option maxHeartbeats 4000000
theorem mT {e:Env} {h:AH} {n m k l:Nat} {g:Bool}:BQ e h [.t n,.cell m k g,.t l]=(Hd h k g (e m)).map fun v=>.tup [e n,v,e l]:=by
 simp only [BQ,Vd,GY]
 cases Hd h k g (e m)<;>rfl
attribute [go_sem] mT
structure Rpt where
 moves:Int
 runs:Int
 was:Int
 nodes:Int
 wasn:Int
 kept:Bool
 deriving Inhabited,DecidableEq
@[go_sem] def Rpt.enc (r:Rpt):List V:=[.i .i64 r.moves,.i .i64 r.runs,.i .i64 r.was,.i .i64 r.nodes,.i .i64 r.wasn,.b r.kept]
noncomputable def aXx (C:Ah) (T:List Node):List Node×Rpt×Int:=
 if (EG T).2≠0 then ([],⟨0,0,0,0,0,false⟩,(EG T).2) else
 if Ct C (EG T).1≠0 then ([],⟨0,0,0,0,0,false⟩,Ct C (EG T).1) else
 if T.length<(X8 (Oy C (EG T).1).1).length then (T,⟨0,(EG T).1.length,(EG T).1.length,T.length,T.length,true⟩,0) else
 (X8 (Oy C (EG T).1).1,⟨(Oy C (EG T).1).2,(Oy C (EG T).1).1.length,(EG T).1.length,(X8 (Oy C (EG T).1).1).length,T.length,false⟩,0)
end Go.Ab.T
namespace Go.Ab.T
open Go Go.Ab
set_option maxHeartbeats 4000000
theorem aFx {fn:Fn} {a c:List V}:Gl .fn (.f fn a c) .nf=some false:=An rfl
attribute [go_sem] aFx
end Go.Ab.T
namespace Go.Ab.T
open Go Go.Ab
set_option maxHeartbeats 4000000
def dU (tp:TP) (c:TC) (e:Env) (h:AH) (K:Ex→Env→AH→Prop):Prop:=∀ S m hc e1,De S m h hc→EP S m h hc e e1→WC tp c e1 hc (fun x=>Dy S m h hc (K x))
section
variable {tp:TP} {c a b:TC} {e e2:Env} {h h2:AH} {K:Ex→Env→AH→Prop}
theorem WN (z:ZC tp c e h K):dU tp c e h K:=fun S m hc e1 c' p=>GD c c' p z
theorem Nn (st:Stp e h e2 h2) (z:dU tp c e2 h2 K):dU tp c e h K:=fun S m hc e1 c' p=>by
 obtain ⟨S',c2,a2,p2⟩:=st S m hc e1 c' p
 exact (z S' m hc e1 c2 p2).imp fun _ _ _=>Dy.then a2
theorem CT (z:ZC tp a e h (fun x e h=>UV x (dU tp b e h K) (K x e h))):dU tp (.seq a b) e h K:=fun S m hc e1 c' p=>by
 rw [WB]
 refine (GD a c' p z).imp ?_
 rintro x e1' hc' ⟨e',h',S',m',c2,a',p',z⟩
 cases x with
 | nm=>exact (z S' m' hc' e1' c2 p').imp fun _ _ _=>Dy.then a'
 | ex j=>exact ⟨e',h',S',m',c2,a',p',z⟩
 | rt=>exact ⟨e',h',S',m',c2,a',p',z⟩
end
theorem Vx {tp:TP} {f:Nat} {args:List V} {R:V} {tf:TF} (hf:tp.fn f=some tf) (hl:args.length≤tf.n) (z:FU args→dU tp tf.body (Fc args) AH.emp (fun x e h=>G9 tf.res x e h (fun r h'=>CA (fun _=>True) h' 0 r R))):Pf tp f args R:=by
 intro S m hc args1 c p
 refine SH hf (by rw [← p.len];exact hl) ((z p.reps S m hc _ c (EP.args p)).imp ?_)
 rintro x e1 hc' ⟨e,h',S',m',c',a',pe,z⟩
 unfold G9 at z
 unfold TS
 have key:(Wo (BQ e h' tf.res) fun v=>CA (fun _=>True) h' 0 v R)→Wo (BQ e1 hc' tf.res) (fun r1=>∃ r h'' S' m',De S' m' h'' hc'∧FQ S m AH.emp hc S' m' h'' hc'∧PR S' m' hc'.get h''.next r r1∧r=R∧h''=AH.emp):=by
  rintro ⟨v,hv,fz⟩
  obtain ⟨v1,h1,h2⟩:=M6 c' pe hv
  refine ⟨v1,h1,R,AH.emp,SP S' m' h' (fun _=>True),m',De.emp (SP.low c') c'.bnd m',⟨fun a h=>.inl (a'.sub a h), ?_,a'.map,Nat.le_refl _,a'.next1,rfl,a'.lim1,a'.frame,fun i hi=>by simp [AH.live,AH.emp] at hi⟩,CA.ok c' fz h2,rfl,rfl⟩
  rintro a (ha | ⟨i,_,hi,rfl⟩)
  ·exact a'.new a ha
  ·rcases a'.liv i hi with ⟨q1,q2⟩ | q1
   ·exact absurd q1 (Nat.not_lt_zero _)
   ·exact .inr (.inl q1)
 cases x with
 | ex j=>exact z.elim
 | nm=>exact key z
 | rt=>exact key z
end Go.Ab.T
namespace Go.Ab.T
open Go Go.Ab
set_option maxHeartbeats 4000000
end Go.Ab.T
namespace Go.Ab.T
open Go Go.Ab
set_option maxHeartbeats 4000000
/-! Numbers as bytes, and back. Plain. -/
def Az (b:List Int):Prop:=∀ z∈b,0≤z∧z<256
def Eu:List Int→Int→Int
 | [],u=>u
 | c::l,u=>Eu l (IntKind.wrap .u64 (u*256)+c)
def Gg (k0:Int) (l:List Int):Int:=if 128≤k0 then IntKind.wrap .i64 (0 - IntKind.wrap .i64 (Eu l 0)) else IntKind.wrap .i64 (Eu l 0)
def Bg:List Int→Int×Nat
 | []=>(0,0)
 | k0::r=>if 8<(k0 % 128).toNat∨r.length<(k0 % 128).toNat then (0,0) else if Am [] (Gg k0 (r.take (k0 % 128).toNat))=k0::r.take (k0 % 128).toNat then (Gg k0 (r.take (k0 % 128).toNat),(k0 % 128).toNat+1) else (0,0)
theorem GC (x:Int):IntKind.wrap .u64 x=x % 18446744073709551616:=by unfold IntKind.wrap;simp [IntKind.bits,IntKind.signed]
theorem Dd (x:Int):IntKind.wrap .u8 x=x % 256:=by unfold IntKind.wrap;simp [IntKind.bits,IntKind.signed]
theorem wrap_i64 (x:Int):IntKind.wrap .i64 x=(x+9223372036854775808) % 18446744073709551616 - 9223372036854775808:=by
 unfold IntKind.wrap;simp only [IntKind.bits,IntKind.signed];simp;split<;>omega
theorem SK:∀ (f:Nat) (u:Int) (x:List Int),0≤u→u<256 ^ f→u<18446744073709551616→Eu (Dq f u x) 0=Eu x u
 | 0,u,x,h0,h1,_=>by
  have:u=0:=by simp at h1;omega
  rw [Dq,this]
 | f+1,u,x,h0,h1,h2=>by
  rw [Dq]
  split
  ·rename_i hc
   have hd:u.fdiv 256=u / 256:=Int.fdiv_eq_ediv_of_nonneg _ (by omega)
   have hp:(256:Int) ^ (f+1)=256 ^ f*256:=Int.pow_succ ..
   rw [hp] at h1
   rw [hd,SK f _ _ (by omega) (by omega) (by omega),Eu,GC,Dd]
   congr 1
   omega
  ·have:u=0:=by omega
   rw [this]
theorem aB (n:Int):Eu (Ca n) 0=u0 n:=by
 have:=dI n
 exact SK 8 _ _ this.1 (by omega) this.2
theorem FJ (n:Int):(Ca n).length≤8:=by
 have:=FI 8 (u0 n) []
 simpa [Ca] using this
theorem L5:∀ (f:Nat) (u:Int) (x:List Int),Az x→Az (Dq f u x)
 | 0,_,_,h=>h
 | f+1,u,x,h=>by
  rw [Dq]
  split
  ·refine L5 f _ _ (fun z hz=>?_)
   rcases List.mem_cons.1 hz with rfl | hz
   ·rw [Dd];omega
   ·exact h z hz
  ·exact h
theorem aC (n:Int):Az (Ca n):=L5 _ _ _ (fun z hz=>by cases hz)
def Oh (n:Int):Int:=(if n<0 then 128 else 0)+(Ca n).length
theorem JM (B:List Int) (n:Int):Am B n=B++Oh n::Ca n:=by
 have:=FJ n
 unfold Am Oh
 rw [Dd,Dd,List.append_assoc]
 have e:((if n<0 then 128 else 0)+((Ca n).length:Int) % 256) % 256=(if n<0 then 128 else 0)+((Ca n).length:Int):=by
  by_cases h:n<0
  ·rw [if_pos h];omega
  ·rw [if_neg h];omega
 rw [e];rfl
theorem Ty (n:Int):(Oh n % 128).toNat=(Ca n).length∧(128≤Oh n↔n<0):=by
 have:=FJ n
 unfold Oh
 by_cases h:n<0
 ·rw [if_pos h];omega
 ·rw [if_neg h];omega
theorem UU {n:Int} (h0 : -9223372036854775808≤n) (h1:n<9223372036854775808):Gg (Oh n) (Ca n)=n:=by
 have hk:=(Ty n).2
 unfold Gg
 rw [aB]
 unfold u0
 simp only [GC,wrap_i64]
 split<;>split<;>omega
theorem Yd {n:Int} (h0 : -9223372036854775808≤n) (h1:n<9223372036854775808) (rest:List Int):Bg (Am [] n++rest)=(n,(Am [] n).length):=by
 have hl:=FJ n
 have hk:=(Ty n).1
 have ht:(Ca n++rest).take (Ca n).length=Ca n:=List.take_left ..
 rw [JM]
 simp only [List.nil_append,List.cons_append,Bg,hk,ht,UU h0 h1]
 rw [if_neg (by simp;omega),if_pos (by rw [JM];rfl)]
 simp
theorem Uw {b:List Int} (h:0<(Bg b).2):b.take (Bg b).2=Am [] (Bg b).1∧(Bg b).2≤b.length:=by
 unfold Bg at *
 split at h
 ·simp at h
 ·split at h
  ·simp at h
  ·rename_i h2
   split at h
   ·rename_i h3
    rw [if_neg h2,if_pos h3]
    simp only [List.take_succ_cons,List.length_cons]
    exact ⟨h3.symm,by omega⟩
   ·simp at h
end Go.Ab.T
namespace Go.Ab.T
open Go Go.Ab
set_option maxHeartbeats 4000000
/-! A configuration out of bytes. Plain. -/
def bC (l:List Int):ByteArray:=⟨(l.map fun z=>UInt8.ofNat z.toNat).toArray⟩
theorem aHT (s:ByteArray):bC (sB s)=s:=by
 cases s with
 | mk d=>
  simp only [bC,sB,List.map_map]
  have:((fun z:Int=>UInt8.ofNat z.toNat)∘fun c:UInt8=>(c.toNat:Int))=id:=by funext c;simp
  rw [this];simp
structure Rd where
 b:List Int
 bad:Bool
def BD (s:Rd):Int×Rd:=if s.bad=true∨(Bg s.b).2=0 then (0,⟨s.b,true⟩) else ((Bg s.b).1,⟨s.b.drop (Bg s.b).2,s.bad⟩)
def AI (m:Int) (s:Rd):Int×Rd:=if (BD s).1<0∨m<(BD s).1 then (0,⟨(BD s).2.b,true⟩) else BD s
def DD (s:Rd):Bool×Rd:=(decide ((AI 1 s).1=1),(AI 1 s).2)
def DN (b:List Int) (m:Int):List Int×Nat:=if (Bg b).2=0∨(Bg b).1<0∨m<(Bg b).1∨(b.length:Int) - (Bg b).2<(Bg b).1 then ([],0) else ((b.drop (Bg b).2).take (Bg b).1.toNat,(Bg b).2+(Bg b).1.toNat)
def DL (m:Int) (s:Rd):ByteArray×Rd:=if s.bad=true∨(DN s.b m).2=0 then (⟨#[]⟩,⟨s.b,true⟩) else (bC (DN s.b m).1,⟨s.b.drop (DN s.b m).2,s.bad⟩)
def Cw:Nat→List AN→Rd→List AN×Rd
 | 0,acc,s=>(acc,s)
 | n+1,acc,s=>Cw n (acc++[⟨(AI 512 s).1,(AI 255 (AI 512 s).2).1⟩]) (AI 255 (AI 512 s).2).2
def Da (s:Rd):Part×Rd:=
 let a:=DL 12 s
 let b:=BD a.2
 let c:=BD b.2
 let d:=DD c.2
 let e:=DD d.2
 let k:=AI 3 e.2
 let p:=Cw k.1.toNat [] k.2
 let h0:=AI 2 p.2
 let h1:=AI 2 h0.2
 let h2:=AI 2 h1.2
 let h3:=AI 2 h2.2
 let h4:=AI 2 h3.2
 (⟨a.1,b.1,c.1,d.1,e.1,p.1,h0.1,h1.1,h2.1,h3.1,h4.1⟩,h4.2)
def Cv:Nat→List Part→Rd→List Part×Rd
 | 0,acc,s=>(acc,s)
 | n+1,acc,s=>Cv n (acc++[(Da s).1]) (Da s).2
def EC (s:Rd):Ar×Rd:=
 let a:=AI 6 s
 let b:=AI 6 a.2
 let c:=DD b.2
 let d:=AI 8 c.2
 let e:=AI 4294967295 d.2
 let f:=BD e.2
 (⟨a.1,b.1,c.1,d.1,IntKind.wrap .u32 e.1,f.1⟩,f.2)
def Cp:Nat→List Ar→Rd→List Ar×Rd
 | 0,acc,s=>(acc,s)
 | n+1,acc,s=>Cp n (acc++[(EC s).1]) (EC s).2
def H9 (s:Rd):Node×Rd:=
 let a:=AI 4 s
 let b:=AI 6 a.2
 let c:=BD b.2
 (⟨a.1,b.1,c.1⟩,c.2)
def Cu:Nat→List Node→Rd→List Node×Rd
 | 0,acc,s=>(acc,s)
 | n+1,acc,s=>Cu n (acc++[(H9 s).1]) (H9 s).2
def Nb (s:Rd):List Node×Rd:=Cu (AI 128 s).1.toNat [] (AI 128 s).2
def Ep:Nat→List (List Node)→Rd→List (List Node)×Rd
 | 0,acc,s=>(acc,s)
 | n+1,acc,s=>Ep n (acc++[(Nb s).1]) (Nb s).2
def Bx (s:Rd):Ah×Rd:=
 let a:=AI 6 s
 let p:=Cv a.1.toNat [] a.2
 let b:=AI 8 p.2
 let c:=Cp b.1.toNat [] b.2
 let d:=AI 3 c.2
 let t:=Ep d.1.toNat [] d.2
 (⟨p.1,c.1,t.1⟩,t.2)
/-! What was written is read as it was. -/
def pn (n:Int):List Int:=Oh n::Ca n
theorem Fh (B:List Int) (n:Int):Am B n=B++pn n:=JM B n
def G8 {α:Type} (f:Rd→α×Rd) (enc:List Int) (a:α):Prop:=∀ rest,f ⟨enc++rest,false⟩=(a,⟨rest,false⟩)
abbrev Vq (n:Int):Prop:=-9223372036854775808≤n∧n<9223372036854775808
theorem SX {n:Int} (h:Vq n) (rest:List Int):Bg (pn n++rest)=(n,(pn n).length):=by
 have:=Yd h.1 h.2 rest
 rw [Fh] at this
 exact this
theorem Z7 (n:Int):(pn n).length≠0:=by simp [pn]
theorem Kv {n:Int} (h:Vq n):G8 BD (pn n) n:=fun rest=>by
 have:=Z7 n
 unfold BD
 simp only [SX h rest]
 rw [if_neg (by simp [this]),List.drop_left]
theorem Cr {n m:Int} (h:Vq n) (h0:0≤n) (h1:n≤m):G8 (AI m) (pn n) n:=fun rest=>by
 have:=Kv h rest
 unfold AI
 rw [this]
 rw [if_neg (by simp only;omega)]
theorem MJ (f:Bool):G8 DD (pn (if f=true then 1 else 0)) f:=fun rest=>by
 unfold DD
 rw [Cr (m:=1) (by cases f<;>decide) (by cases f<;>decide) (by cases f<;>decide) rest]
 cases f<;>rfl
theorem nS {s:ByteArray} {m:Int} (h:(s.size:Int)≤m) (hm:m≤1000):G8 (DL m) (pn s.size++sB s) s:=fun rest=>by
 have hg:=SX (n:=s.size) ⟨by omega,by omega⟩ (sB s++rest)
 have hl:=Z7 (s.size:Int)
 have hs:=IZ s
 rw [← List.append_assoc] at hg
 have hc:DN (pn s.size++sB s++rest) m=(sB s,(pn s.size).length+s.size):=by
  unfold DN
  rw [hg]
  simp only
  rw [if_neg (by simp only [List.length_append,hs];omega),List.append_assoc,List.drop_left]
  simp only [Int.toNat_natCast]
  rw [← hs,List.take_left]
 unfold DL
 simp only [hc]
 rw [if_neg (by simp only [Bool.false_eq_true,false_or];omega),aHT]
 congr 2
 rw [← hs,←List.length_append,List.drop_left]
theorem G8.bind {α β:Type} {f:Rd→α×Rd} {g:Rd→β×Rd} {e1 e2:List Int} {a:α} (h1:G8 f e1 a) (rest:List Int):f ⟨e1++e2++rest,false⟩=(a,⟨e2++rest,false⟩):=by
 rw [List.append_assoc];exact h1 _
def Nz (p:AN):List Int:=pn p.entry++pn p.prio
structure Qy (p:AN):Prop where
 e:0≤p.entry∧p.entry≤512
 p:0≤p.prio∧p.prio≤255
theorem Oe:∀ (L:List AN) (acc:List AN),(∀ p∈L,Qy p)→G8 (Cw L.length acc) (L.map Nz).flatten (acc++L)
 | [],acc,_=>fun rest=>by simp [Cw]
 | p::L,acc,h=>fun rest=>by
  have hp:=h p (List.mem_cons_self ..)
  simp only [List.length_cons,Cw,List.map_cons,List.flatten_cons,Nz,List.append_assoc]
  rw [Cr ⟨by have:=hp.e;omega,by have:=hp.e;omega⟩ hp.e.1 hp.e.2 _]
  simp only
  rw [Cr ⟨by have:=hp.p;omega,by have:=hp.p;omega⟩ hp.p.1 hp.p.2 _]
  simp only
  rw [Oe L _ (fun q hq=>h q (List.mem_cons_of_mem _ hq)) rest]
  simp
def LL (p:Part):List Int:=(pn p.name.size++sB p.name)++(pn p.budget++(pn p.period++(pn (if p.sched=true then 1 else 0)++(pn (if p.stop=true then 1 else 0)++(pn p.procs.length++((p.procs.map Nz).flatten++(pn p.h0++(pn p.h1++(pn p.h2++(pn p.h3++pn p.h4))))))))))
structure Mm (y:Part):Prop where
 n:y.name.size≤12
 b:Vq y.budget
 c:Vq y.period
 l:y.procs.length≤3
 p:∀ x∈y.procs,Qy x
 h:(0≤y.h0∧y.h0≤2)∧(0≤y.h1∧y.h1≤2)∧(0≤y.h2∧y.h2≤2)∧(0≤y.h3∧y.h3≤2)∧(0≤y.h4∧y.h4≤2)
theorem mH {p:Part} (h:Mm p):G8 Da (LL p) p:=fun rest=>by
 obtain ⟨h0,h1,h2,h3,h4⟩:=h.h
 have hl:=h.l
 have hn:=h.n
 unfold LL Da
 simp only [List.append_assoc]
 rw [← List.append_assoc (pn _) (sB _),nS (by omega) (by omega)]
 simp only
 rw [Kv h.b]
 simp only
 rw [Kv h.c]
 simp only
 rw [MJ]
 simp only
 rw [MJ]
 simp only
 rw [Cr ⟨by omega,by omega⟩ (by omega) (by omega)]
 simp only [Int.toNat_natCast]
 rw [Oe _ _ h.p]
 simp only [List.nil_append]
 rw [Cr ⟨by omega,by omega⟩ h0.1 h0.2]
 simp only
 rw [Cr ⟨by omega,by omega⟩ h1.1 h1.2]
 simp only
 rw [Cr ⟨by omega,by omega⟩ h2.1 h2.2]
 simp only
 rw [Cr ⟨by omega,by omega⟩ h3.1 h3.2]
 simp only
 rw [Cr ⟨by omega,by omega⟩ h4.1 h4.2]
theorem Ob:∀ (L:List Part) (acc:List Part),(∀ p∈L,Mm p)→G8 (Cv L.length acc) (L.map LL).flatten (acc++L)
 | [],acc,_=>fun rest=>by simp [Cv]
 | p::L,acc,h=>fun rest=>by
  simp only [List.length_cons,Cv,List.map_cons,List.flatten_cons,List.append_assoc]
  rw [mH (h p (List.mem_cons_self ..)) _]
  simp only
  rw [Ob L _ (fun q hq=>h q (List.mem_cons_of_mem _ hq)) rest]
  simp
def Kb (x:Ar):List Int:=pn x.src++(pn x.dst++(pn (if x.queue=true then 1 else 0)++(pn x.cap++(pn x.top++pn x.late))))
structure Qv (x:Ar):Prop where
 a:0≤x.src∧x.src≤6
 b:0≤x.dst∧x.dst≤6
 c:0≤x.cap∧x.cap≤8
 t:0≤x.top∧x.top≤4294967295
 l:Vq x.late
theorem Qs (x:Int):IntKind.wrap .u32 x=x % 4294967296:=by unfold IntKind.wrap;simp [IntKind.bits,IntKind.signed]
theorem jG {x:Ar} (h:Qv x):G8 EC (Kb x) x:=fun rest=>by
 have ha:=h.a;have hb:=h.b;have hc:=h.c;have ht:=h.t
 unfold Kb EC
 simp only [List.append_assoc]
 rw [Cr ⟨by omega,by omega⟩ ha.1 ha.2]
 simp only
 rw [Cr ⟨by omega,by omega⟩ hb.1 hb.2]
 simp only
 rw [MJ]
 simp only
 rw [Cr ⟨by omega,by omega⟩ hc.1 hc.2]
 simp only
 rw [Cr ⟨by omega,by omega⟩ ht.1 ht.2]
 simp only
 rw [Kv h.l]
 simp only
 rw [Qs,Int.emod_eq_of_lt ht.1 (by omega)]
theorem Nr:∀ (L:List Ar) (acc:List Ar),(∀ p∈L,Qv p)→G8 (Cp L.length acc) (L.map Kb).flatten (acc++L)
 | [],acc,_=>fun rest=>by simp [Cp]
 | p::L,acc,h=>fun rest=>by
  simp only [List.length_cons,Cp,List.map_cons,List.flatten_cons,List.append_assoc]
  rw [jG (h p (List.mem_cons_self ..)) _]
  simp only
  rw [Nr L _ (fun q hq=>h q (List.mem_cons_of_mem _ hq)) rest]
  simp
def LK (x:Node):List Int:=pn x.kind++(pn x.part++pn x.n)
structure JT (x:Node):Prop where
 k:0≤x.kind∧x.kind≤4
 p:0≤x.part∧x.part≤6
 n:Vq x.n
theorem lV {x:Node} (h:JT x):G8 H9 (LK x) x:=fun rest=>by
 have ha:=h.k;have hb:=h.p
 unfold LK H9
 simp only [List.append_assoc]
 rw [Cr ⟨by omega,by omega⟩ ha.1 ha.2]
 simp only
 rw [Cr ⟨by omega,by omega⟩ hb.1 hb.2]
 simp only
 rw [Kv h.n]
theorem N1:∀ (L:List Node) (acc:List Node),(∀ p∈L,JT p)→G8 (Cu L.length acc) (L.map LK).flatten (acc++L)
 | [],acc,_=>fun rest=>by simp [Cu]
 | p::L,acc,h=>fun rest=>by
  simp only [List.length_cons,Cu,List.map_cons,List.flatten_cons,List.append_assoc]
  rw [lV (h p (List.mem_cons_self ..)) _]
  simp only
  rw [N1 L _ (fun q hq=>h q (List.mem_cons_of_mem _ hq)) rest]
  simp
def Un (t:List Node):List Int:=pn t.length++(t.map LK).flatten
theorem aHY {t:List Node} (hl:t.length≤128) (h:∀ x∈t,JT x):G8 Nb (Un t) t:=fun rest=>by
 unfold Un Nb
 rw [List.append_assoc,Cr ⟨by omega,by omega⟩ (by omega) (by omega)]
 simp only [Int.toNat_natCast]
 rw [N1 t _ h,List.nil_append]
theorem TG:∀ (L:List (List Node)) (acc:List (List Node)),(∀ t∈L,t.length≤128∧∀ x∈t,JT x)→G8 (Ep L.length acc) (L.map Un).flatten (acc++L)
 | [],acc,_=>fun rest=>by simp [Ep]
 | p::L,acc,h=>fun rest=>by
  have hp:=h p (List.mem_cons_self ..)
  simp only [List.length_cons,Ep,List.map_cons,List.flatten_cons,List.append_assoc]
  rw [aHY hp.1 hp.2 _]
  simp only
  rw [TG L _ (fun q hq=>h q (List.mem_cons_of_mem _ hq)) rest]
  simp
structure FS (C:Ah):Prop where
 p:C.parts.length≤6
 c:C.chans.length≤8
 t:C.tables.length≤3
 pp:∀ p∈C.parts,Mm p
 cc:∀ p∈C.chans,Qv p
 tt:∀ t∈C.tables,t.length≤128∧∀ x∈t,JT x
def Ny (C:Ah):List Int:=pn C.parts.length++((C.parts.map LL).flatten++(pn C.chans.length++((C.chans.map Kb).flatten++(pn C.tables.length++(C.tables.map Un).flatten))))
theorem jH {C:Ah} (h:FS C):G8 Bx (Ny C) C:=fun rest=>by
 have h1:=h.p;have h2:=h.c;have h3:=h.t
 unfold Ny Bx
 simp only [List.append_assoc]
 rw [Cr ⟨by omega,by omega⟩ (by omega) (by omega)]
 simp only [Int.toNat_natCast]
 rw [Ob _ _ h.pp]
 simp only [List.nil_append]
 rw [Cr ⟨by omega,by omega⟩ (by omega) (by omega)]
 simp only [Int.toNat_natCast]
 rw [Nr _ _ h.cc]
 simp only [List.nil_append]
 rw [Cr ⟨by omega,by omega⟩ (by omega) (by omega)]
 simp only [Int.toNat_natCast]
 rw [TG _ _ h.tt]
 simp only [List.nil_append]
end Go.Ab.T
namespace Go.Ab.T
open Go Go.Ab
set_option maxHeartbeats 1000000
theorem BZ (x:Int):IntKind.wrap .u32 x=x % 4294967296:=by unfold IntKind.wrap;simp [IntKind.bits,IntKind.signed]
theorem Gh (a b:Int):0≤xr a b∧xr a b<4294967296:=by unfold xr;rw [BZ];omega
theorem rP {a:Int} (h0:0≤a) (h1:a<4294967296):xr a 0=a:=by
 unfold xr
 rw [BZ]
 simp only [BitVec.ofInt_ofNat,BitVec.xor_zero,BitVec.toNat_ofInt]
 omega
theorem GT (c:Int):0≤Ez c∧Ez c<4294967296:=by
 unfold Ez
 split
 ·exact Gh _ _
 ·unfold Vh;rw [BZ];omega
theorem aHC (a b:Int):Bt .mul (.i .u32 a) (.i .u32 b)=some (.i .u32 (IntKind.wrap .u32 (a*b))):=rfl
theorem R5 {c:Int} (h0:0≤c) (h1:c<4294967296):xr (Vh c) (IntKind.wrap .u32 (79764919*c.fdiv 2147483648))=Ez c:=by
 unfold Ez
 have:c.fdiv 2147483648=0∨c.fdiv 2147483648=1:=by rw [Int.fdiv_eq_ediv_of_nonneg _ (by omega)];omega
 rcases this with h | h
 ·rw [h,if_neg (by omega)]
  have:IntKind.wrap .u32 (79764919*0)=0:=by rw [BZ];rfl
  rw [this]
  exact rP (by unfold Vh;rw [BZ];omega) (by unfold Vh;rw [BZ];omega)
 ·rw [h,if_pos rfl]
  have:IntKind.wrap .u32 (79764919*1)=79764919:=by rw [BZ];rfl
  rw [this]
theorem Sp {c b:Int}:Pf tp Rt [.i .u32 c,.i .u8 b] (.i .u32 (DQ c b)):=by
 refine AD kC (by simp [KQ]) fun rp=>?_;unfold KQ;simp (disch:=omega)only[go_sem, *]
 have o1:=Z0
 have o2:=ZX
 have o3:=Tv
 have o4:=ZW
 have o5:=aHC
 simp (disch:=omega)only[go_sem, *]
 refine Ae (fun n e h=>∃ (k:Nat) (d:Int),n=k∧h.lim=0∧e 0=.i .u32 d∧e 11=.i .i64 (8 - (k:Int))∧k≤8∧0≤d∧d<4294967296∧IS k d=DQ c b) ?_ _ _ _ ⟨8,xr c (IntKind.wrap .u32 (IntKind.wrap .u32 b*16777216)),rfl, ?_⟩
 ·rintro n e h ⟨k,d,rfl,hl,e0,e11,hk,d0,d1,hz⟩ ih
  rw [Ai VA.eq_1]
  have hx:=R5 d0 d1
  simp (disch:=omega)only[go_sem, *]
  refine Aa (fun hc=>?_) (fun hc=>?_)
  ·obtain ⟨k,rfl⟩:∃ m,n=m+1:=⟨n - 1,by omega⟩
   rw [IS] at hz
   have hb:=GT d
   simp (disch:=omega)only[go_sem, *]
   refine ih _ _ _ ?_ ⟨k,Ez d,rfl, ?_⟩
   ·omega
   ·clear ih
    simp (disch:=omega)only[go_sem, *]
    all_goals ((repeat' refine And.intro ?_ ?_)<;>first | omega | assumption | ((congr 1;omega)))
  ·have h0:n=0:=by omega
   subst h0
   rw [IS] at hz
   simp (disch:=omega)only[go_sem, *]
 ·have hb:=Gh c (IntKind.wrap .u32 (IntKind.wrap .u32 b*16777216))
  simp (disch:=omega)only[go_sem, *]
  all_goals ((repeat' refine And.intro ?_ ?_)<;>first | omega | assumption | (rfl))
theorem I5:∀ (A B:List Int) (c:Int),CD (A++B) c=CD B (CD A c)
 | [],_,_=>rfl
 | a::A,B,c=>by simp only [List.cons_append,CD];exact I5 A B _
theorem OH {B:List Int}:Pf tp Y4 [.fl 1 (B.map Aj)] (.i .u32 (Du B)):=by
 refine AD aGy (by simp [PI]) fun rp=>?_;unfold PI;simp (disch:=omega)only[go_sem, *]
 have hL:=rp.head.len
 have o1:=tJ
 refine Ae (fun n e h=>∃ (i:Nat) (c:Int),n=B.length - i∧h.lim=0∧e 6=.fl 1 (B.map Aj)∧e 7=.i .i64 B.length∧e 8=.i .i64 i∧e 3=.i .u32 c∧i≤B.length∧CD (B.drop i) c=CD B 4294967295) ?_ _ _ _ ⟨0,4294967295,rfl, ?_⟩
 ·rintro n e h ⟨i,c,rfl,hl,e6,e7,e8,e3,hi,hz⟩ ih
  rw [Ai sG.eq_1]
  simp (disch:=omega)only[go_sem, *]
  refine Aa (fun hc=>?_) (fun hc=>?_)
  ·rw [Ax (by omega),CD] at hz
   simp (disch:=omega)only[go_sem, *]
   refine Pf.go (Sp) (by simp only [go_sem]) fun _=>?_;simp (disch:=omega)only[go_sem, *]
   refine ih _ _ _ ?_ ⟨i+1,DQ c (nth B i),rfl, ?_⟩
   ·omega
   ·simp (disch:=omega)only[go_sem, *]
    ((repeat' refine And.intro ?_ ?_)<;>first | omega | assumption)
  ·rw [List.drop_eq_nil_of_le (by omega),CD] at hz
   have hz2:ux (CD B 4294967295)=Du B:=rfl
   simp (disch:=omega)only[go_sem, *]
 ·simp (disch:=omega)only[go_sem, *]
def CR (s:Int):List Int:=[IntKind.wrap .u8 (s.fdiv 16777216),IntKind.wrap .u8 (s.fdiv 65536),IntKind.wrap .u8 (s.fdiv 256),IntKind.wrap .u8 s]
theorem KJ {s:Int}:Pf tp Y3 [.i .u32 s] (.fl 1 ((CR s).map Aj)):=by
 refine AD aGx (by simp [PH]) fun rp=>?_;unfold PH;simp (disch:=omega)only[go_sem, *]
 have o1:=ZV
 have o2:=ZU
 have o3:=tI
 simp (disch:=omega)only[go_sem, *]
 exact Sl.froze (b:=0) (L:=CR s) (Sl.new (Nat.zero_le _) (by simp [CR])) (fun _=>rfl) trivial (by simp [CR])
def RB (sz:Nat) (h:AH) (v:V) (R:List (List V)):Prop:=∀ h',AJ h h'→En sz h' v=some R∧H2 v=some (.i .i64 R.length)
theorem RB.fl {sz:Nat} {h:AH} {R:List (List V)}:RB sz h (.fl sz R) R:=fun h' _=>⟨Ou,rfl⟩
theorem RB.ns {sz:Nat} {h:AH}:RB sz h .ns []:=fun h' _=>⟨rfl,rfl⟩
theorem RB.sl {b sz:Nat} {h:AH} {v:V} {B:List Int} (s:Sl b h sz v (B.map Aj)):RB sz h v (B.map Aj):=fun h' x=>⟨(s.ext x).rows,by rw [s.facts.len,List.length_map]⟩
theorem RB.ext {sz:Nat} {h h2:AH} {v:V} {R:List (List V)} (r:RB sz h v R) (x:AJ h h2):RB sz h2 v R:=fun h' x'=>r h' (x.trans x')
theorem RowsIn.nil {sz:Nat} {h:AH}:RowsIn sz h [] []:=⟨rfl,fun _ _ _ hj=>by simp at hj⟩
theorem RowsIn.cons {sz:Nat} {h:AH} {v:V} {R:List (List V)} {vs:List V} {Rs:List (List (List V))} (r:RB sz h v R) (q:RowsIn sz h vs Rs):RowsIn sz h (v::vs) (R::Rs):=⟨by simp [q.1],fun h' x j hj=>by
 cases j with
 | zero=>exact ⟨v,R,rfl,rfl,r h' x⟩
 | succ j=>exact q.2 h' x j (by simpa using hj)⟩
theorem IY {h:AH} {id n:Nat} {vs:List V} (hg:h.get id=some ⟨1,vs.map fun v=>[v]⟩) (hid:id<h.next) (hn:n=vs.length):Wx h (.sl id 0 n n) vs:=by
 subst hn
 refine ⟨rfl,fun h' x k j hj=>⟨.p id j 0, ?_, ?_⟩⟩
 ·simp [AW,x.get id hid,hg,Jy,B7,hj]
 ·rw [tE,x.get id hid,hg,NQ,List.getElem?_map,List.getElem?_eq_getElem hj]
  simp [Is]
theorem Sr {B:List Int} (hB:B.length<999990):Pf tp YH [.fl 1 (B.map Aj)] (.fl 1 ((BL B).map Aj)):=by
 refine AD aF6 (by simp [Pe]) fun rp=>?_;unfold Pe;simp (disch:=omega)only[go_sem, *]
 refine Pf.go (OH) (by simp only [go_sem]) fun _=>?_;simp (disch:=omega)only[go_sem, *]
 refine Pf.go (KJ) (by simp only [go_sem]) fun _=>?_;simp (disch:=omega)only[go_sem, *]
 have e1:BL B=B++CR (Du B):=rfl
 refine My (vs:=[.fl 1 (B.map Aj),.fl 1 ((CR (Du B)).map Aj)]) (Rs:=[B.map Aj,(CR (Du B)).map Aj]) ?_ ?_ ?_ (by simp) (by simp [CR];omega) ?_
 ·simp (disch:=omega)only[go_sem, *]
 ·exact IY (by simp (disch:=omega)only[go_sem, *]<;>rfl) (by simp (disch:=omega)only[go_sem, *]) rfl
 ·exact .cons .fl (.cons .fl .nil)
 ·intro r h' s x
  rw [List.flatten_cons,List.flatten_cons,List.flatten_nil,List.append_nil,←List.map_append,←e1] at s
  simp (disch:=omega)only[go_sem, *]
  exact Sl.froze (L:=BL B) s (fun _=>rfl) trivial (by simp [BL];omega)
theorem Ue {xs:List (List V)}:Pf tp Y7 [.fl 1 xs] (.fl 1 xs):=by
 refine AD aGC (by simp [PM]) fun rp=>?_;unfold PM;simp (disch:=omega)only[go_sem, *]
 have hb:=rp.head.big
 intro t ht
 cases t
 ·simp (disch:=omega)only[go_sem, *]
  refine Ap (R:=[]) (Sl.nil' 0 _ _) (Nat.le_refl _) (Nat.le_refl _) (by simp;omega) ?_
  intro w h4 s4 g4
  simp (disch:=omega)only[go_sem, *]
  exact s4.froze' rp.head.frzr trivial (by simp;omega)
 ·simp (disch:=omega)only[go_sem, *]
  have:xs=[]:=by
   rcases List.eq_nil_or_concat xs with h | ⟨l,a,h⟩
   ·exact h
   ·exact absurd (ht (by rw [h];simp)) (by simp)
  rw [this]
theorem GK {L M:List Int}:Pf tp YK [.fl 1 (L.map Aj),.fl 1 (M.map Aj)] (.b (decide (L=M))):=by
 refine AD aGb (by simp [Pk]) fun rp=>?_;unfold Pk;simp (disch:=omega)only[go_sem, *]
 have hL:=rp.head.len
 have hM:=rp.tail.head.len
 refine Aa (fun hc=>?_) (fun hc=>?_)
 ·simp (disch:=omega)only[go_sem, *]
  simp only [false_eq_decide_iff]
  rintro rfl;exact hc rfl
 ·simp (disch:=omega)only[go_sem, *]
  refine Ae (fun n e h=>∃ (i:Nat),n=L.length - i∧h.lim=0∧e 0=.fl 1 (L.map Aj)∧e 1=.fl 1 (M.map Aj)∧e 12=.i .i64 L.length∧e 13=.i .i64 i∧i≤L.length∧L.take i=M.take i) ?_ _ _ _ ⟨0,rfl, ?_⟩
  ·rintro n e h ⟨i,rfl,hl,e0,e1,e12,e13,hi,hz⟩ ih
   rw [Ai rZ.eq_1]
   simp (disch:=omega)only[go_sem, *]
   refine Aa (fun hc2=>?_) (fun hc2=>?_)
   ·simp (disch:=omega)only[go_sem, *]
    refine Aa (fun hc3=>?_) (fun hc3=>?_)
    ·simp (disch:=omega)only[go_sem, *]
     simp only [false_eq_decide_iff]
     exact LM (i:=i) (by omega) hc3
    ·have he:=Decidable.not_not.1 hc3
     simp (disch:=omega)only[go_sem, *]
     refine ih _ _ _ ?_ ⟨i+1,rfl, ?_⟩
     ·omega
     ·simp (disch:=omega)only[go_sem, *]
      ((repeat' refine And.intro ?_ ?_)<;>first | omega | assumption | (exact GJ (by omega) (by omega) hz he))
   ·simp (disch:=omega)only[go_sem, *]
    simp only [true_eq_decide_iff]
    rw [List.take_of_length_le (by omega),List.take_of_length_le (by omega)] at hz
    exact hz
  ·simp (disch:=omega)only[go_sem, *]
   first | done | simp
def A6 (B:List Int):List Int×Bool:=if 4≤B.length∧CR (Du (B.take (B.length - 4)))=B.drop (B.length - 4) then (B.take (B.length - 4),true) else ([],false)
theorem Sq {B:List Int}:Pf tp YI [.fl 1 (B.map Aj)] (.tup [.fl 1 ((A6 B).1.map Aj),.b (A6 B).2]):=by
 refine AD aF8 (by simp [Ph]) fun rp=>?_
 have hL:=rp.head.len
 unfold Ph
 simp (disch:=omega)only[go_sem, *]
 refine Aq (fun hc=>?_) (fun hc=>?_)
 ·have h4:A6 B=([],false):=by unfold A6;rw [if_neg (by omega)]
  simp (disch:=omega)only[go_sem, *]
 ·have ht:((B.length:Int) - 4).toNat=B.length - 4:=by omega
  have mt:∀ n,List.take n (B.map Aj)=(B.take n).map Aj:=fun n=>List.map_take.symm
  have md:∀ n,List.drop n (B.map Aj)=(B.drop n).map Aj:=fun n=>List.map_drop.symm
  have mk:List.take (B.length - (B.length - 4)) ((B.drop (B.length - 4)).map Aj)=(B.drop (B.length - 4)).map Aj:=List.take_of_length_le (by simp)
  simp (disch:=omega)only[go_sem, *]
  refine Pf.go (OH) (by simp only [go_sem]) fun _=>?_;simp (disch:=omega)only[go_sem, *]
  refine Pf.go (KJ) (by simp only [go_sem]) fun _=>?_;simp (disch:=omega)only[go_sem, *]
  refine Pf.go (GK) (by simp only [go_sem]) fun _=>?_;simp (disch:=omega)only[go_sem, *]
  refine AX (fun h5=>?_) (fun h5=>?_)
  ·have h4:A6 B=([],false):=by unfold A6;rw [if_neg (by simp at h5;exact fun q=>h5 q.2)]
   clear h5
   simp (disch:=omega)only[go_sem, *]
  ·have h4:A6 B=(B.take (B.length - 4),true):=by unfold A6;rw [if_pos ⟨by omega,by simpa using h5⟩]
   clear h5
   simp (disch:=omega)only[go_sem, *]
   refine Pf.go (Ue) (by simp only [go_sem]) fun _=>?_;simp (disch:=omega)only[go_sem, *]
end Go.Ab.T
namespace Go.Ab.T
open Go Go.Ab
set_option maxHeartbeats 2000000
theorem Yg {n:Int}:Pf tp RH [.i .i64 n] (.i .u64 (u0 n)):=by
 refine AD kS (by simp [K8]) fun rp=>?_;unfold K8;simp (disch:=omega)only[go_sem, *]
 refine Aa (fun hc=>?_) (fun hc=>?_)
 ·have hu0:u0 n=IntKind.wrap .u64 (0 - IntKind.wrap .u64 n):=if_pos hc
  simp (disch:=omega)only[go_sem, *]
 ·have hu0:u0 n=IntKind.wrap .u64 n:=if_neg hc
  simp (disch:=omega)only[go_sem, *]
def Ly (L M:List Int) (i:Nat):Prop:=M.length=L.length∧∀ t,t<L.length→nth M t=if t<i∨L.length<t+i+1 then nth L (L.length - 1 - t) else nth L t
theorem Ly.done {L M:List Int} {i:Nat} (r:Ly L M i) (h:L.length≤2*i+1):M=L.reverse:=by
 apply List.ext_getElem (by simp [r.1])
 intro t h1 h2
 have h3:t<L.length:=by have:=r.1;omega
 have:=r.2 t h3
 rw [List.getElem_reverse]
 have e1:nth M t=M[t]:=by have:=Fg h1;rw [List.getElem?_eq_getElem h1] at this;exact (Option.some.inj this).symm
 have e2:∀ k (hk:k<L.length),nth L k=L[k]:=fun k hk=>by have:=Fg hk;rw [List.getElem?_eq_getElem hk] at this;exact (Option.some.inj this).symm
 rw [← e1,this]
 by_cases h4:t<i∨L.length<t+i+1
 ·rw [if_pos h4,e2]
 ·rw [if_neg h4,e2 _ h3]
  congr 1
  omega
theorem N2 {l:List Int} {i j:Nat} {a:Int} (hj:j<l.length):nth (l.set i a) j=if i=j then a else nth l j:=by
 unfold nth List.getD
 rw [List.getElem?_set]
 split
 ·rename_i h;subst h;simp [hj]
 ·rfl
theorem Ly.step {L M:List Int} {i:Nat} (r:Ly L M i) (h:2*i+1<L.length):Ly L ((M.set i (nth M (L.length - 1 - i))).set (L.length - 1 - i) (nth M i)) (i+1):=by
 refine ⟨by simp [r.1],fun t ht=>?_⟩
 have r1:=r.1
 have v1:nth M i=nth L i:=by rw [r.2 i (by omega),if_neg (by omega)]
 have v2:nth M (L.length - 1 - i)=nth L (L.length - 1 - i):=by rw [r.2 _ (by omega),if_neg (by omega)]
 rw [N2 (by rw [List.length_set];omega),N2 (by omega),v1,v2,r.2 t ht]
 by_cases h1:L.length - 1 - i=t
 ·rw [if_pos h1,if_pos (by omega)];congr 1;omega
 ·rw [if_neg h1]
  by_cases h2:i=t
  ·rw [if_pos h2,if_pos (by omega)];congr 1;omega
  ·rw [if_neg h2]
   by_cases h3:t<i∨L.length<t+i+1
   ·rw [if_pos h3,if_pos (by omega)]
   ·rw [if_neg h3,if_neg (by omega)]
theorem Sf {m : Nat} {h : AH} {v : V} {L : List Int} {K : V → AH → Prop} (hlo : h.lim ≤ m) (s : Sl m h 1 v (L.map Aj)) (hL : L.length < 4000000000)
    (kk:∀ h',Sl m h' 1 v (L.reverse.map Aj)→h'.next=h.next→h'.lim=h.lim→(∀ i,i<m→h'.get i=h.get i)→K (.tup []) h'):Cq tp RI [v] h K:=by
 refine A9 kT (by simp [K9]) fun wf rp=>?_
 unfold K9
 obtain ⟨vlen,vbig,vlt,vlo,vget,vat,vrow,vcell,vcells⟩:=s.facts
 clear vget vrow
 simp (disch:=omega)only[go_sem, *]
 refine Ae (fun n' e hh=>∃ (i:Nat) (M:List Int),n'=L.length - i∧hh.lim=h.lim∧hh.next=h.next∧e 0=v∧e 2=.i .i64 i∧e 3=.i .i64 ((L.length:Int) - 1 - i)∧2*i≤L.length+1∧Sl m hh 1 v (M.map Aj)∧(∀ j,j<m→hh.get j=h.get j)∧Ly L M i) ?_ _ _ _ ⟨0,L,rfl, ?_⟩
 ·rintro n' e hh ⟨i,M,rfl,hl,hn,e0,e2,e3,hi,s,fr,ra⟩ ih
  obtain ⟨wlen,wbig,wlt,wlo,wget,FO,wrow,wcell,wcells⟩:=s.facts
  have hML:=ra.1
  rw [Ai VG.eq_1]
  simp (disch:=omega)only[go_sem, *]
  refine Aa (fun hc=>?_) (fun hc=>?_)
  ·have w1:=wlt (by omega)
   have w2:=wlo (by omega)
   have w3:=wget (by omega)
   have w4:=fun cs=>FO .i64 i cs (by omega) (by omega)
   have w5:=fun cs=>FO .i64 ((L.length:Int) - 1 - i) cs (by omega) (by omega)
   have ei:((L.length:Int) - 1 - i).toNat=L.length - 1 - i:=by omega
   have r1:=wrow i (by omega)
   have r2:=wrow (L.length - 1 - i) (by omega)
   clear wlt wlo wget FO wrow
   simp only [Aj,ei,Int.toNat_natCast] at r1 r2 w4 w5
   have s1:=Sl.setT (x:=nth M (L.length - 1 - i)) s (show i<M.length by omega) (Nat.le_refl _) (h':=hh.put (AW v) ⟨1,(Bn hh v).set (Fa v+i) (Aj (nth M (L.length - 1 - i)))⟩) (by rw [Ad,AC rfl])
   have c1:Bn (hh.put (AW v) ⟨1,(Bn hh v).set (Fa v+i) (Aj (nth M (L.length - 1 - i)))⟩) v=(Bn hh v).set (Fa v+i) (Aj (nth M (L.length - 1 - i))):=by simp only [Bn,Ad,AC]
   have s2:=Sl.setT (x:=nth M i) s1 (show L.length - 1 - i<_ by simp;omega) (Nat.le_refl _) (h':=(hh.put (AW v) ⟨1,(Bn hh v).set (Fa v+i) (Aj (nth M (L.length - 1 - i)))⟩).put (AW v) ⟨1,((Bn hh v).set (Fa v+i) (Aj (nth M (L.length - 1 - i)))).set (Fa v+(L.length - 1 - i)) (Aj (nth M i))⟩) (by rw [Ad,AC rfl,c1])
   have ra2:=ra.step (by omega)
   simp only [Aj,Tz] at s2
   clear s1 c1 s
   simp (disch:=omega)only[go_sem, *]
   refine ih _ _ _ ?_ ⟨i+1,(M.set i (nth M (L.length - 1 - i))).set (L.length - 1 - i) (nth M i),rfl, ?_⟩
   ·omega
   ·clear ih kk
    simp (disch:=omega)only[go_sem, *]
    ((repeat' refine And.intro ?_ ?_)<;>first | omega | assumption | ((congr 1;omega)) | (exact s2) | ((intro j hj;rw [Ac (by omega)];exact fr j hj)))
  ·have hz:=ra.done (by omega)
   rw [hz] at s
   simp (disch:=omega)only[go_sem, *]
 ·simp (disch:=omega)only[go_sem, *]
  exact ⟨fun _ _=>trivial,rfl,fun t ht=>by rw [if_neg (by omega)]⟩
def FF:Nat→Int→List Int
 | 0,_=>[]
 | f+1,u=>if 0<u then IntKind.wrap .u8 u::FF f (u.fdiv 256) else []
theorem LW:∀ (f:Nat) (u:Int) (x:List Int),(FF f u).reverse++x=Dq f u x
 | 0,_,_=>rfl
 | f+1,u,x=>by
  unfold FF Dq
  by_cases h:0<u
  ·rw [if_pos h,if_pos h,List.reverse_cons,List.append_assoc];exact LW f _ _
  ·rw [if_neg h,if_neg h];rfl
theorem aFq {K : Ex → Env → AH → Prop} {e : Env} {h h' : AH} {b : V} {n u : Int} (hlo : h.lim ≤ h.next) (hu0 : 0 ≤ u) (hu1 : u < 18446744073709551616) (x0 : AJ h h') (e0 : e 0 = b) (e1 : e 1 = .i .i64 n) (e6 : e 6 = .i .u64 u) (e5 : e 5 = .ns)
    (kk:∀ e' h2 v,e' 0=b→e' 1=.i .i64 n→e' 5=v→AJ h h2→Sl h.next h2 1 v ((FF 8 u).map Aj)→K (.ex 0) e' h2):ZC tp (.loop Qz) e h' K:=by
 have hs:=aU5
 refine Ae (fun n' e hh=>∃ (f:Nat) (w:Int) (v:V) (x:List Int),n'=f∧AJ h hh∧e 0=b∧e 1=.i .i64 n∧e 6=.i .u64 w∧e 5=v∧0≤w∧w<256 ^ f∧x.length+f≤8∧Sl h.next hh 1 v (x.map Aj)∧x++FF f w=FF 8 u) ?_ _ _ _ ⟨8,u,.ns,[],rfl,x0,e0,e1,e6,e5,hu0,by omega,by simp,Sl.nil _ _ _,rfl⟩
 clear e0 e1 e6 e5 e x0
 rintro n' e hh ⟨f,w,v,x,hf,xx,e0,e1,e6,e5,hw0,hw1,hl,s,hz⟩ ih
 have hlm:=xx.lim
 have hnx:=xx.next
 rw [Ai Qz.eq_1]
 simp (disch:=omega)only[go_sem, *]
 refine Aa (fun hc=>?_) (fun hc=>?_)
 ·cases f with
  | zero=>simp at hw1;omega
  | succ f=>
   subst hf
   have hz2:(x++[IntKind.wrap .u8 w])++FF f (w.fdiv 256)=FF 8 u:=by rw [← hz,FF,if_pos hc,List.append_assoc];rfl
   have hd:w.fdiv 256=w / 256:=Int.fdiv_eq_ediv_of_nonneg _ (by omega)
   have hp:(256:Int) ^ (f+1)=256 ^ f*256:=Int.pow_succ ..
   have hd1:0≤w.fdiv 256:=by rw [hd];omega
   have hd2:w.fdiv 256<256 ^ f:=by rw [hd];omega
   clear hz hd hp
   simp (disch:=omega)only[go_sem, *]
   refine Ap (N:=[Aj (IntKind.wrap .u8 w)]) (s.alloc ⟨1,[Aj (IntKind.wrap .u8 w)]⟩) (by first | omega | (simp (disch:=omega)only[go_sem, *]<;>omega)) (by first | omega | (simp (disch:=omega)only[go_sem, *]<;>omega)) (by simp;omega) ?_
   intro r h4 s4 g4
   have x4:AJ h h4:=⟨by have:=g4.next;rw [Ag] at this;omega,by rw [g4.lim,AL];exact hlm,fun j hj=>by rw [g4.low j hj,AM,Ac (by omega)];exact xx.get j hj⟩
   have s5:Sl h.next h4 1 r ((x++[IntKind.wrap .u8 w]).map Aj):=by simpa using s4
   clear s4 g4
   simp (disch:=omega)only[go_sem, *]
   refine ih _ _ _ ?_ ⟨f,w.fdiv 256,r,x++[IntKind.wrap .u8 w],rfl, ?_⟩
   ·omega
   ·have hl5:(x++[IntKind.wrap .u8 w]).length+f≤8:=by simp only [List.length_append,List.length_singleton];omega
    clear ih kk
    simp (disch:=omega)only[go_sem, *]
    all_goals ((repeat' refine And.intro ?_ ?_)<;>first | omega | assumption | (exact x4) | (exact s5) | (exact hl5) | (exact hz2))
 ·have h0:w=0:=by omega
  have hz2:x=FF 8 u:=by
   rw [← hz]
   cases f<;>simp [FF,h0]
  rw [hz2] at s
  simp (disch:=omega)only[go_sem, *]
  exact kk _ _ v e0 e1 e5 xx s
theorem JE {h : AH} {b : V} {B : List Int} {n : Int} {K : V → AH → Prop} (hlo : h.lim ≤ h.next) (rb : RB 1 h b (B.map Aj)) (hb1 : b.isCell = true) (hb2 : b.cells = [b]) (hB : B.length < 900000)
    (kk:∀ r h',Sl h.next h' 1 r ((Am B n).map Aj)→AJ h h'→K r h'):Cq tp IE [b,.i .i64 n] h K:=by
 refine A9 kD (by simp [KR]) fun wf rp=>?_
 unfold KR
 have hu:=dI n
 simp (disch:=omega)only[go_sem, *]
 refine Pf.go (Yg) (by simp only [go_sem]) fun _=>?_;simp (disch:=omega)only[go_sem, *]
 refine aFq (b:=b) (n:=n) (u:=u0 n) hlo hu.1 hu.2 (AJ.refl h) (by simp (disch:=omega)only[go_sem, *]) (by simp (disch:=omega)only[go_sem, *]) (by simp (disch:=omega)only[go_sem, *]) (by simp (disch:=omega)only[go_sem, *]) ?_
 intro e' h2 v f0 f1 f5 x2 s2
 have hlm:=x2.lim
 have hnx:=x2.next
 have hx:=LW 8 (u0 n) []
 rw [List.append_nil] at hx
 have hxl:(FF 8 (u0 n)).length≤8:=by have:=FJ n;rw [Ca,←hx,List.length_reverse] at this;exact this
 simp (disch:=omega)only[go_sem, *]
 refine Sf (m:=h.next) (by omega) s2 (by omega) ?_
 intro h3 s3 n3 l3 g3
 have hk:(FF 8 (u0 n)).reverse=Ca n:=hx
 rw [hk] at s3
 have hpl:=FJ n
 have x3:AJ h h3:=⟨by omega,by omega,fun i hi=>by rw [g3 i hi];exact x2.get i hi⟩
 obtain ⟨vlen,_,_,_,_,_,_,vc1,vc2⟩:=s3.facts
 have hl2:h2.lim≤h2.next:=by have:=x3.lim;have:=x3.next;omega
 clear x2 s2 g3 hlm hnx hx hxl hk hu
 simp (disch:=omega)only[go_sem, *]
 refine Aa (fun hc=>?_) (fun hc=>?_)
 ·have hkr:Am B n=B++[IntKind.wrap .u8 (IntKind.wrap .u8 ((Ca n).length:Int)+128)]++Ca n:=by unfold Am;rw [if_pos hc,Int.add_comm]
  rw [hkr] at kk
  have sk:Sl 0 (h3.alloc ⟨1,[(IntKind.wrap .u8 (IntKind.wrap .u8 ((Ca n).length:Int)+128))].map Aj⟩) 1 (.sl h2.next 0 1 1) ([(IntKind.wrap .u8 (IntKind.wrap .u8 ((Ca n).length:Int)+128))].map Aj):=by rw [← n3];exact Sl.new (Nat.zero_le _) (by simp)
  simp only [List.map_cons,List.map_nil,Aj] at sk
  simp (disch:=omega)only[go_sem, *]
  refine My (vs:=[b,.sl h2.next 0 1 1,v]) (Rs:=[B.map Aj,[(IntKind.wrap .u8 (IntKind.wrap .u8 ((Ca n).length:Int)+128))].map Aj,(Ca n).map Aj]) ?_ ?_ ?_ (by simp) (by simp;omega) ?_
  ·simp (disch:=omega)only[go_sem, *]<;>omega
  ·exact IY (by simp (disch:=omega)only[go_sem, *]<;>rfl) (by simp (disch:=omega)only[go_sem, *]<;>omega) rfl
  ·refine .cons (rb.ext ((x3.alloc _).alloc _)) (.cons (.sl (Sl.alloc sk _)) (.cons (.sl ((s3.alloc _).alloc _)) .nil))
  ·intro r h' s x
   rw [show [B.map Aj,[(IntKind.wrap .u8 (IntKind.wrap .u8 ((Ca n).length:Int)+128))].map Aj,(Ca n).map Aj].flatten=(B++[IntKind.wrap .u8 (IntKind.wrap .u8 ((Ca n).length:Int)+128)]++Ca n).map Aj by simp] at s
   have xx:=((x3.alloc _).alloc _).trans x
   have s':=Sl.weak s (b':=h.next) (by have:=x3.next;simp only [Ag];omega)
   clear s x x3 sk
   simp (disch:=omega)only[go_sem, *]
 ·have hkr:Am B n=B++[IntKind.wrap .u8 ((Ca n).length:Int)]++Ca n:=by unfold Am;rw [if_neg hc,Int.zero_add,Dd,Dd];simp
  rw [hkr] at kk
  have sk:Sl 0 (h3.alloc ⟨1,[(IntKind.wrap .u8 ((Ca n).length:Int))].map Aj⟩) 1 (.sl h2.next 0 1 1) ([(IntKind.wrap .u8 ((Ca n).length:Int))].map Aj):=by rw [← n3];exact Sl.new (Nat.zero_le _) (by simp)
  simp only [List.map_cons,List.map_nil,Aj] at sk
  simp (disch:=omega)only[go_sem, *]
  refine My (vs:=[b,.sl h2.next 0 1 1,v]) (Rs:=[B.map Aj,[(IntKind.wrap .u8 ((Ca n).length:Int))].map Aj,(Ca n).map Aj]) ?_ ?_ ?_ (by simp) (by simp;omega) ?_
  ·simp (disch:=omega)only[go_sem, *]<;>omega
  ·exact IY (by simp (disch:=omega)only[go_sem, *]<;>rfl) (by simp (disch:=omega)only[go_sem, *]<;>omega) rfl
  ·refine .cons (rb.ext ((x3.alloc _).alloc _)) (.cons (.sl (Sl.alloc sk _)) (.cons (.sl ((s3.alloc _).alloc _)) .nil))
  ·intro r h' s x
   rw [show [B.map Aj,[(IntKind.wrap .u8 ((Ca n).length:Int))].map Aj,(Ca n).map Aj].flatten=(B++[IntKind.wrap .u8 ((Ca n).length:Int)]++Ca n).map Aj by simp] at s
   have xx:=((x3.alloc _).alloc _).trans x
   have s':=Sl.weak s (b':=h.next) (by have:=x3.next;simp only [Ag];omega)
   clear s x x3 sk
   simp (disch:=omega)only[go_sem, *]
theorem Vy {tp:TP} {f:Nat} {args:List V} {R:V} (z:Cq tp f args AH.emp (fun r h'=>CA (fun _=>True) h' 0 r R)):Pf tp f args R:=by
 intro S m hc args1 c p
 refine (z S m hc args1 c p).imp ?_
 rintro r1 hc' ⟨r,h',S',m',c',a',pr,fz⟩
 refine ⟨R,AH.emp,SP S' m' h' (fun _=>True),m',De.emp (SP.low c') c'.bnd m',⟨fun a h=>.inl (a'.sub a h), ?_,a'.map,Nat.le_refl _,a'.next1,rfl,a'.lim1,a'.frame,fun i hi=>by simp [AH.live,AH.emp] at hi⟩,CA.ok c' fz pr,rfl,rfl⟩
 rintro a (ha | ⟨i,_,hi,rfl⟩)
 ·exact a'.new a ha
 ·rcases a'.liv i hi with ⟨q1,q2⟩ | q1
  ·exact absurd q1 (Nat.not_lt_zero _)
  ·exact .inr (.inl q1)
theorem J9 {B:List Int} {n:Int} (hB:B.length<900000):Pf tp IE [.fl 1 (B.map Aj),.i .i64 n] (.fl 1 ((Am B n).map Aj)):=
 Vy (JE (Nat.le_refl _) .fl rfl rfl hB fun r h' s _=>Sl.froze s (fun _=>rfl) trivial (by have:=Ak B n;omega))
theorem J4 {B:List Int} {f:Bool} (hB:B.length<900000):Pf tp Y6 [.fl 1 (B.map Aj),.b f] (.fl 1 ((BJ B f).map Aj)):=by
 refine AD aGB (by simp [PL]) fun rp=>?_;unfold PL;simp (disch:=omega)only[go_sem, *]
 cases f
 ·simp (disch:=omega)only[go_sem, *]
  refine Pf.go (J9 (n:=0) hB) (by simp only [go_sem]) fun _=>?_;simp (disch:=omega)only[go_sem, *]
  rfl
 ·simp (disch:=omega)only[go_sem, *]
  refine Pf.go (J9 (n:=1) hB) (by simp only [go_sem]) fun _=>?_;simp (disch:=omega)only[go_sem, *]
  rfl
theorem Xm {xs:List (List V)}:Pf tp Ru [.fl 1 xs] (.fl 1 xs):=by
 refine AD kE (by simp [KT]) fun rp=>?_;unfold KT;simp (disch:=omega)only[go_sem, *]
theorem XD {B:List Int} {s:ByteArray} (hB:B.length<900000) (hs:s.size<2000):Pf tp Y5 [.fl 1 (B.map Aj),.s s] (.fl 1 ((Am B s.size++sB s).map Aj)):=by
 refine AD aGA (by simp [PK]) fun rp=>?_;unfold PK;simp (disch:=omega)only[go_sem, *]
 refine JE (B:=B) (Nat.le_refl _) .fl rfl rfl hB ?_
 intro r h' sr x
 have hr:=LF s
 have hl:=IZ s
 have hpl:=Ak B s.size
 have hlm:=x.lim
 simp (disch:=omega)only[go_sem, *]
 refine Ap sr ?_ ?_ ?_ ?_
 ·rw [hlm];exact Nat.le_refl _
 ·exact x.next
 ·simp;omega
 intro w h4 s4 g4
 rw [← List.map_append] at s4
 simp (disch:=omega)only[go_sem, *]
 refine Pf.take [AW w] (Xm (xs:=(Am B s.size++sB s).map Aj)) (.cons _ _ _ _ _ (Sl.froze s4 (fun _=>rfl) (by simp) (by simp;omega)) (.nil _)) fun _=>?_
 simp (disch:=omega)only[go_sem, *]
end Go.Ab.T
namespace Go.Ab.T
open Go Go.Ab
set_option maxHeartbeats 2000000
theorem Ts {B L:List Int} (hB:B.length+9*L.length<900000):Pf tp NK [.fl 1 (B.map Aj),.fl 1 (L.map E0)] (.fl 1 ((L.foldl Am B).map Aj)):=by
 refine AD aGz (by simp [PJ]) fun rp=>?_;unfold PJ;simp (disch:=omega)only[go_sem, *]
 refine Ae (fun n e h=>∃ (i:Nat) (D:List Int),n=L.length - i∧h.lim=0∧e 7=.fl 1 (L.map E0)∧e 8=.i .i64 L.length∧e 9=.i .i64 i∧e 0=.fl 1 (D.map Aj)∧i≤L.length∧D.length≤B.length+9*i∧(L.drop i).foldl Am D=L.foldl Am B) ?_ _ _ _ ⟨0,B,rfl, ?_⟩
 ·rintro n e h ⟨i,D,rfl,hl,e7,e8,e9,e0,hi,hd,hz⟩ ih
  rw [Ai sI.eq_1]
  simp (disch:=omega)only[go_sem, *]
  refine Aa (fun hc=>?_) (fun hc=>?_)
  ·rw [Ax (by omega),List.foldl_cons] at hz
   have hp:=Ak D (nth L i)
   have hcall:=J9 (B:=D) (n:=nth L i) (by omega)
   simp (disch:=omega)only[go_sem, *]
   refine Pf.go (hcall) (by simp only [go_sem]) fun _=>?_;simp (disch:=omega)only[go_sem, *]
   refine ih _ _ _ ?_ ⟨i+1,Am D (nth L i),rfl, ?_⟩
   ·omega
   ·simp (disch:=omega)only[go_sem, *]
    ((repeat' refine And.intro ?_ ?_)<;>first | omega | assumption)
  ·rw [List.drop_eq_nil_of_le (by omega),List.foldl_nil] at hz
   simp (disch:=omega)only[go_sem, *]
 ·simp (disch:=omega)only[go_sem, *]
theorem LT {h:AH} {a:Nat}:h.kills [a]=h.kill a:=by
 unfold AH.kills AH.kill
 congr 1
 funext i
 simp
attribute [go_sem] LT
theorem BE {h:AH} {K:V→AH→Prop} {B:List Int} (L:List Int) {id n:Nat} (hg:h.get id=some ⟨1,L.map E0⟩) (hn:n=L.length) (hB:B.length+9*L.length<900000) (kk:K (.fl 1 ((L.foldl Am B).map Aj)) (h.kill id)):Cq tp NK [.fl 1 (B.map Aj),.sl id 0 n n] h K:=by
 subst hn
 refine Pf.take [id] (Ts hB) (.cons _ _ _ _ _ (.fl _ _ _) (.cons _ _ _ _ _ (.sl _ _ _ _ _ _ _ _ (by simp) hg (by simp) (Nat.le_refl _) (by simp [Di];omega) ?_) (.nil _))) fun _=>?_
 ·rw [List.drop_zero,List.take_of_length_le (by simp)]
  exact BG.of_map (fun _=>rfl) L
 ·rw [LT];exact kk
end Go.Ab.T
namespace Go.Ab.T
open Go Go.Ab
set_option maxHeartbeats 4000000
theorem iO {K : Ex → Env → AH → Prop} {e : Env} {h' : AH} {B : List Int} {L : List AN} {k k5 : BU} {b5 : Nat} {v24 v25 : V} {i26 : Int} (hl : h'.lim = 0) (hn : b5 < h'.next) (hn0 : 0 < h'.next) (g0 : h'.get 0 = some k) (g5 : h'.get b5 = some k5) (hB : B.length + 18 * L.length < 900000)
    (e1:e 1=.p 0 0 0) (e3:e 3=.fl 1 (B.map Aj)) (e5:e 5=.p b5 0 0) (e24:e 24=v24) (e25:e 25=v25) (e26:e 26=.i .i64 i26) (e53:e 53=.fl 2 (L.map AN.enc)) (e54:e 54=.i .i64 L.length) (e55:e 55=.i .i64 0)
    (kk:∀ (e:Env) (h:AH),h.lim=0→b5<h.next→0<h.next→h.get 0=some k→h.get b5=some k5→e 1=.p 0 0 0→e 3=.fl 1 ((L.foldl B1 B).map Aj)→e 5=.p b5 0 0→e 24=v24→e 25=v25→e 26=.i .i64 i26→K (.ex 2) e h):ZC tp (.loop QJ) e h' K:=by
 refine Ae (fun n' e hh=>∃ (i:Nat) (D:List Int),n'=L.length - i∧hh.lim=0∧b5<hh.next∧0<hh.next∧hh.get 0=some k∧hh.get b5=some k5∧e 1=.p 0 0 0∧e 3=.fl 1 (D.map Aj)∧e 5=.p b5 0 0∧e 24=v24∧e 25=v25∧e 26=.i .i64 i26∧e 53=.fl 2 (L.map AN.enc)∧e 54=.i .i64 L.length∧e 55=.i .i64 i∧i≤L.length∧D.length≤B.length+18*i∧(L.drop i).foldl B1 D=L.foldl B1 B) ?_ _ _ _ ⟨0,B,rfl,hl,hn,hn0,g0,g5,e1,e3,e5,e24,e25,e26,e53,e54,e55,by omega,by omega,rfl⟩
 clear hl hn hn0 g0 g5 e1 e3 e5 e24 e25 e26 e53 e54 e55 e
 rintro n' e hh ⟨i,D,rfl,hl,hn,hn0,g0,g5,e1,e3,e5,e24,e25,e26,e53,e54,e55,hi,hd,hz⟩ ih
 rw [Ai QJ.eq_1]
 simp (disch:=omega)only[go_sem, *]
 refine Aa (fun hc=>?_) (fun hc=>?_)
 ·rw [Ax (by omega),List.foldl_cons] at hz
  have hp:=Ak D (nth L i).entry
  have hp2:=Ak (Am D (nth L i).entry) (nth L i).prio
  simp (disch:=omega)only[go_sem, *]
  refine BE [(nth L i).entry,(nth L i).prio] ?_ rfl (by simp;omega) ?_
  ·simp (disch:=omega)only[go_sem, *]<;>rfl
  have hf:[(nth L i).entry,(nth L i).prio].foldl Am D=B1 D (nth L i):=rfl
  rw [hf]
  simp (disch:=omega)only[go_sem, *]
  refine ih _ _ _ ?_ ⟨i+1,B1 D (nth L i),rfl, ?_⟩
  ·omega
  ·have hfl:(B1 D (nth L i)).length≤B.length+18*(i+1):=by unfold B1;omega
   clear ih kk hf
   simp (disch:=omega)only[go_sem, *]
   all_goals ((repeat' refine And.intro ?_ ?_)<;>first | omega | assumption | (skip))
 ·rw [List.drop_eq_nil_of_le (by omega),List.foldl_nil] at hz
  subst hz
  simp (disch:=omega)only[go_sem, *]
  exact kk _ _ hl hn hn0 g0 g5 e1 e3 e5 e24 e25 e26
theorem iP {K : Ex → Env → AH → Prop} {e : Env} {h' : AH} {B : List Int} {a0 a1 a2 a3 a4 : Int} {k : BU} {v24 v25 : V} {i26 : Int} (hl : h'.lim = 0) (hn0 : 0 < h'.next) (g0 : h'.get 0 = some k) (hB : B.length + 45 < 900000)
    (e1:e 1=.p 0 0 0) (e3:e 3=.fl 1 (B.map Aj)) (e24:e 24=v24) (e25:e 25=v25) (e26:e 26=.i .i64 i26) (e68:e 68=.agg [.i .i64 a0,.i .i64 a1,.i .i64 a2,.i .i64 a3,.i .i64 a4]) (e69:e 69=.i .i64 0)
    (kk:∀ (e:Env) (h:AH),h.lim=0→0<h.next→h.get 0=some k→e 1=.p 0 0 0→e 3=.fl 1 ((Am (Am (Am (Am (Am B a0) a1) a2) a3) a4).map Aj)→e 24=v24→e 25=v25→e 26=.i .i64 i26→K (.ex 4) e h):ZC tp (.loop Gn) e h' K:=by
 refine Bc ?_
 rw [Ai Gn.eq_1]
 simp (disch:=omega)only[go_sem, *]
 have l1:=Ak B a0
 refine BE (B:=B) [a0] ?_ rfl (by simp only [List.length_singleton];omega) ?_
 ·simp (disch:=omega)only[go_sem, *]<;>rfl
 simp only [List.foldl_cons,List.foldl_nil]
 simp (disch:=omega)only[go_sem, *]
 refine Bc ?_
 rw [Ai Gn.eq_1]
 simp (disch:=omega)only[go_sem, *]
 have l2:=Ak (Am B a0) a1
 refine BE (B:=(Am B a0)) [a1] ?_ rfl (by simp only [List.length_singleton];omega) ?_
 ·simp (disch:=omega)only[go_sem, *]<;>rfl
 simp only [List.foldl_cons,List.foldl_nil]
 simp (disch:=omega)only[go_sem, *]
 refine Bc ?_
 rw [Ai Gn.eq_1]
 simp (disch:=omega)only[go_sem, *]
 have l3:=Ak (Am (Am B a0) a1) a2
 refine BE (B:=(Am (Am B a0) a1)) [a2] ?_ rfl (by simp only [List.length_singleton];omega) ?_
 ·simp (disch:=omega)only[go_sem, *]<;>rfl
 simp only [List.foldl_cons,List.foldl_nil]
 simp (disch:=omega)only[go_sem, *]
 refine Bc ?_
 rw [Ai Gn.eq_1]
 simp (disch:=omega)only[go_sem, *]
 have l4:=Ak (Am (Am (Am B a0) a1) a2) a3
 refine BE (B:=(Am (Am (Am B a0) a1) a2)) [a3] ?_ rfl (by simp only [List.length_singleton];omega) ?_
 ·simp (disch:=omega)only[go_sem, *]<;>rfl
 simp only [List.foldl_cons,List.foldl_nil]
 simp (disch:=omega)only[go_sem, *]
 refine Bc ?_
 rw [Ai Gn.eq_1]
 simp (disch:=omega)only[go_sem, *]
 have l5:=Ak (Am (Am (Am (Am B a0) a1) a2) a3) a4
 refine BE (B:=(Am (Am (Am (Am B a0) a1) a2) a3)) [a4] ?_ rfl (by simp only [List.length_singleton];omega) ?_
 ·simp (disch:=omega)only[go_sem, *]<;>rfl
 simp only [List.foldl_cons,List.foldl_nil]
 simp (disch:=omega)only[go_sem, *]
 refine Bc ?_
 rw [Ai Gn.eq_1]
 have f:=kk
 clear kk
 simp (disch:=omega)only[go_sem, *]
 refine f _ _ ?_ ?_ ?_ ?_ ?_ ?_ ?_ ?_<;>(simp (disch:=omega)only[go_sem, *]<;>omega)
theorem iS {K : Ex → Env → AH → Prop} {e : Env} {h' : AH} {B : List Int} {L : List Node} {v119 v120 : V} {i121 : Int} (hl : h'.lim = 0) (hB : B.length + 27 * L.length < 900000)
    (e3:e 3=.fl 1 (B.map Aj)) (e119:e 119=v119) (e120:e 120=v120) (e121:e 121=.i .i64 i121) (e130:e 130=.fl 3 (L.map Node.enc)) (e131:e 131=.i .i64 L.length) (e132:e 132=.i .i64 0)
    (kk:∀ (e:Env) (h:AH),h.lim=0→e 3=.fl 1 ((L.foldl CW B).map Aj)→e 119=v119→e 120=v120→e 121=.i .i64 i121→K (.ex 10) e h):ZC tp (.loop QM) e h' K:=by
 refine Ae (fun n' e hh=>∃ (i:Nat) (D:List Int),n'=L.length - i∧hh.lim=0∧e 3=.fl 1 (D.map Aj)∧e 119=v119∧e 120=v120∧e 121=.i .i64 i121∧e 130=.fl 3 (L.map Node.enc)∧e 131=.i .i64 L.length∧e 132=.i .i64 i∧i≤L.length∧D.length≤B.length+27*i∧(L.drop i).foldl CW D=L.foldl CW B) ?_ _ _ _ ⟨0,B,rfl,hl,e3,e119,e120,e121,e130,e131,e132,by omega,by omega,rfl⟩
 clear hl e3 e119 e120 e121 e130 e131 e132 e
 rintro n' e hh ⟨i,D,rfl,hl,e3,e119,e120,e121,e130,e131,e132,hi,hd,hz⟩ ih
 rw [Ai QM.eq_1]
 simp (disch:=omega)only[go_sem, *]
 refine Aa (fun hc=>?_) (fun hc=>?_)
 ·rw [Ax (by omega),List.foldl_cons] at hz
  have hp:=Ak D (nth L i).kind
  have hp2:=Ak (Am D (nth L i).kind) (nth L i).part
  have hp3:=Ak (Am (Am D (nth L i).kind) (nth L i).part) (nth L i).n
  simp (disch:=omega)only[go_sem, *]
  refine BE [(nth L i).kind,(nth L i).part,(nth L i).n] ?_ rfl (by simp;omega) ?_
  ·simp (disch:=omega)only[go_sem, *]<;>rfl
  have hf:[(nth L i).kind,(nth L i).part,(nth L i).n].foldl Am D=CW D (nth L i):=rfl
  rw [hf]
  simp (disch:=omega)only[go_sem, *]
  refine ih _ _ _ ?_ ⟨i+1,CW D (nth L i),rfl, ?_⟩
  ·omega
  ·have hfl:(CW D (nth L i)).length≤B.length+27*(i+1):=by unfold CW;omega
   clear ih kk hf
   simp (disch:=omega)only[go_sem, *]
   all_goals ((repeat' refine And.intro ?_ ?_)<;>first | omega | assumption | (skip))
 ·rw [List.drop_eq_nil_of_le (by omega),List.foldl_nil] at hz
  subst hz
  simp (disch:=omega)only[go_sem, *]
  exact kk _ _ hl e3 e119 e120 e121
theorem LP (B:List Int):∀ (L:List Node),(L.foldl CW B).length≤B.length+27*L.length:=fun L=>by
 induction L generalizing B with
 | nil=>simp
 | cons a L ih=>
  have:=ih (CW B a)
  have h1:=Ak B a.kind
  have h2:=Ak (Am B a.kind) a.part
  have h3:=Ak (Am (Am B a.kind) a.part) a.n
  have hf:(CW B a).length≤B.length+27:=by unfold CW;omega
  simp only [List.foldl_cons,List.length_cons]
  omega
theorem iT {K : Ex → Env → AH → Prop} {e : Env} {h' : AH} {B : List Int} {L : List (List Node)} (hl : h'.lim = 0) (hB : B.length + 20000 * L.length < 800000) (hT : ∀ t ∈ L, t.length ≤ 710)
    (e3:e 3=.fl 1 (B.map Aj)) (e119:e 119=.fl 1 (L.map Tab.enc)) (e120:e 120=.i .i64 L.length) (e121:e 121=.i .i64 0)
    (kk:∀ (e:Env) (h:AH),h.lim=0→e 3=.fl 1 ((L.foldl E2 B).map Aj)→K (.ex 8) e h):ZC tp (.loop QN) e h' K:=by
 refine Ae (fun n' e hh=>∃ (i:Nat) (D:List Int),n'=L.length - i∧hh.lim=0∧e 3=.fl 1 (D.map Aj)∧e 119=.fl 1 (L.map Tab.enc)∧e 120=.i .i64 L.length∧e 121=.i .i64 i∧i≤L.length∧D.length≤B.length+20000*i∧(L.drop i).foldl E2 D=L.foldl E2 B) ?_ _ _ _ ⟨0,B,rfl,hl,e3,e119,e120,e121,by omega,by omega,rfl⟩
 clear hl e3 e119 e120 e121 e
 rintro n' e hh ⟨i,D,rfl,hl,e3,e119,e120,e121,hi,hd,hz⟩ ih
 rw [Ai QN.eq_1]
 simp (disch:=omega)only[go_sem, *]
 refine Aa (fun hc=>?_) (fun hc=>?_)
 ·rw [Ax (by omega),List.foldl_cons] at hz
  have hp:=Ak D (nth L i).length
  have ht:=hT _ (Bm (L:=L) (j:=i) (by omega))
  have hfl:=LP (Am D (nth L i).length) (nth L i)
  simp (disch:=omega)only[go_sem, *]
  refine BE [((nth L i).length:Int)] ?_ rfl (by simp;omega) ?_
  ·simp (disch:=omega)only[go_sem, *]<;>rfl
  simp only [List.foldl_cons,List.foldl_nil]
  simp (disch:=omega)only[go_sem, *]
  refine iS (B:=Am D (nth L i).length) (L:=nth L i) (v119:=.fl 1 (L.map Tab.enc)) (v120:=.i .i64 L.length) (i121:=i) ?_ (by omega) ?_ ?_ ?_ ?_ ?_ ?_ ?_ ?_
  any_goals (simp (disch:=omega)only[go_sem, *];done)
  clear e3 e119 e120 e121 e hl hh
  intro e hh hl e3 e119 e120 e121
  simp (disch:=omega)only[go_sem, *]
  refine ih _ _ _ ?_ ⟨i+1,E2 D (nth L i),rfl, ?_⟩
  ·omega
  ·have hfl:(E2 D (nth L i)).length≤B.length+20000*(i+1):=by unfold E2;omega
   have hf:(nth L i).foldl CW (Am D (nth L i).length)=E2 D (nth L i):=rfl
   clear ih kk
   rw [hf] at e3
   clear hf
   simp (disch:=omega)only[go_sem, *]
   all_goals ((repeat' refine And.intro ?_ ?_)<;>first | omega | assumption | (skip))
 ·rw [List.drop_eq_nil_of_le (by omega),List.foldl_nil] at hz
  subst hz
  simp (disch:=omega)only[go_sem, *]
  exact kk _ _ hl e3
end Go.Ab.T
namespace Go.Ab.T
open Go Go.Ab
set_option maxHeartbeats 4000000
theorem iR {K : Ex → Env → AH → Prop} {e : Env} {h' : AH} {B : List Int} {L : List Ar} {k : BU} (hl : h'.lim = 0) (hn0 : 0 < h'.next) (g0 : h'.get 0 = some k) (hB : B.length + 54 * L.length < 800000)
    (e1:e 1=.p 0 0 0) (e3:e 3=.fl 1 (B.map Aj)) (e85:e 85=.fl 6 (L.map Ar.enc)) (e86:e 86=.i .i64 L.length) (e87:e 87=.i .i64 0)
    (kk:∀ (e:Env) (h:AH),h.lim=0→0<h.next→h.get 0=some k→e 1=.p 0 0 0→e 3=.fl 1 ((L.foldl Cl B).map Aj)→K (.ex 6) e h):ZC tp (.loop QL) e h' K:=by
 refine Ae (fun n' e hh=>∃ (i:Nat) (D:List Int),n'=L.length - i∧hh.lim=0∧0<hh.next∧hh.get 0=some k∧e 1=.p 0 0 0∧e 3=.fl 1 (D.map Aj)∧e 85=.fl 6 (L.map Ar.enc)∧e 86=.i .i64 L.length∧e 87=.i .i64 i∧i≤L.length∧D.length≤B.length+54*i∧(L.drop i).foldl Cl D=L.foldl Cl B) ?_ _ _ _ ⟨0,B,rfl,hl,hn0,g0,e1,e3,e85,e86,e87,by omega,by omega,rfl⟩
 clear hl hn0 g0 e1 e3 e85 e86 e87 e
 rintro n' e hh ⟨i,D,rfl,hl,hn0,g0,e1,e3,e85,e86,e87,hi,hd,hz⟩ ih
 rw [Ai QL.eq_1]
 simp (disch:=omega)only[go_sem, *]
 refine Aa (fun hc=>?_) (fun hc=>?_)
 ·rw [Ax (by omega),List.foldl_cons] at hz
  have p1:=Ak D (nth L i).src
  have p2:=Ak (Am D (nth L i).src) (nth L i).dst
  have p3:=CU (Am (Am D (nth L i).src) (nth L i).dst) (nth L i).queue
  have p4:=Ak (BJ (Am (Am D (nth L i).src) (nth L i).dst) (nth L i).queue) (nth L i).cap
  have p5:=Ak (Am (BJ (Am (Am D (nth L i).src) (nth L i).dst) (nth L i).queue) (nth L i).cap) (IntKind.wrap .i64 (nth L i).top)
  have p6:=Ak (Am (Am (BJ (Am (Am D (nth L i).src) (nth L i).dst) (nth L i).queue) (nth L i).cap) (IntKind.wrap .i64 (nth L i).top)) (nth L i).late
  simp (disch:=omega)only[go_sem, *]
  refine BE [(nth L i).src,(nth L i).dst] ?_ rfl (by simp;omega) ?_
  ·simp (disch:=omega)only[go_sem, *]<;>rfl
  simp only [List.foldl_cons,List.foldl_nil]
  simp (disch:=omega)only[go_sem, *]
  refine Pf.go (J4 (B:=Am (Am D (nth L i).src) (nth L i).dst) (f:=(nth L i).queue) (by omega)) (by simp only [go_sem]) fun _=>?_;simp (disch:=omega)only[go_sem, *]
  refine BE (B:=BJ (Am (Am D (nth L i).src) (nth L i).dst) (nth L i).queue) [(nth L i).cap,IntKind.wrap .i64 (nth L i).top,(nth L i).late] ?_ rfl (by simp;omega) ?_
  ·simp (disch:=omega)only[go_sem, *]<;>rfl
  have hf:[(nth L i).cap,IntKind.wrap .i64 (nth L i).top,(nth L i).late].foldl Am (BJ (Am (Am D (nth L i).src) (nth L i).dst) (nth L i).queue)=Cl D (nth L i):=rfl
  rw [hf]
  simp (disch:=omega)only[go_sem, *]
  refine ih _ _ _ ?_ ⟨i+1,Cl D (nth L i),rfl, ?_⟩
  ·omega
  ·have hfl:(Cl D (nth L i)).length≤B.length+54*(i+1):=by unfold Cl;omega
   clear ih kk hf
   simp (disch:=omega)only[go_sem, *]
   all_goals ((repeat' refine And.intro ?_ ?_)<;>first | omega | assumption | (skip))
 ·rw [List.drop_eq_nil_of_le (by omega),List.foldl_nil] at hz
  subst hz
  simp (disch:=omega)only[go_sem, *]
  exact kk _ _ hl hn0 g0 e1 e3
theorem LQ (B:List Int):∀ (L:List AN),(L.foldl B1 B).length≤B.length+18*L.length:=fun L=>by
 induction L generalizing B with
 | nil=>simp
 | cons a L ih=>
  have:=ih (B1 B a)
  have h1:=Ak B a.entry
  have h2:=Ak (Am B a.entry) a.prio
  have hf:(B1 B a).length≤B.length+18:=by unfold B1;omega
  simp only [List.foldl_cons,List.length_cons]
  omega
theorem iQ {K : Ex → Env → AH → Prop} {e : Env} {h' : AH} {B : List Int} {L : List Part} {k : BU} (hl : h'.lim = 0) (hn0 : 0 < h'.next) (g0 : h'.get 0 = some k) (hB : B.length + 3000 * L.length < 800000) (hP : ∀ p ∈ L, p.name.size < 1000 ∧ p.procs.length ≤ 100)
    (e1:e 1=.p 0 0 0) (e3:e 3=.fl 1 (B.map Aj)) (e24:e 24=.fl 11 (L.map Part.enc)) (e25:e 25=.i .i64 L.length) (e26:e 26=.i .i64 0)
    (kk:∀ (e:Env) (h:AH),h.lim=0→0<h.next→h.get 0=some k→e 1=.p 0 0 0→e 3=.fl 1 ((L.foldl Cb B).map Aj)→(L.foldl Cb B).length≤B.length+3000*L.length→K (.ex 0) e h):ZC tp (.loop QK) e h' K:=by
 refine Ae (fun n' e hh=>∃ (i:Nat) (D:List Int),n'=L.length - i∧hh.lim=0∧0<hh.next∧hh.get 0=some k∧e 1=.p 0 0 0∧e 3=.fl 1 (D.map Aj)∧e 24=.fl 11 (L.map Part.enc)∧e 25=.i .i64 L.length∧e 26=.i .i64 i∧i≤L.length∧D.length≤B.length+3000*i∧(L.drop i).foldl Cb D=L.foldl Cb B) ?_ _ _ _ ⟨0,B,rfl,hl,hn0,g0,e1,e3,e24,e25,e26,by omega,by omega,rfl⟩
 clear hl hn0 g0 e1 e3 e24 e25 e26 e
 rintro n' e hh ⟨i,D,rfl,hl,hn0,g0,e1,e3,e24,e25,e26,hi,hd,hz⟩ ih
 rw [Ai QK.eq_1]
 simp (disch:=omega)only[go_sem, *]
 refine Aa (fun hc=>?_) (fun hc=>?_)
 ·rw [Ax (by omega),List.foldl_cons] at hz
  obtain ⟨hnm,hpl⟩:=hP _ (Bm (L:=L) (j:=i) (by omega))
  have hen:(nth L i).enc=[.s (nth L i).name,.i .i64 (nth L i).budget,.i .i64 (nth L i).period,.b (nth L i).sched,.b (nth L i).stop,.fl 2 ((nth L i).procs.map AN.enc),.i .i64 (nth L i).h0,.i .i64 (nth L i).h1,.i .i64 (nth L i).h2,.i .i64 (nth L i).h3,.i .i64 (nth L i).h4]:=rfl
  have hsl:=IZ (nth L i).name
  obtain ⟨P1,hP1⟩:∃ x,Am D (nth L i).name.size++sB (nth L i).name=x:=⟨_,rfl⟩
  have l1:P1.length≤D.length+1009:=by have:=Ak D (nth L i).name.size;rw [← hP1,List.length_append];omega
  have l2:=Ak P1 (nth L i).budget
  have l3:=Ak (Am P1 (nth L i).budget) (nth L i).period
  obtain ⟨P2,hP2⟩:∃ x,Am (Am P1 (nth L i).budget) (nth L i).period=x:=⟨_,rfl⟩
  rw [hP2] at l3
  have l4:=CU P2 (nth L i).sched
  have l5:=CU (BJ P2 (nth L i).sched) (nth L i).stop
  have l6:=Ak (BJ (BJ P2 (nth L i).sched) (nth L i).stop) (nth L i).procs.length
  obtain ⟨P3,hP3⟩:∃ x,Am (BJ (BJ P2 (nth L i).sched) (nth L i).stop) (nth L i).procs.length=x:=⟨_,rfl⟩
  rw [hP3] at l6
  have l7:=LQ P3 (nth L i).procs
  have hct:=XD (B:=D) (s:=(nth L i).name) (by omega) (by omega)
  rw [hP1] at hct
  simp (disch:=omega)only[go_sem, *]
  refine Pf.go (hct) (by simp only [go_sem]) fun _=>?_;simp (disch:=omega)only[go_sem, *]
  refine BE (B:=P1) [(nth L i).budget,(nth L i).period] ?_ rfl (by simp;omega) ?_
  ·simp (disch:=omega)only[go_sem, *]<;>rfl
  simp only [List.foldl_cons,List.foldl_nil]
  rw [hP2]
  simp (disch:=omega)only[go_sem, *]
  refine Pf.go (J4 (B:=P2) (f:=(nth L i).sched) (by omega)) (by simp only [go_sem]) fun _=>?_;simp (disch:=omega)only[go_sem, *]
  refine Pf.go (J4 (B:=BJ P2 (nth L i).sched) (f:=(nth L i).stop) (by omega)) (by simp only [go_sem]) fun _=>?_;simp (disch:=omega)only[go_sem, *]
  refine BE (B:=BJ (BJ P2 (nth L i).sched) (nth L i).stop) [((nth L i).procs.length:Int)] ?_ rfl (by simp;omega) ?_
  ·simp (disch:=omega)only[go_sem, *]<;>rfl
  simp only [List.foldl_cons,List.foldl_nil]
  rw [hP3]
  simp (disch:=omega)only[go_sem, *]
  refine iO (B:=P3) (L:=(nth L i).procs) (k:=k) (k5:=⟨11,[(nth L i).enc]⟩) (b5:=hh.next) (v24:=.fl 11 (L.map Part.enc)) (v25:=.i .i64 L.length) (i26:=i) ?_ ?_ ?_ ?_ ?_ (by omega) ?_ ?_ ?_ ?_ ?_ ?_ ?_ ?_ ?_ ?_
  any_goals (simp (disch:=omega)only[go_sem, *];done)
  any_goals (simp (disch:=omega)only[go_sem, *]<;>omega)
  clear e1 e3 e24 e25 e26 e hl hn0 g0 hct
  intro e h hl hn5 hn0 g0 g5 e1 e3 e5 e24 e25 e26
  rw [hen] at g5
  have hf:Am (Am (Am (Am (Am ((nth L i).procs.foldl B1 P3) (nth L i).h0) (nth L i).h1) (nth L i).h2) (nth L i).h3) (nth L i).h4=Cb D (nth L i):=by unfold Cb;rw [hP1,hP2,hP3]
  have l8:(Cb D (nth L i)).length≤B.length+3000*(i+1):=by
   rw [← hf]
   have q1:=Ak ((nth L i).procs.foldl B1 P3) (nth L i).h0
   have q2:=Ak (Am ((nth L i).procs.foldl B1 P3) (nth L i).h0) (nth L i).h1
   have q3:=Ak (Am (Am ((nth L i).procs.foldl B1 P3) (nth L i).h0) (nth L i).h1) (nth L i).h2
   have q4:=Ak (Am (Am (Am ((nth L i).procs.foldl B1 P3) (nth L i).h0) (nth L i).h1) (nth L i).h2) (nth L i).h3
   have q5:=Ak (Am (Am (Am (Am ((nth L i).procs.foldl B1 P3) (nth L i).h0) (nth L i).h1) (nth L i).h2) (nth L i).h3) (nth L i).h4
   omega
  simp (disch:=omega)only[go_sem, *]
  refine iP (B:=(nth L i).procs.foldl B1 P3) (k:=k) (v24:=.fl 11 (L.map Part.enc)) (v25:=.i .i64 L.length) (i26:=i) (a0:=(nth L i).h0) (a1:=(nth L i).h1) (a2:=(nth L i).h2) (a3:=(nth L i).h3) (a4:=(nth L i).h4) hl hn0 g0 (by omega) ?_ ?_ ?_ ?_ ?_ ?_ ?_ ?_
  any_goals (simp (disch:=omega)only[go_sem, *];done)
  clear e1 e3 e5 e24 e25 e26 e hl hn0 g0 g5 hn5 h
  intro e h hl hn0 g0 e1 e3 e24 e25 e26
  rw [hf] at e3
  clear hf hP1 hP2 hP3 hen
  simp (disch:=omega)only[go_sem, *]
  refine ih _ _ _ ?_ ⟨i+1,Cb D (nth L i),rfl, ?_⟩
  ·omega
  ·clear ih kk
   simp (disch:=omega)only[go_sem, *]
   all_goals ((repeat' refine And.intro ?_ ?_)<;>first | omega | assumption | (exact l8))
 ·rw [List.drop_eq_nil_of_le (by omega),List.foldl_nil] at hz
  rw [hz] at e3 hd
  clear hz
  have f:=kk
  clear kk
  simp (disch:=omega)only[go_sem, *]
  exact f _ _ hl hn0 g0 e1 e3 (by omega)
theorem Kh {α:Type} {f:List Int→α→List Int} {k:Nat} (hf:∀ B a,(f B a).length≤B.length+k):∀ (L:List α) (B:List Int),(L.foldl f B).length≤B.length+k*L.length
 | [],B=>by simp
 | a::L,B=>by
  have:=Kh hf L (f B a)
  have:=hf B a
  simp only [List.foldl_cons,List.length_cons,Nat.mul_succ]
  omega
theorem RZ {h:AH} {K:V→AH→Prop} (B L:List Int) {i1 id n k:Nat} (hg1:h.get i1=some ⟨1,B.map Aj⟩) (hg:h.get id=some ⟨1,L.map E0⟩) (hk:k=B.length) (hn:n=L.length) (hB:B.length+9*L.length<900000) (kk:K (.fl 1 ((L.foldl Am B).map Aj)) ((h.kill i1).kill id)):Cq tp NK [.sl i1 0 k k,.sl id 0 n n] h K:=by
 subst hn
 subst hk
 refine Pf.take [i1,id] (Ts hB) (.cons _ _ _ _ _ (.sl _ _ _ _ _ _ _ _ (by simp) hg1 (by simp) (Nat.le_refl _) (by simp [Di];omega) ?_) (.cons _ _ _ _ _ (.sl _ _ _ _ _ _ _ _ (by simp) hg (by simp) (Nat.le_refl _) (by simp [Di];omega) ?_) (.nil _))) fun _=>?_
 ·rw [List.drop_zero,List.take_of_length_le (by simp)]
  exact BG.of_map (fun _=>rfl) B
 ·rw [List.drop_zero,List.take_of_length_le (by simp)]
  exact BG.of_map (fun _=>rfl) L
 ·have:h.kills [i1,id]=(h.kill i1).kill id:=by
   unfold AH.kills AH.kill
   congr 1
   funext i
   by_cases h1:i=i1<;>by_cases h2:i=id<;>simp [h1,h2]
  rw [this];exact kk
theorem LO (B:List Int) (x:Ar):(Cl B x).length≤B.length+54:=by
 unfold Cl
 have p1:=Ak B x.src
 have p2:=Ak (Am B x.src) x.dst
 have p3:=CU (Am (Am B x.src) x.dst) x.queue
 have p4:=Ak (BJ (Am (Am B x.src) x.dst) x.queue) x.cap
 have p5:=Ak (Am (BJ (Am (Am B x.src) x.dst) x.queue) x.cap) (IntKind.wrap .i64 x.top)
 have p6:=Ak (Am (Am (BJ (Am (Am B x.src) x.dst) x.queue) x.cap) (IntKind.wrap .i64 x.top)) x.late
 omega
theorem iU {C:Ah} (hC:SF C):Pf tp S3 [.agg C.enc] (.fl 1 ((C.tables.foldl E2 (Am (C.chans.foldl Cl (Am (C.parts.foldl Cb (Am [72,79,82,65] C.parts.length)) C.chans.length)) C.tables.length)).map Aj)):=by
 obtain ⟨hp,hc,ht,hpp,htt⟩:=hC
 refine AD aF7 (by simp [Pg]) fun rp=>?_;unfold Pg;simp (disch:=omega)only[go_sem, *]
 refine RZ [72,79,82,65] [(C.parts.length:Int)] ?_ ?_ rfl rfl (by simp) ?_
 ·simp (disch:=omega)only[go_sem, *]<;>rfl
 ·simp (disch:=omega)only[go_sem, *]<;>rfl
 simp only [List.foldl_cons,List.foldl_nil]
 have l1:=Ak [72,79,82,65] C.parts.length
 simp only [List.length_cons,List.length_nil] at l1
 generalize Am [72,79,82,65] C.parts.length=P1 at *
 simp (disch:=omega)only[go_sem, *]
 refine iQ (B:=P1) (L:=C.parts) (k:=⟨3,[C.enc]⟩) ?_ ?_ ?_ (by omega) hpp ?_ ?_ ?_ ?_ ?_ ?_
 any_goals (simp (disch:=omega)only[go_sem, *];done)
 try (any_goals (simp only [Ah.enc];simp (disch:=omega)only[go_sem, *];done))
 intro e h hl hn g0 e1 e3 l2
 generalize C.parts.foldl Cb P1=P2 at *
 have l3:=Ak P2 C.chans.length
 simp only [Ah.enc] at g0
 simp (disch:=omega)only[go_sem, *]
 refine BE (B:=P2) [(C.chans.length:Int)] ?_ rfl (by simp;omega) ?_
 ·simp (disch:=omega)only[go_sem, *]<;>rfl
 simp only [List.foldl_cons,List.foldl_nil]
 generalize Am P2 C.chans.length=P3 at *
 simp (disch:=omega)only[go_sem, *]
 refine iR (B:=P3) (L:=C.chans) (k:=⟨3,[C.enc]⟩) ?_ ?_ ?_ (by omega) ?_ ?_ ?_ ?_ ?_ ?_
 any_goals (simp (disch:=omega)only[go_sem, *];done)
 any_goals (simp (disch:=omega)only[go_sem, *]<;>omega)
 have l4:=Kh LO C.chans P3
 generalize C.chans.foldl Cl P3=P4 at *
 clear e1 e3 hl hn g0 e h
 intro e h hl hn g0 e1 e3
 have l5:=Ak P4 C.tables.length
 simp only [Ah.enc] at g0
 simp (disch:=omega)only[go_sem, *]
 refine BE (B:=P4) [(C.tables.length:Int)] ?_ rfl (by simp;omega) ?_
 ·simp (disch:=omega)only[go_sem, *]<;>rfl
 simp only [List.foldl_cons,List.foldl_nil]
 generalize Am P4 C.tables.length=P5 at *
 simp (disch:=omega)only[go_sem, *]
 refine iT (B:=P5) (L:=C.tables) ?_ (by omega) htt ?_ ?_ ?_ ?_ ?_
 any_goals (simp (disch:=omega)only[go_sem, *];done)
 clear e1 e3 hl hn g0 e h
 intro e h hl e3
 simp (disch:=omega)only[go_sem, *]
end Go.Ab.T
namespace Go.Ab.T
open Go Go.Ab
set_option maxHeartbeats 2000000
theorem TK {C:Ah}:∀ (l:List (List Node)) (i:Nat),(Cz C i l).1=0→Cz C i l=(0,-1)
 | [],_,_=>rfl
 | t::l,i,h=>by
  unfold Cz at h ⊢
  by_cases q:D6 C t≠0
  ·rw [if_pos q] at h;exact absurd h q
  ·rw [if_neg q] at h ⊢;exact TK l _ h
theorem Qn {C:Ah}:∀ (l:List Ar) (i:Nat),(BF C i l).1=0→BF C i l=(0,-1)
 | [],_,h=>TK _ _ h
 | t::l,i,h=>by
  unfold BF at h ⊢
  by_cases q:C4 C.parts.length t=false
  ·rw [if_pos q] at h;cases h
  ·rw [if_neg q] at h ⊢;exact Qn l _ h
theorem Qo {C:Ah}:∀ (l:List Part) (i:Nat),(Bv C i l).1=0→Bv C i l=(0,-1)
 | [],_,h=>Qn _ _ h
 | p::l,i,h=>by
  unfold Bv at h ⊢
  by_cases q:EE p.name=false∨(C.parts.take i).any (fun q=>decide (q.name=p.name))=true
  ·rw [if_pos q] at h;cases h
  ·rw [if_neg q] at h ⊢
   by_cases q2:E6 p=false
   ·rw [if_pos q2] at h;cases h
   ·rw [if_neg q2] at h ⊢;exact Qo l _ h
theorem Lh {C:Ah} (h:(A1 C).1=0):A1 C=(0,-1):=by
 unfold A1 at h ⊢
 split
 ·rename_i q;rw [if_pos q] at h;cases h
 ·rename_i q;rw [if_neg q] at h;exact Qo _ _ h
theorem Kt {s:ByteArray} (h:EE s=true):s.size≤12:=by
 unfold EE at h;simp only [decide_eq_true_eq] at h;exact h.2.2
theorem Jn {L:List AN} (h:CH L=true):1≤L.length∧L.length≤3:=by
 refine ⟨?_, ?_⟩<;>refine Classical.byContradiction fun hn=>?_<;>rw [L3 (by omega)] at h<;>cases h
theorem Dr {C:Ah} (h:A1 C=(0,-1)):SF C∧Fs C:=by
 obtain ⟨⟨a1,a2,a3,a4,a5⟩,hg,hc,hT⟩:=Ds.1 h
 have hp:∀ p∈C.parts,p.name.size≤12∧p.procs.length≤3:=fun p hp=>by
  obtain ⟨j,hj,rfl⟩:=List.getElem_of_mem hp
  have g:=hg j hj
  have e:nth C.parts j=C.parts[j]:=BX hj
  rw [← e]
  refine ⟨Kt g.1,(Jn ?_).2⟩
  have:=g.2.2
  unfold E6 at this
  simp only [Bool.and_eq_true] at this
  exact this.1.1
 refine ⟨⟨by omega,by omega,by omega,fun p q=>by have:=hp p q;omega,fun t ht=>?_⟩,fun p q=>by have:=hp p q;omega⟩
 have g:=hT t ht
 rw [D7] at g
 have hr:=g.1.right
 unfold Bk at hr
 split at hr
 ·cases hr
 ·omega
noncomputable def Fd (C:Ah):List Int×Int:=if (A1 C).1=0 then (Ci C,0) else ([],(A1 C).1)
theorem Uq {B:List Int} {p:Part} (h1:p.name.size<1000) (h2:p.procs.length≤100):(Cb B p).length≤B.length+3000:=by
 unfold Cb
 have a:=Ak B p.name.size
 have b:=IZ p.name
 show _≤B.length+2955+9+9+9+9+9
 refine Nat.le_trans (Ak _ _) (Nat.add_le_add_right ?_ 9)
 refine Nat.le_trans (Ak _ _) (Nat.add_le_add_right ?_ 9)
 refine Nat.le_trans (Ak _ _) (Nat.add_le_add_right ?_ 9)
 refine Nat.le_trans (Ak _ _) (Nat.add_le_add_right ?_ 9)
 refine Nat.le_trans (Ak _ _) (Nat.add_le_add_right ?_ 9)
 refine Nat.le_trans (LQ _ _) ?_
 refine Nat.le_trans (Nat.add_le_add_left (Nat.mul_le_mul_left 18 h2) _) ?_
 show _≤B.length+1110+9+9+9+9+9+18*100
 refine Nat.add_le_add_right ?_ _
 refine Nat.le_trans (Ak _ _) (Nat.add_le_add_right ?_ 9)
 refine Nat.le_trans (CU _ _) (Nat.add_le_add_right ?_ 9)
 refine Nat.le_trans (CU _ _) (Nat.add_le_add_right ?_ 9)
 refine Nat.le_trans (Ak _ _) (Nat.add_le_add_right ?_ 9)
 refine Nat.le_trans (Ak _ _) (Nat.add_le_add_right ?_ 9)
 rw [List.length_append]
 omega
theorem ID {α:Type} {f:List Int→α→List Int} {k:Nat}:∀ (L:List α) (B:List Int),(∀ a∈L,∀ B,(f B a).length≤B.length+k)→(L.foldl f B).length≤B.length+k*L.length
 | [],B,_=>by simp
 | a::L,B,hf=>by
  have:=ID L (f B a) (fun x hx=>hf x (List.mem_cons_of_mem _ hx))
  have:=hf a (List.mem_cons_self ..) B
  simp only [List.foldl_cons,List.length_cons,Nat.mul_succ]
  omega
def Fe (C:Ah):List Int:=C.tables.foldl E2 (Am (C.chans.foldl Cl (Am (C.parts.foldl Cb (Am [72,79,82,65] C.parts.length)) C.chans.length)) C.tables.length)
theorem Iw {C:Ah} (hC:SF C):(Fe C).length<900000:=by
 obtain ⟨hp,hc,ht,hpp,htt⟩:=hC
 unfold Fe
 have a1:=Ak [72,79,82,65] C.parts.length
 have a2:=ID (f:=Cb) (k:=3000) C.parts (Am [72,79,82,65] C.parts.length) (fun p hp B=>Uq (hpp p hp).1 (hpp p hp).2)
 generalize C.parts.foldl Cb (Am [72,79,82,65] C.parts.length)=P2 at *
 have a3:=Ak P2 C.chans.length
 have a4:=Kh LO C.chans (Am P2 C.chans.length)
 generalize C.chans.foldl Cl (Am P2 C.chans.length)=P4 at *
 have a5:=Ak P4 C.tables.length
 have a6:=ID (f:=E2) (k:=19200) C.tables (Am P4 C.tables.length) (fun t q B=>by
  unfold E2
  have b1:=Ak B t.length
  have b2:=LP (Am B t.length) t
  have:=htt t q
  omega)
 simp only [List.length_cons,List.length_nil] at a1
 omega
theorem Dn {C:Ah}:BL (Fe C)=Ci C:=rfl
theorem Ej {C:Ah} (hnm:Fs C):Pf tp Yo [.agg C.enc] (.tup [.fl 1 ((Fd C).1.map Aj),.i .i64 (Fd C).2]):=by
 refine AD aFI (by simp [OP]) fun rp=>?_;unfold OP;simp (disch:=omega)only[go_sem, *]
 have hr:=aL hnm
 simp only [Ah.enc] at hr
 refine Pf.go (hr) (by simp only [go_sem]) fun _=>?_;simp (disch:=omega)only[go_sem, *]
 refine Aa (fun hc=>?_) (fun hc=>?_)
 ·have e:Fd C=([],(A1 C).1):=if_neg hc
  simp (disch:=omega)only[go_sem, *]
 ·have h0:(A1 C).1=0:=Decidable.not_not.1 hc
  have hw:=Lh h0
  have e:Fd C=(Ci C,0):=if_pos h0
  have hb:Pf tp S3 [.agg C.enc] (.fl 1 ((Fe C).map Aj)):=iU (Dr hw).1
  simp only [Ah.enc] at hb
  simp (disch:=omega)only[go_sem, *]
  refine Pf.go (hb) (by simp only [go_sem]) fun _=>?_;simp (disch:=omega)only[go_sem, *]
  have hbl:=Iw (Dr hw).1
  have hsl:=Sr (B:=Fe C) (by omega)
  rw [Dn] at hsl
  refine Pf.go (hsl) (by simp only [go_sem]) fun _=>?_;simp (disch:=omega)only[go_sem, *]
theorem Hp {C:Ah} (hnm:Fs C):Pf tp Yq [.agg C.enc] (.i .i64 (Fd C).1.length):=by
 refine AD aFL (by simp [OT]) fun rp=>?_;unfold OT;simp (disch:=omega)only[go_sem, *]
 have hr:=Ej hnm
 simp only [Ah.enc] at hr
 refine Pf.go (hr) (by simp only [go_sem]) fun _=>?_;simp (disch:=omega)only[go_sem, *]
end Go.Ab.T
namespace Go.Ab.T
open Go Go.Ab
set_option maxHeartbeats 2000000
theorem Q3:∀ k:Fin 256,((BitVec.ofInt 8 (k.val:Int) &&& ~~~(BitVec.ofInt 8 128)).toNat:Nat)=k.val % 128:=by decide +kernel
theorem UX {k:Int} (h0:0≤k) (h1:k<256):Bt .andNot (.i .u8 k) (.i .u8 128)=some (.i .u8 (k % 128)):=by
 obtain ⟨m,rfl⟩:∃ m:Nat,k=m:=⟨k.toNat,by omega⟩
 have h:((BitVec.ofInt 8 (m:Int) &&& ~~~(BitVec.ofInt 8 128)).toNat:Nat)=m % 128:=Q3 ⟨m,by omega⟩
 show some (V.i .u8 (IntKind.wrap .u8 ((BitVec.ofInt 8 (m:Int) &&& ~~~(BitVec.ofInt 8 128)).toNat:Int)))=_
 rw [h,Dd]
 congr 2
 omega
theorem Tw (a:Int):Bt .shl (.i .u64 a) (.i .u64 8)=some (.i .u64 (IntKind.wrap .u64 (a*256))):=rfl
theorem or8 {u c:Int} (h0:0≤c) (h1:c<256):IntKind.wrap .u64 ((BitVec.ofInt 64 (IntKind.wrap .u64 (u*256)) ||| BitVec.ofInt 64 (IntKind.wrap .u64 c)).toNat:Int)=IntKind.wrap .u64 (u*256)+c:=by
 have e:IntKind.wrap .u64 (u*256)=256*(u % 72057594037927936):=by rw [GC];omega
 have e2:IntKind.wrap .u64 c=c:=by rw [GC];omega
 rw [e,e2]
 obtain ⟨q,hq⟩:∃ q:Nat,u % 72057594037927936=q:=⟨(u % 72057594037927936).toNat,by omega⟩
 have hq1:q<72057594037927936:=by omega
 obtain ⟨d,rfl⟩:∃ d:Nat,c=d:=⟨c.toNat,by omega⟩
 rw [hq]
 have h2:(BitVec.ofInt 64 (256*(q:Int)) ||| BitVec.ofInt 64 (d:Int)).toNat=256*q+d:=by
  rw [BitVec.toNat_or,BitVec.toNat_ofInt,BitVec.toNat_ofInt]
  have a1:(256*(q:Int) % ((2 ^ 64:Nat):Int)).toNat=q <<< 8:=by rw [Nat.shiftLeft_eq];omega
  have a2:((d:Int) % ((2 ^ 64:Nat):Int)).toNat=d:=by omega
  rw [a1,a2,←Nat.shiftLeft_add_eq_or_of_lt (show d<2 ^ 8 by omega),Nat.shiftLeft_eq]
  omega
 rw [h2,GC]
 omega
theorem jF {K : Ex → Env → AH → Prop} {e : Env} {l : List Int} {v0 v4 : V} {h : AH} (hb : Az l) (e0 : e 0 = v0) (e4 : e 4 = v4) (e5 : e 5 = .i .u64 0) (e28 : e 28 = .fl 1 (l.map Aj)) (e29 : e 29 = .i .i64 l.length) (e30 : e 30 = .i .i64 0) (hll : l.length < 100)
    (kk:∀ e:Env,e 0=v0→e 4=v4→e 5=.i .u64 (Eu l 0)→K (.ex 0) e h):ZC tp (.loop Mn) e h K:=by
 refine Ae (fun n' e hh=>∃ (i:Nat) (u:Int),n'=l.length - i∧hh=h∧e 0=v0∧e 4=v4∧e 5=.i .u64 u∧e 28=.fl 1 (l.map Aj)∧e 29=.i .i64 l.length∧e 30=.i .i64 i∧i≤l.length∧Eu (l.drop i) u=Eu l 0) ?_ _ _ _ ⟨0,0,rfl,rfl,e0,e4,e5,e28,e29,e30,by omega,rfl⟩
 clear e0 e4 e5 e28 e29 e30 e
 rintro n' e hh ⟨i,u,rfl,rfl,e0,e4,e5,e28,e29,e30,hi,hz⟩ ih
 have o1:=Tw
 rw [Ai Mn.eq_1]
 simp (disch:=omega)only[go_sem, *]
 refine Aa (fun hc=>?_) (fun hc=>?_)
 ·rw [Ax (by omega),Eu] at hz
  have hbi:=hb _ (Bm (L:=l) (j:=i) (by omega))
  have o3:=or8 (u:=u) hbi.1 hbi.2
  simp (disch:=omega)only[go_sem, *]
  refine ih _ _ _ ?_ ⟨i+1,IntKind.wrap .u64 (u*256)+nth l i,rfl, ?_⟩
  ·omega
  ·clear ih kk
   simp (disch:=omega)only[go_sem, *]
   all_goals ((repeat' refine And.intro ?_ ?_)<;>first | omega | assumption | (exact congrArg (V.i .u64) o3))
 ·rw [List.drop_eq_nil_of_le (by omega),Eu] at hz
  simp (disch:=omega)only[go_sem, *]
  refine kk _ ?_ ?_ ?_<;>simp (disch:=omega)only[go_sem, *]
theorem Az.tail {k:Int} {l:List Int} (h:Az (k::l)):Az l:=fun z hz=>h z (List.mem_cons_of_mem _ hz)
theorem Az.take {n:Nat} {l:List Int} (h:Az l):Az (l.take n):=fun z hz=>h z (List.mem_of_mem_take hz)
theorem SQ {b:List Int} (hb:Az b):Pf tp Rv [.fl 1 (b.map Aj)] (.tup [.i .i64 (Bg b).1,.i .i64 (Bg b).2]):=by
 refine AD kG (by simp [KV]) fun rp=>?_
 have hL:=rp.head.len
 unfold KV
 by_cases hne:b=[]
 ·subst hne
  simp (disch:=omega)only[go_sem, *]
  exact ⟨rfl,rfl⟩
 ·obtain ⟨k0,r,hbe⟩:∃ k0 r,k0::r=b:=by cases b with | nil=>exact absurd rfl hne | cons k r=>exact ⟨k,r,rfl⟩
  obtain ⟨h0,h1⟩:=hb k0 (by rw [← hbe];exact List.mem_cons_self ..)
  have o1:=UX h0 h1
  have hn:nth b 0=k0:=by rw [← hbe];rfl
  have hlb:b.length=r.length+1:=by rw [← hbe];rfl
  have mt:∀ n,List.take n (b.map Aj)=(b.take n).map Aj:=fun n=>List.map_take.symm
  have md:∀ n m,List.take m (List.drop n (b.map Aj))=((b.drop n).take m).map Aj:=fun n m=>by rw [List.map_take,List.map_drop]
  have md2:∀ n m,List.drop m (List.take n (b.map Aj))=((b.take n).drop m).map Aj:=fun n m=>by rw [List.map_drop,List.map_take]
  clear hne
  obtain ⟨k,hk⟩:∃ k:Nat,k0 % 128=k:=⟨(k0 % 128).toNat,by omega⟩
  rw [hk] at o1
  simp (disch:=omega)only[go_sem, *]
  refine Aa (fun hc=>absurd hc (by omega)) (fun _=>?_)
  simp (disch:=omega)only[go_sem, *]
  have hg:Bg b=(if 8<k∨r.length<k then (0,0) else if Am [] (Gg k0 (r.take k))=k0::r.take k then (Gg k0 (r.take k),k+1) else (0,0)):=by
   rw [← hbe,Bg,hk]
   simp
  have bad:8<k∨r.length<k→Bg b=(0,0):=fun q=>by rw [hg,if_pos q]
  refine Aq (fun hc=>?_) (fun hc=>?_)
  ·have e:=bad (.inl (by omega))
   clear bad hg
   simp (disch:=omega)only[go_sem, *]
  ·simp (disch:=omega)only[go_sem, *]
   refine Aa (fun hc2=>?_) (fun hc2=>?_)
   ·have e:=bad (.inr (by omega))
    clear bad hg
    simp (disch:=omega)only[go_sem, *]
   ·rw [if_neg (by omega)] at hg
    have e1:(b.drop 1).take k=r.take k:=by rw [← hbe];rfl
    obtain ⟨T,hT⟩:∃ T,k0::r.take k=T:=⟨_,rfl⟩
    have e2:b.take (k+1)=T:=by rw [← hbe,←hT];rfl
    rw [hT] at hg
    have e3:(1+(k:Int)).toNat=k+1:=by omega
    have hlt:(r.take k).length=k:=by rw [List.length_take];omega
    have ib:Az (r.take k):=by
     have:Az r:=Az.tail (k:=k0) (by rw [hbe];exact hb)
     exact this.take
    clear bad hbe hT
    simp (disch:=omega)only[go_sem, *]
    refine jF (l:=r.take k) (v0:=.fl 1 (b.map Aj)) (v4:=.i .i64 k) ib ?_ ?_ ?_ ?_ ?_ ?_ ?_ ?_
    any_goals (simp (disch:=omega)only[go_sem, *];done)
    ·rw [hlt];omega
    intro e f0 f4 f5
    clear ib
    simp (disch:=omega)only[go_sem, *]
    refine Aa (fun hc3=>?_) (fun hc3=>?_)
    ·have hnum:Gg k0 (r.take k)=IntKind.wrap .i64 (0 - IntKind.wrap .i64 (Eu (r.take k) 0)):=if_pos hc3
     rw [hnum] at hg
     clear hnum
     generalize Eu (r.take k) 0=u at *
     simp (disch:=omega)only[go_sem, *]
     refine JE (b:=.ns) (B:=[]) (n:=IntKind.wrap .i64 (0 - IntKind.wrap .i64 u)) (Nat.le_refl _) .ns rfl rfl (by simp) ?_
     intro q h2 s2 x2
     have hpl:=Ak [] (IntKind.wrap .i64 (0 - IntKind.wrap .i64 u))
     rw [List.length_nil] at hpl
     simp (disch:=omega)only[go_sem, *]
     refine Pf.look (GK (L:=Am [] (IntKind.wrap .i64 (0 - IntKind.wrap .i64 u))) (M:=T)) (.cons _ _ _ _ _ (Sl.froze (Sl.raise (Sl.back (l:=0) s2)) (fun _=>rfl) trivial (by omega)) (.cons _ _ _ _ _ (.fl _ _ _) (.nil _))) rfl fun _=>?_
     simp (disch:=omega)only[go_sem, *]
     refine Aa (fun hc4=>?_) (fun hc4=>?_)
     ·rw [if_neg hc4] at hg
      simp (disch:=omega)only[go_sem, *]
     ·rw [if_pos (Decidable.not_not.1 hc4)] at hg
      simp (disch:=omega)only[go_sem, *]
      omega
    ·have hnum:Gg k0 (r.take k)=IntKind.wrap .i64 (Eu (r.take k) 0):=if_neg hc3
     rw [hnum] at hg
     clear hnum
     generalize Eu (r.take k) 0=u at *
     simp (disch:=omega)only[go_sem, *]
     refine JE (b:=.ns) (B:=[]) (n:=IntKind.wrap .i64 u) (Nat.le_refl _) .ns rfl rfl (by simp) ?_
     intro q h2 s2 x2
     have hpl:=Ak [] (IntKind.wrap .i64 u)
     rw [List.length_nil] at hpl
     simp (disch:=omega)only[go_sem, *]
     refine Pf.look (GK (L:=Am [] (IntKind.wrap .i64 u)) (M:=T)) (.cons _ _ _ _ _ (Sl.froze (Sl.raise (Sl.back (l:=0) s2)) (fun _=>rfl) trivial (by omega)) (.cons _ _ _ _ _ (.fl _ _ _) (.nil _))) rfl fun _=>?_
     simp (disch:=omega)only[go_sem, *]
     refine Aa (fun hc4=>?_) (fun hc4=>?_)
     ·rw [if_neg hc4] at hg
      simp (disch:=omega)only[go_sem, *]
     ·rw [if_pos (Decidable.not_not.1 hc4)] at hg
      simp (disch:=omega)only[go_sem, *]
      omega
theorem GL {b:List Int}:(Bg b).2≤b.length:=by
 by_cases h:0<(Bg b).2
 ·exact (Uw h).2
 ·omega
theorem iY {b:List Int} {m:Int} (hb:Az b) (hm:m≤1000):Pf tp RJ [.fl 1 (b.map Aj),.i .i64 m] (.tup [.s (bC (DN b m).1),.i .i64 (DN b m).2]):=by
 refine AD kU (by simp [La]) fun rp=>?_
 have hL:=rp.head.len
 have hg:=SQ hb
 have hbd:=GL (b:=b)
 unfold La
 simp (disch:=omega)only[go_sem, *]
 refine Pf.go (hg) (by simp only [go_sem]) fun _=>?_;simp (disch:=omega)only[go_sem, *]
 clear hg
 have mt:∀ n m,List.take m (List.drop n (b.map Aj))=((b.drop n).take m).map Aj:=fun n m=>by rw [List.map_take,List.map_drop]
 have md2:∀ n m,List.drop m (List.take n (b.map Aj))=((b.take n).drop m).map Aj:=fun n m=>by rw [List.map_drop,List.map_take]
 have bad:(Bg b).2=0∨(Bg b).1<0∨m<(Bg b).1∨(b.length:Int) - (Bg b).2<(Bg b).1→DN b m=([],0):=fun q=>if_pos q
 have good:¬ ((Bg b).2=0∨(Bg b).1<0∨m<(Bg b).1∨(b.length:Int) - (Bg b).2<(Bg b).1)→DN b m=((b.drop (Bg b).2).take (Bg b).1.toNat,(Bg b).2+(Bg b).1.toNat):=fun q=>if_neg q
 generalize Bg b=p at *
 obtain ⟨n,k⟩:=p
 simp only at bad good hbd
 simp (disch:=omega)only[go_sem, *]
 refine Aq (fun hc=>?_) (fun hc=>?_)
 ·have e:=bad (.inl (by omega))
  clear bad good
  simp (disch:=omega)only[go_sem, *]
  rfl
 ·simp (disch:=omega)only[go_sem, *]
  refine Aq (fun hc2=>?_) (fun hc2=>?_)
  ·have e:=bad (.inr (.inl hc2))
   clear bad good
   simp (disch:=omega)only[go_sem, *]
   rfl
  ·simp (disch:=omega)only[go_sem, *]
   refine Aa (fun hc3=>?_) (fun hc3=>?_)
   ·have e:=bad (by omega)
    clear bad good
    simp (disch:=omega)only[go_sem, *]
    rfl
   ·have e:=good (by omega)
    obtain ⟨w,rfl⟩:∃ w:Nat,n=w:=⟨n.toNat,by omega⟩
    have h1:((k:Int)+(w:Int)).toNat=k+w:=by omega
    have h2:k+w - k=w:=by omega
    rw [Int.toNat_natCast] at e
    clear bad good
    simp (disch:=omega)only[go_sem, *]
    rfl
end Go.Ab.T
