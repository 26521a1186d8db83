/- Part of a proof that a law returns true for every input of the second form's bound (no other condition). -/
import Derived.Test.YtcjjajphbamjlaaGreatPH
import Derived.Test.YtcjjajphbamjlaaGreatPG
import Derived.Test.YtcjjajphbamjlaaGreatPF
set_option linter.all false
namespace Go.Ab.T
open Go Go.Ab
set_option maxHeartbeats 4000000
def BJ (B:List Int) (f:Bool):List Int:=Am B (if f=true then 1 else 0)
def B1 (B:List Int) (p:AO):List Int:=Am (Am B p.entry) p.prio
def Cc (B:List Int) (p:Part):List Int:=Am (Am (Am (Am (Am (p.procs.foldl B1 (Am (BJ (BJ (Am (Am (Am B p.name.size++sB p.name) p.budget) p.period) p.sched) p.stop) p.procs.length)) p.h0) p.h1) p.h2) p.h3) p.h4
def Ck (B:List Int) (x:Ar):List Int:=Am (Am (Am (BJ (Am (Am B x.src) x.dst) x.queue) x.cap) (IntKind.wrap .i64 x.top)) x.late
def CV (B:List Int) (n:Node):List Int:=Am (Am (Am B n.kind) n.part) n.n
def ET (B:List Int) (t:List Node):List Int:=t.foldl CV (Am B t.length)
def Bt (C:Ah):List Int:=BL (C.tables.foldl ET (Am (C.chans.foldl Ck (Am (C.parts.foldl Cc (Am [72,79,82,65] C.parts.length)) C.chans.length)) C.tables.length))
theorem CT (B:List Int) (f:Bool):(BJ B f).length≤B.length+9:=Ak _ _
theorem aE0 {K : Ex → Env → AH → Prop} {e : Env} {h0 h' : AH} {v : V} {B : List Int} {L : List AO} {bx : Nat} {row : List V} {i : Nat} {v23 : V} {n24 : Int} (x0 : AK h0 h') (hl0 : h0.lim = 0) (s : Sl 0 h' 1 v (B.map Aj)) (hB : B.length + 18 * L.length < 900000) (hb : h'.get bx = some ⟨11, [row]⟩) (hbl : bx < h'.next)
    (e1:e 1=.p 0 0 0) (e3:e 3=v) (e5:e 5=.p bx 0 0) (e23:e 23=v23) (e24:e 24=.i .i64 n24) (e25:e 25=.i .i64 i) (e51:e 51=.fl 2 (L.map AO.enc)) (e52:e 52=.i .i64 L.length) (e53:e 53=.i .i64 0)
    (kk:∀ e' h2 v,e' 1=.p 0 0 0→e' 3=v→e' 5=.p bx 0 0→e' 23=v23→e' 24=.i .i64 n24→e' 25=.i .i64 i→AK h0 h2→Sl 0 h2 1 v ((L.foldl B1 B).map Aj)→(L.foldl B1 B).length≤B.length+18*L.length→h2.get bx=some ⟨11,[row]⟩→bx<h2.next→K (.ex 2) e' h2):ZC tp (.loop P6) e h' K:=by
 refine Ae (fun n' e hh=>∃ (q:Nat) (v:V) (A:List Int),n'=L.length - q∧AK h0 hh∧e 1=.p 0 0 0∧e 3=v∧e 5=.p bx 0 0∧e 23=v23∧e 24=.i .i64 n24∧e 25=.i .i64 i∧e 51=.fl 2 (L.map AO.enc)∧e 52=.i .i64 L.length∧e 53=.i .i64 q∧q≤L.length∧Sl 0 hh 1 v (A.map Aj)∧A.length≤B.length+18*q∧hh.get bx=some ⟨11,[row]⟩∧bx<hh.next∧(L.drop q).foldl B1 A=L.foldl B1 B) ?_ _ _ _ ⟨0,v,B,rfl,x0,e1,e3,e5,e23,e24,e25,e51,e52,e53,by omega,s,by omega,hb,hbl,rfl⟩
 clear e1 e3 e5 e23 e24 e25 e51 e52 e53 e x0 s hb hbl
 rintro n' e hh ⟨q,v,A,rfl,xx,e1,e3,e5,e23,e24,e25,e51,e52,e53,hq,s,hA,hb,hbl,hz⟩ ih
 have hlq:hh.lim≤hh.next:=by rw [xx.lim,hl0];exact Nat.zero_le _
 have hl00:hh.lim≤0:=by rw [xx.lim,hl0];exact Nat.le_refl _
 rw [Ai P6.eq_1]
 have hz1:=hz
 clear hz
 simp (disch:=omega)only[go_sem, *]
 refine Aa (fun hc=>?_) (fun hc=>?_)
 ·rw [Ax (by omega),List.foldl_cons] at hz1
  have x1:AK hh ((hh.alloc ⟨2,[[.i .i64 0,.i .i64 0]]⟩).put hh.next ⟨2,[[.i .i64 (nth L q).entry,.i .i64 (nth L q).prio]]⟩):=by (repeat (first | exact AK.refl _ | refine AK.alloc ?_ _ | (refine AK.put ?_ _ _ ?_;rotate_left;(first | omega | (simp only [Ag,AB];omega)))))
  have b1:((hh.alloc ⟨2,[[.i .i64 0,.i .i64 0]]⟩).put hh.next ⟨2,[[.i .i64 (nth L q).entry,.i .i64 (nth L q).prio]]⟩).get hh.next=some ⟨2,[[.i .i64 (nth L q).entry,.i .i64 (nth L q).prio]]⟩:=by rw [Ad,AC rfl]
  have n1:hh.next<((hh.alloc ⟨2,[[.i .i64 0,.i .i64 0]]⟩).put hh.next ⟨2,[[.i .i64 (nth L q).entry,.i .i64 (nth L q).prio]]⟩).next:=Nat.lt_succ_self _
  have s1:=s.ext x1
  simp (disch:=omega)only[go_sem, *]
  generalize (hh.alloc ⟨2,[[.i .i64 0,.i .i64 0]]⟩).put hh.next ⟨2,[[.i .i64 (nth L q).entry,.i .i64 (nth L q).prio]]⟩=h1 at x1 b1 n1 s1 ⊢
  refine Bw (by simp only [Bh,A9];exact Nat.le_refl _) (s1).raise (by omega)  ?_
  intro r2 k2 t2 y2
  have x2:AK h1 (k2.back (h1).lim):=⟨y2.next,rfl,y2.get⟩
  have s2:Sl 0 (k2.back (h1).lim) 1 r2 _:=Sl.weak t2 (Nat.zero_le _)
  have hb2:=(x2.get _ n1).trans (b1)
  have lt2:=Nat.lt_of_lt_of_le n1 x2.next
  have len2:=(Ak A (nth L q).entry)
  clear t2 y2
  simp (disch:=omega)only[go_sem, *]
  generalize k2.back (h1).lim=g2 at x2 s2 hb2 lt2 ⊢
  refine Bw (by simp only [Bh,A9];exact Nat.le_refl _) (s2).raise (by omega)  ?_
  intro r3 k3 t3 y3
  have x3:AK g2 (k3.back (g2).lim):=⟨y3.next,rfl,y3.get⟩
  have s3:Sl 0 (k3.back (g2).lim) 1 r3 _:=Sl.weak t3 (Nat.zero_le _)
  have hb3:=(x3.get _ lt2).trans (hb2)
  have lt3:=Nat.lt_of_lt_of_le lt2 x3.next
  have len3:=(Ak (Am A (nth L q).entry) (nth L q).prio)
  clear t3 y3
  simp (disch:=omega)only[go_sem, *]
  generalize k3.back (g2).lim=g3 at x3 s3 hb3 lt3 ⊢
  have xn:=xx.trans (x1.trans (x2.trans x3))
  have hbn:=((x1.trans (x2.trans x3)).get bx hbl).trans hb
  have hbl2:bx<g3.next:=Nat.lt_of_lt_of_le hbl (x1.trans (x2.trans x3)).next
  have lA:(B1 A (nth L q)).length≤B.length+18*(q+1):=by unfold B1;omega
  refine ih _ _ _ ?_ ⟨q+1,r3,B1 A (nth L q),rfl, ?_⟩
  ·omega
  ·have hz3:=hz1
   clear hz1 ih kk
   simp (disch:=omega)only[go_sem, *]
   all_goals ((repeat' refine And.intro ?_ ?_)<;>first | omega | assumption | (exact xn) | (exact s3) | (exact lA) | (exact hbn) | (exact hz3))
 ·rw [List.drop_eq_nil_of_le (by omega),List.foldl_nil] at hz1
  have f:=kk
  clear kk
  simp (disch:=omega)only[go_sem, *]
  exact f _ hh v e1 e3 e5 e23 e24 e25 xx (by rw [← hz1];exact s) (by rw [← hz1];omega) hb hbl
theorem aE4 {K : Ex → Env → AH → Prop} {e : Env} {h0 h' : AH} {v : V} {B : List Int} {L : List Node} {i : Nat} {v115 : V} {n116 : Int} (x0 : AK h0 h') (hl0 : h0.lim = 0) (s : Sl 0 h' 1 v (B.map Aj)) (hB : B.length + 27 * L.length < 900000)
    (e3:e 3=v) (e115:e 115=v115) (e116:e 116=.i .i64 n116) (e117:e 117=.i .i64 i) (e125:e 125=.fl 3 (L.map Node.enc)) (e126:e 126=.i .i64 L.length) (e127:e 127=.i .i64 0)
    (kk:∀ e' h2 v,e' 3=v→e' 115=v115→e' 116=.i .i64 n116→e' 117=.i .i64 i→AK h0 h2→Sl 0 h2 1 v ((L.foldl CV B).map Aj)→(L.foldl CV B).length≤B.length+27*L.length→K (.ex 10) e' h2):ZC tp (.loop P9) e h' K:=by
 refine Ae (fun n' e hh=>∃ (q:Nat) (v:V) (A:List Int),n'=L.length - q∧AK h0 hh∧e 3=v∧e 115=v115∧e 116=.i .i64 n116∧e 117=.i .i64 i∧e 125=.fl 3 (L.map Node.enc)∧e 126=.i .i64 L.length∧e 127=.i .i64 q∧q≤L.length∧Sl 0 hh 1 v (A.map Aj)∧A.length≤B.length+27*q∧(L.drop q).foldl CV A=L.foldl CV B) ?_ _ _ _ ⟨0,v,B,rfl,x0,e3,e115,e116,e117,e125,e126,e127,by omega,s,by omega,rfl⟩
 clear e3 e115 e116 e117 e125 e126 e127 e x0 s
 rintro n' e hh ⟨q,v,A,rfl,xx,e3,e115,e116,e117,e125,e126,e127,hq,s,hA,hz⟩ ih
 have hlq:hh.lim≤hh.next:=by rw [xx.lim,hl0];exact Nat.zero_le _
 have hl00:hh.lim≤0:=by rw [xx.lim,hl0];exact Nat.le_refl _
 rw [Ai P9.eq_1]
 have hz1:=hz
 clear hz
 simp (disch:=omega)only[go_sem, *]
 refine Aa (fun hc=>?_) (fun hc=>?_)
 ·rw [Ax (by omega),List.foldl_cons] at hz1
  have x1:AK hh ((hh.alloc ⟨3,[[.i .i64 0,.i .i64 0,.i .i64 0]]⟩).put hh.next ⟨3,[[.i .i64 (nth L q).kind,.i .i64 (nth L q).part,.i .i64 (nth L q).n]]⟩):=by (repeat (first | exact AK.refl _ | refine AK.alloc ?_ _ | (refine AK.put ?_ _ _ ?_;rotate_left;(first | omega | (simp only [Ag,AB];omega)))))
  have b1:((hh.alloc ⟨3,[[.i .i64 0,.i .i64 0,.i .i64 0]]⟩).put hh.next ⟨3,[[.i .i64 (nth L q).kind,.i .i64 (nth L q).part,.i .i64 (nth L q).n]]⟩).get hh.next=some ⟨3,[[.i .i64 (nth L q).kind,.i .i64 (nth L q).part,.i .i64 (nth L q).n]]⟩:=by rw [Ad,AC rfl]
  have n1:hh.next<((hh.alloc ⟨3,[[.i .i64 0,.i .i64 0,.i .i64 0]]⟩).put hh.next ⟨3,[[.i .i64 (nth L q).kind,.i .i64 (nth L q).part,.i .i64 (nth L q).n]]⟩).next:=Nat.lt_succ_self _
  have s1:=s.ext x1
  simp (disch:=omega)only[go_sem, *]
  generalize (hh.alloc ⟨3,[[.i .i64 0,.i .i64 0,.i .i64 0]]⟩).put hh.next ⟨3,[[.i .i64 (nth L q).kind,.i .i64 (nth L q).part,.i .i64 (nth L q).n]]⟩=h1 at x1 b1 n1 s1 ⊢
  refine Bw (by simp only [Bh,A9];exact Nat.le_refl _) (s1).raise (by omega)  ?_
  intro r2 k2 t2 y2
  have x2:AK h1 (k2.back (h1).lim):=⟨y2.next,rfl,y2.get⟩
  have s2:Sl 0 (k2.back (h1).lim) 1 r2 _:=Sl.weak t2 (Nat.zero_le _)
  have hb2:=(x2.get _ n1).trans (b1)
  have lt2:=Nat.lt_of_lt_of_le n1 x2.next
  have len2:=(Ak A (nth L q).kind)
  clear t2 y2
  simp (disch:=omega)only[go_sem, *]
  generalize k2.back (h1).lim=g2 at x2 s2 hb2 lt2 ⊢
  refine Bw (by simp only [Bh,A9];exact Nat.le_refl _) (s2).raise (by omega)  ?_
  intro r3 k3 t3 y3
  have x3:AK g2 (k3.back (g2).lim):=⟨y3.next,rfl,y3.get⟩
  have s3:Sl 0 (k3.back (g2).lim) 1 r3 _:=Sl.weak t3 (Nat.zero_le _)
  have hb3:=(x3.get _ lt2).trans (hb2)
  have lt3:=Nat.lt_of_lt_of_le lt2 x3.next
  have len3:=(Ak (Am A (nth L q).kind) (nth L q).part)
  clear t3 y3
  simp (disch:=omega)only[go_sem, *]
  generalize k3.back (g2).lim=g3 at x3 s3 hb3 lt3 ⊢
  refine Bw (by simp only [Bh,A9];exact Nat.le_refl _) (s3).raise (by omega)  ?_
  intro r4 k4 t4 y4
  have x4:AK g3 (k4.back (g3).lim):=⟨y4.next,rfl,y4.get⟩
  have s4:Sl 0 (k4.back (g3).lim) 1 r4 _:=Sl.weak t4 (Nat.zero_le _)
  have hb4:=(x4.get _ lt3).trans (hb3)
  have lt4:=Nat.lt_of_lt_of_le lt3 x4.next
  have len4:=(Ak (Am (Am A (nth L q).kind) (nth L q).part) (nth L q).n)
  clear t4 y4
  simp (disch:=omega)only[go_sem, *]
  generalize k4.back (g3).lim=g4 at x4 s4 hb4 lt4 ⊢
  have xn:=xx.trans (x1.trans (x2.trans (x3.trans x4)))
  have lA:(CV A (nth L q)).length≤B.length+27*(q+1):=by unfold CV;omega
  refine ih _ _ _ ?_ ⟨q+1,r4,CV A (nth L q),rfl, ?_⟩
  ·omega
  ·have hz3:=hz1
   clear hz1 ih kk
   simp (disch:=omega)only[go_sem, *]
   all_goals ((repeat' refine And.intro ?_ ?_)<;>first | omega | assumption | (exact xn) | (exact s4) | (exact lA) | (exact hz3))
 ·rw [List.drop_eq_nil_of_le (by omega),List.foldl_nil] at hz1
  have f:=kk
  clear kk
  simp (disch:=omega)only[go_sem, *]
  exact f _ hh v e3 e115 e116 e117 xx (by rw [← hz1];exact s) (by rw [← hz1];omega)
theorem aE5 {K : Ex → Env → AH → Prop} {e : Env} {h0 h' : AH} {v : V} {B : List Int} {L : List (List Node)} (x0 : AK h0 h') (hl0 : h0.lim = 0) (s : Sl 0 h' 1 v (B.map Aj)) (hB : B.length + 20000 * L.length < 800000) (hT : ∀ t ∈ L, t.length ≤ 710)
    (e3:e 3=v) (e115:e 115=.fl 1 (L.map Tab.enc)) (e116:e 116=.i .i64 L.length) (e117:e 117=.i .i64 0)
    (kk:∀ e' h2 v,e' 3=v→AK h0 h2→Sl 0 h2 1 v ((L.foldl ET B).map Aj)→(L.foldl ET B).length≤B.length+20000*L.length→K (.ex 8) e' h2):ZC tp (.loop Qa) e h' K:=by
 refine Ae (fun n' e hh=>∃ (q:Nat) (v:V) (A:List Int),n'=L.length - q∧AK h0 hh∧e 3=v∧e 115=.fl 1 (L.map Tab.enc)∧e 116=.i .i64 L.length∧e 117=.i .i64 q∧q≤L.length∧Sl 0 hh 1 v (A.map Aj)∧A.length≤B.length+20000*q∧(L.drop q).foldl ET A=L.foldl ET B) ?_ _ _ _ ⟨0,v,B,rfl,x0,e3,e115,e116,e117,by omega,s,by omega,rfl⟩
 clear e3 e115 e116 e117 e x0 s
 rintro n' e hh ⟨q,v,A,rfl,xx,e3,e115,e116,e117,hq,s,hA,hz⟩ ih
 have hlq:hh.lim≤hh.next:=by rw [xx.lim,hl0];exact Nat.zero_le _
 rw [Ai Qa.eq_1]
 have hz1:=hz
 clear hz
 simp (disch:=omega)only[go_sem, *]
 refine Aa (fun hc=>?_) (fun hc=>?_)
 ·rw [Ax (by omega),List.foldl_cons] at hz1
  have ht:=hT _ (Bl (L:=L) (j:=q) (by omega))
  simp (disch:=omega)only[go_sem, *]
  refine Bw hlq s (by omega) ?_
  intro r2 h2 s2 x2
  have l2:=Ak A (nth L q).length
  have s2:=Sl.weak s2 (Nat.zero_le _)
  simp (disch:=omega)only[go_sem, *]
  refine aE4 (L:=nth L q) (i:=q) (v115:=.fl 1 (L.map Tab.enc)) (n116:=L.length) (xx.trans x2) hl0 s2 (by omega) (by simp (disch:=omega)only[go_sem, *]) (by simp (disch:=omega)only[go_sem, *]) (by simp (disch:=omega)only[go_sem, *]) (by simp (disch:=omega)only[go_sem, *]) (by simp (disch:=omega)only[go_sem, *]) (by simp (disch:=omega)only[go_sem, *]) (by simp (disch:=omega)only[go_sem, *]) ?_
  intro e' h3 v3 f3 f115 f116 f117 x3 s3 l3
  have lA:(ET A (nth L q)).length≤B.length+20000*(q+1):=by unfold ET;omega
  simp (disch:=omega)only[go_sem, *]
  refine ih _ _ _ ?_ ⟨q+1,v3,ET A (nth L q),rfl, ?_⟩
  ·omega
  ·have hz3:=hz1
   clear hz1 ih kk
   simp (disch:=omega)only[go_sem, *]
   all_goals ((repeat' refine And.intro ?_ ?_)<;>first | omega | assumption | (exact x3) | (exact s3) | (exact lA) | (exact hz3))
 ·rw [List.drop_eq_nil_of_le (by omega),List.foldl_nil] at hz1
  have f:=kk
  clear kk
  simp (disch:=omega)only[go_sem, *]
  exact f _ hh v e3 xx (by rw [← hz1];exact s) (by rw [← hz1];omega)
theorem aE3 {K : Ex → Env → AH → Prop} {e : Env} {h0 h' : AH} {v : V} {B : List Int} {L : List Ar} (x0 : AK h0 h') (hl0 : h0.lim = 0) (s : Sl 0 h' 1 v (B.map Aj)) (hB : B.length + 54 * L.length < 900000)
    (e1:e 1=.p 0 0 0) (e3:e 3=v) (e81:e 81=.fl 6 (L.map Ar.enc)) (e82:e 82=.i .i64 L.length) (e83:e 83=.i .i64 0)
    (kk:∀ e' h2 v,e' 1=.p 0 0 0→e' 3=v→AK h0 h2→Sl 0 h2 1 v ((L.foldl Ck B).map Aj)→(L.foldl Ck B).length≤B.length+54*L.length→K (.ex 6) e' h2):ZC tp (.loop P8) e h' K:=by
 refine Ae (fun n' e hh=>∃ (q:Nat) (v:V) (A:List Int),n'=L.length - q∧AK h0 hh∧e 1=.p 0 0 0∧e 3=v∧e 81=.fl 6 (L.map Ar.enc)∧e 82=.i .i64 L.length∧e 83=.i .i64 q∧q≤L.length∧Sl 0 hh 1 v (A.map Aj)∧A.length≤B.length+54*q∧(L.drop q).foldl Ck A=L.foldl Ck B) ?_ _ _ _ ⟨0,v,B,rfl,x0,e1,e3,e81,e82,e83,by omega,s,by omega,rfl⟩
 clear e1 e3 e81 e82 e83 e x0 s
 rintro n' e hh ⟨q,v,A,rfl,xx,e1,e3,e81,e82,e83,hq,s,hA,hz⟩ ih
 have hlq:hh.lim≤hh.next:=by rw [xx.lim,hl0];exact Nat.zero_le _
 have hl00:hh.lim≤0:=by rw [xx.lim,hl0];exact Nat.le_refl _
 rw [Ai P8.eq_1]
 have hz1:=hz
 clear hz
 simp (disch:=omega)only[go_sem, *]
 refine Aa (fun hc=>?_) (fun hc=>?_)
 ·rw [Ax (by omega),List.foldl_cons] at hz1
  have x1:AK hh ((hh.alloc ⟨6,[[.i .i64 0,.i .i64 0,.b false,.i .i64 0,.i .u32 0,.i .i64 0]]⟩).put hh.next ⟨6,[(nth L q).enc]⟩):=by (repeat (first | exact AK.refl _ | refine AK.alloc ?_ _ | (refine AK.put ?_ _ _ ?_;rotate_left;(first | omega | (simp only [Ag,AB];omega)))))
  have b1:((hh.alloc ⟨6,[[.i .i64 0,.i .i64 0,.b false,.i .i64 0,.i .u32 0,.i .i64 0]]⟩).put hh.next ⟨6,[(nth L q).enc]⟩).get hh.next=some ⟨6,[(nth L q).enc]⟩:=by rw [Ad,AC rfl]
  have n1:hh.next<((hh.alloc ⟨6,[[.i .i64 0,.i .i64 0,.b false,.i .i64 0,.i .u32 0,.i .i64 0]]⟩).put hh.next ⟨6,[(nth L q).enc]⟩).next:=Nat.lt_succ_self _
  have s1:=s.ext x1
  simp only [Ar.enc] at x1 b1 n1 s1
  simp (disch:=omega)only[go_sem, *]
  generalize (hh.alloc ⟨6,[[.i .i64 0,.i .i64 0,.b false,.i .i64 0,.i .u32 0,.i .i64 0]]⟩).put hh.next ⟨6,[[.i .i64 (nth L q).src,.i .i64 (nth L q).dst,.b (nth L q).queue,.i .i64 (nth L q).cap,.i .u32 (nth L q).top,.i .i64 (nth L q).late]]⟩=h1 at x1 b1 n1 s1 ⊢
  refine Bw (by simp only [Bh,A9];exact Nat.le_refl _) (s1).raise (by omega)  ?_
  intro r2 k2 t2 y2
  have x2:AK h1 (k2.back (h1).lim):=⟨y2.next,rfl,y2.get⟩
  have s2:Sl 0 (k2.back (h1).lim) 1 r2 _:=Sl.weak t2 (Nat.zero_le _)
  have hb2:=(x2.get _ n1).trans (b1)
  have lt2:=Nat.lt_of_lt_of_le n1 x2.next
  have len2:=(Ak A (nth L q).src)
  clear t2 y2
  simp (disch:=omega)only[go_sem, *]
  generalize k2.back (h1).lim=g2 at x2 s2 hb2 lt2 ⊢
  refine Bw (by simp only [Bh,A9];exact Nat.le_refl _) (s2).raise (by omega)  ?_
  intro r3 k3 t3 y3
  have x3:AK g2 (k3.back (g2).lim):=⟨y3.next,rfl,y3.get⟩
  have s3:Sl 0 (k3.back (g2).lim) 1 r3 _:=Sl.weak t3 (Nat.zero_le _)
  have hb3:=(x3.get _ lt2).trans (hb2)
  have lt3:=Nat.lt_of_lt_of_le lt2 x3.next
  have len3:=(Ak (Am A (nth L q).src) (nth L q).dst)
  clear t3 y3
  simp (disch:=omega)only[go_sem, *]
  generalize k3.back (g2).lim=g3 at x3 s3 hb3 lt3 ⊢
  refine Mj (by simp only [Bh,A9];exact Nat.le_refl _) (s3).raise (by omega)  ?_
  intro r4 k4 t4 y4
  have x4:AK g3 (k4.back (g3).lim):=⟨y4.next,rfl,y4.get⟩
  have s4:Sl 0 (k4.back (g3).lim) 1 r4 _:=Sl.weak t4 (Nat.zero_le _)
  have hb4:=(x4.get _ lt3).trans (hb3)
  have lt4:=Nat.lt_of_lt_of_le lt3 x4.next
  have len4:=(CT (Am (Am A (nth L q).src) (nth L q).dst) (nth L q).queue)
  clear t4 y4
  simp (disch:=omega)only[go_sem, *]
  generalize k4.back (g3).lim=g4 at x4 s4 hb4 lt4 ⊢
  have s4:Sl 0 g4 1 r4 ((BJ (Am (Am A (nth L q).src) (nth L q).dst) (nth L q).queue).map Aj):=s4
  generalize hG:BJ (Am (Am A (nth L q).src) (nth L q).dst) (nth L q).queue=G at s4 len4
  refine Bw (by simp only [Bh,A9];exact Nat.le_refl _) (s4).raise (by omega)  ?_
  intro r5 k5 t5 y5
  have x5:AK g4 (k5.back (g4).lim):=⟨y5.next,rfl,y5.get⟩
  have s5:Sl 0 (k5.back (g4).lim) 1 r5 _:=Sl.weak t5 (Nat.zero_le _)
  have hb5:=(x5.get _ lt4).trans (hb4)
  have lt5:=Nat.lt_of_lt_of_le lt4 x5.next
  have len5:=(Ak G (nth L q).cap)
  clear t5 y5
  simp (disch:=omega)only[go_sem, *]
  generalize k5.back (g4).lim=g5 at x5 s5 hb5 lt5 ⊢
  refine Bw (by simp only [Bh,A9];exact Nat.le_refl _) (s5).raise (by omega)  ?_
  intro r6 k6 t6 y6
  have x6:AK g5 (k6.back (g5).lim):=⟨y6.next,rfl,y6.get⟩
  have s6:Sl 0 (k6.back (g5).lim) 1 r6 _:=Sl.weak t6 (Nat.zero_le _)
  have hb6:=(x6.get _ lt5).trans (hb5)
  have lt6:=Nat.lt_of_lt_of_le lt5 x6.next
  have len6:=(Ak (Am G (nth L q).cap) (IntKind.wrap .i64 (nth L q).top))
  clear t6 y6
  simp (disch:=omega)only[go_sem, *]
  generalize k6.back (g5).lim=g6 at x6 s6 hb6 lt6 ⊢
  refine Bw (by simp only [Bh,A9];exact Nat.le_refl _) (s6).raise (by omega)  ?_
  intro r7 k7 t7 y7
  have x7:AK g6 (k7.back (g6).lim):=⟨y7.next,rfl,y7.get⟩
  have s7:Sl 0 (k7.back (g6).lim) 1 r7 _:=Sl.weak t7 (Nat.zero_le _)
  have hb7:=(x7.get _ lt6).trans (hb6)
  have lt7:=Nat.lt_of_lt_of_le lt6 x7.next
  have len7:=(Ak (Am (Am G (nth L q).cap) (IntKind.wrap .i64 (nth L q).top)) (nth L q).late)
  clear t7 y7
  simp (disch:=omega)only[go_sem, *]
  generalize k7.back (g6).lim=g7 at x7 s7 hb7 lt7 ⊢
  have xn:=xx.trans (x1.trans (x2.trans (x3.trans (x4.trans (x5.trans (x6.trans x7))))))
  have lA:(Ck A (nth L q)).length≤B.length+54*(q+1):=by unfold Ck;rw [hG];omega
  have s7':Sl 0 g7 1 r7 ((Ck A (nth L q)).map Aj):=by unfold Ck;rw [hG];exact s7
  clear hG
  refine ih _ _ _ ?_ ⟨q+1,r7,Ck A (nth L q),rfl, ?_⟩
  ·omega
  ·have hz3:=hz1
   clear hz1 ih kk
   simp (disch:=omega)only[go_sem, *]
   all_goals ((repeat' refine And.intro ?_ ?_)<;>first | omega | assumption | (exact xn) | (exact s7') | (exact lA) | (exact hz3))
 ·rw [List.drop_eq_nil_of_le (by omega),List.foldl_nil] at hz1
  have f:=kk
  clear kk
  simp (disch:=omega)only[go_sem, *]
  exact f _ hh v e1 e3 xx (by rw [← hz1];exact s) (by rw [← hz1];omega)
end Go.Ab.T
namespace Go.Ab.T
open Go Go.Ab
set_option maxHeartbeats 4000000
theorem aE1 {K : Ex → Env → AH → Prop} {e : Env} {h0 h' : AH} {v : V} {B : List Int} {a0 a1 a2 a3 a4 : Int} {i : Nat} {v23 : V} {n24 : Int} (x0 : AK h0 h') (hl0 : h0.lim = 0) (s0 : Sl 0 h' 1 v (B.map Aj)) (hB : B.length + 45 < 900000)
    (e1:e 1=.p 0 0 0) (e3:e 3=v) (e23:e 23=v23) (e24:e 24=.i .i64 n24) (e25:e 25=.i .i64 i) (e66:e 66=.agg [.i .i64 a0,.i .i64 a1,.i .i64 a2,.i .i64 a3,.i .i64 a4]) (e67:e 67=.i .i64 0)
    (kk:∀ e' h2 v,e' 1=.p 0 0 0→e' 3=v→e' 23=v23→e' 24=.i .i64 n24→e' 25=.i .i64 i→AK h0 h2→Sl 0 h2 1 v ((Am (Am (Am (Am (Am B a0) a1) a2) a3) a4).map Aj)→(Am (Am (Am (Am (Am B a0) a1) a2) a3) a4).length≤B.length+45→K (.ex 4) e' h2):ZC tp (.loop Ge) e h' K:=by
 have hq1:(h').lim≤(h').next:=by rw [(x0).lim,hl0];exact Nat.zero_le _
 refine Bb ?_
 rw [Ai Ge.eq_1]
 simp (disch:=omega)only[go_sem, *]
 refine Bw hq1 s0 (by omega) ?_
 intro r1 g1 t1 y1
 have x1:=(x0).trans y1
 have s1:=Sl.weak t1 (Nat.zero_le _)
 have l1:=Ak B a0
 clear t1 y1
 simp (disch:=omega)only[go_sem, *]
 have hq2:(g1).lim≤(g1).next:=by rw [(x1).lim,hl0];exact Nat.zero_le _
 refine Bb ?_
 rw [Ai Ge.eq_1]
 simp (disch:=omega)only[go_sem, *]
 refine Bw hq2 s1 (by omega) ?_
 intro r2 g2 t2 y2
 have x2:=(x1).trans y2
 have s2:=Sl.weak t2 (Nat.zero_le _)
 have l2:=Ak (Am B a0) a1
 clear t2 y2
 simp (disch:=omega)only[go_sem, *]
 have hq3:(g2).lim≤(g2).next:=by rw [(x2).lim,hl0];exact Nat.zero_le _
 refine Bb ?_
 rw [Ai Ge.eq_1]
 simp (disch:=omega)only[go_sem, *]
 refine Bw hq3 s2 (by omega) ?_
 intro r3 g3 t3 y3
 have x3:=(x2).trans y3
 have s3:=Sl.weak t3 (Nat.zero_le _)
 have l3:=Ak (Am (Am B a0) a1) a2
 clear t3 y3
 simp (disch:=omega)only[go_sem, *]
 have hq4:(g3).lim≤(g3).next:=by rw [(x3).lim,hl0];exact Nat.zero_le _
 refine Bb ?_
 rw [Ai Ge.eq_1]
 simp (disch:=omega)only[go_sem, *]
 refine Bw hq4 s3 (by omega) ?_
 intro r4 g4 t4 y4
 have x4:=(x3).trans y4
 have s4:=Sl.weak t4 (Nat.zero_le _)
 have l4:=Ak (Am (Am (Am B a0) a1) a2) a3
 clear t4 y4
 simp (disch:=omega)only[go_sem, *]
 have hq5:(g4).lim≤(g4).next:=by rw [(x4).lim,hl0];exact Nat.zero_le _
 refine Bb ?_
 rw [Ai Ge.eq_1]
 simp (disch:=omega)only[go_sem, *]
 refine Bw hq5 s4 (by omega) ?_
 intro r5 g5 t5 y5
 have x5:=(x4).trans y5
 have s5:=Sl.weak t5 (Nat.zero_le _)
 have l5:=Ak (Am (Am (Am (Am B a0) a1) a2) a3) a4
 clear t5 y5
 simp (disch:=omega)only[go_sem, *]
 refine Bb ?_
 rw [Ai Ge.eq_1]
 have f:=kk
 clear kk
 simp (disch:=omega)only[go_sem, *]
 refine f _ _ _ ?_ ?_ ?_ ?_ ?_ x5 s5 (by omega)<;>simp (disch:=omega)only[go_sem, *]
theorem aE2 {K : Ex → Env → AH → Prop} {e : Env} {h0 h' : AH} {v : V} {B : List Int} {L : List Part} (x0 : AK h0 h') (hl0 : h0.lim = 0) (s : Sl 0 h' 1 v (B.map Aj)) (hB : B.length + 3000 * L.length < 800000) (hP : ∀ p ∈ L, p.name.size < 1000 ∧ p.procs.length ≤ 100)
    (e1:e 1=.p 0 0 0) (e3:e 3=v) (e23:e 23=.fl 11 (L.map Part.enc)) (e24:e 24=.i .i64 L.length) (e25:e 25=.i .i64 0)
    (kk:∀ e' h2 v,e' 1=.p 0 0 0→e' 3=v→AK h0 h2→Sl 0 h2 1 v ((L.foldl Cc B).map Aj)→(L.foldl Cc B).length≤B.length+3000*L.length→K (.ex 0) e' h2):ZC tp (.loop P7) e h' K:=by
 refine Ae (fun n' e hh=>∃ (q:Nat) (v:V) (A:List Int),n'=L.length - q∧AK h0 hh∧e 1=.p 0 0 0∧e 3=v∧e 23=.fl 11 (L.map Part.enc)∧e 24=.i .i64 L.length∧e 25=.i .i64 q∧q≤L.length∧Sl 0 hh 1 v (A.map Aj)∧A.length≤B.length+3000*q∧(L.drop q).foldl Cc A=L.foldl Cc B) ?_ _ _ _ ⟨0,v,B,rfl,x0,e1,e3,e23,e24,e25,by omega,s,by omega,rfl⟩
 clear e1 e3 e23 e24 e25 e x0 s
 rintro n' e hh ⟨q,v,A,rfl,xx,e1,e3,e23,e24,e25,hq,s,hA,hz⟩ ih
 have hlq:hh.lim≤hh.next:=by rw [xx.lim,hl0];exact Nat.zero_le _
 have hl00:hh.lim≤0:=by rw [xx.lim,hl0];exact Nat.le_refl _
 rw [Ai P7.eq_1]
 have hz1:=hz
 clear hz
 simp (disch:=omega)only[go_sem, *]
 refine Aa (fun hc=>?_) (fun hc=>?_)
 ·rw [Ax (by omega),List.foldl_cons] at hz1
  obtain ⟨hnm,hpl⟩:=hP _ (Bl (L:=L) (j:=q) (by omega))
  have hsl:=IG (nth L q).name
  have x1:AK hh ((hh.alloc ⟨11,[[.s ⟨#[]⟩,.i .i64 0,.i .i64 0,.b false,.b false,.ns,.i .i64 0,.i .i64 0,.i .i64 0,.i .i64 0,.i .i64 0]]⟩).put hh.next ⟨11,[(nth L q).enc]⟩):=by (repeat (first | exact AK.refl _ | refine AK.alloc ?_ _ | (refine AK.put ?_ _ _ ?_;rotate_left;(first | omega | (simp only [Ag,AB];omega)))))
  have b1:((hh.alloc ⟨11,[[.s ⟨#[]⟩,.i .i64 0,.i .i64 0,.b false,.b false,.ns,.i .i64 0,.i .i64 0,.i .i64 0,.i .i64 0,.i .i64 0]]⟩).put hh.next ⟨11,[(nth L q).enc]⟩).get hh.next=some ⟨11,[(nth L q).enc]⟩:=by rw [Ad,AC rfl]
  have n1:hh.next<((hh.alloc ⟨11,[[.s ⟨#[]⟩,.i .i64 0,.i .i64 0,.b false,.b false,.ns,.i .i64 0,.i .i64 0,.i .i64 0,.i .i64 0,.i .i64 0]]⟩).put hh.next ⟨11,[(nth L q).enc]⟩).next:=Nat.lt_succ_self _
  have s1:=s.ext x1
  simp only [Part.enc] at x1 b1 n1 s1
  simp (disch:=omega)only[go_sem, *]
  generalize (hh.alloc ⟨11,[[.s ⟨#[]⟩,.i .i64 0,.i .i64 0,.b false,.b false,.ns,.i .i64 0,.i .i64 0,.i .i64 0,.i .i64 0,.i .i64 0]]⟩).put hh.next ⟨11,[[.s (nth L q).name,.i .i64 (nth L q).budget,.i .i64 (nth L q).period,.b (nth L q).sched,.b (nth L q).stop,.fl 2 ((nth L q).procs.map AO.enc),.i .i64 (nth L q).h0,.i .i64 (nth L q).h1,.i .i64 (nth L q).h2,.i .i64 (nth L q).h3,.i .i64 (nth L q).h4]]⟩=h1 at x1 b1 n1 s1 ⊢
  refine lU (by simp only [Bh,A9];exact Nat.le_refl _) (s1).raise (by omega) hnm ?_
  intro r2 k2 t2 y2
  have x2:AK h1 (k2.back (h1).lim):=⟨y2.next,rfl,y2.get⟩
  have s2:Sl 0 (k2.back (h1).lim) 1 r2 _:=Sl.weak t2 (Nat.zero_le _)
  have hb2:=(x2.get _ n1).trans (b1)
  have lt2:=Nat.lt_of_lt_of_le n1 x2.next
  have len2:=(Ak A (nth L q).name.size)
  clear t2 y2
  simp (disch:=omega)only[go_sem, *]
  generalize k2.back (h1).lim=g2 at x2 s2 hb2 lt2 ⊢
  have s2:Sl 0 g2 1 r2 ((Am A (nth L q).name.size++sB (nth L q).name).map Aj):=s2
  have len2':(Am A (nth L q).name.size++sB (nth L q).name).length≤A.length+1009:=by rw [List.length_append,hsl];omega
  generalize hG:Am A (nth L q).name.size++sB (nth L q).name=G at s2 len2'
  refine Bw (by simp only [Bh,A9];exact Nat.le_refl _) (s2).raise (by omega)  ?_
  intro r3 k3 t3 y3
  have x3:AK g2 (k3.back (g2).lim):=⟨y3.next,rfl,y3.get⟩
  have s3:Sl 0 (k3.back (g2).lim) 1 r3 _:=Sl.weak t3 (Nat.zero_le _)
  have hb3:=(x3.get _ lt2).trans (hb2)
  have lt3:=Nat.lt_of_lt_of_le lt2 x3.next
  have len3:=(Ak G (nth L q).budget)
  clear t3 y3
  simp (disch:=omega)only[go_sem, *]
  generalize k3.back (g2).lim=g3 at x3 s3 hb3 lt3 ⊢
  refine Bw (by simp only [Bh,A9];exact Nat.le_refl _) (s3).raise (by omega)  ?_
  intro r4 k4 t4 y4
  have x4:AK g3 (k4.back (g3).lim):=⟨y4.next,rfl,y4.get⟩
  have s4:Sl 0 (k4.back (g3).lim) 1 r4 _:=Sl.weak t4 (Nat.zero_le _)
  have hb4:=(x4.get _ lt3).trans (hb3)
  have lt4:=Nat.lt_of_lt_of_le lt3 x4.next
  have len4:=(Ak (Am G (nth L q).budget) (nth L q).period)
  clear t4 y4
  simp (disch:=omega)only[go_sem, *]
  generalize k4.back (g3).lim=g4 at x4 s4 hb4 lt4 ⊢
  generalize hG2:Am (Am G (nth L q).budget) (nth L q).period=G2 at s4 len4
  refine Mj (by simp only [Bh,A9];exact Nat.le_refl _) (s4).raise (by omega)  ?_
  intro r5 k5 t5 y5
  have x5:AK g4 (k5.back (g4).lim):=⟨y5.next,rfl,y5.get⟩
  have s5:Sl 0 (k5.back (g4).lim) 1 r5 _:=Sl.weak t5 (Nat.zero_le _)
  have hb5:=(x5.get _ lt4).trans (hb4)
  have lt5:=Nat.lt_of_lt_of_le lt4 x5.next
  have len5:=(CT G2 (nth L q).sched)
  clear t5 y5
  simp (disch:=omega)only[go_sem, *]
  generalize k5.back (g4).lim=g5 at x5 s5 hb5 lt5 ⊢
  have s5:Sl 0 g5 1 r5 ((BJ G2 (nth L q).sched).map Aj):=s5
  refine Mj (by simp only [Bh,A9];exact Nat.le_refl _) (s5).raise (by omega)  ?_
  intro r6 k6 t6 y6
  have x6:AK g5 (k6.back (g5).lim):=⟨y6.next,rfl,y6.get⟩
  have s6:Sl 0 (k6.back (g5).lim) 1 r6 _:=Sl.weak t6 (Nat.zero_le _)
  have hb6:=(x6.get _ lt5).trans (hb5)
  have lt6:=Nat.lt_of_lt_of_le lt5 x6.next
  have len6:=(CT (BJ G2 (nth L q).sched) (nth L q).stop)
  clear t6 y6
  simp (disch:=omega)only[go_sem, *]
  generalize k6.back (g5).lim=g6 at x6 s6 hb6 lt6 ⊢
  have s6:Sl 0 g6 1 r6 ((BJ (BJ G2 (nth L q).sched) (nth L q).stop).map Aj):=s6
  refine Bw (by simp only [Bh,A9];exact Nat.le_refl _) (s6).raise (by omega)  ?_
  intro r7 k7 t7 y7
  have x7:AK g6 (k7.back (g6).lim):=⟨y7.next,rfl,y7.get⟩
  have s7:Sl 0 (k7.back (g6).lim) 1 r7 _:=Sl.weak t7 (Nat.zero_le _)
  have hb7:=(x7.get _ lt6).trans (hb6)
  have lt7:=Nat.lt_of_lt_of_le lt6 x7.next
  have len7:=(Ak (BJ (BJ G2 (nth L q).sched) (nth L q).stop) (nth L q).procs.length)
  clear t7 y7
  simp (disch:=omega)only[go_sem, *]
  generalize k7.back (g6).lim=g7 at x7 s7 hb7 lt7 ⊢
  generalize hG3:Am (BJ (BJ G2 (nth L q).sched) (nth L q).stop) (nth L q).procs.length=G3 at s7 len7
  have xn:=xx.trans (x1.trans (x2.trans (x3.trans (x4.trans (x5.trans (x6.trans x7))))))
  refine aE0 (L:=(nth L q).procs) (i:=q) (v23:=.fl 11 (L.map Part.enc)) (n24:=L.length) (bx:=hh.next) xn hl0 s7 (by omega) hb7 lt7 (by simp (disch:=omega)only[go_sem, *]) (by simp (disch:=omega)only[go_sem, *]) (by simp (disch:=omega)only[go_sem, *]) (by simp (disch:=omega)only[go_sem, *]) (by simp (disch:=omega)only[go_sem, *]) (by simp (disch:=omega)only[go_sem, *]) (by simp (disch:=omega)only[go_sem, *]) (by simp (disch:=omega)only[go_sem, *]) (by simp (disch:=omega)only[go_sem, *]) ?_
  intro e' h8 v8 f1 f3 f5 f23 f24 f25 x8 s8 l8 b8 lt8
  clear x1 x2 x3 x4 x5 x6 x7 xn hb2 hb3 hb4 hb5 hb6 hb7 b1 s1 s2 s3 s4 s5 s6 s7 lt2 lt3 lt4 lt5 lt6 lt7 n1
  simp (disch:=omega)only[go_sem, *]
  refine aE1 (i:=q) (v23:=.fl 11 (L.map Part.enc)) (n24:=L.length) (a0:=(nth L q).h0) (a1:=(nth L q).h1) (a2:=(nth L q).h2) (a3:=(nth L q).h3) (a4:=(nth L q).h4) x8 hl0 s8 (by omega) (by simp (disch:=omega)only[go_sem, *]) (by simp (disch:=omega)only[go_sem, *]) (by simp (disch:=omega)only[go_sem, *]) (by simp (disch:=omega)only[go_sem, *]) (by simp (disch:=omega)only[go_sem, *]) (by simp (disch:=omega)only[go_sem, *]) (by simp (disch:=omega)only[go_sem, *]) ?_
  intro e' h9 v9 k1 k3 k23 k24 k25 x9 s9 l9
  have eA:Am (Am (Am (Am (Am (List.foldl B1 G3 (nth L q).procs) (nth L q).h0) (nth L q).h1) (nth L q).h2) (nth L q).h3) (nth L q).h4=Cc A (nth L q):=by unfold Cc;rw [← hG3,←hG2,←hG]
  rw [eA] at s9 l9
  have lA:(Cc A (nth L q)).length≤B.length+3000*(q+1):=by omega
  clear hG hG2 hG3 eA
  simp (disch:=omega)only[go_sem, *]
  refine ih _ _ _ ?_ ⟨q+1,v9,Cc A (nth L q),rfl, ?_⟩
  ·omega
  ·have hz3:=hz1
   clear hz1 ih kk
   simp (disch:=omega)only[go_sem, *]
   all_goals ((repeat' refine And.intro ?_ ?_)<;>first | omega | assumption | (exact x9) | (exact s9) | (exact lA) | (exact hz3))
 ·rw [List.drop_eq_nil_of_le (by omega),List.foldl_nil] at hz1
  have f:=kk
  clear kk
  simp (disch:=omega)only[go_sem, *]
  exact f _ hh v e1 e3 xx (by rw [← hz1];exact s) (by rw [← hz1];omega)
end Go.Ab.T
namespace Go.Ab.T
open Go Go.Ab
set_option maxHeartbeats 4000000
@[go_sem] theorem IR:∀ B:List Int,bytesOf? (B.map Aj)=some (B.map fun z=>UInt8.ofNat z.toNat)
 | []=>rfl
 | z::B=>by
  have:=IR B
  simp only [List.map_cons,Aj,bytesOf?] at this ⊢
  rw [this];rfl
structure R7 (C:Ah):Prop where
 p:C.parts.length≤16
 c:C.chans.length≤100
 t:C.tables.length≤10
 pp:∀ p∈C.parts,p.name.size<1000∧p.procs.length≤100
 tt:∀ t∈C.tables,t.length≤710
theorem JI {C:Ah} (hC:R7 C):Pf tp XB [.agg C.enc] (.fl 1 ((Bt C).map Aj)):=by
 obtain ⟨hp,hc,ht,hpp,htt⟩:=hC
 refine AD aFk (by simp [Oe]) fun rp=>?_
 unfold Oe
 have s0:Sl 0 ((AH.emp.alloc ⟨3,[C.enc]⟩).alloc ⟨1,[Aj 72,Aj 79,Aj 82,Aj 65]⟩) 1 (.sl 1 0 4 4) (([72,79,82,65]:List Int).map Aj):=Sl.new (by omega) (by simp)
 have b0:((AH.emp.alloc ⟨3,[C.enc]⟩).alloc ⟨1,[Aj 72,Aj 79,Aj 82,Aj 65]⟩).get 0=some ⟨3,[C.enc]⟩:=rfl
 simp only [Aj,Ah.enc] at s0 b0
 simp (disch:=omega)only[go_sem, *]
 have hl0:((AH.emp.alloc ⟨3,[[.fl 11 (C.parts.map Part.enc),.fl 6 (C.chans.map Ar.enc),.fl 1 (C.tables.map Tab.enc)]]⟩).alloc ⟨1,[[.i .u8 72],[.i .u8 79],[.i .u8 82],[.i .u8 65]]⟩).lim=0:=rfl
 have hn0:((AH.emp.alloc ⟨3,[[.fl 11 (C.parts.map Part.enc),.fl 6 (C.chans.map Ar.enc),.fl 1 (C.tables.map Tab.enc)]]⟩).alloc ⟨1,[[.i .u8 72],[.i .u8 79],[.i .u8 82],[.i .u8 65]]⟩).next=2:=rfl
 generalize (AH.emp.alloc ⟨3,[[.fl 11 (C.parts.map Part.enc),.fl 6 (C.chans.map Ar.enc),.fl 1 (C.tables.map Tab.enc)]]⟩).alloc ⟨1,[[.i .u8 72],[.i .u8 79],[.i .u8 82],[.i .u8 65]]⟩=h0 at *
 refine Bw (by omega) s0 (by simp) ?_
 intro r1 h1 t1 x1
 have s1:=Sl.weak t1 (Nat.zero_le _)
 have l1:=Ak [72,79,82,65] C.parts.length
 have b1:=(x1.get 0 (by omega)).trans b0
 simp only [List.length_cons,List.length_nil] at l1
 clear t1 s0
 simp (disch:=omega)only[go_sem, *]
 refine aE2 x1 hl0 s1 (by omega) hpp (by simp (disch:=omega)only[go_sem, *]) (by simp (disch:=omega)only[go_sem, *]) (by simp (disch:=omega)only[go_sem, *]) (by simp (disch:=omega)only[go_sem, *]) (by simp (disch:=omega)only[go_sem, *]) ?_
 intro e h2 r2 f1 f3 x2 s2 l2
 clear x1 s1 b1
 have b2:=(x2.get 0 (by omega)).trans b0
 have m2:=x2.lim
 generalize hB2:C.parts.foldl Cc (Am [72,79,82,65] C.parts.length)=B2 at s2 l2
 simp (disch:=omega)only[go_sem, *]
 refine Bw (by omega) s2 (by omega) ?_
 intro r3 h3 t3 y3
 have x3:=x2.trans y3
 have s3:=Sl.weak t3 (Nat.zero_le _)
 have l3:=Ak B2 C.chans.length
 have b3:=(x3.get 0 (by omega)).trans b0
 clear t3 y3 s2 b2
 simp (disch:=omega)only[go_sem, *]
 refine aE3 (L:=C.chans) x3 hl0 s3 (by omega) (by simp (disch:=omega)only[go_sem, *]) (by simp (disch:=omega)only[go_sem, *]) (by simp (disch:=omega)only[go_sem, *]) (by simp (disch:=omega)only[go_sem, *]) (by simp (disch:=omega)only[go_sem, *]) ?_
 intro e h4 r4 g1 g3 x4 s4 l4
 clear x3 s3 b3
 have b4:=(x4.get 0 (by omega)).trans b0
 have m4:=x4.lim
 generalize hB4:C.chans.foldl Ck (Am B2 C.chans.length)=B4 at s4 l4
 simp (disch:=omega)only[go_sem, *]
 refine Bw (by omega) s4 (by omega) ?_
 intro r5 h5 t5 y5
 have x5:=x4.trans y5
 have s5:=Sl.weak t5 (Nat.zero_le _)
 have l5:=Ak B4 C.tables.length
 have b5:=(x5.get 0 (by omega)).trans b0
 clear t5 y5 s4 b4
 simp (disch:=omega)only[go_sem, *]
 refine aE5 (L:=C.tables) x5 hl0 s5 (by omega) htt (by simp (disch:=omega)only[go_sem, *]) (by simp (disch:=omega)only[go_sem, *]) (by simp (disch:=omega)only[go_sem, *]) (by simp (disch:=omega)only[go_sem, *]) ?_
 intro e h6 r6 k3 x6 s6 l6
 clear x5 s5 b5
 have m6:=x6.lim
 generalize hB6:C.tables.foldl ET (Am B4 C.tables.length)=B6 at s6 l6
 simp (disch:=omega)only[go_sem, *]
 have eB:Bt C=BL B6:=by unfold Bt;rw [hB2,hB4,hB6]
 rw [eB]
 clear hB2 hB4 hB6
 refine Pf.take [AW r6] (GP (B:=B6) (by omega)) (.cons _ _ _ _ _ (s6.froze (fun _=>rfl) (by simp) (by omega)) (.nil _)) fun _=>?_
 simp (disch:=omega)only[go_sem, *]
end Go.Ab.T
namespace Go.Ab.T
open Go Go.Ab
set_option maxHeartbeats 1000000
theorem Bd.drop {L:List AI} (h:Bd L) (k:Nat):Bd (L.drop k):=fun r hr=>h r (List.mem_of_mem_drop hr)
def aWB (r:AI):Bool:=decide (1≤r.n∧r.n≤4096∧-1≤r.part∧r.part<6)
def Xs (L:List AI):Bool:=L.all aWB&&decide (0<L.length∧L.length≤96∧Ay L≤4096)
def aUt (L:List AI) (a b:Int):List AI:=L.filter (fun r=>decide (r.part=a∨r.part=b))
def rP (L:List AI) (a b:Int):List AI:=Bu (aUt L a b) []
end Go.Ab.T
namespace Go.Ab.T
open Go Go.Ab
set_option maxHeartbeats 1000000
/-! Who depends on whom: a square of yes and no. -/
@[go_sem] def Fq (b:Bool):List V:=[.b b]
@[go_sem] def aFc (r:List Bool):List V:=[.fl 1 (r.map Fq)]
def aUo (M:List (List Bool)) (a b:Int):Bool:=decide (0≤a∧0≤b∧a<M.length∧b<(nth M a.toNat).length)&&nth (nth M a.toNat) b.toNat
def aTT (M:List (List Bool)) (a b:Int):Bool:=decide (a=b)||(aUo M a b||aUo M b a)
def aTV (x y:List AI) (M:List (List Bool)) (a b:Int):Bool:=aTT M a b&&!decide (rP x a b=rP y a b)
def W5 (x y:List AI) (M:List (List Bool)) (a:Int):Nat→Int→Option Int
 | 0,_=>none
 | f+1,b=>if aTV x y M a b=true then some b else W5 x y M a f (b+1)
def gR (x y:List AI) (M:List (List Bool)) (a:Int):Option Int:=W5 x y M a (6 - a).toNat a
def W4 (x y:List AI) (M:List (List Bool)):Nat→Int→Int×Int×Bool
 | 0,_=>(-1,-1,!decide (tk (-1) x=tk (-1) y))
 | f+1,a=>match gR x y M a with | some b=>(a,b,true) | none=>W4 x y M f (a+1)
def aWr (x y:List AI) (M:List (List Bool)):Int×Int×Bool:=W4 x y M 6 0
end Go.Ab.T
namespace Go.Ab.T
open Go Go.Ab
set_option maxHeartbeats 4000000
structure EL (b:Nat) (h:AH) (v:V) (n:Nat) (W:List (List V)) (F:List Nat) (M:List (List Bool)):Prop where
 out:Sl b h 1 v W
 len:M.length=F.length
 wl:F.length≤W.length
 pre:∀ i,i<F.length→nth W i=[V.sl (nth F i) 0 n n]
 row:∀ i,i<F.length→h.get (nth F i)=some ⟨1,(nth M i).map Fq⟩∧(nth M i).length=n∧b≤nth F i∧nth F i<h.next∧nth F i≠AW v
 dis:∀ i j,i<F.length→j<F.length→i≠j→nth F i≠nth F j
theorem HU {α:Type} [Inhabited α] {l:List α} {i j:Nat} {a:α} (hj:j<l.length):nth (l.set i a) j=if i=j then a else nth l j:=by
 by_cases h:i=j
 ·subst h;rw [if_pos rfl];simp [nth,List.getD,hj]
 ·rw [if_neg h];simp [nth,List.getD,List.getElem?_set_ne h]
theorem Bp {α:Type} [Inhabited α] {l m:List α} {j:Nat} (hj:j<l.length):nth (l++m) j=nth l j:=by simp [nth,List.getD,List.getElem?_append_left hj]
theorem BR {α:Type} [Inhabited α] {l:List α} {a:α}:nth (l++[a]) l.length=a:=by simp [nth,List.getD]
section
variable {b n:Nat} {h h':AH} {v:V} {W:List (List V)} {F:List Nat} {M:List (List Bool)}
theorem EL.keep (m:EL b h v n W F M) (hn:h.next≤h'.next) (g:∀ i,b≤i→i<h.next→h'.get i=h.get i):EL b h' v n W F M:=by
 refine ⟨?_,m.len,m.wl,m.pre,fun i hi=>?_,m.dis⟩
 ·rcases m.out with h1 | ⟨id,el,cap,cs,rfl,a,c,d,e,f,g1,g2⟩
  ·exact .inl h1
  ·exact .inr ⟨id,el,cap,cs,rfl,(g id g1 f).trans a,c,d,e,by omega,g1,g2⟩
 ·obtain ⟨a,c,d,e,f⟩:=m.row i hi
  exact ⟨(g _ d e).trans a,c,d,by omega,f⟩
theorem EL.ext (m:EL b h v n W F M) (x:AK h h'):EL b h' v n W F M:=m.keep x.next (fun i _ hi=>x.get i hi)
theorem EL.set (m:EL b h v n W F M) {a:Nat} (ha:a<F.length) {r:List Bool} (hr:r.length=n):EL b (h.put (nth F a) ⟨1,r.map Fq⟩) v n W F (M.set a r):=by
 have hl:=m.len
 refine ⟨m.out.putx _ _ (m.row a ha).2.2.2.2,by simp [hl],m.wl,m.pre,fun i hi=>?_,m.dis⟩
 obtain ⟨h1,h2,h3,h4,h5⟩:=m.row i hi
 rw [Ad,HU (by omega)]
 by_cases e:a=i
 ·subst e
  rw [if_pos rfl,AC rfl]
  exact ⟨rfl,hr,h3,h4,h5⟩
 ·rw [if_neg e,Ac (m.dis i a hi ha (Ne.symm e))]
  exact ⟨h1,h2,h3,h4,h5⟩
theorem EL.push {h1 h4 : AH} {w : V} {r : List Bool} (m : EL b h v n W F M) (hW : W.length = F.length) (hb : b ≤ h.next) (x : AK h h1) (hlt : h.next < h1.next) (hg : h1.get h.next = some ⟨1, r.map Fq⟩) (hr : r.length = n)
    (s4:Sl b h4 1 w (W++[[.sl h.next 0 n n]])) (g4:Grown b h1 v w h4):EL b h4 w n (W++[[.sl h.next 0 n n]]) (F++[h.next]) (M++[r]):=by
 have hl:=m.len
 have hn:=g4.next
 have hvlow:Ba v=true∨AW v<h.next:=by
  rcases m.out with ⟨h1 | h1,_⟩ | ⟨id,el,cap,cs,rfl,a,c,d,e,f,g1,g2⟩
  ·subst h1;exact .inl rfl
  ·subst h1;exact .inl rfl
  ·exact .inr f
 have hw:Ba w=false:=by
  rcases s4 with ⟨_,h2⟩ | ⟨id,el,cap,cs,rfl,_⟩
  ·simp at h2
  ·rfl
 have hwid:∀ j,j<h1.next→(Ba v=true∨j≠AW v)→j≠AW w:=fun j hj hv=>by
  rcases g4.own with h2 | ⟨h2,h3⟩ | h2
  ·rw [hw] at h2;cases h2
  ·rw [h2] at hv;rw [h3];exact hv.resolve_left (by simp)
  ·omega
 refine ⟨s4,by simp [hl],by simp;omega,fun i hi=>?_,fun i hi=>?_,fun i j hi hj hij=>?_⟩
 ·simp only [List.length_append,List.length_cons,List.length_nil] at hi
  by_cases e:i<F.length
  ·rw [Bp (by omega),Bp e];exact m.pre i e
  ·obtain rfl:i=F.length:=by omega
   rw [BR];rw [← hW,BR]
 ·simp only [List.length_append,List.length_cons,List.length_nil] at hi
  by_cases e:i<F.length
  ·obtain ⟨a1,a2,a3,a4,a5⟩:=m.row i e
   rw [Bp e,Bp (by omega)]
   have:=x.next
   exact ⟨by rw [g4.get _ (by omega) (.inr a5),x.get _ a4];exact a1,a2,a3,by omega,hwid _ (by omega) (.inr a5)⟩
  ·obtain rfl:i=F.length:=by omega
   rw [BR];rw [← hl,BR]
   have hv:Ba v=true∨h.next≠AW v:=hvlow.imp id (fun h=>by omega)
   exact ⟨by rw [g4.get _ hlt hv];exact hg,hr,hb,by omega,hwid _ hlt hv⟩
 ·simp only [List.length_append,List.length_cons,List.length_nil] at hi hj
  by_cases e1:i<F.length
  ·by_cases e2:j<F.length
   ·rw [Bp e1,Bp e2];exact m.dis i j e1 e2 hij
   ·obtain rfl:j=F.length:=by omega
    have:=(m.row i e1).2.2.2.1
    rw [Bp e1,BR];omega
  ·obtain rfl:i=F.length:=by omega
   have:=(m.row j (by omega)).2.2.2.1
   rw [Bp (l:=F) (j:=j) (by omega),BR];omega
theorem EL.put {h4 : AH} {f : Nat} {r : List Bool} {W' : List (List V)} (m : EL b h v n W F M) (hf : f < h4.next) (hfb : b ≤ f) (hn : h.next ≤ f) (hg : h4.get f = some ⟨1, r.map Fq⟩) (hr : r.length = n) (hwl : F.length < W.length)
    (hW:W'=W.set F.length [.sl f 0 n n]) (s4:Sl b h4 1 v W') (k:∀ i,i<h.next→i≠AW v→h4.get i=h.get i):EL b h4 v n W' (F++[f]) (M++[r]):=by
 subst hW
 have hl:=m.len
 have hvlow:AW v<h.next:=by
  rcases m.out with ⟨_,h1⟩ | ⟨id,el,cap,cs,rfl,a,c,d,e,f,g1,g2⟩
  ·subst h1;simp at hwl
  ·exact f
 refine ⟨s4,by simp [hl],by simp;omega,fun i hi=>?_,fun i hi=>?_,fun i j hi hj hij=>?_⟩
 ·simp only [List.length_append,List.length_cons,List.length_nil] at hi
  rw [HU (by omega)]
  by_cases e:i<F.length
  ·rw [if_neg (by omega),Bp e];exact m.pre i e
  ·obtain rfl:i=F.length:=by omega
   rw [if_pos rfl,BR]
 ·simp only [List.length_append,List.length_cons,List.length_nil] at hi
  by_cases e:i<F.length
  ·obtain ⟨a1,a2,a3,a4,a5⟩:=m.row i e
   rw [Bp e,Bp (by omega)]
   exact ⟨by rw [k _ a4 a5];exact a1,a2,a3,by omega,a5⟩
  ·obtain rfl:i=F.length:=by omega
   rw [BR];rw [← hl,BR]
   exact ⟨hg,hr,hfb,hf,by omega⟩
 ·simp only [List.length_append,List.length_cons,List.length_nil] at hi hj
  by_cases e1:i<F.length
  ·by_cases e2:j<F.length
   ·rw [Bp e1,Bp e2];exact m.dis i j e1 e2 hij
   ·obtain rfl:j=F.length:=by omega
    have:=(m.row i e1).2.2.2.1
    rw [Bp e1,BR];omega
  ·obtain rfl:i=F.length:=by omega
   have:=(m.row j (by omega)).2.2.2.1
   rw [Bp (l:=F) (j:=j) (by omega),BR];omega
theorem Mm {P:Nat→Prop} {h:AH} {n:Nat}:∀ {l l':List (List V)},l.length=l'.length→(∀ i,i<l.length→BS P h n (nth l i) (nth l' i))→BF P h n l l'
 | [],[],_,_=>.nil _
 | a::l,c::l',hl,hx=>.cons _ _ _ _ _ (hx 0 (by simp)) (Mm (by simpa using hl) (fun i hi=>by have:=hx (i+1) (by simpa using hi);rwa [Ka,Ka] at this))
theorem GI {α β:Type} [Inhabited α] [Inhabited β] {f:α→β} {l:List α} {i:Nat} (hi:i<l.length):nth (l.map f) i=f (nth l i):=by simp [nth,List.getD,List.getElem?_eq_getElem hi]
theorem EL.frz {P:Nat→Prop} {k:Nat} (m:EL b h v n W F M) (hW:W.length=F.length) (hP:∀ i,b≤i→P i) (hL:W.length<4000000000) (hn:n<4000000000):Cz P h k v (.fl 1 (M.map aFc)):=by
 have hl:=m.len
 have key:BF P h 0 W (M.map aFc):=Mm (by simp;omega) (fun i hi=>by
  obtain ⟨a1,a2,a3,a4,a5⟩:=m.row i (by omega)
  rw [m.pre i (by omega),GI (by omega)]
  exact .cons _ _ _ _ _ (.sl _ _ _ _ _ _ _ _ (hP _ a3) a1 (by simp;omega) (Nat.le_refl _) (by simpa [Dz] using hn) (by rw [List.drop_zero,List.take_of_length_le (by simp;omega)];exact BF.of_map (fun _=>rfl) _)) (.nil _))
 rcases m.out with ⟨hv,hR⟩ | ⟨id,el,cap,cs,rfl,a,c,d,e,f,g1,g2⟩
 ·subst hR
  have:M.map aFc=[]:=List.length_eq_zero_iff.1 (by have:=key.len;simpa using this.symm)
  rw [this]
  rcases hv with rfl | rfl
  ·exact .ns _ _
  ·exact .e0 _ _
 ·refine .sl _ id el _ cap 1 cs _ (hP _ g1) a (by omega) e (by simpa [Dz] using hL) ?_
  rw [d];exact key
end
/-! Squares by their entries. -/
def Jf (n:Nat) (f:Nat→Nat→Bool):List (List Bool):=(List.range n).map fun a=>(List.range n).map fun b=>f a b
theorem HQ {n:Nat} {f:Nat→Nat→Bool}:(Jf n f).length=n:=by simp [Jf]
theorem Iw {n i:Nat} (hi:i<n):nth (List.range n) i=i:=by simp [nth,List.getD,hi]
theorem HR {n a:Nat} {f:Nat→Nat→Bool} (ha:a<n):nth (Jf n f) a=(List.range n).map fun b=>f a b:=by
 unfold Jf;rw [GI (by simpa using ha),Iw ha]
theorem aG2 {n a b:Nat} {f:Nat→Nat→Bool} (ha:a<n) (hb:b<n):nth (nth (Jf n f) a) b=f a b:=by
 rw [HR ha,GI (by simpa using hb),Iw hb]
theorem Nr {α:Type} [Inhabited α] {l m:List α} (hl:l.length=m.length) (h:∀ i,i<l.length→nth l i=nth m i):l=m:=by
 refine List.ext_getElem hl fun i h1 h2=>?_
 have:=h i h1
 rwa [BX h1,BX h2] at this
theorem SO {n a b:Nat} {f:Nat→Nat→Bool} {x:Bool} (ha:a<n) (hb:b<n):(Jf n f).set a ((nth (Jf n f) a).set b x)=Jf n (fun i j=>if i=a∧j=b then x else f i j):=by
 refine Nr (by simp [HQ]) fun i hi=>?_
 simp only [List.length_set,HQ] at hi
 rw [HU (by rw [HQ];exact hi),HR ha,HR hi]
 split
 ·rename_i e;subst e
  rw [HR hi]
  refine Nr (by simp) fun j hj=>?_
  simp only [List.length_set,List.length_map,List.length_range] at hj
  rw [HU (by simpa using hj),GI (by simpa using hj),GI (by simpa using hj),Iw hj]
  by_cases e:b=j
  ·simp [e]
  ·simp [e,Ne.symm e]
 ·rename_i e
  rw [HR hi]
  exact List.map_congr_left fun j _=>by simp [Ne.symm e]
end Go.Ab.T
namespace Go.Ab.T
open Go Go.Ab
set_option maxHeartbeats 4000000
def inB (n:Nat) (p:Int):Bool:=decide (0≤p∧p<n)
def aWp (C:Ah) (x y:Nat):Bool:=decide (x=y)||((nth C.parts x).sched&&(nth C.parts y).sched)
def aUn (n:Nat) (x y:Nat) (c:Ar):Bool:=inB n c.src&&inB n c.dst&&(decide (c.src=x∧c.dst=y)||decide (c.dst=x∧c.src=y))
def aWq (C:Ah) (k:Nat) (x y:Nat):Bool:=aWp C x y||(C.chans.take k).any (aUn C.parts.length x y)
def aTU (C:Ah):List (List Bool):=Jf C.parts.length (aWq C C.chans.length)
theorem EL.tell {b n : Nat} {h : AH} {v : V} {W : List (List V)} {F : List Nat} {f : Nat → Nat → Bool} (m : EL b h v n W F (Jf n f)) {a c : Nat} (ha : a < n) (hc : c < n) :
    nth W a=[.sl (nth F a) 0 n n]∧h.get (nth F a)=some ⟨1,(nth (Jf n f) a).map Fq⟩∧((nth (Jf n f) a).map Fq)[c]?=some [.b (f a c)]∧(∀ x:Bool,((nth (Jf n f) a).map Fq).set c [.b x]=(((nth (Jf n f) a).set c x).map Fq))∧b≤nth F a∧nth F a<h.next∧nth F a≠AW v ∧
    ∀ x:Bool,EL b (h.put (nth F a) ⟨1,((nth (Jf n f) a).set c x).map Fq⟩) v n W F (Jf n fun i j=>if i=a∧j=c then x else f i j):=by
 have hl:=m.len
 rw [HQ] at hl
 obtain ⟨a1,a2,a3,a4,a5⟩:=m.row a (by omega)
 refine ⟨m.pre a (by omega),a1, ?_,fun x=>by simp [List.map_set,Fq],a3,a4,a5,fun x=>?_⟩
 ·rw [List.getElem?_map,E8 (by omega),aG2 ha hc];rfl
 ·have:=m.set (a:=a) (by omega) (r:=(nth (Jf n f) a).set c x) (by simp [a2])
  rwa [SO ha hc] at this
end Go.Ab.T
namespace Go.Ab.T
open Go Go.Ab
set_option maxHeartbeats 4000000
theorem EL.two {b n : Nat} {h : AH} {v : V} {W : List (List V)} {F : List Nat} {f : Nat → Nat → Bool} (m : EL b h v n W F (Jf n f)) {a c : Nat} (ha : a < n) (hc : c < n) :
    EL b ((h.put (nth F a) ⟨1,((nth (Jf n f) a).set c true).map Fq⟩).put (nth F c) ⟨1,((if a=c then (nth (Jf n f) a).set c true else nth (Jf n f) c).set a true).map Fq⟩) v n W F (Jf n fun i j=>if i=c∧j=a then true else if i=a∧j=c then true else f i j):=by
 obtain ⟨_,_,_,_,_,_,_,t8⟩:=m.tell ha hc
 obtain ⟨_,_,_,_,_,_,_,s8⟩:=(t8 true).tell hc ha
 have e:nth (Jf n fun i j=>if i=a∧j=c then true else f i j) c=if a=c then (nth (Jf n f) a).set c true else nth (Jf n f) c:=by
  rw [← SO ha hc,HU (by rw [HQ];exact hc)]
 have:=s8 true
 rwa [e] at this
end Go.Ab.T
namespace Go.Ab.T
open Go Go.Ab
set_option maxHeartbeats 4000000
structure Move where
 i:Int
 j:Int
 right:Bool
 deriving Inhabited,DecidableEq
@[go_sem] def Move.enc (m:Move):List V:=[.i .i64 m.i,.i .i64 m.j,.b m.right]
def S3 (L:List AI) (m:Move):Bool:=decide (0≤m.i∧m.i<m.j∧m.j<L.length)
def aEZ (M:List (List Bool)) (p:Int) (r:AI):Bool:=decide (r.part=p)||(decide (p≠-1)&&decide (r.part≠-1)&&aTT M p r.part)
def fI (L:List AI) (m:Move):List AI:=(L.drop (m.i+1).toNat).take (m.j.toNat - (m.i+1).toNat)
def aWv (L:List AI) (M:List (List Bool)) (m:Move):Bool:=S3 L m&&decide ((nth L m.i.toNat).part=(nth L m.j.toNat).part)&&!(fI L m).any (aEZ M (nth L m.i.toNat).part)
end Go.Ab.T
namespace Go.Ab.T
open Go Go.Ab
set_option maxHeartbeats 4000000
def toI (m:Move):Nat:=if m.right=true then m.j.toNat else m.i.toNat
def aUg (m:Move):Nat:=if m.right=true then m.i.toNat else m.j.toNat
def aWw (L:List AI) (t f:Nat):List AI:=(L.set t ⟨(nth L t).part,Ga (nth L t).n (nth L f).n⟩).set f ⟨(nth L f).part,0⟩
def doR (L:List AI) (m:Move):List AI:=if S3 L m=true then Bu (aWw L (toI m) (aUg m)) [] else L
end Go.Ab.T
namespace Go.Ab.T
open Go Go.Ab
set_option maxHeartbeats 4000000
def aTN (L:List AI) (M:List (List Bool)) (i:Nat):Nat→Nat→List Move→List Move
 | 0,_,acc=>acc
 | f+1,j,acc=>aTN L M i f (j+1) (if aWv L M ⟨i,j,false⟩=true then acc++[⟨i,j,false⟩,⟨i,j,true⟩] else acc)
def aTM (L:List AI) (M:List (List Bool)):Nat→Nat→List Move→List Move
 | 0,_,acc=>acc
 | f+1,i,acc=>aTM L M f (i+1) (aTN L M i (L.length - (i+1)) (i+1) acc)
def aWl (L:List AI) (M:List (List Bool)):List Move:=aTM L M L.length 0 []
end Go.Ab.T
namespace Go.Ab.T
open Go Go.Ab
set_option maxHeartbeats 4000000
section
variable {L:List AI} {t f:Nat}
end
section
variable {L:List AI} {m:Move}
end
/-! What is drawn, what is done till nothing goes. -/
def W8 (C:Ah) (L:List AI):List Move→List AI×Bool
 | []=>(L,false)
 | m::l=>if Cr C (doR L m)=0 then (doR L m,true) else W8 C L l
def W9 (C:Ah) (L:List AI):List AI×Bool:=W8 C L (aWl L (aTU C))
def Rn (L:List AI):List AI×Bool:=(Bu L [],!decide (Bu L []=L))
def bO (C:Ah) (a b:List AI):Bool:=!(aWr a b (aTU C)).2.2&&(decide (Cr C b=0)&&Xs b)
def rR (C:Ah) (L:List AI):List AI×Bool:=
 if (Rn L).2=true∧bO C L (Rn L).1=true then ((Rn L).1,true) else
 if (W9 C L).2=true∧bO C L (W9 C L).1=true then ((W9 C L).1,true) else (L,false)
def ZM (C:Ah):Nat→List AI→Int→List AI×Int
 | 0,L,n=>(L,n)
 | f+1,L,n=>if (rR C L).2=true then ZM C f (rR C L).1 (n+1) else (L,n)
def NZ (C:Ah) (L:List AI):List AI×Int:=ZM C (L.length+1) L 0
end Go.Ab.T
namespace Go.Ab.T
open Go Go.Ab
set_option maxHeartbeats 4000000
theorem Sp:∀ {L:List AI},Bd L→(L.length:Int)≤Ay L
 | [],_=>by simp [Ay]
 | r::l,h=>by
  have:=Sp (L:=l) (fun q hq=>h q (List.mem_cons_of_mem _ hq))
  have:=h r (List.mem_cons_self ..)
  simp only [List.length_cons,Ay];omega
theorem Hy.len {L:List AI} (h:Hy L):L.length≤4096:=by
 have:=Sp h.1;have:=h.2;omega
end Go.Ab.T
namespace Go.Ab.T
open Go Go.Ab
set_option maxHeartbeats 4000000
end Go.Ab.T
namespace Go.Ab.T
open Go Go.Ab
set_option maxHeartbeats 4000000
end Go.Ab.T
namespace Go.Ab.T
open Go Go.Ab
set_option maxHeartbeats 4000000
def aTL {α:Type} [DecidableEq α] (X:List α) (i p:Nat):Nat→Nat→Nat
 | 0,k=>k
 | f+1,k=>if i+(k+1)*p≤X.length∧(X.drop i).take p=(X.drop (i+k*p)).take p then aTL X i p f (k+1) else k
def agR {α:Type} [DecidableEq α] (X:List α) (i p:Nat):Nat:=aTL X i p X.length 1
end Go.Ab.T
namespace Go.Ab.T
open Go Go.Ab
set_option maxHeartbeats 4000000
structure St where
 i:Nat
 p:Nat
 n:Nat
 s:Int
 deriving Inhabited,DecidableEq
@[go_sem] def St.enc (x:St):List V:=[.i .i64 x.i,.i .i64 x.p,.i .i64 x.n,.i .i64 x.s]
def svs (z:Int) (n p:Nat):Int:=z*(n - 1) - 1 - (if 1<p then 1 else 0)
def aTR (sz:Nat→Int) (tm:Nat→Nat→Nat) (i:Nat):Nat→Nat→Int→St→St
 | 0,_,_,st=>st
 | f+1,p,z,st=>aTR sz tm i f (p+1) (z+sz (i+p - 1)) (if 1<tm i p∧st.s<svs (z+sz (i+p - 1)) (tm i p) p then ⟨i,p,tm i p,svs (z+sz (i+p - 1)) (tm i p) p⟩ else st)
def aTQ (len:Nat) (sz:Nat→Int) (tm:Nat→Nat→Nat):Nat→Nat→St→St
 | 0,_,st=>st
 | f+1,i,st=>aTQ len sz tm f (i+1) (aTR sz tm i ((len - i) / 2) 1 0 st)
def aWo (len:Nat) (sz:Nat→Int) (tm:Nat→Nat→Nat):St:=aTQ len sz tm len 0 ⟨0,0,0,0⟩
end Go.Ab.T
namespace Go.Ab.T
open Go Go.Ab
set_option maxHeartbeats 4000000
end Go.Ab.T
namespace Go.Ab.T
open Go Go.Ab
set_option maxHeartbeats 4000000
def aUm (r:AI):Node:=if r.part = -1 then ⟨2,0,r.n⟩ else ⟨1,r.part,r.n⟩
def jK (L:List AI):List (List Node):=L.map fun r=>[aUm r]
structure IM (b sz:Nat) (h:AH) (v:V) (W:List (List V)) (R:List (List (List V))):Prop where
 out:Sl b h 1 v W
 len:R.length=W.length
 row:∀ i,i<W.length→∃ id,nth W i=[V.sl id 0 (nth R i).length (nth R i).length]∧h.get id=some ⟨sz,nth R i⟩∧b≤id∧id<h.next∧id≠AW v
theorem IM.ext {b sz:Nat} {h h':AH} {v:V} {W:List (List V)} {R:List (List (List V))} (m:IM b sz h v W R) (x:AK h h'):IM b sz h' v W R:=
 ⟨m.out.ext x,m.len,fun i hi=>by
  obtain ⟨id,a1,a2,a3,a4,a5⟩:=m.row i hi
  exact ⟨id,a1,(x.get _ a4).trans a2,a3,by have:=x.next;omega,a5⟩⟩
theorem IM.push {b sz id : Nat} {h h1 h4 : AH} {v w : V} {W : List (List V)} {R : List (List (List V))} {r : List (List V)} (m : IM b sz h v W R) (hb : b ≤ h.next) (x : AK h h1) (hid : h.next ≤ id) (hlt : id < h1.next) (hg : h1.get id = some ⟨sz, r⟩)
    (s4:Sl b h4 1 w (W++[[.sl id 0 r.length r.length]])) (g4:Grown b h1 v w h4):IM b sz h4 w (W++[[.sl id 0 r.length r.length]]) (R++[r]):=by
 have hl:=m.len
 have hn:=g4.next
 have hvlow:=DG m.out
 have hw:Ba w=false:=by
  rcases s4 with ⟨_,h2⟩ | ⟨id,el,cap,cs,rfl,_⟩
  ·simp at h2
  ·rfl
 have hwid:∀ j,j<h1.next→(Ba v=true∨j≠AW v)→j≠AW w:=fun j hj hv=>by
  rcases g4.own with h2 | ⟨h2,h3⟩ | h2
  ·rw [hw] at h2;cases h2
  ·rw [h2] at hv;rw [h3];exact hv.resolve_left (by simp)
  ·omega
 refine ⟨s4,by simp [hl],fun i hi=>?_⟩
 simp only [List.length_append,List.length_cons,List.length_nil] at hi
 by_cases e:i<W.length
 ·obtain ⟨d,a1,a2,a3,a4,a5⟩:=m.row i e
  have:=x.next
  rw [Bp e,Bp (by omega)]
  exact ⟨d,a1,by rw [g4.get _ (by omega) (.inr a5),x.get _ a4];exact a2,a3,by omega,hwid _ (by omega) (.inr a5)⟩
 ·obtain rfl:i=W.length:=by omega
  rw [BR,←hl,BR]
  have hv:Ba v=true∨id≠AW v:=hvlow.imp (fun h=>h) (fun h=>by omega)
  exact ⟨id,rfl,by rw [g4.get _ hlt hv];exact hg,by omega,by omega,hwid _ hlt hv⟩
theorem Xu {b k:Nat} {h:AH} {v:V} {W R:List (List V)} {P:Nat→Prop} (s:Sl b h 1 v W) (key:BF P h 0 W R) (hP:∀ i,b≤i→P i) (hL:W.length<4000000000):Cz P h k v (.fl 1 R):=by
 rcases s with ⟨hv,hR⟩ | ⟨id,el,cap,cs,rfl,a,c,d,e,f,g1,g2⟩
 ·subst hR
  have:R=[]:=List.length_eq_zero_iff.1 (by have:=key.len;simpa using this.symm)
  rw [this]
  rcases hv with rfl | rfl
  ·exact .ns _ _
  ·exact .e0 _ _
 ·refine .sl _ id el _ cap 1 cs _ (hP _ g1) a (by omega) e (by simpa [Dz] using hL) ?_
  rw [d];exact key
theorem IM.frz {b sz k:Nat} {h:AH} {v:V} {W:List (List V)} {R:List (List (List V))} {P:Nat→Prop} (m:IM b sz h v W R) (hP:∀ i,b≤i→P i) (hL:W.length<4000000000) (hr:∀ r∈R,r.length<4000000000∧BF P h 0 r r):Cz P h k v (.fl 1 (R.map fun r=>[.fl sz r])):=by
 have hl:=m.len
 have key:BF P h 0 W (R.map fun r=>[V.fl sz r]):=Mm (by simp;omega) (fun i hi=>by
  obtain ⟨id,a1,a2,a3,a4,a5⟩:=m.row i hi
  have hq:=hr (nth R i) (Bl (by omega))
  rw [a1,GI (by omega)]
  exact .cons _ _ _ _ _ (.sl _ _ _ _ _ _ _ _ (hP _ a3) a2 (by simp) (Nat.le_refl _) (by simpa [Dz] using hq.1) (by rw [List.drop_zero,List.take_length];exact hq.2)) (.nil _))
 exact Xu m.out key (hP) hL
end Go.Ab.T
namespace Go.Ab.T
open Go Go.Ab
set_option maxHeartbeats 4000000
end Go.Ab.T
namespace Go.Ab.T
open Go Go.Ab
set_option maxHeartbeats 4000000
section
variable {tp:TP} {e:Env} {h:AH} {K:V→AH→Prop}
def gB:V→Option V | .ns=>some (.i .i64 0) | .e0=>some (.i .i64 0) | _=>none
theorem gD:gB .ns=some (.i .i64 0):=An rfl
theorem gC:gB .e0=some (.i .i64 0):=An rfl
theorem Z0 {g:Option BV} {sz:Nat} {k:IntKind}:Ht g sz .ns none (some (.i k 0)) none=some .ns:=An rfl
theorem aHC {sz id el n:Nat} {cs:List (List V)} {k:IntKind}:Ht (some ⟨sz,cs⟩) sz (.sl id el n n) none (some (.i k 0)) none=some (.sl id el 0 n):=by simp [Ht,AM]
theorem aEp {x:X}:Z1 tp (.cap x) e h K=Wo (gB (x.e2 e)) (fun v=>K v h):=by
 unfold Z1;simp only [z1,BM,Af,gB]
 cases x.e2 e<;>simp only [AV,A5]
theorem eL {x:X}:Ek tp (.cap x) e h K=Z1 tp (.cap x) e h K:=AY rfl
end
attribute [go_sem ↓] aEp eL
attribute [go_sem] gD gC Z0 aHC Int.sub_zero
def VQ (h:AH) (w:V) (vs:List V):Prop:=HO w=some (.i .i64 vs.length)∧∀ h',AK h h'→∀ (k:IntKind) (j:Nat),j<vs.length→∃ p,Jd (h'.get (AW w)) 1 w (.i k j)=some p∧UV h' 1 false p=vs[j]?
def RowsIn (sz:Nat) (h:AH) (vs:List V) (Rs:List (List (List V))):Prop:=vs.length=Rs.length∧∀ h',AK h h'→∀ j,j<vs.length→∃ v R,vs[j]?=some v∧Rs[j]?=some R∧Ef sz h' v=some R∧HO v=some (.i .i64 R.length)
theorem Xy {h : AH} {n : Int} {K : V → AH → Prop} (h0 : 0 ≤ n) (h1 : n < 1000000)
    (kk:n=0→K .ns h) (k2:0<n→K (.sl h.next 0 0 n.toNat) (h.alloc ⟨1,List.replicate n.toNat [.i .u8 0]⟩)):Cq tp QZ [.ns,.i .i64 n] h K:=by
 refine A8 iD (by simp [Kv]) fun wf rp=>?_;unfold Kv;simp (disch:=omega)only[go_sem, *]
 refine Aa (fun hc=>?_) (fun hc=>?_)
 ·exact absurd hc (by omega)
 simp (disch:=omega)only[go_sem, *]
 refine Aa (fun hc=>?_) (fun hc=>?_)
 ·have f:=k2 (by omega)
  have h2:n<4294967296:=by omega
  clear kk k2
  simp (disch:=omega)only[go_sem, *]
 ·have f:=kk (by omega)
  clear kk k2
  simp (disch:=omega)only[go_sem, *]
theorem Sg {K : Ex → Env → AH → Prop} {e : Env} {h h1 : AH} {w g0 : V} {vs : List V} {Rs : List (List (List V))} (x1 : AK h h1) (hlo : h1.lim ≤ h.next) (s0 : Sl h.next h1 1 g0 []) (wl : HO w = some (.i .i64 vs.length))
    (FF:∀ h',AK h h'→∀ (k:IntKind) (j:Nat),j<vs.length→∃ p,Jd (h'.get (AW w)) 1 w (.i k j)=some p∧UV h' 1 false p=vs[j]?) (hvl1:vs.length≤Rs.length) (hvl2:Rs.length≤vs.length)
    (hat:∀ h',AK h h'→∀ j,j<vs.length→∃ v R,vs[j]?=some v∧Rs[j]?=some R∧Ef 1 h' v=some R∧HO v=some (.i .i64 R.length)) (hR:Rs.flatten.length<1000000) (hv:vs.length<1000000)
    (e6:e 6=g0) (e25:e 25=w) (e26:e 26=.i .i64 vs.length) (e27:e 27=.i .i64 0)
    (kk:∀ e' h2 r,e' 6=r→AK h h2→Sl h.next h2 1 r Rs.flatten→K (.ex 2) e' h2):ZC tp (.loop Qs) e h1 K:=by
 refine Ae (fun n' e hh=>∃ (i:Nat) (g:V),n'=vs.length - i∧AK h hh∧hh.lim≤h.next∧e 6=g∧e 25=w∧e 26=.i .i64 vs.length∧e 27=.i .i64 i∧i≤vs.length∧Sl h.next hh 1 g (Rs.take i).flatten) ?_ _ _ _ ⟨0,g0,rfl,x1,hlo,e6,e25,e26,e27,by omega,s0⟩
 clear x1 hlo s0 e6 e25 e26 e27 e
 rintro n' e hh ⟨i,g,rfl,x1,hlo,e6,e25,e26,e27,hi,s0⟩ ih
 rw [Ai Qs.eq_1]
 simp (disch:=omega)only[go_sem, *]
 refine Aa (fun hc=>?_) (fun hc=>?_)
 ·have hil:i<vs.length:=by omega
  obtain ⟨p,hp1,hp2⟩:=FF hh x1 .i64 i hil
  obtain ⟨v,R,hv1,hv2,hv3,hv4⟩:=hat hh x1 i hil
  have hp3:=hp2.trans hv1
  have ht:(Rs.take (i+1)).flatten=(Rs.take i).flatten++R:=by
   rw [List.take_succ,hv2];simp
  have hle:(Rs.take (i+1)).flatten.length≤Rs.flatten.length:=by
   conv=>rhs;rw [← List.take_append_drop (i+1) Rs]
   rw [List.flatten_append,List.length_append];omega
  have hn:=x1.next
  rw [ht,List.length_append] at hle
  have ht2:=ht.symm
  clear wl FF hat hp2 hv1 ht kk
  simp (disch:=omega)only[go_sem, *]
  refine Ao s0 (by omega) (by omega) (by omega) ?_
  intro r h4 s4 g4
  have x4:AK h h4:=⟨by have:=g4.next;omega,by rw [g4.lim];exact x1.lim,fun k hk=>by rw [g4.low k hk];exact x1.get k hk⟩
  have l4:h4.lim≤h.next:=by rw [g4.lim];exact hlo
  rw [ht2] at s4
  clear g4 ht2 s0
  simp (disch:=omega)only[go_sem, *]
  refine ih _ _ _ ?_ ⟨i+1,r,rfl, ?_⟩
  ·omega
  ·clear ih
   simp (disch:=omega)only[go_sem, *]
   all_goals ((repeat' refine And.intro ?_ ?_)<;>first | omega | assumption | (exact x4) | (exact s4))
 ·have hti:Rs.take i=Rs:=List.take_of_length_le (by omega)
  rw [hti] at s0
  have f:=kk
  clear hti ih kk
  simp (disch:=omega)only[go_sem, *]
  refine f _ hh g ?_ x1 s0
  simp (disch:=omega)only[go_sem, *]
theorem Ma {h : AH} {w : V} {vs : List V} {Rs : List (List (List V))} {K : V → AH → Prop} (hlo : h.lim ≤ h.next) (hw : VQ h w vs) (hr : RowsIn 1 h vs Rs) (hv : vs.length < 1000000) (hR : Rs.flatten.length < 1000000)
    (kk:∀ r h',Sl h.next h' 1 r Rs.flatten→AK h h'→K r h'):Cq tp Yj [w] h K:=by
 obtain ⟨wl,FF⟩:=hw
 obtain ⟨hvl0,hat⟩:=hr
 have hvl1:=Nat.le_of_eq hvl0
 have hvl2:=Nat.le_of_eq hvl0.symm
 clear hvl0
 refine A8 aGd (by simp [Pe]) fun wf rp=>?_;unfold Pe;simp (disch:=omega)only[go_sem, *]
 have hx:=AK.refl h
 refine Ae (fun n' e hh=>∃ (i:Nat),n'=vs.length - i∧hh=h∧e 0=w∧e 9=w∧e 10=.i .i64 vs.length∧e 11=.i .i64 i∧e 3=.i .i64 ((Rs.take i).flatten.length:Nat)∧i≤vs.length) ?_ _ _ _ ⟨0,rfl, ?_⟩
 rotate_left
 ·simp (disch:=omega)only[go_sem, *]
  all_goals ((repeat' refine And.intro ?_ ?_)<;>first | omega | assumption | (rfl))
 rintro n' e hh ⟨i,rfl,rfl,e0,e9,e10,e11,e3,hi⟩ ih
 rw [Ai qJ.eq_1]
 simp (disch:=omega)only[go_sem, *]
 refine Aa (fun hc=>?_) (fun hc=>?_)
 ·have hil:i<vs.length:=by omega
  obtain ⟨p,hp1,hp2⟩:=FF hh hx .i64 i hil
  obtain ⟨v,R,hv1,hv2,hv3,hv4⟩:=hat hh hx i hil
  have hp3:=hp2.trans hv1
  have hiR:i<Rs.length:=by omega
  have ht:(Rs.take (i+1)).flatten.length=(Rs.take i).flatten.length+R.length:=by
   rw [List.take_succ,hv2];simp
  have hle:(Rs.take (i+1)).flatten.length≤Rs.flatten.length:=by
   conv=>rhs;rw [← List.take_append_drop (i+1) Rs]
   rw [List.flatten_append,List.length_append];omega
  generalize (Rs.take i).flatten.length=A at *
  clear wl FF hat hp2 hv1 hv3
  simp (disch:=omega)only[go_sem, *]
  refine Aa (fun hc2=>?_) (fun hc2=>?_)
  ·exact absurd hc2 (by omega)
  simp (disch:=omega)only[go_sem, *]
  refine ih _ _ _ ?_ ⟨i+1,rfl, ?_⟩
  ·omega
  ·clear ih
   simp (disch:=omega)only[go_sem, *]
   all_goals ((repeat' refine And.intro ?_ ?_)<;>first | omega | assumption | (rfl))
 ·have hti:Rs.take i=Rs:=List.take_of_length_le (by omega)
  rw [hti] at e3
  clear hti ih
  simp (disch:=omega)only[go_sem, *]
  refine Xy (by omega) (by omega) (fun hz=>?_) (fun hp=>?_)
  ·simp (disch:=omega)only[go_sem, *]
   refine Sg (g0:=.ns) hx hlo (Sl.nil _ _ _) wl FF hvl1 hvl2 hat hR hv (by simp (disch:=omega)only[go_sem, *]) (by simp (disch:=omega)only[go_sem, *]) (by simp (disch:=omega)only[go_sem, *]) (by simp (disch:=omega)only[go_sem, *]) ?_
   intro e' h2 r f6 x2 s2
   have f:=kk r h2 s2 x2
   clear kk s2
   simp (disch:=omega)only[go_sem, *]
  ·have s1:Sl hh.next (hh.alloc ⟨1,List.replicate ((Rs.flatten.length:Int)).toNat [.i .u8 0]⟩) 1 (.sl hh.next 0 0 ((Rs.flatten.length:Int)).toNat) []:=.inr ⟨_,_,_,_,rfl,by rw [AL,AC rfl],by simp,by simp,by simp,Nat.lt_succ_self _,Nat.le_refl _,by simp⟩
   have x1:AK hh (hh.alloc ⟨1,List.replicate ((Rs.flatten.length:Int)).toNat [.i .u8 0]⟩):=hx.alloc _
   generalize hh.alloc ⟨1,List.replicate ((Rs.flatten.length:Int)).toNat [.i .u8 0]⟩=h1 at s1 x1 ⊢
   have l1:h1.lim≤hh.next:=by rw [x1.lim];exact hlo
   simp (disch:=omega)only[go_sem, *]
   refine Sg (g0:=.sl hh.next 0 0 ((Rs.flatten.length:Int)).toNat) x1 l1 s1 wl FF hvl1 hvl2 hat hR hv (by simp (disch:=omega)only[go_sem, *]) (by simp (disch:=omega)only[go_sem, *]) (by simp (disch:=omega)only[go_sem, *]) (by simp (disch:=omega)only[go_sem, *]) ?_
   intro e' h2 r f6 x2 s2
   have f:=kk r h2 s2 x2
   clear kk s2
   simp (disch:=omega)only[go_sem, *]
end Go.Ab.T
namespace Go.Ab.T
open Go Go.Ab
set_option maxHeartbeats 4000000
end Go.Ab.T
namespace Go.Ab.T
open Go Go.Ab
set_option maxHeartbeats 4000000
/-! Folding, plain. -/
def aUE (sz:Nat→Int) (i:Nat):Nat→Int
 | 0=>0
 | k+1=>aUE sz i k+sz (i+k)
def aTv (len:Nat) (sz:Nat→Int) (tm:Nat→Nat→Nat) (st:St):Prop:=(st=⟨0,0,0,0⟩)∨(1≤st.p∧st.i+2*st.p≤len∧st.n=tm st.i st.p∧1<st.n∧st.s=svs (aUE sz st.i st.p) st.n st.p∧0<st.s)
theorem aTv.pos {len:Nat} {sz:Nat→Int} {tm:Nat→Nat→Nat} {st:St} (h:aTv len sz tm st):0≤st.s:=by
 rcases h with rfl | h
 ·exact Int.le_refl _
 ·omega
def rC (X:List (List Node)):St:=aWo X.length (fun j=>((nth X j).length:Int)) (agR X)
def YN (X:List (List Node)):List Node:=if X.length=1 then X.flatten else ⟨3,0,X.length⟩::X.flatten
def aGK (X:List (List Node)) (s:St):List (List Node):=X.take s.i++[⟨4,0,s.n⟩::YN ((X.drop s.i).take s.p)]++X.drop (s.i+s.p*s.n)
def rS:Nat→List (List Node)→List Node
 | 0,X=>YN X
 | f+1,X=>if (rC X).n=0 then YN X else rS f (aGK X (rC X))
def Xq (L:List AI):List Node:=if Xs L=true then rS L.length (jK L) else []
end Go.Ab.T
namespace Go.Ab.T
open Go Go.Ab
set_option maxHeartbeats 4000000
end Go.Ab.T
namespace Go.Ab.T
open Go Go.Ab
set_option maxHeartbeats 4000000
theorem Rq {h:AH} {D:List Nat}:(h.kills D).next=h.next:=An rfl
theorem Uc {h:AH} {D:List Nat}:(h.kills D).lim=h.lim:=An rfl
theorem QS {h:AH} {i a b:Nat} (h1:¬ i=a) (h2:¬ i=b):(h.kills [a,b]).get i=h.get i:=by simp [AH.kills,h1,h2]
attribute [go_sem] Rq Uc QS
end Go.Ab.T
namespace Go.Ab.T
open Go Go.Ab
set_option maxHeartbeats 4000000
end Go.Ab.T
namespace Go.Ab.T
open Go Go.Ab
set_option maxHeartbeats 4000000
/-! Items as trees: what folding does to them. Plain. -/
theorem Fo.flat_inj:∀ (f g:Fo) (R R':List Node),f.ok→g.ok→f.count=g.count→f.flat++R=g.flat++R'→f=g∧R=R'
 | .nil,.nil,R,R',_,_,_,h=>⟨rfl,by simpa [Fo.flat] using h⟩
 | .nil,.leaf _ _,_,_,_,_,hc,_=>by simp [Fo.count] at hc
 | .nil,.seq _ _ _,_,_,_,_,hc,_=>by simp [Fo.count] at hc
 | .nil,.rep _ _ _,_,_,_,_,hc,_=>by simp [Fo.count] at hc
 | .leaf _ _,.nil,_,_,_,_,hc,_=>by simp [Fo.count] at hc
 | .seq _ _ _,.nil,_,_,_,_,hc,_=>by simp [Fo.count] at hc
 | .rep _ _ _,.nil,_,_,_,_,hc,_=>by simp [Fo.count] at hc
 | .leaf x r,.leaf y s,R,R',hf,hg,hc,h=>by
  simp only [Fo.flat,List.cons_append,List.cons.injEq] at h
  obtain ⟨h1,h2⟩:=Fo.flat_inj r s R R' hf.2 hg.2 (by simpa [Fo.count] using hc) h.2
  exact ⟨by rw [h.1,h1],h2⟩
 | .leaf x r,.seq y k s,R,R',hf,hg,hc,h=>by
  simp only [Fo.flat,List.cons_append,List.cons.injEq] at h
  have:=hf.1;have:=hg.2.1;have:=hg.2.2.1;rw [h.1] at *;omega
 | .leaf x r,.rep y k s,R,R',hf,hg,hc,h=>by
  simp only [Fo.flat,List.cons_append,List.cons.injEq] at h
  have:=hf.1;have:=hg.2.1;rw [h.1] at *;omega
 | .seq y k s,.leaf x r,R,R',hf,hg,hc,h=>by
  simp only [Fo.flat,List.cons_append,List.cons.injEq] at h
  have:=hg.1;have:=hf.2.1;have:=hf.2.2.1;rw [h.1] at *;omega
 | .rep y k s,.leaf x r,R,R',hf,hg,hc,h=>by
  simp only [Fo.flat,List.cons_append,List.cons.injEq] at h
  have:=hg.1;have:=hf.2.1;rw [h.1] at *;omega
 | .seq y k s,.rep x l r,R,R',hf,hg,hc,h=>by
  simp only [Fo.flat,List.cons_append,List.cons.injEq] at h
  have:=hf.1;have:=hg.1;rw [h.1] at *;omega
 | .rep y k s,.seq x l r,R,R',hf,hg,hc,h=>by
  simp only [Fo.flat,List.cons_append,List.cons.injEq] at h
  have:=hf.1;have:=hg.1;rw [h.1] at *;omega
 | .seq y k s,.seq x l r,R,R',hf,hg,hc,h=>by
  simp only [Fo.flat,List.cons_append,List.cons.injEq,List.append_assoc] at h
  obtain ⟨h0,h⟩:=h
  subst h0
  obtain ⟨h1,h2⟩:=Fo.flat_inj k l _ _ hf.2.2.2.1 hg.2.2.2.1 (by have:=hf.2.1;have:=hg.2.1;omega) h
  obtain ⟨h3,h4⟩:=Fo.flat_inj s r _ _ hf.2.2.2.2 hg.2.2.2.2 (by simpa [Fo.count] using hc) h2
  exact ⟨by rw [h1,h3],h4⟩
 | .rep y k s,.rep x l r,R,R',hf,hg,hc,h=>by
  simp only [Fo.flat,List.cons_append,List.cons.injEq,List.append_assoc] at h
  obtain ⟨h0,h⟩:=h
  subst h0
  obtain ⟨h1,h2⟩:=Fo.flat_inj k l _ _ hf.2.2.2.1 hg.2.2.2.1 (by have:=hf.2.2.1;have:=hg.2.2.1;omega) h
  obtain ⟨h3,h4⟩:=Fo.flat_inj s r _ _ hf.2.2.2.2 hg.2.2.2.2 (by simpa [Fo.count] using hc) h2
  exact ⟨by rw [h1,h3],h4⟩
theorem TV {f:Fo} (ho:f.ok) (hc:f.count=1) (hd:f.depth≤16) (hl:f.len≤4096) (hn:f.flat.length≤128):Fs f.flat=f:=by
 obtain ⟨_,h1,h2,h3,_⟩:=FU (Hm ho hc hd hl hn)
 have:=Fo.flat_inj f (Fs f.flat) [] [] ho h1 (by rw [hc,h2]) (by rw [List.append_nil,List.append_nil];exact h3)
 exact this.1.symm
end Go.Ab.T
namespace Go.Ab.T
open Go Go.Ab
set_option maxHeartbeats 4000000
theorem kW {e:Env} {h:AH} {n m k l:Nat} {g:Bool}:BP e h [.t n,.cell m k g,.t l]=(GZ h k g (e m)).map fun v=>.tup [e n,v,e l]:=by
 simp only [BP,UG,GO]
 cases GZ h k g (e m)<;>rfl
attribute [go_sem] kW
structure Rpt where
 moves:Int
 runs:Int
 was:Int
 nodes:Int
 wasn:Int
 kept:Bool
 deriving Inhabited,DecidableEq
@[go_sem] def Rpt.enc (r:Rpt):List V:=[.i .i64 r.moves,.i .i64 r.runs,.i .i64 r.was,.i .i64 r.nodes,.i .i64 r.wasn,.b r.kept]
noncomputable def aW4 (C:Ah) (T:List Node):List Node×Rpt×Int:=
 if (Ez T).2≠0 then ([],⟨0,0,0,0,0,false⟩,(Ez T).2) else
 if Cr C (Ez T).1≠0 then ([],⟨0,0,0,0,0,false⟩,Cr C (Ez T).1) else
 if T.length<(Xq (NZ C (Ez T).1).1).length then (T,⟨0,(Ez T).1.length,(Ez T).1.length,T.length,T.length,true⟩,0) else
 (Xq (NZ C (Ez T).1).1,⟨(NZ C (Ez T).1).2,(NZ C (Ez T).1).1.length,(Ez T).1.length,(Xq (NZ C (Ez T).1).1).length,T.length,false⟩,0)
end Go.Ab.T
namespace Go.Ab.T
open Go Go.Ab
set_option maxHeartbeats 4000000
theorem aFf {fn:Fn} {a c:List V}:Gc .fn (.f fn a c) .nf=some false:=An rfl
attribute [go_sem] aFf
end Go.Ab.T
namespace Go.Ab.T
open Go Go.Ab
set_option maxHeartbeats 4000000
def bX (tp:TP) (c:TC) (e:Env) (h:AH) (K:Ex→Env→AH→Prop):Prop:=∀ S m hc e1,Da S m h hc→EP S m h hc e e1→WC tp c e1 hc (fun x=>Dt S m h hc (K x))
section
variable {tp:TP} {c a b:TC} {e e2:Env} {h h2:AH} {K:Ex→Env→AH→Prop}
theorem V6 (z:ZC tp c e h K):bX tp c e h K:=fun S m hc e1 c' p=>Gu c c' p z
theorem MS (st:Stp e h e2 h2) (z:bX tp c e2 h2 K):bX tp c e h K:=fun S m hc e1 c' p=>by
 obtain ⟨S',c2,a2,p2⟩:=st S m hc e1 c' p
 exact (z S' m hc e1 c2 p2).imp fun _ _ _=>Dt.then a2
theorem CR (z:ZC tp a e h (fun x e h=>Uo x (bX tp b e h K) (K x e h))):bX tp (.seq a b) e h K:=fun S m hc e1 c' p=>by
 rw [VV]
 refine (Gu a c' p z).imp ?_
 rintro x e1' hc' ⟨e',h',S',m',c2,a',p',z⟩
 cases x with
 | nm=>exact (z S' m' hc' e1' c2 p').imp fun _ _ _=>Dt.then a'
 | ex j=>exact ⟨e',h',S',m',c2,a',p',z⟩
 | rt=>exact ⟨e',h',S',m',c2,a',p',z⟩
end
theorem U1 {tp:TP} {f:Nat} {args:List V} {R:V} {tf:TF} (hf:tp.fn f=some tf) (hl:args.length≤tf.n) (z:FL args→bX tp tf.body (E4 args) AH.emp (fun x e h=>GV tf.res x e h (fun r h'=>Cz (fun _=>True) h' 0 r R))):Pf tp f args R:=by
 intro S m hc args1 c p
 refine R9 hf (by rw [← p.len];exact hl) ((z p.reps S m hc _ c (EP.args p)).imp ?_)
 rintro x e1 hc' ⟨e,h',S',m',c',a',pe,z⟩
 unfold GV at z
 unfold Tj
 have key:(Wo (BP e h' tf.res) fun v=>Cz (fun _=>True) h' 0 v R)→Wo (BP e1 hc' tf.res) (fun r1=>∃ r h'' S' m',Da S' m' h'' hc'∧FH S m AH.emp hc S' m' h'' hc'∧PR S' m' hc'.get h''.next r r1∧r=R∧h''=AH.emp):=by
  rintro ⟨v,hv,fz⟩
  obtain ⟨v1,h1,h2⟩:=MC c' pe hv
  refine ⟨v1,h1,R,AH.emp,SP S' m' h' (fun _=>True),m',Da.emp (SP.low c') c'.bnd m',⟨fun a h=>.inl (a'.sub a h), ?_,a'.map,Nat.le_refl _,a'.next1,rfl,a'.lim1,a'.frame,fun i hi=>by simp [AH.live,AH.emp] at hi⟩,Cz.ok c' fz h2,rfl,rfl⟩
  rintro a (ha | ⟨i,_,hi,rfl⟩)
  ·exact a'.new a ha
  ·rcases a'.liv i hi with ⟨q1,q2⟩ | q1
   ·exact absurd q1 (Nat.not_lt_zero _)
   ·exact .inr (.inl q1)
 cases x with
 | ex j=>exact z.elim
 | nm=>exact key z
 | rt=>exact key z
end Go.Ab.T
namespace Go.Ab.T
open Go Go.Ab
set_option maxHeartbeats 4000000
end Go.Ab.T
namespace Go.Ab.T
open Go Go.Ab
set_option maxHeartbeats 4000000
set_option maxRecDepth 4000
end Go.Ab.T
namespace Go.Ab.T
open Go Go.Ab
set_option maxHeartbeats 4000000
/-! Numbers as bytes, and back. Plain. -/
def Az (b:List Int):Prop:=∀ z∈b,0≤z∧z<256
def El:List Int→Int→Int
 | [],u=>u
 | c::l,u=>El l (IntKind.wrap .u64 (u*256)+c)
def F7 (k0:Int) (l:List Int):Int:=if 128≤k0 then IntKind.wrap .i64 (0 - IntKind.wrap .i64 (El l 0)) else IntKind.wrap .i64 (El l 0)
def Bf:List Int→Int×Nat
 | []=>(0,0)
 | k0::r=>if 8<(k0 % 128).toNat∨r.length<(k0 % 128).toNat then (0,0) else if Am [] (F7 k0 (r.take (k0 % 128).toNat))=k0::r.take (k0 % 128).toNat then (F7 k0 (r.take (k0 % 128).toNat),(k0 % 128).toNat+1) else (0,0)
theorem FG (x:Int):IntKind.wrap .u64 x=x % 18446744073709551616:=by unfold IntKind.wrap;simp [IntKind.bits,IntKind.signed]
theorem DJ (x:Int):IntKind.wrap .u8 x=x % 256:=by unfold IntKind.wrap;simp [IntKind.bits,IntKind.signed]
theorem wrap_i64 (x:Int):IntKind.wrap .i64 x=(x+9223372036854775808) % 18446744073709551616 - 9223372036854775808:=by
 unfold IntKind.wrap;simp only [IntKind.bits,IntKind.signed];simp;split<;>omega
theorem Sc:∀ (f:Nat) (u:Int) (x:List Int),0≤u→u<256 ^ f→u<18446744073709551616→El (Di f u x) 0=El x u
 | 0,u,x,h0,h1,_=>by
  have:u=0:=by simp at h1;omega
  rw [Di,this]
 | f+1,u,x,h0,h1,h2=>by
  rw [Di]
  split
  ·rename_i hc
   have hd:u.fdiv 256=u / 256:=Int.fdiv_eq_ediv_of_nonneg _ (by omega)
   have hp:(256:Int) ^ (f+1)=256 ^ f*256:=Int.pow_succ ..
   rw [hp] at h1
   rw [hd,Sc f _ _ (by omega) (by omega) (by omega),El,FG,DJ]
   congr 1
   omega
  ·have:u=0:=by omega
   rw [this]
theorem Zn (n:Int):El (Ca n) 0=u0 n:=by
 have:=bL n
 exact Sc 8 _ _ this.1 (by omega) this.2
theorem FA (n:Int):(Ca n).length≤8:=by
 have:=Fy 8 (u0 n) []
 simpa [Ca] using this
theorem LH:∀ (f:Nat) (u:Int) (x:List Int),Az x→Az (Di f u x)
 | 0,_,_,h=>h
 | f+1,u,x,h=>by
  rw [Di]
  split
  ·refine LH f _ _ (fun z hz=>?_)
   rcases List.mem_cons.1 hz with rfl | hz
   ·rw [DJ];omega
   ·exact h z hz
  ·exact h
theorem Zo (n:Int):Az (Ca n):=LH _ _ _ (fun z hz=>by cases hz)
def NM (n:Int):Int:=(if n<0 then 128 else 0)+(Ca n).length
theorem Js (B:List Int) (n:Int):Am B n=B++NM n::Ca n:=by
 have:=FA n
 unfold Am NM
 rw [DJ,DJ,List.append_assoc]
 have e:((if n<0 then 128 else 0)+((Ca n).length:Int) % 256) % 256=(if n<0 then 128 else 0)+((Ca n).length:Int):=by
  by_cases h:n<0
  ·rw [if_pos h];omega
  ·rw [if_neg h];omega
 rw [e];rfl
theorem S4 (n:Int):(NM n % 128).toNat=(Ca n).length∧(128≤NM n↔n<0):=by
 have:=FA n
 unfold NM
 by_cases h:n<0
 ·rw [if_pos h];omega
 ·rw [if_neg h];omega
theorem Un {n:Int} (h0 : -9223372036854775808≤n) (h1:n<9223372036854775808):F7 (NM n) (Ca n)=n:=by
 have hk:=(S4 n).2
 unfold F7
 rw [Zn]
 unfold u0
 simp only [FG,wrap_i64]
 split<;>split<;>omega
theorem Xv {n:Int} (h0 : -9223372036854775808≤n) (h1:n<9223372036854775808) (rest:List Int):Bf (Am [] n++rest)=(n,(Am [] n).length):=by
 have hl:=FA n
 have hk:=(S4 n).1
 have ht:(Ca n++rest).take (Ca n).length=Ca n:=List.take_left ..
 rw [Js]
 simp only [List.nil_append,List.cons_append,Bf,hk,ht,Un h0 h1]
 rw [if_neg (by simp;omega),if_pos (by rw [Js];rfl)]
 simp
theorem TX {b:List Int} (h:0<(Bf b).2):b.take (Bf b).2=Am [] (Bf b).1∧(Bf b).2≤b.length:=by
 unfold Bf at *
 split at h
 ·simp at h
 ·split at h
  ·simp at h
  ·rename_i h2
   split at h
   ·rename_i h3
    rw [if_neg h2,if_pos h3]
    simp only [List.take_succ_cons,List.length_cons]
    exact ⟨h3.symm,by omega⟩
   ·simp at h
end Go.Ab.T
namespace Go.Ab.T
open Go Go.Ab
set_option maxHeartbeats 4000000
/-! A configuration out of bytes. Plain. -/
def ZO (l:List Int):ByteArray:=⟨(l.map fun z=>UInt8.ofNat z.toNat).toArray⟩
theorem aHB (s:ByteArray):ZO (sB s)=s:=by
 cases s with
 | mk d=>
  simp only [ZO,sB,List.map_map]
  have:((fun z:Int=>UInt8.ofNat z.toNat)∘fun c:UInt8=>(c.toNat:Int))=id:=by funext c;simp
  rw [this];simp
structure Rd where
 b:List Int
 bad:Bool
def BC (s:Rd):Int×Rd:=if s.bad=true∨(Bf s.b).2=0 then (0,⟨s.b,true⟩) else ((Bf s.b).1,⟨s.b.drop (Bf s.b).2,s.bad⟩)
def AJ (m:Int) (s:Rd):Int×Rd:=if (BC s).1<0∨m<(BC s).1 then (0,⟨(BC s).2.b,true⟩) else BC s
def Dy (s:Rd):Bool×Rd:=(decide ((AJ 1 s).1=1),(AJ 1 s).2)
def DK (b:List Int) (m:Int):List Int×Nat:=if (Bf b).2=0∨(Bf b).1<0∨m<(Bf b).1∨(b.length:Int) - (Bf b).2<(Bf b).1 then ([],0) else ((b.drop (Bf b).2).take (Bf b).1.toNat,(Bf b).2+(Bf b).1.toNat)
def DH (m:Int) (s:Rd):ByteArray×Rd:=if s.bad=true∨(DK s.b m).2=0 then (⟨#[]⟩,⟨s.b,true⟩) else (ZO (DK s.b m).1,⟨s.b.drop (DK s.b m).2,s.bad⟩)
def Cv:Nat→List AO→Rd→List AO×Rd
 | 0,acc,s=>(acc,s)
 | n+1,acc,s=>Cv n (acc++[⟨(AJ 512 s).1,(AJ 255 (AJ 512 s).2).1⟩]) (AJ 255 (AJ 512 s).2).2
def C7 (s:Rd):Part×Rd:=
 let a:=DH 12 s
 let b:=BC a.2
 let c:=BC b.2
 let d:=Dy c.2
 let e:=Dy d.2
 let k:=AJ 3 e.2
 let p:=Cv k.1.toNat [] k.2
 let h0:=AJ 2 p.2
 let h1:=AJ 2 h0.2
 let h2:=AJ 2 h1.2
 let h3:=AJ 2 h2.2
 let h4:=AJ 2 h3.2
 (⟨a.1,b.1,c.1,d.1,e.1,p.1,h0.1,h1.1,h2.1,h3.1,h4.1⟩,h4.2)
def Cu:Nat→List Part→Rd→List Part×Rd
 | 0,acc,s=>(acc,s)
 | n+1,acc,s=>Cu n (acc++[(C7 s).1]) (C7 s).2
def Et (s:Rd):Ar×Rd:=
 let a:=AJ 6 s
 let b:=AJ 6 a.2
 let c:=Dy b.2
 let d:=AJ 8 c.2
 let e:=AJ 4294967295 d.2
 let f:=BC e.2
 (⟨a.1,b.1,c.1,d.1,IntKind.wrap .u32 e.1,f.1⟩,f.2)
def Co:Nat→List Ar→Rd→List Ar×Rd
 | 0,acc,s=>(acc,s)
 | n+1,acc,s=>Co n (acc++[(Et s).1]) (Et s).2
def HT (s:Rd):Node×Rd:=
 let a:=AJ 4 s
 let b:=AJ 6 a.2
 let c:=BC b.2
 (⟨a.1,b.1,c.1⟩,c.2)
def Ct:Nat→List Node→Rd→List Node×Rd
 | 0,acc,s=>(acc,s)
 | n+1,acc,s=>Ct n (acc++[(HT s).1]) (HT s).2
def MH (s:Rd):List Node×Rd:=Ct (AJ 128 s).1.toNat [] (AJ 128 s).2
def Eh:Nat→List (List Node)→Rd→List (List Node)×Rd
 | 0,acc,s=>(acc,s)
 | n+1,acc,s=>Eh n (acc++[(MH s).1]) (MH s).2
def Bx (s:Rd):Ah×Rd:=
 let a:=AJ 6 s
 let p:=Cu a.1.toNat [] a.2
 let b:=AJ 8 p.2
 let c:=Co b.1.toNat [] b.2
 let d:=AJ 3 c.2
 let t:=Eh d.1.toNat [] d.2
 (⟨p.1,c.1,t.1⟩,t.2)
/-! What was written is read as it was. -/
def pn (n:Int):List Int:=NM n::Ca n
theorem E9 (B:List Int) (n:Int):Am B n=B++pn n:=Js B n
def GU {α:Type} (f:Rd→α×Rd) (enc:List Int) (a:α):Prop:=∀ rest,f ⟨enc++rest,false⟩=(a,⟨rest,false⟩)
abbrev UU (n:Int):Prop:=-9223372036854775808≤n∧n<9223372036854775808
theorem Sq {n:Int} (h:UU n) (rest:List Int):Bf (pn n++rest)=(n,(pn n).length):=by
 have:=Xv h.1 h.2 rest
 rw [E9] at this
 exact this
theorem Zj (n:Int):(pn n).length≠0:=by simp [pn]
theorem Kb {n:Int} (h:UU n):GU BC (pn n) n:=fun rest=>by
 have:=Zj n
 unfold BC
 simp only [Sq h rest]
 rw [if_neg (by simp [this]),List.drop_left]
theorem Cp {n m:Int} (h:UU n) (h0:0≤n) (h1:n≤m):GU (AJ m) (pn n) n:=fun rest=>by
 have:=Kb h rest
 unfold AJ
 rw [this]
 rw [if_neg (by simp only;omega)]
theorem Mk (f:Bool):GU Dy (pn (if f=true then 1 else 0)) f:=fun rest=>by
 unfold Dy
 rw [Cp (m:=1) (by cases f<;>decide) (by cases f<;>decide) (by cases f<;>decide) rest]
 cases f<;>rfl
theorem lV {s:ByteArray} {m:Int} (h:(s.size:Int)≤m) (hm:m≤1000):GU (DH m) (pn s.size++sB s) s:=fun rest=>by
 have hg:=Sq (n:=s.size) ⟨by omega,by omega⟩ (sB s++rest)
 have hl:=Zj (s.size:Int)
 have hs:=IG s
 rw [← List.append_assoc] at hg
 have hc:DK (pn s.size++sB s++rest) m=(sB s,(pn s.size).length+s.size):=by
  unfold DK
  rw [hg]
  simp only
  rw [if_neg (by simp only [List.length_append,hs];omega),List.append_assoc,List.drop_left]
  simp only [Int.toNat_natCast]
  rw [← hs,List.take_left]
 unfold DH
 simp only [hc]
 rw [if_neg (by simp only [Bool.false_eq_true,false_or];omega),aHB]
 congr 2
 rw [← hs,←List.length_append,List.drop_left]
theorem GU.bind {α β:Type} {f:Rd→α×Rd} {g:Rd→β×Rd} {e1 e2:List Int} {a:α} (h1:GU f e1 a) (rest:List Int):f ⟨e1++e2++rest,false⟩=(a,⟨e2++rest,false⟩):=by
 rw [List.append_assoc];exact h1 _
def M7 (p:AO):List Int:=pn p.entry++pn p.prio
structure PZ (p:AO):Prop where
 e:0≤p.entry∧p.entry≤512
 p:0≤p.prio∧p.prio≤255
theorem NK:∀ (L:List AO) (acc:List AO),(∀ p∈L,PZ p)→GU (Cv L.length acc) (L.map M7).flatten (acc++L)
 | [],acc,_=>fun rest=>by simp [Cv]
 | p::L,acc,h=>fun rest=>by
  have hp:=h p (List.mem_cons_self ..)
  simp only [List.length_cons,Cv,List.map_cons,List.flatten_cons,M7,List.append_assoc]
  rw [Cp ⟨by have:=hp.e;omega,by have:=hp.e;omega⟩ hp.e.1 hp.e.2 _]
  simp only
  rw [Cp ⟨by have:=hp.p;omega,by have:=hp.p;omega⟩ hp.p.1 hp.p.2 _]
  simp only
  rw [NK L _ (fun q hq=>h q (List.mem_cons_of_mem _ hq)) rest]
  simp
def Lq (p:Part):List Int:=(pn p.name.size++sB p.name)++(pn p.budget++(pn p.period++(pn (if p.sched=true then 1 else 0)++(pn (if p.stop=true then 1 else 0)++(pn p.procs.length++((p.procs.map M7).flatten++(pn p.h0++(pn p.h1++(pn p.h2++(pn p.h3++pn p.h4))))))))))
structure LZ (y:Part):Prop where
 n:y.name.size≤12
 b:UU y.budget
 c:UU y.period
 l:y.procs.length≤3
 p:∀ x∈y.procs,PZ x
 h:(0≤y.h0∧y.h0≤2)∧(0≤y.h1∧y.h1≤2)∧(0≤y.h2∧y.h2≤2)∧(0≤y.h3∧y.h3≤2)∧(0≤y.h4∧y.h4≤2)
theorem kK {p:Part} (h:LZ p):GU C7 (Lq p) p:=fun rest=>by
 obtain ⟨h0,h1,h2,h3,h4⟩:=h.h
 have hl:=h.l
 have hn:=h.n
 unfold Lq C7
 simp only [List.append_assoc]
 rw [← List.append_assoc (pn _) (sB _),lV (by omega) (by omega)]
 simp only
 rw [Kb h.b]
 simp only
 rw [Kb h.c]
 simp only
 rw [Mk]
 simp only
 rw [Mk]
 simp only
 rw [Cp ⟨by omega,by omega⟩ (by omega) (by omega)]
 simp only [Int.toNat_natCast]
 rw [NK _ _ h.p]
 simp only [List.nil_append]
 rw [Cp ⟨by omega,by omega⟩ h0.1 h0.2]
 simp only
 rw [Cp ⟨by omega,by omega⟩ h1.1 h1.2]
 simp only
 rw [Cp ⟨by omega,by omega⟩ h2.1 h2.2]
 simp only
 rw [Cp ⟨by omega,by omega⟩ h3.1 h3.2]
 simp only
 rw [Cp ⟨by omega,by omega⟩ h4.1 h4.2]
theorem NH:∀ (L:List Part) (acc:List Part),(∀ p∈L,LZ p)→GU (Cu L.length acc) (L.map Lq).flatten (acc++L)
 | [],acc,_=>fun rest=>by simp [Cu]
 | p::L,acc,h=>fun rest=>by
  simp only [List.length_cons,Cu,List.map_cons,List.flatten_cons,List.append_assoc]
  rw [kK (h p (List.mem_cons_self ..)) _]
  simp only
  rw [NH L _ (fun q hq=>h q (List.mem_cons_of_mem _ hq)) rest]
  simp
def JR (x:Ar):List Int:=pn x.src++(pn x.dst++(pn (if x.queue=true then 1 else 0)++(pn x.cap++(pn x.top++pn x.late))))
structure PX (x:Ar):Prop where
 a:0≤x.src∧x.src≤6
 b:0≤x.dst∧x.dst≤6
 c:0≤x.cap∧x.cap≤8
 t:0≤x.top∧x.top≤4294967295
 l:UU x.late
theorem PV (x:Int):IntKind.wrap .u32 x=x % 4294967296:=by unfold IntKind.wrap;simp [IntKind.bits,IntKind.signed]
theorem gM {x:Ar} (h:PX x):GU Et (JR x) x:=fun rest=>by
 have ha:=h.a;have hb:=h.b;have hc:=h.c;have ht:=h.t
 unfold JR Et
 simp only [List.append_assoc]
 rw [Cp ⟨by omega,by omega⟩ ha.1 ha.2]
 simp only
 rw [Cp ⟨by omega,by omega⟩ hb.1 hb.2]
 simp only
 rw [Mk]
 simp only
 rw [Cp ⟨by omega,by omega⟩ hc.1 hc.2]
 simp only
 rw [Cp ⟨by omega,by omega⟩ ht.1 ht.2]
 simp only
 rw [Kb h.l]
 simp only
 rw [PV,Int.emod_eq_of_lt ht.1 (by omega)]
theorem MW:∀ (L:List Ar) (acc:List Ar),(∀ p∈L,PX p)→GU (Co L.length acc) (L.map JR).flatten (acc++L)
 | [],acc,_=>fun rest=>by simp [Co]
 | p::L,acc,h=>fun rest=>by
  simp only [List.length_cons,Co,List.map_cons,List.flatten_cons,List.append_assoc]
  rw [gM (h p (List.mem_cons_self ..)) _]
  simp only
  rw [MW L _ (fun q hq=>h q (List.mem_cons_of_mem _ hq)) rest]
  simp
def Lp (x:Node):List Int:=pn x.kind++(pn x.part++pn x.n)
structure Jz (x:Node):Prop where
 k:0≤x.kind∧x.kind≤4
 p:0≤x.part∧x.part≤6
 n:UU x.n
theorem jY {x:Node} (h:Jz x):GU HT (Lp x) x:=fun rest=>by
 have ha:=h.k;have hb:=h.p
 unfold Lp HT
 simp only [List.append_assoc]
 rw [Cp ⟨by omega,by omega⟩ ha.1 ha.2]
 simp only
 rw [Cp ⟨by omega,by omega⟩ hb.1 hb.2]
 simp only
 rw [Kb h.n]
theorem NB:∀ (L:List Node) (acc:List Node),(∀ p∈L,Jz p)→GU (Ct L.length acc) (L.map Lp).flatten (acc++L)
 | [],acc,_=>fun rest=>by simp [Ct]
 | p::L,acc,h=>fun rest=>by
  simp only [List.length_cons,Ct,List.map_cons,List.flatten_cons,List.append_assoc]
  rw [jY (h p (List.mem_cons_self ..)) _]
  simp only
  rw [NB L _ (fun q hq=>h q (List.mem_cons_of_mem _ hq)) rest]
  simp
def TM (t:List Node):List Int:=pn t.length++(t.map Lp).flatten
theorem aHG {t:List Node} (hl:t.length≤128) (h:∀ x∈t,Jz x):GU MH (TM t) t:=fun rest=>by
 unfold TM MH
 rw [List.append_assoc,Cp ⟨by omega,by omega⟩ (by omega) (by omega)]
 simp only [Int.toNat_natCast]
 rw [NB t _ h,List.nil_append]
theorem S9:∀ (L:List (List Node)) (acc:List (List Node)),(∀ t∈L,t.length≤128∧∀ x∈t,Jz x)→GU (Eh L.length acc) (L.map TM).flatten (acc++L)
 | [],acc,_=>fun rest=>by simp [Eh]
 | p::L,acc,h=>fun rest=>by
  have hp:=h p (List.mem_cons_self ..)
  simp only [List.length_cons,Eh,List.map_cons,List.flatten_cons,List.append_assoc]
  rw [aHG hp.1 hp.2 _]
  simp only
  rw [S9 L _ (fun q hq=>h q (List.mem_cons_of_mem _ hq)) rest]
  simp
structure FJ (C:Ah):Prop where
 p:C.parts.length≤6
 c:C.chans.length≤8
 t:C.tables.length≤3
 pp:∀ p∈C.parts,LZ p
 cc:∀ p∈C.chans,PX p
 tt:∀ t∈C.tables,t.length≤128∧∀ x∈t,Jz x
def M6 (C:Ah):List Int:=pn C.parts.length++((C.parts.map Lq).flatten++(pn C.chans.length++((C.chans.map JR).flatten++(pn C.tables.length++(C.tables.map TM).flatten))))
theorem gN {C:Ah} (h:FJ C):GU Bx (M6 C) C:=fun rest=>by
 have h1:=h.p;have h2:=h.c;have h3:=h.t
 unfold M6 Bx
 simp only [List.append_assoc]
 rw [Cp ⟨by omega,by omega⟩ (by omega) (by omega)]
 simp only [Int.toNat_natCast]
 rw [NH _ _ h.pp]
 simp only [List.nil_append]
 rw [Cp ⟨by omega,by omega⟩ (by omega) (by omega)]
 simp only [Int.toNat_natCast]
 rw [MW _ _ h.cc]
 simp only [List.nil_append]
 rw [Cp ⟨by omega,by omega⟩ (by omega) (by omega)]
 simp only [Int.toNat_natCast]
 rw [S9 _ _ h.tt]
 simp only [List.nil_append]
end Go.Ab.T
namespace Go.Ab.T
open Go Go.Ab
set_option maxHeartbeats 1000000
theorem BZ (x:Int):IntKind.wrap .u32 x=x % 4294967296:=by unfold IntKind.wrap;simp [IntKind.bits,IntKind.signed]
theorem F8 (a b:Int):0≤xr a b∧xr a b<4294967296:=by unfold xr;rw [BZ];omega
theorem pT {a:Int} (h0:0≤a) (h1:a<4294967296):xr a 0=a:=by
 unfold xr
 rw [BZ]
 simp only [BitVec.ofInt_ofNat,BitVec.xor_zero,BitVec.toNat_ofInt]
 omega
theorem GJ (c:Int):0≤Eo c∧Eo c<4294967296:=by
 unfold Eo
 split
 ·exact F8 _ _
 ·unfold UK;rw [BZ];omega
theorem aHk (a b:Int):Bs .mul (.i .u32 a) (.i .u32 b)=some (.i .u32 (IntKind.wrap .u32 (a*b))):=rfl
theorem Rx {c:Int} (h0:0≤c) (h1:c<4294967296):xr (UK c) (IntKind.wrap .u32 (79764919*c.fdiv 2147483648))=Eo c:=by
 unfold Eo
 have:c.fdiv 2147483648=0∨c.fdiv 2147483648=1:=by rw [Int.fdiv_eq_ediv_of_nonneg _ (by omega)];omega
 rcases this with h | h
 ·rw [h,if_neg (by omega)]
  have:IntKind.wrap .u32 (79764919*0)=0:=by rw [BZ];rfl
  rw [this]
  exact pT (by unfold UK;rw [BZ];omega) (by unfold UK;rw [BZ];omega)
 ·rw [h,if_pos rfl]
  have:IntKind.wrap .u32 (79764919*1)=79764919:=by rw [BZ];rfl
  rw [this]
theorem RO {c b:Int}:Pf tp Q0 [.i .u32 c,.i .u8 b] (.i .u32 (DM c b)):=by
 refine AD iE (by simp [Kw]) fun rp=>?_;unfold Kw;simp (disch:=omega)only[go_sem, *]
 have o1:=Zd
 have o2:=Za
 have o3:=SZ
 have o4:=Y9
 have o5:=aHk
 simp (disch:=omega)only[go_sem, *]
 refine Ae (fun n e h=>∃ (k:Nat) (d:Int),n=k∧h.lim=0∧e 0=.i .u32 d∧e 11=.i .i64 (8 - (k:Int))∧k≤8∧0≤d∧d<4294967296∧Iy k d=DM c b) ?_ _ _ _ ⟨8,xr c (IntKind.wrap .u32 (IntKind.wrap .u32 b*16777216)),rfl, ?_⟩
 ·rintro n e h ⟨k,d,rfl,hl,e0,e11,hk,d0,d1,hz⟩ ih
  rw [Ai U5.eq_1]
  have hx:=Rx d0 d1
  simp (disch:=omega)only[go_sem, *]
  refine Aa (fun hc=>?_) (fun hc=>?_)
  ·obtain ⟨k,rfl⟩:∃ m,n=m+1:=⟨n - 1,by omega⟩
   rw [Iy] at hz
   have hb:=GJ d
   simp (disch:=omega)only[go_sem, *]
   refine ih _ _ _ ?_ ⟨k,Eo d,rfl, ?_⟩
   ·omega
   ·clear ih
    simp (disch:=omega)only[go_sem, *]
    all_goals ((repeat' refine And.intro ?_ ?_)<;>first | omega | assumption | ((congr 1;omega)))
  ·have h0:n=0:=by omega
   subst h0
   rw [Iy] at hz
   simp (disch:=omega)only[go_sem, *]
 ·have hb:=F8 c (IntKind.wrap .u32 (IntKind.wrap .u32 b*16777216))
  simp (disch:=omega)only[go_sem, *]
  all_goals ((repeat' refine And.intro ?_ ?_)<;>first | omega | assumption | (rfl))
theorem II:∀ (A B:List Int) (c:Int),CC (A++B) c=CC B (CC A c)
 | [],_,_=>rfl
 | a::A,B,c=>by simp only [List.cons_append,CC];exact II A B _
theorem Ob {B:List Int}:Pf tp Yl [.fl 1 (B.map Aj)] (.i .u32 (Dp B)):=by
 refine AD aGf (by simp [Ph]) fun rp=>?_;unfold Ph;simp (disch:=omega)only[go_sem, *]
 have hL:=rp.head.len
 have o1:=rO
 refine Ae (fun n e h=>∃ (i:Nat) (c:Int),n=B.length - i∧h.lim=0∧e 6=.fl 1 (B.map Aj)∧e 7=.i .i64 B.length∧e 8=.i .i64 i∧e 3=.i .u32 c∧i≤B.length∧CC (B.drop i) c=CC B 4294967295) ?_ _ _ _ ⟨0,4294967295,rfl, ?_⟩
 ·rintro n e h ⟨i,c,rfl,hl,e6,e7,e8,e3,hi,hz⟩ ih
  rw [Ai qK.eq_1]
  simp (disch:=omega)only[go_sem, *]
  refine Aa (fun hc=>?_) (fun hc=>?_)
  ·rw [Ax (by omega),CC] at hz
   simp (disch:=omega)only[go_sem, *]
   refine Pf.go (RO) (by simp only [go_sem]) fun _=>?_;simp (disch:=omega)only[go_sem, *]
   refine ih _ _ _ ?_ ⟨i+1,DM c (nth B i),rfl, ?_⟩
   ·omega
   ·simp (disch:=omega)only[go_sem, *]
    ((repeat' refine And.intro ?_ ?_)<;>first | omega | assumption)
  ·rw [List.drop_eq_nil_of_le (by omega),CC] at hz
   have hz2:ux (CC B 4294967295)=Dp B:=rfl
   simp (disch:=omega)only[go_sem, *]
 ·simp (disch:=omega)only[go_sem, *]
def CQ (s:Int):List Int:=[IntKind.wrap .u8 (s.fdiv 16777216),IntKind.wrap .u8 (s.fdiv 65536),IntKind.wrap .u8 (s.fdiv 256),IntKind.wrap .u8 s]
theorem Kp {s:Int}:Pf tp Yk [.i .u32 s] (.fl 1 ((CQ s).map Aj)):=by
 refine AD aGe (by simp [Pg]) fun rp=>?_;unfold Pg;simp (disch:=omega)only[go_sem, *]
 have o1:=Y8
 have o2:=Y7
 have o3:=rN
 simp (disch:=omega)only[go_sem, *]
 exact Sl.froze (b:=0) (L:=CQ s) (Sl.new (Nat.zero_le _) (by simp [CQ])) (fun _=>rfl) trivial (by simp [CQ])
def RB (sz:Nat) (h:AH) (v:V) (R:List (List V)):Prop:=∀ h',AK h h'→Ef sz h' v=some R∧HO v=some (.i .i64 R.length)
theorem RB.fl {sz:Nat} {h:AH} {R:List (List V)}:RB sz h (.fl sz R) R:=fun h' _=>⟨NV,rfl⟩
theorem RB.ns {sz:Nat} {h:AH}:RB sz h .ns []:=fun h' _=>⟨rfl,rfl⟩
theorem RB.sl {b sz:Nat} {h:AH} {v:V} {B:List Int} (s:Sl b h sz v (B.map Aj)):RB sz h v (B.map Aj):=fun h' x=>⟨(s.ext x).rows,by rw [s.facts.len,List.length_map]⟩
theorem RB.ext {sz:Nat} {h h2:AH} {v:V} {R:List (List V)} (r:RB sz h v R) (x:AK h h2):RB sz h2 v R:=fun h' x'=>r h' (x.trans x')
theorem RowsIn.nil {sz:Nat} {h:AH}:RowsIn sz h [] []:=⟨rfl,fun _ _ _ hj=>by simp at hj⟩
theorem RowsIn.cons {sz:Nat} {h:AH} {v:V} {R:List (List V)} {vs:List V} {Rs:List (List (List V))} (r:RB sz h v R) (q:RowsIn sz h vs Rs):RowsIn sz h (v::vs) (R::Rs):=⟨by simp [q.1],fun h' x j hj=>by
 cases j with
 | zero=>exact ⟨v,R,rfl,rfl,r h' x⟩
 | succ j=>exact q.2 h' x j (by simpa using hj)⟩
theorem IE {h:AH} {id n:Nat} {vs:List V} (hg:h.get id=some ⟨1,vs.map fun v=>[v]⟩) (hid:id<h.next) (hn:n=vs.length):VQ h (.sl id 0 n n) vs:=by
 subst hn
 refine ⟨rfl,fun h' x k j hj=>⟨.p id j 0, ?_, ?_⟩⟩
 ·simp [AW,x.get id hid,hg,Jd,B7,hj]
 ·rw [rJ,x.get id hid,hg,Nq,List.getElem?_map,List.getElem?_eq_getElem hj]
  simp [Ib]
theorem RQ {B:List Int} (hB:B.length<999990):Pf tp XY [.fl 1 (B.map Aj)] (.fl 1 ((BL B).map Aj)):=by
 refine AD aFN (by simp [ON]) fun rp=>?_;unfold ON;simp (disch:=omega)only[go_sem, *]
 refine Pf.go (Ob) (by simp only [go_sem]) fun _=>?_;simp (disch:=omega)only[go_sem, *]
 refine Pf.go (Kp) (by simp only [go_sem]) fun _=>?_;simp (disch:=omega)only[go_sem, *]
 have e1:BL B=B++CQ (Dp B):=rfl
 refine Ma (vs:=[.fl 1 (B.map Aj),.fl 1 ((CQ (Dp B)).map Aj)]) (Rs:=[B.map Aj,(CQ (Dp B)).map Aj]) ?_ ?_ ?_ (by simp) (by simp [CQ];omega) ?_
 ·simp (disch:=omega)only[go_sem, *]
 ·exact IE (by simp (disch:=omega)only[go_sem, *]<;>rfl) (by simp (disch:=omega)only[go_sem, *]) rfl
 ·exact .cons .fl (.cons .fl .nil)
 ·intro r h' s x
  rw [List.flatten_cons,List.flatten_cons,List.flatten_nil,List.append_nil,←List.map_append,←e1] at s
  simp (disch:=omega)only[go_sem, *]
  exact Sl.froze (L:=BL B) s (fun _=>rfl) trivial (by simp [BL];omega)
theorem TE {xs:List (List V)}:Pf tp Yo [.fl 1 xs] (.fl 1 xs):=by
 refine AD aGj (by simp [Pl]) fun rp=>?_;unfold Pl;simp (disch:=omega)only[go_sem, *]
 have hb:=rp.head.big
 intro t ht
 cases t
 ·simp (disch:=omega)only[go_sem, *]
  refine Ao (R:=[]) (Sl.nil' 0 _ _) (Nat.le_refl _) (Nat.le_refl _) (by simp;omega) ?_
  intro w h4 s4 g4
  simp (disch:=omega)only[go_sem, *]
  exact s4.froze' rp.head.frzr trivial (by simp;omega)
 ·simp (disch:=omega)only[go_sem, *]
  have:xs=[]:=by
   rcases List.eq_nil_or_concat xs with h | ⟨l,a,h⟩
   ·exact h
   ·exact absurd (ht (by rw [h];simp)) (by simp)
  rw [this]
theorem GA {L M:List Int}:Pf tp X1 [.fl 1 (L.map Aj),.fl 1 (M.map Aj)] (.b (decide (L=M))):=by
 refine AD aFS (by simp [OT]) fun rp=>?_;unfold OT;simp (disch:=omega)only[go_sem, *]
 have hL:=rp.head.len
 have hM:=rp.tail.head.len
 refine Aa (fun hc=>?_) (fun hc=>?_)
 ·simp (disch:=omega)only[go_sem, *]
  simp only [false_eq_decide_iff]
  rintro rfl;exact hc rfl
 ·simp (disch:=omega)only[go_sem, *]
  refine Ae (fun n e h=>∃ (i:Nat),n=L.length - i∧h.lim=0∧e 0=.fl 1 (L.map Aj)∧e 1=.fl 1 (M.map Aj)∧e 12=.i .i64 L.length∧e 13=.i .i64 i∧i≤L.length∧L.take i=M.take i) ?_ _ _ _ ⟨0,rfl, ?_⟩
  ·rintro n e h ⟨i,rfl,hl,e0,e1,e12,e13,hi,hz⟩ ih
   rw [Ai qE.eq_1]
   simp (disch:=omega)only[go_sem, *]
   refine Aa (fun hc2=>?_) (fun hc2=>?_)
   ·simp (disch:=omega)only[go_sem, *]
    refine Aa (fun hc3=>?_) (fun hc3=>?_)
    ·simp (disch:=omega)only[go_sem, *]
     simp only [false_eq_decide_iff]
     exact Lr (i:=i) (by omega) hc3
    ·have he:=Decidable.not_not.1 hc3
     simp (disch:=omega)only[go_sem, *]
     refine ih _ _ _ ?_ ⟨i+1,rfl, ?_⟩
     ·omega
     ·simp (disch:=omega)only[go_sem, *]
      ((repeat' refine And.intro ?_ ?_)<;>first | omega | assumption | (exact Gz (by omega) (by omega) hz he))
   ·simp (disch:=omega)only[go_sem, *]
    simp only [true_eq_decide_iff]
    rw [List.take_of_length_le (by omega),List.take_of_length_le (by omega)] at hz
    exact hz
  ·simp (disch:=omega)only[go_sem, *]
   first | done | simp
def A6 (B:List Int):List Int×Bool:=if 4≤B.length∧CQ (Dp (B.take (B.length - 4)))=B.drop (B.length - 4) then (B.take (B.length - 4),true) else ([],false)
theorem RP {B:List Int}:Pf tp XZ [.fl 1 (B.map Aj)] (.tup [.fl 1 ((A6 B).1.map Aj),.b (A6 B).2]):=by
 refine AD aFP (by simp [OP]) fun rp=>?_
 have hL:=rp.head.len
 unfold OP
 simp (disch:=omega)only[go_sem, *]
 refine Aq (fun hc=>?_) (fun hc=>?_)
 ·have h4:A6 B=([],false):=by unfold A6;rw [if_neg (by omega)]
  simp (disch:=omega)only[go_sem, *]
 ·have ht:((B.length:Int) - 4).toNat=B.length - 4:=by omega
  have mt:∀ n,List.take n (B.map Aj)=(B.take n).map Aj:=fun n=>List.map_take.symm
  have md:∀ n,List.drop n (B.map Aj)=(B.drop n).map Aj:=fun n=>List.map_drop.symm
  have mk:List.take (B.length - (B.length - 4)) ((B.drop (B.length - 4)).map Aj)=(B.drop (B.length - 4)).map Aj:=List.take_of_length_le (by simp)
  simp (disch:=omega)only[go_sem, *]
  refine Pf.go (Ob) (by simp only [go_sem]) fun _=>?_;simp (disch:=omega)only[go_sem, *]
  refine Pf.go (Kp) (by simp only [go_sem]) fun _=>?_;simp (disch:=omega)only[go_sem, *]
  refine Pf.go (GA) (by simp only [go_sem]) fun _=>?_;simp (disch:=omega)only[go_sem, *]
  refine AX (fun h5=>?_) (fun h5=>?_)
  ·have h4:A6 B=([],false):=by unfold A6;rw [if_neg (by simp at h5;exact fun q=>h5 q.2)]
   clear h5
   simp (disch:=omega)only[go_sem, *]
  ·have h4:A6 B=(B.take (B.length - 4),true):=by unfold A6;rw [if_pos ⟨by omega,by simpa using h5⟩]
   clear h5
   simp (disch:=omega)only[go_sem, *]
   refine Pf.go (TE) (by simp only [go_sem]) fun _=>?_;simp (disch:=omega)only[go_sem, *]
end Go.Ab.T
namespace Go.Ab.T
open Go Go.Ab
set_option maxHeartbeats 2000000
theorem Xx {n:Int}:Pf tp Re [.i .i64 n] (.i .u64 (u0 n)):=by
 refine AD iW (by simp [KM]) fun rp=>?_;unfold KM;simp (disch:=omega)only[go_sem, *]
 refine Aa (fun hc=>?_) (fun hc=>?_)
 ·have hu0:u0 n=IntKind.wrap .u64 (0 - IntKind.wrap .u64 n):=if_pos hc
  simp (disch:=omega)only[go_sem, *]
 ·have hu0:u0 n=IntKind.wrap .u64 n:=if_neg hc
  simp (disch:=omega)only[go_sem, *]
def Lb (L M:List Int) (i:Nat):Prop:=M.length=L.length∧∀ t,t<L.length→nth M t=if t<i∨L.length<t+i+1 then nth L (L.length - 1 - t) else nth L t
theorem Lb.done {L M:List Int} {i:Nat} (r:Lb L M i) (h:L.length≤2*i+1):M=L.reverse:=by
 apply List.ext_getElem (by simp [r.1])
 intro t h1 h2
 have h3:t<L.length:=by have:=r.1;omega
 have:=r.2 t h3
 rw [List.getElem_reverse]
 have e1:nth M t=M[t]:=by have:=E8 h1;rw [List.getElem?_eq_getElem h1] at this;exact (Option.some.inj this).symm
 have e2:∀ k (hk:k<L.length),nth L k=L[k]:=fun k hk=>by have:=E8 hk;rw [List.getElem?_eq_getElem hk] at this;exact (Option.some.inj this).symm
 rw [← e1,this]
 by_cases h4:t<i∨L.length<t+i+1
 ·rw [if_pos h4,e2]
 ·rw [if_neg h4,e2 _ h3]
  congr 1
  omega
theorem NC {l:List Int} {i j:Nat} {a:Int} (hj:j<l.length):nth (l.set i a) j=if i=j then a else nth l j:=by
 unfold nth List.getD
 rw [List.getElem?_set]
 split
 ·rename_i h;subst h;simp [hj]
 ·rfl
theorem Lb.step {L M:List Int} {i:Nat} (r:Lb L M i) (h:2*i+1<L.length):Lb L ((M.set i (nth M (L.length - 1 - i))).set (L.length - 1 - i) (nth M i)) (i+1):=by
 refine ⟨by simp [r.1],fun t ht=>?_⟩
 have r1:=r.1
 have v1:nth M i=nth L i:=by rw [r.2 i (by omega),if_neg (by omega)]
 have v2:nth M (L.length - 1 - i)=nth L (L.length - 1 - i):=by rw [r.2 _ (by omega),if_neg (by omega)]
 rw [NC (by rw [List.length_set];omega),NC (by omega),v1,v2,r.2 t ht]
 by_cases h1:L.length - 1 - i=t
 ·rw [if_pos h1,if_pos (by omega)];congr 1;omega
 ·rw [if_neg h1]
  by_cases h2:i=t
  ·rw [if_pos h2,if_pos (by omega)];congr 1;omega
  ·rw [if_neg h2]
   by_cases h3:t<i∨L.length<t+i+1
   ·rw [if_pos h3,if_pos (by omega)]
   ·rw [if_neg h3,if_neg (by omega)]
theorem RI {m : Nat} {h : AH} {v : V} {L : List Int} {K : V → AH → Prop} (hlo : h.lim ≤ m) (s : Sl m h 1 v (L.map Aj)) (hL : L.length < 4000000000)
    (kk:∀ h',Sl m h' 1 v (L.reverse.map Aj)→h'.next=h.next→h'.lim=h.lim→(∀ i,i<m→h'.get i=h.get i)→K (.tup []) h'):Cq tp Rf [v] h K:=by
 refine A8 iX (by simp [KN]) fun wf rp=>?_
 unfold KN
 obtain ⟨vlen,vbig,vlt,vlo,vget,vat,vrow,vcell,vcells⟩:=s.facts
 clear vget vrow
 simp (disch:=omega)only[go_sem, *]
 refine Ae (fun n' e hh=>∃ (i:Nat) (M:List Int),n'=L.length - i∧hh.lim=h.lim∧hh.next=h.next∧e 0=v∧e 2=.i .i64 i∧e 3=.i .i64 ((L.length:Int) - 1 - i)∧2*i≤L.length+1∧Sl m hh 1 v (M.map Aj)∧(∀ j,j<m→hh.get j=h.get j)∧Lb L M i) ?_ _ _ _ ⟨0,L,rfl, ?_⟩
 ·rintro n' e hh ⟨i,M,rfl,hl,hn,e0,e2,e3,hi,s,fr,ra⟩ ih
  obtain ⟨wlen,wbig,wlt,wlo,wget,FF,wrow,wcell,wcells⟩:=s.facts
  have hML:=ra.1
  rw [Ai Va.eq_1]
  simp (disch:=omega)only[go_sem, *]
  refine Aa (fun hc=>?_) (fun hc=>?_)
  ·have w1:=wlt (by omega)
   have w2:=wlo (by omega)
   have w3:=wget (by omega)
   have w4:=fun cs=>FF .i64 i cs (by omega) (by omega)
   have w5:=fun cs=>FF .i64 ((L.length:Int) - 1 - i) cs (by omega) (by omega)
   have ei:((L.length:Int) - 1 - i).toNat=L.length - 1 - i:=by omega
   have r1:=wrow i (by omega)
   have r2:=wrow (L.length - 1 - i) (by omega)
   clear wlt wlo wget FF wrow
   simp only [Aj,ei,Int.toNat_natCast] at r1 r2 w4 w5
   have s1:=Sl.setT (x:=nth M (L.length - 1 - i)) s (show i<M.length by omega) (Nat.le_refl _) (h':=hh.put (AW v) ⟨1,(Bm hh v).set (E2 v+i) (Aj (nth M (L.length - 1 - i)))⟩) (by rw [Ad,AC rfl])
   have c1:Bm (hh.put (AW v) ⟨1,(Bm hh v).set (E2 v+i) (Aj (nth M (L.length - 1 - i)))⟩) v=(Bm hh v).set (E2 v+i) (Aj (nth M (L.length - 1 - i))):=by simp only [Bm,Ad,AC]
   have s2:=Sl.setT (x:=nth M i) s1 (show L.length - 1 - i<_ by simp;omega) (Nat.le_refl _) (h':=(hh.put (AW v) ⟨1,(Bm hh v).set (E2 v+i) (Aj (nth M (L.length - 1 - i)))⟩).put (AW v) ⟨1,((Bm hh v).set (E2 v+i) (Aj (nth M (L.length - 1 - i)))).set (E2 v+(L.length - 1 - i)) (Aj (nth M i))⟩) (by rw [Ad,AC rfl,c1])
   have ra2:=ra.step (by omega)
   simp only [Aj,S5] at s2
   clear s1 c1 s
   simp (disch:=omega)only[go_sem, *]
   refine ih _ _ _ ?_ ⟨i+1,(M.set i (nth M (L.length - 1 - i))).set (L.length - 1 - i) (nth M i),rfl, ?_⟩
   ·omega
   ·clear ih kk
    simp (disch:=omega)only[go_sem, *]
    ((repeat' refine And.intro ?_ ?_)<;>first | omega | assumption | ((congr 1;omega)) | (exact s2) | ((intro j hj;rw [Ac (by omega)];exact fr j hj)))
  ·have hz:=ra.done (by omega)
   rw [hz] at s
   simp (disch:=omega)only[go_sem, *]
 ·simp (disch:=omega)only[go_sem, *]
  exact ⟨fun _ _=>trivial,rfl,fun t ht=>by rw [if_neg (by omega)]⟩
def Fv:Nat→Int→List Int
 | 0,_=>[]
 | f+1,u=>if 0<u then IntKind.wrap .u8 u::Fv f (u.fdiv 256) else []
theorem LA:∀ (f:Nat) (u:Int) (x:List Int),(Fv f u).reverse++x=Di f u x
 | 0,_,_=>rfl
 | f+1,u,x=>by
  unfold Fv Di
  by_cases h:0<u
  ·rw [if_pos h,if_pos h,List.reverse_cons,List.append_assoc];exact LA f _ _
  ·rw [if_neg h,if_neg h];rfl
theorem aE8 {K : Ex → Env → AH → Prop} {e : Env} {h h' : AH} {b : V} {n u : Int} (hlo : h.lim ≤ h.next) (hu0 : 0 ≤ u) (hu1 : u < 18446744073709551616) (x0 : AK h h') (e0 : e 0 = b) (e1 : e 1 = .i .i64 n) (e6 : e 6 = .i .u64 u) (e5 : e 5 = .ns)
    (kk:∀ e' h2 v,e' 0=b→e' 1=.i .i64 n→e' 5=v→AK h h2→Sl h.next h2 1 v ((Fv 8 u).map Aj)→K (.ex 0) e' h2):ZC tp (.loop P0) e h' K:=by
 have hs:=aUC
 refine Ae (fun n' e hh=>∃ (f:Nat) (w:Int) (v:V) (x:List Int),n'=f∧AK h hh∧e 0=b∧e 1=.i .i64 n∧e 6=.i .u64 w∧e 5=v∧0≤w∧w<256 ^ f∧x.length+f≤8∧Sl h.next hh 1 v (x.map Aj)∧x++Fv f w=Fv 8 u) ?_ _ _ _ ⟨8,u,.ns,[],rfl,x0,e0,e1,e6,e5,hu0,by omega,by simp,Sl.nil _ _ _,rfl⟩
 clear e0 e1 e6 e5 e x0
 rintro n' e hh ⟨f,w,v,x,hf,xx,e0,e1,e6,e5,hw0,hw1,hl,s,hz⟩ ih
 have hlm:=xx.lim
 have hnx:=xx.next
 rw [Ai P0.eq_1]
 simp (disch:=omega)only[go_sem, *]
 refine Aa (fun hc=>?_) (fun hc=>?_)
 ·cases f with
  | zero=>simp at hw1;omega
  | succ f=>
   subst hf
   have hz2:(x++[IntKind.wrap .u8 w])++Fv f (w.fdiv 256)=Fv 8 u:=by rw [← hz,Fv,if_pos hc,List.append_assoc];rfl
   have hd:w.fdiv 256=w / 256:=Int.fdiv_eq_ediv_of_nonneg _ (by omega)
   have hp:(256:Int) ^ (f+1)=256 ^ f*256:=Int.pow_succ ..
   have hd1:0≤w.fdiv 256:=by rw [hd];omega
   have hd2:w.fdiv 256<256 ^ f:=by rw [hd];omega
   clear hz hd hp
   simp (disch:=omega)only[go_sem, *]
   refine Ao (N:=[Aj (IntKind.wrap .u8 w)]) (s.alloc ⟨1,[Aj (IntKind.wrap .u8 w)]⟩) (by first | omega | (simp (disch:=omega)only[go_sem, *]<;>omega)) (by first | omega | (simp (disch:=omega)only[go_sem, *]<;>omega)) (by simp;omega) ?_
   intro r h4 s4 g4
   have x4:AK h h4:=⟨by have:=g4.next;rw [Ag] at this;omega,by rw [g4.lim,AG];exact hlm,fun j hj=>by rw [g4.low j hj,AL,Ac (by omega)];exact xx.get j hj⟩
   have s5:Sl h.next h4 1 r ((x++[IntKind.wrap .u8 w]).map Aj):=by simpa using s4
   clear s4 g4
   simp (disch:=omega)only[go_sem, *]
   refine ih _ _ _ ?_ ⟨f,w.fdiv 256,r,x++[IntKind.wrap .u8 w],rfl, ?_⟩
   ·omega
   ·have hl5:(x++[IntKind.wrap .u8 w]).length+f≤8:=by simp only [List.length_append,List.length_singleton];omega
    clear ih kk
    simp (disch:=omega)only[go_sem, *]
    all_goals ((repeat' refine And.intro ?_ ?_)<;>first | omega | assumption | (exact x4) | (exact s5) | (exact hl5) | (exact hz2))
 ·have h0:w=0:=by omega
  have hz2:x=Fv 8 u:=by
   rw [← hz]
   cases f<;>simp [Fv,h0]
  rw [hz2] at s
  simp (disch:=omega)only[go_sem, *]
  exact kk _ _ v e0 e1 e5 xx s
theorem Jk {h : AH} {b : V} {B : List Int} {n : Int} {K : V → AH → Prop} (hlo : h.lim ≤ h.next) (rb : RB 1 h b (B.map Aj)) (hb1 : b.isCell = true) (hb2 : b.cells = [b]) (hB : B.length < 900000)
    (kk:∀ r h',Sl h.next h' 1 r ((Am B n).map Aj)→AK h h'→K r h'):Cq tp Im [b,.i .i64 n] h K:=by
 refine A8 iG (by simp [Kx]) fun wf rp=>?_
 unfold Kx
 have hu:=bL n
 simp (disch:=omega)only[go_sem, *]
 refine Pf.go (Xx) (by simp only [go_sem]) fun _=>?_;simp (disch:=omega)only[go_sem, *]
 refine aE8 (b:=b) (n:=n) (u:=u0 n) hlo hu.1 hu.2 (AK.refl h) (by simp (disch:=omega)only[go_sem, *]) (by simp (disch:=omega)only[go_sem, *]) (by simp (disch:=omega)only[go_sem, *]) (by simp (disch:=omega)only[go_sem, *]) ?_
 intro e' h2 v f0 f1 f5 x2 s2
 have hlm:=x2.lim
 have hnx:=x2.next
 have hx:=LA 8 (u0 n) []
 rw [List.append_nil] at hx
 have hxl:(Fv 8 (u0 n)).length≤8:=by have:=FA n;rw [Ca,←hx,List.length_reverse] at this;exact this
 simp (disch:=omega)only[go_sem, *]
 refine RI (m:=h.next) (by omega) s2 (by omega) ?_
 intro h3 s3 n3 l3 g3
 have hk:(Fv 8 (u0 n)).reverse=Ca n:=hx
 rw [hk] at s3
 have hpl:=FA n
 have x3:AK h h3:=⟨by omega,by omega,fun i hi=>by rw [g3 i hi];exact x2.get i hi⟩
 obtain ⟨vlen,_,_,_,_,_,_,vc1,vc2⟩:=s3.facts
 have hl2:h2.lim≤h2.next:=by have:=x3.lim;have:=x3.next;omega
 clear x2 s2 g3 hlm hnx hx hxl hk hu
 simp (disch:=omega)only[go_sem, *]
 refine Aa (fun hc=>?_) (fun hc=>?_)
 ·have hkr:Am B n=B++[IntKind.wrap .u8 (IntKind.wrap .u8 ((Ca n).length:Int)+128)]++Ca n:=by unfold Am;rw [if_pos hc,Int.add_comm]
  rw [hkr] at kk
  have sk:Sl 0 (h3.alloc ⟨1,[(IntKind.wrap .u8 (IntKind.wrap .u8 ((Ca n).length:Int)+128))].map Aj⟩) 1 (.sl h2.next 0 1 1) ([(IntKind.wrap .u8 (IntKind.wrap .u8 ((Ca n).length:Int)+128))].map Aj):=by rw [← n3];exact Sl.new (Nat.zero_le _) (by simp)
  simp only [List.map_cons,List.map_nil,Aj] at sk
  simp (disch:=omega)only[go_sem, *]
  refine Ma (vs:=[b,.sl h2.next 0 1 1,v]) (Rs:=[B.map Aj,[(IntKind.wrap .u8 (IntKind.wrap .u8 ((Ca n).length:Int)+128))].map Aj,(Ca n).map Aj]) ?_ ?_ ?_ (by simp) (by simp;omega) ?_
  ·simp (disch:=omega)only[go_sem, *]<;>omega
  ·exact IE (by simp (disch:=omega)only[go_sem, *]<;>rfl) (by simp (disch:=omega)only[go_sem, *]<;>omega) rfl
  ·refine .cons (rb.ext ((x3.alloc _).alloc _)) (.cons (.sl (Sl.alloc sk _)) (.cons (.sl ((s3.alloc _).alloc _)) .nil))
  ·intro r h' s x
   rw [show [B.map Aj,[(IntKind.wrap .u8 (IntKind.wrap .u8 ((Ca n).length:Int)+128))].map Aj,(Ca n).map Aj].flatten=(B++[IntKind.wrap .u8 (IntKind.wrap .u8 ((Ca n).length:Int)+128)]++Ca n).map Aj by simp] at s
   have xx:=((x3.alloc _).alloc _).trans x
   have s':=Sl.weak s (b':=h.next) (by have:=x3.next;simp only [Ag];omega)
   clear s x x3 sk
   simp (disch:=omega)only[go_sem, *]
 ·have hkr:Am B n=B++[IntKind.wrap .u8 ((Ca n).length:Int)]++Ca n:=by unfold Am;rw [if_neg hc,Int.zero_add,DJ,DJ];simp
  rw [hkr] at kk
  have sk:Sl 0 (h3.alloc ⟨1,[(IntKind.wrap .u8 ((Ca n).length:Int))].map Aj⟩) 1 (.sl h2.next 0 1 1) ([(IntKind.wrap .u8 ((Ca n).length:Int))].map Aj):=by rw [← n3];exact Sl.new (Nat.zero_le _) (by simp)
  simp only [List.map_cons,List.map_nil,Aj] at sk
  simp (disch:=omega)only[go_sem, *]
  refine Ma (vs:=[b,.sl h2.next 0 1 1,v]) (Rs:=[B.map Aj,[(IntKind.wrap .u8 ((Ca n).length:Int))].map Aj,(Ca n).map Aj]) ?_ ?_ ?_ (by simp) (by simp;omega) ?_
  ·simp (disch:=omega)only[go_sem, *]<;>omega
  ·exact IE (by simp (disch:=omega)only[go_sem, *]<;>rfl) (by simp (disch:=omega)only[go_sem, *]<;>omega) rfl
  ·refine .cons (rb.ext ((x3.alloc _).alloc _)) (.cons (.sl (Sl.alloc sk _)) (.cons (.sl ((s3.alloc _).alloc _)) .nil))
  ·intro r h' s x
   rw [show [B.map Aj,[(IntKind.wrap .u8 ((Ca n).length:Int))].map Aj,(Ca n).map Aj].flatten=(B++[IntKind.wrap .u8 ((Ca n).length:Int)]++Ca n).map Aj by simp] at s
   have xx:=((x3.alloc _).alloc _).trans x
   have s':=Sl.weak s (b':=h.next) (by have:=x3.next;simp only [Ag];omega)
   clear s x x3 sk
   simp (disch:=omega)only[go_sem, *]
theorem U2 {tp:TP} {f:Nat} {args:List V} {R:V} (z:Cq tp f args AH.emp (fun r h'=>Cz (fun _=>True) h' 0 r R)):Pf tp f args R:=by
 intro S m hc args1 c p
 refine (z S m hc args1 c p).imp ?_
 rintro r1 hc' ⟨r,h',S',m',c',a',pr,fz⟩
 refine ⟨R,AH.emp,SP S' m' h' (fun _=>True),m',Da.emp (SP.low c') c'.bnd m',⟨fun a h=>.inl (a'.sub a h), ?_,a'.map,Nat.le_refl _,a'.next1,rfl,a'.lim1,a'.frame,fun i hi=>by simp [AH.live,AH.emp] at hi⟩,Cz.ok c' fz pr,rfl,rfl⟩
 rintro a (ha | ⟨i,_,hi,rfl⟩)
 ·exact a'.new a ha
 ·rcases a'.liv i hi with ⟨q1,q2⟩ | q1
  ·exact absurd q1 (Nat.not_lt_zero _)
  ·exact .inr (.inl q1)
theorem JP {B:List Int} {n:Int} (hB:B.length<900000):Pf tp Im [.fl 1 (B.map Aj),.i .i64 n] (.fl 1 ((Am B n).map Aj)):=
 U2 (Jk (Nat.le_refl _) .fl rfl rfl hB fun r h' s _=>Sl.froze s (fun _=>rfl) trivial (by have:=Ak B n;omega))
theorem JK {B:List Int} {f:Bool} (hB:B.length<900000):Pf tp Yn [.fl 1 (B.map Aj),.b f] (.fl 1 ((BJ B f).map Aj)):=by
 refine AD aGi (by simp [Pk]) fun rp=>?_;unfold Pk;simp (disch:=omega)only[go_sem, *]
 cases f
 ·simp (disch:=omega)only[go_sem, *]
  refine Pf.go (JP (n:=0) hB) (by simp only [go_sem]) fun _=>?_;simp (disch:=omega)only[go_sem, *]
  rfl
 ·simp (disch:=omega)only[go_sem, *]
  refine Pf.go (JP (n:=1) hB) (by simp only [go_sem]) fun _=>?_;simp (disch:=omega)only[go_sem, *]
  rfl
theorem WJ {xs:List (List V)}:Pf tp Q1 [.fl 1 xs] (.fl 1 xs):=by
 refine AD iH (by simp [Ky]) fun rp=>?_;unfold Ky;simp (disch:=omega)only[go_sem, *]
theorem W3 {B:List Int} {s:ByteArray} (hB:B.length<900000) (hs:s.size<2000):Pf tp Ym [.fl 1 (B.map Aj),.s s] (.fl 1 ((Am B s.size++sB s).map Aj)):=by
 refine AD aGh (by simp [Pj]) fun rp=>?_;unfold Pj;simp (disch:=omega)only[go_sem, *]
 refine Jk (B:=B) (Nat.le_refl _) .fl rfl rfl hB ?_
 intro r h' sr x
 have hr:=Lj s
 have hl:=IG s
 have hpl:=Ak B s.size
 have hlm:=x.lim
 simp (disch:=omega)only[go_sem, *]
 refine Ao sr ?_ ?_ ?_ ?_
 ·rw [hlm];exact Nat.le_refl _
 ·exact x.next
 ·simp;omega
 intro w h4 s4 g4
 rw [← List.map_append] at s4
 simp (disch:=omega)only[go_sem, *]
 refine Pf.take [AW w] (WJ (xs:=(Am B s.size++sB s).map Aj)) (.cons _ _ _ _ _ (Sl.froze s4 (fun _=>rfl) (by simp) (by simp;omega)) (.nil _)) fun _=>?_
 simp (disch:=omega)only[go_sem, *]
end Go.Ab.T
namespace Go.Ab.T
open Go Go.Ab
set_option maxHeartbeats 2000000
theorem SW {B L:List Int} (hB:B.length+9*L.length<900000):Pf tp Nk [.fl 1 (B.map Aj),.fl 1 (L.map D9)] (.fl 1 ((L.foldl Am B).map Aj)):=by
 refine AD aGg (by simp [Pi]) fun rp=>?_;unfold Pi;simp (disch:=omega)only[go_sem, *]
 refine Ae (fun n e h=>∃ (i:Nat) (D:List Int),n=L.length - i∧h.lim=0∧e 7=.fl 1 (L.map D9)∧e 8=.i .i64 L.length∧e 9=.i .i64 i∧e 0=.fl 1 (D.map Aj)∧i≤L.length∧D.length≤B.length+9*i∧(L.drop i).foldl Am D=L.foldl Am B) ?_ _ _ _ ⟨0,B,rfl, ?_⟩
 ·rintro n e h ⟨i,D,rfl,hl,e7,e8,e9,e0,hi,hd,hz⟩ ih
  rw [Ai qM.eq_1]
  simp (disch:=omega)only[go_sem, *]
  refine Aa (fun hc=>?_) (fun hc=>?_)
  ·rw [Ax (by omega),List.foldl_cons] at hz
   have hp:=Ak D (nth L i)
   have hcall:=JP (B:=D) (n:=nth L i) (by omega)
   simp (disch:=omega)only[go_sem, *]
   refine Pf.go (hcall) (by simp only [go_sem]) fun _=>?_;simp (disch:=omega)only[go_sem, *]
   refine ih _ _ _ ?_ ⟨i+1,Am D (nth L i),rfl, ?_⟩
   ·omega
   ·simp (disch:=omega)only[go_sem, *]
    ((repeat' refine And.intro ?_ ?_)<;>first | omega | assumption)
  ·rw [List.drop_eq_nil_of_le (by omega),List.foldl_nil] at hz
   simp (disch:=omega)only[go_sem, *]
 ·simp (disch:=omega)only[go_sem, *]
theorem Lx {h:AH} {a:Nat}:h.kills [a]=h.kill a:=by
 unfold AH.kills AH.kill
 congr 1
 funext i
 simp
attribute [go_sem] Lx
theorem BD {h:AH} {K:V→AH→Prop} {B:List Int} (L:List Int) {id n:Nat} (hg:h.get id=some ⟨1,L.map D9⟩) (hn:n=L.length) (hB:B.length+9*L.length<900000) (kk:K (.fl 1 ((L.foldl Am B).map Aj)) (h.kill id)):Cq tp Nk [.fl 1 (B.map Aj),.sl id 0 n n] h K:=by
 subst hn
 refine Pf.take [id] (SW hB) (.cons _ _ _ _ _ (.fl _ _ _) (.cons _ _ _ _ _ (.sl _ _ _ _ _ _ _ _ (by simp) hg (by simp) (Nat.le_refl _) (by simp [Dz];omega) ?_) (.nil _))) fun _=>?_
 ·rw [List.drop_zero,List.take_of_length_le (by simp)]
  exact BF.of_map (fun _=>rfl) L
 ·rw [Lx];exact kk
end Go.Ab.T
namespace Go.Ab.T
open Go Go.Ab
set_option maxHeartbeats 4000000
theorem fU {K : Ex → Env → AH → Prop} {e : Env} {h' : AH} {B : List Int} {L : List AO} {k k5 : BV} {b5 : Nat} {v24 v25 : V} {i26 : Int} (hl : h'.lim = 0) (hn : b5 < h'.next) (hn0 : 0 < h'.next) (g0 : h'.get 0 = some k) (g5 : h'.get b5 = some k5) (hB : B.length + 18 * L.length < 900000)
    (e1:e 1=.p 0 0 0) (e3:e 3=.fl 1 (B.map Aj)) (e5:e 5=.p b5 0 0) (e24:e 24=v24) (e25:e 25=v25) (e26:e 26=.i .i64 i26) (e53:e 53=.fl 2 (L.map AO.enc)) (e54:e 54=.i .i64 L.length) (e55:e 55=.i .i64 0)
    (kk:∀ (e:Env) (h:AH),h.lim=0→b5<h.next→0<h.next→h.get 0=some k→h.get b5=some k5→e 1=.p 0 0 0→e 3=.fl 1 ((L.foldl B1 B).map Aj)→e 5=.p b5 0 0→e 24=v24→e 25=v25→e 26=.i .i64 i26→K (.ex 2) e h):ZC tp (.loop Qk) e h' K:=by
 refine Ae (fun n' e hh=>∃ (i:Nat) (D:List Int),n'=L.length - i∧hh.lim=0∧b5<hh.next∧0<hh.next∧hh.get 0=some k∧hh.get b5=some k5∧e 1=.p 0 0 0∧e 3=.fl 1 (D.map Aj)∧e 5=.p b5 0 0∧e 24=v24∧e 25=v25∧e 26=.i .i64 i26∧e 53=.fl 2 (L.map AO.enc)∧e 54=.i .i64 L.length∧e 55=.i .i64 i∧i≤L.length∧D.length≤B.length+18*i∧(L.drop i).foldl B1 D=L.foldl B1 B) ?_ _ _ _ ⟨0,B,rfl,hl,hn,hn0,g0,g5,e1,e3,e5,e24,e25,e26,e53,e54,e55,by omega,by omega,rfl⟩
 clear hl hn hn0 g0 g5 e1 e3 e5 e24 e25 e26 e53 e54 e55 e
 rintro n' e hh ⟨i,D,rfl,hl,hn,hn0,g0,g5,e1,e3,e5,e24,e25,e26,e53,e54,e55,hi,hd,hz⟩ ih
 rw [Ai Qk.eq_1]
 simp (disch:=omega)only[go_sem, *]
 refine Aa (fun hc=>?_) (fun hc=>?_)
 ·rw [Ax (by omega),List.foldl_cons] at hz
  have hp:=Ak D (nth L i).entry
  have hp2:=Ak (Am D (nth L i).entry) (nth L i).prio
  simp (disch:=omega)only[go_sem, *]
  refine BD [(nth L i).entry,(nth L i).prio] ?_ rfl (by simp;omega) ?_
  ·simp (disch:=omega)only[go_sem, *]<;>rfl
  have hf:[(nth L i).entry,(nth L i).prio].foldl Am D=B1 D (nth L i):=rfl
  rw [hf]
  simp (disch:=omega)only[go_sem, *]
  refine ih _ _ _ ?_ ⟨i+1,B1 D (nth L i),rfl, ?_⟩
  ·omega
  ·have hfl:(B1 D (nth L i)).length≤B.length+18*(i+1):=by unfold B1;omega
   clear ih kk hf
   simp (disch:=omega)only[go_sem, *]
   all_goals ((repeat' refine And.intro ?_ ?_)<;>first | omega | assumption | (skip))
 ·rw [List.drop_eq_nil_of_le (by omega),List.foldl_nil] at hz
  subst hz
  simp (disch:=omega)only[go_sem, *]
  exact kk _ _ hl hn hn0 g0 g5 e1 e3 e5 e24 e25 e26
theorem fV {K : Ex → Env → AH → Prop} {e : Env} {h' : AH} {B : List Int} {a0 a1 a2 a3 a4 : Int} {k : BV} {v24 v25 : V} {i26 : Int} (hl : h'.lim = 0) (hn0 : 0 < h'.next) (g0 : h'.get 0 = some k) (hB : B.length + 45 < 900000)
    (e1:e 1=.p 0 0 0) (e3:e 3=.fl 1 (B.map Aj)) (e24:e 24=v24) (e25:e 25=v25) (e26:e 26=.i .i64 i26) (e68:e 68=.agg [.i .i64 a0,.i .i64 a1,.i .i64 a2,.i .i64 a3,.i .i64 a4]) (e69:e 69=.i .i64 0)
    (kk:∀ (e:Env) (h:AH),h.lim=0→0<h.next→h.get 0=some k→e 1=.p 0 0 0→e 3=.fl 1 ((Am (Am (Am (Am (Am B a0) a1) a2) a3) a4).map Aj)→e 24=v24→e 25=v25→e 26=.i .i64 i26→K (.ex 4) e h):ZC tp (.loop Gf) e h' K:=by
 refine Bb ?_
 rw [Ai Gf.eq_1]
 simp (disch:=omega)only[go_sem, *]
 have l1:=Ak B a0
 refine BD (B:=B) [a0] ?_ rfl (by simp only [List.length_singleton];omega) ?_
 ·simp (disch:=omega)only[go_sem, *]<;>rfl
 simp only [List.foldl_cons,List.foldl_nil]
 simp (disch:=omega)only[go_sem, *]
 refine Bb ?_
 rw [Ai Gf.eq_1]
 simp (disch:=omega)only[go_sem, *]
 have l2:=Ak (Am B a0) a1
 refine BD (B:=(Am B a0)) [a1] ?_ rfl (by simp only [List.length_singleton];omega) ?_
 ·simp (disch:=omega)only[go_sem, *]<;>rfl
 simp only [List.foldl_cons,List.foldl_nil]
 simp (disch:=omega)only[go_sem, *]
 refine Bb ?_
 rw [Ai Gf.eq_1]
 simp (disch:=omega)only[go_sem, *]
 have l3:=Ak (Am (Am B a0) a1) a2
 refine BD (B:=(Am (Am B a0) a1)) [a2] ?_ rfl (by simp only [List.length_singleton];omega) ?_
 ·simp (disch:=omega)only[go_sem, *]<;>rfl
 simp only [List.foldl_cons,List.foldl_nil]
 simp (disch:=omega)only[go_sem, *]
 refine Bb ?_
 rw [Ai Gf.eq_1]
 simp (disch:=omega)only[go_sem, *]
 have l4:=Ak (Am (Am (Am B a0) a1) a2) a3
 refine BD (B:=(Am (Am (Am B a0) a1) a2)) [a3] ?_ rfl (by simp only [List.length_singleton];omega) ?_
 ·simp (disch:=omega)only[go_sem, *]<;>rfl
 simp only [List.foldl_cons,List.foldl_nil]
 simp (disch:=omega)only[go_sem, *]
 refine Bb ?_
 rw [Ai Gf.eq_1]
 simp (disch:=omega)only[go_sem, *]
 have l5:=Ak (Am (Am (Am (Am B a0) a1) a2) a3) a4
 refine BD (B:=(Am (Am (Am (Am B a0) a1) a2) a3)) [a4] ?_ rfl (by simp only [List.length_singleton];omega) ?_
 ·simp (disch:=omega)only[go_sem, *]<;>rfl
 simp only [List.foldl_cons,List.foldl_nil]
 simp (disch:=omega)only[go_sem, *]
 refine Bb ?_
 rw [Ai Gf.eq_1]
 have f:=kk
 clear kk
 simp (disch:=omega)only[go_sem, *]
 refine f _ _ ?_ ?_ ?_ ?_ ?_ ?_ ?_ ?_<;>(simp (disch:=omega)only[go_sem, *]<;>omega)
theorem fY {K : Ex → Env → AH → Prop} {e : Env} {h' : AH} {B : List Int} {L : List Node} {v119 v120 : V} {i121 : Int} (hl : h'.lim = 0) (hB : B.length + 27 * L.length < 900000)
    (e3:e 3=.fl 1 (B.map Aj)) (e119:e 119=v119) (e120:e 120=v120) (e121:e 121=.i .i64 i121) (e130:e 130=.fl 3 (L.map Node.enc)) (e131:e 131=.i .i64 L.length) (e132:e 132=.i .i64 0)
    (kk:∀ (e:Env) (h:AH),h.lim=0→e 3=.fl 1 ((L.foldl CV B).map Aj)→e 119=v119→e 120=v120→e 121=.i .i64 i121→K (.ex 10) e h):ZC tp (.loop Qn) e h' K:=by
 refine Ae (fun n' e hh=>∃ (i:Nat) (D:List Int),n'=L.length - i∧hh.lim=0∧e 3=.fl 1 (D.map Aj)∧e 119=v119∧e 120=v120∧e 121=.i .i64 i121∧e 130=.fl 3 (L.map Node.enc)∧e 131=.i .i64 L.length∧e 132=.i .i64 i∧i≤L.length∧D.length≤B.length+27*i∧(L.drop i).foldl CV D=L.foldl CV B) ?_ _ _ _ ⟨0,B,rfl,hl,e3,e119,e120,e121,e130,e131,e132,by omega,by omega,rfl⟩
 clear hl e3 e119 e120 e121 e130 e131 e132 e
 rintro n' e hh ⟨i,D,rfl,hl,e3,e119,e120,e121,e130,e131,e132,hi,hd,hz⟩ ih
 rw [Ai Qn.eq_1]
 simp (disch:=omega)only[go_sem, *]
 refine Aa (fun hc=>?_) (fun hc=>?_)
 ·rw [Ax (by omega),List.foldl_cons] at hz
  have hp:=Ak D (nth L i).kind
  have hp2:=Ak (Am D (nth L i).kind) (nth L i).part
  have hp3:=Ak (Am (Am D (nth L i).kind) (nth L i).part) (nth L i).n
  simp (disch:=omega)only[go_sem, *]
  refine BD [(nth L i).kind,(nth L i).part,(nth L i).n] ?_ rfl (by simp;omega) ?_
  ·simp (disch:=omega)only[go_sem, *]<;>rfl
  have hf:[(nth L i).kind,(nth L i).part,(nth L i).n].foldl Am D=CV D (nth L i):=rfl
  rw [hf]
  simp (disch:=omega)only[go_sem, *]
  refine ih _ _ _ ?_ ⟨i+1,CV D (nth L i),rfl, ?_⟩
  ·omega
  ·have hfl:(CV D (nth L i)).length≤B.length+27*(i+1):=by unfold CV;omega
   clear ih kk hf
   simp (disch:=omega)only[go_sem, *]
   all_goals ((repeat' refine And.intro ?_ ?_)<;>first | omega | assumption | (skip))
 ·rw [List.drop_eq_nil_of_le (by omega),List.foldl_nil] at hz
  subst hz
  simp (disch:=omega)only[go_sem, *]
  exact kk _ _ hl e3 e119 e120 e121
theorem Lu (B:List Int):∀ (L:List Node),(L.foldl CV B).length≤B.length+27*L.length:=fun L=>by
 induction L generalizing B with
 | nil=>simp
 | cons a L ih=>
  have:=ih (CV B a)
  have h1:=Ak B a.kind
  have h2:=Ak (Am B a.kind) a.part
  have h3:=Ak (Am (Am B a.kind) a.part) a.n
  have hf:(CV B a).length≤B.length+27:=by unfold CV;omega
  simp only [List.foldl_cons,List.length_cons]
  omega
theorem fZ {K : Ex → Env → AH → Prop} {e : Env} {h' : AH} {B : List Int} {L : List (List Node)} (hl : h'.lim = 0) (hB : B.length + 20000 * L.length < 800000) (hT : ∀ t ∈ L, t.length ≤ 710)
    (e3:e 3=.fl 1 (B.map Aj)) (e119:e 119=.fl 1 (L.map Tab.enc)) (e120:e 120=.i .i64 L.length) (e121:e 121=.i .i64 0)
    (kk:∀ (e:Env) (h:AH),h.lim=0→e 3=.fl 1 ((L.foldl ET B).map Aj)→K (.ex 8) e h):ZC tp (.loop Qo) e h' K:=by
 refine Ae (fun n' e hh=>∃ (i:Nat) (D:List Int),n'=L.length - i∧hh.lim=0∧e 3=.fl 1 (D.map Aj)∧e 119=.fl 1 (L.map Tab.enc)∧e 120=.i .i64 L.length∧e 121=.i .i64 i∧i≤L.length∧D.length≤B.length+20000*i∧(L.drop i).foldl ET D=L.foldl ET B) ?_ _ _ _ ⟨0,B,rfl,hl,e3,e119,e120,e121,by omega,by omega,rfl⟩
 clear hl e3 e119 e120 e121 e
 rintro n' e hh ⟨i,D,rfl,hl,e3,e119,e120,e121,hi,hd,hz⟩ ih
 rw [Ai Qo.eq_1]
 simp (disch:=omega)only[go_sem, *]
 refine Aa (fun hc=>?_) (fun hc=>?_)
 ·rw [Ax (by omega),List.foldl_cons] at hz
  have hp:=Ak D (nth L i).length
  have ht:=hT _ (Bl (L:=L) (j:=i) (by omega))
  have hfl:=Lu (Am D (nth L i).length) (nth L i)
  simp (disch:=omega)only[go_sem, *]
  refine BD [((nth L i).length:Int)] ?_ rfl (by simp;omega) ?_
  ·simp (disch:=omega)only[go_sem, *]<;>rfl
  simp only [List.foldl_cons,List.foldl_nil]
  simp (disch:=omega)only[go_sem, *]
  refine fY (B:=Am D (nth L i).length) (L:=nth L i) (v119:=.fl 1 (L.map Tab.enc)) (v120:=.i .i64 L.length) (i121:=i) ?_ (by omega) ?_ ?_ ?_ ?_ ?_ ?_ ?_ ?_
  any_goals (simp (disch:=omega)only[go_sem, *];done)
  clear e3 e119 e120 e121 e hl hh
  intro e hh hl e3 e119 e120 e121
  simp (disch:=omega)only[go_sem, *]
  refine ih _ _ _ ?_ ⟨i+1,ET D (nth L i),rfl, ?_⟩
  ·omega
  ·have hfl:(ET D (nth L i)).length≤B.length+20000*(i+1):=by unfold ET;omega
   have hf:(nth L i).foldl CV (Am D (nth L i).length)=ET D (nth L i):=rfl
   clear ih kk
   rw [hf] at e3
   clear hf
   simp (disch:=omega)only[go_sem, *]
   all_goals ((repeat' refine And.intro ?_ ?_)<;>first | omega | assumption | (skip))
 ·rw [List.drop_eq_nil_of_le (by omega),List.foldl_nil] at hz
  subst hz
  simp (disch:=omega)only[go_sem, *]
  exact kk _ _ hl e3
end Go.Ab.T
namespace Go.Ab.T
open Go Go.Ab
set_option maxHeartbeats 4000000
theorem fX {K : Ex → Env → AH → Prop} {e : Env} {h' : AH} {B : List Int} {L : List Ar} {k : BV} (hl : h'.lim = 0) (hn0 : 0 < h'.next) (g0 : h'.get 0 = some k) (hB : B.length + 54 * L.length < 800000)
    (e1:e 1=.p 0 0 0) (e3:e 3=.fl 1 (B.map Aj)) (e85:e 85=.fl 6 (L.map Ar.enc)) (e86:e 86=.i .i64 L.length) (e87:e 87=.i .i64 0)
    (kk:∀ (e:Env) (h:AH),h.lim=0→0<h.next→h.get 0=some k→e 1=.p 0 0 0→e 3=.fl 1 ((L.foldl Ck B).map Aj)→K (.ex 6) e h):ZC tp (.loop Qm) e h' K:=by
 refine Ae (fun n' e hh=>∃ (i:Nat) (D:List Int),n'=L.length - i∧hh.lim=0∧0<hh.next∧hh.get 0=some k∧e 1=.p 0 0 0∧e 3=.fl 1 (D.map Aj)∧e 85=.fl 6 (L.map Ar.enc)∧e 86=.i .i64 L.length∧e 87=.i .i64 i∧i≤L.length∧D.length≤B.length+54*i∧(L.drop i).foldl Ck D=L.foldl Ck B) ?_ _ _ _ ⟨0,B,rfl,hl,hn0,g0,e1,e3,e85,e86,e87,by omega,by omega,rfl⟩
 clear hl hn0 g0 e1 e3 e85 e86 e87 e
 rintro n' e hh ⟨i,D,rfl,hl,hn0,g0,e1,e3,e85,e86,e87,hi,hd,hz⟩ ih
 rw [Ai Qm.eq_1]
 simp (disch:=omega)only[go_sem, *]
 refine Aa (fun hc=>?_) (fun hc=>?_)
 ·rw [Ax (by omega),List.foldl_cons] at hz
  have p1:=Ak D (nth L i).src
  have p2:=Ak (Am D (nth L i).src) (nth L i).dst
  have p3:=CT (Am (Am D (nth L i).src) (nth L i).dst) (nth L i).queue
  have p4:=Ak (BJ (Am (Am D (nth L i).src) (nth L i).dst) (nth L i).queue) (nth L i).cap
  have p5:=Ak (Am (BJ (Am (Am D (nth L i).src) (nth L i).dst) (nth L i).queue) (nth L i).cap) (IntKind.wrap .i64 (nth L i).top)
  have p6:=Ak (Am (Am (BJ (Am (Am D (nth L i).src) (nth L i).dst) (nth L i).queue) (nth L i).cap) (IntKind.wrap .i64 (nth L i).top)) (nth L i).late
  simp (disch:=omega)only[go_sem, *]
  refine BD [(nth L i).src,(nth L i).dst] ?_ rfl (by simp;omega) ?_
  ·simp (disch:=omega)only[go_sem, *]<;>rfl
  simp only [List.foldl_cons,List.foldl_nil]
  simp (disch:=omega)only[go_sem, *]
  refine Pf.go (JK (B:=Am (Am D (nth L i).src) (nth L i).dst) (f:=(nth L i).queue) (by omega)) (by simp only [go_sem]) fun _=>?_;simp (disch:=omega)only[go_sem, *]
  refine BD (B:=BJ (Am (Am D (nth L i).src) (nth L i).dst) (nth L i).queue) [(nth L i).cap,IntKind.wrap .i64 (nth L i).top,(nth L i).late] ?_ rfl (by simp;omega) ?_
  ·simp (disch:=omega)only[go_sem, *]<;>rfl
  have hf:[(nth L i).cap,IntKind.wrap .i64 (nth L i).top,(nth L i).late].foldl Am (BJ (Am (Am D (nth L i).src) (nth L i).dst) (nth L i).queue)=Ck D (nth L i):=rfl
  rw [hf]
  simp (disch:=omega)only[go_sem, *]
  refine ih _ _ _ ?_ ⟨i+1,Ck D (nth L i),rfl, ?_⟩
  ·omega
  ·have hfl:(Ck D (nth L i)).length≤B.length+54*(i+1):=by unfold Ck;omega
   clear ih kk hf
   simp (disch:=omega)only[go_sem, *]
   all_goals ((repeat' refine And.intro ?_ ?_)<;>first | omega | assumption | (skip))
 ·rw [List.drop_eq_nil_of_le (by omega),List.foldl_nil] at hz
  subst hz
  simp (disch:=omega)only[go_sem, *]
  exact kk _ _ hl hn0 g0 e1 e3
theorem Lv (B:List Int):∀ (L:List AO),(L.foldl B1 B).length≤B.length+18*L.length:=fun L=>by
 induction L generalizing B with
 | nil=>simp
 | cons a L ih=>
  have:=ih (B1 B a)
  have h1:=Ak B a.entry
  have h2:=Ak (Am B a.entry) a.prio
  have hf:(B1 B a).length≤B.length+18:=by unfold B1;omega
  simp only [List.foldl_cons,List.length_cons]
  omega
theorem fW {K : Ex → Env → AH → Prop} {e : Env} {h' : AH} {B : List Int} {L : List Part} {k : BV} (hl : h'.lim = 0) (hn0 : 0 < h'.next) (g0 : h'.get 0 = some k) (hB : B.length + 3000 * L.length < 800000) (hP : ∀ p ∈ L, p.name.size < 1000 ∧ p.procs.length ≤ 100)
    (e1:e 1=.p 0 0 0) (e3:e 3=.fl 1 (B.map Aj)) (e24:e 24=.fl 11 (L.map Part.enc)) (e25:e 25=.i .i64 L.length) (e26:e 26=.i .i64 0)
    (kk:∀ (e:Env) (h:AH),h.lim=0→0<h.next→h.get 0=some k→e 1=.p 0 0 0→e 3=.fl 1 ((L.foldl Cc B).map Aj)→(L.foldl Cc B).length≤B.length+3000*L.length→K (.ex 0) e h):ZC tp (.loop Ql) e h' K:=by
 refine Ae (fun n' e hh=>∃ (i:Nat) (D:List Int),n'=L.length - i∧hh.lim=0∧0<hh.next∧hh.get 0=some k∧e 1=.p 0 0 0∧e 3=.fl 1 (D.map Aj)∧e 24=.fl 11 (L.map Part.enc)∧e 25=.i .i64 L.length∧e 26=.i .i64 i∧i≤L.length∧D.length≤B.length+3000*i∧(L.drop i).foldl Cc D=L.foldl Cc B) ?_ _ _ _ ⟨0,B,rfl,hl,hn0,g0,e1,e3,e24,e25,e26,by omega,by omega,rfl⟩
 clear hl hn0 g0 e1 e3 e24 e25 e26 e
 rintro n' e hh ⟨i,D,rfl,hl,hn0,g0,e1,e3,e24,e25,e26,hi,hd,hz⟩ ih
 rw [Ai Ql.eq_1]
 simp (disch:=omega)only[go_sem, *]
 refine Aa (fun hc=>?_) (fun hc=>?_)
 ·rw [Ax (by omega),List.foldl_cons] at hz
  obtain ⟨hnm,hpl⟩:=hP _ (Bl (L:=L) (j:=i) (by omega))
  have hen:(nth L i).enc=[.s (nth L i).name,.i .i64 (nth L i).budget,.i .i64 (nth L i).period,.b (nth L i).sched,.b (nth L i).stop,.fl 2 ((nth L i).procs.map AO.enc),.i .i64 (nth L i).h0,.i .i64 (nth L i).h1,.i .i64 (nth L i).h2,.i .i64 (nth L i).h3,.i .i64 (nth L i).h4]:=rfl
  have hsl:=IG (nth L i).name
  obtain ⟨P1,hP1⟩:∃ x,Am D (nth L i).name.size++sB (nth L i).name=x:=⟨_,rfl⟩
  have l1:P1.length≤D.length+1009:=by have:=Ak D (nth L i).name.size;rw [← hP1,List.length_append];omega
  have l2:=Ak P1 (nth L i).budget
  have l3:=Ak (Am P1 (nth L i).budget) (nth L i).period
  obtain ⟨P2,hP2⟩:∃ x,Am (Am P1 (nth L i).budget) (nth L i).period=x:=⟨_,rfl⟩
  rw [hP2] at l3
  have l4:=CT P2 (nth L i).sched
  have l5:=CT (BJ P2 (nth L i).sched) (nth L i).stop
  have l6:=Ak (BJ (BJ P2 (nth L i).sched) (nth L i).stop) (nth L i).procs.length
  obtain ⟨P3,hP3⟩:∃ x,Am (BJ (BJ P2 (nth L i).sched) (nth L i).stop) (nth L i).procs.length=x:=⟨_,rfl⟩
  rw [hP3] at l6
  have l7:=Lv P3 (nth L i).procs
  have hct:=W3 (B:=D) (s:=(nth L i).name) (by omega) (by omega)
  rw [hP1] at hct
  simp (disch:=omega)only[go_sem, *]
  refine Pf.go (hct) (by simp only [go_sem]) fun _=>?_;simp (disch:=omega)only[go_sem, *]
  refine BD (B:=P1) [(nth L i).budget,(nth L i).period] ?_ rfl (by simp;omega) ?_
  ·simp (disch:=omega)only[go_sem, *]<;>rfl
  simp only [List.foldl_cons,List.foldl_nil]
  rw [hP2]
  simp (disch:=omega)only[go_sem, *]
  refine Pf.go (JK (B:=P2) (f:=(nth L i).sched) (by omega)) (by simp only [go_sem]) fun _=>?_;simp (disch:=omega)only[go_sem, *]
  refine Pf.go (JK (B:=BJ P2 (nth L i).sched) (f:=(nth L i).stop) (by omega)) (by simp only [go_sem]) fun _=>?_;simp (disch:=omega)only[go_sem, *]
  refine BD (B:=BJ (BJ P2 (nth L i).sched) (nth L i).stop) [((nth L i).procs.length:Int)] ?_ rfl (by simp;omega) ?_
  ·simp (disch:=omega)only[go_sem, *]<;>rfl
  simp only [List.foldl_cons,List.foldl_nil]
  rw [hP3]
  simp (disch:=omega)only[go_sem, *]
  refine fU (B:=P3) (L:=(nth L i).procs) (k:=k) (k5:=⟨11,[(nth L i).enc]⟩) (b5:=hh.next) (v24:=.fl 11 (L.map Part.enc)) (v25:=.i .i64 L.length) (i26:=i) ?_ ?_ ?_ ?_ ?_ (by omega) ?_ ?_ ?_ ?_ ?_ ?_ ?_ ?_ ?_ ?_
  any_goals (simp (disch:=omega)only[go_sem, *];done)
  any_goals (simp (disch:=omega)only[go_sem, *]<;>omega)
  clear e1 e3 e24 e25 e26 e hl hn0 g0 hct
  intro e h hl hn5 hn0 g0 g5 e1 e3 e5 e24 e25 e26
  rw [hen] at g5
  have hf:Am (Am (Am (Am (Am ((nth L i).procs.foldl B1 P3) (nth L i).h0) (nth L i).h1) (nth L i).h2) (nth L i).h3) (nth L i).h4=Cc D (nth L i):=by unfold Cc;rw [hP1,hP2,hP3]
  have l8:(Cc D (nth L i)).length≤B.length+3000*(i+1):=by
   rw [← hf]
   have q1:=Ak ((nth L i).procs.foldl B1 P3) (nth L i).h0
   have q2:=Ak (Am ((nth L i).procs.foldl B1 P3) (nth L i).h0) (nth L i).h1
   have q3:=Ak (Am (Am ((nth L i).procs.foldl B1 P3) (nth L i).h0) (nth L i).h1) (nth L i).h2
   have q4:=Ak (Am (Am (Am ((nth L i).procs.foldl B1 P3) (nth L i).h0) (nth L i).h1) (nth L i).h2) (nth L i).h3
   have q5:=Ak (Am (Am (Am (Am ((nth L i).procs.foldl B1 P3) (nth L i).h0) (nth L i).h1) (nth L i).h2) (nth L i).h3) (nth L i).h4
   omega
  simp (disch:=omega)only[go_sem, *]
  refine fV (B:=(nth L i).procs.foldl B1 P3) (k:=k) (v24:=.fl 11 (L.map Part.enc)) (v25:=.i .i64 L.length) (i26:=i) (a0:=(nth L i).h0) (a1:=(nth L i).h1) (a2:=(nth L i).h2) (a3:=(nth L i).h3) (a4:=(nth L i).h4) hl hn0 g0 (by omega) ?_ ?_ ?_ ?_ ?_ ?_ ?_ ?_
  any_goals (simp (disch:=omega)only[go_sem, *];done)
  clear e1 e3 e5 e24 e25 e26 e hl hn0 g0 g5 hn5 h
  intro e h hl hn0 g0 e1 e3 e24 e25 e26
  rw [hf] at e3
  clear hf hP1 hP2 hP3 hen
  simp (disch:=omega)only[go_sem, *]
  refine ih _ _ _ ?_ ⟨i+1,Cc D (nth L i),rfl, ?_⟩
  ·omega
  ·clear ih kk
   simp (disch:=omega)only[go_sem, *]
   all_goals ((repeat' refine And.intro ?_ ?_)<;>first | omega | assumption | (exact l8))
 ·rw [List.drop_eq_nil_of_le (by omega),List.foldl_nil] at hz
  rw [hz] at e3 hd
  clear hz
  have f:=kk
  clear kk
  simp (disch:=omega)only[go_sem, *]
  exact f _ _ hl hn0 g0 e1 e3 (by omega)
theorem JX {α:Type} {f:List Int→α→List Int} {k:Nat} (hf:∀ B a,(f B a).length≤B.length+k):∀ (L:List α) (B:List Int),(L.foldl f B).length≤B.length+k*L.length
 | [],B=>by simp
 | a::L,B=>by
  have:=JX hf L (f B a)
  have:=hf B a
  simp only [List.foldl_cons,List.length_cons,Nat.mul_succ]
  omega
theorem Rt {h:AH} {K:V→AH→Prop} (B L:List Int) {i1 id n k:Nat} (hg1:h.get i1=some ⟨1,B.map Aj⟩) (hg:h.get id=some ⟨1,L.map D9⟩) (hk:k=B.length) (hn:n=L.length) (hB:B.length+9*L.length<900000) (kk:K (.fl 1 ((L.foldl Am B).map Aj)) ((h.kill i1).kill id)):Cq tp Nk [.sl i1 0 k k,.sl id 0 n n] h K:=by
 subst hn
 subst hk
 refine Pf.take [i1,id] (SW hB) (.cons _ _ _ _ _ (.sl _ _ _ _ _ _ _ _ (by simp) hg1 (by simp) (Nat.le_refl _) (by simp [Dz];omega) ?_) (.cons _ _ _ _ _ (.sl _ _ _ _ _ _ _ _ (by simp) hg (by simp) (Nat.le_refl _) (by simp [Dz];omega) ?_) (.nil _))) fun _=>?_
 ·rw [List.drop_zero,List.take_of_length_le (by simp)]
  exact BF.of_map (fun _=>rfl) B
 ·rw [List.drop_zero,List.take_of_length_le (by simp)]
  exact BF.of_map (fun _=>rfl) L
 ·have:h.kills [i1,id]=(h.kill i1).kill id:=by
   unfold AH.kills AH.kill
   congr 1
   funext i
   by_cases h1:i=i1<;>by_cases h2:i=id<;>simp [h1,h2]
  rw [this];exact kk
theorem Lt (B:List Int) (x:Ar):(Ck B x).length≤B.length+54:=by
 unfold Ck
 have p1:=Ak B x.src
 have p2:=Ak (Am B x.src) x.dst
 have p3:=CT (Am (Am B x.src) x.dst) x.queue
 have p4:=Ak (BJ (Am (Am B x.src) x.dst) x.queue) x.cap
 have p5:=Ak (Am (BJ (Am (Am B x.src) x.dst) x.queue) x.cap) (IntKind.wrap .i64 x.top)
 have p6:=Ak (Am (Am (BJ (Am (Am B x.src) x.dst) x.queue) x.cap) (IntKind.wrap .i64 x.top)) x.late
 omega
theorem gA {C:Ah} (hC:R7 C):Pf tp Sw [.agg C.enc] (.fl 1 ((C.tables.foldl ET (Am (C.chans.foldl Ck (Am (C.parts.foldl Cc (Am [72,79,82,65] C.parts.length)) C.chans.length)) C.tables.length)).map Aj)):=by
 obtain ⟨hp,hc,ht,hpp,htt⟩:=hC
 refine AD aFO (by simp [OO]) fun rp=>?_;unfold OO;simp (disch:=omega)only[go_sem, *]
 refine Rt [72,79,82,65] [(C.parts.length:Int)] ?_ ?_ rfl rfl (by simp) ?_
 ·simp (disch:=omega)only[go_sem, *]<;>rfl
 ·simp (disch:=omega)only[go_sem, *]<;>rfl
 simp only [List.foldl_cons,List.foldl_nil]
 have l1:=Ak [72,79,82,65] C.parts.length
 simp only [List.length_cons,List.length_nil] at l1
 generalize Am [72,79,82,65] C.parts.length=P1 at *
 simp (disch:=omega)only[go_sem, *]
 refine fW (B:=P1) (L:=C.parts) (k:=⟨3,[C.enc]⟩) ?_ ?_ ?_ (by omega) hpp ?_ ?_ ?_ ?_ ?_ ?_
 any_goals (simp (disch:=omega)only[go_sem, *];done)
 try (any_goals (simp only [Ah.enc];simp (disch:=omega)only[go_sem, *];done))
 intro e h hl hn g0 e1 e3 l2
 generalize C.parts.foldl Cc P1=P2 at *
 have l3:=Ak P2 C.chans.length
 simp only [Ah.enc] at g0
 simp (disch:=omega)only[go_sem, *]
 refine BD (B:=P2) [(C.chans.length:Int)] ?_ rfl (by simp;omega) ?_
 ·simp (disch:=omega)only[go_sem, *]<;>rfl
 simp only [List.foldl_cons,List.foldl_nil]
 generalize Am P2 C.chans.length=P3 at *
 simp (disch:=omega)only[go_sem, *]
 refine fX (B:=P3) (L:=C.chans) (k:=⟨3,[C.enc]⟩) ?_ ?_ ?_ (by omega) ?_ ?_ ?_ ?_ ?_ ?_
 any_goals (simp (disch:=omega)only[go_sem, *];done)
 any_goals (simp (disch:=omega)only[go_sem, *]<;>omega)
 have l4:=JX Lt C.chans P3
 generalize C.chans.foldl Ck P3=P4 at *
 clear e1 e3 hl hn g0 e h
 intro e h hl hn g0 e1 e3
 have l5:=Ak P4 C.tables.length
 simp only [Ah.enc] at g0
 simp (disch:=omega)only[go_sem, *]
 refine BD (B:=P4) [(C.tables.length:Int)] ?_ rfl (by simp;omega) ?_
 ·simp (disch:=omega)only[go_sem, *]<;>rfl
 simp only [List.foldl_cons,List.foldl_nil]
 generalize Am P4 C.tables.length=P5 at *
 simp (disch:=omega)only[go_sem, *]
 refine fZ (B:=P5) (L:=C.tables) ?_ (by omega) htt ?_ ?_ ?_ ?_ ?_
 any_goals (simp (disch:=omega)only[go_sem, *];done)
 clear e1 e3 hl hn g0 e h
 intro e h hl e3
 simp (disch:=omega)only[go_sem, *]
end Go.Ab.T
namespace Go.Ab.T
open Go Go.Ab
set_option maxHeartbeats 2000000
theorem Td {C:Ah}:∀ (l:List (List Node)) (i:Nat),(Cy C i l).1=0→Cy C i l=(0,-1)
 | [],_,_=>rfl
 | t::l,i,h=>by
  unfold Cy at h ⊢
  by_cases q:DZ C t≠0
  ·rw [if_pos q] at h;exact absurd h q
  ·rw [if_neg q] at h ⊢;exact Td l _ h
theorem PP {C:Ah}:∀ (l:List Ar) (i:Nat),(BE C i l).1=0→BE C i l=(0,-1)
 | [],_,h=>Td _ _ h
 | t::l,i,h=>by
  unfold BE at h ⊢
  by_cases q:C0 C.parts.length t=false
  ·rw [if_pos q] at h;cases h
  ·rw [if_neg q] at h ⊢;exact PP l _ h
theorem PQ {C:Ah}:∀ (l:List Part) (i:Nat),(Bv C i l).1=0→Bv C i l=(0,-1)
 | [],_,h=>PP _ _ h
 | p::l,i,h=>by
  unfold Bv at h ⊢
  by_cases q:Ew p.name=false∨(C.parts.take i).any (fun q=>decide (q.name=p.name))=true
  ·rw [if_pos q] at h;cases h
  ·rw [if_neg q] at h ⊢
   by_cases q2:EX p=false
   ·rw [if_pos q2] at h;cases h
   ·rw [if_neg q2] at h ⊢;exact PQ l _ h
theorem KU {C:Ah} (h:(A1 C).1=0):A1 C=(0,-1):=by
 unfold A1 at h ⊢
 split
 ·rename_i q;rw [if_pos q] at h;cases h
 ·rename_i q;rw [if_neg q] at h;exact PQ _ _ h
theorem J9 {s:ByteArray} (h:Ew s=true):s.size≤12:=by
 unfold Ew at h;simp only [decide_eq_true_eq] at h;exact h.2.2
theorem I2 {L:List AO} (h:CG L=true):1≤L.length∧L.length≤3:=by
 refine ⟨?_, ?_⟩<;>refine Classical.byContradiction fun hn=>?_<;>rw [LG (by omega)] at h<;>cases h
theorem Dk {C:Ah} (h:A1 C=(0,-1)):R7 C∧GT C:=by
 obtain ⟨⟨a1,a2,a3,a4,a5⟩,hg,hc,hT⟩:=Dl.1 h
 have hp:∀ p∈C.parts,p.name.size≤12∧p.procs.length≤3:=fun p hp=>by
  obtain ⟨j,hj,rfl⟩:=List.getElem_of_mem hp
  have g:=hg j hj
  have e:nth C.parts j=C.parts[j]:=BX hj
  rw [← e]
  refine ⟨J9 g.1,(I2 ?_).2⟩
  have:=g.2.2
  unfold EX at this
  simp only [Bool.and_eq_true] at this
  exact this.1.1
 refine ⟨⟨by omega,by omega,by omega,fun p q=>by have:=hp p q;omega,fun t ht=>?_⟩,fun p q=>by have:=hp p q;omega⟩
 have g:=hT t ht
 rw [D0] at g
 have hr:=g.1.right
 unfold Bj at hr
 split at hr
 ·cases hr
 ·omega
noncomputable def E5 (C:Ah):List Int×Int:=if (A1 C).1=0 then (Bt C,0) else ([],(A1 C).1)
theorem TR {B:List Int} {p:Part} (h1:p.name.size<1000) (h2:p.procs.length≤100):(Cc B p).length≤B.length+3000:=by
 unfold Cc
 have a:=Ak B p.name.size
 have b:=IG p.name
 show _≤B.length+2955+9+9+9+9+9
 refine Nat.le_trans (Ak _ _) (Nat.add_le_add_right ?_ 9)
 refine Nat.le_trans (Ak _ _) (Nat.add_le_add_right ?_ 9)
 refine Nat.le_trans (Ak _ _) (Nat.add_le_add_right ?_ 9)
 refine Nat.le_trans (Ak _ _) (Nat.add_le_add_right ?_ 9)
 refine Nat.le_trans (Ak _ _) (Nat.add_le_add_right ?_ 9)
 refine Nat.le_trans (Lv _ _) ?_
 refine Nat.le_trans (Nat.add_le_add_left (Nat.mul_le_mul_left 18 h2) _) ?_
 show _≤B.length+1110+9+9+9+9+9+18*100
 refine Nat.add_le_add_right ?_ _
 refine Nat.le_trans (Ak _ _) (Nat.add_le_add_right ?_ 9)
 refine Nat.le_trans (CT _ _) (Nat.add_le_add_right ?_ 9)
 refine Nat.le_trans (CT _ _) (Nat.add_le_add_right ?_ 9)
 refine Nat.le_trans (Ak _ _) (Nat.add_le_add_right ?_ 9)
 refine Nat.le_trans (Ak _ _) (Nat.add_le_add_right ?_ 9)
 rw [List.length_append]
 omega
theorem Il {α:Type} {f:List Int→α→List Int} {k:Nat}:∀ (L:List α) (B:List Int),(∀ a∈L,∀ B,(f B a).length≤B.length+k)→(L.foldl f B).length≤B.length+k*L.length
 | [],B,_=>by simp
 | a::L,B,hf=>by
  have:=Il L (f B a) (fun x hx=>hf x (List.mem_cons_of_mem _ hx))
  have:=hf a (List.mem_cons_self ..) B
  simp only [List.foldl_cons,List.length_cons,Nat.mul_succ]
  omega
def E6 (C:Ah):List Int:=C.tables.foldl ET (Am (C.chans.foldl Ck (Am (C.parts.foldl Cc (Am [72,79,82,65] C.parts.length)) C.chans.length)) C.tables.length)
theorem Ie {C:Ah} (hC:R7 C):(E6 C).length<900000:=by
 obtain ⟨hp,hc,ht,hpp,htt⟩:=hC
 unfold E6
 have a1:=Ak [72,79,82,65] C.parts.length
 have a2:=Il (f:=Cc) (k:=3000) C.parts (Am [72,79,82,65] C.parts.length) (fun p hp B=>TR (hpp p hp).1 (hpp p hp).2)
 generalize C.parts.foldl Cc (Am [72,79,82,65] C.parts.length)=P2 at *
 have a3:=Ak P2 C.chans.length
 have a4:=JX Lt C.chans (Am P2 C.chans.length)
 generalize C.chans.foldl Ck (Am P2 C.chans.length)=P4 at *
 have a5:=Ak P4 C.tables.length
 have a6:=Il (f:=ET) (k:=19200) C.tables (Am P4 C.tables.length) (fun t q B=>by
  unfold ET
  have b1:=Ak B t.length
  have b2:=Lu (Am B t.length) t
  have:=htt t q
  omega)
 simp only [List.length_cons,List.length_nil] at a1
 omega
theorem Dg {C:Ah}:BL (E6 C)=Bt C:=rfl
theorem Eb {C:Ah} (hnm:GT C):Pf tp XF [.agg C.enc] (.tup [.fl 1 ((E5 C).1.map Aj),.i .i64 (E5 C).2]):=by
 refine AD aFp (by simp [Ok]) fun rp=>?_;unfold Ok;simp (disch:=omega)only[go_sem, *]
 have hr:=Zx hnm
 simp only [Ah.enc] at hr
 refine Pf.go (hr) (by simp only [go_sem]) fun _=>?_;simp (disch:=omega)only[go_sem, *]
 refine Aa (fun hc=>?_) (fun hc=>?_)
 ·have e:E5 C=([],(A1 C).1):=if_neg hc
  simp (disch:=omega)only[go_sem, *]
 ·have h0:(A1 C).1=0:=Decidable.not_not.1 hc
  have hw:=KU h0
  have e:E5 C=(Bt C,0):=if_pos h0
  have hb:Pf tp Sw [.agg C.enc] (.fl 1 ((E6 C).map Aj)):=gA (Dk hw).1
  simp only [Ah.enc] at hb
  simp (disch:=omega)only[go_sem, *]
  refine Pf.go (hb) (by simp only [go_sem]) fun _=>?_;simp (disch:=omega)only[go_sem, *]
  have hbl:=Ie (Dk hw).1
  have hsl:=RQ (B:=E6 C) (by omega)
  rw [Dg] at hsl
  refine Pf.go (hsl) (by simp only [go_sem]) fun _=>?_;simp (disch:=omega)only[go_sem, *]
theorem Hd {C:Ah} (hnm:GT C):Pf tp XH [.agg C.enc] (.i .i64 (E5 C).1.length):=by
 refine AD aFs (by simp [Oo]) fun rp=>?_;unfold Oo;simp (disch:=omega)only[go_sem, *]
 have hr:=Eb hnm
 simp only [Ah.enc] at hr
 refine Pf.go (hr) (by simp only [go_sem]) fun _=>?_;simp (disch:=omega)only[go_sem, *]
end Go.Ab.T
namespace Go.Ab.T
open Go Go.Ab
set_option maxHeartbeats 2000000
theorem QD:∀ k:Fin 256,((BitVec.ofInt 8 (k.val:Int) &&& ~~~(BitVec.ofInt 8 128)).toNat:Nat)=k.val % 128:=by decide +kernel
theorem Uq {k:Int} (h0:0≤k) (h1:k<256):Bs .andNot (.i .u8 k) (.i .u8 128)=some (.i .u8 (k % 128)):=by
 obtain ⟨m,rfl⟩:∃ m:Nat,k=m:=⟨k.toNat,by omega⟩
 have h:((BitVec.ofInt 8 (m:Int) &&& ~~~(BitVec.ofInt 8 128)).toNat:Nat)=m % 128:=QD ⟨m,by omega⟩
 show some (V.i .u8 (IntKind.wrap .u8 ((BitVec.ofInt 8 (m:Int) &&& ~~~(BitVec.ofInt 8 128)).toNat:Int)))=_
 rw [h,DJ]
 congr 2
 omega
theorem S0 (a:Int):Bs .shl (.i .u64 a) (.i .u64 8)=some (.i .u64 (IntKind.wrap .u64 (a*256))):=rfl
theorem or8 {u c:Int} (h0:0≤c) (h1:c<256):IntKind.wrap .u64 ((BitVec.ofInt 64 (IntKind.wrap .u64 (u*256)) ||| BitVec.ofInt 64 (IntKind.wrap .u64 c)).toNat:Int)=IntKind.wrap .u64 (u*256)+c:=by
 have e:IntKind.wrap .u64 (u*256)=256*(u % 72057594037927936):=by rw [FG];omega
 have e2:IntKind.wrap .u64 c=c:=by rw [FG];omega
 rw [e,e2]
 obtain ⟨q,hq⟩:∃ q:Nat,u % 72057594037927936=q:=⟨(u % 72057594037927936).toNat,by omega⟩
 have hq1:q<72057594037927936:=by omega
 obtain ⟨d,rfl⟩:∃ d:Nat,c=d:=⟨c.toNat,by omega⟩
 rw [hq]
 have h2:(BitVec.ofInt 64 (256*(q:Int)) ||| BitVec.ofInt 64 (d:Int)).toNat=256*q+d:=by
  rw [BitVec.toNat_or,BitVec.toNat_ofInt,BitVec.toNat_ofInt]
  have a1:(256*(q:Int) % ((2 ^ 64:Nat):Int)).toNat=q <<< 8:=by rw [Nat.shiftLeft_eq];omega
  have a2:((d:Int) % ((2 ^ 64:Nat):Int)).toNat=d:=by omega
  rw [a1,a2,←Nat.shiftLeft_add_eq_or_of_lt (show d<2 ^ 8 by omega),Nat.shiftLeft_eq]
  omega
 rw [h2,FG]
 omega
theorem gL {K : Ex → Env → AH → Prop} {e : Env} {l : List Int} {v0 v4 : V} {h : AH} (hb : Az l) (e0 : e 0 = v0) (e4 : e 4 = v4) (e5 : e 5 = .i .u64 0) (e28 : e 28 = .fl 1 (l.map Aj)) (e29 : e 29 = .i .i64 l.length) (e30 : e 30 = .i .i64 0) (hll : l.length < 100)
    (kk:∀ e:Env,e 0=v0→e 4=v4→e 5=.i .u64 (El l 0)→K (.ex 0) e h):ZC tp (.loop L0) e h K:=by
 refine Ae (fun n' e hh=>∃ (i:Nat) (u:Int),n'=l.length - i∧hh=h∧e 0=v0∧e 4=v4∧e 5=.i .u64 u∧e 28=.fl 1 (l.map Aj)∧e 29=.i .i64 l.length∧e 30=.i .i64 i∧i≤l.length∧El (l.drop i) u=El l 0) ?_ _ _ _ ⟨0,0,rfl,rfl,e0,e4,e5,e28,e29,e30,by omega,rfl⟩
 clear e0 e4 e5 e28 e29 e30 e
 rintro n' e hh ⟨i,u,rfl,rfl,e0,e4,e5,e28,e29,e30,hi,hz⟩ ih
 have o1:=S0
 rw [Ai L0.eq_1]
 simp (disch:=omega)only[go_sem, *]
 refine Aa (fun hc=>?_) (fun hc=>?_)
 ·rw [Ax (by omega),El] at hz
  have hbi:=hb _ (Bl (L:=l) (j:=i) (by omega))
  have o3:=or8 (u:=u) hbi.1 hbi.2
  simp (disch:=omega)only[go_sem, *]
  refine ih _ _ _ ?_ ⟨i+1,IntKind.wrap .u64 (u*256)+nth l i,rfl, ?_⟩
  ·omega
  ·clear ih kk
   simp (disch:=omega)only[go_sem, *]
   all_goals ((repeat' refine And.intro ?_ ?_)<;>first | omega | assumption | (exact congrArg (V.i .u64) o3))
 ·rw [List.drop_eq_nil_of_le (by omega),El] at hz
  simp (disch:=omega)only[go_sem, *]
  refine kk _ ?_ ?_ ?_<;>simp (disch:=omega)only[go_sem, *]
theorem Az.tail {k:Int} {l:List Int} (h:Az (k::l)):Az l:=fun z hz=>h z (List.mem_cons_of_mem _ hz)
theorem Az.take {n:Nat} {l:List Int} (h:Az l):Az (l.take n):=fun z hz=>h z (List.mem_of_mem_take hz)
theorem Si {b:List Int} (hb:Az b):Pf tp Q2 [.fl 1 (b.map Aj)] (.tup [.i .i64 (Bf b).1,.i .i64 (Bf b).2]):=by
 refine AD iJ (by simp [KA]) fun rp=>?_
 have hL:=rp.head.len
 unfold KA
 by_cases hne:b=[]
 ·subst hne
  simp (disch:=omega)only[go_sem, *]
  exact ⟨rfl,rfl⟩
 ·obtain ⟨k0,r,hbe⟩:∃ k0 r,k0::r=b:=by cases b with | nil=>exact absurd rfl hne | cons k r=>exact ⟨k,r,rfl⟩
  obtain ⟨h0,h1⟩:=hb k0 (by rw [← hbe];exact List.mem_cons_self ..)
  have o1:=Uq h0 h1
  have hn:nth b 0=k0:=by rw [← hbe];rfl
  have hlb:b.length=r.length+1:=by rw [← hbe];rfl
  have mt:∀ n,List.take n (b.map Aj)=(b.take n).map Aj:=fun n=>List.map_take.symm
  have md:∀ n m,List.take m (List.drop n (b.map Aj))=((b.drop n).take m).map Aj:=fun n m=>by rw [List.map_take,List.map_drop]
  have md2:∀ n m,List.drop m (List.take n (b.map Aj))=((b.take n).drop m).map Aj:=fun n m=>by rw [List.map_drop,List.map_take]
  clear hne
  obtain ⟨k,hk⟩:∃ k:Nat,k0 % 128=k:=⟨(k0 % 128).toNat,by omega⟩
  rw [hk] at o1
  simp (disch:=omega)only[go_sem, *]
  refine Aa (fun hc=>absurd hc (by omega)) (fun _=>?_)
  simp (disch:=omega)only[go_sem, *]
  have hg:Bf b=(if 8<k∨r.length<k then (0,0) else if Am [] (F7 k0 (r.take k))=k0::r.take k then (F7 k0 (r.take k),k+1) else (0,0)):=by
   rw [← hbe,Bf,hk]
   simp
  have bad:8<k∨r.length<k→Bf b=(0,0):=fun q=>by rw [hg,if_pos q]
  refine Aq (fun hc=>?_) (fun hc=>?_)
  ·have e:=bad (.inl (by omega))
   clear bad hg
   simp (disch:=omega)only[go_sem, *]
  ·simp (disch:=omega)only[go_sem, *]
   refine Aa (fun hc2=>?_) (fun hc2=>?_)
   ·have e:=bad (.inr (by omega))
    clear bad hg
    simp (disch:=omega)only[go_sem, *]
   ·rw [if_neg (by omega)] at hg
    have e1:(b.drop 1).take k=r.take k:=by rw [← hbe];rfl
    obtain ⟨T,hT⟩:∃ T,k0::r.take k=T:=⟨_,rfl⟩
    have e2:b.take (k+1)=T:=by rw [← hbe,←hT];rfl
    rw [hT] at hg
    have e3:(1+(k:Int)).toNat=k+1:=by omega
    have hlt:(r.take k).length=k:=by rw [List.length_take];omega
    have ib:Az (r.take k):=by
     have:Az r:=Az.tail (k:=k0) (by rw [hbe];exact hb)
     exact this.take
    clear bad hbe hT
    simp (disch:=omega)only[go_sem, *]
    refine gL (l:=r.take k) (v0:=.fl 1 (b.map Aj)) (v4:=.i .i64 k) ib ?_ ?_ ?_ ?_ ?_ ?_ ?_ ?_
    any_goals (simp (disch:=omega)only[go_sem, *];done)
    ·rw [hlt];omega
    intro e f0 f4 f5
    clear ib
    simp (disch:=omega)only[go_sem, *]
    refine Aa (fun hc3=>?_) (fun hc3=>?_)
    ·have hnum:F7 k0 (r.take k)=IntKind.wrap .i64 (0 - IntKind.wrap .i64 (El (r.take k) 0)):=if_pos hc3
     rw [hnum] at hg
     clear hnum
     generalize El (r.take k) 0=u at *
     simp (disch:=omega)only[go_sem, *]
     refine Jk (b:=.ns) (B:=[]) (n:=IntKind.wrap .i64 (0 - IntKind.wrap .i64 u)) (Nat.le_refl _) .ns rfl rfl (by simp) ?_
     intro q h2 s2 x2
     have hpl:=Ak [] (IntKind.wrap .i64 (0 - IntKind.wrap .i64 u))
     rw [List.length_nil] at hpl
     simp (disch:=omega)only[go_sem, *]
     refine Pf.look (GA (L:=Am [] (IntKind.wrap .i64 (0 - IntKind.wrap .i64 u))) (M:=T)) (.cons _ _ _ _ _ (Sl.froze (Sl.raise (Sl.back (l:=0) s2)) (fun _=>rfl) trivial (by omega)) (.cons _ _ _ _ _ (.fl _ _ _) (.nil _))) rfl fun _=>?_
     simp (disch:=omega)only[go_sem, *]
     refine Aa (fun hc4=>?_) (fun hc4=>?_)
     ·rw [if_neg hc4] at hg
      simp (disch:=omega)only[go_sem, *]
     ·rw [if_pos (Decidable.not_not.1 hc4)] at hg
      simp (disch:=omega)only[go_sem, *]
      omega
    ·have hnum:F7 k0 (r.take k)=IntKind.wrap .i64 (El (r.take k) 0):=if_neg hc3
     rw [hnum] at hg
     clear hnum
     generalize El (r.take k) 0=u at *
     simp (disch:=omega)only[go_sem, *]
     refine Jk (b:=.ns) (B:=[]) (n:=IntKind.wrap .i64 u) (Nat.le_refl _) .ns rfl rfl (by simp) ?_
     intro q h2 s2 x2
     have hpl:=Ak [] (IntKind.wrap .i64 u)
     rw [List.length_nil] at hpl
     simp (disch:=omega)only[go_sem, *]
     refine Pf.look (GA (L:=Am [] (IntKind.wrap .i64 u)) (M:=T)) (.cons _ _ _ _ _ (Sl.froze (Sl.raise (Sl.back (l:=0) s2)) (fun _=>rfl) trivial (by omega)) (.cons _ _ _ _ _ (.fl _ _ _) (.nil _))) rfl fun _=>?_
     simp (disch:=omega)only[go_sem, *]
     refine Aa (fun hc4=>?_) (fun hc4=>?_)
     ·rw [if_neg hc4] at hg
      simp (disch:=omega)only[go_sem, *]
     ·rw [if_pos (Decidable.not_not.1 hc4)] at hg
      simp (disch:=omega)only[go_sem, *]
      omega
theorem GB {b:List Int}:(Bf b).2≤b.length:=by
 by_cases h:0<(Bf b).2
 ·exact (TX h).2
 ·omega
theorem gE {b:List Int} {m:Int} (hb:Az b) (hm:m≤1000):Pf tp Rg [.fl 1 (b.map Aj),.i .i64 m] (.tup [.s (ZO (DK b m).1),.i .i64 (DK b m).2]):=by
 refine AD iY (by simp [KO]) fun rp=>?_
 have hL:=rp.head.len
 have hg:=Si hb
 have hbd:=GB (b:=b)
 unfold KO
 simp (disch:=omega)only[go_sem, *]
 refine Pf.go (hg) (by simp only [go_sem]) fun _=>?_;simp (disch:=omega)only[go_sem, *]
 clear hg
 have mt:∀ n m,List.take m (List.drop n (b.map Aj))=((b.drop n).take m).map Aj:=fun n m=>by rw [List.map_take,List.map_drop]
 have md2:∀ n m,List.drop m (List.take n (b.map Aj))=((b.take n).drop m).map Aj:=fun n m=>by rw [List.map_drop,List.map_take]
 have bad:(Bf b).2=0∨(Bf b).1<0∨m<(Bf b).1∨(b.length:Int) - (Bf b).2<(Bf b).1→DK b m=([],0):=fun q=>if_pos q
 have good:¬ ((Bf b).2=0∨(Bf b).1<0∨m<(Bf b).1∨(b.length:Int) - (Bf b).2<(Bf b).1)→DK b m=((b.drop (Bf b).2).take (Bf b).1.toNat,(Bf b).2+(Bf b).1.toNat):=fun q=>if_neg q
 generalize Bf b=p at *
 obtain ⟨n,k⟩:=p
 simp only at bad good hbd
 simp (disch:=omega)only[go_sem, *]
 refine Aq (fun hc=>?_) (fun hc=>?_)
 ·have e:=bad (.inl (by omega))
  clear bad good
  simp (disch:=omega)only[go_sem, *]
  rfl
 ·simp (disch:=omega)only[go_sem, *]
  refine Aq (fun hc2=>?_) (fun hc2=>?_)
  ·have e:=bad (.inr (.inl hc2))
   clear bad good
   simp (disch:=omega)only[go_sem, *]
   rfl
  ·simp (disch:=omega)only[go_sem, *]
   refine Aa (fun hc3=>?_) (fun hc3=>?_)
   ·have e:=bad (by omega)
    clear bad good
    simp (disch:=omega)only[go_sem, *]
    rfl
   ·have e:=good (by omega)
    obtain ⟨w,rfl⟩:∃ w:Nat,n=w:=⟨n.toNat,by omega⟩
    have h1:((k:Int)+(w:Int)).toNat=k+w:=by omega
    have h2:k+w - k=w:=by omega
    rw [Int.toNat_natCast] at e
    clear bad good
    simp (disch:=omega)only[go_sem, *]
    rfl
end Go.Ab.T
