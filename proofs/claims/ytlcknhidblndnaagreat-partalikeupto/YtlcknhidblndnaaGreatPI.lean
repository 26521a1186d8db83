/- Part of a proof that a law returns true for every input of the second form's bound (no other condition). -/
import Derived.Test.YtlcknhidblndnaaGreatPH
set_option linter.all false
namespace Go.Ab.T
open Go Go.Ab
set_option maxHeartbeats 4000000
structure SE (b:Nat) (h:AH) (a:V) (A:List ST) (i:Nat):Prop where
 g:h.get (Aq a)=some ⟨9,A3 h a⟩
 r:(A3 h a)[CF a+i]?=some (ST.enc (nth A i))
 lt:Aq a<h.next
 lo:b≤Aq a
 at_:∀ cs,LL (some ⟨9,cs⟩) 9 a (.i .i64 i)=some (.p (Aq a) (CF a+i) 0)
 set:∀ h',Au h h'→∀ x,Sl b (h'.put (Aq a) ⟨9,(A3 h a).set (CF a+i) (ST.enc x)⟩) 9 a ((A.set i x).map ST.enc)
theorem VI {h h':AH} {v:V} (x:Au h h') (hl:Aq v<h.next):A3 h' v=A3 h v:=by unfold A3;rw [x.get _ hl]
theorem CX {b i:Nat} {h:AH} {a:V} {A:List ST} (sa:Sl b h 9 a (A.map ST.enc)) (hi:i<A.length):SE b h a A i:=by
 obtain ⟨_,_,lt,lo,get,at1,row,_,_⟩:=sa.facts
 have l:=lt (by omega)
 refine ⟨get (by omega),row i hi,l,lo (by omega),fun cs=>?_,fun h' x y=>?_⟩
 ·have:=at1 .i64 i cs (by omega) (by omega)
  simpa only [Int.toNat_natCast] using this
 ·refine Sl.setT (sa.ext x) hi (Nat.le_refl _) ?_
  rw [Ad,Aw rfl,VI x l]
def GJ (ins:List Int) (t:Int) (op:Int) (A B C:Nat) (x:ST):Int:=
 if op=2 then IntKind.wrap .u32 (nth x.r B+nth x.r C) else if op=3 then IntKind.wrap .u32 (nth x.r B - nth x.r C) else if op=4 then IntKind.wrap .u32 (nth x.r B*nth x.r C)
 else if op=5 then IntKind.wrap .u32 ((nth x.r B).tdiv (nth x.r C)) else if op=13 then (if t<ins.length then nth ins t.toNat else 0) else if op=14 then IntKind.wrap .u32 t else 256*B+C
def Cv (ins:List Int) (t:Int) (op:Int) (A B C:Nat) (x:ST):Int×Int×ST:=
 if op=5∧nth x.r C=0 then (0,4,x) else (GJ ins t op A B C x,0,⟨x.r.set A (GJ ins t op A B C x),x.pc⟩)
section
variable {b pp tb lg i A B C:Nat} {h:AH} {a:V} {As:List ST} {c:PC} {mem:List Int} {clk t op:Int} {K:V→AH→Prop}
theorem VF (hop:op=1∨op=2∨op=3∨op=4∨op=5∨op=13∨op=14) (hA:A<8) (hB:op=2∨op=3∨op=4∨op=5→B<8∧C<8) (hB2:B≤255) (hC2:C≤255) (gp:h.get pp=some ⟨26,[AF c tb lg a mem clk]⟩) (hm:mem.length=16) (hpn:pp<h.next) (sa:Sl b h 9 a (As.map ST.enc)) (hi:i<As.length) (hb:h.lim≤b) (hr:(nth As i).r.length=8) (ht:0≤t) (hins:c.ins.length<4000000000)
    (kk:∀ h',Wr h (·=Aq a) h'→Sl b h' 9 a ((As.set i (Cv c.ins t op A B C (nth As i)).2.2).map ST.enc)→K (.tup [.i .u32 (Cv c.ins t op A B C (nth As i)).1,.i .i64 (Cv c.ins t op A B C (nth As i)).2.1]) h'):Cq tp Rr [.p pp 0 0,.agg [.i .i64 op,.i .i64 A,.i .i64 B,.i .i64 C],.p (Aq a) (CF a+i) 0,.i .i64 t] h K:=by
 obtain ⟨g,r,lt,lo,_,set⟩:=CX sa hi
 have X1:Au h (h.alloc ⟨4,[[.i .i64 op,.i .i64 A,.i .i64 B,.i .i64 C]]⟩):=by (repeat (first | exact Au.refl _ | refine Au.alloc ?_ _ | (refine Au.put ?_ _ _ ?_;rotate_left;(first | omega | (simp only [Ag,Ai];omega)))))
 have set:=set _ X1
 have he:=ST.len hr
 have eA:=ST.reg hr hA
 have sA:=fun v=>ST.setr (v:=v) hr hA
 have fin:∀ n,GJ c.ins t op A B C (nth As i)=n→¬ (op=5∧nth (nth As i).r C=0)→K (.tup [.i .u32 n,.i .i64 0]) ((h.alloc ⟨4,[[.i .i64 op,.i .i64 A,.i .i64 B,.i .i64 C]]⟩).put (Aq a) ⟨9,(A3 h a).set (CF a+i) (ST.enc ⟨(nth As i).r.set A n,(nth As i).pc⟩)⟩):=fun n hn hq=>by
  have e:Cv c.ins t op A B C (nth As i)=(n,0,⟨(nth As i).r.set A n,(nth As i).pc⟩):=by unfold Cv;rw [if_neg hq,hn]
  rw [e] at kk
  exact kk _ ((Wr.refl.alloc).put (.inr rfl)) (set _)
 have im:=Qi (x:=⟨op,A,B,C⟩) ⟨by simp;omega,by simp;omega,by simp;omega⟩
 have ei:SY ⟨op,A,B,C⟩=256*B+C:=rfl
 rw [ei] at im
 clear ei
 have hLE:h.lim≤Aq a:=by omega
 have m1:∀ n:Nat,n*1=n:=Nat.mul_one
 have hA8:A+1≤8+1:=by omega
 rcases hop with rfl | rfl | rfl | rfl | rfl | rfl | rfl
 ·have f:=fin (256*B+C) (by unfold GJ;simp) (by simp)
  clear fin kk
  refine Ac EZ (by simp [Cl]) fun wf rp=>?_;unfold Cl;simp (disch:=omega)only[go_sem, *]
  refine Pf.go (im) (by simp only [go_sem]) fun _=>?_;simp (disch:=omega)only[go_sem, *]
 ·obtain ⟨h1,h2⟩:=hB (by simp)
  have eB:=ST.reg hr h1
  have eC:=ST.reg hr h2
  have b8:B≤8:=by omega
  have c8:C≤8:=by omega
  have f:=fin (IntKind.wrap .u32 (nth (nth As i).r B+nth (nth As i).r C)) (by unfold GJ;simp) (by simp)
  clear fin kk
  refine Ac EZ (by simp [Cl]) fun wf rp=>?_;unfold Cl;simp (disch:=omega)only[go_sem, *]
  refine Pf.go (im) (by simp only [go_sem]) fun _=>?_;simp (disch:=omega)only[go_sem, *]
 ·obtain ⟨h1,h2⟩:=hB (by simp)
  have eB:=ST.reg hr h1
  have eC:=ST.reg hr h2
  have b8:B≤8:=by omega
  have c8:C≤8:=by omega
  have f:=fin (IntKind.wrap .u32 (nth (nth As i).r B - nth (nth As i).r C)) (by unfold GJ;simp) (by simp)
  clear fin kk
  refine Ac EZ (by simp [Cl]) fun wf rp=>?_;unfold Cl;simp (disch:=omega)only[go_sem, *]
  refine Pf.go (im) (by simp only [go_sem]) fun _=>?_;simp (disch:=omega)only[go_sem, *]
 ·obtain ⟨h1,h2⟩:=hB (by simp)
  have eB:=ST.reg hr h1
  have eC:=ST.reg hr h2
  have b8:B≤8:=by omega
  have c8:C≤8:=by omega
  have f:=fin (IntKind.wrap .u32 (nth (nth As i).r B*nth (nth As i).r C)) (by unfold GJ;simp) (by simp)
  clear fin kk
  refine Ac EZ (by simp [Cl]) fun wf rp=>?_;unfold Cl;simp (disch:=omega)only[go_sem, *]
  refine Pf.go (im) (by simp only [go_sem]) fun _=>?_;simp (disch:=omega)only[go_sem, *]
 ·obtain ⟨h1,h2⟩:=hB (by simp)
  have eB:=ST.reg hr h1
  have eC:=ST.reg hr h2
  have b8:B≤8:=by omega
  have c8:C≤8:=by omega
  by_cases hz:nth (nth As i).r C=0
  ·have e:Cv c.ins t 5 A B C (nth As i)=(0,4,nth As i):=if_pos ⟨rfl,hz⟩
   rw [e] at kk
   have es:As.set i (nth As i)=As:=by rw [BO hi,List.set_getElem_self]
   have f:=kk (h.alloc ⟨4,[[.i .i64 5,.i .i64 A,.i .i64 B,.i .i64 C]]⟩) (Wr.refl.alloc) (by simp only [es];exact sa.ext X1)
   clear fin kk e es
   refine Ac EZ (by simp [Cl]) fun wf rp=>?_;unfold Cl;simp (disch:=omega)only[go_sem, *]
   refine Pf.go (im) (by simp only [go_sem]) fun _=>?_;simp (disch:=omega)only[go_sem, *]
  ·have f:=fin (IntKind.wrap .u32 ((nth (nth As i).r B).tdiv (nth (nth As i).r C))) (by unfold GJ;simp) (by simp [hz])
   clear fin kk
   refine Ac EZ (by simp [Cl]) fun wf rp=>?_;unfold Cl;simp (disch:=omega)only[go_sem, *]
   refine Pf.go (im) (by simp only [go_sem]) fun _=>?_;simp (disch:=omega)only[go_sem, *]
 ·obtain ⟨k,rfl⟩:∃ k:Nat,t=k:=⟨t.toNat,by omega⟩
  have p1:=AF.f5 (c:=c) (tb:=tb) (lg:=lg) (a:=a) (mem:=mem) (clk:=clk)
  have p2:=AF.len (c:=c) (tb:=tb) (lg:=lg) (a:=a) (clk:=clk) hm
  by_cases hk:(k:Int)<c.ins.length
  ·have f:=fin (nth c.ins k) (by unfold GJ;simp [hk]) (by simp)
   clear fin kk
   refine Ac EZ (by simp [Cl]) fun wf rp=>?_;unfold Cl;simp (disch:=omega)only[go_sem, *]
   refine Pf.go (im) (by simp only [go_sem]) fun _=>?_;simp (disch:=omega)only[go_sem, *]
  ·have f:=fin 0 (by unfold GJ;simp [hk]) (by simp)
   clear fin kk
   refine Ac EZ (by simp [Cl]) fun wf rp=>?_;unfold Cl;simp (disch:=omega)only[go_sem, *]
   refine Pf.go (im) (by simp only [go_sem]) fun _=>?_;simp (disch:=omega)only[go_sem, *]
 ·have f:=fin (IntKind.wrap .u32 t) (by unfold GJ;simp) (by simp)
  clear fin kk
  refine Ac EZ (by simp [Cl]) fun wf rp=>?_;unfold Cl;simp (disch:=omega)only[go_sem, *]
  refine Pf.go (im) (by simp only [go_sem]) fun _=>?_;simp (disch:=omega)only[go_sem, *]
end
end Go.Ab.T
namespace Go.Ab.T
open Go Go.Ab
set_option maxHeartbeats 4000000
def Ca (mem:List Int) (op:Int) (A B C:Nat) (x:ST):Int×Int×ST×List Int:=
 if 16≤nth x.r B+C then (0,3,x,mem) else if op=6 then (nth mem (nth x.r B+C).toNat,0,⟨x.r.set A (nth mem (nth x.r B+C).toNat),x.pc⟩,mem) else (nth x.r A,0,x,mem.set (nth x.r B+C).toNat (nth x.r A))
theorem aFR {n:Int} (h0:0≤n) (h1:n<18446744073709551616):IntKind.wrap .u64 n=n:=by
 unfold IntKind.wrap;simp [IntKind.bits,IntKind.signed];omega
section
variable {b pp tb lg i A B C:Nat} {h:AH} {a:V} {As:List ST} {c:PC} {mem:List Int} {clk t op:Int} {K:V→AH→Prop}
theorem nK (hop:op=6∨op=7) (hA:A<8) (hB:B<8) (hC2:C≤255) (gp:h.get pp=some ⟨26,[AF c tb lg a mem clk]⟩) (hm:mem.length=16) (hpn:pp<h.next) (sa:Sl b h 9 a (As.map ST.enc)) (hi:i<As.length) (hb:h.lim≤b) (hbp:b≤pp) (hne:Aq a≠pp) (hr:(nth As i).r.length=8) (hu:0≤nth (nth As i).r B∧nth (nth As i).r B<4294967296)
    (kk:∀ h',Wr h (fun j=>j=Aq a∨j=pp) h'→h'.get pp=some ⟨26,[AF c tb lg a (Ca mem op A B C (nth As i)).2.2.2 clk]⟩→Sl b h' 9 a ((As.set i (Ca mem op A B C (nth As i)).2.2.1).map ST.enc)→K (.tup [.i .u32 (Ca mem op A B C (nth As i)).1,.i .i64 (Ca mem op A B C (nth As i)).2.1]) h'):Cq tp Rt [.p pp 0 0,.agg [.i .i64 op,.i .i64 A,.i .i64 B,.i .i64 C],.p (Aq a) (CF a+i) 0] h K:=by
 obtain ⟨g,r,lt,lo,_,set⟩:=CX sa hi
 have X1:Au h (h.alloc ⟨4,[[.i .i64 op,.i .i64 A,.i .i64 B,.i .i64 C]]⟩):=by (repeat (first | exact Au.refl _ | refine Au.alloc ?_ _ | (refine Au.put ?_ _ _ ?_;rotate_left;(first | omega | (simp only [Ag,Ai];omega)))))
 have set:=set _ X1
 have he:=ST.len hr
 have eA:=ST.reg hr hA
 have eB:=ST.reg hr hB
 have sA:=fun v=>ST.setr (v:=v) hr hA
 have hLE:h.lim≤Aq a:=by omega
 have hLP:h.lim≤pp:=by omega
 have m1:∀ n:Nat,n*1=n:=Nat.mul_one
 have hA8:A+1≤8+1:=by omega
 have hB8:B≤8:=by omega
 have p2:=AF.len (c:=c) (tb:=tb) (lg:=lg) (a:=a) (clk:=clk) hm
 have es:As.set i (nth As i)=As:=by rw [BO hi,List.set_getElem_self]
 have w1:IntKind.wrap .u64 (nth (nth As i).r B)=nth (nth As i).r B:=aFR hu.1 (by omega)
 have w2:IntKind.wrap .u64 (C:Int)=C:=aFR (by omega) (by omega)
 have w3:IntKind.wrap .u64 (nth (nth As i).r B+C)=nth (nth As i).r B+C:=aFR (by omega) (by omega)
 by_cases hz:16≤nth (nth As i).r B+C
 ·have e:Ca mem op A B C (nth As i)=(0,3,nth As i,mem):=if_pos hz
  rw [e] at kk
  have f:=kk _ (Wr.refl.alloc (k:=⟨4,[[.i .i64 op,.i .i64 A,.i .i64 B,.i .i64 C]]⟩)) (by rw [AO,Af (by omega)];exact gp) (by simp only [es];exact sa.ext X1)
  clear kk e es
  refine Ac PH (by simp [G7]) fun wf rp=>?_;unfold G7;simp (disch:=omega)only[go_sem, *]
 ·obtain ⟨j,hj⟩:∃ j:Nat,nth (nth As i).r B+C=j:=⟨(nth (nth As i).r B+C).toNat,by omega⟩
  have hj16:j<16:=by omega
  rw [hj] at w3
  have fm:=AF.fm (c:=c) (tb:=tb) (lg:=lg) (a:=a) (clk:=clk) hm hj16
  have sm:=fun v=>AF.sm (c:=c) (tb:=tb) (lg:=lg) (a:=a) (clk:=clk) (v:=v) hm hj16
  have p3:(8:Nat)+j≤25:=by omega
  have jj:8+j+1≤26:=by omega
  rcases hop with rfl | rfl
  ·have e:Ca mem 6 A B C (nth As i)=(nth mem j,0,⟨(nth As i).r.set A (nth mem j),(nth As i).pc⟩,mem):=by unfold Ca;rw [if_neg hz,if_pos rfl,hj];rfl
   rw [e] at kk
   have f:=kk _ (((Wr.refl (I:=(fun j=>j=Aq a∨j=pp))).alloc (k:=⟨4,[[.i .i64 6,.i .i64 A,.i .i64 B,.i .i64 C]]⟩)).put (j:=Aq a) (.inr (.inl rfl))) (by rw [Ad,Af (fun e=>hne e.symm),AO,Af (by omega)];exact gp) (set _)
   clear kk e es set X1
   refine Ac PH (by simp [G7]) fun wf rp=>?_;unfold G7;simp (disch:=omega)only[go_sem, *]
   refine Aa (fun hc=>absurd hc (by omega)) (fun _=>?_)
   simp (disch:=omega)only[go_sem, *]
  ·have e:Ca mem 7 A B C (nth As i)=(nth (nth As i).r A,0,nth As i,mem.set j (nth (nth As i).r A)):=by unfold Ca;rw [if_neg hz,if_neg (by decide),hj];rfl
   rw [e] at kk
   have fm2:=AF.fm (c:=c) (tb:=tb) (lg:=lg) (a:=a) (mem:=mem.set j (nth (nth As i).r A)) (clk:=clk) (by simpa using hm) hj16
   have en:nth (mem.set j (nth (nth As i).r A)) j=nth (nth As i).r A:=by rw [BO (by simp;omega),List.getElem_set_self]
   have p4:=AF.len (c:=c) (tb:=tb) (lg:=lg) (a:=a) (mem:=mem.set j (nth (nth As i).r A)) (clk:=clk) (by simpa using hm)
   rw [en] at fm2
   have f:=kk _ (((Wr.refl (I:=(fun j=>j=Aq a∨j=pp))).alloc (k:=⟨4,[[.i .i64 7,.i .i64 A,.i .i64 B,.i .i64 C]]⟩)).put (j:=pp) (.inr (.inr rfl))) (by rw [Ad,Aw rfl]) (by simp only [es];exact AI (sa.ext X1) _ _ (.inr (fun e=>hne e.symm)))
   clear kk e es set X1 en
   refine Ac PH (by simp [G7]) fun wf rp=>?_;unfold G7;simp (disch:=omega)only[go_sem, *]
   refine Aa (fun hc=>absurd hc (by omega)) (fun _=>?_)
   simp (disch:=omega)only[go_sem, *]
end
end Go.Ab.T
namespace Go.Ab.T
open Go Go.Ab
set_option maxHeartbeats 4000000
structure PS where
 procs:List PR
 all:List ST
 mem:List Int
 fl:List FT
 halt:Bool
 clk:Int
 deriving DecidableEq
def F4 (l:List Int):Prop:=∀ z∈l,0≤z∧z<4294967296
structure PA (b:Nat) (h:AH) (pp tb lg:Nat) (w a f:V) (c:PC) (s:PS):Prop where
 gp:h.get pp=some ⟨26,[AF c tb lg a s.mem s.clk]⟩
 gt:h.get tb=some ⟨1,[[w]]⟩
 gl:h.get lg=some ⟨7,[[.i .i64 c.h0,.i .i64 c.h1,.i .i64 c.h2,.i .i64 c.h3,.i .i64 c.h4,f,.b s.halt]]⟩
 sw:Sl b h 3 w (s.procs.map PR.enc)
 sa:Sl b h 9 a (s.all.map ST.enc)
 sf:Sl b h 3 f (s.fl.map FT.enc)
 lim:h.lim≤b
 bp:b≤pp∧b≤tb∧b≤lg
 np:pp<h.next∧tb<h.next∧lg<h.next
 d:pp≠tb∧pp≠lg∧tb≠lg
 dw:Aq w≠pp∧Aq w≠tb∧Aq w≠lg
 da:Aq a≠pp∧Aq a≠tb∧Aq a≠lg∧Aq a≠Aq w
 df:AD f=true∨(Aq f≠pp∧Aq f≠tb∧Aq f≠lg∧Aq f≠Aq w∧Aq f≠Aq a)
 l1:1≤s.procs.length∧s.procs.length≤3
 l2:s.all.length=s.procs.length
 l3:s.mem.length=16
 l4:∀ x∈s.all,x.r.length=8∧F4 x.r
 l5:F4 s.mem
 l6:s.fl.length≤s.clk∧s.clk<3000000000
section
variable {b pp tb lg:Nat} {h h':AH} {w a f:V} {c:PC} {s:PS} {I:Nat→Prop}
theorem CB {sz:Nat} {v:V} {R:List (List V)} (s:Sl b h sz v R) (x:Wr h I h') (hI:AD v=true∨¬ I (Aq v)):Sl b h' sz v R:=by
 rcases hI with q | q
 ·rcases s with z | ⟨_,_,_,_,rfl,_⟩
  ·exact .inl z
  ·cases q
 ·exact s.same x.next (fun hq=>x.get _ hq q)
theorem PA.same (p:PA b h pp tb lg w a f c s) (x:Wr h I h') (hI:∀ i,I i→i≠pp∧i≠tb∧i≠lg∧i≠Aq w∧i≠Aq a∧(AD f=true∨i≠Aq f)):PA b h' pp tb lg w a f c s:=
 ⟨(x.get _ p.np.1 (fun e=>(hI _ e).1 rfl)).trans p.gp,(x.get _ p.np.2.1 (fun e=>(hI _ e).2.1 rfl)).trans p.gt,(x.get _ p.np.2.2 (fun e=>(hI _ e).2.2.1 rfl)).trans p.gl,
  CB p.sw x (.inr fun e=>(hI _ e).2.2.2.1 rfl),CB p.sa x (.inr fun e=>(hI _ e).2.2.2.2.1 rfl),CB p.sf x (by
   rcases Bool.eq_false_or_eq_true (AD f) with q | q
   ·exact .inl q
   ·exact .inr fun e=>((hI _ e).2.2.2.2.2.resolve_left (by rw [q];decide)) rfl),
  by rw [x.lim];exact p.lim,p.bp,⟨Nat.lt_of_lt_of_le p.np.1 x.next,Nat.lt_of_lt_of_le p.np.2.1 x.next,Nat.lt_of_lt_of_le p.np.2.2 x.next⟩,p.d,p.dw,p.da,p.df,p.l1,p.l2,p.l3,p.l4,p.l5,p.l6⟩
theorem PA.ext (p:PA b h pp tb lg w a f c s) (x:Au h h'):PA b h' pp tb lg w a f c s:=p.same (I:=fun _=>False) ⟨x.next,x.lim,fun i hi _=>x.get i hi⟩ (fun _ e=>e.elim)
theorem PA.setA {A:List ST} (p:PA b h pp tb lg w a f c s) (x:Wr h (·=Aq a) h') (sa:Sl b h' 9 a (A.map ST.enc)) (hl:A.length=s.all.length) (h4:∀ x∈A,x.r.length=8∧F4 x.r):PA b h' pp tb lg w a f c { s with all:=A }:=by
 obtain ⟨q1,q2,q3,q4⟩:=p.da
 exact ⟨(x.get _ p.np.1 (fun e=>q1 e.symm)).trans p.gp,(x.get _ p.np.2.1 (fun e=>q2 e.symm)).trans p.gt,(x.get _ p.np.2.2 (fun e=>q3 e.symm)).trans p.gl,
  CB p.sw x (.inr fun e=>q4 e.symm),sa,CB p.sf x (p.df.imp (fun z=>z) (fun z=>z.2.2.2.2)),by rw [x.lim];exact p.lim,p.bp,⟨Nat.lt_of_lt_of_le p.np.1 x.next,Nat.lt_of_lt_of_le p.np.2.1 x.next,Nat.lt_of_lt_of_le p.np.2.2 x.next⟩,p.d,p.dw,p.da,p.df,p.l1,hl.trans p.l2,p.l3,h4,p.l5,p.l6⟩
theorem PA.setM {A:List ST} {m:List Int} (p:PA b h pp tb lg w a f c s) (x:Wr h (fun j=>j=Aq a∨j=pp) h') (gp:h'.get pp=some ⟨26,[AF c tb lg a m s.clk]⟩) (sa:Sl b h' 9 a (A.map ST.enc)) (hl:A.length=s.all.length) (h4:∀ x∈A,x.r.length=8∧F4 x.r) (hm:m.length=16) (h5:F4 m):PA b h' pp tb lg w a f c { s with all:=A,mem:=m }:=by
 obtain ⟨q1,q2,q3,q4⟩:=p.da
 obtain ⟨d1,d2,d3⟩:=p.d
 exact ⟨gp,(x.get _ p.np.2.1 (fun e=>e.elim (fun e=>q2 e.symm) (fun e=>d1 e.symm))).trans p.gt,(x.get _ p.np.2.2 (fun e=>e.elim (fun e=>q3 e.symm) (fun e=>d2 e.symm))).trans p.gl,
  CB p.sw x (.inr fun e=>e.elim (fun e=>q4 e.symm) p.dw.1),sa,CB p.sf x (p.df.imp (fun z=>z) (fun z e=>e.elim z.2.2.2.2 z.1)),by rw [x.lim];exact p.lim,p.bp,⟨Nat.lt_of_lt_of_le p.np.1 x.next,Nat.lt_of_lt_of_le p.np.2.1 x.next,Nat.lt_of_lt_of_le p.np.2.2 x.next⟩,p.d,p.dw,p.da,p.df,p.l1,hl.trans p.l2,hm,h4,h5,p.l6⟩
theorem PA.setW {P:List PR} (p:PA b h pp tb lg w a f c s) (x:Wr h (·=Aq w) h') (sw:Sl b h' 3 w (P.map PR.enc)) (hl:P.length=s.procs.length):PA b h' pp tb lg w a f c { s with procs:=P }:=by
 obtain ⟨q1,q2,q3⟩:=p.dw
 exact ⟨(x.get _ p.np.1 (fun e=>q1 e.symm)).trans p.gp,(x.get _ p.np.2.1 (fun e=>q2 e.symm)).trans p.gt,(x.get _ p.np.2.2 (fun e=>q3 e.symm)).trans p.gl,
  sw,CB p.sa x (.inr p.da.2.2.2),CB p.sf x (p.df.imp (fun z=>z) (fun z=>z.2.2.2.1)),by rw [x.lim];exact p.lim,p.bp,⟨Nat.lt_of_lt_of_le p.np.1 x.next,Nat.lt_of_lt_of_le p.np.2.1 x.next,Nat.lt_of_lt_of_le p.np.2.2 x.next⟩,p.d,p.dw,p.da,p.df,by rw [hl];exact p.l1,p.l2.trans hl.symm,p.l3,p.l4,p.l5,p.l6⟩
end
end Go.Ab.T
namespace Go.Ab.T
open Go Go.Ab
set_option maxHeartbeats 8000000
theorem Ip {l:List Int} {i:Nat} {v:Int} (h:F4 l) (h0:0≤v) (h1:v<4294967296):F4 (l.set i v):=fun z hz=>(List.mem_or_eq_of_mem_set hz).elim (h z) (fun e=>by subst e;exact ⟨h0,h1⟩)
theorem DJ {l:List Int} {i:Nat} (h:F4 l):0≤nth l i∧nth l i<4294967296:=by
 rcases Nat.lt_or_ge i l.length with q | q
 ·exact h _ (AP q)
 ·have:nth l i=0:=by unfold nth;rw [List.getD_eq_getElem?_getD,List.getElem?_eq_none q];rfl
  rw [this];omega
theorem HO (n:Int):0≤IntKind.wrap .u32 n∧IntKind.wrap .u32 n<4294967296:=by
 unfold IntKind.wrap;simp [IntKind.bits,IntKind.signed];omega
theorem aP9 {ins:List Int} {t op:Int} {A B C:Nat} {x:ST} (hi:F4 ins) (hB:B≤255) (hC:C≤255):0≤GJ ins t op A B C x∧GJ ins t op A B C x<4294967296:=by
 unfold GJ
 split
 ·exact HO _
 ·split
  ·exact HO _
  ·split
   ·exact HO _
   ·split
    ·exact HO _
    ·split
     ·split
      ·exact DJ hi
      ·omega
     ·split
      ·exact HO _
      ·omega
theorem VG {ins:List Int} {t op:Int} {A B C:Nat} {x:ST} (hi:F4 ins) (hB:B≤255) (hC:C≤255) (hx:x.r.length=8∧F4 x.r):(Cv ins t op A B C x).2.2.r.length=8∧F4 (Cv ins t op A B C x).2.2.r:=by
 unfold Cv
 split
 ·exact hx
 ·have:=aP9 (t:=t) (op:=op) (A:=A) (x:=x) hi hB hC
  exact ⟨by simp [hx.1],Ip hx.2 this.1 this.2⟩
theorem nL {mem:List Int} {op:Int} {A B C:Nat} {x:ST} (hm:mem.length=16∧F4 mem) (hx:x.r.length=8∧F4 x.r):((Ca mem op A B C x).2.2.1.r.length=8∧F4 (Ca mem op A B C x).2.2.1.r)∧(Ca mem op A B C x).2.2.2.length=16∧F4 (Ca mem op A B C x).2.2.2:=by
 unfold Ca
 split
 ·exact ⟨hx,hm⟩
 ·split
  ·exact ⟨⟨by simp [hx.1],Ip hx.2 (DJ hm.2).1 (DJ hm.2).2⟩,hm⟩
  ·exact ⟨hx,by simp [hm.1],Ip hm.2 (DJ hx.2).1 (DJ hx.2).2⟩
structure Reg (op:Int) (A B C:Nat):Prop where
 o:0≤op∧op≤17
 m:A≤255∧B≤255∧C≤255
 a:(CU op).1=true→A<8
 b:(CU op).2.1=true→B<8
 c:(CU op).2.2=true→C<8
theorem HK {l:List ST} {i:Nat} {x:ST} (h:∀ y∈l,y.r.length=8∧F4 y.r) (hx:x.r.length=8∧F4 x.r):∀ y∈l.set i x,y.r.length=8∧F4 y.r:=fun y hy=>(List.mem_or_eq_of_mem_set hy).elim (h y) (fun e=>by subst e;exact hx)
def TS (n:Int):Prop:=0≤n∧n<4294967296
theorem Wr.mono {h:AH} {I J:Nat→Prop} {h':AH} (x:Wr h I h') (s:∀ j,I j→J j):Wr h J h':=⟨x.next,x.lim,fun j hj hn=>x.get j hj (fun e=>hn (s j e))⟩
structure Kn where
 σ:Type
 T:Nat
 v:V
 R:σ→AH→(Nat→Prop)→Prop
 send:σ→Nat→Int→Int×σ
 recv:σ→Nat→Int×Int×σ
 change:σ→Int→Int×σ
 stop:σ→Int×σ
structure Kn.Go (k:Kn) (h:AH) (I:Nat→Prop) (q:k.σ) (h':AH) (I':Nat→Prop):Prop where
 w:Wr h I h'
 r:k.R q h' I'
 i:∀ j,I' j→I j∨h.next≤j
structure Kn.Ok (k:Kn):Prop where
 keep:∀ {q:k.σ} {h h':AH} {I J:Nat→Prop},k.R q h I→Wr h J h'→(∀ j,I j→¬ J j)→k.R q h' I
 low:∀ {q:k.σ} {h:AH} {I:Nat→Prop},k.R q h I→∀ j,I j→j<h.next
 send:∃ f,tp.meth k.T "Send"=some ⟨f,none⟩∧∀ (q:k.σ) (h:AH) (I:Nat→Prop) (i:Nat) (n:Int) (K:V→AH→Prop),k.R q h I→i≤255→TS n→(∀ h' I',k.Go h I (k.send q i n).2 h' I'→TS (k.send q i n).1→K (.i .u32 (k.send q i n).1) h')→Cq tp f [k.v,.i .i64 i,.i .u32 n] h K
 recv:∃ f,tp.meth k.T "Recv"=some ⟨f,none⟩∧∀ (q:k.σ) (h:AH) (I:Nat→Prop) (i:Nat) (K:V→AH→Prop),k.R q h I→i≤255→(∀ h' I',k.Go h I (k.recv q i).2.2 h' I'→TS (k.recv q i).1→TS (k.recv q i).2.1→K (.tup [.i .u32 (k.recv q i).1,.i .u32 (k.recv q i).2.1]) h')→Cq tp f [k.v,.i .i64 i] h K
 change:∃ f,tp.meth k.T "Change"=some ⟨f,none⟩∧∀ (q:k.σ) (h:AH) (I:Nat→Prop) (n:Int) (K:V→AH→Prop),k.R q h I→TS n→(∀ h' I',k.Go h I (k.change q n).2 h' I'→TS (k.change q n).1→K (.i .u32 (k.change q n).1) h')→Cq tp f [k.v,.i .u32 n] h K
 stop:∃ f,tp.meth k.T "StopAll"=some ⟨f,none⟩∧∀ (q:k.σ) (h:AH) (I:Nat→Prop) (K:V→AH→Prop),k.R q h I→(∀ h' I',k.Go h I (k.stop q).2 h' I'→TS (k.stop q).1→K (.i .u32 (k.stop q).1) h')→Cq tp f [k.v] h K
def Apart (pp tb lg:Nat) (w a f:V) (I:Nat→Prop):Prop:=∀ i,I i→i≠pp∧i≠tb∧i≠lg∧i≠Aq w∧i≠Aq a∧(AD f=true∨i≠Aq f)
def noK:Kn:=⟨Unit,91,.agg [],fun _ _ I=>∀ j,¬ I j,fun _ _ _=>(3,()),fun _ _=>(0,2,()),fun _ _=>(4,()),fun _=>(4,())⟩
theorem aFa:noK.Ok:=by
 have u0:TS 0:=⟨by decide,by decide⟩
 have u2:TS 2:=⟨by decide,by decide⟩
 have u3:TS 3:=⟨by decide,by decide⟩
 have u4:TS 4:=⟨by decide,by decide⟩
 refine ⟨fun r _ _=>r,fun r j e=>(r j e).elim,⟨_,LR,fun q h I i n K r _ _ kk=>?_⟩,⟨_,LQ,fun q h I i K r _ kk=>?_⟩,⟨_,Jp,fun q h I n K r _ kk=>?_⟩,⟨_,Id,fun q h I K r kk=>?_⟩⟩
 ·have f:=kk (h.alloc ⟨0,[[]]⟩) I ⟨Wr.refl.alloc,r,fun j e=>.inl e⟩ u3
  clear kk
  show Cq tp _ [.agg [],.i .i64 i,.i .u32 n] h K
  refine Ac fP (by simp [J6]) fun wf rp=>?_;unfold J6;simp (disch:=omega)only[go_sem, *]
  exact f
 ·have f:=kk (h.alloc ⟨0,[[]]⟩) I ⟨Wr.refl.alloc,r,fun j e=>.inl e⟩ u0 u2
  clear kk
  show Cq tp _ [.agg [],.i .i64 i] h K
  refine Ac fO (by simp [J5]) fun wf rp=>?_;unfold J5;simp (disch:=omega)only[go_sem, *]
  exact f
 ·have f:=kk (h.alloc ⟨0,[[]]⟩) I ⟨Wr.refl.alloc,r,fun j e=>.inl e⟩ u4
  clear kk
  show Cq tp _ [.agg [],.i .u32 n] h K
  refine Ac fN (by simp [J4]) fun wf rp=>?_;unfold J4;simp (disch:=omega)only[go_sem, *]
  exact f
 ·have f:=kk (h.alloc ⟨0,[[]]⟩) I ⟨Wr.refl.alloc,r,fun j e=>.inl e⟩ u4
  clear kk
  show Cq tp _ [.agg []] h K
  refine Ac fQ (by simp [J7]) fun wf rp=>?_;unfold J7;simp (disch:=omega)only[go_sem, *]
  exact f
end Go.Ab.T
namespace Go.Ab.T
open Go Go.Ab
set_option maxHeartbeats 8000000
@[go_sem] def KQ (B:List Int):List V:=[.fl 1 (B.map EB)]
@[go_sem] def KR (B:List Int):List V:=[.fl 1 (B.map Fh)]
structure SS (id:Nat) (L:List Int) (h h':AH) (r0:List V) (v1 v2:V) (Ps Is:List (List Int)) (j:Nat):Prop where
 up:Fi h id (Ak L j) h'
 jl:j≤L.length
 nx:h.next+3≤h'.next
 b0:h'.get h.next=some ⟨3,[r0]⟩
 b1:h'.get (h.next+1)=some ⟨2,[[.ns,.ns]]⟩
 b2:h'.get (h.next+2)=some ⟨2,[[v1,v2]]⟩
 s1:Sl (h.next+3) h' 1 v1 (Ps.map KQ)
 s2:Sl (h.next+3) h' 1 v2 (Is.map KR)
 dj:AD v1=true∨AD v2=true∨Aq v1≠Aq v2
section
variable {id j:Nat} {L:List Int} {h h' h2:AH} {r0:List V} {v1 v2 w:V} {Ps Is:List (List Int)}
theorem SS.tape (s:SS id L h h' r0 v1 v2 Ps Is j) (hid:id<h.next) {k:Nat} (hk:k≤L.length):SS id L h (h'.put id (Ak L k)) r0 v1 v2 Ps Is k:=by
 have o1:=Ay s.s1
 have o2:=Ay s.s2
 exact ⟨BS s.up,hk,s.nx,by rw [Ad,Af (by omega)];exact s.b0,by rw [Ad,Af (by omega)];exact s.b1,by rw [Ad,Af (by omega)];exact s.b2,
  AI s.s1 _ _ (o1.imp (fun z=>z) (fun z=>by omega)),AI s.s2 _ _ (o2.imp (fun z=>z) (fun z=>by omega)),s.dj⟩
theorem SS.ext (s:SS id L h h' r0 v1 v2 Ps Is j) (hid:id<h.next) (x:Au h' h2):SS id L h h2 r0 v1 v2 Ps Is j:=by
 have n:=s.nx
 have m:=x.next
 exact ⟨R6 s.up hid x,s.jl,by omega,(x.get _ (by omega)).trans s.b0,(x.get _ (by omega)).trans s.b1,(x.get _ (by omega)).trans s.b2,s.s1.ext x,s.s2.ext x,s.dj⟩
theorem RZ {b sz:Nat} {v:V} {R:List (List V)} (s:Sl b h sz v R):AD v=true∨Aq v<h.next:=by
 rcases s with ⟨hv,_⟩ | ⟨i,el,cap,cs,rfl,_,_,_,_,h1,_⟩
 ·rcases hv with rfl | rfl<;>exact .inl rfl
 ·exact .inr h1
theorem MK {b:Nat} (g:Grown b h' v1 w h2):Wr h' (fun i=>AD v1=false∧i=Aq v1) h2:=⟨g.next,g.lim,fun i hi hn=>g.get i hi (by
 cases q:AD v1 with
 | true=>exact .inl rfl
 | false=>exact .inr (fun e=>hn ⟨q,e⟩))⟩
theorem oS {b:Nat} (g:Grown b h' v1 w h2) (l2:AD v2=true∨Aq v2<h'.next) (d:AD v1=true∨AD v2=true∨Aq v1≠Aq v2):AD w=true∨AD v2=true∨Aq w≠Aq v2:=by
 rcases g.own with q | ⟨q,e⟩ | q
 ·exact .inl q
 ·rcases d with d | d | d
  ·rw [q] at d;cases d
  ·exact .inr (.inl d)
  ·exact .inr (.inr (by rw [e];exact d))
 ·exact .inr (l2.imp (fun z=>z) (fun z=>by omega))
theorem SS.app1 {B:List Int} (s:SS id L h h' r0 v1 v2 Ps Is j) (hid:id<h.next) (g:Grown (h.next+3) h' v1 w h2) (sw:Sl (h.next+3) h2 1 w ((Ps++[B]).map KQ)):SS id L h (h2.put (h.next+2) ⟨2,[[w,v2]]⟩) r0 w v2 (Ps++[B]) Is j:=by
 have n:=s.nx
 have m:=g.next
 have o1:=Ay s.s1
 have o2:=Ay s.s2
 have ow:=Ay sw
 have far:∀ i,i<h.next+3→h2.get i=h'.get i:=fun i hi=>g.get i (by omega) (o1.imp (fun z=>z) (fun z=>by omega))
 refine ⟨Ks (Dk s.up hid g (o1.imp (fun z=>z) (fun z=>by omega))) (by omega) hid,s.jl,by rw [Ai];omega, ?_, ?_,by rw [Ad,Aw rfl],AI sw _ _ (ow.imp (fun z=>z) (fun z=>by omega)),AI (CB s.s2 (MK g) ?_) _ _ (o2.imp (fun z=>z) (fun z=>by omega)),oS g (RZ s.s2) s.dj⟩
 ·rw [Ad,Af (by omega),far _ (by omega)];exact s.b0
 ·rw [Ad,Af (by omega),far _ (by omega)];exact s.b1
 ·rcases s.dj with d | d | d
  ·exact .inr (fun e=>by rw [e.1] at d;cases d)
  ·exact .inl d
  ·exact .inr (fun e=>d e.2.symm)
theorem SS.app2 {B:List Int} (s:SS id L h h' r0 v1 v2 Ps Is j) (hid:id<h.next) (g:Grown (h.next+3) h' v2 w h2) (sw:Sl (h.next+3) h2 1 w ((Is++[B]).map KR)):SS id L h (h2.put (h.next+2) ⟨2,[[v1,w]]⟩) r0 v1 w Ps (Is++[B]) j:=by
 have n:=s.nx
 have m:=g.next
 have o1:=Ay s.s1
 have o2:=Ay s.s2
 have ow:=Ay sw
 have far:∀ i,i<h.next+3→h2.get i=h'.get i:=fun i hi=>g.get i (by omega) (o2.imp (fun z=>z) (fun z=>by omega))
 have d2:AD v2=true∨AD v1=true∨Aq v2≠Aq v1:=by
  rcases s.dj with d | d | d
  ·exact .inr (.inl d)
  ·exact .inl d
  ·exact .inr (.inr (Ne.symm d))
 refine ⟨Ks (Dk s.up hid g (o2.imp (fun z=>z) (fun z=>by omega))) (by omega) hid,s.jl,by rw [Ai];omega, ?_, ?_,by rw [Ad,Aw rfl],AI (CB s.s1 (MK g) ?_) _ _ (o1.imp (fun z=>z) (fun z=>by omega)),AI sw _ _ (ow.imp (fun z=>z) (fun z=>by omega)), ?_⟩
 ·rw [Ad,Af (by omega),far _ (by omega)];exact s.b0
 ·rw [Ad,Af (by omega),far _ (by omega)];exact s.b1
 ·rcases d2 with d | d | d
  ·exact .inr (fun e=>by rw [e.1] at d;cases d)
  ·exact .inl d
  ·exact .inr (fun e=>d e.2.symm)
 ·rcases oS g (RZ s.s1) d2 with d | d | d
  ·exact .inr (.inl d)
  ·exact .inl d
  ·exact .inr (.inr (Ne.symm d))
theorem SS.low {b:Nat} (s:SS id L h h' r0 v1 v2 Ps Is j) (hid:id<h.next) (hb:h.next+3≤b) (l1:AD v1=true∨Aq v1<b) (l2:AD v2=true∨Aq v2<b) (n:h'.next≤h2.next) (lm:h2.lim=h'.lim) (g:∀ i,i<b→h2.get i=h'.get i):SS id L h h2 r0 v1 v2 Ps Is j:=by
 have x:Wr h' (b≤·) h2:=⟨n,lm,fun i _ hn=>g i (by omega)⟩
 have nx:=s.nx
 have up:=s.up
 have un:=up.next
 exact ⟨⟨by omega,lm.trans up.lim,(g _ (by omega)).trans up.here,fun i hi hn=>(g i (by omega)).trans (up.get i hi hn)⟩,s.jl,by omega,(g _ (by omega)).trans s.b0,(g _ (by omega)).trans s.b1,(g _ (by omega)).trans s.b2,
  CB s.s1 x (l1.imp (fun z=>z) (fun z=>by omega)),CB s.s2 x (l2.imp (fun z=>z) (fun z=>by omega)),s.dj⟩
theorem aE1 {K : Ex → Env → AH → Prop} {e : Env} {n k i0 : Nat} (hid : id < h.next) (hlo : h.lim ≤ id) (hL : L.length < 4000000000) (s : SS id L h h' r0 v1 v2 Ps Is j) (hn : n ≤ 20)
    (e0:e 0=.p id 0 0) (e3:e 3=.p h.next 0 0) (e4:e 4=.p (h.next+1) 0 0) (e5:e 5=.p (h.next+2) 0 0) (e7:e 7=.ns) (e8:e 8=.i .i64 n) (e11:e 11=.i .i64 k) (e12:e 12=.i .i64 i0)
    (kk:∀ e' h' l j,e' 0=.p id 0 0→e' 3=.p h.next 0 0→e' 4=.p (h.next+1) 0 0→e' 5=.p (h.next+2) 0 0→e' 7=.fl 1 (l.map Fh)→e' 11=.i .i64 k→e' 12=.i .i64 i0→SS id L h h' r0 v1 v2 Ps Is j→F4 l→l.length≤20→K (.ex 2) e' h'):ZC tp (.loop KG) e h' K:=by
 have l1:=RZ s.s1
 have l2:=RZ s.s2
 have nx:=s.nx
 have fz : ∀ {e : Env} {hh : AH} {l : List Int} {u : V} {j : Nat}, h'.next ≤ hh.next → SS id L h hh r0 v1 v2 Ps Is j → Sl h'.next hh 1 u (l.map Fh) → l.length ≤ 20 → e 0 = .p id 0 0 → e 3 = .p h.next 0 0 → e 4 = .p (h.next + 1) 0 0 → e 5 = .p (h.next + 2) 0 0 → e 7 = u → e 8 = .i .i64 0 → e 11 = .i .i64 k → e 12 = .i .i64 i0 →
     (∀ e' h2,e' 0=.p id 0 0→e' 3=.p h.next 0 0→e' 4=.p (h.next+1) 0 0→e' 5=.p (h.next+2) 0 0→e' 7=.fl 1 (l.map Fh)→e' 8=.i .i64 0→e' 11=.i .i64 k→e' 12=.i .i64 i0→h'.next≤h2.next→SS id L h h2 r0 v1 v2 Ps Is j→ZC tp (.loop KG) e' h2 K)→ZC tp (.loop KG) e hh K:=by
  intro e hh l u j hn s su hl e0 e3 e4 e5 e7 e8 e11 e12 z
  obtain ⟨q,hq,hf⟩:∃ q,h'.next≤q∧CD (·=q) hh hh.next u (.fl 1 (l.map Fh)):=by
   cases hz:AD u with
   | true=>
    refine ⟨h'.next,Nat.le_refl _, ?_⟩
    rcases su with ⟨a,b⟩ | ⟨_,_,_,_,rfl,_⟩
    ·rw [b];rcases a with rfl | rfl
     ·exact .ns _ _
     ·exact .e0 _ _
    ·cases hz
   | false=>
    have o:=(Ay su).resolve_left (by rw [hz];decide)
    exact ⟨Aq u,o,Sl.froze su (fun _=>rfl) rfl (by omega)⟩
  refine aC6 [0,3,4,5,7,8,11,12] 7 q (.fl 1 (l.map Fh)) (by simp) (by rw [e7];exact hf) (fun t ht hne=>?_) ?_
  ·simp only [List.mem_cons,List.not_mem_nil,or_false] at ht
   rcases ht with rfl | rfl | rfl | rfl | rfl | rfl | rfl | rfl
   ·rw [e0];exact .p _ _ _ _ (by omega)
   ·rw [e3];exact .p _ _ _ _ (by omega)
   ·rw [e4];exact .p _ _ _ _ (by omega)
   ·rw [e5];exact .p _ _ _ _ (by omega)
   ·exact absurd rfl hne
   ·rw [e8];exact .z _ _ (.i _ _)
   ·rw [e11];exact .z _ _ (.i _ _)
   ·rw [e12];exact .z _ _ (.i _ _)
  ·intro e2 h7 hk
   have k:=fun t ht hne=>hk t ht hne
   exact z e2 _ ((k 0 (by simp) (by decide)).trans e0) ((k 3 (by simp) (by decide)).trans e3) ((k 4 (by simp) (by decide)).trans e4) ((k 5 (by simp) (by decide)).trans e5) h7 ((k 8 (by simp) (by decide)).trans e8) ((k 11 (by simp) (by decide)).trans e11) ((k 12 (by simp) (by decide)).trans e12) hn (s.low hid nx l1 l2 (Nat.le_refl _) rfl (fun i hi=>by rw [BL,Af (by omega)]))
 have main:∀ {e:Env} {hh:AH} {n j:Nat} {l:List Int} {u:V},h'.next≤hh.next→SS id L h hh r0 v1 v2 Ps Is j→l.length+n≤20→F4 l→e 0=.p id 0 0→e 3=.p h.next 0 0→e 4=.p (h.next+1) 0 0→e 5=.p (h.next+2) 0 0→e 7=u→e 8=.i .i64 n→e 11=.i .i64 k→e 12=.i .i64 i0→(n=0→u=.fl 1 (l.map Fh))→(n≠0→Sl h'.next hh 1 u (l.map Fh))→ZC tp (.loop KG) e hh K:=by
  intro e hh n j l u g1 g2 g3 g4 g5 g6 g7 g8 g9 g10 g11 g12 g13 g14
  refine Ah (fun n' e hh=>∃ (i j:Nat) (l:List Int) (u:V),n'=i∧h'.next≤hh.next∧SS id L h hh r0 v1 v2 Ps Is j∧l.length+i≤20∧F4 l∧e 0=.p id 0 0∧e 3=.p h.next 0 0∧e 4=.p (h.next+1) 0 0∧e 5=.p (h.next+2) 0 0∧e 7=u∧e 8=.i .i64 i∧e 11=.i .i64 k∧e 12=.i .i64 i0∧(i=0→u=.fl 1 (l.map Fh))∧(i≠0→Sl h'.next hh 1 u (l.map Fh))) ?_ _ _ _ ⟨n,j,l,u,rfl,g1,g2,g3,g4,g5,g6,g7,g8,g9,g10,g11,g12,g13,g14⟩
  clear g1 g2 g3 g4 g5 g6 g7 g8 g9 g10 g11 g12 g13 g14 e0 e3 e4 e5 e7 e8 e11 e12 e s
  rintro n' e hh ⟨i,j,l,u,rfl,hnx,s,hl,hlu,e0,e3,e4,e5,e7,e8,e11,e12,z0,z1⟩ ih
  have up:=s.up
  have un:=up.next
  have ul:=up.lim
  have uh:=up.here
  have jl:=s.jl
  rw [An KG.eq_1]
  simp (disch:=omega)only[go_sem, *]
  refine Aa (fun hc=>?_) (fun hc=>?_)
  ·have su:=z1 (by omega)
   have so:=Ay su
   clear z0 z1 up
   simp (disch:=omega)only[go_sem, *]
   refine AC uh jl hL (by omega) ?_
   intro v j2 h0 h1 h2 hj2
   have s2:=s.tape hid hj2
   have su2:=AI su id (Ak L j2) (so.imp (fun z=>z) (fun z=>by omega))
   simp (disch:=omega)only[go_sem, *]
   refine Az (N:=[Fh (IntKind.wrap .u32 v)]) (su2.alloc _) ?_ ?_ ?_ ?_
   ·simp only [go_sem];omega
   ·simp only [go_sem];omega
   ·simp;omega
   intro w h4 s4 g4
   have n4:=g4.next
   have l4:=g4.lim
   simp only [go_sem] at n4 l4
   have s5:SS id L h h4 r0 v1 v2 Ps Is j2:=s2.low hid nx l1 l2 (by rw [Ai];omega) (by rw [DK];omega) (fun i hi=>by rw [g4.get i (by simp only [go_sem];omega) (so.imp (fun z=>z) (fun z=>by omega)),AO,Af (by rw [Ai];omega)];rfl)
   have s6:Sl h'.next h4 1 w ((l++[IntKind.wrap .u32 v]).map Fh):=by rw [List.map_append];exact s4
   have hu:F4 (l++[IntKind.wrap .u32 v]):=fun z hz=>(List.mem_append.1 hz).elim (hlu z) (fun e=>by rw [List.mem_singleton.1 e];exact HO v)
   have hl2:(l++[IntKind.wrap .u32 v]).length=l.length+1:=by simp
   clear s4 g4 su2 s2 kk
   simp (disch:=omega)only[go_sem, *]
   by_cases hlast:n'=1
   ·subst hlast
    refine fz (u:=w) (l:=l++[IntKind.wrap .u32 v]) (j:=j2) (by omega) s5 s6 (by omega) ?_ ?_ ?_ ?_ ?_ ?_ ?_ ?_ ?_
    all_goals first | (intro e' hz f0 f3 f4 f5 f7 f8 f11 f12 fn fs;exact ih 0 e' hz (by omega) ⟨0,j2,_,_,rfl,fn,fs,by omega,hu,f0,f3,f4,f5,f7,f8,f11,f12,fun _=>rfl,fun q=>absurd rfl q⟩) | simp (disch:=omega)only[go_sem, *]
   ·refine ih _ _ _ ?_ ⟨n' - 1,j2,l++[IntKind.wrap .u32 v],w,rfl, ?_,s5, ?_,hu, ?_⟩
    ·omega
    ·omega
    ·omega
    ·clear ih fz
     simp (disch:=omega)only[go_sem, *]
     ((repeat' refine And.intro ?_ ?_)<;>first | omega | assumption | ((congr 1;omega)) | ((intro _;exact s6)) | ((intro _;trivial)) | ((intro q;exfalso;omega)))
  ·obtain rfl:n'=0:=by omega
   obtain rfl:=z0 rfl
   clear ih fz z1 z0
   simp (disch:=omega)only[go_sem, *]
   refine kk _ hh l j ?_ ?_ ?_ ?_ ?_ ?_ ?_ s hlu (by omega)
   all_goals (clear kk;simp (disch:=omega)only[go_sem, *])
 by_cases hz:n=0
 ·subst hz
  refine fz (u:=.ns) (l:=[]) (j:=j) (Nat.le_refl _) s (Sl.nil _ _ _) (by simp) e0 e3 e4 e5 e7 e8 e11 e12 ?_
  intro e' h2 f0 f3 f4 f5 f7 f8 f11 f12 fn fs
  exact main fn fs (by simp) (fun z hz=>by cases hz) f0 f3 f4 f5 rfl f8 f11 f12 (fun _=>f7) (fun q=>absurd rfl q)
 ·exact main (u:=.ns) (l:=[]) (Nat.le_refl _) s (by simp;omega) (fun z hz=>by cases hz) e0 e3 e4 e5 e7 e8 e11 e12 (fun q=>absurd q hz) (fun _=>Sl.nil _ _ _)
structure Scr (C:Ao) (Ps Is:List (List Int)):Prop where
 p:Ps.length=C.parts.length
 i:Is.length=C.parts.length
 py:∀ B∈Ps,ZO B∧B.length≤100
 iu:∀ l∈Is,F4 l∧l.length≤20
theorem QM {C : Ao} {k : Nat} {K : V → AH → Prop} (hg : h.get id = some (Ak L k)) (hk : k ≤ L.length) (hL : L.length < 4000000000) (hlo : h.lim ≤ id) (hch : C.chans.length ≤ 100) (hpl : C.parts.length ≤ 100)
    (kk:∀ Ps Is j,Scr C Ps Is→j≤L.length→K (.agg [.fl 1 (Ps.map KQ),.fl 1 (Is.map KR)]) (h.put id (Ak L j))):Cq tp gE [.p id 0 0,.agg C.enc] h K:=by
 refine EO aQo (by simp [YL]) hg fun hlm hid rp=>?_
 unfold YL
 have pe:=fun {h:AH} {k:Nat} {K:V→AH→Prop} {p:Int} hg hk hlo kk=>Zp (C:=C) (h:=h) (id:=id) (k:=k) (K:=K) (p:=p) hg hk hL hlo hch kk
 simp only [Ao.enc] at pe ⊢
 simp (disch:=omega)only[go_sem, *]
 refine Ah (fun n' e hh=>∃ (i j:Nat) (v1 v2:V) (Ps Is:List (List Int)),n'=C.parts.length - i∧SS id L h hh [.fl 11 (C.parts.map Part.enc),.fl 6 (C.chans.map A1.enc),.fl 1 (C.tables.map Tab.enc)] v1 v2 Ps Is j∧Ps.length=i∧Is.length=i∧(∀ B∈Ps,ZO B∧B.length≤100)∧(∀ l∈Is,F4 l∧l.length≤20)∧i≤C.parts.length∧e 0=.p id 0 0∧e 3=.p h.next 0 0∧e 4=.p (h.next+1) 0 0∧e 5=.p (h.next+2) 0 0∧e 11=.i .i64 C.parts.length∧e 12=.i .i64 i) ?_ _ _ _ ⟨0,k,.ns,.ns,[],[],rfl, ?_⟩
 ·rintro n' e hh ⟨i,j,v1,v2,Ps,Is,rfl,s,hp,hi,hPs,hIs,hic,e0,e3,e4,e5,e11,e12⟩ ih
  have up:=s.up
  have un:=up.next
  have ul:=up.lim
  have uh:=up.here
  have jl:=s.jl
  have nx:=s.nx
  have b0:=s.b0
  have b2:=s.b2
  have hsv:=Sl.sameV s.s1
  obtain ⟨_,_,_,_,_,_,_,sc1,sc2⟩:=s.s1.facts
  obtain ⟨_,_,_,_,_,_,_,sd1,sd2⟩:=s.s2.facts
  rw [An nU.eq_1]
  simp (disch:=omega)only[go_sem, *]
  refine Aa (fun hc=>?_) (fun hc=>?_)
  ·clear up kk
   simp (disch:=omega)only[go_sem, *]
   refine pe uh jl (by omega) ?_
   intro B j2 hB hBl hj2
   have s2:=s.tape hid hj2
   have o1:=Ay s2.s1
   simp (disch:=omega)only[go_sem, *]
   refine Az (N:=[KQ B]) (s2.s1.alloc _) ?_ ?_ ?_ ?_
   ·simp only [go_sem];omega
   ·simp only [go_sem];omega
   ·simp;omega
   intro w1 h4 s4 g4
   have s3:=(s2.ext (h2:=((hh.put id (Ak L j2)).alloc ⟨1,[KQ B]⟩)) hid ((Au.refl _).alloc _)).app1 (B:=B) hid g4 (by rw [List.map_append];exact s4)
   have b4:=g4.get (h.next+2) (by simp only [go_sem];omega) (o1.imp (fun z=>z) (fun z=>by omega))
   have n4:=g4.next
   have l4:=g4.lim
   have c1:=g4.cell
   have c2:=g4.cells
   simp (disch:=omega)only[go_sem, *] at b4 n4 l4
   have n3:hh.next+1≤(h4.put (h.next+2) ⟨2,[[w1,v2]]⟩).next:=n4
   clear s4 g4 s2 s hsv sc1 sc2 uh jl
   simp (disch:=omega)only[go_sem, *]
   generalize h4.put (h.next+2) ⟨2,[[w1,v2]]⟩=h5 at s3 n3 ⊢
   clear b4 n4 l4 c1 c2 b0 b2
   have u5:=s3.up
   have l5:=u5.lim
   have uh:=u5.here
   refine AC uh s3.jl hL (by omega) ?_
   intro v j3 h30 h31 h32 hj3
   have s6:=s3.tape hid hj3
   obtain ⟨n,rfl⟩:∃ n:Nat,v=n:=⟨v.toNat,by omega⟩
   clear u5 uh s3
   simp (disch:=omega)only[go_sem, *]
   refine aE1 (n:=n) (k:=C.parts.length) (i0:=i) hid hlo hL s6 (by omega) ?_ ?_ ?_ ?_ ?_ ?_ ?_ ?_ ?_
   rotate_right 1
   ·intro e' h7 l j7 f0 f3 f4 f5 f7 f11 f12 s7 hl hll
    have u7:=s7.up
    have l7:=u7.lim
    have n7:=s7.nx
    have b2:=s7.b2
    have o2:=Ay s7.s2
    clear s6 pe u7 e0 e3 e4 e5 e11 e12
    simp (disch:=omega)only[go_sem, *]
    refine Az (N:=[KR l]) (s7.s2.alloc _) ?_ ?_ ?_ ?_
    ·simp only [go_sem];omega
    ·simp only [go_sem];omega
    ·simp;omega
    intro w2 h8 s8 g8
    have s9:=(s7.ext (h2:=(h7.alloc ⟨1,[KR l]⟩)) hid ((Au.refl _).alloc _)).app2 (B:=l) hid g8 (by rw [List.map_append];exact s8)
    have b8:=g8.get (h.next+2) (by simp only [go_sem];omega) (o2.imp (fun z=>z) (fun z=>by omega))
    have l8:=g8.lim
    have c1:=g8.cell
    have c2:=g8.cells
    simp (disch:=omega)only[go_sem, *] at b8 l8
    have hP2:∀ x∈Ps++[B],ZO x∧x.length≤100:=fun x hx=>(List.mem_append.1 hx).elim (hPs x) (fun e=>by rw [List.mem_singleton.1 e];exact ⟨hB,hBl⟩)
    have hI2:∀ x∈Is++[l],F4 x∧x.length≤20:=fun x hx=>(List.mem_append.1 hx).elim (hIs x) (fun e=>by rw [List.mem_singleton.1 e];exact ⟨hl,hll⟩)
    clear s8 g8 s7
    simp (disch:=omega)only[go_sem, *]
    refine ih _ _ _ ?_ ⟨i+1,j7,w1,w2,Ps++[B],Is++[l],rfl,s9,by simp [hp],by simp [hi],hP2,hI2,by omega, ?_⟩
    ·omega
    ·clear ih
     simp (disch:=omega)only[go_sem, *]
   all_goals simp (disch:=omega)only[go_sem, *]
  ·obtain rfl:i=C.parts.length:=by omega
   have b1:=s.b1
   have s10:=AI s.s1 (h.next+1) ⟨2,[[v1,v2]]⟩ ((Ay s.s1).imp (fun z=>z) (fun z=>by omega))
   have s20:=AI s.s2 (h.next+1) ⟨2,[[v1,v2]]⟩ ((Ay s.s2).imp (fun z=>z) (fun z=>by omega))
   simp (disch:=omega)only[go_sem, *]
   exact ⟨.agg [.fl 1 (Ps.map KQ),.fl 1 (Is.map KR)],j,.agg _ _ _ (.cons _ _ _ _ _ (Sl.frzb (Sl.weak s10 (by omega)) (fun _=>rfl) (by omega)) (.cons _ _ _ _ _ (Sl.frzb (Sl.weak s20 (by omega)) (fun _=>rfl) (by omega)) (.nil _))),Ks up (by omega) hid,kk Ps Is j ⟨hp,hi,hPs,hIs⟩ jl⟩
 ·have s0:SS id L h (((h.alloc ⟨3,[[.fl 11 (C.parts.map Part.enc),.fl 6 (C.chans.map A1.enc),.fl 1 (C.tables.map Tab.enc)]]⟩).alloc ⟨2,[[.ns,.ns]]⟩).alloc ⟨2,[[.ns,.ns]]⟩) [.fl 11 (C.parts.map Part.enc),.fl 6 (C.chans.map A1.enc),.fl 1 (C.tables.map Tab.enc)] .ns .ns [] [] k:=by
   refine ⟨Bb (Bb (Bb (Fi.same hg) hid) hid) hid,hk,Nat.le_refl _, ?_, ?_, ?_,Sl.nil _ _ _,Sl.nil _ _ _,.inl rfl⟩
   ·simp (disch:=omega)only[go_sem, *]
   ·simp (disch:=omega)only[go_sem, *]
   ·simp (disch:=omega)only[go_sem, *]
  clear kk pe
  simp (disch:=omega)only[go_sem, *]
  ((repeat' refine And.intro ?_ ?_)<;>first | omega | assumption | ((intro x hx;cases hx)))
end
end Go.Ab.T
namespace Go.Ab.T
open Go Go.Ab
set_option maxHeartbeats 8000000
def DG (c:PC) (k:Nat) (fr:Bool):Bool:=decide (k<c.c.chans.length)&&if fr=true then decide ((nth c.c.chans k).src=c.p) else decide ((nth c.c.chans k).dst=c.p)
def B8 (c:PC) (k:Kn) (q:k.σ) (op:Int) (A B:Nat) (x:ST):Int×Int×ST×k.σ:=
 if op=15 then ((k.change q (nth x.r A)).1,0,⟨x.r.set 0 (k.change q (nth x.r A)).1,x.pc⟩,(k.change q (nth x.r A)).2)
 else if op=16 then ((k.stop q).1,0,⟨x.r.set 0 (k.stop q).1,x.pc⟩,(k.stop q).2)
 else if DG c A (decide (op=11))=false then (0,5,x,q)
 else if op=11 then (nth x.r B,0,⟨x.r.set 0 (k.send q A (nth x.r B)).1,x.pc⟩,(k.send q A (nth x.r B)).2)
 else ((k.recv q A).1,0,⟨(if (k.recv q A).2.1=2 then x.r else x.r.set B (k.recv q A).1).set 0 (k.recv q A).2.1,x.pc⟩,(k.recv q A).2.2)
section
variable {b pp tb lg i A B C:Nat} {h:AH} {w a f:V} {c:PC} {s:PS} {t op:Int} {K:V→AH→Prop} {k:Kn} {q:k.σ} {I:Nat→Prop}
theorem IR {fr:Bool} (gp:h.get pp=some ⟨26,[AF c tb lg a s.mem s.clk]⟩) (hpn:pp<h.next) (hlo:h.lim≤h.next) (h3:s.mem.length=16) (kk:∀ h',Au h h'→K (.b (DG c A fr)) h'):Cq tp W8 [.p pp 0 0,.i .i64 A,.b fr] h K:=by
 have f1:=AF.f1 (c:=c) (tb:=tb) (lg:=lg) (a:=a) (mem:=s.mem) (clk:=s.clk)
 have f3:=AF.f3 (c:=c) (tb:=tb) (lg:=lg) (a:=a) (mem:=s.mem) (clk:=s.clk)
 have rl:=AF.len (c:=c) (tb:=tb) (lg:=lg) (a:=a) (clk:=s.clk) h3
 by_cases hA:A<c.c.chans.length
 ·have z2:¬ (c.c.chans.length:Int)≤A:=by omega
  have X:=fun kb=>kk ((h.alloc ⟨6,[[.i .i64 0,.i .i64 0,.b false,.i .i64 0,.i .u32 0,.i .i64 0]]⟩).put h.next kb) (by (repeat (first | exact Au.refl _ | refine Au.alloc ?_ _ | (refine Au.put ?_ _ _ ?_;rotate_left;(first | omega | (simp only [Ag,Ai];omega))))))
  cases fr
  ·have e:DG c A false=decide ((nth c.c.chans A).dst=c.p):=by unfold DG;rw [decide_eq_true hA,Bool.true_and];rfl
   rw [e] at X
   clear kk e
   refine Ac LD (by simp [FG]) fun wf rp=>?_;unfold FG;simp (disch:=omega)only[go_sem, *]
  ·have e:DG c A true=decide ((nth c.c.chans A).src=c.p):=by unfold DG;rw [decide_eq_true hA,Bool.true_and];rfl
   rw [e] at X
   clear kk e
   by_cases hz:(nth c.c.chans A).src=c.p
   ·rw [decide_eq_true hz] at X
    refine Ac LD (by simp [FG]) fun wf rp=>?_;unfold FG;simp (disch:=omega)only[go_sem, *]
   ·rw [decide_eq_false hz] at X
    refine Ac LD (by simp [FG]) fun wf rp=>?_;unfold FG;simp (disch:=omega)only[go_sem, *]
 ·have e:DG c A fr=false:=by unfold DG;rw [decide_eq_false hA,Bool.false_and]
  rw [e] at kk
  have z2:(c.c.chans.length:Int)≤A:=by omega
  have f:=kk h (Au.refl _)
  clear kk e
  refine Ac LD (by simp [FG]) fun wf rp=>?_;unfold FG;simp (disch:=omega)only[go_sem, *]
theorem EE {x:ST} {n:Int} {j:Nat} (hx:x.r.length=8∧F4 x.r) (h:TS n):(x.r.set j n).length=8∧F4 (x.r.set j n):=⟨by simp [hx.1],Ip hx.2 h.1 h.2⟩
theorem Vp {x:ST} (e:DG c A true=false):B8 c k q 11 A B x=(0,5,x,q):=by
 unfold B8
 rw [if_neg (by decide),if_neg (by decide),if_pos (show DG c A (decide ((11:Int)=11))=false from e)]
theorem Ss {x:ST} (e:DG c A false=false):B8 c k q 12 A B x=(0,5,x,q):=by
 unfold B8
 rw [if_neg (by decide),if_neg (by decide),if_pos (show DG c A (decide ((12:Int)=11))=false from e)]
theorem YF {s:PS} {i:Nat} (hi:i<s.all.length):({ s with all:=s.all.set i (nth s.all i) }:PS)=s:=by rw [BO hi,List.set_getElem_self]
theorem Yf {x:ST} (hr:x.r.length=8) (v:Int):(ST.enc x).set 0 (.i .u32 v)=ST.enc ⟨x.r.set 0 v,x.pc⟩∧(ST.enc ⟨x.r.set 0 v,x.pc⟩).length=9∧(ST.enc ⟨x.r.set 0 v,x.pc⟩)[0]?=some (.i .u32 v):=by
 refine ⟨ST.setr hr (by decide),ST.len (by simp [hr]), ?_⟩
 rw [ST.reg (by simp [hr]) (by decide)]
 simp [nth,hr]
theorem dU (ok:k.Ok) (p:PA b h pp tb lg w a f c s) (hi:i<s.all.length) (g:Reg op A B C) (hop:op=11∨op=12∨op=15∨op=16) (r:k.R q h I) (dj:Apart pp tb lg w a f I)
    (kk:∀ h' I',Wr h (fun j=>j=Aq a∨I j) h'→k.R (B8 c k q op A B (nth s.all i)).2.2.2 h' I'→(∀ j,I' j→I j∨h.next≤j)→PA b h' pp tb lg w a f c { s with all:=s.all.set i (B8 c k q op A B (nth s.all i)).2.2.1 }→K (.tup [.i .u32 (B8 c k q op A B (nth s.all i)).1,.i .i64 (B8 c k q op A B (nth s.all i)).2.1]) h'):Cq tp Rx [.p pp 0 0,.agg [.i .i64 op,.i .i64 A,.i .i64 B,.i .i64 C],.p (Aq a) (CF a+i) 0,.ifc k.T k.v] h K:=by
 obtain ⟨ga,gb,gc⟩:=g.m
 obtain ⟨sg,sr,slt,slo,sat,set⟩:=CX p.sa hi
 have hlim:=p.lim
 have hpn:=p.np.1
 have hx:=p.l4 _ (AP hi)
 have he:=ST.len hx.1
 have m1:∀ n:Nat,n*1=n:=Nat.mul_one
 have X1:Au h (h.alloc ⟨4,[[.i .i64 op,.i .i64 A,.i .i64 B,.i .i64 C]]⟩):=by (repeat (first | exact Au.refl _ | refine Au.alloc ?_ _ | (refine Au.put ?_ _ _ ?_;rotate_left;(first | omega | (simp only [Ag,Ai];omega)))))
 have b1:(h.alloc ⟨4,[[.i .i64 op,.i .i64 A,.i .i64 B,.i .i64 C]]⟩).get h.next=some ⟨4,[[.i .i64 op,.i .i64 A,.i .i64 B,.i .i64 C]]⟩∧h.next<(h.alloc ⟨4,[[.i .i64 op,.i .i64 A,.i .i64 B,.i .i64 C]]⟩).next:=⟨by rw [AO,Aw rfl],by simp only [go_sem];omega⟩
 have rx:∀ {g:AH},Au h g→k.R q g I:=fun x=>ok.keep (J:=fun _=>False) r (Wr.ext Wr.refl x) (fun _ _ e=>e)
 have r1:=rx X1
 have p1:=p.ext X1
 have lw:=ok.low r
 have at2:∀ {g h2:AH} {I2:Nat→Prop} {q2:k.σ},Au h g→g.get h.next=some ⟨4,[[.i .i64 op,.i .i64 A,.i .i64 B,.i .i64 C]]⟩∧h.next<g.next→k.Go g I q2 h2 I2→PA b h2 pp tb lg w a f c s∧h2.get (Aq a)=some ⟨9,A3 h2 a⟩∧(A3 h2 a)[CF a+i]?=some (ST.enc (nth s.all i))∧h2.get h.next=some ⟨4,[[.i .i64 op,.i .i64 A,.i .i64 B,.i .i64 C]]⟩∧h2.lim≤Aq a∧∀ x,((A3 h2 a).set (CF a+i) x)[CF a+i]?=some x:=fun X gb go=>by
  have p2:=(p.ext X).same go.w dj
  have e:=CX p2.sa hi
  have l2:=p2.lim
  exact ⟨p2,e.g,e.r,(go.w.get h.next gb.2 (fun e=>Nat.lt_irrefl _ (lw _ e))).trans gb.1,by omega,fun x=>List.getElem?_set_self (by have:=e.r;rw [List.getElem?_eq_some_iff] at this;exact this.1)⟩
 have fin:∀ {g h2:AH} {I2:Nat→Prop} {q2:k.σ} {x':ST} {v fl:Int},Au h g→g.get h.next=some ⟨4,[[.i .i64 op,.i .i64 A,.i .i64 B,.i .i64 C]]⟩∧h.next<g.next→B8 c k q op A B (nth s.all i)=(v,fl,x',q2)→k.Go g I q2 h2 I2→(x'.r.length=8∧F4 x'.r)→K (.tup [.i .u32 v,.i .i64 fl]) (h2.put (Aq a) ⟨9,(A3 h2 a).set (CF a+i) (ST.enc x')⟩):=fun X gb e go hx'=>by
  have p2:=(at2 X gb go).1
  have z:=kk
  rw [e] at z
  have nx:=X.next
  refine z _ _ ?_ (ok.keep (J:=(·=Aq a)) go.r (Wr.refl.put (.inr rfl)) (fun j e1 e2=>?_)) (fun j e=>(go.i j e).imp (fun z=>z) (fun z=>by omega)) (p2.setA (Wr.refl.put (.inr rfl)) ((CX p2.sa hi).set _ (Au.refl _) _) (by simp) (HK p.l4 hx'))
  ·exact Wr.put (Wr.trans (Wr.ext Wr.refl X) go.w (fun j _ e=>.inr e)) (.inr (.inl rfl))
  ·rcases go.i j e1 with z | z
   ·exact (dj j z).2.2.2.2.1 e2
   ·omega
 clear set r
 rcases hop with rfl | rfl | rfl | rfl
 ·obtain ⟨f0,mf,sp⟩:=ok.send
  have hB:B<8:=g.b rfl
  have eB:=ST.reg hx.1 hB
  have hB8:B+1≤8+1:=by omega
  have gp1:=p1.gp
  have hpn1:=p1.np.1
  have ml:=p.l3
  have ll:h.lim≤(h.alloc ⟨4,[[.i .i64 11,.i .i64 A,.i .i64 B,.i .i64 C]]⟩).next:=by simp only [go_sem];omega
  have no:DG c A true=false→∀ g,Au h g→K (.tup [.i .u32 0,.i .i64 5]) g:=fun e g X=>by
   have z:=kk
   rw [Vp e] at z
   exact z g I (Wr.ext Wr.refl X) (rx X) (fun j e=>.inl e) (by rw [YF hi];exact p.ext X)
  clear kk
  refine Ac LC (by simp [FF]) fun wf rp=>?_;unfold FF;simp (disch:=omega)only[go_sem, *]
  refine IR gp1 hpn1 ll ml ?_
  intro h3 x3
  have X3:Au h h3:=X1.trans x3
  have b3:=b1.1
  rw [← x3.get h.next b1.2] at b3
  have n3:=x3.next
  have a3:=(X3.get _ slt).trans sg
  simp only [go_sem] at n3
  cases hc:DG c A true with
  | false=>
   have f:=no hc h3 X3
   clear no fin at2
   simp (disch:=omega)only[go_sem, *]
  | true=>
   clear no
   simp (disch:=omega)only[go_sem, *]
   refine sp q h3 I _ _ _ (rx X3) ga (DJ hx.2) ?_
   intro h2 I2 go u
   obtain ⟨-,k1,k2,k3,k4,k5⟩:=at2 X3 ⟨b3,by omega⟩ go
   have f:=fin (v:=nth (nth s.all i).r B) (fl:=0) (x':=⟨(nth s.all i).r.set 0 (k.send q A (nth (nth s.all i).r B)).1,(nth s.all i).pc⟩) X3 ⟨b3,by omega⟩ (by unfold B8;rw [if_neg (by decide),if_neg (by decide),if_neg (by rw [show decide ((11:Int)=11)=true from rfl,hc];decide),if_pos rfl]) go (EE hx u)
   obtain ⟨s0,s1,s2⟩:=Yf hx.1 (k.send q A (nth (nth s.all i).r B)).1
   clear fin at2 sp go
   simp (disch:=omega)only[go_sem, *]
 ·obtain ⟨f0,mf,sp⟩:=ok.recv
  have hB:B<8:=g.b rfl
  have hB8:B+1≤8+1:=by omega
  have gp1:=p1.gp
  have hpn1:=p1.np.1
  have ml:=p.l3
  have ll:h.lim≤(h.alloc ⟨4,[[.i .i64 12,.i .i64 A,.i .i64 B,.i .i64 C]]⟩).next:=by simp only [go_sem];omega
  have no:DG c A false=false→∀ g,Au h g→K (.tup [.i .u32 0,.i .i64 5]) g:=fun e g X=>by
   have z:=kk
   rw [Ss e] at z
   exact z g I (Wr.ext Wr.refl X) (rx X) (fun j e=>.inl e) (by rw [YF hi];exact p.ext X)
  clear kk
  refine Ac LC (by simp [FF]) fun wf rp=>?_;unfold FF;simp (disch:=omega)only[go_sem, *]
  refine IR gp1 hpn1 ll ml ?_
  intro h3 x3
  have X3:Au h h3:=X1.trans x3
  have b3:=b1.1
  rw [← x3.get h.next b1.2] at b3
  have n3:=x3.next
  have a3:=(X3.get _ slt).trans sg
  simp only [go_sem] at n3
  cases hc:DG c A false with
  | false=>
   have f:=no hc h3 X3
   clear no fin at2
   simp (disch:=omega)only[go_sem, *]
  | true=>
   clear no
   simp (disch:=omega)only[go_sem, *]
   refine sp q h3 I _ _ (rx X3) ga ?_
   intro h2 I2 go u u2
   obtain ⟨-,k1,k2,k3,k4,k5⟩:=at2 X3 ⟨b3,by omega⟩ go
   have ce:B8 c k q 12 A B (nth s.all i)=((k.recv q A).1,0,⟨(if (k.recv q A).2.1=2 then (nth s.all i).r else (nth s.all i).r.set B (k.recv q A).1).set 0 (k.recv q A).2.1,(nth s.all i).pc⟩,(k.recv q A).2.2):=by
    unfold B8
    rw [if_neg (by decide),if_neg (by decide),if_neg (by rw [show decide ((12:Int)=11)=false from rfl,hc];decide),if_neg (by decide)]
   by_cases hz:(k.recv q A).2.1=2
   ·rw [if_pos hz] at ce
    have f:=fin X3 ⟨b3,by omega⟩ ce go (EE hx u2)
    obtain ⟨s0,s1,s2⟩:=Yf hx.1 (k.recv q A).2.1
    rw [hz] at f s0 s1 s2
    clear fin at2 sp go ce
    simp (disch:=omega)only[go_sem, *]
   ·rw [if_neg hz] at ce
    have hx3:=EE (x:=nth s.all i) (j:=B) hx u
    have f:=fin X3 ⟨b3,by omega⟩ ce go (EE (x:=⟨(nth s.all i).r.set B (k.recv q A).1,(nth s.all i).pc⟩) hx3 u2)
    have s3:=ST.setr (v:=(k.recv q A).1) hx.1 hB
    have he3:=ST.len (x:=⟨(nth s.all i).r.set B (k.recv q A).1,(nth s.all i).pc⟩) hx3.1
    obtain ⟨s0,s1,s2⟩:=Yf (x:=⟨(nth s.all i).r.set B (k.recv q A).1,(nth s.all i).pc⟩) hx3.1 (k.recv q A).2.1
    clear fin at2 sp go ce
    simp (disch:=omega)only[go_sem, *]
 ·obtain ⟨f0,mf,sp⟩:=ok.change
  have hA:A<8:=g.a rfl
  have eA:=ST.reg hx.1 hA
  have hA8:A+1≤8+1:=by omega
  clear kk
  refine Ac LC (by simp [FF]) fun wf rp=>?_;unfold FF;simp (disch:=omega)only[go_sem, *]
  refine sp q _ I _ _ r1 (DJ hx.2) ?_
  intro h2 I2 go u
  obtain ⟨-,k1,k2,k3,k4,k5⟩:=at2 X1 b1 go
  have f:=fin (v:=(k.change q (nth (nth s.all i).r A)).1) (fl:=0) (x':=⟨(nth s.all i).r.set 0 (k.change q (nth (nth s.all i).r A)).1,(nth s.all i).pc⟩) X1 b1 (by unfold B8;rw [if_pos rfl]) go (EE hx u)
  obtain ⟨s0,s1,s2⟩:=Yf hx.1 (k.change q (nth (nth s.all i).r A)).1
  clear fin at2 sp go
  simp (disch:=omega)only[go_sem, *]
 ·obtain ⟨f0,mf,sp⟩:=ok.stop
  clear kk
  refine Ac LC (by simp [FF]) fun wf rp=>?_;unfold FF;simp (disch:=omega)only[go_sem, *]
  refine sp q _ I _ r1 ?_
  intro h2 I2 go u
  obtain ⟨-,k1,k2,k3,k4,k5⟩:=at2 X1 b1 go
  have f:=fin (v:=(k.stop q).1) (fl:=0) (x':=⟨(nth s.all i).r.set 0 (k.stop q).1,(nth s.all i).pc⟩) X1 b1 (by unfold B8;rw [if_neg (by decide),if_pos rfl]) go (EE hx u)
  obtain ⟨s0,s1,s2⟩:=Yf hx.1 (k.stop q).1
  clear fin at2 sp go
  simp (disch:=omega)only[go_sem, *]
end
end Go.Ab.T
namespace Go.Ab.T
open Go Go.Ab
set_option maxHeartbeats 8000000
def Gf (c:PC) (k:Kn) (q:k.σ) (s:PS) (t:Int) (i:Nat) (op:Int) (A B C:Nat):Int×Int×PS×k.σ:=
 if op=1∨op=2∨op=3∨op=4∨op=5∨op=13∨op=14 then ((Cv c.ins t op A B C (nth s.all i)).1,(Cv c.ins t op A B C (nth s.all i)).2.1,{ s with all:=s.all.set i (Cv c.ins t op A B C (nth s.all i)).2.2 },q)
 else if op=6∨op=7 then ((Ca s.mem op A B C (nth s.all i)).1,(Ca s.mem op A B C (nth s.all i)).2.1,{ s with all:=s.all.set i (Ca s.mem op A B C (nth s.all i)).2.2.1,mem:=(Ca s.mem op A B C (nth s.all i)).2.2.2 },q)
 else if op=8 then (0,0,{ s with all:=s.all.set i ⟨(nth s.all i).r,256*B+C⟩ },q)
 else if op=9 then (0,0,if nth (nth s.all i).r A=0 then { s with all:=s.all.set i ⟨(nth s.all i).r,256*B+C⟩ } else s,q)
 else if op=10 then (0,0,{ s with procs:=s.procs.set i { nth s.procs i with wake:=t+nth (nth s.all i).r A+1 } },q)
 else if op=17 then (0,0,{ s with procs:=s.procs.set i { nth s.procs i with ended:=true } },q)
 else if op=11∨op=12∨op=15∨op=16 then ((B8 c k q op A B (nth s.all i)).1,(B8 c k q op A B (nth s.all i)).2.1,{ s with all:=s.all.set i (B8 c k q op A B (nth s.all i)).2.2.1 },(B8 c k q op A B (nth s.all i)).2.2.2) else (0,0,s,q)
section
variable {b pp tb lg i A B C:Nat} {h:AH} {w a f:V} {c:PC} {s:PS} {t op:Int} {K:V→AH→Prop} {k:Kn} {q:k.σ} {I:Nat→Prop}
theorem aQa (ok:k.Ok) (p:PA b h pp tb lg w a f c s) (hi:i<s.all.length) (g:Reg op A B C) (r:k.R q h I) (dj:Apart pp tb lg w a f I) (hins:F4 c.ins) (hil:c.ins.length<4000000000) (ht:0≤t) (ht2:t<3000000000)
    (kk:∀ h' I',Wr h (fun j=>(j=pp∨j=Aq w∨j=Aq a)∨I j) h'→k.R (Gf c k q s t i op A B C).2.2.2 h' I'→(∀ j,I' j→I j∨h.next≤j)→PA b h' pp tb lg w a f c (Gf c k q s t i op A B C).2.2.1→K (.tup [.i .u32 (Gf c k q s t i op A B C).1,.i .i64 (Gf c k q s t i op A B C).2.1]) h'):Cq tp Rh [.p pp 0 0,.agg [.i .i64 op,.i .i64 A,.i .i64 B,.i .i64 C],.i .i64 i,.i .i64 t,.ifc k.T k.v] h K:=by
 obtain ⟨sg,sr,slt,slo,sat,set⟩:=CX p.sa hi
 have gp:=p.gp
 have hx:=p.l4 _ (AP hi)
 obtain ⟨ga,gb,gc⟩:=g.m
 obtain ⟨np1,np2,np3⟩:=p.np
 obtain ⟨bp1,bp2,bp3⟩:=p.bp
 have hlim:=p.lim
 have at0:=sat (A3 h a)
 have f6:=AF.f6 (c:=c) (tb:=tb) (lg:=lg) (a:=a) (mem:=s.mem) (clk:=s.clk)
 have f7:=AF.f7 (c:=c) (tb:=tb) (lg:=lg) (a:=a) (mem:=s.mem) (clk:=s.clk)
 have f1:=AF.f1 (c:=c) (tb:=tb) (lg:=lg) (a:=a) (mem:=s.mem) (clk:=s.clk)
 have rl:=AF.len (c:=c) (tb:=tb) (lg:=lg) (a:=a) (clk:=s.clk) p.l3
 have X1:Au h (h.alloc ⟨4,[[.i .i64 op,.i .i64 A,.i .i64 B,.i .i64 C]]⟩):=by (repeat (first | exact Au.refl _ | refine Au.alloc ?_ _ | (refine Au.put ?_ _ _ ?_;rotate_left;(first | omega | (simp only [Ag,Ai];omega)))))
 have p1:=p.ext X1
 have wr1:Wr h (fun j=>j=pp∨j=Aq w∨j=Aq a) (h.alloc ⟨4,[[.i .i64 op,.i .i64 A,.i .i64 B,.i .i64 C]]⟩):=Wr.refl.alloc
 have kk0:∀ {v fl:Int} {s':PS},Gf c k q s t i op A B C=(v,fl,s',q)→∀ h',Wr h (fun j=>j=pp∨j=Aq w∨j=Aq a) h'→PA b h' pp tb lg w a f c s'→K (.tup [.i .u32 v,.i .i64 fl]) h':=fun e h' x y=>by
  have z:=kk
  rw [e] at z
  exact z h' I (x.mono fun _ e=>.inl e) (ok.keep r x (fun j e1 e2=>by
   obtain ⟨d1,d2,d3,d4,d5,d6⟩:=dj j e1
   rcases e2 with e2 | e2 | e2
   ·exact d1 e2
   ·exact d4 e2
   ·exact d5 e2)) (fun j e=>.inl e) y
 have hop:(op=1∨op=2∨op=3∨op=4∨op=5∨op=13∨op=14)∨(op=6∨op=7)∨op=8∨op=9∨op=10∨op=17∨(op=11∨op=12∨op=15∨op=16)∨op=0:=by
  have:=g.o;omega
 rcases hop with hop | hop | rfl | rfl | rfl | rfl | hop | rfl
 ·have e:Gf c k q s t i op A B C=((Cv c.ins t op A B C (nth s.all i)).1,(Cv c.ins t op A B C (nth s.all i)).2.1,{ s with all:=s.all.set i (Cv c.ins t op A B C (nth s.all i)).2.2 },q):=if_pos hop
  replace kk:=kk0 e
  clear kk0
  have hA:A<8:=g.a (by rcases hop with rfl | rfl | rfl | rfl | rfl | rfl | rfl<;>rfl)
  have hB:op=2∨op=3∨op=4∨op=5→B<8∧C<8:=fun q=>⟨g.b (by rcases q with rfl | rfl | rfl | rfl<;>rfl),g.c (by rcases q with rfl | rfl | rfl | rfl<;>rfl)⟩
  have hcl:=VG (t:=t) (op:=op) (A:=A) hins gb gc hx
  clear set sr e
  rcases hop with rfl | rfl | rfl | rfl | rfl | rfl | rfl<;>(
   refine Ac EY (by simp [Ck]) fun wf rp=>?_;unfold Ck;simp (disch:=omega)only[go_sem, *]
   refine VF (t:=t) (by decide) hA hB gb gc p1.gp p.l3 p1.np.1 p1.sa hi p1.lim hx.1 ht hil (fun h' x' s'=>?_)
   have fin:=kk h' (wr1.trans x' (fun j _ e=>.inr (.inr e))) (p1.setA x' s' (by simp) (HK p.l4 hcl))
   clear kk x' s' p1 wr1 p
   simp (disch:=omega)only[go_sem, *])
 ·have e:Gf c k q s t i op A B C=((Ca s.mem op A B C (nth s.all i)).1,(Ca s.mem op A B C (nth s.all i)).2.1,{ s with all:=s.all.set i (Ca s.mem op A B C (nth s.all i)).2.2.1,mem:=(Ca s.mem op A B C (nth s.all i)).2.2.2 },q):=by
   unfold Gf;rw [if_neg (by omega),if_pos hop]
  replace kk:=kk0 e
  clear kk0
  have hA:A<8:=g.a (by rcases hop with rfl | rfl<;>rfl)
  have hB:B<8:=g.b (by rcases hop with rfl | rfl<;>rfl)
  have hwl:=nL (op:=op) (A:=A) (B:=B) (C:=C) ⟨p.l3,p.l5⟩ hx
  clear set sr e
  rcases hop with rfl | rfl<;>(
   refine Ac EY (by simp [Ck]) fun wf rp=>?_;unfold Ck;simp (disch:=omega)only[go_sem, *]
   refine nK (by decide) hA hB gc p1.gp p.l3 p1.np.1 p1.sa hi p1.lim bp1 p.da.1 hx.1 (DJ hx.2) (fun h' x' g' s'=>?_)
   have fin:=kk h' (wr1.trans x' (fun j _ e=>e.elim (fun e=>.inr (.inr e)) .inl)) (p1.setM x' g' s' (by simp) (HK p.l4 hwl.1) hwl.2.1 hwl.2.2)
   clear kk x' s' p1 wr1 p g'
   simp (disch:=omega)only[go_sem, *])
 ·have im:=Qi (x:=⟨8,A,B,C⟩) ⟨by simp;omega,by simp;omega,by simp;omega⟩
  have ei:SY ⟨8,A,B,C⟩=256*B+C:=rfl
  rw [ei] at im
  have sp:=fun v=>ST.setpc (v:=v) hx.1
  have he:=ST.len hx.1
  have e8:=ST.at8 hx.1
  have hle:h.lim≤Aq a:=by omega
  clear ei
  have e:Gf c k q s t i 8 A B C=(0,0,{ s with all:=s.all.set i ⟨(nth s.all i).r,256*B+C⟩ },q):=rfl
  replace kk:=kk0 e
  clear kk0
  have fin:=kk _ (wr1.put (.inr (.inr (.inr rfl)))) (p1.setA ((Wr.refl (I:=(·=Aq a))).put (.inr rfl)) (set _ X1 ⟨(nth s.all i).r,256*B+C⟩) (by simp) (HK p.l4 ⟨hx.1,hx.2⟩))
  clear kk p1 wr1 p set e X1
  refine Ac EY (by simp [Ck]) fun wf rp=>?_;unfold Ck;simp (disch:=omega)only[go_sem, *]
  refine Pf.go (im) (by simp only [go_sem]) fun _=>?_;simp (disch:=omega)only[go_sem, *]
 ·have im:=Qi (x:=⟨9,A,B,C⟩) ⟨by simp;omega,by simp;omega,by simp;omega⟩
  have ei:SY ⟨9,A,B,C⟩=256*B+C:=rfl
  rw [ei] at im
  have sp:=fun v=>ST.setpc (v:=v) hx.1
  have he:=ST.len hx.1
  have e8:=ST.at8 hx.1
  have hle:h.lim≤Aq a:=by omega
  clear ei
  have hA:A<8:=g.a rfl
  have eA:=ST.reg hx.1 hA
  have hA8:A≤8:=by omega
  have m1:∀ n:Nat,n*1=n:=Nat.mul_one
  have e:Gf c k q s t i 9 A B C=(0,0,if nth (nth s.all i).r A=0 then { s with all:=s.all.set i ⟨(nth s.all i).r,256*B+C⟩ } else s,q):=rfl
  replace kk:=kk0 e
  clear kk0
  by_cases hz:nth (nth s.all i).r A=0
  ·rw [if_pos hz] at kk
   have fin:=kk _ (wr1.put (.inr (.inr (.inr rfl)))) (p1.setA ((Wr.refl (I:=(·=Aq a))).put (.inr rfl)) (set _ X1 ⟨(nth s.all i).r,256*B+C⟩) (by simp) (HK p.l4 ⟨hx.1,hx.2⟩))
   clear kk p1 wr1 p set e X1
   refine Ac EY (by simp [Ck]) fun wf rp=>?_;unfold Ck;simp (disch:=omega)only[go_sem, *]
   refine Pf.go (im) (by simp only [go_sem]) fun _=>?_;simp (disch:=omega)only[go_sem, *]
  ·rw [if_neg hz] at kk
   have fin:=kk _ wr1 p1
   clear kk p1 wr1 p set e X1
   refine Ac EY (by simp [Ck]) fun wf rp=>?_;unfold Ck;simp (disch:=omega)only[go_sem, *]
 ·have hA:A<8:=g.a rfl
  have eA:=ST.reg hx.1 hA
  have hu:=DJ (i:=A) hx.2
  have hA8:A≤8:=by omega
  have m1:∀ n:Nat,n*1=n:=Nat.mul_one
  have he:=ST.len hx.1
  have hip:i<s.procs.length:=by rw [← p.l2];exact hi
  have e:Gf c k q s t i 10 A B C=(0,0,{ s with procs:=s.procs.set i { nth s.procs i with wake:=t+nth (nth s.all i).r A+1 } },q):=rfl
  replace kk:=kk0 e
  clear kk0
  clear set e
  refine Ac EY (by simp [Ck]) fun wf rp=>?_;unfold Ck;simp (disch:=omega)only[go_sem, *]
  refine YD p1.gt p1.sw hip p1.lim p.dw.2.1 ?_
  intro h' x' s'
  have fin:=kk h' (wr1.trans x' (fun j _ e=>.inr (.inl e))) (p1.setW x' s' (by simp))
  clear kk p1 wr1 p x' s'
  simp (disch:=omega)only[go_sem, *]
 ·have hip:i<s.procs.length:=by rw [← p.l2];exact hi
  have e:Gf c k q s t i 17 A B C=(0,0,{ s with procs:=s.procs.set i { nth s.procs i with ended:=true } },q):=rfl
  replace kk:=kk0 e
  clear kk0
  clear set e
  refine Ac EY (by simp [Ck]) fun wf rp=>?_;unfold Ck;simp (disch:=omega)only[go_sem, *]
  refine iK p1.gt p1.sw hip p1.lim p.dw.2.1 ?_
  intro h' x' s'
  have fin:=kk h' (wr1.trans x' (fun j _ e=>.inr (.inl e))) (p1.setW x' s' (by simp))
  clear kk p1 wr1 p x' s'
  simp (disch:=omega)only[go_sem, *]
 ·have e:Gf c k q s t i op A B C=((B8 c k q op A B (nth s.all i)).1,(B8 c k q op A B (nth s.all i)).2.1,{ s with all:=s.all.set i (B8 c k q op A B (nth s.all i)).2.2.1 },(B8 c k q op A B (nth s.all i)).2.2.2):=by unfold Gf;rw [if_neg (by omega),if_neg (by omega),if_neg (by omega),if_neg (by omega),if_neg (by omega),if_neg (by omega),if_pos hop]
  rw [e] at kk
  have r1:=ok.keep (J:=fun _=>False) r (Wr.refl.alloc (k:=⟨4,[[.i .i64 op,.i .i64 A,.i .i64 B,.i .i64 C]]⟩)) (fun _ _ e=>e)
  clear kk0 set e X1
  have hop2:=hop
  rcases hop with rfl | rfl | rfl | rfl<;>(
   refine Ac EY (by simp [Ck]) fun wf rp=>?_;unfold Ck;simp (disch:=omega)only[go_sem, *]
   refine dU ok p1 hi g hop2 r1 dj (fun h' I' x r' i' p'=>?_)
   have fin:=kk h' I' (Wr.trans (wr1.mono fun _ e=>.inl e) x (fun j _ e=>e.imp (fun e=>.inr (.inr e)) (fun z=>z))) r' (fun j e=>(i' j e).imp (fun z=>z) (fun z=>Nat.le_of_succ_le z)) p'
   clear kk p1 wr1 p r1 x r' i' p'
   simp (disch:=omega)only[go_sem, *])
 ·have e:Gf c k q s t i 0 A B C=(0,0,s,q):=rfl
  replace kk:=kk0 e
  clear kk0
  have fin:=kk _ wr1 p1
  clear kk p1 wr1 p set e X1
  refine Ac EY (by simp [Ck]) fun wf rp=>?_;unfold Ck;simp (disch:=omega)only[go_sem, *]
end
end Go.Ab.T
namespace Go.Ab.T
open Go Go.Ab
set_option maxHeartbeats 8000000
def Ld (L:List Bd):List ST:=L.map fun x=>⟨List.replicate 8 0,x.entry⟩
def Lq (c:PC) (s:PS):PS:={ s with procs:=BM s.procs,all:=Ld (nth c.c.parts c.p).procs,mem:=List.replicate 16 0 }
theorem aSq:∀ (m:List Int),m.length=16→((((((((((((((((m.set 0 0).set 1 0).set 2 0).set 3 0).set 4 0).set 5 0).set 6 0).set 7 0).set 8 0).set 9 0).set 10 0).set 11 0).set 12 0).set 13 0).set 14 0).set 15 0)=List.replicate 16 0:=by
 intro m hm
 refine List.ext_getElem (by simp [hm]) fun i h1 h2=>?_
 have:i=0∨i=1∨i=2∨i=3∨i=4∨i=5∨i=6∨i=7∨i=8∨i=9∨i=10∨i=11∨i=12∨i=13∨i=14∨i=15:=by simp [hm] at h1;omega
 rcases this with rfl | rfl | rfl | rfl | rfl | rfl | rfl | rfl | rfl | rfl | rfl | rfl | rfl | rfl | rfl | rfl<;>simp [List.getElem_set]
theorem aSy {c:PC} {tb lg:Nat} {a:V} {m:List Int} {clk:Int} (hm:m.length=16):over (AF c tb lg a m clk) 8 [.i .u32 0,.i .u32 0,.i .u32 0,.i .u32 0,.i .u32 0,.i .u32 0,.i .u32 0,.i .u32 0,.i .u32 0,.i .u32 0,.i .u32 0,.i .u32 0,.i .u32 0,.i .u32 0,.i .u32 0,.i .u32 0]=AF c tb lg a (List.replicate 16 0) clk:=by
 have st:∀ (m:List Int) (j:Nat),m.length=16→j<16→(AF c tb lg a m clk).set (8+j) (.i .u32 0)=AF c tb lg a (m.set j 0) clk:=fun m j h hj=>AF.sm h hj
 simp only [over]
 rw [← aSq m hm]
 rw [st m 0 hm (by decide),st _ 1 (by simp [hm]) (by decide),st _ 2 (by simp [hm]) (by decide),st _ 3 (by simp [hm]) (by decide),st _ 4 (by simp [hm]) (by decide),st _ 5 (by simp [hm]) (by decide),st _ 6 (by simp [hm]) (by decide),st _ 7 (by simp [hm]) (by decide),st _ 8 (by simp [hm]) (by decide),st _ 9 (by simp [hm]) (by decide),st _ 10 (by simp [hm]) (by decide),st _ 11 (by simp [hm]) (by decide),st _ 12 (by simp [hm]) (by decide),st _ 13 (by simp [hm]) (by decide),st _ 14 (by simp [hm]) (by decide),st _ 15 (by simp [hm]) (by decide)]
section
variable {b pp tb lg:Nat} {h:AH} {w a:V} {c:PC} {P:List PR} {L:List Bd} {mem:List Int} {clk:Int}
theorem dF {K : Ex → Env → AH → Prop} {e : Env} {h1 : AH} (hL : L.length ≤ 3) (gp : h1.get pp = some ⟨26, [AF c tb lg .ns mem clk]⟩) (hm : mem.length = 16) (hpn : pp < h1.next) (hlp : h1.lim ≤ pp) (hll : h1.lim ≤ h1.next) (e0 : e 0 = .p pp 0 0) (e23 : e 23 = .fl 2 (L.map Bd.enc)) (e24 : e 24 = .i .i64 L.length) (e25 : e 25 = .i .i64 0)
    (kk:∀ (e:Env) (h':AH) (a:V),Wr h1 (·=pp) h'→h'.get pp=some ⟨26,[AF c tb lg a mem clk]⟩→Sl h1.next h' 9 a ((Ld L).map ST.enc)→e 0=.p pp 0 0→K (.ex 0) e h'):ZC tp (.loop Uj) e h1 K:=by
 refine Ah (fun n' e hh=>∃ (i:Nat) (a:V),n'=L.length - i∧Wr h1 (·=pp) hh∧hh.get pp=some ⟨26,[AF c tb lg a mem clk]⟩∧Sl h1.next hh 9 a ((Ld (L.take i)).map ST.enc)∧e 0=.p pp 0 0∧e 23=.fl 2 (L.map Bd.enc)∧e 24=.i .i64 L.length∧e 25=.i .i64 i∧i≤L.length) ?_ _ _ _ ⟨0,.ns,rfl,Wr.refl,gp,Sl.nil _ _ _,e0,e23,e24,e25,by omega⟩
 clear e0 e23 e24 e25 gp e
 rintro n' e hh ⟨i,a,rfl,x,gp,s,e0,e23,e24,e25,hi⟩ ih
 have hlm:=x.lim
 have hnx:=x.next
 have hsv:=Sl.sameV s
 have hown:=Ay s
 obtain ⟨_,_,_,_,_,_,_,sc1,sc2⟩:=s.facts
 have f7:=AF.f7 (c:=c) (tb:=tb) (lg:=lg) (a:=a) (mem:=mem) (clk:=clk)
 have rl:=AF.len (c:=c) (tb:=tb) (lg:=lg) (a:=a) (clk:=clk) hm
 rw [An Uj.eq_1]
 simp (disch:=omega)only[go_sem, *]
 refine Aa (fun hc=>?_) (fun hc=>?_)
 ·have hN:Ld (L.take (i+1))=Ld (L.take i)++[⟨List.replicate 8 0,(nth L i).entry⟩]:=by
   rw [Di (by omega)];unfold Ld;rw [List.map_append];rfl
  have hln:(Ld (L.take i)).length=i:=by unfold Ld;rw [List.length_map,List.length_take];omega
  have eN:ST.enc ⟨List.replicate 8 0,(nth L i).entry⟩=[.i .u32 0,.i .u32 0,.i .u32 0,.i .u32 0,.i .u32 0,.i .u32 0,.i .u32 0,.i .u32 0,.i .i64 (nth L i).entry]:=rfl
  have X1:Au hh (((hh.alloc ⟨2,[[.i .i64 0,.i .i64 0]]⟩).put hh.next ⟨2,[[.i .i64 (nth L i).entry,.i .i64 (nth L i).prio]]⟩).alloc ⟨9,[[.i .u32 0,.i .u32 0,.i .u32 0,.i .u32 0,.i .u32 0,.i .u32 0,.i .u32 0,.i .u32 0,.i .i64 (nth L i).entry]]⟩):=by (repeat (first | exact Au.refl _ | refine Au.alloc ?_ _ | (refine Au.put ?_ _ _ ?_;rotate_left;(first | omega | (simp only [Ag,Ai];omega)))))
  simp (disch:=omega)only[go_sem, *]
  refine Az (N:=[[.i .u32 0,.i .u32 0,.i .u32 0,.i .u32 0,.i .u32 0,.i .u32 0,.i .u32 0,.i .u32 0,.i .i64 (nth L i).entry]]) (s.ext X1) ?_ ?_ ?_ ?_
  ·simp (disch:=omega)only[go_sem, *]
  ·simp (disch:=omega)only[go_sem, *]<;>omega
  ·simp;omega
  intro v h4 s4 g4
  rw [← eN] at s4
  obtain ⟨k1,k2,k3,k4⟩:=Hu (bx:=pp) X1 g4 s4 (by omega) (hown.imp (fun z=>z) (fun z=>by omega))
  have gp4:=k1.trans gp
  have s7:=fun v=>AF.s7 (c:=c) (tb:=tb) (lg:=lg) (a:=a) (mem:=mem) (clk:=clk) (a':=v)
  have s5:Sl h1.next (h4.put pp ⟨26,[AF c tb lg v mem clk]⟩) 9 v ((Ld (L.take (i+1))).map ST.enc):=by
   rw [hN,List.map_append];exact AI s4 _ _ (.inr (fun e=>k2 e.symm))
  have x5:Wr h1 (·=pp) (h4.put pp ⟨26,[AF c tb lg v mem clk]⟩):=by
   refine Wr.put ?_ (.inr rfl)
   exact ⟨by omega,k4.trans hlm,fun j hj hne=>(g4.low j hj).trans ((X1.get j (by omega)).trans (x.get j hj hne))⟩
  have c1:=g4.cell
  have c2:=g4.cells
  clear X1 g4 s4 s x eN hN k1
  simp (disch:=omega)only[go_sem, *]
  refine ih _ _ _ ?_ ⟨i+1,v,rfl,x5,by rw [Ad,Aw rfl],s5, ?_⟩
  ·omega
  ·clear ih kk s5 x5
   simp (disch:=omega)only[go_sem, *]
   omega
 ·obtain rfl:i=L.length:=by omega
  rw [List.take_length] at s
  simp (disch:=omega)only[go_sem, *]
  exact kk _ hh a x gp s e0
theorem Ms {K : V → AH → Prop} (gp : h.get pp = some ⟨26, [AF c tb lg a mem clk]⟩) (hm : mem.length = 16) (gt : h.get tb = some ⟨1, [[w]]⟩) (sw : Sl b h 3 w (P.map PR.enc)) (lim : h.lim ≤ b) (bp : b ≤ pp) (d : pp ≠ tb) (dw : Aq w ≠ tb) (dw2 : Aq w ≠ pp) (np : pp < h.next) (hp : c.p < c.c.parts.length) (hL : (nth c.c.parts c.p).procs.length ≤ 3)
    (kk:∀ h' a',Wr h (fun j=>j=pp∨j=Aq w) h'→h'.get pp=some ⟨26,[AF c tb lg a' (List.replicate 16 0) clk]⟩→Sl b h' 3 w ((BM P).map PR.enc)→Sl h.next h' 9 a' ((Ld (nth c.c.parts c.p).procs).map ST.enc)→K (.tup []) h'):Cq tp Rg [.p pp 0 0] h K:=by
 have f6:=AF.f6 (c:=c) (tb:=tb) (lg:=lg) (a:=a) (mem:=mem) (clk:=clk)
 have rl:=fun a=>AF.len (c:=c) (tb:=tb) (lg:=lg) (a:=a) (clk:=clk) hm
 have s7:=AF.s7 (c:=c) (tb:=tb) (lg:=lg) (a:=a) (mem:=mem) (clk:=clk) (a':=.ns)
 have f0:=AF.f0 (c:=c) (tb:=tb) (lg:=lg) (a:=.ns) (mem:=mem) (clk:=clk)
 have f3:=AF.f3 (c:=c) (tb:=tb) (lg:=lg) (a:=.ns) (mem:=mem) (clk:=clk)
 refine Ac aDQ (by simp [NL]) fun wf rp=>?_
 have hll:=wf.1
 unfold NL
 simp (disch:=omega)only[go_sem, *]
 refine TM gt sw lim dw ?_
 intro h1 x1 s1
 have g1:=(x1.get _ np (fun e=>dw2 e.symm)).trans gp
 have l1:=x1.lim
 have n1:=x1.next
 simp (disch:=omega)only[go_sem, *]
 have w1:Wr h (fun j=>j=pp∨j=Aq w) (h1.put pp ⟨26,[AF c tb lg .ns mem clk]⟩):=Wr.put ⟨x1.next,x1.lim,fun j hj hn=>x1.get j hj (fun e=>hn (.inr e))⟩ (.inr (.inl rfl))
 have s3:=AI s1 pp ⟨26,[AF c tb lg .ns mem clk]⟩ (.inr (fun e=>dw2 e.symm))
 refine dF (pp:=pp) (c:=c) (tb:=tb) (lg:=lg) (mem:=mem) (clk:=clk) hL ?_ hm ?_ ?_ ?_ ?_ ?_ ?_ ?_ ?_
 ·simp (disch:=omega)only[go_sem, *]
 ·simp (disch:=omega)only[go_sem, *]<;>omega
 ·simp (disch:=omega)only[go_sem, *]<;>omega
 ·simp (disch:=omega)only[go_sem, *]<;>omega
 ·simp (disch:=omega)only[go_sem, *]
 ·simp (disch:=omega)only[go_sem, *]
 ·simp (disch:=omega)only[go_sem, *]
 ·simp (disch:=omega)only[go_sem, *]
 intro e h2 a2 x2 g2 s2 e0
 have l2:=x2.lim
 have w2:=w1.trans x2 (fun j _ e=>.inl e)
 have s4:=CB s3 x2 (.inr dw2)
 have wp:∀ v,((((((((((((((((AF c tb lg v mem clk).set 8 (.i .u32 0)).set 9 (.i .u32 0)).set 10 (.i .u32 0)).set 11 (.i .u32 0)).set 12 (.i .u32 0)).set 13 (.i .u32 0)).set 14 (.i .u32 0)).set 15 (.i .u32 0)).set 16 (.i .u32 0)).set 17 (.i .u32 0)).set 18 (.i .u32 0)).set 19 (.i .u32 0)).set 20 (.i .u32 0)).set 21 (.i .u32 0)).set 22 (.i .u32 0)).set 23 (.i .u32 0)=AF c tb lg v (List.replicate 16 0) clk:=fun v=>aSy hm
 have f:=kk (h2.put pp ⟨26,[AF c tb lg a2 (List.replicate 16 0) clk]⟩) a2 (w2.put (.inr (.inl rfl))) (by rw [Ad,Aw rfl]) (AI s4 _ _ (.inr (fun e=>dw2 e.symm))) (by
  have n2:h.next≤(h1.put pp ⟨26,[AF c tb lg .ns mem clk]⟩).next:=n1
  exact AI (Sl.weak s2 n2) _ _ ((Ay s2).imp (fun z=>z) (fun z=>by have:h.next≤Aq a2:=Nat.le_trans n2 z;omega)))
 rw [DK] at l2
 clear kk w1 w2 s1 s3 s4 x1 x2 s2 sw
 simp (disch:=omega)only[go_sem, *]
 exact f
end
end Go.Ab.T
namespace Go.Ab.T
open Go Go.Ab
set_option maxHeartbeats 8000000
def PC.act (c:PC) (k:Int):Int:=Gc c.h0 c.h1 c.h2 c.h3 c.h4 k
def GX (s:PS) (i:Nat) (n:Int):PS:={ s with all:=s.all.set i ⟨(nth s.all i).r,n⟩ }
def Fd (c:PC) (s:PS) (t:Int) (i:Nat) (pc k:Int):PS:=
 let s1:={ GX s i pc with fl:=s.fl++[⟨t,i,k⟩],halt:=decide (c.act k=2) }
 if c.act k=0 then GX s1 i (IntKind.wrap .i64 (pc+4)) else if c.act k=1 then Lq c s1 else s1
structure PG (c:PC):Prop where
 p:c.p<c.c.parts.length
 l:1≤(nth c.c.parts c.p).procs.length∧(nth c.c.parts c.p).procs.length≤3
section
variable {b pp tb lg i:Nat} {h h':AH} {w a f:V} {c:PC} {s:PS} {t pc k:Int}
theorem PA.setF {F:List FT} {f':V} {st:Bool} (p:PA b h pp tb lg w a f c s) (x:Wr h (fun j=>j=lg∨(AD f=false∧j=Aq f)) h') (gl:h'.get lg=some ⟨7,[[.i .i64 c.h0,.i .i64 c.h1,.i .i64 c.h2,.i .i64 c.h3,.i .i64 c.h4,f',.b st]]⟩) (sf:Sl b h' 3 f' (F.map FT.enc)) (hne:Aq f'≠lg) (ho:(AD f=false∧Aq f'=Aq f)∨h.next≤Aq f') (hl:F.length≤s.clk):PA b h' pp tb lg w a f' c { s with fl:=F,halt:=st }:=by
 obtain ⟨d1,d2,d3⟩:=p.d
 obtain ⟨w1,w2,w3⟩:=p.dw
 obtain ⟨a1,a2,a3,a4⟩:=p.da
 have ff:AD f=false→Aq f≠pp∧Aq f≠tb∧Aq f≠lg∧Aq f≠Aq w∧Aq f≠Aq a:=fun q=>p.df.resolve_left (by rw [q];decide)
 have nw:¬ (Aq w=lg∨(AD f=false∧Aq w=Aq f)):=fun e=>e.elim w3 (fun e=>(ff e.1).2.2.2.1 e.2.symm)
 have na:¬ (Aq a=lg∨(AD f=false∧Aq a=Aq f)):=fun e=>e.elim a3 (fun e=>(ff e.1).2.2.2.2 e.2.symm)
 have lw:=CY p.sw
 have la:=CY p.sa
 have lnw:AD w=false:=by
  have:=p.l1.1
  rcases p.sw with ⟨_,z⟩ | ⟨_,_,_,_,rfl,_⟩
  ·rw [List.map_eq_nil_iff.1 z] at this;cases this
  ·rfl
 have lna:AD a=false:=by
  have:=p.l1.1
  rcases p.sa with ⟨_,z⟩ | ⟨_,_,_,_,rfl,_⟩
  ·rw [← p.l2,List.map_eq_nil_iff.1 z] at this;cases this
  ·rfl
 have lw:=lw.resolve_left (by rw [lnw];decide)
 have la:=la.resolve_left (by rw [lna];decide)
 have np:=p.np
 refine ⟨(x.get _ p.np.1 (fun e=>e.elim d2 (fun e=>(ff e.1).1 e.2.symm))).trans p.gp,(x.get _ p.np.2.1 (fun e=>e.elim d3 (fun e=>(ff e.1).2.1 e.2.symm))).trans p.gt,gl,
  CB p.sw x (.inr nw),CB p.sa x (.inr na),sf,by rw [x.lim];exact p.lim,p.bp,⟨Nat.lt_of_lt_of_le p.np.1 x.next,Nat.lt_of_lt_of_le p.np.2.1 x.next,Nat.lt_of_lt_of_le p.np.2.2 x.next⟩,p.d,p.dw,p.da,.inr ?_,p.l1,p.l2,p.l3,p.l4,p.l5,⟨hl,p.l6.2⟩⟩
 rcases ho with ⟨q,e⟩ | e
 ·rw [e];exact ff q
 ·exact ⟨by omega,by omega,hne,by omega,by omega⟩
theorem PA.setB {L:List Bd} {a':V} (p:PA b h pp tb lg w a f c s) (x:Wr h (fun j=>j=pp∨j=Aq w) h') (gp:h'.get pp=some ⟨26,[AF c tb lg a' (List.replicate 16 0) s.clk]⟩) (sw:Sl b h' 3 w ((BM s.procs).map PR.enc)) (sa:Sl h.next h' 9 a' ((Ld L).map ST.enc)) (hL:L.length=s.procs.length):PA b h' pp tb lg w a' f c { s with procs:=BM s.procs,all:=Ld L,mem:=List.replicate 16 0 }:=by
 obtain ⟨d1,d2,d3⟩:=p.d
 obtain ⟨w1,w2,w3⟩:=p.dw
 have np:=p.np
 have bp:=p.bp
 have lw:Aq w<h.next:=by
  have:=p.l1.1
  rcases p.sw with ⟨_,z⟩ | ⟨_,_,_,_,rfl,_,_,_,_,q,_⟩
  ·rw [List.map_eq_nil_iff.1 z] at this;cases this
  ·exact q
 have lf:=CY p.sf
 have la:h.next≤Aq a':=(Ay sa).resolve_left (by
  have:=p.l1.1
  rcases sa with ⟨_,z⟩ | ⟨_,_,_,_,rfl,_⟩
  ·have z:=congrArg List.length z;simp [Ld] at z;rw [← hL,z] at this;cases this
  ·simp [AD])
 refine ⟨gp,(x.get _ np.2.1 (fun e=>e.elim (fun e=>d1 e.symm) (fun e=>w2 e.symm))).trans p.gt,(x.get _ np.2.2 (fun e=>e.elim (fun e=>d2 e.symm) (fun e=>w3 e.symm))).trans p.gl,sw,Sl.weak sa (by omega),CB p.sf x (p.df.imp (fun z=>z) (fun z e=>e.elim z.1 z.2.2.2.1)),by rw [x.lim];exact p.lim,bp,⟨Nat.lt_of_lt_of_le np.1 x.next,Nat.lt_of_lt_of_le np.2.1 x.next,Nat.lt_of_lt_of_le np.2.2 x.next⟩,p.d,p.dw,⟨by omega,by omega,by omega,by omega⟩, ?_,by simpa [BM] using p.l1,by simp [Ld,BM,hL],by simp,fun y hy=>?_,fun z hz=>?_,p.l6⟩
 ·rcases p.df with z | z
  ·exact .inl z
  ·rcases lf with q | q
   ·exact .inl q
   ·exact .inr ⟨z.1,z.2.1,z.2.2.1,z.2.2.2.1,by omega⟩
 ·unfold Ld at hy
  obtain ⟨q,_,rfl⟩:=List.mem_map.1 hy
  exact ⟨by simp,fun z hz=>by rw [(List.mem_replicate.1 hz).2];omega⟩
 ·rw [(List.mem_replicate.1 hz).2];omega
theorem PA.low (p:PA b h pp tb lg w a f c s):b≤Aq w∧b≤Aq a∧(AD f=true∨b≤Aq f):=by
 have l1:=p.l1.1
 refine ⟨(Ay p.sw).resolve_left ?_,(Ay p.sa).resolve_left ?_,Ay p.sf⟩
 ·rcases p.sw with ⟨_,z⟩ | ⟨_,_,_,_,rfl,_⟩
  ·rw [List.map_eq_nil_iff.1 z] at l1;cases l1
  ·simp [AD]
 ·rcases p.sa with ⟨_,z⟩ | ⟨_,_,_,_,rfl,_⟩
  ·rw [← p.l2,List.map_eq_nil_iff.1 z] at l1;cases l1
  ·simp [AD]
theorem Wr.to {I:Nat→Prop} {b:Nat} {h h':AH} (x:Wr h I h') (hI:∀ j,I j→b≤j):Wr h (b≤·) h':=⟨x.next,x.lim,fun j hj hn=>x.get j hj (fun e=>hn (hI j e))⟩
def IP (pp lg:Nat) (w a f:V) (j:Nat):Prop:=j=pp∨j=lg∨j=Aq w∨j=Aq a∨(AD f=false∧j=Aq f)
structure Pt (pp lg:Nat) (w:V) (h:AH) (a f:V) (h':AH) (a' f':V):Prop where
 w:Wr h (IP pp lg w a f) h'
 a:Aq a'=Aq a∨h.next≤Aq a'
 f:AD f'=true∨(AD f=false∧Aq f'=Aq f)∨h.next≤Aq f'
theorem Pt.ip {j:Nat} {h':AH} {a' f':V} (x:Pt pp lg w h a f h' a' f') (hj:j<h.next) (e:IP pp lg w a' f' j):IP pp lg w a f j:=by
 have:=x.a
 have:=x.f
 rcases e with e | e | e | e | ⟨e1,e⟩
 ·exact .inl e
 ·exact .inr (.inl e)
 ·exact .inr (.inr (.inl e))
 ·exact .inr (.inr (.inr (.inl (by omega))))
 ·rcases this with q | q | q
  ·rw [e1] at q;cases q
  ·exact .inr (.inr (.inr (.inr ⟨q.1,by omega⟩)))
  ·omega
theorem Pt.trans {h1 h2:AH} {a1 f1 a2 f2:V} (x:Pt pp lg w h a f h1 a1 f1) (y:Pt pp lg w h1 a1 f1 h2 a2 f2):Pt pp lg w h a f h2 a2 f2:=by
 have n:=x.w.next
 refine ⟨x.w.trans y.w (fun j hj e=>x.ip hj e), ?_, ?_⟩
 ·rcases y.a with q | q
  ·rcases x.a with r | r
   ·exact .inl (q.trans r)
   ·exact .inr (by omega)
  ·exact .inr (by omega)
 ·rcases y.f with q | q | q
  ·exact .inl q
  ·rcases x.f with r | r | r
   ·rw [q.1] at r;cases r
   ·exact .inr (.inl ⟨r.1,q.2.trans r.2⟩)
   ·exact .inr (.inr (by omega))
  ·exact .inr (.inr (by omega))
theorem Pt.same {h':AH} (x:Wr h (IP pp lg w a f) h'):Pt pp lg w h a f h' a f:=⟨x,.inl rfl,by cases q:AD f;exact .inr (.inl ⟨rfl,rfl⟩);exact .inl rfl⟩
theorem Qq (p:PA b h pp tb lg w a f c s) {n:Int} (hi:i<s.all.length) {h1:AH} (X:Au h h1):PA b (h1.put (Aq a) ⟨9,(A3 h a).set (CF a+i) (ST.enc ⟨(nth s.all i).r,n⟩)⟩) pp tb lg w a f c (GX s i n):=by
 have q:=CX p.sa hi
 have hx:=p.l4 _ (AP hi)
 exact (p.ext X).setA (Wr.put Wr.refl (.inr rfl)) (q.set _ X _) (by simp) (HK p.l4 ⟨hx.1,hx.2⟩)
theorem I6 {op v : Int} {K : V → AH → Prop} (p : PA b h pp tb lg w a f c s) (g : PG c) (hi : i < s.all.length) (hs : s.halt = false) (hl : s.fl.length + 1 ≤ s.clk) (hpl : (nth c.c.parts c.p).procs.length = s.procs.length)
    (kk:∀ h' a' f',Pt pp lg w h a f h' a' f'→PA b h' pp tb lg w a' f' c (Fd c s t i pc k)→K (.tup []) h'):Cq tp Ri [.p pp 0 0,.agg [.i .i64 t,.i .i64 i,.i .i64 pc,.i .i64 op,.i .i64 k,.i .u32 v],.i .i64 i] h K:=by
 obtain ⟨sg,sr,slt,slo,sat,set⟩:=CX p.sa hi
 have hx:=p.l4 _ (AP hi)
 have gp:=p.gp
 obtain ⟨np1,np2,np3⟩:=p.np
 obtain ⟨bp1,bp2,bp3⟩:=p.bp
 have hlim:=p.lim
 have hle:h.lim≤Aq a:=by omega
 have at0:=sat (A3 h a)
 have f7:=AF.f7 (c:=c) (tb:=tb) (lg:=lg) (a:=a) (mem:=s.mem) (clk:=s.clk)
 have f24:=AF.f24 (c:=c) (tb:=tb) (lg:=lg) (a:=a) (mem:=s.mem) (clk:=s.clk) p.l3
 have rl:=AF.len (c:=c) (tb:=tb) (lg:=lg) (a:=a) (clk:=s.clk) p.l3
 have he:=ST.len hx.1
 have sp:=fun v=>ST.setpc (v:=v) hx.1
 have X1:Au h (h.alloc ⟨6,[[.i .i64 t,.i .i64 i,.i .i64 pc,.i .i64 op,.i .i64 k,.i .u32 v]]⟩):=by (repeat (first | exact Au.refl _ | refine Au.alloc ?_ _ | (refine Au.put ?_ _ _ ?_;rotate_left;(first | omega | (simp only [Ag,Ai];omega)))))
 have p1:=Qq p (n:=pc) hi X1
 have wr1:Wr h (IP pp lg w a f) ((h.alloc ⟨6,[[.i .i64 t,.i .i64 i,.i .i64 pc,.i .i64 op,.i .i64 k,.i .u32 v]]⟩).put (Aq a) ⟨9,(A3 h a).set (CF a+i) (ST.enc ⟨(nth s.all i).r,pc⟩)⟩):=(Wr.refl.alloc).put (.inr (.inr (.inr (.inr (.inl rfl)))))
 have da:=p.da
 have pgl:=p1.gl
 have hs1:(GX s i pc).halt=s.halt:=rfl
 rw [hs1,hs] at pgl
 have g6:((h.alloc ⟨6,[[.i .i64 t,.i .i64 i,.i .i64 pc,.i .i64 op,.i .i64 k,.i .u32 v]]⟩).put (Aq a) ⟨9,(A3 h a).set (CF a+i) (ST.enc ⟨(nth s.all i).r,pc⟩)⟩).get h.next=some ⟨6,[[.i .i64 t,.i .i64 i,.i .i64 pc,.i .i64 op,.i .i64 k,.i .u32 v]]⟩:=by rw [Ad,Af (by omega),AO,Aw rfl]
 have gpp:=p1.gp
 have em:(GX s i pc).mem=s.mem:=rfl
 have ek:(GX s i pc).clk=s.clk:=rfl
 rw [em,ek] at gpp
 clear em ek
 have lf:=CY p.sf
 have ef:(GX s i pc).fl=s.fl:=rfl
 have hlk:s.fl.length<4000000000:=by have:=p.l6;omega
 refine Ac aDU (by simp [NP]) fun wf rp=>?_;unfold NP;simp (disch:=omega)only[go_sem, *]
 refine Wk (t:=t) (p:=i) (k:=k) pgl p1.sf p1.lim bp3 p1.np.2.2 (p1.df.imp (fun z=>z) (fun z=>z.2.2.1)) hlk ?_
 intro h2 f2 x2 gl2 sf2 d2 o2
 have p2:=p1.setF x2 gl2 sf2 d2 o2 (by rw [ef,List.length_append];simp only [List.length_cons,List.length_nil];show ((s.fl.length+1:Nat):Int)≤s.clk;omega)
 have pl:=p1.low
 have wr2:Wr h (IP pp lg w a f) h2:=wr1.trans x2 (fun j _ e=>e.elim (fun e=>.inr (.inl e)) (fun e=>.inr (.inr (.inr (.inr e)))))
 have pt2:Pt pp lg w h a f h2 a f2:=⟨wr2,.inl rfl,.inr (o2.imp (fun z=>z) (fun z=>by have:h.next+1≤Aq f2:=z;omega))⟩
 have g62:=(x2.get h.next (by show h.next<h.next+1;omega) (fun e=>e.elim (fun e=>by omega) (fun e=>by have:=lf.resolve_left (by rw [e.1];decide);omega))).trans g6
 have gp2:h2.get pp=some ⟨26,[AF c tb lg a s.mem s.clk]⟩:=p2.gp
 have eact:Gc c.h0 c.h1 c.h2 c.h3 c.h4 k=c.act k:=rfl
 rw [eact] at p2 ⊢
 rw [ef] at p2
 clear x2 gl2 sf2 d2 o2 g6 pgl p1 wr1 gpp sg sr set X1
 have efr:Fd c s t i pc k=(if c.act k=0 then GX { GX s i pc with fl:=s.fl++[⟨t,i,k⟩],halt:=decide (c.act k=2) } i (IntKind.wrap .i64 (pc+4)) else if c.act k=1 then Lq c { GX s i pc with fl:=s.fl++[⟨t,i,k⟩],halt:=decide (c.act k=2) } else { GX s i pc with fl:=s.fl++[⟨t,i,k⟩],halt:=decide (c.act k=2) }):=rfl
 rw [efr] at kk
 clear efr eact ef
 generalize c.act k=z at *
 have hi2:i<({ GX s i pc with fl:=s.fl++[⟨t,i,k⟩],halt:=decide (z=2) }:PS).all.length:=by simpa [GX] using hi
 have q2:=CX p2.sa hi2
 have e2:nth ({ GX s i pc with fl:=s.fl++[⟨t,i,k⟩],halt:=decide (z=2) }:PS).all i=⟨(nth s.all i).r,pc⟩:=by
  show nth (s.all.set i _) i=_
  rw [BO (by simpa using hi),List.getElem_set_self]
 have p3:=fun n=>Qq p2 (n:=n) hi2 (Au.refl h2)
 have r2:=q2.r
 have gt2:=q2.g
 have at2:=q2.at_ (A3 h2 a)
 have l2:=p2.lim
 rw [e2] at r2
 rw [e2] at p3
 have hx2:(⟨(nth s.all i).r,pc⟩:ST).r.length=8:=hx.1
 have he2:=ST.len hx2
 have sp2:=fun v=>ST.setpc (v:=v) hx2
 have hle2:h2.lim≤Aq a:=by omega
 have wr3:Wr h (IP pp lg w a f) (h2.put (Aq a) ⟨9,(A3 h2 a).set (CF a+i) (ST.enc ⟨(nth s.all i).r,IntKind.wrap .i64 (pc+4)⟩)⟩):=wr2.put (.inr (.inr (.inr (.inr (.inl rfl)))))
 simp (disch:=omega)only[go_sem, *]
 refine Aa (fun hc=>?_) (fun hc=>?_)
 ·rw [if_pos hc] at kk
  have fin:=kk _ a f2 ⟨wr3,pt2.a,pt2.f⟩ (p3 _)
  clear kk p p2 p3 wr2 wr3 q2 pt2
  simp (disch:=omega)only[go_sem, *]
 ·rw [if_neg hc] at kk
  simp (disch:=omega)only[go_sem, *]
  refine Aa (fun hc2=>?_) (fun hc2=>?_)
  ·rw [if_pos hc2] at kk
   simp (disch:=omega)only[go_sem, *]
   refine Ms p2.gp p2.l3 p2.gt p2.sw p2.lim bp1 p2.d.1 p2.dw.2.1 p2.dw.1 p2.np.1 g.p g.l.2 ?_
   intro h3 a3 x3 gp3 sw3 sa3
   have n3:¬ AD a3=true:=by
    have:=g.l.1
    rcases sa3 with ⟨_,z⟩ | ⟨_,_,_,_,rfl,_⟩
    ·have z:=congrArg List.length z;rw [List.length_map,Ld,List.length_map] at z;simp only [List.length_nil] at z;omega
    ·simp [AD]
   have p4:=p2.setB x3 gp3 sw3 sa3 hpl
   have fin:=kk h3 a3 f2 ⟨wr2.trans x3 (fun j _ e=>e.elim .inl (fun e=>.inr (.inr (.inl e)))),.inr ((Ay sa3).resolve_left n3 |> Nat.le_trans wr2.next),pt2.f⟩ p4
   clear kk p p2 p3 wr2 wr3 q2 pt2 p4 x3 gp3 sw3 sa3
   simp (disch:=omega)only[go_sem, *]
  ·rw [if_neg hc2] at kk
   have fin:=kk h2 a f2 pt2 p2
   clear kk p p2 p3 wr2 wr3 q2 pt2
   simp (disch:=omega)only[go_sem, *]
end
end Go.Ab.T
namespace Go.Ab.T
open Go Go.Ab
set_option maxHeartbeats 8000000
structure Loc where
 t:Int
 proc:Int
 pc:Int
 op:Int
 fault:Int
 value:Int
 deriving DecidableEq,Inhabited
@[go_sem] def Loc.enc (x:Loc):List V:=[.i .i64 x.t,.i .i64 x.proc,.i .i64 x.pc,.i .i64 x.op,.i .i64 x.fault,.i .u32 x.value]
def goR (c:PC) (k:Kn) (q:k.σ) (s:PS) (n:Nat) (x:Gb):Loc×PS×k.σ:=
 let d:=Gf c k q (GX { s with clk:=s.clk+1 } n (IntKind.wrap .i64 ((nth s.all n).pc+4))) s.clk n x.op x.a.toNat x.b.toNat x.c.toNat
 if d.2.1=0 then (⟨s.clk,n,(nth s.all n).pc,x.op,0,d.1⟩,d.2.2.1,d.2.2.2) else (⟨s.clk,n,(nth s.all n).pc,x.op,d.2.1,0⟩,Fd c d.2.2.1 s.clk n (nth s.all n).pc d.2.1,d.2.2.2)
def F9 (c:PC) (k:Kn) (q:k.σ) (s:PS) (n:Nat):Loc×PS×k.σ:=
 let y:=Dc c.prog (nth s.all n).pc
 if y.2=false then (⟨s.clk,n,(nth s.all n).pc,y.1.op,2,0⟩,Fd c { s with clk:=s.clk+1 } s.clk n (nth s.all n).pc 2,q)
 else if Gu y.1=false then (⟨s.clk,n,(nth s.all n).pc,y.1.op,1,0⟩,Fd c { s with clk:=s.clk+1 } s.clk n (nth s.all n).pc 1,q)
 else goR c k q s n y.1
def Cm (c:PC) (k:Kn) (q:k.σ) (s:PS):Loc×Bool×PS×k.σ:=
 if s.halt=true then (⟨0,0,0,0,0,0⟩,false,s,q)
 else if F7 s.procs s.clk<0 then (⟨s.clk,-1,0,0,0,0⟩,true,{ s with clk:=s.clk+1 },q)
 else ((F9 c k q s (F7 s.procs s.clk).toNat).1,true,(F9 c k q s (F7 s.procs s.clk).toNat).2)
theorem aFQ {P:List PR} {R:List Nat} {j n:Nat} (hj:j<R.length) (h:∀ x∈R,x<n):∀ x∈Zt P R j,x<n:=by
 unfold Zt
 split
 ·exact h
 ·split
  ·exact G6 (by omega) hj h
  ·exact h
theorem Nf {P:List PR} {now:Int}:∀ (l:List PR) (i:Nat) (R:List Nat),(∀ x∈R,x<i)→∀ x∈Dg P now l i R,x<i+l.length
 | [],_,_,h=>h
 | y::l,i,R,h=>by
  rw [Dg,List.length_cons]
  intro x hx
  have:=Nf l (i+1) _ (fun z hz=>by
   split at hz
   ·refine aFQ (n:=i+1) (by simp) (fun q hq=>?_) z hz
    rcases List.mem_append.1 hq with q1 | q1
    ·have:=h q q1;omega
    ·rw [List.mem_singleton.1 q1];omega
   ·have:=h z hz;omega) x hx
  omega
theorem iL {P:List PR} {now:Int} (h:¬ F7 P now<0):∃ n:Nat,F7 P now=n∧n<P.length:=by
 unfold F7 at *
 split
 ·rename_i q;rw [if_pos q] at h;omega
 ·rename_i q
  refine ⟨_,rfl, ?_⟩
  have:=Nf P 0 [] (fun x hx=>by cases hx) _ (AP (L:=Dg P now P 0 []) (j:=0) (by omega))
  omega
@[go_sem] theorem aSM:EX .ifc .ni .ni=some true:=rfl
@[go_sem] theorem aSm {t:Nat} {v:V}:EX .ifc (.ifc t v) .ni=some false:=rfl
section
variable {b pp tb lg:Nat} {h:AH} {w a f:V} {c:PC} {s:PS} {K:V→AH→Prop}
theorem Jx (p:PA b h pp tb lg w a f c s) (kk:K (.b s.halt) h):Cq tp gF [.p pp 0 0] h K:=by
 have gp:=p.gp
 have f24:=AF.f24 (c:=c) (tb:=tb) (lg:=lg) (a:=a) (mem:=s.mem) (clk:=s.clk) p.l3
 have rl:=AF.len (c:=c) (tb:=tb) (lg:=lg) (a:=a) (clk:=s.clk) p.l3
 refine Ac oW (by simp [QI]) fun wf rp=>?_;unfold QI;simp (disch:=omega)only[go_sem, *]
 refine MN p.gl ?_
 simp (disch:=omega)only[go_sem, *]
structure PN (c:PC):Prop where
 b:∀ z∈c.prog,0≤z∧z<256
 u:F4 c.ins
 ul:c.ins.length<4000000000
theorem PA.setC {h':AH} (p:PA b h pp tb lg w a f c s) (x:Wr h (·=pp) h') (gp:h'.get pp=some ⟨26,[AF c tb lg a s.mem (s.clk+1)]⟩) (hk:s.clk+1<3000000000):PA b h' pp tb lg w a f c { s with clk:=s.clk+1 }:=by
 obtain ⟨d1,d2,d3⟩:=p.d
 have l6:=p.l6
 have n:=x.next
 obtain ⟨n1,n2,n3⟩:=p.np
 exact ⟨gp,(x.get tb n2 d1.symm).trans p.gt,(x.get lg n3 d2.symm).trans p.gl,CB p.sw x (.inr p.dw.1),CB p.sa x (.inr p.da.1),CB p.sf x (p.df.imp (fun z=>z) (fun z=>z.1)),x.lim▸p.lim,p.bp,by omega,p.d,p.dw,p.da,p.df,p.l1,p.l2,p.l3,p.l4,p.l5,⟨by show (s.fl.length:Int)≤s.clk+1;omega,hk⟩⟩
theorem FD {b sz:Nat} {h:AH} {v:V} {R:List (List V)} (s:Sl b h sz v R):AD v=true∨Aq v<h.next:=by
 rcases s with ⟨hv,_⟩ | ⟨i,el,cap,cs,rfl,_,_,_,_,h1,_⟩
 ·rcases hv with rfl | rfl<;>exact .inl rfl
 ·exact .inr h1
theorem PA.fresh {j:Nat} (p:PA b h pp tb lg w a f c s) (hj:h.next≤j):j≠pp∧j≠tb∧j≠lg∧j≠Aq w∧j≠Aq a∧(AD f=true∨j≠Aq f):=by
 obtain ⟨n1,n2,n3⟩:=p.np
 have l1:=p.l1.1
 have w1:Aq w<h.next:=(FD p.sw).resolve_left (fun z=>by
  rcases p.sw with ⟨_,z⟩ | ⟨_,_,_,_,rfl,_⟩
  ·rw [List.map_eq_nil_iff.1 z] at l1;cases l1
  ·simp [AD] at z)
 have a1:Aq a<h.next:=(FD p.sa).resolve_left (fun z=>by
  rcases p.sa with ⟨_,z⟩ | ⟨_,_,_,_,rfl,_⟩
  ·rw [← p.l2,List.map_eq_nil_iff.1 z] at l1;cases l1
  ·simp [AD] at z)
 exact ⟨by omega,by omega,by omega,by omega,by omega,(FD p.sf).imp (fun z=>z) (fun z=>by omega)⟩
theorem PA.box {h':AH} {a' f':V} {s':PS} {j:Nat} {k:Bx} (p:PA b h pp tb lg w a f c s) (pt:Pt pp lg w h a f h' a' f') (p':PA b h' pp tb lg w a' f' c s') (hj:j<h.next) (hn:j≠pp∧j≠tb∧j≠lg∧j≠Aq w∧j≠Aq a∧(AD f=true∨j≠Aq f)):PA b (h'.put j k) pp tb lg w a' f' c s'∧h'.get j=h.get j:=by
 obtain ⟨e1,e2,e3,e4,e5,e6⟩:=hn
 have x1:=pt.a
 have x2:=pt.f
 have nx:=pt.w.next
 refine ⟨p'.same (I:=(·=j)) (Wr.refl.put (.inr rfl)) (fun q e=>by
  rw [e]
  refine ⟨e1,e2,e3,e4,by omega, ?_⟩
  cases hf:AD f' with
  | true=>exact .inl rfl
  | false=>
   rcases x2 with z | ⟨z1,z2⟩ | z
   ·rw [hf] at z;cases z
   ·exact .inr (fun e=>(e6.resolve_left (by rw [z1];decide)) (e.trans z2))
   ·exact .inr (by omega)),pt.w.get j hj (fun e=>?_)⟩
 rcases e with e | e | e | e | ⟨z,e⟩
 ·exact e1 e
 ·exact e3 e
 ·exact e4 e
 ·exact e5 e
 ·exact (e6.resolve_left (by rw [z];decide)) e
theorem Pt.put {h':AH} {a' f':V} {j:Nat} {k:Bx} (x:Pt pp lg w h a f h' a' f') (hj:h.next≤j):Pt pp lg w h a f (h'.put j k) a' f':=⟨x.w.put (.inl hj),x.a,x.f⟩
theorem MD {k:Kn} {q:k.σ} {t op:Int} {i A B C:Nat}:(Gf c k q s t i op A B C).2.2.1.halt=s.halt∧(Gf c k q s t i op A B C).2.2.1.fl=s.fl∧(Gf c k q s t i op A B C).2.2.1.clk=s.clk∧(Gf c k q s t i op A B C).2.2.1.procs.length=s.procs.length∧(Gf c k q s t i op A B C).2.2.1.all.length=s.all.length:=by
 unfold Gf
 repeat' split
 all_goals simp
theorem aFp {C:List (List V)} {i:Nat} (p:PA b h pp tb lg w a f c s) (hC:A3 h a=C) {n:Int} (hi:i<s.all.length) {h1:AH} (X:Au h h1):PA b (h1.put (Aq a) ⟨9,C.set (CF a+i) (ST.enc ⟨(nth s.all i).r,n⟩)⟩) pp tb lg w a f c (GX s i n):=hC▸Qq p hi X
theorem TA {i:Gb} (h:Gu i=true):∃ A B C:Nat,i=⟨i.op,A,B,C⟩∧Reg i.op A B C:=by
 unfold Gu Dd at h
 simp only [Bool.and_eq_true,Bool.or_eq_true,decide_eq_true_eq,Bool.not_eq_true'] at h
 obtain ⟨o,⟨a1,a2⟩,⟨b1,b2⟩,⟨c1,c2⟩⟩:=h
 obtain ⟨op,A,B,C⟩:=i
 simp only at *
 obtain ⟨A,rfl⟩:∃ k:Nat,A=k:=⟨A.toNat,by omega⟩
 obtain ⟨B,rfl⟩:∃ k:Nat,B=k:=⟨B.toNat,by omega⟩
 obtain ⟨C,rfl⟩:∃ k:Nat,C=k:=⟨C.toNat,by omega⟩
 exact ⟨A,B,C,rfl,⟨o,by omega,fun e=>by rcases a2 with z | z;rw [e] at z;cases z;omega,fun e=>by rcases b2 with z | z;rw [e] at z;cases z;omega,fun e=>by rcases c2 with z | z;rw [e] at z;cases z;omega⟩⟩
structure ZP (pp lg:Nat) (w:V) (h:AH) (a f:V) (I:Nat→Prop) (h':AH) (a' f':V) (I':Nat→Prop):Prop where
 w:Wr h (fun j=>IP pp lg w a f j∨I j) h'
 a:Aq a'=Aq a∨h.next≤Aq a'
 f:AD f'=true∨(AD f=false∧Aq f'=Aq f)∨h.next≤Aq f'
 i:∀ j,I' j→I j∨h.next≤j
section
variable {I I':Nat→Prop} {h' h5:AH} {a' f':V}
theorem Pt.k (x:Pt pp lg w h a f h' a' f'):ZP pp lg w h a f I h' a' f' I:=⟨x.w.mono (fun _ e=>.inl e),x.a,x.f,fun _ e=>.inl e⟩
theorem ZP.of (x:Wr h (fun j=>IP pp lg w a f j∨I j) h5) (i:∀ j,I' j→I j∨h.next≤j) (pt:Pt pp lg w h5 a f h' a' f'):ZP pp lg w h a f I h' a' f' I':=by
 have n:=x.next
 exact ⟨x.trans pt.w (fun _ _ e=>.inl e),pt.a.imp (fun z=>z) (fun z=>by omega),pt.f.imp (fun z=>z) (fun z=>z.imp (fun z=>z) (fun z=>by omega)),i⟩
theorem ZP.put {j:Nat} {kb:Bx} (x:ZP pp lg w h a f I h' a' f' I') (hj:h.next≤j):ZP pp lg w h a f I (h'.put j kb) a' f' I':=⟨x.w.put (.inl hj),x.a,x.f,x.i⟩
theorem Apart.ip (d:Apart pp tb lg w a f I) {j:Nat} (e:I j):¬ IP pp lg w a f j:=by
 obtain ⟨e1,e2,e3,e4,e5,e6⟩:=d j e
 rintro (e | e | e | e | ⟨z,e⟩)
 ·exact e1 e
 ·exact e3 e
 ·exact e4 e
 ·exact e5 e
 ·exact (e6.resolve_left (by rw [z];decide)) e
theorem Apart.keep (d:Apart pp tb lg w a f I) (lw:∀ j,I j→j<h.next) (ha:Aq a'=Aq a∨h.next≤Aq a') (hf:AD f'=true∨(AD f=false∧Aq f'=Aq f)∨h.next≤Aq f'):Apart pp tb lg w a' f' I:=fun j e=>by
 obtain ⟨e1,e2,e3,e4,e5,e6⟩:=d j e
 have:=lw j e
 refine ⟨e1,e2,e3,e4,by omega, ?_⟩
 rcases hf with z | ⟨z1,z2⟩ | z
 ·exact .inl z
 ·exact .inr (by rw [z2];exact e6.resolve_left (by rw [z1];decide))
 ·exact .inr (by omega)
theorem Apart.new (d:Apart pp tb lg w a f I) (p:PA b h pp tb lg w a f c s) (i:∀ j,I' j→I j∨h.next≤j):Apart pp tb lg w a f I':=fun j e=>(i j e).elim (d j) (fun q=>p.fresh q)
end
def KV (k:Kn) (v:V):Prop:=v=.ifc k.T k.v∨(v=.ni∧k=noK)
theorem jO {k : Kn} {q : k.σ} {I : Nat → Prop} {kv : V} (hkv : KV k kv) (ok : k.Ok) (r : k.R q h I) (dj : Apart pp tb lg w a f I) (p : PA b h pp tb lg w a f c s) (g : PG c) (n : PN c) (hpl : (nth c.c.parts c.p).procs.length = s.procs.length) (hk : s.clk + 1 < 3000000000)
    (kk:∀ h' a' f' I',ZP pp lg w h a f I h' a' f' I'→k.R (Cm c k q s).2.2.2 h' I'→Apart pp tb lg w a' f' I'→PA b h' pp tb lg w a' f' c (Cm c k q s).2.2.1→K (.tup [.agg (Cm c k q s).1.enc,.b (Cm c k q s).2.1]) h'):Cq tp SW [.p pp 0 0,kv] h K:=by
 have lw:=ok.low r
 have rk:∀ {h':AH},Wr h (IP pp lg w a f) h'→k.R q h' I:=fun x=>ok.keep r x (fun j e=>dj.ip e)
 have gp:=p.gp
 obtain ⟨np1,np2,np3⟩:=p.np
 obtain ⟨bp1,bp2,bp3⟩:=p.bp
 have hlim:=p.lim
 have l6:=p.l6
 have f25:=AF.f25 (c:=c) (tb:=tb) (lg:=lg) (a:=a) (mem:=s.mem) (clk:=s.clk) p.l3
 have s25:=AF.s25 (c:=c) (tb:=tb) (lg:=lg) (a:=a) (mem:=s.mem) (clk:=s.clk) (clk':=s.clk+1) p.l3
 have rl:=fun k=>AF.len (c:=c) (tb:=tb) (lg:=lg) (a:=a) (clk:=k) p.l3
 have f6:=AF.f6 (c:=c) (tb:=tb) (lg:=lg) (a:=a) (mem:=s.mem) (clk:=s.clk+1)
 have X1:Au h (h.alloc ⟨6,[[.i .i64 0,.i .i64 0,.i .i64 0,.i .i64 0,.i .i64 0,.i .u32 0]]⟩):=by (repeat (first | exact Au.refl _ | refine Au.alloc ?_ _ | (refine Au.put ?_ _ _ ?_;rotate_left;(first | omega | (simp only [Ag,Ai];omega)))))
 have p1:=p.ext X1
 have w1:Wr h (·=pp) (h.alloc ⟨6,[[.i .i64 0,.i .i64 0,.i .i64 0,.i .i64 0,.i .i64 0,.i .u32 0]]⟩):=Wr.refl.alloc
 cases hh:s.halt with
 | true=>
  have e:Cm c k q s=(⟨0,0,0,0,0,0⟩,false,s,q):=if_pos hh
  rw [e] at kk
  replace kk:=fun h' a' f' (pt:Pt pp lg w h a f h' a' f') p'=>kk h' a' f' I pt.k (rk pt.w) (dj.keep lw pt.a pt.f) p'
  have fin:=kk ((h.alloc ⟨6,[[.i .i64 0,.i .i64 0,.i .i64 0,.i .i64 0,.i .i64 0,.i .u32 0]]⟩).put h.next ⟨6,[[.i .i64 0,.i .i64 0,.i .i64 0,.i .i64 0,.i .i64 0,.i .u32 0]]⟩) a f (.same ((w1.put (.inl (Nat.le_refl _))).mono (fun _ e=>Or.inl e))) (p.ext (by (repeat (first | exact Au.refl _ | refine Au.alloc ?_ _ | (refine Au.put ?_ _ _ ?_;rotate_left;(first | omega | (simp only [Ag,Ai];omega)))))))
  clear kk p X1 w1 e
  refine Ac oV (by simp [QH]) fun wf rp=>?_;unfold QH;simp (disch:=omega)only[go_sem, *]
  refine Jx p1 ?_
  rw [hh]
  clear p1
  simp (disch:=omega)only[go_sem, *]
  exact fin
 | false=>
  have wc:Wr h (·=pp) ((h.alloc ⟨6,[[.i .i64 0,.i .i64 0,.i .i64 0,.i .i64 0,.i .i64 0,.i .u32 0]]⟩).put pp ⟨26,[AF c tb lg a s.mem (s.clk+1)]⟩):=w1.put (.inr rfl)
  have p2:=p.setC wc (by rw [Ad,Aw rfl]) hk
  have ekv:kv=.ni→V.ifc 91 (.agg [])=.ifc k.T k.v:=fun e=>by
   rcases hkv with z | ⟨-,z⟩
   ·rw [e] at z;cases z
   ·rw [z];rfl
  have hkv:kv=.ifc k.T k.v∨kv=.ni:=hkv.imp (fun z=>z) (fun z=>z.1)
  rcases hkv with rfl | rfl
  all_goals
   simp only [reduceCtorEq,false_implies,true_implies,forall_const] at ekv
   refine Ac oV (by simp [QH]) fun wf rp=>?_;unfold QH;simp (disch:=omega)only[go_sem, *]
   refine Jx p1 ?_
   rw [hh]
   simp (disch:=omega)only[go_sem, *]
   refine iM p2.gt p2.np.2.1 p2.sw p2.l1.2 ?_
   by_cases hp:F7 s.procs s.clk<0
   ·have e:Cm c k q s=(⟨s.clk,-1,0,0,0,0⟩,true,{ s with clk:=s.clk+1 },q):=by unfold Cm;rw [if_neg (by rw [hh];decide),if_pos hp]
    rw [e] at kk
    replace kk:=fun h' a' f' (pt:Pt pp lg w h a f h' a' f') p'=>kk h' a' f' I pt.k (rk pt.w) (dj.keep lw pt.a pt.f) p'
    clear p1
    have wf:=wc.put (k:=⟨6,[[.i .i64 s.clk,.i .i64 (-1),.i .i64 0,.i .i64 0,.i .i64 0,.i .u32 0]]⟩) (.inl (Nat.le_refl h.next))
    have fin:=kk _ a f (.same (wf.mono (fun _ e=>Or.inl e))) (p.setC wf (by rw [Ad,Af (by omega),Ad,Aw rfl]) hk)
    clear kk wf p2 p wc
    simp (disch:=omega)only[go_sem, *]
    exact fin
   ·obtain ⟨i,hi,hl⟩:=iL hp
    have f7:=AF.f7 (c:=c) (tb:=tb) (lg:=lg) (a:=a) (mem:=s.mem) (clk:=s.clk+1)
    have f4:=AF.f4 (c:=c) (tb:=tb) (lg:=lg) (a:=a) (mem:=s.mem) (clk:=s.clk+1)
    have hl2:i<({ s with clk:=s.clk+1 }:PS).all.length:=by show i<s.all.length;rw [p.l2];exact hl
    obtain ⟨sg,sr,slt,slo,sat,set⟩:=CX p.sa hl2
    have na:=p.da.1
    have hx:=p.l4 _ (AP hl2)
    have he:=ST.len hx.1
    have ep:Cm c k q s=((F9 c k q s i).1,true,(F9 c k q s i).2.1,(F9 c k q s i).2.2):=by unfold Cm;rw [if_neg (by rw [hh];decide),if_neg hp,hi];rfl
    rw [ep] at kk
    clear ep p1
    rw [hi] at hp ⊢
    have at0:=sat (A3 h a)
    have fr0:=p.fresh (Nat.le_refl h.next)
    have fr1:=p.fresh (Nat.le_succ h.next)
    have at8:=ST.at8 hx.1
    have fe:=SX (P:=c.prog) (pc:=(nth s.all i).pc) n.b
    have es:F9 c k q s i=(if (Dc c.prog (nth s.all i).pc).2=false then (⟨s.clk,i,(nth s.all i).pc,(Dc c.prog (nth s.all i).pc).1.op,2,0⟩,Fd c { s with clk:=s.clk+1 } s.clk i (nth s.all i).pc 2,q)
     else if Gu (Dc c.prog (nth s.all i).pc).1=false then (⟨s.clk,i,(nth s.all i).pc,(Dc c.prog (nth s.all i).pc).1.op,1,0⟩,Fd c { s with clk:=s.clk+1 } s.clk i (nth s.all i).pc 1,q)
     else goR c k q s i (Dc c.prog (nth s.all i).pc).1):=rfl
    rw [es] at kk
    clear es
    have ir:=SZ (i:=(Dc c.prog (nth s.all i).pc).1)
    generalize Dc c.prog (nth s.all i).pc=y at *
    obtain ⟨⟨op,A,B,C⟩,ok⟩:=y
    simp only [Gb.enc] at fe ir kk
    cases ok with
    | false=>
     clear ir
     rw [if_pos rfl] at kk
     replace kk:=fun h' a' f' (pt:Pt pp lg w h a f h' a' f') p'=>kk h' a' f' I pt.k (rk pt.w) (dj.keep lw pt.a pt.f) p'
     simp (disch:=omega)only[go_sem, *]
     refine Pf.go fe (by simp only [go_sem]) fun _=>?_
     simp (disch:=omega)only[go_sem, *]
     refine I6 (p2.ext ?_) g hl2 hh (by show s.fl.length+1≤s.clk+1;omega) hpl ?_
     ·(repeat (first | exact Au.refl _ | refine Au.alloc ?_ _ | (refine Au.put ?_ _ _ ?_;rotate_left;(first | omega | (simp only [Ag,Ai];omega)))))
     intro h4 a4 f4 pt p4;have l4:=p4.lim
     obtain ⟨-,g1⟩:=(p2.ext (by (repeat (first | exact Au.refl _ | refine Au.alloc ?_ _ | (refine Au.put ?_ _ _ ?_;rotate_left;(first | omega | (simp only [Ag,Ai];omega))))))).box (k:=⟨0,[]⟩) pt p4 (j:=h.next+1) (by simp only [go_sem];omega) fr1
     obtain ⟨-,g0⟩:=(p2.ext (by (repeat (first | exact Au.refl _ | refine Au.alloc ?_ _ | (refine Au.put ?_ _ _ ?_;rotate_left;(first | omega | (simp only [Ag,Ai];omega))))))).box (k:=⟨0,[]⟩) pt p4 (j:=h.next) (by simp only [go_sem];omega) fr0
     have p5:=((p2.ext (by (repeat (first | exact Au.refl _ | refine Au.alloc ?_ _ | (refine Au.put ?_ _ _ ?_;rotate_left;(first | omega | (simp only [Ag,Ai];omega))))))).box (k:=⟨6,[[.i .i64 s.clk,.i .i64 i,.i .i64 (nth s.all i).pc,.i .i64 op,.i .i64 2,.i .u32 0]]⟩) pt p4 (j:=h.next) (by simp only [go_sem];omega) fr0).1
     have fin:=kk _ a4 f4 (((Pt.same (by repeat (first | exact wc.mono (fun _ e=>Or.inl e) | refine Wr.alloc ?_ | refine Wr.put ?_ (.inl (by omega))))).trans pt).put (Nat.le_refl _)) p5
     simp (disch:=omega)only[go_sem, *] at g0 g1
     clear kk pt p4 p5 p2 p wc
     simp (disch:=omega)only[go_sem, *]
     exact fin
    | true=>
     rw [if_neg (by decide)] at kk
     cases hr:Gu ⟨op,A,B,C⟩ with
     | false=>
      rw [hr] at ir
      rw [if_pos hr] at kk
      replace kk:=fun h' a' f' (pt:Pt pp lg w h a f h' a' f') p'=>kk h' a' f' I pt.k (rk pt.w) (dj.keep lw pt.a pt.f) p'
      clear hr
      simp (disch:=omega)only[go_sem, *]
      refine Pf.go fe (by simp only [go_sem]) fun _=>?_
      simp (disch:=omega)only[go_sem, *]
      refine Pf.go ir (by simp only [go_sem]) fun _=>?_
      simp (disch:=omega)only[go_sem, *]
      refine I6 (p2.ext ?_) g hl2 hh (by show s.fl.length+1≤s.clk+1;omega) hpl ?_
      ·(repeat (first | exact Au.refl _ | refine Au.alloc ?_ _ | (refine Au.put ?_ _ _ ?_;rotate_left;(first | omega | (simp only [Ag,Ai];omega)))))
      intro h4 a4 f4 pt p4;have l4:=p4.lim
      obtain ⟨-,g1⟩:=(p2.ext (by (repeat (first | exact Au.refl _ | refine Au.alloc ?_ _ | (refine Au.put ?_ _ _ ?_;rotate_left;(first | omega | (simp only [Ag,Ai];omega))))))).box (k:=⟨0,[]⟩) pt p4 (j:=h.next+1) (by simp only [go_sem];omega) fr1
      obtain ⟨-,g0⟩:=(p2.ext (by (repeat (first | exact Au.refl _ | refine Au.alloc ?_ _ | (refine Au.put ?_ _ _ ?_;rotate_left;(first | omega | (simp only [Ag,Ai];omega))))))).box (k:=⟨0,[]⟩) pt p4 (j:=h.next) (by simp only [go_sem];omega) fr0
      have p5:=((p2.ext (by (repeat (first | exact Au.refl _ | refine Au.alloc ?_ _ | (refine Au.put ?_ _ _ ?_;rotate_left;(first | omega | (simp only [Ag,Ai];omega))))))).box (k:=⟨6,[[.i .i64 s.clk,.i .i64 i,.i .i64 (nth s.all i).pc,.i .i64 op,.i .i64 1,.i .u32 0]]⟩) pt p4 (j:=h.next) (by simp only [go_sem];omega) fr0).1
      have fin:=kk _ a4 f4 (((Pt.same (by repeat (first | exact wc.mono (fun _ e=>Or.inl e) | refine Wr.alloc ?_ | refine Wr.put ?_ (.inl (by omega))))).trans pt).put (Nat.le_refl _)) p5
      simp (disch:=omega)only[go_sem, *] at g0 g1
      clear kk pt p4 p5 p2 p wc
      simp (disch:=omega)only[go_sem, *]
      exact fin
     | true=>
      rw [hr] at ir
      rw [if_neg (by rw [hr];decide)] at kk
      obtain ⟨A',B',C',eq,rg⟩:=TA hr
      injection eq with e0 eA eB eC
      clear e0
      subst eA eB eC
      clear hr
      have sp:=fun v=>ST.setpc (v:=v) hx.1
      have ec:A3 ((h.alloc ⟨6,[[.i .i64 0,.i .i64 0,.i .i64 0,.i .i64 0,.i .i64 0,.i .u32 0]]⟩).put pp ⟨26,[AF c tb lg a s.mem (s.clk+1)]⟩) a=A3 h a:=by unfold A3;rw [Ad,Af na,AO,Af (by omega)]
      have p6:=fun H (X:Au _ H)=>aFp (n:=IntKind.wrap .i64 ((nth s.all i).pc+4)) p2 ec hl2 X
      simp (disch:=omega)only[go_sem, *]
      refine Pf.go fe (by simp only [go_sem]) fun _=>?_
      simp (disch:=omega)only[go_sem, *]
      refine Pf.go ir (by simp only [go_sem]) fun _=>?_
      simp (disch:=omega)only[go_sem, *]
      clear ec
      refine aQa ok (p6 _ ?_) (by show i<(s.all.set i _).length;rw [List.length_set];exact hl2) rg (rk ?_) dj n.u n.ul (by omega) l6.2 ?_
      ·(repeat (first | exact Au.refl _ | refine Au.alloc ?_ _ | (refine Au.put ?_ _ _ ?_;rotate_left;(first | omega | (simp only [Ag,Ai];omega)))))
      ·repeat (first | exact wc.mono (fun _ e=>Or.inl e) | refine Wr.alloc ?_ | refine Wr.put ?_ (.inl (by omega)) | refine Wr.put ?_ (.inr (.inr (.inr (.inr (.inl rfl))))))
      intro h5 I5 x5 r5 i5 p7
      obtain ⟨k1,k2,k3,k4,-⟩:=MD (k:=k) (q:=q) (c:=c) (s:=GX { s with clk:=s.clk+1 } i (IntKind.wrap .i64 ((nth s.all i).pc+4))) (t:=s.clk) (op:=op) (i:=i) (A:=A') (B:=B') (C:=C')
      have k1:=k1.trans (show _=s.halt from rfl)
      have k2:=k2.trans (show _=s.fl from rfl)
      have k3:=k3.trans (show _=s.clk+1 from rfl)
      have k4:=k4.trans (show _=s.procs.length from rfl)
      have eg:goR c k q s i ⟨op,A',B',C'⟩=(if (Gf c k q (GX { s with clk:=s.clk+1 } i (IntKind.wrap .i64 ((nth s.all i).pc+4))) s.clk i op A' B' C').2.1=0 then (⟨s.clk,i,(nth s.all i).pc,op,0,(Gf c k q (GX { s with clk:=s.clk+1 } i (IntKind.wrap .i64 ((nth s.all i).pc+4))) s.clk i op A' B' C').1⟩,(Gf c k q (GX { s with clk:=s.clk+1 } i (IntKind.wrap .i64 ((nth s.all i).pc+4))) s.clk i op A' B' C').2.2.1,(Gf c k q (GX { s with clk:=s.clk+1 } i (IntKind.wrap .i64 ((nth s.all i).pc+4))) s.clk i op A' B' C').2.2.2) else (⟨s.clk,i,(nth s.all i).pc,op,(Gf c k q (GX { s with clk:=s.clk+1 } i (IntKind.wrap .i64 ((nth s.all i).pc+4))) s.clk i op A' B' C').2.1,0⟩,Fd c (Gf c k q (GX { s with clk:=s.clk+1 } i (IntKind.wrap .i64 ((nth s.all i).pc+4))) s.clk i op A' B' C').2.2.1 s.clk i (nth s.all i).pc (Gf c k q (GX { s with clk:=s.clk+1 } i (IntKind.wrap .i64 ((nth s.all i).pc+4))) s.clk i op A' B' C').2.1,(Gf c k q (GX { s with clk:=s.clk+1 } i (IntKind.wrap .i64 ((nth s.all i).pc+4))) s.clk i op A' B' C').2.2.2)):=rfl
      rw [eg] at kk
      clear eg
      generalize (Gf c k q (GX { s with clk:=s.clk+1 } i (IntKind.wrap .i64 ((nth s.all i).pc+4))) s.clk i op A' B' C')=d at *
      obtain ⟨dv,df,ds,dq⟩:=d
      simp only at k1 k2 k3 k4 p7 r5 kk
      have n5:=x5.next
      have w5:Wr h (fun j=>IP pp lg w a f j∨I j) h5:=Wr.trans (by repeat (first | exact wc.mono (fun _ e=>Or.inl (Or.inl e)) | refine Wr.alloc ?_ | refine Wr.put ?_ (.inl (by omega)) | refine Wr.put ?_ (.inr (.inl (.inr (.inr (.inr (.inl rfl)))))))) x5 (fun j _ e=>e.imp (fun e=>e.elim .inl (fun e=>e.elim (fun e=>.inr (.inr (.inl e))) (fun e=>.inr (.inr (.inr (.inl e)))))) (fun z=>z))
      have g1:=x5.get (h.next+1) (by simp only [go_sem];omega) (fun e=>e.elim (fun e=>e.elim fr1.1 (fun e=>e.elim fr1.2.2.2.1 fr1.2.2.2.2.1)) (fun e=>by have:=lw _ e;omega))
      have g0:=x5.get h.next (by simp only [go_sem];omega) (fun e=>e.elim (fun e=>e.elim fr0.1 (fun e=>e.elim fr0.2.2.2.1 fr0.2.2.2.2.1)) (fun e=>Nat.lt_irrefl _ (lw _ e)))
      have na1:=fr1.2.2.2.2.1
      have na0:=fr0.2.2.2.2.1
      simp (disch:=omega)only[go_sem] at g0 g1 n5 i5
      have l5:=p7.lim
      have iN:∀ j,I5 j→I j∨h.next≤j:=fun j e=>(i5 j e).imp (fun z=>z) (fun z=>by omega)
      have dj5:=dj.new p iN
      have two:∀ {H':AH},Wr h5 (fun j=>j=h.next∨j=h.next+1) H'→PA b H' pp tb lg w a f c ds∧k.R dq H' I5:=fun x=>⟨p7.same x (fun j e=>e.elim (fun e=>e▸fr0) (fun e=>e▸fr1)),ok.keep r5 x (fun j e1 e2=>by
       rcases i5 j e1 with z | z
       ·have:=lw j z;omega
       ·omega)⟩
      clear p6 p7 x5 p2 wc r5
      have w1:∀ x,Wr h5 (fun j=>j=h.next∨j=h.next+1) (h5.put (h.next+1) x):=fun _=>Wr.refl.put (.inr (.inr rfl))
      by_cases hd:df=0
      ·subst hd
       rw [if_pos rfl] at kk
       clear p
       simp (disch:=omega)only[go_sem, *]
       exact kk _ a f I5 ((ZP.of w5 iN (.same Wr.refl)).put (Nat.le_succ h.next) |>.put (Nat.le_refl h.next)) (two ((w1 _).put (.inr (.inl rfl)))).2 dj5 (two ((w1 _).put (.inr (.inl rfl)))).1
      ·rw [if_neg hd] at kk
       clear p
       simp (disch:=omega)only[go_sem, *]
       obtain ⟨y1,y2⟩:=two (w1 ⟨6,[[.i .i64 s.clk,.i .i64 i,.i .i64 (nth s.all i).pc,.i .i64 op,.i .i64 df,.i .u32 0]]⟩)
       refine I6 y1 g (by rw [y1.l2,k4];exact hl) (k1.trans hh) (by rw [k2,k3];omega) (hpl.trans k4.symm) ?_
       intro h4 a4 f4 pt p4;have l4:=p4.lim
       obtain ⟨-,g3⟩:=y1.box (k:=⟨0,[]⟩) pt p4 (j:=h.next+1) (by simp only [go_sem];omega) fr1
       obtain ⟨-,g2⟩:=y1.box (k:=⟨0,[]⟩) pt p4 (j:=h.next) (by simp only [go_sem];omega) fr0
       have p5:=(y1.box (k:=⟨6,[[.i .i64 s.clk,.i .i64 i,.i .i64 (nth s.all i).pc,.i .i64 op,.i .i64 df,.i .u32 0]]⟩) pt p4 (j:=h.next) (by simp only [go_sem];omega) fr0).1
       have r4:=ok.keep (J:=(·=h.next)) (ok.keep y2 pt.w (fun j e=>dj5.ip e)) (Wr.put (k:=⟨6,[[.i .i64 s.clk,.i .i64 i,.i .i64 (nth s.all i).pc,.i .i64 op,.i .i64 df,.i .u32 0]]⟩) Wr.refl (.inr rfl)) (fun j e1 e2=>by
        rcases i5 j e1 with z | z
        ·have:=lw j z;omega
        ·omega)
       have fin:=kk _ a4 f4 I5 ((ZP.of (by repeat (first | exact w5 | refine Wr.put ?_ (.inl (by omega)))) iN pt).put (Nat.le_refl _)) r4 (dj5.keep (ok.low y2) pt.a pt.f) p5
       simp (disch:=omega)only[go_sem,g0] at g2
       simp (disch:=omega)only[go_sem] at g3
       clear kk pt p4 p5 w5 two y1 y2 r4
       simp (disch:=omega)only[go_sem, *]
       exact fin
end
end Go.Ab.T
namespace Go.Ab.T
open Go Go.Ab
set_option maxHeartbeats 8000000
theorem KB {xs:List (List V)}:Pf tp Wp [.fl 1 xs] (.fl 1 xs):=by
 refine AG aDM (by simp [NH]) fun rp=>?_;unfold NH;simp (disch:=omega)only[go_sem, *]
 have hb:=rp.head.big
 intro t ht
 cases t
 ·simp (disch:=omega)only[go_sem, *]
  refine Az (R:=[]) (Sl.nil' 0 _ _) (Nat.le_refl _) (Nat.le_refl _) (by simp;omega) ?_
  intro w h4 s4 g4
  simp (disch:=omega)only[go_sem, *]
  exact s4.froze' rp.head.frzr trivial (by simp;omega)
 ·simp (disch:=omega)only[go_sem, *]
  have:xs=[]:=by
   rcases List.eq_nil_or_concat xs with h | ⟨l,a,h⟩
   ·exact h
   ·exact absurd (ht (by rw [h];simp)) (by simp)
  rw [this]
theorem Ii {xs:List (List V)}:Pf tp Wq [.fl 1 xs] (.fl 1 xs):=by
 refine AG aDN (by simp [NI]) fun rp=>?_;unfold NI;simp (disch:=omega)only[go_sem, *]
 have hb:=rp.head.big
 intro t ht
 cases t
 ·simp (disch:=omega)only[go_sem, *]
  refine Az (R:=[]) (Sl.nil' 0 _ _) (Nat.le_refl _) (Nat.le_refl _) (by simp;omega) ?_
  intro w h4 s4 g4
  simp (disch:=omega)only[go_sem, *]
  exact s4.froze' rp.head.frzr trivial (by simp;omega)
 ·simp (disch:=omega)only[go_sem, *]
  have:xs=[]:=by
   rcases List.eq_nil_or_concat xs with h | ⟨l,a,h⟩
   ·exact h
   ·exact absurd (ht (by rw [h];simp)) (by simp)
  rw [this]
def Ig (c:PC):PS:=⟨Ep (nth c.c.parts c.p).procs,Ld (nth c.c.parts c.p).procs,List.replicate 16 0,[],false,0⟩
def Fu (C:Ao) (p:Nat) (prog ins:List Int):PC:=⟨C,p,prog.take 512,ins,(nth C.parts p).h0,(nth C.parts p).h1,(nth C.parts p).h2,(nth C.parts p).h3,(nth C.parts p).h4⟩
theorem RF {n:Nat}:F4 (List.replicate n 0):=fun z hz=>by rw [(List.mem_replicate.1 hz).2];decide
theorem Tz (L:List Bd):BM (Ep L)=Ep L:=by unfold BM Ep;rw [List.map_map];rfl
section
variable {h:AH} {C:Ao} {prog ins:List Int} {K:V→AH→Prop}
theorem iO {p:Int} (hnm:IC C) (hp:(Bh C).1≠0∨p<0∨(C.parts.length:Int)≤p) {x y:V} (kk:∀ h',Au h h'→K .np h'):Cq tp Qh [.agg C.enc,.i .i64 p,x,y] h K:=by
 have rt:=JA hnm
 have f:=kk (h.alloc ⟨3,[C.enc]⟩) (by (repeat (first | exact Au.refl _ | refine Au.alloc ?_ _ | (refine Au.put ?_ _ _ ?_;rotate_left;(first | omega | (simp only [Ag,Ai];omega))))))
 clear kk
 refine Ac V2 (by simp [Md]) fun wf rp=>?_;unfold Md;simp (disch:=omega)only[go_sem, *]
 refine Pf.go rt (by simp only [go_sem]) fun _=>?_
 clear rt
 by_cases q:(Bh C).1=0
 ·rw [q]
  by_cases q1:p<0
  ·simp (disch:=omega)only[go_sem, *]
   exact f
  ·have q2:(C.parts.length:Int)≤p:=by omega
   simp (disch:=omega)only[go_sem, *]
   exact f
 ·simp (disch:=omega)only[go_sem, *]
  exact f
theorem LW {p : Nat} (hnm : IC C) (hr : (Bh C).1 = 0) (hp : p < C.parts.length) (h1 : 1 ≤ (nth C.parts p).procs.length) (h3 : (nth C.parts p).procs.length ≤ 3) (hl : prog.length < 4000000000)
    (kk:∀ h' pp tb lg w a,Au h h'→PA h.next h' pp tb lg w a .ns (Fu C p prog ins) (Ig (Fu C p prog ins))→K (.p pp 0 0) h'):Cq tp Qh [.agg C.enc,.i .i64 p,.fl 1 (prog.map EB),.fl 1 (ins.map Fh)] h K:=by
 have rt:=JA hnm
 rw [hr] at rt
 have cp:=eF (C:=C)
 simp only [Ao.enc] at cp
 have c1:=KB (xs:=(prog.take 512).map EB)
 have c2:=Ii (xs:=ins.map Fh)
 refine Ac V2 (by simp [Md]) fun wf rp=>?_
 have hlo:=wf.1
 unfold Md
 simp (disch:=omega)only[go_sem, *]
 refine Pf.go rt (by simp only [go_sem]) fun _=>?_
 have z1:¬ (p:Int)<0:=by omega
 have z2:¬ (C.parts.length:Int)≤p:=by omega
 simp (disch:=omega)only[go_sem, *]
 refine Pf.go cp (by simp only [go_sem]) fun _=>?_
 have et:List.take (min (prog.length:Int) 512).toNat (prog.map EB)=(prog.take 512).map EB:=by
  rw [List.map_take,List.take_eq_take_iff,List.length_map];omega
 simp (disch:=omega)only[go_sem, *]
 refine Pf.go c1 (by simp only [go_sem]) fun _=>?_
 simp (disch:=omega)only[go_sem, *]
 refine Pf.go c2 (by simp only [go_sem]) fun _=>?_
 simp (disch:=omega)only[go_sem, *]
 refine gB ?_
 intro h2 x2 n2 g2
 have g0:=x2.get h.next (by simp only [go_sem];omega)
 have gb:=fun j (hj:j<h.next)=>x2.get j (by simp only [go_sem];omega)
 simp (disch:=omega)only[go_sem] at g0 g2 n2
 have gb2:∀ j,j<h.next→h2.get j=h.get j:=fun j hj=>by
  have:=gb j hj
  simp (disch:=omega)only[go_sem] at this
  exact this
 clear gb x2
 simp (disch:=omega)only[go_sem, *]
 refine nF h1 h3 ?_
 intro h4 tb w x4 l4 lt4 gt4 sw4 ne4
 have q0:=x4.get (h.next+3) (by simp only [go_sem];omega)
 have q1:=x4.get (h.next+2) (by simp only [go_sem];omega)
 have q2:=x4.lim
 have q3:=x4.next
 simp (disch:=omega)only[go_sem, *] at q0 q1 q2 q3
 simp (disch:=omega)only[go_sem] at l4
 have sw5:=Sl.weak (b':=h.next) sw4 (by simp only [go_sem];omega)
 have wn:AD w≠true:=fun z=>by
  rcases sw4 with ⟨_,z⟩ | ⟨_,_,_,_,rfl,_⟩
  ·have z:=congrArg List.length z;rw [List.length_map,Ep,List.length_map] at z;simp only [List.length_nil] at z;omega
  ·simp [AD] at z
 have wlo:=(Ay sw4).resolve_left wn
 have wlt:=(FD sw4).resolve_left wn
 simp (disch:=omega)only[go_sem] at wlo
 have glow:∀ j,j<h.next→h4.get j=h.get j:=fun j hj=>by
  have:=x4.get j (by simp only [go_sem];omega)
  simp (disch:=omega)only[go_sem] at this
  exact this.trans (gb2 j hj)
 clear x4 sw4 gb2
 simp (disch:=omega)only[go_sem, *]
 refine Ms (b:=h.next) (pp:=h.next+1+2) (tb:=tb) (lg:=h.next+1+1) (w:=w) (a:=.ns) (c:=Fu C p prog ins) (mem:=List.replicate 16 0) (clk:=0) (P:=Ep (nth C.parts p).procs) (by rw [Ad,Aw rfl];rfl) (by simp) (by rw [Ad,Af (by omega)];exact gt4) (AI sw5 _ _ (.inr (by omega))) (by simp only [go_sem];omega) (by omega) (by omega) ne4 (by omega) (by simp only [go_sem];omega) hp h3 ?_
 intro h5 a5 x5 gp5 sw6 sa5
 have an:AD a5≠true:=fun z=>by
  rcases sa5 with ⟨_,z⟩ | ⟨_,_,_,_,rfl,_⟩
  ·have z:=congrArg List.length z
   rw [List.length_map,Ld,List.length_map] at z
   have z:(nth C.parts p).procs.length=0:=z
   omega
  ·simp [AD] at z
 have alo:=(Ay sa5).resolve_left an
 have alt:=(FD sa5).resolve_left an
 have n5:=x5.next
 have m5:=x5.lim
 simp (disch:=omega)only[go_sem] at alo n5 m5
 rw [Tz] at sw6
 have PA5:PA h.next h5 (h.next+1+2) tb (h.next+1+1) w a5 .ns (Fu C p prog ins) (Ig (Fu C p prog ins)):=by
  refine ⟨gp5, ?_, ?_,sw6,Sl.weak sa5 (by simp only [go_sem];omega),Sl.nil _ _ _,by omega,⟨by omega,by omega,by omega⟩,⟨by omega,by omega,by omega⟩,⟨by omega,by omega,by omega⟩,⟨by omega,by omega,by omega⟩,⟨by omega,by omega,by omega,by omega⟩,.inl rfl, ?_, ?_,by simp [Ig], ?_,RF,⟨by simp [Ig],by simp [Ig]⟩⟩
  ·rw [x5.get tb (by simp only [go_sem];omega) (fun e=>e.elim (by omega) (by omega)),Ad,Af (by omega)];exact gt4
  ·rw [x5.get (h.next+1+1) (by simp only [go_sem];omega) (fun e=>e.elim (by omega) (by omega)),Ad,Af (by omega)];exact q1
  ·show 1≤(Ep (nth C.parts p).procs).length∧(Ep (nth C.parts p).procs).length≤3
   rw [Ep,List.length_map];exact ⟨h1,h3⟩
  ·show (Ld (nth C.parts p).procs).length=(Ep (nth C.parts p).procs).length
   rw [Ep,Ld,List.length_map,List.length_map]
  ·intro x hx
   obtain ⟨y,-,rfl⟩:=List.mem_map.1 (show x∈(nth C.parts p).procs.map fun x=>(⟨List.replicate 8 0,x.entry⟩:ST) from hx)
   exact ⟨by simp,RF⟩
 have fin:=kk h5 _ _ _ _ _ ⟨by omega,by omega,fun j hj=>by rw [x5.get j (by simp only [go_sem];omega) (fun e=>e.elim (by omega) (by omega)),Ad,Af (by omega)];exact glow j hj⟩ PA5
 clear kk PA5 x5 glow
 simp (disch:=omega)only[go_sem, *]
end
end Go.Ab.T
namespace Go.Ab.T
open Go Go.Ab
set_option maxHeartbeats 8000000
@[go_sem] theorem aQW:EX .ptr .np .np=some true:=rfl
@[go_sem] theorem aSn {i j k:Nat}:EX .ptr (.p i j k) .np=some false:=rfl
theorem FT.eq (a b:FT):a=b↔a.t=b.t∧a.proc=b.proc∧a.kind=b.kind:=by cases a;cases b;simp
theorem PR.eq (a b:PR):a=b↔a.prio=b.prio∧a.wake=b.wake∧a.ended=b.ended:=by cases a;cases b;simp
theorem aE3 {l:List Int} (h:l.length=8):l=[nth l 0,nth l 1,nth l 2,nth l 3,nth l 4,nth l 5,nth l 6,nth l 7]:=by
 match l,h with
 | [a,b,c,d,e,f,g,i],_=>rfl
theorem ST.lit {x:ST} (h:x.r.length=8):x.enc=[.i .u32 (nth x.r 0),.i .u32 (nth x.r 1),.i .u32 (nth x.r 2),.i .u32 (nth x.r 3),.i .u32 (nth x.r 4),.i .u32 (nth x.r 5),.i .u32 (nth x.r 6),.i .u32 (nth x.r 7),.i .i64 x.pc]:=by
 unfold ST.enc
 rw [aE3 h];rfl
theorem ST.eq {a b:ST} (h:a.r.length=8) (h2:b.r.length=8):a=b↔nth a.r 0=nth b.r 0∧nth a.r 1=nth b.r 1∧nth a.r 2=nth b.r 2∧nth a.r 3=nth b.r 3∧nth a.r 4=nth b.r 4∧nth a.r 5=nth b.r 5∧nth a.r 6=nth b.r 6∧nth a.r 7=nth b.r 7∧a.pc=b.pc:=by
 refine ⟨fun e=>by rw [e];simp,fun ⟨e0,e1,e2,e3,e4,e5,e6,e7,e8⟩=>?_⟩
 obtain ⟨r,pc⟩:=a
 obtain ⟨r',pc'⟩:=b
 simp only at *
 rw [aE3 h,aE3 h2,e0,e1,e2,e3,e4,e5,e6,e7,e8]
theorem Py {L M:List FT}:Pf tp WD [.fl 3 (L.map FT.enc),.fl 3 (M.map FT.enc)] (.b (decide (L=M))):=by
 refine AG aDY (by simp [NT]) fun rp=>?_;unfold NT;simp (disch:=omega)only[go_sem, *]
 have hL:=rp.head.len
 have hM:=rp.tail.head.len
 refine Aa (fun hc=>?_) (fun hc=>?_)
 ·simp (disch:=omega)only[go_sem, *]
  simp only [false_eq_decide_iff]
  rintro rfl;exact hc rfl
 ·simp (disch:=omega)only[go_sem, *]
  refine Ah (fun n e h=>∃ (i:Nat),n=L.length - i∧h.lim=0∧e 0=.fl 3 (L.map FT.enc)∧e 1=.fl 3 (M.map FT.enc)∧e 12=.i .i64 L.length∧e 13=.i .i64 i∧i≤L.length∧L.take i=M.take i) ?_ _ _ _ ⟨0,rfl, ?_⟩
  ·rintro n e h ⟨i,rfl,hl,e0,e1,e12,e13,hi,hz⟩ ih
   rw [An nV.eq_1]
   simp (disch:=omega)only[go_sem, *]
   refine Aa (fun hc2=>?_) (fun hc2=>?_)
   ·simp (disch:=omega)only[go_sem, *]
    refine Aa (fun hc3=>?_) (fun hc3=>?_)
    ·simp (disch:=omega)only[go_sem, *]
     simp only [false_eq_decide_iff]
     exact VT (i:=i) (by omega) (fun h=>hc3 (((FT.eq _ _).1 h)))
    ·have he:=(FT.eq (nth L i) (nth M i)).2 (Decidable.not_not.1 hc3)
     simp (disch:=omega)only[go_sem, *]
     refine ih _ _ _ ?_ ⟨i+1,rfl, ?_⟩
     ·omega
     ·simp (disch:=omega)only[go_sem, *]
      ((repeat' refine And.intro ?_ ?_)<;>first | omega | assumption | (exact Lz (by omega) (by omega) hz he))
   ·simp (disch:=omega)only[go_sem, *]
    simp only [true_eq_decide_iff]
    rw [List.take_of_length_le (by omega),List.take_of_length_le (by omega)] at hz
    exact hz
  ·simp (disch:=omega)only[go_sem, *]
   first | done | simp
theorem Pz {L M:List PR}:Pf tp WP [.fl 3 (L.map PR.enc),.fl 3 (M.map PR.enc)] (.b (decide (L=M))):=by
 refine AG aEh (by simp [Oh]) fun rp=>?_;unfold Oh;simp (disch:=omega)only[go_sem, *]
 have hL:=rp.head.len
 have hM:=rp.tail.head.len
 refine Aa (fun hc=>?_) (fun hc=>?_)
 ·simp (disch:=omega)only[go_sem, *]
  simp only [false_eq_decide_iff]
  rintro rfl;exact hc rfl
 ·simp (disch:=omega)only[go_sem, *]
  refine Ah (fun n e h=>∃ (i:Nat),n=L.length - i∧h.lim=0∧e 0=.fl 3 (L.map PR.enc)∧e 1=.fl 3 (M.map PR.enc)∧e 12=.i .i64 L.length∧e 13=.i .i64 i∧i≤L.length∧L.take i=M.take i) ?_ _ _ _ ⟨0,rfl, ?_⟩
  ·rintro n e h ⟨i,rfl,hl,e0,e1,e12,e13,hi,hz⟩ ih
   rw [An nZ.eq_1]
   simp (disch:=omega)only[go_sem, *]
   refine Aa (fun hc2=>?_) (fun hc2=>?_)
   ·simp (disch:=omega)only[go_sem, *]
    refine Aa (fun hc3=>?_) (fun hc3=>?_)
    ·simp (disch:=omega)only[go_sem, *]
     simp only [false_eq_decide_iff]
     exact VT (i:=i) (by omega) (fun h=>hc3 (((PR.eq _ _).1 h)))
    ·have he:=(PR.eq (nth L i) (nth M i)).2 (Decidable.not_not.1 hc3)
     simp (disch:=omega)only[go_sem, *]
     refine ih _ _ _ ?_ ⟨i+1,rfl, ?_⟩
     ·omega
     ·simp (disch:=omega)only[go_sem, *]
      ((repeat' refine And.intro ?_ ?_)<;>first | omega | assumption | (exact Lz (by omega) (by omega) hz he))
   ·simp (disch:=omega)only[go_sem, *]
    simp only [true_eq_decide_iff]
    rw [List.take_of_length_le (by omega),List.take_of_length_le (by omega)] at hz
    exact hz
  ·simp (disch:=omega)only[go_sem, *]
   first | done | simp
theorem PB {L M:List ST} (hA:∀ x∈L,x.r.length=8) (hB:∀ x∈M,x.r.length=8):Pf tp Wz [.fl 9 (L.map ST.enc),.fl 9 (M.map ST.enc)] (.b (decide (L=M))):=by
 refine AG aDW (by simp [NR]) fun rp=>?_;unfold NR;simp (disch:=omega)only[go_sem, *]
 have hL:=rp.head.len
 have hM:=rp.tail.head.len
 refine Aa (fun hc=>?_) (fun hc=>?_)
 ·simp (disch:=omega)only[go_sem, *]
  simp only [false_eq_decide_iff]
  rintro rfl;exact hc rfl
 ·simp (disch:=omega)only[go_sem, *]
  refine Ah (fun n e h=>∃ (i:Nat),n=L.length - i∧h.lim=0∧e 0=.fl 9 (L.map ST.enc)∧e 1=.fl 9 (M.map ST.enc)∧e 12=.i .i64 L.length∧e 13=.i .i64 i∧i≤L.length∧L.take i=M.take i) ?_ _ _ _ ⟨0,rfl, ?_⟩
  ·rintro n e h ⟨i,rfl,hl,e0,e1,e12,e13,hi,hz⟩ ih
   rw [An nT.eq_1]
   simp (disch:=omega)only[go_sem, *]
   refine Aa (fun hc2=>?_) (fun hc2=>?_)
   ·have l1:=ST.lit (hA _ (AP (L:=L) (j:=i) (by omega)))
    have l2:=ST.lit (hB _ (AP (L:=M) (j:=i) (by omega)))
    have eq:=ST.eq (hA _ (AP (L:=L) (j:=i) (by omega))) (hB _ (AP (L:=M) (j:=i) (by omega)))
    simp (disch:=omega)only[go_sem, *]
    refine Aa (fun hc3=>?_) (fun hc3=>?_)
    ·simp (disch:=omega)only[go_sem, *]
     simp only [false_eq_decide_iff]
     exact VT (i:=i) (by omega) (fun h=>hc3 ((eq.1 h)))
    ·have he:=eq.2 (Decidable.not_not.1 hc3)
     simp (disch:=omega)only[go_sem, *]
     refine ih _ _ _ ?_ ⟨i+1,rfl, ?_⟩
     ·omega
     ·simp (disch:=omega)only[go_sem, *]
      ((repeat' refine And.intro ?_ ?_)<;>first | omega | assumption | (exact Lz (by omega) (by omega) hz he))
   ·simp (disch:=omega)only[go_sem, *]
    simp only [true_eq_decide_iff]
    rw [List.take_of_length_le (by omega),List.take_of_length_le (by omega)] at hz
    exact hz
  ·simp (disch:=omega)only[go_sem, *]
   first | done | simp
section
variable {b pp tb lg:Nat} {h:AH} {w a f:V} {c:PC} {s:PS} {K:V→AH→Prop}
theorem HF (p:PA b h pp tb lg w a f c s) (kk:K (.i .i64 s.clk) h):Cq tp aEW [.p pp 0 0] h K:=by
 have gp:=p.gp
 have f25:=AF.f25 (c:=c) (tb:=tb) (lg:=lg) (a:=a) (mem:=s.mem) (clk:=s.clk) p.l3
 have rl:=AF.len (c:=c) (tb:=tb) (lg:=lg) (a:=a) (clk:=s.clk) p.l3
 clear p
 refine Ac aQr (by simp [YO]) fun wf rp=>?_;unfold YO;simp (disch:=omega)only[go_sem, *]
theorem SB {R:List (List V)} (sf:Sl b h 3 f R) (hl:h.lim≤h.next) (hR:R.length<4000000000) (kk:∀ r h',Sl h.next h' 3 r R→Au h h'→K r h'):Cq tp Xa [f] h K:=by
 have hr:=sf.rows
 rcases sf with ⟨hv,rfl⟩ | ⟨i,el,cap,cs,rfl,hg,a1,a2,a3,a4,a5,a6⟩
 ·rcases hv with rfl | rfl
  ·have k:=kk .ns h (Sl.nil _ _ _) (Au.refl h)
   clear kk
   refine Ac PJ (by simp [G9]) fun wf rp=>?_;unfold G9;simp (disch:=omega)only[go_sem, *]
  ·refine Ac PJ (by simp [G9]) fun wf rp=>?_;unfold G9;simp (disch:=omega)only[go_sem, *]
   refine Az (R:=[]) (Sl.nil' h.next _ _) hl (Nat.le_refl _) (by simp) ?_
   intro w h4 s4 g4
   simp (disch:=omega)only[go_sem, *]
   exact kk _ _ s4 ⟨g4.next,g4.lim,g4.low⟩
 ·refine Ac PJ (by simp [G9]) fun wf rp=>?_;unfold G9;simp (disch:=omega)only[go_sem, *]
  refine Az (R:=[]) (Sl.nil' h.next _ _) hl (Nat.le_refl _) (by simp;omega) ?_
  intro w h4 s4 g4
  simp (disch:=omega)only[go_sem, *]
  exact kk _ _ s4 ⟨g4.next,g4.lim,g4.low⟩
theorem RI {l:List Int} (h:l.length=16):l=[nth l 0,nth l 1,nth l 2,nth l 3,nth l 4,nth l 5,nth l 6,nth l 7,nth l 8,nth l 9,nth l 10,nth l 11,nth l 12,nth l 13,nth l 14,nth l 15]:=by
 match l,h with
 | [a,b,c,d,e,f,g,i,a',b',c',d',e',f',g',i'],_=>rfl
theorem aSk {l m:List Int} (h:l.length=16) (h2:m.length=16):l=m↔nth l 0=nth m 0∧nth l 1=nth m 1∧nth l 2=nth m 2∧nth l 3=nth m 3∧nth l 4=nth m 4∧nth l 5=nth m 5∧nth l 6=nth m 6∧nth l 7=nth m 7∧nth l 8=nth m 8∧nth l 9=nth m 9∧nth l 10=nth m 10∧nth l 11=nth m 11∧nth l 12=nth m 12∧nth l 13=nth m 13∧nth l 14=nth m 14∧nth l 15=nth m 15:=by
 refine ⟨fun e=>by rw [e];simp,fun ⟨e0,e1,e2,e3,e4,e5,e6,e7,e8,e9,f0,f1,f2,f3,f4,f5⟩=>?_⟩
 rw [RI h,RI h2,e0,e1,e2,e3,e4,e5,e6,e7,e8,e9,f0,f1,f2,f3,f4,f5]
theorem fZ {h0 h1 h2 h3 h4:Int} {st:Bool} {R:List (List V)} (gl:h.get lg=some ⟨7,[[.i .i64 h0,.i .i64 h1,.i .i64 h2,.i .i64 h3,.i .i64 h4,f,.b st]]⟩) (sf:Sl b h 3 f R) (hR:R.length<4000000000) (kk:∀ r h',Sl h.next h' 3 r R→Au h h'→K r h'):Cq tp WR [.p lg 0 0] h K:=by
 refine Ac aEi (by simp [Oi]) fun wf rp=>?_;unfold Oi;simp (disch:=omega)only[go_sem, *]
 refine SB sf wf.1 hR ?_
 intro r h' s1 x1
 have k:=kk r h' s1 x1
 clear kk sf
 simp (disch:=omega)only[go_sem, *]
theorem Jv {mem fl:List (List V)} {st:Bool} {rw:List V} (gp:h.get pp=some ⟨26,[rw]⟩) (f24:rw[24]?=some (.p lg 0 0)) (rl:rw.length=26) (gl:h.get lg=some ⟨7,[[.i .i64 c.h0,.i .i64 c.h1,.i .i64 c.h2,.i .i64 c.h3,.i .i64 c.h4,f,.b st]]⟩) (sf:Sl b h 3 f fl) (hR:fl.length<4000000000) (kk:∀ r h',Sl h.next h' 3 r fl→Au h h'→K r h'):Cq tp Rj [.p pp 0 0] h K:=by
 refine Ac aDZ (by simp [NU]) fun wf rp=>?_;unfold NU;simp (disch:=omega)only[go_sem, *]
 refine fZ gl sf hR ?_
 intro r h' s1 x1
 have k:=kk r h' s1 x1
 clear kk sf
 simp (disch:=omega)only[go_sem, *]
theorem Qs (p:PA b h pp tb lg w a f c s) (kk:∀ r h',Sl h.next h' 3 r (s.fl.map FT.enc)→Au h h'→K r h'):Cq tp Rj [.p pp 0 0] h K:=
 Jv (mem:=[]) p.gp (AF.f24 p.l3) (AF.len p.l3) p.gl p.sf (by rw [List.length_map];have:=p.l6;omega) kk
theorem Ya {st:Bool} {rw:List V} (gp:h.get pp=some ⟨26,[rw]⟩) (f24:rw[24]?=some (.p lg 0 0)) (rl:rw.length=26) (gl:h.get lg=some ⟨7,[[.i .i64 c.h0,.i .i64 c.h1,.i .i64 c.h2,.i .i64 c.h3,.i .i64 c.h4,f,.b st]]⟩) (kk:K (.b st) h):Cq tp gF [.p pp 0 0] h K:=by
 refine Ac oW (by simp [QI]) fun wf rp=>?_;unfold QI;simp (disch:=omega)only[go_sem, *]
 refine MN gl ?_
 simp (disch:=omega)only[go_sem, *]
theorem X7 {i:Nat} (p:PA b h pp tb lg w a f c s) (hi:i<s.all.length) (kk:∀ h',Au h h'→K (.agg [.i .u32 (nth (nth s.all i).r 0),.i .u32 (nth (nth s.all i).r 1),.i .u32 (nth (nth s.all i).r 2),.i .u32 (nth (nth s.all i).r 3),.i .u32 (nth (nth s.all i).r 4),.i .u32 (nth (nth s.all i).r 5),.i .u32 (nth (nth s.all i).r 6),.i .u32 (nth (nth s.all i).r 7)]) h'):Cq tp Wl [.p pp 0 0,.i .i64 i] h K:=by
 obtain ⟨sg,sr,slt,slo,sat,set⟩:=CX p.sa hi
 have hx:=p.l4 _ (AP hi)
 have gp:=p.gp
 have np:=p.np.1
 have lit:=ST.lit hx.1
 have len:=p.sa.facts.1
 have f7:=AF.f7 (c:=c) (tb:=tb) (lg:=lg) (a:=a) (mem:=s.mem) (clk:=s.clk)
 have rl:=AF.len (c:=c) (tb:=tb) (lg:=lg) (a:=a) (clk:=s.clk) p.l3
 have at0:=sat (A3 h a)
 rw [lit] at sr
 have z1:¬ (i:Int)<0:=by omega
 have z2:¬ (s.all.length:Int)≤i:=by omega
 have hlim:=p.lim
 have bp:=p.bp.1
 have fin:=kk ((h.alloc ⟨8,[[.i .u32 0,.i .u32 0,.i .u32 0,.i .u32 0,.i .u32 0,.i .u32 0,.i .u32 0,.i .u32 0]]⟩).put h.next ⟨8,[[.i .u32 (nth (nth s.all i).r 0),.i .u32 (nth (nth s.all i).r 1),.i .u32 (nth (nth s.all i).r 2),.i .u32 (nth (nth s.all i).r 3),.i .u32 (nth (nth s.all i).r 4),.i .u32 (nth (nth s.all i).r 5),.i .u32 (nth (nth s.all i).r 6),.i .u32 (nth (nth s.all i).r 7)]]⟩) (by (repeat (first | exact Au.refl _ | refine Au.alloc ?_ _ | (refine Au.put ?_ _ _ ?_;rotate_left;(first | omega | (simp only [Ag,Ai];omega))))))
 clear kk p
 refine Ac aDF (by simp [NB]) fun wf rp=>?_;unfold NB;simp (disch:=omega)only[go_sem, *]
theorem R1 (x:ST):x.enc.all Nz=true:=by unfold ST.enc;simp [Nz]
section
variable {b' tq:Nat} {w':V} {P Q:List PR}
theorem Zq (g1:h.get tb=some ⟨1,[[w]]⟩) (g2:h.get tq=some ⟨1,[[w']]⟩) (s1:Sl b h 3 w (P.map PR.enc)) (s2:Sl b' h 3 w' (Q.map PR.enc)) (h1:P.length≤3) (h2:Q.length≤3) (kk:K (.b (decide (P=Q))) h):Cq tp WA [.p tb 0 0,.p tq 0 0] h K:=by
 refine Ac aDX (by simp [NS]) fun wf rp=>?_;unfold NS;simp (disch:=omega)only[go_sem, *]
 refine Pf.look (Pz (L:=P) (M:=Q)) (.cons _ _ _ _ _ (Sl.froze (Sl.raise s1) (fun _=>rfl) trivial (by omega)) (.cons _ _ _ _ _ (Sl.froze (Sl.raise s2) (fun _=>rfl) trivial (by omega)) (.nil _))) rfl fun _=>?_
 simp (disch:=omega)only[go_sem, *]
end
theorem X9 (p:PA b h pp tb lg w a f c s) (kk:K (.b false) h):Cq tp W4 [.p pp 0 0,.np] h K:=by
 clear p
 refine Ac oX (by simp [QJ]) fun wf rp=>?_;unfold QJ;simp (disch:=omega)only[go_sem, *]
variable {pq tq lq:Nat} {w' a' f':V} {c':PC} {s':PS} {b':Nat}
theorem GY (p:PA b h pp tb lg w a f c s) (q:PA b' h pq tq lq w' a' f' c' s') (kk:∀ h',Au h h'→K (.b (decide (s.clk=s'.clk∧s.mem=s'.mem∧s.all=s'.all∧s.procs=s'.procs∧s.halt=s'.halt∧s.fl=s'.fl))) h'):Cq tp W4 [.p pp 0 0,.p pq 0 0] h K:=by
 have g1:=p.gp
 have g2:=q.gp
 have lit1:=RI p.l3
 have lit2:=RI q.l3
 have e16:=aSk p.l3 q.l3
 unfold AF at g1 g2
 rw [lit1] at g1
 rw [lit2] at g2
 clear lit1 lit2
 simp only [go_sem,List.map_cons,List.map_nil,List.cons_append,List.nil_append] at g1 g2
 refine Ac oX (by simp [QJ]) fun wf rp=>?_;unfold QJ;simp (disch:=omega)only[go_sem, *]
 have rb:h.raise.back h.lim=h:=Gq
 have no:¬ (s.clk=s'.clk∧s.mem=s'.mem∧s.all=s'.all∧s.procs=s'.procs∧s.halt=s'.halt∧s.fl=s'.fl)→K (.b false) h:=fun z=>by
  have:=kk h (Au.refl h)
  rwa [decide_eq_false z] at this
 refine Av (fun c1=>?_) (fun c1=>?_)
 rotate_left
 ·have:=no (fun z=>c1 z.1)
  clear kk no p q
  simp (disch:=omega)only[go_sem, *]
 have c1':s.clk=s'.clk:=c1
 clear c1
 simp (disch:=omega)only[go_sem, *]
 refine Av (fun c2=>?_) (fun c2=>?_)
 rotate_left
 ·have:=no (fun z=>c2 (e16.1 z.2.1))
  clear kk no p q
  simp (disch:=omega)only[go_sem, *]
 have c2':=e16.2 c2
 clear c2 e16
 simp (disch:=omega)only[go_sem, *]
 have l1:=p.l6
 have l2:=q.l6
 have l3:=p.l2
 have l4:=q.l2
 have l5:=p.l1
 have l7:=q.l1
 refine Pf.look (PB (L:=s.all) (M:=s'.all) (fun x hx=>(p.l4 x hx).1) (fun x hx=>(q.l4 x hx).1)) (.cons _ _ _ _ _ (Sl.froze (Sl.raise p.sa) (fun x=>R1 x) trivial (by omega)) (.cons _ _ _ _ _ (Sl.froze (Sl.raise q.sa) (fun x=>R1 x) trivial (by omega)) (.nil _))) rfl fun _=>?_
 simp (disch:=omega)only[go_sem, *]
 refine Av (fun c3=>?_) (fun c3=>?_)
 rotate_left
 ·have:=no (fun z=>c3 z.2.2.1)
  clear kk no p q
  simp (disch:=omega)only[go_sem, *]
 have c3':s.all=s'.all:=c3
 clear c3
 simp (disch:=omega)only[go_sem, *]
 refine Zq (h:=h.raise) (tb:=tb) (tq:=tq) (w:=w) (w':=w') (b:=b) (b':=b') (P:=s.procs) (Q:=s'.procs) p.gt q.gt (Sl.raise p.sw) (Sl.raise q.sw) l5.2 l7.2 ?_
 simp (disch:=omega)only[go_sem, *]
 refine Av (fun c4=>?_) (fun c4=>?_)
 rotate_left
 ·have:=no (fun z=>c4 z.2.2.2.1)
  clear kk no p q
  simp (disch:=omega)only[go_sem, *]
 have c4':s.procs=s'.procs:=c4
 clear c4
 simp (disch:=omega)only[go_sem, *]
 refine Ya (h:=h.raise) (c:=c) (lg:=lg) (f:=f) (st:=s.halt) p.gp (AF.f24 p.l3) (AF.len p.l3) p.gl ?_
 simp (disch:=omega)only[go_sem, *]
 refine Ya (h:=h.raise) (c:=c') (lg:=lq) (f:=f') (st:=s'.halt) q.gp (AF.f24 q.l3) (AF.len q.l3) q.gl ?_
 simp (disch:=omega)only[go_sem, *]
 rw [show h.raise.back (h.raise.back (h.raise.back (h.raise.back h.lim).lim).lim).lim=h from rfl]
 refine Av (fun c5=>?_) (fun c5=>?_)
 rotate_left
 ·have:=no (fun z=>c5 z.2.2.2.2.1)
  clear kk no p q
  simp (disch:=omega)only[go_sem, *]
 have c5':s.halt=s'.halt:=c5
 clear c5
 simp (disch:=omega)only[go_sem, *]
 have np:=p.np
 have nq:=q.np
 refine Jv (h:=h.raise) (b:=b) (c:=c) (lg:=lg) (f:=f) (st:=s.halt) (mem:=[]) (fl:=s.fl.map FT.enc) p.gp (AF.f24 p.l3) (AF.len p.l3) p.gl (Sl.raise p.sf) (by rw [List.length_map];omega) ?_
 intro r1 h1 s1 x1
 have x1':Au h (h1.back h.lim):=⟨x1.next,rfl,x1.get⟩
 have sf:=(q.sf).ext x1'
 have gp:=(x1'.get pq nq.1).trans q.gp
 have gl:=(x1'.get lq nq.2.2).trans q.gl
 have s1b:=Sl.back (l:=h.lim) s1
 simp (disch:=omega)only[go_sem, *]
 refine Jv (h:=(h1.back h.lim).raise) (b:=b') (c:=c') (lg:=lq) (f:=f') (st:=s'.halt) (mem:=[]) (fl:=s'.fl.map FT.enc) gp (AF.f24 q.l3) (AF.len q.l3) gl (Sl.raise sf) (by rw [List.length_map];omega) ?_
 intro r2 h2 s2 x2
 have x2':Au h (h2.back h.lim):=⟨Nat.le_trans x1.next x2.next,rfl,fun j hj=>(x2.get j (Nat.lt_of_lt_of_le hj x1.next)).trans (x1.get j hj)⟩
 have s1c:Sl h.next (h2.back h.lim) 3 r1 (s.fl.map FT.enc):=Sl.back (l:=h.lim) ((Sl.raise s1b).ext x2)
 have s2c:Sl h1.next (h2.back h.lim) 3 r2 (s'.fl.map FT.enc):=Sl.back (l:=h.lim) s2
 have fin:=kk _ x2'
 have er:(h2.back h.lim).raise.back h.lim=h2.back h.lim:=rfl
 simp (disch:=omega)only[go_sem, *]
 refine Pf.look (Py (L:=s.fl) (M:=s'.fl)) (.cons _ _ _ _ _ (Sl.froze (Sl.raise s1c) (fun _=>rfl) trivial (by omega)) (.cons _ _ _ _ _ (Sl.froze (Sl.raise s2c) (fun _=>rfl) trivial (by omega)) (.nil _))) rfl fun _=>?_
 have ed:decide (s.clk=s'.clk∧s.mem=s'.mem∧s.all=s'.all∧s.procs=s'.procs∧s.halt=s'.halt∧s.fl=s'.fl)=decide (s.fl=s'.fl):=by simp [c1',c2',c3',c4',c5']
 rw [ed] at fin
 clear kk no p q x1 x2 x1' x2' s1 s2 s1b s1c s2c sf gp gl ed
 simp (disch:=omega)only[go_sem, *]
end
end Go.Ab.T
namespace Go.Ab.T
open Go Go.Ab
set_option maxHeartbeats 8000000
def kAP (h1:Int) (two:Bool):Part:=⟨⟨#[97]⟩,0,0,false,false,if two=true then [⟨0,0⟩,⟨12,9⟩] else [⟨0,0⟩],0,h1,0,0,0⟩
def kA (h1:Int) (two:Bool):Ao:=⟨[kAP h1 two],[],[[⟨1,0,1⟩]]⟩
theorem Tt {L:List Bd} (h:(L.all Dw&&decide (1≤L.length∧L.length≤3))=true):BP L=true:=by unfold BP;exact h
theorem XB {h1:Int} {two:Bool} (hh:h1=0∨h1=2):Ef (kAP h1 two)=true:=by
 have:∀ t:Bool,BP (if t=true then [⟨0,0⟩,⟨12,9⟩] else [⟨0,0⟩])=true:=fun t=>by cases t<;>exact Tt (by decide)
 have:BP (kAP h1 two).procs=true:=this two
 unfold Ef
 rw [this]
 rcases hh with rfl | rfl<;>cases two<;>decide
theorem XC {h1:Int} {two:Bool} (hh:h1=0∨h1=2):Bh (kA h1 two)=(0,-1):=by
 rw [EL]
 refine ⟨⟨show 1≤1 by decide,show 1≤6 by decide,show 0≤8 by decide,show 1≤1 by decide,show 1≤3 by decide⟩,fun j hj=>?_,fun x hx=>(by cases hx),fun t ht=>?_⟩
 ·have hj:j<1:=hj
  obtain rfl:j=0:=by omega
  exact ⟨gM,rfl,XB hh⟩
 ·rw [List.mem_singleton.1 ht,Kp]
  refine ⟨aQv, ?_⟩
  rw [Ja]
  exact ⟨rfl,E9 _ _ fun p hp=>by rw [List.mem_singleton.1 hp];rfl⟩
theorem oZ {h1:Int} {two:Bool}:IC (kA h1 two):=fun p hp=>by
 rw [List.mem_singleton.1 hp]
 exact (by decide:(1:Nat)<4000000000)
section
variable {b pp tb lg:Nat} {h:AH} {w a f:V} {c:PC} {s s':PS} {l:Loc} {ok:Bool} {K:V→AH→Prop}
def CZ (c:PC) (s:PS):Loc×Bool×PS:=((Cm c noK () s).1,(Cm c noK () s).2.1,(Cm c noK () s).2.2.1)
theorem HM (p:PA b h pp tb lg w a f c s) (g:PG c) (n:PN c) (hpl:(nth c.c.parts c.p).procs.length=s.procs.length) (hk:s.clk+1<3000000000)
    (kk:∀ h' a' f',Pt pp lg w h a f h' a' f'→PA b h' pp tb lg w a' f' c (CZ c s).2.2→K (.tup [.agg (CZ c s).1.enc,.b (CZ c s).2.1]) h'):Cq tp SW [.p pp 0 0,.ni] h K:=
 jO (k:=noK) (q:=()) (I:=fun _=>False) (.inr ⟨rfl,rfl⟩) aFa (fun _ e=>e) (fun _ e=>e.elim) p g n hpl hk (fun h' a' f' I' x _ _ p'=>kk h' a' f' ⟨x.w.mono (fun _ e=>e.elim (fun z=>z) (fun z=>z.elim)),x.a,x.f⟩ p')
theorem Hb (e:CZ c s=(l,ok,s')) (p:PA b h pp tb lg w a f c s) (g:PG c) (n:PN c) (hpl:(nth c.c.parts c.p).procs.length=s.procs.length) (hk:s.clk+1<3000000000)
    (kk:∀ h' a' f',Pt pp lg w h a f h' a' f'→PA b h' pp tb lg w a' f' c s'→K (.tup [.agg l.enc,.b ok]) h'):Cq tp SW [.p pp 0 0,.ni] h K:=
 HM p g n hpl hk (by rw [e];exact kk)
theorem E5 (p:PA b h pp tb lg w a f c s) {j:Nat} (hj:h.next≤j):¬ IP pp lg w a f j:=by
 obtain ⟨e1,e2,e3,e4,e5,e6⟩:=p.fresh hj
 rintro (e | e | e | e | ⟨z,e⟩)
 ·exact e1 e
 ·exact e3 e
 ·exact e4 e
 ·exact e5 e
 ·exact (e6.resolve_left (by rw [z];decide)) e
theorem Cg {h':AH} {a' f':V} {j:Nat} (pt:Pt pp lg w h a f h' a' f') (hj:j<h.next) (hn:¬ IP pp lg w a f j):h'.get j=h.get j∧¬ IP pp lg w a' f' j:=
 ⟨pt.w.get j hj hn,fun e=>hn (pt.ip hj e)⟩
theorem Qt {p:Int} {x y:V} (kk:∀ h',Au h h'→K .np h'):Cq tp Qh [.agg [.ns,.ns,.ns],.i .i64 p,x,y] h K:=by
 have rt:=JA (C:=⟨[],[],[]⟩) (fun p hp=>by cases hp)
 have hw:=XA
 have f:=kk (h.alloc ⟨3,[[.ns,.ns,.ns]]⟩) (by (repeat (first | exact Au.refl _ | refine Au.alloc ?_ _ | (refine Au.put ?_ _ _ ?_;rotate_left;(first | omega | (simp only [Ag,Ai];omega))))))
 clear kk
 refine Ac V2 (by simp [Md]) fun wf rp=>?_;unfold Md;simp (disch:=omega)only[go_sem, *]
 refine Pf.look rt (.cons _ _ _ _ _ (.agg _ _ _ (.cons _ _ _ _ _ (.ns _ _) (.cons _ _ _ _ _ (.ns _ _) (.cons _ _ _ _ _ (.ns _ _) (.nil _))))) (.nil _)) rfl fun _=>?_
 simp (disch:=omega)only[go_sem, *]
end
theorem gL {h : AH} {C : Ao} {q f : Nat} {B : List Int} {sv vp vt : V} {K : V → AH → Prop} (hq : q < h.next) (g4 : h.get q = some ⟨3, [[vp, .ns, vt]]⟩) (hp : ∀ n, CD (· ≠ q) h n vp (.fl 11 (C.parts.map Part.enc))) (ht : ∀ n, CD (· ≠ q) h n vt (.fl 1 (C.tables.map Tab.enc))) (hc : C.chans = []) (hb : ∀ n, CD (· ≠ q) h n sv (.fl 1 (B.map EB)))
    (z:Cq tp f [.agg C.enc,.i .i64 ((0:Nat):Int),.fl 1 (B.map EB),.fl 1 (([]:List Int).map Fh)] ⟨fun i=>if i=q then some ⟨3,[C.enc]⟩ else none,h.next,h.lim⟩ K):Cq tp f [.agg [vp,.ns,vt],.i .i64 0,sv,.ns] h K:=by
 have en:C.enc=[.fl 11 (C.parts.map Part.enc),.fl 6 [],.fl 1 (C.tables.map Tab.enc)]:=by unfold Ao.enc;rw [hc];rfl
 rw [en] at z
 refine ZL (h2:=⟨fun i=>if i=q then some ⟨3,[[.fl 11 (C.parts.map Part.enc),.fl 6 [],.fl 1 (C.tables.map Tab.enc)]]⟩ else none,h.next,h.lim⟩) (args':=[.agg [.fl 11 (C.parts.map Part.enc),.fl 6 [],.fl 1 (C.tables.map Tab.enc)],.i .i64 ((0:Nat):Int),.fl 1 (B.map EB),.fl 1 (([]:List Int).map Fh)]) (fun i=>i≠q) rfl rfl (fun _ i k hk=>?_) (.cons _ _ _ _ _ (.agg _ _ _ (.cons _ _ _ _ _ (hp _) (.cons _ _ _ _ _ (.ns _ _) (.cons _ _ _ _ _ (ht _) (.nil _))))) (.cons _ _ _ _ _ (.z _ _ (.i _ _)) (.cons _ _ _ _ _ (hb _) (.cons _ _ _ _ _ (.ns _ _) (.nil _))))) z
 by_cases hi:i=q
 ·subst hi
  simp only [if_true] at hk
  cases hk
  exact ⟨hq,fun e=>e rfl,_,g4,.cons _ _ _ _ _ (.cons _ _ _ _ _ (hp _) (.cons _ _ _ _ _ (.ns _ _) (.cons _ _ _ _ _ (ht _) (.nil _)))) (.nil _)⟩
 ·simp only at hk
  rw [if_neg hi] at hk;cases hk
def kpP:List Int:=[1,1,0,7,5,2,1,3,11,0,1,0]
def ZB:PC:=Fu (kA 2 false) 0 kpP []
def TT (pc:Int) (r1:Int) (fl:List FT) (st:Bool) (clk:Int):PS:=⟨[⟨0,0,false⟩],[⟨[0,r1,0,0,0,0,0,0],pc⟩],List.replicate 16 0,fl,st,clk⟩
theorem kp0:Ig ZB=TT 0 0 [] false 0:=by decide +kernel
theorem kp1:CZ ZB (TT 0 0 [] false 0)=(⟨0,0,0,1,0,7⟩,true,TT 4 7 [] false 1):=by decide +kernel
theorem kp2:CZ ZB (TT 4 7 [] false 1)=(⟨1,0,4,5,4,0⟩,true,TT 8 7 [⟨1,0,4⟩] false 2):=by decide +kernel
theorem kp3:CZ ZB (TT 8 7 [⟨1,0,4⟩] false 2)=(⟨2,0,8,11,5,0⟩,true,TT 12 7 [⟨1,0,4⟩,⟨2,0,5⟩] false 3):=by decide +kernel
theorem kp4:CZ ZB (TT 12 7 [⟨1,0,4⟩,⟨2,0,5⟩] false 3)=(⟨3,0,12,0,2,0⟩,true,TT 12 7 [⟨1,0,4⟩,⟨2,0,5⟩,⟨3,0,2⟩] true 4):=by decide +kernel
theorem kp5:CZ ZB (TT 12 7 [⟨1,0,4⟩,⟨2,0,5⟩,⟨3,0,2⟩] true 4)=(⟨0,0,0,0,0,0⟩,false,TT 12 7 [⟨1,0,4⟩,⟨2,0,5⟩,⟨3,0,2⟩] true 4):=by decide +kernel
theorem kpG:PG ZB:=⟨by decide,by decide⟩
theorem kpN:PN ZB:=⟨by decide,fun z hz=>(by cases hz),by decide⟩
theorem Jj:Pf tp aEV [] (.b true):=by
 refine AG aQq (by simp [YN]) fun rp=>?_;unfold YN;simp (disch:=omega)only[go_sem, *]
 refine gL (q:=4) (C:=kA 2 false) (B:=kpP) (by simp only [go_sem]) (by simp only [go_sem]) (fun n=>?_) (fun n=>?_) rfl (fun n=>?_) ?_
 ·exact LF (by decide) rfl (.cons _ _ _ _ _ (.z _ _ (.s _)) (.cons _ _ _ _ _ (.z _ _ (.i _ _)) (.cons _ _ _ _ _ (.z _ _ (.i _ _)) (.cons _ _ _ _ _ (.z _ _ (.b _)) (.cons _ _ _ _ _ (.z _ _ (.b _)) (.cons _ _ _ _ _ (LF (by decide) rfl (.cons _ _ _ _ _ (.z _ _ (.i _ _)) (.cons _ _ _ _ _ (.z _ _ (.i _ _)) (.nil _)))) (.cons _ _ _ _ _ (.z _ _ (.i _ _)) (.cons _ _ _ _ _ (.z _ _ (.i _ _)) (.cons _ _ _ _ _ (.z _ _ (.i _ _)) (.cons _ _ _ _ _ (.z _ _ (.i _ _)) (.cons _ _ _ _ _ (.z _ _ (.i _ _)) (.nil _))))))))))))
 ·exact LF (by decide) rfl (.cons _ _ _ _ _ (LF (by decide) rfl (.cons _ _ _ _ _ (.z _ _ (.i _ _)) (.cons _ _ _ _ _ (.z _ _ (.i _ _)) (.cons _ _ _ _ _ (.z _ _ (.i _ _)) (.nil _))))) (.nil _))
 ·exact .sl _ _ _ _ _ _ _ _ (by decide) rfl (by decide) (by decide) (by decide) (DI.of_map (enc:=EB) (fun _=>rfl) kpP)
 refine LW (C:=kA 2 false) (p:=0) (prog:=kpP) (ins:=[]) oZ (by rw [XC (.inr rfl)]) (by decide) (by decide) (by decide) (by decide) ?_
 intro h1 pp tb lg w a x1 p0
 replace p0:PA 6 h1 pp tb lg w a .ns ZB (Ig ZB):=p0
 rw [kp0] at p0
 have c4:h1.get 4=some ⟨3,[(kA 2 false).enc]⟩:=x1.get 4 (by decide)
 have n4:6≤h1.next:=x1.next
 have eC:(kA 2 false).enc=[.fl 11 ((kA 2 false).parts.map Part.enc),.fl 6 ((kA 2 false).chans.map A1.enc),.fl 1 ((kA 2 false).tables.map Tab.enc)]:=rfl
 rw [eC] at c4
 clear x1 eC
 simp (disch:=omega)only[go_sem, *]
 refine iO (C:=kA 2 false) oZ (.inr (.inr (by decide))) ?_
 intro h2 x2
 have p1:=p0.ext x2
 clear p0 x2 c4
 simp (disch:=omega)only[go_sem, *]
 refine Qt ?_
 intro h3 x3
 have p2:=p1.ext x3
 clear p1 x3
 simp (disch:=omega)only[go_sem, *]
 refine Hb kp1 p2 kpG kpN rfl (by decide) ?_
 intro g1 a1 f1 pt1 q1
 have l1:=q1.lim
 have n1:=q1.np.1
 have b1:=q1.bp.1
 have m1:=E5 q1 (Nat.le_refl g1.next)
 clear pt1 p2
 simp (disch:=omega)only[go_sem, *]
 refine Hb kp2 (q1.ext (by (repeat (first | exact Au.refl _ | refine Au.alloc ?_ _ | (refine Au.put ?_ _ _ ?_;rotate_left;(first | omega | (simp only [Ag,Ai];omega))))))) kpG kpN rfl (by decide) ?_
 intro g2 a2 f2 pt2 q2
 have l2:=q2.lim
 have n2:=q2.np.1
 have b2:=q2.bp.1
 have x2:=pt2.w.next
 simp only [go_sem] at x2
 obtain ⟨e,m1⟩:=Cg pt2 (j:=g1.next) (by simp only [go_sem];omega) m1
 simp (disch:=omega)only[go_sem] at e
 have v1:=e
 clear e
 have m2:=E5 q2 (Nat.le_refl g2.next)
 clear pt2 q1 l1 n1 b1
 simp (disch:=omega)only[go_sem, *]
 refine Hb kp3 (q2.ext (by (repeat (first | exact Au.refl _ | refine Au.alloc ?_ _ | (refine Au.put ?_ _ _ ?_;rotate_left;(first | omega | (simp only [Ag,Ai];omega))))))) kpG kpN rfl (by decide) ?_
 intro g3 a3 f3 pt3 q3
 have l3:=q3.lim
 have n3:=q3.np.1
 have b3:=q3.bp.1
 have x3:=pt3.w.next
 simp only [go_sem] at x3
 obtain ⟨e,m1⟩:=Cg pt3 (j:=g1.next) (by simp only [go_sem];omega) m1
 simp (disch:=omega)only[go_sem,v1] at e
 clear v1
 have v1:=e
 clear e
 obtain ⟨e,m2⟩:=Cg pt3 (j:=g2.next) (by simp only [go_sem];omega) m2
 simp (disch:=omega)only[go_sem] at e
 have v2:=e
 clear e
 have m3:=E5 q3 (Nat.le_refl g3.next)
 clear pt3 q2 l2 n2 b2
 simp (disch:=omega)only[go_sem, *]
 refine Hb kp4 (q3.ext (by (repeat (first | exact Au.refl _ | refine Au.alloc ?_ _ | (refine Au.put ?_ _ _ ?_;rotate_left;(first | omega | (simp only [Ag,Ai];omega))))))) kpG kpN rfl (by decide) ?_
 intro g4 a4 f4 pt4 q4
 have l4:=q4.lim
 have n4:=q4.np.1
 have b4:=q4.bp.1
 have x4:=pt4.w.next
 simp only [go_sem] at x4
 obtain ⟨e,m1⟩:=Cg pt4 (j:=g1.next) (by simp only [go_sem];omega) m1
 simp (disch:=omega)only[go_sem,v1] at e
 clear v1
 have v1:=e
 clear e
 obtain ⟨e,m2⟩:=Cg pt4 (j:=g2.next) (by simp only [go_sem];omega) m2
 simp (disch:=omega)only[go_sem,v2] at e
 clear v2
 have v2:=e
 clear e
 obtain ⟨e,m3⟩:=Cg pt4 (j:=g3.next) (by simp only [go_sem];omega) m3
 simp (disch:=omega)only[go_sem] at e
 have v3:=e
 clear e
 have m4:=E5 q4 (Nat.le_refl g4.next)
 clear pt4 q3 l3 n3 b3
 simp (disch:=omega)only[go_sem, *]
 refine Hb kp5 (q4.ext (by (repeat (first | exact Au.refl _ | refine Au.alloc ?_ _ | (refine Au.put ?_ _ _ ?_;rotate_left;(first | omega | (simp only [Ag,Ai];omega))))))) kpG kpN rfl (by decide) ?_
 intro g5 a5 f5 pt5 q5
 have l5:=q5.lim
 have n5:=q5.np.1
 have b5:=q5.bp.1
 have x5:=pt5.w.next
 simp only [go_sem] at x5
 obtain ⟨e,m1⟩:=Cg pt5 (j:=g1.next) (by simp only [go_sem];omega) m1
 simp (disch:=omega)only[go_sem,v1] at e
 clear v1
 have v1:=e
 clear e
 obtain ⟨e,m2⟩:=Cg pt5 (j:=g2.next) (by simp only [go_sem];omega) m2
 simp (disch:=omega)only[go_sem,v2] at e
 clear v2
 have v2:=e
 clear e
 obtain ⟨e,m3⟩:=Cg pt5 (j:=g3.next) (by simp only [go_sem];omega) m3
 simp (disch:=omega)only[go_sem,v3] at e
 clear v3
 have v3:=e
 clear e
 obtain ⟨e,m4⟩:=Cg pt5 (j:=g4.next) (by simp only [go_sem];omega) m4
 simp (disch:=omega)only[go_sem] at e
 have v4:=e
 clear e
 have m5:=E5 q5 (Nat.le_refl g5.next)
 clear pt5 q4 l4 n4 b4
 simp (disch:=omega)only[go_sem, *]
 generalize hE:TT 12 7 [⟨1,0,4⟩,⟨2,0,5⟩,⟨3,0,2⟩] true 4=E at q5
 have y1:E.halt=true:=by rw [← hE];rfl
 have y2:E.clk=4:=by rw [← hE];rfl
 have y3:nth (nth E.all 0).r 1=7:=by rw [← hE];rfl
 have y4:(E.fl.length:Int)=3:=by rw [← hE];rfl
 have y5:0<E.all.length:=by rw [← hE];decide
 clear hE v1 v2 v3 v4 m1 m2 m3 m4 m5
 refine Jx (q5.ext (by (repeat (first | exact Au.refl _ | refine Au.alloc ?_ _ | (refine Au.put ?_ _ _ ?_;rotate_left;(first | omega | (simp only [Ag,Ai];omega))))))) ?_
 simp (disch:=omega)only[go_sem, *]
 refine HF (q5.ext (by (repeat (first | exact Au.refl _ | refine Au.alloc ?_ _ | (refine Au.put ?_ _ _ ?_;rotate_left;(first | omega | (simp only [Ag,Ai];omega))))))) ?_
 simp (disch:=omega)only[go_sem, *]
 refine X7 (i:=0) (q5.ext (by (repeat (first | exact Au.refl _ | refine Au.alloc ?_ _ | (refine Au.put ?_ _ _ ?_;rotate_left;(first | omega | (simp only [Ag,Ai];omega))))))) y5 ?_
 intro h5 z5
 have r5:=(q5.ext (by (repeat (first | exact Au.refl _ | refine Au.alloc ?_ _ | (refine Au.put ?_ _ _ ?_;rotate_left;(first | omega | (simp only [Ag,Ai];omega))))))).ext z5
 clear q5 z5
 simp (disch:=omega)only[go_sem, *]
 refine Qs r5 ?_
 intro r h6 s6 z6
 have r6:=r5.ext z6
 have fl:=s6.facts.1
 clear s6 z6 r5
 simp (disch:=omega)only[go_sem, *]
 refine GY r6 r6 ?_
 intro h7 z7
 have r7:=r6.ext z7
 clear r6 z7
 rw [show decide (E.clk=E.clk∧E.mem=E.mem∧E.all=E.all∧E.procs=E.procs∧E.halt=E.halt∧E.fl=E.fl)=true from by simp]
 simp (disch:=omega)only[go_sem, *]
 refine X9 r7 ?_
 clear r7
 simp (disch:=omega)only[go_sem, *]
end Go.Ab.T
namespace Go.Ab.T
open Go Go.Ab
set_option maxHeartbeats 4000000
/-! What a tick keeps. -/
section
variable {c c':PC} {k:Kn} {q:k.σ} {s:PS} {t pc kd:Int} {i n:Nat}
theorem I4:(Fd c s t i pc kd).procs.length=s.procs.length:=by
 unfold Fd GX Lq BM
 repeat' split
 all_goals simp
theorem I3:(Fd c s t i pc kd).clk=s.clk:=by
 unfold Fd GX Lq
 repeat' split
 all_goals rfl
theorem fY {x:Gb}:(goR c k q s n x).2.1.procs.length=s.procs.length∧(goR c k q s n x).2.1.clk=s.clk+1∧(goR c k q s n x).1.t=s.clk:=by
 obtain ⟨k1,k2,k3,k4,k5⟩:=MD (k:=k) (q:=q) (c:=c) (s:=GX { s with clk:=s.clk+1 } n (IntKind.wrap .i64 ((nth s.all n).pc+4))) (t:=s.clk) (op:=x.op) (i:=n) (A:=x.a.toNat) (B:=x.b.toNat) (C:=x.c.toNat)
 unfold goR
 simp only []
 split
 ·exact ⟨k4,k3,rfl⟩
 ·exact ⟨I4.trans k4,I3.trans k3,rfl⟩
theorem TH:(F9 c k q s n).2.1.procs.length=s.procs.length∧(F9 c k q s n).2.1.clk=s.clk+1∧(F9 c k q s n).1.t=s.clk:=by
 unfold F9
 simp only []
 split
 ·exact ⟨I4,I3,rfl⟩
 ·split
  ·exact ⟨I4,I3,rfl⟩
  ·exact fY
theorem TK:(Cm c k q s).2.2.1.procs.length=s.procs.length∧(s.halt=true→(Cm c k q s).1=⟨0,0,0,0,0,0⟩∧(Cm c k q s).2.1=false∧(Cm c k q s).2.2.1=s∧(Cm c k q s).2.2.2=q)∧(s.halt=false→(Cm c k q s).2.1=true∧(Cm c k q s).1.t=s.clk∧(Cm c k q s).2.2.1.clk=s.clk+1):=by
 unfold Cm
 by_cases h:s.halt=true
 ·rw [if_pos h]
  exact ⟨rfl,fun _=>⟨rfl,rfl,rfl,rfl⟩,fun e=>by rw [h] at e;cases e⟩
 ·rw [if_neg h]
  split
  ·exact ⟨rfl,fun e=>absurd e h,fun _=>⟨rfl,rfl,rfl⟩⟩
  ·have z:=TH (c:=c) (k:=k) (q:=q) (s:=s) (n:=(F7 s.procs s.clk).toNat)
   exact ⟨z.1,fun e=>absurd e h,fun _=>⟨rfl,z.2.2,z.2.1⟩⟩
theorem Ed:(CZ c s).2.2.procs.length=s.procs.length∧(s.halt=true→CZ c s=(⟨0,0,0,0,0,0⟩,false,s))∧(s.halt=false→(CZ c s).2.1=true∧(CZ c s).1.t=s.clk∧(CZ c s).2.2.clk=s.clk+1):=by
 obtain ⟨z1,z2,z3⟩:=TK (c:=c) (k:=noK) (q:=()) (s:=s)
 refine ⟨z1,fun e=>?_,z3⟩
 obtain ⟨y1,y2,y3,_⟩:=z2 e
 unfold CZ
 rw [y1,y2,y3]
def Bj (c:PC):Nat→PS→PS
 | 0,s=>s
 | n+1,s=>Bj c n (CZ c s).2.2
theorem Nq (h:s.halt=true):∀ n,Bj c n s=s
 | 0=>rfl
 | n+1=>by rw [Bj,(Ed.2.1 h)];exact Nq h n
theorem JD:∀ (n:Nat) (s:PS),Bj c (n+1) s=(CZ c (Bj c n s)).2.2
 | 0,s=>rfl
 | n+1,s=>by rw [Bj,JD n];rfl
theorem RU:∀ (n m:Nat) (s:PS),Bj c (n+m) s=Bj c m (Bj c n s)
 | 0,m,s=>by rw [Nat.zero_add];rfl
 | n+1,m,s=>by rw [Nat.succ_add,Bj,RU n m];rfl
theorem Ix:∀ (n:Nat) (s:PS),s.clk≤(Bj c n s).clk∧(Bj c n s).clk≤s.clk+n
 | 0,s=>by simp [Bj]
 | n+1,s=>by
  rw [Bj]
  have:=Ix n (CZ c s).2.2
  cases h:s.halt with
  | true=>rw [Ed.2.1 h] at this ⊢;simp only at this ⊢;omega
  | false=>have z:=(Ed (c:=c) (s:=s)).2.2 h;omega
theorem L5:∀ (n:Nat) (s:PS),(Bj c n s).procs.length=s.procs.length
 | 0,s=>rfl
 | n+1,s=>by rw [Bj,L5 n];exact Ed.1
theorem Nr {n m:Nat} (h:n≤m) (e:(Bj c n s).clk=(Bj c m s).clk):Bj c n s=Bj c m s:=by
 obtain ⟨d,rfl⟩:∃ d,m=n+d:=⟨m - n,by omega⟩
 rw [RU] at e ⊢
 cases hh:(Bj c n s).halt with
 | true=>rw [Nq hh]
 | false=>
  cases d with
  | zero=>rfl
  | succ d=>
   rw [Bj] at e
   have:=Ix (c:=c) d (CZ c (Bj c n s)).2.2
   have z:=(Ed (c:=c) (s:=Bj c n s)).2.2 hh
   omega
theorem aFy {n m:Nat}:decide ((Bj c n s).clk=(Bj c m s).clk∧(Bj c n s).mem=(Bj c m s).mem∧(Bj c n s).all=(Bj c m s).all∧(Bj c n s).procs=(Bj c m s).procs∧(Bj c n s).halt=(Bj c m s).halt∧(Bj c n s).fl=(Bj c m s).fl)=decide ((Bj c n s).clk=(Bj c m s).clk):=by
 by_cases e:(Bj c n s).clk=(Bj c m s).clk
 ·have:Bj c n s=Bj c m s:=by
   rcases Nat.le_total n m with h | h
   ·exact Nr h e
   ·exact (Nr h e.symm).symm
  rw [this];simp
 ·simp [e]
end
end Go.Ab.T
namespace Go.Ab.T
open Go Go.Ab
set_option maxHeartbeats 8000000
/-! Two partitions in one memory. -/
section
variable {b b' pp tb lg pq tq lq:Nat} {h h1 h2:AH} {w a f a1 f1 w' a' f':V} {c c':PC} {s s' s1:PS}
theorem OX (p:PA b h pp tb lg w a f c s) (q:PA b' h pq tq lq w' a' f' c' s') (d1:Apart pp tb lg w a f (IP pq lq w' a' f')) (d2:Apart pq tq lq w' a' f' (IP pp lg w a f)) (pt:Pt pp lg w h a f h1 a1 f1):PA b' h1 pq tq lq w' a' f' c' s'∧Apart pp tb lg w a1 f1 (IP pq lq w' a' f')∧Apart pq tq lq w' a' f' (IP pp lg w a1 f1):=
 ⟨q.same pt.w d2,d1.keep (fun j e=>Nat.lt_of_not_le fun z=>E5 q z e) pt.a pt.f,d2.new q (fun j e=>by
  rcases Nat.lt_or_ge j h.next with z | z
  ·exact .inl (pt.ip z e)
  ·exact .inr z)⟩
theorem nI (p:PA b h1 pp tb lg w a f c s) (q:PA b' h2 pq tq lq w' a' f' c' s') (hb:h1.next≤b'):Apart pp tb lg w a f (IP pq lq w' a' f')∧Apart pq tq lq w' a' f' (IP pp lg w a f):=by
 obtain ⟨q1,q2,q3⟩:=q.low
 have qb:=q.bp
 have o:∀ j,IP pq lq w' a' f' j→h1.next≤j:=fun j e=>by
  rcases e with e | e | e | e | ⟨z,e⟩
  ·omega
  ·omega
  ·omega
  ·omega
  ·have:=q3.resolve_left (by rw [z];decide);omega
 refine ⟨fun j e=>p.fresh (o j e),fun j e=>?_⟩
 have:j<h1.next:=Nat.lt_of_not_le fun z=>E5 p z e
 exact ⟨by omega,by omega,by omega,by omega,by omega,q3.imp (fun z=>z) (fun z=>by omega)⟩
theorem PA.back {l:Nat} (p:PA b h pp tb lg w a f c s) (hl:l≤b):PA b (h.back l) pp tb lg w a f c s:=
 ⟨p.gp,p.gt,p.gl,p.sw,p.sa,p.sf,hl,p.bp,p.np,p.d,p.dw,p.da,p.df,p.l1,p.l2,p.l3,p.l4,p.l5,p.l6⟩
theorem PA.far {z:Nat} (p:PA b h pp tb lg w a f c s) (x:Wr h (·=z) h2) (hz:z<b):PA b h2 pp tb lg w a f c s:=by
 obtain ⟨q1,q2,q3⟩:=p.low
 have bp:=p.bp
 exact p.same x (fun i e=>⟨by omega,by omega,by omega,by omega,by omega,q3.imp (fun z=>z) (fun z=>by omega)⟩)
end
end Go.Ab.T
namespace Go.Ab.T
open Go Go.Ab
set_option maxHeartbeats 8000000
section
variable {b b' pp tb lg pq tq lq:Nat} {h:AH} {w a f w' a' f':V} {c c2:PC} {s:PS}
theorem Made.procs {C:Ao} (m:Made C) {i:Nat} (hi:i<C.parts.length):1≤(nth C.parts i).procs.length∧(nth C.parts i).procs.length≤3:=by
 obtain ⟨_,hp,_,_⟩:=EL.1 m.wh
 have:=(hp i hi).2.2
 unfold Ef at this
 simp only [Bool.and_eq_true] at this
 have:=this.1.1
 unfold BP at this
 simp only [Bool.and_eq_true,decide_eq_true_eq] at this
 omega
end
end Go.Ab.T
