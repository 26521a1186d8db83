/- Part of a proof that a law returns true for every input of the second form's bound (no other condition). -/
import Derived.Test.YtcjjajphbamjlaaGreatPH
import Derived.Test.YtcjjajphbamjlaaGreatPG
set_option linter.all false
namespace Go.Ab.T
open Go Go.Ab
set_option maxHeartbeats 2000000
section
variable {b id:Nat} {L:List Int} {vp vc w:V} {T:List (List Node)} {R:List (List Run)} {h h':AH} {P:List Part} {Ch:List Chan} {j:Nat}
def Wst (R:List (List Run)) (f t W:Int):Prop:=-1≤W∧W≤4096∧(0≤W→∀ r∈R,0≤lateR r f t∧lateR r f t≤W)
theorem Wst.neg {R:List (List Run)} {f t:Int}:Wst R f t (-1):=⟨by omega,by omega,fun h=>absurd h (by omega)⟩
theorem Wst.step {R:List (List Run)} {r:List Run} {f t W:Int} (h:Wst R f t W) (h0:0≤W) (hl:0≤lateR r f t) (hl2:lateR r f t≤4096):Wst (R++[r]) f t (max W (lateR r f t)):=by
  obtain ⟨a,c,d⟩:=h
  refine ⟨by omega,by omega,fun _ x hx=>?_⟩
  rcases List.mem_append.1 hx with hx | hx
  · have:=d h0 x hx;omega
  · rw [List.mem_singleton] at hx;subst hx;omega
theorem take_snoc {α:Type} [Inhabited α] {L:List α} {i:Nat} (hi:i<L.length):L.take (i+1)=L.take i++[nth L i]:=by
  rw [List.take_add_one,nth_get hi];rfl
theorem asks_late {K : Ex → Env → AH → Prop} {i m : Nat} {e : Env} (a : Ask b id L vp vc T h h' P Ch j) (hi : i < Ch.length) (sl : Sl m h' 1 w (R.map RT.enc)) (hR : ∀ r ∈ R, Frm r)
    (e0:e 0=.p id 0 0) (e3:e 3=.p h.next 0 0) (e4:e 4=.p (h.next+1) 0 0) (e5:e 5=w) (e10:e 10=.i .i64 i) (e11:e 11=.i .i64 0) (e40:e 40=vc) (e41:e 41=.i .i64 Ch.length) (e42:e 42=.i .i64 i) (e45:e 45=w) (e46:e 46=.i .i64 R.length) (e47:e 47=.i .i64 0)
    (kk:∀ e' W,e' 0=.p id 0 0→e' 3=.p h.next 0 0→e' 4=.p (h.next+1) 0 0→e' 5=w→e' 10=.i .i64 i→e' 11=.i .i64 W→e' 40=vc→e' 41=.i .i64 Ch.length→e' 42=.i .i64 i→Wst R (nth Ch i).src (nth Ch i).dst W→K (.ex 4) e' h'):ZC tp (.loop Q16_21) e h' K:=by
  obtain ⟨clen,cbig,clt,clo,cget,cat,crow,ccell,ccells⟩:=a.sc.facts
  obtain ⟨wlen,wbig,wlt,wlo,wget,wat,wrow,wcell,wcells⟩:=sl.facts
  have hbox:=a.box
  have hsv:=Sl.sameV a.sc
  refine ZC_loop_n (fun n e hh=>∃ (q:Nat) (W:Int),n=R.length - q∧hh=h'∧e 0=.p id 0 0∧e 3=.p h.next 0 0∧e 4=.p (h.next+1) 0 0∧e 5=w∧e 10=.i .i64 i∧e 11=.i .i64 W∧e 40=vc∧e 41=.i .i64 Ch.length∧e 42=.i .i64 i∧e 45=w∧e 46=.i .i64 R.length∧e 47=.i .i64 q∧q≤R.length∧Wst (R.take q) (nth Ch i).src (nth Ch i).dst W) ?_ _ _ _ ⟨0,0,rfl,rfl,e0,e3,e4,e5,e10,e11,e40,e41,e42,e45,e46,e47,by omega,by omega,by omega,fun _ r hr=>by simp at hr⟩
  clear e0 e3 e4 e5 e10 e11 e40 e41 e42 e45 e46 e47 e
  rintro n e hh ⟨q,W,rfl,rfl,e0,e3,e4,e5,e10,e11,e40,e41,e42,e45,e46,e47,hq,hW⟩ ih
  rw [ZC_unf Q16_21.eq_1]
  simp (disch:=omega)only[go_sem, *]
  refine Wb_dec (fun hc=>?_) (fun hc=>?_)
  · have hf:=hR _ (nth_mem (L:=R) (j:=q) (by omega))
    have hl1:=lateR_le (f:=(nth Ch i).src) (t:=(nth Ch i).dst) hf
    have hl2:=lateR_cases (nth R q) (nth Ch i).src (nth Ch i).dst
    have hts:=take_snoc (L:=R) (i:=q) (by omega)
    have hstep:=fun h0 h1=>hW.step (r:=nth R q) h0 h1 hl1
    rw [← hts] at hstep
    clear hts
    simp (disch:=omega)only[go_sem, *]
    refine Pf.go (refLate_ev hf) (by simp only [go_sem]) fun _=>?_;simp (disch:=omega)only[go_sem, *]
    repeat' (first | (refine Wg_dec (fun hc=>?_) (fun hc=>?_)<;>simp (disch:=omega)only[go_sem, *]) | (refine Wb_dec (fun hc=>?_) (fun hc=>?_)<;>simp (disch:=omega)only[go_sem, *]))
    · refine ih _ _ _ ?_ ⟨q+1,-1,rfl, ?_⟩
      · omega
      · simp (disch:=omega)only[go_sem, *]
        ((repeat' refine And.intro ?_ ?_)<;>first | omega | assumption | (exact Wst.neg))
    · refine ih _ _ _ ?_ ⟨q+1,-1,rfl, ?_⟩
      · omega
      · simp (disch:=omega)only[go_sem, *]
        ((repeat' refine And.intro ?_ ?_)<;>first | omega | assumption | (exact Wst.neg))
    · refine ih _ _ _ ?_ ⟨q+1,max W (lateR (nth R q) (nth Ch i).src (nth Ch i).dst),rfl, ?_⟩
      · omega
      · simp (disch:=omega)only[go_sem, *]
        ((repeat' refine And.intro ?_ ?_)<;>first | omega | assumption | (exact hstep (by omega) (by omega)))
  · have eq:q=R.length:=by omega
    subst eq
    rw [List.take_length] at hW
    simp (disch:=omega)only[go_sem, *]
    exact kk _ W e0 e3 e4 e5 e10 e11 e40 e41 e42 hW
def TopOk (x:Chan):Prop:=0≤x.top∧x.top≤4294967295
def CO (n:Int) (R:List (List Run)) (x:Chan):Prop:=chanB n x=true∧(∀ r∈R,chLate r x=false)∧TopOk x
theorem CO.late {n:Int} {x:Chan} {W t:Int} (c:CO n R x) (hW:Wst R x.src x.dst W) (h0:0<W) (ht:0≤t):CO n R { x with late:=min (W+t) 4096 }:=by
  obtain ⟨w1,w2,w3⟩:=hW
  refine ⟨?_,fun r hr=>?_,c.2.2⟩
  · have:=c.1
    unfold chanB at this ⊢
    simp only [Bool.and_eq_true,decide_eq_true_eq] at this ⊢
    exact ⟨by omega,this.2⟩
  · have:=w3 (by omega) r hr
    unfold chLate
    simp only [decide_eq_false_iff_not]
    omega
theorem mem_set {α:Type} {l:List α} {i:Nat} {a:α} {p:α→Prop} (h:∀ x∈l,p x) (ha:p a):∀ x∈l.set i a,p x:=fun x hx=>by
  rcases List.mem_or_eq_of_mem_set hx with h1 | h1
  · exact h x h1
  · rw [h1];exact ha
theorem asks_ch {K : Ex → Env → AH → Prop} {n : Int} {e : Env} (hb : b ≤ h.next) (hid : id < b) (hlo : h.lim ≤ id) (hL : L.length < 4000000000) (hR : ∀ r ∈ R, Frm r) (a : Ask b id L vp vc T h h' P Ch j) (sl : Sl (h.next + 2) h' 1 w (R.map RT.enc)) (hC : ∀ x ∈ Ch, CO n R x)
    (e0:e 0=.p id 0 0) (e3:e 3=.p h.next 0 0) (e4:e 4=.p (h.next+1) 0 0) (e5:e 5=w) (e40:e 40=vc) (e41:e 41=.i .i64 Ch.length) (e42:e 42=.i .i64 0)
    (kk:∀ e' h' Ch' j,e' 0=.p id 0 0→e' 3=.p h.next 0 0→e' 4=.p (h.next+1) 0 0→e' 5=w→Ask b id L vp vc T h h' P Ch' j→Sl (h.next+2) h' 1 w (R.map RT.enc)→(∀ x∈Ch',CO n R x)→Ch'.length=Ch.length→K (.ex 2) e' h'):ZC tp (.loop Q16_25) e h' K:=by
  refine ZC_loop_n (fun n' e hh=>∃ (q:Nat) (Ch':List Chan) (j:Nat),n'=Ch.length - q∧e 0=.p id 0 0∧e 3=.p h.next 0 0∧e 4=.p (h.next+1) 0 0∧e 5=w∧e 40=vc∧e 41=.i .i64 Ch.length∧e 42=.i .i64 q∧q≤Ch.length∧Ch'.length=Ch.length∧Ask b id L vp vc T h hh P Ch' j∧Sl (h.next+2) hh 1 w (R.map RT.enc)∧(∀ x∈Ch',CO n R x)) ?_ _ _ _ ⟨0,Ch,j,rfl,e0,e3,e4,e5,e40,e41,e42,by omega,rfl,a,sl,hC⟩
  clear e0 e3 e4 e5 e40 e41 e42 e a sl hC
  rintro n' e hh ⟨q,Ch',j,rfl,e0,e3,e4,e5,e40,e41,e42,hq,hlen,a,sl,hC⟩ ih
  obtain ⟨clen,cbig,clt,clo,cget,cat,crow,ccell,ccells⟩:=a.sc.facts
  obtain ⟨wlen,wbig,wlt,wlo,wget,wat,wrow,wcell,wcells⟩:=sl.facts
  have hbox:=a.box
  rw [ZC_unf Q16_25.eq_1]
  rw [← hlen] at e41
  simp (disch:=omega)only[go_sem, *]
  refine Wb_dec (fun hc=>?_) (fun hc=>?_)
  · simp (disch:=omega)only[go_sem, *]
    refine asks_late (i:=q) a (by omega) sl hR (by simp (disch:=omega)only[go_sem, *]) (by simp (disch:=omega)only[go_sem, *]) (by simp (disch:=omega)only[go_sem, *]) (by simp (disch:=omega)only[go_sem, *]) (by simp (disch:=omega)only[go_sem, *]) (by simp (disch:=omega)only[go_sem, *]) (by simp (disch:=omega)only[go_sem, *]) (by simp (disch:=omega)only[go_sem, *]) (by simp (disch:=omega)only[go_sem, *]) (by simp (disch:=omega)only[go_sem, *]) (by simp (disch:=omega)only[go_sem, *]) (by simp (disch:=omega)only[go_sem, *]) ?_
    clear e0 e3 e4 e5 e40 e41 e42
    intro e' W e0 e3 e4 e5 e10 e11 e40 e41 e42 hW
    simp (disch:=omega)only[go_sem, *]
    refine Wg_dec (fun hw=>?_) (fun hw=>?_)
    · simp (disch:=omega)only[go_sem, *]
      refine tnext_ev a.tape a.jl hL (by have:=a.lim;omega) ?_
      intro v j2 h0 h1 h2 hj2
      have a2:=a.tape2 hb hid hj2
      have sl2:Sl (h.next+2) (hh.put id (tapeB L j2)) 1 w (R.map RT.enc):=sl_put sl _ _ ((sl_own sl).imp (fun x=>x) (fun x=>by omega))
      generalize hh.put id (tapeB L j2)=h2 at a2 sl2 ⊢
      clear clen cbig clt clo cget cat crow ccell ccells wlen wbig wlt wlo wget wat wrow wcell wcells hbox sl
      obtain ⟨clen,cbig,clt,clo,cget,cat,crow,ccell,ccells⟩:=a2.sc.facts
      have hbox:=a2.box
      simp (disch:=omega)only[go_sem, *]
      refine Wb_dec (fun hc3=>?_) (fun hc3=>?_)
      · have hsv:=Sl.sameV a2.sc
        simp (disch:=omega)only[go_sem, *]
        refine tnext_ev a2.tape a2.jl hL (by have:=a2.lim;simp (disch:=omega)only[go_sem, *]<;>omega) ?_
        intro v2 j3 h20 h21 h22 hj3
        have a3:=a2.tape2 hb hid hj3
        have sl3:Sl (h.next+2) (h2.put id (tapeB L j3)) 1 w (R.map RT.enc):=sl_put sl2 _ _ ((sl_own sl2).imp (fun x=>x) (fun x=>by omega))
        generalize h2.put id (tapeB L j3)=h3 at a3 sl3 ⊢
        clear clen cbig clt clo cget cat crow ccell ccells hbox sl2 a2
        obtain ⟨clen,cbig,clt,clo,cget,cat,crow,ccell,ccells⟩:=a3.sc.facts
        have hbox:=a3.box
        have hlm:=a3.lim
        have hW2:W≤4096:=hW.2.1
        have hne:idV vc≠h.next:=by
          rcases a3.cl with q | q
          · rcases a3.sc with ⟨_,hR⟩ | ⟨_,_,_,_,rfl,_⟩
            · have:Ch'=[]:=by simpa using hR
              subst this;simp at hlen;omega
            · cases q
          · omega
        have a4:=a3.chan (i:=q) { nth Ch' q with late:=min (W+v2) 4096 } hid (by omega)
        have hC4:=mem_set (i:=q) hC (CO.late (hC _ (nth_mem (L:=Ch') (j:=q) (by omega))) hW hw h20)
        have sl4:Sl (h.next+2) (h3.put (idV vc) ⟨6,(csOf h3 vc).set (elV vc+q) ({ nth Ch' q with late:=min (W+v2) 4096 }:Chan).enc⟩) 1 w (R.map RT.enc):=sl_put sl3 _ _ ((sl_own sl3).imp (fun x=>x) (fun x=>by have:=a3.cl;rcases this with q | q;(rcases a3.sc with ⟨_,hR⟩ | ⟨_,_,_,_,rfl,_⟩;(have:Ch'=[]:=by simpa using hR);(subst this;simp at hlen;omega);cases q);omega))
        simp only [Chan.enc] at a4 sl4
        have hcl:(Ch'.set q { nth Ch' q with late:=min (W+v2) 4096 }).length=Ch.length:=by simp [hlen]
        clear a3 sl3 hC
        simp (disch:=omega)only[go_sem, *]
        refine ih _ _ _ ?_ ⟨q+1,Ch'.set q { nth Ch' q with late:=min (W+v2) 4096 },j3,rfl, ?_⟩
        · omega
        · simp (disch:=omega)only[go_sem, *]
          ((repeat' refine And.intro ?_ ?_)<;>first | omega | assumption | (exact a4) | (exact sl4) | (exact hC4))
      · simp (disch:=omega)only[go_sem, *]
        refine ih _ _ _ ?_ ⟨q+1,Ch',j2,rfl, ?_⟩
        · omega
        · simp (disch:=omega)only[go_sem, *]
          ((repeat' refine And.intro ?_ ?_)<;>first | omega | assumption | (exact a2) | (exact sl2) | (exact hC))
    · simp (disch:=omega)only[go_sem, *]
      refine ih _ _ _ ?_ ⟨q+1,Ch',j,rfl, ?_⟩
      · omega
      · simp (disch:=omega)only[go_sem, *]
        ((repeat' refine And.intro ?_ ?_)<;>first | omega | assumption | (exact a) | (exact sl) | (exact hC))
  · simp (disch:=omega)only[go_sem, *]
    exact kk _ hh Ch' j e0 e3 e4 e5 a sl hC hlen
end
end Go.Ab.T
namespace Go.Ab.T
open Go Go.Ab
set_option maxHeartbeats 2000000
section
variable {b id:Nat} {L:List Int} {vp vc w:V} {T:List (List Node)} {R:List (List Run)} {h h':AH} {P:List Part} {Ch:List Chan} {j:Nat}
theorem asks_per {K : Ex → Env → AH → Prop} {pr k : Int} {e : Env} (h0 : 0 ≤ pr) (h1 : pr ≤ 9223372036854775807) (hk : k ≤ 5) (e0 : e 0 = .p id 0 0) (e3 : e 3 = .p h.next 0 0) (e4 : e 4 = .p (h.next + 1) 0 0) (e5 : e 5 = w) (e15 : e 15 = .i .i64 pr) (e16 : e 16 = .i .i64 k)
    (kk:∀ e' pr,e' 0=.p id 0 0→e' 3=.p h.next 0 0→e' 4=.p (h.next+1) 0 0→e' 5=w→e' 15=.i .i64 pr→K (.ex 6) e' h'):ZC tp (.loop Q16_32) e h' K:=by
  refine ZC_loop_n (fun n e hh=>∃ (k:Int),n=k.toNat∧hh=h'∧e 0=.p id 0 0∧e 3=.p h.next 0 0∧e 4=.p (h.next+1) 0 0∧e 5=w∧e 15=.i .i64 pr∧e 16=.i .i64 k∧k≤5) ?_ _ _ _ ⟨k,rfl,rfl,e0,e3,e4,e5,e15,e16,hk⟩
  clear e0 e3 e4 e5 e15 e16 e hk
  rintro n e hh ⟨k,rfl,rfl,e0,e3,e4,e5,e15,e16,hk⟩ ih
  rw [ZC_unf Q16_32.eq_1]
  simp (disch:=omega)only[go_sem, *]
  refine Wb_dec (fun hc=>?_) (fun hc=>?_)
  · simp (disch:=omega)only[go_sem, *]
    refine Wb_dec (fun hc2=>?_) (fun hc2=>?_)
    · simp (disch:=omega)only[go_sem, *]
      exact kk _ (IntKind.i64.wrap (pr.tdiv k)) (by simp (disch:=omega)only[go_sem, *]) (by simp (disch:=omega)only[go_sem, *]) (by simp (disch:=omega)only[go_sem, *]) (by simp (disch:=omega)only[go_sem, *]) (by simp (disch:=omega)only[go_sem, *])
    · simp (disch:=omega)only[go_sem, *]
      refine ih _ _ _ ?_ ⟨k - 1,rfl, ?_⟩
      · omega
      · simp (disch:=omega)only[go_sem, *]
        ((repeat' refine And.intro ?_ ?_)<;>first | omega | assumption | (skip))
  · simp (disch:=omega)only[go_sem, *]
    exact kk _ pr e0 e3 e4 e5 e15
theorem asks_bd {K : Ex → Env → AH → Prop} {i m : Nat} {pr N : Int} {e : Env} (sl : Sl m h' 1 w (R.map RT.enc)) (hR : ∀ r ∈ R, Frm r)
    (e0:e 0=.p id 0 0) (e3:e 3=.p h.next 0 0) (e4:e 4=.p (h.next+1) 0 0) (e5:e 5=w) (e15:e 15=.i .i64 pr) (e17:e 17=.i .i64 i) (e18:e 18=.i .i64 4096) (e113:e 113=.i .i64 N) (e114:e 114=.i .i64 i) (e117:e 117=w) (e118:e 118=.i .i64 R.length) (e119:e 119=.i .i64 0)
    (kk:∀ e' W,W≤4096→e' 0=.p id 0 0→e' 3=.p h.next 0 0→e' 4=.p (h.next+1) 0 0→e' 5=w→e' 15=.i .i64 pr→e' 17=.i .i64 i→e' 18=.i .i64 W→e' 113=.i .i64 N→e' 114=.i .i64 i→K (.ex 10) e' h'):ZC tp (.loop Q16_42) e h' K:=by
  obtain ⟨wlen,wbig,wlt,wlo,wget,wat,wrow,wcell,wcells⟩:=sl.facts
  refine ZC_loop_n (fun n e hh=>∃ (q:Nat) (W:Int),n=R.length - q∧hh=h'∧W≤4096∧e 0=.p id 0 0∧e 3=.p h.next 0 0∧e 4=.p (h.next+1) 0 0∧e 5=w∧e 15=.i .i64 pr∧e 17=.i .i64 i∧e 18=.i .i64 W∧e 113=.i .i64 N∧e 114=.i .i64 i∧e 117=w∧e 118=.i .i64 R.length∧e 119=.i .i64 q∧q≤R.length) ?_ _ _ _ ⟨0,4096,rfl,rfl,by omega,e0,e3,e4,e5,e15,e17,e18,e113,e114,e117,e118,e119,by omega⟩
  clear e0 e3 e4 e5 e15 e17 e18 e113 e114 e117 e118 e119 e
  rintro n e hh ⟨q,W,rfl,rfl,hW,e0,e3,e4,e5,e15,e17,e18,e113,e114,e117,e118,e119,hq⟩ ih
  rw [ZC_unf Q16_42.eq_1]
  simp (disch:=omega)only[go_sem, *]
  refine Wb_dec (fun hc=>?_) (fun hc=>?_)
  · have hf:=hR _ (nth_mem (L:=R) (j:=q) (by omega))
    simp (disch:=omega)only[go_sem, *]
    refine Pf.go (refBudget_ev (p:=i) (P:=pr) hf) (by simp only [go_sem]) fun _=>?_;simp (disch:=omega)only[go_sem, *]
    refine ih _ _ _ ?_ ⟨q+1,min W (budR (nth R q) i pr),rfl, ?_⟩
    · omega
    · simp (disch:=omega)only[go_sem, *]
      ((repeat' refine And.intro ?_ ?_)<;>first | omega | assumption | (skip))
  · simp (disch:=omega)only[go_sem, *]
    exact kk _ W hW e0 e3 e4 e5 e15 e17 e18 e113 e114
def z0 (p:Part):Part:={ p with budget:=0,period:=0 }
theorem z0_set {A B:List Part} {i:Nat} {x:Part} (h:A.map z0=B.map z0) (hi:i<A.length) (hx:z0 x=z0 (nth A i)):(A.set i x).map z0=B.map z0:=by
  rw [List.map_set,hx,←h]
  apply List.ext_getElem
  · simp
  · intro k h1 h2
    simp only [List.length_map] at h2
    by_cases e:i=k
    · subst e;simp [nth_eq hi]
    · rw [List.getElem_set_ne e]
theorem z0_fix {A:List Part} {q:Nat} (hq:q<A.length) (h:∀ k,k<q→nth A k=z0 (nth A k)):∀ k,k<q+1→nth (A.set q (z0 (nth A q))) k=z0 (nth (A.set q (z0 (nth A q))) k):=by
  intro k hk
  rw [nth_eq (by simp;omega),List.getElem_set]
  split
  · rfl
  · have:=h k (by omega)
    rw [nth_eq (by omega)] at this
    exact this
theorem asks_pt {K : Ex → Env → AH → Prop} {pr : Int} {e : Env} (hb : b ≤ h.next) (hid : id < b) (hlo : h.lim ≤ id) (hL : L.length < 4000000000) (hR : ∀ r ∈ R, Frm r) (a : Ask b id L vp vc T h h' P Ch j) (sl : Sl (h.next + 2) h' 1 w (R.map RT.enc))
    (e0:e 0=.p id 0 0) (e3:e 3=.p h.next 0 0) (e4:e 4=.p (h.next+1) 0 0) (e5:e 5=w) (e15:e 15=.i .i64 pr) (e113:e 113=.i .i64 P.length) (e114:e 114=.i .i64 0)
    (kk:∀ e' h' P' j,e' 0=.p id 0 0→e' 3=.p h.next 0 0→e' 4=.p (h.next+1) 0 0→Ask b id L vp vc T h h' P' Ch j→P'.map z0=P.map z0→K (.ex 8) e' h'):ZC tp (.loop Q16_46) e h' K:=by
  refine ZC_loop_n (fun n' e hh=>∃ (q:Nat) (P':List Part) (j:Nat),n'=P.length - q∧e 0=.p id 0 0∧e 3=.p h.next 0 0∧e 4=.p (h.next+1) 0 0∧e 5=w∧e 15=.i .i64 pr∧e 113=.i .i64 P.length∧e 114=.i .i64 q∧q≤P.length∧Ask b id L vp vc T h hh P' Ch j∧Sl (h.next+2) hh 1 w (R.map RT.enc)∧P'.map z0=P.map z0) ?_ _ _ _ ⟨0,P,j,rfl,e0,e3,e4,e5,e15,e113,e114,by omega,a,sl,rfl⟩
  clear e0 e3 e4 e5 e15 e113 e114 e a sl
  rintro n' e hh ⟨q,P',j,rfl,e0,e3,e4,e5,e15,e113,e114,hq,a,sl,hz⟩ ih
  have hlen:=congrArg List.length hz
  simp only [List.length_map] at hlen
  obtain ⟨plen,pbig,plt,plo,pget,pat,prow,pcell,pcells⟩:=a.sp.facts
  obtain ⟨wlen,wbig,wlt,wlo,wget,wat,wrow,wcell,wcells⟩:=sl.facts
  have hbox:=a.box
  rw [ZC_unf Q16_46.eq_1]
  rw [← hlen] at e113
  simp (disch:=omega)only[go_sem, *]
  refine Wb_dec (fun hc=>?_) (fun hc=>?_)
  · simp (disch:=omega)only[go_sem, *]
    refine asks_bd (h:=h) (id:=id) (i:=q) (pr:=pr) (N:=P'.length) sl hR (by simp (disch:=omega)only[go_sem, *]) (by simp (disch:=omega)only[go_sem, *]) (by simp (disch:=omega)only[go_sem, *]) (by simp (disch:=omega)only[go_sem, *]) (by simp (disch:=omega)only[go_sem, *]) (by simp (disch:=omega)only[go_sem, *]) (by simp (disch:=omega)only[go_sem, *]) (by simp (disch:=omega)only[go_sem, *]) (by simp (disch:=omega)only[go_sem, *]) (by simp (disch:=omega)only[go_sem, *]) (by simp (disch:=omega)only[go_sem, *]) (by simp (disch:=omega)only[go_sem, *]) ?_
    clear e0 e3 e4 e5 e15 e113 e114
    intro e' W hW e0 e3 e4 e5 e15 e17 e18 e113 e114
    simp (disch:=omega)only[go_sem, *]
    refine Wg_dec (fun hw=>?_) (fun hw=>?_)
    · simp (disch:=omega)only[go_sem, *]
      refine tnext_ev a.tape a.jl hL (by have:=a.lim;omega) ?_
      intro v j2 h0 h1 h2 hj2
      have a2:=a.tape2 hb hid hj2
      have sl2:Sl (h.next+2) (hh.put id (tapeB L j2)) 1 w (R.map RT.enc):=sl_put sl _ _ ((sl_own sl).imp (fun x=>x) (fun x=>by omega))
      generalize hh.put id (tapeB L j2)=h2 at a2 sl2 ⊢
      clear plen pbig plt plo pget pat prow pcell pcells wlen wbig wlt wlo wget wat wrow wcell wcells hbox sl
      obtain ⟨plen,pbig,plt,plo,pget,pat,prow,pcell,pcells⟩:=a2.sp.facts
      have hbox:=a2.box
      simp (disch:=omega)only[go_sem, *]
      refine Wb_dec (fun hc3=>?_) (fun hc3=>?_)
      · have hsv:=Sl.sameV a2.sp
        simp (disch:=omega)only[go_sem, *]
        refine tnext_ev a2.tape a2.jl hL (by have:=a2.lim;simp (disch:=omega)only[go_sem, *]<;>omega) ?_
        intro v2 j3 h20 h21 h22 hj3
        have a3:=a2.tape2 hb hid hj3
        have sl3:Sl (h.next+2) (h2.put id (tapeB L j3)) 1 w (R.map RT.enc):=sl_put sl2 _ _ ((sl_own sl2).imp (fun x=>x) (fun x=>by omega))
        generalize h2.put id (tapeB L j3)=h3 at a3 sl3 ⊢
        clear plen pbig plt plo pget pat prow pcell pcells hbox sl2 a2
        obtain ⟨plen,pbig,plt,plo,pget,pat,prow,pcell,pcells⟩:=a3.sp.facts
        have hbox:=a3.box
        have hlm:=a3.lim
        have hne:idV vp<h.next:=by
          rcases a3.pl with q | q
          · rcases a3.sp with ⟨_,hR⟩ | ⟨_,_,_,_,rfl,_⟩
            · have:P'=[]:=by simpa using hR
              subst this;simp at hlen;omega
            · cases q
          · exact q
        have hrl:=a3.sp.rowlt (j:=q) (by simp;omega)
        have a4:=a3.part (i:=q) { nth P' q with budget:=max (W - v2) 1,period:=pr } hid (by omega)
        have hz4:=z0_set (i:=q) (x:={ nth P' q with budget:=max (W - v2) 1,period:=pr }) hz (by omega) rfl
        have sl4:Sl (h.next+2) (h3.put (idV vp) ⟨11,(csOf h3 vp).set (elV vp+q) ({ nth P' q with budget:=max (W - v2) 1,period:=pr }:Part).enc⟩) 1 w (R.map RT.enc):=sl_put sl3 _ _ ((sl_own sl3).imp (fun x=>x) (fun x=>by omega))
        simp only [Part.enc] at a4 sl4
        clear a3 sl3 hz
        simp (disch:=omega)only[go_sem, *]
        refine ih _ _ _ ?_ ⟨q+1,P'.set q { nth P' q with budget:=max (W - v2) 1,period:=pr },j3,rfl, ?_⟩
        · omega
        · simp (disch:=omega)only[go_sem, *]
          ((repeat' refine And.intro ?_ ?_)<;>first | omega | assumption | (exact a4) | (exact sl4) | (exact hz4))
      · simp (disch:=omega)only[go_sem, *]
        refine ih _ _ _ ?_ ⟨q+1,P',j2,rfl, ?_⟩
        · omega
        · simp (disch:=omega)only[go_sem, *]
          ((repeat' refine And.intro ?_ ?_)<;>first | omega | assumption | (exact a2) | (exact sl2) | (exact hz))
    · simp (disch:=omega)only[go_sem, *]
      refine ih _ _ _ ?_ ⟨q+1,P',j,rfl, ?_⟩
      · omega
      · simp (disch:=omega)only[go_sem, *]
        ((repeat' refine And.intro ?_ ?_)<;>first | omega | assumption | (exact a) | (exact sl) | (exact hz))
  · simp (disch:=omega)only[go_sem, *]
    exact kk _ hh P' j e0 e3 e4 a hz
theorem asks_z {K : Ex → Env → AH → Prop} {e : Env} (hb : b ≤ h.next) (hid : id < b) (hlo : h.lim ≤ id) (a : Ask b id L vp vc T h h' P Ch j)
    (e0:e 0=.p id 0 0) (e3:e 3=.p h.next 0 0) (e4:e 4=.p (h.next+1) 0 0) (e159:e 159=.i .i64 P.length) (e160:e 160=.i .i64 0)
    (kk:∀ e' h',e' 0=.p id 0 0→e' 3=.p h.next 0 0→e' 4=.p (h.next+1) 0 0→Ask b id L vp vc T h h' (P.map z0) Ch j→K (.ex 12) e' h'):ZC tp (.loop Q16_53) e h' K:=by
  refine ZC_loop_n (fun n' e hh=>∃ (q:Nat) (P':List Part),n'=P.length - q∧e 0=.p id 0 0∧e 3=.p h.next 0 0∧e 4=.p (h.next+1) 0 0∧e 159=.i .i64 P.length∧e 160=.i .i64 q∧q≤P.length∧Ask b id L vp vc T h hh P' Ch j∧P'.map z0=P.map z0∧∀ k,k<q→nth P' k=z0 (nth P' k)) ?_ _ _ _ ⟨0,P,rfl,e0,e3,e4,e159,e160,by omega,a,rfl,fun k hk=>by omega⟩
  clear e0 e3 e4 e159 e160 e a
  rintro n' e hh ⟨q,P',rfl,e0,e3,e4,e159,e160,hq,a,hz,hq0⟩ ih
  have hlen:=congrArg List.length hz
  simp only [List.length_map] at hlen
  obtain ⟨plen,pbig,plt,plo,pget,pat,prow,pcell,pcells⟩:=a.sp.facts
  have hbox:=a.box
  have hlm:=a.lim
  have hsv:=Sl.sameV a.sp
  rw [ZC_unf Q16_53.eq_1]
  rw [← hlen] at e159
  have hq1:=hq0
  clear hq0
  simp (disch:=omega)only[go_sem, *]
  refine Wb_dec (fun hc=>?_) (fun hc=>?_)
  · have hne:idV vp<h.next:=by
      rcases a.pl with q | q
      · rcases a.sp with ⟨_,hR⟩ | ⟨_,_,_,_,rfl,_⟩
        · have:P'=[]:=by simpa using hR
          subst this;simp at hlen;omega
        · cases q
      · exact q
    have hrl:=a.sp.rowlt (j:=q) (by simp;omega)
    have a4:=a.part (i:=q) (z0 (nth P' q)) hid (by omega)
    have hz4:=z0_set (i:=q) (x:=z0 (nth P' q)) hz (by omega) rfl
    simp only [Part.enc,z0] at a4
    simp (disch:=omega)only[go_sem, *]
    refine ih _ _ _ ?_ ⟨q+1,P'.set q (z0 (nth P' q)),rfl, ?_⟩
    · omega
    · simp (disch:=omega)only[go_sem, *]
      ((repeat' refine And.intro ?_ ?_)<;>first | omega | assumption | (exact a4) | (exact hz4) | (exact z0_fix (by omega) hq1))
  · have e:P'=P.map z0:=by
      rw [← hz]
      apply List.ext_getElem
      · simp
      · intro k h1 h2
        have:=hq1 k (by omega)
        rw [nth_eq h1] at this
        simp only [List.getElem_map]
        exact this
    subst e
    simp (disch:=omega)only[go_sem, *]
    exact kk _ hh e0 e3 e4 a
end
end Go.Ab.T
namespace Go.Ab.T
open Go Go.Ab
set_option maxHeartbeats 4000000
theorem whTabs_zero {C:Config}:∀ (l:List (List Node)) (i:Nat),(whTabs C i l).1=0→whTabs C i l=(0,-1)
  | [],i,_=>rfl
  | t::l,i,h=>by
    rw [whTabs] at h ⊢
    split at h
    · rename_i h2;exact absurd h h2
    · rename_i h2;rw [if_neg h2];exact whTabs_zero l _ h
theorem whChans_zero {C:Config}:∀ (l:List Chan) (i:Nat),(whChans C i l).1=0→whChans C i l=(0,-1)
  | [],i,h=>by rw [whChans] at h ⊢;exact whTabs_zero _ _ h
  | t::l,i,h=>by
    rw [whChans] at h ⊢
    split at h
    · simp at h
    · rename_i h2;rw [if_neg h2];exact whChans_zero l _ h
theorem whParts_zero {C:Config}:∀ (l:List Part) (i:Nat),(whParts C i l).1=0→whParts C i l=(0,-1)
  | [],i,h=>by rw [whParts] at h ⊢;exact whChans_zero _ _ h
  | t::l,i,h=>by
    rw [whParts] at h ⊢
    split at h
    · simp at h
    · rename_i h2;rw [if_neg h2]
      split at h
      · simp at h
      · rename_i h3;rw [if_neg h3];exact whParts_zero l _ h
theorem where_zero {C:Config} (h:(whereR C).1=0):whereR C=(0,-1):=by
  unfold whereR at h ⊢
  split at h
  · simp at h
  · rename_i h2;rw [if_neg h2];exact whParts_zero _ _ h
noncomputable def rn (t:List Node):List Run:=(ofR t).1
section
variable {b id:Nat} {L:List Int} {vp vc w:V} {T:List (List Node)} {R:List (List Run)} {h h':AH} {P:List Part} {Ch:List Chan} {j:Nat}
theorem Ask.grown {b':Nat} {x v:V} {h2:AH} (a:Ask b id L vp vc T h h' P Ch j) (hb:b≤h.next) (hid:id<b) (g:Grown b' h' x v h2) (hx:nilV x=true∨h.next+2≤idV x):Ask b id L vp vc T h h2 P Ch j:=by
  have n1:=a.next;have n2:=g.next
  have gg:∀ i,i<h.next+2→h2.get i=h'.get i:=fun i hi=>g.get i (by omega) (hx.imp (fun x=>x) (fun x=>by omega))
  refine ⟨by omega,g.lim.trans a.lim,(gg _ (by omega)).trans a.tape,a.jl,(gg _ (by omega)).trans a.box,(gg _ (by omega)).trans a.res,fun i hi hn=>(gg i (by omega)).trans (a.low i hi hn), ?_, ?_,a.pl,a.cl,a.dj⟩
  · rcases a.pl with q | q
    · rcases a.sp with ⟨c,d⟩ | ⟨_,_,_,_,rfl,_⟩
      · exact .inl ⟨c,d⟩
      · cases q
    · exact a.sp.same n2 (fun _=>gg _ (by omega))
  · rcases a.cl with q | q
    · rcases a.sc with ⟨c,d⟩ | ⟨_,_,_,_,rfl,_⟩
      · exact .inl ⟨c,d⟩
      · cases q
    · exact a.sc.same n2 (fun _=>gg _ (by omega))
theorem asks_l {K : Ex → Env → AH → Prop} {e : Env} (hb : b ≤ h.next) (hid : id < b) (hlo : h.lim ≤ id) (hT : T.length ≤ 3) (a : Ask b id L vp vc T h h' P Ch j)
    (e0:e 0=.p id 0 0) (e3:e 3=.p h.next 0 0) (e4:e 4=.p (h.next+1) 0 0) (e5:e 5=.ns) (e23:e 23=.fl 1 (T.map Tab.enc)) (e24:e 24=.i .i64 T.length) (e25:e 25=.i .i64 0)
    (kk:∀ e' h' w,e' 0=.p id 0 0→e' 3=.p h.next 0 0→e' 4=.p (h.next+1) 0 0→e' 5=w→Ask b id L vp vc T h h' P Ch j→Sl (h.next+2) h' 1 w ((T.map rn).map RT.enc)→K (.ex 0) e' h'):ZC tp (.loop Q16_8) e h' K:=by
  refine ZC_loop_n (fun n' e hh=>∃ (q:Nat) (w:V),n'=T.length - q∧e 0=.p id 0 0∧e 3=.p h.next 0 0∧e 4=.p (h.next+1) 0 0∧e 5=w∧e 23=.fl 1 (T.map Tab.enc)∧e 24=.i .i64 T.length∧e 25=.i .i64 q∧q≤T.length∧Ask b id L vp vc T h hh P Ch j∧Sl (h.next+2) hh 1 w (((T.take q).map rn).map RT.enc)) ?_ _ _ _ ⟨0,.ns,rfl,e0,e3,e4,e5,e23,e24,e25,by omega,a,Sl.nil _ _ _⟩
  clear e0 e3 e4 e5 e23 e24 e25 e a
  rintro n' e hh ⟨q,w,rfl,e0,e3,e4,e5,e23,e24,e25,hq,a,sl⟩ ih
  have hlm:=a.lim
  have hnx:=a.next
  have hwl:=sl_own sl
  rw [ZC_unf Q16_8.eq_1]
  simp (disch:=omega)only[go_sem, *]
  refine Wb_dec (fun hc=>?_) (fun hc=>?_)
  · have hts:=take_snoc (L:=T) (i:=q) (by omega)
    simp (disch:=omega)only[go_sem, *]
    refine Pf.go (refOf_ev) (by simp only [go_sem]) fun _=>?_;simp (disch:=omega)only[go_sem, *]
    refine app_rule (sl.alloc _) (by simp (disch:=omega)only[go_sem, *]<;>omega) (by simp (disch:=omega)only[go_sem, *]<;>omega) (by simp;omega) ?_
    intro w2 h4 s4 g4
    have a4:=(a.ext hb hid ((Ext.refl _).alloc _)).grown hb hid g4 hwl
    have s5:Sl (h.next+2) h4 1 w2 (((T.take (q+1)).map rn).map RT.enc):=by rw [hts];simpa [RT.enc,rn] using s4
    clear hts s4
    simp (disch:=omega)only[go_sem, *]
    refine ih _ _ _ ?_ ⟨q+1,w2,rfl, ?_⟩
    · omega
    · simp (disch:=omega)only[go_sem, *]
      ((repeat' refine And.intro ?_ ?_)<;>first | omega | assumption | (exact a4) | (exact s5))
  · have eq:q=T.length:=by omega
    subst eq
    rw [List.take_length] at sl
    simp (disch:=omega)only[go_sem, *]
    exact kk _ hh w e0 e3 e4 e5 a sl
end
end Go.Ab.T
namespace Go.Ab.T
open Go Go.Ab
set_option maxHeartbeats 4000000
theorem mem_z0 {P P':List Part} (h:P'.map z0=P.map z0) {p:Part} (hp:p∈P'):∃ q∈P,q.name=p.name:=by
  have:z0 p∈P.map z0:=by rw [← h];exact List.mem_map_of_mem hp
  obtain ⟨q,hq,e⟩:=List.mem_map.1 this
  exact ⟨q,hq,by have:=congrArg Part.name e;exact this⟩
structure Bare (P:List Part) (Ch:List Chan) (T:List (List Node)):Prop where
  z:P.map z0=P
  p1:1≤P.length
  p2:P.length≤6
  c:Ch.length≤8
  t1:1≤T.length
  t2:T.length≤3
  parts:∀ i,i<P.length→GoodP P i
  chans:∀ x∈Ch,chanB P.length x=true∧x.late=0∧TopOk x
  tabs:∀ t∈T,TabOk P.length t
  nm:∀ p∈P,p.name.size<4000000000
theorem Bare.where_ {P:List Part} {Ch Ch':List Chan} {T:List (List Node)} (g:Bare P Ch T) (hl:Ch'.length=Ch.length) (hc:∀ x∈Ch',CO P.length (T.map rn) x):whereR ⟨P,Ch',T⟩=(0,-1):=by
  rw [where_iff]
  refine ⟨⟨g.p1,g.p2,by rw [hl];exact g.c,g.t1,g.t2⟩,g.parts,fun x hx=>(hc x hx).1,fun t ht=>?_⟩
  rw [tableR_iff]
  refine ⟨g.tabs t ht, ?_⟩
  rw [holdsR_iff]
  refine ⟨?_,ptShort_zero _ _ fun p hp=>?_⟩
  · rw [List.any_eq_false]
    intro x hx
    change ¬ chLate (rn t) x=true
    rw [(hc x hx).2.1 _ (List.mem_map_of_mem ht)]
    simp
  · have:p∈P.map z0:=by rw [g.z];exact hp
    obtain ⟨q,_,rfl⟩:=List.mem_map.1 this
    rfl
theorem totGo_bd:∀ (L:List Run) (a:Int),0≤a→a≤9223372036854775807→0≤totGo L a∧totGo L a≤9223372036854775807
  | [],a,h0,h1=>⟨h0,h1⟩
  | r::l,a,h0,h1=>totGo_bd l _ (addR_big).1 (addR_big).2
theorem asks_ev {b id k : Nat} {L : List Int} {vp vc : V} {T : List (List Node)} {h : AH} {P : List Part} {Ch : List Chan} {K : V → AH → Prop} (g : Bare P Ch T) (hL : L.length < 4000000000) (hk : k ≤ L.length) (hb : b ≤ h.next) (hid : id < b) (hlo : h.lim ≤ id) (hg : h.get id = some (tapeB L k))
    (sp:Sl b h 11 vp (P.map Part.enc)) (sc:Sl b h 6 vc (Ch.map Chan.enc)) (dj:nilV vp=true∨nilV vc=true∨idV vp≠idV vc)
    (kk:∀ P' Ch' h' j,j≤L.length→(∀ x∈Ch',TopOk x)→whereR ⟨P',Ch',T⟩=(0,-1)→NmOk ⟨P',Ch',T⟩→P'.length=P.length→Ch'.length=Ch.length→h.next≤h'.next→h'.lim=h.lim→h'.get id=some (tapeB L j)→(∀ i,i<b→i≠id→h'.get i=h.get i)→Sl b h' 11 vp (P'.map Part.enc)→Sl b h' 6 vc (Ch'.map Chan.enc)→K (.agg [vp,vc,.fl 1 (T.map Tab.enc)]) h'):
    Cq tp i_Q16 [.p id 0 0,.agg [vp,vc,.fl 1 (T.map Tab.enc)]] h K:=by
  have pl:=sl_low sp
  have cl:=sl_low sc
  obtain ⟨plen,pbig,plt,plo,pget,pat,prow,pcell,pcells⟩:=sp.facts
  obtain ⟨clen,cbig,clt,clo,cget,cat,crow,ccell,ccells⟩:=sc.facts
  have ht2:=g.t2
  have ht1:=g.t1
  have hp2:=g.p2
  have hc2:=g.c
  have hRf:∀ r∈T.map rn,Frm r:=fun r hr=>by obtain ⟨t,_,rfl⟩:=List.mem_map.1 hr;exact ofR_frm
  have hC0:∀ x∈Ch,CO P.length (T.map rn) x:=fun x hx=>⟨(g.chans x hx).1,fun r _=>by unfold chLate;rw [(g.chans x hx).2.1];simp,(g.chans x hx).2.2⟩
  refine Cq_raw_go fn_Q16 (by simp [t_Q16]) fun wf rp=>?_
  unfold t_Q16
  simp (disch:=omega)only[go_sem, *]
  have x0:Ext h ((h.alloc ⟨3,[[vp,vc,.fl 1 (T.map Tab.enc)]]⟩).alloc ⟨3,[[.ns,.ns,.ns]]⟩):=by (repeat (first | exact Ext.refl _ | refine Ext.alloc ?_ _ | (refine Ext.put ?_ _ _ ?_;rotate_left;(first | omega | (simp only [next_alloc,next_put];omega)))))
  have a0:Ask b id L vp vc T h ((h.alloc ⟨3,[[vp,vc,.fl 1 (T.map Tab.enc)]]⟩).alloc ⟨3,[[.ns,.ns,.ns]]⟩) P Ch k:=⟨by simp (disch:=omega)only[go_sem, *],rfl,(x0.get _ (by omega)).trans hg,hk,by simp (disch:=omega)only[go_sem, *],by simp (disch:=omega)only[go_sem, *],fun i hi _=>x0.get i (by omega),sp.ext x0,sc.ext x0,pl,cl,dj⟩
  clear plen pbig plt plo pget pat prow pcell pcells clen cbig clt clo cget cat crow ccell ccells sp sc x0
  refine asks_l hb hid hlo g.t2 a0 (by simp (disch:=omega)only[go_sem, *]) (by simp (disch:=omega)only[go_sem, *]) (by simp (disch:=omega)only[go_sem, *]) (by simp (disch:=omega)only[go_sem, *]) (by simp (disch:=omega)only[go_sem, *]) (by simp (disch:=omega)only[go_sem, *]) (by simp (disch:=omega)only[go_sem, *]) ?_
  clear a0
  intro e h1 w e0 e3 e4 e5 a sl
  have hbox:=a.box
  obtain ⟨clen,cbig,clt,clo,cget,cat,crow,ccell,ccells⟩:=a.sc.facts
  simp (disch:=omega)only[go_sem, *]
  refine asks_ch hb hid hlo hL hRf a sl hC0 (by simp (disch:=omega)only[go_sem, *]) (by simp (disch:=omega)only[go_sem, *]) (by simp (disch:=omega)only[go_sem, *]) (by simp (disch:=omega)only[go_sem, *]) (by simp (disch:=omega)only[go_sem, *]) (by simp (disch:=omega)only[go_sem, *]) (by simp (disch:=omega)only[go_sem, *]) ?_
  clear e0 e3 e4 e5 a sl hbox clen cbig clt clo cget cat crow ccell ccells e h1 hC0
  intro e h2 Ch' j e0 e3 e4 e5 a sl hC hCl
  obtain ⟨wlen,wbig,wlt,wlo,wget,wat,wrow,wcell,wcells⟩:=sl.facts
  have hr0:=frm_big (hRf _ (nth_mem (L:=T.map rn) (j:=0) (by simp;omega)))
  have hw0:(csOf h2 w)[elV w]?=some (RT.enc (nth (T.map rn) 0)):=by have:=wrow 0 (by simp;omega);simpa using this
  have hml:(T.map rn).length=T.length:=List.length_map ..
  simp (disch:=omega)only[go_sem, *]
  refine Pf.go (reftotal_ev hr0) (by simp only [go_sem]) fun _=>?_;simp (disch:=omega)only[go_sem, *]
  refine tnext_ev a.tape a.jl hL (by have:=a.lim;omega) ?_
  intro v j2 v0 v1 v2 hj2
  have a2:=a.tape2 hb hid hj2
  have sl2:Sl (h.next+2) (h2.put id (tapeB L j2)) 1 w ((T.map rn).map RT.enc):=sl_put sl _ _ ((sl_own sl).imp (fun x=>x) (fun x=>by omega))
  generalize h2.put id (tapeB L j2)=h3 at a2 sl2 ⊢
  clear wlen wbig wlt wlo wget wat wrow wcell wcells sl a
  simp (disch:=omega)only[go_sem, *]
  refine asks_per (h:=h) (id:=id) (w:=w) (pr:=totGo (nth (T.map rn) 0) 0) (k:=2+v) (totGo_bd _ _ (by omega) (by omega)).1 (totGo_bd _ _ (by omega) (by omega)).2 (by omega) (by simp (disch:=omega)only[go_sem, *]) (by simp (disch:=omega)only[go_sem, *]) (by simp (disch:=omega)only[go_sem, *]) (by simp (disch:=omega)only[go_sem, *]) (by simp (disch:=omega)only[go_sem, *]) (by simp (disch:=omega)only[go_sem, *]) ?_
  clear e0 e3 e4 e5 e
  intro e pr e0 e3 e4 e5 e15
  have hbox:=a2.box
  obtain ⟨plen,pbig,plt,plo,pget,pat,prow,pcell,pcells⟩:=a2.sp.facts
  simp (disch:=omega)only[go_sem, *]
  refine asks_pt (pr:=pr) hb hid hlo hL hRf a2 sl2 (by simp (disch:=omega)only[go_sem, *]) (by simp (disch:=omega)only[go_sem, *]) (by simp (disch:=omega)only[go_sem, *]) (by simp (disch:=omega)only[go_sem, *]) (by simp (disch:=omega)only[go_sem, *]) (by simp (disch:=omega)only[go_sem, *]) (by simp (disch:=omega)only[go_sem, *]) ?_
  clear e0 e3 e4 e5 e15 plen pbig plt plo pget pat prow pcell pcells hbox a2 sl2 e
  intro e h4 P' j4 e0 e3 e4 a hz
  have hnm:NmOk ⟨P',Ch',T⟩:=fun p hp=>by obtain ⟨q,hq,e⟩:=mem_z0 hz hp;rw [← e];exact g.nm q hq
  have hlen:=congrArg List.length hz
  simp only [List.length_map] at hlen
  have hbox:=a.box
  obtain ⟨plen,pbig,plt,plo,pget,pat,prow,pcell,pcells⟩:=a.sp.facts
  obtain ⟨clen,cbig,clt,clo,cget,cat,crow,ccell,ccells⟩:=a.sc.facts
  simp (disch:=omega)only[go_sem, *]
  refine Pf.look (refRight12_ev hnm) (.cons _ _ _ _ _ (.agg _ _ _ (.cons _ _ _ _ _ (a.sp.froze (fun _=>rfl) trivial (by omega)) (.cons _ _ _ _ _ (a.sc.froze (fun _=>rfl) trivial (by omega)) (.cons _ _ _ _ _ (.fl _ _ _) (.nil _))))) (.nil _)) rfl fun _=>?_
  have fin:∀ (P':List Part) h5,Ask b id L vp vc T h h5 P' Ch' j4→whereR ⟨P',Ch',T⟩=(0,-1)→P'.map z0=P.map z0→K (.agg [vp,vc,.fl 1 (T.map Tab.enc)]) (h5.put (h.next+1) ⟨3,[[vp,vc,.fl 1 (T.map Tab.enc)]]⟩):=by
    intro P' h5 a hw hz
    have n5:=a.next
    have hlen:=congrArg List.length hz
    simp only [List.length_map] at hlen
    have hnm:NmOk ⟨P',Ch',T⟩:=fun p hp=>by obtain ⟨q,hq,e⟩:=mem_z0 hz hp;rw [← e];exact g.nm q hq
    refine kk P' Ch' _ j4 a.jl (fun x hx=>(hC x hx).2.2) hw hnm hlen hCl (by rw [next_put];omega) a.lim (by rw [get_put,gsel_ne (by omega)];exact a.tape) (fun i hi hn=>by rw [get_put,gsel_ne (by omega)];exact a.low i hi hn) (sl_put a.sp _ _ (a.pl.imp (fun x=>x) (fun x=>by omega))) (sl_put a.sc _ _ (a.cl.imp (fun x=>x) (fun x=>by omega)))
  have hres:=a.res
  have hlm:=a.lim
  simp (disch:=omega)only[go_sem, *]
  refine Wb_dec (fun hc=>?_) (fun hc=>?_)
  · simp (disch:=omega)only[go_sem, *]
    refine asks_z hb hid hlo a (by simp (disch:=omega)only[go_sem, *]) (by simp (disch:=omega)only[go_sem, *]) (by simp (disch:=omega)only[go_sem, *]) (by simp (disch:=omega)only[go_sem, *]) (by simp (disch:=omega)only[go_sem, *]) ?_
    clear e0 e3 e4 plen pbig plt plo pget pat prow pcell pcells clen cbig clt clo cget cat crow ccell ccells hbox hres hlm e
    intro e h5 e0 e3 e4 a
    rw [hz,g.z] at a
    have hbox:=a.box
    have hres:=a.res
    have hlm:=a.lim
    obtain ⟨plen,pbig,plt,plo,pget,pat,prow,pcell,pcells⟩:=a.sp.facts
    obtain ⟨clen,cbig,clt,clo,cget,cat,crow,ccell,ccells⟩:=a.sc.facts
    have f:=fin P h5 a (g.where_ hCl hC) rfl
    clear fin
    simp (disch:=omega)only[go_sem, *]
  · have f:=fin P' h4 a (where_zero (by omega)) hz
    clear fin
    simp (disch:=omega)only[go_sem, *]
end Go.Ab.T
namespace Go.Ab.T
open Go Go.Ab
set_option maxHeartbeats 2000000
def Dj (v w:V):Prop:=nilV v=true∨nilV w=true∨idV v≠idV w
structure CS (q id:Nat) (L:List Int) (h h':AH) (vp vc vt:V) (P:List Part) (Ch:List Chan) (T:List (List Node)) (j:Nat):Prop where
  q1:h.next+2≤q
  q2:q≤h'.next
  lim:h'.lim=h.lim
  tape:h'.get id=some (tapeB L j)
  jl:j≤L.length
  res:h'.get h.next=some ⟨3,[[.ns,.ns,.ns]]⟩
  box:h'.get (h.next+1)=some ⟨3,[[vp,vc,vt]]⟩
  low:∀ i,i<h.next→i≠id→h'.get i=h.get i
  sp:Sl (h.next+2) h' 11 vp (P.map Part.enc)
  sc:Sl (h.next+2) h' 6 vc (Ch.map Chan.enc)
  st:Sl (h.next+2) h' 1 vt (T.map Tab.enc)
  pl:nilV vp=true∨idV vp<q
  cl:nilV vc=true∨idV vc<q
  tl:nilV vt=true∨idV vt<q
  pc:Dj vp vc
  pt:Dj vp vt
  ct:Dj vc vt
section
variable {q id:Nat} {L:List Int} {h h' h2:AH} {vp vc vt:V} {P:List Part} {Ch:List Chan} {T:List (List Node)} {j:Nat}
theorem sl_keep {b sz q:Nat} {h h2:AH} {v:V} {R:List (List V)} (s:Sl b h sz v R) (hl:nilV v=true∨idV v<q) (hn:h.next≤h2.next) (g:∀ i,i<q→h2.get i=h.get i):Sl b h2 sz v R:=by
  rcases hl with hl | hl
  · rcases s with ⟨a,c⟩ | ⟨_,_,_,_,rfl,_⟩
    · exact .inl ⟨a,c⟩
    · cases hl
  · exact s.same hn (fun _=>g _ hl)
theorem CS.keep (a:CS q id L h h' vp vc vt P Ch T j) (hid:id<h.next) (hn:h'.next≤h2.next) (hl:h2.lim=h'.lim) (g:∀ i,i<q→h2.get i=h'.get i):CS q id L h h2 vp vc vt P Ch T j:=by
  have q1:=a.q1;have q2:=a.q2
  exact ⟨q1,by omega,hl.trans a.lim,(g _ (by omega)).trans a.tape,a.jl,(g _ (by omega)).trans a.res,(g _ (by omega)).trans a.box,fun i hi hn=>(g i (by omega)).trans (a.low i hi hn),sl_keep a.sp a.pl hn g,sl_keep a.sc a.cl hn g,sl_keep a.st a.tl hn g,a.pl,a.cl,a.tl,a.pc,a.pt,a.ct⟩
theorem CS.ext (a:CS q id L h h' vp vc vt P Ch T j) (hid:id<h.next) (x:Ext h' h2):CS q id L h h2 vp vc vt P Ch T j:=
  a.keep hid x.next x.lim (fun i hi=>x.get i (by have:=a.q2;omega))
theorem CS.up {q':Nat} (a:CS q id L h h' vp vc vt P Ch T j) (h1:q≤q') (h2:q'≤h'.next):CS q' id L h h' vp vc vt P Ch T j:=
  ⟨Nat.le_trans a.q1 h1,h2,a.lim,a.tape,a.jl,a.res,a.box,a.low,a.sp,a.sc,a.st,a.pl.imp (fun x=>x) (fun x=>by omega),a.cl.imp (fun x=>x) (fun x=>by omega),a.tl.imp (fun x=>x) (fun x=>by omega),a.pc,a.pt,a.ct⟩
theorem CS.tape2 {j2:Nat} (a:CS q id L h h' vp vc vt P Ch T j) (hid:id<h.next) (hj:j2≤L.length):CS q id L h (h'.put id (tapeB L j2)) vp vc vt P Ch T j2:=by
  have q1:=a.q1;have q2:=a.q2
  exact ⟨q1,q2,a.lim,by rw [get_put,gsel_eq rfl],hj,by rw [get_put,gsel_ne (by omega)];exact a.res,by rw [get_put,gsel_ne (by omega)];exact a.box,fun i hi hn=>by rw [get_put,gsel_ne hn];exact a.low i hi hn,
    sl_put a.sp _ _ ((sl_own a.sp).imp (fun x=>x) (fun x=>by omega)),sl_put a.sc _ _ ((sl_own a.sc).imp (fun x=>x) (fun x=>by omega)),sl_put a.st _ _ ((sl_own a.st).imp (fun x=>x) (fun x=>by omega)),a.pl,a.cl,a.tl,a.pc,a.pt,a.ct⟩
theorem dj_grown {b:Nat} {v w x:V} {h1 h2:AH} (g:Grown b h1 x v h2) (d:Dj x w) (hl:nilV w=true∨idV w<h1.next):Dj v w:=by
  rcases g.own with k | ⟨k1,k2⟩ | k
  · exact .inl k
  · rcases d with d | d | d
    · rw [d] at k1;cases k1
    · exact .inr (.inl d)
    · exact .inr (.inr (by rw [k2];exact d))
  · rcases hl with hl | hl
    · exact .inr (.inl hl)
    · exact .inr (.inr (by omega))
theorem dj_sym {v w:V} (d:Dj v w):Dj w v:=by
  rcases d with d | d | d
  · exact .inr (.inl d)
  · exact .inl d
  · exact .inr (.inr (Ne.symm d))
theorem sl_grown {b b' sz:Nat} {h1 h2:AH} {x v w:V} {R:List (List V)} (s:Sl b h1 sz w R) (g:Grown b' h1 x v h2) (d:Dj x w):Sl b h2 sz w R:=by
  rcases s with hs | ⟨i,el,cap,cs,rfl,hg,a1,a2,a3,a4,a5,a6⟩
  · exact .inl hs
  · refine .inr ⟨i,el,cap,cs,rfl, ?_,a1,a2,a3,Nat.lt_of_lt_of_le a4 g.next,a5,a6⟩
    rw [g.get i a4];exact hg
    rcases d with d | d | d
    · exact .inl d
    · cases d
    · exact .inr (Ne.symm d)
theorem grown_low {b:Nat} {h1 h2:AH} {x v:V} (g:Grown b h1 x v h2) (hx:nilV x=true∨b≤idV x) (hb:b≤h1.next):∀ i,i<b→h2.get i=h1.get i:=fun i hi=>g.get i (by omega) (hx.imp (fun x=>x) (fun x=>by omega))
theorem CS.grow_p {h1 h3 : AH} {v : V} {x : Part} (a : CS q id L h h' vp vc vt P Ch T j) (hid : id < h.next) (e : Ext h' h1) (s : Sl (h.next + 2) h3 11 v (P.map Part.enc ++ [x.enc])) (g : Grown (h.next + 2) h1 vp v h3) :
    CS h3.next id L h (h3.put (h.next+1) ⟨3,[[v,vc,vt]]⟩) v vc vt (P++[x]) Ch T j:=by
  have q1:=a.q1;have q2:=a.q2;have n1:=e.next;have n2:=g.next
  have gl:=grown_low g (sl_own a.sp) (by omega)
  have a1:=a.ext hid e
  have m:=sl_low s
  refine ⟨by omega,Nat.le_refl _,g.lim.trans a1.lim,by rw [get_put,gsel_ne (by omega)];exact (gl _ (by omega)).trans a1.tape,a.jl,by rw [get_put,gsel_ne (by omega)];exact (gl _ (by omega)).trans a1.res,by rw [get_put,gsel_eq rfl],fun i hi hn=>by rw [get_put,gsel_ne (by omega)];exact (gl i (by omega)).trans (a1.low i hi hn), ?_, ?_, ?_,m,a.cl.imp (fun x=>x) (fun x=>by omega),a.tl.imp (fun x=>x) (fun x=>by omega),dj_grown g a.pc (a.cl.imp (fun x=>x) (fun x=>by omega)),dj_grown g a.pt (a.tl.imp (fun x=>x) (fun x=>by omega)),a.ct⟩
  · refine sl_put ?_ _ _ ((sl_own s).imp (fun x=>x) (fun x=>by omega));simpa using s
  · exact sl_put (sl_grown a1.sc g a.pc) _ _ ((sl_own a.sc).imp (fun x=>x) (fun x=>by omega))
  · exact sl_put (sl_grown a1.st g a.pt) _ _ ((sl_own a.st).imp (fun x=>x) (fun x=>by omega))
theorem CS.grow_c {h1 h3 : AH} {v : V} {x : Chan} (a : CS q id L h h' vp vc vt P Ch T j) (hid : id < h.next) (e : Ext h' h1) (s : Sl (h.next + 2) h3 6 v (Ch.map Chan.enc ++ [x.enc])) (g : Grown (h.next + 2) h1 vc v h3) :
    CS h3.next id L h (h3.put (h.next+1) ⟨3,[[vp,v,vt]]⟩) vp v vt P (Ch++[x]) T j:=by
  have q1:=a.q1;have q2:=a.q2;have n1:=e.next;have n2:=g.next
  have gl:=grown_low g (sl_own a.sc) (by omega)
  have a1:=a.ext hid e
  have m:=sl_low s
  refine ⟨by omega,Nat.le_refl _,g.lim.trans a1.lim,by rw [get_put,gsel_ne (by omega)];exact (gl _ (by omega)).trans a1.tape,a.jl,by rw [get_put,gsel_ne (by omega)];exact (gl _ (by omega)).trans a1.res,by rw [get_put,gsel_eq rfl],fun i hi hn=>by rw [get_put,gsel_ne (by omega)];exact (gl i (by omega)).trans (a1.low i hi hn), ?_, ?_, ?_,a.pl.imp (fun x=>x) (fun x=>by omega),m,a.tl.imp (fun x=>x) (fun x=>by omega),dj_sym (dj_grown g (dj_sym a.pc) (a.pl.imp (fun x=>x) (fun x=>by omega))),a.pt,dj_grown g a.ct (a.tl.imp (fun x=>x) (fun x=>by omega))⟩
  · exact sl_put (sl_grown a1.sp g (dj_sym a.pc)) _ _ ((sl_own a.sp).imp (fun x=>x) (fun x=>by omega))
  · refine sl_put ?_ _ _ ((sl_own s).imp (fun x=>x) (fun x=>by omega));simpa using s
  · exact sl_put (sl_grown a1.st g a.ct) _ _ ((sl_own a.st).imp (fun x=>x) (fun x=>by omega))
theorem CS.grow_t {h1 h3 : AH} {v : V} {x : List Node} (a : CS q id L h h' vp vc vt P Ch T j) (hid : id < h.next) (e : Ext h' h1) (s : Sl (h.next + 2) h3 1 v (T.map Tab.enc ++ [Tab.enc x])) (g : Grown (h.next + 2) h1 vt v h3) :
    CS h3.next id L h (h3.put (h.next+1) ⟨3,[[vp,vc,v]]⟩) vp vc v P Ch (T++[x]) j:=by
  have q1:=a.q1;have q2:=a.q2;have n1:=e.next;have n2:=g.next
  have gl:=grown_low g (sl_own a.st) (by omega)
  have a1:=a.ext hid e
  have m:=sl_low s
  refine ⟨by omega,Nat.le_refl _,g.lim.trans a1.lim,by rw [get_put,gsel_ne (by omega)];exact (gl _ (by omega)).trans a1.tape,a.jl,by rw [get_put,gsel_ne (by omega)];exact (gl _ (by omega)).trans a1.res,by rw [get_put,gsel_eq rfl],fun i hi hn=>by rw [get_put,gsel_ne (by omega)];exact (gl i (by omega)).trans (a1.low i hi hn), ?_, ?_, ?_,a.pl.imp (fun x=>x) (fun x=>by omega),a.cl.imp (fun x=>x) (fun x=>by omega),m,a.pc,dj_sym (dj_grown g (dj_sym a.pt) (a.pl.imp (fun x=>x) (fun x=>by omega))),dj_sym (dj_grown g (dj_sym a.ct) (a.cl.imp (fun x=>x) (fun x=>by omega)))⟩
  · exact sl_put (sl_grown a1.sp g (dj_sym a.pt)) _ _ ((sl_own a.sp).imp (fun x=>x) (fun x=>by omega))
  · exact sl_put (sl_grown a1.sc g (dj_sym a.ct)) _ _ ((sl_own a.sc).imp (fun x=>x) (fun x=>by omega))
  · refine sl_put ?_ _ _ ((sl_own s).imp (fun x=>x) (fun x=>by omega));simpa using s
end
end Go.Ab.T
namespace Go.Ab.T
open Go Go.Ab
set_option maxHeartbeats 4000000
section
variable {q id:Nat} {L:List Int} {h h' h2:AH} {vp vc vt:V} {P:List Part} {Ch:List Chan} {T:List (List Node)} {j:Nat}
theorem cfg_procs {K : Ex → Env → AH → Prop} {e : Env} {k n : Int} {i : Nat} {nm : ByteArray} {sc st : Bool} (hid : id < h.next) (hlo : h.lim ≤ id) (hL : L.length < 4000000000) (hk0 : 0 ≤ k) (hk1 : k ≤ 1) (a : CS q id L h h' vp vc vt P Ch T j) (hq : q < h'.next)
    (hb:h'.get q=some ⟨11,[[.s nm,.i .i64 0,.i .i64 0,.b sc,.b st,.ns,.i .i64 0,.i .i64 0,.i .i64 0,.i .i64 0,.i .i64 0]]⟩)
    (e0:e 0=.p id 0 0) (e2:e 2=.p h.next 0 0) (e3:e 3=.p (h.next+1) 0 0) (e4:e 4=.i .i64 n) (e5:e 5=.i .i64 i) (e6:e 6=.p q 0 0) (e7:e 7=.i .i64 k)
    (kk:∀ e' h' j vr pr,e' 0=.p id 0 0→e' 2=.p h.next 0 0→e' 3=.p (h.next+1) 0 0→e' 4=.i .i64 n→e' 5=.i .i64 i→e' 6=.p q 0 0→CS q id L h h' vp vc vt P Ch T j→q<h'.next→h'.get q=some ⟨11,[[.s nm,.i .i64 0,.i .i64 0,.b sc,.b st,vr,.i .i64 0,.i .i64 0,.i .i64 0,.i .i64 0,.i .i64 0]]⟩→Sl (q+1) h' 2 vr (pr.map Proc.enc)→procsB pr=true→pr.length≤2→K (.ex 2) e' h'):ZC tp (.loop Q1_10) e h' K:=by
  refine ZC_loop_n (fun n' e hh=>∃ (k':Int) (vr:V) (pr:List Proc) (j:Nat),n'=(k'+1).toNat∧e 0=.p id 0 0∧e 2=.p h.next 0 0∧e 3=.p (h.next+1) 0 0∧e 4=.i .i64 n∧e 5=.i .i64 i∧e 6=.p q 0 0∧e 7=.i .i64 k'∧-1≤k'∧CS q id L h hh vp vc vt P Ch T j∧q<hh.next∧hh.get q=some ⟨11,[[.s nm,.i .i64 0,.i .i64 0,.b sc,.b st,vr,.i .i64 0,.i .i64 0,.i .i64 0,.i .i64 0,.i .i64 0]]⟩∧Sl (q+1) hh 2 vr (pr.map Proc.enc)∧(∀ x∈pr,procB x=true)∧(pr.length:Int)+k'=k) ?_ _ _ _ ⟨k,.ns,[],j,rfl,e0,e2,e3,e4,e5,e6,e7,by omega,a,hq,hb,Sl.nil _ _ _,(fun x hx=>by cases hx),by simp⟩
  clear e0 e2 e3 e4 e5 e6 e7 e a hq hb
  rintro n' e hh ⟨k',vr,pr,j,rfl,e0,e2,e3,e4,e5,e6,e7,hk',a,hq,hb,sr,hpr,hlen⟩ ih
  have q1:=a.q1
  have hlm:=a.lim
  have hro:=sl_own sr
  obtain ⟨rlen,rbig,rlt,rlo,rget,rat,rrow,rcell,rcells⟩:=sr.facts
  have hsv:=Sl.sameV sr
  clear rlt rlo rget rat rrow rlen rbig
  rw [ZC_unf Q1_10.eq_1]
  simp (disch:=omega)only[go_sem, *]
  refine Wb_dec (fun hc=>?_) (fun hc=>?_)
  · simp (disch:=omega)only[go_sem, *]
    refine tnext_ev a.tape a.jl hL (by omega) ?_
    intro v j2 v0 v1 v2 hj2
    have a2:=a.tape2 hid hj2
    have sr2:=sl_put sr id (tapeB L j2) (hro.imp (fun x=>x) (fun x=>by omega))
    have hb2:(hh.put id (tapeB L j2)).get q=some ⟨11,[[.s nm,.i .i64 0,.i .i64 0,.b sc,.b st,vr,.i .i64 0,.i .i64 0,.i .i64 0,.i .i64 0,.i .i64 0]]⟩:=by rw [get_put,gsel_ne (by omega)];exact hb
    have hq2:q<(hh.put id (tapeB L j2)).next:=hq
    generalize hh.put id (tapeB L j2)=h2 at a2 sr2 hb2 hq2 ⊢
    clear a sr hb hq hlm
    have hlm:=a2.lim
    simp (disch:=omega)only[go_sem, *]
    refine tnext_ev a2.tape a2.jl hL (by omega) ?_
    intro v' j3 v0' v1' v2' hj3
    have a3:=a2.tape2 hid hj3
    have sr3:=sl_put sr2 id (tapeB L j3) (hro.imp (fun x=>x) (fun x=>by omega))
    have hb3:(h2.put id (tapeB L j3)).get q=some ⟨11,[[.s nm,.i .i64 0,.i .i64 0,.b sc,.b st,vr,.i .i64 0,.i .i64 0,.i .i64 0,.i .i64 0,.i .i64 0]]⟩:=by rw [get_put,gsel_ne (by omega)];exact hb2
    have hq3:q<(h2.put id (tapeB L j3)).next:=hq2
    generalize h2.put id (tapeB L j3)=h3 at a3 sr3 hb3 hq3 ⊢
    clear a2 sr2 hb2 hq2 hlm
    have hlm:=a3.lim
    simp (disch:=omega)only[go_sem, *]
    refine app_rule (sr3.alloc _) (by simp (disch:=omega)only[go_sem, *]<;>omega) (by simp (disch:=omega)only[go_sem, *]<;>omega) (by simp;omega) ?_
    intro w h4 s4 g4
    have l4:=g4.lim
    have n4:=g4.next
    have gl:=grown_low g4 hro (by simp (disch:=omega)only[go_sem, *]<;>omega)
    have c4:=g4.cell
    have c4s:=g4.cells
    have x3:Ext h3 (h3.alloc ⟨2,[(⟨4*v,v'⟩:Proc).enc]⟩):=(Ext.refl _).alloc _
    simp only [Proc.enc,next_alloc,lim_alloc] at l4 n4 x3 gl
    have hb4:h4.get q=some ⟨11,[[.s nm,.i .i64 0,.i .i64 0,.b sc,.b st,vr,.i .i64 0,.i .i64 0,.i .i64 0,.i .i64 0,.i .i64 0]]⟩:=(gl q (by omega)).trans ((x3.get q (by omega)).trans hb3)
    have hsw:=Sl.sameV s4
    have a5:CS q id L h (h4.put q ⟨11,[[.s nm,.i .i64 0,.i .i64 0,.b sc,.b st,w,.i .i64 0,.i .i64 0,.i .i64 0,.i .i64 0,.i .i64 0]]⟩) vp vc vt P Ch T j3:=a3.keep hid (by rw [next_put];omega) (by rw [lim_put];omega) (fun i hi=>by rw [get_put,gsel_ne (by omega),gl i (by omega)];exact x3.get i (by omega))
    have s5:Sl (q+1) (h4.put q ⟨11,[[.s nm,.i .i64 0,.i .i64 0,.b sc,.b st,w,.i .i64 0,.i .i64 0,.i .i64 0,.i .i64 0,.i .i64 0]]⟩) 2 w ((pr++[(⟨4*v,v'⟩:Proc)]).map Proc.enc):=sl_put (by simpa [Proc.enc] using s4) _ _ ((sl_own s4).imp (fun x=>x) (fun x=>by omega))
    have hpr5:∀ x∈pr++[(⟨4*v,v'⟩:Proc)],procB x=true:=fun x hx=>by
      rcases List.mem_append.1 hx with hx | hx
      · exact hpr x hx
      · rw [List.mem_singleton] at hx;subst hx;simp only [procB];simp;omega
    clear hpr s4
    simp (disch:=omega)only[go_sem, *]
    refine ih _ _ _ ?_ ⟨k' - 1,w,pr++[⟨4*v,v'⟩],j3,rfl, ?_⟩
    · omega
    · simp (disch:=omega)only[go_sem, *]
      ((repeat' refine And.intro ?_ ?_)<;>first | omega | assumption | (exact a5) | (exact s5) | (exact hpr5) | ((simp only [List.length_append,List.length_cons,List.length_nil];omega)))
  · simp (disch:=omega)only[go_sem, *]
    have hpl:procsB pr=true:=by
      unfold procsB
      simp only [Bool.and_eq_true,List.all_eq_true,decide_eq_true_eq]
      exact ⟨hpr,by omega⟩
    exact kk _ hh j vr pr e0 e2 e3 e4 e5 e6 a hq hb sr hpl (by omega)
end
end Go.Ab.T
namespace Go.Ab.T
open Go Go.Ab
set_option maxHeartbeats 4000000
theorem tab5 {v:Int} (h0:0≤v) (h5:v<5):∃ z:Int,0≤z∧z≤2∧[[V.i .i64 0],[.i .i64 1],[.i .i64 0],[.i .i64 2],[.i .i64 1]][v.toNat]?=some [.i .i64 z]:=by
  have:v=0∨v=1∨v=2∨v=3∨v=4:=by omega
  rcases this with rfl | rfl | rfl | rfl | rfl
  · exact ⟨0,by omega,by omega,rfl⟩
  · exact ⟨1,by omega,by omega,rfl⟩
  · exact ⟨0,by omega,by omega,rfl⟩
  · exact ⟨2,by omega,by omega,rfl⟩
  · exact ⟨1,by omega,by omega,rfl⟩
section
variable {q id:Nat} {L:List Int} {h h' h2:AH} {vp vc vt:V} {P:List Part} {Ch:List Chan} {T:List (List Node)} {j:Nat}
theorem cfg_health {K : Ex → Env → AH → Prop} {e : Env} {n : Int} {i : Nat} {nm : ByteArray} {sc st : Bool} {vr : V} {pr : List Proc} (hid : id < h.next) (hlo : h.lim ≤ id) (hL : L.length < 4000000000) (a : CS q id L h h' vp vc vt P Ch T j) (hq : q < h'.next)
    (hb:h'.get q=some ⟨11,[[.s nm,.i .i64 0,.i .i64 0,.b sc,.b st,vr,.i .i64 0,.i .i64 0,.i .i64 0,.i .i64 0,.i .i64 0]]⟩) (sr:Sl (q+1) h' 2 vr (pr.map Proc.enc)) (hpr:procsB pr=true) (hpl:pr.length≤2)
    (e0:e 0=.p id 0 0) (e2:e 2=.p h.next 0 0) (e3:e 3=.p (h.next+1) 0 0) (e4:e 4=.i .i64 n) (e5:e 5=.i .i64 i) (e6:e 6=.p q 0 0) (e50:e 50=.i .i64 0)
    (kk:∀ e' h' j (hs:Nat→Int),(∀ i,0≤hs i∧hs i≤2)→e' 0=.p id 0 0→e' 2=.p h.next 0 0→e' 3=.p (h.next+1) 0 0→e' 4=.i .i64 n→e' 5=.i .i64 i→e' 6=.p q 0 0→CS q id L h h' vp vc vt P Ch T j→q<h'.next→h'.get q=some ⟨11,[(⟨nm,0,0,sc,st,pr,hs 0,hs 1,hs 2,hs 3,hs 4⟩:Part).enc]⟩→K (.ex 4) e' h'):ZC tp (.loop Q1_16) e h' K:=by
  have q1:=a.q1;have q2:=a.q2
  have hp1:0<pr.length:=by
    unfold procsB at hpr
    simp only [Bool.and_eq_true,decide_eq_true_eq] at hpr
    omega
  obtain ⟨rlen,rbig,rlt,rlo,rget,rat,rrow,rcell,rcells⟩:=sr.facts
  have l1:=rlt hp1
  have l2:=rlo hp1
  refine ZC_fix [0,2,3,4,5,6,50] q (idV vr) 11 _ [.s nm,.i .i64 0,.i .i64 0,.b sc,.b st,.fl 2 (pr.map Proc.enc),.i .i64 0,.i .i64 0,.i .i64 0,.i .i64 0,.i .i64 0] (by omega) hb ?_ ?_ ?_
  · exact .cons _ _ _ _ _ (.cons _ _ _ _ _ (.z _ _ (.s _)) (.cons _ _ _ _ _ (.z _ _ (.i _ _)) (.cons _ _ _ _ _ (.z _ _ (.i _ _)) (.cons _ _ _ _ _ (.z _ _ (.b _)) (.cons _ _ _ _ _ (.z _ _ (.b _)) (.cons _ _ _ _ _ (sr.froze (fun _=>rfl) rfl (by omega)) (.cons _ _ _ _ _ (.z _ _ (.i _ _)) (.cons _ _ _ _ _ (.z _ _ (.i _ _)) (.cons _ _ _ _ _ (.z _ _ (.i _ _)) (.cons _ _ _ _ _ (.z _ _ (.i _ _)) (.cons _ _ _ _ _ (.z _ _ (.i _ _)) (.nil _)))))))))))) (.nil _)
  · intro t ht
    simp only [List.mem_cons,List.not_mem_nil,or_false] at ht
    rcases ht with rfl | rfl | rfl | rfl | rfl | rfl | rfl
    · rw [e0];exact .p _ _ _ _ (by omega)
    · rw [e2];exact .p _ _ _ _ (by omega)
    · rw [e3];exact .p _ _ _ _ (by omega)
    · rw [e4];exact .z _ _ (.i _ _)
    · rw [e5];exact .z _ _ (.i _ _)
    · rw [e6];exact .p _ _ _ _ (by omega)
    · rw [e50];exact .z _ _ (.i _ _)
  intro e' he'
  rw [← he' 0 (by simp)] at e0
  rw [← he' 2 (by simp)] at e2
  rw [← he' 3 (by simp)] at e3
  rw [← he' 4 (by simp)] at e4
  rw [← he' 5 (by simp)] at e5
  rw [← he' 6 (by simp)] at e6
  rw [← he' 50 (by simp)] at e50
  have hb1:((h'.kill (idV vr)).put q ⟨11,[[.s nm,.i .i64 0,.i .i64 0,.b sc,.b st,.fl 2 (pr.map Proc.enc),.i .i64 0,.i .i64 0,.i .i64 0,.i .i64 0,.i .i64 0]]⟩).get q=some ⟨11,[(⟨nm,0,0,sc,st,pr,0,0,0,0,0⟩:Part).enc]⟩:=by rw [get_put,gsel_eq rfl];rfl
  have a1:CS q id L h ((h'.kill (idV vr)).put q ⟨11,[[.s nm,.i .i64 0,.i .i64 0,.b sc,.b st,.fl 2 (pr.map Proc.enc),.i .i64 0,.i .i64 0,.i .i64 0,.i .i64 0,.i .i64 0]]⟩) vp vc vt P Ch T j:=a.keep hid (Nat.le_refl _) rfl (fun i hi=>by rw [get_put,gsel_ne (by omega),get_kill,gsel_ne (by omega)])
  have hq1:q<((h'.kill (idV vr)).put q ⟨11,[[.s nm,.i .i64 0,.i .i64 0,.b sc,.b st,.fl 2 (pr.map Proc.enc),.i .i64 0,.i .i64 0,.i .i64 0,.i .i64 0,.i .i64 0]]⟩).next:=hq
  generalize (h'.kill (idV vr)).put q ⟨11,[[.s nm,.i .i64 0,.i .i64 0,.b sc,.b st,.fl 2 (pr.map Proc.enc),.i .i64 0,.i .i64 0,.i .i64 0,.i .i64 0,.i .i64 0]]⟩=h1 at a1 hb1 hq1 ⊢
  clear rlen rbig rlt rlo rget rat rrow rcell rcells l1 l2 sr hb a hq q2 he'
  refine ZC_loop_n (fun n' e hh=>∃ (k j:Nat) (hs:Nat→Int),n'=5 - k∧e 0=.p id 0 0∧e 2=.p h.next 0 0∧e 3=.p (h.next+1) 0 0∧e 4=.i .i64 n∧e 5=.i .i64 i∧e 6=.p q 0 0∧e 50=.i .i64 k∧k≤5∧CS q id L h hh vp vc vt P Ch T j∧q<hh.next∧hh.get q=some ⟨11,[(⟨nm,0,0,sc,st,pr,hs 0,hs 1,hs 2,hs 3,hs 4⟩:Part).enc]⟩∧∀ i,0≤hs i∧hs i≤2) ?_ _ _ _ ⟨0,j,fun _=>0,rfl,e0,e2,e3,e4,e5,e6,e50,by omega,a1,hq1,hb1,fun _=>⟨by simp,by simp⟩⟩
  clear e0 e2 e3 e4 e5 e6 e50 a1 hq1 hb1
  rintro n' e hh ⟨k,j,hs,rfl,e0,e2,e3,e4,e5,e6,e50,hk,a,hq,hb,hhs⟩ ih
  have q2:=a.q2
  have hlm:=a.lim
  rw [ZC_unf Q1_16.eq_1]
  simp (disch:=omega)only[go_sem, *]
  refine Wb_dec (fun hc=>?_) (fun hc=>?_)
  · simp (disch:=omega)only[go_sem, *]
    have x1:Ext hh (hh.alloc ⟨1,[[V.i .i64 0],[.i .i64 1],[.i .i64 0],[.i .i64 2],[.i .i64 1]]⟩):=(Ext.refl _).alloc _
    have a1:=a.ext hid x1
    refine tnext_ev a1.tape a1.jl hL (by rw [lim_alloc];omega) ?_
    intro v j2 v0 v1 v2 hj2
    obtain ⟨z,z0,z2,hz⟩:=tab5 v0 (by omega)
    have a2:=a1.tape2 hid hj2
    have hb2:((hh.alloc ⟨1,[[V.i .i64 0],[.i .i64 1],[.i .i64 0],[.i .i64 2],[.i .i64 1]]⟩).put id (tapeB L j2)).get q=some ⟨11,[(⟨nm,0,0,sc,st,pr,hs 0,hs 1,hs 2,hs 3,hs 4⟩:Part).enc]⟩:=by rw [get_put,gsel_ne (by omega),get_alloc,gsel_ne (by omega)];exact hb
    have hl2:((hh.alloc ⟨1,[[V.i .i64 0],[.i .i64 1],[.i .i64 0],[.i .i64 2],[.i .i64 1]]⟩).put id (tapeB L j2)).get hh.next=some ⟨1,[[V.i .i64 0],[.i .i64 1],[.i .i64 0],[.i .i64 2],[.i .i64 1]]⟩:=by rw [get_put,gsel_ne (by omega),get_alloc,gsel_eq rfl]
    have hn2:((hh.alloc ⟨1,[[V.i .i64 0],[.i .i64 1],[.i .i64 0],[.i .i64 2],[.i .i64 1]]⟩).put id (tapeB L j2)).next=hh.next+1:=rfl
    generalize (hh.alloc ⟨1,[[V.i .i64 0],[.i .i64 1],[.i .i64 0],[.i .i64 2],[.i .i64 1]]⟩).put id (tapeB L j2)=h3 at a2 hb2 hl2 hn2 ⊢
    clear x1 a1 a hb hlm q2
    have hlm:=a2.lim
    simp only [Part.enc] at hb2
    have h15:k=0∨k=1∨k=2∨k=3∨k=4:=by omega
    have fin:∀ hs':Nat→Int,(∀ i,hs' i=hs i∨hs' i=z)→CS q id L h (h3.put q ⟨11,[(⟨nm,0,0,sc,st,pr,hs' 0,hs' 1,hs' 2,hs' 3,hs' 4⟩:Part).enc]⟩) vp vc vt P Ch T j2∧∀ i,0≤hs' i∧hs' i≤2:=fun hs' hh'=>⟨a2.keep hid (Nat.le_refl _) rfl (fun i hi=>by rw [get_put,gsel_ne (by omega)]),fun i=>by have:=hh' i;have:=hhs i;omega⟩
    have hs1:=fun k=>fin (fun i=>if i=k then z else hs i) (fun i=>by by_cases e:i=k<;>simp [e])
    clear fin a2
    simp only [Part.enc] at hs1
    rcases h15 with rfl | rfl | rfl | rfl | rfl
    · have hs2:=hs1 0
      clear hs1
      simp (disch:=omega)only[go_sem, *]
      refine ih _ _ _ ?_ ⟨1,j2,fun i=>if i=0 then z else hs i,rfl, ?_⟩
      · omega
      · simp only [Nat.reduceEqDiff,reduceIte] at hs2
        simp (disch:=omega)only[go_sem, *]
        ((repeat' refine And.intro ?_ ?_)<;>first | omega | assumption | (exact hs2.1) | (exact hs2.2) | (exact fun _=>trivial) | (rfl))
    · have hs2:=hs1 1
      clear hs1
      simp (disch:=omega)only[go_sem, *]
      refine ih _ _ _ ?_ ⟨2,j2,fun i=>if i=1 then z else hs i,rfl, ?_⟩
      · omega
      · simp only [Nat.reduceEqDiff,reduceIte] at hs2
        simp (disch:=omega)only[go_sem, *]
        ((repeat' refine And.intro ?_ ?_)<;>first | omega | assumption | (exact hs2.1) | (exact hs2.2) | (exact fun _=>trivial) | (rfl))
    · have hs2:=hs1 2
      clear hs1
      simp (disch:=omega)only[go_sem, *]
      refine ih _ _ _ ?_ ⟨3,j2,fun i=>if i=2 then z else hs i,rfl, ?_⟩
      · omega
      · simp only [Nat.reduceEqDiff,reduceIte] at hs2
        simp (disch:=omega)only[go_sem, *]
        ((repeat' refine And.intro ?_ ?_)<;>first | omega | assumption | (exact hs2.1) | (exact hs2.2) | (exact fun _=>trivial) | (rfl))
    · have hs2:=hs1 3
      clear hs1
      simp (disch:=omega)only[go_sem, *]
      refine ih _ _ _ ?_ ⟨4,j2,fun i=>if i=3 then z else hs i,rfl, ?_⟩
      · omega
      · simp only [Nat.reduceEqDiff,reduceIte] at hs2
        simp (disch:=omega)only[go_sem, *]
        ((repeat' refine And.intro ?_ ?_)<;>first | omega | assumption | (exact hs2.1) | (exact hs2.2) | (exact fun _=>trivial) | (rfl))
    · have hs2:=hs1 4
      clear hs1
      simp (disch:=omega)only[go_sem, *]
      refine ih _ _ _ ?_ ⟨5,j2,fun i=>if i=4 then z else hs i,rfl, ?_⟩
      · omega
      · simp only [Nat.reduceEqDiff,reduceIte] at hs2
        simp (disch:=omega)only[go_sem, *]
        ((repeat' refine And.intro ?_ ?_)<;>first | omega | assumption | (exact hs2.1) | (exact hs2.2) | (exact fun _=>trivial) | (rfl))
  · simp (disch:=omega)only[go_sem, *]
    exact kk _ hh j hs hhs e0 e2 e3 e4 e5 e6 a hq hb
end
end Go.Ab.T
namespace Go.Ab.T
open Go Go.Ab
set_option maxHeartbeats 4000000
@[irreducible] def nmOf (i:Nat):ByteArray:=⟨#[112]⟩++Utf8.encode (97+(i:Int))
theorem nmOf_val {i:Nat} (h:i<4):binV .add (.s ⟨#[112]⟩) (.s (Utf8.encode (97+(i:Int))))=some (.s (nmOf i)):=by
  unfold nmOf
  refine binS_add ?_
  match i,h with
  | 0,_=>decide
  | 1,_=>decide
  | 2,_=>decide
  | 3,_=>decide
theorem nmOf_ok {i:Nat} (h:i<4):nameB (nmOf i)=true:=by
  unfold nameB nmOf
  match i,h with
  | 0,_=>decide
  | 1,_=>decide
  | 2,_=>decide
  | 3,_=>decide
theorem nmOf_ne {i j:Nat} (hi:i<4) (hj:j<4) (h:i≠j):nmOf i≠nmOf j:=by
  unfold nmOf
  match i,j,hi,hj,h with
  | 0,0,_,_,h | 1,1,_,_,h | 2,2,_,_,h | 3,3,_,_,h=>exact absurd rfl h
  | 0,1,_,_,_ | 0,2,_,_,_ | 0,3,_,_,_ | 1,0,_,_,_ | 1,2,_,_,_ | 1,3,_,_,_ | 2,0,_,_,_ | 2,1,_,_,_ | 2,3,_,_,_ | 3,0,_,_,_ | 3,1,_,_,_ | 3,2,_,_,_=>decide
def PO (p:Part) (k:Nat):Prop:=p.name=nmOf k∧partB p=true∧z0 p=p
section
variable {id:Nat} {L:List Int} {h h' h2:AH} {T:List (List Node)} {j:Nat}
theorem cfg_parts {K : Ex → Env → AH → Prop} {e : Env} {n : Nat} (hid : id < h.next) (hlo : h.lim ≤ id) (hL : L.length < 4000000000) (hn : n ≤ 4) (a : CS h'.next id L h h' .ns .ns .ns [] [] [] j)
    (e0:e 0=.p id 0 0) (e2:e 2=.p h.next 0 0) (e3:e 3=.p (h.next+1) 0 0) (e4:e 4=.i .i64 n) (e5:e 5=.i .i64 0)
    (kk:∀ e' h' j vp P,e' 0=.p id 0 0→e' 2=.p h.next 0 0→e' 3=.p (h.next+1) 0 0→e' 4=.i .i64 n→CS h'.next id L h h' vp .ns .ns P [] [] j→P.length=n→(∀ k,k<n→PO (nth P k) k)→K (.ex 0) e' h'):ZC tp (.loop Q1_19) e h' K:=by
  refine ZC_loop_n (fun n' e hh=>∃ (i j:Nat) (vp:V) (P:List Part),n'=n - i∧e 0=.p id 0 0∧e 2=.p h.next 0 0∧e 3=.p (h.next+1) 0 0∧e 4=.i .i64 n∧e 5=.i .i64 i∧i≤n∧CS hh.next id L h hh vp .ns .ns P [] [] j∧P.length=i∧∀ k,k<i→PO (nth P k) k) ?_ _ _ _ ⟨0,j,.ns,[],rfl,e0,e2,e3,e4,e5,by omega,a,rfl,fun k hk=>by omega⟩
  clear e0 e2 e3 e4 e5 e a
  rintro n' e hh ⟨i,j,vp,P,rfl,e0,e2,e3,e4,e5,hi,a,hlen,hP⟩ ih
  have hlm:=a.lim
  have q1:=a.q1
  rw [ZC_unf Q1_19.eq_1]
  simp (disch:=omega)only[go_sem, *]
  refine Wb_dec (fun hc=>?_) (fun hc=>?_)
  · have hnm:=nmOf_val (i:=i) (by omega)
    have hw32:IntKind.wrap .i32 (97+(i:Int))=97+i:=by rw [IntKind.wrap_i32];omega
    simp (disch:=omega)only[go_sem, *]
    refine tnext_ev a.tape a.jl hL (by omega) ?_
    intro v j1 v0 v1 v2 hj1
    have a1:=a.tape2 hid hj1
    have n1:(hh.put id (tapeB L j1)).next=hh.next:=rfl
    rw [← n1] at a1 q1
    clear n1
    generalize hh.put id (tapeB L j1)=h1 at a1 q1 ⊢
    clear a hlm
    have hlm:=a1.lim
    simp (disch:=omega)only[go_sem, *]
    refine tnext_ev a1.tape a1.jl hL (by omega) ?_
    intro w j2 w0 w1 w2 hj2
    have a2:=a1.tape2 hid hj2
    have n2:(h1.put id (tapeB L j2)).next=h1.next:=rfl
    rw [← n2] at a2 q1
    clear n2
    generalize h1.put id (tapeB L j2)=h2 at a2 q1 ⊢
    clear a1 hlm
    have hlm:=a2.lim
    simp (disch:=omega)only[go_sem, *]
    have x3:Ext h2 ((h2.alloc ⟨11,[[.s ⟨#[]⟩,.i .i64 0,.i .i64 0,.b false,.b false,.ns,.i .i64 0,.i .i64 0,.i .i64 0,.i .i64 0,.i .i64 0]]⟩).put h2.next ⟨11,[[.s (nmOf i),.i .i64 0,.i .i64 0,.b (decide (v=0)),.b (decide (w=0)),.ns,.i .i64 0,.i .i64 0,.i .i64 0,.i .i64 0,.i .i64 0]]⟩):=by (repeat (first | exact Ext.refl _ | refine Ext.alloc ?_ _ | (refine Ext.put ?_ _ _ ?_;rotate_left;(first | omega | (simp only [next_alloc,next_put];omega)))))
    have a3:=a2.ext hid x3
    have b3:((h2.alloc ⟨11,[[.s ⟨#[]⟩,.i .i64 0,.i .i64 0,.b false,.b false,.ns,.i .i64 0,.i .i64 0,.i .i64 0,.i .i64 0,.i .i64 0]]⟩).put h2.next ⟨11,[[.s (nmOf i),.i .i64 0,.i .i64 0,.b (decide (v=0)),.b (decide (w=0)),.ns,.i .i64 0,.i .i64 0,.i .i64 0,.i .i64 0,.i .i64 0]]⟩).get h2.next=some ⟨11,[[.s (nmOf i),.i .i64 0,.i .i64 0,.b (decide (v=0)),.b (decide (w=0)),.ns,.i .i64 0,.i .i64 0,.i .i64 0,.i .i64 0,.i .i64 0]]⟩:=by rw [get_put,gsel_eq rfl]
    have n3:h2.next<((h2.alloc ⟨11,[[.s ⟨#[]⟩,.i .i64 0,.i .i64 0,.b false,.b false,.ns,.i .i64 0,.i .i64 0,.i .i64 0,.i .i64 0,.i .i64 0]]⟩).put h2.next ⟨11,[[.s (nmOf i),.i .i64 0,.i .i64 0,.b (decide (v=0)),.b (decide (w=0)),.ns,.i .i64 0,.i .i64 0,.i .i64 0,.i .i64 0,.i .i64 0]]⟩).next:=Nat.lt_succ_self _
    generalize (h2.alloc ⟨11,[[.s ⟨#[]⟩,.i .i64 0,.i .i64 0,.b false,.b false,.ns,.i .i64 0,.i .i64 0,.i .i64 0,.i .i64 0,.i .i64 0]]⟩).put h2.next ⟨11,[[.s (nmOf i),.i .i64 0,.i .i64 0,.b (decide (v=0)),.b (decide (w=0)),.ns,.i .i64 0,.i .i64 0,.i .i64 0,.i .i64 0,.i .i64 0]]⟩=h3 at a3 b3 n3 ⊢
    clear x3 a2 hlm
    have hlm:=a3.lim
    refine tnext_ev a3.tape a3.jl hL (by omega) ?_
    intro k j4 k0 k1 k2 hj4
    have a4:=a3.tape2 hid hj4
    have b4:(h3.put id (tapeB L j4)).get h2.next=some ⟨11,[[.s (nmOf i),.i .i64 0,.i .i64 0,.b (decide (v=0)),.b (decide (w=0)),.ns,.i .i64 0,.i .i64 0,.i .i64 0,.i .i64 0,.i .i64 0]]⟩:=by rw [get_put,gsel_ne (by omega)];exact b3
    have n4:h2.next<(h3.put id (tapeB L j4)).next:=n3
    generalize h3.put id (tapeB L j4)=h4 at a4 b4 n4 ⊢
    clear a3 b3 n3 hlm
    simp (disch:=omega)only[go_sem, *]
    refine cfg_procs (k:=k) (n:=n) (i:=i) hid hlo hL k0 (by omega) a4 n4 b4 (by simp (disch:=omega)only[go_sem, *]) (by simp (disch:=omega)only[go_sem, *]) (by simp (disch:=omega)only[go_sem, *]) (by simp (disch:=omega)only[go_sem, *]) (by simp (disch:=omega)only[go_sem, *]) (by simp (disch:=omega)only[go_sem, *]) (by simp (disch:=omega)only[go_sem, *]) ?_
    clear a4 n4 b4 e0 e2 e3 e4 e5 e
    intro e h5 j5 vr pr e0 e2 e3 e4 e5 e6 a5 n5 b5 s5 hpr hpl
    simp (disch:=omega)only[go_sem, *]
    refine cfg_health (n:=n) (i:=i) hid hlo hL a5 n5 b5 s5 hpr hpl (by simp (disch:=omega)only[go_sem, *]) (by simp (disch:=omega)only[go_sem, *]) (by simp (disch:=omega)only[go_sem, *]) (by simp (disch:=omega)only[go_sem, *]) (by simp (disch:=omega)only[go_sem, *]) (by simp (disch:=omega)only[go_sem, *]) (by simp (disch:=omega)only[go_sem, *]) ?_
    clear a5 n5 b5 s5 e0 e2 e3 e4 e5 e6 e h5 j5 vr
    intro e h5 j5 hs hhs e0 e2 e3 e4 e5 e6 a5 n5 b5
    have hbox:=a5.box
    have hlm:=a5.lim
    have b6:=b5
    simp only [Part.enc] at b6
    have hpo:PO ⟨nmOf i,0,0,decide (v=0),decide (w=0),pr,hs 0,hs 1,hs 2,hs 3,hs 4⟩ i:=by
      refine ⟨rfl, ?_,rfl⟩
      unfold partB
      have t0:=hhs 0;have t1:=hhs 1;have t2:=hhs 2;have t3:=hhs 3;have t4:=hhs 4
      have e1:healthB ⟨nmOf i,0,0,decide (v=0),decide (w=0),pr,hs 0,hs 1,hs 2,hs 3,hs 4⟩=true:=by unfold healthB;rw [decide_eq_true_eq];exact ⟨t0.1,t0.2,t1.1,t1.2,t2.1,t2.2,t3.1,t3.2,t4.1,t4.2⟩
      rw [e1];simp only [hpr];rfl
    simp (disch:=omega)only[go_sem, *]
    refine app_rule (N:=[(⟨nmOf i,0,0,decide (v=0),decide (w=0),pr,hs 0,hs 1,hs 2,hs 3,hs 4⟩:Part).enc]) (a5.sp.alloc _) (by simp (disch:=omega)only[go_sem, *]<;>omega) (by simp (disch:=omega)only[go_sem, *]<;>omega) (by simp;omega) ?_
    intro vp' h6 s6 g6
    have x6:Ext h5 (h5.alloc ⟨11,[(⟨nmOf i,0,0,decide (v=0),decide (w=0),pr,hs 0,hs 1,hs 2,hs 3,hs 4⟩:Part).enc]⟩):=(Ext.refl _).alloc _
    have a6:=a5.grow_p (x:=⟨nmOf i,0,0,decide (v=0),decide (w=0),pr,hs 0,hs 1,hs 2,hs 3,hs 4⟩) hid x6 s6 g6
    have hb6:h6.get (h.next+1)=some ⟨3,[[vp,.ns,.ns]]⟩:=by
      rw [grown_low g6 (sl_own a5.sp) (by rw [next_alloc];omega) _ (by omega),get_alloc,gsel_ne (by omega)];exact hbox
    have l6:=g6.lim
    have hc6:=g6.cell
    have hcs6:=g6.cells
    clear s6 g6 x6
    simp only [lim_alloc] at l6
    simp (disch:=omega)only[go_sem, *]
    refine ih _ _ _ ?_ ⟨i+1,j5,vp',P++[⟨nmOf i,0,0,decide (v=0),decide (w=0),pr,hs 0,hs 1,hs 2,hs 3,hs 4⟩],rfl, ?_⟩
    · omega
    · simp (disch:=omega)only[go_sem, *]
      refine ⟨by omega,by rw [List.length_append,hlen];rfl,fun k hk=>?_⟩
      rw [nth_app]
      split
      · exact hP k (by omega)
      · obtain rfl:k=i:=by omega
        rw [show k - P.length=0 by omega,nth_cons0]
        exact hpo
  · simp (disch:=omega)only[go_sem, *]
    obtain rfl:i=n:=by omega
    exact kk _ hh j vp P e0 e2 e3 e4 a hlen hP
end
end Go.Ab.T
namespace Go.Ab.T
open Go Go.Ab
set_option maxHeartbeats 4000000
theorem tab3 {v:Int} (h0:0≤v) (h5:v<3):∃ z:Int,[[V.i .u32 4294967295],[.i .u32 200],[.i .u32 3]][v.toNat]?=some [.i .u32 z]∧0≤z∧z≤4294967295:=by
  have:v=0∨v=1∨v=2:=by omega
  rcases this with rfl | rfl | rfl
  · exact ⟨4294967295,rfl,by omega,by omega⟩
  · exact ⟨200,rfl,by omega,by omega⟩
  · exact ⟨3,rfl,by omega,by omega⟩
theorem other {f r n:Int} (h0:0≤f) (h1:f<n) (h2:0≤r) (h3:r<n - 1∨r=0) (hn:1<n):0≤(f+1+r).tmod n∧(f+1+r).tmod n<n∧f≠(f+1+r).tmod n:=by
  rw [Int.tmod_eq_emod_of_nonneg (by omega)]
  by_cases h:f+1+r<n
  · rw [Int.emod_eq_of_lt (by omega) h];omega
  · have e:(f+1+r) % n=(f+1+r - n) % n:=by rw [Int.sub_emod_right]
    rw [e,Int.emod_eq_of_lt (by omega) (by omega)];omega
section
variable {id:Nat} {L:List Int} {h h' h2:AH} {P:List Part} {j:Nat}
theorem cfg_chans {K : Ex → Env → AH → Prop} {e : Env} {n k : Int} {vp : V} (hid : id < h.next) (hlo : h.lim ≤ id) (hL : L.length < 4000000000) (hn : n ≤ 4) (hk : k ≤ 3) (hk0 : 0 ≤ k) (a : CS h'.next id L h h' vp .ns .ns P [] [] j)
    (e0:e 0=.p id 0 0) (e2:e 2=.p h.next 0 0) (e3:e 3=.p (h.next+1) 0 0) (e4:e 4=.i .i64 n) (e9:e 9=.i .i64 k)
    (kk:∀ e' h' j vc Ch,e' 0=.p id 0 0→e' 2=.p h.next 0 0→e' 3=.p (h.next+1) 0 0→e' 4=.i .i64 n→CS h'.next id L h h' vp vc .ns P Ch [] j→Ch.length≤3→(∀ x∈Ch,chanB n x=true∧x.late=0∧TopOk x)→K (.ex 6) e' h'):ZC tp (.loop Q1_28) e h' K:=by
  refine ZC_loop_n (fun n' e hh=>∃ (k:Int) (j:Nat) (vc:V) (Ch:List Chan),n'=k.toNat∧e 0=.p id 0 0∧e 2=.p h.next 0 0∧e 3=.p (h.next+1) 0 0∧e 4=.i .i64 n∧e 9=.i .i64 k∧CS hh.next id L h hh vp vc .ns P Ch [] j∧Ch.length+k≤3∧0≤k∧∀ x∈Ch,chanB n x=true∧x.late=0∧TopOk x) ?_ _ _ _ ⟨k,j,.ns,[],rfl,e0,e2,e3,e4,e9,a,by simp;omega,hk0,(fun x hx=>by cases hx)⟩
  clear e0 e2 e3 e4 e9 e a hk hk0
  rintro n' e hh ⟨k,j,vc,Ch,rfl,e0,e2,e3,e4,e9,a,hk,hk0,hC⟩ ih
  have hlm:=a.lim
  have q1:=a.q1
  rw [ZC_unf Q1_28.eq_1]
  simp (disch:=omega)only[go_sem, *]
  refine Wg_dec (fun hc=>?_) (fun hc=>?_)
  rotate_left
  · simp (disch:=omega)only[go_sem, *]
    exact kk _ hh j vc Ch e0 e2 e3 e4 a (by omega) hC
  simp (disch:=omega)only[go_sem, *]
  refine Wb_dec (fun hc2=>?_) (fun hc2=>?_)
  rotate_left
  · simp (disch:=omega)only[go_sem, *]
    exact kk _ hh j vc Ch e0 e2 e3 e4 a (by omega) hC
  simp (disch:=omega)only[go_sem, *]
  refine tnext_ev a.tape a.jl hL (by omega) ?_
  intro f j1 f0 f1 f2 hj1
  have a1:=a.tape2 hid hj1
  have n1:(hh.put id (tapeB L j1)).next=hh.next:=rfl
  rw [← n1] at a1 q1
  clear n1
  generalize hh.put id (tapeB L j1)=h1 at a1 q1 ⊢
  clear a hlm
  have hlm:=a1.lim
  simp (disch:=omega)only[go_sem, *]
  have x2:Ext h1 ((h1.alloc ⟨1,[[V.i .u32 4294967295],[.i .u32 200],[.i .u32 3]]⟩).alloc ⟨6,[[.i .i64 0,.i .i64 0,.b false,.i .i64 0,.i .u32 0,.i .i64 0]]⟩):=((Ext.refl _).alloc _).alloc _
  have a2:=a1.ext hid x2
  have g2:((h1.alloc ⟨1,[[V.i .u32 4294967295],[.i .u32 200],[.i .u32 3]]⟩).alloc ⟨6,[[.i .i64 0,.i .i64 0,.b false,.i .i64 0,.i .u32 0,.i .i64 0]]⟩).get h1.next=some ⟨1,[[V.i .u32 4294967295],[.i .u32 200],[.i .u32 3]]⟩:=by rw [get_alloc,gsel_ne (by rw [next_alloc];omega),get_alloc,gsel_eq rfl]
  have m2:((h1.alloc ⟨1,[[V.i .u32 4294967295],[.i .u32 200],[.i .u32 3]]⟩).alloc ⟨6,[[.i .i64 0,.i .i64 0,.b false,.i .i64 0,.i .u32 0,.i .i64 0]]⟩).get (h1.next+1)=some ⟨6,[[.i .i64 0,.i .i64 0,.b false,.i .i64 0,.i .u32 0,.i .i64 0]]⟩:=by rw [get_alloc,next_alloc,gsel_eq rfl]
  have n2:h1.next+2≤((h1.alloc ⟨1,[[V.i .u32 4294967295],[.i .u32 200],[.i .u32 3]]⟩).alloc ⟨6,[[.i .i64 0,.i .i64 0,.b false,.i .i64 0,.i .u32 0,.i .i64 0]]⟩).next:=Nat.le_refl _
  generalize ((h1.alloc ⟨1,[[V.i .u32 4294967295],[.i .u32 200],[.i .u32 3]]⟩).alloc ⟨6,[[.i .i64 0,.i .i64 0,.b false,.i .i64 0,.i .u32 0,.i .i64 0]]⟩)=h2 at a2 g2 m2 n2 ⊢
  clear x2 a1 hlm
  have hlm:=a2.lim
  refine tnext_ev a2.tape a2.jl hL (by omega) ?_
  intro r j2 r0 r1 r2 hj2
  have a3:=a2.tape2 hid hj2
  have g3:(h2.put id (tapeB L j2)).get h1.next=some ⟨1,[[V.i .u32 4294967295],[.i .u32 200],[.i .u32 3]]⟩:=by rw [get_put,gsel_ne (by omega)];exact g2
  have m3:(h2.put id (tapeB L j2)).get (h1.next+1)=some ⟨6,[[.i .i64 0,.i .i64 0,.b false,.i .i64 0,.i .u32 0,.i .i64 0]]⟩:=by rw [get_put,gsel_ne (by omega)];exact m2
  have n3:h1.next+2≤(h2.put id (tapeB L j2)).next:=n2
  generalize h2.put id (tapeB L j2)=h3 at a3 g3 m3 n3 ⊢
  clear a2 g2 m2 n2 hlm
  have hlm:=a3.lim
  obtain ⟨d0,d1,d2⟩:=other f0 (show f<n by omega) r0 r2 hc2
  generalize hd:(f+1+r).tmod n=d at d0 d1 d2
  simp (disch:=omega)only[go_sem, *]
  refine tnext_ev a3.tape a3.jl hL (by omega) ?_
  intro b j3 b0 b1 b2 hj3
  have a4:=a3.tape2 hid hj3
  have g4:(h3.put id (tapeB L j3)).get h1.next=some ⟨1,[[V.i .u32 4294967295],[.i .u32 200],[.i .u32 3]]⟩:=by rw [get_put,gsel_ne (by omega)];exact g3
  have m4:(h3.put id (tapeB L j3)).get (h1.next+1)=some ⟨6,[[.i .i64 0,.i .i64 0,.b false,.i .i64 0,.i .u32 0,.i .i64 0]]⟩:=by rw [get_put,gsel_ne (by omega)];exact m3
  have n4:h1.next+2≤(h3.put id (tapeB L j3)).next:=n3
  generalize h3.put id (tapeB L j3)=h4 at a4 g4 m4 n4 ⊢
  clear a3 g3 m3 n3 hlm
  have hlm:=a4.lim
  simp (disch:=omega)only[go_sem, *]
  refine tnext_ev a4.tape a4.jl hL (by omega) ?_
  intro u j4 u0 u1 u2 hj4
  have a5:=a4.tape2 hid hj4
  have g5:(h4.put id (tapeB L j4)).get h1.next=some ⟨1,[[V.i .u32 4294967295],[.i .u32 200],[.i .u32 3]]⟩:=by rw [get_put,gsel_ne (by omega)];exact g4
  have m5:(h4.put id (tapeB L j4)).get (h1.next+1)=some ⟨6,[[.i .i64 0,.i .i64 0,.b false,.i .i64 0,.i .u32 0,.i .i64 0]]⟩:=by rw [get_put,gsel_ne (by omega)];exact m4
  have n5:h1.next+2≤(h4.put id (tapeB L j4)).next:=n4
  generalize h4.put id (tapeB L j4)=h5 at a5 g5 m5 n5 ⊢
  clear a4 g4 m4 n4 hlm
  have hlm:=a5.lim
  obtain ⟨z,hz,hzt⟩:=tab3 u0 (by omega)
  simp (disch:=omega)only[go_sem, *]
  have a6:CS h1.next id L h (h5.put (h1.next+1) ⟨6,[[.i .i64 f,.i .i64 d,.b (decide (b=0)),.i .i64 0,.i .u32 z,.i .i64 0]]⟩) vp vc .ns P Ch [] j4:=a5.keep hid (Nat.le_refl _) rfl (fun i hi=>by rw [get_put,gsel_ne (by omega)])
  have m6:(h5.put (h1.next+1) ⟨6,[[.i .i64 f,.i .i64 d,.b (decide (b=0)),.i .i64 0,.i .u32 z,.i .i64 0]]⟩).get (h1.next+1)=some ⟨6,[[.i .i64 f,.i .i64 d,.b (decide (b=0)),.i .i64 0,.i .u32 z,.i .i64 0]]⟩:=by rw [get_put,gsel_eq rfl]
  have n6:h1.next+2≤(h5.put (h1.next+1) ⟨6,[[.i .i64 f,.i .i64 d,.b (decide (b=0)),.i .i64 0,.i .u32 z,.i .i64 0]]⟩).next:=n5
  generalize h5.put (h1.next+1) ⟨6,[[.i .i64 f,.i .i64 d,.b (decide (b=0)),.i .i64 0,.i .u32 z,.i .i64 0]]⟩=h6 at a6 m6 n6 ⊢
  clear a5 g5 m5 n5 hlm hz
  have hlm:=a6.lim
  refine Wb_dec (fun hb=>?_) (fun hb=>?_)
  · have hbt:decide (b=0)=true:=decide_eq_true hb
    rw [hbt] at m6
    clear hbt
    simp (disch:=omega)only[go_sem, *]
    refine tnext_ev a6.tape a6.jl hL (by omega) ?_
    intro c j5 c0 c1 c2 hj5
    have a7:=a6.tape2 hid hj5
    have m7:(h6.put id (tapeB L j5)).get (h1.next+1)=some ⟨6,[[.i .i64 f,.i .i64 d,.b true,.i .i64 0,.i .u32 z,.i .i64 0]]⟩:=by rw [get_put,gsel_ne (by omega)];exact m6
    have n7:h1.next+2≤(h6.put id (tapeB L j5)).next:=n6
    generalize h6.put id (tapeB L j5)=h7 at a7 m7 n7 ⊢
    clear a6 m6 n6 hlm
    have hlm:=a7.lim
    have a8:CS h1.next id L h (h7.put (h1.next+1) ⟨6,[(⟨f,d,true,1+c,z,0⟩:Chan).enc]⟩) vp vc .ns P Ch [] j5:=a7.keep hid (Nat.le_refl _) rfl (fun i hi=>by rw [get_put,gsel_ne (by omega)])
    have m8:(h7.put (h1.next+1) ⟨6,[(⟨f,d,true,1+c,z,0⟩:Chan).enc]⟩).get (h1.next+1)=some ⟨6,[(⟨f,d,true,1+c,z,0⟩:Chan).enc]⟩:=by rw [get_put,gsel_eq rfl]
    have n8:h1.next+2≤(h7.put (h1.next+1) ⟨6,[(⟨f,d,true,1+c,z,0⟩:Chan).enc]⟩).next:=n7
    have hx:chanB n ⟨f,d,true,1+c,z,0⟩=true:=by
      unfold chanB
      simp only [Bool.and_eq_true,decide_eq_true_eq,reduceIte]
      omega
    have hbox:=a7.box
    have nn:=a7.q2
    simp (disch:=omega)only[go_sem, *]
    refine app_rule (N:=[(⟨f,d,true,(1+c),z,0⟩:Chan).enc]) (a8.sc.alloc _) (by first | omega | (simp (disch:=omega)only[go_sem, *]<;>omega)) (by first | omega | (simp (disch:=omega)only[go_sem, *]<;>omega)) (by simp;omega) ?_
    intro vc' h9 s9 g9
    have x9:=(Ext.refl (h7.put (h1.next+1) ⟨6,[(⟨f,d,true,1+c,z,0⟩:Chan).enc]⟩)).alloc ⟨6,[(⟨f,d,true,(1+c),z,0⟩:Chan).enc]⟩
    have a9:=a8.grow_c (x:=⟨f,d,true,(1+c),z,0⟩) hid x9 s9 g9
    have hb9:h9.get (h.next+1)=some ⟨3,[[vp,vc,.ns]]⟩:=by
      rw [grown_low g9 (sl_own a8.sc) (by first | omega | (simp (disch:=omega)only[go_sem, *]<;>omega)) _ (by omega),get_alloc,gsel_ne (by first | omega | (simp (disch:=omega)only[go_sem, *]<;>omega))];exact a8.box
    have l9:=g9.lim
    have hc9:=g9.cell
    have hcs9:=g9.cells
    clear s9 g9 x9 hbox
    simp only [lim_alloc,lim_put] at l9
    simp (disch:=omega)only[go_sem, *]
    refine ih _ _ _ ?_ ⟨k - 1,j5,vc',Ch++[⟨f,d,true,(1+c),z,0⟩],rfl, ?_⟩
    · omega
    · have hCC:∀ x∈Ch++[(⟨f,d,true,(1+c),z,0⟩:Chan)],chanB n x=true∧x.late=0∧TopOk x:=fun x hx2=>by
        rcases List.mem_append.1 hx2 with h1 | h1
        · exact hC x h1
        · rw [List.mem_singleton] at h1;subst h1;exact ⟨hx,rfl,hzt⟩
      have hLL:((Ch++[(⟨f,d,true,(1+c),z,0⟩:Chan)]).length:Int)+(k - 1)≤3:=by rw [List.length_append];simp only [List.length_cons,List.length_nil];omega
      clear ih kk
      simp (disch:=omega)only[go_sem, *]
      ((repeat' refine And.intro ?_ ?_)<;>first | omega | assumption | (exact a9) | (exact hCC) | (exact hLL))
  · have hbf:decide (b=0)=false:=decide_eq_false hb
    rw [hbf] at m6
    clear hbf
    have hx:chanB n ⟨f,d,false,0,z,0⟩=true:=by
      unfold chanB
      simp
      omega
    have hbox:=a6.box
    have nn:=a6.q2
    simp (disch:=omega)only[go_sem, *]
    refine app_rule (N:=[(⟨f,d,false,0,z,0⟩:Chan).enc]) (a6.sc.alloc _) (by first | omega | (simp (disch:=omega)only[go_sem, *]<;>omega)) (by first | omega | (simp (disch:=omega)only[go_sem, *]<;>omega)) (by simp;omega) ?_
    intro vc' h9 s9 g9
    have x9:=(Ext.refl (h6)).alloc ⟨6,[(⟨f,d,false,0,z,0⟩:Chan).enc]⟩
    have a9:=a6.grow_c (x:=⟨f,d,false,0,z,0⟩) hid x9 s9 g9
    have hb9:h9.get (h.next+1)=some ⟨3,[[vp,vc,.ns]]⟩:=by
      rw [grown_low g9 (sl_own a6.sc) (by first | omega | (simp (disch:=omega)only[go_sem, *]<;>omega)) _ (by omega),get_alloc,gsel_ne (by first | omega | (simp (disch:=omega)only[go_sem, *]<;>omega))];exact a6.box
    have l9:=g9.lim
    have hc9:=g9.cell
    have hcs9:=g9.cells
    clear s9 g9 x9 hbox
    simp only [lim_alloc,lim_put] at l9
    simp (disch:=omega)only[go_sem, *]
    refine ih _ _ _ ?_ ⟨k - 1,j4,vc',Ch++[⟨f,d,false,0,z,0⟩],rfl, ?_⟩
    · omega
    · have hCC:∀ x∈Ch++[(⟨f,d,false,0,z,0⟩:Chan)],chanB n x=true∧x.late=0∧TopOk x:=fun x hx2=>by
        rcases List.mem_append.1 hx2 with h1 | h1
        · exact hC x h1
        · rw [List.mem_singleton] at h1;subst h1;exact ⟨hx,rfl,hzt⟩
      have hLL:((Ch++[(⟨f,d,false,0,z,0⟩:Chan)]).length:Int)+(k - 1)≤3:=by rw [List.length_append];simp only [List.length_cons,List.length_nil];omega
      clear ih kk
      simp (disch:=omega)only[go_sem, *]
      ((repeat' refine And.intro ?_ ?_)<;>first | omega | assumption | (exact a9) | (exact hCC) | (exact hLL))
end
end Go.Ab.T
namespace Go.Ab.T
open Go Go.Ab
set_option maxHeartbeats 4000000
theorem Sl.weak {b b' sz:Nat} {h:AH} {v:V} {R:List (List V)} (s:Sl b h sz v R) (hb:b'≤b):Sl b' h sz v R:=by
  rcases s with hs | ⟨i,el,cap,cs,rfl,hg,a1,a2,a3,a4,a5,a6⟩
  · exact .inl hs
  · exact .inr ⟨i,el,cap,cs,rfl,hg,a1,a2,a3,a4,by omega,a6⟩
theorem Sl.frzs {b sz:Nat} {h:AH} {v:V} {R:List (List V)} {P:Nat→Prop} (s:Sl b h sz v R):Frz P h h.next v v:=by
  rcases s with ⟨hv,_⟩ | ⟨i,el,cap,cs,rfl,hg,a1,a2,a3,a4,a5,a6⟩
  · rcases hv with rfl | rfl
    · exact .z _ _ .ns
    · exact .z _ _ .e0
  · exact .so _ _ _ _ _ a4
theorem sl_kill {b sz i:Nat} {h:AH} {v:V} {R:List (List V)} (s:Sl b h sz v R) (d:nilV v=true∨idV v≠i):Sl b (h.kill i) sz v R:=by
  rcases d with d | d
  · rcases s with hs | ⟨_,_,_,_,rfl,_⟩
    · exact .inl hs
    · cases d
  · exact s.same (Nat.le_refl _) (fun _=>by rw [get_kill,gsel_ne d])
structure Made (C:Config):Prop where
  wh:whereR C=(0,-1)
  nm:NmOk C
  ch:C.chans.length≤3
  tb:C.tables.length≤2
  pt:C.parts.length≤4
  tops:∀ x∈C.chans,TopOk x
section
variable {id:Nat} {L:List Int} {h h' h2:AH} {P:List Part} {Ch:List Chan} {j:Nat}
theorem cfg_tabs {K : Ex → Env → AH → Prop} {e : Env} {n k : Int} {vp vc : V} (hid : id < h.next) (hlo : h.lim ≤ id) (hL : L.length < 4000000000) (hn1 : 1 ≤ n) (hn : n ≤ 4) (hk : k ≤ 1) (hk0 : 0 ≤ k) (a : CS h'.next id L h h' vp vc .ns P Ch [] j)
    (e0:e 0=.p id 0 0) (e2:e 2=.p h.next 0 0) (e3:e 3=.p (h.next+1) 0 0) (e4:e 4=.i .i64 n) (e12:e 12=.i .i64 k)
    (kk:∀ e' h' j vt T,e' 0=.p id 0 0→e' 2=.p h.next 0 0→e' 3=.p (h.next+1) 0 0→CS h'.next id L h h' vp vc vt P Ch T j→1≤T.length→T.length≤2→(∀ x∈T,TabOk n x)→K (.ex 8) e' h'):ZC tp (.loop Q1_33) e h' K:=by
  refine ZC_loop_n (fun n' e hh=>∃ (q:Int) (j:Nat) (vt:V) (T:List (List Node)),n'=(q+1).toNat∧e 0=.p id 0 0∧e 2=.p h.next 0 0∧e 3=.p (h.next+1) 0 0∧e 4=.i .i64 n∧e 12=.i .i64 q∧CS hh.next id L h hh vp vc vt P Ch T j∧T.length+q=k∧-1≤q∧∀ x∈T,TabOk n x) ?_ _ _ _ ⟨k,j,.ns,[],rfl,e0,e2,e3,e4,e12,a,by simp,by omega,(fun x hx=>by cases hx)⟩
  clear e0 e2 e3 e4 e12 e a
  rintro n' e hh ⟨q,j,vt,T,rfl,e0,e2,e3,e4,e12,a,hq,hq0,hT⟩ ih
  have hlm:=a.lim
  have q1:=a.q1
  have hbox:=a.box
  have hsv:=Sl.sameV a.st
  obtain ⟨_,_,_,_,_,_,_,tcell,tcells⟩:=a.st.facts
  rw [ZC_unf Q1_33.eq_1]
  simp (disch:=omega)only[go_sem, *]
  refine Wb_dec (fun hc=>?_) (fun hc=>?_)
  · simp (disch:=omega)only[go_sem, *]
    refine frame_ev hn1 (by omega) hL a.tape a.jl (by omega) ?_
    intro x j1 hx hxl hj1
    have a1:=a.tape2 hid hj1
    have n1:(hh.put id (tapeB L j1)).next=hh.next:=rfl
    rw [← n1] at a1 q1
    clear n1
    generalize hh.put id (tapeB L j1)=h1 at a1 q1 ⊢
    clear a hlm hbox
    have hlm:=a1.lim
    have hbox:=a1.box
    simp (disch:=omega)only[go_sem, *]
    refine app_rule (N:=[Tab.enc x]) (a1.st.alloc _) (by first | omega | (simp (disch:=omega)only[go_sem, *]<;>omega)) (by first | omega | (simp (disch:=omega)only[go_sem, *]<;>omega)) (by simp;omega) ?_
    intro vt' h9 s9 g9
    have x9:=(Ext.refl h1).alloc ⟨1,[Tab.enc x]⟩
    have a9:=a1.grow_t (x:=x) hid x9 s9 g9
    have hb9:h9.get (h.next+1)=some ⟨3,[[vp,vc,vt]]⟩:=by
      rw [grown_low g9 (sl_own a1.st) (by first | omega | (simp (disch:=omega)only[go_sem, *]<;>omega)) _ (by omega),get_alloc,gsel_ne (by first | omega | (simp (disch:=omega)only[go_sem, *]<;>omega))];exact a1.box
    have l9:=g9.lim
    have hc9:=g9.cell
    have hcs9:=g9.cells
    clear s9 g9 x9 hbox
    simp only [lim_alloc,lim_put] at l9
    simp (disch:=omega)only[go_sem, *]
    refine ih _ _ _ ?_ ⟨q - 1,j1,vt',T++[x],rfl, ?_⟩
    · omega
    · have hTT:∀ y∈T++[x],TabOk n y:=fun y hy=>by
        rcases List.mem_append.1 hy with h1 | h1
        · exact hT y h1
        · rw [List.mem_singleton] at h1;subst h1;exact hx
      have hLL:((T++[x]).length:Int)+(q - 1)=k:=by rw [List.length_append];simp only [List.length_cons,List.length_nil];omega
      clear ih kk
      simp (disch:=omega)only[go_sem, *]
      ((repeat' refine And.intro ?_ ?_)<;>first | omega | assumption | (exact a9) | (exact hTT) | (exact hLL))
  · simp (disch:=omega)only[go_sem, *]
    exact kk _ hh j vt T e0 e2 e3 a (by omega) (by omega) hT
end
theorem config_ev {h : AH} {id k : Nat} {L : List Int} {K : V → AH → Prop} (hg : h.get id = some (tapeB L k)) (hk : k ≤ L.length) (hL : L.length < 4000000000) (hlo : h.lim ≤ id)
    (kk:∀ C j,j≤L.length→Made C→K (.agg C.enc) (h.put id (tapeB L j))):Cq tp i_Q1 [.p id 0 0] h K:=by
  refine Cq_tape fn_Q1 (by simp [t_Q1]) hg fun hlm hid rp=>?_
  unfold t_Q1
  simp (disch:=omega)only[go_sem, *]
  have x0:Ext h ((h.alloc ⟨3,[[.ns,.ns,.ns]]⟩).alloc ⟨3,[[.ns,.ns,.ns]]⟩):=by (repeat (first | exact Ext.refl _ | refine Ext.alloc ?_ _ | (refine Ext.put ?_ _ _ ?_;rotate_left;(first | omega | (simp only [next_alloc,next_put];omega)))))
  have a0:CS ((h.alloc ⟨3,[[.ns,.ns,.ns]]⟩).alloc ⟨3,[[.ns,.ns,.ns]]⟩).next id L h ((h.alloc ⟨3,[[.ns,.ns,.ns]]⟩).alloc ⟨3,[[.ns,.ns,.ns]]⟩) .ns .ns .ns [] [] [] k:=⟨Nat.le_refl _,Nat.le_refl _,rfl,(x0.get _ (by omega)).trans hg,hk,by simp (disch:=omega)only[go_sem, *],by simp (disch:=omega)only[go_sem, *],fun i hi _=>x0.get i hi,Sl.nil _ _ _,Sl.nil _ _ _,Sl.nil _ _ _,.inl rfl,.inl rfl,.inl rfl,.inl rfl,.inl rfl,.inl rfl⟩
  have n0:((h.alloc ⟨3,[[.ns,.ns,.ns]]⟩).alloc ⟨3,[[.ns,.ns,.ns]]⟩).next=h.next+2:=rfl
  generalize (h.alloc ⟨3,[[.ns,.ns,.ns]]⟩).alloc ⟨3,[[.ns,.ns,.ns]]⟩=h1 at a0 n0 ⊢
  clear x0 n0
  refine tnext_ev a0.tape a0.jl hL (by have:=a0.lim;omega) ?_
  intro v j1 v0 v1 v2 hj1
  have a1:=a0.tape2 hid hj1
  have n1:(h1.put id (tapeB L j1)).next=h1.next:=rfl
  rw [← n1] at a1
  clear n1
  generalize h1.put id (tapeB L j1)=h2 at a1 ⊢
  clear a0
  obtain ⟨m,hm⟩:∃ m:Nat,1+v=m:=⟨(1+v).toNat,by omega⟩
  simp (disch:=omega)only[go_sem, *]
  refine cfg_parts (n:=m) hid hlo hL (by omega) a1 (by simp (disch:=omega)only[go_sem, *]) (by simp (disch:=omega)only[go_sem, *]) (by simp (disch:=omega)only[go_sem, *]) (by simp (disch:=omega)only[go_sem, *]) (by simp (disch:=omega)only[go_sem, *]) ?_
  clear a1
  intro e h3 j3 vp P e0 e2 e3 e4 a3 hPl hP
  have hlm3:=a3.lim
  simp (disch:=omega)only[go_sem, *]
  refine tnext_ev a3.tape a3.jl hL (by omega) ?_
  intro c j4 c0 c1 c2 hj4
  have a4:=a3.tape2 hid hj4
  have n4:(h3.put id (tapeB L j4)).next=h3.next:=rfl
  rw [← n4] at a4
  clear n4
  generalize h3.put id (tapeB L j4)=h4 at a4 ⊢
  clear a3 hlm3
  simp (disch:=omega)only[go_sem, *]
  refine cfg_chans (k:=c) (n:=m) hid hlo hL (by omega) (by omega) c0 a4 (by simp (disch:=omega)only[go_sem, *]) (by simp (disch:=omega)only[go_sem, *]) (by simp (disch:=omega)only[go_sem, *]) (by simp (disch:=omega)only[go_sem, *]) (by simp (disch:=omega)only[go_sem, *]) ?_
  clear a4 e0 e2 e3 e4 e
  intro e h5 j5 vc Ch e0 e2 e3 e4 a5 hCl hC
  have hlm5:=a5.lim
  simp (disch:=omega)only[go_sem, *]
  refine tnext_ev a5.tape a5.jl hL (by omega) ?_
  intro t j6 t0 t1 t2 hj6
  have a6:=a5.tape2 hid hj6
  have n6:(h5.put id (tapeB L j6)).next=h5.next:=rfl
  rw [← n6] at a6
  clear n6
  generalize h5.put id (tapeB L j6)=h6 at a6 ⊢
  clear a5 hlm5
  simp (disch:=omega)only[go_sem, *]
  refine cfg_tabs (k:=t) (n:=m) hid hlo hL (by omega) (by omega) (by omega) t0 a6 (by simp (disch:=omega)only[go_sem, *]) (by simp (disch:=omega)only[go_sem, *]) (by simp (disch:=omega)only[go_sem, *]) (by simp (disch:=omega)only[go_sem, *]) (by simp (disch:=omega)only[go_sem, *]) ?_
  clear a6 e0 e2 e3 e4 e
  intro e h7 j7 vt T e0 e2 e3 a hT1 hT2 hT
  have hbox:=a.box
  have q1:=a.q1
  obtain ⟨_,_,_,_,_,_,_,pcell,pcells⟩:=a.sp.facts
  obtain ⟨_,_,_,_,_,_,_,ccell,ccells⟩:=a.sc.facts
  obtain ⟨_,_,tlt,tlo,_,_,_,tcell,tcells⟩:=a.st.facts
  have tlt:=tlt (by omega)
  have tlo:=tlo (by omega)
  have hbare:Bare P Ch T:=by
    refine ⟨?_,by omega,by omega,by omega,hT1,by omega,fun i hi=>?_,fun x hx=>by rw [hPl];exact hC x hx,fun x hx=>by rw [hPl];exact hT x hx,fun p hp=>?_⟩
    · apply List.ext_getElem
      · simp
      · intro i h1 h2
        have:=(hP i (by omega)).2.2
        rw [nth_eq h2] at this
        simpa using this
    · have hi4:=hP i (by omega)
      refine ⟨by rw [hi4.1];exact nmOf_ok (by omega), ?_,hi4.2.1⟩
      refine any_take_no (fun q hq=>?_) (by omega)
      rw [decide_eq_false_iff_not,hi4.1,(hP q (by omega)).1]
      exact nmOf_ne (by omega) (by omega) (by omega)
    · obtain ⟨i,hi,rfl⟩:=List.mem_iff_getElem.1 hp
      have hi4:=(hP i (by omega)).1
      have hok:=nmOf_ok (i:=i) (by omega)
      rw [nth_eq hi] at hi4
      rw [hi4]
      unfold nameB at hok
      simp only [decide_eq_true_eq] at hok
      omega
  have hnt:nilV vt=false:=by
    rcases a.st with ⟨_,hR⟩ | ⟨_,_,_,_,rfl,_⟩
    · have:T=[]:=by simpa using hR
      subst this;simp at hT1
    · rfl
  have dpt:nilV vp=true∨idV vp≠idV vt:=by rcases a.pt with d | d | d;exact .inl d;(rw [hnt] at d;cases d);exact .inr d
  have dct:nilV vc=true∨idV vc≠idV vt:=by rcases a.ct with d | d | d;exact .inl d;(rw [hnt] at d;cases d);exact .inr d
  simp (disch:=omega)only[go_sem, *]
  refine Cq_fix (idV vt) (args':=[.p id 0 0,.agg [vp,vc,.fl 1 (T.map Tab.enc)]]) (.cons _ _ _ _ _ (.p _ _ _ _ (by omega)) (.cons _ _ _ _ _ (.agg _ _ _ (.cons _ _ _ _ _ (Sl.frzs a.sp) (.cons _ _ _ _ _ (Sl.frzs a.sc) (.cons _ _ _ _ _ (a.st.froze (fun _=>rfl) rfl (by omega)) (.nil _))))) (.nil _))) ?_
  refine asks_ev (b:=h.next+2) hbare hL a.jl q1 (by omega) (by have:=a.lim;show h7.lim≤id;omega) (by rw [get_kill,gsel_ne (by omega)];exact a.tape) (sl_kill a.sp dpt) (sl_kill a.sc dct) a.pc ?_
  intro P' Ch' h8 j8 hj8 htp hw hnm hPl' hCl' hn8 hl8 hg8 hlow hsp hsc
  have hres:h8.get h.next=some ⟨3,[[.ns,.ns,.ns]]⟩:=by rw [hlow _ (by omega) (by omega),get_kill,gsel_ne (by omega)];exact a.res
  have hl8':h8.lim=h.lim:=hl8.trans a.lim
  have hn8':h7.next≤h8.next:=hn8
  have hres7:=a.res
  clear hbox hl8 hn8
  simp (disch:=omega)only[go_sem, *]
  refine ⟨.agg (Config.enc ⟨P',Ch',T⟩),j8, ?_,⟨by rw [next_put];omega,hl8',by rw [get_put,gsel_ne (by omega)];exact hg8,fun i hi hn=>?_⟩,kk ⟨P',Ch',T⟩ j8 hj8 ⟨hw,hnm,by simp only;omega,hT2,by simp only;omega,htp⟩⟩
  · refine .agg _ _ _ (.cons _ _ _ _ _ (Sl.frzb (Sl.weak (sl_put hsp _ _ ((sl_own hsp).imp (fun x=>x) (fun x=>by omega))) (by omega)) (fun _=>rfl) (by simp only;omega)) (.cons _ _ _ _ _ (Sl.frzb (Sl.weak (sl_put hsc _ _ ((sl_own hsc).imp (fun x=>x) (fun x=>by omega))) (by omega)) (fun _=>rfl) (by simp only;omega)) (.cons _ _ _ _ _ (.fl _ _ _) (.nil _))))
  · rw [get_put,gsel_ne (by omega),hlow _ (by omega) hn,get_kill,gsel_ne (by omega)]
    exact a.low i hi hn
end Go.Ab.T
namespace Go.Ab.T
open Go Go.Ab
set_option maxHeartbeats 2000000
structure Owns (b q:Nat) (h:AH) (l:List (Nat×V×List (List V))):Prop where
  bq:b≤q
  q2:q≤h.next
  sl:∀ (i:Nat) (a:Nat×V×List (List V)),l[i]?=some a→Sl b h a.1 a.2.1 a.2.2
  lt:∀ (i:Nat) (a:Nat×V×List (List V)),l[i]?=some a→nilV a.2.1=true∨idV a.2.1<q
  dj:∀ (i j:Nat) (a c:Nat×V×List (List V)),i≠j→l[i]?=some a→l[j]?=some c→Dj a.2.1 c.2.1
section
variable {b q:Nat} {h h2:AH} {l:List (Nat×V×List (List V))}
theorem Owns.keep (o:Owns b q h l) (hn:h.next≤h2.next) (g:∀ i,i<q→h2.get i=h.get i):Owns b q h2 l:=
  ⟨o.bq,Nat.le_trans o.q2 hn,fun i a e=>sl_keep (o.sl i a e) (o.lt i a e) hn g,o.lt,o.dj⟩
theorem Owns.ext (o:Owns b q h l) (x:Ext h h2):Owns b q h2 l:=o.keep x.next (fun i hi=>x.get i (by have:=o.q2;omega))
theorem Owns.up {q':Nat} (o:Owns b q h l) (h1:q≤q') (h2:q'≤h.next):Owns b q' h l:=
  ⟨Nat.le_trans o.bq h1,h2,o.sl,fun i a e=>(o.lt i a e).imp (fun x=>x) (fun x=>by omega),o.dj⟩
theorem Owns.put (o:Owns b q h l) (i:Nat) (k:Blk) (hi:i<b∨q≤i):Owns b q (h.put i k) l:=by
  refine ⟨o.bq,o.q2,fun j a e=>sl_put (o.sl j a e) _ _ ?_,o.lt,o.dj⟩
  have h1:=sl_own (o.sl j a e)
  have h2:=o.lt j a e
  rcases h1 with h1 | h1
  · exact .inl h1
  · rcases h2 with h2 | h2
    · exact .inl h2
    · exact .inr (by omega)
theorem Owns.low {b' i:Nat} {a:Nat×V×List (List V)} {h1 h3:AH} {v:V} (o:Owns b q h l) (e:l[i]?=some a) (x:Ext h h1) (g:Grown b' h1 a.2.1 v h3):∀ k,k<b→h3.get k=h.get k:=fun k hk=>by
  have:=o.bq;have:=o.q2;have:=x.next
  rw [g.get k (by omega) ((sl_own (o.sl i a e)).imp (fun x=>x) (fun x=>by omega)),x.get k (by omega)]
theorem Owns.grow {b' i:Nat} {a:Nat×V×List (List V)} {h1 h3:AH} {v:V} {R:List (List V)} (o:Owns b q h l) (e:l[i]?=some a) (x:Ext h h1) (g:Grown b' h1 a.2.1 v h3) (s:Sl b h3 a.1 v R):Owns b h3.next h3 (l.set i (a.1,v,R)):=by
  have n0:=o.bq;have n1:=o.q2;have n2:=x.next;have n3:=g.next
  have hi:i<l.length:=(List.getElem?_eq_some_iff.1 e).1
  have o1:=o.ext x
  refine ⟨by omega,Nat.le_refl _,fun j c ej=>?_,fun j c ej=>?_,fun j k c d hjk ej ek=>?_⟩
  · by_cases hji:i=j
    · subst hji
      rw [List.getElem?_set_self hi] at ej
      cases ej;exact s
    · rw [List.getElem?_set_ne hji] at ej
      exact sl_grown (o1.sl j c ej) g (o.dj i j a c hji e ej)
  · by_cases hji:i=j
    · subst hji
      rw [List.getElem?_set_self hi] at ej
      cases ej;exact sl_low s
    · rw [List.getElem?_set_ne hji] at ej
      exact (o.lt j c ej).imp (fun x=>x) (fun x=>by omega)
  · by_cases hji:i=j
    · subst hji
      rw [List.getElem?_set_self hi] at ej
      rw [List.getElem?_set_ne hjk] at ek
      cases ej
      exact dj_grown g (o.dj i k a d hjk e ek) ((o.lt k d ek).imp (fun x=>x) (fun x=>by omega))
    · rw [List.getElem?_set_ne hji] at ej
      by_cases hki:i=k
      · subst hki
        rw [List.getElem?_set_self hi] at ek
        cases ek
        exact dj_sym (dj_grown g (o.dj i j a c hji e ej) ((o.lt j c ej).imp (fun x=>x) (fun x=>by omega)))
      · rw [List.getElem?_set_ne hki] at ek
        exact o.dj j k c d hjk ej ek
theorem Owns.set {i n:Nat} {a:Nat×V×List (List V)} {r:List V} (o:Owns b q h l) (e:l[i]?=some a) (hn:n<a.2.2.length):Owns b q (h.put (idV a.2.1) ⟨a.1,(csOf h a.2.1).set (elV a.2.1+n) r⟩) (l.set i (a.1,a.2.1,a.2.2.set n r)):=by
  have hi:i<l.length:=(List.getElem?_eq_some_iff.1 e).1
  have hnil:nilV a.2.1=false:=by
    rcases o.sl i a e with ⟨_,hR⟩ | ⟨_,_,_,_,hv,_⟩
    · rw [hR] at hn;simp at hn
    · rw [hv];rfl
  refine ⟨o.bq,o.q2,fun j c ej=>?_,fun j c ej=>?_,fun j k c d hjk ej ek=>?_⟩
  · by_cases hji:i=j
    · subst hji
      rw [List.getElem?_set_self hi] at ej
      cases ej
      exact Sl.of_get (o.sl i a e) hn (Nat.le_refl _) (by rw [get_put,gsel_eq rfl])
    · rw [List.getElem?_set_ne hji] at ej
      refine sl_put (o.sl j c ej) _ _ ?_
      rcases o.dj i j a c hji e ej with d | d | d
      · rw [d] at hnil;cases hnil
      · exact .inl d
      · exact .inr d
  · by_cases hji:i=j
    · subst hji
      rw [List.getElem?_set_self hi] at ej
      cases ej;exact o.lt i a e
    · rw [List.getElem?_set_ne hji] at ej
      exact o.lt j c ej
  · by_cases hji:i=j
    · subst hji
      rw [List.getElem?_set_self hi] at ej
      rw [List.getElem?_set_ne hjk] at ek
      cases ej
      exact o.dj i k a d hjk e ek
    · rw [List.getElem?_set_ne hji] at ej
      by_cases hki:i=k
      · subst hki
        rw [List.getElem?_set_self hi] at ek
        cases ek
        exact o.dj j i c a hjk ej e
      · rw [List.getElem?_set_ne hki] at ek
        exact o.dj j k c d hjk ej ek
theorem Owns.new {i sz:Nat} {v:V} {R:List (List V)} (o:Owns b q h l) (hi:i<l.length) (s:Sl q h sz v R):Owns b h.next h (l.set i (sz,v,R)):=by
  have n0:=o.bq;have n1:=o.q2
  have hv:=sl_own s
  refine ⟨by omega,Nat.le_refl _,fun j c ej=>?_,fun j c ej=>?_,fun j k c d hjk ej ek=>?_⟩
  · by_cases hji:i=j
    · subst hji
      rw [List.getElem?_set_self hi] at ej
      cases ej;exact Sl.weak s n0
    · rw [List.getElem?_set_ne hji] at ej
      exact o.sl j c ej
  · by_cases hji:i=j
    · subst hji
      rw [List.getElem?_set_self hi] at ej
      cases ej;exact sl_low s
    · rw [List.getElem?_set_ne hji] at ej
      exact (o.lt j c ej).imp (fun x=>x) (fun x=>by omega)
  · have ap:∀ (j:Nat) (c:Nat×V×List (List V)),l[j]?=some c→Dj v c.2.1:=fun j c ej=>by
      rcases hv with hv | hv
      · exact .inl hv
      · rcases o.lt j c ej with k | k
        · exact .inr (.inl k)
        · exact .inr (.inr (by omega))
    by_cases hji:i=j
    · subst hji
      rw [List.getElem?_set_self hi] at ej
      rw [List.getElem?_set_ne hjk] at ek
      cases ej
      exact ap k d ek
    · rw [List.getElem?_set_ne hji] at ej
      by_cases hki:i=k
      · subst hki
        rw [List.getElem?_set_self hi] at ek
        cases ek
        exact dj_sym (ap j c ej)
      · rw [List.getElem?_set_ne hki] at ek
        exact o.dj j k c d hjk ej ek
theorem Owns.nil (hb:b≤h.next) (hl:∀ a∈l,a.2.1=.ns∧a.2.2=[]):Owns b h.next h l:=
  ⟨hb,Nat.le_refl _,fun i a e=>by have:=hl a (List.mem_of_getElem? e);rw [this.1,this.2];exact Sl.nil _ _ _,fun i a e=>by have:=hl a (List.mem_of_getElem? e);rw [this.1];exact .inl rfl,fun i j a c _ e _=>by have:=hl a (List.mem_of_getElem? e);rw [this.1];exact .inl rfl⟩
end
end Go.Ab.T
namespace Go.Ab.T
open Go Go.Ab
set_option maxHeartbeats 4000000
@[go_sem] def Part.encO (v:V) (x:Part):List V:=[.s x.name,.i .i64 x.budget,.i .i64 x.period,.b x.sched,.b x.stop,v,.i .i64 x.h0,.i .i64 x.h1,.i .i64 x.h2,.i .i64 x.h3,.i .i64 x.h4]
def rowsP (ow:Bool) (v:V):List Part→List (List V)
  | []=>[]
  | p::l=>(if ow=true then p.encO v else p.enc)::l.map Part.enc
def rowsT (ow:Bool) (v:V):List (List Node)→List (List V)
  | []=>[]
  | t::l=>[if ow=true then v else .fl 3 (t.map Node.enc)]::l.map Tab.enc
def r1 (ow:Bool):List Part→List (List V)
  | []=>[]
  | p::_=>if ow=true then p.procs.map Proc.enc else []
def r2 (ow:Bool):List (List Node)→List (List V)
  | []=>[]
  | t::_=>if ow=true then t.map Node.enc else []
def ownL (ow:Bool) (vp vc vt o1 o2:V) (A:List Part) (X:List Chan) (B:List (List Node)):List (Nat×V×List (List V)):=
  [(11,vp,rowsP ow o1 A),(6,vc,X.map Chan.enc),(1,vt,rowsT ow o2 B),(2,o1,r1 ow A),(3,o2,r2 ow B)]
structure KS (ow:Bool) (C:Config) (h h':AH) (vp vc vt o1 o2:V) (A:List Part) (X:List Chan) (B:List (List Node)):Prop where
  own:Owns (h.next+3) h'.next h' (ownL ow vp vc vt o1 o2 A X B)
  lim:h'.lim=h.lim
  low:∀ i,i<h.next→h'.get i=h.get i
  arg:h'.get h.next=some ⟨3,[C.enc]⟩
  res:h'.get (h.next+1)=some ⟨3,[[.ns,.ns,.ns]]⟩
  box:h'.get (h.next+2)=some ⟨3,[[vp,vc,vt]]⟩
end Go.Ab.T
namespace Go.Ab.T
open Go Go.Ab
set_option maxHeartbeats 4000000
section
variable {ow:Bool} {C:Config} {h h':AH} {vp vc vt o1 o2:V} {A:List Part} {X:List Chan} {B:List (List Node)}
theorem KS.keep {h2:AH} (a:KS ow C h h' vp vc vt o1 o2 A X B) (hn:h'.next≤h2.next) (hl:h2.lim=h'.lim) (g:∀ i,i<h'.next→h2.get i=h'.get i):Owns (h.next+3) h'.next h2 (ownL ow vp vc vt o1 o2 A X B)∧h2.lim=h.lim∧(∀ i,i<h.next→h2.get i=h.get i)∧h2.get h.next=some ⟨3,[C.enc]⟩∧h2.get (h.next+1)=some ⟨3,[[.ns,.ns,.ns]]⟩∧h2.get (h.next+2)=some ⟨3,[[vp,vc,vt]]⟩:=by
  have:=a.own.bq
  exact ⟨a.own.keep hn g,hl.trans a.lim,fun i hi=>(g i (by omega)).trans (a.low i hi),(g _ (by omega)).trans a.arg,(g _ (by omega)).trans a.res,(g _ (by omega)).trans a.box⟩
end
end Go.Ab.T
namespace Go.Ab.T
open Go Go.Ab
set_option maxHeartbeats 4000000
section
variable {ow:Bool} {C:Config} {h h':AH} {vp vc vt o1 o2:V} {A:List Part} {X:List Chan} {B:List (List Node)}
end
end Go.Ab.T
namespace Go.Ab.T
open Go Go.Ab
set_option maxHeartbeats 4000000
end Go.Ab.T
namespace Go.Ab.T
open Go Go.Ab
set_option maxHeartbeats 4000000
/-! Chapter 1's bytes, as the code reckons them. -/
@[go_sem] def encB (z:Int):List V:=[.i .u8 z]
def u0 (n:Int):Int:=if n<0 then IntKind.wrap .u64 (0 - IntKind.wrap .u64 n) else IntKind.wrap .u64 n
def putGo:Nat→Int→List Int→List Int
  | 0,_,x=>x
  | f+1,u,x=>if 0<u then putGo f (u.fdiv 256) (IntKind.wrap .u8 u::x) else x
def putX (n:Int):List Int:=putGo 8 (u0 n) []
def putR (B:List Int) (n:Int):List Int:=B++[IntKind.wrap .u8 ((if n<0 then 128 else 0)+IntKind.wrap .u8 ((putX n).length:Int))]++putX n
theorem u64_bd (x:Int):0≤IntKind.wrap .u64 x∧IntKind.wrap .u64 x<18446744073709551616:=by
  have e:IntKind.wrap .u64 x=x % 18446744073709551616:=by unfold IntKind.wrap;simp [IntKind.bits,IntKind.signed]
  rw [e];omega
theorem u0_bd (n:Int):0≤u0 n∧u0 n<18446744073709551616:=by unfold u0;split<;>exact u64_bd _
theorem putGo_len:∀ (f:Nat) (u:Int) (x:List Int),(putGo f u x).length≤x.length+f
  | 0,u,x=>by simp [putGo]
  | f+1,u,x=>by
    rw [putGo];split
    · have:=putGo_len f (u.fdiv 256) (IntKind.wrap .u8 u::x)
      simp at this;omega
    · omega
theorem putR_len (B:List Int) (n:Int):(putR B n).length≤B.length+9:=by
  have:=putGo_len 8 (u0 n) []
  simp only [putR,putX,List.length_append,List.length_cons,List.length_nil] at this ⊢;omega
theorem shr8 (u:Int):binV .shr (.i .u64 u) (.i .u64 8)=some (.i .u64 (u.fdiv 256)):=rfl
end Go.Ab.T
namespace Go.Ab.T
open Go Go.Ab
set_option maxHeartbeats 4000000
def sB (s:ByteArray):List Int:=s.data.toList.map fun c=>(c.toNat:Int)
theorem bytesV_sB (s:ByteArray):bytesV s=(sB s).map encB:=by simp [bytesV,sB,encB]
theorem sB_len (s:ByteArray):(sB s).length=s.size:=by simp only [sB,List.length_map,Array.length_toList];rfl
def xr (a b:Int):Int:=IntKind.wrap .u32 ((BitVec.ofInt 32 a ^^^ BitVec.ofInt 32 b).toNat:Int)
def sh1 (c:Int):Int:=IntKind.wrap .u32 (c*2)
def nxStep (c:Int):Int:=if c.fdiv 2147483648=1 then xr (sh1 c) 79764919 else sh1 c
def nxIt:Nat→Int→Int
  | 0,c=>c
  | n+1,c=>nxIt n (nxStep c)
def nextR (c b:Int):Int:=nxIt 8 (xr c (IntKind.wrap .u32 (IntKind.wrap .u32 b*16777216)))
theorem op_xor (a b:Int):binV .xor (.i .u32 a) (.i .u32 b)=some (.i .u32 (xr a b)):=rfl
theorem op_sh1 (a:Int):binV .shl (.i .u32 a) (.i .u64 1)=some (.i .u32 (sh1 a)):=rfl
theorem op_sh24 (a:Int):binV .shl (.i .u32 a) (.i .u64 24)=some (.i .u32 (IntKind.wrap .u32 (a*16777216))):=rfl
theorem op_r31 (a:Int):binV .shr (.i .u32 a) (.i .u64 31)=some (.i .u32 (a.fdiv 2147483648)):=rfl
theorem op_r24 (a:Int):binV .shr (.i .u32 a) (.i .u64 24)=some (.i .u32 (a.fdiv 16777216)):=rfl
theorem op_r16 (a:Int):binV .shr (.i .u32 a) (.i .u64 16)=some (.i .u32 (a.fdiv 65536)):=rfl
theorem op_r8 (a:Int):binV .shr (.i .u32 a) (.i .u64 8)=some (.i .u32 (a.fdiv 256)):=rfl
theorem next1_ev {c b:Int}:Pf tp i_Q50 [.i .u32 c,.i .u8 b] (.i .u32 (nextR c b)):=by
  have h1:=op_xor;have h2:=op_sh1;have h3:=op_sh24;have h4:=op_r31
  refine Pf_go fn_Q50 (by simp [t_Q50]) fun rp=>?_;unfold t_Q50;simp (disch:=omega)only[go_sem, *]
  refine ZC_loop_n (fun n' e hh=>∃ (i:Nat) (w:Int),n'=8 - i∧hh.lim=0∧e 0=.i .u32 w∧e 5=.i .i64 i∧i≤8∧nxIt (8 - i) w=nextR c b) ?_ _ _ _ ⟨0,xr c (IntKind.wrap .u32 (IntKind.wrap .u32 b*16777216)),rfl, ?_⟩
  · rintro n' e hh ⟨i,w,rfl,hlm,e0,e5,hi,hz⟩ ih
    rw [ZC_unf Q50_9.eq_1]
    have hz1:=hz
    clear hz
    simp (disch:=omega)only[go_sem, *]
    refine Wb_dec (fun hc=>?_) (fun hc=>?_)
    · have e8:8 - i=(8 - (i+1))+1:=by omega
      have hz2:nxIt (8 - (i+1)) (nxStep w)=nextR c b:=by rw [← hz1,e8];rfl
      clear hz1 e8
      unfold nxStep at hz2
      simp (disch:=omega)only[go_sem, *]
      refine Wb_dec (fun hc2=>?_) (fun hc2=>?_)
      · rw [if_pos hc2] at hz2
        simp (disch:=omega)only[go_sem, *]
        refine ih _ _ _ ?_ ⟨i+1,xr (sh1 w) 79764919,rfl, ?_⟩
        · omega
        · have hz3:=hz2
          clear hz2 ih
          simp (disch:=omega)only[go_sem, *]
          all_goals ((repeat' refine And.intro ?_ ?_)<;>first | omega | assumption | (exact hz3))
      · rw [if_neg hc2] at hz2
        simp (disch:=omega)only[go_sem, *]
        refine ih _ _ _ ?_ ⟨i+1,sh1 w,rfl, ?_⟩
        · omega
        · have hz3:=hz2
          clear hz2 ih
          simp (disch:=omega)only[go_sem, *]
          all_goals ((repeat' refine And.intro ?_ ?_)<;>first | omega | assumption | (exact hz3))
    · obtain rfl:i=8:=by omega
      have hz2:w=nextR c b:=hz1
      clear hz1
      simp (disch:=omega)only[go_sem, *]
  · simp (disch:=omega)only[go_sem, *]
    all_goals ((repeat' refine And.intro ?_ ?_)<;>first | omega | assumption | (rfl))
def ux (a:Int):Int:=IntKind.wrap .u32 ((BitVec.ofInt 32 4294967295 ^^^ BitVec.ofInt 32 a).toNat:Int)
theorem op_ux (a:Int):unV .xor (.i .u32 a)=some (.i .u32 (ux a)):=rfl
def sumGo:List Int→Int→Int
  | [],c=>c
  | b::l,c=>sumGo l (nextR c b)
def sumR (B:List Int):Int:=ux (sumGo B 4294967295)
theorem sum1_ev {B:List Int}:Pf tp i_Q28 [.fl 1 (B.map encB)] (.i .u32 (sumR B)):=by
  have h1:=op_ux
  refine Pf_go fn_Q28 (by simp [t_Q28]) fun rp=>?_;unfold t_Q28;simp (disch:=omega)only[go_sem, *]
  have hL:=rp.head.len
  refine ZC_loop_n (fun n e h=>∃ (i:Nat) (w:Int),n=B.length - i∧h.lim=0∧e 0=.fl 1 (B.map encB)∧e 3=.i .u32 w∧e 4=.i .i64 i∧i≤B.length∧sumGo (B.drop i) w=sumGo B 4294967295) ?_ _ _ _ ⟨0,4294967295,rfl, ?_⟩
  · rintro n e h ⟨i,w,rfl,hl,e0,e3,e4,hi,hz⟩ ih
    rw [ZC_unf Q28_6.eq_1]
    simp (disch:=omega)only[go_sem, *]
    refine Wb_dec (fun hc=>?_) (fun hc=>?_)
    · rw [drop_nth (by omega),sumGo] at hz
      simp (disch:=omega)only[go_sem, *]
      refine Pf.go (next1_ev (c:=w) (b:=nth B i)) (by simp only [go_sem]) fun _=>?_;simp (disch:=omega)only[go_sem, *]
      refine ih _ _ _ ?_ ⟨i+1,nextR w (nth B i),rfl, ?_⟩
      · omega
      · simp (disch:=omega)only[go_sem, *]
        all_goals ((repeat' refine And.intro ?_ ?_)<;>first | omega | assumption | (exact hz))
    · rw [List.drop_eq_nil_of_le (by omega),sumGo] at hz
      unfold sumR
      simp (disch:=omega)only[go_sem, *]
  · simp (disch:=omega)only[go_sem, *]
def sealR (B:List Int):List Int:=B++[IntKind.wrap .u8 ((sumR B).fdiv 16777216),IntKind.wrap .u8 ((sumR B).fdiv 65536),IntKind.wrap .u8 ((sumR B).fdiv 256),IntKind.wrap .u8 (sumR B)]
theorem seal_ev {B:List Int} (hB:B.length<1000000):Pf tp i_Q7 [.fl 1 (B.map encB)] (.fl 1 ((sealR B).map encB)):=by
  have h1:=op_r24;have h2:=op_r16;have h3:=op_r8
  refine Pf_go fn_Q7 (by simp [t_Q7]) fun rp=>?_;unfold t_Q7;simp (disch:=omega)only[go_sem, *]
  refine Pf.go (sum1_ev) (by simp only [go_sem]) fun _=>?_;simp (disch:=omega)only[go_sem, *]
  refine app_rule (b:=0) (R:=[]) (Sl.nil' _ _ _) (by simp (disch:=omega)only[go_sem, *]) (by simp (disch:=omega)only[go_sem, *]) (by simp;omega) ?_
  intro r1 hx s3 g3
  have hl3:=g3.lim
  clear g3
  simp (disch:=omega)only[go_sem] at hl3
  simp (disch:=omega)only[go_sem, *]
  refine app_rule (N:=[encB (IntKind.wrap .u8 ((sumR B).fdiv 16777216)),encB (IntKind.wrap .u8 ((sumR B).fdiv 65536)),encB (IntKind.wrap .u8 ((sumR B).fdiv 256)),encB (IntKind.wrap .u8 (sumR B))]) (s3.alloc ⟨1,[encB (IntKind.wrap .u8 ((sumR B).fdiv 16777216)),encB (IntKind.wrap .u8 ((sumR B).fdiv 65536)),encB (IntKind.wrap .u8 ((sumR B).fdiv 256)),encB (IntKind.wrap .u8 (sumR B))]⟩) ?_ ?_ ?_ ?_
  · rw [lim_alloc];omega
  · rw [next_alloc];omega
  · simp;omega
  intro r2 h4 s4 g4
  have f:Sl 0 h4 1 r2 ((sealR B).map encB):=by simpa [sealR,encB] using s4
  clear s4 g4
  simp (disch:=omega)only[go_sem, *]
  exact f.froze (fun _=>rfl) trivial (by simp [sealR];omega)
theorem sealR_len (B:List Int):(sealR B).length=B.length+4:=by simp [sealR]
end Go.Ab.T
namespace Go.Ab.T
open Go Go.Ab
set_option maxHeartbeats 4000000
def flagR (B:List Int) (f:Bool):List Int:=putR B (if f=true then 1 else 0)
def fProc (B:List Int) (p:Proc):List Int:=putR (putR B p.entry) p.prio
def fPart (B:List Int) (p:Part):List Int:=putR (putR (putR (putR (putR (p.procs.foldl fProc (putR (flagR (flagR (putR (putR (putR B p.name.size++sB p.name) p.budget) p.period) p.sched) p.stop) p.procs.length)) p.h0) p.h1) p.h2) p.h3) p.h4
def fChan (B:List Int) (x:Chan):List Int:=putR (putR (putR (flagR (putR (putR B x.src) x.dst) x.queue) x.cap) (IntKind.wrap .i64 x.top)) x.late
def fNode (B:List Int) (n:Node):List Int:=putR (putR (putR B n.kind) n.part) n.n
def fTab (B:List Int) (t:List Node):List Int:=t.foldl fNode (putR B t.length)
def bytesR (C:Config):List Int:=sealR (C.tables.foldl fTab (putR (C.chans.foldl fChan (putR (C.parts.foldl fPart (putR [72,79,82,65] C.parts.length)) C.chans.length)) C.tables.length))
theorem flagR_len (B:List Int) (f:Bool):(flagR B f).length≤B.length+9:=putR_len _ _
end Go.Ab.T
namespace Go.Ab.T
open Go Go.Ab
set_option maxHeartbeats 4000000
end Go.Ab.T
namespace Go.Ab.T
open Go Go.Ab
set_option maxHeartbeats 4000000
@[go_sem] theorem bytesOf_map:∀ B:List Int,bytesOf? (B.map encB)=some (B.map fun z=>UInt8.ofNat z.toNat)
  | []=>rfl
  | z::B=>by
    have:=bytesOf_map B
    simp only [List.map_cons,encB,bytesOf?] at this ⊢
    rw [this];rfl
structure BytOk (C:Config):Prop where
  p:C.parts.length≤16
  c:C.chans.length≤100
  t:C.tables.length≤10
  pp:∀ p∈C.parts,p.name.size<1000∧p.procs.length≤100
  tt:∀ t∈C.tables,t.length≤710
end Go.Ab.T
namespace Go.Ab.T
open Go Go.Ab
set_option maxHeartbeats 1000000
theorem AllPos.drop {L:List Run} (h:AllPos L) (k:Nat):AllPos (L.drop k):=fun r hr=>h r (List.mem_of_mem_drop hr)
def runB (r:Run):Bool:=decide (1≤r.n∧r.n≤4096∧-1≤r.part∧r.part<6)
def frameB (L:List Run):Bool:=L.all runB&&decide (0<L.length∧L.length≤96∧sumN L≤4096)
def projL (L:List Run) (a b:Int):List Run:=L.filter (fun r=>decide (r.part=a∨r.part=b))
def projR (L:List Run) (a b:Int):List Run:=tidyGo (projL L a b) []
end Go.Ab.T
namespace Go.Ab.T
open Go Go.Ab
set_option maxHeartbeats 1000000
/-! Who depends on whom: a square of yes and no. -/
@[go_sem] def encBl (b:Bool):List V:=[.b b]
@[go_sem] def encM (r:List Bool):List V:=[.fl 1 (r.map encBl)]
def matB (M:List (List Bool)) (a b:Int):Bool:=decide (0≤a∧0≤b∧a<M.length∧b<(nth M a.toNat).length)&&nth (nth M a.toNat) b.toNat
def depB (M:List (List Bool)) (a b:Int):Bool:=decide (a=b)||(matB M a b||matB M b a)
def difAt (x y:List Run) (M:List (List Bool)) (a b:Int):Bool:=depB M a b&&!decide (projR x a b=projR y a b)
def difRow (x y:List Run) (M:List (List Bool)) (a:Int):Nat→Int→Option Int
  | 0,_=>none
  | f+1,b=>if difAt x y M a b=true then some b else difRow x y M a f (b+1)
def difRowA (x y:List Run) (M:List (List Bool)) (a:Int):Option Int:=difRow x y M a (6 - a).toNat a
def difAll (x y:List Run) (M:List (List Bool)):Nat→Int→Int×Int×Bool
  | 0,_=>(-1,-1,!decide (tk (-1) x=tk (-1) y))
  | f+1,a=>match difRowA x y M a with | some b=>(a,b,true) | none=>difAll x y M f (a+1)
def difR (x y:List Run) (M:List (List Bool)):Int×Int×Bool:=difAll x y M 6 0
end Go.Ab.T
namespace Go.Ab.T
open Go Go.Ab
set_option maxHeartbeats 4000000
structure MatH (b:Nat) (h:AH) (v:V) (n:Nat) (W:List (List V)) (F:List Nat) (M:List (List Bool)):Prop where
  out:Sl b h 1 v W
  len:M.length=F.length
  wl:F.length≤W.length
  pre:∀ i,i<F.length→nth W i=[V.sl (nth F i) 0 n n]
  row:∀ i,i<F.length→h.get (nth F i)=some ⟨1,(nth M i).map encBl⟩∧(nth M i).length=n∧b≤nth F i∧nth F i<h.next∧nth F i≠idV v
  dis:∀ i j,i<F.length→j<F.length→i≠j→nth F i≠nth F j
theorem nth_set {α:Type} [Inhabited α] {l:List α} {i j:Nat} {a:α} (hj:j<l.length):nth (l.set i a) j=if i=j then a else nth l j:=by
  by_cases h:i=j
  · subst h;rw [if_pos rfl];simp [nth,List.getD,hj]
  · rw [if_neg h];simp [nth,List.getD,List.getElem?_set_ne h]
theorem nth_app_l {α:Type} [Inhabited α] {l m:List α} {j:Nat} (hj:j<l.length):nth (l++m) j=nth l j:=by simp [nth,List.getD,List.getElem?_append_left hj]
theorem nth_app_r {α:Type} [Inhabited α] {l:List α} {a:α}:nth (l++[a]) l.length=a:=by simp [nth,List.getD]
section
variable {b n:Nat} {h h':AH} {v:V} {W:List (List V)} {F:List Nat} {M:List (List Bool)}
theorem MatH.keep (m:MatH b h v n W F M) (hn:h.next≤h'.next) (g:∀ i,b≤i→i<h.next→h'.get i=h.get i):MatH b h' v n W F M:=by
  refine ⟨?_,m.len,m.wl,m.pre,fun i hi=>?_,m.dis⟩
  · rcases m.out with h1 | ⟨id,el,cap,cs,rfl,a,c,d,e,f,g1,g2⟩
    · exact .inl h1
    · exact .inr ⟨id,el,cap,cs,rfl,(g id g1 f).trans a,c,d,e,by omega,g1,g2⟩
  · obtain ⟨a,c,d,e,f⟩:=m.row i hi
    exact ⟨(g _ d e).trans a,c,d,by omega,f⟩
theorem MatH.ext (m:MatH b h v n W F M) (x:Ext h h'):MatH b h' v n W F M:=m.keep x.next (fun i _ hi=>x.get i hi)
theorem MatH.set (m:MatH b h v n W F M) {a:Nat} (ha:a<F.length) {r:List Bool} (hr:r.length=n):MatH b (h.put (nth F a) ⟨1,r.map encBl⟩) v n W F (M.set a r):=by
  have hl:=m.len
  refine ⟨m.out.putx _ _ (m.row a ha).2.2.2.2,by simp [hl],m.wl,m.pre,fun i hi=>?_,m.dis⟩
  obtain ⟨h1,h2,h3,h4,h5⟩:=m.row i hi
  rw [get_put,nth_set (by omega)]
  by_cases e:a=i
  · subst e
    rw [if_pos rfl,gsel_eq rfl]
    exact ⟨rfl,hr,h3,h4,h5⟩
  · rw [if_neg e,gsel_ne (m.dis i a hi ha (Ne.symm e))]
    exact ⟨h1,h2,h3,h4,h5⟩
theorem MatH.push {h1 h4 : AH} {w : V} {r : List Bool} (m : MatH b h v n W F M) (hW : W.length = F.length) (hb : b ≤ h.next) (x : Ext h h1) (hlt : h.next < h1.next) (hg : h1.get h.next = some ⟨1, r.map encBl⟩) (hr : r.length = n)
    (s4:Sl b h4 1 w (W++[[.sl h.next 0 n n]])) (g4:Grown b h1 v w h4):MatH b h4 w n (W++[[.sl h.next 0 n n]]) (F++[h.next]) (M++[r]):=by
  have hl:=m.len
  have hn:=g4.next
  have hvlow:nilV v=true∨idV v<h.next:=by
    rcases m.out with ⟨h1 | h1,_⟩ | ⟨id,el,cap,cs,rfl,a,c,d,e,f,g1,g2⟩
    · subst h1;exact .inl rfl
    · subst h1;exact .inl rfl
    · exact .inr f
  have hw:nilV w=false:=by
    rcases s4 with ⟨_,h2⟩ | ⟨id,el,cap,cs,rfl,_⟩
    · simp at h2
    · rfl
  have hwid:∀ j,j<h1.next→(nilV v=true∨j≠idV v)→j≠idV w:=fun j hj hv=>by
    rcases g4.own with h2 | ⟨h2,h3⟩ | h2
    · rw [hw] at h2;cases h2
    · rw [h2] at hv;rw [h3];exact hv.resolve_left (by simp)
    · omega
  refine ⟨s4,by simp [hl],by simp;omega,fun i hi=>?_,fun i hi=>?_,fun i j hi hj hij=>?_⟩
  · simp only [List.length_append,List.length_cons,List.length_nil] at hi
    by_cases e:i<F.length
    · rw [nth_app_l (by omega),nth_app_l e];exact m.pre i e
    · obtain rfl:i=F.length:=by omega
      rw [nth_app_r];rw [← hW,nth_app_r]
  · simp only [List.length_append,List.length_cons,List.length_nil] at hi
    by_cases e:i<F.length
    · obtain ⟨a1,a2,a3,a4,a5⟩:=m.row i e
      rw [nth_app_l e,nth_app_l (by omega)]
      have:=x.next
      exact ⟨by rw [g4.get _ (by omega) (.inr a5),x.get _ a4];exact a1,a2,a3,by omega,hwid _ (by omega) (.inr a5)⟩
    · obtain rfl:i=F.length:=by omega
      rw [nth_app_r];rw [← hl,nth_app_r]
      have hv:nilV v=true∨h.next≠idV v:=hvlow.imp id (fun h=>by omega)
      exact ⟨by rw [g4.get _ hlt hv];exact hg,hr,hb,by omega,hwid _ hlt hv⟩
  · simp only [List.length_append,List.length_cons,List.length_nil] at hi hj
    by_cases e1:i<F.length
    · by_cases e2:j<F.length
      · rw [nth_app_l e1,nth_app_l e2];exact m.dis i j e1 e2 hij
      · obtain rfl:j=F.length:=by omega
        have:=(m.row i e1).2.2.2.1
        rw [nth_app_l e1,nth_app_r];omega
    · obtain rfl:i=F.length:=by omega
      have:=(m.row j (by omega)).2.2.2.1
      rw [nth_app_l (l:=F) (j:=j) (by omega),nth_app_r];omega
theorem MatH.put {h4 : AH} {f : Nat} {r : List Bool} {W' : List (List V)} (m : MatH b h v n W F M) (hf : f < h4.next) (hfb : b ≤ f) (hn : h.next ≤ f) (hg : h4.get f = some ⟨1, r.map encBl⟩) (hr : r.length = n) (hwl : F.length < W.length)
    (hW:W'=W.set F.length [.sl f 0 n n]) (s4:Sl b h4 1 v W') (k:∀ i,i<h.next→i≠idV v→h4.get i=h.get i):MatH b h4 v n W' (F++[f]) (M++[r]):=by
  subst hW
  have hl:=m.len
  have hvlow:idV v<h.next:=by
    rcases m.out with ⟨_,h1⟩ | ⟨id,el,cap,cs,rfl,a,c,d,e,f,g1,g2⟩
    · subst h1;simp at hwl
    · exact f
  refine ⟨s4,by simp [hl],by simp;omega,fun i hi=>?_,fun i hi=>?_,fun i j hi hj hij=>?_⟩
  · simp only [List.length_append,List.length_cons,List.length_nil] at hi
    rw [nth_set (by omega)]
    by_cases e:i<F.length
    · rw [if_neg (by omega),nth_app_l e];exact m.pre i e
    · obtain rfl:i=F.length:=by omega
      rw [if_pos rfl,nth_app_r]
  · simp only [List.length_append,List.length_cons,List.length_nil] at hi
    by_cases e:i<F.length
    · obtain ⟨a1,a2,a3,a4,a5⟩:=m.row i e
      rw [nth_app_l e,nth_app_l (by omega)]
      exact ⟨by rw [k _ a4 a5];exact a1,a2,a3,by omega,a5⟩
    · obtain rfl:i=F.length:=by omega
      rw [nth_app_r];rw [← hl,nth_app_r]
      exact ⟨hg,hr,hfb,hf,by omega⟩
  · simp only [List.length_append,List.length_cons,List.length_nil] at hi hj
    by_cases e1:i<F.length
    · by_cases e2:j<F.length
      · rw [nth_app_l e1,nth_app_l e2];exact m.dis i j e1 e2 hij
      · obtain rfl:j=F.length:=by omega
        have:=(m.row i e1).2.2.2.1
        rw [nth_app_l e1,nth_app_r];omega
    · obtain rfl:i=F.length:=by omega
      have:=(m.row j (by omega)).2.2.2.1
      rw [nth_app_l (l:=F) (j:=j) (by omega),nth_app_r];omega
theorem frzr_of {P:Nat→Prop} {h:AH} {n:Nat}:∀ {l l':List (List V)},l.length=l'.length→(∀ i,i<l.length→Frzs P h n (nth l i) (nth l' i))→Frzr P h n l l'
  | [],[],_,_=>.nil _
  | a::l,c::l',hl,hx=>.cons _ _ _ _ _ (hx 0 (by simp)) (frzr_of (by simpa using hl) (fun i hi=>by have:=hx (i+1) (by simpa using hi);rwa [nth_cons,nth_cons] at this))
theorem nth_map {α β:Type} [Inhabited α] [Inhabited β] {f:α→β} {l:List α} {i:Nat} (hi:i<l.length):nth (l.map f) i=f (nth l i):=by simp [nth,List.getD,List.getElem?_eq_getElem hi]
theorem MatH.frz {P:Nat→Prop} {k:Nat} (m:MatH b h v n W F M) (hW:W.length=F.length) (hP:∀ i,b≤i→P i) (hL:W.length<4000000000) (hn:n<4000000000):Frz P h k v (.fl 1 (M.map encM)):=by
  have hl:=m.len
  have key:Frzr P h 0 W (M.map encM):=frzr_of (by simp;omega) (fun i hi=>by
    obtain ⟨a1,a2,a3,a4,a5⟩:=m.row i (by omega)
    rw [m.pre i (by omega),nth_map (by omega)]
    exact .cons _ _ _ _ _ (.sl _ _ _ _ _ _ _ _ (hP _ a3) a1 (by simp;omega) (Nat.le_refl _) (by simpa [frzLen] using hn) (by rw [List.drop_zero,List.take_of_length_le (by simp;omega)];exact Frzr.of_map (fun _=>rfl) _)) (.nil _))
  rcases m.out with ⟨hv,hR⟩ | ⟨id,el,cap,cs,rfl,a,c,d,e,f,g1,g2⟩
  · subst hR
    have:M.map encM=[]:=List.length_eq_zero_iff.1 (by have:=key.len;simpa using this.symm)
    rw [this]
    rcases hv with rfl | rfl
    · exact .ns _ _
    · exact .e0 _ _
  · refine .sl _ id el _ cap 1 cs _ (hP _ g1) a (by omega) e (by simpa [frzLen] using hL) ?_
    rw [d];exact key
end
/-! Squares by their entries. -/
def mat (n:Nat) (f:Nat→Nat→Bool):List (List Bool):=(List.range n).map fun a=>(List.range n).map fun b=>f a b
theorem mat_len {n:Nat} {f:Nat→Nat→Bool}:(mat n f).length=n:=by simp [mat]
theorem nth_range {n i:Nat} (hi:i<n):nth (List.range n) i=i:=by simp [nth,List.getD,hi]
theorem mat_row {n a:Nat} {f:Nat→Nat→Bool} (ha:a<n):nth (mat n f) a=(List.range n).map fun b=>f a b:=by
  unfold mat;rw [nth_map (by simpa using ha),nth_range ha]
theorem mat_at {n a b:Nat} {f:Nat→Nat→Bool} (ha:a<n) (hb:b<n):nth (nth (mat n f) a) b=f a b:=by
  rw [mat_row ha,nth_map (by simpa using hb),nth_range hb]
theorem list_ext {α:Type} [Inhabited α] {l m:List α} (hl:l.length=m.length) (h:∀ i,i<l.length→nth l i=nth m i):l=m:=by
  refine List.ext_getElem hl fun i h1 h2=>?_
  have:=h i h1
  rwa [nth_eq h1,nth_eq h2] at this
theorem mat_set {n a b:Nat} {f:Nat→Nat→Bool} {x:Bool} (ha:a<n) (hb:b<n):(mat n f).set a ((nth (mat n f) a).set b x)=mat n (fun i j=>if i=a∧j=b then x else f i j):=by
  refine list_ext (by simp [mat_len]) fun i hi=>?_
  simp only [List.length_set,mat_len] at hi
  rw [nth_set (by rw [mat_len];exact hi),mat_row ha,mat_row hi]
  split
  · rename_i e;subst e
    rw [mat_row hi]
    refine list_ext (by simp) fun j hj=>?_
    simp only [List.length_set,List.length_map,List.length_range] at hj
    rw [nth_set (by simpa using hj),nth_map (by simpa using hj),nth_map (by simpa using hj),nth_range hj]
    by_cases e:b=j
    · simp [e]
    · simp [e,Ne.symm e]
  · rename_i e
    rw [mat_row hi]
    exact List.map_congr_left fun j _=>by simp [Ne.symm e]
end Go.Ab.T
namespace Go.Ab.T
open Go Go.Ab
set_option maxHeartbeats 4000000
def inB (n:Nat) (p:Int):Bool:=decide (0≤p∧p<n)
def dep0 (C:Config) (x y:Nat):Bool:=decide (x=y)||((nth C.parts x).sched&&(nth C.parts y).sched)
def linkB (n:Nat) (x y:Nat) (c:Chan):Bool:=inB n c.src&&inB n c.dst&&(decide (c.src=x∧c.dst=y)||decide (c.dst=x∧c.src=y))
def depF (C:Config) (k:Nat) (x y:Nat):Bool:=dep0 C x y||(C.chans.take k).any (linkB C.parts.length x y)
def depM (C:Config):List (List Bool):=mat C.parts.length (depF C C.chans.length)
theorem MatH.tell {b n : Nat} {h : AH} {v : V} {W : List (List V)} {F : List Nat} {f : Nat → Nat → Bool} (m : MatH b h v n W F (mat n f)) {a c : Nat} (ha : a < n) (hc : c < n) :
    nth W a=[.sl (nth F a) 0 n n]∧h.get (nth F a)=some ⟨1,(nth (mat n f) a).map encBl⟩∧((nth (mat n f) a).map encBl)[c]?=some [.b (f a c)]∧(∀ x:Bool,((nth (mat n f) a).map encBl).set c [.b x]=(((nth (mat n f) a).set c x).map encBl))∧b≤nth F a∧nth F a<h.next∧nth F a≠idV v ∧
    ∀ x:Bool,MatH b (h.put (nth F a) ⟨1,((nth (mat n f) a).set c x).map encBl⟩) v n W F (mat n fun i j=>if i=a∧j=c then x else f i j):=by
  have hl:=m.len
  rw [mat_len] at hl
  obtain ⟨a1,a2,a3,a4,a5⟩:=m.row a (by omega)
  refine ⟨m.pre a (by omega),a1, ?_,fun x=>by simp [List.map_set,encBl],a3,a4,a5,fun x=>?_⟩
  · rw [List.getElem?_map,nth_get (by omega),mat_at ha hc];rfl
  · have:=m.set (a:=a) (by omega) (r:=(nth (mat n f) a).set c x) (by simp [a2])
    rwa [mat_set ha hc] at this
end Go.Ab.T
namespace Go.Ab.T
open Go Go.Ab
set_option maxHeartbeats 4000000
theorem MatH.two {b n : Nat} {h : AH} {v : V} {W : List (List V)} {F : List Nat} {f : Nat → Nat → Bool} (m : MatH b h v n W F (mat n f)) {a c : Nat} (ha : a < n) (hc : c < n) :
    MatH b ((h.put (nth F a) ⟨1,((nth (mat n f) a).set c true).map encBl⟩).put (nth F c) ⟨1,((if a=c then (nth (mat n f) a).set c true else nth (mat n f) c).set a true).map encBl⟩) v n W F (mat n fun i j=>if i=c∧j=a then true else if i=a∧j=c then true else f i j):=by
  obtain ⟨_,_,_,_,_,_,_,t8⟩:=m.tell ha hc
  obtain ⟨_,_,_,_,_,_,_,s8⟩:=(t8 true).tell hc ha
  have e:nth (mat n fun i j=>if i=a∧j=c then true else f i j) c=if a=c then (nth (mat n f) a).set c true else nth (mat n f) c:=by
    rw [← mat_set ha hc,nth_set (by rw [mat_len];exact hc)]
  have:=s8 true
  rwa [e] at this
end Go.Ab.T
namespace Go.Ab.T
open Go Go.Ab
set_option maxHeartbeats 4000000
structure Move where
  i:Int
  j:Int
  right:Bool
  deriving Inhabited,DecidableEq
@[go_sem] def Move.enc (m:Move):List V:=[.i .i64 m.i,.i .i64 m.j,.b m.right]
def placesB (L:List Run) (m:Move):Bool:=decide (0≤m.i∧m.i<m.j∧m.j<L.length)
def blocks (M:List (List Bool)) (p:Int) (r:Run):Bool:=decide (r.part=p)||(decide (p≠-1)&&decide (r.part≠-1)&&depB M p r.part)
def between (L:List Run) (m:Move):List Run:=(L.drop (m.i+1).toNat).take (m.j.toNat - (m.i+1).toNat)
def mayB (L:List Run) (M:List (List Bool)) (m:Move):Bool:=placesB L m&&decide ((nth L m.i.toNat).part=(nth L m.j.toNat).part)&&!(between L m).any (blocks M (nth L m.i.toNat).part)
end Go.Ab.T
namespace Go.Ab.T
open Go Go.Ab
set_option maxHeartbeats 4000000
def toI (m:Move):Nat:=if m.right=true then m.j.toNat else m.i.toNat
def fromI (m:Move):Nat:=if m.right=true then m.i.toNat else m.j.toNat
def movd (L:List Run) (t f:Nat):List Run:=(L.set t ⟨(nth L t).part,addR (nth L t).n (nth L f).n⟩).set f ⟨(nth L f).part,0⟩
def doR (L:List Run) (m:Move):List Run:=if placesB L m=true then tidyGo (movd L (toI m) (fromI m)) [] else L
end Go.Ab.T
namespace Go.Ab.T
open Go Go.Ab
set_option maxHeartbeats 4000000
def allJ (L:List Run) (M:List (List Bool)) (i:Nat):Nat→Nat→List Move→List Move
  | 0,_,acc=>acc
  | f+1,j,acc=>allJ L M i f (j+1) (if mayB L M ⟨i,j,false⟩=true then acc++[⟨i,j,false⟩,⟨i,j,true⟩] else acc)
def allI (L:List Run) (M:List (List Bool)):Nat→Nat→List Move→List Move
  | 0,_,acc=>acc
  | f+1,i,acc=>allI L M f (i+1) (allJ L M i (L.length - (i+1)) (i+1) acc)
def allR (L:List Run) (M:List (List Bool)):List Move:=allI L M L.length 0 []
end Go.Ab.T
namespace Go.Ab.T
open Go Go.Ab
set_option maxHeartbeats 4000000
section
variable {L:List Run} {t f:Nat}
end
section
variable {L:List Run} {m:Move}
end
/-! What is drawn, what is done till nothing goes. -/
def drawGo (C:Config) (L:List Run):List Move→List Run×Bool
  | []=>(L,false)
  | m::l=>if holdsR C (doR L m)=0 then (doR L m,true) else drawGo C L l
def drawR (C:Config) (L:List Run):List Run×Bool:=drawGo C L (allR L (depM C))
def mergeR (L:List Run):List Run×Bool:=(tidyGo L [],!decide (tidyGo L []=L))
def validB (C:Config) (a b:List Run):Bool:=!(difR a b (depM C)).2.2&&(decide (holdsR C b=0)&&frameB b)
def stepR (C:Config) (L:List Run):List Run×Bool:=
  if (mergeR L).2=true∧validB C L (mergeR L).1=true then ((mergeR L).1,true) else
  if (drawR C L).2=true∧validB C L (drawR C L).1=true then ((drawR C L).1,true) else (L,false)
def runsGo (C:Config):Nat→List Run→Int→List Run×Int
  | 0,L,n=>(L,n)
  | f+1,L,n=>if (stepR C L).2=true then runsGo C f (stepR C L).1 (n+1) else (L,n)
def runsR (C:Config) (L:List Run):List Run×Int:=runsGo C (L.length+1) L 0
end Go.Ab.T
namespace Go.Ab.T
open Go Go.Ab
set_option maxHeartbeats 4000000
theorem frm_len:∀ {L:List Run},AllPos L→(L.length:Int)≤sumN L
  | [],_=>by simp [sumN]
  | r::l,h=>by
    have:=frm_len (L:=l) (fun q hq=>h q (List.mem_cons_of_mem _ hq))
    have:=h r (List.mem_cons_self ..)
    simp only [List.length_cons,sumN];omega
theorem Frm.len {L:List Run} (h:Frm L):L.length≤4096:=by
  have:=frm_len h.1;have:=h.2;omega
end Go.Ab.T
namespace Go.Ab.T
open Go Go.Ab
set_option maxHeartbeats 4000000
end Go.Ab.T
namespace Go.Ab.T
open Go Go.Ab
set_option maxHeartbeats 4000000
end Go.Ab.T
namespace Go.Ab.T
open Go Go.Ab
set_option maxHeartbeats 4000000
def agGo {α:Type} [DecidableEq α] (X:List α) (i p:Nat):Nat→Nat→Nat
  | 0,k=>k
  | f+1,k=>if i+(k+1)*p≤X.length∧(X.drop i).take p=(X.drop (i+k*p)).take p then agGo X i p f (k+1) else k
def agR {α:Type} [DecidableEq α] (X:List α) (i p:Nat):Nat:=agGo X i p X.length 1
end Go.Ab.T
namespace Go.Ab.T
open Go Go.Ab
set_option maxHeartbeats 4000000
structure St where
  i:Nat
  p:Nat
  n:Nat
  s:Int
  deriving Inhabited,DecidableEq
@[go_sem] def St.enc (x:St):List V:=[.i .i64 x.i,.i .i64 x.p,.i .i64 x.n,.i .i64 x.s]
def svs (z:Int) (n p:Nat):Int:=z*(n - 1) - 1 - (if 1<p then 1 else 0)
def betP (sz:Nat→Int) (tm:Nat→Nat→Nat) (i:Nat):Nat→Nat→Int→St→St
  | 0,_,_,st=>st
  | f+1,p,z,st=>betP sz tm i f (p+1) (z+sz (i+p - 1)) (if 1<tm i p∧st.s<svs (z+sz (i+p - 1)) (tm i p) p then ⟨i,p,tm i p,svs (z+sz (i+p - 1)) (tm i p) p⟩ else st)
def betA (len:Nat) (sz:Nat→Int) (tm:Nat→Nat→Nat):Nat→Nat→St→St
  | 0,_,st=>st
  | f+1,i,st=>betA len sz tm f (i+1) (betP sz tm i ((len - i) / 2) 1 0 st)
def betR (len:Nat) (sz:Nat→Int) (tm:Nat→Nat→Nat):St:=betA len sz tm len 0 ⟨0,0,0,0⟩
end Go.Ab.T
namespace Go.Ab.T
open Go Go.Ab
set_option maxHeartbeats 4000000
end Go.Ab.T
namespace Go.Ab.T
open Go Go.Ab
set_option maxHeartbeats 4000000
def leafN (r:Run):Node:=if r.part = -1 then ⟨2,0,r.n⟩ else ⟨1,r.part,r.n⟩
def leavesX (L:List Run):List (List Node):=L.map fun r=>[leafN r]
structure NestH (b sz:Nat) (h:AH) (v:V) (W:List (List V)) (R:List (List (List V))):Prop where
  out:Sl b h 1 v W
  len:R.length=W.length
  row:∀ i,i<W.length→∃ id,nth W i=[V.sl id 0 (nth R i).length (nth R i).length]∧h.get id=some ⟨sz,nth R i⟩∧b≤id∧id<h.next∧id≠idV v
theorem NestH.ext {b sz:Nat} {h h':AH} {v:V} {W:List (List V)} {R:List (List (List V))} (m:NestH b sz h v W R) (x:Ext h h'):NestH b sz h' v W R:=
  ⟨m.out.ext x,m.len,fun i hi=>by
    obtain ⟨id,a1,a2,a3,a4,a5⟩:=m.row i hi
    exact ⟨id,a1,(x.get _ a4).trans a2,a3,by have:=x.next;omega,a5⟩⟩
theorem NestH.push {b sz id : Nat} {h h1 h4 : AH} {v w : V} {W : List (List V)} {R : List (List (List V))} {r : List (List V)} (m : NestH b sz h v W R) (hb : b ≤ h.next) (x : Ext h h1) (hid : h.next ≤ id) (hlt : id < h1.next) (hg : h1.get id = some ⟨sz, r⟩)
    (s4:Sl b h4 1 w (W++[[.sl id 0 r.length r.length]])) (g4:Grown b h1 v w h4):NestH b sz h4 w (W++[[.sl id 0 r.length r.length]]) (R++[r]):=by
  have hl:=m.len
  have hn:=g4.next
  have hvlow:=sl_low m.out
  have hw:nilV w=false:=by
    rcases s4 with ⟨_,h2⟩ | ⟨id,el,cap,cs,rfl,_⟩
    · simp at h2
    · rfl
  have hwid:∀ j,j<h1.next→(nilV v=true∨j≠idV v)→j≠idV w:=fun j hj hv=>by
    rcases g4.own with h2 | ⟨h2,h3⟩ | h2
    · rw [hw] at h2;cases h2
    · rw [h2] at hv;rw [h3];exact hv.resolve_left (by simp)
    · omega
  refine ⟨s4,by simp [hl],fun i hi=>?_⟩
  simp only [List.length_append,List.length_cons,List.length_nil] at hi
  by_cases e:i<W.length
  · obtain ⟨d,a1,a2,a3,a4,a5⟩:=m.row i e
    have:=x.next
    rw [nth_app_l e,nth_app_l (by omega)]
    exact ⟨d,a1,by rw [g4.get _ (by omega) (.inr a5),x.get _ a4];exact a2,a3,by omega,hwid _ (by omega) (.inr a5)⟩
  · obtain rfl:i=W.length:=by omega
    rw [nth_app_r,←hl,nth_app_r]
    have hv:nilV v=true∨id≠idV v:=hvlow.imp (fun h=>h) (fun h=>by omega)
    exact ⟨id,rfl,by rw [g4.get _ hlt hv];exact hg,by omega,by omega,hwid _ hlt hv⟩
theorem frz_rows {b k:Nat} {h:AH} {v:V} {W R:List (List V)} {P:Nat→Prop} (s:Sl b h 1 v W) (key:Frzr P h 0 W R) (hP:∀ i,b≤i→P i) (hL:W.length<4000000000):Frz P h k v (.fl 1 R):=by
  rcases s with ⟨hv,hR⟩ | ⟨id,el,cap,cs,rfl,a,c,d,e,f,g1,g2⟩
  · subst hR
    have:R=[]:=List.length_eq_zero_iff.1 (by have:=key.len;simpa using this.symm)
    rw [this]
    rcases hv with rfl | rfl
    · exact .ns _ _
    · exact .e0 _ _
  · refine .sl _ id el _ cap 1 cs _ (hP _ g1) a (by omega) e (by simpa [frzLen] using hL) ?_
    rw [d];exact key
theorem NestH.frz {b sz k:Nat} {h:AH} {v:V} {W:List (List V)} {R:List (List (List V))} {P:Nat→Prop} (m:NestH b sz h v W R) (hP:∀ i,b≤i→P i) (hL:W.length<4000000000) (hr:∀ r∈R,r.length<4000000000∧Frzr P h 0 r r):Frz P h k v (.fl 1 (R.map fun r=>[.fl sz r])):=by
  have hl:=m.len
  have key:Frzr P h 0 W (R.map fun r=>[V.fl sz r]):=frzr_of (by simp;omega) (fun i hi=>by
    obtain ⟨id,a1,a2,a3,a4,a5⟩:=m.row i hi
    have hq:=hr (nth R i) (nth_mem (by omega))
    rw [a1,nth_map (by omega)]
    exact .cons _ _ _ _ _ (.sl _ _ _ _ _ _ _ _ (hP _ a3) a2 (by simp) (Nat.le_refl _) (by simpa [frzLen] using hq.1) (by rw [List.drop_zero,List.take_length];exact hq.2)) (.nil _))
  exact frz_rows m.out key (hP) hL
end Go.Ab.T
namespace Go.Ab.T
open Go Go.Ab
set_option maxHeartbeats 4000000
end Go.Ab.T
namespace Go.Ab.T
open Go Go.Ab
set_option maxHeartbeats 4000000
section
variable {tp:TP} {e:Env} {h:AH} {K:V→AH→Prop}
def capV:V→Option V | .ns=>some (.i .i64 0) | .e0=>some (.i .i64 0) | _=>none
theorem capV_ns:capV .ns=some (.i .i64 0):=nrfl rfl
theorem capV_e0:capV .e0=some (.i .i64 0):=nrfl rfl
theorem slc2_ns0 {g:Option Blk} {sz:Nat} {k:IntKind}:slc2 g sz .ns none (some (.i k 0)) none=some .ns:=nrfl rfl
theorem slc2_z {sz id el n:Nat} {cs:List (List V)} {k:IntKind}:slc2 (some ⟨sz,cs⟩) sz (.sl id el n n) none (some (.i k 0)) none=some (.sl id el 0 n):=by simp [slc2,bndOf]
theorem Z1_cap {x:X}:Z1 tp (.cap x) e h K=Wo (capV (x.e2 e)) (fun v=>K v h):=by
  unfold Z1;simp only [z1,do2,doOp,capV]
  cases x.e2 e<;>simp only [Wo_some,Wo_none]
theorem ZQ1_cap {x:X}:ZQ1 tp (.cap x) e h K=Z1 tp (.cap x) e h K:=ZQ1_pure rfl
end
attribute [go_sem ↓] Z1_cap ZQ1_cap
attribute [go_sem] capV_ns capV_e0 slc2_ns0 slc2_z Int.sub_zero
def RowsOf (h:AH) (w:V) (vs:List V):Prop:=lenV w=some (.i .i64 vs.length)∧∀ h',Ext h h'→∀ (k:IntKind) (j:Nat),j<vs.length→∃ p,iad2 (h'.get (idV w)) 1 w (.i k j)=some p∧ldZ h' 1 false p=vs[j]?
def RowsIn (sz:Nat) (h:AH) (vs:List V) (Rs:List (List (List V))):Prop:=vs.length=Rs.length∧∀ h',Ext h h'→∀ j,j<vs.length→∃ v R,vs[j]?=some v∧Rs[j]?=some R∧rowsV sz h' v=some R∧lenV v=some (.i .i64 R.length)
theorem growB_ev {h : AH} {n : Int} {K : V → AH → Prop} (h0 : 0 ≤ n) (h1 : n < 1000000)
    (kk:n=0→K .ns h) (k2:0<n→K (.sl h.next 0 0 n.toNat) (h.alloc ⟨1,List.replicate n.toNat [.i .u8 0]⟩)):Cq tp i_Q88 [.ns,.i .i64 n] h K:=by
  refine Cq_raw_go fn_Q88 (by simp [t_Q88]) fun wf rp=>?_;unfold t_Q88;simp (disch:=omega)only[go_sem, *]
  refine Wb_dec (fun hc=>?_) (fun hc=>?_)
  · exact absurd hc (by omega)
  simp (disch:=omega)only[go_sem, *]
  refine Wb_dec (fun hc=>?_) (fun hc=>?_)
  · have f:=k2 (by omega)
    have h2:n<4294967296:=by omega
    clear kk k2
    simp (disch:=omega)only[go_sem, *]
  · have f:=kk (by omega)
    clear kk k2
    simp (disch:=omega)only[go_sem, *]
theorem catB_16 {K : Ex → Env → AH → Prop} {e : Env} {h h1 : AH} {w g0 : V} {vs : List V} {Rs : List (List (List V))} (x1 : Ext h h1) (hlo : h1.lim ≤ h.next) (s0 : Sl h.next h1 1 g0 []) (wl : lenV w = some (.i .i64 vs.length))
    (wat:∀ h',Ext h h'→∀ (k:IntKind) (j:Nat),j<vs.length→∃ p,iad2 (h'.get (idV w)) 1 w (.i k j)=some p∧ldZ h' 1 false p=vs[j]?) (hvl1:vs.length≤Rs.length) (hvl2:Rs.length≤vs.length)
    (hat:∀ h',Ext h h'→∀ j,j<vs.length→∃ v R,vs[j]?=some v∧Rs[j]?=some R∧rowsV 1 h' v=some R∧lenV v=some (.i .i64 R.length)) (hR:Rs.flatten.length<1000000) (hv:vs.length<1000000)
    (e6:e 6=g0) (e25:e 25=w) (e26:e 26=.i .i64 vs.length) (e27:e 27=.i .i64 0)
    (kk:∀ e' h2 r,e' 6=r→Ext h h2→Sl h.next h2 1 r Rs.flatten→K (.ex 2) e' h2):ZC tp (.loop Q52_16) e h1 K:=by
  refine ZC_loop_n (fun n' e hh=>∃ (i:Nat) (g:V),n'=vs.length - i∧Ext h hh∧hh.lim≤h.next∧e 6=g∧e 25=w∧e 26=.i .i64 vs.length∧e 27=.i .i64 i∧i≤vs.length∧Sl h.next hh 1 g (Rs.take i).flatten) ?_ _ _ _ ⟨0,g0,rfl,x1,hlo,e6,e25,e26,e27,by omega,s0⟩
  clear x1 hlo s0 e6 e25 e26 e27 e
  rintro n' e hh ⟨i,g,rfl,x1,hlo,e6,e25,e26,e27,hi,s0⟩ ih
  rw [ZC_unf Q52_16.eq_1]
  simp (disch:=omega)only[go_sem, *]
  refine Wb_dec (fun hc=>?_) (fun hc=>?_)
  · have hil:i<vs.length:=by omega
    obtain ⟨p,hp1,hp2⟩:=wat hh x1 .i64 i hil
    obtain ⟨v,R,hv1,hv2,hv3,hv4⟩:=hat hh x1 i hil
    have hp3:=hp2.trans hv1
    have ht:(Rs.take (i+1)).flatten=(Rs.take i).flatten++R:=by
      rw [List.take_succ,hv2];simp
    have hle:(Rs.take (i+1)).flatten.length≤Rs.flatten.length:=by
      conv=>rhs;rw [← List.take_append_drop (i+1) Rs]
      rw [List.flatten_append,List.length_append];omega
    have hn:=x1.next
    rw [ht,List.length_append] at hle
    have ht2:=ht.symm
    clear wl wat hat hp2 hv1 ht kk
    simp (disch:=omega)only[go_sem, *]
    refine app_rule s0 (by omega) (by omega) (by omega) ?_
    intro r h4 s4 g4
    have x4:Ext h h4:=⟨by have:=g4.next;omega,by rw [g4.lim];exact x1.lim,fun k hk=>by rw [g4.low k hk];exact x1.get k hk⟩
    have l4:h4.lim≤h.next:=by rw [g4.lim];exact hlo
    rw [ht2] at s4
    clear g4 ht2 s0
    simp (disch:=omega)only[go_sem, *]
    refine ih _ _ _ ?_ ⟨i+1,r,rfl, ?_⟩
    · omega
    · clear ih
      simp (disch:=omega)only[go_sem, *]
      all_goals ((repeat' refine And.intro ?_ ?_)<;>first | omega | assumption | (exact x4) | (exact s4))
  · have hti:Rs.take i=Rs:=List.take_of_length_le (by omega)
    rw [hti] at s0
    have f:=kk
    clear hti ih kk
    simp (disch:=omega)only[go_sem, *]
    refine f _ hh g ?_ x1 s0
    simp (disch:=omega)only[go_sem, *]
theorem catB_ev {h : AH} {w : V} {vs : List V} {Rs : List (List (List V))} {K : V → AH → Prop} (hlo : h.lim ≤ h.next) (hw : RowsOf h w vs) (hr : RowsIn 1 h vs Rs) (hv : vs.length < 1000000) (hR : Rs.flatten.length < 1000000)
    (kk:∀ r h',Sl h.next h' 1 r Rs.flatten→Ext h h'→K r h'):Cq tp i_Q52 [w] h K:=by
  obtain ⟨wl,wat⟩:=hw
  obtain ⟨hvl0,hat⟩:=hr
  have hvl1:=Nat.le_of_eq hvl0
  have hvl2:=Nat.le_of_eq hvl0.symm
  clear hvl0
  refine Cq_raw_go fn_Q52 (by simp [t_Q52]) fun wf rp=>?_;unfold t_Q52;simp (disch:=omega)only[go_sem, *]
  have hx:=Ext.refl h
  refine ZC_loop_n (fun n' e hh=>∃ (i:Nat),n'=vs.length - i∧hh=h∧e 0=w∧e 9=w∧e 10=.i .i64 vs.length∧e 11=.i .i64 i∧e 3=.i .i64 ((Rs.take i).flatten.length:Nat)∧i≤vs.length) ?_ _ _ _ ⟨0,rfl, ?_⟩
  rotate_left
  · simp (disch:=omega)only[go_sem, *]
    all_goals ((repeat' refine And.intro ?_ ?_)<;>first | omega | assumption | (rfl))
  rintro n' e hh ⟨i,rfl,rfl,e0,e9,e10,e11,e3,hi⟩ ih
  rw [ZC_unf Q52_9.eq_1]
  simp (disch:=omega)only[go_sem, *]
  refine Wb_dec (fun hc=>?_) (fun hc=>?_)
  · have hil:i<vs.length:=by omega
    obtain ⟨p,hp1,hp2⟩:=wat hh hx .i64 i hil
    obtain ⟨v,R,hv1,hv2,hv3,hv4⟩:=hat hh hx i hil
    have hp3:=hp2.trans hv1
    have hiR:i<Rs.length:=by omega
    have ht:(Rs.take (i+1)).flatten.length=(Rs.take i).flatten.length+R.length:=by
      rw [List.take_succ,hv2];simp
    have hle:(Rs.take (i+1)).flatten.length≤Rs.flatten.length:=by
      conv=>rhs;rw [← List.take_append_drop (i+1) Rs]
      rw [List.flatten_append,List.length_append];omega
    generalize (Rs.take i).flatten.length=A at *
    clear wl wat hat hp2 hv1 hv3
    simp (disch:=omega)only[go_sem, *]
    refine Wb_dec (fun hc2=>?_) (fun hc2=>?_)
    · exact absurd hc2 (by omega)
    simp (disch:=omega)only[go_sem, *]
    refine ih _ _ _ ?_ ⟨i+1,rfl, ?_⟩
    · omega
    · clear ih
      simp (disch:=omega)only[go_sem, *]
      all_goals ((repeat' refine And.intro ?_ ?_)<;>first | omega | assumption | (rfl))
  · have hti:Rs.take i=Rs:=List.take_of_length_le (by omega)
    rw [hti] at e3
    clear hti ih
    simp (disch:=omega)only[go_sem, *]
    refine growB_ev (by omega) (by omega) (fun hz=>?_) (fun hp=>?_)
    · simp (disch:=omega)only[go_sem, *]
      refine catB_16 (g0:=.ns) hx hlo (Sl.nil _ _ _) wl wat hvl1 hvl2 hat hR hv (by simp (disch:=omega)only[go_sem, *]) (by simp (disch:=omega)only[go_sem, *]) (by simp (disch:=omega)only[go_sem, *]) (by simp (disch:=omega)only[go_sem, *]) ?_
      intro e' h2 r f6 x2 s2
      have f:=kk r h2 s2 x2
      clear kk s2
      simp (disch:=omega)only[go_sem, *]
    · have s1:Sl hh.next (hh.alloc ⟨1,List.replicate ((Rs.flatten.length:Int)).toNat [.i .u8 0]⟩) 1 (.sl hh.next 0 0 ((Rs.flatten.length:Int)).toNat) []:=.inr ⟨_,_,_,_,rfl,by rw [get_alloc,gsel_eq rfl],by simp,by simp,by simp,Nat.lt_succ_self _,Nat.le_refl _,by simp⟩
      have x1:Ext hh (hh.alloc ⟨1,List.replicate ((Rs.flatten.length:Int)).toNat [.i .u8 0]⟩):=hx.alloc _
      generalize hh.alloc ⟨1,List.replicate ((Rs.flatten.length:Int)).toNat [.i .u8 0]⟩=h1 at s1 x1 ⊢
      have l1:h1.lim≤hh.next:=by rw [x1.lim];exact hlo
      simp (disch:=omega)only[go_sem, *]
      refine catB_16 (g0:=.sl hh.next 0 0 ((Rs.flatten.length:Int)).toNat) x1 l1 s1 wl wat hvl1 hvl2 hat hR hv (by simp (disch:=omega)only[go_sem, *]) (by simp (disch:=omega)only[go_sem, *]) (by simp (disch:=omega)only[go_sem, *]) (by simp (disch:=omega)only[go_sem, *]) ?_
      intro e' h2 r f6 x2 s2
      have f:=kk r h2 s2 x2
      clear kk s2
      simp (disch:=omega)only[go_sem, *]
end Go.Ab.T
namespace Go.Ab.T
open Go Go.Ab
set_option maxHeartbeats 4000000
end Go.Ab.T
namespace Go.Ab.T
open Go Go.Ab
set_option maxHeartbeats 4000000
/-! Folding, plain. -/
def sumS (sz:Nat→Int) (i:Nat):Nat→Int
  | 0=>0
  | k+1=>sumS sz i k+sz (i+k)
def StOk (len:Nat) (sz:Nat→Int) (tm:Nat→Nat→Nat) (st:St):Prop:=(st=⟨0,0,0,0⟩)∨(1≤st.p∧st.i+2*st.p≤len∧st.n=tm st.i st.p∧1<st.n∧st.s=svs (sumS sz st.i st.p) st.n st.p∧0<st.s)
theorem StOk.pos {len:Nat} {sz:Nat→Int} {tm:Nat→Nat→Nat} {st:St} (h:StOk len sz tm st):0≤st.s:=by
  rcases h with rfl | h
  · exact Int.le_refl _
  · omega
def bestX (X:List (List Node)):St:=betR X.length (fun j=>((nth X j).length:Int)) (agR X)
def joinX (X:List (List Node)):List Node:=if X.length=1 then X.flatten else ⟨3,0,X.length⟩::X.flatten
def foldAt (X:List (List Node)) (s:St):List (List Node):=X.take s.i++[⟨4,0,s.n⟩::joinX ((X.drop s.i).take s.p)]++X.drop (s.i+s.p*s.n)
def tabGo:Nat→List (List Node)→List Node
  | 0,X=>joinX X
  | f+1,X=>if (bestX X).n=0 then joinX X else tabGo f (foldAt X (bestX X))
def foldR (L:List Run):List Node:=if frameB L=true then tabGo L.length (leavesX L) else []
end Go.Ab.T
namespace Go.Ab.T
open Go Go.Ab
set_option maxHeartbeats 4000000
end Go.Ab.T
namespace Go.Ab.T
open Go Go.Ab
set_option maxHeartbeats 4000000
theorem next_kills {h:AH} {D:List Nat}:(h.kills D).next=h.next:=nrfl rfl
theorem lim_kills {h:AH} {D:List Nat}:(h.kills D).lim=h.lim:=nrfl rfl
theorem get_kills2 {h:AH} {i a b:Nat} (h1:¬ i=a) (h2:¬ i=b):(h.kills [a,b]).get i=h.get i:=by simp [AH.kills,h1,h2]
attribute [go_sem] next_kills lim_kills get_kills2
end Go.Ab.T
namespace Go.Ab.T
open Go Go.Ab
set_option maxHeartbeats 4000000
end Go.Ab.T
namespace Go.Ab.T
open Go Go.Ab
set_option maxHeartbeats 4000000
/-! Items as trees: what folding does to them. Plain. -/
theorem Fo.flat_inj:∀ (f g:Fo) (R R':List Node),f.ok→g.ok→f.count=g.count→f.flat++R=g.flat++R'→f=g∧R=R'
  | .nil,.nil,R,R',_,_,_,h=>⟨rfl,by simpa [Fo.flat] using h⟩
  | .nil,.leaf _ _,_,_,_,_,hc,_=>by simp [Fo.count] at hc
  | .nil,.seq _ _ _,_,_,_,_,hc,_=>by simp [Fo.count] at hc
  | .nil,.rep _ _ _,_,_,_,_,hc,_=>by simp [Fo.count] at hc
  | .leaf _ _,.nil,_,_,_,_,hc,_=>by simp [Fo.count] at hc
  | .seq _ _ _,.nil,_,_,_,_,hc,_=>by simp [Fo.count] at hc
  | .rep _ _ _,.nil,_,_,_,_,hc,_=>by simp [Fo.count] at hc
  | .leaf x r,.leaf y s,R,R',hf,hg,hc,h=>by
    simp only [Fo.flat,List.cons_append,List.cons.injEq] at h
    obtain ⟨h1,h2⟩:=Fo.flat_inj r s R R' hf.2 hg.2 (by simpa [Fo.count] using hc) h.2
    exact ⟨by rw [h.1,h1],h2⟩
  | .leaf x r,.seq y k s,R,R',hf,hg,hc,h=>by
    simp only [Fo.flat,List.cons_append,List.cons.injEq] at h
    have:=hf.1;have:=hg.2.1;have:=hg.2.2.1;rw [h.1] at *;omega
  | .leaf x r,.rep y k s,R,R',hf,hg,hc,h=>by
    simp only [Fo.flat,List.cons_append,List.cons.injEq] at h
    have:=hf.1;have:=hg.2.1;rw [h.1] at *;omega
  | .seq y k s,.leaf x r,R,R',hf,hg,hc,h=>by
    simp only [Fo.flat,List.cons_append,List.cons.injEq] at h
    have:=hg.1;have:=hf.2.1;have:=hf.2.2.1;rw [h.1] at *;omega
  | .rep y k s,.leaf x r,R,R',hf,hg,hc,h=>by
    simp only [Fo.flat,List.cons_append,List.cons.injEq] at h
    have:=hg.1;have:=hf.2.1;rw [h.1] at *;omega
  | .seq y k s,.rep x l r,R,R',hf,hg,hc,h=>by
    simp only [Fo.flat,List.cons_append,List.cons.injEq] at h
    have:=hf.1;have:=hg.1;rw [h.1] at *;omega
  | .rep y k s,.seq x l r,R,R',hf,hg,hc,h=>by
    simp only [Fo.flat,List.cons_append,List.cons.injEq] at h
    have:=hf.1;have:=hg.1;rw [h.1] at *;omega
  | .seq y k s,.seq x l r,R,R',hf,hg,hc,h=>by
    simp only [Fo.flat,List.cons_append,List.cons.injEq,List.append_assoc] at h
    obtain ⟨h0,h⟩:=h
    subst h0
    obtain ⟨h1,h2⟩:=Fo.flat_inj k l _ _ hf.2.2.2.1 hg.2.2.2.1 (by have:=hf.2.1;have:=hg.2.1;omega) h
    obtain ⟨h3,h4⟩:=Fo.flat_inj s r _ _ hf.2.2.2.2 hg.2.2.2.2 (by simpa [Fo.count] using hc) h2
    exact ⟨by rw [h1,h3],h4⟩
  | .rep y k s,.rep x l r,R,R',hf,hg,hc,h=>by
    simp only [Fo.flat,List.cons_append,List.cons.injEq,List.append_assoc] at h
    obtain ⟨h0,h⟩:=h
    subst h0
    obtain ⟨h1,h2⟩:=Fo.flat_inj k l _ _ hf.2.2.2.1 hg.2.2.2.1 (by have:=hf.2.2.1;have:=hg.2.2.1;omega) h
    obtain ⟨h3,h4⟩:=Fo.flat_inj s r _ _ hf.2.2.2.2 hg.2.2.2.2 (by simpa [Fo.count] using hc) h2
    exact ⟨by rw [h1,h3],h4⟩
theorem foOf_flat {f:Fo} (ho:f.ok) (hc:f.count=1) (hd:f.depth≤16) (hl:f.len≤4096) (hn:f.flat.length≤128):foOf f.flat=f:=by
  obtain ⟨_,h1,h2,h3,_⟩:=foOf_ok (right_flat ho hc hd hl hn)
  have:=Fo.flat_inj f (foOf f.flat) [] [] ho h1 (by rw [hc,h2]) (by rw [List.append_nil,List.append_nil];exact h3)
  exact this.1.symm
end Go.Ab.T
namespace Go.Ab.T
open Go Go.Ab
set_option maxHeartbeats 4000000
theorem res_tct {e:Env} {h:AH} {n m k l:Nat} {g:Bool}:resOf e h [.t n,.cell m k g,.t l]=(cellV h k g (e m)).map fun v=>.tup [e n,v,e l]:=by
  simp only [resOf,rvs,rvOf_cell]
  cases cellV h k g (e m)<;>rfl
attribute [go_sem] res_tct
structure Rpt where
  moves:Int
  runs:Int
  was:Int
  nodes:Int
  wasn:Int
  kept:Bool
  deriving Inhabited,DecidableEq
@[go_sem] def Rpt.enc (r:Rpt):List V:=[.i .i64 r.moves,.i .i64 r.runs,.i .i64 r.was,.i .i64 r.nodes,.i .i64 r.wasn,.b r.kept]
noncomputable def redR (C:Config) (T:List Node):List Node×Rpt×Int:=
  if (ofR T).2≠0 then ([],⟨0,0,0,0,0,false⟩,(ofR T).2) else
  if holdsR C (ofR T).1≠0 then ([],⟨0,0,0,0,0,false⟩,holdsR C (ofR T).1) else
  if T.length<(foldR (runsR C (ofR T).1).1).length then (T,⟨0,(ofR T).1.length,(ofR T).1.length,T.length,T.length,true⟩,0) else
  (foldR (runsR C (ofR T).1).1,⟨(runsR C (ofR T).1).2,(runsR C (ofR T).1).1.length,(ofR T).1.length,(foldR (runsR C (ofR T).1).1).length,T.length,false⟩,0)
end Go.Ab.T
namespace Go.Ab.T
open Go Go.Ab
set_option maxHeartbeats 4000000
theorem eq_fnf {fn:Fn} {a c:List V}:eqV .fn (.f fn a c) .nf=some false:=nrfl rfl
attribute [go_sem] eq_fnf
end Go.Ab.T
namespace Go.Ab.T
open Go Go.Ab
set_option maxHeartbeats 4000000
def ZCS (tp:TP) (c:TC) (e:Env) (h:AH) (K:Ex→Env→AH→Prop):Prop:=∀ S m hc e1,Cfg S m h hc→EP S m h hc e e1→WC tp c e1 hc (fun x=>PostE S m h hc (K x))
section
variable {tp:TP} {c a b:TC} {e e2:Env} {h h2:AH} {K:Ex→Env→AH→Prop}
theorem ZCS_of (z:ZC tp c e h K):ZCS tp c e h K:=fun S m hc e1 c' p=>zc_ok c c' p z
theorem ZCS_step (st:Stp e h e2 h2) (z:ZCS tp c e2 h2 K):ZCS tp c e h K:=fun S m hc e1 c' p=>by
  obtain ⟨S',c2,a2,p2⟩:=st S m hc e1 c' p
  exact (z S' m hc e1 c2 p2).imp fun _ _ _=>PostE.then a2
theorem ZCS_seq (z:ZC tp a e h (fun x e h=>nxt x (ZCS tp b e h K) (K x e h))):ZCS tp (.seq a b) e h K:=fun S m hc e1 c' p=>by
  rw [WC_seq]
  refine (zc_ok a c' p z).imp ?_
  rintro x e1' hc' ⟨e',h',S',m',c2,a',p',z⟩
  cases x with
  | nm=>exact (z S' m' hc' e1' c2 p').imp fun _ _ _=>PostE.then a'
  | ex j=>exact ⟨e',h',S',m',c2,a',p',z⟩
  | rt=>exact ⟨e',h',S',m',c2,a',p',z⟩
end
theorem Pf_goS {tp:TP} {f:Nat} {args:List V} {R:V} {tf:TF} (hf:tp.fn f=some tf) (hl:args.length≤tf.n) (z:Reps args→ZCS tp tf.body (env0 args) AH.emp (fun x e h=>Zend tf.res x e h (fun r h'=>Frz (fun _=>True) h' 0 r R))):Pf tp f args R:=by
  intro S m hc args1 c p
  refine Ev_of hf (by rw [← p.len];exact hl) ((z p.reps S m hc _ c (EP.args p)).imp ?_)
  rintro x e1 hc' ⟨e,h',S',m',c',a',pe,z⟩
  unfold Zend at z
  unfold Wend
  have key:(Wo (resOf e h' tf.res) fun v=>Frz (fun _=>True) h' 0 v R)→Wo (resOf e1 hc' tf.res) (fun r1=>∃ r h'' S' m',Cfg S' m' h'' hc'∧Adv S m AH.emp hc S' m' h'' hc'∧PR S' m' hc'.get h''.next r r1∧r=R∧h''=AH.emp):=by
    rintro ⟨v,hv,fz⟩
    obtain ⟨v1,h1,h2⟩:=res_PR c' pe hv
    refine ⟨v1,h1,R,AH.emp,SP S' m' h' (fun _=>True),m',Cfg.emp (SP.low c') c'.bnd m',⟨fun a h=>.inl (a'.sub a h), ?_,a'.map,Nat.le_refl _,a'.next1,rfl,a'.lim1,a'.frame,fun i hi=>by simp [AH.live,AH.emp] at hi⟩,Frz.ok c' fz h2,rfl,rfl⟩
    rintro a (ha | ⟨i,_,hi,rfl⟩)
    · exact a'.new a ha
    · rcases a'.liv i hi with ⟨q1,q2⟩ | q1
      · exact absurd q1 (Nat.not_lt_zero _)
      · exact .inr (.inl q1)
  cases x with
  | ex j=>exact z.elim
  | nm=>exact key z
  | rt=>exact key z
end Go.Ab.T
namespace Go.Ab.T
open Go Go.Ab
set_option maxHeartbeats 4000000
end Go.Ab.T
namespace Go.Ab.T
open Go Go.Ab
set_option maxHeartbeats 4000000
/-! Numbers as bytes, and back. Plain. -/
def IsB (b:List Int):Prop:=∀ z∈b,0≤z∧z<256
def accR:List Int→Int→Int
  | [],u=>u
  | c::l,u=>accR l (IntKind.wrap .u64 (u*256)+c)
def numOf (k0:Int) (l:List Int):Int:=if 128≤k0 then IntKind.wrap .i64 (0 - IntKind.wrap .i64 (accR l 0)) else IntKind.wrap .i64 (accR l 0)
def getR:List Int→Int×Nat
  | []=>(0,0)
  | k0::r=>if 8<(k0 % 128).toNat∨r.length<(k0 % 128).toNat then (0,0) else if putR [] (numOf k0 (r.take (k0 % 128).toNat))=k0::r.take (k0 % 128).toNat then (numOf k0 (r.take (k0 % 128).toNat),(k0 % 128).toNat+1) else (0,0)
theorem wrap_u64 (x:Int):IntKind.wrap .u64 x=x % 18446744073709551616:=by unfold IntKind.wrap;simp [IntKind.bits,IntKind.signed]
theorem wrap_u8 (x:Int):IntKind.wrap .u8 x=x % 256:=by unfold IntKind.wrap;simp [IntKind.bits,IntKind.signed]
theorem wrap_i64 (x:Int):IntKind.wrap .i64 x=(x+9223372036854775808) % 18446744073709551616 - 9223372036854775808:=by
  unfold IntKind.wrap;simp only [IntKind.bits,IntKind.signed];simp;split<;>omega
theorem accR_go:∀ (f:Nat) (u:Int) (x:List Int),0≤u→u<256 ^ f→u<18446744073709551616→accR (putGo f u x) 0=accR x u
  | 0,u,x,h0,h1,_=>by
    have:u=0:=by simp at h1;omega
    rw [putGo,this]
  | f+1,u,x,h0,h1,h2=>by
    rw [putGo]
    split
    · rename_i hc
      have hd:u.fdiv 256=u / 256:=Int.fdiv_eq_ediv_of_nonneg _ (by omega)
      have hp:(256:Int) ^ (f+1)=256 ^ f*256:=Int.pow_succ ..
      rw [hp] at h1
      rw [hd,accR_go f _ _ (by omega) (by omega) (by omega),accR,wrap_u64,wrap_u8]
      congr 1
      omega
    · have:u=0:=by omega
      rw [this]
theorem putX_acc (n:Int):accR (putX n) 0=u0 n:=by
  have:=u0_bd n
  exact accR_go 8 _ _ this.1 (by omega) this.2
theorem putX_len (n:Int):(putX n).length≤8:=by
  have:=putGo_len 8 (u0 n) []
  simpa [putX] using this
theorem putGo_isB:∀ (f:Nat) (u:Int) (x:List Int),IsB x→IsB (putGo f u x)
  | 0,_,_,h=>h
  | f+1,u,x,h=>by
    rw [putGo]
    split
    · refine putGo_isB f _ _ (fun z hz=>?_)
      rcases List.mem_cons.1 hz with rfl | hz
      · rw [wrap_u8];omega
      · exact h z hz
    · exact h
theorem putX_isB (n:Int):IsB (putX n):=putGo_isB _ _ _ (fun z hz=>by cases hz)
def putK (n:Int):Int:=(if n<0 then 128 else 0)+(putX n).length
theorem putR_eq (B:List Int) (n:Int):putR B n=B++putK n::putX n:=by
  have:=putX_len n
  unfold putR putK
  rw [wrap_u8,wrap_u8,List.append_assoc]
  have e:((if n<0 then 128 else 0)+((putX n).length:Int) % 256) % 256=(if n<0 then 128 else 0)+((putX n).length:Int):=by
    by_cases h:n<0
    · rw [if_pos h];omega
    · rw [if_neg h];omega
  rw [e];rfl
theorem putK_bd (n:Int):(putK n % 128).toNat=(putX n).length∧(128≤putK n↔n<0):=by
  have:=putX_len n
  unfold putK
  by_cases h:n<0
  · rw [if_pos h];omega
  · rw [if_neg h];omega
theorem numOf_put {n:Int} (h0 : -9223372036854775808≤n) (h1:n<9223372036854775808):numOf (putK n) (putX n)=n:=by
  have hk:=(putK_bd n).2
  unfold numOf
  rw [putX_acc]
  unfold u0
  simp only [wrap_u64,wrap_i64]
  split<;>split<;>omega
theorem getR_put {n:Int} (h0 : -9223372036854775808≤n) (h1:n<9223372036854775808) (rest:List Int):getR (putR [] n++rest)=(n,(putR [] n).length):=by
  have hl:=putX_len n
  have hk:=(putK_bd n).1
  have ht:(putX n++rest).take (putX n).length=putX n:=List.take_left ..
  rw [putR_eq]
  simp only [List.nil_append,List.cons_append,getR,hk,ht,numOf_put h0 h1]
  rw [if_neg (by simp;omega),if_pos (by rw [putR_eq];rfl)]
  simp
theorem getR_some {b:List Int} (h:0<(getR b).2):b.take (getR b).2=putR [] (getR b).1∧(getR b).2≤b.length:=by
  unfold getR at *
  split at h
  · simp at h
  · split at h
    · simp at h
    · rename_i h2
      split at h
      · rename_i h3
        rw [if_neg h2,if_pos h3]
        simp only [List.take_succ_cons,List.length_cons]
        exact ⟨h3.symm,by omega⟩
      · simp at h
end Go.Ab.T
