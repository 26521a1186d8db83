/- Part of the proof that RunsTables returns true for every input of the second form's bound (no other condition). -/
import Derived.Laws.Pointers
import Derived.Laws.Build
import Derived.Laws.Tables
import Derived.Test.YtemddmfgjijcmaaAbA
set_option linter.all false
/- New rows, append, make, the conversions between texts and bytes. -/
namespace Go.Ab
open Go Go.RowKit
set_option linter.unusedVariables false
set_option linter.unusedSimpArgs false
set_option linter.constructorNameAsVariable false

section
variable {P : Program}

/-- Rows of one size, of cells. -/
def RowsOk (sz : Nat) (cs : List (List V)) : Prop := ∀ r ∈ cs, r.length = sz ∧ r.all V.isCell = true

theorem hc_of_flat {M : Mp} {h : AH} {k : Blk} {arr : Array Value} (hr : RowsOk k.sz k.cs) (hg : ∀ (i : Nat) (v : V), (flat k.cs)[i]? = some v → ∃ x, arr[i]? = some x ∧ VR M h v x) :
    ∀ (el : Nat) (r : List V), k.cs[el]? = some r → r.length = k.sz ∧ ∀ (j : Nat) (v : V), r[j]? = some v → v.isCell = true ∧ ∃ x, arr[el * k.sz + j]? = some x ∧ VR M h v x := by
  intro el r hel
  have hmem : r ∈ k.cs := List.mem_of_getElem? hel
  obtain ⟨h1, h2⟩ := hr r hmem
  refine ⟨h1, fun j v hj => ⟨List.all_eq_true.1 h2 v (List.mem_of_getElem? hj), ?_⟩⟩
  have hlt : j < k.sz := by rw [← h1]; exact (List.getElem?_eq_some_iff.1 hj).1
  exact hg _ v (by rw [flat_get (fun r hr' => (hr r hr').1) el j r hel hlt]; exact hj)

/-- A new row as a slice of it. -/
theorem new_slice {M : Mp} {B : Nat} {w : World} {h : AH} (hs : Sim M B w h) (hf : Full M h) (k : Blk) (arr : Array Value) (e : TypeId) (hr : RowsOk k.sz k.cs)
    (hg : ∀ (i : Nat) (v : V), (flat k.cs)[i]? = some v → ∃ x, arr[i]? = some x ∧ VR M h v x) (len cap rc : Nat) (hl : len ≤ rc) (hc : cap ≤ rc) (hn : rc * k.sz ≤ arr.size) :
    ∃ M', Done M B w h (.sl h.next 0 len cap) (h.alloc k) (.slice (some ⟨w.heap.size, 0, none⟩) len rc) (w.alloc (.cells arr e)) M' := by
  obtain ⟨h1, h2, h3, h4⟩ := Sim.alloc hs hf k arr e (hc_of_flat hr hg)
  refine ⟨_, ?_, h1, h2, h3, h4⟩
  refine .sl _ _ _ _ _ _ (Nat.lt_succ_self _) hl (fun _ => ⟨_, by simp [Mp.set]; rfl, fun _ => by simp, hc, fun _ => by simpa using hn⟩)
theorem new_var {M : Mp} {B : Nat} {w : World} {h : AH} (hs : Sim M B w h) (hf : Full M h) (z : List V) (x : Value) (t : TypeId) (hz : VRs M h z x.cells.toList) (hall : z.all V.isCell = true) :
    ∃ M', Done M B w h (.p h.next 0 0) (h.alloc ⟨z.length, [z]⟩) (.pointer (some ⟨w.heap.size, 0, none⟩)) (w.alloc (.cells x.cells t)) M' := by
  obtain ⟨h1, h2, h3, h4⟩ := Sim.alloc hs hf ⟨z.length, [z]⟩ x.cells t (hc_of_flat (k := ⟨z.length, [z]⟩) (fun r hr => by simp at hr; subst hr; exact ⟨rfl, hall⟩) (fun i v hv => by
    simp only [flat, List.flatten_cons, List.flatten_nil, List.append_nil] at hv
    obtain ⟨y, hy, hv'⟩ := hz.get i v hv
    exact ⟨y, by simpa using hy, hv'⟩))
  refine ⟨_, ?_, h1, h2, h3, h4⟩
  exact .p _ _ _ _ (Nat.lt_succ_self _) (fun _ => ⟨_, by simp [Mp.set]; rfl, by simp⟩)

theorem run_newVar (t : TypeId) (x : Value) (w : World) : (newVar t x).run P w = .ok ⟨w.heap.size, 0, none⟩ (w.alloc (.cells x.cells t)) := by
  simp [newVar, newRow]

/-! ### Elements that are read -/
theorem bytesV_ok (x : ByteArray) : RowsOk 1 (bytesV x) := by
  intro r hr
  simp only [bytesV, List.mem_map] at hr
  obtain ⟨c, _, rfl⟩ := hr
  exact ⟨rfl, rfl⟩
theorem flat_bytesV (x : ByteArray) : flat (bytesV x) = x.data.toList.map fun c => V.i .u8 (c.toNat : Int) := by
  simp only [flat, bytesV]
  generalize x.data.toList = l
  induction l with
  | nil => rfl
  | cons c l ih => simp [ih]
theorem VRs_bytes {M : Mp} {h : AH} (l : List UInt8) : VRs M h (l.map fun c => V.i .u8 (c.toNat : Int)) (l.map fun c => Value.int .u8 (c.toNat : Int)) := by
  induction l with
  | nil => exact .nil
  | cons c l ih => exact .cons _ _ _ _ (.i _ _) ih

theorem elems_sl {M : Mp} {B : Nat} {w : World} {h : AH} (hs : Sim M B w h) {id el len cap rc sz : Nat} {a : Addr} (hv : VR M h (.sl id el len cap) (.slice (some a) len rc)) {new : List (List V)} (he : elems sz h (.sl id el len cap) = some new) :
    new.length = len ∧ RowsOk sz new ∧ ∃ xs : List Value, VRs M h (flat new) xs ∧ xs.length = len * sz ∧ ∀ (j : Nat) (x : Value), xs[j]? = some x → w.cell? (a.add j) = some x := by
  simp only [elems] at he
  cases hk : h.get id with
  | none => simp [hk] at he
  | some k =>
    simp only [hk] at he
    split at he
    case isFalse => simp at he
    rename_i hcond
    obtain ⟨rfl, hle⟩ := hcond
    obtain rfl : (k.cs.drop el).take len = new := by simpa using he
    have hnl : ((k.cs.drop el).take len).length = len := by simp; omega
    cases hv with
    | sl _ _ _ _ _ _ hi hlr hm =>
      obtain ⟨m, hM, ha, hcr, hroom⟩ := hm (by simp [AH.live, hk])
      obtain ⟨_, hms, hcs⟩ := hs.cells id k m hk hM
      have hrows : ∀ (i : Nat) (r : List V), ((k.cs.drop el).take len)[i]? = some r → k.cs[el + i]? = some r ∧ i < len := by
        intro i r hr
        have hlt : i < len := by
          have := (List.getElem?_eq_some_iff.1 hr).1
          omega
        rw [List.getElem?_take, if_pos hlt, List.getElem?_drop] at hr
        exact ⟨hr, hlt⟩
      have hok : RowsOk k.sz ((k.cs.drop el).take len) := by
        intro r hr
        obtain ⟨i, hi⟩ := List.getElem?_of_mem hr
        obtain ⟨h1, _⟩ := hrows i r hi
        refine ⟨(hcs _ r h1).1, List.all_eq_true.2 fun v hv => ?_⟩
        obtain ⟨j, hj⟩ := List.getElem?_of_mem hv
        exact ((hcs _ r h1).2 j v hj).1
      refine ⟨hnl, hok, ?_⟩
      have hfl := flat_length (sz := k.sz) (fun r hr => (hok r hr).1)
      rw [hnl] at hfl
      by_cases h0 : len = 0
      · subst h0
        refine ⟨[], ?_, by simp, fun j x e => by simp at e⟩
        have : flat ((k.cs.drop el).take 0) = [] := by simp [flat]
        rw [this]; exact .nil
      · have hrc : 0 < rc := by omega
        rw [ha hrc]
        obtain ⟨xs, hxs, hxc⟩ := cells_list (M := M) (h := h) (w := w) (flat ((k.cs.drop el).take len)) m.b (m.o + el * m.sz) (fun i v hv => by
          obtain ⟨r, hr, hj, hpos⟩ := flat_split (fun r hr => (hok r hr).1) i v hv
          obtain ⟨hr', _⟩ := hrows _ r hr
          obtain ⟨_, x, hx, hvx⟩ := (hcs _ r hr').2 _ v hj
          refine ⟨x, ?_, hvx⟩
          have : m.o + el * m.sz + i = m.o + (el + i / k.sz) * m.sz + i % k.sz := by
            rw [hms, Nat.add_mul]
            have := Nat.div_add_mod i k.sz
            rw [Nat.mul_comm] at this
            omega
          rw [this]; exact hx)
        exact ⟨xs, hxs, by rw [← hxs.length]; exact hfl, hxc⟩

/-- What is appended: how many, and its cells. -/
theorem elems_run {M : Mp} {B : Nat} {w : World} {h : AH} (hs : Sim M B w h) {sz : Nat} {v : V} {y : Value} (hv : VR M h v y) {new : List (List V)} (he : elems sz h v = some new) :
    RowsOk sz new ∧ (Builtin.lenOf y).run P w = .ok new.length w ∧ ∃ xs : List Value, VRs M h (flat new) xs ∧ xs.length = new.length * sz ∧
      (Builtin.firstCells sz new.length y).run P w = .ok xs.toArray w ∧ (Builtin.firstCells sz new.length y).run P w.drew = .ok xs.toArray w.drew := by
  cases hv with
  | ns =>
    obtain rfl : [] = new := by simpa [elems] using he
    exact ⟨fun r hr => by simp at hr, by simp [Builtin.lenOf], [], .nil, by simp, by simp [Builtin.firstCells], by simp [Builtin.firstCells]⟩
  | s x =>
    simp only [elems] at he
    split at he
    · rename_i h1
      subst h1
      obtain rfl : bytesV x = new := by simpa using he
      have hl : (bytesV x).length = x.size := by simp [bytesV]
      refine ⟨bytesV_ok x, by simp [Builtin.lenOf, hl], x.data.toList.map (fun c => Value.int .u8 (c.toNat : Int)), ?_, by simp [hl], ?_, ?_⟩
      · rw [flat_bytesV]; exact VRs_bytes _
      · rw [hl]; simp only [Builtin.firstCells, Sem.run_pure]; congr 1; apply Array.ext'; simp
      · rw [hl]; simp only [Builtin.firstCells, Sem.run_pure]; congr 1; apply Array.ext'; simp
    · simp at he
  | sl id el len cap a rc hi hl hm =>
    obtain ⟨hnl, hok, xs, hxs, hxl, hxc⟩ := elems_sl hs (.sl id el len cap a rc hi hl hm) he
    refine ⟨hok, by simp [Builtin.lenOf, hnl], xs, hxs, by rw [hnl]; exact hxl, ?_, ?_⟩
    · exact run_firstCells_some (P := P) w sz new.length a len rc xs (by rw [hxl, hnl]) hxc
    · exact run_firstCells_some (P := P) w.drew sz new.length a len rc xs (by rw [hxl, hnl]) (by simpa using hxc)
  | _ => simp [elems] at he

/-! ### append -/
/-- What the conditions at append ask of its types. -/
structure AppT (P : Program) (t u e : TypeId) (i : TypeInfo) (sz : Nat) : Prop where
  ht : P.underlying t = some (.slice e)
  hu : (∃ e', P.underlying u = some (.slice e')) ∨ P.underlying u = some .string
  hi : P.info? e = some i
  hsz : i.size = sz
  pos : 0 < sz
  by1 : i.bytes ≤ 4096
  by0 : 0 < i.bytes

theorem run_app_room {t u e ty : TypeId} {i : TypeInfo} {sz : Nat} (T : AppT P t u e i sz) (base : Option Addr) (sLen sCap n : Nat) (y : Value) (xs : List Value) (w w' : World)
    (hl : (Builtin.lenOf y).run P w = .ok n w) (hc : (Builtin.firstCells sz n y).run P w = .ok xs.toArray w) (hroom : sLen + n ≤ sCap)
    (hst : match base with | some a => (storeCells (a.add (sLen * sz)) xs).run P w = .ok () w' | none => w' = w) :
    (Builtin.append_ #[t, u] ty #[.slice base sLen sCap, y]).run P w = .ok (.slice base (sLen + n) sCap) w' := by
  obtain ⟨ht, hu, hi, rfl, _, _, _⟩ := T
  cases base with
  | none =>
    subst hst
    rcases hu with ⟨e', hu⟩ | hu <;> simp [Builtin.append_, run_underlying ht, run_underlying hu, sizeOf, typeInfo, hi, hl, hc, hroom]
  | some a =>
    simp only at hst
    rcases hu with ⟨e', hu⟩ | hu <;> simp [Builtin.append_, run_underlying ht, run_underlying hu, sizeOf, typeInfo, hi, hl, hc, hroom, hst]

theorem run_app_grow {t u e ty : TypeId} {i : TypeInfo} {sz : Nat} (T : AppT P t u e i sz) (z : Value) (hz : i.zero = some z) (base : Option Addr) (sLen sCap n : Nat) (y : Value) (olds xs : List Value) (w : World)
    (hl : (Builtin.lenOf y).run P w = .ok n w) (ho : (Builtin.firstCells sz sLen (.slice base sLen sCap)).run P w.drew = .ok olds.toArray w.drew) (hc : (Builtin.firstCells sz n y).run P w.drew = .ok xs.toArray w.drew)
    (hg : sCap < sLen + n) (hbig : sLen + n < bigLen) :
    (Builtin.append_ #[t, u] ty #[.slice base sLen sCap, y]).run P w =
      .ok (.slice (some ⟨w.heap.size, 0, none⟩) (sLen + n) (grownCap w (sLen + n) sCap e))
        (w.drew.alloc (.cells (olds.toArray ++ xs.toArray ++ Builtin.zeroCells z.cells (grownCap w (sLen + n) sCap e - (sLen + n))) e)) := by
  obtain ⟨ht, hu, hi, rfl, _, h4096, _⟩ := T
  have hn : ¬ (sLen + n ≤ sCap) := by omega
  have h63' : ¬ (9223372036854775807 < ((sLen : Int) + (n : Int))) := by simp only [bigLen] at hbig; omega
  have hfit := nextslicecap_le hg
  have h48' : ¬ (281474976710656 < Builtin.nextslicecap (sLen + n) sCap * i.bytes) := by
    have := Nat.mul_le_mul hfit h4096
    simp only [bigLen] at hbig
    omega
  rcases hu with ⟨e', hu⟩ | hu
  · simp [Builtin.append_, run_underlying ht, run_underlying hu, sizeOf, typeInfo, zeroValue, hi, hz, hl, hn, h63', h48', Question.forced, ho, hc, newRow, grownCap]
    congr 2
    apply Array.ext'
    simp [List.append_assoc]
  · simp [Builtin.append_, run_underlying ht, run_underlying hu, sizeOf, typeInfo, zeroValue, hi, hz, hl, hn, h63', h48', Question.forced, ho, hc, newRow, grownCap]
    congr 2
    apply Array.ext'
    simp [List.append_assoc]

theorem Below.from_drew {B : Nat} {w w' : World} (h : Below B w.drew w') : Below B w w' := ⟨h.os, h.tape, h.output, h.size, h.block⟩

theorem app_sound {M : Mp} {B : Nat} {w : World} {h h' : AH} {t u e ty : TypeId} {i : TypeInfo} {sz : Nat} (T : AppT P t u e i sz) (z : Value) (hz : i.zero = some z) (hzc : z.cells.size = sz)
    (hs : Sim M B w h) (hf : Full M h) {x y v : V} {x' y' : Value} (hx : VR M h x x') (hy : VR M h y y') (ha : appV sz h x y = some (v, h')) :
    ∃ r w' M', (Builtin.append_ #[t, u] ty #[x', y']).run P w = .ok r w' ∧ Done M B w h v h' r w' M' := by
  simp only [appV, Option.bind_eq_some_iff] at ha
  obtain ⟨new, hnew, ha⟩ := ha
  obtain ⟨hok, hlen, xs, hxs, hxl, hc1, hc2⟩ := elems_run (P := P) hs hy hnew
  have hfl := flat_length (sz := sz) (fun r hr => (hok r hr).1)
  cases hx with
  | ns =>
    simp only at ha
    split at ha
    · rename_i h0
      subst h0
      simp at ha
      obtain ⟨rfl, rfl⟩ := ha
      exact ⟨_, w, M, run_app_room T none 0 0 0 y' xs w w hlen hc1 (by simp) rfl, Done.same hs hf .ns⟩
    · rename_i h0
      split at ha
      case isFalse => simp at ha
      rename_i hbig
      simp at ha
      obtain ⟨rfl, rfl⟩ := ha
      have hpos : 0 < new.length := by
        rcases Nat.eq_zero_or_pos new.length with h1 | h1
        · exact absurd (List.eq_nil_of_length_eq_zero h1) h0
        · exact h1
      have hrun := run_app_grow (ty := ty) T z hz none 0 0 new.length y' [] xs w hlen (by simp [Builtin.firstCells]) hc2 (by omega) (by omega)
      have hge := grownCap_ge w (0 + new.length) 0 e
      obtain ⟨M', hd⟩ := new_slice hs.drew hf ⟨sz, new⟩ (([] : List Value).toArray ++ xs.toArray ++ Builtin.zeroCells z.cells (grownCap w (0 + new.length) 0 e - (0 + new.length))) e hok (fun j v hv => by
        obtain ⟨x, hx, hvx⟩ := hxs.get j v hv
        refine ⟨x, ?_, hvx⟩
        have hlt : j < xs.length := (List.getElem?_eq_some_iff.1 hx).1
        simp [Array.getElem?_append, hlt]
        simpa [hlt] using hx) new.length new.length (grownCap w (0 + new.length) 0 e) (by omega) (by omega) (by
          simp only [Array.size_append, List.size_toArray, size_zeroCells, hxl, hzc, List.length_nil, Nat.zero_add]
          simp only [Nat.zero_add] at hge
          rw [← Nat.add_mul]
          apply Nat.mul_le_mul_right; omega)
      simp only [Nat.zero_add] at hrun hd ⊢
      exact ⟨_, _, M', hrun, ⟨hd.val, hd.sim, hd.full, hd.goes, Below.from_drew hd.below⟩⟩
  | sl id el len cap a rc hi hlr hm =>
    simp only at ha
    cases hk : h.get id with
    | none => simp [hk] at ha
    | some k =>
      simp only [hk] at ha
      split at ha
      case isFalse => simp at ha
      rename_i hcond
      obtain ⟨rfl, hlim, hle, hbig⟩ := hcond
      have hl : h.live id := by simp [AH.live, hk]
      obtain ⟨m, hM, haddr, hcr, hroom⟩ := hm hl
      obtain ⟨hown, hB⟩ := hs.from_ id m hl hM hlim
      have hroom := hroom hown
      obtain ⟨hmlt, hms, hcs⟩ := hs.cells id k m hk hM
      have hpos := T.pos
      have h1 := oneCells_of hxs (List.all_eq_true.2 fun v hv => by
        simp only [flat, List.mem_flatten] at hv
        obtain ⟨r, hr, hv⟩ := hv
        exact List.all_eq_true.1 (hok r hr).2 v hv)
      split at ha
      · -- room for sure
        rename_i hcap
        split at ha
        case isFalse => simp at ha
        rename_i hin
        simp at ha
        obtain ⟨rfl, rfl⟩ := ha
        have hnewget : ∀ (j : Nat) (r : List V), new[j]? = some r → r.length = k.sz := fun j r hr => (hok r (List.mem_of_getElem? hr)).1
        have hfit : m.o + (el + len) * k.sz + xs.length ≤ m.n := by
          rw [hxl]
          have h2 : (el + len + new.length) * k.sz ≤ (el + rc) * k.sz := Nat.mul_le_mul_right _ (by omega)
          rw [hms] at hroom
          simp only [Nat.add_mul] at h2 hroom ⊢
          omega
        obtain ⟨w', hrun, hsim, hfull, hgoes, hbelow⟩ := Sim.write (P := P) hs hf hk hM hlim (k' := ⟨k.sz, overE k.cs (el + len) new⟩) (m.o + (el + len) * k.sz) xs hfit h1 rfl (by
          intro q r hq
          rw [overE_get _ _ _ _ hin] at hq
          by_cases hq' : el + len ≤ q ∧ q < el + len + new.length
          · rw [if_pos hq'] at hq
            have hrl := hnewget _ r hq
            refine ⟨hrl, fun j v hj => ?_⟩
            have hjlt : j < k.sz := by rw [← hrl]; exact (List.getElem?_eq_some_iff.1 hj).1
            have hfg := flat_get (fun r hr => (hok r hr).1) (q - (el + len)) j r hq hjlt
            rw [hj] at hfg
            obtain ⟨x, hx, hvx⟩ := hxs.get _ v hfg
            refine ⟨List.all_eq_true.1 (hok r (List.mem_of_getElem? hq)).2 v (List.mem_of_getElem? hj), ?_⟩
            have e1 : q * m.sz = (el + len) * k.sz + (q - (el + len)) * k.sz := by rw [hms, ← Nat.add_mul]; congr 1; omega
            have hlt : (q - (el + len)) * k.sz + j < xs.length := (List.getElem?_eq_some_iff.1 hx).1
            rw [if_pos (by omega)]
            exact ⟨x, by rw [show m.o + q * m.sz + j - (m.o + (el + len) * k.sz) = (q - (el + len)) * k.sz + j by omega]; exact hx, hvx⟩
          · rw [if_neg hq'] at hq
            obtain ⟨hrl, hcell⟩ := hcs q r hq
            refine ⟨hrl, fun j v hj => ⟨(hcell j v hj).1, ?_⟩⟩
            have hjlt : j < k.sz := by rw [← hrl]; exact (List.getElem?_eq_some_iff.1 hj).1
            rw [if_neg]
            · exact ⟨r, hq, hj⟩
            · rw [hxl, hms]
              intro hcon
              apply hq'
              have c1 : (el + len) * k.sz < (q + 1) * k.sz := by rw [Nat.add_mul q]; omega
              have c2 : q * k.sz < (el + len + new.length) * k.sz := by rw [Nat.add_mul (el + len)]; omega
              have c1' := Nat.lt_of_mul_lt_mul_right c1
              have c2' := Nat.lt_of_mul_lt_mul_right c2
              omega)
        refine ⟨.slice (some a) (len + new.length) rc, w', M, ?_, ⟨?_, hsim, hfull, hgoes, hbelow⟩⟩
        · refine run_app_room T (some a) len rc new.length y' xs w w' hlen hc1 (by omega) ?_
          simp only
          by_cases hrc : 0 < rc
          · rw [haddr hrc, addr_add, show m.o + el * m.sz + len * k.sz = m.o + (el + len) * k.sz by rw [hms, Nat.add_mul]; omega]
            exact hrun
          · have : xs = [] := List.eq_nil_of_length_eq_zero (by rw [hxl]; have : new.length = 0 := by omega
                                                                rw [this]; simp)
            subst this
            simp only [storeCells, Sem.run_pure] at hrun ⊢
            exact hrun
        · exact .sl _ _ _ _ _ _ (by simpa [AH.put] using hi) (by omega) (fun _ => ⟨m, hM, haddr, hcr, fun _ => hroom⟩)
      · -- the old one is let go
        rename_i hcap
        simp at ha
        obtain ⟨rfl, rfl⟩ := ha
        obtain ⟨hks, hkf, hkg⟩ := Sim.kill hs hf id hlim
        have hkp := hkg.keeps
        have hdead : ¬ (h.kill id).live id := by simp [AH.live, AH.kill]
        have holdel : elems k.sz h (.sl id el len cap) = some ((k.cs.drop el).take len) := by simp [elems, hk, hle]
        obtain ⟨hol, hook, ys, hys, hyl, hyc⟩ := elems_sl hs (.sl id el len cap a rc hi hlr (fun _ => ⟨m, hM, haddr, hcr, fun _ => hroom⟩)) holdel
        have hrows : RowsOk k.sz ((k.cs.drop el).take len ++ new) := by
          intro r hr
          rcases List.mem_append.1 hr with h2 | h2
          · exact hook r h2
          · exact hok r h2
        have hflat : flat ((k.cs.drop el).take len ++ new) = flat ((k.cs.drop el).take len) ++ flat new := by simp [flat]
        have hall : VRs M (h.kill id) (flat ((k.cs.drop el).take len ++ new)) (ys ++ xs) := by
          rw [hflat]; exact (hys.append hxs).keep hkp
        by_cases hrc : len + new.length ≤ rc
        · -- in place
          have hrcpos : 0 < rc := by
            rcases Nat.eq_zero_or_pos rc with h0 | h0
            · omega
            · exact h0
          obtain ⟨arr, e2, fr, hblk, hn, hfr⟩ := hs.own id m hl hM hown
          have hfit : m.o + el * m.sz + len * k.sz + xs.length ≤ m.n := by
            rw [hxl]
            have h2 : (len + new.length) * k.sz ≤ rc * k.sz := Nat.mul_le_mul_right _ hrc
            rw [hms] at hroom ⊢
            simp only [Nat.add_mul] at h2
            omega
          have hrun := run_storeCells_fr P m.b (m.o + el * m.sz + len * k.sz) e2 fr xs 0 arr w hblk (by rw [hn]; exact hfr) (by rw [hn]; exact hfit) h1
          simp only [Nat.add_zero] at hrun
          have hsize : (arr.toList.take (m.o + el * m.sz + len * k.sz) ++ xs ++ arr.toList.drop (m.o + el * m.sz + len * k.sz + xs.length)).toArray.size = m.n := by
            simp; omega
          have hbw : Below B w (w.setRow m.b (arr.toList.take (m.o + el * m.sz + len * k.sz) ++ xs ++ arr.toList.drop (m.o + el * m.sz + len * k.sz + xs.length)).toArray) := below_setRow (Below.refl B w) hB _
          have hadd := Sim.add hks hkf ⟨k.sz, (k.cs.drop el).take len ++ new⟩ ⟨m.b, m.o + el * m.sz, m.n, k.sz, true⟩ _ e2 fr (w' := w.setRow m.b (arr.toList.take (m.o + el * m.sz + len * k.sz) ++ xs ++ arr.toList.drop (m.o + el * m.sz + len * k.sz + xs.length)).toArray)
            (by simp) (fun id' m' hl' hm' => setRow_other w m.b m'.b _ (fun he => by
              have hne : id' ≠ id := fun hh => hdead (hh ▸ hl')
              exact hs.apart id id' m m' hl (hkp.live id' (hks.fresh id' hl') hl') hM hm' (Ne.symm hne) hown he.symm))
            hB rfl (by simpa using hmlt) (fun id' m' hl' hm' he => by
              have hne : id' ≠ id := fun hh => hdead (hh ▸ hl')
              exact hs.apart id id' m m' hl (hkp.live id' (hks.fresh id' hl') hl') hM hm' (Ne.symm hne) hown he.symm)
            (setRow_heap w m.b arr _ e2 fr hblk) hsize hfr
            ⟨rfl, fun q r hq => by
              have hmem : r ∈ (k.cs.drop el).take len ++ new := List.mem_of_getElem? hq
              refine ⟨(hrows r hmem).1, fun j v hj => ⟨List.all_eq_true.1 (hrows r hmem).2 v (List.mem_of_getElem? hj), ?_⟩⟩
              have hjlt : j < k.sz := by rw [← (hrows r hmem).1]; exact (List.getElem?_eq_some_iff.1 hj).1
              have hfg := flat_get (fun r hr => (hrows r hr).1) q j r hq hjlt
              rw [hj] at hfg
              obtain ⟨x, hx, hvx⟩ := hall.get _ v hfg
              refine ⟨x, ?_, hvx⟩
              simp only
              rw [cell_setRow_same w m.b _ arr _ e2 fr hblk]
              have hg : ∀ (l : List Value) (i : Nat), l.toArray[i]? = l[i]? := fun l i => by simp
              rw [hg, splice_get _ _ _ _ (by simp; omega)]
              rw [List.getElem?_append, hyl] at hx
              by_cases hq1 : q * k.sz + j < len * k.sz
              · rw [if_pos hq1] at hx
                rw [if_pos (by omega)]
                have := hyc _ x hx
                rw [haddr hrcpos, addr_add] at this
                simp only [World.cell?, hblk] at this
                rw [show m.o + el * m.sz + q * k.sz + j = m.o + el * m.sz + (q * k.sz + j) by omega]
                simpa using this
              · rw [if_neg hq1] at hx
                have hlt : q * k.sz + j - len * k.sz < xs.length := (List.getElem?_eq_some_iff.1 hx).1
                rw [if_neg (by omega), if_pos (by omega)]
                rw [show m.o + el * m.sz + q * k.sz + j - (m.o + el * m.sz + len * k.sz) = q * k.sz + j - len * k.sz by omega]
                exact hx⟩ hbw
          refine ⟨.slice (some a) (len + new.length) rc, _, _, ?_, ⟨?_, hadd.1, hadd.2.1, hkg.trans hadd.2.2, hbw⟩⟩
          · refine run_app_room T (some a) len rc new.length y' xs w _ hlen hc1 hrc ?_
            simp only
            rw [haddr hrcpos, addr_add]
            exact hrun
          · refine .sl _ _ _ _ _ _ (Nat.lt_succ_self _) hrc (fun _ => ⟨_, by simp [Mp.set, AH.kill]; rfl, fun _ => ?_, hrc, fun _ => ?_⟩)
            · rw [haddr hrcpos]; simp
            · simp only [Nat.zero_mul, Nat.add_zero]
              rw [← hms]; exact hroom
        · -- a new row
          have hrun := run_app_grow (ty := ty) T z hz (some a) len rc new.length y' ys xs w hlen (run_firstCells_some (P := P) w.drew k.sz len a len rc ys hyl (by simpa using hyc)) hc2 (by omega) hbig
          have hge := grownCap_ge w (len + new.length) rc e
          obtain ⟨M', hd⟩ := new_slice hks.drew hkf ⟨k.sz, (k.cs.drop el).take len ++ new⟩ (ys.toArray ++ xs.toArray ++ Builtin.zeroCells z.cells (grownCap w (len + new.length) rc e - (len + new.length))) e hrows (fun j v hv => by
            obtain ⟨x, hx, hvx⟩ := hall.get j v hv
            refine ⟨x, ?_, hvx⟩
            have hlt : j < ys.length + xs.length := by have := (List.getElem?_eq_some_iff.1 hx).1; simpa using this
            rw [Array.getElem?_append]
            simp only [Array.size_append, List.size_toArray]
            rw [if_pos hlt]
            simpa using hx) (len + new.length) (len + new.length) (grownCap w (len + new.length) rc e) hge hge (by
              simp only [Array.size_append, List.size_toArray, size_zeroCells, hxl, hyl, hzc]
              rw [← Nat.add_mul, ← Nat.add_mul]
              apply Nat.mul_le_mul_right; omega)
          refine ⟨_, _, M', hrun, ⟨?_, hd.sim, hd.full, hkg.trans hd.goes, Below.from_drew hd.below⟩⟩
          exact hd.val
  | _ => simp at ha
end
end Go.Ab
/- Each operation but calls: what the abstract machine does the model's does. -/
namespace Go.Ab
open Go Go.RowKit
set_option linter.unusedVariables false
set_option linter.unusedSimpArgs false
set_option linter.constructorNameAsVariable false

section
variable {P : Program}

theorem unop_sound {op : UnOp} {v r : V} {x : Value} {M : Mp} {h : AH} (hv : VR M h v x) (hb : unV op v = some r) (w : World) : ∃ z, (Op.unary op x).run P w = .ok z w ∧ VR M h r z := by
  cases hv <;> cases op <;> simp [unV] at hb <;> subst hb
  · exact ⟨_, by simp [Op.unary], .b _⟩
  · exact ⟨_, by simp [Op.unary, Op.intArith], .i _ _⟩
  · exact ⟨_, by simp [Op.unary, Op.intBits], .i _ _⟩

theorem equal_sound' {M : Mp} {h : AH} {v u : V} {x y : Value} {r : Bool} {t : TypeId} {X Y : Operand} {ks : EK} (hv : VR M h v x) (hu : VR M h u y) (hk : eqKs P t X Y = some ks) (he : eqV ks v u = some r) (w : World) (n : Nat) (hn : 20 ≤ n) :
    (Op.equalIn (n + 1) t x y).run P w = .ok r w := by
  unfold eqKs at hk
  cases hd : P.underlying t with
  | none => simp [hd] at hk
  | some d =>
    simp only [hd] at hk
    cases d <;> simp at hk
    case bool => subst hk; cases hv <;> cases hu <;> simp [eqV] at he; simp only [Op.equalIn, Sem.run_bind, run_underlying hd, Result.andThen_ok]; simp [he]
    case pointer => subst hk; cases hv <;> cases hu <;> simp [eqV] at he <;> subst he <;> simp only [Op.equalIn, Sem.run_bind, run_underlying hd, Result.andThen_ok] <;> simp
    case slice => subst hk; cases hv <;> cases hu <;> simp [eqV] at he <;> subst he <;> simp only [Op.equalIn, Sem.run_bind, run_underlying hd, Result.andThen_ok] <;> simp
    case func => subst hk; cases hv <;> cases hu <;> simp [eqV] at he <;> subst he <;> simp only [Op.equalIn, Sem.run_bind, run_underlying hd, Result.andThen_ok] <;> simp
    case interface => obtain ⟨_, rfl⟩ := hk; cases hv <;> cases hu <;> simp [eqV] at he <;> subst he <;> simp only [Op.equalIn, Sem.run_bind, run_underlying hd, Result.andThen_ok] <;> simp
    all_goals
      obtain ⟨_, l, hl, rfl⟩ := hk
      cases hv <;> cases hu <;> simp [eqV] at he
      rename_i a a' pa c c' pc
      obtain ⟨g, hg, _⟩ := kindsT_agg hl
      have hgt : aggO P t = some true := by simp [aggO, hd]
      exact equalIn_plain (P := P) (M := M) (h := h) 20 (n + 1) t l a c _ _ r w (by omega) hl (by simp only [ValT, hgt]; exact ⟨a', rfl, pa⟩) (by simp only [ValT, hgt]; exact ⟨c', rfl, pc⟩) he
theorem equal_sound {M : Mp} {h : AH} {v u : V} {x y : Value} {r : Bool} {t : TypeId} {X Y : Operand} {ks : EK} (hv : VR M h v x) (hu : VR M h u y) (hk : eqKs P t X Y = some ks) (he : eqV ks v u = some r) (w : World) :
    (Op.equal t x y).run P w = .ok r w := equal_sound' hv hu hk he w 9999 (by omega)

theorem guard_sound {M : Mp} {h : AH} {v u : V} {x y : Value} {r : Bool} {t : TypeId} {X Y : Operand} {ks : EK} (op : BinOp) (hv : VR M h v x) (hu : VR M h u y) (hk : eqKs P t X Y = some ks) (he : eqV ks v u = some r) (w : World) :
    (eqGuard op t X Y x y).run P w = .ok () w := by
  by_cases hop : op = .eql ∨ op = .neq
  · cases ks with
    | agg ks =>
      have hgt : P.eqGuardType P.depth t = false := by
        unfold eqKs at hk
        split at hk <;> simp at hk
        · exact hk.1
        · exact hk.1
      cases hv <;> cases hu <;> simp [eqV] at he
      exact run_eqGuard_agg (P := P) w op t X Y _ _ hgt
    | ifc =>
      unfold eqKs at hk
      split at hk <;> simp at hk
      rcases hop with rfl | rfl <;> cases hv <;> cases hu <;> simp [eqV] at he <;> cases X <;> cases Y <;> simp at hk <;> simp [eqGuard]
    | _ => rcases hop with rfl | rfl <;> cases hv <;> cases hu <;> simp [eqV] at he <;> simp [eqGuard]
  · cases op <;> simp at hop <;> simp [eqGuard]

theorem eq_sound {M : Mp} {h : AH} {v u : V} {x y : Value} {r : Bool} {op : BinOp} {t : TypeId} {X Y : Operand} {ks : EK} (hop : op = .eql ∨ op = .neq) (hv : VR M h v x) (hu : VR M h u y) (hk : eqKs P t X Y = some ks) (he : eqV ks v u = some r) (w : World) :
    (do eqGuard op t X Y x y; binOp op t x y : Sem Value).run P w = .ok (.bool (if op == .neq then !r else r)) w := by
  have hg := guard_sound (P := P) op hv hu hk he w
  have heq := equal_sound (P := P) hv hu hk he w
  simp only [Sem.run_bind, hg, Result.andThen_ok]
  rcases hop with rfl | rfl
  · have : binOp .eql t x y = (do pure (.bool (← Op.equal t x y)) : Sem Value) := by cases ks <;> cases hv <;> cases hu <;> simp [eqV] at he <;> rfl
    rw [this]
    simp [heq]
  · have : binOp .neq t x y = (do pure (.bool (!(← Op.equal t x y))) : Sem Value) := by cases ks <;> cases hv <;> cases hu <;> simp [eqV] at he <;> rfl
    rw [this]
    simp [heq]

theorem min_sound {M : Mp} {h : AH} {v u r : V} {x y : Value} (hv : VR M h v x) (hu : VR M h u y) (hb : minV v u = some r) (w : World) : ∃ z, (Builtin.min2 x y).run P w = .ok z w ∧ VR M h r z := by
  cases hv <;> cases hu <;> simp [minV] at hb
  obtain ⟨rfl, rfl⟩ := hb
  exact ⟨_, by simp [Builtin.min2], .i _ _⟩
theorem max_sound {M : Mp} {h : AH} {v u r : V} {x y : Value} (hv : VR M h v x) (hu : VR M h u y) (hb : maxV v u = some r) (w : World) : ∃ z, (Builtin.max2 x y).run P w = .ok z w ∧ VR M h r z := by
  cases hv <;> cases hu <;> simp [maxV] at hb
  obtain ⟨rfl, rfl⟩ := hb
  exact ⟨_, by simp [Builtin.max2], .i _ _⟩
theorem fold_sound {M : Mp} {h : AH} {f : V → V → Option V} {g : Value → Value → Sem Value} (hfg : ∀ {v u r : V} {x y : Value}, VR M h v x → VR M h u y → f v u = some r → ∀ w : World, ∃ z, (g x y).run P w = .ok z w ∧ VR M h r z) :
    ∀ {l : List V} {l' : List Value} {v r : V} {x : Value}, VR M h v x → VRs M h l l' → foldV f v l = some r → ∀ w : World, ∃ z, (l'.foldlM g x).run P w = .ok z w ∧ VR M h r z
  | _, _, v, r, x, hv, .nil, he, w => by simp [foldV] at he; subst he; exact ⟨x, by simp, hv⟩
  | _, _, v, r, x, hv, .cons u y l l' p q, he, w => by
    simp only [foldV, Option.bind_eq_some_iff] at he
    obtain ⟨z, hz, he⟩ := he
    obtain ⟨z', hz', hvz⟩ := hfg hv p hz w
    obtain ⟨r', hr', hvr⟩ := fold_sound hfg hvz q he w
    exact ⟨r', by simp only [List.foldlM_cons, Sem.run_bind, hz', Result.andThen_ok]; exact hr', hvr⟩

theorem idx_sound {v : V} {x : Value} {M : Mp} {h : AH} {n j : Nat} (hv : VR M h v x) (he : idxOf v n = some j) : ∃ k, x = .int k (j : Int) ∧ j < n := by
  cases hv <;> simp [idxOf] at he
  rename_i k m
  obtain ⟨h1, h2⟩ := he
  exact ⟨k, by congr 1; omega, by omega⟩

theorem bnd_sound {v : V} {x : Value} {M : Mp} {h : AH} {d n j y : Nat} {c : BoundsCode} (hv : VR M h v x) (he : bndOf (some v) d n = some j) (hn : n ≤ y) (w : World) : (Instr.sliceBound x y c).run P w = .ok j w ∧ j ≤ n := by
  cases hv <;> simp [bndOf] at he
  rename_i k m
  obtain ⟨⟨h1, h2⟩, rfl⟩ := he
  refine ⟨?_, by omega⟩
  have : 0 ≤ m ∧ m ≤ (y : Int) := ⟨h1, by omega⟩
  simp [Instr.sliceBound, asIntOf, this]
end
end Go.Ab
/- Each operation but calls: what the abstract machine does the model's does: all of them together. -/
namespace Go.Ab
open Go Go.RowKit
set_option linter.unusedVariables false
set_option linter.unusedSimpArgs false
set_option linter.constructorNameAsVariable false

section
variable {P : Program}

def Runs (P : Program) (o : Oper) (a : Act) (w : World) (x : Value) (w' : World) : Prop :=
  (execOp a.eval o).run P w = .ok (.value x) w' ∨ ((execOp a.eval o).run P w = .ok .skip w' ∧ x = undef)

theorem guardB_some {x : Bool} {u : Unit} (h : guardB x = some u) : x = true := by
  cases x <;> simp [guardB] at h ⊢
theorem zcells_some {t : TypeId} {z : List V} (h : zcells P t = some z) (w : World) : ∃ x v, (zeroValue t).run P w = .ok x w ∧ (P.info? t).bind (·.zero) = some x ∧ toV x = some v ∧ v.cells = z := by
  simp only [zcells, Option.map_eq_some_iff] at h
  obtain ⟨v, hv, rfl⟩ := h
  have hv' := hv
  obtain ⟨x, hx, hxv⟩ := run_zeroValue hv w
  simp only [zeroOf, Option.bind_eq_some_iff] at hv'
  obtain ⟨x', ⟨i, hi, hx'⟩, hz'⟩ := hv'
  have : x = x' := by
    simp [zeroValue, typeInfo, hi, hx'] at hx
    exact hx.symm
  subst this
  exact ⟨x, v, hx, by simp [hi, hx'], hxv, rfl⟩
theorem VRs_cells_toV {M : Mp} {h : AH} {x : Value} {v : V} (e : toV x = some v) : VRs M h v.cells x.cells.toList := (toV_VR e).cells (toV_cells e)

theorem compXo_none {o : Option Operand} (h : compXo o = some none) : o = none := by
  cases o with
  | none => rfl
  | some x => simp [compXo] at h
theorem compXo_some {o : Option Operand} {x : X} (h : compXo o = some (some x)) : ∃ y, o = some y ∧ compX y = some x := by
  cases o with
  | none => simp [compXo] at h
  | some y => exact ⟨y, rfl, by simpa [compXo] using h⟩

theorem parts_of {M : Mp} {h : AH} {e : Env} {a : Act} (hE : EnvR M h e a) (place : Nat → Option (Nat × Nat)) : ∀ {ps : List (Nat × Operand)} {l : List (Nat × Nat × X)}, compPs place ps = some l →
    PartsR M h place (l.map fun q => (q.1, q.2.1, X.ev e q.2.2)) (ps.map fun q => (q.1, a.eval q.2))
  | [], l, hc => by simp [compPs] at hc; subst hc; exact .nil
  | (i, o) :: r, l, hc => by
    simp only [compPs, Option.bind_eq_some_iff, Option.map_eq_some_iff] at hc
    obtain ⟨q, hq, x, hx, l', hl, rfl⟩ := hc
    exact .cons _ _ _ _ _ _ _ hq (compX_VR hE hx) (parts_of hE place hl)
theorem elems_of {M : Mp} {h : AH} {e : Env} {a : Act} (hE : EnvR M h e a) : ∀ {ps : List (Nat × Operand)} {l : List (Nat × X)}, compEs ps = some l →
    ElemsR M h (l.map fun q => (q.1, X.ev e q.2)) (ps.map fun q => (q.1, a.eval q.2))
  | [], l, hc => by simp [compEs] at hc; subst hc; exact .nil
  | (i, o) :: r, l, hc => by
    simp only [compEs, Option.bind_eq_some_iff, Option.map_eq_some_iff] at hc
    obtain ⟨x, hx, l', hl, rfl⟩ := hc
    exact .cons _ _ _ _ _ (compX_VR hE hx) (elems_of hE hl)

theorem fillP_cells : ∀ {ps : List (Nat × Nat × V)} {r r' : List V}, fillP r ps = some r' → r.all V.isCell = true → r'.all V.isCell = true := by
  intro ps
  induction ps with
  | nil => intro r r' h1 h2; simp [fillP] at h1; subst h1; exact h2
  | cons p ps ih =>
    intro r r' h1 h2
    obtain ⟨off, n, v⟩ := p
    simp only [fillP] at h1
    split at h1
    · rename_i hc
      refine ih h1 ?_
      have : ∀ (cs r : List V) (i : Nat), cs.all V.isCell = true → r.all V.isCell = true → (over r i cs).all V.isCell = true := by
        intro cs
        induction cs with
        | nil => intro r i _ h; exact h
        | cons c cs ih2 =>
          intro r i h3 h4
          simp only [over]
          simp only [List.all_cons, Bool.and_eq_true] at h3
          refine ih2 _ _ h3.2 (List.all_eq_true.2 fun x hx => ?_)
          rcases List.mem_or_eq_of_mem_set hx with h5 | h5
          · exact List.all_eq_true.1 h4 x h5
          · subst h5; exact h3.1
      exact this _ _ _ hc.2.2 h2
    · simp at h1

/-- A bound of a cut, if there is one. -/
theorem bnd_opt {M : Mp} {h : AH} {e : Env} {a : Act} (hE : EnvR M h e a) {o : Option Operand} {x : Option X} (hc : compXo o = some x) {d n j : Nat} (he : bndOf (x.map (X.ev e)) d n = some j) :
    (x = none ∧ o = none ∧ j = d) ∨ ∃ y, o = some y ∧ (∀ (N : Nat), n ≤ N → ∀ (c : BoundsCode) (w : World), (Instr.sliceBound (a.eval y) N c).run P w = .ok j w) ∧ j ≤ n := by
  cases x with
  | none =>
    refine .inl ⟨rfl, compXo_none hc, ?_⟩
    simpa [bndOf] using he.symm
  | some x =>
    obtain ⟨y, rfl, hy⟩ := compXo_some hc
    have hv := compX_VR hE hy
    refine .inr ⟨y, rfl, fun N hN c w => (bnd_sound (P := P) hv he hN w).1, (bnd_sound (P := P) (c := .index) hv he (Nat.le_refl n) default).2⟩

/-- The three bounds of a cut. -/
theorem bounds_run {M : Mp} {h : AH} {e : Env} {a : Act} (hE : EnvR M h e a) {lo hi mx : Option Operand} {xlo xhi xmx : Option X} (h1 : compXo lo = some xlo) (h2 : compXo hi = some xhi) (h3 : compXo mx = some xmx)
    (len cap N m t l : Nat) (isSlice : Bool) (hN : cap ≤ N) (hm : bndOf (xmx.map (X.ev e)) cap cap = some m) (ht : bndOf (xhi.map (X.ev e)) len m = some t) (hl : bndOf (xlo.map (X.ev e)) 0 t = some l) (hx : xmx = none ∨ xhi ≠ none) (hle : len ≤ cap ∨ xhi ≠ none) (w : World) :
    ∃ m', (Instr.sliceBounds isSlice len N (lo.map a.eval) (hi.map a.eval) (mx.map a.eval)).run P w = .ok (l, t, m') w ∧ (m' = N ∧ xmx = none ∧ m = cap ∨ m' = m ∧ xmx ≠ none) ∧ l ≤ t ∧ t ≤ m ∧ m ≤ m' ∧ m' ≤ N := by
  have A := bnd_opt (P := P) hE h3 hm
  have C := bnd_opt (P := P) hE h2 ht
  have D := bnd_opt (P := P) hE h1 hl
  rcases A with ⟨rfl, rfl, rfl⟩ | ⟨y, rfl, hy, hym⟩
  · rcases C with ⟨rfl, rfl, rfl⟩ | ⟨z, rfl, hz, hzt⟩
    · have hle' : t ≤ m := by rcases hle with h | h <;> simp_all
      rcases D with ⟨rfl, rfl, rfl⟩ | ⟨u, rfl, hu, hul⟩
      · exact ⟨N, by simp [Instr.sliceBounds], .inl ⟨rfl, rfl, rfl⟩, by omega, by omega, by omega, by omega⟩
      · exact ⟨N, by simp [Instr.sliceBounds, hu t (Nat.le_refl _)], .inl ⟨rfl, rfl, rfl⟩, by omega, by omega, by omega, by omega⟩
    · rcases D with ⟨rfl, rfl, rfl⟩ | ⟨u, rfl, hu, hul⟩
      · exact ⟨N, by simp [Instr.sliceBounds, hz N hN], .inl ⟨rfl, rfl, rfl⟩, by omega, by omega, by omega, by omega⟩
      · exact ⟨N, by simp [Instr.sliceBounds, hz N hN, hu t (Nat.le_refl _)], .inl ⟨rfl, rfl, rfl⟩, by omega, by omega, by omega, by omega⟩
  · have hxm : xmx ≠ none := by
      intro hh; subst hh
      simp [compXo] at h3
    rcases C with ⟨rfl, rfl, rfl⟩ | ⟨z, rfl, hz, hzt⟩
    · rcases hx with hx | hx
      · exact absurd hx hxm
      · exact absurd rfl hx
    · rcases D with ⟨rfl, rfl, rfl⟩ | ⟨u, rfl, hu, hul⟩
      · exact ⟨m, by simp [Instr.sliceBounds, hy N hN, hz m (Nat.le_refl _)], .inr ⟨rfl, hxm⟩, by omega, by omega, by omega, by omega⟩
      · exact ⟨m, by simp [Instr.sliceBounds, hy N hN, hz m (Nat.le_refl _), hu t (Nat.le_refl _)], .inr ⟨rfl, hxm⟩, by omega, by omega, by omega, by omega⟩

theorem forIn_bytes : ∀ {l : List (List V)} {r : List UInt8} {M : Mp} {h : AH} {xs : List Value}, bytesOf? l = some r → VRs M h (flat l) xs → ∃ ns : List Int, xs = ns.map (Value.int .u8) ∧ r = ns.map fun n => UInt8.ofNat n.toNat
  | [], r, M, h, xs, he, hv => by
    simp [bytesOf?] at he; subst he
    have : flat ([] : List (List V)) = [] := rfl
    rw [this] at hv
    cases hv
    exact ⟨[], rfl, rfl⟩
  | row :: l, r, M, h, xs, he, hv => by
    cases row with
    | nil => simp [bytesOf?] at he
    | cons c row =>
      cases row with
      | cons d row => cases c <;> simp [bytesOf?] at he
      | nil =>
        cases c <;> try (simp [bytesOf?] at he; done)
        rename_i k n
        cases k <;> try (simp [bytesOf?] at he; done)
        simp [bytesOf?] at he
        obtain ⟨r', hr', rfl⟩ := he
        have hfl : flat ([V.i .u8 n] :: l) = V.i .u8 n :: flat l := by simp [flat]
        rw [hfl] at hv
        cases hv with
        | cons _ x _ xs' hx hrest =>
          cases hx
          obtain ⟨ns, rfl, rfl⟩ := forIn_bytes hr' hrest
          exact ⟨n :: ns, rfl, rfl⟩
theorem push_fold (ns : List Int) : ∀ (b : ByteArray), ns.foldl (fun r n => r.push (UInt8.ofNat n.toNat)) b = ⟨b.data ++ (ns.map fun n => UInt8.ofNat n.toNat).toArray⟩ := by
  induction ns with
  | nil => intro b; simp
  | cons n ns ih =>
    intro b
    simp only [List.foldl_cons, ih]
    congr 1
    apply Array.ext'
    simp [ByteArray.push]
end
end Go.Ab
/- Each operation but calls: what the abstract machine does the model's does. -/
namespace Go.Ab
open Go Go.RowKit
set_option linter.unusedVariables false
set_option linter.unusedSimpArgs false
set_option linter.constructorNameAsVariable false

section
variable {P : Program}
variable {M : Mp} {B : Nat} {w : World} {h h' : AH} {e : Env} {a : Act} {v : V} {o : Oper} {r : O}

/-- One step, done. -/
def StepOk (P : Program) (M : Mp) (B : Nat) (w : World) (h : AH) (a : Act) (o : Oper) (v : V) (h' : AH) : Prop :=
  ∃ x w' M', Runs P o a w x w' ∧ Done M B w h v h' x w' M'
theorem StepOk.same {x : Value} (hs : Sim M B w h) (hf : Full M h) (hv : VR M h v x) (hr : (execOp a.eval o).run P w = .ok (.value x) w) : StepOk P M B w h a o v h := ⟨x, w, M, .inl hr, Done.same hs hf hv⟩

section
variable (hE : EnvR M h e a) (hs : Sim M B w h) (hf : Full M h)
include hE hs hf

theorem op_move {x : Operand} (ho : o.op = .move x ∨ o.op = .assign x) {y : X} (hc : compX x = some y) (hd : doOp (.mv y) (X.ev e) h = some (v, h')) : StepOk P M B w h a o v h' := by
  simp [doOp] at hd
  obtain ⟨rfl, rfl⟩ := hd
  exact StepOk.same hs hf (compX_VR hE hc) (by rcases ho with ho | ho <;> simp [execOp, ho])

theorem op_pick {c x y : Operand} (ho : o.op = .pick c x y) (hc : compOp P o = some r) (hd : doOp r (X.ev e) h = some (v, h')) : StepOk P M B w h a o v h' := by
  simp only [compOp, ho, Option.bind_eq_bind, Option.bind_eq_some_iff, Option.pure_def, Option.some.injEq] at hc
  obtain ⟨c', hc', x', hx', y', hy', rfl⟩ := hc
  have vc := compX_VR hE hc'
  simp only [doOp] at hd
  split at hd
  · rename_i b hb
    rw [hb] at vc
    cases hce : a.eval c <;> rw [hce] at vc <;> cases vc
    simp at hd
    obtain ⟨rfl, rfl⟩ := hd
    cases b
    · exact StepOk.same hs hf (compX_VR hE hy') (by simp [execOp, ho, hce, asBool])
    · exact StepOk.same hs hf (compX_VR hE hx') (by simp [execOp, ho, hce, asBool])
  · simp at hd

theorem op_alloc {t : TypeId} (ho : o.op = .alloc t) (hc : compOp P o = some r) (hd : doOp r (X.ev e) h = some (v, h')) : StepOk P M B w h a o v h' := by
  simp only [compOp, ho, Option.map_eq_some_iff] at hc
  obtain ⟨z, hz, rfl⟩ := hc
  obtain ⟨zx, zv, hzr, _, hzv, rfl⟩ := zcells_some hz w
  simp [doOp] at hd
  obtain ⟨rfl, rfl⟩ := hd
  obtain ⟨M', hd⟩ := new_var hs hf zv.cells zx t (VRs_cells_toV hzv) (toV_cells hzv)
  exact ⟨_, _, M', .inl (by simp [execOp, ho, Instr.alloc, hzr, run_newVar]), hd⟩

theorem op_box {t : TypeId} {x : Operand} (ho : o.op = .box t x) (hc : compOp P o = some r) (hd : doOp r (X.ev e) h = some (v, h')) : StepOk P M B w h a o v h' := by
  simp only [compOp, ho, Option.map_eq_some_iff] at hc
  obtain ⟨y, hy, rfl⟩ := hc
  simp only [doOp] at hd
  split at hd
  · rename_i hall
    simp at hd
    obtain ⟨rfl, rfl⟩ := hd
    obtain ⟨M', hd⟩ := new_var hs hf _ (a.eval x) t ((compX_VR hE hy).cells hall) hall
    exact ⟨_, _, M', .inl (by simp [execOp, ho, Instr.box, run_newVar]), hd⟩
  · simp at hd

theorem op_build {t : TypeId} {ps : Array (Nat × Operand)} (ho : o.op = .build t ps) (hc : compOp P o = some r) (hd : doOp r (X.ev e) h = some (v, h')) : StepOk P M B w h a o v h' := by
  simp only [compOp, ho, Option.bind_eq_bind, Option.bind_eq_some_iff] at hc
  obtain ⟨z, hz, hc⟩ := hc
  obtain ⟨zx, zv, hzr, hzi, hzv, rfl⟩ := zcells_some hz w
  have hzV : VRs M h zv.cells zx.cells.toList := VRs_cells_toV hzv
  split at hc
  · rename_i fs hu
    simp only [Option.bind_eq_some_iff, Option.pure_def, Option.some.injEq] at hc
    obtain ⟨pl, hpl, l, hl, rfl⟩ := hc
    simp only [doOp, Option.map_eq_some_iff, Prod.mk.injEq] at hd
    obtain ⟨r', hr', rfl, rfl⟩ := hd
    obtain ⟨arr', ha, hva⟩ := fill_sound _ _ zx.cells (parts_of hE _ hl) hzV hr'
    refine StepOk.same hs hf (.agg _ _ hva) ?_
    have hp := run_places (P := P) w fs.toList pl hpl
    have hm : ps.toList.map (fun q => (q.1, a.eval q.2)) = (ps.map fun q => (q.1, a.eval q.2)).toList := by simp
    have ha' : Instr.fill (fun i => pl.toArray[i]?) zx.cells (ps.toList.map fun q => (q.1, a.eval q.2)) = some arr' := by simpa using ha
    simp [execOp, ho, Instr.build, hzr, run_underlying hu, Array.mapM_eq_mapM_toList, hp]
    rw [ha]
    simp
  · rename_i n t' hu
    simp only [Option.bind_eq_some_iff, Option.pure_def, Option.some.injEq] at hc
    obtain ⟨s, hsz, l, hl, rfl⟩ := hc
    simp only [doOp, Option.map_eq_some_iff, Prod.mk.injEq] at hd
    obtain ⟨r', hr', rfl, rfl⟩ := hd
    obtain ⟨arr', ha, hva⟩ := fill_sound _ _ zx.cells (parts_of hE _ hl) hzV hr'
    refine StepOk.same hs hf (.agg _ _ hva) ?_
    simp [execOp, ho, Instr.build, hzr, run_underlying hu, run_sizeOf hsz]
    rw [ha]
    simp
  · simp at hc

omit hE hs hf in
theorem replicate_rows {n : Nat} {z : List V} (hz : z.all V.isCell = true) : RowsOk z.length (List.replicate n z) := fun r hr => by
  obtain ⟨_, rfl⟩ := List.mem_replicate.1 hr
  exact ⟨rfl, hz⟩

omit hE hs hf in
/-- Zero elements in a row, as the model lays them. -/
theorem made_VRs {zx : Value} {z : List V} (hz : VRs M h z zx.cells.toList) (n : Nat) : VRs M h (flat (List.replicate n z)) (madeCells zx.cells (n * z.length)).toList := by
  have hl : z.length = zx.cells.size := by simpa using hz.length
  have hrow : ∀ r ∈ List.replicate n z, r.length = z.length := fun r hr => by obtain ⟨_, rfl⟩ := List.mem_replicate.1 hr; rfl
  have hfl := flat_length hrow
  refine VRs_flat (by rw [hfl]; simp [size_madeCells]) (fun j v hv => ?_)
  obtain ⟨r, hr, hj, hpos⟩ := flat_split hrow j v hv
  have hr' : r = z := by
    have := List.mem_of_getElem? hr
    exact (List.mem_replicate.1 this).2
  subst hr'
  obtain ⟨x, hx, hvx⟩ := hz.get _ v hj
  refine ⟨x, ?_, hvx⟩
  have hjl : j < n * r.length := by
    have := (List.getElem?_eq_some_iff.1 hv).1
    rw [hfl] at this
    simpa using this
  have hx' : zx.cells[j % zx.cells.size]? = some x := by rw [← hl]; simpa using hx
  have hx'' : zx.cells[j % zx.cells.size]! = x := by
    rw [Array.getElem!_eq_getD, Array.getD_eq_getD_getElem?, hx']; rfl
  simp [madeCells, hjl, hx'']

theorem op_bsl {t : TypeId} {n : Nat} {ps : Array (Nat × Operand)} (ho : o.op = .buildSlice t n ps) (hc : compOp P o = some r) (hd : doOp r (X.ev e) h = some (v, h')) : StepOk P M B w h a o v h' := by
  simp only [compOp, ho, Option.bind_eq_bind] at hc
  split at hc
  case h_2 => simp at hc
  rename_i t' hu
  simp only [Option.bind_eq_some_iff, Option.pure_def, Option.some.injEq] at hc
  obtain ⟨s, hsz, u1, hg1, z, hz, u2, hg2, l, hl, rfl⟩ := hc
  have hg1 := guardB_some hg1
  have hg2 := guardB_some hg2
  simp only [Bool.and_eq_true, decide_eq_true_eq, beq_iff_eq] at hg1 hg2
  obtain ⟨zx, zv, hzr, hzi, hzv, rfl⟩ := zcells_some hz w
  have hzV : VRs M h zv.cells zx.cells.toList := VRs_cells_toV hzv
  simp only [doOp, Option.map_eq_some_iff, Prod.mk.injEq] at hd
  obtain ⟨cs, hcs, rfl, rfl⟩ := hd
  have hrows0 := replicate_rows (n := n) (toV_cells hzv)
  rw [hg2] at hrows0
  have hmade := made_VRs (M := M) (h := h) hzV n
  obtain ⟨arr', ha, hva⟩ := fillE_sound (List.replicate n zv.cells) cs (madeCells zx.cells (n * zv.cells.length)) (elems_of hE hl) hrows0 hmade hcs
  obtain ⟨hrows, hlen⟩ := fillE_cells hrows0 hcs
  have hfl := flat_length (sz := s) (fun r hr => (hrows r hr).1)
  have hal : arr'.size = n * s := by
    have := hva.length
    rw [hfl, hlen] at this
    simpa using this.symm
  obtain ⟨M', hd⟩ := new_slice hs hf ⟨s, cs⟩ arr' t' hrows (fun i v hv => by
    obtain ⟨x, hx, hvx⟩ := hva.get i v hv
    exact ⟨x, by simpa using hx, hvx⟩) n n n (Nat.le_refl _) (Nat.le_refl _) (by rw [hal]; exact Nat.le_refl _)
  refine ⟨_, _, M', .inl ?_, hd⟩
  rw [hg2] at ha
  have hsz16 : ¬ (2 ^ 24 < n * s) := by omega
  by_cases h0 : n * s = 0
  · have hn0 : n = 0 := by
      rcases Nat.mul_eq_zero.1 h0 with h1 | h1 <;> omega
    subst hn0
    have hm0 : madeCells zx.cells (0 * s) = #[] := Array.eq_empty_of_size_eq_zero (by simp [madeCells])
    rw [hm0] at ha
    have hm1 : (Array.map (fun (x : Nat) => (default : Value)) (Array.range 0)) = #[] := Array.eq_empty_of_size_eq_zero (by simp)
    simp [execOp, ho, Instr.buildSlice, run_underlying hu, run_sizeOf hsz]
    rw [hm1, ha]
    simp [newRow]
  · simp only [madeCells] at ha
    simp [execOp, ho, Instr.buildSlice, run_underlying hu, run_sizeOf hsz, h0, hzr, newRow]
    rw [if_neg (by omega)]
    try simp [hzr]
    rw [ha]
    simp

theorem op_load {t : TypeId} {x : Operand} (ho : o.op = .load t x) (hc : compOp P o = some r) (hd : doOp r (X.ev e) h = some (v, h')) : StepOk P M B w h a o v h' := by
  simp only [compOp, ho, Option.bind_eq_bind, Option.bind_eq_some_iff, Option.pure_def, Option.some.injEq] at hc
  obtain ⟨s, hsz, g, hg, u1, hg1, y, hy, rfl⟩ := hc
  have hv := compX_VR hE hy
  simp only [doOp] at hd
  split at hd
  case h_2 => simp at hd
  rename_i id el off hp
  rw [hp] at hv
  simp only [Option.bind_eq_some_iff, Option.map_eq_some_iff, Prod.mk.injEq] at hd
  obtain ⟨k, hk, row, hrow, v', hcut, rfl, rfl⟩ := hd
  cases hav : a.eval x <;> rw [hav] at hv <;> cases hv
  rename_i ad hi hm
  obtain ⟨z, hz, hvz⟩ := load_VR (P := P) hs hf (.p id el off ad hi hm) hk hrow hcut hsz hg
  exact StepOk.same hs hf hvz (by simp [execOp, ho, hav, Instr.loadAt, Instr.sureAddr, hz])

theorem op_store {t : TypeId} {x y : Operand} (ho : o.op = .store t x y) (hc : compOp P o = some r) (hd : doOp r (X.ev e) h = some (v, h')) : StepOk P M B w h a o v h' := by
  simp only [compOp, ho, Option.bind_eq_bind, Option.bind_eq_some_iff, Option.pure_def, Option.some.injEq] at hc
  obtain ⟨s, hsz, x', hx', y', hy', rfl⟩ := hc
  have hv := compX_VR hE hx'
  have hu := compX_VR hE hy'
  simp only [doOp] at hd
  split at hd
  case h_2 => simp at hd
  rename_i id el off hp
  split at hd
  case isFalse => simp at hd
  rename_i hcond
  obtain ⟨hlim, hpos, hlen, hall⟩ := hcond
  rw [hp] at hv
  simp only [Option.bind_eq_some_iff] at hd
  obtain ⟨k, hk, row, hrow, hd⟩ := hd
  split at hd
  case isFalse => simp at hd
  rename_i hle
  simp at hd
  obtain ⟨rfl, rfl⟩ := hd
  cases hav : a.eval x <;> rw [hav] at hv <;> cases hv
  rename_i ad hi hm
  have hl : h.live id := by simp [AH.live, hk]
  obtain ⟨m, hM, rfl⟩ := hm hl
  obtain ⟨hmlt, hms, hcs⟩ := hs.cells id k m hk hM
  have hvc := hu.cells hall
  have hvl : (a.eval y).cells.size = s := by have := hvc.length; rw [hlen] at this; simpa using this.symm
  obtain ⟨hrl, hcell⟩ := hcs el row hrow
  have hown := (hs.from_ id m hl hM hlim).1
  obtain ⟨arr, e2, fr, hblk, hn, hfr⟩ := hs.own id m hl hM hown
  have hfit : m.o + el * m.sz + off + (a.eval y).cells.toList.length ≤ m.n := by
    simp only [Array.length_toList, hvl]
    obtain ⟨_, z, hz, _⟩ := hcell (off + s - 1) row[off + s - 1] (by simp)
    simp only [World.cell?, hblk] at hz
    have := (Array.getElem?_eq_some_iff.1 (by simpa using hz)).1
    omega
  obtain ⟨w', hrun, hsim, hfull, hgoes, hbelow⟩ := Sim.write (P := P) hs hf hk hM hlim (k' := ⟨k.sz, k.cs.set el (over row off (X.ev e y').cells)⟩) (m.o + el * m.sz + off) (a.eval y).cells.toList hfit (oneCells_of hvc hall) rfl (by
    intro q r hq
    rw [List.getElem?_set] at hq
    have hsl : (X.ev e y').cells.length = (a.eval y).cells.toList.length := hvc.length
    split at hq
    · rename_i hqe
      subst hqe
      split at hq
      case isFalse => simp at hq
      simp at hq
      subst hq
      refine ⟨by rw [over_length]; exact hrl, fun j v hj => ?_⟩
      rw [over_get _ _ _ _ (by omega)] at hj
      by_cases hin : off ≤ j ∧ j < off + (X.ev e y').cells.length
      · rw [if_pos hin] at hj
        obtain ⟨z, hz, hvz⟩ := hvc.get _ v hj
        refine ⟨List.all_eq_true.1 hall v (List.mem_of_getElem? hj), ?_⟩
        rw [if_pos (by omega)]
        exact ⟨z, by rw [show m.o + el * m.sz + j - (m.o + el * m.sz + off) = j - off by omega]; exact hz, hvz⟩
      · rw [if_neg hin] at hj
        refine ⟨(hcell j v hj).1, ?_⟩
        rw [if_neg (by omega)]
        exact ⟨row, hrow, hj⟩
    · rename_i hqe
      obtain ⟨hrl', hcell'⟩ := hcs q r hq
      refine ⟨hrl', fun j v hj => ⟨(hcell' j v hj).1, ?_⟩⟩
      have hjlt : j < k.sz := by rw [← hrl']; exact (List.getElem?_eq_some_iff.1 hj).1
      rw [if_neg]
      · exact ⟨r, hq, hj⟩
      · intro hcon
        apply hqe
        rw [hms] at hcon
        have hlt1 : el * k.sz < (q + 1) * k.sz := by rw [Nat.add_mul]; omega
        have hlt2 : q * k.sz < (el + 1) * k.sz := by rw [Nat.add_mul]; omega
        have := Nat.lt_of_mul_lt_mul_right hlt1
        have := Nat.lt_of_mul_lt_mul_right hlt2
        omega)
  refine ⟨undef, w', M, .inr ⟨?_, rfl⟩, ⟨.u _, hsim, hfull, hgoes, hbelow⟩⟩
  simp [execOp, ho, hav, Instr.storeAt, Instr.sureAddr, storeVar, run_sizeOf hsz, hvl, hrun]

theorem op_nck {x : Operand} (ho : o.op = .nilCheck x) (hc : compOp P o = some r) (hd : doOp r (X.ev e) h = some (v, h')) : StepOk P M B w h a o v h' := by
  simp only [compOp, ho, Option.map_eq_some_iff] at hc
  obtain ⟨y, hy, rfl⟩ := hc
  have hv := compX_VR hE hy
  simp only [doOp] at hd
  split at hd <;> simp at hd <;> obtain ⟨rfl, rfl⟩ := hd <;> rename_i hp <;> rw [hp] at hv <;> cases hav : a.eval x <;> rw [hav] at hv <;> first | (cases hv; done) | skip
  · exact StepOk.same hs hf hv (by cases hv; simp [execOp, ho, hav])
  · exact StepOk.same hs hf hv (by cases hv; simp [execOp, ho, hav])
  · exact StepOk.same hs hf hv (by cases hv; simp [execOp, ho, hav])

theorem op_bin {op : BinOp} {t ty : TypeId} {x y : Operand} (ho : o.op = .binOp op t x y ty) (hc : compOp P o = some r) (hd : doOp r (X.ev e) h = some (v, h')) : StepOk P M B w h a o v h' := by
  have plain : ∀ x' y', compX x = some x' → compX y = some y' → doOp (.bin op x' y') (X.ev e) h = some (v, h') → StepOk P M B w h a o v h' := by
    intro x' y' hx' hy' hd
    simp only [doOp, Option.map_eq_some_iff, Prod.mk.injEq] at hd
    obtain ⟨z, hz, rfl, rfl⟩ := hd
    obtain ⟨zz, hrun, hvz⟩ := bin_sound (P := P) (compX_VR hE hx') (compX_VR hE hy') hz t w x y
    exact StepOk.same hs hf hvz (by simp only [execOp, ho, Sem.run_bind]; simp only [Sem.run_bind] at hrun; rw [hrun]; rfl)
  have eqs : (op = .eql ∨ op = .neq) → ∀ x' y' k, compX x = some x' → compX y = some y' → eqKs P t x y = some k → doOp (.eq (op == .neq) k x' y') (X.ev e) h = some (v, h') → StepOk P M B w h a o v h' := by
    intro hop x' y' k hx' hy' hk hd
    simp only [doOp, Option.map_eq_some_iff, Prod.mk.injEq] at hd
    obtain ⟨z, hz, rfl, rfl⟩ := hd
    have hrun := eq_sound (P := P) hop (compX_VR hE hx') (compX_VR hE hy') hk hz w
    exact StepOk.same hs hf (.b _) (by simp only [execOp, ho, Sem.run_bind]; simp only [Sem.run_bind] at hrun; rw [hrun]; rfl)
  simp only [compOp, ho, Option.bind_eq_bind, Option.bind_eq_some_iff, Option.pure_def] at hc
  obtain ⟨x', hx', y', hy', hc⟩ := hc
  have two : ∀ hop : op = .eql ∨ op = .neq, (match P.underlying t with | some (.int _) | some .string => some (O.bin op x' y') | _ => (eqKs P t x y).bind fun k => some (.eq (op == .neq) k x' y')) = some r → StepOk P M B w h a o v h' := by
    intro hop hc
    split at hc
    · simp at hc; subst hc; exact plain x' y' hx' hy' hd
    · simp at hc; subst hc; exact plain x' y' hx' hy' hd
    · simp only [Option.bind_eq_some_iff, Option.some.injEq] at hc
      obtain ⟨k, hk, rfl⟩ := hc
      exact eqs hop x' y' k hx' hy' hk hd
  split at hc
  · exact two (.inl rfl) hc
  · exact two (.inr rfl) hc
  · simp at hc; subst hc; exact plain x' y' hx' hy' hd

theorem op_un {op : UnOp} {t : TypeId} {x : Operand} (ho : o.op = .unOp op t x) (hc : compOp P o = some r) (hd : doOp r (X.ev e) h = some (v, h')) : StepOk P M B w h a o v h' := by
  simp only [compOp, ho, Option.map_eq_some_iff] at hc
  obtain ⟨y, hy, rfl⟩ := hc
  simp only [doOp, Option.map_eq_some_iff, Prod.mk.injEq] at hd
  obtain ⟨z, hz, rfl, rfl⟩ := hd
  obtain ⟨zz, hrun, hvz⟩ := unop_sound (P := P) (compX_VR hE hy) hz w
  exact StepOk.same hs hf hvz (by simp [execOp, ho, hrun])

theorem op_mkif {t : TypeId} {x : Operand} (ho : o.op = .makeInterface t x) (hc : compOp P o = some r) (hd : doOp r (X.ev e) h = some (v, h')) : StepOk P M B w h a o v h' := by
  simp only [compOp, ho] at hc
  split at hc
  · simp at hc
  · simp at hc
  · rename_i hn1 hn2
    simp only [Option.map_eq_some_iff] at hc
    obtain ⟨y, hy, rfl⟩ := hc
    simp [doOp] at hd
    obtain ⟨rfl, rfl⟩ := hd
    refine StepOk.same hs hf (.ifc t _ _ (compX_VR hE hy)) ?_
    cases hu : P.underlying t with
    | none => exact absurd hu hn2
    | some d =>
      have : Program.concrete P t = true := by
        unfold Program.concrete
        rw [hu]
        cases d <;> first | rfl | (rename_i ms; exact absurd hu (hn1 ms))
      simp [execOp, ho, run_makeInterface (P := P) w t (a.eval x) this]

theorem op_mkfn {fn : Fn} {x y : Array Operand} (ho : o.op = .makeFunc fn x y) (hc : compOp P o = some r) (hd : doOp r (X.ev e) h = some (v, h')) : StepOk P M B w h a o v h' := by
  simp only [compOp, ho, Option.bind_eq_bind, Option.bind_eq_some_iff, Option.pure_def, Option.some.injEq] at hc
  obtain ⟨x', hx', y', hy', rfl⟩ := hc
  simp [doOp] at hd
  obtain ⟨rfl, rfl⟩ := hd
  exact StepOk.same hs hf (.f fn _ _ (x.map a.eval) (y.map a.eval) (by simpa using compXs_VR hE hx') (by simpa using compXs_VR hE hy')) (by simp [execOp, ho, Instr.makeFunc])

theorem op_ext {x : Operand} {i : Nat} (ho : o.op = .extract x i) (hc : compOp P o = some r) (hd : doOp r (X.ev e) h = some (v, h')) : StepOk P M B w h a o v h' := by
  simp only [compOp, ho, Option.bind_eq_bind, Option.bind_eq_some_iff, Option.pure_def, Option.some.injEq] at hc
  obtain ⟨y, hy, rfl⟩ := hc
  have hv := compX_VR hE hy
  simp only [doOp] at hd
  split at hd
  case h_2 => simp at hd
  rename_i l hl
  rw [hl] at hv
  simp only [Option.map_eq_some_iff, Prod.mk.injEq] at hd
  obtain ⟨z, hz, rfl, rfl⟩ := hd
  cases hav : a.eval x <;> rw [hav] at hv <;> cases hv
  rename_i l' hl'
  obtain ⟨zz, hzz, hvz⟩ := hl'.get i z hz
  have : l'[i]? = some zz := by simpa using hzz
  exact StepOk.same hs hf hvz (by simp [execOp, ho, hav, Instr.extract, this])
end
end
end Go.Ab
/- Each operation but calls, the rest: conversions, cuts, places of fields and elements, make, the builtins. -/
namespace Go.Ab
open Go Go.RowKit
set_option linter.unusedVariables false
set_option linter.unusedSimpArgs false
set_option linter.constructorNameAsVariable false

section
variable {P : Program}
variable {M : Mp} {B : Nat} {w : World} {h h' : AH} {e : Env} {a : Act} {v : V} {o : Oper} {r : O}
theorem VR.sl_inv {id el len cap : Nat} {x : Value} (hv : VR M h (.sl id el len cap) x) : ∃ ad rc, x = .slice (some ad) len rc ∧ id < h.next ∧ len ≤ rc ∧
    (h.live id → ∃ m, M id = some m ∧ (0 < rc → ad = ⟨m.b, m.o + el * m.sz, none⟩) ∧ cap ≤ rc ∧ (m.own = true → m.o + el * m.sz + rc * m.sz ≤ m.n)) := by
  cases hv with
  | sl _ _ _ _ ad rc hi hlr hm => exact ⟨ad, rc, rfl, hi, hlr, hm⟩

section
variable (hE : EnvR M h e a) (hs : Sim M B w h) (hf : Full M h)
include hE hs hf

theorem op_conv {s d : TypeId} {x : Operand} (ho : o.op = .convert s d x) (hc : compOp P o = some r) (hd : doOp r (X.ev e) h = some (v, h')) : StepOk P M B w h a o v h' := by
  simp only [compOp, ho] at hc
  split at hc
  · rename_i k k' hu hu'
    simp only [Option.map_eq_some_iff] at hc
    obtain ⟨y, hy, rfl⟩ := hc
    have hv := compX_VR hE hy
    simp only [doOp] at hd
    split at hd
    · rename_i k2 n hp
      simp at hd
      obtain ⟨rfl, rfl⟩ := hd
      rw [hp] at hv
      cases hav : a.eval x <;> rw [hav] at hv <;> cases hv
      exact StepOk.same hs hf (.i _ _) (by simp [execOp, ho, hav, convert, run_underlying hu, run_underlying hu', Conv.intToInt])
    · simp at hd
  · rename_i hu hu'
    simp only [Option.map_eq_some_iff] at hc
    obtain ⟨y, hy, rfl⟩ := hc
    have hv := compX_VR hE hy
    simp only [doOp] at hd
    split at hd
    · rename_i n hp
      rw [hp] at hv
      simp at hd
      obtain ⟨rfl, rfl⟩ := hd
      cases hav : a.eval x <;> rw [hav] at hv <;> cases hv
      exact StepOk.same hs hf (.s _) (by simp [execOp, ho, hav, convert, run_underlying hu, run_underlying hu'])
    · simp at hd
  · rename_i k hu hu'
    simp only [Option.map_eq_some_iff] at hc
    obtain ⟨y, hy, rfl⟩ := hc
    have hv := compX_VR hE hy
    simp only [doOp] at hd
    split at hd
    case h_2 => simp at hd
    rename_i k2 n hp
    simp at hd
    obtain ⟨rfl, rfl⟩ := hd
    rw [hp] at hv
    cases hav : a.eval x <;> rw [hav] at hv <;> cases hv
    exact StepOk.same hs hf (.s _) (by simp [execOp, ho, hav, convert, run_underlying hu, run_underlying hu', Conv.intToString])
  · rename_i e' hu hu'
    split at hc
    case h_2 => simp at hc
    rename_i he
    simp only [Option.map_eq_some_iff] at hc
    obtain ⟨y, hy, rfl⟩ := hc
    have hv := compX_VR hE hy
    simp only [doOp] at hd
    split at hd
    case h_2 => simp at hd
    rename_i b hp
    simp at hd
    obtain ⟨rfl, rfl⟩ := hd
    rw [hp] at hv
    cases hav : a.eval x <;> rw [hav] at hv <;> cases hv
    have hrun := Lib.run_convert_string_bytes (P := P) w s d e' b hu hu' he
    have hnew := Lib.bytesWorld_at_new w e' b
    have hsize := Lib.bytesWorld_size w e' b
    have hge := grownCap_ge w b.size 0 e'
    have hbw : Below B w (Lib.bytesWorld w e' b) := ⟨rfl, rfl, rfl, by rw [hsize]; omega, fun k hk => Lib.bytesWorld_at_old w e' b k (by have := hs.size; omega)⟩
    have hcs : (Lib.bytesCells w e' b).size = grownCap w b.size 0 e' := by
      simp [Lib.bytesCells]; omega
    have hadd := Sim.add hs hf ⟨1, bytesV b⟩ ⟨w.heap.size, 0, grownCap w b.size 0 e', 1, true⟩ (Lib.bytesCells w e' b) e' _ (w' := Lib.bytesWorld w e' b) (by rw [hsize]; omega)
      (fun id m hl hm => by
        obtain ⟨k, hk⟩ := Option.ne_none_iff_exists'.1 hl
        exact Lib.bytesWorld_at_old w e' b _ (hs.cells id k m hk hm).1)
      hs.size rfl (by rw [hsize]; simp) (fun id m hl hm => by
        obtain ⟨k, hk⟩ := Option.ne_none_iff_exists'.1 hl
        have := (hs.cells id k m hk hm).1
        simp only; omega) hnew hcs (fun i hi hcon => by simp only at hi; rw [hcs] at hcon; simp only at hcon; omega)
      ⟨rfl, fun el row hrow => by
        have hok := bytesV_ok b row (List.mem_of_getElem? hrow)
        refine ⟨hok.1, fun j u hj => ⟨List.all_eq_true.1 hok.2 u (List.mem_of_getElem? hj), ?_⟩⟩
        simp only [bytesV, List.getElem?_map, Option.map_eq_some_iff] at hrow
        obtain ⟨c, hc, rfl⟩ := hrow
        have hj0 : j = 0 := by
          have := (List.getElem?_eq_some_iff.1 hj).1
          simpa using this
        subst hj0
        simp at hj
        subst hj
        have hel : el < b.size := by
          have := (List.getElem?_eq_some_iff.1 hc).1
          simpa using this
        have hcell := Lib.bytesWorld_cell w e' b el hel
        refine ⟨_, by simpa using hcell, ?_⟩
        have : b.data[el]? = some c := by simpa using hc
        rw [this]; exact .i _ _⟩ hbw
    refine ⟨.slice (some ⟨w.heap.size, 0, none⟩) b.size (grownCap w b.size 0 e'), _, _, .inl ?_, ⟨?_, hadd.1, hadd.2.1, hadd.2.2, hbw⟩⟩
    · simp [execOp, ho, hav, hrun]
    · exact .sl _ _ _ _ _ _ (Nat.lt_succ_self _) hge (fun _ => ⟨_, by simp [Mp.set]; rfl, fun _ => by simp, hge, fun _ => by simp⟩)
  · rename_i e' hu hu'
    split at hc
    case h_2 => simp at hc
    rename_i he
    simp only [Option.map_eq_some_iff] at hc
    obtain ⟨y, hy, rfl⟩ := hc
    have hv := compX_VR hE hy
    simp only [doOp] at hd
    split at hd
    · simp at hd
    · rename_i z hz
      simp only [Option.bind_eq_some_iff, Option.map_eq_some_iff, Prod.mk.injEq] at hd
      obtain ⟨l, hl, bs, hbs, rfl, rfl⟩ := hd
      cases hye : X.ev e y <;> rw [hye] at hl hv hz <;> try (simp [elems] at hl; done)
      · exact absurd rfl (hz _)
      · cases hav : a.eval x <;> rw [hav] at hv <;> cases hv
        simp [elems] at hl
        subst hl
        simp [bytesOf?] at hbs
        subst hbs
        exact StepOk.same hs hf (.s _) (by simp [execOp, ho, hav, convert, run_underlying hu, run_underlying hu', run_underlying he, Conv.bytesToString]; rfl)
      · obtain ⟨ad, rc, hav, hi, hlr, hm⟩ := hv.sl_inv
        · obtain ⟨hnl, hok, xs, hxs, hxl, hxc⟩ := elems_sl hs (.sl _ _ _ _ ad rc hi hlr hm) hl
          obtain ⟨ns, rfl, rfl⟩ := forIn_bytes hbs hxs
          have hload := run_loadCells_list (P := P) w ad (ns.map (Value.int .u8)) hxc
          rw [hxl, Nat.mul_one] at hload
          have hrun := run_bytesToString (P := P) w ad _ rc ns hload
          rw [push_fold] at hrun
          have : (ByteArray.empty.data ++ (ns.map fun n => UInt8.ofNat n.toNat).toArray) = (ns.map fun n => UInt8.ofNat n.toNat).toArray := by apply Array.ext'; simp [show ByteArray.empty.data = #[] from rfl]
          rw [this] at hrun
          exact StepOk.same hs hf (.s _) (by simp [execOp, ho, hav, convert, run_underlying hu, run_underlying hu', run_underlying he, hrun])
  · simp at hc

theorem op_fad {t : TypeId} {x : Operand} {f : Nat} (ho : o.op = .fieldAddr t x f) (hc : compOp P o = some r) (hd : doOp r (X.ev e) h = some (v, h')) : StepOk P M B w h a o v h' := by
  simp only [compOp, ho, Option.bind_eq_bind] at hc
  split at hc
  case h_2 => simp at hc
  rename_i fs hu
  simp only [Option.bind_eq_some_iff, Option.pure_def, Option.some.injEq] at hc
  obtain ⟨q, hq, s, hsz, u1, hg, y, hy, rfl⟩ := hc
  have hg := guardB_some hg
  have hv := compX_VR hE hy
  simp only [doOp] at hd
  split at hd
  case h_2 => simp at hd
  rename_i id el off hp
  simp at hd
  obtain ⟨rfl, rfl⟩ := hd
  rw [hp] at hv
  cases hav : a.eval x <;> rw [hav] at hv <;> cases hv
  rename_i ad hi hm
  have hs0 : s ≠ 0 := by simpa using hg
  refine StepOk.same hs hf (x := .pointer (some (ad.add q.offset))) (.p _ _ _ _ hi fun hl => ?_) (by simp [execOp, ho, hav, Instr.fieldAt, run_underlying hu, hq, Instr.sureAddr, fieldPlace, run_sizeOf hsz, hs0])
  obtain ⟨m, hM, rfl⟩ := hm hl
  exact ⟨m, hM, by rw [addr_add]; simp [Nat.add_assoc]⟩

theorem op_fld {t : TypeId} {x : Operand} {f : Nat} (ho : o.op = .field t x f) (hc : compOp P o = some r) (hd : doOp r (X.ev e) h = some (v, h')) : StepOk P M B w h a o v h' := by
  simp only [compOp, ho, Option.bind_eq_bind] at hc
  split at hc
  case h_2 => simp at hc
  rename_i fs hu
  simp only [Option.bind_eq_some_iff, Option.pure_def, Option.some.injEq] at hc
  obtain ⟨q, hq, s, hsz, g, hg, u1, hg1, y, hy, rfl⟩ := hc
  have hv := compX_VR hE hy
  simp only [doOp] at hd
  split at hd
  case h_2 => simp at hd
  rename_i l hp
  simp only [Option.map_eq_some_iff, Prod.mk.injEq] at hd
  obtain ⟨z, hz, rfl, rfl⟩ := hd
  rw [hp] at hv
  cases hav : a.eval x <;> rw [hav] at hv <;> try (cases hv; done)
  cases hv with
  | agg _ l' hl =>
    obtain ⟨zz, hrun, hvz⟩ := cut_VR (P := P) hl hz hsz hg w
    exact StepOk.same hs hf hvz (by simp [execOp, ho, hav, Instr.field, run_underlying hu, hq, asAgg, hrun])

theorem op_iad {t : TypeId} {x j : Operand} (ho : o.op = .indexAddr t x j) (hc : compOp P o = some r) (hd : doOp r (X.ev e) h = some (v, h')) : StepOk P M B w h a o v h' := by
  simp only [compOp, ho, Option.bind_eq_bind] at hc
  split at hc
  · rename_i t' hu
    simp only [Option.bind_eq_some_iff, Option.pure_def, Option.some.injEq] at hc
    obtain ⟨s, hsz, y, hy, z, hz, rfl⟩ := hc
    have hv := compX_VR hE hy
    have hj := compX_VR hE hz
    simp only [doOp] at hd
    split at hd
    case h_2 => simp at hd
    rename_i id el len cap hp
    split at hd
    case isFalse => simp at hd
    rename_i hks
    simp only [Option.map_eq_some_iff, Prod.mk.injEq] at hd
    obtain ⟨i, hi, rfl, rfl⟩ := hd
    obtain ⟨kk, hja, hlt⟩ := idx_sound hj hi
    rw [hp] at hv
    obtain ⟨ad, rc, hav, hid, hlr, hm⟩ := hv.sl_inv
    · refine StepOk.same hs hf (x := .pointer (some (ad.add (i * s)))) (.p _ _ _ _ hid fun hl => ?_) ?_
      · obtain ⟨m, hM, ha, _⟩ := hm hl
        obtain ⟨k, hk⟩ := Option.ne_none_iff_exists'.1 hl
        obtain ⟨_, hms, _⟩ := hs.cells id k m hk hM
        have hks' : k.sz = s := by simpa [szB, hk] using hks
        exact ⟨m, hM, by rw [ha (by omega), addr_add, hms, hks']; simp [Nat.add_mul, Nat.add_assoc]⟩
      · have h1 : (0 : Int) ≤ (i : Int) ∧ (i : Int) < (len : Int) := ⟨by omega, by omega⟩
        have h2 : ¬ len ≤ i := by omega
        simp [execOp, ho, hav, hja, Instr.indexAt, run_underlying hu, asIntOf, h1, h2, hlt, run_sizeOf hsz]
  · rename_i n t' hu
    simp only [Option.bind_eq_some_iff, Option.pure_def, Option.some.injEq] at hc
    obtain ⟨s, hsz, y, hy, z, hz, rfl⟩ := hc
    have hv := compX_VR hE hy
    have hj := compX_VR hE hz
    simp only [doOp] at hd
    split at hd
    case h_2 => simp at hd
    rename_i id el off hp
    simp only [Option.map_eq_some_iff, Prod.mk.injEq] at hd
    obtain ⟨i, hi, rfl, rfl⟩ := hd
    obtain ⟨kk, hja, hlt⟩ := idx_sound hj hi
    rw [hp] at hv
    cases hav : a.eval x <;> rw [hav] at hv <;> cases hv
    rename_i ad hid hm
    refine StepOk.same hs hf (x := .pointer (some (ad.add (i * s)))) (.p _ _ _ _ hid fun hl => ?_) ?_
    · obtain ⟨m, hM, rfl⟩ := hm hl
      exact ⟨m, hM, by rw [addr_add]; simp [Nat.add_assoc]⟩
    · have h1 : (0 : Int) ≤ (i : Int) ∧ (i : Int) < (n : Int) := ⟨by omega, by omega⟩
      have h2 : ¬ n ≤ i := by omega
      simp [execOp, ho, hav, hja, Instr.indexAt, run_underlying hu, asIntOf, Instr.sureAddr, h1, h2, hlt, run_sizeOf hsz]
  · simp at hc

theorem op_idx {t : TypeId} {x j : Operand} (ho : o.op = .index t x j) (hc : compOp P o = some r) (hd : doOp r (X.ev e) h = some (v, h')) : StepOk P M B w h a o v h' := by
  simp only [compOp, ho, Option.bind_eq_bind] at hc
  split at hc
  · rename_i n t' hu
    simp only [Option.bind_eq_some_iff, Option.pure_def, Option.some.injEq] at hc
    obtain ⟨s, hsz, g, hg, u1, hg1, y, hy, z, hz, rfl⟩ := hc
    have hv := compX_VR hE hy
    have hj := compX_VR hE hz
    simp only [doOp] at hd
    split at hd
    case h_2 => simp at hd
    rename_i l hp
    simp only [Option.bind_eq_some_iff, Option.map_eq_some_iff, Prod.mk.injEq] at hd
    obtain ⟨i, hi, c, hcut, rfl, rfl⟩ := hd
    obtain ⟨kk, hja, hlt⟩ := idx_sound hj hi
    rw [hp] at hv
    cases hav : a.eval x <;> rw [hav] at hv <;> try (cases hv; done)
    cases hv with
    | agg _ l' hl =>
      obtain ⟨zz, hrun, hvz⟩ := cut_VR (P := P) hl hcut hsz hg w
      have h1 : (0 : Int) ≤ (i : Int) ∧ (i : Int) < (n : Int) := ⟨by omega, by omega⟩
      have h2 : ¬ n ≤ i := by omega
      exact StepOk.same hs hf hvz (by simp [execOp, ho, hav, hja, Instr.index, run_underlying hu, asIntOf, h1, h2, hlt, run_sizeOf hsz, hrun])
  · rename_i hu
    simp only [Option.bind_eq_some_iff, Option.pure_def, Option.some.injEq] at hc
    obtain ⟨y, hy, z, hz, rfl⟩ := hc
    have hv := compX_VR hE hy
    have hj := compX_VR hE hz
    simp only [doOp] at hd
    split at hd
    case h_2 => simp at hd
    rename_i b hp
    simp only [Option.map_eq_some_iff, Prod.mk.injEq] at hd
    obtain ⟨i, hi, rfl, rfl⟩ := hd
    obtain ⟨kk, hja, hlt⟩ := idx_sound hj hi
    rw [hp] at hv
    cases hav : a.eval x <;> rw [hav] at hv <;> cases hv
    have hb : b[i]? = some b[i] := ByteArray.getElem?_lt' b i hlt
    have hb2 : b.data.toList.getD i 0 = b[i] := by
      have : i < b.data.size := hlt
      rw [List.getD_eq_getElem?_getD, Array.getElem?_toList, Array.getElem?_eq_getElem this]; rfl
    refine StepOk.same hs hf (.i _ _) ?_
    rw [hb2]
    simp [execOp, ho, hav, hja, Instr.index, run_underlying hu, asIntOf, hb]
  · simp at hc

theorem op_slice {t : TypeId} {x : Operand} {lo hi mx : Option Operand} (ho : o.op = .slice t x lo hi mx) (hc : compOp P o = some r) (hd : doOp r (X.ev e) h = some (v, h')) : StepOk P M B w h a o v h' := by
  simp only [compOp, ho, Option.bind_eq_bind] at hc
  split at hc
  · rename_i t' hu
    simp only [Option.bind_eq_some_iff, Option.pure_def, Option.some.injEq] at hc
    obtain ⟨s, hsz, y, hy, xlo, hlo, xhi, hhi, xmx, hmx, rfl⟩ := hc
    have hv := compX_VR hE hy
    simp only [doOp] at hd
    split at hd
    · rename_i hp
      split at hd
      case isFalse => simp at hd
      rename_i hcond
      simp only [Option.bind_eq_some_iff, Option.map_eq_some_iff, Prod.mk.injEq] at hd
      obtain ⟨m, hm, t2, ht2, l, hl, rfl, rfl⟩ := hd
      rw [hp] at hv
      cases hav : a.eval x <;> rw [hav] at hv <;> cases hv
      obtain ⟨m', hrun, hmm, h1, h2, h3, h4⟩ := bounds_run (P := P) hE hlo hhi hmx 0 0 0 m t2 l true (Nat.le_refl _) hm ht2 hl (by
        rcases xmx with _ | q
        · exact .inl rfl
        · rcases xhi with _ | q2
          · simp at hcond
          · exact .inr (by simp)) (.inl (Nat.le_refl _)) w
      have : m' = 0 := by omega
      subst this
      have : l = 0 := by omega
      subst this
      have : t2 = 0 := by omega
      subst this
      exact StepOk.same hs hf .ns (by simp [execOp, ho, hav, Instr.sliceAt, Instr.slice, run_underlying hu, hrun, run_sizeOf hsz])
    · rename_i id el len cap hp
      simp only [Option.bind_eq_some_iff] at hd
      obtain ⟨k, hk, hd⟩ := hd
      split at hd
      case isFalse => simp at hd
      rename_i hcond
      obtain ⟨rfl, hcond, hlc⟩ := hcond
      simp only [Option.bind_eq_some_iff, Option.map_eq_some_iff, Prod.mk.injEq] at hd
      obtain ⟨m, hm, t2, ht2, l, hl, rfl, rfl⟩ := hd
      rw [hp] at hv
      obtain ⟨ad, rc, hav, hid, hlr, hmm⟩ := hv.sl_inv
      · have hlive : h.live id := by simp [AH.live, hk]
        obtain ⟨mm, hM, ha, hcr, hroom⟩ := hmm hlive
        obtain ⟨m', hrun, hm', h1, h2, h3, h4⟩ := bounds_run (P := P) hE hlo hhi hmx len cap rc m t2 l true hcr hm ht2 hl (by
          rcases xmx with _ | q
          · exact .inl rfl
          · rcases xhi with _ | q2
            · simp at hcond
            · exact .inr (by simp)) (.inl hlc) w
        obtain ⟨_, hms, _⟩ := hs.cells id k mm hk hM
        refine StepOk.same hs hf (x := .slice (some (if m' = l then ad else ad.add (l * k.sz))) (t2 - l) (m' - l)) (.sl _ _ _ _ _ _ hid (by omega) fun _ => ⟨mm, hM, fun hpos => ?_, by omega, fun ho => ?_⟩) ?_
        · rw [if_neg (by omega), ha (by omega), addr_add, hms]
          simp [Nat.add_mul, Nat.add_assoc]
        · have := hroom ho
          have e1 : l * mm.sz + (m' - l) * mm.sz = m' * mm.sz := by rw [← Nat.add_mul]; congr 1; omega
          have e2 : m' * mm.sz ≤ rc * mm.sz := Nat.mul_le_mul_right _ h4
          rw [Nat.add_mul]
          omega
        · simp [execOp, ho, hav, Instr.sliceAt, Instr.slice, run_underlying hu, hrun, run_sizeOf hsz]
          split <;> rfl
    · simp at hd
  · rename_i hu
    simp only [Option.bind_eq_some_iff, Option.pure_def, Option.some.injEq] at hc
    obtain ⟨u1, hg, y, hy, xlo, hlo, xhi, hhi, rfl⟩ := hc
    have hg := guardB_some hg
    have hmx : mx = none := by simpa using hg
    subst hmx
    have hv := compX_VR hE hy
    simp only [doOp] at hd
    split at hd
    case h_2 => simp at hd
    rename_i b hp
    simp only [Option.bind_eq_some_iff, Option.map_eq_some_iff, Prod.mk.injEq] at hd
    obtain ⟨t2, ht2, l, hl, rfl, rfl⟩ := hd
    rw [hp] at hv
    cases hav : a.eval x <;> rw [hav] at hv <;> cases hv
    obtain ⟨m', hrun, hm', h1, h2, h3, h4⟩ := bounds_run (P := P) hE (mx := none) (xmx := none) hlo hhi rfl b.size b.size b.size b.size t2 l false (Nat.le_refl _) rfl ht2 hl (.inl rfl) (.inl (Nat.le_refl _)) w
    simp only [Option.map_none] at hrun
    exact StepOk.same hs hf (.s _) (by simp [execOp, ho, hav, Instr.sliceAt, Instr.slice, run_underlying hu, hrun])
  · simp at hc

theorem op_mksl {t : TypeId} {n c : Operand} (ho : o.op = .makeSlice t n c) (hc : compOp P o = some r) (hd : doOp r (X.ev e) h = some (v, h')) : StepOk P M B w h a o v h' := by
  simp only [compOp, ho, Option.bind_eq_bind] at hc
  split at hc
  case h_2 => simp at hc
  rename_i t' hu
  simp only [Option.bind_eq_some_iff, Option.pure_def, Option.some.injEq] at hc
  obtain ⟨s, hsz, z, hz, u1, hg, y, hy, q, hq, rfl⟩ := hc
  have hg := guardB_some hg
  simp only [Bool.and_eq_true, decide_eq_true_eq, beq_iff_eq] at hg
  obtain ⟨⟨hg1, hg2⟩, hg3⟩ := hg
  obtain ⟨zx, zv, hzr, hzi, hzv, rfl⟩ := zcells_some hz w
  have hv := compX_VR hE hy
  have hu2 := compX_VR hE hq
  simp only [doOp] at hd
  split at hd
  case h_2 => simp at hd
  rename_i k1 a1 k2 m1 hp1 hp2
  split at hd
  case isFalse => simp at hd
  rename_i hcond
  obtain ⟨h0, hle, hbig⟩ := hcond
  simp at hd
  obtain ⟨rfl, rfl⟩ := hd
  rw [hp1] at hv
  rw [hp2] at hu2
  cases hav : a.eval n <;> rw [hav] at hv <;> cases hv
  cases hbv : a.eval c <;> rw [hbv] at hu2 <;> cases hu2
  simp only [sizeT, Option.map_eq_some_iff] at hsz
  obtain ⟨i, hi, rfl⟩ := hsz
  simp only [hi, Option.bind_some] at hzi
  simp only [bytesT, hi, Option.map_some, Option.getD_some] at hg3
  have hrun := run_make (P := P) w t t' i zx hu hi hzi k1 k2 a1 m1 h0 hle (by
    have h2 : (i.bytes : Int) * m1 ≤ 4096 * m1 := Int.mul_le_mul_of_nonneg_right (by omega) (by omega)
    simp only [bigLen] at hbig
    omega) (by simp only [bigLen] at hbig; omega)
  have hmade := made_VRs (M := M) (h := h) (VRs_cells_toV hzv) m1.toNat
  have hrows := replicate_rows (n := m1.toNat) (toV_cells hzv)
  obtain ⟨M', hd⟩ := new_slice hs hf ⟨zv.cells.length, List.replicate m1.toNat zv.cells⟩ (madeCells zx.cells (m1.toNat * zv.cells.length)) t' hrows (fun j u hu => by
    obtain ⟨x, hx, hvx⟩ := hmade.get j u hu
    exact ⟨x, by simpa using hx, hvx⟩) a1.toNat m1.toNat m1.toNat (by omega) (Nat.le_refl _) (by simp [size_madeCells])
  refine ⟨_, _, M', .inl ?_, hd⟩
  rw [hg1]
  simp [execOp, ho, hav, hbv, hrun]

theorem op_tas {x : Operand} {t1 t : TypeId} {ok : Bool} (ho : o.op = .typeAssert x t1 t ok) (hc : compOp P o = some r) (hd : doOp r (X.ev e) h = some (v, h')) : StepOk P M B w h a o v h' := by
  simp only [compOp, ho] at hc
  have key : (∀ ms, P.underlying t ≠ some (.interface ms)) → ∀ d, P.underlying t = some d → ((zeroOf P t).bind fun z => (compX x).bind fun y => some (O.tas t ok z y)) = some r → StepOk P M B w h a o v h' := by
    intro hni d hu hc
    simp only [Option.bind_eq_some_iff, Option.some.injEq] at hc
    obtain ⟨z, hz, y, hy, rfl⟩ := hc
    obtain ⟨zx, hzr, hzv⟩ := run_zeroValue hz w
    have hv := compX_VR hE hy
    simp only [doOp] at hd
    have hfail : ∀ (s c : Option TypeId) (m : String), ok = true → ((do if ok then pure (.tuple #[← zeroValue t, .bool false]) else runtimePanic (.typeAssertion s c t m) : Sem Value)).run P w = .ok (.tuple #[zx, .bool false]) w := by
      intro s c m hok
      subst hok
      simp [hzr]
    split at hd
    · rename_i t' u hp
      rw [hp] at hv
      obtain ⟨xx, hav, hxx⟩ : ∃ xx, a.eval x = .iface t' xx ∧ VR M h u xx := by
        generalize a.eval x = q at hv
        cases hv with
        | ifc _ _ xx hxx => exact ⟨xx, rfl, hxx⟩
      · split at hd
        · rename_i ht
          subst ht
          simp at hd
          obtain ⟨rfl, rfl⟩ := hd
          refine StepOk.same hs hf (x := if ok then .tuple #[xx, .bool true] else xx) ?_ ?_
          · cases ok
            · exact hxx
            · exact .tup _ _ (.cons _ _ _ _ hxx (.cons _ _ _ _ (.b _) .nil))
          · cases d <;> first | (exact absurd hu (hni _)) | (simp [execOp, ho, hav, Instr.typeAssert, run_underlying hu])
        · rename_i ht
          split at hd
          case isFalse => simp at hd
          rename_i hok
          simp at hd
          obtain ⟨rfl, rfl⟩ := hd
          subst hok
          refine StepOk.same hs hf (x := .tuple #[zx, .bool false]) (.tup _ _ (.cons _ _ _ _ (toV_VR hzv) (.cons _ _ _ _ (.b _) .nil))) ?_
          cases d <;> first | (exact absurd hu (hni _)) | simp [execOp, ho, hav, Instr.typeAssert, run_underlying hu, ht, hzr]
    · rename_i hp
      rw [hp] at hv
      cases hav : a.eval x <;> rw [hav] at hv <;> cases hv
      split at hd
      case isFalse => simp at hd
      rename_i hok
      simp at hd
      obtain ⟨rfl, rfl⟩ := hd
      subst hok
      refine StepOk.same hs hf (x := .tuple #[zx, .bool false]) (.tup _ _ (.cons _ _ _ _ (toV_VR hzv) (.cons _ _ _ _ (.b _) .nil))) ?_
      cases d <;> first | (exact absurd hu (hni _)) | simp [execOp, ho, hav, Instr.typeAssert, run_underlying hu, hzr]
    · simp at hd
  split at hc
  · simp at hc
  · simp at hc
  · rename_i hn1 hn2
    cases hu : P.underlying t with
    | none => exact absurd hu hn2
    | some d => exact key (fun ms hh => hn1 ms hh) d hu hc
end
end
end Go.Ab
/- Each operation but calls of functions: what the abstract machine does the model's does: all of them as one theorem. -/
namespace Go.Ab
open Go Go.RowKit
set_option linter.unusedVariables false
set_option linter.unusedSimpArgs false
set_option linter.constructorNameAsVariable false

section
variable {P : Program}
variable {M : Mp} {B : Nat} {w : World} {h h' : AH} {e : Env} {a : Act} {v : V} {o : Oper} {r : O}
section
variable (hE : EnvR M h e a) (hs : Sim M B w h) (hf : Full M h)
include hE hs hf

theorem op_builtin {c : Call} {b : Builtin} (ho : o.op = .call c) (hb : c.callee = .builtin b) (hc : compOp P o = some r) (hd : doOp r (X.ev e) h = some (v, h')) : StepOk P M B w h a o v h' := by
  obtain ⟨callee, args, argTypes⟩ := c
  simp only at hb
  subst hb
  simp only [compOp, ho, Option.bind_eq_bind, Option.pure_def] at hc
  have hres : (resolve a.eval ⟨.builtin b, args, argTypes⟩ o.type) = pure { target := .builtin b argTypes o.type (args.map fun | .const _ => true | _ => false), args := args.map a.eval } := rfl
  have hrun : ∀ (f : Array TypeId → TypeId → Array Value → Sem Value) (x : Value) (w' : World), builtin b argTypes o.type (args.map fun | .const _ => true | _ => false) (args.map a.eval) = (do pure (.value (← f argTypes o.type (args.map a.eval))) : Sem Next) →
      (f argTypes o.type (args.map a.eval)).run P w = .ok x w' → (execOp a.eval o).run P w = .ok (.value x) w' := by
    intro f x w' hbf hfr
    simp only [execOp, ho, hres, Sem.run_bind, Sem.run_pure, Result.andThen_ok, invoke, hbf, hfr]
  split at hc
  · -- append
    rename_i x y hxy
    have hargs : args = #[x, y] := by apply Array.ext'; simpa using hxy
    split at hc
    case h_2 => simp at hc
    rename_i t' hu
    simp only [Option.bind_eq_some_iff, Option.some.injEq] at hc
    obtain ⟨s, hsz, z, hz, u1, hg1, u2, hg2, u3, hg3, x', hx', y', hy', rfl⟩ := hc
    have hg1 := guardB_some hg1
    have hg2 := guardB_some hg2
    have hg3 := guardB_some hg3
    simp only [Bool.and_eq_true, decide_eq_true_eq, beq_iff_eq] at hg1 hg3
    obtain ⟨⟨⟨g1, g2⟩, g3⟩, g4⟩ := hg1
    obtain ⟨zx, zv, hzr, hzi, hzv, rfl⟩ := zcells_some hz w
    simp only [sizeT, Option.map_eq_some_iff] at hsz
    obtain ⟨i, hi, rfl⟩ := hsz
    simp only [hi, Option.bind_some] at hzi
    simp only [bytesT, hi, Option.map_some, Option.getD_some] at g3 g4
    obtain ⟨t, u, hat⟩ : ∃ t u, argTypes = #[t, u] := by
      rcases argTypes with ⟨l⟩
      match l, hg3 with
      | [t, u], _ => exact ⟨t, u, rfl⟩
    subst hat
    have hu' : P.underlying t = some (.slice t') := hu
    have T : AppT P t u t' i i.size := ⟨hu', by
      have hq : (#[t, u].getD 1 0) = u := rfl
      rw [hq] at hg2
      split at hg2
      · rename_i e' he'; exact .inl ⟨e', he'⟩
      · rename_i he'; exact .inr he'
      · simp at hg2, hi, rfl, g2, g3, g4⟩
    have hzl : zx.cells.size = i.size := by
      have := (VRs_cells_toV (M := M) (h := h) hzv).length
      rw [g1] at this
      simpa using this.symm
    simp only [doOp] at hd
    obtain ⟨rr, w', M', hrr, hdone⟩ := app_sound (P := P) (ty := o.type) T zx hzi hzl hs hf (compX_VR hE hx') (compX_VR hE hy') hd
    exact ⟨rr, w', M', .inl (hrun Builtin.append_ rr w' rfl (by rw [hargs]; simpa using hrr)), hdone⟩
  · -- len
    rename_i x hxx
    have hargs : args = #[x] := by apply Array.ext'; simpa using hxx
    have one : (argTypes.size == 1) = true → ∃ t, argTypes = #[t] := fun hh => by
      rcases argTypes with ⟨l⟩
      match l, hh with
      | [t], _ => exact ⟨t, rfl⟩
    split at hc
    · rename_i n t' hu
      split at hc
      case isFalse => simp at hc
      rename_i h1
      obtain ⟨t, rfl⟩ := one h1
      simp at hc
      subst hc
      simp [doOp] at hd
      obtain ⟨rfl, rfl⟩ := hd
      have hu' : P.underlying t = some (.array n t') := hu
      exact StepOk.same hs hf (.i _ _) (hrun Builtin.len_ _ w rfl (by rw [hargs]; simp [Builtin.len_, run_underlying hu', goInt]))
    · rename_i t' hu
      split at hc
      case isFalse => simp at hc
      rename_i h1
      obtain ⟨t, rfl⟩ := one h1
      simp only [Option.map_eq_some_iff] at hc
      obtain ⟨y, hy, rfl⟩ := hc
      have hv := compX_VR hE hy
      have hu' : P.underlying t = some (.slice t') := hu
      simp only [doOp] at hd
      split at hd
      · rename_i hp
        simp at hd
        obtain ⟨rfl, rfl⟩ := hd
        rw [hp] at hv
        cases hav : a.eval x <;> rw [hav] at hv <;> cases hv
        exact StepOk.same hs hf (.i _ _) (hrun Builtin.len_ _ w rfl (by rw [hargs]; simp [Builtin.len_, run_underlying hu', goInt, hav]))
      · rename_i id el n cap hp
        simp at hd
        obtain ⟨rfl, rfl⟩ := hd
        rw [hp] at hv
        obtain ⟨ad, rc, hav, _⟩ := hv.sl_inv
        exact StepOk.same hs hf (.i _ _) (hrun Builtin.len_ _ w rfl (by rw [hargs]; simp [Builtin.len_, run_underlying hu', goInt, hav]))
      · simp at hd
    · rename_i hu
      split at hc
      case isFalse => simp at hc
      rename_i h1
      obtain ⟨t, rfl⟩ := one h1
      simp only [Option.map_eq_some_iff] at hc
      obtain ⟨y, hy, rfl⟩ := hc
      have hv := compX_VR hE hy
      have hu' : P.underlying t = some .string := hu
      simp only [doOp] at hd
      split at hd
      case h_2 => simp at hd
      rename_i b hp
      simp at hd
      obtain ⟨rfl, rfl⟩ := hd
      rw [hp] at hv
      cases hav : a.eval x <;> rw [hav] at hv <;> cases hv
      exact StepOk.same hs hf (.i _ _) (hrun Builtin.len_ _ w rfl (by rw [hargs]; simp [Builtin.len_, run_underlying hu', goInt, hav]))
    · simp at hc
  · -- cap
    rename_i x hxx
    have hargs : args = #[x] := by apply Array.ext'; simpa using hxx
    split at hc
    case h_2 => simp at hc
    rename_i t' hu
    split at hc
    case isFalse => simp at hc
    rename_i h1
    obtain ⟨t, rfl⟩ : ∃ t, argTypes = #[t] := by
      rcases argTypes with ⟨l⟩
      match l, h1 with
      | [t], _ => exact ⟨t, rfl⟩
    simp only [Option.map_eq_some_iff] at hc
    obtain ⟨y, hy, rfl⟩ := hc
    have hv := compX_VR hE hy
    have hu' : P.underlying t = some (.slice t') := hu
    simp only [doOp] at hd
    split at hd
    case h_2 => simp at hd
    rename_i hp
    simp at hd
    obtain ⟨rfl, rfl⟩ := hd
    rw [hp] at hv
    cases hav : a.eval x <;> rw [hav] at hv <;> cases hv
    exact StepOk.same hs hf (.i _ _) (hrun Builtin.cap_ _ w rfl (by rw [hargs]; simp [Builtin.cap_, run_underlying hu', goInt, hav]))
  · -- min
    simp only [Option.map_eq_some_iff] at hc
    obtain ⟨l, hl, rfl⟩ := hc
    have hvs := compXs_VR hE hl
    simp only [doOp] at hd
    cases l with
    | nil => simp at hd
    | cons y ys =>
      simp only [Option.map_eq_some_iff, Prod.mk.injEq] at hd
      obtain ⟨z, hz, rfl, rfl⟩ := hd
      simp only [List.map_cons] at hvs
      cases hal : args.toList.map a.eval with
      | nil => rw [hal] at hvs; cases hvs
      | cons q qs =>
        rw [hal] at hvs
        cases hvs with
        | cons _ _ _ _ h1 h2 =>
          obtain ⟨zz, hzz, hvz⟩ := fold_sound (P := P) (fun a b c w => min_sound a b c w) h1 h2 hz w
          refine StepOk.same hs hf hvz (hrun Builtin.min_ _ w rfl ?_)
          have : (args.map a.eval).toList = q :: qs := by simpa using hal
          simp only [Builtin.min_, this]
          exact hzz
  · -- max
    simp only [Option.map_eq_some_iff] at hc
    obtain ⟨l, hl, rfl⟩ := hc
    have hvs := compXs_VR hE hl
    simp only [doOp] at hd
    cases l with
    | nil => simp at hd
    | cons y ys =>
      simp only [Option.map_eq_some_iff, Prod.mk.injEq] at hd
      obtain ⟨z, hz, rfl, rfl⟩ := hd
      simp only [List.map_cons] at hvs
      cases hal : args.toList.map a.eval with
      | nil => rw [hal] at hvs; cases hvs
      | cons q qs =>
        rw [hal] at hvs
        cases hvs with
        | cons _ _ _ _ h1 h2 =>
          obtain ⟨zz, hzz, hvz⟩ := fold_sound (P := P) (fun a b c w => max_sound a b c w) h1 h2 hz w
          refine StepOk.same hs hf hvz (hrun Builtin.max_ _ w rfl ?_)
          have : (args.map a.eval).toList = q :: qs := by simpa using hal
          simp only [Builtin.max_, this]
          exact hzz
  · simp at hc

/-- All of them. -/
theorem op_sound (hc : compOp P o = some r) (hd : doOp r (X.ev e) h = some (v, h')) : StepOk P M B w h a o v h' := by
  cases ho : o.op
  case move x => simp only [compOp, ho, Option.map_eq_some_iff] at hc; obtain ⟨y, hy, rfl⟩ := hc; exact op_move hE hs hf (.inl ho) hy hd
  case assign x => simp only [compOp, ho, Option.map_eq_some_iff] at hc; obtain ⟨y, hy, rfl⟩ := hc; exact op_move hE hs hf (.inr ho) hy hd
  case pick => exact op_pick hE hs hf ho hc hd
  case alloc => exact op_alloc hE hs hf ho hc hd
  case box => exact op_box hE hs hf ho hc hd
  case build => exact op_build hE hs hf ho hc hd
  case buildSlice => exact op_bsl hE hs hf ho hc hd
  case load => exact op_load hE hs hf ho hc hd
  case store => exact op_store hE hs hf ho hc hd
  case nilCheck => exact op_nck hE hs hf ho hc hd
  case binOp => exact op_bin hE hs hf ho hc hd
  case unOp => exact op_un hE hs hf ho hc hd
  case convert => exact op_conv hE hs hf ho hc hd
  case makeInterface => exact op_mkif hE hs hf ho hc hd
  case makeFunc => exact op_mkfn hE hs hf ho hc hd
  case makeSlice => exact op_mksl hE hs hf ho hc hd
  case slice => exact op_slice hE hs hf ho hc hd
  case fieldAddr => exact op_fad hE hs hf ho hc hd
  case field => exact op_fld hE hs hf ho hc hd
  case indexAddr => exact op_iad hE hs hf ho hc hd
  case index => exact op_idx hE hs hf ho hc hd
  case extract => exact op_ext hE hs hf ho hc hd
  case typeAssert => exact op_tas hE hs hf ho hc hd
  case call c =>
    cases hb : c.callee
    case builtin b => exact op_builtin hE hs hf ho hb hc hd
    case value f =>
      simp only [compOp, ho, hb, Option.bind_eq_bind, Option.bind_eq_some_iff, Option.pure_def, Option.some.injEq] at hc
      obtain ⟨_, _, _, _, rfl⟩ := hc
      simp [doOp] at hd
    case invoke f m =>
      simp only [compOp, ho, hb, Option.bind_eq_bind, Option.bind_eq_some_iff, Option.pure_def, Option.some.injEq] at hc
      obtain ⟨_, _, _, _, rfl⟩ := hc
      simp [doOp] at hd
  all_goals simp [compOp, ho] at hc
end
end
end Go.Ab
/- Calls; a row of operations one behind the other. -/
namespace Go.Ab
open Go Go.RowKit
set_option linter.unusedVariables false
set_option linter.unusedSimpArgs false
set_option linter.constructorNameAsVariable false

section
variable {P : Program}

/-- What a call says of its function and its end. -/
def OracleOk (P : Program) (C : Oracle) : Prop :=
  ∀ f args h v h', C f args h = some (v, h') → (∃ fn, P.funcs[f]? = some fn ∧ fn.body.isNone = false ∧ (fn.name == "runtime.NumGoroutine") = false) ∧
    ∀ (M : Mp) (B : Nat) (w : World) (xs : Array Value), Sim M B w h → VRs M h args xs.toList → Calls P f xs w fun e w' => ∃ x M', e = .returned x ∧ Done M B w h v h' x w' M'

def MethsOk (P : Program) (tp : TP) : Prop := ∀ t m q, tp.meth t m = some q → methB P t m q = true

theorem run_callFunc {f : Nat} {args : Array Value} {fn : Func} (hf : P.funcs[f]? = some fn) (hb : fn.body.isNone = false) (hn : (fn.name == "runtime.NumGoroutine") = false) (w : World) : (callFunc f args).run P w = .ok (.enter f args) w := by
  have hn' : fn.name ≠ "runtime.NumGoroutine" := by simpa using hn
  have hb' : fn.body ≠ none := by intro h0; simp [h0] at hb
  simp [callFunc, hf, hb', hn']

theorem run_method {M : Mp} {h : AH} {tp : TP} (hm : MethsOk P tp) {t : Nat} {m : String} {q : Meth} (hq : tp.meth t m = some q) {v r : V} {x : Value} (hv : VR M h v x)
    (hr : match q.at_ with | none => r = v | some j => ∃ cs, v = .agg cs ∧ cs[j]? = some r) (w : World) (d : Nat) :
    ∃ y, (method (d + 1) t x m).run P w = .ok (q.f, y) w ∧ VR M h r y := by
  have hB := hm t m q hq
  unfold methB at hB
  cases hi : P.info? t with
  | none => simp [hi] at hB
  | some i =>
    simp only [hi, Option.bind_some] at hB
    cases hfind : i.methods.find? (·.name == m) with
    | none => simp [hfind] at hB
    | some mm =>
      simp only [hfind] at hB
      split at hB
      · rename_i f pr hfu hpa
        simp only [Bool.and_eq_true, beq_iff_eq, Option.isNone_iff_eq_none] at hB
        obtain ⟨⟨rfl, hat⟩, hty⟩ := hB
        rw [hat] at hr
        subst hr
        refine ⟨x, ?_, hv⟩
        have hpe : mm.path.isEmpty = true := by
          have : mm.path = #[] := by apply Array.ext'; simpa using hpa
          simp [this]
        cases hu : P.underlying t with
        | none => simp [hu] at hty
        | some dsc =>
          simp only [hu] at hty
          cases pr
          · have : receiverAt t (.val x) false (if mm.path.isEmpty = true then some ((m.splitOn ".").getLastD m) else none) = receiverAt t (.val x) false (some ((m.splitOn ".").getLastD m)) := by rw [hpe]; rfl
            cases dsc <;> simp at hty <;> simp [method, typeInfo, hi, hfind, hfu, hpa, follow, receiverAt, run_underlying hu, Place.get]
          · cases dsc <;> simp at hty <;> simp [method, typeInfo, hi, hfind, hfu, hpa, follow, receiverAt, run_underlying hu, Place.get]
      · rename_i f s hfu hpa
        simp only [Bool.and_eq_true, beq_iff_eq] at hB
        obtain ⟨⟨rfl, hder⟩, hst⟩ := hB
        split at hst
        case h_2 => simp at hst
        rename_i fs hus
        split at hst
        case h_2 => simp at hst
        rename_i fd hfd
        simp only [Bool.and_eq_true, beq_iff_eq] at hst
        obtain ⟨hat, hpt⟩ := hst
        rw [hat] at hr
        obtain ⟨cs, rfl, hcs⟩ := hr
        split at hpt
        case h_2 => simp at hpt
        rename_i el hup
        cases hv with
        | agg _ l' hl =>
          obtain ⟨y, hy, hvy⟩ := hl.get _ r hcs
          have hy' : l'[fd.offset]? = some y := by simpa using hy
          have hdr : s.deref = false := by simpa using hder
          refine ⟨y, ?_, hvy⟩
          have hag : (isAgg fd.type).run P w = .ok false w := by simp [isAgg, run_underlying hup]
          simp [method, typeInfo, hi, hfind, hfu, hpa, follow, run_underlying hus, hfd, hdr, part, hag, hy', receiverAt, run_underlying hup, Place.get]
      · simp at hB

theorem bind_some {α β : Type} {x : Option α} {f : α → Option β} {r : β} (h : x.bind f = some r) : ∃ a, x = some a ∧ f a = some r := Option.bind_eq_some_iff.1 h

theorem comp_call {o : Oper} {y : X} {ys : List X} (hc : compOp P o = some (.call y ys)) : ∃ c f, o.op = .call c ∧ c.callee = .value f ∧ compX f = some y ∧ compXs c.args.toList = some ys := by
  cases hop : o.op
  case call c =>
    cases hb : c.callee
    case value f =>
      simp only [compOp, hop, hb, Option.bind_eq_bind, Option.bind_eq_some_iff, Option.pure_def, Option.some.injEq, O.call.injEq] at hc
      obtain ⟨x, hx, xs, hxs, rfl, rfl⟩ := hc
      exact ⟨c, f, rfl, hb, hx, hxs⟩
    all_goals
      simp only [compOp, hop, hb, Option.bind_eq_bind, Option.pure_def] at hc
      repeat' split at hc
      all_goals simp [Option.bind_eq_some_iff, Option.map_eq_some_iff] at hc
  all_goals
    simp only [compOp, hop, Option.bind_eq_bind, Option.pure_def] at hc
    repeat' split at hc
    all_goals (try simp [Option.bind_eq_some_iff, Option.map_eq_some_iff] at hc)
    all_goals (obtain ⟨_, _, _, _, hc⟩ := hc; repeat' split at hc)
    all_goals simp [Option.bind_eq_some_iff, Option.map_eq_some_iff] at hc

theorem comp_inv {o : Oper} {y : X} {m : String} {ys : List X} (hc : compOp P o = some (.inv y m ys)) : ∃ c f, o.op = .call c ∧ c.callee = .invoke f m ∧ compX f = some y ∧ compXs c.args.toList = some ys := by
  cases hop : o.op
  case call c =>
    cases hb : c.callee
    case invoke f m' =>
      simp only [compOp, hop, hb, Option.bind_eq_bind, Option.bind_eq_some_iff, Option.pure_def, Option.some.injEq, O.inv.injEq] at hc
      obtain ⟨x, hx, xs, hxs, rfl, rfl, rfl⟩ := hc
      exact ⟨c, f, rfl, hb, hx, hxs⟩
    all_goals
      simp only [compOp, hop, hb, Option.bind_eq_bind, Option.pure_def] at hc
      repeat' split at hc
      all_goals simp [Option.bind_eq_some_iff, Option.map_eq_some_iff] at hc
  all_goals
    simp only [compOp, hop, Option.bind_eq_bind, Option.pure_def] at hc
    repeat' split at hc
    all_goals (try simp [Option.bind_eq_some_iff, Option.map_eq_some_iff] at hc)
    all_goals (obtain ⟨_, _, _, _, hc⟩ := hc; repeat' split at hc)
    all_goals simp [Option.bind_eq_some_iff, Option.map_eq_some_iff] at hc

/-- An operation, whatever follows. -/
theorem run1_sound {C : Oracle} {tp : TP} (hC : OracleOk P C) (hm : MethsOk P tp) {M : Mp} {B : Nat} {w : World} {h h' : AH} {e : Env} {a : Act} {v : V} {o : Oper} {r : O}
    (hE : EnvR M h e a) (hs : Sim M B w h) (hc : compOp P o = some r) (hd : run1 tp C r (X.ev e) h = some (v, h'))
    {K : Act → World → Prop} {Q : Exit → Act → World → Prop} (hK : ∀ x w' M', Done M B w h v h' x w' M' → K (a.put o.dst x) w') : o.wp P a w K Q := by
  have nocall : doOp r (X.ev e) h = some (v, h') → o.wp P a w K Q := by
    intro hd
    obtain ⟨x, w', M', hrun, hdone⟩ := op_sound hE hs trivial hc hd
    unfold Oper.wp
    rcases hrun with hrun | ⟨hrun, rfl⟩
    · rw [hrun]; exact hK x w' M' hdone
    · rw [hrun]; exact hK undef w' M' hdone
  have enter : ∀ (f : Nat) (args : List V) (xs : Array Value), C f args h = some (v, h') → VRs M h args xs.toList →
      ((∃ fn, P.funcs[f]? = some fn ∧ fn.body.isNone = false ∧ (fn.name == "runtime.NumGoroutine") = false) → (execOp a.eval o).run P w = .ok (.enter f xs) w) → o.wp P a w K Q := by
    intro f args xs hcall hxs hrun
    obtain ⟨hfn, hsim⟩ := hC f args h v h' hcall
    unfold Oper.wp
    rw [hrun hfn]
    exact (hsim M B w xs hs hxs).mono fun e' w' ⟨x, M', he, hdone⟩ => by subst he; exact hK x w' M' hdone
  cases r <;> try exact nocall (by simpa [run1] using hd)
  case call y ys =>
    obtain ⟨c, f, hop, hcal, hf, hxs⟩ := comp_call hc
    have hv := compX_VR hE hf
    have hvs := compXs_VR hE hxs
    simp only [run1, callee] at hd
    split at hd
    case h_2 => simp at hd
    rename_i g first caps hp
    simp only [Option.bind_some] at hd
    rw [hp] at hv
    obtain ⟨a', c', hav, ha', hc'⟩ : ∃ a' c', a.eval f = .func (.func g) a' c' ∧ VRs M h first a'.toList ∧ VRs M h caps c'.toList := by
      generalize a.eval f = q at hv
      cases hv with
      | f _ _ _ a' c' p q => exact ⟨a', c', rfl, p, q⟩
    refine enter g _ (a' ++ c.args.map a.eval ++ c') hd (by simpa using (ha'.append hvs).append hc') (fun ⟨fn, h1, h2, h3⟩ => ?_)
    have hr := run_callFunc (args := a' ++ c.args.map a.eval ++ c') h1 h2 h3 w
    simp [execOp, hop, resolve, hcal, hav, Deferred.ofValue, invoke]
    simpa using hr
  case inv y m ys =>
    obtain ⟨c, f, hop, hcal, hf, hxs⟩ := comp_inv hc
    have hv := compX_VR hE hf
    have hvs := compXs_VR hE hxs
    simp only [run1, callee] at hd
    split at hd
    case h_2 => simp at hd
    rename_i t u hp
    rw [hp] at hv
    obtain ⟨xx, hav, hxx⟩ : ∃ xx, a.eval f = .iface t xx ∧ VR M h u xx := by
      generalize a.eval f = q at hv
      cases hv with
      | ifc _ _ xx hxx => exact ⟨xx, rfl, hxx⟩
    obtain ⟨q0, hq0, hd⟩ := bind_some hd
    obtain ⟨q, hq, hq0⟩ := bind_some hq0
    obtain ⟨r, hq0', hr⟩ : ∃ r, q0 = (q.f, r :: ys.map (X.ev e)) ∧ (match q.at_ with | none => r = u | some j => ∃ cs, u = .agg cs ∧ cs[j]? = some r) := by
      cases hat : q.at_ with
      | none =>
        simp only [hat, Option.some.injEq] at hq0
        exact ⟨u, hq0.symm, rfl⟩
      | some j =>
        simp only [hat] at hq0
        split at hq0
        case h_2 => simp at hq0
        rename_i cs
        simp only [Option.map_eq_some_iff] at hq0
        obtain ⟨r, hr, hq0⟩ := hq0
        exact ⟨r, hq0.symm, _, rfl, hr⟩
    subst hq0'
    obtain ⟨z, hz, hvz⟩ := run_method (P := P) hm hq hxx hr w (P.types.size + Made.depth - 1)
    have hdep : P.types.size + Made.depth - 1 + 1 = P.types.size + Made.depth := by
      have : 0 < Made.depth := by decide
      omega
    rw [hdep] at hz
    refine enter q.f _ (#[z] ++ c.args.map a.eval) hd (by simpa using VRs.cons _ _ _ _ hvz hvs) (fun ⟨fn, h1, h2, h3⟩ => ?_)
    have hr := run_callFunc (args := #[z] ++ c.args.map a.eval) h1 h2 h3 w
    have hex : (#[a.eval f] ++ c.args.map a.eval).extract 1 ((#[a.eval f] ++ c.args.map a.eval).size) = c.args.map a.eval := by
      apply Array.ext'
      rw [Array.toList_extract, List.extract_eq_take_drop]
      simp only [Array.toList_append, List.singleton_append, List.drop_succ_cons, List.drop_zero]
      rw [List.take_of_length_le]
      simp
    have hget : (#[a.eval f] ++ c.args.map a.eval)[0]? = some (a.eval f) := by rw [Array.getElem?_append]; simp
    simp only [execOp, hop, resolve, hcal, Sem.run_bind, Sem.run_pure, Result.andThen_ok, invoke, hget, hex]
    rw [hav]
    simp only [callMethod, Sem.run_bind, run_program, Result.andThen_ok, hz]
    rw [hr]

/-- A frame, its values, the heap, side by side. -/
structure Rel (M : Mp) (B : Nat) (w : World) (h : AH) (e : Env) (a : Act) (n : Nat) : Prop where
  sim : Sim M B w h
  env : EnvR M h e a
  size : a.tmps.size = n
  defers : a.defers = []

theorem Rel.put {M M' : Mp} {B : Nat} {w w' : World} {h h' : AH} {e : Env} {a : Act} {n : Nat} {v : V} {x : Value} {d : Option Nat} (r : Rel M B w h e a n) (hd : dOk n d = true) (hdone : Done M B w h v h' x w' M') : Rel M' B w' h' (e.set d v) (a.put d x) n := by
  refine ⟨hdone.sim, (r.env.keep hdone.goes.keeps).set (fun t ht => ?_) hdone.val, ?_, ?_⟩
  · subst ht; simp [dOk] at hd; rw [r.size]; exact hd
  · cases d <;> simp [Act.put, r.size]
  · cases d <;> simp [Act.put, r.defers]

theorem compO_some {n : Nat} {ops : Array Oper} {o : Oper} {t : TO} (hc : compO P n ops o = some t) : compOp P o = some t.o ∧ compG ops o.guard = some t.g ∧ t.d = o.dst ∧ dOk n o.dst = true ∧ (∀ s x, t.g = some (s, x) → s < n) := by
  unfold compO at hc
  simp only [Option.bind_eq_bind, Option.bind_eq_some_iff, Option.pure_def, Option.some.injEq] at hc
  obtain ⟨x, hx, g, hg, u, hu, rfl⟩ := hc
  have hu := guardB_some hu
  simp only [Bool.and_eq_true] at hu
  refine ⟨hx, hg, rfl, hu.1, fun s x hs => ?_⟩
  simp only at hs
  subst hs
  simpa using hu.2

theorem wanted_sound {M : Mp} {h : AH} {n : Nat} {ops : Array Oper} {o : Oper} {t : TO} {e : Env} {a : Act} (hc : compO P n ops o = some t) (hE : ∀ s x, t.g = some (s, x) → VR M h (e s) (a.tmps.getD s undef)) (hn : a.tmps.size = n) {b : Bool} (hw : wantedT e t.g = some b) :
    Region.wanted o (yielded ops a.tmps) = b := by
  obtain ⟨_, hg, _, _, hlt⟩ := compO_some hc
  cases hgo : o.guard with
  | none =>
    rw [hgo] at hg
    simp only [compG, Option.some.injEq] at hg
    rw [← hg] at hw
    simp only [wantedT, Option.some.injEq] at hw
    simp [Region.wanted, hgo, hw]
  | some p =>
    obtain ⟨j, x⟩ := p
    rw [hgo] at hg
    simp only [compG, Option.map_eq_some_iff] at hg
    obtain ⟨s, hs, hg⟩ := hg
    rw [← hg] at hw
    have hE' := hE s x hg.symm
    have hlt' := hlt s x hg.symm
    simp only [wantedT] at hw
    simp only [Region.wanted, hgo, yielded, hs, Option.bind_some]
    have hget : a.tmps[s]? = some (a.tmps.getD s undef) := by
      rw [Array.getD_eq_getD_getElem?, Array.getElem?_eq_getElem (by omega)]; rfl
    rw [hget]
    split at hw
    · rename_i y hy
      rw [hy] at hE'
      simp only [Option.some.injEq] at hw
      cases hv : a.tmps.getD s undef <;> rw [hv] at hE' <;> cases hE'
      simp [← hw]
    · rename_i hy
      rw [hy] at hE'
      simp only [Option.some.injEq] at hw
      subst hw
      cases hv : a.tmps.getD s undef <;> rw [hv] at hE' <;> try (cases hE'; done)
      simp
    · simp at hw

/-- A row of operations, in the order of the text. -/
theorem ops_sound {C : Oracle} {tp : TP} (hC : OracleOk P C) (hm : MethsOk P tp) {n : Nat} {ops : Array Oper} {B : Nat} {Q : Exit → Act → World → Prop} : ∀ (l : List Oper) (ts : List TO) (i : Nat) (M : Mp) (w : World) (h h' : AH) (e e' : Env) (a : Act),
    (∀ j, l[j]? = ops[i + j]?) → compOs P n ops l = some ts → evOps tp C ts e h = some (e', h') → Rel M B w h e a n →
    (∀ M' a' w', Rel M' B w' h' e' a' n → Goes M M' h h' → Below B w w' → Q .normal a' w') → wpOps P ops Q (List.range' i l.length) a w
  | [], ts, i, M, w, h, h', e, e', a, _, hc, he, hr, hQ => by
    simp [compOs] at hc
    subst hc
    simp [evOps] at he
    obtain ⟨rfl, rfl⟩ := he
    simpa [wpOps] using hQ M a w hr (Goes.refl M h) (Below.refl B w)
  | o :: l, ts, i, M, w, h, h', e, e', a, hl, hc, he, hr, hQ => by
    simp only [compOs, Option.bind_eq_some_iff, Option.map_eq_some_iff] at hc
    obtain ⟨t, ht, ts', hts, rfl⟩ := hc
    obtain ⟨hco, hg, hd, hdk, hlt⟩ := compO_some ht
    have hi : ops[i]? = some o := by simpa using (hl 0).symm
    have hl' : ∀ j, l[j]? = ops[i + 1 + j]? := fun j => by have := hl (j + 1); simpa [Nat.add_assoc, Nat.add_comm 1 j] using this
    simp only [List.length_cons, List.range'_succ, wpOps, hi]
    simp only [evOps] at he
    cases hw : wantedT e t.g with
    | none => simp [hw] at he
    | some b =>
      have hwant := wanted_sound (P := P) ht (fun s x hs => hr.env s) hr.size hw
      rw [hwant]
      simp only [hw] at he
      cases b with
      | true =>
        simp only [if_true]
        obtain ⟨q, hq, he⟩ := bind_some he
        left
        refine run1_sound hC hm hr.env hr.sim hco hq (fun x w' M' hdone => ?_)
        have hr' := hr.put hdk hdone
        rw [← hd] at hr' ⊢
        exact ops_sound hC hm l ts' (i + 1) M' w' q.2 h' _ e' _ hl' hts he hr' (fun M'' a'' w'' r'' g'' b'' => hQ M'' a'' w'' r'' (hdone.goes.trans g'') (hdone.below.trans b''))
      | false =>
        simp only [Bool.false_eq_true, if_false]
        have hr' := hr.put hdk (Done.same (v := .tup []) (x := undef) hr.sim trivial (.tup _ _ .nil))
        rw [← hd] at hr' ⊢
        exact ops_sound hC hm l ts' (i + 1) M w h h' _ e' _ hl' hts he hr' hQ
end
end Go.Ab
