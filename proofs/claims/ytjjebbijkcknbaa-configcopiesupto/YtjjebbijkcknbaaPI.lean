/- Part of the proof that ConfigCopies returns true for every input of the second form's bound (no other condition). -/
import Derived.Test.YtjjebbijkcknbaaPH
set_option linter.all false
namespace Go.Ab.T
open Go Go.Ab
set_option maxHeartbeats 1000000
/-! Plain laws: when a configuration is right. -/
def PtOk (n : Int) (T : List Node) : Prop := ∀ x ∈ T, 0 ≤ x.part ∧ x.part < n
theorem PtOk.one {n : Int} {x : Node} (h0 : 0 ≤ x.part) (h : x.part < n) : PtOk n [x] := fun y hy => by
  rw [List.mem_singleton] at hy; subst hy; exact ⟨h0, h⟩
theorem PtOk.app {n : Int} {A B : List Node} (a : PtOk n A) (b : PtOk n B) : PtOk n (A ++ B) := fun y hy => by
  rcases List.mem_append.1 hy with h | h
  · exact a y h
  · exact b y h
theorem PtOk.cons {n : Int} {x : Node} {B : List Node} (h0 : 0 ≤ x.part) (h : x.part < n) (b : PtOk n B) : PtOk n (x :: B) := PtOk.app (PtOk.one h0 h) b
theorem Fo.runs_part {n : Int} (hn : 1 ≤ n) : ∀ (f : Fo), PtOk n f.flat → ∀ r ∈ f.runs, r.part < n
  | .nil, h, r, hr => by simp [Fo.runs] at hr
  | .leaf x f, h, r, hr => by
    simp only [Fo.runs, List.mem_cons] at hr
    simp only [Fo.flat] at h
    rcases hr with rfl | hr
    · have := h x (List.mem_cons_self ..)
      simp only [partR]; split <;> omega
    · exact Fo.runs_part hn f (fun y hy => h y (List.mem_cons_of_mem _ hy)) r hr
  | .seq x k f, h, r, hr => by
    simp only [Fo.runs, List.mem_append] at hr
    simp only [Fo.flat] at h
    rcases hr with hr | hr
    · exact Fo.runs_part hn k (fun y hy => h y (List.mem_cons_of_mem _ (List.mem_append_left _ hy))) r hr
    · exact Fo.runs_part hn f (fun y hy => h y (List.mem_cons_of_mem _ (List.mem_append_right _ hy))) r hr
  | .rep x k f, h, r, hr => by
    simp only [Fo.runs, List.mem_append] at hr
    simp only [Fo.flat] at h
    rcases hr with hr | hr
    · rw [List.mem_flatten] at hr
      obtain ⟨l, hl, hr⟩ := hr
      rw [List.mem_replicate] at hl
      obtain ⟨_, rfl⟩ := hl
      exact Fo.runs_part hn k (fun y hy => h y (List.mem_cons_of_mem _ (List.mem_append_left _ hy))) r hr
    · exact Fo.runs_part hn f (fun y hy => h y (List.mem_cons_of_mem _ (List.mem_append_right _ hy))) r hr
def TabOk (n : Int) (T : List Node) : Prop := (ofR T).2 = 0 ∧ ∀ r ∈ (ofR T).1, r.part < n
theorem TabOk.of {n : Int} (hn : 1 ≤ n) {T : List Node} (h : (ofR T).2 = 0) (hp : PtOk n T) : TabOk n T := by
  refine ⟨h, ?_⟩
  by_cases hr : rightR T = 0
  · rw [ofR_good hr] at h ⊢
    obtain ⟨_, ho, hc1, hL, hd, hl⟩ := foOf_ok hr
    split at h
    · simp at h
    · rename_i h96
      rw [if_neg h96]
      intro r hr
      have hap := Fo.runs_allpos _ ho
      have hsum := Fo.runs_sum _ ho
      have ht := tidyOf hap (by omega)
      obtain ⟨q, hq, e⟩ := ht.parts r hr
      rw [← e]
      exact Fo.runs_part hn _ (by rw [← hL]; exact hp) q hq
  · rw [ofR_bad hr] at h
    exact absurd h hr
theorem TabOk.right {n : Int} {T : List Node} (h : TabOk n T) : rightR T = 0 := by
  by_cases hr : rightR T = 0
  · exact hr
  · have := h.1; rw [ofR_bad hr] at this; exact absurd this hr
theorem TabOk.ne {n : Int} {T : List Node} (h : TabOk n T) : 0 < T.length := by
  obtain ⟨_, f, ho, hc, rfl, _⟩ := (right_iff T).1 h.right
  exact Fo.flat_pos hc
def litT (p : Int) : List Node := [⟨3, 0, 2⟩, ⟨1, p, 3⟩, ⟨2, 0, 2⟩]
theorem lit_ok {n p : Int} (hn : 1 ≤ n) (h6 : n ≤ 6) (h0 : 0 ≤ p) (hp : p < n) : TabOk n (litT p) := by
  refine TabOk.of hn ?_ (PtOk.cons (by simp) (by simp; omega) (PtOk.cons (by simp; omega) (by simp; omega) (PtOk.one (by simp) (by simp; omega))))
  have k1 : kids ⟨1, p, 3⟩ = 0 := by unfold kids; rw [if_neg (by simp), if_pos (by simp; omega)]
  have e : litT p = (Fo.seq ⟨3, 0, 2⟩ (.leaf ⟨1, p, 3⟩ (.leaf ⟨2, 0, 2⟩ .nil)) .nil).flat := rfl
  have hr : rightR (litT p) = 0 := by
    rw [e]
    refine right_flat ⟨rfl, rfl, by simp [Fo.count], ⟨k1, rfl, trivial⟩, trivial⟩ rfl (by simp [Fo.depth]) (by simp [Fo.len]) (by simp [Fo.flat])
  rw [ofR_good hr]
  obtain ⟨hl128, ho, hc1, hL, hd, hl⟩ := foOf_ok hr
  have hap := Fo.runs_allpos _ ho
  have hsum := Fo.runs_sum _ ho
  have ht := tidyOf hap (by omega)
  have h1 : ((foOf (litT p)).runs.length : Int) ≤ sumN (foOf (litT p)).runs := by
    have : ∀ {w : List Run}, AllPos w → (w.length : Int) ≤ sumN w := by
      intro w
      induction w with
      | nil => intro _; simp [sumN]
      | cons a l ih =>
        intro h
        have := ih (fun r hr => h r (List.mem_cons_of_mem _ hr))
        have := h a (List.mem_cons_self ..)
        simp only [sumN, List.length_cons]; omega
    exact this hap
  have hlen : (foOf (litT p)).len = 5 := by
    obtain ⟨f, hf, he, hc⟩ : ∃ f : Fo, f.ok ∧ f.flat = litT p ∧ f.len = (foOf (litT p)).len := ⟨_, ho, hL.symm, rfl⟩
    have m1 := (measured_flat ho hc1).2
    have m2 := (measured_flat (f := Fo.seq ⟨3, 0, 2⟩ (.leaf ⟨1, p, 3⟩ (.leaf ⟨2, 0, 2⟩ .nil)) .nil) ⟨rfl, rfl, by simp [Fo.count], ⟨k1, rfl, trivial⟩, trivial⟩ rfl).2
    rw [← hL] at m1
    rw [← e] at m2
    rw [m1] at m2
    have l2 : (Fo.seq ⟨3, 0, 2⟩ (.leaf ⟨1, p, 3⟩ (.leaf ⟨2, 0, 2⟩ .nil)) .nil).len = 5 := rfl
    rw [l2] at m2
    omega
  rw [if_neg (by unfold ofT; have := ht.len; omega)]
/-! Lateness is no longer than a frame. -/
theorem nxR_le {tt : List Span} {n t : Int} (hs : Sorted 0 tt n) (hne : tt ≠ []) (h0 : 0 ≤ t) (hn : n ≤ 4096) : nxR tt t n - t ≤ 4096 := by
  unfold nxR
  rcases nxGo_cases (t := t) hs with ⟨h1, h2⟩ | ⟨s, h1, h2, h3, h4⟩
  · rw [h1]
    match tt, hne with
    | a :: l, _ =>
      have := hs.mem (List.mem_cons_self ..)
      have := h2 a (List.mem_cons_self ..)
      simp only [nth, List.getD_cons_zero]
      omega
  · rw [h2]
    have := hs.mem h1
    simp only; omega
theorem lateP_le {tt : List Span} {n : Int} (hs : Sorted 0 tt n) (hne : tt ≠ []) (hn : n ≤ 4096) : ∀ (l : List Span) (w : Int), w ≤ 4096 → (∀ s ∈ l, 0 ≤ s.s ∧ s.s < s.e) → lateP tt n l w ≤ 4096
  | [], w, hw, _ => hw
  | s :: l, w, hw, h => by
    rw [lateP]
    have hh := h s (List.mem_cons_self ..)
    have a := nxR_le hs hne (t := s.s) (by omega) hn
    have b := nxR_le hs hne (t := s.e - 1) (by omega) hn
    exact lateP_le hs hne hn l _ (by omega) (fun x hx => h x (List.mem_cons_of_mem _ hx))
theorem lateR_le {L : List Run} {f t : Int} (hf : Frm L) : lateR L f t ≤ 4096 := by
  unfold lateR
  split
  · omega
  · split
    · omega
    · rename_i h2
      have s1 := spGo_sorted (p := t) (a := 0) hf.1
      have s2 := spGo_sorted (p := f) (a := 0) hf.1
      rw [Int.zero_add] at s1 s2
      exact lateP_le s1 h2 hf.2 _ _ (by omega) (fun s hs => by have := s2.mem hs; omega)
/-! When all is right. -/
theorem whTabs_iff {C : Config} : ∀ (l : List (List Node)) (i : Nat), whTabs C i l = (0, -1) ↔ ∀ t ∈ l, tableR C t = 0
  | [], i => by simp [whTabs]
  | t :: l, i => by
    rw [whTabs]
    split
    · rename_i h; simp [h]
    · rename_i h; rw [whTabs_iff l]; simp at h; simp [h]
theorem whChans_iff {C : Config} : ∀ (l : List Chan) (i : Nat), whChans C i l = (0, -1) ↔ (∀ x ∈ l, chanB C.parts.length x = true) ∧ ∀ t ∈ C.tables, tableR C t = 0
  | [], i => by simp [whChans, whTabs_iff]
  | x :: l, i => by
    rw [whChans]
    split
    · rename_i h; simp [h]
    · rename_i h; rw [whChans_iff l]; simp at h; simp [h]
def GoodP (P : List Part) (j : Nat) : Prop := nameB (nth P j).name = true ∧ (P.take j).any (fun q => decide (q.name = (nth P j).name)) = false ∧ partB (nth P j) = true
theorem whParts_iff {C : Config} : ∀ (l : List Part) (i : Nat), l = C.parts.drop i → (whParts C i l = (0, -1) ↔ (∀ j, i ≤ j → j < C.parts.length → GoodP C.parts j) ∧ (∀ x ∈ C.chans, chanB C.parts.length x = true) ∧ ∀ t ∈ C.tables, tableR C t = 0)
  | [], i, hl => by
    have : C.parts.length ≤ i := List.drop_eq_nil_iff.1 hl.symm
    rw [whParts, whChans_iff]
    constructor
    · intro h; exact ⟨fun j h1 h2 => by omega, h⟩
    · intro h; exact h.2
  | p :: l, i, hl => by
    have hi : i < C.parts.length := by
      rcases Nat.lt_or_ge i C.parts.length with h | h
      · exact h
      · rw [List.drop_eq_nil_of_le h] at hl; cases hl
    rw [drop_nth hi] at hl
    injection hl with h1 h2
    subst h1
    rw [whParts]
    split
    · rename_i h
      constructor
      · intro h'; simp at h'
      · intro h'
        have g := h'.1 i (Nat.le_refl _) hi
        rw [g.1, g.2.1] at h; simp at h
    · rename_i h
      split
      · rename_i h3
        constructor
        · intro h'; simp at h'
        · intro h'
          have g := h'.1 i (Nat.le_refl _) hi
          rw [g.2.2] at h3; simp at h3
      · rename_i h3
        rw [whParts_iff l (i + 1) h2]
        simp only [not_or, Bool.not_eq_false, Bool.not_eq_true] at h h3
        constructor
        · intro h'
          refine ⟨fun j hj1 hj2 => ?_, h'.2⟩
          by_cases e : j = i
          · subst e; exact ⟨h.1, h.2, h3⟩
          · exact h'.1 j (by omega) hj2
        · intro h'
          exact ⟨fun j hj1 hj2 => h'.1 j (by omega) hj2, h'.2⟩
theorem where_iff {C : Config} : whereR C = (0, -1) ↔ (1 ≤ C.parts.length ∧ C.parts.length ≤ 6 ∧ C.chans.length ≤ 8 ∧ 1 ≤ C.tables.length ∧ C.tables.length ≤ 3) ∧ (∀ j, j < C.parts.length → GoodP C.parts j) ∧ (∀ x ∈ C.chans, chanB C.parts.length x = true) ∧ ∀ t ∈ C.tables, tableR C t = 0 := by
  unfold whereR
  split
  · rename_i h
    constructor
    · intro h'; simp at h'
    · intro h'; omega
  · rename_i h
    rw [whParts_iff _ 0 (by simp)]
    constructor
    · intro h'; exact ⟨by omega, fun j hj => h'.1 j (by omega) hj, h'.2⟩
    · intro h'; exact ⟨fun j _ hj => h'.2.1 j hj, h'.2.2⟩
theorem tableR_iff {C : Config} {T : List Node} : tableR C T = 0 ↔ TabOk C.parts.length T ∧ holdsR C (ofR T).1 = 0 := by
  unfold tableR TabOk
  split
  · rename_i h; simp [h]
  · rename_i h
    split
    · rename_i h2
      rw [List.any_eq_true] at h2
      obtain ⟨r, h3, h4⟩ := h2
      constructor
      · intro h'; simp at h'
      · intro h'
        have := h'.1.2 r h3
        simp at h4; omega
    · rename_i h2
      simp only [List.any_eq_true, not_exists, not_and] at h2
      constructor
      · intro h'; exact ⟨⟨by omega, fun r hr => by have := h2 r hr; simp at this; omega⟩, h'⟩
      · intro h'; exact h'.2
theorem holdsR_iff {C : Config} {L : List Run} : holdsR C L = 0 ↔ C.chans.any (chLate L) = false ∧ ptShort L 0 C.parts = false := by
  unfold holdsR
  split
  · rename_i h; simp [h]
  · rename_i h; simp only [Bool.not_eq_true] at h
    split
    · rename_i h2; simp [h2]
    · rename_i h2; simp only [Bool.not_eq_true] at h2; simp [h, h2]
theorem ptShort_zero {L : List Run} : ∀ (l : List Part) (i : Nat), (∀ p ∈ l, p.budget = 0) → ptShort L i l = false
  | [], i, h => rfl
  | p :: l, i, h => by
    rw [ptShort, ptShort_zero l (i + 1) (fun q hq => h q (List.mem_cons_of_mem _ hq)), h p (List.mem_cons_self ..)]
    simp
end Go.Ab.T
namespace Go.Ab.T
open Go Go.Ab
set_option maxHeartbeats 2000000
theorem Sl.new {b : Nat} {h : AH} {sz : Nat} {N : List (List V)} (hb : b ≤ h.next) (hN : N.length < 4294967296) : Sl b (h.alloc ⟨sz, N⟩) sz (.sl h.next 0 N.length N.length) N :=
  .inr ⟨h.next, 0, N.length, N, rfl, by simp [AH.alloc], by simp, by simp, Nat.le_refl _, by simp [AH.alloc], hb, hN⟩
theorem one_frz {m nx i : Nat} {h : AH} {x : Node} (hi : i = h.next) (hb : m ≤ i) : Frz (m ≤ ·) (h.alloc ⟨3, [x.enc]⟩) nx (.sl i 0 1 1) (.fl 3 ([x].map Node.enc)) := by
  subst hi
  exact Sl.froze (b := m) (L := [x]) (Sl.new hb (by simp)) (fun _ => rfl) hb (by simp)
theorem Sl.frzb {α : Type} {enc : α → List V} {b nx : Nat} {h : AH} {sz : Nat} {v : V} {L : List α} (s : Sl b h sz v (L.map enc)) (he : ∀ a, (enc a).all stay = true) (hL : L.length < 4000000000) : Frz (b ≤ ·) h nx v (.fl sz (L.map enc)) := by
  rcases sl_own s with hn | hn
  · rcases s with ⟨hv, hR⟩ | ⟨i, el, cap, cs, rfl, _⟩
    · rw [hR]; rcases hv with rfl | rfl
      · exact .ns _ _
      · exact .e0 _ _
    · cases hn
  · exact s.froze he hn hL
theorem pow5 (d : Nat) : 1 ≤ 5 ^ d := Nat.pos_of_ne_zero (by simp)
theorem ttable_ev {n : Int} {L : List Int} {id : Nat} (hn : 1 ≤ n) (hn2 : n ≤ 1073741824) (hL : L.length < 4000000000) : ∀ (d : Nat), d ≤ 4 → ∀ {h : AH} {k : Nat} {K : V → AH → Prop}, h.get id = some (tapeB L k) → k ≤ L.length → h.lim ≤ id →
    (∀ T j, PtOk n T → T.length ≤ 5 ^ d → j ≤ L.length → K (.fl 3 (T.map Node.enc)) (h.put id (tapeB L j))) → Cq tp i_Q44 [.p id 0 0, .i .i64 n, .i .i64 d] h K := by
  intro d
  induction d with
  | zero =>
    intro _ h k K hg hk hlo kk
    refine Cq_tape fn_Q44 (by simp [t_Q44]) hg fun hlm hid rp => ?_
    unfold t_Q44
    simp (disch := omega) only [go_sem, *]
    refine tnext_ev hg hk hL hlo ?_
    intro v j h0 h1 h2 hj
    simp (disch := omega) only [go_sem, *]
    have hg1 : (h.put id (tapeB L j)).get id = some (tapeB L j) := by simp (disch := omega) only [go_sem, *]
    refine Wb_dec (fun hc => ?_) (fun hc => ?_)
    · simp (disch := omega) only [go_sem, *]
      refine tnext_ev hg1 hj hL hlo ?_
      intro v2 j2 h20 h21 h22 hj2
      simp (disch := omega) only [go_sem, *]
      exact ⟨.fl 3 ([(⟨2, 0, 1 + v2⟩ : Node)].map Node.enc), j2, one_frz (x := ⟨2, 0, 1 + v2⟩) rfl (Nat.le_refl _), upd_alloc (upd_put (Upd.same hg)) hid, kk _ _ (PtOk.one (by simp) (by simp; omega)) (by simp) hj2⟩
    · simp (disch := omega) only [go_sem, *]
      refine tnext_ev hg1 hj hL hlo ?_
      intro v2 j2 h20 h21 h22 hj2
      have hg2 : (h.put id (tapeB L j2)).get id = some (tapeB L j2) := by simp (disch := omega) only [go_sem, *]
      simp (disch := omega) only [go_sem, *]
      refine tnext_ev hg2 hj2 hL hlo ?_
      intro v3 j3 h30 h31 h32 hj3
      simp (disch := omega) only [go_sem, *]
      exact ⟨.fl 3 ([(⟨1, v2, 1 + v3⟩ : Node)].map Node.enc), j3, one_frz (x := ⟨1, v2, 1 + v3⟩) rfl (Nat.le_refl _), upd_alloc (upd_put (Upd.same hg)) hid, kk _ _ (PtOk.one (by simp; omega) (by simp; omega)) (by simp) hj3⟩
  | succ d ihd =>
    intro hd h k K hg hk hlo kk
    have hp := pow5 d
    have hpe : 5 ^ (d + 1) = 5 * 5 ^ d := by rw [Nat.pow_succ]; omega
    have hpd : 5 ^ d ≤ 125 := Nat.pow_le_pow_right (n := 5) (by omega) (show d ≤ 3 by omega)
    rw [hpe] at kk
    clear hpe
    refine Cq_tape fn_Q44 (by simp [t_Q44]) hg fun hlm hid rp => ?_
    unfold t_Q44
    simp (disch := omega) only [go_sem, *]
    refine tnext_ev hg hk hL hlo ?_
    intro v j h0 h1 h2 hj
    simp (disch := omega) only [go_sem, *]
    have hg1 : (h.put id (tapeB L j)).get id = some (tapeB L j) := by simp (disch := omega) only [go_sem, *]
    refine Wg_dec (fun hc => absurd hc (by omega)) (fun hc => ?_)
    simp (disch := omega) only [go_sem, *]
    refine Wb_dec (fun hc => ?_) (fun hc => ?_)
    · simp (disch := omega) only [go_sem, *]
      refine Wb_dec (fun hc2 => ?_) (fun hc2 => ?_)
      · simp (disch := omega) only [go_sem, *]
        refine tnext_ev hg1 hj hL hlo ?_
        intro v2 j2 h20 h21 h22 hj2
        simp (disch := omega) only [go_sem, *]
        exact ⟨.fl 3 ([(⟨2, 0, 1 + v2⟩ : Node)].map Node.enc), j2, one_frz (x := ⟨2, 0, 1 + v2⟩) rfl (Nat.le_refl _), upd_alloc (upd_put (Upd.same hg)) hid, kk _ _ (PtOk.one (by simp) (by simp; omega)) (by simp; omega) hj2⟩
      · simp (disch := omega) only [go_sem, *]
        refine tnext_ev hg1 hj hL hlo ?_
        intro v2 j2 h20 h21 h22 hj2
        have hg2 : (h.put id (tapeB L j2)).get id = some (tapeB L j2) := by simp (disch := omega) only [go_sem, *]
        simp (disch := omega) only [go_sem, *]
        refine tnext_ev hg2 hj2 hL hlo ?_
        intro v3 j3 h30 h31 h32 hj3
        simp (disch := omega) only [go_sem, *]
        exact ⟨.fl 3 ([(⟨1, v2, 1 + v3⟩ : Node)].map Node.enc), j3, one_frz (x := ⟨1, v2, 1 + v3⟩) rfl (Nat.le_refl _), upd_alloc (upd_put (Upd.same hg)) hid, kk _ _ (PtOk.one (by simp; omega) (by simp; omega)) (by simp; omega) hj3⟩
    · simp (disch := omega) only [go_sem, *]
      refine Wb_dec (fun hc2 => ?_) (fun hc2 => ?_)
      · simp (disch := omega) only [go_sem, *]
        refine tnext_ev hg1 hj hL hlo ?_
        intro v2 j2 h20 h21 h22 hj2
        simp (disch := omega) only [go_sem, *]
        have hu := upd_alloc (k := ⟨3, [[.i .i64 4, .i .i64 0, .i .i64 (1 + v2)]]⟩) (upd_put (b' := tapeB L j2) (Upd.same hg)) hid
        have hun := hu.next
        refine ihd (by omega) hu.here hj2 (by simp (disch := omega) only [go_sem, *]) ?_
        intro T j3 hT hTl hj3
        simp (disch := omega) only [go_sem, *]
        have so : Sl h.next ((h.put id (tapeB L j2)).alloc ⟨3, [(⟨4, 0, 1 + v2⟩ : Node)].map Node.enc⟩) 3 (.sl h.next 0 1 1) ([(⟨4, 0, 1 + v2⟩ : Node)].map Node.enc) := Sl.new (Nat.le_refl _) (by simp)
        refine app_rule (so.putx id (tapeB L j3) (by simp only [idV]; omega)) (by simp (disch := omega) only [go_sem, *] <;> omega) (by simp (disch := omega) only [go_sem, *] <;> omega) (by simp; omega) ?_
        intro w h4 s4 g4
        have hu4 := upd_grown (upd_put (b' := tapeB L j3) hu) hid g4 (.inr (Nat.le_refl _))
        simp (disch := omega) only [go_sem, *]
        rw [← List.map_append] at s4
        exact ⟨.fl 3 (([(⟨4, 0, 1 + v2⟩ : Node)] ++ T).map Node.enc), j3, Sl.frzb s4 (fun _ => rfl) (by simp; omega), hu4, kk _ _ (PtOk.app (PtOk.one (by simp) (by simp; omega)) hT) (by simp; omega) hj3⟩
      · simp (disch := omega) only [go_sem, *]
        refine tnext_ev hg1 hj hL hlo ?_
        intro v2 j2 h20 h21 h22 hj2
        obtain ⟨m, rfl⟩ : ∃ m : Nat, v2 = m := ⟨v2.toNat, by omega⟩
        simp (disch := omega) only [go_sem, *]
        have hu := upd_alloc (k := ⟨3, [(⟨3, 0, 1 + m⟩ : Node)].map Node.enc⟩) (upd_put (b' := tapeB L j2) (Upd.same hg)) hid
        have so : Sl h.next ((h.put id (tapeB L j2)).alloc ⟨3, [(⟨3, 0, 1 + m⟩ : Node)].map Node.enc⟩) 3 (.sl h.next 0 1 1) ([(⟨3, 0, 1 + m⟩ : Node)].map Node.enc) := Sl.new (Nat.le_refl _) (by simp)
        have so2 := so
        simp only [List.map_cons, List.map_nil, Node.enc, tapeB] at hu so2
        refine ZC_loop_n (fun n' e h' => ∃ (i j : Nat) (O : List Node) (o : V), n' = m + 1 - i ∧ h'.lim = h.lim ∧ e 0 = .p id 0 0 ∧ e 1 = .i .i64 n ∧ e 2 = .i .i64 (d + 1) ∧ e 8 = .i .i64 (1 + m) ∧ e 9 = o ∧ e 10 = .i .i64 i ∧ i ≤ m + 1 ∧ j ≤ L.length ∧ Upd h id (tapeB L j) h' ∧ Sl h.next h' 3 o (O.map Node.enc) ∧ PtOk n O ∧ O.length ≤ 1 + i * 5 ^ d) ?_ _ _ _ ⟨0, j2, [⟨3, 0, 1 + m⟩], .sl h.next 0 1 1, rfl, ?_⟩
        · rintro n' e h' ⟨i, j, O, o, rfl, hl', e0, e1, e2, e8, e9, e10, hi, hj, hu, so, hO, hOl⟩ ih
          have hun := hu.next
          have hgu := hu.here
          have hw := sl_own so
          rw [ZC_unf Q44_14.eq_1]
          simp (disch := omega) only [go_sem, *]
          refine Wb_dec (fun hc => ?_) (fun hc => ?_)
          · simp (disch := omega) only [go_sem, *]
            refine ihd (by omega) hu.here hj (by omega) ?_
            intro T j3 hT hTl hj3
            have hi5 : i * 5 ^ d ≤ 3 * 5 ^ d := Nat.mul_le_mul_right _ (by omega)
            have hi6 : (i + 1) * 5 ^ d = i * 5 ^ d + 5 ^ d := Nat.succ_mul _ _
            simp (disch := omega) only [go_sem, *]
            have so3 : Sl h.next (h'.put id (tapeB L j3)) 3 o (O.map Node.enc) := by
              rcases hw with hw | hw
              · rcases so with ⟨a, b⟩ | ⟨_, _, _, _, rfl, _⟩
                · exact .inl ⟨a, b⟩
                · cases hw
              · exact so.putx _ _ (by omega)
            refine app_rule so3 (by simp (disch := omega) only [go_sem, *] <;> omega) (by simp (disch := omega) only [go_sem, *] <;> omega) (by simp; omega) ?_
            intro w h4 s4 g4
            have hl4 := g4.lim
            have hu4 := upd_grown (upd_put (b' := tapeB L j3) hu) hid g4 hw
            simp (disch := omega) only [go_sem, *]
            refine ih _ _ _ ?_ ⟨i + 1, j3, O ++ T, w, rfl, ?_⟩
            · omega
            · simp (disch := omega) only [go_sem, *]
              ((repeat' refine And.intro ?_ ?_) <;> first | omega | assumption | (simpa using s4) | (exact PtOk.app hO hT) | ((simp; omega)))
          · have hi5 : i * 5 ^ d ≤ 4 * 5 ^ d := Nat.mul_le_mul_right _ (by omega)
            simp (disch := omega) only [go_sem, *]
            exact ⟨.fl 3 (O.map Node.enc), j, Sl.frzb so (fun _ => rfl) (by omega), hu, kk _ _ hO (by omega) hj⟩
        · simp (disch := omega) only [go_sem, *]
          ((repeat' refine And.intro ?_ ?_) <;> first | omega | assumption | (exact hu) | (exact so) | (exact PtOk.one (by simp) (by simp; omega)) | (simp))
end Go.Ab.T
namespace Go.Ab.T
open Go Go.Ab
set_option maxHeartbeats 2000000
def totGo : List Run → Int → Int
  | [], a => a
  | r :: l, a => totGo l (addR a r.n)
theorem reftotal_ev {L : List Run} (hb : ∀ r ∈ L, r.n ≤ 9223372036854775807) : Pf tp i_Q46 [.fl 2 (L.map Run.enc)] (.i .i64 (totGo L 0)) := by
  refine Pf_go fn_Q46 (by simp [t_Q46]) fun rp => ?_; unfold t_Q46; simp (disch := omega) only [go_sem, *]
  have hL := rp.head.len
  refine ZC_loop_n (fun n e h => ∃ (i : Nat) (a : Int), n = L.length - i ∧ h.lim = 0 ∧ e 6 = .fl 2 (L.map Run.enc) ∧ e 7 = .i .i64 L.length ∧ e 8 = .i .i64 i ∧ e 3 = .i .i64 a ∧ i ≤ L.length ∧ a ≤ 9223372036854775807 ∧ totGo (L.drop i) a = totGo L 0) ?_ _ _ _ ⟨0, 0, rfl, ?_⟩
  · rintro n e h ⟨i, a, rfl, hl, e6, e7, e8, e3, hi, ha, hz⟩ ih
    rw [ZC_unf Q46_7.eq_1]
    simp (disch := omega) only [go_sem, *]
    refine Wb_dec (fun hc => ?_) (fun hc => ?_)
    · rw [drop_nth (by omega), totGo] at hz
      have hx := hb _ (nth_mem (L := L) (j := i) (by omega))
      have ha2 := addR_big (a := a) (b := (nth L i).n)
      simp (disch := omega) only [go_sem, *]
      refine Pf.go (sum_ev (a := a) (b := (nth L i).n) ha hx) (by simp only [go_sem]) fun _ => ?_; simp (disch := omega) only [go_sem, *]
      refine ih _ _ _ ?_ ⟨i + 1, addR a (nth L i).n, rfl, ?_⟩
      · omega
      · simp (disch := omega) only [go_sem, *]
        ((repeat' refine And.intro ?_ ?_) <;> first | omega | assumption)
    · rw [List.drop_eq_nil_of_le (by omega), totGo] at hz
      simp (disch := omega) only [go_sem, *]
  · simp (disch := omega) only [go_sem, *]
theorem frm_big {L : List Run} (hf : Frm L) : ∀ r ∈ L, r.n ≤ 9223372036854775807 := by
  obtain ⟨h1, h2⟩ := hf
  induction L with
  | nil => intro r hr; cases hr
  | cons a l ih =>
    intro r hr
    have hp := sumN_pos (w := l) (fun x hx => h1 x (List.mem_cons_of_mem _ hx))
    have ha := h1 a (List.mem_cons_self ..)
    simp only [sumN] at h2
    rcases List.mem_cons.1 hr with rfl | hr
    · omega
    · exact ih (fun x hx => h1 x (List.mem_cons_of_mem _ hx)) (by omega) r hr
theorem frame_ev {n : Int} {L : List Int} {id : Nat} (hn : 1 ≤ n) (hn6 : n ≤ 6) (hL : L.length < 4000000000) {h : AH} {k : Nat} {K : V → AH → Prop} (hg : h.get id = some (tapeB L k)) (hk : k ≤ L.length) (hlo : h.lim ≤ id)
    (kk : ∀ T j, TabOk n T → T.length ≤ 625 → j ≤ L.length → K (.fl 3 (T.map Node.enc)) (h.put id (tapeB L j))) : Cq tp i_Q21 [.p id 0 0, .i .i64 n] h K := by
  refine Cq_tape fn_Q21 (by simp [t_Q21]) hg fun hlm hid rp => ?_
  unfold t_Q21
  simp (disch := omega) only [go_sem, *]
  refine ttable_ev hn (by omega) hL 4 (by omega) hg hk hlo ?_
  intro T j hT hTl hj
  have hg1 : (h.put id (tapeB L j)).get id = some (tapeB L j) := by simp (disch := omega) only [go_sem, *]
  have hf := ofR_frm (L := T)
  have lit : ∀ v2 j2 x, 0 ≤ v2 → v2 < n → j2 ≤ L.length → x = h.next → ∃ R j3, Frz (h.next ≤ ·) ((h.put id (tapeB L j2)).alloc ⟨3, [[.i .i64 3, .i .i64 0, .i .i64 2], [.i .i64 1, .i .i64 v2, .i .i64 3], [.i .i64 2, .i .i64 0, .i .i64 2]]⟩) h.next (.sl x 0 3 3) R ∧ Upd h id (tapeB L j3) ((h.put id (tapeB L j2)).alloc ⟨3, [[.i .i64 3, .i .i64 0, .i .i64 2], [.i .i64 1, .i .i64 v2, .i .i64 3], [.i .i64 2, .i .i64 0, .i .i64 2]]⟩) ∧ K R (h.put id (tapeB L j3)) := by
    rintro v2 j2 x h0 h1 h2 rfl
    have s0 : Sl h.next ((h.put id (tapeB L j2)).alloc ⟨3, (litT v2).map Node.enc⟩) 3 (.sl h.next 0 3 3) ((litT v2).map Node.enc) := Sl.new (Nat.le_refl _) (by simp [litT])
    exact ⟨_, j2, Sl.frzb s0 (fun _ => rfl) (by simp [litT]), upd_alloc (upd_put (Upd.same hg)) hid, kk _ j2 (lit_ok hn hn6 h0 h1) (by simp [litT]) h2⟩
  simp only [tapeB] at lit
  simp (disch := omega) only [go_sem, *]
  refine Pf.go (refOf_ev) (by simp only [go_sem]) fun _ => ?_; simp (disch := omega) only [go_sem, *]
  repeat' (first | (refine Wg_dec (fun hc => ?_) (fun hc => ?_) <;> simp (disch := omega) only [go_sem, *]) | (refine Wb_dec (fun hc => ?_) (fun hc => ?_) <;> simp (disch := omega) only [go_sem, *]) | (refine Wg_of (fun hc => ?_) (fun hc => ?_) <;> simp (disch := omega) only [go_sem, *]) | (refine Wb_of (fun hc => ?_) (fun hc => ?_) <;> simp (disch := omega) only [go_sem, *]) | (refine Pf.go (reftotal_ev (frm_big hf)) (by simp only [go_sem]) fun _ => ?_; simp (disch := omega) only [go_sem, *]))
  all_goals first
    | (refine tnext_ev hg1 hj hL hlo ?_; intro v2 j2 h20 h21 h22 hj2; (have h23 : v2 < n := by omega); simp (disch := omega) only [go_sem, *])
    | (have h0 : (ofR T).2 = 0 := by omega
       exact ⟨_, j, .fl _ _ _, upd_put (Upd.same hg), kk T j (TabOk.of hn h0 hT) (by omega) hj⟩)
end Go.Ab.T
namespace Go.Ab.T
open Go Go.Ab
set_option maxHeartbeats 2000000
@[go_sem] def RT.enc (r : List Run) : List V := [.fl 2 (r.map Run.enc)]
theorem Sl.sameV {b sz : Nat} {h : AH} {v : V} {R : List (List V)} (s : Sl b h sz v R) : sameV v v = true := by
  rcases s with ⟨hv, _⟩ | ⟨i, el, cap, cs, rfl, _⟩
  · rcases hv with rfl | rfl <;> rfl
  · exact Go.Ab.sameV_sl
structure Ask (b id : Nat) (L : List Int) (vp vc : V) (T : List (List Node)) (h h' : AH) (P : List Part) (Ch : List Chan) (j : Nat) : Prop where
  next : h.next + 2 ≤ h'.next
  lim : h'.lim = h.lim
  tape : h'.get id = some (tapeB L j)
  jl : j ≤ L.length
  box : h'.get h.next = some ⟨3, [[vp, vc, .fl 1 (T.map Tab.enc)]]⟩
  res : h'.get (h.next + 1) = some ⟨3, [[.ns, .ns, .ns]]⟩
  low : ∀ i, i < b → i ≠ id → h'.get i = h.get i
  sp : Sl b h' 11 vp (P.map Part.enc)
  sc : Sl b h' 6 vc (Ch.map Chan.enc)
  pl : nilV vp = true ∨ idV vp < h.next
  cl : nilV vc = true ∨ idV vc < h.next
  dj : nilV vp = true ∨ nilV vc = true ∨ idV vp ≠ idV vc
theorem sl_put {b sz : Nat} {h : AH} {v : V} {R : List (List V)} (s : Sl b h sz v R) (i : Nat) (k : Blk) (hi : nilV v = true ∨ i ≠ idV v) : Sl b (h.put i k) sz v R := by
  rcases hi with hi | hi
  · rcases s with ⟨a, c⟩ | ⟨_, _, _, _, rfl, _⟩
    · exact .inl ⟨a, c⟩
    · cases hi
  · exact s.putx _ _ hi
section
variable {b id : Nat} {L : List Int} {vp vc : V} {T : List (List Node)} {h h' : AH} {P : List Part} {Ch : List Chan} {j : Nat}
theorem Ask.ext {h2 : AH} (a : Ask b id L vp vc T h h' P Ch j) (hb : b ≤ h.next) (hid : id < b) (x : Ext h' h2) : Ask b id L vp vc T h h2 P Ch j := by
  have n1 := a.next; have n2 := x.next
  exact ⟨by omega, x.lim.trans a.lim, (x.get _ (by omega)).trans a.tape, a.jl, (x.get _ (by omega)).trans a.box, (x.get _ (by omega)).trans a.res, fun i hi hn => (x.get i (by omega)).trans (a.low i hi hn), a.sp.ext x, a.sc.ext x, a.pl, a.cl, a.dj⟩
theorem Ask.tape2 {j2 : Nat} (a : Ask b id L vp vc T h h' P Ch j) (hb : b ≤ h.next) (hid : id < b) (hj : j2 ≤ L.length) : Ask b id L vp vc T h (h'.put id (tapeB L j2)) P Ch j2 := by
  have n1 := a.next
  refine ⟨n1, a.lim, by rw [get_put, gsel_eq rfl], hj, by rw [get_put, gsel_ne (by omega)]; exact a.box, by rw [get_put, gsel_ne (by omega)]; exact a.res, fun i hi hn => by rw [get_put, gsel_ne hn]; exact a.low i hi hn, sl_put a.sp _ _ ?_, sl_put a.sc _ _ ?_, a.pl, a.cl, a.dj⟩
  · exact (sl_own a.sp).imp (fun x => x) (fun x => by omega)
  · exact (sl_own a.sc).imp (fun x => x) (fun x => by omega)
theorem Ask.chan {i : Nat} (x : Chan) (a : Ask b id L vp vc T h h' P Ch j) (hid : id < b) (hi : i < Ch.length) : Ask b id L vp vc T h (h'.put (idV vc) ⟨6, (csOf h' vc).set (elV vc + i) x.enc⟩) P (Ch.set i x) j := by
  obtain ⟨_, _, lt, lo, _⟩ := a.sc.facts
  have hnil : nilV vc = false := by
    rcases a.sc with ⟨_, hR⟩ | ⟨_, _, _, _, rfl, _⟩
    · have : Ch = [] := by simpa using hR
      subst this; simp at hi
    · rfl
  have l1 := lo (by omega)
  have l2 : idV vc < h.next := by rcases a.cl with q | q; (rw [q] at hnil; cases hnil); exact q
  have l3 : nilV vp = true ∨ idV vp ≠ idV vc := by
    rcases a.dj with q | q | q
    · exact .inl q
    · rw [q] at hnil; cases hnil
    · exact .inr q
  refine ⟨a.next, a.lim, by rw [get_put, gsel_ne (by omega)]; exact a.tape, a.jl, by rw [get_put, gsel_ne (by omega)]; exact a.box, by rw [get_put, gsel_ne (by omega)]; exact a.res, fun i hi hn => by rw [get_put, gsel_ne (by omega)]; exact a.low i hi hn, sl_put a.sp _ _ (l3.imp (fun x => x) (fun x => Ne.symm x)), ?_, a.pl, a.cl, a.dj⟩
  exact Sl.setT a.sc hi (Nat.le_refl _) (by rw [get_put, gsel_eq rfl])
theorem Ask.part {i : Nat} (x : Part) (a : Ask b id L vp vc T h h' P Ch j) (hid : id < b) (hi : i < P.length) : Ask b id L vp vc T h (h'.put (idV vp) ⟨11, (csOf h' vp).set (elV vp + i) x.enc⟩) (P.set i x) Ch j := by
  obtain ⟨_, _, lt, lo, _⟩ := a.sp.facts
  have hnil : nilV vp = false := by
    rcases a.sp with ⟨_, hR⟩ | ⟨_, _, _, _, rfl, _⟩
    · have : P = [] := by simpa using hR
      subst this; simp at hi
    · rfl
  have l1 := lo (by omega)
  have l2 : idV vp < h.next := by rcases a.pl with q | q; (rw [q] at hnil; cases hnil); exact q
  have l3 : nilV vc = true ∨ idV vc ≠ idV vp := by
    rcases a.dj with q | q | q
    · rw [q] at hnil; cases hnil
    · exact .inl q
    · exact .inr (Ne.symm q)
  refine ⟨a.next, a.lim, by rw [get_put, gsel_ne (by omega)]; exact a.tape, a.jl, by rw [get_put, gsel_ne (by omega)]; exact a.box, by rw [get_put, gsel_ne (by omega)]; exact a.res, fun i hi hn => by rw [get_put, gsel_ne (by omega)]; exact a.low i hi hn, ?_, sl_put a.sc _ _ (l3.imp (fun x => x) (fun x => Ne.symm x)), a.pl, a.cl, a.dj⟩
  exact Sl.setT a.sp hi (Nat.le_refl _) (by rw [get_put, gsel_eq rfl])
end
theorem Cq_fix {tp : TP} {f : Nat} {args args' : List V} {h : AH} {K : V → AH → Prop} (id : Nat) (hz : Frzs (· = id) h h.next args args') (z : Cq tp f args' (h.kill id) K) : Cq tp f args h K := by
  intro S m hc args1 c p
  have wf := c.wf
  have st : ∀ r R, Frz (· = id) h h.next r R → Settle h h r (· = id) R (h.kill id) := fun r R f => ⟨Nat.le_refl _, rfl, Nat.le_refl _, fun i k hk => by
    rw [get_kill] at hk
    by_cases hd : i = id
    · rw [gsel_eq hd] at hk; cases hk
    · rw [gsel_ne hd] at hk
      exact ⟨(wf.2 i k hk).1, hd, k.cs, hk, (wf.2 i k hk).2 _ _⟩, f⟩
  obtain ⟨q1, q2, _⟩ := (st .u .u (.z _ _ .u)).ok c c (Adv.refl c) (.u _ .u)
  refine (z _ m hc args1 q1 (Frzs.ok c hz p)).imp ?_
  rintro r1 hc' ⟨r, h', S', m', c', a', q, k⟩
  exact ⟨r, h', S', m', c', q2.trans a', q, k⟩
end Go.Ab.T
namespace Go.Ab.T
open Go Go.Ab
set_option maxHeartbeats 2000000
section
variable {b id : Nat} {L : List Int} {vp vc w : V} {T : List (List Node)} {R : List (List Run)} {h h' : AH} {P : List Part} {Ch : List Chan} {j : Nat}
def Wst (R : List (List Run)) (f t W : Int) : Prop := -1 ≤ W ∧ W ≤ 4096 ∧ (0 ≤ W → ∀ r ∈ R, 0 ≤ lateR r f t ∧ lateR r f t ≤ W)
theorem Wst.neg {R : List (List Run)} {f t : Int} : Wst R f t (-1) := ⟨by omega, by omega, fun h => absurd h (by omega)⟩
theorem Wst.step {R : List (List Run)} {r : List Run} {f t W : Int} (h : Wst R f t W) (h0 : 0 ≤ W) (hl : 0 ≤ lateR r f t) (hl2 : lateR r f t ≤ 4096) : Wst (R ++ [r]) f t (max W (lateR r f t)) := by
  obtain ⟨a, c, d⟩ := h
  refine ⟨by omega, by omega, fun _ x hx => ?_⟩
  rcases List.mem_append.1 hx with hx | hx
  · have := d h0 x hx; omega
  · rw [List.mem_singleton] at hx; subst hx; omega
theorem take_snoc {α : Type} [Inhabited α] {L : List α} {i : Nat} (hi : i < L.length) : L.take (i + 1) = L.take i ++ [nth L i] := by
  rw [List.take_add_one, nth_get hi]; rfl
theorem asks_late {K : Ex → Env → AH → Prop} {i m : Nat} {e : Env} (a : Ask b id L vp vc T h h' P Ch j) (hi : i < Ch.length) (sl : Sl m h' 1 w (R.map RT.enc)) (hR : ∀ r ∈ R, Frm r)
    (e0 : e 0 = .p id 0 0) (e3 : e 3 = .p h.next 0 0) (e4 : e 4 = .p (h.next + 1) 0 0) (e5 : e 5 = w) (e10 : e 10 = .i .i64 i) (e11 : e 11 = .i .i64 0) (e40 : e 40 = vc) (e41 : e 41 = .i .i64 Ch.length) (e42 : e 42 = .i .i64 i) (e45 : e 45 = w) (e46 : e 46 = .i .i64 R.length) (e47 : e 47 = .i .i64 0)
    (kk : ∀ e' W, e' 0 = .p id 0 0 → e' 3 = .p h.next 0 0 → e' 4 = .p (h.next + 1) 0 0 → e' 5 = w → e' 10 = .i .i64 i → e' 11 = .i .i64 W → e' 40 = vc → e' 41 = .i .i64 Ch.length → e' 42 = .i .i64 i → Wst R (nth Ch i).src (nth Ch i).dst W → K (.ex 4) e' h') : ZC tp (.loop Q22_21) e h' K := by
  obtain ⟨clen, cbig, clt, clo, cget, cat, crow, ccell, ccells⟩ := a.sc.facts
  obtain ⟨wlen, wbig, wlt, wlo, wget, wat, wrow, wcell, wcells⟩ := sl.facts
  have hbox := a.box
  have hsv := Sl.sameV a.sc
  refine ZC_loop_n (fun n e hh => ∃ (q : Nat) (W : Int), n = R.length - q ∧ hh = h' ∧ e 0 = .p id 0 0 ∧ e 3 = .p h.next 0 0 ∧ e 4 = .p (h.next + 1) 0 0 ∧ e 5 = w ∧ e 10 = .i .i64 i ∧ e 11 = .i .i64 W ∧ e 40 = vc ∧ e 41 = .i .i64 Ch.length ∧ e 42 = .i .i64 i ∧ e 45 = w ∧ e 46 = .i .i64 R.length ∧ e 47 = .i .i64 q ∧ q ≤ R.length ∧ Wst (R.take q) (nth Ch i).src (nth Ch i).dst W) ?_ _ _ _ ⟨0, 0, rfl, rfl, e0, e3, e4, e5, e10, e11, e40, e41, e42, e45, e46, e47, by omega, by omega, by omega, fun _ r hr => by simp at hr⟩
  clear e0 e3 e4 e5 e10 e11 e40 e41 e42 e45 e46 e47 e
  rintro n e hh ⟨q, W, rfl, rfl, e0, e3, e4, e5, e10, e11, e40, e41, e42, e45, e46, e47, hq, hW⟩ ih
  rw [ZC_unf Q22_21.eq_1]
  simp (disch := omega) only [go_sem, *]
  refine Wb_dec (fun hc => ?_) (fun hc => ?_)
  · have hf := hR _ (nth_mem (L := R) (j := q) (by omega))
    have hl1 := lateR_le (f := (nth Ch i).src) (t := (nth Ch i).dst) hf
    have hl2 := lateR_cases (nth R q) (nth Ch i).src (nth Ch i).dst
    have hts := take_snoc (L := R) (i := q) (by omega)
    have hstep := fun h0 h1 => hW.step (r := nth R q) h0 h1 hl1
    rw [← hts] at hstep
    clear hts
    simp (disch := omega) only [go_sem, *]
    refine Pf.go (refLate_ev hf) (by simp only [go_sem]) fun _ => ?_; simp (disch := omega) only [go_sem, *]
    repeat' (first | (refine Wg_dec (fun hc => ?_) (fun hc => ?_) <;> simp (disch := omega) only [go_sem, *]) | (refine Wb_dec (fun hc => ?_) (fun hc => ?_) <;> simp (disch := omega) only [go_sem, *]))
    · refine ih _ _ _ ?_ ⟨q + 1, -1, rfl, ?_⟩
      · omega
      · simp (disch := omega) only [go_sem, *]
        ((repeat' refine And.intro ?_ ?_) <;> first | omega | assumption | (exact Wst.neg))
    · refine ih _ _ _ ?_ ⟨q + 1, -1, rfl, ?_⟩
      · omega
      · simp (disch := omega) only [go_sem, *]
        ((repeat' refine And.intro ?_ ?_) <;> first | omega | assumption | (exact Wst.neg))
    · refine ih _ _ _ ?_ ⟨q + 1, max W (lateR (nth R q) (nth Ch i).src (nth Ch i).dst), rfl, ?_⟩
      · omega
      · simp (disch := omega) only [go_sem, *]
        ((repeat' refine And.intro ?_ ?_) <;> first | omega | assumption | (exact hstep (by omega) (by omega)))
  · have eq : q = R.length := by omega
    subst eq
    rw [List.take_length] at hW
    simp (disch := omega) only [go_sem, *]
    exact kk _ W e0 e3 e4 e5 e10 e11 e40 e41 e42 hW
def CO (n : Int) (R : List (List Run)) (x : Chan) : Prop := chanB n x = true ∧ ∀ r ∈ R, chLate r x = false
theorem CO.late {n : Int} {x : Chan} {W t : Int} (c : CO n R x) (hW : Wst R x.src x.dst W) (h0 : 0 < W) (ht : 0 ≤ t) : CO n R { x with late := min (W + t) 4096 } := by
  obtain ⟨w1, w2, w3⟩ := hW
  refine ⟨?_, fun r hr => ?_⟩
  · have := c.1
    unfold chanB at this ⊢
    simp only [Bool.and_eq_true, decide_eq_true_eq] at this ⊢
    exact ⟨by omega, this.2⟩
  · have := w3 (by omega) r hr
    unfold chLate
    simp only [decide_eq_false_iff_not]
    omega
theorem mem_set {α : Type} {l : List α} {i : Nat} {a : α} {p : α → Prop} (h : ∀ x ∈ l, p x) (ha : p a) : ∀ x ∈ l.set i a, p x := fun x hx => by
  rcases List.mem_or_eq_of_mem_set hx with h1 | h1
  · exact h x h1
  · rw [h1]; exact ha
theorem asks_ch {K : Ex → Env → AH → Prop} {n : Int} {e : Env} (hb : b ≤ h.next) (hid : id < b) (hlo : h.lim ≤ id) (hL : L.length < 4000000000) (hR : ∀ r ∈ R, Frm r) (a : Ask b id L vp vc T h h' P Ch j) (sl : Sl (h.next + 2) h' 1 w (R.map RT.enc)) (hC : ∀ x ∈ Ch, CO n R x)
    (e0 : e 0 = .p id 0 0) (e3 : e 3 = .p h.next 0 0) (e4 : e 4 = .p (h.next + 1) 0 0) (e5 : e 5 = w) (e40 : e 40 = vc) (e41 : e 41 = .i .i64 Ch.length) (e42 : e 42 = .i .i64 0)
    (kk : ∀ e' h' Ch' j, e' 0 = .p id 0 0 → e' 3 = .p h.next 0 0 → e' 4 = .p (h.next + 1) 0 0 → e' 5 = w → Ask b id L vp vc T h h' P Ch' j → Sl (h.next + 2) h' 1 w (R.map RT.enc) → (∀ x ∈ Ch', CO n R x) → Ch'.length = Ch.length → K (.ex 2) e' h') : ZC tp (.loop Q22_25) e h' K := by
  refine ZC_loop_n (fun n' e hh => ∃ (q : Nat) (Ch' : List Chan) (j : Nat), n' = Ch.length - q ∧ e 0 = .p id 0 0 ∧ e 3 = .p h.next 0 0 ∧ e 4 = .p (h.next + 1) 0 0 ∧ e 5 = w ∧ e 40 = vc ∧ e 41 = .i .i64 Ch.length ∧ e 42 = .i .i64 q ∧ q ≤ Ch.length ∧ Ch'.length = Ch.length ∧ Ask b id L vp vc T h hh P Ch' j ∧ Sl (h.next + 2) hh 1 w (R.map RT.enc) ∧ (∀ x ∈ Ch', CO n R x)) ?_ _ _ _ ⟨0, Ch, j, rfl, e0, e3, e4, e5, e40, e41, e42, by omega, rfl, a, sl, hC⟩
  clear e0 e3 e4 e5 e40 e41 e42 e a sl hC
  rintro n' e hh ⟨q, Ch', j, rfl, e0, e3, e4, e5, e40, e41, e42, hq, hlen, a, sl, hC⟩ ih
  obtain ⟨clen, cbig, clt, clo, cget, cat, crow, ccell, ccells⟩ := a.sc.facts
  obtain ⟨wlen, wbig, wlt, wlo, wget, wat, wrow, wcell, wcells⟩ := sl.facts
  have hbox := a.box
  rw [ZC_unf Q22_25.eq_1]
  rw [← hlen] at e41
  simp (disch := omega) only [go_sem, *]
  refine Wb_dec (fun hc => ?_) (fun hc => ?_)
  · simp (disch := omega) only [go_sem, *]
    refine asks_late (i := q) a (by omega) sl hR (by simp (disch := omega) only [go_sem, *]) (by simp (disch := omega) only [go_sem, *]) (by simp (disch := omega) only [go_sem, *]) (by simp (disch := omega) only [go_sem, *]) (by simp (disch := omega) only [go_sem, *]) (by simp (disch := omega) only [go_sem, *]) (by simp (disch := omega) only [go_sem, *]) (by simp (disch := omega) only [go_sem, *]) (by simp (disch := omega) only [go_sem, *]) (by simp (disch := omega) only [go_sem, *]) (by simp (disch := omega) only [go_sem, *]) (by simp (disch := omega) only [go_sem, *]) ?_
    clear e0 e3 e4 e5 e40 e41 e42
    intro e' W e0 e3 e4 e5 e10 e11 e40 e41 e42 hW
    simp (disch := omega) only [go_sem, *]
    refine Wg_dec (fun hw => ?_) (fun hw => ?_)
    · simp (disch := omega) only [go_sem, *]
      refine tnext_ev a.tape a.jl hL (by have := a.lim; omega) ?_
      intro v j2 h0 h1 h2 hj2
      have a2 := a.tape2 hb hid hj2
      have sl2 : Sl (h.next + 2) (hh.put id (tapeB L j2)) 1 w (R.map RT.enc) := sl_put sl _ _ ((sl_own sl).imp (fun x => x) (fun x => by omega))
      generalize hh.put id (tapeB L j2) = h2 at a2 sl2 ⊢
      clear clen cbig clt clo cget cat crow ccell ccells wlen wbig wlt wlo wget wat wrow wcell wcells hbox sl
      obtain ⟨clen, cbig, clt, clo, cget, cat, crow, ccell, ccells⟩ := a2.sc.facts
      have hbox := a2.box
      simp (disch := omega) only [go_sem, *]
      refine Wb_dec (fun hc3 => ?_) (fun hc3 => ?_)
      · have hsv := Sl.sameV a2.sc
        simp (disch := omega) only [go_sem, *]
        refine tnext_ev a2.tape a2.jl hL (by have := a2.lim; simp (disch := omega) only [go_sem, *] <;> omega) ?_
        intro v2 j3 h20 h21 h22 hj3
        have a3 := a2.tape2 hb hid hj3
        have sl3 : Sl (h.next + 2) (h2.put id (tapeB L j3)) 1 w (R.map RT.enc) := sl_put sl2 _ _ ((sl_own sl2).imp (fun x => x) (fun x => by omega))
        generalize h2.put id (tapeB L j3) = h3 at a3 sl3 ⊢
        clear clen cbig clt clo cget cat crow ccell ccells hbox sl2 a2
        obtain ⟨clen, cbig, clt, clo, cget, cat, crow, ccell, ccells⟩ := a3.sc.facts
        have hbox := a3.box
        have hlm := a3.lim
        have hW2 : W ≤ 4096 := hW.2.1
        have hne : idV vc ≠ h.next := by
          rcases a3.cl with q | q
          · rcases a3.sc with ⟨_, hR⟩ | ⟨_, _, _, _, rfl, _⟩
            · have : Ch' = [] := by simpa using hR
              subst this; simp at hlen; omega
            · cases q
          · omega
        have a4 := a3.chan (i := q) { nth Ch' q with late := min (W + v2) 4096 } hid (by omega)
        have hC4 := mem_set (i := q) hC (CO.late (hC _ (nth_mem (L := Ch') (j := q) (by omega))) hW hw h20)
        have sl4 : Sl (h.next + 2) (h3.put (idV vc) ⟨6, (csOf h3 vc).set (elV vc + q) ({ nth Ch' q with late := min (W + v2) 4096 } : Chan).enc⟩) 1 w (R.map RT.enc) := sl_put sl3 _ _ ((sl_own sl3).imp (fun x => x) (fun x => by have := a3.cl; rcases this with q | q; (rcases a3.sc with ⟨_, hR⟩ | ⟨_, _, _, _, rfl, _⟩; (have : Ch' = [] := by simpa using hR); (subst this; simp at hlen; omega); cases q); omega))
        simp only [Chan.enc] at a4 sl4
        have hcl : (Ch'.set q { nth Ch' q with late := min (W + v2) 4096 }).length = Ch.length := by simp [hlen]
        clear a3 sl3 hC
        simp (disch := omega) only [go_sem, *]
        refine ih _ _ _ ?_ ⟨q + 1, Ch'.set q { nth Ch' q with late := min (W + v2) 4096 }, j3, rfl, ?_⟩
        · omega
        · simp (disch := omega) only [go_sem, *]
          ((repeat' refine And.intro ?_ ?_) <;> first | omega | assumption | (exact a4) | (exact sl4) | (exact hC4))
      · simp (disch := omega) only [go_sem, *]
        refine ih _ _ _ ?_ ⟨q + 1, Ch', j2, rfl, ?_⟩
        · omega
        · simp (disch := omega) only [go_sem, *]
          ((repeat' refine And.intro ?_ ?_) <;> first | omega | assumption | (exact a2) | (exact sl2) | (exact hC))
    · simp (disch := omega) only [go_sem, *]
      refine ih _ _ _ ?_ ⟨q + 1, Ch', j, rfl, ?_⟩
      · omega
      · simp (disch := omega) only [go_sem, *]
        ((repeat' refine And.intro ?_ ?_) <;> first | omega | assumption | (exact a) | (exact sl) | (exact hC))
  · simp (disch := omega) only [go_sem, *]
    exact kk _ hh Ch' j e0 e3 e4 e5 a sl hC hlen
end
end Go.Ab.T
namespace Go.Ab.T
open Go Go.Ab
set_option maxHeartbeats 2000000
section
variable {b id : Nat} {L : List Int} {vp vc w : V} {T : List (List Node)} {R : List (List Run)} {h h' : AH} {P : List Part} {Ch : List Chan} {j : Nat}
theorem asks_per {K : Ex → Env → AH → Prop} {pr k : Int} {e : Env} (h0 : 0 ≤ pr) (h1 : pr ≤ 9223372036854775807) (hk : k ≤ 5) (e0 : e 0 = .p id 0 0) (e3 : e 3 = .p h.next 0 0) (e4 : e 4 = .p (h.next + 1) 0 0) (e5 : e 5 = w) (e15 : e 15 = .i .i64 pr) (e16 : e 16 = .i .i64 k)
    (kk : ∀ e' pr, e' 0 = .p id 0 0 → e' 3 = .p h.next 0 0 → e' 4 = .p (h.next + 1) 0 0 → e' 5 = w → e' 15 = .i .i64 pr → K (.ex 6) e' h') : ZC tp (.loop Q22_32) e h' K := by
  refine ZC_loop_n (fun n e hh => ∃ (k : Int), n = k.toNat ∧ hh = h' ∧ e 0 = .p id 0 0 ∧ e 3 = .p h.next 0 0 ∧ e 4 = .p (h.next + 1) 0 0 ∧ e 5 = w ∧ e 15 = .i .i64 pr ∧ e 16 = .i .i64 k ∧ k ≤ 5) ?_ _ _ _ ⟨k, rfl, rfl, e0, e3, e4, e5, e15, e16, hk⟩
  clear e0 e3 e4 e5 e15 e16 e hk
  rintro n e hh ⟨k, rfl, rfl, e0, e3, e4, e5, e15, e16, hk⟩ ih
  rw [ZC_unf Q22_32.eq_1]
  simp (disch := omega) only [go_sem, *]
  refine Wb_dec (fun hc => ?_) (fun hc => ?_)
  · simp (disch := omega) only [go_sem, *]
    refine Wb_dec (fun hc2 => ?_) (fun hc2 => ?_)
    · simp (disch := omega) only [go_sem, *]
      exact kk _ (IntKind.i64.wrap (pr.tdiv k)) (by simp (disch := omega) only [go_sem, *]) (by simp (disch := omega) only [go_sem, *]) (by simp (disch := omega) only [go_sem, *]) (by simp (disch := omega) only [go_sem, *]) (by simp (disch := omega) only [go_sem, *])
    · simp (disch := omega) only [go_sem, *]
      refine ih _ _ _ ?_ ⟨k - 1, rfl, ?_⟩
      · omega
      · simp (disch := omega) only [go_sem, *]
        ((repeat' refine And.intro ?_ ?_) <;> first | omega | assumption | (skip))
  · simp (disch := omega) only [go_sem, *]
    exact kk _ pr e0 e3 e4 e5 e15
theorem asks_bd {K : Ex → Env → AH → Prop} {i m : Nat} {pr N : Int} {e : Env} (sl : Sl m h' 1 w (R.map RT.enc)) (hR : ∀ r ∈ R, Frm r)
    (e0 : e 0 = .p id 0 0) (e3 : e 3 = .p h.next 0 0) (e4 : e 4 = .p (h.next + 1) 0 0) (e5 : e 5 = w) (e15 : e 15 = .i .i64 pr) (e17 : e 17 = .i .i64 i) (e18 : e 18 = .i .i64 4096) (e113 : e 113 = .i .i64 N) (e114 : e 114 = .i .i64 i) (e117 : e 117 = w) (e118 : e 118 = .i .i64 R.length) (e119 : e 119 = .i .i64 0)
    (kk : ∀ e' W, W ≤ 4096 → e' 0 = .p id 0 0 → e' 3 = .p h.next 0 0 → e' 4 = .p (h.next + 1) 0 0 → e' 5 = w → e' 15 = .i .i64 pr → e' 17 = .i .i64 i → e' 18 = .i .i64 W → e' 113 = .i .i64 N → e' 114 = .i .i64 i → K (.ex 10) e' h') : ZC tp (.loop Q22_42) e h' K := by
  obtain ⟨wlen, wbig, wlt, wlo, wget, wat, wrow, wcell, wcells⟩ := sl.facts
  refine ZC_loop_n (fun n e hh => ∃ (q : Nat) (W : Int), n = R.length - q ∧ hh = h' ∧ W ≤ 4096 ∧ e 0 = .p id 0 0 ∧ e 3 = .p h.next 0 0 ∧ e 4 = .p (h.next + 1) 0 0 ∧ e 5 = w ∧ e 15 = .i .i64 pr ∧ e 17 = .i .i64 i ∧ e 18 = .i .i64 W ∧ e 113 = .i .i64 N ∧ e 114 = .i .i64 i ∧ e 117 = w ∧ e 118 = .i .i64 R.length ∧ e 119 = .i .i64 q ∧ q ≤ R.length) ?_ _ _ _ ⟨0, 4096, rfl, rfl, by omega, e0, e3, e4, e5, e15, e17, e18, e113, e114, e117, e118, e119, by omega⟩
  clear e0 e3 e4 e5 e15 e17 e18 e113 e114 e117 e118 e119 e
  rintro n e hh ⟨q, W, rfl, rfl, hW, e0, e3, e4, e5, e15, e17, e18, e113, e114, e117, e118, e119, hq⟩ ih
  rw [ZC_unf Q22_42.eq_1]
  simp (disch := omega) only [go_sem, *]
  refine Wb_dec (fun hc => ?_) (fun hc => ?_)
  · have hf := hR _ (nth_mem (L := R) (j := q) (by omega))
    simp (disch := omega) only [go_sem, *]
    refine Pf.go (refBudget_ev (p := i) (P := pr) hf) (by simp only [go_sem]) fun _ => ?_; simp (disch := omega) only [go_sem, *]
    refine ih _ _ _ ?_ ⟨q + 1, min W (budR (nth R q) i pr), rfl, ?_⟩
    · omega
    · simp (disch := omega) only [go_sem, *]
      ((repeat' refine And.intro ?_ ?_) <;> first | omega | assumption | (skip))
  · simp (disch := omega) only [go_sem, *]
    exact kk _ W hW e0 e3 e4 e5 e15 e17 e18 e113 e114
def z0 (p : Part) : Part := { p with budget := 0, period := 0 }
theorem z0_set {A B : List Part} {i : Nat} {x : Part} (h : A.map z0 = B.map z0) (hi : i < A.length) (hx : z0 x = z0 (nth A i)) : (A.set i x).map z0 = B.map z0 := by
  rw [List.map_set, hx, ← h]
  apply List.ext_getElem
  · simp
  · intro k h1 h2
    simp only [List.length_map] at h2
    by_cases e : i = k
    · subst e; simp [nth_eq hi]
    · rw [List.getElem_set_ne e]
theorem z0_fix {A : List Part} {q : Nat} (hq : q < A.length) (h : ∀ k, k < q → nth A k = z0 (nth A k)) : ∀ k, k < q + 1 → nth (A.set q (z0 (nth A q))) k = z0 (nth (A.set q (z0 (nth A q))) k) := by
  intro k hk
  rw [nth_eq (by simp; omega), List.getElem_set]
  split
  · rfl
  · have := h k (by omega)
    rw [nth_eq (by omega)] at this
    exact this
theorem asks_pt {K : Ex → Env → AH → Prop} {pr : Int} {e : Env} (hb : b ≤ h.next) (hid : id < b) (hlo : h.lim ≤ id) (hL : L.length < 4000000000) (hR : ∀ r ∈ R, Frm r) (a : Ask b id L vp vc T h h' P Ch j) (sl : Sl (h.next + 2) h' 1 w (R.map RT.enc))
    (e0 : e 0 = .p id 0 0) (e3 : e 3 = .p h.next 0 0) (e4 : e 4 = .p (h.next + 1) 0 0) (e5 : e 5 = w) (e15 : e 15 = .i .i64 pr) (e113 : e 113 = .i .i64 P.length) (e114 : e 114 = .i .i64 0)
    (kk : ∀ e' h' P' j, e' 0 = .p id 0 0 → e' 3 = .p h.next 0 0 → e' 4 = .p (h.next + 1) 0 0 → Ask b id L vp vc T h h' P' Ch j → P'.map z0 = P.map z0 → K (.ex 8) e' h') : ZC tp (.loop Q22_46) e h' K := by
  refine ZC_loop_n (fun n' e hh => ∃ (q : Nat) (P' : List Part) (j : Nat), n' = P.length - q ∧ e 0 = .p id 0 0 ∧ e 3 = .p h.next 0 0 ∧ e 4 = .p (h.next + 1) 0 0 ∧ e 5 = w ∧ e 15 = .i .i64 pr ∧ e 113 = .i .i64 P.length ∧ e 114 = .i .i64 q ∧ q ≤ P.length ∧ Ask b id L vp vc T h hh P' Ch j ∧ Sl (h.next + 2) hh 1 w (R.map RT.enc) ∧ P'.map z0 = P.map z0) ?_ _ _ _ ⟨0, P, j, rfl, e0, e3, e4, e5, e15, e113, e114, by omega, a, sl, rfl⟩
  clear e0 e3 e4 e5 e15 e113 e114 e a sl
  rintro n' e hh ⟨q, P', j, rfl, e0, e3, e4, e5, e15, e113, e114, hq, a, sl, hz⟩ ih
  have hlen := congrArg List.length hz
  simp only [List.length_map] at hlen
  obtain ⟨plen, pbig, plt, plo, pget, pat, prow, pcell, pcells⟩ := a.sp.facts
  obtain ⟨wlen, wbig, wlt, wlo, wget, wat, wrow, wcell, wcells⟩ := sl.facts
  have hbox := a.box
  rw [ZC_unf Q22_46.eq_1]
  rw [← hlen] at e113
  simp (disch := omega) only [go_sem, *]
  refine Wb_dec (fun hc => ?_) (fun hc => ?_)
  · simp (disch := omega) only [go_sem, *]
    refine asks_bd (h := h) (id := id) (i := q) (pr := pr) (N := P'.length) sl hR (by simp (disch := omega) only [go_sem, *]) (by simp (disch := omega) only [go_sem, *]) (by simp (disch := omega) only [go_sem, *]) (by simp (disch := omega) only [go_sem, *]) (by simp (disch := omega) only [go_sem, *]) (by simp (disch := omega) only [go_sem, *]) (by simp (disch := omega) only [go_sem, *]) (by simp (disch := omega) only [go_sem, *]) (by simp (disch := omega) only [go_sem, *]) (by simp (disch := omega) only [go_sem, *]) (by simp (disch := omega) only [go_sem, *]) (by simp (disch := omega) only [go_sem, *]) ?_
    clear e0 e3 e4 e5 e15 e113 e114
    intro e' W hW e0 e3 e4 e5 e15 e17 e18 e113 e114
    simp (disch := omega) only [go_sem, *]
    refine Wg_dec (fun hw => ?_) (fun hw => ?_)
    · simp (disch := omega) only [go_sem, *]
      refine tnext_ev a.tape a.jl hL (by have := a.lim; omega) ?_
      intro v j2 h0 h1 h2 hj2
      have a2 := a.tape2 hb hid hj2
      have sl2 : Sl (h.next + 2) (hh.put id (tapeB L j2)) 1 w (R.map RT.enc) := sl_put sl _ _ ((sl_own sl).imp (fun x => x) (fun x => by omega))
      generalize hh.put id (tapeB L j2) = h2 at a2 sl2 ⊢
      clear plen pbig plt plo pget pat prow pcell pcells wlen wbig wlt wlo wget wat wrow wcell wcells hbox sl
      obtain ⟨plen, pbig, plt, plo, pget, pat, prow, pcell, pcells⟩ := a2.sp.facts
      have hbox := a2.box
      simp (disch := omega) only [go_sem, *]
      refine Wb_dec (fun hc3 => ?_) (fun hc3 => ?_)
      · have hsv := Sl.sameV a2.sp
        simp (disch := omega) only [go_sem, *]
        refine tnext_ev a2.tape a2.jl hL (by have := a2.lim; simp (disch := omega) only [go_sem, *] <;> omega) ?_
        intro v2 j3 h20 h21 h22 hj3
        have a3 := a2.tape2 hb hid hj3
        have sl3 : Sl (h.next + 2) (h2.put id (tapeB L j3)) 1 w (R.map RT.enc) := sl_put sl2 _ _ ((sl_own sl2).imp (fun x => x) (fun x => by omega))
        generalize h2.put id (tapeB L j3) = h3 at a3 sl3 ⊢
        clear plen pbig plt plo pget pat prow pcell pcells hbox sl2 a2
        obtain ⟨plen, pbig, plt, plo, pget, pat, prow, pcell, pcells⟩ := a3.sp.facts
        have hbox := a3.box
        have hlm := a3.lim
        have hne : idV vp < h.next := by
          rcases a3.pl with q | q
          · rcases a3.sp with ⟨_, hR⟩ | ⟨_, _, _, _, rfl, _⟩
            · have : P' = [] := by simpa using hR
              subst this; simp at hlen; omega
            · cases q
          · exact q
        have hrl := a3.sp.rowlt (j := q) (by simp; omega)
        have a4 := a3.part (i := q) { nth P' q with budget := max (W - v2) 1, period := pr } hid (by omega)
        have hz4 := z0_set (i := q) (x := { nth P' q with budget := max (W - v2) 1, period := pr }) hz (by omega) rfl
        have sl4 : Sl (h.next + 2) (h3.put (idV vp) ⟨11, (csOf h3 vp).set (elV vp + q) ({ nth P' q with budget := max (W - v2) 1, period := pr } : Part).enc⟩) 1 w (R.map RT.enc) := sl_put sl3 _ _ ((sl_own sl3).imp (fun x => x) (fun x => by omega))
        simp only [Part.enc] at a4 sl4
        clear a3 sl3 hz
        simp (disch := omega) only [go_sem, *]
        refine ih _ _ _ ?_ ⟨q + 1, P'.set q { nth P' q with budget := max (W - v2) 1, period := pr }, j3, rfl, ?_⟩
        · omega
        · simp (disch := omega) only [go_sem, *]
          ((repeat' refine And.intro ?_ ?_) <;> first | omega | assumption | (exact a4) | (exact sl4) | (exact hz4))
      · simp (disch := omega) only [go_sem, *]
        refine ih _ _ _ ?_ ⟨q + 1, P', j2, rfl, ?_⟩
        · omega
        · simp (disch := omega) only [go_sem, *]
          ((repeat' refine And.intro ?_ ?_) <;> first | omega | assumption | (exact a2) | (exact sl2) | (exact hz))
    · simp (disch := omega) only [go_sem, *]
      refine ih _ _ _ ?_ ⟨q + 1, P', j, rfl, ?_⟩
      · omega
      · simp (disch := omega) only [go_sem, *]
        ((repeat' refine And.intro ?_ ?_) <;> first | omega | assumption | (exact a) | (exact sl) | (exact hz))
  · simp (disch := omega) only [go_sem, *]
    exact kk _ hh P' j e0 e3 e4 a hz
theorem asks_z {K : Ex → Env → AH → Prop} {e : Env} (hb : b ≤ h.next) (hid : id < b) (hlo : h.lim ≤ id) (a : Ask b id L vp vc T h h' P Ch j)
    (e0 : e 0 = .p id 0 0) (e3 : e 3 = .p h.next 0 0) (e4 : e 4 = .p (h.next + 1) 0 0) (e159 : e 159 = .i .i64 P.length) (e160 : e 160 = .i .i64 0)
    (kk : ∀ e' h', e' 0 = .p id 0 0 → e' 3 = .p h.next 0 0 → e' 4 = .p (h.next + 1) 0 0 → Ask b id L vp vc T h h' (P.map z0) Ch j → K (.ex 12) e' h') : ZC tp (.loop Q22_53) e h' K := by
  refine ZC_loop_n (fun n' e hh => ∃ (q : Nat) (P' : List Part), n' = P.length - q ∧ e 0 = .p id 0 0 ∧ e 3 = .p h.next 0 0 ∧ e 4 = .p (h.next + 1) 0 0 ∧ e 159 = .i .i64 P.length ∧ e 160 = .i .i64 q ∧ q ≤ P.length ∧ Ask b id L vp vc T h hh P' Ch j ∧ P'.map z0 = P.map z0 ∧ ∀ k, k < q → nth P' k = z0 (nth P' k)) ?_ _ _ _ ⟨0, P, rfl, e0, e3, e4, e159, e160, by omega, a, rfl, fun k hk => by omega⟩
  clear e0 e3 e4 e159 e160 e a
  rintro n' e hh ⟨q, P', rfl, e0, e3, e4, e159, e160, hq, a, hz, hq0⟩ ih
  have hlen := congrArg List.length hz
  simp only [List.length_map] at hlen
  obtain ⟨plen, pbig, plt, plo, pget, pat, prow, pcell, pcells⟩ := a.sp.facts
  have hbox := a.box
  have hlm := a.lim
  have hsv := Sl.sameV a.sp
  rw [ZC_unf Q22_53.eq_1]
  rw [← hlen] at e159
  have hq1 := hq0
  clear hq0
  simp (disch := omega) only [go_sem, *]
  refine Wb_dec (fun hc => ?_) (fun hc => ?_)
  · have hne : idV vp < h.next := by
      rcases a.pl with q | q
      · rcases a.sp with ⟨_, hR⟩ | ⟨_, _, _, _, rfl, _⟩
        · have : P' = [] := by simpa using hR
          subst this; simp at hlen; omega
        · cases q
      · exact q
    have hrl := a.sp.rowlt (j := q) (by simp; omega)
    have a4 := a.part (i := q) (z0 (nth P' q)) hid (by omega)
    have hz4 := z0_set (i := q) (x := z0 (nth P' q)) hz (by omega) rfl
    simp only [Part.enc, z0] at a4
    simp (disch := omega) only [go_sem, *]
    refine ih _ _ _ ?_ ⟨q + 1, P'.set q (z0 (nth P' q)), rfl, ?_⟩
    · omega
    · simp (disch := omega) only [go_sem, *]
      ((repeat' refine And.intro ?_ ?_) <;> first | omega | assumption | (exact a4) | (exact hz4) | (exact z0_fix (by omega) hq1))
  · have e : P' = P.map z0 := by
      rw [← hz]
      apply List.ext_getElem
      · simp
      · intro k h1 h2
        have := hq1 k (by omega)
        rw [nth_eq h1] at this
        simp only [List.getElem_map]
        exact this
    subst e
    simp (disch := omega) only [go_sem, *]
    exact kk _ hh e0 e3 e4 a
end
end Go.Ab.T
namespace Go.Ab.T
open Go Go.Ab
set_option maxHeartbeats 4000000
theorem whTabs_zero {C : Config} : ∀ (l : List (List Node)) (i : Nat), (whTabs C i l).1 = 0 → whTabs C i l = (0, -1)
  | [], i, _ => rfl
  | t :: l, i, h => by
    rw [whTabs] at h ⊢
    split at h
    · rename_i h2; exact absurd h h2
    · rename_i h2; rw [if_neg h2]; exact whTabs_zero l _ h
theorem whChans_zero {C : Config} : ∀ (l : List Chan) (i : Nat), (whChans C i l).1 = 0 → whChans C i l = (0, -1)
  | [], i, h => by rw [whChans] at h ⊢; exact whTabs_zero _ _ h
  | t :: l, i, h => by
    rw [whChans] at h ⊢
    split at h
    · simp at h
    · rename_i h2; rw [if_neg h2]; exact whChans_zero l _ h
theorem whParts_zero {C : Config} : ∀ (l : List Part) (i : Nat), (whParts C i l).1 = 0 → whParts C i l = (0, -1)
  | [], i, h => by rw [whParts] at h ⊢; exact whChans_zero _ _ h
  | t :: l, i, h => by
    rw [whParts] at h ⊢
    split at h
    · simp at h
    · rename_i h2; rw [if_neg h2]
      split at h
      · simp at h
      · rename_i h3; rw [if_neg h3]; exact whParts_zero l _ h
theorem where_zero {C : Config} (h : (whereR C).1 = 0) : whereR C = (0, -1) := by
  unfold whereR at h ⊢
  split at h
  · simp at h
  · rename_i h2; rw [if_neg h2]; exact whParts_zero _ _ h
noncomputable def rn (t : List Node) : List Run := (ofR t).1
section
variable {b id : Nat} {L : List Int} {vp vc w : V} {T : List (List Node)} {R : List (List Run)} {h h' : AH} {P : List Part} {Ch : List Chan} {j : Nat}
theorem Ask.grown {b' : Nat} {x v : V} {h2 : AH} (a : Ask b id L vp vc T h h' P Ch j) (hb : b ≤ h.next) (hid : id < b) (g : Grown b' h' x v h2) (hx : nilV x = true ∨ h.next + 2 ≤ idV x) : Ask b id L vp vc T h h2 P Ch j := by
  have n1 := a.next; have n2 := g.next
  have gg : ∀ i, i < h.next + 2 → h2.get i = h'.get i := fun i hi => g.get i (by omega) (hx.imp (fun x => x) (fun x => by omega))
  refine ⟨by omega, g.lim.trans a.lim, (gg _ (by omega)).trans a.tape, a.jl, (gg _ (by omega)).trans a.box, (gg _ (by omega)).trans a.res, fun i hi hn => (gg i (by omega)).trans (a.low i hi hn), ?_, ?_, a.pl, a.cl, a.dj⟩
  · rcases a.pl with q | q
    · rcases a.sp with ⟨c, d⟩ | ⟨_, _, _, _, rfl, _⟩
      · exact .inl ⟨c, d⟩
      · cases q
    · exact a.sp.same n2 (fun _ => gg _ (by omega))
  · rcases a.cl with q | q
    · rcases a.sc with ⟨c, d⟩ | ⟨_, _, _, _, rfl, _⟩
      · exact .inl ⟨c, d⟩
      · cases q
    · exact a.sc.same n2 (fun _ => gg _ (by omega))
theorem asks_l {K : Ex → Env → AH → Prop} {e : Env} (hb : b ≤ h.next) (hid : id < b) (hlo : h.lim ≤ id) (hT : T.length ≤ 3) (a : Ask b id L vp vc T h h' P Ch j)
    (e0 : e 0 = .p id 0 0) (e3 : e 3 = .p h.next 0 0) (e4 : e 4 = .p (h.next + 1) 0 0) (e5 : e 5 = .ns) (e23 : e 23 = .fl 1 (T.map Tab.enc)) (e24 : e 24 = .i .i64 T.length) (e25 : e 25 = .i .i64 0)
    (kk : ∀ e' h' w, e' 0 = .p id 0 0 → e' 3 = .p h.next 0 0 → e' 4 = .p (h.next + 1) 0 0 → e' 5 = w → Ask b id L vp vc T h h' P Ch j → Sl (h.next + 2) h' 1 w ((T.map rn).map RT.enc) → K (.ex 0) e' h') : ZC tp (.loop Q22_8) e h' K := by
  refine ZC_loop_n (fun n' e hh => ∃ (q : Nat) (w : V), n' = T.length - q ∧ e 0 = .p id 0 0 ∧ e 3 = .p h.next 0 0 ∧ e 4 = .p (h.next + 1) 0 0 ∧ e 5 = w ∧ e 23 = .fl 1 (T.map Tab.enc) ∧ e 24 = .i .i64 T.length ∧ e 25 = .i .i64 q ∧ q ≤ T.length ∧ Ask b id L vp vc T h hh P Ch j ∧ Sl (h.next + 2) hh 1 w (((T.take q).map rn).map RT.enc)) ?_ _ _ _ ⟨0, .ns, rfl, e0, e3, e4, e5, e23, e24, e25, by omega, a, Sl.nil _ _ _⟩
  clear e0 e3 e4 e5 e23 e24 e25 e a
  rintro n' e hh ⟨q, w, rfl, e0, e3, e4, e5, e23, e24, e25, hq, a, sl⟩ ih
  have hlm := a.lim
  have hnx := a.next
  have hwl := sl_own sl
  rw [ZC_unf Q22_8.eq_1]
  simp (disch := omega) only [go_sem, *]
  refine Wb_dec (fun hc => ?_) (fun hc => ?_)
  · have hts := take_snoc (L := T) (i := q) (by omega)
    simp (disch := omega) only [go_sem, *]
    refine Pf.go (refOf_ev) (by simp only [go_sem]) fun _ => ?_; simp (disch := omega) only [go_sem, *]
    refine app_rule (sl.alloc _) (by simp (disch := omega) only [go_sem, *] <;> omega) (by simp (disch := omega) only [go_sem, *] <;> omega) (by simp; omega) ?_
    intro w2 h4 s4 g4
    have a4 := (a.ext hb hid ((Ext.refl _).alloc _)).grown hb hid g4 hwl
    have s5 : Sl (h.next + 2) h4 1 w2 (((T.take (q + 1)).map rn).map RT.enc) := by rw [hts]; simpa [RT.enc, rn] using s4
    clear hts s4
    simp (disch := omega) only [go_sem, *]
    refine ih _ _ _ ?_ ⟨q + 1, w2, rfl, ?_⟩
    · omega
    · simp (disch := omega) only [go_sem, *]
      ((repeat' refine And.intro ?_ ?_) <;> first | omega | assumption | (exact a4) | (exact s5))
  · have eq : q = T.length := by omega
    subst eq
    rw [List.take_length] at sl
    simp (disch := omega) only [go_sem, *]
    exact kk _ hh w e0 e3 e4 e5 a sl
end
end Go.Ab.T
namespace Go.Ab.T
open Go Go.Ab
set_option maxHeartbeats 4000000
theorem mem_z0 {P P' : List Part} (h : P'.map z0 = P.map z0) {p : Part} (hp : p ∈ P') : ∃ q ∈ P, q.name = p.name := by
  have : z0 p ∈ P.map z0 := by rw [← h]; exact List.mem_map_of_mem hp
  obtain ⟨q, hq, e⟩ := List.mem_map.1 this
  exact ⟨q, hq, by have := congrArg Part.name e; exact this⟩
structure Bare (P : List Part) (Ch : List Chan) (T : List (List Node)) : Prop where
  z : P.map z0 = P
  p1 : 1 ≤ P.length
  p2 : P.length ≤ 6
  c : Ch.length ≤ 8
  t1 : 1 ≤ T.length
  t2 : T.length ≤ 3
  parts : ∀ i, i < P.length → GoodP P i
  chans : ∀ x ∈ Ch, chanB P.length x = true ∧ x.late = 0
  tabs : ∀ t ∈ T, TabOk P.length t
  nm : ∀ p ∈ P, p.name.size < 4000000000
theorem Bare.where_ {P : List Part} {Ch Ch' : List Chan} {T : List (List Node)} (g : Bare P Ch T) (hl : Ch'.length = Ch.length) (hc : ∀ x ∈ Ch', CO P.length (T.map rn) x) : whereR ⟨P, Ch', T⟩ = (0, -1) := by
  rw [where_iff]
  refine ⟨⟨g.p1, g.p2, by rw [hl]; exact g.c, g.t1, g.t2⟩, g.parts, fun x hx => (hc x hx).1, fun t ht => ?_⟩
  rw [tableR_iff]
  refine ⟨g.tabs t ht, ?_⟩
  rw [holdsR_iff]
  refine ⟨?_, ptShort_zero _ _ fun p hp => ?_⟩
  · rw [List.any_eq_false]
    intro x hx
    change ¬ chLate (rn t) x = true
    rw [(hc x hx).2 _ (List.mem_map_of_mem ht)]
    simp
  · have : p ∈ P.map z0 := by rw [g.z]; exact hp
    obtain ⟨q, _, rfl⟩ := List.mem_map.1 this
    rfl
theorem totGo_bd : ∀ (L : List Run) (a : Int), 0 ≤ a → a ≤ 9223372036854775807 → 0 ≤ totGo L a ∧ totGo L a ≤ 9223372036854775807
  | [], a, h0, h1 => ⟨h0, h1⟩
  | r :: l, a, h0, h1 => totGo_bd l _ (addR_big).1 (addR_big).2
theorem asks_ev {b id k : Nat} {L : List Int} {vp vc : V} {T : List (List Node)} {h : AH} {P : List Part} {Ch : List Chan} {K : V → AH → Prop} (g : Bare P Ch T) (hL : L.length < 4000000000) (hk : k ≤ L.length) (hb : b ≤ h.next) (hid : id < b) (hlo : h.lim ≤ id) (hg : h.get id = some (tapeB L k))
    (sp : Sl b h 11 vp (P.map Part.enc)) (sc : Sl b h 6 vc (Ch.map Chan.enc)) (dj : nilV vp = true ∨ nilV vc = true ∨ idV vp ≠ idV vc)
    (kk : ∀ P' Ch' h' j, j ≤ L.length → whereR ⟨P', Ch', T⟩ = (0, -1) → NmOk ⟨P', Ch', T⟩ → P'.length = P.length → Ch'.length = Ch.length → h.next ≤ h'.next → h'.lim = h.lim → h'.get id = some (tapeB L j) → (∀ i, i < b → i ≠ id → h'.get i = h.get i) → Sl b h' 11 vp (P'.map Part.enc) → Sl b h' 6 vc (Ch'.map Chan.enc) → K (.agg [vp, vc, .fl 1 (T.map Tab.enc)]) h') :
    Cq tp i_Q22 [.p id 0 0, .agg [vp, vc, .fl 1 (T.map Tab.enc)]] h K := by
  have pl := sl_low sp
  have cl := sl_low sc
  obtain ⟨plen, pbig, plt, plo, pget, pat, prow, pcell, pcells⟩ := sp.facts
  obtain ⟨clen, cbig, clt, clo, cget, cat, crow, ccell, ccells⟩ := sc.facts
  have ht2 := g.t2
  have ht1 := g.t1
  have hp2 := g.p2
  have hc2 := g.c
  have hRf : ∀ r ∈ T.map rn, Frm r := fun r hr => by obtain ⟨t, _, rfl⟩ := List.mem_map.1 hr; exact ofR_frm
  have hC0 : ∀ x ∈ Ch, CO P.length (T.map rn) x := fun x hx => ⟨(g.chans x hx).1, fun r _ => by unfold chLate; rw [(g.chans x hx).2]; simp⟩
  refine Cq_raw_go fn_Q22 (by simp [t_Q22]) fun wf rp => ?_
  unfold t_Q22
  simp (disch := omega) only [go_sem, *]
  have x0 : Ext h ((h.alloc ⟨3, [[vp, vc, .fl 1 (T.map Tab.enc)]]⟩).alloc ⟨3, [[.ns, .ns, .ns]]⟩) := by (repeat (first | exact Ext.refl _ | refine Ext.alloc ?_ _ | (refine Ext.put ?_ _ _ ?_; rotate_left; (first | omega | (simp only [next_alloc, next_put]; omega)))))
  have a0 : Ask b id L vp vc T h ((h.alloc ⟨3, [[vp, vc, .fl 1 (T.map Tab.enc)]]⟩).alloc ⟨3, [[.ns, .ns, .ns]]⟩) P Ch k := ⟨by simp (disch := omega) only [go_sem, *], rfl, (x0.get _ (by omega)).trans hg, hk, by simp (disch := omega) only [go_sem, *], by simp (disch := omega) only [go_sem, *], fun i hi _ => x0.get i (by omega), sp.ext x0, sc.ext x0, pl, cl, dj⟩
  clear plen pbig plt plo pget pat prow pcell pcells clen cbig clt clo cget cat crow ccell ccells sp sc x0
  refine asks_l hb hid hlo g.t2 a0 (by simp (disch := omega) only [go_sem, *]) (by simp (disch := omega) only [go_sem, *]) (by simp (disch := omega) only [go_sem, *]) (by simp (disch := omega) only [go_sem, *]) (by simp (disch := omega) only [go_sem, *]) (by simp (disch := omega) only [go_sem, *]) (by simp (disch := omega) only [go_sem, *]) ?_
  clear a0
  intro e h1 w e0 e3 e4 e5 a sl
  have hbox := a.box
  obtain ⟨clen, cbig, clt, clo, cget, cat, crow, ccell, ccells⟩ := a.sc.facts
  simp (disch := omega) only [go_sem, *]
  refine asks_ch hb hid hlo hL hRf a sl hC0 (by simp (disch := omega) only [go_sem, *]) (by simp (disch := omega) only [go_sem, *]) (by simp (disch := omega) only [go_sem, *]) (by simp (disch := omega) only [go_sem, *]) (by simp (disch := omega) only [go_sem, *]) (by simp (disch := omega) only [go_sem, *]) (by simp (disch := omega) only [go_sem, *]) ?_
  clear e0 e3 e4 e5 a sl hbox clen cbig clt clo cget cat crow ccell ccells e h1 hC0
  intro e h2 Ch' j e0 e3 e4 e5 a sl hC hCl
  obtain ⟨wlen, wbig, wlt, wlo, wget, wat, wrow, wcell, wcells⟩ := sl.facts
  have hr0 := frm_big (hRf _ (nth_mem (L := T.map rn) (j := 0) (by simp; omega)))
  have hw0 : (csOf h2 w)[elV w]? = some (RT.enc (nth (T.map rn) 0)) := by have := wrow 0 (by simp; omega); simpa using this
  have hml : (T.map rn).length = T.length := List.length_map ..
  simp (disch := omega) only [go_sem, *]
  refine Pf.go (reftotal_ev hr0) (by simp only [go_sem]) fun _ => ?_; simp (disch := omega) only [go_sem, *]
  refine tnext_ev a.tape a.jl hL (by have := a.lim; omega) ?_
  intro v j2 v0 v1 v2 hj2
  have a2 := a.tape2 hb hid hj2
  have sl2 : Sl (h.next + 2) (h2.put id (tapeB L j2)) 1 w ((T.map rn).map RT.enc) := sl_put sl _ _ ((sl_own sl).imp (fun x => x) (fun x => by omega))
  generalize h2.put id (tapeB L j2) = h3 at a2 sl2 ⊢
  clear wlen wbig wlt wlo wget wat wrow wcell wcells sl a
  simp (disch := omega) only [go_sem, *]
  refine asks_per (h := h) (id := id) (w := w) (pr := totGo (nth (T.map rn) 0) 0) (k := 2 + v) (totGo_bd _ _ (by omega) (by omega)).1 (totGo_bd _ _ (by omega) (by omega)).2 (by omega) (by simp (disch := omega) only [go_sem, *]) (by simp (disch := omega) only [go_sem, *]) (by simp (disch := omega) only [go_sem, *]) (by simp (disch := omega) only [go_sem, *]) (by simp (disch := omega) only [go_sem, *]) (by simp (disch := omega) only [go_sem, *]) ?_
  clear e0 e3 e4 e5 e
  intro e pr e0 e3 e4 e5 e15
  have hbox := a2.box
  obtain ⟨plen, pbig, plt, plo, pget, pat, prow, pcell, pcells⟩ := a2.sp.facts
  simp (disch := omega) only [go_sem, *]
  refine asks_pt (pr := pr) hb hid hlo hL hRf a2 sl2 (by simp (disch := omega) only [go_sem, *]) (by simp (disch := omega) only [go_sem, *]) (by simp (disch := omega) only [go_sem, *]) (by simp (disch := omega) only [go_sem, *]) (by simp (disch := omega) only [go_sem, *]) (by simp (disch := omega) only [go_sem, *]) (by simp (disch := omega) only [go_sem, *]) ?_
  clear e0 e3 e4 e5 e15 plen pbig plt plo pget pat prow pcell pcells hbox a2 sl2 e
  intro e h4 P' j4 e0 e3 e4 a hz
  have hnm : NmOk ⟨P', Ch', T⟩ := fun p hp => by obtain ⟨q, hq, e⟩ := mem_z0 hz hp; rw [← e]; exact g.nm q hq
  have hlen := congrArg List.length hz
  simp only [List.length_map] at hlen
  have hbox := a.box
  obtain ⟨plen, pbig, plt, plo, pget, pat, prow, pcell, pcells⟩ := a.sp.facts
  obtain ⟨clen, cbig, clt, clo, cget, cat, crow, ccell, ccells⟩ := a.sc.facts
  simp (disch := omega) only [go_sem, *]
  refine Pf.look (refRight12_ev hnm) (.cons _ _ _ _ _ (.agg _ _ _ (.cons _ _ _ _ _ (a.sp.froze (fun _ => rfl) trivial (by omega)) (.cons _ _ _ _ _ (a.sc.froze (fun _ => rfl) trivial (by omega)) (.cons _ _ _ _ _ (.fl _ _ _) (.nil _))))) (.nil _)) rfl fun _ => ?_
  have fin : ∀ (P' : List Part) h5, Ask b id L vp vc T h h5 P' Ch' j4 → whereR ⟨P', Ch', T⟩ = (0, -1) → P'.map z0 = P.map z0 → K (.agg [vp, vc, .fl 1 (T.map Tab.enc)]) (h5.put (h.next + 1) ⟨3, [[vp, vc, .fl 1 (T.map Tab.enc)]]⟩) := by
    intro P' h5 a hw hz
    have n5 := a.next
    have hlen := congrArg List.length hz
    simp only [List.length_map] at hlen
    have hnm : NmOk ⟨P', Ch', T⟩ := fun p hp => by obtain ⟨q, hq, e⟩ := mem_z0 hz hp; rw [← e]; exact g.nm q hq
    refine kk P' Ch' _ j4 a.jl hw hnm hlen hCl (by rw [next_put]; omega) a.lim (by rw [get_put, gsel_ne (by omega)]; exact a.tape) (fun i hi hn => by rw [get_put, gsel_ne (by omega)]; exact a.low i hi hn) (sl_put a.sp _ _ (a.pl.imp (fun x => x) (fun x => by omega))) (sl_put a.sc _ _ (a.cl.imp (fun x => x) (fun x => by omega)))
  have hres := a.res
  have hlm := a.lim
  simp (disch := omega) only [go_sem, *]
  refine Wb_dec (fun hc => ?_) (fun hc => ?_)
  · simp (disch := omega) only [go_sem, *]
    refine asks_z hb hid hlo a (by simp (disch := omega) only [go_sem, *]) (by simp (disch := omega) only [go_sem, *]) (by simp (disch := omega) only [go_sem, *]) (by simp (disch := omega) only [go_sem, *]) (by simp (disch := omega) only [go_sem, *]) ?_
    clear e0 e3 e4 plen pbig plt plo pget pat prow pcell pcells clen cbig clt clo cget cat crow ccell ccells hbox hres hlm e
    intro e h5 e0 e3 e4 a
    rw [hz, g.z] at a
    have hbox := a.box
    have hres := a.res
    have hlm := a.lim
    obtain ⟨plen, pbig, plt, plo, pget, pat, prow, pcell, pcells⟩ := a.sp.facts
    obtain ⟨clen, cbig, clt, clo, cget, cat, crow, ccell, ccells⟩ := a.sc.facts
    have f := fin P h5 a (g.where_ hCl hC) rfl
    clear fin
    simp (disch := omega) only [go_sem, *]
  · have f := fin P' h4 a (where_zero (by omega)) hz
    clear fin
    simp (disch := omega) only [go_sem, *]
end Go.Ab.T
namespace Go.Ab.T
open Go Go.Ab
set_option maxHeartbeats 2000000
def Dj (v w : V) : Prop := nilV v = true ∨ nilV w = true ∨ idV v ≠ idV w
structure CS (q id : Nat) (L : List Int) (h h' : AH) (vp vc vt : V) (P : List Part) (Ch : List Chan) (T : List (List Node)) (j : Nat) : Prop where
  q1 : h.next + 2 ≤ q
  q2 : q ≤ h'.next
  lim : h'.lim = h.lim
  tape : h'.get id = some (tapeB L j)
  jl : j ≤ L.length
  res : h'.get h.next = some ⟨3, [[.ns, .ns, .ns]]⟩
  box : h'.get (h.next + 1) = some ⟨3, [[vp, vc, vt]]⟩
  low : ∀ i, i < h.next → i ≠ id → h'.get i = h.get i
  sp : Sl (h.next + 2) h' 11 vp (P.map Part.enc)
  sc : Sl (h.next + 2) h' 6 vc (Ch.map Chan.enc)
  st : Sl (h.next + 2) h' 1 vt (T.map Tab.enc)
  pl : nilV vp = true ∨ idV vp < q
  cl : nilV vc = true ∨ idV vc < q
  tl : nilV vt = true ∨ idV vt < q
  pc : Dj vp vc
  pt : Dj vp vt
  ct : Dj vc vt
section
variable {q id : Nat} {L : List Int} {h h' h2 : AH} {vp vc vt : V} {P : List Part} {Ch : List Chan} {T : List (List Node)} {j : Nat}
theorem sl_keep {b sz q : Nat} {h h2 : AH} {v : V} {R : List (List V)} (s : Sl b h sz v R) (hl : nilV v = true ∨ idV v < q) (hn : h.next ≤ h2.next) (g : ∀ i, i < q → h2.get i = h.get i) : Sl b h2 sz v R := by
  rcases hl with hl | hl
  · rcases s with ⟨a, c⟩ | ⟨_, _, _, _, rfl, _⟩
    · exact .inl ⟨a, c⟩
    · cases hl
  · exact s.same hn (fun _ => g _ hl)
theorem CS.keep (a : CS q id L h h' vp vc vt P Ch T j) (hid : id < h.next) (hn : h'.next ≤ h2.next) (hl : h2.lim = h'.lim) (g : ∀ i, i < q → h2.get i = h'.get i) : CS q id L h h2 vp vc vt P Ch T j := by
  have q1 := a.q1; have q2 := a.q2
  exact ⟨q1, by omega, hl.trans a.lim, (g _ (by omega)).trans a.tape, a.jl, (g _ (by omega)).trans a.res, (g _ (by omega)).trans a.box, fun i hi hn => (g i (by omega)).trans (a.low i hi hn), sl_keep a.sp a.pl hn g, sl_keep a.sc a.cl hn g, sl_keep a.st a.tl hn g, a.pl, a.cl, a.tl, a.pc, a.pt, a.ct⟩
theorem CS.ext (a : CS q id L h h' vp vc vt P Ch T j) (hid : id < h.next) (x : Ext h' h2) : CS q id L h h2 vp vc vt P Ch T j :=
  a.keep hid x.next x.lim (fun i hi => x.get i (by have := a.q2; omega))
theorem CS.up {q' : Nat} (a : CS q id L h h' vp vc vt P Ch T j) (h1 : q ≤ q') (h2 : q' ≤ h'.next) : CS q' id L h h' vp vc vt P Ch T j :=
  ⟨Nat.le_trans a.q1 h1, h2, a.lim, a.tape, a.jl, a.res, a.box, a.low, a.sp, a.sc, a.st, a.pl.imp (fun x => x) (fun x => by omega), a.cl.imp (fun x => x) (fun x => by omega), a.tl.imp (fun x => x) (fun x => by omega), a.pc, a.pt, a.ct⟩
theorem CS.tape2 {j2 : Nat} (a : CS q id L h h' vp vc vt P Ch T j) (hid : id < h.next) (hj : j2 ≤ L.length) : CS q id L h (h'.put id (tapeB L j2)) vp vc vt P Ch T j2 := by
  have q1 := a.q1; have q2 := a.q2
  exact ⟨q1, q2, a.lim, by rw [get_put, gsel_eq rfl], hj, by rw [get_put, gsel_ne (by omega)]; exact a.res, by rw [get_put, gsel_ne (by omega)]; exact a.box, fun i hi hn => by rw [get_put, gsel_ne hn]; exact a.low i hi hn,
    sl_put a.sp _ _ ((sl_own a.sp).imp (fun x => x) (fun x => by omega)), sl_put a.sc _ _ ((sl_own a.sc).imp (fun x => x) (fun x => by omega)), sl_put a.st _ _ ((sl_own a.st).imp (fun x => x) (fun x => by omega)), a.pl, a.cl, a.tl, a.pc, a.pt, a.ct⟩
theorem dj_grown {b : Nat} {v w x : V} {h1 h2 : AH} (g : Grown b h1 x v h2) (d : Dj x w) (hl : nilV w = true ∨ idV w < h1.next) : Dj v w := by
  rcases g.own with k | ⟨k1, k2⟩ | k
  · exact .inl k
  · rcases d with d | d | d
    · rw [d] at k1; cases k1
    · exact .inr (.inl d)
    · exact .inr (.inr (by rw [k2]; exact d))
  · rcases hl with hl | hl
    · exact .inr (.inl hl)
    · exact .inr (.inr (by omega))
theorem dj_sym {v w : V} (d : Dj v w) : Dj w v := by
  rcases d with d | d | d
  · exact .inr (.inl d)
  · exact .inl d
  · exact .inr (.inr (Ne.symm d))
theorem sl_grown {b b' sz : Nat} {h1 h2 : AH} {x v w : V} {R : List (List V)} (s : Sl b h1 sz w R) (g : Grown b' h1 x v h2) (d : Dj x w) : Sl b h2 sz w R := by
  rcases s with hs | ⟨i, el, cap, cs, rfl, hg, a1, a2, a3, a4, a5, a6⟩
  · exact .inl hs
  · refine .inr ⟨i, el, cap, cs, rfl, ?_, a1, a2, a3, Nat.lt_of_lt_of_le a4 g.next, a5, a6⟩
    rw [g.get i a4]; exact hg
    rcases d with d | d | d
    · exact .inl d
    · cases d
    · exact .inr (Ne.symm d)
theorem grown_low {b : Nat} {h1 h2 : AH} {x v : V} (g : Grown b h1 x v h2) (hx : nilV x = true ∨ b ≤ idV x) (hb : b ≤ h1.next) : ∀ i, i < b → h2.get i = h1.get i := fun i hi => g.get i (by omega) (hx.imp (fun x => x) (fun x => by omega))
theorem CS.grow_p {h1 h3 : AH} {v : V} {x : Part} (a : CS q id L h h' vp vc vt P Ch T j) (hid : id < h.next) (e : Ext h' h1) (s : Sl (h.next + 2) h3 11 v (P.map Part.enc ++ [x.enc])) (g : Grown (h.next + 2) h1 vp v h3) :
    CS h3.next id L h (h3.put (h.next + 1) ⟨3, [[v, vc, vt]]⟩) v vc vt (P ++ [x]) Ch T j := by
  have q1 := a.q1; have q2 := a.q2; have n1 := e.next; have n2 := g.next
  have gl := grown_low g (sl_own a.sp) (by omega)
  have a1 := a.ext hid e
  have m := sl_low s
  refine ⟨by omega, Nat.le_refl _, g.lim.trans a1.lim, by rw [get_put, gsel_ne (by omega)]; exact (gl _ (by omega)).trans a1.tape, a.jl, by rw [get_put, gsel_ne (by omega)]; exact (gl _ (by omega)).trans a1.res, by rw [get_put, gsel_eq rfl], fun i hi hn => by rw [get_put, gsel_ne (by omega)]; exact (gl i (by omega)).trans (a1.low i hi hn), ?_, ?_, ?_, m, a.cl.imp (fun x => x) (fun x => by omega), a.tl.imp (fun x => x) (fun x => by omega), dj_grown g a.pc (a.cl.imp (fun x => x) (fun x => by omega)), dj_grown g a.pt (a.tl.imp (fun x => x) (fun x => by omega)), a.ct⟩
  · refine sl_put ?_ _ _ ((sl_own s).imp (fun x => x) (fun x => by omega)); simpa using s
  · exact sl_put (sl_grown a1.sc g a.pc) _ _ ((sl_own a.sc).imp (fun x => x) (fun x => by omega))
  · exact sl_put (sl_grown a1.st g a.pt) _ _ ((sl_own a.st).imp (fun x => x) (fun x => by omega))
theorem CS.grow_c {h1 h3 : AH} {v : V} {x : Chan} (a : CS q id L h h' vp vc vt P Ch T j) (hid : id < h.next) (e : Ext h' h1) (s : Sl (h.next + 2) h3 6 v (Ch.map Chan.enc ++ [x.enc])) (g : Grown (h.next + 2) h1 vc v h3) :
    CS h3.next id L h (h3.put (h.next + 1) ⟨3, [[vp, v, vt]]⟩) vp v vt P (Ch ++ [x]) T j := by
  have q1 := a.q1; have q2 := a.q2; have n1 := e.next; have n2 := g.next
  have gl := grown_low g (sl_own a.sc) (by omega)
  have a1 := a.ext hid e
  have m := sl_low s
  refine ⟨by omega, Nat.le_refl _, g.lim.trans a1.lim, by rw [get_put, gsel_ne (by omega)]; exact (gl _ (by omega)).trans a1.tape, a.jl, by rw [get_put, gsel_ne (by omega)]; exact (gl _ (by omega)).trans a1.res, by rw [get_put, gsel_eq rfl], fun i hi hn => by rw [get_put, gsel_ne (by omega)]; exact (gl i (by omega)).trans (a1.low i hi hn), ?_, ?_, ?_, a.pl.imp (fun x => x) (fun x => by omega), m, a.tl.imp (fun x => x) (fun x => by omega), dj_sym (dj_grown g (dj_sym a.pc) (a.pl.imp (fun x => x) (fun x => by omega))), a.pt, dj_grown g a.ct (a.tl.imp (fun x => x) (fun x => by omega))⟩
  · exact sl_put (sl_grown a1.sp g (dj_sym a.pc)) _ _ ((sl_own a.sp).imp (fun x => x) (fun x => by omega))
  · refine sl_put ?_ _ _ ((sl_own s).imp (fun x => x) (fun x => by omega)); simpa using s
  · exact sl_put (sl_grown a1.st g a.ct) _ _ ((sl_own a.st).imp (fun x => x) (fun x => by omega))
theorem CS.grow_t {h1 h3 : AH} {v : V} {x : List Node} (a : CS q id L h h' vp vc vt P Ch T j) (hid : id < h.next) (e : Ext h' h1) (s : Sl (h.next + 2) h3 1 v (T.map Tab.enc ++ [Tab.enc x])) (g : Grown (h.next + 2) h1 vt v h3) :
    CS h3.next id L h (h3.put (h.next + 1) ⟨3, [[vp, vc, v]]⟩) vp vc v P Ch (T ++ [x]) j := by
  have q1 := a.q1; have q2 := a.q2; have n1 := e.next; have n2 := g.next
  have gl := grown_low g (sl_own a.st) (by omega)
  have a1 := a.ext hid e
  have m := sl_low s
  refine ⟨by omega, Nat.le_refl _, g.lim.trans a1.lim, by rw [get_put, gsel_ne (by omega)]; exact (gl _ (by omega)).trans a1.tape, a.jl, by rw [get_put, gsel_ne (by omega)]; exact (gl _ (by omega)).trans a1.res, by rw [get_put, gsel_eq rfl], fun i hi hn => by rw [get_put, gsel_ne (by omega)]; exact (gl i (by omega)).trans (a1.low i hi hn), ?_, ?_, ?_, a.pl.imp (fun x => x) (fun x => by omega), a.cl.imp (fun x => x) (fun x => by omega), m, a.pc, dj_sym (dj_grown g (dj_sym a.pt) (a.pl.imp (fun x => x) (fun x => by omega))), dj_sym (dj_grown g (dj_sym a.ct) (a.cl.imp (fun x => x) (fun x => by omega)))⟩
  · exact sl_put (sl_grown a1.sp g (dj_sym a.pt)) _ _ ((sl_own a.sp).imp (fun x => x) (fun x => by omega))
  · exact sl_put (sl_grown a1.sc g (dj_sym a.ct)) _ _ ((sl_own a.sc).imp (fun x => x) (fun x => by omega))
  · refine sl_put ?_ _ _ ((sl_own s).imp (fun x => x) (fun x => by omega)); simpa using s
end
end Go.Ab.T
namespace Go.Ab.T
open Go Go.Ab
set_option maxHeartbeats 4000000
section
variable {q id : Nat} {L : List Int} {h h' h2 : AH} {vp vc vt : V} {P : List Part} {Ch : List Chan} {T : List (List Node)} {j : Nat}
theorem cfg_procs {K : Ex → Env → AH → Prop} {e : Env} {k n : Int} {i : Nat} {nm : ByteArray} {sc st : Bool} (hid : id < h.next) (hlo : h.lim ≤ id) (hL : L.length < 4000000000) (hk0 : 0 ≤ k) (hk1 : k ≤ 1) (a : CS q id L h h' vp vc vt P Ch T j) (hq : q < h'.next)
    (hb : h'.get q = some ⟨11, [[.s nm, .i .i64 0, .i .i64 0, .b sc, .b st, .ns, .i .i64 0, .i .i64 0, .i .i64 0, .i .i64 0, .i .i64 0]]⟩)
    (e0 : e 0 = .p id 0 0) (e2 : e 2 = .p h.next 0 0) (e3 : e 3 = .p (h.next + 1) 0 0) (e4 : e 4 = .i .i64 n) (e5 : e 5 = .i .i64 i) (e6 : e 6 = .p q 0 0) (e7 : e 7 = .i .i64 k)
    (kk : ∀ e' h' j vr pr, e' 0 = .p id 0 0 → e' 2 = .p h.next 0 0 → e' 3 = .p (h.next + 1) 0 0 → e' 4 = .i .i64 n → e' 5 = .i .i64 i → e' 6 = .p q 0 0 → CS q id L h h' vp vc vt P Ch T j → q < h'.next → h'.get q = some ⟨11, [[.s nm, .i .i64 0, .i .i64 0, .b sc, .b st, vr, .i .i64 0, .i .i64 0, .i .i64 0, .i .i64 0, .i .i64 0]]⟩ → Sl (q + 1) h' 2 vr (pr.map Proc.enc) → procsB pr = true → pr.length ≤ 2 → K (.ex 2) e' h') : ZC tp (.loop Q6_10) e h' K := by
  refine ZC_loop_n (fun n' e hh => ∃ (k' : Int) (vr : V) (pr : List Proc) (j : Nat), n' = (k' + 1).toNat ∧ e 0 = .p id 0 0 ∧ e 2 = .p h.next 0 0 ∧ e 3 = .p (h.next + 1) 0 0 ∧ e 4 = .i .i64 n ∧ e 5 = .i .i64 i ∧ e 6 = .p q 0 0 ∧ e 7 = .i .i64 k' ∧ -1 ≤ k' ∧ CS q id L h hh vp vc vt P Ch T j ∧ q < hh.next ∧ hh.get q = some ⟨11, [[.s nm, .i .i64 0, .i .i64 0, .b sc, .b st, vr, .i .i64 0, .i .i64 0, .i .i64 0, .i .i64 0, .i .i64 0]]⟩ ∧ Sl (q + 1) hh 2 vr (pr.map Proc.enc) ∧ (∀ x ∈ pr, procB x = true) ∧ (pr.length : Int) + k' = k) ?_ _ _ _ ⟨k, .ns, [], j, rfl, e0, e2, e3, e4, e5, e6, e7, by omega, a, hq, hb, Sl.nil _ _ _, (fun x hx => by cases hx), by simp⟩
  clear e0 e2 e3 e4 e5 e6 e7 e a hq hb
  rintro n' e hh ⟨k', vr, pr, j, rfl, e0, e2, e3, e4, e5, e6, e7, hk', a, hq, hb, sr, hpr, hlen⟩ ih
  have q1 := a.q1
  have hlm := a.lim
  have hro := sl_own sr
  obtain ⟨rlen, rbig, rlt, rlo, rget, rat, rrow, rcell, rcells⟩ := sr.facts
  have hsv := Sl.sameV sr
  clear rlt rlo rget rat rrow rlen rbig
  rw [ZC_unf Q6_10.eq_1]
  simp (disch := omega) only [go_sem, *]
  refine Wb_dec (fun hc => ?_) (fun hc => ?_)
  · simp (disch := omega) only [go_sem, *]
    refine tnext_ev a.tape a.jl hL (by omega) ?_
    intro v j2 v0 v1 v2 hj2
    have a2 := a.tape2 hid hj2
    have sr2 := sl_put sr id (tapeB L j2) (hro.imp (fun x => x) (fun x => by omega))
    have hb2 : (hh.put id (tapeB L j2)).get q = some ⟨11, [[.s nm, .i .i64 0, .i .i64 0, .b sc, .b st, vr, .i .i64 0, .i .i64 0, .i .i64 0, .i .i64 0, .i .i64 0]]⟩ := by rw [get_put, gsel_ne (by omega)]; exact hb
    have hq2 : q < (hh.put id (tapeB L j2)).next := hq
    generalize hh.put id (tapeB L j2) = h2 at a2 sr2 hb2 hq2 ⊢
    clear a sr hb hq hlm
    have hlm := a2.lim
    simp (disch := omega) only [go_sem, *]
    refine tnext_ev a2.tape a2.jl hL (by omega) ?_
    intro v' j3 v0' v1' v2' hj3
    have a3 := a2.tape2 hid hj3
    have sr3 := sl_put sr2 id (tapeB L j3) (hro.imp (fun x => x) (fun x => by omega))
    have hb3 : (h2.put id (tapeB L j3)).get q = some ⟨11, [[.s nm, .i .i64 0, .i .i64 0, .b sc, .b st, vr, .i .i64 0, .i .i64 0, .i .i64 0, .i .i64 0, .i .i64 0]]⟩ := by rw [get_put, gsel_ne (by omega)]; exact hb2
    have hq3 : q < (h2.put id (tapeB L j3)).next := hq2
    generalize h2.put id (tapeB L j3) = h3 at a3 sr3 hb3 hq3 ⊢
    clear a2 sr2 hb2 hq2 hlm
    have hlm := a3.lim
    simp (disch := omega) only [go_sem, *]
    refine app_rule (sr3.alloc _) (by simp (disch := omega) only [go_sem, *] <;> omega) (by simp (disch := omega) only [go_sem, *] <;> omega) (by simp; omega) ?_
    intro w h4 s4 g4
    have l4 := g4.lim
    have n4 := g4.next
    have gl := grown_low g4 hro (by simp (disch := omega) only [go_sem, *] <;> omega)
    have c4 := g4.cell
    have c4s := g4.cells
    have x3 : Ext h3 (h3.alloc ⟨2, [(⟨4 * v, v'⟩ : Proc).enc]⟩) := (Ext.refl _).alloc _
    simp only [Proc.enc, next_alloc, lim_alloc] at l4 n4 x3 gl
    have hb4 : h4.get q = some ⟨11, [[.s nm, .i .i64 0, .i .i64 0, .b sc, .b st, vr, .i .i64 0, .i .i64 0, .i .i64 0, .i .i64 0, .i .i64 0]]⟩ := (gl q (by omega)).trans ((x3.get q (by omega)).trans hb3)
    have hsw := Sl.sameV s4
    have a5 : CS q id L h (h4.put q ⟨11, [[.s nm, .i .i64 0, .i .i64 0, .b sc, .b st, w, .i .i64 0, .i .i64 0, .i .i64 0, .i .i64 0, .i .i64 0]]⟩) vp vc vt P Ch T j3 := a3.keep hid (by rw [next_put]; omega) (by rw [lim_put]; omega) (fun i hi => by rw [get_put, gsel_ne (by omega), gl i (by omega)]; exact x3.get i (by omega))
    have s5 : Sl (q + 1) (h4.put q ⟨11, [[.s nm, .i .i64 0, .i .i64 0, .b sc, .b st, w, .i .i64 0, .i .i64 0, .i .i64 0, .i .i64 0, .i .i64 0]]⟩) 2 w ((pr ++ [(⟨4 * v, v'⟩ : Proc)]).map Proc.enc) := sl_put (by simpa [Proc.enc] using s4) _ _ ((sl_own s4).imp (fun x => x) (fun x => by omega))
    have hpr5 : ∀ x ∈ pr ++ [(⟨4 * v, v'⟩ : Proc)], procB x = true := fun x hx => by
      rcases List.mem_append.1 hx with hx | hx
      · exact hpr x hx
      · rw [List.mem_singleton] at hx; subst hx; simp only [procB]; simp; omega
    clear hpr s4
    simp (disch := omega) only [go_sem, *]
    refine ih _ _ _ ?_ ⟨k' - 1, w, pr ++ [⟨4 * v, v'⟩], j3, rfl, ?_⟩
    · omega
    · simp (disch := omega) only [go_sem, *]
      ((repeat' refine And.intro ?_ ?_) <;> first | omega | assumption | (exact a5) | (exact s5) | (exact hpr5) | ((simp only [List.length_append, List.length_cons, List.length_nil]; omega)))
  · simp (disch := omega) only [go_sem, *]
    have hpl : procsB pr = true := by
      unfold procsB
      simp only [Bool.and_eq_true, List.all_eq_true, decide_eq_true_eq]
      exact ⟨hpr, by omega⟩
    exact kk _ hh j vr pr e0 e2 e3 e4 e5 e6 a hq hb sr hpl (by omega)
end
end Go.Ab.T
namespace Go.Ab.T
open Go Go.Ab
set_option maxHeartbeats 4000000
theorem tab5 {v : Int} (h0 : 0 ≤ v) (h5 : v < 5) : ∃ z : Int, 0 ≤ z ∧ z ≤ 2 ∧ [[V.i .i64 0], [.i .i64 1], [.i .i64 0], [.i .i64 2], [.i .i64 1]][v.toNat]? = some [.i .i64 z] := by
  have : v = 0 ∨ v = 1 ∨ v = 2 ∨ v = 3 ∨ v = 4 := by omega
  rcases this with rfl | rfl | rfl | rfl | rfl
  · exact ⟨0, by omega, by omega, rfl⟩
  · exact ⟨1, by omega, by omega, rfl⟩
  · exact ⟨0, by omega, by omega, rfl⟩
  · exact ⟨2, by omega, by omega, rfl⟩
  · exact ⟨1, by omega, by omega, rfl⟩
section
variable {q id : Nat} {L : List Int} {h h' h2 : AH} {vp vc vt : V} {P : List Part} {Ch : List Chan} {T : List (List Node)} {j : Nat}
theorem cfg_health {K : Ex → Env → AH → Prop} {e : Env} {n : Int} {i : Nat} {nm : ByteArray} {sc st : Bool} {vr : V} {pr : List Proc} (hid : id < h.next) (hlo : h.lim ≤ id) (hL : L.length < 4000000000) (a : CS q id L h h' vp vc vt P Ch T j) (hq : q < h'.next)
    (hb : h'.get q = some ⟨11, [[.s nm, .i .i64 0, .i .i64 0, .b sc, .b st, vr, .i .i64 0, .i .i64 0, .i .i64 0, .i .i64 0, .i .i64 0]]⟩) (sr : Sl (q + 1) h' 2 vr (pr.map Proc.enc)) (hpr : procsB pr = true) (hpl : pr.length ≤ 2)
    (e0 : e 0 = .p id 0 0) (e2 : e 2 = .p h.next 0 0) (e3 : e 3 = .p (h.next + 1) 0 0) (e4 : e 4 = .i .i64 n) (e5 : e 5 = .i .i64 i) (e6 : e 6 = .p q 0 0) (e50 : e 50 = .i .i64 0)
    (kk : ∀ e' h' j (hs : Nat → Int), (∀ i, 0 ≤ hs i ∧ hs i ≤ 2) → e' 0 = .p id 0 0 → e' 2 = .p h.next 0 0 → e' 3 = .p (h.next + 1) 0 0 → e' 4 = .i .i64 n → e' 5 = .i .i64 i → e' 6 = .p q 0 0 → CS q id L h h' vp vc vt P Ch T j → q < h'.next → h'.get q = some ⟨11, [(⟨nm, 0, 0, sc, st, pr, hs 0, hs 1, hs 2, hs 3, hs 4⟩ : Part).enc]⟩ → K (.ex 4) e' h') : ZC tp (.loop Q6_16) e h' K := by
  have q1 := a.q1; have q2 := a.q2
  have hp1 : 0 < pr.length := by
    unfold procsB at hpr
    simp only [Bool.and_eq_true, decide_eq_true_eq] at hpr
    omega
  obtain ⟨rlen, rbig, rlt, rlo, rget, rat, rrow, rcell, rcells⟩ := sr.facts
  have l1 := rlt hp1
  have l2 := rlo hp1
  refine ZC_fix [0, 2, 3, 4, 5, 6, 50] q (idV vr) 11 _ [.s nm, .i .i64 0, .i .i64 0, .b sc, .b st, .fl 2 (pr.map Proc.enc), .i .i64 0, .i .i64 0, .i .i64 0, .i .i64 0, .i .i64 0] (by omega) hb ?_ ?_ ?_
  · exact .cons _ _ _ _ _ (.cons _ _ _ _ _ (.z _ _ (.s _)) (.cons _ _ _ _ _ (.z _ _ (.i _ _)) (.cons _ _ _ _ _ (.z _ _ (.i _ _)) (.cons _ _ _ _ _ (.z _ _ (.b _)) (.cons _ _ _ _ _ (.z _ _ (.b _)) (.cons _ _ _ _ _ (sr.froze (fun _ => rfl) rfl (by omega)) (.cons _ _ _ _ _ (.z _ _ (.i _ _)) (.cons _ _ _ _ _ (.z _ _ (.i _ _)) (.cons _ _ _ _ _ (.z _ _ (.i _ _)) (.cons _ _ _ _ _ (.z _ _ (.i _ _)) (.cons _ _ _ _ _ (.z _ _ (.i _ _)) (.nil _)))))))))))) (.nil _)
  · intro t ht
    simp only [List.mem_cons, List.not_mem_nil, or_false] at ht
    rcases ht with rfl | rfl | rfl | rfl | rfl | rfl | rfl
    · rw [e0]; exact .p _ _ _ _ (by omega)
    · rw [e2]; exact .p _ _ _ _ (by omega)
    · rw [e3]; exact .p _ _ _ _ (by omega)
    · rw [e4]; exact .z _ _ (.i _ _)
    · rw [e5]; exact .z _ _ (.i _ _)
    · rw [e6]; exact .p _ _ _ _ (by omega)
    · rw [e50]; exact .z _ _ (.i _ _)
  intro e' he'
  rw [← he' 0 (by simp)] at e0
  rw [← he' 2 (by simp)] at e2
  rw [← he' 3 (by simp)] at e3
  rw [← he' 4 (by simp)] at e4
  rw [← he' 5 (by simp)] at e5
  rw [← he' 6 (by simp)] at e6
  rw [← he' 50 (by simp)] at e50
  have hb1 : ((h'.kill (idV vr)).put q ⟨11, [[.s nm, .i .i64 0, .i .i64 0, .b sc, .b st, .fl 2 (pr.map Proc.enc), .i .i64 0, .i .i64 0, .i .i64 0, .i .i64 0, .i .i64 0]]⟩).get q = some ⟨11, [(⟨nm, 0, 0, sc, st, pr, 0, 0, 0, 0, 0⟩ : Part).enc]⟩ := by rw [get_put, gsel_eq rfl]; rfl
  have a1 : CS q id L h ((h'.kill (idV vr)).put q ⟨11, [[.s nm, .i .i64 0, .i .i64 0, .b sc, .b st, .fl 2 (pr.map Proc.enc), .i .i64 0, .i .i64 0, .i .i64 0, .i .i64 0, .i .i64 0]]⟩) vp vc vt P Ch T j := a.keep hid (Nat.le_refl _) rfl (fun i hi => by rw [get_put, gsel_ne (by omega), get_kill, gsel_ne (by omega)])
  have hq1 : q < ((h'.kill (idV vr)).put q ⟨11, [[.s nm, .i .i64 0, .i .i64 0, .b sc, .b st, .fl 2 (pr.map Proc.enc), .i .i64 0, .i .i64 0, .i .i64 0, .i .i64 0, .i .i64 0]]⟩).next := hq
  generalize (h'.kill (idV vr)).put q ⟨11, [[.s nm, .i .i64 0, .i .i64 0, .b sc, .b st, .fl 2 (pr.map Proc.enc), .i .i64 0, .i .i64 0, .i .i64 0, .i .i64 0, .i .i64 0]]⟩ = h1 at a1 hb1 hq1 ⊢
  clear rlen rbig rlt rlo rget rat rrow rcell rcells l1 l2 sr hb a hq q2 he'
  refine ZC_loop_n (fun n' e hh => ∃ (k j : Nat) (hs : Nat → Int), n' = 5 - k ∧ e 0 = .p id 0 0 ∧ e 2 = .p h.next 0 0 ∧ e 3 = .p (h.next + 1) 0 0 ∧ e 4 = .i .i64 n ∧ e 5 = .i .i64 i ∧ e 6 = .p q 0 0 ∧ e 50 = .i .i64 k ∧ k ≤ 5 ∧ CS q id L h hh vp vc vt P Ch T j ∧ q < hh.next ∧ hh.get q = some ⟨11, [(⟨nm, 0, 0, sc, st, pr, hs 0, hs 1, hs 2, hs 3, hs 4⟩ : Part).enc]⟩ ∧ ∀ i, 0 ≤ hs i ∧ hs i ≤ 2) ?_ _ _ _ ⟨0, j, fun _ => 0, rfl, e0, e2, e3, e4, e5, e6, e50, by omega, a1, hq1, hb1, fun _ => ⟨by simp, by simp⟩⟩
  clear e0 e2 e3 e4 e5 e6 e50 a1 hq1 hb1
  rintro n' e hh ⟨k, j, hs, rfl, e0, e2, e3, e4, e5, e6, e50, hk, a, hq, hb, hhs⟩ ih
  have q2 := a.q2
  have hlm := a.lim
  rw [ZC_unf Q6_16.eq_1]
  simp (disch := omega) only [go_sem, *]
  refine Wb_dec (fun hc => ?_) (fun hc => ?_)
  · simp (disch := omega) only [go_sem, *]
    have x1 : Ext hh (hh.alloc ⟨1, [[V.i .i64 0], [.i .i64 1], [.i .i64 0], [.i .i64 2], [.i .i64 1]]⟩) := (Ext.refl _).alloc _
    have a1 := a.ext hid x1
    refine tnext_ev a1.tape a1.jl hL (by rw [lim_alloc]; omega) ?_
    intro v j2 v0 v1 v2 hj2
    obtain ⟨z, z0, z2, hz⟩ := tab5 v0 (by omega)
    have a2 := a1.tape2 hid hj2
    have hb2 : ((hh.alloc ⟨1, [[V.i .i64 0], [.i .i64 1], [.i .i64 0], [.i .i64 2], [.i .i64 1]]⟩).put id (tapeB L j2)).get q = some ⟨11, [(⟨nm, 0, 0, sc, st, pr, hs 0, hs 1, hs 2, hs 3, hs 4⟩ : Part).enc]⟩ := by rw [get_put, gsel_ne (by omega), get_alloc, gsel_ne (by omega)]; exact hb
    have hl2 : ((hh.alloc ⟨1, [[V.i .i64 0], [.i .i64 1], [.i .i64 0], [.i .i64 2], [.i .i64 1]]⟩).put id (tapeB L j2)).get hh.next = some ⟨1, [[V.i .i64 0], [.i .i64 1], [.i .i64 0], [.i .i64 2], [.i .i64 1]]⟩ := by rw [get_put, gsel_ne (by omega), get_alloc, gsel_eq rfl]
    have hn2 : ((hh.alloc ⟨1, [[V.i .i64 0], [.i .i64 1], [.i .i64 0], [.i .i64 2], [.i .i64 1]]⟩).put id (tapeB L j2)).next = hh.next + 1 := rfl
    generalize (hh.alloc ⟨1, [[V.i .i64 0], [.i .i64 1], [.i .i64 0], [.i .i64 2], [.i .i64 1]]⟩).put id (tapeB L j2) = h3 at a2 hb2 hl2 hn2 ⊢
    clear x1 a1 a hb hlm q2
    have hlm := a2.lim
    simp only [Part.enc] at hb2
    have h15 : k = 0 ∨ k = 1 ∨ k = 2 ∨ k = 3 ∨ k = 4 := by omega
    have fin : ∀ hs' : Nat → Int, (∀ i, hs' i = hs i ∨ hs' i = z) → CS q id L h (h3.put q ⟨11, [(⟨nm, 0, 0, sc, st, pr, hs' 0, hs' 1, hs' 2, hs' 3, hs' 4⟩ : Part).enc]⟩) vp vc vt P Ch T j2 ∧ ∀ i, 0 ≤ hs' i ∧ hs' i ≤ 2 := fun hs' hh' => ⟨a2.keep hid (Nat.le_refl _) rfl (fun i hi => by rw [get_put, gsel_ne (by omega)]), fun i => by have := hh' i; have := hhs i; omega⟩
    have hs1 := fun k => fin (fun i => if i = k then z else hs i) (fun i => by by_cases e : i = k <;> simp [e])
    clear fin a2
    simp only [Part.enc] at hs1
    rcases h15 with rfl | rfl | rfl | rfl | rfl
    · have hs2 := hs1 0
      clear hs1
      simp (disch := omega) only [go_sem, *]
      refine ih _ _ _ ?_ ⟨1, j2, fun i => if i = 0 then z else hs i, rfl, ?_⟩
      · omega
      · simp only [Nat.reduceEqDiff, reduceIte] at hs2
        simp (disch := omega) only [go_sem, *]
        ((repeat' refine And.intro ?_ ?_) <;> first | omega | assumption | (exact hs2.1) | (exact hs2.2) | (exact fun _ => trivial) | (rfl))
    · have hs2 := hs1 1
      clear hs1
      simp (disch := omega) only [go_sem, *]
      refine ih _ _ _ ?_ ⟨2, j2, fun i => if i = 1 then z else hs i, rfl, ?_⟩
      · omega
      · simp only [Nat.reduceEqDiff, reduceIte] at hs2
        simp (disch := omega) only [go_sem, *]
        ((repeat' refine And.intro ?_ ?_) <;> first | omega | assumption | (exact hs2.1) | (exact hs2.2) | (exact fun _ => trivial) | (rfl))
    · have hs2 := hs1 2
      clear hs1
      simp (disch := omega) only [go_sem, *]
      refine ih _ _ _ ?_ ⟨3, j2, fun i => if i = 2 then z else hs i, rfl, ?_⟩
      · omega
      · simp only [Nat.reduceEqDiff, reduceIte] at hs2
        simp (disch := omega) only [go_sem, *]
        ((repeat' refine And.intro ?_ ?_) <;> first | omega | assumption | (exact hs2.1) | (exact hs2.2) | (exact fun _ => trivial) | (rfl))
    · have hs2 := hs1 3
      clear hs1
      simp (disch := omega) only [go_sem, *]
      refine ih _ _ _ ?_ ⟨4, j2, fun i => if i = 3 then z else hs i, rfl, ?_⟩
      · omega
      · simp only [Nat.reduceEqDiff, reduceIte] at hs2
        simp (disch := omega) only [go_sem, *]
        ((repeat' refine And.intro ?_ ?_) <;> first | omega | assumption | (exact hs2.1) | (exact hs2.2) | (exact fun _ => trivial) | (rfl))
    · have hs2 := hs1 4
      clear hs1
      simp (disch := omega) only [go_sem, *]
      refine ih _ _ _ ?_ ⟨5, j2, fun i => if i = 4 then z else hs i, rfl, ?_⟩
      · omega
      · simp only [Nat.reduceEqDiff, reduceIte] at hs2
        simp (disch := omega) only [go_sem, *]
        ((repeat' refine And.intro ?_ ?_) <;> first | omega | assumption | (exact hs2.1) | (exact hs2.2) | (exact fun _ => trivial) | (rfl))
  · simp (disch := omega) only [go_sem, *]
    exact kk _ hh j hs hhs e0 e2 e3 e4 e5 e6 a hq hb
end
end Go.Ab.T
namespace Go.Ab.T
open Go Go.Ab
set_option maxHeartbeats 4000000
@[irreducible] def nmOf (i : Nat) : ByteArray := ⟨#[112]⟩ ++ Utf8.encode (97 + (i : Int))
theorem nmOf_val {i : Nat} (h : i < 4) : binV .add (.s ⟨#[112]⟩) (.s (Utf8.encode (97 + (i : Int)))) = some (.s (nmOf i)) := by
  unfold nmOf
  refine binS_add ?_
  match i, h with
  | 0, _ => decide
  | 1, _ => decide
  | 2, _ => decide
  | 3, _ => decide
theorem nmOf_ok {i : Nat} (h : i < 4) : nameB (nmOf i) = true := by
  unfold nameB nmOf
  match i, h with
  | 0, _ => decide
  | 1, _ => decide
  | 2, _ => decide
  | 3, _ => decide
theorem nmOf_ne {i j : Nat} (hi : i < 4) (hj : j < 4) (h : i ≠ j) : nmOf i ≠ nmOf j := by
  unfold nmOf
  match i, j, hi, hj, h with
  | 0, 0, _, _, h | 1, 1, _, _, h | 2, 2, _, _, h | 3, 3, _, _, h => exact absurd rfl h
  | 0, 1, _, _, _ | 0, 2, _, _, _ | 0, 3, _, _, _ | 1, 0, _, _, _ | 1, 2, _, _, _ | 1, 3, _, _, _ | 2, 0, _, _, _ | 2, 1, _, _, _ | 2, 3, _, _, _ | 3, 0, _, _, _ | 3, 1, _, _, _ | 3, 2, _, _, _ => decide
def PO (p : Part) (k : Nat) : Prop := p.name = nmOf k ∧ partB p = true ∧ z0 p = p
section
variable {id : Nat} {L : List Int} {h h' h2 : AH} {T : List (List Node)} {j : Nat}
theorem cfg_parts {K : Ex → Env → AH → Prop} {e : Env} {n : Nat} (hid : id < h.next) (hlo : h.lim ≤ id) (hL : L.length < 4000000000) (hn : n ≤ 4) (a : CS h'.next id L h h' .ns .ns .ns [] [] [] j)
    (e0 : e 0 = .p id 0 0) (e2 : e 2 = .p h.next 0 0) (e3 : e 3 = .p (h.next + 1) 0 0) (e4 : e 4 = .i .i64 n) (e5 : e 5 = .i .i64 0)
    (kk : ∀ e' h' j vp P, e' 0 = .p id 0 0 → e' 2 = .p h.next 0 0 → e' 3 = .p (h.next + 1) 0 0 → e' 4 = .i .i64 n → CS h'.next id L h h' vp .ns .ns P [] [] j → P.length = n → (∀ k, k < n → PO (nth P k) k) → K (.ex 0) e' h') : ZC tp (.loop Q6_19) e h' K := by
  refine ZC_loop_n (fun n' e hh => ∃ (i j : Nat) (vp : V) (P : List Part), n' = n - i ∧ e 0 = .p id 0 0 ∧ e 2 = .p h.next 0 0 ∧ e 3 = .p (h.next + 1) 0 0 ∧ e 4 = .i .i64 n ∧ e 5 = .i .i64 i ∧ i ≤ n ∧ CS hh.next id L h hh vp .ns .ns P [] [] j ∧ P.length = i ∧ ∀ k, k < i → PO (nth P k) k) ?_ _ _ _ ⟨0, j, .ns, [], rfl, e0, e2, e3, e4, e5, by omega, a, rfl, fun k hk => by omega⟩
  clear e0 e2 e3 e4 e5 e a
  rintro n' e hh ⟨i, j, vp, P, rfl, e0, e2, e3, e4, e5, hi, a, hlen, hP⟩ ih
  have hlm := a.lim
  have q1 := a.q1
  rw [ZC_unf Q6_19.eq_1]
  simp (disch := omega) only [go_sem, *]
  refine Wb_dec (fun hc => ?_) (fun hc => ?_)
  · have hnm := nmOf_val (i := i) (by omega)
    have hw32 : IntKind.wrap .i32 (97 + (i : Int)) = 97 + i := by rw [IntKind.wrap_i32]; omega
    simp (disch := omega) only [go_sem, *]
    refine tnext_ev a.tape a.jl hL (by omega) ?_
    intro v j1 v0 v1 v2 hj1
    have a1 := a.tape2 hid hj1
    have n1 : (hh.put id (tapeB L j1)).next = hh.next := rfl
    rw [← n1] at a1 q1
    clear n1
    generalize hh.put id (tapeB L j1) = h1 at a1 q1 ⊢
    clear a hlm
    have hlm := a1.lim
    simp (disch := omega) only [go_sem, *]
    refine tnext_ev a1.tape a1.jl hL (by omega) ?_
    intro w j2 w0 w1 w2 hj2
    have a2 := a1.tape2 hid hj2
    have n2 : (h1.put id (tapeB L j2)).next = h1.next := rfl
    rw [← n2] at a2 q1
    clear n2
    generalize h1.put id (tapeB L j2) = h2 at a2 q1 ⊢
    clear a1 hlm
    have hlm := a2.lim
    simp (disch := omega) only [go_sem, *]
    have x3 : Ext h2 ((h2.alloc ⟨11, [[.s ⟨#[]⟩, .i .i64 0, .i .i64 0, .b false, .b false, .ns, .i .i64 0, .i .i64 0, .i .i64 0, .i .i64 0, .i .i64 0]]⟩).put h2.next ⟨11, [[.s (nmOf i), .i .i64 0, .i .i64 0, .b (decide (v = 0)), .b (decide (w = 0)), .ns, .i .i64 0, .i .i64 0, .i .i64 0, .i .i64 0, .i .i64 0]]⟩) := by (repeat (first | exact Ext.refl _ | refine Ext.alloc ?_ _ | (refine Ext.put ?_ _ _ ?_; rotate_left; (first | omega | (simp only [next_alloc, next_put]; omega)))))
    have a3 := a2.ext hid x3
    have b3 : ((h2.alloc ⟨11, [[.s ⟨#[]⟩, .i .i64 0, .i .i64 0, .b false, .b false, .ns, .i .i64 0, .i .i64 0, .i .i64 0, .i .i64 0, .i .i64 0]]⟩).put h2.next ⟨11, [[.s (nmOf i), .i .i64 0, .i .i64 0, .b (decide (v = 0)), .b (decide (w = 0)), .ns, .i .i64 0, .i .i64 0, .i .i64 0, .i .i64 0, .i .i64 0]]⟩).get h2.next = some ⟨11, [[.s (nmOf i), .i .i64 0, .i .i64 0, .b (decide (v = 0)), .b (decide (w = 0)), .ns, .i .i64 0, .i .i64 0, .i .i64 0, .i .i64 0, .i .i64 0]]⟩ := by rw [get_put, gsel_eq rfl]
    have n3 : h2.next < ((h2.alloc ⟨11, [[.s ⟨#[]⟩, .i .i64 0, .i .i64 0, .b false, .b false, .ns, .i .i64 0, .i .i64 0, .i .i64 0, .i .i64 0, .i .i64 0]]⟩).put h2.next ⟨11, [[.s (nmOf i), .i .i64 0, .i .i64 0, .b (decide (v = 0)), .b (decide (w = 0)), .ns, .i .i64 0, .i .i64 0, .i .i64 0, .i .i64 0, .i .i64 0]]⟩).next := Nat.lt_succ_self _
    generalize (h2.alloc ⟨11, [[.s ⟨#[]⟩, .i .i64 0, .i .i64 0, .b false, .b false, .ns, .i .i64 0, .i .i64 0, .i .i64 0, .i .i64 0, .i .i64 0]]⟩).put h2.next ⟨11, [[.s (nmOf i), .i .i64 0, .i .i64 0, .b (decide (v = 0)), .b (decide (w = 0)), .ns, .i .i64 0, .i .i64 0, .i .i64 0, .i .i64 0, .i .i64 0]]⟩ = h3 at a3 b3 n3 ⊢
    clear x3 a2 hlm
    have hlm := a3.lim
    refine tnext_ev a3.tape a3.jl hL (by omega) ?_
    intro k j4 k0 k1 k2 hj4
    have a4 := a3.tape2 hid hj4
    have b4 : (h3.put id (tapeB L j4)).get h2.next = some ⟨11, [[.s (nmOf i), .i .i64 0, .i .i64 0, .b (decide (v = 0)), .b (decide (w = 0)), .ns, .i .i64 0, .i .i64 0, .i .i64 0, .i .i64 0, .i .i64 0]]⟩ := by rw [get_put, gsel_ne (by omega)]; exact b3
    have n4 : h2.next < (h3.put id (tapeB L j4)).next := n3
    generalize h3.put id (tapeB L j4) = h4 at a4 b4 n4 ⊢
    clear a3 b3 n3 hlm
    simp (disch := omega) only [go_sem, *]
    refine cfg_procs (k := k) (n := n) (i := i) hid hlo hL k0 (by omega) a4 n4 b4 (by simp (disch := omega) only [go_sem, *]) (by simp (disch := omega) only [go_sem, *]) (by simp (disch := omega) only [go_sem, *]) (by simp (disch := omega) only [go_sem, *]) (by simp (disch := omega) only [go_sem, *]) (by simp (disch := omega) only [go_sem, *]) (by simp (disch := omega) only [go_sem, *]) ?_
    clear a4 n4 b4 e0 e2 e3 e4 e5 e
    intro e h5 j5 vr pr e0 e2 e3 e4 e5 e6 a5 n5 b5 s5 hpr hpl
    simp (disch := omega) only [go_sem, *]
    refine cfg_health (n := n) (i := i) hid hlo hL a5 n5 b5 s5 hpr hpl (by simp (disch := omega) only [go_sem, *]) (by simp (disch := omega) only [go_sem, *]) (by simp (disch := omega) only [go_sem, *]) (by simp (disch := omega) only [go_sem, *]) (by simp (disch := omega) only [go_sem, *]) (by simp (disch := omega) only [go_sem, *]) (by simp (disch := omega) only [go_sem, *]) ?_
    clear a5 n5 b5 s5 e0 e2 e3 e4 e5 e6 e h5 j5 vr
    intro e h5 j5 hs hhs e0 e2 e3 e4 e5 e6 a5 n5 b5
    have hbox := a5.box
    have hlm := a5.lim
    have b6 := b5
    simp only [Part.enc] at b6
    have hpo : PO ⟨nmOf i, 0, 0, decide (v = 0), decide (w = 0), pr, hs 0, hs 1, hs 2, hs 3, hs 4⟩ i := by
      refine ⟨rfl, ?_, rfl⟩
      unfold partB
      have t0 := hhs 0; have t1 := hhs 1; have t2 := hhs 2; have t3 := hhs 3; have t4 := hhs 4
      have e1 : healthB ⟨nmOf i, 0, 0, decide (v = 0), decide (w = 0), pr, hs 0, hs 1, hs 2, hs 3, hs 4⟩ = true := by unfold healthB; rw [decide_eq_true_eq]; exact ⟨t0.1, t0.2, t1.1, t1.2, t2.1, t2.2, t3.1, t3.2, t4.1, t4.2⟩
      rw [e1]; simp only [hpr]; rfl
    simp (disch := omega) only [go_sem, *]
    refine app_rule (N := [(⟨nmOf i, 0, 0, decide (v = 0), decide (w = 0), pr, hs 0, hs 1, hs 2, hs 3, hs 4⟩ : Part).enc]) (a5.sp.alloc _) (by simp (disch := omega) only [go_sem, *] <;> omega) (by simp (disch := omega) only [go_sem, *] <;> omega) (by simp; omega) ?_
    intro vp' h6 s6 g6
    have x6 : Ext h5 (h5.alloc ⟨11, [(⟨nmOf i, 0, 0, decide (v = 0), decide (w = 0), pr, hs 0, hs 1, hs 2, hs 3, hs 4⟩ : Part).enc]⟩) := (Ext.refl _).alloc _
    have a6 := a5.grow_p (x := ⟨nmOf i, 0, 0, decide (v = 0), decide (w = 0), pr, hs 0, hs 1, hs 2, hs 3, hs 4⟩) hid x6 s6 g6
    have hb6 : h6.get (h.next + 1) = some ⟨3, [[vp, .ns, .ns]]⟩ := by
      rw [grown_low g6 (sl_own a5.sp) (by rw [next_alloc]; omega) _ (by omega), get_alloc, gsel_ne (by omega)]; exact hbox
    have l6 := g6.lim
    have hc6 := g6.cell
    have hcs6 := g6.cells
    clear s6 g6 x6
    simp only [lim_alloc] at l6
    simp (disch := omega) only [go_sem, *]
    refine ih _ _ _ ?_ ⟨i + 1, j5, vp', P ++ [⟨nmOf i, 0, 0, decide (v = 0), decide (w = 0), pr, hs 0, hs 1, hs 2, hs 3, hs 4⟩], rfl, ?_⟩
    · omega
    · simp (disch := omega) only [go_sem, *]
      refine ⟨by omega, by rw [List.length_append, hlen]; rfl, fun k hk => ?_⟩
      rw [nth_app]
      split
      · exact hP k (by omega)
      · obtain rfl : k = i := by omega
        rw [show k - P.length = 0 by omega, nth_cons0]
        exact hpo
  · simp (disch := omega) only [go_sem, *]
    obtain rfl : i = n := by omega
    exact kk _ hh j vp P e0 e2 e3 e4 a hlen hP
end
end Go.Ab.T
namespace Go.Ab.T
open Go Go.Ab
set_option maxHeartbeats 4000000
theorem tab3 {v : Int} (h0 : 0 ≤ v) (h5 : v < 3) : ∃ z : Int, [[V.i .u32 4294967295], [.i .u32 200], [.i .u32 3]][v.toNat]? = some [.i .u32 z] := by
  have : v = 0 ∨ v = 1 ∨ v = 2 := by omega
  rcases this with rfl | rfl | rfl
  · exact ⟨4294967295, rfl⟩
  · exact ⟨200, rfl⟩
  · exact ⟨3, rfl⟩
theorem other {f r n : Int} (h0 : 0 ≤ f) (h1 : f < n) (h2 : 0 ≤ r) (h3 : r < n - 1 ∨ r = 0) (hn : 1 < n) : 0 ≤ (f + 1 + r).tmod n ∧ (f + 1 + r).tmod n < n ∧ f ≠ (f + 1 + r).tmod n := by
  rw [Int.tmod_eq_emod_of_nonneg (by omega)]
  by_cases h : f + 1 + r < n
  · rw [Int.emod_eq_of_lt (by omega) h]; omega
  · have e : (f + 1 + r) % n = (f + 1 + r - n) % n := by rw [Int.sub_emod_right]
    rw [e, Int.emod_eq_of_lt (by omega) (by omega)]; omega
section
variable {id : Nat} {L : List Int} {h h' h2 : AH} {P : List Part} {j : Nat}
theorem cfg_chans {K : Ex → Env → AH → Prop} {e : Env} {n k : Int} {vp : V} (hid : id < h.next) (hlo : h.lim ≤ id) (hL : L.length < 4000000000) (hn : n ≤ 4) (hk : k ≤ 3) (hk0 : 0 ≤ k) (a : CS h'.next id L h h' vp .ns .ns P [] [] j)
    (e0 : e 0 = .p id 0 0) (e2 : e 2 = .p h.next 0 0) (e3 : e 3 = .p (h.next + 1) 0 0) (e4 : e 4 = .i .i64 n) (e9 : e 9 = .i .i64 k)
    (kk : ∀ e' h' j vc Ch, e' 0 = .p id 0 0 → e' 2 = .p h.next 0 0 → e' 3 = .p (h.next + 1) 0 0 → e' 4 = .i .i64 n → CS h'.next id L h h' vp vc .ns P Ch [] j → Ch.length ≤ 3 → (∀ x ∈ Ch, chanB n x = true ∧ x.late = 0) → K (.ex 6) e' h') : ZC tp (.loop Q6_28) e h' K := by
  refine ZC_loop_n (fun n' e hh => ∃ (k : Int) (j : Nat) (vc : V) (Ch : List Chan), n' = k.toNat ∧ e 0 = .p id 0 0 ∧ e 2 = .p h.next 0 0 ∧ e 3 = .p (h.next + 1) 0 0 ∧ e 4 = .i .i64 n ∧ e 9 = .i .i64 k ∧ CS hh.next id L h hh vp vc .ns P Ch [] j ∧ Ch.length + k ≤ 3 ∧ 0 ≤ k ∧ ∀ x ∈ Ch, chanB n x = true ∧ x.late = 0) ?_ _ _ _ ⟨k, j, .ns, [], rfl, e0, e2, e3, e4, e9, a, by simp; omega, hk0, (fun x hx => by cases hx)⟩
  clear e0 e2 e3 e4 e9 e a hk hk0
  rintro n' e hh ⟨k, j, vc, Ch, rfl, e0, e2, e3, e4, e9, a, hk, hk0, hC⟩ ih
  have hlm := a.lim
  have q1 := a.q1
  rw [ZC_unf Q6_28.eq_1]
  simp (disch := omega) only [go_sem, *]
  refine Wg_dec (fun hc => ?_) (fun hc => ?_)
  rotate_left
  · simp (disch := omega) only [go_sem, *]
    exact kk _ hh j vc Ch e0 e2 e3 e4 a (by omega) hC
  simp (disch := omega) only [go_sem, *]
  refine Wb_dec (fun hc2 => ?_) (fun hc2 => ?_)
  rotate_left
  · simp (disch := omega) only [go_sem, *]
    exact kk _ hh j vc Ch e0 e2 e3 e4 a (by omega) hC
  simp (disch := omega) only [go_sem, *]
  refine tnext_ev a.tape a.jl hL (by omega) ?_
  intro f j1 f0 f1 f2 hj1
  have a1 := a.tape2 hid hj1
  have n1 : (hh.put id (tapeB L j1)).next = hh.next := rfl
  rw [← n1] at a1 q1
  clear n1
  generalize hh.put id (tapeB L j1) = h1 at a1 q1 ⊢
  clear a hlm
  have hlm := a1.lim
  simp (disch := omega) only [go_sem, *]
  have x2 : Ext h1 ((h1.alloc ⟨1, [[V.i .u32 4294967295], [.i .u32 200], [.i .u32 3]]⟩).alloc ⟨6, [[.i .i64 0, .i .i64 0, .b false, .i .i64 0, .i .u32 0, .i .i64 0]]⟩) := ((Ext.refl _).alloc _).alloc _
  have a2 := a1.ext hid x2
  have g2 : ((h1.alloc ⟨1, [[V.i .u32 4294967295], [.i .u32 200], [.i .u32 3]]⟩).alloc ⟨6, [[.i .i64 0, .i .i64 0, .b false, .i .i64 0, .i .u32 0, .i .i64 0]]⟩).get h1.next = some ⟨1, [[V.i .u32 4294967295], [.i .u32 200], [.i .u32 3]]⟩ := by rw [get_alloc, gsel_ne (by rw [next_alloc]; omega), get_alloc, gsel_eq rfl]
  have m2 : ((h1.alloc ⟨1, [[V.i .u32 4294967295], [.i .u32 200], [.i .u32 3]]⟩).alloc ⟨6, [[.i .i64 0, .i .i64 0, .b false, .i .i64 0, .i .u32 0, .i .i64 0]]⟩).get (h1.next + 1) = some ⟨6, [[.i .i64 0, .i .i64 0, .b false, .i .i64 0, .i .u32 0, .i .i64 0]]⟩ := by rw [get_alloc, next_alloc, gsel_eq rfl]
  have n2 : h1.next + 2 ≤ ((h1.alloc ⟨1, [[V.i .u32 4294967295], [.i .u32 200], [.i .u32 3]]⟩).alloc ⟨6, [[.i .i64 0, .i .i64 0, .b false, .i .i64 0, .i .u32 0, .i .i64 0]]⟩).next := Nat.le_refl _
  generalize ((h1.alloc ⟨1, [[V.i .u32 4294967295], [.i .u32 200], [.i .u32 3]]⟩).alloc ⟨6, [[.i .i64 0, .i .i64 0, .b false, .i .i64 0, .i .u32 0, .i .i64 0]]⟩) = h2 at a2 g2 m2 n2 ⊢
  clear x2 a1 hlm
  have hlm := a2.lim
  refine tnext_ev a2.tape a2.jl hL (by omega) ?_
  intro r j2 r0 r1 r2 hj2
  have a3 := a2.tape2 hid hj2
  have g3 : (h2.put id (tapeB L j2)).get h1.next = some ⟨1, [[V.i .u32 4294967295], [.i .u32 200], [.i .u32 3]]⟩ := by rw [get_put, gsel_ne (by omega)]; exact g2
  have m3 : (h2.put id (tapeB L j2)).get (h1.next + 1) = some ⟨6, [[.i .i64 0, .i .i64 0, .b false, .i .i64 0, .i .u32 0, .i .i64 0]]⟩ := by rw [get_put, gsel_ne (by omega)]; exact m2
  have n3 : h1.next + 2 ≤ (h2.put id (tapeB L j2)).next := n2
  generalize h2.put id (tapeB L j2) = h3 at a3 g3 m3 n3 ⊢
  clear a2 g2 m2 n2 hlm
  have hlm := a3.lim
  obtain ⟨d0, d1, d2⟩ := other f0 (show f < n by omega) r0 r2 hc2
  generalize hd : (f + 1 + r).tmod n = d at d0 d1 d2
  simp (disch := omega) only [go_sem, *]
  refine tnext_ev a3.tape a3.jl hL (by omega) ?_
  intro b j3 b0 b1 b2 hj3
  have a4 := a3.tape2 hid hj3
  have g4 : (h3.put id (tapeB L j3)).get h1.next = some ⟨1, [[V.i .u32 4294967295], [.i .u32 200], [.i .u32 3]]⟩ := by rw [get_put, gsel_ne (by omega)]; exact g3
  have m4 : (h3.put id (tapeB L j3)).get (h1.next + 1) = some ⟨6, [[.i .i64 0, .i .i64 0, .b false, .i .i64 0, .i .u32 0, .i .i64 0]]⟩ := by rw [get_put, gsel_ne (by omega)]; exact m3
  have n4 : h1.next + 2 ≤ (h3.put id (tapeB L j3)).next := n3
  generalize h3.put id (tapeB L j3) = h4 at a4 g4 m4 n4 ⊢
  clear a3 g3 m3 n3 hlm
  have hlm := a4.lim
  simp (disch := omega) only [go_sem, *]
  refine tnext_ev a4.tape a4.jl hL (by omega) ?_
  intro u j4 u0 u1 u2 hj4
  have a5 := a4.tape2 hid hj4
  have g5 : (h4.put id (tapeB L j4)).get h1.next = some ⟨1, [[V.i .u32 4294967295], [.i .u32 200], [.i .u32 3]]⟩ := by rw [get_put, gsel_ne (by omega)]; exact g4
  have m5 : (h4.put id (tapeB L j4)).get (h1.next + 1) = some ⟨6, [[.i .i64 0, .i .i64 0, .b false, .i .i64 0, .i .u32 0, .i .i64 0]]⟩ := by rw [get_put, gsel_ne (by omega)]; exact m4
  have n5 : h1.next + 2 ≤ (h4.put id (tapeB L j4)).next := n4
  generalize h4.put id (tapeB L j4) = h5 at a5 g5 m5 n5 ⊢
  clear a4 g4 m4 n4 hlm
  have hlm := a5.lim
  obtain ⟨z, hz⟩ := tab3 u0 (by omega)
  simp (disch := omega) only [go_sem, *]
  have a6 : CS h1.next id L h (h5.put (h1.next + 1) ⟨6, [[.i .i64 f, .i .i64 d, .b (decide (b = 0)), .i .i64 0, .i .u32 z, .i .i64 0]]⟩) vp vc .ns P Ch [] j4 := a5.keep hid (Nat.le_refl _) rfl (fun i hi => by rw [get_put, gsel_ne (by omega)])
  have m6 : (h5.put (h1.next + 1) ⟨6, [[.i .i64 f, .i .i64 d, .b (decide (b = 0)), .i .i64 0, .i .u32 z, .i .i64 0]]⟩).get (h1.next + 1) = some ⟨6, [[.i .i64 f, .i .i64 d, .b (decide (b = 0)), .i .i64 0, .i .u32 z, .i .i64 0]]⟩ := by rw [get_put, gsel_eq rfl]
  have n6 : h1.next + 2 ≤ (h5.put (h1.next + 1) ⟨6, [[.i .i64 f, .i .i64 d, .b (decide (b = 0)), .i .i64 0, .i .u32 z, .i .i64 0]]⟩).next := n5
  generalize h5.put (h1.next + 1) ⟨6, [[.i .i64 f, .i .i64 d, .b (decide (b = 0)), .i .i64 0, .i .u32 z, .i .i64 0]]⟩ = h6 at a6 m6 n6 ⊢
  clear a5 g5 m5 n5 hlm hz
  have hlm := a6.lim
  refine Wb_dec (fun hb => ?_) (fun hb => ?_)
  · have hbt : decide (b = 0) = true := decide_eq_true hb
    rw [hbt] at m6
    clear hbt
    simp (disch := omega) only [go_sem, *]
    refine tnext_ev a6.tape a6.jl hL (by omega) ?_
    intro c j5 c0 c1 c2 hj5
    have a7 := a6.tape2 hid hj5
    have m7 : (h6.put id (tapeB L j5)).get (h1.next + 1) = some ⟨6, [[.i .i64 f, .i .i64 d, .b true, .i .i64 0, .i .u32 z, .i .i64 0]]⟩ := by rw [get_put, gsel_ne (by omega)]; exact m6
    have n7 : h1.next + 2 ≤ (h6.put id (tapeB L j5)).next := n6
    generalize h6.put id (tapeB L j5) = h7 at a7 m7 n7 ⊢
    clear a6 m6 n6 hlm
    have hlm := a7.lim
    have a8 : CS h1.next id L h (h7.put (h1.next + 1) ⟨6, [(⟨f, d, true, 1 + c, z, 0⟩ : Chan).enc]⟩) vp vc .ns P Ch [] j5 := a7.keep hid (Nat.le_refl _) rfl (fun i hi => by rw [get_put, gsel_ne (by omega)])
    have m8 : (h7.put (h1.next + 1) ⟨6, [(⟨f, d, true, 1 + c, z, 0⟩ : Chan).enc]⟩).get (h1.next + 1) = some ⟨6, [(⟨f, d, true, 1 + c, z, 0⟩ : Chan).enc]⟩ := by rw [get_put, gsel_eq rfl]
    have n8 : h1.next + 2 ≤ (h7.put (h1.next + 1) ⟨6, [(⟨f, d, true, 1 + c, z, 0⟩ : Chan).enc]⟩).next := n7
    have hx : chanB n ⟨f, d, true, 1 + c, z, 0⟩ = true := by
      unfold chanB
      simp only [Bool.and_eq_true, decide_eq_true_eq, reduceIte]
      omega
    have hbox := a7.box
    have nn := a7.q2
    simp (disch := omega) only [go_sem, *]
    refine app_rule (N := [(⟨f, d, true, (1 + c), z, 0⟩ : Chan).enc]) (a8.sc.alloc _) (by first | omega | (simp (disch := omega) only [go_sem, *] <;> omega)) (by first | omega | (simp (disch := omega) only [go_sem, *] <;> omega)) (by simp; omega) ?_
    intro vc' h9 s9 g9
    have x9 := (Ext.refl (h7.put (h1.next + 1) ⟨6, [(⟨f, d, true, 1 + c, z, 0⟩ : Chan).enc]⟩)).alloc ⟨6, [(⟨f, d, true, (1 + c), z, 0⟩ : Chan).enc]⟩
    have a9 := a8.grow_c (x := ⟨f, d, true, (1 + c), z, 0⟩) hid x9 s9 g9
    have hb9 : h9.get (h.next + 1) = some ⟨3, [[vp, vc, .ns]]⟩ := by
      rw [grown_low g9 (sl_own a8.sc) (by first | omega | (simp (disch := omega) only [go_sem, *] <;> omega)) _ (by omega), get_alloc, gsel_ne (by first | omega | (simp (disch := omega) only [go_sem, *] <;> omega))]; exact a8.box
    have l9 := g9.lim
    have hc9 := g9.cell
    have hcs9 := g9.cells
    clear s9 g9 x9 hbox
    simp only [lim_alloc, lim_put] at l9
    simp (disch := omega) only [go_sem, *]
    refine ih _ _ _ ?_ ⟨k - 1, j5, vc', Ch ++ [⟨f, d, true, (1 + c), z, 0⟩], rfl, ?_⟩
    · omega
    · have hCC : ∀ x ∈ Ch ++ [(⟨f, d, true, (1 + c), z, 0⟩ : Chan)], chanB n x = true ∧ x.late = 0 := fun x hx2 => by
        rcases List.mem_append.1 hx2 with h1 | h1
        · exact hC x h1
        · rw [List.mem_singleton] at h1; subst h1; exact ⟨hx, rfl⟩
      have hLL : ((Ch ++ [(⟨f, d, true, (1 + c), z, 0⟩ : Chan)]).length : Int) + (k - 1) ≤ 3 := by rw [List.length_append]; simp only [List.length_cons, List.length_nil]; omega
      clear ih kk
      simp (disch := omega) only [go_sem, *]
      ((repeat' refine And.intro ?_ ?_) <;> first | omega | assumption | (exact a9) | (exact hCC) | (exact hLL))
  · have hbf : decide (b = 0) = false := decide_eq_false hb
    rw [hbf] at m6
    clear hbf
    have hx : chanB n ⟨f, d, false, 0, z, 0⟩ = true := by
      unfold chanB
      simp
      omega
    have hbox := a6.box
    have nn := a6.q2
    simp (disch := omega) only [go_sem, *]
    refine app_rule (N := [(⟨f, d, false, 0, z, 0⟩ : Chan).enc]) (a6.sc.alloc _) (by first | omega | (simp (disch := omega) only [go_sem, *] <;> omega)) (by first | omega | (simp (disch := omega) only [go_sem, *] <;> omega)) (by simp; omega) ?_
    intro vc' h9 s9 g9
    have x9 := (Ext.refl (h6)).alloc ⟨6, [(⟨f, d, false, 0, z, 0⟩ : Chan).enc]⟩
    have a9 := a6.grow_c (x := ⟨f, d, false, 0, z, 0⟩) hid x9 s9 g9
    have hb9 : h9.get (h.next + 1) = some ⟨3, [[vp, vc, .ns]]⟩ := by
      rw [grown_low g9 (sl_own a6.sc) (by first | omega | (simp (disch := omega) only [go_sem, *] <;> omega)) _ (by omega), get_alloc, gsel_ne (by first | omega | (simp (disch := omega) only [go_sem, *] <;> omega))]; exact a6.box
    have l9 := g9.lim
    have hc9 := g9.cell
    have hcs9 := g9.cells
    clear s9 g9 x9 hbox
    simp only [lim_alloc, lim_put] at l9
    simp (disch := omega) only [go_sem, *]
    refine ih _ _ _ ?_ ⟨k - 1, j4, vc', Ch ++ [⟨f, d, false, 0, z, 0⟩], rfl, ?_⟩
    · omega
    · have hCC : ∀ x ∈ Ch ++ [(⟨f, d, false, 0, z, 0⟩ : Chan)], chanB n x = true ∧ x.late = 0 := fun x hx2 => by
        rcases List.mem_append.1 hx2 with h1 | h1
        · exact hC x h1
        · rw [List.mem_singleton] at h1; subst h1; exact ⟨hx, rfl⟩
      have hLL : ((Ch ++ [(⟨f, d, false, 0, z, 0⟩ : Chan)]).length : Int) + (k - 1) ≤ 3 := by rw [List.length_append]; simp only [List.length_cons, List.length_nil]; omega
      clear ih kk
      simp (disch := omega) only [go_sem, *]
      ((repeat' refine And.intro ?_ ?_) <;> first | omega | assumption | (exact a9) | (exact hCC) | (exact hLL))
end
end Go.Ab.T
namespace Go.Ab.T
open Go Go.Ab
set_option maxHeartbeats 4000000
theorem Sl.weak {b b' sz : Nat} {h : AH} {v : V} {R : List (List V)} (s : Sl b h sz v R) (hb : b' ≤ b) : Sl b' h sz v R := by
  rcases s with hs | ⟨i, el, cap, cs, rfl, hg, a1, a2, a3, a4, a5, a6⟩
  · exact .inl hs
  · exact .inr ⟨i, el, cap, cs, rfl, hg, a1, a2, a3, a4, by omega, a6⟩
theorem Sl.frzs {b sz : Nat} {h : AH} {v : V} {R : List (List V)} {P : Nat → Prop} (s : Sl b h sz v R) : Frz P h h.next v v := by
  rcases s with ⟨hv, _⟩ | ⟨i, el, cap, cs, rfl, hg, a1, a2, a3, a4, a5, a6⟩
  · rcases hv with rfl | rfl
    · exact .z _ _ .ns
    · exact .z _ _ .e0
  · exact .so _ _ _ _ _ a4
theorem sl_kill {b sz i : Nat} {h : AH} {v : V} {R : List (List V)} (s : Sl b h sz v R) (d : nilV v = true ∨ idV v ≠ i) : Sl b (h.kill i) sz v R := by
  rcases d with d | d
  · rcases s with hs | ⟨_, _, _, _, rfl, _⟩
    · exact .inl hs
    · cases d
  · exact s.same (Nat.le_refl _) (fun _ => by rw [get_kill, gsel_ne d])
structure Made (C : Config) : Prop where
  wh : whereR C = (0, -1)
  nm : NmOk C
  ch : C.chans.length ≤ 3
  tb : C.tables.length ≤ 2
  pt : C.parts.length ≤ 4
section
variable {id : Nat} {L : List Int} {h h' h2 : AH} {P : List Part} {Ch : List Chan} {j : Nat}
theorem cfg_tabs {K : Ex → Env → AH → Prop} {e : Env} {n k : Int} {vp vc : V} (hid : id < h.next) (hlo : h.lim ≤ id) (hL : L.length < 4000000000) (hn1 : 1 ≤ n) (hn : n ≤ 4) (hk : k ≤ 1) (hk0 : 0 ≤ k) (a : CS h'.next id L h h' vp vc .ns P Ch [] j)
    (e0 : e 0 = .p id 0 0) (e2 : e 2 = .p h.next 0 0) (e3 : e 3 = .p (h.next + 1) 0 0) (e4 : e 4 = .i .i64 n) (e12 : e 12 = .i .i64 k)
    (kk : ∀ e' h' j vt T, e' 0 = .p id 0 0 → e' 2 = .p h.next 0 0 → e' 3 = .p (h.next + 1) 0 0 → CS h'.next id L h h' vp vc vt P Ch T j → 1 ≤ T.length → T.length ≤ 2 → (∀ x ∈ T, TabOk n x) → K (.ex 8) e' h') : ZC tp (.loop Q6_33) e h' K := by
  refine ZC_loop_n (fun n' e hh => ∃ (q : Int) (j : Nat) (vt : V) (T : List (List Node)), n' = (q + 1).toNat ∧ e 0 = .p id 0 0 ∧ e 2 = .p h.next 0 0 ∧ e 3 = .p (h.next + 1) 0 0 ∧ e 4 = .i .i64 n ∧ e 12 = .i .i64 q ∧ CS hh.next id L h hh vp vc vt P Ch T j ∧ T.length + q = k ∧ -1 ≤ q ∧ ∀ x ∈ T, TabOk n x) ?_ _ _ _ ⟨k, j, .ns, [], rfl, e0, e2, e3, e4, e12, a, by simp, by omega, (fun x hx => by cases hx)⟩
  clear e0 e2 e3 e4 e12 e a
  rintro n' e hh ⟨q, j, vt, T, rfl, e0, e2, e3, e4, e12, a, hq, hq0, hT⟩ ih
  have hlm := a.lim
  have q1 := a.q1
  have hbox := a.box
  have hsv := Sl.sameV a.st
  obtain ⟨_, _, _, _, _, _, _, tcell, tcells⟩ := a.st.facts
  rw [ZC_unf Q6_33.eq_1]
  simp (disch := omega) only [go_sem, *]
  refine Wb_dec (fun hc => ?_) (fun hc => ?_)
  · simp (disch := omega) only [go_sem, *]
    refine frame_ev hn1 (by omega) hL a.tape a.jl (by omega) ?_
    intro x j1 hx hxl hj1
    have a1 := a.tape2 hid hj1
    have n1 : (hh.put id (tapeB L j1)).next = hh.next := rfl
    rw [← n1] at a1 q1
    clear n1
    generalize hh.put id (tapeB L j1) = h1 at a1 q1 ⊢
    clear a hlm hbox
    have hlm := a1.lim
    have hbox := a1.box
    simp (disch := omega) only [go_sem, *]
    refine app_rule (N := [Tab.enc x]) (a1.st.alloc _) (by first | omega | (simp (disch := omega) only [go_sem, *] <;> omega)) (by first | omega | (simp (disch := omega) only [go_sem, *] <;> omega)) (by simp; omega) ?_
    intro vt' h9 s9 g9
    have x9 := (Ext.refl h1).alloc ⟨1, [Tab.enc x]⟩
    have a9 := a1.grow_t (x := x) hid x9 s9 g9
    have hb9 : h9.get (h.next + 1) = some ⟨3, [[vp, vc, vt]]⟩ := by
      rw [grown_low g9 (sl_own a1.st) (by first | omega | (simp (disch := omega) only [go_sem, *] <;> omega)) _ (by omega), get_alloc, gsel_ne (by first | omega | (simp (disch := omega) only [go_sem, *] <;> omega))]; exact a1.box
    have l9 := g9.lim
    have hc9 := g9.cell
    have hcs9 := g9.cells
    clear s9 g9 x9 hbox
    simp only [lim_alloc, lim_put] at l9
    simp (disch := omega) only [go_sem, *]
    refine ih _ _ _ ?_ ⟨q - 1, j1, vt', T ++ [x], rfl, ?_⟩
    · omega
    · have hTT : ∀ y ∈ T ++ [x], TabOk n y := fun y hy => by
        rcases List.mem_append.1 hy with h1 | h1
        · exact hT y h1
        · rw [List.mem_singleton] at h1; subst h1; exact hx
      have hLL : ((T ++ [x]).length : Int) + (q - 1) = k := by rw [List.length_append]; simp only [List.length_cons, List.length_nil]; omega
      clear ih kk
      simp (disch := omega) only [go_sem, *]
      ((repeat' refine And.intro ?_ ?_) <;> first | omega | assumption | (exact a9) | (exact hTT) | (exact hLL))
  · simp (disch := omega) only [go_sem, *]
    exact kk _ hh j vt T e0 e2 e3 a (by omega) (by omega) hT
end
theorem config_ev {h : AH} {id k : Nat} {L : List Int} {K : V → AH → Prop} (hg : h.get id = some (tapeB L k)) (hk : k ≤ L.length) (hL : L.length < 4000000000) (hlo : h.lim ≤ id)
    (kk : ∀ C j, j ≤ L.length → Made C → K (.agg C.enc) (h.put id (tapeB L j))) : Cq tp i_Q6 [.p id 0 0] h K := by
  refine Cq_tape fn_Q6 (by simp [t_Q6]) hg fun hlm hid rp => ?_
  unfold t_Q6
  simp (disch := omega) only [go_sem, *]
  have x0 : Ext h ((h.alloc ⟨3, [[.ns, .ns, .ns]]⟩).alloc ⟨3, [[.ns, .ns, .ns]]⟩) := by (repeat (first | exact Ext.refl _ | refine Ext.alloc ?_ _ | (refine Ext.put ?_ _ _ ?_; rotate_left; (first | omega | (simp only [next_alloc, next_put]; omega)))))
  have a0 : CS ((h.alloc ⟨3, [[.ns, .ns, .ns]]⟩).alloc ⟨3, [[.ns, .ns, .ns]]⟩).next id L h ((h.alloc ⟨3, [[.ns, .ns, .ns]]⟩).alloc ⟨3, [[.ns, .ns, .ns]]⟩) .ns .ns .ns [] [] [] k := ⟨Nat.le_refl _, Nat.le_refl _, rfl, (x0.get _ (by omega)).trans hg, hk, by simp (disch := omega) only [go_sem, *], by simp (disch := omega) only [go_sem, *], fun i hi _ => x0.get i hi, Sl.nil _ _ _, Sl.nil _ _ _, Sl.nil _ _ _, .inl rfl, .inl rfl, .inl rfl, .inl rfl, .inl rfl, .inl rfl⟩
  have n0 : ((h.alloc ⟨3, [[.ns, .ns, .ns]]⟩).alloc ⟨3, [[.ns, .ns, .ns]]⟩).next = h.next + 2 := rfl
  generalize (h.alloc ⟨3, [[.ns, .ns, .ns]]⟩).alloc ⟨3, [[.ns, .ns, .ns]]⟩ = h1 at a0 n0 ⊢
  clear x0 n0
  refine tnext_ev a0.tape a0.jl hL (by have := a0.lim; omega) ?_
  intro v j1 v0 v1 v2 hj1
  have a1 := a0.tape2 hid hj1
  have n1 : (h1.put id (tapeB L j1)).next = h1.next := rfl
  rw [← n1] at a1
  clear n1
  generalize h1.put id (tapeB L j1) = h2 at a1 ⊢
  clear a0
  obtain ⟨m, hm⟩ : ∃ m : Nat, 1 + v = m := ⟨(1 + v).toNat, by omega⟩
  simp (disch := omega) only [go_sem, *]
  refine cfg_parts (n := m) hid hlo hL (by omega) a1 (by simp (disch := omega) only [go_sem, *]) (by simp (disch := omega) only [go_sem, *]) (by simp (disch := omega) only [go_sem, *]) (by simp (disch := omega) only [go_sem, *]) (by simp (disch := omega) only [go_sem, *]) ?_
  clear a1
  intro e h3 j3 vp P e0 e2 e3 e4 a3 hPl hP
  have hlm3 := a3.lim
  simp (disch := omega) only [go_sem, *]
  refine tnext_ev a3.tape a3.jl hL (by omega) ?_
  intro c j4 c0 c1 c2 hj4
  have a4 := a3.tape2 hid hj4
  have n4 : (h3.put id (tapeB L j4)).next = h3.next := rfl
  rw [← n4] at a4
  clear n4
  generalize h3.put id (tapeB L j4) = h4 at a4 ⊢
  clear a3 hlm3
  simp (disch := omega) only [go_sem, *]
  refine cfg_chans (k := c) (n := m) hid hlo hL (by omega) (by omega) c0 a4 (by simp (disch := omega) only [go_sem, *]) (by simp (disch := omega) only [go_sem, *]) (by simp (disch := omega) only [go_sem, *]) (by simp (disch := omega) only [go_sem, *]) (by simp (disch := omega) only [go_sem, *]) ?_
  clear a4 e0 e2 e3 e4 e
  intro e h5 j5 vc Ch e0 e2 e3 e4 a5 hCl hC
  have hlm5 := a5.lim
  simp (disch := omega) only [go_sem, *]
  refine tnext_ev a5.tape a5.jl hL (by omega) ?_
  intro t j6 t0 t1 t2 hj6
  have a6 := a5.tape2 hid hj6
  have n6 : (h5.put id (tapeB L j6)).next = h5.next := rfl
  rw [← n6] at a6
  clear n6
  generalize h5.put id (tapeB L j6) = h6 at a6 ⊢
  clear a5 hlm5
  simp (disch := omega) only [go_sem, *]
  refine cfg_tabs (k := t) (n := m) hid hlo hL (by omega) (by omega) (by omega) t0 a6 (by simp (disch := omega) only [go_sem, *]) (by simp (disch := omega) only [go_sem, *]) (by simp (disch := omega) only [go_sem, *]) (by simp (disch := omega) only [go_sem, *]) (by simp (disch := omega) only [go_sem, *]) ?_
  clear a6 e0 e2 e3 e4 e
  intro e h7 j7 vt T e0 e2 e3 a hT1 hT2 hT
  have hbox := a.box
  have q1 := a.q1
  obtain ⟨_, _, _, _, _, _, _, pcell, pcells⟩ := a.sp.facts
  obtain ⟨_, _, _, _, _, _, _, ccell, ccells⟩ := a.sc.facts
  obtain ⟨_, _, tlt, tlo, _, _, _, tcell, tcells⟩ := a.st.facts
  have tlt := tlt (by omega)
  have tlo := tlo (by omega)
  have hbare : Bare P Ch T := by
    refine ⟨?_, by omega, by omega, by omega, hT1, by omega, fun i hi => ?_, fun x hx => by rw [hPl]; exact hC x hx, fun x hx => by rw [hPl]; exact hT x hx, fun p hp => ?_⟩
    · apply List.ext_getElem
      · simp
      · intro i h1 h2
        have := (hP i (by omega)).2.2
        rw [nth_eq h2] at this
        simpa using this
    · have hi4 := hP i (by omega)
      refine ⟨by rw [hi4.1]; exact nmOf_ok (by omega), ?_, hi4.2.1⟩
      refine any_take_no (fun q hq => ?_) (by omega)
      rw [decide_eq_false_iff_not, hi4.1, (hP q (by omega)).1]
      exact nmOf_ne (by omega) (by omega) (by omega)
    · obtain ⟨i, hi, rfl⟩ := List.mem_iff_getElem.1 hp
      have hi4 := (hP i (by omega)).1
      have hok := nmOf_ok (i := i) (by omega)
      rw [nth_eq hi] at hi4
      rw [hi4]
      unfold nameB at hok
      simp only [decide_eq_true_eq] at hok
      omega
  have hnt : nilV vt = false := by
    rcases a.st with ⟨_, hR⟩ | ⟨_, _, _, _, rfl, _⟩
    · have : T = [] := by simpa using hR
      subst this; simp at hT1
    · rfl
  have dpt : nilV vp = true ∨ idV vp ≠ idV vt := by rcases a.pt with d | d | d; exact .inl d; (rw [hnt] at d; cases d); exact .inr d
  have dct : nilV vc = true ∨ idV vc ≠ idV vt := by rcases a.ct with d | d | d; exact .inl d; (rw [hnt] at d; cases d); exact .inr d
  simp (disch := omega) only [go_sem, *]
  refine Cq_fix (idV vt) (args' := [.p id 0 0, .agg [vp, vc, .fl 1 (T.map Tab.enc)]]) (.cons _ _ _ _ _ (.p _ _ _ _ (by omega)) (.cons _ _ _ _ _ (.agg _ _ _ (.cons _ _ _ _ _ (Sl.frzs a.sp) (.cons _ _ _ _ _ (Sl.frzs a.sc) (.cons _ _ _ _ _ (a.st.froze (fun _ => rfl) rfl (by omega)) (.nil _))))) (.nil _))) ?_
  refine asks_ev (b := h.next + 2) hbare hL a.jl q1 (by omega) (by have := a.lim; show h7.lim ≤ id; omega) (by rw [get_kill, gsel_ne (by omega)]; exact a.tape) (sl_kill a.sp dpt) (sl_kill a.sc dct) a.pc ?_
  intro P' Ch' h8 j8 hj8 hw hnm hPl' hCl' hn8 hl8 hg8 hlow hsp hsc
  have hres : h8.get h.next = some ⟨3, [[.ns, .ns, .ns]]⟩ := by rw [hlow _ (by omega) (by omega), get_kill, gsel_ne (by omega)]; exact a.res
  have hl8' : h8.lim = h.lim := hl8.trans a.lim
  have hn8' : h7.next ≤ h8.next := hn8
  have hres7 := a.res
  clear hbox hl8 hn8
  simp (disch := omega) only [go_sem, *]
  refine ⟨.agg (Config.enc ⟨P', Ch', T⟩), j8, ?_, ⟨by rw [next_put]; omega, hl8', by rw [get_put, gsel_ne (by omega)]; exact hg8, fun i hi hn => ?_⟩, kk ⟨P', Ch', T⟩ j8 hj8 ⟨hw, hnm, by simp only; omega, hT2, by simp only; omega⟩⟩
  · refine .agg _ _ _ (.cons _ _ _ _ _ (Sl.frzb (Sl.weak (sl_put hsp _ _ ((sl_own hsp).imp (fun x => x) (fun x => by omega))) (by omega)) (fun _ => rfl) (by simp only; omega)) (.cons _ _ _ _ _ (Sl.frzb (Sl.weak (sl_put hsc _ _ ((sl_own hsc).imp (fun x => x) (fun x => by omega))) (by omega)) (fun _ => rfl) (by simp only; omega)) (.cons _ _ _ _ _ (.fl _ _ _) (.nil _))))
  · rw [get_put, gsel_ne (by omega), hlow _ (by omega) hn, get_kill, gsel_ne (by omega)]
    exact a.low i hi hn
end Go.Ab.T
namespace Go.Ab.T
open Go Go.Ab
set_option maxHeartbeats 2000000
structure Owns (b q : Nat) (h : AH) (l : List (Nat × V × List (List V))) : Prop where
  bq : b ≤ q
  q2 : q ≤ h.next
  sl : ∀ (i : Nat) (a : Nat × V × List (List V)), l[i]? = some a → Sl b h a.1 a.2.1 a.2.2
  lt : ∀ (i : Nat) (a : Nat × V × List (List V)), l[i]? = some a → nilV a.2.1 = true ∨ idV a.2.1 < q
  dj : ∀ (i j : Nat) (a c : Nat × V × List (List V)), i ≠ j → l[i]? = some a → l[j]? = some c → Dj a.2.1 c.2.1
section
variable {b q : Nat} {h h2 : AH} {l : List (Nat × V × List (List V))}
theorem Owns.keep (o : Owns b q h l) (hn : h.next ≤ h2.next) (g : ∀ i, i < q → h2.get i = h.get i) : Owns b q h2 l :=
  ⟨o.bq, Nat.le_trans o.q2 hn, fun i a e => sl_keep (o.sl i a e) (o.lt i a e) hn g, o.lt, o.dj⟩
theorem Owns.ext (o : Owns b q h l) (x : Ext h h2) : Owns b q h2 l := o.keep x.next (fun i hi => x.get i (by have := o.q2; omega))
theorem Owns.up {q' : Nat} (o : Owns b q h l) (h1 : q ≤ q') (h2 : q' ≤ h.next) : Owns b q' h l :=
  ⟨Nat.le_trans o.bq h1, h2, o.sl, fun i a e => (o.lt i a e).imp (fun x => x) (fun x => by omega), o.dj⟩
theorem Owns.put (o : Owns b q h l) (i : Nat) (k : Blk) (hi : i < b ∨ q ≤ i) : Owns b q (h.put i k) l := by
  refine ⟨o.bq, o.q2, fun j a e => sl_put (o.sl j a e) _ _ ?_, o.lt, o.dj⟩
  have h1 := sl_own (o.sl j a e)
  have h2 := o.lt j a e
  rcases h1 with h1 | h1
  · exact .inl h1
  · rcases h2 with h2 | h2
    · exact .inl h2
    · exact .inr (by omega)
theorem Owns.low {b' i : Nat} {a : Nat × V × List (List V)} {h1 h3 : AH} {v : V} (o : Owns b q h l) (e : l[i]? = some a) (x : Ext h h1) (g : Grown b' h1 a.2.1 v h3) : ∀ k, k < b → h3.get k = h.get k := fun k hk => by
  have := o.bq; have := o.q2; have := x.next
  rw [g.get k (by omega) ((sl_own (o.sl i a e)).imp (fun x => x) (fun x => by omega)), x.get k (by omega)]
theorem Owns.grow {b' i : Nat} {a : Nat × V × List (List V)} {h1 h3 : AH} {v : V} {R : List (List V)} (o : Owns b q h l) (e : l[i]? = some a) (x : Ext h h1) (g : Grown b' h1 a.2.1 v h3) (s : Sl b h3 a.1 v R) : Owns b h3.next h3 (l.set i (a.1, v, R)) := by
  have n0 := o.bq; have n1 := o.q2; have n2 := x.next; have n3 := g.next
  have hi : i < l.length := (List.getElem?_eq_some_iff.1 e).1
  have o1 := o.ext x
  refine ⟨by omega, Nat.le_refl _, fun j c ej => ?_, fun j c ej => ?_, fun j k c d hjk ej ek => ?_⟩
  · by_cases hji : i = j
    · subst hji
      rw [List.getElem?_set_self hi] at ej
      cases ej; exact s
    · rw [List.getElem?_set_ne hji] at ej
      exact sl_grown (o1.sl j c ej) g (o.dj i j a c hji e ej)
  · by_cases hji : i = j
    · subst hji
      rw [List.getElem?_set_self hi] at ej
      cases ej; exact sl_low s
    · rw [List.getElem?_set_ne hji] at ej
      exact (o.lt j c ej).imp (fun x => x) (fun x => by omega)
  · by_cases hji : i = j
    · subst hji
      rw [List.getElem?_set_self hi] at ej
      rw [List.getElem?_set_ne hjk] at ek
      cases ej
      exact dj_grown g (o.dj i k a d hjk e ek) ((o.lt k d ek).imp (fun x => x) (fun x => by omega))
    · rw [List.getElem?_set_ne hji] at ej
      by_cases hki : i = k
      · subst hki
        rw [List.getElem?_set_self hi] at ek
        cases ek
        exact dj_sym (dj_grown g (o.dj i j a c hji e ej) ((o.lt j c ej).imp (fun x => x) (fun x => by omega)))
      · rw [List.getElem?_set_ne hki] at ek
        exact o.dj j k c d hjk ej ek
theorem Owns.set {i n : Nat} {a : Nat × V × List (List V)} {r : List V} (o : Owns b q h l) (e : l[i]? = some a) (hn : n < a.2.2.length) : Owns b q (h.put (idV a.2.1) ⟨a.1, (csOf h a.2.1).set (elV a.2.1 + n) r⟩) (l.set i (a.1, a.2.1, a.2.2.set n r)) := by
  have hi : i < l.length := (List.getElem?_eq_some_iff.1 e).1
  have hnil : nilV a.2.1 = false := by
    rcases o.sl i a e with ⟨_, hR⟩ | ⟨_, _, _, _, hv, _⟩
    · rw [hR] at hn; simp at hn
    · rw [hv]; rfl
  refine ⟨o.bq, o.q2, fun j c ej => ?_, fun j c ej => ?_, fun j k c d hjk ej ek => ?_⟩
  · by_cases hji : i = j
    · subst hji
      rw [List.getElem?_set_self hi] at ej
      cases ej
      exact Sl.of_get (o.sl i a e) hn (Nat.le_refl _) (by rw [get_put, gsel_eq rfl])
    · rw [List.getElem?_set_ne hji] at ej
      refine sl_put (o.sl j c ej) _ _ ?_
      rcases o.dj i j a c hji e ej with d | d | d
      · rw [d] at hnil; cases hnil
      · exact .inl d
      · exact .inr d
  · by_cases hji : i = j
    · subst hji
      rw [List.getElem?_set_self hi] at ej
      cases ej; exact o.lt i a e
    · rw [List.getElem?_set_ne hji] at ej
      exact o.lt j c ej
  · by_cases hji : i = j
    · subst hji
      rw [List.getElem?_set_self hi] at ej
      rw [List.getElem?_set_ne hjk] at ek
      cases ej
      exact o.dj i k a d hjk e ek
    · rw [List.getElem?_set_ne hji] at ej
      by_cases hki : i = k
      · subst hki
        rw [List.getElem?_set_self hi] at ek
        cases ek
        exact o.dj j i c a hjk ej e
      · rw [List.getElem?_set_ne hki] at ek
        exact o.dj j k c d hjk ej ek
theorem Owns.new {i sz : Nat} {v : V} {R : List (List V)} (o : Owns b q h l) (hi : i < l.length) (s : Sl q h sz v R) : Owns b h.next h (l.set i (sz, v, R)) := by
  have n0 := o.bq; have n1 := o.q2
  have hv := sl_own s
  refine ⟨by omega, Nat.le_refl _, fun j c ej => ?_, fun j c ej => ?_, fun j k c d hjk ej ek => ?_⟩
  · by_cases hji : i = j
    · subst hji
      rw [List.getElem?_set_self hi] at ej
      cases ej; exact Sl.weak s n0
    · rw [List.getElem?_set_ne hji] at ej
      exact o.sl j c ej
  · by_cases hji : i = j
    · subst hji
      rw [List.getElem?_set_self hi] at ej
      cases ej; exact sl_low s
    · rw [List.getElem?_set_ne hji] at ej
      exact (o.lt j c ej).imp (fun x => x) (fun x => by omega)
  · have ap : ∀ (j : Nat) (c : Nat × V × List (List V)), l[j]? = some c → Dj v c.2.1 := fun j c ej => by
      rcases hv with hv | hv
      · exact .inl hv
      · rcases o.lt j c ej with k | k
        · exact .inr (.inl k)
        · exact .inr (.inr (by omega))
    by_cases hji : i = j
    · subst hji
      rw [List.getElem?_set_self hi] at ej
      rw [List.getElem?_set_ne hjk] at ek
      cases ej
      exact ap k d ek
    · rw [List.getElem?_set_ne hji] at ej
      by_cases hki : i = k
      · subst hki
        rw [List.getElem?_set_self hi] at ek
        cases ek
        exact dj_sym (ap j c ej)
      · rw [List.getElem?_set_ne hki] at ek
        exact o.dj j k c d hjk ej ek
theorem Owns.nil (hb : b ≤ h.next) (hl : ∀ a ∈ l, a.2.1 = .ns ∧ a.2.2 = []) : Owns b h.next h l :=
  ⟨hb, Nat.le_refl _, fun i a e => by have := hl a (List.mem_of_getElem? e); rw [this.1, this.2]; exact Sl.nil _ _ _, fun i a e => by have := hl a (List.mem_of_getElem? e); rw [this.1]; exact .inl rfl, fun i j a c _ e _ => by have := hl a (List.mem_of_getElem? e); rw [this.1]; exact .inl rfl⟩
end
end Go.Ab.T
namespace Go.Ab.T
open Go Go.Ab
set_option maxHeartbeats 4000000
theorem clipProco {b : Nat} {h : AH} {v : V} {R : List (List V)} {K : V → AH → Prop} (s : Sl b h 2 v R) (k : ∀ v', Sl b h 2 v' R → K v' h) : Cq tp i_Q29 [v] h K := by
  obtain ⟨len, big, _, _, _, _, _, cell, cells⟩ := Sl.facts (enc := fun x => x) (L := R) (by simpa using s)
  refine Cq_raw_go fn_Q29 (by simp [t_Q29]) fun wf rp => ?_; unfold t_Q29; simp (disch := omega) only [go_sem, *]
  refine clip_rule s (fun v' s' _ => ?_)
  simp (disch := omega) only [go_sem, *]
theorem clipChano {b : Nat} {h : AH} {v : V} {R : List (List V)} {K : V → AH → Prop} (s : Sl b h 6 v R) (k : ∀ v', Sl b h 6 v' R → K v' h) : Cq tp i_Q31 [v] h K := by
  obtain ⟨len, big, _, _, _, _, _, cell, cells⟩ := Sl.facts (enc := fun x => x) (L := R) (by simpa using s)
  refine Cq_raw_go fn_Q31 (by simp [t_Q31]) fun wf rp => ?_; unfold t_Q31; simp (disch := omega) only [go_sem, *]
  refine clip_rule s (fun v' s' _ => ?_)
  simp (disch := omega) only [go_sem, *]
theorem clipNodeo {b : Nat} {h : AH} {v : V} {R : List (List V)} {K : V → AH → Prop} (s : Sl b h 3 v R) (k : ∀ v', Sl b h 3 v' R → K v' h) : Cq tp i_Q33 [v] h K := by
  obtain ⟨len, big, _, _, _, _, _, cell, cells⟩ := Sl.facts (enc := fun x => x) (L := R) (by simpa using s)
  refine Cq_raw_go fn_Q33 (by simp [t_Q33]) fun wf rp => ?_; unfold t_Q33; simp (disch := omega) only [go_sem, *]
  refine clip_rule s (fun v' s' _ => ?_)
  simp (disch := omega) only [go_sem, *]
@[go_sem] def Part.encO (v : V) (x : Part) : List V := [.s x.name, .i .i64 x.budget, .i .i64 x.period, .b x.sched, .b x.stop, v, .i .i64 x.h0, .i .i64 x.h1, .i .i64 x.h2, .i .i64 x.h3, .i .i64 x.h4]
def rowsP (ow : Bool) (v : V) : List Part → List (List V)
  | [] => []
  | p :: l => (if ow = true then p.encO v else p.enc) :: l.map Part.enc
def rowsT (ow : Bool) (v : V) : List (List Node) → List (List V)
  | [] => []
  | t :: l => [if ow = true then v else .fl 3 (t.map Node.enc)] :: l.map Tab.enc
def r1 (ow : Bool) : List Part → List (List V)
  | [] => []
  | p :: _ => if ow = true then p.procs.map Proc.enc else []
def r2 (ow : Bool) : List (List Node) → List (List V)
  | [] => []
  | t :: _ => if ow = true then t.map Node.enc else []
theorem rowsP_snoc {ow : Bool} {v : V} {A : List Part} {p : Part} (h : A ≠ []) : rowsP ow v (A ++ [p]) = rowsP ow v A ++ [p.enc] := by
  cases A with
  | nil => exact absurd rfl h
  | cons a l => simp [rowsP]
theorem rowsT_snoc {ow : Bool} {v : V} {A : List (List Node)} {p : List Node} (h : A ≠ []) : rowsT ow v (A ++ [p]) = rowsT ow v A ++ [Tab.enc p] := by
  cases A with
  | nil => exact absurd rfl h
  | cons a l => simp [rowsT]
theorem rowsP_no {v : V} {A : List Part} : rowsP false v A = A.map Part.enc := by cases A <;> simp [rowsP]
theorem rowsT_no {v : V} {A : List (List Node)} : rowsT false v A = A.map Tab.enc := by cases A <;> simp [rowsT, Tab.enc]
theorem r1_snoc {ow : Bool} {A : List Part} {p : Part} (h : A ≠ []) : r1 ow (A ++ [p]) = r1 ow A := by
  cases A with
  | nil => exact absurd rfl h
  | cons a l => rfl
theorem r2_snoc {ow : Bool} {A : List (List Node)} {p : List Node} (h : A ≠ []) : r2 ow (A ++ [p]) = r2 ow A := by
  cases A with
  | nil => exact absurd rfl h
  | cons a l => rfl
def ownL (ow : Bool) (vp vc vt o1 o2 : V) (A : List Part) (X : List Chan) (B : List (List Node)) : List (Nat × V × List (List V)) :=
  [(11, vp, rowsP ow o1 A), (6, vc, X.map Chan.enc), (1, vt, rowsT ow o2 B), (2, o1, r1 ow A), (3, o2, r2 ow B)]
structure KS (ow : Bool) (C : Config) (h h' : AH) (vp vc vt o1 o2 : V) (A : List Part) (X : List Chan) (B : List (List Node)) : Prop where
  own : Owns (h.next + 3) h'.next h' (ownL ow vp vc vt o1 o2 A X B)
  lim : h'.lim = h.lim
  low : ∀ i, i < h.next → h'.get i = h.get i
  arg : h'.get h.next = some ⟨3, [C.enc]⟩
  res : h'.get (h.next + 1) = some ⟨3, [[.ns, .ns, .ns]]⟩
  box : h'.get (h.next + 2) = some ⟨3, [[vp, vc, vt]]⟩
end Go.Ab.T
