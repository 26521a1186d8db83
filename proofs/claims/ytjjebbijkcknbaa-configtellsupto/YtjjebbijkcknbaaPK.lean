/- Part of the proof that ConfigTells returns true for every input of the second form's bound (no other condition). -/
import Derived.Test.YtjjebbijkcknbaaPI
import Derived.Test.YtjjebbijkcknbaaPJ
set_option linter.all false
namespace Go.Ab.T
open Go Go.Ab
set_option maxHeartbeats 1000000
theorem Pf.ev {f : Nat} {args args1 : List V} {h : AH} (pf : Pf tp f args (.b true)) (hl : h.lim ≤ h.next) (p : PRs (· < h.next) (fun i => i) h.get 0 args args1) : Ev tp f args1 h (fun r _ => r = .b true) := by
  refine (pf (· < h.next) (fun i => i) h args1 (Cfg.emp (fun a ha => ha) hl _) p).imp ?_
  rintro r1 hc' ⟨r, h', S', m', c', a', q, rfl, rfl⟩
  cases q; rfl
structure BK {H : Type} (bk : DataW H → Nat) : Prop where
  sl : ∀ elems spare, elems.length ≤ bk (.slice elems spare)
  el : ∀ elems spare x, x ∈ elems → bk x ≤ bk (.slice elems spare)
  ag : ∀ parts x, x ∈ parts → bk x ≤ bk (.agg parts)
  st : ∀ l, l.length ≤ bk (.lit (.string l))
section
variable {H : Type} {bk : DataW H → Nat} {h : AH}
abbrev PW (h : AH) (u v : V) : Prop := PR (· < h.next) (fun i => i) h.get 0 u v
abbrev PWs (h : AH) (u v : List V) : Prop := PRs (· < h.next) (fun i => i) h.get 0 u v
theorem gr_mon {M M' : Mp} {h h' : AH} (g : Gr M M' h h') : PMon (· < h.next) (fun i => i) h.get 0 (· < h'.next) (fun i => i) h'.get 0 :=
  ⟨fun a ha => Nat.lt_of_lt_of_le ha g.keeps.next, fun a ha => g.get a ha, fun _ _ => rfl, Nat.le_refl _⟩
theorem PW.gr {M M' : Mp} {h h' : AH} {u v : V} (g : Gr M M' h h') (p : PW h u v) : PW h' u v := PR.mono (gr_mon g) p
theorem PWs.gr {M M' : Mp} {h h' : AH} {u v : List V} (g : Gr M M' h h') (p : PWs h u v) : PWs h' u v := PRs.mono (gr_mon g) p
theorem dec_slice {α : Type} {en : α → List V} {good : α → Prop} (B : BK bk) {e : Sh} {d : DataW H} {vs : List V} (hd : DV h (.sl e) d vs) (hb : bk d ≤ 1048576) (hp : ∀ (y : DataW H) (r : List V), DV h e y r → bk y ≤ 1048576 → ∃ a, good a ∧ PWs h (en a) r) :
    ∃ (L : List α) (x : V), vs = [x] ∧ (∀ a ∈ L, good a) ∧ L.length ≤ 1048576 ∧ PW h (.fl e.size (L.map en)) x := by
  simp only [DV] at hd
  rcases hd with ⟨rfl, rfl⟩ | ⟨elems, spare, id, rows, rfl, rfl, h2, h3, h4, h5, h6⟩
  · exact ⟨[], _, rfl, (fun a ha => by cases ha), by simp, .fl0 _ _⟩
  · have hl := B.sl elems spare
    have hel := B.el elems spare
    have : ∀ (els : List (DataW H)) (rows : List (List V)), rows.length = els.length → (∀ x ∈ els, bk x ≤ 1048576) → (∀ (j : Nat) (x : DataW H) (r : List V), els[j]? = some x → rows[j]? = some r → DV h e x r) → ∃ L : List α, L.length = els.length ∧ (∀ a ∈ L, good a) ∧ PRr (· < h.next) (fun i => i) h.get 0 (L.map en) rows := by
      intro els
      induction els with
      | nil => intro rows hl _ _; rw [List.length_eq_zero_iff.1 hl]; exact ⟨[], rfl, (fun a ha => by cases ha), .nil _⟩
      | cons y els ih =>
        intro rows hl hb hr
        match rows, hl with
        | r :: rows, hl =>
          obtain ⟨a, ga, pa⟩ := hp y r (hr 0 y r rfl rfl) (hb y (List.mem_cons_self ..))
          obtain ⟨L, l1, l2, l3⟩ := ih rows (by simpa using hl) (fun x hx => hb x (List.mem_cons_of_mem _ hx)) (fun j x r hx hr' => hr (j + 1) x r (by simpa using hx) (by simpa using hr'))
          exact ⟨a :: L, by simp [l1], fun b hb => by rcases List.mem_cons.1 hb with rfl | hb; exact ga; exact l2 b hb, .cons _ _ _ _ _ pa l3⟩
    obtain ⟨L, l1, l2, l3⟩ := this elems rows h4 (fun x hx => by have := hel x hx; omega) h6
    refine ⟨L, _, rfl, l2, by omega, ?_⟩
    have e1 : elems.length = (L.map en).length := by simp [l1]
    rw [e1]
    exact .fl _ _ _ id 0 _ rows h3 h2 (Nat.le_refl _) (by simp; omega) (by simp [frzLen]; omega) (by rw [List.drop_zero, List.take_of_length_le (by simp; omega)]; exact l3)
theorem dec_ints (B : BK bk) {d : DataW H} {vs : List V} (hd : DV h (.sl (.i .i64)) d vs) (hb : bk d ≤ 1048576) : ∃ (L : List Int) (x : V), vs = [x] ∧ L.length ≤ 1048576 ∧ PW h (.fl 1 (L.map encI)) x := by
  obtain ⟨L, x, h1, _, h3, h4⟩ := dec_slice (en := encI) (good := fun _ => True) B hd hb (fun y r hy _ => by obtain ⟨n, _, _, rfl⟩ := hy; exact ⟨n, trivial, .cons _ _ _ _ _ (.i _ _ _) (.nil _)⟩)
  exact ⟨L, x, h1, h3, h4⟩
def shNode : Sh := .agg (.cons (.i .i64) (.cons (.i .i64) (.cons (.i .i64) .nil)))
def shProc : Sh := .agg (.cons (.i .i64) (.cons (.i .i64) .nil))
def shChan : Sh := .agg (.cons (.i .i64) (.cons (.i .i64) (.cons .b (.cons (.i .i64) (.cons (.i .u32) (.cons (.i .i64) .nil))))))
def shPart : Sh := .agg (.cons .s (.cons (.i .i64) (.cons (.i .i64) (.cons .b (.cons .b (.cons (.sl shProc) (.cons (.agg (ShL.rep (.i .i64) 5)) .nil)))))))
def shConf : Sh := .agg (.cons (.sl shPart) (.cons (.sl shChan) (.cons (.sl (.sl shNode)) .nil)))
theorem dvs_cons {x : Sh} {l : ShL} {ds : List (DataW H)} {vs : List V} (hy : DVs h (.cons x l) ds vs) : ∃ d ds' v1 v2, ds = d :: ds' ∧ vs = v1 ++ v2 ∧ DV h x d v1 ∧ DVs h l ds' v2 := by unfold DVs at hy; exact hy
theorem dvs_nil {ds : List (DataW H)} {vs : List V} (hy : DVs h .nil ds vs) : ds = [] ∧ vs = [] := by unfold DVs at hy; exact hy
theorem dv_agg {l : ShL} {d : DataW H} {vs : List V} (hy : DV h (.agg l) d vs) : ∃ ds, d = .agg ds ∧ DVs h l ds vs := by unfold DV at hy; exact hy
theorem dec_i {k : IntKind} {d : DataW H} {vs : List V} (hy : DV h (.i k) d vs) : ∃ n : Int, PWs h [.i k n] vs := by
  unfold DV at hy
  obtain ⟨n, _, _, rfl⟩ := hy; exact ⟨n, .cons _ _ _ _ _ (.i _ _ _) (.nil _)⟩
theorem dec_b {d : DataW H} {vs : List V} (hy : DV h .b d vs) : ∃ n : Bool, PWs h [.b n] vs := by
  unfold DV at hy
  obtain ⟨n, _, rfl⟩ := hy; exact ⟨n, .cons _ _ _ _ _ (.b _ _) (.nil _)⟩
theorem dec_s (B : BK bk) {d : DataW H} {vs : List V} (hy : DV h .s d vs) : ∃ s : ByteArray, s.size ≤ bk d ∧ PWs h [.s s] vs := by
  unfold DV at hy
  obtain ⟨s, rfl, _, rfl⟩ := hy
  have hs2 := B.st s.data.toList
  have hs3 : s.data.toList.length = s.size := by rw [Array.length_toList]; rfl
  exact ⟨s, by omega, .cons _ _ _ _ _ (.s _ _) (.nil _)⟩
theorem dec_node {d : DataW H} {r : List V} (hy : DV h shNode d r) : ∃ a : Node, PWs h a.enc r := by
  obtain ⟨ds, _, hy⟩ := dv_agg hy
  obtain ⟨d1, _, v1, _, _, rfl, q1, hy⟩ := dvs_cons hy
  obtain ⟨d2, _, v2, _, _, rfl, q2, hy⟩ := dvs_cons hy
  obtain ⟨d3, _, v3, _, _, rfl, q3, hy⟩ := dvs_cons hy
  obtain ⟨_, rfl⟩ := dvs_nil hy
  obtain ⟨a, p1⟩ := dec_i q1
  obtain ⟨b, p2⟩ := dec_i q2
  obtain ⟨c, p3⟩ := dec_i q3
  exact ⟨⟨a, b, c⟩, p1.app (p2.app (p3.app (.nil _)))⟩
theorem dec_proc {d : DataW H} {r : List V} (hy : DV h shProc d r) : ∃ a : Proc, PWs h a.enc r := by
  obtain ⟨ds, _, hy⟩ := dv_agg hy
  obtain ⟨d1, _, v1, _, _, rfl, q1, hy⟩ := dvs_cons hy
  obtain ⟨d2, _, v2, _, _, rfl, q2, hy⟩ := dvs_cons hy
  obtain ⟨_, rfl⟩ := dvs_nil hy
  obtain ⟨a, p1⟩ := dec_i q1
  obtain ⟨b, p2⟩ := dec_i q2
  exact ⟨⟨a, b⟩, p1.app (p2.app (.nil _))⟩
theorem dec_chan {d : DataW H} {r : List V} (hy : DV h shChan d r) : ∃ a : Chan, PWs h a.enc r := by
  obtain ⟨ds, _, hy⟩ := dv_agg hy
  obtain ⟨d1, _, v1, _, _, rfl, q1, hy⟩ := dvs_cons hy
  obtain ⟨d2, _, v2, _, _, rfl, q2, hy⟩ := dvs_cons hy
  obtain ⟨d3, _, v3, _, _, rfl, q3, hy⟩ := dvs_cons hy
  obtain ⟨d4, _, v4, _, _, rfl, q4, hy⟩ := dvs_cons hy
  obtain ⟨d5, _, v5, _, _, rfl, q5, hy⟩ := dvs_cons hy
  obtain ⟨d6, _, v6, _, _, rfl, q6, hy⟩ := dvs_cons hy
  obtain ⟨_, rfl⟩ := dvs_nil hy
  obtain ⟨a, p1⟩ := dec_i q1
  obtain ⟨b, p2⟩ := dec_i q2
  obtain ⟨c, p3⟩ := dec_b q3
  obtain ⟨e, p4⟩ := dec_i q4
  obtain ⟨f, p5⟩ := dec_i q5
  obtain ⟨g, p6⟩ := dec_i q6
  exact ⟨⟨a, b, c, e, f, g⟩, p1.app (p2.app (p3.app (p4.app (p5.app (p6.app (.nil _))))))⟩
theorem dec_arr5 {d : DataW H} {r : List V} (hy : DV h (.agg (ShL.rep (.i .i64) 5)) d r) : ∃ a b c e f : Int, PWs h [.i .i64 a, .i .i64 b, .i .i64 c, .i .i64 e, .i .i64 f] r := by
  obtain ⟨ds, _, hy⟩ := dv_agg hy
  obtain ⟨d1, _, v1, _, _, rfl, q1, hy⟩ := dvs_cons hy
  obtain ⟨d2, _, v2, _, _, rfl, q2, hy⟩ := dvs_cons hy
  obtain ⟨d3, _, v3, _, _, rfl, q3, hy⟩ := dvs_cons hy
  obtain ⟨d4, _, v4, _, _, rfl, q4, hy⟩ := dvs_cons hy
  obtain ⟨d5, _, v5, _, _, rfl, q5, hy⟩ := dvs_cons hy
  obtain ⟨_, rfl⟩ := dvs_nil hy
  obtain ⟨a, p1⟩ := dec_i q1
  obtain ⟨b, p2⟩ := dec_i q2
  obtain ⟨c, p3⟩ := dec_i q3
  obtain ⟨e, p4⟩ := dec_i q4
  obtain ⟨f, p5⟩ := dec_i q5
  exact ⟨a, b, c, e, f, p1.app (p2.app (p3.app (p4.app (p5.app (.nil _)))))⟩
theorem dec_procs (B : BK bk) {d : DataW H} {vs : List V} (hd : DV h (.sl shProc) d vs) (hb : bk d ≤ 1048576) : ∃ L : List Proc, PWs h [.fl 2 (L.map Proc.enc)] vs := by
  obtain ⟨L, x, rfl, _, _, px⟩ := dec_slice (en := Proc.enc) (good := fun _ => True) B hd hb (fun y r hy _ => by obtain ⟨a, pa⟩ := dec_proc hy; exact ⟨a, trivial, pa⟩)
  exact ⟨L, .cons _ _ _ _ _ px (.nil _)⟩
theorem dec_part (B : BK bk) {d : DataW H} {r : List V} (hy : DV h shPart d r) (hb : bk d ≤ 1048576) : ∃ a : Part, a.name.size ≤ 1048576 ∧ PWs h a.enc r := by
  obtain ⟨ds, ed, hy2⟩ := dv_agg hy
  clear hy
  have hy := hy2
  subst ed
  have ag := B.ag ds
  obtain ⟨d1, ds1, v1, _, e1, rfl, q1, hy⟩ := dvs_cons hy
  obtain ⟨d2, ds2, v2, _, e2, rfl, q2, hy⟩ := dvs_cons hy
  obtain ⟨d3, ds3, v3, _, e3, rfl, q3, hy⟩ := dvs_cons hy
  obtain ⟨d4, ds4, v4, _, e4, rfl, q4, hy⟩ := dvs_cons hy
  obtain ⟨d5, ds5, v5, _, e5, rfl, q5, hy⟩ := dvs_cons hy
  obtain ⟨d6, ds6, v6, _, e6, rfl, q6, hy⟩ := dvs_cons hy
  obtain ⟨d7, ds7, v7, _, e7, rfl, q7, hy⟩ := dvs_cons hy
  obtain ⟨_, rfl⟩ := dvs_nil hy
  have b1 := ag d1 (by rw [e1]; exact List.mem_cons_self ..)
  have b6 := ag d6 (by rw [e1, e2, e3, e4, e5, e6]; simp)
  obtain ⟨s, hs, p1⟩ := dec_s B q1
  obtain ⟨b, p2⟩ := dec_i q2
  obtain ⟨c, p3⟩ := dec_i q3
  obtain ⟨e, p4⟩ := dec_b q4
  obtain ⟨f, p5⟩ := dec_b q5
  obtain ⟨L, p6⟩ := dec_procs B q6 (by omega)
  obtain ⟨g0, g1, g2, g3, g4, p7⟩ := dec_arr5 q7
  exact ⟨⟨s, b, c, e, f, L, g0, g1, g2, g3, g4⟩, by simp only; omega, p1.app (p2.app (p3.app (p4.app (p5.app (p6.app (p7.app (.nil _)))))))⟩
theorem dec_conf (B : BK bk) {d : DataW H} {r : List V} (hy : DV h shConf d r) (hb : bk d ≤ 1048576) : ∃ C : Config, NmOk C ∧ PWs h C.enc r := by
  obtain ⟨ds, ed, hy2⟩ := dv_agg hy
  clear hy
  have hy := hy2
  subst ed
  have ag := B.ag ds
  obtain ⟨d1, ds1, v1, _, e1, rfl, q1, hy⟩ := dvs_cons hy
  obtain ⟨d2, ds2, v2, _, e2, rfl, q2, hy⟩ := dvs_cons hy
  obtain ⟨d3, ds3, v3, _, e3, rfl, q3, hy⟩ := dvs_cons hy
  obtain ⟨_, rfl⟩ := dvs_nil hy
  have b1 := ag d1 (by rw [e1]; exact List.mem_cons_self ..)
  have b2 := ag d2 (by rw [e1, e2]; simp)
  have b3 := ag d3 (by rw [e1, e2, e3]; simp)
  obtain ⟨P, x, rfl, hP, _, px⟩ := dec_slice (en := Part.enc) (good := fun a => a.name.size ≤ 1048576) B q1 (by omega) (fun y r hy hb => dec_part B hy hb)
  obtain ⟨X, x2, rfl, _, _, px2⟩ := dec_slice (en := Chan.enc) (good := fun _ => True) B q2 (by omega) (fun y r hy _ => by obtain ⟨a, pa⟩ := dec_chan hy; exact ⟨a, trivial, pa⟩)
  obtain ⟨T, x3, rfl, _, _, px3⟩ := dec_slice (en := Tab.enc) (good := fun _ => True) B q3 (by omega) (fun y r hy hb => by
    obtain ⟨N, z, rfl, _, _, pz⟩ := dec_slice (en := Node.enc) (good := fun _ => True) B hy hb (fun y r hy _ => by obtain ⟨a, pa⟩ := dec_node hy; exact ⟨a, trivial, pa⟩)
    exact ⟨N, trivial, .cons _ _ _ _ _ pz (.nil _)⟩)
  exact ⟨⟨P, X, T⟩, fun p hp => by have := hP p hp; omega, .cons _ _ _ _ _ px (.cons _ _ _ _ _ px2 (.cons _ _ _ _ _ px3 (.nil _)))⟩
end
end Go.Ab.T
