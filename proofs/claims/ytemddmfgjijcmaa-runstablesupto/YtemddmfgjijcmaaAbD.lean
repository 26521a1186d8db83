/- Part of the proof that RunsTables returns true for every input of the second form's bound (no other condition). -/
import Derived.IntWalk
import Derived.JoinedCond
import Derived.ChangeArms
import Derived.Test.YtemddmfgjijcmaaAbA
import Derived.Test.YtemddmfgjijcmaaAbC
set_option linter.all false
/- More fuel, the same answer; and the abstract machine without fuel, as conditions ahead of code. -/
namespace Go.Ab
universe u
open Go
set_option linter.unusedVariables false
set_option linter.unusedSimpArgs false

def OLe (C D : Oracle) : Prop := ∀ f args h z, C f args h = some z → D f args h = some z

theorem run1_mono {tp : TP} {C D : Oracle} (hC : OLe C D) {o : O} {ev : X → V} {h : AH} {z : V × AH} (hd : run1 tp C o ev h = some z) : run1 tp D o ev h = some z := by
  unfold run1 at hd ⊢
  split at hd
  · simp only [Option.bind_eq_some_iff] at hd ⊢
    obtain ⟨c, h1, hd⟩ := hd
    exact ⟨c, h1, hC _ _ _ _ hd⟩
  · simp only [Option.bind_eq_some_iff] at hd ⊢
    obtain ⟨c, h1, hd⟩ := hd
    exact ⟨c, h1, hC _ _ _ _ hd⟩
  · exact hd
theorem ops_mono {tp : TP} {C D : Oracle} (hC : OLe C D) : ∀ (l : List TO) (e : Env) (h : AH) (z : Env × AH), evOps tp C l e h = some z → evOps tp D l e h = some z
  | [], e, h, z, he => by simpa [evOps] using he
  | o :: l, e, h, z, he => by
    simp only [evOps] at he ⊢
    split at he
    · simp only [Option.bind_eq_some_iff] at he ⊢
      obtain ⟨q, hq, he⟩ := he
      exact ⟨q, run1_mono hC hq, ops_mono hC l _ _ z he⟩
    · exact ops_mono hC l _ _ z he
    · simp at he
theorem quiet_mono {tp : TP} {C D : Oracle} (hC : OLe C D) : ∀ (l : List TO) (e : Env) (h : AH) (z : Env × AH), evQuiet tp C l e h = some z → evQuiet tp D l e h = some z
  | [], e, h, z, he => by simpa [evQuiet] using he
  | o :: l, e, h, z, he => by
    unfold evQuiet at he ⊢
    cases hw : wantedT e o.g with
    | none => simp [hw] at he
    | some b =>
      cases b with
      | false => simp only [hw] at he ⊢; exact quiet_mono hC l _ _ z he
      | true =>
        simp only [hw] at he ⊢
        by_cases hp : isPure o.o = true
        · rw [if_pos hp] at he ⊢
          by_cases ha : alive o.o (X.ev e) h = true
          · rw [if_pos ha] at he ⊢
            simp only [Option.bind_eq_some_iff] at he ⊢
            obtain ⟨q, hq, he⟩ := he
            exact ⟨q, hq, quiet_mono hC l _ _ z he⟩
          · rw [if_neg ha] at he; simp at he
        · rw [if_neg hp] at he ⊢
          simp only [Option.bind_eq_some_iff] at he ⊢
          obtain ⟨q, hq, he⟩ := he
          exact ⟨q, run1_mono hC hq, quiet_mono hC l _ _ z he⟩
theorem segs_mono {tp : TP} {C D : Oracle} (hC : OLe C D) : ∀ (l : List (Bool × List TO)) (e : Env) (h : AH) (z : Env × AH), evSegs tp C l e h = some z → evSegs tp D l e h = some z
  | [], e, h, z, he => by simpa [evSegs] using he
  | (q, l) :: r, e, h, z, he => by
    simp only [evSegs, Option.bind_eq_some_iff] at he ⊢
    obtain ⟨y, hy, he⟩ := he
    refine ⟨y, ?_, segs_mono hC r _ _ z he⟩
    cases q with
    | true => exact quiet_mono hC l e h y hy
    | false => exact ops_mono hC l e h y hy
theorem iter_mono {f g : Env → AH → Out} (hf : ∀ e h z, f e h = some z → g e h = some z) : ∀ (n m : Nat) (e : Env) (h : AH) (z : Ex × Env × AH), n ≤ m → iter f n e h = some z → iter g m e h = some z
  | 0, _, e, h, z, _, he => by simp [iter] at he
  | n + 1, 0, e, h, z, hn, he => by omega
  | n + 1, m + 1, e, h, z, hn, he => by
    simp only [iter, Option.bind_eq_some_iff] at he ⊢
    obtain ⟨y, hy, he⟩ := he
    refine ⟨y, hf _ _ _ hy, ?_⟩
    split at he
    · exact iter_mono hf n m _ _ z (by omega) he
    · exact he
theorem code_mono {tp : TP} {C D : Oracle} (hC : OLe C D) {n m : Nat} (hn : n ≤ m) : ∀ (c : TC) (e : Env) (h : AH) (z : Ex × Env × AH), evC tp C n c e h = some z → evC tp D m c e h = some z := by
  intro c
  induction c with
  | skip => intro e h z he; simpa [evC] using he
  | reg ops => intro e h z he; simp only [evC, Option.map_eq_some_iff] at he ⊢; obtain ⟨y, hy, rfl⟩ := he; exact ⟨y, ops_mono hC ops e h y hy, rfl⟩
  | dreg segs => intro e h z he; simp only [evC, Option.map_eq_some_iff] at he ⊢; obtain ⟨y, hy, rfl⟩ := he; exact ⟨y, segs_mono hC segs e h y hy, rfl⟩
  | seq a b iha ihb =>
    intro e h z he
    simp only [evC, Option.bind_eq_some_iff] at he ⊢
    obtain ⟨y, hy, he⟩ := he
    refine ⟨y, iha e h y hy, ?_⟩
    split at he
    · exact ihb _ _ z he
    · exact he
  | cond c a b iha ihb =>
    intro e h z he
    simp only [evC] at he ⊢
    split at he
    · exact iha e h z he
    · exact ihb e h z he
    · simp at he
  | block id c ih => intro e h z he; simp only [evC, Option.map_eq_some_iff] at he ⊢; obtain ⟨y, hy, rfl⟩ := he; exact ⟨y, ih e h y hy, rfl⟩
  | loop c ih => intro e h z he; simp only [evC] at he ⊢; exact iter_mono ih n m e h z hn he
  | exit id => intro e h z he; simpa [evC] using he
  | ret => intro e h z he; simpa [evC] using he
theorem ev_step (tp : TP) : ∀ k, OLe (ev tp k) (ev tp (k + 1)) := by
  intro k
  induction k with
  | zero => intro f args h z he; simp [ev] at he
  | succ k ih =>
    intro f args h z he
    rw [ev] at he ⊢
    simp only [Option.bind_eq_some_iff] at he ⊢
    obtain ⟨tf, h1, he⟩ := he
    refine ⟨tf, h1, ?_⟩
    split at he
    case isFalse => simp at he
    rename_i hl
    simp only [hl, if_true]
    simp only [Option.bind_eq_some_iff] at he ⊢
    obtain ⟨y, hy, he⟩ := he
    exact ⟨y, code_mono ih (Nat.le_succ k) tf.body _ h y hy, he⟩
theorem ev_mono (tp : TP) {k m : Nat} (hk : k ≤ m) : OLe (ev tp k) (ev tp m) := by
  obtain ⟨d, rfl⟩ := Nat.le.dest hk
  clear hk
  induction d with
  | zero => intro f args h z he; exact he
  | succ d ih => intro f args h z he; exact ev_step tp (k + d) f args h z (ih f args h z he)

/-! ### Without fuel -/
section
variable (tp : TP)

/-- By rfl, but not for dsimp. -/
theorem nrfl {α : Sort u} {a b : α} (h : a = b) : a = b := h
/-- A mark that keeps simp out of what it marks. -/
inductive Fz {α : Sort u} (a : α) : Type where
  | mk
/-- A call comes back, and so. -/
def Ev (f : Nat) (args : List V) (h : AH) (Q : V → AH → Prop) (t : Fz Q := .mk) : Prop := ∃ k v h', ev tp k f args h = some (v, h') ∧ Q v h'
def W1 (o : O) (e : Env) (h : AH) (Q : V → AH → Prop) (t : Fz Q := .mk) : Prop := ∃ k v h', run1 tp (ev tp k) o (X.ev e) h = some (v, h') ∧ Q v h'
def WOps (l : List TO) (e : Env) (h : AH) (Q : Env → AH → Prop) (t : Fz (PProd.mk e Q) := .mk) : Prop := ∃ k e' h', evOps tp (ev tp k) l e h = some (e', h') ∧ Q e' h'
def WQ (l : List TO) (e : Env) (h : AH) (Q : Env → AH → Prop) (t : Fz (PProd.mk e Q) := .mk) : Prop := ∃ k e' h', evQuiet tp (ev tp k) l e h = some (e', h') ∧ Q e' h'
def WS (l : List (Bool × List TO)) (e : Env) (h : AH) (Q : Env → AH → Prop) (t : Fz (PProd.mk e Q) := .mk) : Prop := ∃ k e' h', evSegs tp (ev tp k) l e h = some (e', h') ∧ Q e' h'
def WC (c : TC) (e : Env) (h : AH) (Q : Ex → Env → AH → Prop) (t : Fz (PProd.mk e Q) := .mk) : Prop := ∃ k x e' h', evC tp (ev tp k) k c e h = some (x, e', h') ∧ Q x e' h'
/-- What may be none. -/
def Wo {α : Type} (x : Option α) (K : α → Prop) (t : Fz K := .mk) : Prop := ∃ a, x = some a ∧ K a
/-- A value, to be reckoned first. -/
def Wv {α : Type} (a : α) (K : α → Prop) (t : Fz K := .mk) : Prop := K a
/-- On a bool. -/
def Wb (v : V) (A B : Prop) (t : Fz (PProd.mk A B) := .mk) : Prop := match v with | .b true => A | .b false => B | _ => False
/-- On a guard: wanted, or not. -/
def Wg (v : V) (x : Bool) (A B : Prop) (t : Fz (PProd.mk A B) := .mk) : Prop := match v with | .b y => (if y = x then A else B) | .tup [] => B | _ => False
/-- Behind the first of two. -/
def nxt (x : Ex) (A B : Prop) (t : Fz (PProd.mk A B) := .mk) : Prop := match x with | .nm => A | _ => B
def blk (id : Nat) (x : Ex) : Ex := match x with | .ex j => if j = id then .nm else .ex j | x => x
variable {tp}

theorem Wo_some {α : Type} {a : α} {K : α → Prop} : Wo (some a) K = K a := propext ⟨fun ⟨_, h, k⟩ => (by cases h; exact k), fun h => ⟨a, rfl, h⟩⟩
theorem Wo_none {α : Type} {K : α → Prop} : Wo none K = False := propext ⟨fun ⟨_, h, k⟩ => (by cases h), False.elim⟩
theorem Wo_bind {α β : Type} {x : Option α} {f : α → Option β} {K : β → Prop} : Wo (x.bind f) K = Wo x (fun a => Wo (f a) K) := propext ⟨fun ⟨b, h, k⟩ => by
  simp only [Option.bind_eq_some_iff] at h; obtain ⟨a, h1, h2⟩ := h; exact ⟨a, h1, b, h2, k⟩, fun ⟨a, h, b, h2, k⟩ => ⟨b, by simp only [h, Option.bind_some, h2], k⟩⟩
theorem Wo_map {α β : Type} {x : Option α} {f : α → β} {K : β → Prop} : Wo (x.map f) K = Wo x (fun a => K (f a)) := propext ⟨fun ⟨b, h, k⟩ => by
  simp only [Option.map_eq_some_iff] at h; obtain ⟨a, h1, rfl⟩ := h; exact ⟨a, h1, k⟩, fun ⟨a, h, k⟩ => ⟨f a, by simp only [h, Option.map_some], k⟩⟩
theorem Wo_ite {α : Type} {c : Prop} [Decidable c] {x : Option α} {K : α → Prop} : Wo (if c then x else none) K = (c ∧ Wo x K) := by
  by_cases hc : c
  · simp [hc]
  · simp [hc, Wo_none]
theorem Wo_ext {α : Type} {x : Option α} {K L : α → Prop} (h : ∀ a, K a = L a) : Wo x K = Wo x L := by rw [show K = L from funext h]
theorem Wv_go {α : Type} {a : α} {K : α → Prop} : Wv a K = K a := nrfl rfl
theorem Wg_dec {p : Prop} [Decidable p] {x : Bool} {A B : Prop} (h1 : p → Wg (.b true) x A B) (h2 : ¬ p → Wg (.b false) x A B) : Wg (.b (decide p)) x A B := by by_cases hp : p <;> simp_all
theorem Wg_of {c x : Bool} {A B : Prop} (h1 : c = true → Wg (.b true) x A B) (h2 : c = false → Wg (.b false) x A B) : Wg (.b c) x A B := by cases c <;> simp_all
theorem Wb_true {A B : Prop} : Wb (.b true) A B = A := nrfl rfl
theorem Wb_false {A B : Prop} : Wb (.b false) A B = B := nrfl rfl
theorem Wb_of {c : Bool} {A B : Prop} (h1 : c = true → A) (h2 : c = false → B) : Wb (.b c) A B := by cases c <;> simp_all [Wb]
theorem Wb_dec {p : Prop} [Decidable p] {A B : Prop} (h1 : p → A) (h2 : ¬ p → B) : Wb (.b (decide p)) A B := by by_cases hp : p <;> simp_all [Wb]
theorem Wb_ndec {p : Prop} [Decidable p] {A B : Prop} (h1 : ¬ p → A) (h2 : p → B) : Wb (.b (!decide p)) A B := by by_cases hp : p <;> simp_all [Wb]
theorem Wg_skip {x : Bool} {A B : Prop} : Wg (.tup []) x A B = B := nrfl rfl
theorem Wg_tt {A B : Prop} : Wg (.b true) true A B = A := by simp [Wg]
theorem Wg_tf {A B : Prop} : Wg (.b true) false A B = B := by simp [Wg]
theorem Wg_ft {A B : Prop} : Wg (.b false) true A B = B := by simp [Wg]
theorem Wg_ff {A B : Prop} : Wg (.b false) false A B = A := by simp [Wg]
theorem nxt_nm {A B : Prop} : nxt .nm A B = A := nrfl rfl
theorem nxt_rt {A B : Prop} : nxt .rt A B = B := nrfl rfl
theorem nxt_ex {i : Nat} {A B : Prop} : nxt (.ex i) A B = B := nrfl rfl
theorem blk_nm {i : Nat} : blk i .nm = .nm := nrfl rfl
theorem blk_rt {i : Nat} : blk i .rt = .rt := nrfl rfl
theorem blk_ex {i j : Nat} : blk i (.ex j) = if j = i then .nm else .ex j := nrfl rfl

theorem WC_skip {e : Env} {h : AH} {Q : Ex → Env → AH → Prop} : WC tp .skip e h Q = Q .nm e h := propext ⟨fun ⟨k, x, e', h', he, hq⟩ => by simp [evC] at he; obtain ⟨rfl, rfl, rfl⟩ := he; exact hq, fun hq => ⟨0, _, _, _, rfl, hq⟩⟩
theorem WC_ret {e : Env} {h : AH} {Q : Ex → Env → AH → Prop} : WC tp .ret e h Q = Q .rt e h := propext ⟨fun ⟨k, x, e', h', he, hq⟩ => by simp [evC] at he; obtain ⟨rfl, rfl, rfl⟩ := he; exact hq, fun hq => ⟨0, _, _, _, rfl, hq⟩⟩
theorem WC_exit {id : Nat} {e : Env} {h : AH} {Q : Ex → Env → AH → Prop} : WC tp (.exit id) e h Q = Q (.ex id) e h := propext ⟨fun ⟨k, x, e', h', he, hq⟩ => by simp [evC] at he; obtain ⟨rfl, rfl, rfl⟩ := he; exact hq, fun hq => ⟨0, _, _, _, rfl, hq⟩⟩
theorem WC_reg {ops : List TO} {e : Env} {h : AH} {Q : Ex → Env → AH → Prop} : WC tp (.reg ops) e h Q = WOps tp ops e h (fun e h => Q .nm e h) := propext ⟨fun ⟨k, x, e', h', he, hq⟩ => by
  simp only [evC, Option.map_eq_some_iff] at he; obtain ⟨⟨y1, y2⟩, hy, he⟩ := he; cases he; exact ⟨k, _, _, hy, hq⟩, fun ⟨k, e', h', he, hq⟩ => ⟨k, _, _, _, by simp only [evC, he, Option.map_some], hq⟩⟩
theorem WC_dreg {ops : List (Bool × List TO)} {e : Env} {h : AH} {Q : Ex → Env → AH → Prop} : WC tp (.dreg ops) e h Q = WS tp ops e h (fun e h => Q .nm e h) := propext ⟨fun ⟨k, x, e', h', he, hq⟩ => by
  simp only [evC, Option.map_eq_some_iff] at he; obtain ⟨⟨y1, y2⟩, hy, he⟩ := he; cases he; exact ⟨k, _, _, hy, hq⟩, fun ⟨k, e', h', he, hq⟩ => ⟨k, _, _, _, by simp only [evC, he, Option.map_some], hq⟩⟩
theorem WC_cond {c : X} {a b : TC} {e : Env} {h : AH} {Q : Ex → Env → AH → Prop} : WC tp (.cond c a b) e h Q = Wb (c.ev e) (WC tp a e h Q) (WC tp b e h Q) := propext ⟨fun ⟨k, x, e', h', he, hq⟩ => by
  simp only [evC] at he
  split at he
  · rename_i hn'; simp only [hn', Wb]; exact ⟨k, x, e', h', he, hq⟩
  · rename_i hn'; simp only [hn', Wb]; exact ⟨k, x, e', h', he, hq⟩
  · simp at he, fun hw => by
  unfold Wb at hw
  split at hw
  · rename_i hn'; obtain ⟨k, x, e', h', he, hq⟩ := hw; exact ⟨k, x, e', h', by simp only [evC, hn', he], hq⟩
  · rename_i hn'; obtain ⟨k, x, e', h', he, hq⟩ := hw; exact ⟨k, x, e', h', by simp only [evC, hn', he], hq⟩
  · exact hw.elim⟩
theorem WC_block {id : Nat} {c : TC} {e : Env} {h : AH} {Q : Ex → Env → AH → Prop} : WC tp (.block id c) e h Q = WC tp c e h (fun x e h => Q (blk id x) e h) := propext ⟨fun ⟨k, x, e', h', he, hq⟩ => by
  simp only [evC, Option.map_eq_some_iff] at he; obtain ⟨⟨x1, y1, y2⟩, hy, he⟩ := he; cases he; exact ⟨k, _, _, _, hy, by cases x1 <;> exact hq⟩, fun ⟨k, x, e', h', he, hq⟩ => ⟨k, blk id x, e', h', by simp only [evC, he, Option.map_some]; cases x <;> rfl, hq⟩⟩
theorem WC_seq {a b : TC} {e : Env} {h : AH} {Q : Ex → Env → AH → Prop} : WC tp (.seq a b) e h Q = WC tp a e h (fun x e h => nxt x (WC tp b e h Q) (Q x e h)) := propext ⟨fun ⟨k, x, e', h', he, hq⟩ => by
  simp only [evC, Option.bind_eq_some_iff] at he
  obtain ⟨⟨x1, e1, h1⟩, hy, he⟩ := he
  refine ⟨k, x1, e1, h1, hy, ?_⟩
  cases x1 with
  | nm => exact ⟨k, x, e', h', he, hq⟩
  | ex j => simp at he; obtain ⟨rfl, rfl, rfl⟩ := he; exact hq
  | rt => simp at he; obtain ⟨rfl, rfl, rfl⟩ := he; exact hq, fun ⟨k, x, e', h', he, hq⟩ => by
  cases x with
  | nm =>
    obtain ⟨k2, x2, e2, h2, he2, hq2⟩ := hq
    refine ⟨max k k2, x2, e2, h2, ?_, hq2⟩
    have p := code_mono (tp := tp) (ev_mono tp (Nat.le_max_left k k2)) (Nat.le_max_left k k2) a e h _ he
    have q := code_mono (tp := tp) (ev_mono tp (Nat.le_max_right k k2)) (Nat.le_max_right k k2) b e' h' _ he2
    simp only [evC, p, Option.bind_some, q]
  | ex j => exact ⟨k, _, _, _, by simp only [evC, he, Option.bind_some], hq⟩
  | rt => exact ⟨k, _, _, _, by simp only [evC, he, Option.bind_some], hq⟩⟩
/-- A loop: once more, or out. -/
theorem WC_loop {c : TC} {e : Env} {h : AH} {Q : Ex → Env → AH → Prop} (hw : WC tp c e h (fun x e h => nxt x (WC tp (.loop c) e h Q) (Q x e h))) : WC tp (.loop c) e h Q := by
  obtain ⟨k, x, e', h', he, hq⟩ := hw
  cases x with
  | nm =>
    obtain ⟨k2, x2, e2, h2, he2, hq2⟩ := hq
    refine ⟨max k k2 + 1, x2, e2, h2, ?_, hq2⟩
    have p := code_mono (tp := tp) (ev_mono tp (Nat.le_succ_of_le (Nat.le_max_left k k2))) (Nat.le_succ_of_le (Nat.le_max_left k k2)) c e h _ he
    simp only [evC] at he2 ⊢
    have q := iter_mono (fun e h z hz => code_mono (tp := tp) (ev_mono tp (Nat.le_succ_of_le (Nat.le_max_right k k2))) (Nat.le_succ_of_le (Nat.le_max_right k k2)) c e h z hz) k2 (max k k2) e' h' _ (Nat.le_max_right k k2) he2
    simp only [iter, p, Option.bind_some]
    exact q
  | ex j => exact ⟨k + 1, _, _, _, by
      have p := code_mono (tp := tp) (ev_mono tp (Nat.le_succ k)) (Nat.le_succ k) c e h _ he
      simp only [evC, iter, p, Option.bind_some], hq⟩
  | rt => exact ⟨k + 1, _, _, _, by
      have p := code_mono (tp := tp) (ev_mono tp (Nat.le_succ k)) (Nat.le_succ k) c e h _ he
      simp only [evC, iter, p, Option.bind_some], hq⟩
/-- A loop by what holds ahead of each round, with a number that falls. -/
theorem WC_loop_n {c : TC} {Q : Ex → Env → AH → Prop} (J : Nat → Env → AH → Prop) (round : ∀ n e h, J n e h → (∀ m e' h', m < n → J m e' h' → WC tp (.loop c) e' h' Q) → WC tp c e h (fun x e h => nxt x (WC tp (.loop c) e h Q) (Q x e h))) : ∀ n e h, J n e h → WC tp (.loop c) e h Q := by
  intro n
  induction n using Nat.strongRecOn with
  | _ n ih => intro e h hj; exact WC_loop (round n e h hj (fun m e' h' hm hj' => ih m hm e' h' hj'))

theorem WOps_nil {e : Env} {h : AH} {Q : Env → AH → Prop} : WOps tp [] e h Q = Q e h := propext ⟨fun ⟨k, e', h', he, hq⟩ => by simp [evOps] at he; obtain ⟨rfl, rfl⟩ := he; exact hq, fun hq => ⟨0, _, _, rfl, hq⟩⟩
theorem WOps_run {d : Option Nat} {o : O} {g : Option (Nat × Bool)} {r : List TO} {e : Env} {h : AH} {Q : Env → AH → Prop} (hg : wantedT e g = some true) : WOps tp (⟨d, o, g⟩ :: r) e h Q = W1 tp o e h (fun v h => WOps tp r (e.set d v) h Q) := propext ⟨fun ⟨k, e', h', he, hq⟩ => by
  simp only [evOps, hg, Option.bind_eq_some_iff] at he
  obtain ⟨⟨y1, y2⟩, hy, he⟩ := he
  exact ⟨k, y1, y2, hy, k, e', h', he, hq⟩, fun ⟨k, v, h1, he, k2, e2, h2, he2, hq⟩ => by
  refine ⟨max k k2, e2, h2, ?_, hq⟩
  have p := run1_mono (tp := tp) (ev_mono tp (Nat.le_max_left k k2)) he
  have q := ops_mono (tp := tp) (ev_mono tp (Nat.le_max_right k k2)) r _ _ _ he2
  simp only [evOps, hg, p, Option.bind_some, q]⟩
theorem WOps_skip {d : Option Nat} {o : O} {g : Option (Nat × Bool)} {r : List TO} {e : Env} {h : AH} {Q : Env → AH → Prop} (hg : wantedT e g = some false) : WOps tp (⟨d, o, g⟩ :: r) e h Q = WOps tp r (e.set d (.tup [])) h Q := by
  unfold WOps; simp only [evOps, hg]
theorem WOps_one {d : Option Nat} {o : O} {r : List TO} {e : Env} {h : AH} {Q : Env → AH → Prop} : WOps tp (⟨d, o, none⟩ :: r) e h Q = W1 tp o e h (fun v h => WOps tp r (e.set d v) h Q) := WOps_run rfl
theorem WOps_g {d : Option Nat} {o : O} {t : Nat} {x : Bool} {r : List TO} {e : Env} {h : AH} {Q : Env → AH → Prop} : WOps tp (⟨d, o, some (t, x)⟩ :: r) e h Q = Wg (e t) x (W1 tp o e h (fun v h => WOps tp r (e.set d v) h Q)) (WOps tp r (e.set d (.tup [])) h Q) := by
  have key : ∀ v, e t = v → WOps tp (⟨d, o, some (t, x)⟩ :: r) e h Q = Wg v x (W1 tp o e h (fun v h => WOps tp r (e.set d v) h Q)) (WOps tp r (e.set d (.tup [])) h Q) := by
    intro v hv
    have bad : wantedT e (some (t, x)) = none → WOps tp (⟨d, o, some (t, x)⟩ :: r) e h Q = False := fun hn => propext ⟨fun ⟨k, e', h', he, hq⟩ => by simp [evOps, hn] at he, False.elim⟩
    unfold Wg
    split
    · rename_i y
      split
      · rename_i hy; exact WOps_run (by simp [wantedT, hv, hy])
      · rename_i hy; exact WOps_skip (by simp [wantedT, hv, hy])
    · exact WOps_skip (by simp [wantedT, hv])
    · rename_i h1 h2
      refine bad ?_
      unfold wantedT
      simp only [hv]
  exact key _ rfl

theorem WS_nil {e : Env} {h : AH} {Q : Env → AH → Prop} : WS tp [] e h Q = Q e h := propext ⟨fun ⟨k, e', h', he, hq⟩ => by simp [evSegs] at he; obtain ⟨rfl, rfl⟩ := he; exact hq, fun hq => ⟨0, _, _, rfl, hq⟩⟩
theorem WS_bar {l : List TO} {r : List (Bool × List TO)} {e : Env} {h : AH} {Q : Env → AH → Prop} : WS tp ((false, l) :: r) e h Q = WOps tp l e h (fun e h => WS tp r e h Q) := propext ⟨fun ⟨k, e', h', he, hq⟩ => by
  simp only [evSegs, Bool.false_eq_true, if_false, Option.bind_eq_some_iff] at he
  obtain ⟨⟨y1, y2⟩, hy, he⟩ := he
  exact ⟨k, y1, y2, hy, k, e', h', he, hq⟩, fun ⟨k, v, h1, he, k2, e2, h2, he2, hq⟩ => by
  refine ⟨max k k2, e2, h2, ?_, hq⟩
  have p := ops_mono (tp := tp) (ev_mono tp (Nat.le_max_left k k2)) l _ _ _ he
  have q := segs_mono (tp := tp) (ev_mono tp (Nat.le_max_right k k2)) r _ _ _ he2
  simp only [evSegs, Bool.false_eq_true, if_false, p, Option.bind_some, q]⟩
theorem WS_quiet {l : List TO} {r : List (Bool × List TO)} {e : Env} {h : AH} {Q : Env → AH → Prop} : WS tp ((true, l) :: r) e h Q = WQ tp l e h (fun e h => WS tp r e h Q) := propext ⟨fun ⟨k, e', h', he, hq⟩ => by
  simp only [evSegs, if_true, Option.bind_eq_some_iff] at he
  obtain ⟨⟨y1, y2⟩, hy, he⟩ := he
  exact ⟨k, y1, y2, hy, k, e', h', he, hq⟩, fun ⟨k, v, h1, he, k2, e2, h2, he2, hq⟩ => by
  refine ⟨max k k2, e2, h2, ?_, hq⟩
  have p := quiet_mono (tp := tp) (ev_mono tp (Nat.le_max_left k k2)) l _ _ _ he
  have q := segs_mono (tp := tp) (ev_mono tp (Nat.le_max_right k k2)) r _ _ _ he2
  simp only [evSegs, if_true, p, Option.bind_some, q]⟩

/-- A quiet operation: by itself. -/
def WQ1 (tp : TP) (o : O) (e : Env) (h : AH) (K : V → AH → Prop) (t : Fz K := .mk) : Prop :=
  if isPure o = true then alive o (X.ev e) h = true ∧ W1 tp o e h K else W1 tp o e h.raise (fun v h' => K v (h'.back h.lim))
theorem WQ_nil {e : Env} {h : AH} {Q : Env → AH → Prop} : WQ tp [] e h Q = Q e h := propext ⟨fun ⟨k, e', h', he, hq⟩ => by simp [evQuiet] at he; obtain ⟨rfl, rfl⟩ := he; exact hq, fun hq => ⟨0, _, _, rfl, hq⟩⟩
theorem run1_pure {C : Oracle} {o : O} {ev : X → V} {h : AH} (hp : isPure o = true) : run1 tp C o ev h = doOp o ev h := by
  unfold run1; split <;> first | rfl | simp [isPure] at hp
theorem WQ_run {d : Option Nat} {o : O} {g : Option (Nat × Bool)} {r : List TO} {e : Env} {h : AH} {Q : Env → AH → Prop} (hg : wantedT e g = some true) : WQ tp (⟨d, o, g⟩ :: r) e h Q = WQ1 tp o e h (fun v h => WQ tp r (e.set d v) h Q) := propext ⟨fun ⟨k, e', h', he, hq⟩ => by
  simp only [evQuiet, hg] at he
  unfold WQ1
  split at he
  · rename_i hp
    split at he
    · rename_i hal
      simp only [Option.bind_eq_some_iff] at he
      obtain ⟨⟨y1, y2⟩, hy, he⟩ := he
      rw [if_pos hp]
      have hyh : y2 = h := by have := pure_same hp hy; exact this
      subst hyh
      exact ⟨hal, k, y1, y2, by rw [run1_pure hp]; exact hy, k, e', h', he, hq⟩
    · simp at he
  · rename_i hp
    simp only [Option.bind_eq_some_iff] at he
    obtain ⟨⟨y1, y2⟩, hy, he⟩ := he
    rw [if_neg hp]
    exact ⟨k, y1, y2, hy, k, e', h', he, hq⟩, fun hw => by
  unfold WQ1 at hw
  split at hw
  · rename_i hp
    obtain ⟨hal, k, v, h1, he, k2, e2, h2, he2, hq⟩ := hw
    rw [run1_pure hp] at he
    have hyh : h1 = h := pure_same hp he
    subst hyh
    exact ⟨k2, e2, h2, by simp only [evQuiet, hg, hp, hal, if_true, he, Option.bind_some, he2], hq⟩
  · rename_i hp
    obtain ⟨k, v, h1, he, k2, e2, h2, he2, hq⟩ := hw
    refine ⟨max k k2, e2, h2, ?_, hq⟩
    have p := run1_mono (tp := tp) (ev_mono tp (Nat.le_max_left k k2)) he
    have q := quiet_mono (tp := tp) (ev_mono tp (Nat.le_max_right k k2)) r _ _ _ he2
    simp only [evQuiet, hg, hp, Bool.false_eq_true, if_false, p, Option.bind_some, q]⟩
theorem WQ_skip {d : Option Nat} {o : O} {g : Option (Nat × Bool)} {r : List TO} {e : Env} {h : AH} {Q : Env → AH → Prop} (hg : wantedT e g = some false) : WQ tp (⟨d, o, g⟩ :: r) e h Q = WQ tp r (e.set d (.tup [])) h Q := by
  unfold WQ; simp only [evQuiet, hg]
theorem WQ_one {d : Option Nat} {o : O} {r : List TO} {e : Env} {h : AH} {Q : Env → AH → Prop} : WQ tp (⟨d, o, none⟩ :: r) e h Q = WQ1 tp o e h (fun v h => WQ tp r (e.set d v) h Q) := WQ_run rfl
theorem WQ_g {d : Option Nat} {o : O} {t : Nat} {x : Bool} {r : List TO} {e : Env} {h : AH} {Q : Env → AH → Prop} : WQ tp (⟨d, o, some (t, x)⟩ :: r) e h Q = Wg (e t) x (WQ1 tp o e h (fun v h => WQ tp r (e.set d v) h Q)) (WQ tp r (e.set d (.tup [])) h Q) := by
  have key : ∀ v, e t = v → WQ tp (⟨d, o, some (t, x)⟩ :: r) e h Q = Wg v x (WQ1 tp o e h (fun v h => WQ tp r (e.set d v) h Q)) (WQ tp r (e.set d (.tup [])) h Q) := by
    intro v hv
    have bad : wantedT e (some (t, x)) = none → WQ tp (⟨d, o, some (t, x)⟩ :: r) e h Q = False := fun hn => propext ⟨fun ⟨k, e', h', he, hq⟩ => by simp [evQuiet, hn] at he, False.elim⟩
    unfold Wg
    split
    · rename_i y
      split
      · rename_i hy; exact WQ_run (by simp [wantedT, hv, hy])
      · rename_i hy; exact WQ_skip (by simp [wantedT, hv, hy])
    · exact WQ_skip (by simp [wantedT, hv])
    · rename_i h1 h2
      refine bad ?_
      unfold wantedT
      simp only [hv]
  exact key _ rfl

theorem W1_do {o : O} {e : Env} {h : AH} {K : V → AH → Prop} (hn : ∀ C : Oracle, run1 tp C o (X.ev e) h = doOp o (X.ev e) h) : W1 tp o e h K = Wo (doOp o (X.ev e) h) (fun z => K z.1 z.2) := propext ⟨fun ⟨k, v, h', he, hk⟩ => ⟨(v, h'), by rw [← hn]; exact he, hk⟩, fun ⟨⟨v, h'⟩, he, hk⟩ => ⟨0, v, h', by rw [hn]; exact he, hk⟩⟩
theorem W1_call {f : X} {l : List X} {e : Env} {h : AH} {K : V → AH → Prop} : W1 tp (.call f l) e h K = Wo (callee tp (.call f l) (X.ev e)) (fun c => Ev tp c.1 c.2 h K) := propext ⟨fun ⟨k, v, h', he, hk⟩ => by
  simp only [run1, Option.bind_eq_some_iff] at he
  obtain ⟨c, hc, he⟩ := he
  exact ⟨c, hc, k, v, h', he, hk⟩, fun ⟨c, hc, k, v, h', he, hk⟩ => ⟨k, v, h', by simp only [run1, hc, Option.bind_some, he], hk⟩⟩
theorem W1_inv {x : X} {m : String} {l : List X} {e : Env} {h : AH} {K : V → AH → Prop} : W1 tp (.inv x m l) e h K = Wo (callee tp (.inv x m l) (X.ev e)) (fun c => Ev tp c.1 c.2 h K) := propext ⟨fun ⟨k, v, h', he, hk⟩ => by
  simp only [run1, Option.bind_eq_some_iff] at he
  obtain ⟨c, hc, he⟩ := he
  exact ⟨c, hc, k, v, h', he, hk⟩, fun ⟨c, hc, k, v, h', he, hk⟩ => ⟨k, v, h', by simp only [run1, hc, Option.bind_some, he], hk⟩⟩

/-- Behind a function's body. -/
def Wend (res : List RV) (x : Ex) (e : Env) (h : AH) (Q : V → AH → Prop) (t : Fz (PProd.mk e Q) := .mk) : Prop := match x with | .ex _ => False | _ => Wo (resOf e h res) (fun v => Q v h)
theorem Ev_of {f : Nat} {args : List V} {h : AH} {Q : V → AH → Prop} {tf : TF} (hf : tp.fn f = some tf) (hl : args.length ≤ tf.n) (hw : WC tp tf.body (env0 args) h (fun x e h => Wend tf.res x e h Q)) : Ev tp f args h Q := by
  obtain ⟨k, x, e', h', he, hq⟩ := hw
  unfold Wend at hq
  split at hq
  · exact hq.elim
  · rename_i hx
    obtain ⟨v, hv, hq⟩ := hq
    refine ⟨k + 1, v, h', ?_, hq⟩
    rw [ev]
    simp only [hf, Option.bind_some, if_pos hl, he, hv, Option.map_some]
theorem Ev.imp {f : Nat} {args : List V} {h : AH} {Q R : V → AH → Prop} (hw : Ev tp f args h Q) (hqr : ∀ v h', Q v h' → R v h') : Ev tp f args h R := by
  obtain ⟨k, v, h', he, hq⟩ := hw; exact ⟨k, v, h', he, hqr v h' hq⟩
/-- What a call always keeps. -/
theorem Ev.steady {f : Nat} {args : List V} {h : AH} {Q : V → AH → Prop} (hw : Ev tp f args h Q) : Ev tp f args h (fun v h' => Q v h' ∧ Steady h h') := by
  obtain ⟨k, v, h', he, hq⟩ := hw; exact ⟨k, v, h', he, hq, ev_steady tp k f args h v h' he⟩
theorem WC.imp {c : TC} {e : Env} {h : AH} {Q R : Ex → Env → AH → Prop} (hw : WC tp c e h Q) (hqr : ∀ x e' h', Q x e' h' → R x e' h') : WC tp c e h R := by
  obtain ⟨k, x, e', h', he, hq⟩ := hw; exact ⟨k, x, e', h', he, hqr x e' h' hq⟩
end
end Go.Ab
/- Rules by which simp goes through the abstract machine's code. -/
namespace Go.Ab
open Go
set_option linter.unusedVariables false
set_option linter.unusedSimpArgs false

theorem Env.set_get {e : Env} {d j : Nat} {v : V} : (e.set (some d) v) j = if j = d then v else e j := nrfl rfl
theorem Env.set_none {e : Env} {v : V} : e.set none v = e := nrfl rfl
theorem X.ev_t {e : Env} {n : Nat} : (X.t n).ev e = e n := nrfl rfl
theorem X.ev_c {e : Env} {v : V} : (X.c v).ev e = v := nrfl rfl
theorem X.ev_fn {e : Env} {f : Nat} : (X.fn f).ev e = .f (.func f) [] [] := nrfl rfl

/-! ### The heap -/
def gsel {α : Type} (i n : Nat) (a b : α) : α := if i = n then a else b
theorem gsel_eq {α : Type} {i n : Nat} {a b : α} (h : i = n) : gsel i n a b = a := if_pos h
theorem gsel_ne {α : Type} {i n : Nat} {a b : α} (h : ¬ i = n) : gsel i n a b = b := if_neg h
theorem get_alloc {h : AH} {k : Blk} {i : Nat} : (h.alloc k).get i = gsel i h.next (some k) (h.get i) := nrfl rfl
theorem get_put {h : AH} {k : Blk} {i j : Nat} : (h.put j k).get i = gsel i j (some k) (h.get i) := nrfl rfl
theorem get_kill {h : AH} {i j : Nat} : (h.kill j).get i = gsel i j none (h.get i) := nrfl rfl
theorem get_raise {h : AH} {i : Nat} : h.raise.get i = h.get i := nrfl rfl
theorem get_back {h : AH} {i l : Nat} : (h.back l).get i = h.get i := nrfl rfl
theorem next_alloc {h : AH} {k : Blk} : (h.alloc k).next = h.next + 1 := nrfl rfl
theorem next_put {h : AH} {k : Blk} {j : Nat} : (h.put j k).next = h.next := nrfl rfl
theorem next_kill {h : AH} {j : Nat} : (h.kill j).next = h.next := nrfl rfl
theorem next_raise {h : AH} : h.raise.next = h.next := nrfl rfl
theorem next_back {h : AH} {l : Nat} : (h.back l).next = h.next := nrfl rfl
theorem lim_alloc {h : AH} {k : Blk} : (h.alloc k).lim = h.lim := nrfl rfl
theorem lim_put {h : AH} {k : Blk} {j : Nat} : (h.put j k).lim = h.lim := nrfl rfl
theorem lim_kill {h : AH} {j : Nat} : (h.kill j).lim = h.lim := nrfl rfl
theorem lim_raise {h : AH} : h.raise.lim = h.next := nrfl rfl
theorem lim_back {h : AH} {l : Nat} : (h.back l).lim = l := nrfl rfl
theorem nn1 {n : Nat} : n + 1 + 1 = n + 2 := nrfl rfl
theorem raise_back_alloc {h : AH} {k : Blk} : (h.raise.alloc k).back h.lim = h.alloc k := nrfl rfl
theorem raise_back {h : AH} : h.raise.back h.lim = h := nrfl rfl

/-! ### Operations one by one -/
variable {tp : TP} {e : Env} {h : AH} {K : V → AH → Prop}

def asB : V → Option Bool | .b x => some x | _ => none
theorem asB_b {x : Bool} : asB (.b x) = some x := nrfl rfl
def lenV : V → Option V | .ns => some (.i .i64 0) | .sl _ _ n _ => some (.i .i64 n) | _ => none
theorem lenV_ns : lenV .ns = some (.i .i64 0) := nrfl rfl
theorem lenV_sl {a b c d : Nat} : lenV (.sl a b c d) = some (.i .i64 c) := nrfl rfl
def slenV : V → Option V | .s x => some (.i .i64 x.size) | _ => none
theorem slenV_s {x : ByteArray} : slenV (.s x) = some (.i .i64 x.size) := nrfl rfl
def ld2 (k : Option Blk) (el off n : Nat) (agg : Bool) : Option V := k.bind fun k => (k.cs[el]?).bind fun r => cut r off n agg
def ldV (h : AH) (n : Nat) (agg : Bool) : V → Option V | .p id el off => ld2 (h.get id) el off n agg | _ => none
theorem ldV_p {id el off n : Nat} {agg : Bool} : ldV h n agg (.p id el off) = ld2 (h.get id) el off n agg := nrfl rfl
theorem ld2_some {sz el off n : Nat} {cs : List (List V)} {agg : Bool} : ld2 (some ⟨sz, cs⟩) el off n agg = (cs[el]?).bind fun r => cut r off n agg := nrfl rfl
def Wst (tp : TP) (n : Nat) (p v : V) (h : AH) (K : AH → Prop) (t : Fz K := .mk) : Prop := match p with
  | .p id el off => (h.lim ≤ id ∧ 0 < n ∧ v.cells.length = n ∧ v.cells.all V.isCell = true) ∧ Wo (h.get id) (fun k => Wo (k.cs[el]?) (fun r => off + n ≤ r.length ∧ Wv (h.put id ⟨k.sz, k.cs.set el (over r off v.cells)⟩) K))
  | _ => False
theorem W1_mv {x : X} : W1 tp (.mv x) e h K = Wv (x.ev e) (fun v => K v h) := by rw [W1_do (fun C => rfl)]; simp only [doOp, Wo_some, Wv_go]
theorem W1_pick {c a b : X} : W1 tp (.pick c a b) e h K = Wo (asB (c.ev e)) (fun t => Wv (if t then a.ev e else b.ev e) (fun v => K v h)) := by
  rw [W1_do (fun C => rfl)]; simp only [doOp, asB]
  cases c.ev e <;> simp only [Wo_some, Wo_none, Wv_go]
theorem W1_alloc {z : List V} : W1 tp (.alloc z) e h K = Wv (.p h.next 0 0) (fun v => Wv (h.alloc ⟨z.length, [z]⟩) (fun h' => K v h')) := by rw [W1_do (fun C => rfl)]; simp only [doOp, Wo_some, Wv_go]
theorem W1_box {x : X} : W1 tp (.box x) e h K = ((x.ev e).cells.all V.isCell = true ∧ Wv (.p h.next 0 0) (fun v => Wv (h.alloc ⟨(x.ev e).cells.length, [(x.ev e).cells]⟩) (fun h' => K v h'))) := by rw [W1_do (fun C => rfl)]; simp only [doOp, Wo_ite, Wo_some, Wv_go]
theorem W1_build {z : List V} {ps : List (Nat × Nat × X)} : W1 tp (.build z ps) e h K = Wo (fillP z (ps.map fun q => (q.1, q.2.1, q.2.2.ev e))) (fun r => K (.agg r) h) := by rw [W1_do (fun C => rfl)]; simp only [doOp, Wo_map]
theorem W1_bsl {sz n : Nat} {z : List V} {ps : List (Nat × X)} : W1 tp (.bsl sz z n ps) e h K = Wo (fillE sz (List.replicate n z) (ps.map fun q => (q.1, q.2.ev e))) (fun r => Wv (.sl h.next 0 n n) (fun v => Wv (h.alloc ⟨sz, r⟩) (fun h' => K v h'))) := by rw [W1_do (fun C => rfl)]; simp only [doOp, Wo_map]; rfl
theorem W1_load {n : Nat} {agg : Bool} {x : X} : W1 tp (.load n agg x) e h K = Wo (ldV h n agg (x.ev e)) (fun v => K v h) := by
  rw [W1_do (fun C => rfl)]; simp only [doOp, ldV, ld2]
  cases x.ev e <;> simp only [Wo_none]
  rw [Wo_bind, Wo_bind]
  refine Wo_ext fun k => ?_
  rw [Wo_bind, Wo_bind]
  refine Wo_ext fun r => ?_
  rw [Wo_map]
theorem W1_store {n : Nat} {a x : X} : W1 tp (.store n a x) e h K = Wst tp n (a.ev e) (x.ev e) h (K .u) := by
  rw [W1_do (fun C => rfl)]; simp only [doOp, Wst]
  cases a.ev e <;> simp only [Wo_none]
  rw [Wo_ite, Wo_bind]
  congr 1
  refine Wo_ext fun k => ?_
  rw [Wo_bind]
  refine Wo_ext fun r => ?_
  rw [Wo_ite, Wo_some]; rfl
def Wst2 (tp : TP) (l n id el off : Nat) (v : V) (h : AH) (K : AH → Prop) (t : Fz K := .mk) : Prop := (l ≤ id ∧ 0 < n ∧ v.cells.length = n ∧ v.cells.all V.isCell = true) ∧ Wo (h.get id) (fun k => Wo (k.cs[el]?) (fun r => off + n ≤ r.length ∧ Wv (h.put id ⟨k.sz, k.cs.set el (over r off v.cells)⟩) K))
theorem Wst_p {n id el off : Nat} {v : V} {K : AH → Prop} : Wst tp n (.p id el off) v h K = Wst2 tp h.lim n id el off v h K := nrfl rfl
theorem Wst2_ok {l n id el off : Nat} {v : V} {K : AH → Prop} (hl : l ≤ id) : Wst2 tp l n id el off v h K = ((0 < n ∧ v.cells.length = n ∧ v.cells.all V.isCell = true) ∧ Wo (h.get id) (fun k => Wo (k.cs[el]?) (fun r => off + n ≤ r.length ∧ Wv (h.put id ⟨k.sz, k.cs.set el (over r off v.cells)⟩) K))) := by
  simp only [Wst2, hl, true_and]
def nckV : V → Option V | .p id el off => some (.p id el off) | .ifc t v => some (.ifc t v) | .f (.func g) a b => some (.f (.func g) a b) | _ => none
theorem nckV_p {a b c : Nat} : nckV (.p a b c) = some (.p a b c) := nrfl rfl
theorem nckV_ifc {t : Nat} {v : V} : nckV (.ifc t v) = some (.ifc t v) := nrfl rfl
theorem nckV_f {g : Nat} {a b : List V} : nckV (.f (.func g) a b) = some (.f (.func g) a b) := nrfl rfl
theorem W1_nck {x : X} : W1 tp (.nck x) e h K = Wo (nckV (x.ev e)) (fun v => K v h) := by
  rw [W1_do (fun C => rfl)]; simp only [doOp]
  generalize x.ev e = v
  cases v with
  | f g a b => cases g <;> simp only [nckV, Wo_some, Wo_none]
  | _ => simp only [nckV, Wo_some, Wo_none]
theorem W1_bin {op : BinOp} {x y : X} : W1 tp (.bin op x y) e h K = Wo (binV op (x.ev e) (y.ev e)) (fun v => K v h) := by rw [W1_do (fun C => rfl)]; simp only [doOp, Wo_map]
theorem W1_eq {n : Bool} {k : EK} {x y : X} : W1 tp (.eq n k x y) e h K = Wo (eqV k (x.ev e) (y.ev e)) (fun r => Wv (.b (if n then !r else r)) (fun v => K v h)) := by rw [W1_do (fun C => rfl)]; simp only [doOp, Wo_map]; rfl
theorem W1_un {op : UnOp} {x : X} : W1 tp (.un op x) e h K = Wo (unV op (x.ev e)) (fun v => K v h) := by rw [W1_do (fun C => rfl)]; simp only [doOp, Wo_map]
def convV (k : IntKind) : V → Option V | .i _ n => some (.i k (k.wrap n)) | _ => none
theorem convV_i {k j : IntKind} {n : Int} : convV k (.i j n) = some (.i k (k.wrap n)) := nrfl rfl
theorem W1_conv {k : IntKind} {x : X} : W1 tp (.conv k x) e h K = Wo (convV k (x.ev e)) (fun v => K v h) := by
  rw [W1_do (fun C => rfl)]; simp only [doOp, convV]
  cases x.ev e <;> simp only [Wo_some, Wo_none]
def strsV : V → Option V | .s x => some (.s x) | _ => none
theorem strsV_s {x : ByteArray} : strsV (.s x) = some (.s x) := nrfl rfl
theorem W1_strs {x : X} : W1 tp (.strs x) e h K = Wo (strsV (x.ev e)) (fun v => K v h) := by
  rw [W1_do (fun C => rfl)]; simp only [doOp, strsV]
  cases x.ev e <;> simp only [Wo_some, Wo_none]
theorem W1_mkif {t : Nat} {x : X} : W1 tp (.mkif t x) e h K = Wv (.ifc t (x.ev e)) (fun v => K v h) := by rw [W1_do (fun C => rfl)]; simp only [doOp, Wo_some, Wv_go]
theorem W1_mkfn {fn : Fn} {a c : List X} : W1 tp (.mkfn fn a c) e h K = Wv (.f fn (a.map (X.ev e)) (c.map (X.ev e))) (fun v => K v h) := by rw [W1_do (fun C => rfl)]; simp only [doOp, Wo_some, Wv_go]
def Wmk (z : List V) (n c : V) (h : AH) (K : V → AH → Prop) (t : Fz K := .mk) : Prop := match n, c with
  | .i _ a, .i _ m => (0 ≤ a ∧ a ≤ m ∧ m < bigLen) ∧ Wv (.sl h.next 0 a.toNat m.toNat) (fun v => Wv (h.alloc ⟨z.length, List.replicate m.toNat z⟩) (fun h' => K v h'))
  | _, _ => False
theorem Wmk_i {z : List V} {k j : IntKind} {a m : Int} : Wmk z (.i k a) (.i j m) h K = ((0 ≤ a ∧ a ≤ m ∧ m < 4294967296) ∧ Wv (.sl h.next 0 a.toNat m.toNat) (fun v => Wv (h.alloc ⟨z.length, List.replicate m.toNat z⟩) (fun h' => K v h'))) := nrfl rfl
theorem W1_mksl {z : List V} {n c : X} : W1 tp (.mksl z n c) e h K = Wmk z (n.ev e) (c.ev e) h K := by
  rw [W1_do (fun C => rfl)]; simp only [doOp]
  generalize n.ev e = v
  generalize c.ev e = w
  cases v <;> cases w <;> simp only [Wmk, Wo_none, Wo_ite, Wo_some, Wv_go]
def sliceV (sz : Nat) (h : AH) (x : V) (lo hi mx : Option V) : Option V := match x with
    | .ns => if mx.isNone || hi.isSome then (bndOf mx 0 0).bind fun m => (bndOf hi 0 m).bind fun t => (bndOf lo 0 t).map fun _ => .ns else none
    | .sl id el len cap =>
      (h.get id).bind fun k =>
        if k.sz = sz ∧ (mx.isNone || hi.isSome) = true ∧ len ≤ cap then
          (bndOf mx cap cap).bind fun m => (bndOf hi len m).bind fun t => (bndOf lo 0 t).map fun l => .sl id (el + l) (t - l) (m - l)
        else none
    | _ => none
theorem W1_slice {sz : Nat} {x : X} {lo hi mx : Option X} : W1 tp (.slice sz x lo hi mx) e h K = Wo (sliceV sz h (x.ev e) (lo.map (X.ev e)) (hi.map (X.ev e)) (mx.map (X.ev e))) (fun v => K v h) := by
  rw [W1_do (fun C => rfl)]; simp only [doOp, sliceV]
  have two : ∀ (a b c : Option V) (p q r : Nat) (F : Nat → Nat → Nat → V), Wo ((bndOf a p q).bind fun m => (bndOf b r m).bind fun t => (bndOf c 0 t).map fun l => (F m t l, h)) (fun z => K z.1 z.2) = Wo ((bndOf a p q).bind fun m => (bndOf b r m).bind fun t => (bndOf c 0 t).map fun l => F m t l) (fun v => K v h) := by
    intro a b c p q r F
    rw [Wo_bind, Wo_bind]
    refine Wo_ext fun m => ?_
    rw [Wo_bind, Wo_bind]
    refine Wo_ext fun t => ?_
    rw [Wo_map, Wo_map]
  cases x.ev e <;> simp only [Wo_none, Option.isNone_map, Option.isSome_map]
  · split
    · exact two _ _ _ _ _ _ (fun _ _ _ => V.ns)
    · simp only [Wo_none]
  · rename_i id el len cap
    rw [Wo_bind, Wo_bind]
    refine Wo_ext fun k => ?_
    split
    · exact two _ _ _ _ _ _ (fun m t l => V.sl id (el + l) (t - l) (m - l))
    · simp only [Wo_none]
def sslV (x : V) (lo hi : Option V) : Option V := match x with
    | .s x => (bndOf hi x.size x.size).bind fun t => (bndOf lo 0 t).map fun l => .s (x.extract l t)
    | _ => none
theorem W1_sslice {x : X} {lo hi : Option X} : W1 tp (.sslice x lo hi) e h K = Wo (sslV (x.ev e) (lo.map (X.ev e)) (hi.map (X.ev e))) (fun v => K v h) := by
  rw [W1_do (fun C => rfl)]; simp only [doOp, sslV]
  cases x.ev e <;> simp only [Wo_none]
  rw [Wo_bind, Wo_bind]
  refine Wo_ext fun t => ?_
  rw [Wo_map, Wo_map]
def fadV (off : Nat) : V → Option V | .p id el o => some (.p id el (o + off)) | _ => none
theorem fadV_p {off a b c : Nat} : fadV off (.p a b c) = some (.p a b (c + off)) := nrfl rfl
theorem W1_fad {off : Nat} {x : X} : W1 tp (.fad off x) e h K = Wo (fadV off (x.ev e)) (fun v => K v h) := by
  rw [W1_do (fun C => rfl)]; simp only [doOp, fadV]
  cases x.ev e <;> simp only [Wo_some, Wo_none]
def fldV (off n : Nat) (agg : Bool) : V → Option V | .agg r => cut r off n agg | _ => none
theorem fldV_agg {off n : Nat} {agg : Bool} {r : List V} : fldV off n agg (.agg r) = cut r off n agg := nrfl rfl
theorem W1_fld {off n : Nat} {agg : Bool} {x : X} : W1 tp (.fld off n agg x) e h K = Wo (fldV off n agg (x.ev e)) (fun v => K v h) := by
  rw [W1_do (fun C => rfl)]; simp only [doOp, fldV]
  cases x.ev e <;> simp only [Wo_map, Wo_none]
/-- The address of an element; g: the block, if it lives. -/
def iadV (sz : Nat) (h : AH) : V → V → Option V
  | .sl id el len _, i => if szB h id sz = true then (idxOf i len).map fun j => .p id (el + j) 0 else none
  | _, _ => none
theorem W1_iad {sz : Nat} {x i : X} : W1 tp (.iad sz x i) e h K = Wo (iadV sz h (x.ev e) (i.ev e)) (fun v => K v h) := by
  rw [W1_do (fun C => rfl)]; simp only [doOp, iadV]
  cases x.ev e <;> simp only [Wo_none]
  split <;> simp only [Wo_none, Wo_map]
def iadaV (sz len : Nat) : V → V → Option V
  | .p id el off, i => (idxOf i len).map fun j => .p id el (off + j * sz)
  | _, _ => none
theorem iadaV_p {sz len id el off : Nat} {i : V} : iadaV sz len (.p id el off) i = (idxOf i len).map fun j => .p id el (off + j * sz) := nrfl rfl
theorem W1_iada {sz len : Nat} {x i : X} : W1 tp (.iada sz len x i) e h K = Wo (iadaV sz len (x.ev e) (i.ev e)) (fun v => K v h) := by
  rw [W1_do (fun C => rfl)]; simp only [doOp, iadaV]
  cases x.ev e <;> simp only [Wo_none, Wo_map]
def idxV (sz len : Nat) (agg : Bool) : V → V → Option V
  | .agg r, i => (idxOf i len).bind fun j => cut r (j * sz) sz agg
  | _, _ => none
theorem idxV_agg {sz len : Nat} {agg : Bool} {r : List V} {i : V} : idxV sz len agg (.agg r) i = (idxOf i len).bind fun j => cut r (j * sz) sz agg := nrfl rfl
theorem W1_idx {sz len : Nat} {agg : Bool} {x i : X} : W1 tp (.idx sz len agg x i) e h K = Wo (idxV sz len agg (x.ev e) (i.ev e)) (fun v => K v h) := by
  rw [W1_do (fun C => rfl)]; simp only [doOp, idxV]
  cases x.ev e <;> simp only [Wo_none]
  rw [Wo_bind, Wo_bind]
  refine Wo_ext fun t => ?_
  rw [Wo_map]
def sidxV : V → V → Option V
  | .s x, i => (idxOf i x.size).map fun j => .i .u8 ((x.data.toList.getD j 0).toNat : Int)
  | _, _ => none
theorem W1_sidx {x i : X} : W1 tp (.sidx x i) e h K = Wo (sidxV (x.ev e) (i.ev e)) (fun v => K v h) := by
  rw [W1_do (fun C => rfl)]; simp only [doOp, sidxV]
  cases x.ev e <;> simp only [Wo_none, Wo_bind, Wo_map]
def extV : V → Nat → Option V | .tup l, i => l[i]? | _, _ => none
theorem extV_tup {l : List V} {i : Nat} : extV (.tup l) i = l[i]? := nrfl rfl
theorem W1_ext {x : X} {i : Nat} : W1 tp (.ext x i) e h K = Wo (extV (x.ev e) i) (fun v => K v h) := by
  rw [W1_do (fun C => rfl)]; simp only [doOp, extV]
  cases x.ev e <;> simp only [Wo_none, Wo_map]
theorem W1_app {sz : Nat} {x y : X} : W1 tp (.app sz x y) e h K = Wo (appV sz h (x.ev e) (y.ev e)) (fun z => K z.1 z.2) := by rw [W1_do (fun C => rfl)]; simp only [doOp]
theorem W1_len {x : X} : W1 tp (.len x) e h K = Wo (lenV (x.ev e)) (fun v => K v h) := by
  rw [W1_do (fun C => rfl)]; simp only [doOp, lenV]
  cases x.ev e <;> simp only [Wo_some, Wo_none]
theorem W1_slen {x : X} : W1 tp (.slen x) e h K = Wo (slenV (x.ev e)) (fun v => K v h) := by
  rw [W1_do (fun C => rfl)]; simp only [doOp, slenV]
  cases x.ev e <;> simp only [Wo_some, Wo_none]
theorem W1_lenc {n : Nat} : W1 tp (.lenc n) e h K = K (.i .i64 n) h := by rw [W1_do (fun C => rfl)]; simp only [doOp, Wo_some, Wv_go]
theorem W1_mn {x : X} {l : List X} : W1 tp (.mn (x :: l)) e h K = Wo (foldV minV (x.ev e) (l.map (X.ev e))) (fun v => K v h) := by rw [W1_do (fun C => rfl)]; simp only [doOp, Wo_map]
theorem W1_mx {x : X} {l : List X} : W1 tp (.mx (x :: l)) e h K = Wo (foldV maxV (x.ev e) (l.map (X.ev e))) (fun v => K v h) := by rw [W1_do (fun C => rfl)]; simp only [doOp, Wo_map]
def calleeV : V → List V → Option (Nat × List V) | .f (.func g) first caps, l => some (g, first ++ l ++ caps) | _, _ => none
theorem calleeV_f {g : Nat} {a c l : List V} : calleeV (.f (.func g) a c) l = some (g, a ++ l ++ c) := nrfl rfl
theorem W1_call' {f : X} {l : List X} : W1 tp (.call f l) e h K = Wo (calleeV (f.ev e) (l.map (X.ev e))) (fun c => Ev tp c.1 c.2 h K) := by
  rw [W1_call]; simp only [callee]
  generalize f.ev e = v
  cases v with
  | f g a c => cases g <;> rfl
  | _ => rfl
/-- A call of a function by its number. -/
theorem W1_fn {f : Nat} {l : List X} : W1 tp (.call (.fn f) l) e h K = Ev tp f (l.map (X.ev e)) h K := by
  rw [W1_call', X.ev_fn, calleeV_f, Wo_some]; simp

/-! ### Values -/
theorem bin_add {k : IntKind} {a b : Int} : binV .add (.i k a) (.i k b) = some (.i k (k.wrap (a + b))) := by simp [binV, binI]
theorem bin_sub {k : IntKind} {a b : Int} : binV .sub (.i k a) (.i k b) = some (.i k (k.wrap (a - b))) := by simp [binV, binI]
theorem bin_mul {k : IntKind} {a b : Int} : binV .mul (.i k a) (.i k b) = some (.i k (k.wrap (a * b))) := by simp [binV, binI]
theorem bin_quo {k : IntKind} {a b : Int} (hb : ¬ b = 0) : binV .quo (.i k a) (.i k b) = some (.i k (k.wrap (a.tdiv b))) := by simp [binV, binI, hb]
theorem bin_rem {k : IntKind} {a b : Int} (hb : ¬ b = 0) : binV .rem (.i k a) (.i k b) = some (.i k (a.tmod b)) := by simp [binV, binI, hb]
theorem bin_and {k : IntKind} {a b : Int} : binV .and (.i k a) (.i k b) = some (.i k (k.wrap (BitVec.ofInt k.bits a &&& BitVec.ofInt k.bits b).toNat)) := by simp [binV, binI]
theorem bin_or {k : IntKind} {a b : Int} : binV .or (.i k a) (.i k b) = some (.i k (k.wrap (BitVec.ofInt k.bits a ||| BitVec.ofInt k.bits b).toNat)) := by simp [binV, binI]
theorem bin_eql {k : IntKind} {a b : Int} : binV .eql (.i k a) (.i k b) = some (.b (decide (a = b))) := by simp [binV, binI]
theorem bin_neq {k : IntKind} {a b : Int} : binV .neq (.i k a) (.i k b) = some (.b (decide (¬ a = b))) := by simp [binV, binI]
theorem bin_lss {k : IntKind} {a b : Int} : binV .lss (.i k a) (.i k b) = some (.b (decide (a < b))) := by simp [binV, binI]
theorem bin_leq {k : IntKind} {a b : Int} : binV .leq (.i k a) (.i k b) = some (.b (decide (a ≤ b))) := by simp [binV, binI]
theorem bin_gtr {k : IntKind} {a b : Int} : binV .gtr (.i k a) (.i k b) = some (.b (decide (b < a))) := by simp [binV, binI]
theorem bin_geq {k : IntKind} {a b : Int} : binV .geq (.i k a) (.i k b) = some (.b (decide (b ≤ a))) := by simp [binV, binI]
theorem un_not {x : Bool} : unV .not (.b x) = some (.b (!x)) := nrfl rfl
theorem un_neg {k : IntKind} {n : Int} : unV .neg (.i k n) = some (.i k (k.wrap (0 - n))) := nrfl rfl
theorem min_i {k : IntKind} {x y : Int} : minV (.i k x) (.i k y) = some (.i k (min x y)) := by
  simp only [minV, if_true]; congr 2
  omega
theorem max_i {k : IntKind} {x y : Int} : maxV (.i k x) (.i k y) = some (.i k (max x y)) := by
  simp only [maxV, if_true]; congr 2
  omega
theorem fold_nil {f : V → V → Option V} {x : V} : foldV f x [] = some x := nrfl rfl
theorem fold_cons {f : V → V → Option V} {x y : V} {l : List V} : foldV f x (y :: l) = (f x y).bind fun z => foldV f z l := nrfl rfl
theorem ndec {p : Prop} [Decidable p] : (!decide p) = decide (¬ p) := by simp
theorem adec {p q : Prop} [Decidable p] [Decidable q] : (decide p && decide q) = decide (p ∧ q) := by simp
theorem odec {p q : Prop} [Decidable p] [Decidable q] : (decide p || decide q) = decide (p ∨ q) := by simp
theorem idx_i {k : IntKind} {j : Int} {n : Nat} (h0 : 0 ≤ j) (h1 : j < n) : idxOf (.i k j) n = some j.toNat := by simp [idxOf, h0, h1]
theorem bnd_none {d n : Nat} : bndOf none d n = some d := nrfl rfl
theorem bnd_i {k : IntKind} {j : Int} {d n : Nat} (h0 : 0 ≤ j) (h1 : j ≤ n) : bndOf (some (.i k j)) d n = some j.toNat := by simp [bndOf, h0, h1]
theorem cut_agg {r : List V} {off n : Nat} (hl : off + n ≤ r.length) : cut r off n true = some (.agg ((r.drop off).take n)) := by simp [cut, hl]
theorem cut_one {r : List V} {off : Nat} (hl : off + 1 ≤ r.length) : cut r off 1 false = r[off]? := by simp [cut, hl]
theorem cells_agg {l : List V} : V.cells (.agg l) = l := nrfl rfl
theorem cells_i {k : IntKind} {n : Int} : V.cells (.i k n) = [.i k n] := nrfl rfl
theorem cells_b {x : Bool} : V.cells (.b x) = [.b x] := nrfl rfl
theorem cells_s {x : ByteArray} : V.cells (.s x) = [.s x] := nrfl rfl
theorem cells_sl {a b c d : Nat} : V.cells (.sl a b c d) = [.sl a b c d] := nrfl rfl
theorem cells_ns : V.cells .ns = [.ns] := nrfl rfl
theorem cells_p {a b c : Nat} : V.cells (.p a b c) = [.p a b c] := nrfl rfl
theorem cells_np : V.cells .np = [.np] := nrfl rfl
theorem isCell_i {k : IntKind} {n : Int} : V.isCell (.i k n) = true := nrfl rfl
theorem isCell_b {x : Bool} : V.isCell (.b x) = true := nrfl rfl
theorem isCell_s {x : ByteArray} : V.isCell (.s x) = true := nrfl rfl
theorem isCell_sl {a b c d : Nat} : V.isCell (.sl a b c d) = true := nrfl rfl
theorem isCell_ns : V.isCell .ns = true := nrfl rfl
theorem isCell_p {a b c : Nat} : V.isCell (.p a b c) = true := nrfl rfl
theorem isCell_np : V.isCell .np = true := nrfl rfl
theorem w64 {x : Int} (h0 : -9223372036854775808 ≤ x) (h1 : x < 9223372036854775808) : IntKind.wrap .i64 x = x := by rw [IntKind.wrap_i64]; omega

/-! ### Results -/
theorem Wend_nm {res : List RV} {Q : V → AH → Prop} : Wend res .nm e h Q = Wo (resOf e h res) (fun v => Q v h) := nrfl rfl
theorem Wend_rt {res : List RV} {Q : V → AH → Prop} : Wend res .rt e h Q = Wo (resOf e h res) (fun v => Q v h) := nrfl rfl
theorem res_nil : resOf e h [] = some (.tup []) := nrfl rfl
theorem res_one {n : Nat} : resOf e h [.t n] = some (e n) := nrfl rfl
theorem res_two {n m : Nat} : resOf e h [.t n, .t m] = some (.tup [e n, e m]) := nrfl rfl
theorem res_three {n m l : Nat} : resOf e h [.t n, .t m, .t l] = some (.tup [e n, e m, e l]) := nrfl rfl

end Go.Ab
/- Slices, what grew, and rules that speak of them. -/
namespace Go.Ab
open Go
set_option linter.unusedVariables false
set_option linter.unusedSimpArgs false

def idV : V → Nat | .sl id _ _ _ => id | .p id _ _ => id | _ => 0
def elV : V → Nat | .sl _ el _ _ => el | _ => 0
theorem idV_sl {a b c d : Nat} : idV (.sl a b c d) = a := nrfl rfl
theorem elV_sl {a b c d : Nat} : elV (.sl a b c d) = b := nrfl rfl
theorem idV_p {a b c : Nat} : idV (.p a b c) = a := nrfl rfl
def nth {α : Type} [Inhabited α] (L : List α) (j : Nat) : α := L.getD j default
theorem nth_get {α : Type} [Inhabited α] {L : List α} {j : Nat} (h : j < L.length) : L[j]? = some (nth L j) := by simp [nth, List.getD, List.getElem?_eq_getElem h]
theorem nth_eq {α : Type} [Inhabited α] {L : List α} {j : Nat} (h : j < L.length) : nth L j = L[j] := by simp [nth, List.getD, List.getElem?_eq_getElem h]

/-- What was there is there, the same. -/
structure Ext (h h' : AH) : Prop where
  next : h.next ≤ h'.next
  lim : h'.lim = h.lim
  get : ∀ i, i < h.next → h'.get i = h.get i
theorem Ext.refl (h : AH) : Ext h h := ⟨Nat.le_refl _, rfl, fun _ _ => rfl⟩
theorem Ext.trans {a b c : AH} (p : Ext a b) (q : Ext b c) : Ext a c := ⟨Nat.le_trans p.next q.next, q.lim.trans p.lim, fun i hi => (q.get i (Nat.lt_of_lt_of_le hi p.next)).trans (p.get i hi)⟩
theorem Ext.alloc {a b : AH} (p : Ext a b) (k : Blk) : Ext a (b.alloc k) := ⟨Nat.le_succ_of_le p.next, p.lim, fun i hi => by
  rw [get_alloc, gsel_ne (by have := p.next; omega)]; exact p.get i hi⟩
theorem Ext.put {a b : AH} (p : Ext a b) (i : Nat) (k : Blk) (hi : a.next ≤ i) : Ext a (b.put i k) := ⟨p.next, p.lim, fun j hj => by
  rw [get_put, gsel_ne (by omega)]; exact p.get j hj⟩
theorem Ext.kill {a b : AH} (p : Ext a b) (i : Nat) (hi : a.next ≤ i) : Ext a (b.kill i) := ⟨p.next, p.lim, fun j hj => by
  rw [get_kill, gsel_ne (by omega)]; exact p.get j hj⟩
theorem Ext.back {a b : AH} (p : Ext a.raise b) : Ext a (b.back a.lim) := ⟨p.next, rfl, p.get⟩
theorem Ext.then_back {a b c : AH} (p : Ext a b) (q : Ext b.raise c) : Ext a (c.back b.lim) := p.trans q.back

/-- A slice, and its elements. -/
def Sl (h : AH) (sz : Nat) (v : V) (R : List (List V)) : Prop := (v = .ns ∧ R = []) ∨ ∃ id el cap k, v = .sl id el R.length cap ∧ h.get id = some k ∧ k.sz = sz ∧ el + cap ≤ k.cs.length ∧ (k.cs.drop el).take R.length = R ∧ R.length ≤ cap ∧ id < h.next ∧ R.length < bigLen
theorem Sl.nil (h : AH) (sz : Nat) : Sl h sz .ns [] := .inl ⟨rfl, rfl⟩
theorem Sl.lt {h : AH} {sz : Nat} {v : V} {R : List (List V)} (s : Sl h sz v R) (hR : 0 < R.length) : idV v < h.next := by
  rcases s with ⟨rfl, rfl⟩ | ⟨id, el, cap, k, rfl, _, _, _, _, _, hlt, _⟩
  · simp at hR
  · exact hlt
theorem Sl.big {h : AH} {sz : Nat} {v : V} {R : List (List V)} (s : Sl h sz v R) : R.length < 4294967296 := by
  rcases s with ⟨rfl, rfl⟩ | ⟨id, el, cap, k, rfl, _, _, _, _, _, _, hb⟩
  · simp
  · simpa [bigLen] using hb
theorem Sl.same {h h' : AH} {sz : Nat} {v : V} {R : List (List V)} (s : Sl h sz v R) (hn : h.next ≤ h'.next) (hg : v ≠ .ns → idV v < h.next → h'.get (idV v) = h.get (idV v)) : Sl h' sz v R := by
  rcases s with ⟨rfl, rfl⟩ | ⟨id, el, cap, k, rfl, a, b, c, d, f, hlt, hb⟩
  · exact .inl ⟨rfl, rfl⟩
  · exact .inr ⟨id, el, cap, k, rfl, (hg (by intro hh; cases hh) hlt).trans a, b, c, d, f, Nat.lt_of_lt_of_le hlt hn, hb⟩
theorem Sl.ext {h h' : AH} {sz : Nat} {v : V} {R : List (List V)} (s : Sl h sz v R) (p : Ext h h') : Sl h' sz v R := s.same p.next (fun _ hl => p.get _ hl)
theorem Sl.len {h : AH} {sz : Nat} {v : V} {R : List (List V)} (s : Sl h sz v R) : lenV v = some (.i .i64 R.length) := by
  rcases s with ⟨rfl, rfl⟩ | ⟨id, el, cap, k, rfl, _⟩ <;> rfl

def csOf (h : AH) (v : V) : List (List V) := match h.get (idV v) with | some k => k.cs | none => []
def iad2 (g : Option Blk) (sz : Nat) (v i : V) : Option V := match v with
  | .sl id el len _ => if (match g with | some k => k.sz == sz | none => true) = true then (idxOf i len).map fun j => .p id (el + j) 0 else none
  | _ => none
theorem iadV_2 {sz : Nat} {h : AH} {v i : V} : iadV sz h v i = iad2 (h.get (idV v)) sz v i := by
  cases v <;> rfl
theorem Sl.get {h : AH} {sz : Nat} {v : V} {R : List (List V)} (s : Sl h sz v R) (hR : 0 < R.length) : h.get (idV v) = some ⟨sz, csOf h v⟩ := by
  rcases s with ⟨rfl, rfl⟩ | ⟨id, el, cap, k, rfl, a, rfl, _⟩
  · simp at hR
  · simp [csOf, idV, a]
theorem Sl.at_ {h : AH} {sz : Nat} {v : V} {R : List (List V)} (s : Sl h sz v R) {k : IntKind} {j : Int} {cs : List (List V)} (h0 : 0 ≤ j) (h1 : j < R.length) : iad2 (some ⟨sz, cs⟩) sz v (.i k j) = some (.p (idV v) (elV v + j.toNat) 0) := by
  rcases s with ⟨rfl, rfl⟩ | ⟨id, el, cap, k, rfl, a, rfl, _⟩
  · simp at h1; omega
  · simp [iad2, idxOf, h0, h1, idV, elV]
theorem Sl.row {h : AH} {sz : Nat} {v : V} {R : List (List V)} (s : Sl h sz v R) {j : Nat} (h1 : j < R.length) : (csOf h v)[elV v + j]? = some (nth R j) := by
  rcases s with ⟨rfl, rfl⟩ | ⟨id, el, cap, k, rfl, a, rfl, b, c, _⟩
  · simp at h1
  · simp only [csOf, idV, a, elV]
    rw [← nth_get h1]
    conv => rhs; rw [← c]
    rw [List.getElem?_take_of_lt h1, List.getElem?_drop]

/-- A slice of things of a kind. -/
def SlT {α : Type} (enc : α → List V) (h : AH) (sz : Nat) (v : V) (L : List α) : Prop := Sl h sz v (L.map enc)
structure SlF {α : Type} [Inhabited α] (enc : α → List V) (h : AH) (sz : Nat) (v : V) (L : List α) : Prop where
  len : lenV v = some (.i .i64 (L.length : Int))
  big : L.length < 4294967296
  lt : 0 < L.length → idV v < h.next
  get : 0 < L.length → h.get (idV v) = some ⟨sz, csOf h v⟩
  at_ : ∀ (k : IntKind) (j : Int) (cs : List (List V)), 0 ≤ j → j < L.length → iad2 (some ⟨sz, cs⟩) sz v (.i k j) = some (.p (idV v) (elV v + j.toNat) 0)
  row : ∀ (j : Nat), j < L.length → (csOf h v)[elV v + j]? = some (enc (nth L j))
theorem SlT.facts {α : Type} [Inhabited α] {enc : α → List V} {h : AH} {sz : Nat} {v : V} {L : List α} (s : SlT enc h sz v L) : SlF enc h sz v L := by
  refine ⟨by have := Sl.len s; simpa using this, by have := Sl.big s; simpa using this, fun hl => Sl.lt s (by simpa using hl), fun hl => Sl.get s (by simpa using hl), fun k j cs h0 h1 => Sl.at_ s h0 (by simpa using h1), fun j h1 => ?_⟩
  rw [Sl.row s (by simpa using h1), nth_eq (by simpa using h1), nth_eq h1, List.getElem_map]
theorem SlT.ext {α : Type} {enc : α → List V} {h h' : AH} {sz : Nat} {v : V} {L : List α} (s : SlT enc h sz v L) (p : Ext h h') : SlT enc h' sz v L := Sl.ext s p

/-! ### Growth -/
theorem overE_eq : ∀ (r : List (List V)) (i : Nat) (n : List (List V)), i + n.length ≤ r.length → overE r i n = r.take i ++ n ++ r.drop (i + n.length)
  | r, i, [], _ => by simp [overE]
  | r, i, c :: cs, h => by
    simp only [List.length_cons] at h
    rw [overE, overE_eq (r.set i c) (i + 1) cs (by simp; omega)]
    have hi : i < r.length := by omega
    rw [List.drop_set_of_lt (by omega)]
    have ht : (r.set i c).take (i + 1) = r.take i ++ [c] := by
      rw [List.take_add_one]
      simp [hi, List.take_set_of_le]
    rw [ht]
    simp only [List.append_assoc, List.singleton_append, List.length_cons]
    congr 3; omega

/-- What an append leaves: the new slice; all others as they were. -/
structure Grown (h : AH) (x : V) (v : V) (h' : AH) : Prop where
  next : h.next ≤ h'.next
  lim : h'.lim = h.lim
  get : ∀ i, i < h.next → (0 < (match x with | .sl .. => 1 | _ => 0) → i ≠ idV x) → h'.get i = h.get i
  own : v = .ns ∨ idV v = idV x ∧ (match x with | .sl .. => True | _ => False) ∨ idV v = h.next
theorem app_rule {sz : Nat} {h : AH} {x y : V} {R N : List (List V)} {K : V × AH → Prop} (sx : Sl h sz x R) (hl : 0 < R.length → h.lim ≤ idV x) (hx : x = .ns ∨ h.lim ≤ idV x) (hy : elems sz h y = some N) (hlen : R.length + N.length < 4294967296)
    (k : ∀ v h', Sl h' sz v (R ++ N) → Grown h x v h' → K (v, h')) : Wo (appV sz h x y) K := by
  unfold appV
  rw [hy, Option.bind_some]
  rcases sx with ⟨rfl, rfl⟩ | ⟨id, el, cap, b, rfl, hg, rfl, hle, hrow, hcap, hlt, hbig⟩
  · simp only
    split
    · rename_i hN
      subst hN
      exact ⟨_, rfl, k _ _ (.inl ⟨rfl, rfl⟩) ⟨Nat.le_refl _, rfl, fun _ _ _ => rfl, .inl rfl⟩⟩
    · rename_i hN
      rw [if_pos (by simp only [bigLen]; simpa using hlen)]
      refine ⟨_, rfl, k _ _ (.inr ⟨h.next, 0, N.length, ⟨sz, N⟩, ?_, ?_, rfl, ?_, ?_, ?_, ?_, ?_⟩) ⟨?_, rfl, ?_, .inr (.inr rfl)⟩⟩
      · simp
      · simp [AH.alloc]
      · simp
      · simp
      · simp
      · simp [AH.alloc]
      · simp only [bigLen]; simpa using hlen
      · simp [AH.alloc]
      · intro i hi _; rw [get_alloc, gsel_ne (by omega)]
  · simp only [hg]
    have hlim : h.lim ≤ id := by
      rcases hx with hx | hx
      · cases hx
      · exact hx
    rw [if_pos ⟨trivial, hlim, by omega, by simp only [bigLen]; exact hlen⟩]
    by_cases hc : R.length + N.length ≤ cap
    · rw [if_pos hc, if_pos (by omega)]
      have hov := overE_eq b.cs (el + R.length) N (by omega)
      refine ⟨_, rfl, k _ _ (.inr ⟨id, el, cap, ⟨b.sz, overE b.cs (el + R.length) N⟩, ?_, ?_, rfl, ?_, ?_, ?_, hlt, ?_⟩) ⟨Nat.le_refl _, rfl, ?_, .inr (.inl ⟨rfl, trivial⟩)⟩⟩
      · simp
      · rw [get_put, gsel_eq rfl]
      · rw [hov]; simp; omega
      · rw [hov]
        have e1 : (b.cs.take (el + R.length)).drop el = R := by rw [List.drop_take, Nat.add_sub_cancel_left]; exact hrow
        simp only [List.append_assoc]
        rw [List.drop_append_of_le_length (by simp; omega), e1, ← List.append_assoc, List.length_append, ← List.length_append, List.take_left]
      · simpa using hc
      · simp only [bigLen]; simpa using hlen
      · intro i hi hne
        rw [get_put, gsel_ne (by have := hne (by simp); simpa [idV] using this)]
    · rw [if_neg hc]
      refine ⟨_, rfl, k _ _ (.inr ⟨h.next, 0, R.length + N.length, ⟨b.sz, (b.cs.drop el).take R.length ++ N⟩, ?_, ?_, rfl, ?_, ?_, ?_, ?_, ?_⟩) ⟨?_, rfl, ?_, .inr (.inr rfl)⟩⟩
      · simp
      · rw [get_alloc, next_kill, gsel_eq rfl]
      · rw [hrow]; simp
      · rw [hrow, List.drop_zero, List.take_length]
      · simp
      · simp [AH.alloc, AH.kill]
      · simp only [bigLen]; simpa using hlen
      · simp [AH.alloc, AH.kill]
      · intro i hi hne
        rw [get_alloc, next_kill, gsel_ne (by omega), get_kill, gsel_ne (by have := hne (by simp); simpa [idV] using this)]
end Go.Ab
/- The rules, as a set. -/
namespace Go.Ab
open Go
attribute [go_sem ↓] WC_skip WC_ret WC_exit WC_reg WC_dreg WC_cond WC_block WC_seq WOps_nil WOps_one WOps_g WS_nil WS_bar WS_quiet WQ_nil WQ_one WQ_g Wb_true Wb_false Wg_skip Wg_tt Wg_tf Wg_ft Wg_ff nxt_nm nxt_rt nxt_ex Wo_bind Wo_map
attribute [go_sem] blk_nm blk_rt blk_ex Wo_none Wo_some Wv_go
attribute [go_sem ↓] W1_mv W1_pick W1_alloc W1_box W1_build W1_bsl W1_load W1_store W1_nck W1_bin W1_eq W1_un W1_conv W1_strs W1_mkif W1_mkfn W1_mksl W1_slice W1_sslice W1_fad W1_fld W1_iad W1_iada W1_idx W1_sidx W1_ext W1_app W1_len W1_slen W1_lenc W1_mn W1_mx W1_fn
attribute [go_sem ↓] Env.set_get
attribute [go_sem] Env.set_none X.ev_t X.ev_c X.ev_fn
attribute [go_sem] gsel_eq gsel_ne get_alloc get_put get_kill get_raise get_back next_alloc next_put next_kill next_raise next_back lim_alloc lim_put lim_kill lim_raise lim_back raise_back_alloc raise_back
attribute [go_sem] asB_b lenV_ns lenV_sl slenV_s ldV_p ld2_some Wst_p Wst2_ok nckV_p nckV_ifc nckV_f convV_i strsV_s Wmk_i fadV_p fldV_agg iadaV_p idxV_agg extV_tup calleeV_f iadV_2
attribute [go_sem] bin_add bin_sub bin_mul bin_quo bin_rem bin_and bin_or bin_eql bin_neq bin_lss bin_leq bin_gtr bin_geq un_not un_neg min_i max_i fold_nil fold_cons ndec adec odec idx_i bnd_none bnd_i cells_agg cells_i cells_b cells_s cells_sl cells_ns cells_p cells_np isCell_i isCell_b isCell_s isCell_sl isCell_ns isCell_p isCell_np w64 cut Wend_nm Wend_rt res_nil res_one res_two res_three idV_sl elV_sl idV_p
attribute [go_sem] List.length_cons List.length_nil List.getElem?_cons_zero List.getElem?_cons_succ List.getElem?_nil List.drop_zero List.drop_succ_cons List.drop_nil List.take_succ_cons List.take_zero List.take_nil List.map_cons List.map_nil List.all_cons List.all_nil List.set_cons_zero List.set_cons_succ List.cons_append List.nil_append List.append_nil
attribute [go_sem] Nat.zero_add Nat.add_zero and_true true_and decide_true decide_false not_true_eq_false not_false_eq_true Bool.not_true Bool.not_false Bool.and_true Bool.true_and Bool.and_false Bool.false_and Int.toNat_natCast Option.map_some Option.map_none Option.bind_some
theorem env0_get {l : List V} {j : Nat} : env0 l j = (l[j]?).getD .u := by simp [env0]
theorem over_nil {r : List V} {i : Nat} : over r i [] = r := nrfl rfl
theorem over_cons {r : List V} {i : Nat} {c : V} {cs : List V} : over r i (c :: cs) = over (r.set i c) (i + 1) cs := nrfl rfl
attribute [go_sem] env0_get Option.getD_some Option.getD_none over_nil over_cons
end Go.Ab
/- Rules for operations of a piece that draws its order. -/
namespace Go.Ab
open Go
set_option linter.unusedVariables false
set_option linter.unusedSimpArgs false
variable {tp : TP} {e : Env} {h : AH} {K : V → AH → Prop}
theorem WQ1_pure {o : O} (hp : isPure o = true) (ha : alive o (X.ev e) h = true) : WQ1 tp o e h K = W1 tp o e h K := by simp [WQ1, hp, ha]
theorem WQ1_not {o : O} (hp : isPure o = false) : WQ1 tp o e h K = W1 tp o e h.raise (fun v h' => K v (h'.back h.lim)) := by simp [WQ1, hp]
theorem WQ1_mv {x : X} : WQ1 tp (.mv x) e h K = W1 tp (.mv x) e h K := WQ1_pure rfl rfl
theorem WQ1_pick {a b c : X} : WQ1 tp (.pick a b c) e h K = W1 tp (.pick a b c) e h K := WQ1_pure rfl rfl
theorem WQ1_build {z : List V} {ps : List (Nat × Nat × X)} : WQ1 tp (.build z ps) e h K = W1 tp (.build z ps) e h K := WQ1_pure rfl rfl
theorem WQ1_nck {x : X} : WQ1 tp (.nck x) e h K = W1 tp (.nck x) e h K := WQ1_pure rfl rfl
theorem WQ1_bin {op : BinOp} {x y : X} : WQ1 tp (.bin op x y) e h K = W1 tp (.bin op x y) e h K := WQ1_pure rfl rfl
theorem WQ1_eq {n : Bool} {k : EK} {x y : X} : WQ1 tp (.eq n k x y) e h K = W1 tp (.eq n k x y) e h K := WQ1_pure rfl rfl
theorem WQ1_un {op : UnOp} {x : X} : WQ1 tp (.un op x) e h K = W1 tp (.un op x) e h K := WQ1_pure rfl rfl
theorem WQ1_conv {k : IntKind} {x : X} : WQ1 tp (.conv k x) e h K = W1 tp (.conv k x) e h K := WQ1_pure rfl rfl
theorem WQ1_strs {x : X} : WQ1 tp (.strs x) e h K = W1 tp (.strs x) e h K := WQ1_pure rfl rfl
theorem WQ1_i2s {x : X} : WQ1 tp (.i2s x) e h K = W1 tp (.i2s x) e h K := WQ1_pure rfl rfl
theorem WQ1_mkif {t : Nat} {x : X} : WQ1 tp (.mkif t x) e h K = W1 tp (.mkif t x) e h K := WQ1_pure rfl rfl
theorem WQ1_mkfn {f : Fn} {a c : List X} : WQ1 tp (.mkfn f a c) e h K = W1 tp (.mkfn f a c) e h K := WQ1_pure rfl rfl
theorem WQ1_sslice {x : X} {lo hi : Option X} : WQ1 tp (.sslice x lo hi) e h K = W1 tp (.sslice x lo hi) e h K := WQ1_pure rfl rfl
theorem WQ1_fad {o : Nat} {x : X} : WQ1 tp (.fad o x) e h K = W1 tp (.fad o x) e h K := WQ1_pure rfl rfl
theorem WQ1_fld {o n : Nat} {g : Bool} {x : X} : WQ1 tp (.fld o n g x) e h K = W1 tp (.fld o n g x) e h K := WQ1_pure rfl rfl
theorem WQ1_iada {s n : Nat} {x i : X} : WQ1 tp (.iada s n x i) e h K = W1 tp (.iada s n x i) e h K := WQ1_pure rfl rfl
theorem WQ1_idx {s n : Nat} {g : Bool} {x i : X} : WQ1 tp (.idx s n g x i) e h K = W1 tp (.idx s n g x i) e h K := WQ1_pure rfl rfl
theorem WQ1_sidx {x i : X} : WQ1 tp (.sidx x i) e h K = W1 tp (.sidx x i) e h K := WQ1_pure rfl rfl
theorem WQ1_ext {x : X} {i : Nat} : WQ1 tp (.ext x i) e h K = W1 tp (.ext x i) e h K := WQ1_pure rfl rfl
theorem WQ1_len {x : X} : WQ1 tp (.len x) e h K = W1 tp (.len x) e h K := WQ1_pure rfl rfl
theorem WQ1_slen {x : X} : WQ1 tp (.slen x) e h K = W1 tp (.slen x) e h K := WQ1_pure rfl rfl
theorem WQ1_lenc {n : Nat} : WQ1 tp (.lenc n) e h K = W1 tp (.lenc n) e h K := WQ1_pure rfl rfl
theorem WQ1_mn {l : List X} : WQ1 tp (.mn l) e h K = W1 tp (.mn l) e h K := WQ1_pure rfl rfl
theorem WQ1_mx {l : List X} : WQ1 tp (.mx l) e h K = W1 tp (.mx l) e h K := WQ1_pure rfl rfl
def iadQ (g : Option Blk) (sz : Nat) (v i : V) : Option V := match g with | some k => iad2 (some k) sz v i | none => none
theorem iadQ_some {k : Blk} {sz : Nat} {v i : V} : iadQ (some k) sz v i = iad2 (some k) sz v i := nrfl rfl
theorem WQ1_iad {sz : Nat} {x i : X} : WQ1 tp (.iad sz x i) e h K = Wo (iadQ (h.get (idV (x.ev e))) sz (x.ev e) (i.ev e)) (fun v => K v h) := by
  unfold WQ1
  rw [if_pos (show isPure (.iad sz x i) = true from rfl), W1_iad]
  simp only [alive, iadV_2]
  generalize x.ev e = v
  cases v with
  | sl id el len cap =>
    simp only [idV]
    cases hg : h.get id with
    | none => simp [iadQ, Wo_none]
    | some k => simp [iadQ]
  | _ =>
    simp only [true_and, idV]
    generalize h.get _ = g
    cases g <;> simp [iadQ, iad2, Wo_none]
theorem WQ1_load {n : Nat} {g : Bool} {x : X} : WQ1 tp (.load n g x) e h K = Wo (ldV h n g (x.ev e)) (fun v => K v h) := by
  rw [WQ1_not rfl, W1_load]
  have : ldV h.raise n g (x.ev e) = ldV h n g (x.ev e) := by cases x.ev e <;> rfl
  rw [this]; rfl
theorem WQ1_alloc {z : List V} : WQ1 tp (.alloc z) e h K = W1 tp (.alloc z) e h K := by
  rw [WQ1_not rfl, W1_alloc, W1_alloc]; rfl
theorem WQ1_box {x : X} : WQ1 tp (.box x) e h K = W1 tp (.box x) e h K := by
  rw [WQ1_not rfl, W1_box, W1_box]; rfl
theorem WQ1_bsl {sz n : Nat} {z : List V} {ps : List (Nat × X)} : WQ1 tp (.bsl sz z n ps) e h K = W1 tp (.bsl sz z n ps) e h K := by
  rw [WQ1_not rfl, W1_bsl, W1_bsl]; rfl
theorem WQ1_slice {sz : Nat} {x : X} {lo hi mx : Option X} : WQ1 tp (.slice sz x lo hi mx) e h K = W1 tp (.slice sz x lo hi mx) e h K := by
  rw [WQ1_not rfl, W1_slice, W1_slice]
  have : ∀ v a b c, sliceV sz h.raise v a b c = sliceV sz h v a b c := fun v a b c => by cases v <;> rfl
  rw [this]; rfl
theorem WQ1_app {sz : Nat} {x y : X} : WQ1 tp (.app sz x y) e h K = W1 tp (.app sz x y) e h.raise (fun v h' => K v (h'.back h.lim)) := WQ1_not rfl
theorem WQ1_mksl {z : List V} {x y : X} : WQ1 tp (.mksl z x y) e h K = W1 tp (.mksl z x y) e h.raise (fun v h' => K v (h'.back h.lim)) := WQ1_not rfl
theorem WQ1_store {n : Nat} {x y : X} : WQ1 tp (.store n x y) e h K = W1 tp (.store n x y) e h.raise (fun v h' => K v (h'.back h.lim)) := WQ1_not rfl
theorem WQ1_call {f : X} {l : List X} : WQ1 tp (.call f l) e h K = W1 tp (.call f l) e h.raise (fun v h' => K v (h'.back h.lim)) := WQ1_not rfl
theorem WQ1_inv {x : X} {m : String} {l : List X} : WQ1 tp (.inv x m l) e h K = W1 tp (.inv x m l) e h.raise (fun v h' => K v (h'.back h.lim)) := WQ1_not rfl
attribute [go_sem ↓] WQ1_mv WQ1_pick WQ1_build WQ1_nck WQ1_bin WQ1_eq WQ1_un WQ1_conv WQ1_strs WQ1_i2s WQ1_mkif WQ1_mkfn WQ1_sslice WQ1_fad WQ1_fld WQ1_iada WQ1_idx WQ1_sidx WQ1_ext WQ1_len WQ1_slen WQ1_lenc WQ1_mn WQ1_mx WQ1_iad WQ1_load WQ1_alloc WQ1_box WQ1_bsl WQ1_slice WQ1_app WQ1_mksl WQ1_store WQ1_call WQ1_inv
attribute [go_sem] Int.natCast_add Int.natCast_one Int.natCast_zero iadQ_some bin_rem bin_quo Int.add_sub_cancel Int.sub_add_cancel Nat.add_sub_cancel

/-- One block written over, all else as it was. -/
structure Upd (h : AH) (id : Nat) (k : Blk) (h' : AH) : Prop where
  next : h.next ≤ h'.next
  lim : h'.lim = h.lim
  here : h'.get id = some k
  get : ∀ i, i < h.next → i ≠ id → h'.get i = h.get i
theorem Upd.same {h : AH} {id : Nat} {k : Blk} (hg : h.get id = some k) : Upd h id k h := ⟨Nat.le_refl _, rfl, hg, fun _ _ _ => rfl⟩
theorem Upd.put {h : AH} {id : Nat} {k : Blk} : Upd h id k (h.put id k) := ⟨Nat.le_refl _, rfl, by rw [get_put, gsel_eq rfl], fun i _ hne => by rw [get_put, gsel_ne hne]⟩
theorem Upd.ext {h h1 h2 : AH} {id : Nat} {k : Blk} (u : Upd h id k h1) (hid : id < h.next) (x : Ext h1 h2) : Upd h id k h2 := ⟨Nat.le_trans u.next x.next, x.lim.trans u.lim, (x.get id (Nat.lt_of_lt_of_le hid u.next)).trans u.here, fun i hi hne => (x.get i (Nat.lt_of_lt_of_le hi u.next)).trans (u.get i hi hne)⟩
theorem Upd.trans {h h1 h2 : AH} {id : Nat} {k k' : Blk} (u : Upd h id k h1) (x : Upd h1 id k' h2) : Upd h id k' h2 := ⟨Nat.le_trans u.next x.next, x.lim.trans u.lim, x.here, fun i hi hne => (x.get i (Nat.lt_of_lt_of_le hi u.next) hne).trans (u.get i hi hne)⟩

/-- Behind an append of one. -/
structure App1 (h : AH) (x v : V) (h' : AH) : Prop where
  next : h.next ≤ h'.next
  lim : h'.lim = h.lim
  get : ∀ i, i < h.next → (x ≠ .ns → i ≠ idV x) → h'.get i = h.get i
  own : ∀ b, b ≤ h.next → (x = .ns ∨ b ≤ idV x) → b ≤ idV v
  cell : v.isCell = true
theorem app_one {sz : Nat} {h : AH} {x : V} {row : List V} {R : List (List V)} {K : V × AH → Prop} (sx : Sl h sz x R) (hx : x = .ns ∨ h.lim ≤ idV x) (hlen : R.length + 1 < 4294967296)
    (k : ∀ v h', Sl h' sz v (R ++ [row]) → App1 h x v h' → K (v, h')) : Wo (appV sz (h.alloc ⟨sz, [row]⟩) x (.sl h.next 0 1 1)) K := by
  have e : Ext h (h.alloc ⟨sz, [row]⟩) := (Ext.refl h).alloc _
  refine app_rule (R := R) (N := [row]) (Sl.ext sx e) (fun hR => ?_) (by rw [lim_alloc]; exact hx) ?_ (by simpa using hlen) ?_
  · rw [lim_alloc]
    rcases hx with rfl | hx
    · rcases sx with ⟨_, rfl⟩ | ⟨_, _, _, _, hh, _⟩
      · simp at hR
      · cases hh
    · exact hx
  · simp [elems, get_alloc, gsel]
  · intro v h' s g
    refine k v h' s ⟨by have := g.next; rw [next_alloc] at this; omega, by rw [g.lim, lim_alloc], fun i hi hne => ?_, fun b hb hxb => ?_, ?_⟩
    · rw [g.get i (by rw [next_alloc]; omega) (fun hp => hne (by rintro rfl; simp at hp)), get_alloc, gsel_ne (by omega)]
    · rcases s with ⟨rfl, hh⟩ | ⟨id, el, cap, kk, rfl, _⟩
      · simp at hh
      · rcases g.own with hh | ⟨hh, hns⟩ | hh
        · cases hh
        · rw [hh]
          rcases hxb with rfl | hxb
          · simp at hns
          · exact hxb
        · rw [hh, next_alloc]; omega
    · rcases s with ⟨rfl, hh⟩ | ⟨id, el, cap, kk, rfl, _⟩ <;> rfl

theorem idV_ns_lt {h : AH} {sz : Nat} {v : V} {R : List (List V)} (s : Sl h sz v R) (hv : v ≠ .ns) : idV v < h.next := by
  rcases s with ⟨rfl, rfl⟩ | ⟨id, el, cap, k, rfl, _, _, _, _, _, hlt, _⟩
  · exact absurd rfl hv
  · exact hlt
theorem Sl.cell {h : AH} {sz : Nat} {v : V} {R : List (List V)} (s : Sl h sz v R) : v.isCell = true := by
  rcases s with ⟨rfl, rfl⟩ | ⟨id, el, cap, k, rfl, _⟩ <;> rfl
theorem Sl.cells {h : AH} {sz : Nat} {v : V} {R : List (List V)} (s : Sl h sz v R) : v.cells = [v] := by
  rcases s with ⟨rfl, rfl⟩ | ⟨id, el, cap, k, rfl, _⟩ <;> rfl
/-- A part of a slice. -/
theorem slice_rule {sz : Nat} {h : AH} {v : V} {R : List (List V)} {lo hi : Option V} {l t : Nat} {K : V → Prop} (s : Sl h sz v R) (ht : bndOf hi R.length R.length = some t) (hl : bndOf lo 0 t = some l) (hlt : l ≤ t) (htR : t ≤ R.length)
    (k : ∀ v', Sl h sz v' ((R.drop l).take (t - l)) → (v' = .ns ↔ v = .ns) → (v' ≠ .ns → idV v' = idV v) → K v') : Wo (sliceV sz h v lo hi none) K := by
  rcases s with ⟨rfl, rfl⟩ | ⟨id, el, cap, b, rfl, hg, rfl, hc, hrow, hcap, hlt', hbig⟩
  · simp only [List.length_nil] at ht htR
    obtain rfl : t = 0 := by omega
    obtain rfl : l = 0 := by omega
    simp only [sliceV, Option.isNone_none, Bool.true_or, if_true]
    have h0 : bndOf hi 0 0 = some 0 := ht
    rw [show bndOf (none : Option V) 0 0 = some 0 from rfl]
    simp only [Option.bind_some, h0, hl, Option.map_some]
    exact ⟨_, rfl, k _ (.inl ⟨rfl, by simp⟩) ⟨fun _ => rfl, fun _ => rfl⟩ (fun hh => absurd rfl hh)⟩
  · simp only [sliceV, hg, Option.bind_some, Option.isNone_none, Bool.true_or]
    rw [if_pos ⟨trivial, trivial, hcap⟩]
    have h1 : bndOf hi R.length cap = some t := by
      cases hi with
      | none => simpa [bndOf] using ht
      | some w =>
        cases w <;> simp only [bndOf] at ht ⊢ <;> try (simp at ht; done)
        split at ht
        · rename_i hh; rw [if_pos (by omega)]; exact ht
        · simp at ht
    have h2 : bndOf (none : Option V) cap cap = some cap := rfl
    simp only [h2, Option.bind_some, h1, hl, Option.map_some]
    have hlen : ((R.drop l).take (t - l)).length = t - l := by simp; omega
    refine ⟨_, rfl, k _ (.inr ⟨id, el + l, cap - l, b, by rw [hlen], hg, rfl, by omega, ?_, by rw [hlen]; omega, hlt', by rw [hlen]; simp only [bigLen] at hbig ⊢; omega⟩) ⟨fun hh => (by cases hh), fun hh => (by cases hh)⟩ (fun _ => rfl)⟩
    rw [hlen]
    conv => rhs; rw [← hrow]
    rw [List.drop_take, List.drop_drop, List.take_take]
    congr 1; omega
theorem clip_rule {sz : Nat} {h : AH} {v : V} {R : List (List V)} {k1 k2 : IntKind} {K : V → Prop} (s : Sl h sz v R)
    (k : ∀ v', Sl h sz v' R → (v' = .ns ↔ v = .ns) → (v' ≠ .ns → idV v' = idV v) → K v') : Wo (sliceV sz h v none (some (.i k1 R.length)) (some (.i k2 R.length))) K := by
  rcases s with ⟨rfl, rfl⟩ | ⟨id, el, cap, b, rfl, hg, rfl, hc, hrow, hcap, hlt', hbig⟩
  · exact ⟨_, rfl, k _ (.inl ⟨rfl, rfl⟩) ⟨fun _ => rfl, fun _ => rfl⟩ (fun hh => absurd rfl hh)⟩
  · simp only [sliceV, hg, Option.bind_some, Option.isSome_some, Bool.or_true]
    rw [if_pos ⟨trivial, trivial, hcap⟩]
    rw [bnd_i (by omega) (by omega)]
    simp only [Option.bind_some, Int.toNat_natCast]
    rw [bnd_i (by omega) (by omega)]
    simp only [Option.bind_some, Int.toNat_natCast, bnd_none, Option.map_some]
    refine ⟨_, rfl, k _ (.inr ⟨id, el, R.length, b, ?_, hg, rfl, by omega, hrow, Nat.le_refl _, hlt', hbig⟩) ⟨fun hh => (by cases hh), fun hh => (by cases hh)⟩ (fun _ => rfl)⟩
    simp

theorem Sl.store {sz : Nat} {h : AH} {v : V} {R : List (List V)} {j : Nat} {r : List V} (s : Sl h sz v R) (hj : j < R.length) : Sl (h.put (idV v) ⟨sz, (csOf h v).set (elV v + j) r⟩) sz v (R.set j r) := by
  rcases s with ⟨rfl, rfl⟩ | ⟨id, el, cap, b, rfl, hg, rfl, hc, hrow, hcap, hlt', hbig⟩
  · simp at hj
  · refine .inr ⟨id, el, cap, ⟨b.sz, b.cs.set (el + j) r⟩, by simp, ?_, rfl, by simpa using hc, ?_, by simpa using hcap, hlt', by simpa using hbig⟩
    · simp only [idV, elV, csOf, hg, get_put]; rw [gsel_eq rfl]
    · simp only [List.length_set]
      rw [List.drop_set, if_neg (by omega), Nat.add_sub_cancel_left, List.take_set, hrow]
theorem Ext.rb {a b : AH} {l : Nat} (p : Ext a b) (hl : a.lim = l) : Ext a (b.raise.back l) := ⟨p.next, hl.symm, p.get⟩
theorem csOf_same {h h' : AH} {v : V} (hg : h'.get (idV v) = h.get (idV v)) : csOf h' v = csOf h v := by simp only [csOf, hg]
def nilB : V → Bool | .ns => true | _ => false
theorem Sl.isnil {h : AH} {sz : Nat} {v : V} {R : List (List V)} (s : Sl h sz v R) : eqV .sl v .ns = some (nilB v) := by
  rcases s with ⟨rfl, rfl⟩ | ⟨id, el, cap, k, rfl, _⟩ <;> rfl
theorem Sl.ofnil {h : AH} {sz : Nat} {v : V} {R : List (List V)} (s : Sl h sz v R) (hn : nilB v = true) : v = .ns ∧ R = [] := by
  rcases s with ⟨rfl, rfl⟩ | ⟨id, el, cap, k, rfl, _⟩
  · exact ⟨rfl, rfl⟩
  · cases hn
theorem Sl.elems {h : AH} {sz : Nat} {v : V} {R : List (List V)} (s : Sl h sz v R) : Go.Ab.elems sz h v = some R := by
  rcases s with ⟨rfl, rfl⟩ | ⟨id, el, cap, k, rfl, hg, rfl, hc, hrow, hcap, _⟩
  · rfl
  · simp only [Go.Ab.elems, hg]
    rw [if_pos ⟨trivial, by omega⟩, hrow]
theorem Sl.of_get {sz : Nat} {h h' : AH} {v : V} {R : List (List V)} {j : Nat} {r : List V} (s : Sl h sz v R) (hj : j < R.length) (hn : h.next ≤ h'.next) (hg : h'.get (idV v) = some ⟨sz, (csOf h v).set (elV v + j) r⟩) : Sl h' sz v (R.set j r) := by
  have s2 := Sl.store (r := r) s hj
  exact Sl.same s2 hn (fun _ _ => by rw [hg, get_put, gsel_eq rfl])
theorem Sl.rowlt {sz : Nat} {h : AH} {v : V} {R : List (List V)} {j : Nat} (s : Sl h sz v R) (hj : j < R.length) : elV v + j < (csOf h v).length := by
  rcases s with ⟨rfl, rfl⟩ | ⟨id, el, cap, b, rfl, hg, rfl, hc, hrow, hcap, hlt', hbig⟩
  · simp at hj
  · simp only [elV, csOf, idV, hg]; omega
theorem get_set_self {α : Type} {l : List α} {i : Nat} {a : α} (h : i < l.length) : (l.set i a)[i]? = some a := by simp [h]
end Go.Ab
/- More rules: prefixes of slices. -/
namespace Go.Ab
open Go
set_option linter.unusedVariables false
set_option linter.unusedSimpArgs false
def slc2 (g : Option Blk) (sz : Nat) (x : V) (lo hi mx : Option V) : Option V := match x with
    | .ns => if mx.isNone || hi.isSome then (bndOf mx 0 0).bind fun m => (bndOf hi 0 m).bind fun t => (bndOf lo 0 t).map fun _ => .ns else none
    | .sl id el len cap =>
      g.bind fun k =>
        if k.sz = sz ∧ (mx.isNone || hi.isSome) = true ∧ len ≤ cap then
          (bndOf mx cap cap).bind fun m => (bndOf hi len m).bind fun t => (bndOf lo 0 t).map fun l => .sl id (el + l) (t - l) (m - l)
        else none
    | _ => none
theorem slc_2 {sz : Nat} {h : AH} {v : V} {lo hi mx : Option V} : sliceV sz h v lo hi mx = slc2 (h.get (idV v)) sz v lo hi mx := by
  cases v <;> rfl
/-- The first n of a slice. -/
def trunc (v : V) (n : Nat) : V := match v with | .sl id el _ cap => .sl id el n cap | v => v
theorem idV_trunc {v : V} {n : Nat} : idV (trunc v n) = idV v := by cases v <;> rfl
theorem elV_trunc {v : V} {n : Nat} : elV (trunc v n) = elV v := by cases v <;> rfl
theorem cells_trunc {v : V} {n : Nat} (h : v.cells = [v]) : (trunc v n).cells = [trunc v n] := by cases v <;> first | rfl | (simp [trunc]; exact h)
theorem isCell_trunc {v : V} {n : Nat} : (trunc v n).isCell = v.isCell := by cases v <;> rfl
theorem Sl.pre {h : AH} {sz : Nat} {v : V} {R : List (List V)} (s : Sl h sz v R) {k : IntKind} {j : Int} {cs : List (List V)} (h0 : 0 ≤ j) (h1 : j ≤ R.length) : slc2 (some ⟨sz, cs⟩) sz v none (some (.i k j)) none = some (trunc v j.toNat) := by
  rcases s with ⟨rfl, rfl⟩ | ⟨id, el, cap, b, rfl, a, rfl, _, _, hc, _⟩
  · simp at h1
    obtain rfl : j = 0 := by omega
    simp [slc2, bndOf, trunc]
  · have h2 : j ≤ cap := by omega
    simp [slc2, bndOf, trunc, h0, h2, hc]
theorem Sl.truncd {h : AH} {sz : Nat} {v : V} {R : List (List V)} (s : Sl h sz v R) {n : Nat} (hn : n ≤ R.length) : Sl h sz (trunc v n) (R.take n) := by
  rcases s with ⟨rfl, rfl⟩ | ⟨id, el, cap, b, rfl, a, rfl, c, d, hc, hlt, hb⟩
  · exact .inl ⟨rfl, by simp⟩
  · refine .inr ⟨id, el, cap, b, ?_, a, rfl, c, ?_, ?_, hlt, ?_⟩
    · simp [trunc]; omega
    · have : (R.take n).length = n := by simp; omega
      rw [this]; conv => rhs; rw [← d]
      rw [List.take_take]; congr 1; omega
    · simp; omega
    · simp [bigLen] at hb ⊢; omega
theorem SlT.pre {α : Type} {enc : α → List V} {h : AH} {sz : Nat} {v : V} {L : List α} (s : SlT enc h sz v L) : ∀ (k : IntKind) (j : Int) (cs : List (List V)), 0 ≤ j → j ≤ L.length → slc2 (some ⟨sz, cs⟩) sz v none (some (.i k j)) none = some (trunc v j.toNat) := fun k j cs h0 h1 => Sl.pre s h0 (by simpa using h1)
theorem SlT.truncd {α : Type} {enc : α → List V} {h : AH} {sz : Nat} {v : V} {L : List α} (s : SlT enc h sz v L) {n : Nat} (hn : n ≤ L.length) : SlT enc h sz (trunc v n) (L.take n) := by
  have := Sl.truncd s (n := n) (by simpa using hn)
  simpa [SlT, List.map_take] using this
theorem SlT.rowlt {α : Type} {enc : α → List V} {h : AH} {sz : Nat} {v : V} {L : List α} (s : SlT enc h sz v L) {j : Nat} (hj : j < L.length) : elV v + j < (csOf h v).length := Sl.rowlt s (by simpa using hj)
/-- An element written over, as the block shows it. -/
theorem SlT.of_get {α : Type} {enc : α → List V} {sz : Nat} {h h' : AH} {v : V} {L : List α} {j : Nat} {x : α} (s : SlT enc h sz v L) (hj : j < L.length) (hn : h.next ≤ h'.next) (hg : h'.get (idV v) = some ⟨sz, (csOf h v).set (elV v + j) (enc x)⟩) : SlT enc h' sz v (L.set j x) := by
  have := Sl.of_get (r := enc x) s (j := j) (by simpa using hj) hn hg
  simpa [SlT, List.map_set] using this
theorem csOf_trunc {h : AH} {v : V} {n : Nat} : csOf h (trunc v n) = csOf h v := by cases v <;> rfl
theorem put_put {h : AH} {i : Nat} {a b : Blk} : (h.put i a).put i b = h.put i b := by
  unfold AH.put
  congr 1
  funext j
  simp only
  split <;> rfl
attribute [go_sem] put_put csOf_trunc idV_trunc elV_trunc isCell_trunc
/-- Behind an append of one: whose block it is. -/
structure App2 (h : AH) (x v : V) (h' : AH) : Prop where
  next : h.next ≤ h'.next
  lim : h'.lim = h.lim
  get : ∀ i, i < h.next → (x = .ns ∨ i ≠ idV x) → h'.get i = h.get i
  own : (x ≠ .ns ∧ idV v = idV x) ∨ h.next ≤ idV v
  ne : v ≠ .ns
  cell : v.isCell = true
  cells : v.cells = [v]
theorem app_two {sz : Nat} {h : AH} {x : V} {row : List V} {R : List (List V)} {K : V × AH → Prop} (sx : Sl h sz x R) (hx : x = .ns ∨ h.lim ≤ idV x) (hlen : R.length + 1 < 4294967296)
    (k : ∀ v h', Sl h' sz v (R ++ [row]) → App2 h x v h' → K (v, h')) : Wo (appV sz (h.alloc ⟨sz, [row]⟩) x (.sl h.next 0 1 1)) K := by
  have e : Ext h (h.alloc ⟨sz, [row]⟩) := (Ext.refl h).alloc _
  refine app_rule (R := R) (N := [row]) (Sl.ext sx e) (fun hR => ?_) (by rw [lim_alloc]; exact hx) ?_ (by simpa using hlen) ?_
  · rw [lim_alloc]
    rcases hx with rfl | hx
    · rcases sx with ⟨_, rfl⟩ | ⟨_, _, _, _, hh, _⟩
      · simp at hR
      · cases hh
    · exact hx
  · simp [elems, get_alloc, gsel]
  · intro v h' s g
    have hv : v ≠ .ns := by
      rintro rfl
      rcases s with ⟨_, hh⟩ | ⟨_, _, _, _, hh, _⟩
      · simp at hh
      · cases hh
    refine k v h' s ⟨by have := g.next; rw [next_alloc] at this; omega, by rw [g.lim, lim_alloc], fun i hi hne => ?_, ?_, hv, s.cell, s.cells⟩
    · rw [g.get i (by rw [next_alloc]; omega) (fun hp => ?_), get_alloc, gsel_ne (by omega)]
      rcases hne with rfl | hne
      · simp at hp
      · exact hne
    · rcases g.own with hh | ⟨hh, hns⟩ | hh
      · exact absurd hh hv
      · refine .inl ⟨?_, hh⟩
        rintro rfl
        simp at hns
      · exact .inr (by rw [hh, next_alloc]; omega)
/-- Behind an append of many. -/
structure AppN (h : AH) (x v : V) (h' : AH) : Prop where
  next : h.next ≤ h'.next
  lim : h'.lim = h.lim
  get : ∀ i, i < h.next → (x = .ns ∨ i ≠ idV x) → h'.get i = h.get i
  own : v = .ns ∨ (x ≠ .ns ∧ idV v = idV x) ∨ h.next ≤ idV v
  cell : v.isCell = true
  cells : v.cells = [v]
theorem app_many {sz : Nat} {h : AH} {x y : V} {R N : List (List V)} {K : V × AH → Prop} (sx : Sl h sz x R) (sy : Sl h sz y N) (hx : x = .ns ∨ h.lim ≤ idV x) (hlen : R.length + N.length < 4294967296)
    (k : ∀ v h', Sl h' sz v (R ++ N) → AppN h x v h' → K (v, h')) : Wo (appV sz h x y) K := by
  refine app_rule sx (fun hR => ?_) hx sy.elems hlen ?_
  · rcases hx with rfl | hx
    · rcases sx with ⟨_, rfl⟩ | ⟨_, _, _, _, hh, _⟩
      · simp at hR
      · cases hh
    · exact hx
  · intro v h' s g
    refine k v h' s ⟨g.next, g.lim, fun i hi hne => g.get i hi (fun hp => ?_), ?_, s.cell, s.cells⟩
    · rcases hne with rfl | hne
      · simp at hp
      · exact hne
    · rcases g.own with hh | ⟨hh, hns⟩ | hh
      · exact .inl hh
      · refine .inr (.inl ⟨?_, hh⟩)
        rintro rfl
        simp at hns
      · exact .inr (.inr (by omega))
end Go.Ab
/- From a call's arguments, as the form reads them, to an abstract heap. -/
namespace Go.Ab
open Go Go.RowKit
set_option linter.unusedVariables false
set_option linter.unusedSimpArgs false

/-! ### Shapes of arguments -/
mutual
inductive Sh where
  | b
  | i (k : IntKind)
  | s
  | sl (e : Sh)
  | agg (l : ShL)
inductive ShL where
  | nil
  | cons (x : Sh) (l : ShL)
end
mutual
def Sh.size : Sh → Nat
  | .b | .i _ | .s | .sl _ => 1
  | .agg l => l.size
def ShL.size : ShL → Nat
  | .nil => 0
  | .cons x l => x.size + l.size
end
def ShL.rep (x : Sh) : Nat → ShL
  | 0 => .nil
  | n + 1 => .cons x (ShL.rep x n)
theorem ShL.rep_size (x : Sh) : ∀ n, (ShL.rep x n).size = n * x.size
  | 0 => by simp [ShL.rep, ShL.size]
  | n + 1 => by simp [ShL.rep, ShL.size, ShL.rep_size x n, Nat.succ_mul]; omega
mutual
inductive ShT (P : Program) : TypeId → Sh → Prop where
  | b (t : TypeId) : P.underlying t = some .bool → ShT P t .b
  | i (t : TypeId) (k : IntKind) : P.underlying t = some (.int k) → ShT P t (.i k)
  | s (t : TypeId) : P.underlying t = some .string → ShT P t .s
  | sl (t e : TypeId) (x : Sh) : P.underlying t = some (.slice e) → ShT P e x → P.cellsOf e = x.size → 0 < x.size → ShT P t (.sl x)
  | agg (t : TypeId) (fs : Array Field) (l : ShL) : P.underlying t = some (.struct fs) → ShF P fs.toList 0 l → P.cellsOf t = l.size → ShT P t (.agg l)
  | arr (t e : TypeId) (n : Nat) (x : Sh) : P.underlying t = some (.array n e) → ShT P e x → P.cellsOf e = x.size → P.cellsOf t = n * x.size → ShT P t (.agg (ShL.rep x n))
inductive ShF (P : Program) : List Field → Nat → ShL → Prop where
  | nil (o : Nat) : ShF P [] o .nil
  | cons (f : Field) (fs : List Field) (o : Nat) (x : Sh) (l : ShL) : f.offset = o → ShT P f.type x → P.cellsOf f.type = x.size → ShF P fs (o + x.size) l → ShF P (f :: fs) o (.cons x l)
end

section
variable {H : Type}
mutual
/-- Data, and the cells that hold it. -/
def DV (h : AH) : Sh → DataW H → List V → Prop
  | .b, d, vs => ∃ x, d = .lit (.bool x) ∧ vs = [.b x]
  | .i k, d, vs => ∃ n, d = .lit (.int k n) ∧ (Lit.int k n).wf = true ∧ vs = [.i k n]
  | .s, d, vs => ∃ x : ByteArray, d = .lit (.string x.data.toList) ∧ x.size ≤ maxLen ∧ vs = [.s x]
  | .sl e, d, vs => (d = .nil ∧ vs = [.ns]) ∨ ∃ (elems spare : List (DataW H)) (id : Nat) (rows : List (List V)), d = .slice elems spare ∧ vs = [.sl id 0 elems.length elems.length] ∧ h.get id = some ⟨e.size, rows⟩ ∧ id < h.next ∧ rows.length = elems.length ∧ elems.length < bigLen ∧ ∀ (j : Nat) (x : DataW H) (r : List V), elems[j]? = some x → rows[j]? = some r → DV h e x r
  | .agg l, d, vs => ∃ ds, d = .agg ds ∧ DVs h l ds vs
def DVs (h : AH) : ShL → List (DataW H) → List V → Prop
  | .nil, ds, vs => ds = [] ∧ vs = []
  | .cons x l, ds, vs => ∃ d ds' v1 v2, ds = d :: ds' ∧ vs = v1 ++ v2 ∧ DV h x d v1 ∧ DVs h l ds' v2
end
mutual
/-- No slice is longer than the abstract machine bears. -/
def Sml : Sh → DataW H → Prop
  | .sl e, d => ∀ elems spare, d = .slice elems spare → elems.length < bigLen ∧ ∀ x ∈ elems, Sml e x
  | .agg l, d => ∀ ds, d = .agg ds → Smls l ds
  | .b, _ | .i _, _ | .s, _ => True
def Smls : ShL → List (DataW H) → Prop
  | .nil, _ => True
  | .cons x l, ds => ∀ d ds', ds = d :: ds' → Sml x d ∧ Smls l ds'
end

/-- The heap grew; all that was there is as it was. -/
structure Gr (M M' : Mp) (h h' : AH) : Prop where
  keeps : Keeps M M' h h'
  get : ∀ id, id < h.next → h'.get id = h.get id
theorem Gr.refl (M : Mp) (h : AH) : Gr M M h h := ⟨Keeps.refl M h, fun _ _ => rfl⟩
theorem Gr.trans {M M1 M2 : Mp} {h h1 h2 : AH} (a : Gr M M1 h h1) (b : Gr M1 M2 h1 h2) : Gr M M2 h h2 :=
  ⟨a.keeps.trans b.keeps, fun id hi => (b.get id (Nat.lt_of_lt_of_le hi a.keeps.next)).trans (a.get id hi)⟩
mutual
theorem DV.grow {M M' : Mp} {h h' : AH} (g : Gr M M' h h') : ∀ (sh : Sh) (d : DataW H) (vs : List V), DV h sh d vs → DV h' sh d vs
  | .b, d, vs, k => by simp only [DV] at k ⊢; exact k
  | .i _, d, vs, k => by simp only [DV] at k ⊢; exact k
  | .s, d, vs, k => by simp only [DV] at k ⊢; exact k
  | .sl e, d, vs, k => by
    simp only [DV] at k ⊢
    rcases k with k | ⟨elems, spare, id, rows, a, b, c, d, e1, f, g1⟩
    · exact .inl k
    · exact .inr ⟨elems, spare, id, rows, a, b, (g.get id d).trans c, Nat.lt_of_lt_of_le d g.keeps.next, e1, f, fun j x r hx hr => DV.grow g e x r (g1 j x r hx hr)⟩
  | .agg l, d, vs, k => by
    simp only [DV] at k ⊢
    obtain ⟨ds, a, b⟩ := k
    exact ⟨ds, a, DVs.grow g l ds vs b⟩
theorem DVs.grow {M M' : Mp} {h h' : AH} (g : Gr M M' h h') : ∀ (l : ShL) (ds : List (DataW H)) (vs : List V), DVs h l ds vs → DVs h' l ds vs
  | .nil, ds, vs, k => by simp only [DVs] at k ⊢; exact k
  | .cons x l, ds, vs, k => by
    simp only [DVs] at k ⊢
    obtain ⟨d, ds', v1, v2, a, b, c, e⟩ := k
    exact ⟨d, ds', v1, v2, a, b, DV.grow g x d v1 c, DVs.grow g l ds' v2 e⟩
end
/-- A heap of what came in: nothing in it is the call's own. -/
structure In (M : Mp) (w : World) (h : AH) : Prop where
  cells : ∀ id k m, h.get id = some k → M id = some m → m.b < w.heap.size ∧ CellsAt M h w m k
  own : ∀ id m, M id = some m → m.own = false
  fresh : ∀ id, h.live id → id < h.next
  lim : h.lim = h.next
theorem In.sim {M : Mp} {w : World} {h : AH} (i : In M w h) : Sim M w.heap.size w h := by
  refine ⟨i.cells, fun id m hl hm ho => ?_, fun id m hl hm hli => ?_, fun id id' m m' _ _ hm _ _ ho => ?_, i.fresh, by rw [i.lim]; exact Nat.le_refl _, Nat.le_refl _⟩
  · rw [i.own id m hm] at ho; cases ho
  · have := i.fresh id hl; have := i.lim; omega
  · rw [i.own id m hm] at ho; cases ho
def AH.give (h : AH) (k : Blk) : AH := { get := fun j => if j = h.next then some k else h.get j, next := h.next + 1, lim := h.next + 1 }
def mput (M : Mp) (id : Nat) (m : MI) : Mp := fun j => if j = id then some m else M j
theorem give_gr {M : Mp} {h : AH} {k : Blk} {m : MI} (hf : ∀ id, h.live id → id < h.next) : Gr M (mput M h.next m) h (h.give k) := by
  refine ⟨⟨by simp [AH.give], fun id hi hl => ?_, fun id hi hl => ?_⟩, fun id hi => ?_⟩
  · have : (h.give k).get id = h.get id := by simp only [AH.give]; rw [if_neg (by omega)]
    rw [AH.live, this] at hl; exact hl
  · simp only [mput]; rw [if_neg (by omega)]
  · simp only [AH.give]; rw [if_neg (by omega)]
theorem In.give {M : Mp} {w : World} {h : AH} {k : Blk} {m : MI} (i : In M w h) (hb : m.b < w.heap.size) (ho : m.own = false) (hc : CellsAt M h w m k) : In (mput M h.next m) w (h.give k) := by
  have g := give_gr (M := M) (k := k) (m := m) i.fresh
  refine ⟨fun id k' m' hk hm => ?_, fun id m' hm => ?_, fun id hl => ?_, rfl⟩
  · simp only [AH.give, mput] at hk hm
    by_cases hid : id = h.next
    · rw [if_pos hid] at hk hm
      cases hk; cases hm
      exact ⟨hb, CellsAt.keep g.keeps rfl hc⟩
    · rw [if_neg hid] at hk hm
      exact ⟨(i.cells id k' m' hk hm).1, CellsAt.keep g.keeps rfl (i.cells id k' m' hk hm).2⟩
  · simp only [mput] at hm
    split at hm
    · cases hm; exact ho
    · exact i.own id m' hm
  · by_cases hid : id = h.next
    · subst hid; simp [AH.give]
    · have : (h.give k).get id = h.get id := by simp only [AH.give]; rw [if_neg hid]
      rw [AH.live, this] at hl
      have := i.fresh id hl
      simp only [AH.give]; omega

variable {P : Program} {w : World} {enc : TypeId × Value → H} {spare : Nat → Bool}
/-- What opening data gives. -/
def Took (M : Mp) (w : World) (h : AH) (sh : Sh) (d : DataW H) (cs : List Value) : Prop :=
  ∃ (M' : Mp) (h' : AH) (vs : List V), In M' w h' ∧ Gr M M' h h' ∧ VRs M' h' vs cs ∧ DV h' sh d vs ∧ (∀ v ∈ vs, v.isCell = true)
def TookL (M : Mp) (w : World) (h : AH) (l : ShL) (ds : List (DataW H)) (cs : List Value) : Prop :=
  ∃ (M' : Mp) (h' : AH) (vs : List V), In M' w h' ∧ Gr M M' h h' ∧ VRs M' h' vs cs ∧ DVs h' l ds vs ∧ (∀ v ∈ vs, v.isCell = true)
/-- Rows, one behind the other. -/
theorem take_rows {e : Sh} (ih : ∀ (cs : List Value) (d : DataW H) (M : Mp) (h : AH), (∃ fuel t ps, ShT P t e ∧ DataW.trod enc P w 0 spare true fuel t cs = some (d, ps)) → In M w h → Sml e d → Took M w h e d cs) :
    ∀ (l : List (List Value × DataW H)) (M : Mp) (h : AH), In M w h → (∀ q ∈ l, (∃ fuel t ps, ShT P t e ∧ DataW.trod enc P w 0 spare true fuel t q.1 = some (q.2, ps)) ∧ Sml e q.2) →
      ∃ (M' : Mp) (h' : AH) (rows : List (List V)), In M' w h' ∧ Gr M M' h h' ∧ rows.length = l.length ∧ ∀ (j : Nat) (q : List Value × DataW H) (r : List V), l[j]? = some q → rows[j]? = some r → VRs M' h' r q.1 ∧ DV h' e q.2 r ∧ (∀ v ∈ r, v.isCell = true)
  | [], M, h, hi, _ => ⟨M, h, [], hi, Gr.refl M h, rfl, fun j q r hq => by simp at hq⟩
  | q :: l, M, h, hi, hq => by
    obtain ⟨M1, h1, vs, i1, g1, v1, d1, c1⟩ := ih q.1 q.2 M h (hq q (List.mem_cons_self ..)).1 hi (hq q (List.mem_cons_self ..)).2
    obtain ⟨M2, h2, rows, i2, g2, l2, a2⟩ := take_rows ih l M1 h1 i1 (fun x hx => hq x (List.mem_cons_of_mem _ hx))
    refine ⟨M2, h2, vs :: rows, i2, g1.trans g2, by simp [l2], fun j x r hx hr => ?_⟩
    cases j with
    | zero =>
      simp at hx hr; subst hx; subst hr
      exact ⟨v1.keep g2.keeps, d1.grow g2, c1⟩
    | succ j => exact a2 j x r (by simpa using hx) (by simpa using hr)
/-- A shape's parts, and what is read of each. -/
def Al (P : Program) (w : World) (enc : TypeId × Value → H) (spare : Nat → Bool) : ShL → List (List Value × DataW H) → Prop
  | .nil, q => q = []
  | .cons x l, q => ∃ p q', q = p :: q' ∧ (∃ fuel t ps, ShT P t x ∧ DataW.trod enc P w 0 spare true fuel t p.1 = some (p.2, ps)) ∧ Al P w enc spare l q'
theorem al_struct {n : Nat} {cs : List Value} : ∀ (fs : List Field) (o : Nat) (l : ShL) (xs : List (DataW H × List MemPlace)), ShF P fs o l → xs.length = fs.length → (∀ (i : Nat) (f : Field), fs[i]? = some f → DataW.trod enc P w 0 spare true n f.type ((cs.drop f.offset).take (P.cellsOf f.type)) = xs[i]?) →
    ∃ q, Al P w enc spare l q ∧ q.map (·.2) = xs.map (·.1) ∧ (q.map (·.1)).flatten = (cs.drop o).take l.size
  | [], o, _, xs, .nil _, hl, ha => by
    have : xs = [] := List.length_eq_zero_iff.1 hl
    subst this
    exact ⟨[], rfl, rfl, by simp [ShL.size]⟩
  | f :: fs, o, _, xs, .cons _ _ _ x l hf ht hc hr, hl, ha => by
    match xs, hl, ha with
    | y :: ys, hl, ha =>
      obtain ⟨q, q1, q2, q3⟩ := al_struct (n := n) (cs := cs) fs (o + x.size) l ys hr (by simpa using hl) (fun i g hg => by simpa using ha (i + 1) g (by simpa using hg))
      have h0 := ha 0 f rfl
      simp only [List.getElem?_cons_zero] at h0
      refine ⟨((cs.drop f.offset).take (P.cellsOf f.type), y.1) :: q, ⟨_, q, rfl, ⟨n, f.type, y.2, ht, h0⟩, q1⟩, by simp [q2], ?_⟩
      simp only [List.map_cons, List.flatten_cons, q3, hf, hc, ShL.size]
      rw [← List.drop_drop, List.take_add]
theorem al_array {n : Nat} {e : TypeId} {x : Sh} {cs : List Value} (ht : ShT P e x) (hc : P.cellsOf e = x.size) : ∀ (m i : Nat) (xs : List (DataW H × List MemPlace)), xs.length = m → (∀ j, j < m → DataW.trod enc P w 0 spare true n e ((cs.drop ((i + j) * P.cellsOf e)).take (P.cellsOf e)) = xs[j]?) →
    ∃ q, Al P w enc spare (ShL.rep x m) q ∧ q.map (·.2) = xs.map (·.1) ∧ (q.map (·.1)).flatten = (cs.drop (i * x.size)).take (m * x.size)
  | 0, i, xs, hl, ha => by
    have : xs = [] := List.length_eq_zero_iff.1 hl
    subst this
    exact ⟨[], rfl, rfl, by simp⟩
  | m + 1, i, xs, hl, ha => by
    match xs, hl, ha with
    | y :: ys, hl, ha =>
      obtain ⟨q, q1, q2, q3⟩ := al_array ht hc m (i + 1) ys (by simpa using hl) (fun j hj => by
        have := ha (j + 1) (by omega)
        simp only [List.getElem?_cons_succ] at this
        rw [← this, show i + (j + 1) = i + 1 + j by omega])
      have h0 := ha 0 (by omega)
      simp only [List.getElem?_cons_zero, Nat.add_zero] at h0
      refine ⟨((cs.drop (i * P.cellsOf e)).take (P.cellsOf e), y.1) :: q, ⟨_, q, rfl, ⟨n, e, y.2, ht, h0⟩, q1⟩, by simp [q2], ?_⟩
      simp only [List.map_cons, List.flatten_cons, q3, hc]
      rw [Nat.succ_mul, Nat.succ_mul, Nat.add_comm (m * x.size), List.take_add, List.drop_drop]
theorem trod_array {n : Nat} {e t : TypeId} {fuel : Nat} {cs : List Value} {x : DataW H × List MemPlace} (ht : P.underlying t = some (.array n e)) (h : DataW.trod enc P w 0 spare true fuel t cs = some x) :
    ∃ (xs : List (DataW H × List MemPlace)) (m : Nat), x = (.agg (xs.map (·.1)), xs.flatMap (·.2)) ∧ cs.length = P.cellsOf t ∧ xs.length = n ∧ ∀ j, j < n → DataW.trod enc P w 0 spare true m e ((cs.drop (j * P.cellsOf e)).take (P.cellsOf e)) = xs[j]? := by
  cases fuel with
  | zero => simp [DataW.trod] at h
  | succ m =>
    unfold DataW.trod at h
    rw [ht] at h
    split at h <;> simp_all
    obtain ⟨hl, xs, hp, hd⟩ := h
    exact ⟨xs, hd.symm, by simpa using mapM_some_length hp, m, fun j hj => by simpa using mapM_some_get hp j j (by simp [hj])⟩
theorem addr_add' {a : Addr} {n : Nat} (h : a.spot = none) : a.add n = ⟨a.block, a.off + n, none⟩ := by
  cases a
  simp only at h
  subst h
  simp only [Addr.add]
  split <;> simp_all
theorem addr_spot {a : Addr} {n : Nat} (h : a.spot = none) : (a.add n).spot = none := by rw [addr_add' h]
mutual
/-- Data that can be read is opened: an abstract heap that holds it. -/
theorem take (hpos : 0 < w.heap.size) : ∀ (sh : Sh) (cs : List Value) (d : DataW H) (M : Mp) (h : AH), (∃ fuel t ps, ShT P t sh ∧ DataW.trod enc P w 0 (fun _ => true) true fuel t cs = some (d, ps)) → In M w h → Sml sh d → Took M w h sh d cs
  | .b, cs, d, M, h, ⟨fuel, t, ps, ht, hr⟩, hi, hs => by
    cases ht with
    | b _ hu =>
      obtain ⟨x, rfl, he⟩ := DataW.trod_bool hu hr
      cases he
      exact ⟨M, h, [.b x], hi, Gr.refl M h, .cons _ _ _ _ (.b x) .nil, ⟨x, rfl, rfl⟩, by simp [V.isCell]⟩
  | .i k, cs, d, M, h, ⟨fuel, t, ps, ht, hr⟩, hi, hs => by
    cases ht with
    | i _ _ hu =>
      obtain ⟨x, rfl, he, hw⟩ := DataW.trod_int hu hr
      cases he
      exact ⟨M, h, [.i k x], hi, Gr.refl M h, .cons _ _ _ _ (.i k x) .nil, ⟨x, rfl, hw, rfl⟩, by simp [V.isCell]⟩
  | .s, cs, d, M, h, ⟨fuel, t, ps, ht, hr⟩, hi, hs => by
    cases ht with
    | s _ hu =>
      obtain ⟨x, rfl, he, hw⟩ := DataW.trod_string hu hr
      cases he
      exact ⟨M, h, [.s x], hi, Gr.refl M h, .cons _ _ _ _ (.s x) .nil, ⟨x, rfl, hw, rfl⟩, by simp [V.isCell]⟩
  | .sl e, cs, d, M, h, ⟨fuel, t, ps, ht, hr⟩, hi, hs => by
    cases ht with
    | sl _ te _ hu hte hce hpe =>
      rcases DataW.trod_slice hu hr with ⟨rfl, he⟩ | ⟨a, len, cap, elems, rest, n, _, rfl, he, hb, hlc, hcm, hlen, hel, hsp, _⟩
      · cases he
        exact ⟨M, h, [.ns], hi, Gr.refl M h, .cons _ _ _ _ .ns .nil, .inl ⟨rfl, rfl⟩, by simp [V.isCell]⟩
      · cases he
        simp only [Sml] at hs
        obtain ⟨hs1, hs2⟩ := hs _ _ rfl
        have hs1' : elems.length < bigLen := by simpa using hs1
        have cell : ∀ j (y : DataW H × List MemPlace), elems[j]? = some y → ∃ cs', w.cells? 0 (a.add (j * P.cellsOf te)) (P.cellsOf te) = some cs' ∧ DataW.trod enc P w 0 (fun _ => true) true n te cs' = some y := by
          intro j y hy
          have hj : j < len := by rw [← hlen]; exact (List.getElem?_eq_some_iff.1 hy).1
          have := hel j hj
          rw [hy] at this
          simpa [Option.bind_eq_some_iff] using this
        let q : List (List Value × DataW H) := (List.range elems.length).map fun j => ((w.cells? 0 (a.add (j * P.cellsOf te)) (P.cellsOf te)).getD [], ((elems[j]?).map (·.1)).getD (.nil))
        have hq : ∀ j (y : DataW H × List MemPlace), elems[j]? = some y → ∃ cs', w.cells? 0 (a.add (j * P.cellsOf te)) (P.cellsOf te) = some cs' ∧ DataW.trod enc P w 0 (fun _ => true) true n te cs' = some y ∧ q[j]? = some (cs', y.1) := by
          intro j y hy
          obtain ⟨cs', h1, h2⟩ := cell j y hy
          have hj : j < elems.length := (List.getElem?_eq_some_iff.1 hy).1
          refine ⟨cs', h1, h2, ?_⟩
          simp only [q, List.getElem?_map, List.getElem?_range hj, Option.map_some, h1, hy, Option.getD_some]
        have hql : q.length = elems.length := by simp [q]
        obtain ⟨M1, h1, rows, i1, g1, l1, a1⟩ := take_rows (e := e) (fun cs d M h hh hi hs => take hpos e cs d M h hh hi hs) q M h hi (fun z hz => by
          obtain ⟨j, hj, hz⟩ := List.getElem_of_mem hz
          have hj' : j < elems.length := by rw [← hql]; exact hj
          obtain ⟨cs', h1, h2, h3⟩ := hq j elems[j] (by simp [hj'])
          rw [List.getElem?_eq_getElem hj, hz] at h3
          cases h3
          exact ⟨⟨n, te, elems[j].2, hte, h2⟩, hs2 _ (List.mem_map.2 ⟨elems[j], List.getElem_mem _, rfl⟩)⟩)
        have first : ∀ cs', w.cells? 0 (a.add 0) (P.cellsOf te) = some cs' → a.block < w.heap.size ∧ a.spot = none := by
          intro cs' hcs
          have h1 := World.cells?_block hcs (by omega)
          obtain ⟨_, h2, h3⟩ := World.cells?_some hcs
          have h4 := h3 0 (by omega)
          rw [List.getElem?_eq_getElem (by omega)] at h4
          have h5 := World.cell?_spot h4
          simp only [Addr.add, if_true] at h1 h5
          exact ⟨h1, h5⟩
        have hz : 0 < cap → a.block < w.heap.size ∧ a.spot = none := by
          intro hcap
          by_cases h0 : 0 < elems.length
          · obtain ⟨cs', h2, _, _⟩ := hq 0 elems[0] (by simp [h0])
            exact first cs' (by simpa using h2)
          · have := (hsp rfl).2 0 (by omega)
            rw [List.getElem?_eq_getElem (by rw [(hsp rfl).1]; omega)] at this
            simp only [Option.bind_eq_some_iff] at this
            obtain ⟨cs', h2, _⟩ := this
            exact first cs' (by rw [show (len + 0) * P.cellsOf te = 0 by rw [show len + 0 = 0 by omega]; simp] at h2; exact h2)
        let m : MI := ⟨if 0 < cap then a.block else 0, a.off, 0, e.size, false⟩
        have hmb : m.b < w.heap.size := by
          simp only [m]
          split
          · rename_i h0; exact (hz h0).1
          · exact hpos
        have hrow : ∀ (el : Nat) (r : List V), rows[el]? = some r → ∃ y cs', elems[el]? = some y ∧ q[el]? = some (cs', y.1) ∧ w.cells? 0 (a.add (el * P.cellsOf te)) (P.cellsOf te) = some cs' := by
          intro el r hr
          have hel2 : el < elems.length := by rw [← hql, ← l1]; exact (List.getElem?_eq_some_iff.1 hr).1
          obtain ⟨cs', h2, h3, h4⟩ := hq el elems[el] (by simp [hel2])
          exact ⟨elems[el], cs', by simp [hel2], h4, h2⟩
        have hcells : CellsAt M1 h1 w m ⟨e.size, rows⟩ := by
          refine ⟨rfl, fun el r hr => ?_⟩
          obtain ⟨y, cs', hy, hqe, hcs⟩ := hrow el r hr
          obtain ⟨hv, _, hcell⟩ := a1 el _ r hqe hr
          obtain ⟨_, hcl, hcc⟩ := World.cells?_some hcs
          have hlen2 := hv.length
          have hel2 : el < elems.length := (List.getElem?_eq_some_iff.1 hy).1
          have hz' := hz (by omega)
          refine ⟨by rw [hlen2]; simp only; omega, fun j v hj => ⟨hcell v (List.mem_of_getElem? hj), ?_⟩⟩
          obtain ⟨x, hx, hvx⟩ := hv.get j v hj
          have hjl : j < P.cellsOf te := by
            have := (List.getElem?_eq_some_iff.1 hx).1
            simp only at this; omega
          refine ⟨x, ?_, hvx⟩
          have e1 := hcc j hjl
          simp only at hx
          rw [hx, addr_add' (addr_spot hz'.2), addr_add' hz'.2] at e1
          rw [← e1]
          simp only [m]
          rw [if_pos (by omega), hce]
        have i2 := i1.give (m := m) hmb rfl hcells
        have g2 := give_gr (M := M1) (k := ⟨e.size, rows⟩) (m := m) i1.fresh
        refine ⟨_, _, [.sl h1.next 0 elems.length elems.length], i2, g1.trans g2, .cons _ _ _ _ ?_ .nil, .inr ⟨elems.map (·.1), rest.map (·.1), h1.next, rows, rfl, by simp, by simp [AH.give], by simp [AH.give], by simp [l1, hql], hs1, fun j x r hx hr => ?_⟩, by simp [V.isCell]⟩
        · rw [hlen]
          refine .sl _ _ _ _ _ _ (by simp [AH.give]) (by omega) (fun _ => ⟨m, by simp [mput], fun hc => ?_, by omega, fun ho => by cases ho⟩)
          have := hz hc
          simp only [m]
          rw [if_pos hc]
          cases a; simp_all
        · obtain ⟨y, cs', hy, hqe, _⟩ := hrow j r hr
          simp only [List.getElem?_map, hy, Option.map_some, Option.some.injEq] at hx
          subst hx
          exact (a1 j _ r hqe hr).2.1.grow g2
  | .agg l, cs, d, M, h, ⟨fuel, t, ps, ht, hr⟩, hi, hs => by
    cases ht with
    | agg _ fs _ hu hf hc =>
      obtain ⟨xs, n, _, he, hlen, hxl, hx⟩ := DataW.trod_struct hu hr
      cases he
      simp only [Sml] at hs
      obtain ⟨q, q1, q2, q3⟩ := al_struct (n := n) (cs := cs) fs.toList 0 l xs hf (by simpa using hxl) (fun i f hf => hx i f (by simpa using hf))
      obtain ⟨M', h', vs, i', g', v', d', c'⟩ := takeL hpos l q M h q1 hi (by rw [q2]; exact hs _ rfl)
      rw [q3, List.drop_zero, ← hc, ← hlen, List.take_length] at v'
      rw [q2] at d'
      exact ⟨M', h', vs, i', g', v', ⟨_, rfl, d'⟩, c'⟩
    | arr _ e n x hu hte hce hct =>
      obtain ⟨xs, m, he, hlen, hxl, hx⟩ := trod_array hu hr
      cases he
      simp only [Sml] at hs
      obtain ⟨q, q1, q2, q3⟩ := al_array (n := m) (cs := cs) hte hce n 0 xs hxl (fun j hj => by rw [Nat.zero_add]; exact hx j hj)
      obtain ⟨M', h', vs, i', g', v', d', c'⟩ := takeL hpos (ShL.rep x n) q M h q1 hi (by rw [q2]; exact hs _ rfl)
      rw [q3, Nat.zero_mul, List.drop_zero, ← hct, ← hlen, List.take_length] at v'
      rw [q2] at d'
      exact ⟨M', h', vs, i', g', v', ⟨_, rfl, d'⟩, c'⟩
theorem takeL (hpos : 0 < w.heap.size) : ∀ (l : ShL) (q : List (List Value × DataW H)) (M : Mp) (h : AH), Al P w enc (fun _ => true) l q → In M w h → Smls l (q.map (·.2)) → TookL M w h l (q.map (·.2)) (q.map (·.1)).flatten
  | .nil, q, M, h, ha, hi, hs => by
    simp only [Al] at ha; subst ha
    exact ⟨M, h, [], hi, Gr.refl M h, .nil, ⟨rfl, rfl⟩, by simp⟩
  | .cons x l, q, M, h, ha, hi, hs => by
    simp only [Al] at ha
    obtain ⟨p, q', rfl, ht, ha⟩ := ha
    simp only [Smls] at hs
    obtain ⟨s1, s2⟩ := hs _ _ rfl
    obtain ⟨M1, h1, vs, i1, g1, v1, d1, c1⟩ := take hpos x p.1 p.2 M h ht hi s1
    obtain ⟨M2, h2, us, i2, g2, v2, d2, c2⟩ := takeL hpos l q' M1 h1 ha i1 s2
    refine ⟨M2, h2, vs ++ us, i2, g1.trans g2, by simpa using (v1.keep g2.keeps).append v2, ⟨_, _, vs, us, rfl, rfl, d1.grow g2, d2⟩, fun v hv => ?_⟩
    rcases List.mem_append.1 hv with hv | hv
    · exact c1 v hv
    · exact c2 v hv
end
end
end Go.Ab
