/- Part of the proof that ConfigNumbers returns true for every input of the second form's bound (no other condition). -/
import Derived.Test.YtjjebbijkcknbaaPI
import Derived.Test.YtjjebbijkcknbaaPJ
set_option linter.all false
namespace Go.Ab.T
open Go Go.Ab
set_option maxHeartbeats 1000000
theorem Pf.ev {f : Nat} {args args1 : List V} {h : AH} (pf : Pf tp f args (.b true)) (hl : h.lim ≤ h.next) (p : PRs (· < h.next) (fun i => i) h.get 0 args args1) : Ev tp f args1 h (fun r _ => r = .b true) := by
  refine (pf (· < h.next) (fun i => i) h args1 (Cfg.emp (fun a ha => ha) hl _) p).imp ?_
  rintro r1 hc' ⟨r, h', S', m', c', a', q, rfl, rfl⟩
  cases q; rfl
structure BK {H : Type} (bk : DataW H → Nat) : Prop where
  sl : ∀ elems spare, elems.length ≤ bk (.slice elems spare)
  el : ∀ elems spare x, x ∈ elems → bk x ≤ bk (.slice elems spare)
  ag : ∀ parts x, x ∈ parts → bk x ≤ bk (.agg parts)
  st : ∀ l, l.length ≤ bk (.lit (.string l))
section
variable {H : Type} {bk : DataW H → Nat} {h : AH}
end
end Go.Ab.T
