/- Part of a proof that a law returns true for every input of the second form's bound (no other condition). -/
import Derived.Test.YtlcknhidblndnaaGreatRows
import Derived.Test.YtlcknhidblndnaaGreatPJ
set_option linter.all false
/- What the bound of the second form gives. -/
namespace Go.Proofs.YtlcknhidblndnaaGreat.bulks
open Go Go.Ab
theorem aFe {H:Type} (d:DataW H):1≤Rows.uptoBulk d:=by
 cases d with
 | lit l=>cases l<;>simp [Rows.uptoBulk]
 | nil=>simp [Rows.uptoBulk]
 | ptr d=>simp [Rows.uptoBulk]
 | slice AE spare=>simp [Rows.uptoBulk]
 | agg parts=>simp [Rows.uptoBulk]
 | iface t d=>simp [Rows.uptoBulk]
 | map entries=>simp [Rows.uptoBulk]
 | held h=>simp [Rows.uptoBulk]
theorem LV {H:Type} {d:DataW H} {l:List (DataW H)} (h:d∈l):Rows.uptoBulk d≤Rows.uptoBulkAll l:=by
 induction l with
 | nil=>cases h
 | cons x r ih=>
  simp only [Rows.uptoBulkAll]
  cases List.mem_cons.1 h with
  | inl e=>subst e;omega
  | inr e=>have:=ih e;omega
theorem KZ {H:Type} (l:List (DataW H)):l.length≤Rows.uptoBulkAll l:=by
 induction l with
 | nil=>simp [Rows.uptoBulkAll]
 | cons x r ih=>have:=aFe x;simp only [Rows.uptoBulkAll,List.length_cons];omega
theorem Ny {H:Type} (AE spare:List (DataW H)):AE.length+spare.length+1≤Rows.uptoBulk (.slice AE spare):=by
 have h1:=KZ AE
 have h2:=KZ spare
 simp only [Rows.uptoBulk]
 omega
theorem H6 {H:Type} (AE spare:List (DataW H)):Rows.uptoBulkAll AE+1≤Rows.uptoBulk (.slice AE spare):=by
 simp only [Rows.uptoBulk]
 omega
theorem bound {H:Type} {l:List (DataW H)} (hk:Rows.uptoSmall H l=true):Rows.uptoBulkAll l≤1048576:=of_decide_eq_true hk
mutual
theorem sml {H:Type}:∀ (sh:Sh) (d:DataW H),Rows.uptoBulk d≤1048576→O8 sh d
 | .b,d,h=>by simp [O8]
 | .i _,d,h=>by simp [O8]
 | .s,d,h=>by simp [O8]
 | .sl e,d,h=>by
  simp only [O8]
  rintro AE spare rfl
  have h1:=Ny AE spare
  have h2:=H6 AE spare
  refine ⟨by simp only [A4];omega,fun x hx=>sml e x ?_⟩
  have:=LV hx
  omega
 | .agg l,d,h=>by
  simp only [O8]
  rintro ds rfl
  exact aQL l ds (by simp only [Rows.uptoBulk] at h;omega)
theorem aQL {H:Type}:∀ (l:HQ) (ds:List (DataW H)),Rows.uptoBulkAll ds≤1048576→O9 l ds
 | .nil,ds,h=>by simp [O9]
 | .cons x l,ds,h=>by
  simp only [O9]
  rintro d ds' rfl
  simp only [Rows.uptoBulkAll] at h
  exact ⟨sml x d (by omega),aQL l ds' (by omega)⟩
end
theorem bk {H:Type}:T.BK (Rows.uptoBulk (H:=H)):=
 ⟨fun e s=>by have:=Ny e s;omega,fun e s x hx=>by have:=LV hx;have:=H6 e s;omega,fun p x hx=>by have:=LV hx;simp only [Rows.uptoBulk];omega,fun l=>by simp only [Rows.uptoBulk];omega⟩
end Go.Proofs.YtlcknhidblndnaaGreat.bulks
