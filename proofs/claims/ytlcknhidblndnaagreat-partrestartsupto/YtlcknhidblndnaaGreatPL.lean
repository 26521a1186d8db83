/- Part of a proof that a law returns true for every input of the second form's bound (no other condition). -/
import Derived.Test.YtlcknhidblndnaaGreatRows
import Derived.Test.YtlcknhidblndnaaGreatPJ
set_option linter.all false
/- What the bound of the second form gives. -/
namespace Go.Proofs.YtlcknhidblndnaaGreat.bulks
open Go Go.Ab
theorem aEA {H:Type} (d:DataW H):1≤Rows.uptoBulk d:=by
 cases d with
 | lit l=>cases l<;>simp [Rows.uptoBulk]
 | nil=>simp [Rows.uptoBulk]
 | ptr d=>simp [Rows.uptoBulk]
 | slice AC spare=>simp [Rows.uptoBulk]
 | agg parts=>simp [Rows.uptoBulk]
 | iface t d=>simp [Rows.uptoBulk]
 | map entries=>simp [Rows.uptoBulk]
 | held h=>simp [Rows.uptoBulk]
theorem LM {H:Type} {d:DataW H} {l:List (DataW H)} (h:d∈l):Rows.uptoBulk d≤Rows.uptoBulkAll l:=by
 induction l with
 | nil=>cases h
 | cons x r ih=>
  simp only [Rows.uptoBulkAll]
  cases List.mem_cons.1 h with
  | inl e=>subst e;omega
  | inr e=>have:=ih e;omega
theorem KM {H:Type} (l:List (DataW H)):l.length≤Rows.uptoBulkAll l:=by
 induction l with
 | nil=>simp [Rows.uptoBulkAll]
 | cons x r ih=>have:=aEA x;simp only [Rows.uptoBulkAll,List.length_cons];omega
theorem Np {H:Type} (AC spare:List (DataW H)):AC.length+spare.length+1≤Rows.uptoBulk (.slice AC spare):=by
 have h1:=KM AC
 have h2:=KM spare
 simp only [Rows.uptoBulk]
 omega
theorem HX {H:Type} (AC spare:List (DataW H)):Rows.uptoBulkAll AC+1≤Rows.uptoBulk (.slice AC spare):=by
 simp only [Rows.uptoBulk]
 omega
theorem bound {H:Type} {l:List (DataW H)} (hk:Rows.uptoSmall H l=true):Rows.uptoBulkAll l≤1048576:=of_decide_eq_true hk
mutual
theorem sml {H:Type}:∀ (sh:Sh) (d:DataW H),Rows.uptoBulk d≤1048576→OO sh d
 | .b,d,h=>by simp [OO]
 | .i _,d,h=>by simp [OO]
 | .s,d,h=>by simp [OO]
 | .sl e,d,h=>by
  simp only [OO]
  rintro AC spare rfl
  have h1:=Np AC spare
  have h2:=HX AC spare
  refine ⟨by simp only [A4];omega,fun x hx=>sml e x ?_⟩
  have:=LM hx
  omega
 | .agg l,d,h=>by
  simp only [OO]
  rintro ds rfl
  exact aP9 l ds (by simp only [Rows.uptoBulk] at h;omega)
theorem aP9 {H:Type}:∀ (l:HI) (ds:List (DataW H)),Rows.uptoBulkAll ds≤1048576→OZ l ds
 | .nil,ds,h=>by simp [OZ]
 | .cons x l,ds,h=>by
  simp only [OZ]
  rintro d ds' rfl
  simp only [Rows.uptoBulkAll] at h
  exact ⟨sml x d (by omega),aP9 l ds' (by omega)⟩
end
theorem bk {H:Type}:T.BK (Rows.uptoBulk (H:=H)):=
 ⟨fun e s=>by have:=Np e s;omega,fun e s x hx=>by have:=LM hx;have:=HX e s;omega,fun p x hx=>by have:=LM hx;simp only [Rows.uptoBulk];omega,fun l=>by simp only [Rows.uptoBulk];omega⟩
end Go.Proofs.YtlcknhidblndnaaGreat.bulks
