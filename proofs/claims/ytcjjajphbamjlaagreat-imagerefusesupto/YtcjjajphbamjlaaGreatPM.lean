/- Part of a proof that a law returns true for every input of the second form's bound (no other condition). -/
import Derived.Test.YtcjjajphbamjlaaGreatRows
import Derived.Test.YtcjjajphbamjlaaGreatPK
set_option linter.all false
/- What the bound of the second form gives. -/
namespace Go.Proofs.YtcjjajphbamjlaaGreat.bulks
open Go Go.Ab
theorem one_le {H:Type} (d:DataW H):1≤Rows.uptoBulk d:=by
  cases d with
  | lit l=>cases l<;>simp [Rows.uptoBulk]
  | nil=>simp [Rows.uptoBulk]
  | ptr d=>simp [Rows.uptoBulk]
  | slice elems spare=>simp [Rows.uptoBulk]
  | agg parts=>simp [Rows.uptoBulk]
  | iface t d=>simp [Rows.uptoBulk]
  | map entries=>simp [Rows.uptoBulk]
  | held h=>simp [Rows.uptoBulk]
theorem part_le {H:Type} {d:DataW H} {l:List (DataW H)} (h:d∈l):Rows.uptoBulk d≤Rows.uptoBulkAll l:=by
  induction l with
  | nil=>cases h
  | cons x r ih=>
    simp only [Rows.uptoBulkAll]
    cases List.mem_cons.1 h with
    | inl e=>subst e;omega
    | inr e=>have:=ih e;omega
theorem length_le {H:Type} (l:List (DataW H)):l.length≤Rows.uptoBulkAll l:=by
  induction l with
  | nil=>simp [Rows.uptoBulkAll]
  | cons x r ih=>have:=one_le x;simp only [Rows.uptoBulkAll,List.length_cons];omega
theorem slice_le {H:Type} (elems spare:List (DataW H)):elems.length+spare.length+1≤Rows.uptoBulk (.slice elems spare):=by
  have h1:=length_le elems
  have h2:=length_le spare
  simp only [Rows.uptoBulk]
  omega
theorem slice_elems {H:Type} (elems spare:List (DataW H)):Rows.uptoBulkAll elems+1≤Rows.uptoBulk (.slice elems spare):=by
  simp only [Rows.uptoBulk]
  omega
theorem bound {H:Type} {l:List (DataW H)} (hk:Rows.uptoSmall H l=true):Rows.uptoBulkAll l≤1048576:=of_decide_eq_true hk
mutual
theorem sml {H:Type}:∀ (sh:Sh) (d:DataW H),Rows.uptoBulk d≤1048576→Sml sh d
  | .b,d,h=>by simp [Sml]
  | .i _,d,h=>by simp [Sml]
  | .s,d,h=>by simp [Sml]
  | .sl e,d,h=>by
    simp only [Sml]
    rintro elems spare rfl
    have h1:=slice_le elems spare
    have h2:=slice_elems elems spare
    refine ⟨by simp only [bigLen];omega,fun x hx=>sml e x ?_⟩
    have:=part_le hx
    omega
  | .agg l,d,h=>by
    simp only [Sml]
    rintro ds rfl
    exact smls l ds (by simp only [Rows.uptoBulk] at h;omega)
theorem smls {H:Type}:∀ (l:ShL) (ds:List (DataW H)),Rows.uptoBulkAll ds≤1048576→Smls l ds
  | .nil,ds,h=>by simp [Smls]
  | .cons x l,ds,h=>by
    simp only [Smls]
    rintro d ds' rfl
    simp only [Rows.uptoBulkAll] at h
    exact ⟨sml x d (by omega),smls l ds' (by omega)⟩
end
theorem bk {H:Type}:T.BK (Rows.uptoBulk (H:=H)):=
  ⟨fun e s=>by have:=slice_le e s;omega,fun e s x hx=>by have:=part_le hx;have:=slice_elems e s;omega,fun p x hx=>by have:=part_le hx;simp only [Rows.uptoBulk];omega,fun l=>by simp only [Rows.uptoBulk];omega⟩
end Go.Proofs.YtcjjajphbamjlaaGreat.bulks
