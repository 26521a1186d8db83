/- Part of a proof that a law returns true for every input of the second form's bound (no other condition). -/
import Derived.Test.YtcjjajphbamjlaaGreatRows
import Derived.Test.YtcjjajphbamjlaaGreatPK
set_option linter.all false
/- What the bound of the second form gives. -/
namespace Go.Proofs.YtcjjajphbamjlaaGreat.bulks
open Go Go.Ab
theorem aHt {H:Type} (d:DataW H):1≤Rows.uptoBulk d:=by
 cases d with
 | lit l=>cases l<;>simp [Rows.uptoBulk]
 | nil=>simp [Rows.uptoBulk]
 | ptr d=>simp [Rows.uptoBulk]
 | slice AK spare=>simp [Rows.uptoBulk]
 | agg parts=>simp [Rows.uptoBulk]
 | iface t d=>simp [Rows.uptoBulk]
 | map entries=>simp [Rows.uptoBulk]
 | held h=>simp [Rows.uptoBulk]
theorem MW {H:Type} {d:DataW H} {l:List (DataW H)} (h:d∈l):Rows.uptoBulk d≤Rows.uptoBulkAll l:=by
 induction l with
 | nil=>cases h
 | cons x r ih=>
  simp only [Rows.uptoBulkAll]
  cases List.mem_cons.1 h with
  | inl e=>subst e;omega
  | inr e=>have:=ih e;omega
theorem LV {H:Type} (l:List (DataW H)):l.length≤Rows.uptoBulkAll l:=by
 induction l with
 | nil=>simp [Rows.uptoBulkAll]
 | cons x r ih=>have:=aHt x;simp only [Rows.uptoBulkAll,List.length_cons];omega
theorem OG {H:Type} (AK spare:List (DataW H)):AK.length+spare.length+1≤Rows.uptoBulk (.slice AK spare):=by
 have h1:=LV AK
 have h2:=LV spare
 simp only [Rows.uptoBulk]
 omega
theorem Jr {H:Type} (AK spare:List (DataW H)):Rows.uptoBulkAll AK+1≤Rows.uptoBulk (.slice AK spare):=by
 simp only [Rows.uptoBulk]
 omega
theorem bound {H:Type} {l:List (DataW H)} (hk:Rows.uptoSmall H l=true):Rows.uptoBulkAll l≤1048576:=of_decide_eq_true hk
mutual
theorem sml {H:Type}:∀ (sh:Sh) (d:DataW H),Rows.uptoBulk d≤1048576→Nj sh d
 | .b,d,h=>by simp [Nj]
 | .i _,d,h=>by simp [Nj]
 | .s,d,h=>by simp [Nj]
 | .sl e,d,h=>by
  simp only [Nj]
  rintro AK spare rfl
  have h1:=OG AK spare
  have h2:=Jr AK spare
  refine ⟨by simp only [Bh];omega,fun x hx=>sml e x ?_⟩
  have:=MW hx
  omega
 | .agg l,d,h=>by
  simp only [Nj]
  rintro ds rfl
  exact aU7 l ds (by simp only [Rows.uptoBulk] at h;omega)
theorem aU7 {H:Type}:∀ (l:HJ) (ds:List (DataW H)),Rows.uptoBulkAll ds≤1048576→QU l ds
 | .nil,ds,h=>by simp [QU]
 | .cons x l,ds,h=>by
  simp only [QU]
  rintro d ds' rfl
  simp only [Rows.uptoBulkAll] at h
  exact ⟨sml x d (by omega),aU7 l ds' (by omega)⟩
end
theorem bk {H:Type}:T.BK (Rows.uptoBulk (H:=H)):=
 ⟨fun e s=>by have:=OG e s;omega,fun e s x hx=>by have:=MW hx;have:=Jr e s;omega,fun p x hx=>by have:=MW hx;simp only [Rows.uptoBulk];omega,fun l=>by simp only [Rows.uptoBulk];omega⟩
end Go.Proofs.YtcjjajphbamjlaaGreat.bulks
