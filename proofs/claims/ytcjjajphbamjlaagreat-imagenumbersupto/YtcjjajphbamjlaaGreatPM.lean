/- Part of a proof that a law returns true for every input of the second form's bound (no other condition). -/
import Derived.Test.YtcjjajphbamjlaaGreatRows
import Derived.Test.YtcjjajphbamjlaaGreatPK
set_option linter.all false
/- What the bound of the second form gives. -/
namespace Go.Proofs.YtcjjajphbamjlaaGreat.bulks
open Go Go.Ab
theorem aHb {H:Type} (d:DataW H):1≤Rows.uptoBulk d:=by
 cases d with
 | lit l=>cases l<;>simp [Rows.uptoBulk]
 | nil=>simp [Rows.uptoBulk]
 | ptr d=>simp [Rows.uptoBulk]
 | slice AP spare=>simp [Rows.uptoBulk]
 | agg parts=>simp [Rows.uptoBulk]
 | iface t d=>simp [Rows.uptoBulk]
 | map entries=>simp [Rows.uptoBulk]
 | held h=>simp [Rows.uptoBulk]
theorem S1 {H:Type} {d:DataW H} {l:List (DataW H)} (h:d∈l):Rows.uptoBulk d≤Rows.uptoBulkAll l:=by
 induction l with
 | nil=>cases h
 | cons x r ih=>
  simp only [Rows.uptoBulkAll]
  cases List.mem_cons.1 h with
  | inl e=>subst e;omega
  | inr e=>have:=ih e;omega
theorem Lz {H:Type} (l:List (DataW H)):l.length≤Rows.uptoBulkAll l:=by
 induction l with
 | nil=>simp [Rows.uptoBulkAll]
 | cons x r ih=>have:=aHb x;simp only [Rows.uptoBulkAll,List.length_cons];omega
theorem Z3 {H:Type} (AP spare:List (DataW H)):AP.length+spare.length+1≤Rows.uptoBulk (.slice AP spare):=by
 have h1:=Lz AP
 have h2:=Lz spare
 simp only [Rows.uptoBulk]
 omega
theorem Oa {H:Type} (AP spare:List (DataW H)):Rows.uptoBulkAll AP+1≤Rows.uptoBulk (.slice AP spare):=by
 simp only [Rows.uptoBulk]
 omega
theorem bound {H:Type} {l:List (DataW H)} (hk:Rows.uptoSmall H l=true):Rows.uptoBulkAll l≤1048576:=of_decide_eq_true hk
theorem bk {H:Type}:T.BK (Rows.uptoBulk (H:=H)):=
 ⟨fun e s=>by have:=Z3 e s;omega,fun e s x hx=>by have:=S1 hx;have:=Oa e s;omega,fun p x hx=>by have:=S1 hx;simp only [Rows.uptoBulk];omega,fun l=>by simp only [Rows.uptoBulk];omega⟩
end Go.Proofs.YtcjjajphbamjlaaGreat.bulks
