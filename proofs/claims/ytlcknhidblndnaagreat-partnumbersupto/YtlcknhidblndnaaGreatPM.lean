/- Part of a proof that a law returns true for every input of the second form's bound (no other condition). -/
import Derived.Test.YtlcknhidblndnaaGreatRows
import Derived.Test.YtlcknhidblndnaaGreatPK
set_option linter.all false
/- What the bound of the second form gives. -/
namespace Go.Proofs.YtlcknhidblndnaaGreat.bulks
open Go Go.Ab
theorem aNH {H:Type} (d:DataW H):1<=Rows.uptoBulk d:=by
 cases d with
 | lit l=>cases l<;>simp [Rows.uptoBulk]
 | nil=>simp [Rows.uptoBulk]
 | ptr d=>simp [Rows.uptoBulk]
 | slice AM spare=>simp [Rows.uptoBulk]
 | agg parts=>simp [Rows.uptoBulk]
 | iface t d=>simp [Rows.uptoBulk]
 | map entries=>simp [Rows.uptoBulk]
 | held h=>simp [Rows.uptoBulk]
theorem NX {H:Type} {d:DataW H} {l:List (DataW H)} (h:d∈l):Rows.uptoBulk d<=Rows.uptoBulkAll l:=by
 induction l with
 | nil=>cases h
 | cons x r ih=>
  simp only [Rows.uptoBulkAll]
  cases List.mem_cons.1 h with
  | inl e=>subst e;omega
  | inr e=>have:=ih e;omega
theorem ME {H:Type} (l:List (DataW H)):l.length<=Rows.uptoBulkAll l:=by
 induction l with
 | nil=>simp [Rows.uptoBulkAll]
 | cons x r ih=>have:=aNH x;simp only [Rows.uptoBulkAll,List.length_cons];omega
theorem PU {H:Type} (AM spare:List (DataW H)):AM.length+spare.length+1<=Rows.uptoBulk (.slice AM spare):=by
 have h1:=ME AM;have h2:=ME spare;simp only [Rows.uptoBulk];omega
theorem Jo {H:Type} (AM spare:List (DataW H)):Rows.uptoBulkAll AM+1<=Rows.uptoBulk (.slice AM spare):=by
 simp only [Rows.uptoBulk];omega
theorem bound {H:Type} {l:List (DataW H)} (hk:Rows.uptoSmall H l=true):Rows.uptoBulkAll l<=1048576:=of_decide_eq_true hk
theorem bk {H:Type}:T.BK (Rows.uptoBulk (H:=H)):=
 ⟨λe s=>by have:=PU e s;omega,λe s x hx=>by have:=NX hx;have:=Jo e s;omega,λp x hx=>by have:=NX hx;simp only [Rows.uptoBulk];omega,λl=>by simp only [Rows.uptoBulk];omega⟩
end Go.Proofs.YtlcknhidblndnaaGreat.bulks
