/- Part of a proof that a law returns true for every input of the second form's bound (no other condition). -/
import Derived.Test.YtlcknhidblndnaaGreatRows
import Derived.Test.YtlcknhidblndnaaGreatPH
set_option linter.all false
/- What the bound of the second form gives. -/
namespace Go.Proofs.YtlcknhidblndnaaGreat.bulks
open Go Go.Ab
theorem mS {H:Type} (d:DataW H):1≤Rows.uptoBulk d:=by
 cases d with
 | lit l=>cases l<;>simp [Rows.uptoBulk]
 | nil=>simp [Rows.uptoBulk]
 | ptr d=>simp [Rows.uptoBulk]
 | slice Ay spare=>simp [Rows.uptoBulk]
 | agg parts=>simp [Rows.uptoBulk]
 | iface t d=>simp [Rows.uptoBulk]
 | map entries=>simp [Rows.uptoBulk]
 | held h=>simp [Rows.uptoBulk]
theorem NV {H:Type} {d:DataW H} {l:List (DataW H)} (h:d∈l):Rows.uptoBulk d≤Rows.uptoBulkAll l:=by
 induction l with
 | nil=>cases h
 | cons x r ih=>
  simp only [Rows.uptoBulkAll]
  cases List.mem_cons.1 h with
  | inl e=>subst e;omega
  | inr e=>have:=ih e;omega
theorem Iq {H:Type} (l:List (DataW H)):l.length≤Rows.uptoBulkAll l:=by
 induction l with
 | nil=>simp [Rows.uptoBulkAll]
 | cons x r ih=>have:=mS x;simp only [Rows.uptoBulkAll,List.length_cons];omega
theorem TX {H:Type} (Ay spare:List (DataW H)):Ay.length+spare.length+1≤Rows.uptoBulk (.slice Ay spare):=by
 have h1:=Iq Ay
 have h2:=Iq spare
 simp only [Rows.uptoBulk]
 omega
theorem Kz {H:Type} (Ay spare:List (DataW H)):Rows.uptoBulkAll Ay+1≤Rows.uptoBulk (.slice Ay spare):=by
 simp only [Rows.uptoBulk]
 omega
theorem bound {H:Type} {l:List (DataW H)} (hk:Rows.uptoSmall H l=true):Rows.uptoBulkAll l≤1048576:=of_decide_eq_true hk
theorem bk {H:Type}:T.BK (Rows.uptoBulk (H:=H)):=
 ⟨fun e s=>by have:=TX e s;omega,fun e s x hx=>by have:=NV hx;have:=Kz e s;omega,fun p x hx=>by have:=NV hx;simp only [Rows.uptoBulk];omega,fun l=>by simp only [Rows.uptoBulk];omega⟩
end Go.Proofs.YtlcknhidblndnaaGreat.bulks
