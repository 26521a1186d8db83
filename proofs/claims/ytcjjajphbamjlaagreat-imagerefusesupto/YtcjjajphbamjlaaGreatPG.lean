/- Part of a proof that a law returns true for every input of the second form's bound (no other condition). -/
import Derived.Test.YtcjjajphbamjlaaGreatPF
set_option linter.all false
namespace Go.Ab.T
open Go Go.Ab
structure Run where
  part:Int
  n:Int
  deriving Inhabited,DecidableEq
@[go_sem] def Run.enc (r:Run):List V:=[.i .i64 r.part,.i .i64 r.n]
def addR (a b:Int):Int:=if 9223372036854775807 - max 0 b<max 0 a then 9223372036854775807 else max 0 a+max 0 b
theorem addR_big {a b:Int}:0≤addR a b∧addR a b≤9223372036854775807:=by unfold addR;split<;>omega
theorem add_ev {a b:Int} (ha:a≤9223372036854775807) (hb:b≤9223372036854775807):Pf tp i_Q67 [.i .i64 a,.i .i64 b] (.i .i64 (addR a b)):=by
  refine Pf_go fn_Q67 (by simp [t_Q67]) fun rp=>?_;unfold t_Q67;simp (disch:=omega)only[go_sem, *]
  repeat' (first | (refine Wg_dec (fun hc=>?_) (fun hc=>?_)<;>simp (disch:=omega)only[go_sem, *]) | (refine Wb_dec (fun hc=>?_) (fun hc=>?_)<;>simp (disch:=omega)only[go_sem, *]))
  all_goals (unfold addR;split<;>omega)
theorem sum_ev {a b:Int} (ha:a≤9223372036854775807) (hb:b≤9223372036854775807):Pf tp i_Q24 [.i .i64 a,.i .i64 b] (.i .i64 (addR a b)):=by
  refine Pf_go fn_Q24 (by simp [t_Q24]) fun rp=>?_;unfold t_Q24;simp (disch:=omega)only[go_sem, *]
  repeat' (first | (refine Wg_dec (fun hc=>?_) (fun hc=>?_)<;>simp (disch:=omega)only[go_sem, *]) | (refine Wb_dec (fun hc=>?_) (fun hc=>?_)<;>simp (disch:=omega)only[go_sem, *]))
  all_goals (unfold addR;split<;>omega)
def RunsOk (L:List Run):Prop:=∀ i,i<L.length→(nth L i).n≤9223372036854775807
def lengthGo:List Run→Int→Int
  | [],n=>n
  | r::l,n=>lengthGo l (addR n r.n)
theorem length_ev {L:List Run} (hok:RunsOk L):Pf tp i_Q70 [.fl 2 (L.map Run.enc)] (.i .i64 (lengthGo L 0)):=by
  refine Pf_go fn_Q70 (by simp [t_Q70]) fun rp=>?_;unfold t_Q70;simp (disch:=omega)only[go_sem, *]
  have hL:=rp.head.len
  refine ZC_loop_n (fun n e h=>∃ (i:Nat) (a:Int),n=L.length - i∧h.lim=0∧e 6=.fl 2 (L.map Run.enc)∧e 7=.i .i64 L.length∧e 8=.i .i64 i∧e 3=.i .i64 a∧i≤L.length∧a≤9223372036854775807∧lengthGo (L.drop i) a=lengthGo L 0) ?_ _ _ _ ⟨0,0,rfl, ?_⟩
  · rintro n e h ⟨i,a,rfl,hl,e6,e7,e8,e3,hi,ha,hz⟩ ih
    rw [ZC_unf Q70_7.eq_1]
    simp (disch:=omega)only[go_sem, *]
    refine Wb_dec (fun hc=>?_) (fun hc=>?_)
    · rw [drop_nth (by omega),lengthGo] at hz
      have hb:=hok i (by omega)
      simp (disch:=omega)only[go_sem, *]
      refine Pf.go (add_ev ha hb) (by simp only [go_sem]) fun _=>?_;simp (disch:=omega)only[go_sem, *]
      refine ih _ _ _ ?_ ⟨i+1,addR a (nth L i).n,rfl, ?_⟩
      · omega
      · simp (disch:=omega)only[go_sem, *]
        ((repeat' refine And.intro ?_ ?_)<;>first | omega | assumption | (exact addR_big.2))
    · rw [List.drop_eq_nil_of_le (by omega),lengthGo] at hz
      simp (disch:=omega)only[go_sem, *]
  · simp (disch:=omega)only[go_sem, *]
def tidyGo:List Run→List Run→List Run
  | [],out=>out
  | r::l,out=>if r.n<1 then tidyGo l out else
    if 0<out.length∧(nth out (out.length - 1)).part=r.part then tidyGo l (out.set (out.length - 1) ⟨(nth out (out.length - 1)).part,addR (nth out (out.length - 1)).n r.n⟩) else tidyGo l (out++[r])
theorem runsOk_snoc {A:List Run} {r:Run} (hA:RunsOk A) (hr:r.n≤9223372036854775807):RunsOk (A++[r]):=by
  intro i hi
  simp only [List.length_append,List.length_cons,List.length_nil] at hi
  by_cases h:i<A.length
  · have:=hA i h
    simp only [nth,List.getD] at this ⊢
    rw [List.getElem?_append_left h];exact this
  · have:i=A.length:=by omega
    subst this
    simpa [nth,List.getD] using hr
theorem runsOk_set {A:List Run} {j:Nat} {r:Run} (hA:RunsOk A) (hr:r.n≤9223372036854775807):RunsOk (A.set j r):=by
  intro i hi
  simp only [List.length_set] at hi
  have:=hA i hi
  simp only [nth,List.getD] at this ⊢
  rw [List.getElem?_set]
  split
  · rename_i h;subst h;simp [hi];exact hr
  · exact this
theorem refTidy_ev {L:List Run} (hok:RunsOk L):Pf tp i_Q22 [.fl 2 (L.map Run.enc)] (.fl 2 ((tidyGo L []).map Run.enc)):=by
  refine Pf_go fn_Q22 (by simp [t_Q22]) fun rp=>?_;unfold t_Q22;simp (disch:=omega)only[go_sem, *]
  have hL:=rp.head.len
  refine ZC_loop_n (fun n e h=>∃ (i:Nat) (out:V) (A:List Run),n=L.length - i∧h.lim=0∧e 7=.fl 2 (L.map Run.enc)∧e 8=.i .i64 L.length∧e 9=.i .i64 i∧e 3=out∧i≤L.length∧A.length≤i∧Sl 0 h 2 out (A.map Run.enc)∧RunsOk A∧tidyGo (L.drop i) A=tidyGo L []) ?_ _ _ _ ⟨0,.ns,[],rfl, ?_⟩
  · rintro n e h ⟨i,out,A,rfl,hl,e7,e8,e9,e3,hi,hA,so,okA,hz⟩ ih
    rw [ZC_unf Q22_11.eq_1]
    simp (disch:=omega)only[go_sem, *]
    obtain ⟨olen,obig,olt,olo,oget,oat,orow,ocell,ocells⟩:=so.facts
    refine Wb_dec (fun hc=>?_) (fun hc=>?_)
    · rw [drop_nth (by omega),tidyGo] at hz
      have hb:=hok i (by omega)
      simp (disch:=omega)only[go_sem, *]
      have x1:Ext h ((h.alloc ⟨2,[[.i .i64 0,.i .i64 0]]⟩).put h.next ⟨2,[[.i .i64 (nth L i).part,.i .i64 (nth L i).n]]⟩):=by (repeat (first | exact Ext.refl _ | refine Ext.alloc ?_ _ | (refine Ext.put ?_ _ _ ?_;rotate_left;(first | omega | (simp only [next_alloc,next_put];omega)))))
      refine Wb_dec (fun hc2=>?_) (fun hc2=>?_)
      · rw [if_pos hc2] at hz
        simp (disch:=omega)only[go_sem, *]
        refine ih _ _ _ ?_ ⟨i+1,out,A,rfl, ?_⟩
        · omega
        · simp (disch:=omega)only[go_sem, *]
          ((repeat' refine And.intro ?_ ?_)<;>first | omega | assumption | (exact so.ext x1))
      · rw [if_neg hc2] at hz
        simp (disch:=omega)only[go_sem, *]
        refine Wg_dec (fun hc3=>?_) (fun hc3=>?_)
        · have hk:((A.length:Int) - 1).toNat=A.length - 1:=by omega
          simp (disch:=omega)only[go_sem, *]
          refine Wb_dec (fun hc4=>?_) (fun hc4=>?_)
          · rw [if_pos ⟨by omega,hc4⟩] at hz
            have hA1:=okA (A.length - 1) (by omega)
            simp (disch:=omega)only[go_sem, *]
            refine Pf.go (sum_ev hA1 hb) (by simp only [go_sem]) fun _=>?_;simp (disch:=omega)only[go_sem, *]
            refine ih _ _ _ ?_ ⟨i+1,out,A.set (A.length - 1) ⟨(nth A (A.length - 1)).part,addR (nth A (A.length - 1)).n (nth L i).n⟩,rfl, ?_⟩
            · omega
            · simp (disch:=omega)only[go_sem, *]
              ((repeat' refine And.intro ?_ ?_)<;>first | omega | assumption | (simp;omega) | (exact Sl.setT so (by omega) (by simp (disch:=omega)only[go_sem]<;>omega) (by simp (disch:=omega)only[go_sem, *])) | (refine runsOk_set okA ?_;exact addR_big.2) | (rw [← hz,hc4]))
          · simp only [hc4,and_false,reduceIte] at hz
            simp (disch:=omega)only[go_sem, *]
            refine app_rule (R:=A.map Run.enc) ((so.ext x1).alloc _) (by simp only [go_sem, *]) (Nat.zero_le _) (by simp;omega) ?_
            intro w h4 s4 g4
            have hl4:=g4.lim
            simp (disch:=omega)only[go_sem, *]
            refine ih _ _ _ ?_ ⟨i+1,w,A++[nth L i],rfl, ?_⟩
            · omega
            · simp (disch:=omega)only[go_sem, *]
              ((repeat' refine And.intro ?_ ?_)<;>first | omega | assumption | (simp;omega) | (simpa [Run.enc] using s4) | (exact runsOk_snoc okA hb))
        · have h0:A.length=0:=by omega
          simp only [h0,Nat.lt_irrefl,false_and,reduceIte] at hz
          simp (disch:=omega)only[go_sem, *]
          refine app_rule (R:=A.map Run.enc) ((so.ext x1).alloc _) (by simp only [go_sem, *]) (Nat.zero_le _) (by simp;omega) ?_
          intro w h4 s4 g4
          have hl4:=g4.lim
          simp (disch:=omega)only[go_sem, *]
          refine ih _ _ _ ?_ ⟨i+1,w,A++[nth L i],rfl, ?_⟩
          · omega
          · simp (disch:=omega)only[go_sem, *]
            ((repeat' refine And.intro ?_ ?_)<;>first | omega | assumption | (simp;omega) | (simpa [Run.enc] using s4) | (exact runsOk_snoc okA hb))
    · rw [List.drop_eq_nil_of_le (by omega),tidyGo] at hz
      simp (disch:=omega)only[go_sem, *]
      subst hz
      exact Sl.froze so (fun _=>rfl) trivial (by omega)
  · simp (disch:=omega)only[go_sem, *]
    exact ⟨Sl.nil _ _ _,fun i hi=>by simp at hi⟩
end Go.Ab.T
namespace Go.Ab.T
open Go Go.Ab
structure Node where
  kind:Int
  part:Int
  n:Int
  deriving DecidableEq,Inhabited
@[go_sem] def Node.enc (x:Node):List V:=[.i .i64 x.kind,.i .i64 x.part,.i .i64 x.n]
def kids (x:Node):Int:=
  if x.n<1∨(x.kind≠1∧x.part≠0) then -1
  else if (x.kind=1∧0≤x.part∧x.part<6)∨x.kind=2 then 0
  else if x.kind=3∧x.n≤128 then x.n
  else if x.kind=4 then 1 else -1
theorem kids_bd (x:Node): -1≤kids x∧kids x≤128:=by
  unfold kids;repeat' split
  all_goals omega
theorem kids_ev {x:Node}:Pf tp i_Q95 [.agg x.enc] (.i .i64 (kids x)):=by
  refine Pf_go fn_Q95 (by simp [t_Q95]) fun rp=>?_;unfold t_Q95;simp (disch:=omega)only[go_sem, *]
  repeat' (first | (refine Wg_dec (fun hc=>?_) (fun hc=>?_)<;>simp (disch:=omega)only[go_sem, *]) | (refine Wb_dec (fun hc=>?_) (fun hc=>?_)<;>simp (disch:=omega)only[go_sem, *]))
  all_goals (unfold kids;repeat' split)
  all_goals omega
def szGo:List Node→Int→Int→Int
  | [],_,_=>0
  | x::r,left,n=>if kids x<0 then 0 else if left+(kids x - 1)=0 then n+1 else szGo r (left+(kids x - 1)) (n+1)
def size (L:List Node) (a:Int):Int:=if a<0∨(L.length:Int)≤a then 0 else szGo (L.drop a.toNat) 1 0
theorem size_ev {L:List Node} {a:Int}:Pf tp i_Q73 [.fl 3 (L.map Node.enc),.i .i64 a] (.i .i64 (size L a)):=by
  refine Pf_go fn_Q73 (by simp [t_Q73]) fun rp=>?_;unfold t_Q73;simp (disch:=omega)only[go_sem, *]
  have hL:=rp.head.len
  repeat' (first | (refine Wg_dec (fun hc=>?_) (fun hc=>?_)<;>simp (disch:=omega)only[go_sem, *]) | (refine Wb_dec (fun hc=>?_) (fun hc=>?_)<;>simp (disch:=omega)only[go_sem, *]))
  · simp [size];omega
  · simp [size];omega
  · refine ZC_loop_n (fun n e h=>∃ (i:Nat) (left:Int),n=L.length - i∧h.lim=0∧e 0=.fl 3 (L.map Node.enc)∧e 1=.i .i64 a∧e 5=.i .i64 left∧e 6=.i .i64 i∧a≤i∧i≤L.length∧0<left∧left≤1+128*i∧szGo (L.drop i) left (i - a)=size L a) ?_ _ _ _ ⟨a.toNat,1,rfl, ?_⟩
    · rintro n e h ⟨i,left,rfl,hl,e0,e1,e5,e6,hi1,hi2,hl1,hl2,hz⟩ ih
      rw [ZC_unf Q73_13.eq_1]
      simp (disch:=omega)only[go_sem, *]
      have hk:=kids_bd (nth L i)
      refine Wb_dec (fun hc=>?_) (fun hc=>?_)
      · rw [drop_nth (by omega),szGo] at hz
        simp (disch:=omega)only[go_sem, *]
        refine Pf.go (kids_ev) (by simp only [go_sem]) fun _=>?_;simp (disch:=omega)only[go_sem, *]
        refine Wb_dec (fun hc2=>?_) (fun hc2=>?_)
        · rw [if_pos hc2] at hz
          simp (disch:=omega)only[go_sem, *]
        · rw [if_neg hc2] at hz
          simp (disch:=omega)only[go_sem, *]
          refine Wb_dec (fun hc3=>?_) (fun hc3=>?_)
          · rw [if_pos hc3] at hz
            simp (disch:=omega)only[go_sem, *]
            omega
          · rw [if_neg hc3] at hz
            simp (disch:=omega)only[go_sem, *]
            refine ih _ _ _ ?_ ⟨i+1,left+(kids (nth L i) - 1),rfl, ?_⟩
            · omega
            · simp (disch:=omega)only[go_sem, *]
              refine ⟨by omega,by omega,by omega,by omega, ?_⟩
              rw [← hz];congr 1;omega
      · rw [List.drop_eq_nil_of_le (by omega),szGo] at hz
        simp (disch:=omega)only[go_sem, *]
    · simp (disch:=omega)only[go_sem, *]
      ((repeat' refine And.intro ?_ ?_)<;>first | omega | assumption | ((congr 1;omega)) | ((simp only [size];rw [if_neg (by omega)];congr 1;omega)))
def wholeB (L:List Node):Bool:=decide (0<L.length∧size L 0=L.length)
theorem whole_ev {L:List Node}:Pf tp i_Q43 [.fl 3 (L.map Node.enc)] (.b (wholeB L)):=by
  refine Pf_go fn_Q43 (by simp [t_Q43]) fun rp=>?_;unfold t_Q43;simp (disch:=omega)only[go_sem, *]
  refine Wg_dec (fun hc=>?_) (fun hc=>?_)
  · simp (disch:=omega)only[go_sem, *]
    refine Pf.go (size_ev) (by simp only [go_sem]) fun _=>?_;simp (disch:=omega)only[go_sem, *]
    simp only [wholeB]
    congr 1
    simp;omega
  · simp (disch:=omega)only[go_sem, *]
    simp only [wholeB]
    simp;omega
def nadd (a b:Int):Int:=min 4097 (a+min 4097 b)
def ntimes (n t:Int):Int:=min 4097 (min 4097 n*t)
theorem nadd_ev {a b:Int} (ha:0≤a∧a≤4097) (hb:0≤b):Pf tp i_Q97 [.i .i64 a,.i .i64 b] (.i .i64 (nadd a b)):=by
  refine Pf_go fn_Q97 (by simp [t_Q97]) fun rp=>?_;unfold t_Q97;simp (disch:=omega)only[go_sem, *]
  rfl
theorem ntimes_ev {n t:Int} (hn:0≤n) (ht:0≤t∧t≤4097):Pf tp i_Q96 [.i .i64 n,.i .i64 t] (.i .i64 (ntimes n t)):=by
  have h1:0≤min 4097 n*t:=Int.mul_nonneg (by omega) ht.1
  have h2:min 4097 n*t≤4097*4097:=Int.mul_le_mul (by omega) ht.2 ht.1 (by omega)
  refine Pf_go fn_Q96 (by simp [t_Q96]) fun rp=>?_;unfold t_Q96;simp (disch:=omega)only[go_sem, *]
  rfl
end Go.Ab.T
namespace Go.Ab.T
open Go Go.Ab
structure Frame where
  node:Node
  left:Int
  depth:Int
  ticks:Int
  deriving DecidableEq,Inhabited
@[go_sem] def Frame.enc (f:Frame):List V:=[.i .i64 f.node.kind,.i .i64 f.node.part,.i .i64 f.node.n,.i .i64 f.left,.i .i64 f.depth,.i .i64 f.ticks]
def Frame.out (f:Frame):Int:=if f.node.kind=4 then ntimes f.node.n f.ticks else f.ticks
def Frame.take (up top:Frame):Frame:=⟨up.node,up.left - 1,max up.depth (top.depth+1),nadd up.ticks top.out⟩
def popL:List Frame→List Frame
  | []=>[]
  | [t]=>[t]
  | top::up::r=>if top.left=0 then popL (up.take top::r) else top::up::r
termination_by l=>l.length
def pushF (n:Node):Frame:=⟨n,kids n,0,if kids n=0 then min 4097 n.n else 0⟩
def measGo:List Node→List Frame→List Frame
  | [],s=>s
  | n::l,s=>measGo l (popL (pushF n::s))
def measured (L:List Node):Frame:=nth (measGo L [⟨⟨0,0,0⟩,1,0,0⟩]).reverse 0
structure FrameOk (p:Int) (f:Frame):Prop where
  n0:f.node.kind≠4∨0<f.node.n∨f.left<0
  left : -1 - p≤f.left∧f.left≤128
  depth:0≤f.depth∧f.depth≤p
  ticks:0≤f.ticks∧f.ticks≤4097
theorem FrameOk.more {p:Int} {f:Frame} (h:FrameOk p f):FrameOk (p+1) f:=⟨h.n0,by have:=h.left;omega,by have:=h.depth;omega,h.ticks⟩
theorem nadd_bd {a b:Int} (ha:0≤a) (hb:0≤b):0≤nadd a b∧nadd a b≤4097:=by unfold nadd;omega
theorem ntimes_bd {a b:Int} (ha:0≤a) (hb:0≤b):0≤ntimes a b∧ntimes a b≤4097:=by
  unfold ntimes
  have h1:0≤min 4097 a*b:=Int.mul_nonneg (by omega) hb
  omega
theorem Frame.out_bd {p:Int} {f:Frame} (h:FrameOk p f) (hl:f.left=0):0≤f.out∧f.out≤4097:=by
  unfold Frame.out
  have:=h.n0;have:=h.ticks
  split
  · exact ntimes_bd (by omega) (by omega)
  · omega
theorem FrameOk.took {p:Int} {u t:Frame} (hu:FrameOk p u) (ht:FrameOk p t) (hl:t.left=0):FrameOk (p+1) (u.take t):=by
  have a:=hu.n0;have b:=hu.left;have c:=hu.depth;have d:=hu.ticks
  have e:=ht.depth;have o:=Frame.out_bd ht hl
  refine ⟨?_, ?_, ?_, ?_⟩
  · simp only [Frame.take];omega
  · simp only [Frame.take];omega
  · simp only [Frame.take];omega
  · simp only [Frame.take];exact nadd_bd d.1 o.1
theorem pushF_ok {p:Int} {n:Node} (hp:0≤p):FrameOk p (pushF n):=by
  have hk:=kids_bd n
  refine ⟨?_,by simp only [pushF];omega,by simp only [pushF];omega, ?_⟩
  · simp only [pushF]
    by_cases h:kids n<0
    · omega
    · right;left
      unfold kids at h
      (repeat' split at h)<;>omega
  · simp only [pushF]
    split
    · rename_i h
      have:1≤n.n:=by unfold kids at h;(repeat' split at h)<;>omega
      omega
    · omega
def FramesOk (p:Int) (S:List Frame):Prop:=∀ f∈S,FrameOk p f
theorem FramesOk.more {p:Int} {S:List Frame} (h:FramesOk p S):FramesOk (p+1) S:=fun f hf=>(h f hf).more
theorem nth_cons0 {α:Type} [Inhabited α] {a:α} {l:List α}:nth (a::l) 0=a:=by simp [nth]
end Go.Ab.T
namespace Go.Ab.T
open Go Go.Ab
set_option maxHeartbeats 4000000
theorem rev_top {top up:Frame} {r:List Frame}:nth (top::up::r).reverse (r.length+1)=top:=by simp [nth,List.getD]
theorem rev_up {top up:Frame} {r:List Frame}:nth (top::up::r).reverse r.length=up:=by simp [nth,List.getD]
theorem rev_take {top up:Frame} {r:List Frame}:(top::up::r).reverse.take (r.length+1)=(up::r).reverse:=by
  rw [List.reverse_cons,List.take_append_of_le_length (by simp)]
  exact List.take_of_length_le (by simp)
theorem rev_set {up u:Frame} {r:List Frame}:(up::r).reverse.set r.length u=(u::r).reverse:=by
  rw [List.reverse_cons,List.reverse_cons,List.set_append_right _ _ (by simp)]
  simp
structure MeasJ (v:V) (len i:Nat) (F:List Frame) (p:Nat) (S:List Frame) (st:V) (e:Env) (h:AH):Prop where
  e4:e 4=st
  e12:e 12=v
  e13:e 13=.i .i64 len
  e14:e 14=.i .i64 i
  hl:h.lim=0
  sl:Sl 0 h 6 st (S.reverse.map Frame.enc)
  ok:FramesOk p S
  cnt:p+S.length=i+2
  pos:1≤S.length
  fin:popL S=F
theorem meas_inner {v : V} {len i : Nat} {F : List Frame} {Q : Ex → Env → AH → Prop} (hi : i < 4294967296)
    (hQ:∀ p st e h',MeasJ v len i F p F st e h'→Q (.ex 2) e h'):∀ n e h',(∃ p S st,n=S.length∧MeasJ v len i F p S st e h')→ZC tp (.loop Q72_17) e h' Q:=by
  refine ZC_loop_n _ ?_
  rintro n e h' ⟨p,S,st,rfl,⟨e4,e12,e13,e14,hl,sl,ok,cnt,pos,fin⟩⟩ ih
  obtain ⟨slen,sbig,slt,slo,sget,sat,srow,sc,scs⟩:=sl.facts
  have srl:=fun j (hj:j<(S.reverse.map Frame.enc).length)=>sl.rowlt hj
  simp only [List.length_reverse,List.length_map] at slen sbig slt slo sget sat srow srl
  rw [ZC_unf Q72_17.eq_1]
  simp (disch:=omega)only[go_sem, *]
  refine Wg_dec (fun hc=>?_) (fun hc=>?_)
  · obtain ⟨top,up,r,rfl⟩:∃ top up r,S=top::up::r:=by
      match S,hc with
      | [],hc=>simp at hc
      | [_],hc=>simp at hc
      | a::b::r,_=>exact ⟨a,b,r,rfl⟩
    have hr0:=rev_top (top:=top) (up:=up) (r:=r)
    have hr1:=rev_up (top:=top) (up:=up) (r:=r)
    simp only [List.length_cons,Int.natCast_add,Int.natCast_one] at slen sbig slt slo sget sat srow srl cnt hc
    have k1:((r.length:Int)+1).toNat=r.length+1:=by omega
    have k2:((r.length:Int)+1+1 - 2).toNat=r.length:=by omega
    have srl0:=srl r.length (by omega)
    have spre:∀ {k:IntKind} {j:Int} {cs:List (List V)},0≤j→j≤(r.length:Int)+1+1→slc2 (some ⟨6,cs⟩) 6 st none (some (.i k j)) none=some (trunc st j.toNat):=fun h0 h1=>sl.pre h0 (by simp;omega)
    have okt:=ok top (by simp)
    have oku:=ok up (by simp)
    have bt:=okt.left;have bd:=okt.depth;have bk:=okt.ticks
    have ut:=oku.left;have ud:=oku.depth;have uk:=oku.ticks
    have sct:=cells_trunc (n:=r.length+1) scs
    simp (disch:=omega)only[go_sem, *]
    refine Wb_dec (fun hc2=>?_) (fun hc2=>?_)
    · simp (disch:=omega)only[go_sem, *]
      refine Wb_dec (fun hc3=>?_) (fun hc3=>?_)
      · have:=okt.n0
        simp (disch:=omega)only[go_sem, *]
        have hb:=ntimes_bd (a:=top.node.n) (b:=top.ticks) (by omega) (by omega)
        refine Pf.go ((ntimes_ev (by omega) (by omega))) (by simp only [go_sem]) fun _=>?_;simp (disch:=omega)only[go_sem, *]
        refine Pf.go ((nadd_ev (by omega) hb.1)) (by simp only [go_sem]) fun _=>?_;simp (disch:=omega)only[go_sem, *]
        refine ih _ _ _ ?_ ⟨p+1,up.take top::r,trunc st (r.length+1),rfl, ?_, ?_, ?_, ?_, ?_, ?_, ?_, ?_, ?_, ?_⟩
        · simp
        · simp (disch:=omega)only[go_sem, *]
        · simp (disch:=omega)only[go_sem, *]
        · simp (disch:=omega)only[go_sem, *]
        · simp (disch:=omega)only[go_sem, *]
        · simp (disch:=omega)only[go_sem, *]
        · have st1:=sl.truncd (n:=r.length+1) (by simp)
          rw [← List.map_take,rev_take] at st1
          rw [← rev_set (up:=up)]
          refine st1.setT (by simp) ?_ ?_
          · simp (disch:=omega)only[go_sem, *]
            omega
          · simp (disch:=omega)only[go_sem, *]
            simp only [Frame.take,Frame.out,if_pos hc3]
        · intro f hf
          rcases List.mem_cons.1 hf with rfl | hf
          · exact FrameOk.took oku okt hc2
          · exact (ok f (by simp [hf])).more
        · simp only [List.length_cons] at cnt ⊢;omega
        · simp
        · rw [← fin];conv=>rhs;rw [popL,if_pos hc2]
      · simp (disch:=omega)only[go_sem, *]
        refine Pf.go ((nadd_ev (by omega) (by omega))) (by simp only [go_sem]) fun _=>?_;simp (disch:=omega)only[go_sem, *]
        refine ih _ _ _ ?_ ⟨p+1,up.take top::r,trunc st (r.length+1),rfl, ?_, ?_, ?_, ?_, ?_, ?_, ?_, ?_, ?_, ?_⟩
        · simp
        · simp (disch:=omega)only[go_sem, *]
        · simp (disch:=omega)only[go_sem, *]
        · simp (disch:=omega)only[go_sem, *]
        · simp (disch:=omega)only[go_sem, *]
        · simp (disch:=omega)only[go_sem, *]
        · have st1:=sl.truncd (n:=r.length+1) (by simp)
          rw [← List.map_take,rev_take] at st1
          rw [← rev_set (up:=up)]
          refine st1.setT (by simp) ?_ ?_
          · simp (disch:=omega)only[go_sem, *]
            omega
          · simp (disch:=omega)only[go_sem, *]
            simp only [Frame.take,Frame.out,if_neg hc3]
        · intro f hf
          rcases List.mem_cons.1 hf with rfl | hf
          · exact FrameOk.took oku okt hc2
          · exact (ok f (by simp [hf])).more
        · simp only [List.length_cons] at cnt ⊢;omega
        · simp
        · rw [← fin];conv=>rhs;rw [popL,if_pos hc2]
    · simp (disch:=omega)only[go_sem, *]
      have hF:top::up::r=F:=by rw [← fin,popL,if_neg hc2]
      rw [hF] at fin sl ok pos
      refine hQ p st _ _ ⟨?_, ?_, ?_, ?_,hl,sl,ok, ?_,pos,fin⟩
      · simp (disch:=omega)only[go_sem, *]
      · simp (disch:=omega)only[go_sem, *]
      · simp (disch:=omega)only[go_sem, *]
      · simp (disch:=omega)only[go_sem, *]
      · rw [← hF];simpa using cnt
  · simp (disch:=omega)only[go_sem, *]
    have hF:S=F:=by
      match S,hc,pos with
      | [t],_,_=>rw [← fin,popL]
      | a::b::r,hc,_=>simp at hc;omega
    rw [hF] at fin sl ok pos cnt
    refine hQ p st _ _ ⟨?_, ?_, ?_, ?_,hl,sl,ok,cnt,pos,fin⟩
    · simp (disch:=omega)only[go_sem, *]
    · simp (disch:=omega)only[go_sem, *]
    · simp (disch:=omega)only[go_sem, *]
    · simp (disch:=omega)only[go_sem, *]
theorem popL_pos:∀ (S:List Frame),1≤S.length→1≤(popL S).length
  | [],h=>by simp at h
  | [t],_=>by rw [popL];simp
  | t::u::r,_=>by
    rw [popL]
    split
    · exact popL_pos (u.take t::r) (by simp)
    · simp
termination_by S=>S.length
theorem measure_ev {L:List Node}:Pf tp i_Q72 [.fl 3 (L.map Node.enc)] (.tup [.i .i64 (measured L).depth,.i .i64 (measured L).ticks]):=by
  refine Pf_go fn_Q72 (by simp [t_Q72]) fun rp=>?_;unfold t_Q72;simp (disch:=omega)only[go_sem, *]
  have hL:=rp.head.len
  refine ZC_loop_n (fun n e h=>∃ (i:Nat) (st:V) (p:Nat) (S:List Frame),n=L.length - i∧h.lim=0∧e 12=.fl 3 (L.map Node.enc)∧e 13=.i .i64 L.length∧e 14=.i .i64 i∧e 4=st∧i≤L.length∧Sl 0 h 6 st (S.reverse.map Frame.enc)∧FramesOk p S∧p+S.length=i+1∧1≤S.length∧measGo (L.drop i) S=measGo L [⟨⟨0,0,0⟩,1,0,0⟩]) ?_ _ _ _ ⟨0,.sl 0 0 1 1,0,[⟨⟨0,0,0⟩,1,0,0⟩],rfl, ?_⟩
  · rintro n e h ⟨i,st,p,S,rfl,hl,e12,e13,e14,e4,hi,sl,ok,cnt,pos,hz⟩ ih
    rw [ZC_unf Q72_19.eq_1]
    simp (disch:=omega)only[go_sem, *]
    refine Wb_dec (fun hc=>?_) (fun hc=>?_)
    · rw [drop_nth (by omega),measGo] at hz
      have hkb:=kids_bd (nth L i)
      simp (disch:=omega)only[go_sem, *]
      refine Pf.go (kids_ev) (by simp only [go_sem]) fun _=>?_;simp (disch:=omega)only[go_sem, *]
      have x1:Ext h ((h.alloc ⟨3,[[.i .i64 0,.i .i64 0,.i .i64 0]]⟩).put h.next ⟨3,[Node.enc (nth L i)]⟩):=by (repeat (first | exact Ext.refl _ | refine Ext.alloc ?_ _ | (refine Ext.put ?_ _ _ ?_;rotate_left;(first | omega | (simp only [next_alloc,next_put];omega)))))
      refine app_rule (R:=S.reverse.map Frame.enc) ((sl.ext x1).alloc _) (by simp only [go_sem, *]) (Nat.zero_le _) (by simp;omega) ?_
      intro w h4 s4 g4
      have hl4:=g4.lim
      have hn4:=g4.next
      have s5:Sl 0 h4 6 w ((⟨nth L i,kids (nth L i),0,0⟩::S).reverse.map Frame.enc):=by simpa [Frame.enc] using s4
      obtain ⟨slen,sbig,slt,slo,sget,sat,srow,sc,scs⟩:=s5.facts
      simp only [List.length_reverse,List.length_cons,Int.natCast_add,Int.natCast_one] at slen sbig slt slo sget sat srow
      have srl:=s5.rowlt (j:=S.length) (by simp)
      simp only [next_alloc,next_put,lim_alloc,lim_put] at hn4 hl4
      have hb4:h4.get h.next=some ⟨3,[Node.enc (nth L i)]⟩:=by
        have hne:nilV st=true∨h.next≠idV st:=by
          refine .inr ?_
          have:=(sl.facts).lt (by simp;omega)
          omega
        rw [g4.get _ (by simp only [next_alloc,next_put];omega) hne]
        simp (disch:=omega)only[go_sem, *]
      have hrv:nth (⟨nth L i,kids (nth L i),0,0⟩::S).reverse S.length=⟨nth L i,kids (nth L i),0,0⟩:=by simp [nth,List.getD]
      have hnl:(0:Int)≤L.length:=by omega
      simp (disch:=omega)only[Node.enc] at hb4
      rw [hl] at hl4
      simp (disch:=omega)only[go_sem, *]
      refine Wb_dec (fun hc2=>?_) (fun hc2=>?_)
      · have hkn:1≤(nth L i).n:=by unfold kids at hc2;(repeat' split at hc2)<;>omega
        have hrv0:=hrv
        rw [hc2] at hrv0
        simp (disch:=omega)only[go_sem, *]
        refine meas_inner (v:=.fl 3 (L.map Node.enc)) (len:=L.length) (i:=i) (F:=popL (pushF (nth L i)::S)) (by omega) ?_ _ _ _ ⟨p,pushF (nth L i)::S,w,rfl, ?_, ?_, ?_, ?_, ?_, ?_, ?_, ?_, ?_, ?_⟩
        · intro p' st' e' h' m
          have hpos:=popL_pos (pushF (nth L i)::S) (by simp)
          obtain ⟨m4,m12,m13,m14,ml,ms,mo,mc,mp,mf⟩:=m
          simp (disch:=omega)only[go_sem, *]
          refine ih _ _ _ ?_ ⟨i+1,st',p',popL (pushF (nth L i)::S),rfl, ?_⟩
          · omega
          · simp (disch:=omega)only[go_sem, *]
            ((repeat' refine And.intro ?_ ?_)<;>first | omega | assumption | (exact ms))
        · simp (disch:=omega)only[go_sem, *]
        · simp (disch:=omega)only[go_sem, *]
        · simp (disch:=omega)only[go_sem, *]
        · simp (disch:=omega)only[go_sem, *]
        · simp (disch:=omega)only[go_sem, *]
        · (have hpf:pushF (nth L i)=⟨nth L i,kids (nth L i),0,min 4097 (nth L i).n⟩:=(by simp only [pushF,if_pos hc2]);rw [hpf,←rev_set (up:=⟨nth L i,kids (nth L i),0,0⟩)];refine s5.setT (j:=S.length) (by simp) ?_ ?_;all_goals (first | (simp (disch:=omega)only[go_sem, *];done) | (simp (disch:=omega)only[go_sem, *];omega) | omega))
        · intro f hf
          rcases List.mem_cons.1 hf with rfl | hf
          · exact pushF_ok (by omega)
          · exact ok f hf
        · simp only [List.length_cons];omega
        · simp
        · rfl
      · simp (disch:=omega)only[go_sem, *]
        refine meas_inner (v:=.fl 3 (L.map Node.enc)) (len:=L.length) (i:=i) (F:=popL (pushF (nth L i)::S)) (by omega) ?_ _ _ _ ⟨p,pushF (nth L i)::S,w,rfl, ?_, ?_, ?_, ?_, ?_, ?_, ?_, ?_, ?_, ?_⟩
        · intro p' st' e' h' m
          have hpos:=popL_pos (pushF (nth L i)::S) (by simp)
          obtain ⟨m4,m12,m13,m14,ml,ms,mo,mc,mp,mf⟩:=m
          simp (disch:=omega)only[go_sem, *]
          refine ih _ _ _ ?_ ⟨i+1,st',p',popL (pushF (nth L i)::S),rfl, ?_⟩
          · omega
          · simp (disch:=omega)only[go_sem, *]
            ((repeat' refine And.intro ?_ ?_)<;>first | omega | assumption | (exact ms))
        · simp (disch:=omega)only[go_sem, *]
        · simp (disch:=omega)only[go_sem, *]
        · simp (disch:=omega)only[go_sem, *]
        · simp (disch:=omega)only[go_sem, *]
        · simp (disch:=omega)only[go_sem, *]
        · (have hpf:pushF (nth L i)=⟨nth L i,kids (nth L i),0,0⟩:=(by simp only [pushF,if_neg hc2]);rw [hpf];exact s5)
        · intro f hf
          rcases List.mem_cons.1 hf with rfl | hf
          · exact pushF_ok (by omega)
          · exact ok f hf
        · simp only [List.length_cons];omega
        · simp
        · rfl
    · rw [List.drop_eq_nil_of_le (by omega),measGo] at hz
      have hme:measured L=nth S.reverse 0:=by rw [measured,←hz]
      obtain ⟨slen,sbig,slt,slo,sget,sat,srow,_,_⟩:=sl.facts
      simp only [List.length_reverse] at slen sbig slt slo sget sat srow
      have z0:Int.toNat 0=0:=rfl
      have srow0:=srow 0 (by omega)
      rw [Nat.add_zero] at srow0
      have hsl:(0:Int)<S.length:=by omega
      simp (disch:=omega)only[go_sem, *]
  · simp (disch:=omega)only[go_sem, *]
    refine ⟨?_, ?_⟩
    · exact .inr ⟨0,0,1,_,rfl,rfl,by simp,by simp [Frame.enc],by simp,by simp [AH.alloc,AH.emp],Nat.le_refl _,by simp⟩
    · intro f hf
      simp only [List.mem_singleton] at hf
      subst hf
      exact ⟨.inl (by simp),by simp,by simp,by simp⟩
end Go.Ab.T
namespace Go.Ab.T
open Go Go.Ab
def lenB (L:List Node):Bool:=decide (wholeB L=true∧(measured L).ticks≤4096)
def lenR (L:List Node):Int:=if lenB L=true then (measured L).ticks else 0
theorem nodeLength_ev {L:List Node}:Pf tp i_Q42 [.fl 3 (L.map Node.enc)] (.tup [.i .i64 (lenR L),.b (lenB L)]):=by
  refine Pf_go fn_Q42 (by simp [t_Q42]) fun rp=>?_;unfold t_Q42;simp (disch:=omega)only[go_sem, *]
  refine Pf.go (whole_ev) (by simp only [go_sem]) fun _=>?_;simp (disch:=omega)only[go_sem, *]
  refine Wb_of (fun hc=>?_) (fun hc=>?_)
  · simp (disch:=omega)only[go_sem, *]
    simp at hc
    simp [lenR,lenB,hc]
  · simp at hc
    simp (disch:=omega)only[go_sem, *]
    refine Pf.go (measure_ev) (by simp only [go_sem]) fun _=>?_;simp (disch:=omega)only[go_sem, *]
    refine Wb_dec (fun hc2=>?_) (fun hc2=>?_)
    · simp (disch:=omega)only[go_sem, *]
      simp [lenR,lenB,hc,hc2]
    · simp (disch:=omega)only[go_sem, *]
      simp [lenR,lenB,hc,hc2]
def depR (L:List Node):Int:=if wholeB L=true then (measured L).depth else 0
theorem nodeDepth_ev {L:List Node}:Pf tp i_Q44 [.fl 3 (L.map Node.enc)] (.i .i64 (depR L)):=by
  refine Pf_go fn_Q44 (by simp [t_Q44]) fun rp=>?_;unfold t_Q44;simp (disch:=omega)only[go_sem, *]
  refine Pf.go (whole_ev) (by simp only [go_sem]) fun _=>?_;simp (disch:=omega)only[go_sem, *]
  refine Wb_of (fun hc=>?_) (fun hc=>?_)
  · simp (disch:=omega)only[go_sem, *]
    simp at hc
    simp [depR,hc]
  · simp at hc
    simp (disch:=omega)only[go_sem, *]
    refine Pf.go (measure_ev) (by simp only [go_sem]) fun _=>?_;simp (disch:=omega)only[go_sem, *]
    simp [depR,hc]
def rightR (L:List Node):Int:=if 128<L.length then 3 else if wholeB L=false then 12 else if 16<depR L then 14 else if lenB L=false then 18 else 0
theorem nodeRight_ev {L:List Node}:Pf tp i_Q19 [.fl 3 (L.map Node.enc)] (.i .i64 (rightR L)):=by
  refine Pf_go fn_Q19 (by simp [t_Q19]) fun rp=>?_;unfold t_Q19;simp (disch:=omega)only[go_sem, *]
  refine Pf.go (nodeLength_ev) (by simp only [go_sem]) fun _=>?_;simp (disch:=omega)only[go_sem, *]
  refine Wb_dec (fun hc=>?_) (fun hc=>?_)
  · simp (disch:=omega)only[go_sem, *]
    simp only [rightR];rw [if_pos (by omega)]
  simp (disch:=omega)only[go_sem, *]
  refine Pf.go (whole_ev) (by simp only [go_sem]) fun _=>?_;simp (disch:=omega)only[go_sem, *]
  refine Wb_of (fun hc2=>?_) (fun hc2=>?_)
  · simp (disch:=omega)only[go_sem, *]
    simp at hc2
    simp only [rightR];rw [if_neg (by omega),if_pos hc2]
  simp at hc2
  simp (disch:=omega)only[go_sem, *]
  refine Pf.go (nodeDepth_ev) (by simp only [go_sem]) fun _=>?_;simp (disch:=omega)only[go_sem, *]
  refine Wb_dec (fun hc3=>?_) (fun hc3=>?_)
  · simp (disch:=omega)only[go_sem, *]
    simp only [rightR];rw [if_neg (by omega),if_neg (by simp [hc2]),if_pos (by omega)]
  simp (disch:=omega)only[go_sem, *]
  refine Wb_of (fun hc4=>?_) (fun hc4=>?_)
  · simp (disch:=omega)only[go_sem, *]
    simp at hc4
    simp only [rightR];rw [if_neg (by omega),if_neg (by simp [hc2]),if_neg (by omega),if_pos hc4]
  · simp (disch:=omega)only[go_sem, *]
    simp at hc4
    simp only [rightR];rw [if_neg (by omega),if_neg (by simp [hc2]),if_neg (by omega),if_neg (by simp [hc4])]
end Go.Ab.T
namespace Go.Ab.T
open Go Go.Ab
def partR (x:Node):Int:=if x.kind=2 then -1 else x.part
theorem part_ev {x:Node}:Pf tp i_Q65 [.agg x.enc] (.i .i64 (partR x)):=by
  refine Pf_go fn_Q65 (by simp [t_Q65]) fun rp=>?_;unfold t_Q65;simp (disch:=omega)only[go_sem, *]
  repeat' (first | (refine Wg_dec (fun hc=>?_) (fun hc=>?_)<;>simp (disch:=omega)only[go_sem, *]) | (refine Wb_dec (fun hc=>?_) (fun hc=>?_)<;>simp (disch:=omega)only[go_sem, *]))
  · simp [partR, *]
  · simp [partR, *]
theorem fine_ev {x:Node}:Pf tp i_Q98 [.agg x.enc] (.b (decide (0≤kids x))):=by
  refine Pf_go fn_Q98 (by simp [t_Q98]) fun rp=>?_;unfold t_Q98;simp (disch:=omega)only[go_sem, *]
  repeat' (first | (refine Wg_dec (fun hc=>?_) (fun hc=>?_)<;>simp (disch:=omega)only[go_sem, *]) | (refine Wb_dec (fun hc=>?_) (fun hc=>?_)<;>simp (disch:=omega)only[go_sem, *]))
  all_goals unfold kids
  all_goals rw [Bool.eq_iff_iff]
  all_goals (repeat' split)
  all_goals simp only [decide_eq_true_eq,Bool.false_eq_true,false_iff,true_iff,iff_true,iff_false]
  all_goals omega
theorem kids_all (x:Node) (h:0≤kids x):(x.kind=3→kids x=x.n)∧(x.kind=4→kids x=1)∧(x.kind≠3→x.kind≠4→kids x=0):=by
  unfold kids at h ⊢
  refine ⟨fun hk=>?_,fun hk=>?_,fun h3 h4=>?_⟩<;>(repeat' split)<;>(repeat' split at h)<;>omega
set_option maxHeartbeats 4000000 in
theorem refSize_ev {L:List Node} {a:Int}:Pf tp i_Q74 [.fl 3 (L.map Node.enc),.i .i64 a] (.i .i64 (size L a)):=by
  refine Pf_go fn_Q74 (by simp [t_Q74]) fun rp=>?_;unfold t_Q74;simp (disch:=omega)only[go_sem, *]
  have hL:=rp.head.len
  repeat' (first | (refine Wg_dec (fun hc=>?_) (fun hc=>?_)<;>simp (disch:=omega)only[go_sem, *]) | (refine Wb_dec (fun hc=>?_) (fun hc=>?_)<;>simp (disch:=omega)only[go_sem, *]))
  · simp [size];omega
  · simp [size];omega
  · refine ZC_loop_n (fun n e h=>∃ (i:Nat) (left:Int),n=L.length - i∧h.lim=0∧e 0=.fl 3 (L.map Node.enc)∧e 1=.i .i64 a∧e 5=.i .i64 left∧e 6=.i .i64 i∧a≤i∧i≤L.length∧0<left∧left≤1+128*i∧szGo (L.drop i) left (i - a)=size L a) ?_ _ _ _ ⟨a.toNat,1,rfl, ?_⟩
    · rintro n e h ⟨i,left,rfl,hl,e0,e1,e5,e6,hi1,hi2,hl1,hl2,hz⟩ ih
      rw [ZC_unf Q74_16.eq_1]
      simp (disch:=omega)only[go_sem, *]
      have hk:=kids_bd (nth L i)
      refine Wb_dec (fun hc=>?_) (fun hc=>?_)
      · rw [drop_nth (by omega),szGo] at hz
        simp (disch:=omega)only[go_sem, *]
        refine Pf.go (fine_ev) (by simp only [go_sem]) fun _=>?_;simp (disch:=omega)only[go_sem, *]
        refine Wb_dec (fun hc2=>?_) (fun hc2=>?_)
        · rw [if_pos (by omega)] at hz
          simp (disch:=omega)only[go_sem, *]
        · rw [if_neg (by omega)] at hz
          have hka:=kids_all (nth L i) (by omega)
          simp (disch:=omega)only[go_sem, *]
          repeat' (first | (refine Wg_dec (fun hc=>?_) (fun hc=>?_)<;>simp (disch:=omega)only[go_sem, *]) | (refine Wb_dec (fun hc=>?_) (fun hc=>?_)<;>simp (disch:=omega)only[go_sem, *]))
          all_goals first
            | (rw [if_pos (by omega)] at hz
               rw [hz])
            | (rw [if_pos (by omega)] at hz
               rw [← hz];omega)
            | (rw [if_neg (by omega)] at hz
               refine ih _ _ _ ?_ ⟨i+1,left+(kids (nth L i) - 1),rfl, ?_⟩
               · omega
               · simp (disch:=omega)only[go_sem, *]
                 refine ⟨by first | rfl | (congr 1;omega),by omega,by omega,by omega,by omega, ?_⟩
                 rw [← hz];congr 1<;>omega)
      · rw [List.drop_eq_nil_of_le (by omega),szGo] at hz
        simp (disch:=omega)only[go_sem, *]
    · simp (disch:=omega)only[go_sem, *]
      ((repeat' refine And.intro ?_ ?_)<;>first | omega | assumption | ((congr 1;omega)) | ((simp only [size];rw [if_neg (by omega)];congr 1;omega)))
end Go.Ab.T
namespace Go.Ab.T
open Go Go.Ab
inductive Fo where
  | nil
  | leaf (x:Node) (r:Fo)
  | seq (x:Node) (k r:Fo)
  | rep (x:Node) (k r:Fo)
namespace Fo
def flat:Fo→List Node
  | nil=>[]
  | leaf x r=>x::flat r
  | seq x k r=>x::(flat k++flat r)
  | rep x k r=>x::(flat k++flat r)
def count:Fo→Nat
  | nil=>0
  | leaf _ r=>count r+1
  | seq _ _ r=>count r+1
  | rep _ _ r=>count r+1
def ok:Fo→Prop
  | nil=>True
  | leaf x r=>T.kids x=0∧ok r
  | seq x k r=>x.kind=3∧T.kids x=count k∧0<count k∧ok k∧ok r
  | rep x k r=>x.kind=4∧T.kids x=1∧count k=1∧ok k∧ok r
def depth:Fo→Nat
  | nil=>0
  | leaf _ r=>max 1 (depth r)
  | seq _ k r=>max (depth k+1) (depth r)
  | rep _ k r=>max (depth k+1) (depth r)
def len:Fo→Int
  | nil=>0
  | leaf x r=>x.n+len r
  | seq _ k r=>len k+len r
  | rep x k r=>x.n*len k+len r
theorem split:∀ (f:Fo) (a b:Nat),count f=a+b→ok f→∃ f1 f2,flat f=flat f1++flat f2∧count f1=a∧count f2=b∧ok f1∧ok f2
  | f,0,b,hc,ho=>⟨nil,f,by simp [flat],rfl,by omega,trivial,ho⟩
  | nil,a+1,b,hc,ho=>by simp only [count] at hc;omega
  | leaf x r,a+1,b,hc,ho=>by
    obtain ⟨f1,f2,h1,h2,h3,h4,h5⟩:=split r a b (by simp only [count] at hc;omega) ho.2
    exact ⟨leaf x f1,f2,by simp [flat,h1],by simp [count,h2],h3,⟨ho.1,h4⟩,h5⟩
  | seq x k r,a+1,b,hc,ho=>by
    obtain ⟨f1,f2,h1,h2,h3,h4,h5⟩:=split r a b (by simp only [count] at hc;omega) ho.2.2.2.2
    exact ⟨seq x k f1,f2,by simp [flat,h1],by simp [count,h2],h3,⟨ho.1,ho.2.1,ho.2.2.1,ho.2.2.2.1,h4⟩,h5⟩
  | rep x k r,a+1,b,hc,ho=>by
    obtain ⟨f1,f2,h1,h2,h3,h4,h5⟩:=split r a b (by simp only [count] at hc;omega) ho.2.2.2.2
    exact ⟨rep x k f1,f2,by simp [flat,h1],by simp [count,h2],h3,⟨ho.1,ho.2.1,ho.2.2.1,ho.2.2.2.1,h4⟩,h5⟩
end Fo
theorem Fo.nil_of {f:Fo} (h:f.count=0):f=.nil:=by cases f<;>simp [Fo.count] at h ⊢
theorem sz_flat:∀ (f:Fo) (R:List Node) (left n:Int),f.ok→((f.count:Int)<left→szGo (f.flat++R) left n=szGo R (left - f.count) (n+f.flat.length))∧(0<f.count→left=f.count→szGo (f.flat++R) left n=n+f.flat.length)
  | .nil,R,left,n,ho=>⟨fun _=>by simp [Fo.flat,Fo.count],fun h=>by simp [Fo.count] at h⟩
  | .leaf x r,R,left,n,ho=>by
    obtain ⟨hk,hor⟩:=ho
    have ih:=sz_flat r R (left+(kids x - 1)) (n+1) hor
    simp only [Fo.flat,Fo.count,List.cons_append,szGo,List.length_cons]
    rw [if_neg (by omega)]
    refine ⟨fun h=>?_,fun _ h=>?_⟩
    · rw [if_neg (by omega),ih.1 (by omega)];congr 1<;>omega
    · by_cases hr:r.count=0
      · rw [if_pos (by omega),Fo.nil_of hr];simp [Fo.flat]
      · rw [if_neg (by omega),ih.2 (by omega) (by omega)];omega
  | .seq x k r,R,left,n,ho=>by
    obtain ⟨h3,hk,hp,hok,hor⟩:=ho
    have i1:=sz_flat k (r.flat++R) (left+(kids x - 1)) (n+1) hok
    have i2:=sz_flat r R (left+(kids x - 1) - k.count) (n+1+k.flat.length) hor
    simp only [Fo.flat,Fo.count,List.cons_append,szGo,List.length_cons,List.append_assoc,List.length_append]
    rw [if_neg (by omega)]
    refine ⟨fun h=>?_,fun _ h=>?_⟩
    · rw [if_neg (by omega),i1.1 (by omega),i2.1 (by omega)];congr 1<;>omega
    · by_cases hr:r.count=0
      · rw [if_neg (by omega),i1.2 (by omega) (by omega),Fo.nil_of hr];simp [Fo.flat];omega
      · rw [if_neg (by omega),i1.1 (by omega),i2.2 (by omega) (by omega)];omega
  | .rep x k r,R,left,n,ho=>by
    obtain ⟨h3,hk,hp,hok,hor⟩:=ho
    have i1:=sz_flat k (r.flat++R) (left+(kids x - 1)) (n+1) hok
    have i2:=sz_flat r R (left+(kids x - 1) - k.count) (n+1+k.flat.length) hor
    simp only [Fo.flat,Fo.count,List.cons_append,szGo,List.length_cons,List.append_assoc,List.length_append]
    rw [if_neg (by omega)]
    refine ⟨fun h=>?_,fun _ h=>?_⟩
    · rw [if_neg (by omega),i1.1 (by omega),i2.1 (by omega)];congr 1<;>omega
    · by_cases hr:r.count=0
      · rw [if_neg (by omega),i1.2 (by omega) (by omega),Fo.nil_of hr];simp [Fo.flat];omega
      · rw [if_neg (by omega),i1.1 (by omega),i2.2 (by omega) (by omega)];omega
theorem kids_cases (x:Node) (h:0≤kids x):(kids x=0∧x.kind≠3∧x.kind≠4)∨(x.kind=3∧0<kids x)∨(x.kind=4∧kids x=1):=by
  have hk:=kids_all x h
  by_cases h3:x.kind=3
  · right;left
    refine ⟨h3, ?_⟩
    have:=hk.1 h3
    unfold kids at h this ⊢
    (repeat' split at h)<;>omega
  · by_cases h4:x.kind=4
    · exact .inr (.inr ⟨h4,hk.2.1 h4⟩)
    · exact .inl ⟨hk.2.2 h3 h4,h3,h4⟩
theorem sz_parse:∀ (L:List Node) (left:Nat) (n:Int),0<left→0≤n→szGo L left n≠0→∃ (f:Fo) (R:List Node),f.ok∧f.count=left∧L=f.flat++R∧szGo L left n=n+f.flat.length
  | [],left,n,hl,hn,hz=>by simp [szGo] at hz
  | x::r,left,n,hl,hn,hz=>by
    by_cases hk:kids x<0
    · rw [szGo,if_pos hk] at hz;exact absurd rfl hz
    · by_cases h0:(left:Int)+(kids x - 1)=0
      · have hkx:kids x=0:=by omega
        refine ⟨.leaf x .nil,r,⟨hkx,trivial⟩,by simp only [Fo.count];omega,by simp [Fo.flat], ?_⟩
        rw [szGo,if_neg hk,if_pos h0];simp [Fo.flat]
      · rw [szGo,if_neg hk,if_neg h0] at hz
        have e:(left:Int)+(kids x - 1)=((kids x).toNat+(left - 1):Nat):=by omega
        rw [e] at hz
        obtain ⟨f,R,hfo,hfc,hL,hs⟩:=sz_parse r _ (n+1) (by omega) (by omega) hz
        obtain ⟨f1,f2,h1,h2,h3,h4,h5⟩:=Fo.split f _ _ hfc hfo
        rcases kids_cases x (by omega) with ⟨c1,c2,c3⟩ | ⟨c1,c2⟩ | ⟨c1,c2⟩
        · refine ⟨.leaf x f,R,⟨c1,hfo⟩,by simp only [Fo.count];omega,by simp [Fo.flat,hL], ?_⟩
          rw [szGo,if_neg hk,if_neg h0,e,hs];simp only [Fo.flat,List.length_cons];omega
        · refine ⟨.seq x f1 f2,R,⟨c1,by omega,by omega,h4,h5⟩,by simp only [Fo.count];omega,by simp [Fo.flat,hL,h1], ?_⟩
          rw [szGo,if_neg hk,if_neg h0,e,hs,h1];simp only [Fo.flat,List.length_cons];omega
        · refine ⟨.rep x f1 f2,R,⟨c1,c2,by omega,h4,h5⟩,by simp only [Fo.count];omega,by simp [Fo.flat,hL,h1], ?_⟩
          rw [szGo,if_neg hk,if_neg h0,e,hs,h1];simp only [Fo.flat,List.length_cons];omega
theorem whole_iff (L:List Node):wholeB L=true↔∃ f:Fo,f.ok∧f.count=1∧L=f.flat:=by
  simp only [wholeB,decide_eq_true_eq]
  constructor
  · rintro ⟨hp,hs⟩
    unfold size at hs
    rw [if_neg (by omega)] at hs
    simp only [Int.toNat_zero,List.drop_zero] at hs
    obtain ⟨f,R,ho,hc,hL,hz⟩:=sz_parse L 1 0 (by omega) (by omega) (by simp only [Int.natCast_one];omega)
    refine ⟨f,ho,hc, ?_⟩
    simp only [Int.natCast_one] at hz
    rw [hz] at hs
    have:R=[]:=by
      have:=congrArg List.length hL
      simp only [List.length_append] at this
      exact List.length_eq_zero_iff.1 (by omega)
    rw [hL,this,List.append_nil]
  · rintro ⟨f,ho,hc,rfl⟩
    have hp:0<f.flat.length:=by cases f<;>simp [Fo.flat,Fo.count] at hc ⊢
    refine ⟨hp, ?_⟩
    unfold size
    rw [if_neg (by omega)]
    have:=(sz_flat f [] 1 0 ho).2 (by omega) (by omega)
    rw [List.append_nil] at this
    simp only [Int.toNat_zero,List.drop_zero]
    omega
theorem size_at {L:List Node} {a:Nat} {f:Fo} {R:List Node} (hd:L.drop a=f.flat++R) (ho:f.ok) (hc:f.count=1):size L a=f.flat.length:=by
  have hp:0<f.flat.length:=by cases f<;>simp [Fo.flat,Fo.count] at hc ⊢
  have hl:=congrArg List.length hd
  simp only [List.length_drop,List.length_append] at hl
  unfold size
  rw [if_neg (by omega),Int.toNat_natCast,hd,(sz_flat f R 1 0 ho).2 (by omega) (by omega)]
  omega
/-! ### The stack machine on a forest -/
def addF:Frame→Fo→Frame
  | t,.nil=>t
  | t,.leaf x r=>addF (t.take (pushF x)) r
  | t,.seq x k r=>addF (t.take (addF (pushF x) k)) r
  | t,.rep x k r=>addF (t.take (addF (pushF x) k)) r
theorem addF_left:∀ (f:Fo) (t:Frame),(addF t f).left=t.left - f.count
  | .nil,t=>by simp [addF,Fo.count]
  | .leaf x r,t=>by rw [addF,addF_left r];simp only [Frame.take,Fo.count];omega
  | .seq x k r,t=>by rw [addF,addF_left r];simp only [Frame.take,Fo.count];omega
  | .rep x k r,t=>by rw [addF,addF_left r];simp only [Frame.take,Fo.count];omega
theorem addF_node:∀ (f:Fo) (t:Frame),(addF t f).node=t.node
  | .nil,t=>by simp [addF]
  | .leaf x r,t=>by rw [addF,addF_node r];simp only [Frame.take]
  | .seq x k r,t=>by rw [addF,addF_node r];simp only [Frame.take]
  | .rep x k r,t=>by rw [addF,addF_node r];simp only [Frame.take]
theorem popL_stay {t u:Frame} {S:List Frame} (h:t.left≠0):popL (t::u::S)=t::u::S:=by rw [popL,if_neg h]
theorem popL_go {t u:Frame} {S:List Frame} (h:t.left=0):popL (t::u::S)=popL (u.take t::S):=by rw [popL,if_pos h]
theorem popL_one {t:Frame}:popL [t]=[t]:=by rw [popL]
theorem popL_live {t:Frame} {S:List Frame} (h:t.left≠0):popL (t::S)=t::S:=by
  cases S with
  | nil=>exact popL_one
  | cons u S=>exact popL_stay h
theorem meas_flat:∀ (f:Fo) (R:List Node) (t:Frame) (S:List Frame),f.ok→(f.count:Int)≤t.left→0<f.count→measGo (f.flat++R) (t::S)=measGo R (popL (addF t f::S))
  | .nil,R,t,S,ho,hl,hc=>by simp [Fo.count] at hc
  | .leaf x r,R,t,S,ho,hl,hc=>by
    obtain ⟨hk,hor⟩:=ho
    simp only [Fo.count] at hl
    have hp:(pushF x).left=0:=by simp only [pushF];exact hk
    have ht:(t.take (pushF x)).left=t.left - 1:=rfl
    rw [Fo.flat,List.cons_append,measGo,popL_go hp,addF]
    by_cases hr:r.count=0
    · rw [Fo.nil_of hr,Fo.flat,addF,List.nil_append]
    · rw [popL_live (by omega),meas_flat r R _ S hor (by omega) (by omega)]
  | .seq x k r,R,t,S,ho,hl,hc=>by
    obtain ⟨h3,hk,hp,hok,hor⟩:=ho
    simp only [Fo.count] at hl
    have hpl:(pushF x).left=k.count:=by simp only [pushF];exact hk
    have hak:=addF_left k (pushF x)
    have ht:(t.take (addF (pushF x) k)).left=t.left - 1:=rfl
    rw [Fo.flat,List.cons_append,List.append_assoc,measGo,popL_stay (by omega),addF,meas_flat k _ (pushF x) (t::S) hok (by omega) hp,popL_go (by omega)]
    by_cases hr:r.count=0
    · rw [Fo.nil_of hr,Fo.flat,addF,List.nil_append]
    · rw [popL_live (by omega),meas_flat r R _ S hor (by omega) (by omega)]
  | .rep x k r,R,t,S,ho,hl,hc=>by
    obtain ⟨h3,hk,hp,hok,hor⟩:=ho
    simp only [Fo.count] at hl
    have hpl:(pushF x).left=k.count:=by simp only [pushF];omega
    have hak:=addF_left k (pushF x)
    have ht:(t.take (addF (pushF x) k)).left=t.left - 1:=rfl
    rw [Fo.flat,List.cons_append,List.append_assoc,measGo,popL_stay (by omega),addF,meas_flat k _ (pushF x) (t::S) hok (by omega) (by omega),popL_go (by omega)]
    by_cases hr:r.count=0
    · rw [Fo.nil_of hr,Fo.flat,addF,List.nil_append]
    · rw [popL_live (by omega),meas_flat r R _ S hor (by omega) (by omega)]
theorem kids_n {x:Node} (h:0≤kids x):1≤x.n:=by
  unfold kids at h;(repeat' split at h)<;>omega
theorem Fo.len_pos:∀ (f:Fo),f.ok→0≤f.len∧(0<f.count→1≤f.len)
  | .nil,_=>by simp [Fo.len,Fo.count]
  | .leaf x r,ho=>by
    have:=Fo.len_pos r ho.2;have:=kids_n (x:=x) (by rw [ho.1];omega)
    simp only [Fo.len];omega
  | .seq x k r,ho=>by
    have:=Fo.len_pos r ho.2.2.2.2;have h1:=Fo.len_pos k ho.2.2.2.1;have:=ho.2.2.1
    simp only [Fo.len];omega
  | .rep x k r,ho=>by
    have:=Fo.len_pos r ho.2.2.2.2;have h1:=Fo.len_pos k ho.2.2.2.1;have:=ho.2.2.1
    have h2:=kids_n (x:=x) (by rw [ho.2.1];omega)
    have h3:1*1≤x.n*k.len:=Int.mul_le_mul h2 (by omega) (by omega) (by omega)
    simp only [Fo.len];omega
theorem addF_depth:∀ (f:Fo) (t:Frame),f.ok→0≤t.depth→(addF t f).depth=max t.depth f.depth
  | .nil,t,ho,ht=>by simp only [addF,Fo.depth];omega
  | .leaf x r,t,ho,ht=>by
    rw [addF,addF_depth r _ ho.2 (by simp only [Frame.take];omega)];simp only [Frame.take,pushF,Fo.depth];omega
  | .seq x k r,t,ho,ht=>by
    have:=addF_depth k (pushF x) ho.2.2.2.1 (by simp [pushF])
    simp only [pushF] at this
    rw [addF,addF_depth r _ ho.2.2.2.2 (by simp only [Frame.take];omega)];simp only [Frame.take,pushF,Fo.depth,this];omega
  | .rep x k r,t,ho,ht=>by
    have:=addF_depth k (pushF x) ho.2.2.2.1 (by simp [pushF])
    simp only [pushF] at this
    rw [addF,addF_depth r _ ho.2.2.2.2 (by simp only [Frame.take];omega)];simp only [Frame.take,pushF,Fo.depth,this];omega
theorem clip_mul {n l:Int} (hn:1≤n) (hl:1≤l):min 4097 (min 4097 n*min 4097 l)=min 4097 (n*l):=by
  by_cases h1:n≤4097
  · by_cases h2:l≤4097
    · rw [Int.min_eq_right h1,Int.min_eq_right h2]
    · have a:1*l≤n*l:=Int.mul_le_mul_of_nonneg_right hn (by omega)
      have b:1*4097≤n*4097:=Int.mul_le_mul_of_nonneg_right hn (by omega)
      rw [Int.min_eq_right h1,Int.min_eq_left (by omega:4097≤l)];omega
  · have a:n*1≤n*l:=Int.mul_le_mul_of_nonneg_left hl (by omega)
    have b:4097*1≤4097*min 4097 l:=Int.mul_le_mul_of_nonneg_left (by omega) (by omega)
    rw [Int.min_eq_left (by omega:4097≤n)];omega
theorem addF_ticks:∀ (f:Fo) (t:Frame),f.ok→0≤t.ticks∧t.ticks≤4097→(addF t f).ticks=min 4097 (t.ticks+f.len)
  | .nil,t,ho,ht=>by simp only [addF,Fo.len];omega
  | .leaf x r,t,ho,ht=>by
    have h1:=kids_n (x:=x) (by rw [ho.1];omega)
    have h4:x.kind≠4:=by
      have:=kids_cases x (by rw [ho.1];omega)
      rw [ho.1] at this;omega
    have hl:=(Fo.len_pos r ho.2).1
    have e:(t.take (pushF x)).ticks=min 4097 (t.ticks+x.n):=by
      simp only [Frame.take,Frame.out,pushF,nadd,if_neg h4,if_pos ho.1];omega
    rw [addF,addF_ticks r _ ho.2 (by rw [e];omega),e];simp only [Fo.len];omega
  | .seq x k r,t,ho,ht=>by
    have hk:=addF_ticks k (pushF x) ho.2.2.2.1 (by
      have:=ho.2.2.1;have:=ho.2.1
      simp only [pushF];rw [if_neg (by omega)];omega)
    have hl:=(Fo.len_pos r ho.2.2.2.2).1
    have hlk:=(Fo.len_pos k ho.2.2.2.1).1
    have h0:(pushF x).ticks=0:=by
      have:=ho.2.2.1;have:=ho.2.1
      simp only [pushF];rw [if_neg (by omega)]
    have e:(t.take (addF (pushF x) k)).ticks=min 4097 (t.ticks+k.len):=by
      simp only [Frame.take,Frame.out,addF_node,nadd,hk,h0]
      rw [if_neg (by simp only [pushF];have:=ho.1;omega)];omega
    rw [addF,addF_ticks r _ ho.2.2.2.2 (by rw [e];omega),e];simp only [Fo.len];omega
  | .rep x k r,t,ho,ht=>by
    have hk:=addF_ticks k (pushF x) ho.2.2.2.1 (by
      have:=ho.2.1
      simp only [pushF];rw [if_neg (by omega)];omega)
    have hl:=(Fo.len_pos r ho.2.2.2.2).1
    have hlk:=(Fo.len_pos k ho.2.2.2.1).2 (by have:=ho.2.2.1;omega)
    have h1:=kids_n (x:=x) (by rw [ho.2.1];omega)
    have h0:(pushF x).ticks=0:=by
      have:=ho.2.1
      simp only [pushF];rw [if_neg (by omega)]
    have hx:1*1≤x.n*k.len:=Int.mul_le_mul h1 hlk (by omega) (by omega)
    have e:(t.take (addF (pushF x) k)).ticks=min 4097 (t.ticks+x.n*k.len):=by
      simp only [Frame.take,Frame.out,addF_node,nadd,hk,h0,ntimes]
      rw [if_pos (by simp only [pushF];exact ho.1),Int.zero_add,show (pushF x).node.n=x.n from rfl,clip_mul h1 hlk];omega
    rw [addF,addF_ticks r _ ho.2.2.2.2 (by rw [e];omega),e];simp only [Fo.len];omega
theorem measured_flat {f:Fo} (ho:f.ok) (hc:f.count=1):(measured f.flat).depth=f.depth∧(measured f.flat).ticks=min 4097 f.len:=by
  have h:=meas_flat f [] ⟨⟨0,0,0⟩,1,0,0⟩ [] ho (by simp [hc]) (by omega)
  rw [List.append_nil,measGo,popL_one] at h
  have e:measured f.flat=addF ⟨⟨0,0,0⟩,1,0,0⟩ f:=by simp [measured,h,nth]
  rw [e,addF_depth f _ ho (by simp),addF_ticks f _ ho (by simp)]
  simp
end Go.Ab.T
namespace Go.Ab.T
open Go Go.Ab
set_option maxHeartbeats 1000000
@[go_sem] def E1 (x:Int):List V:=[.i .i64 x]
def posF:Nat→Fo→List Int
  | _,.nil=>[]
  | b,.leaf x r=>(b:Int)::posF (b+1) r
  | b,.seq x k r=>(b:Int)::posF (b+1+k.flat.length) r
  | b,.rep x k r=>(b:Int)::posF (b+1+k.flat.length) r
theorem posF_len:∀ (f:Fo) (b:Nat),(posF b f).length=f.count
  | .nil,b=>rfl
  | .leaf x r,b=>by simp [posF,Fo.count,posF_len r]
  | .seq x k r,b=>by simp [posF,Fo.count,posF_len r]
  | .rep x k r,b=>by simp [posF,Fo.count,posF_len r]
theorem Fo.count_le:∀ (f:Fo),f.count≤f.flat.length
  | .nil=>by simp [Fo.count]
  | .leaf x r=>by have:=Fo.count_le r;simp [Fo.count,Fo.flat];omega
  | .seq x k r=>by have:=Fo.count_le r;simp [Fo.count,Fo.flat];omega
  | .rep x k r=>by have:=Fo.count_le r;simp [Fo.count,Fo.flat];omega
theorem drop_next {α:Type} {L:List α} {b:Nat} {x:α} {r:List α} (h:L.drop b=x::r):b<L.length∧L.drop (b+1)=r:=by
  constructor
  · have:=congrArg List.length h
    simp only [List.length_drop,List.length_cons] at this;omega
  · rw [← List.drop_drop,h];rfl
theorem drop_app {α:Type} {L:List α} {b:Nat} {p r:List α} (h:L.drop b=p++r):L.drop (b+p.length)=r:=by
  rw [← List.drop_drop,h,List.drop_left]
theorem drop_nth_eq {α:Type} [Inhabited α] {L:List α} {b:Nat} {x:α} {r:List α} (h:L.drop b=x::r):nth L b=x:=by
  have h1:=drop_next h
  rw [drop_nth h1.1] at h
  exact (List.cons.inj h).1
theorem first_tree {g:Fo} (hg:0<g.count) (ho:g.ok):∃ (f r:Fo),f.ok∧f.count=1∧r.ok∧g.flat=f.flat++r.flat∧r.count+1=g.count∧∀ b,posF b g=(b:Int)::posF (b+f.flat.length) r:=by
  cases g with
  | nil=>simp [Fo.count] at hg
  | leaf x r=>exact ⟨.leaf x .nil,r,⟨ho.1,trivial⟩,rfl,ho.2,by simp [Fo.flat],rfl,fun b=>by simp [posF,Fo.flat]⟩
  | seq x k r=>exact ⟨.seq x k .nil,r,⟨ho.1,ho.2.1,ho.2.2.1,ho.2.2.2.1,trivial⟩,rfl,ho.2.2.2.2,by simp [Fo.flat],rfl,fun b=>by simp [posF,Fo.flat];congr 1;omega⟩
  | rep x k r=>exact ⟨.rep x k .nil,r,⟨ho.1,ho.2.1,ho.2.2.1,ho.2.2.2.1,trivial⟩,rfl,ho.2.2.2.2,by simp [Fo.flat],rfl,fun b=>by simp [posF,Fo.flat];congr 1;omega⟩
theorem refKids_ev {L : List Node} {a : Nat} {x : Node} {k : Fo} {R : List Node} (hd : L.drop a = x :: (k.flat ++ R)) (ho : k.ok) (hs : size L a = 1 + k.flat.length) :
    Pf tp i_Q77 [.fl 3 (L.map Node.enc),.i .i64 a] (.fl 1 ((posF (a+1) k).map E1)):=by
  have hal:=(drop_next hd).1
  have hll:=congrArg List.length hd
  simp only [List.length_drop,List.length_cons,List.length_append] at hll
  refine Pf_go fn_Q77 (by simp [t_Q77]) fun rp=>?_;unfold t_Q77;simp (disch:=omega)only[go_sem, *]
  have hL:=rp.head.len
  refine Pf.go (refSize_ev) (by simp only [go_sem]) fun _=>?_;simp (disch:=omega)only[go_sem, *]
  refine ZC_loop_n (fun n e h=>∃ (b:Nat) (g:Fo) (out:V) (D:List Int),n=g.count∧h.lim=0∧e 0=.fl 3 (L.map Node.enc)∧e 1=.i .i64 a∧e 5=.i .i64 (1+k.flat.length)∧e 6=out∧e 7=.i .i64 b∧Sl 0 h 1 out (D.map E1)∧g.ok∧L.drop b=g.flat++R∧b+g.flat.length=a+1+k.flat.length∧D++posF b g=posF (a+1) k) ?_ _ _ _ ⟨a+1,k,.ns,[],rfl, ?_⟩
  · rintro n e h ⟨b,g,out,D,rfl,hl,e0,e1,e5,e6,e7,so,go,gd,gl,gz⟩ ih
    rw [ZC_unf Q77_7.eq_1]
    simp (disch:=omega)only[go_sem, *]
    have gpl:=posF_len g b
    have kpl:=posF_len k (a+1)
    have kcl:=Fo.count_le k
    have hzl:=congrArg List.length gz
    simp only [List.length_append] at hzl
    refine Wb_dec (fun hc=>?_) (fun hc=>?_)
    · have hgc:0<g.count:=by
        by_cases h0:g.count=0
        · rw [Fo.nil_of h0] at gl;simp [Fo.flat] at gl;omega
        · omega
      obtain ⟨f,r,fo,fc,ro,gf,gc,gp⟩:=first_tree hgc go
      rw [gf,List.append_assoc] at gd
      have hsz:=size_at gd fo fc
      have gfl:=congrArg List.length gf
      simp only [List.length_append] at gfl
      simp (disch:=omega)only[go_sem, *]
      refine app_rule (R:=D.map E1) (so.alloc _) (by simp only [go_sem, *]) (Nat.zero_le _) (by simp;omega) ?_
      intro w h4 s4 g4
      have hl4:=g4.lim
      simp (disch:=omega)only[go_sem, *]
      refine Pf.go (refSize_ev) (by simp only [go_sem]) fun _=>?_;simp (disch:=omega)only[go_sem, *]
      have hfl:=Fo.count_le f
      refine ih _ _ _ ?_ ⟨b+f.flat.length,r,w,D++[(b:Int)],rfl, ?_⟩
      · omega
      · simp (disch:=omega)only[go_sem, *]
        ((repeat' refine And.intro ?_ ?_)<;>first | omega | assumption | (simpa [E1] using s4) | (exact drop_app gd) | ((rw [← gz,gp b];simp)))
    · have h0:g.flat.length=0:=by omega
      have h1:=Fo.count_le g
      have h2:=Fo.nil_of (f:=g) (by omega)
      subst h2
      simp (disch:=omega)only[go_sem, *]
      rw [← gz,posF,List.append_nil]
      rw [posF,List.append_nil] at gz
      exact so.froze (fun _=>rfl) trivial (by rw [gz];omega)
  · simp (disch:=omega)only[go_sem, *]
    exact ⟨Sl.nil _ _ _,(drop_next hd).2⟩
end Go.Ab.T
namespace Go.Ab.T
open Go Go.Ab
set_option maxHeartbeats 1000000
def depL:Fo→List Int
  | .nil=>[]
  | .leaf x r=>1::depL r
  | .seq x k r=>((k.depth:Int)+1)::depL r
  | .rep x k r=>((k.depth:Int)+1)::depL r
theorem depL_len:∀ (f:Fo),(depL f).length=f.count
  | .nil=>rfl
  | .leaf x r=>by simp [depL,Fo.count,depL_len r]
  | .seq x k r=>by simp [depL,Fo.count,depL_len r]
  | .rep x k r=>by simp [depL,Fo.count,depL_len r]
theorem depL_fold:∀ (f:Fo) (m:Int),0≤m→(depL f).foldl max m=max m f.depth
  | .nil,m,hm=>by simp [depL,Fo.depth];omega
  | .leaf x r,m,hm=>by simp only [depL,List.foldl_cons,Fo.depth];rw [depL_fold r _ (by omega)];omega
  | .seq x k r,m,hm=>by simp only [depL,List.foldl_cons,Fo.depth];rw [depL_fold r _ (by omega)];omega
  | .rep x k r,m,hm=>by simp only [depL,List.foldl_cons,Fo.depth];rw [depL_fold r _ (by omega)];omega
theorem Fo.depth_le:∀ (f:Fo),f.depth≤f.flat.length
  | .nil=>by simp [Fo.depth]
  | .leaf x r=>by have:=Fo.depth_le r;simp [Fo.depth,Fo.flat];omega
  | .seq x k r=>by have:=Fo.depth_le r;have:=Fo.depth_le k;simp [Fo.depth,Fo.flat];omega
  | .rep x k r=>by have:=Fo.depth_le r;have:=Fo.depth_le k;simp [Fo.depth,Fo.flat];omega
theorem depL_bd:∀ (f:Fo) (i:Nat),i<f.count→0≤nth (depL f) i∧nth (depL f) i≤f.flat.length
  | .nil,i,h=>by simp [Fo.count] at h
  | .leaf x r,0,h=>by simp [depL,nth,Fo.flat];omega
  | .seq x k r,0,h=>by have:=Fo.depth_le k;simp [depL,nth,Fo.flat];omega
  | .rep x k r,0,h=>by have:=Fo.depth_le k;simp [depL,nth,Fo.flat];omega
  | .leaf x r,i+1,h=>by have:=depL_bd r i (by simpa [Fo.count] using h);simp [depL,nth,Fo.flat] at this ⊢;omega
  | .seq x k r,i+1,h=>by have:=depL_bd r i (by simpa [Fo.count] using h);simp [depL,nth,Fo.flat] at this ⊢;omega
  | .rep x k r,i+1,h=>by have:=depL_bd r i (by simpa [Fo.count] using h);simp [depL,nth,Fo.flat] at this ⊢;omega
def DepAll (L:List Node) (b:Nat) (f:Fo):Prop:=∀ i,i<f.count→Pf tp i_Q75 [.fl 3 (L.map Node.enc),.i .i64 (nth (posF b f) i)] (.i .i64 (nth (depL f) i))
theorem depth_node {L : List Node} {a : Nat} {x : Node} {k : Fo} {R : List Node} (hd : L.drop a = x :: (k.flat ++ R)) (ho : k.ok) (hs : size L a = 1 + k.flat.length) (ha : DepAll L (a + 1) k) :
    Pf tp i_Q75 [.fl 3 (L.map Node.enc),.i .i64 a] (.i .i64 ((k.depth:Int)+1)):=by
  have hll:=congrArg List.length hd
  simp only [List.length_drop,List.length_cons,List.length_append] at hll
  refine Pf_go fn_Q75 (by simp [t_Q75]) fun rp=>?_;unfold t_Q75;simp (disch:=omega)only[go_sem, *]
  have hL:=rp.head.len
  refine Pf.go (refKids_ev hd ho hs) (by simp only [go_sem]) fun _=>?_;simp (disch:=omega)only[go_sem, *]
  have hpl:=posF_len k (a+1)
  have hdl:=depL_len k
  have hcl:=Fo.count_le k
  have hdk:=Fo.depth_le k
  refine ZC_loop_n (fun n e h=>∃ (i:Nat) (m:Int),n=(posF (a+1) k).length - i∧h.lim=0∧e 10=.fl 1 ((posF (a+1) k).map E1)∧e 11=.i .i64 (posF (a+1) k).length∧e 12=.i .i64 i∧e 0=.fl 3 (L.map Node.enc)∧e 1=.i .i64 a∧e 5=.i .i64 m∧i≤(posF (a+1) k).length∧0≤m∧m≤4000000000∧((depL k).drop i).foldl max m=k.depth) ?_ _ _ _ ⟨0,0,rfl, ?_⟩
  · rintro n e h ⟨i,m,rfl,hl,e10,e11,e12,e0,e1,e5,hi,hm0,hm,hz⟩ ih
    rw [ZC_unf Q75_7.eq_1]
    simp (disch:=omega)only[go_sem, *]
    refine Wb_dec (fun hc=>?_) (fun hc=>?_)
    · rw [drop_nth (by omega),List.foldl_cons] at hz
      have hb:=depL_bd k i (by omega)
      simp (disch:=omega)only[go_sem, *]
      refine Pf.go (ha i (by omega)) (by simp only [go_sem]) fun _=>?_;simp (disch:=omega)only[go_sem, *]
      refine ih _ _ _ ?_ ⟨i+1,max m (nth (depL k) i),rfl, ?_⟩
      · omega
      · simp (disch:=omega)only[go_sem, *]
        ((repeat' refine And.intro ?_ ?_)<;>first | omega | assumption | (skip))
    · rw [List.drop_eq_nil_of_le (by omega),List.foldl_nil] at hz
      simp (disch:=omega)only[go_sem, *]
  · simp (disch:=omega)only[go_sem, *]
    have:=depL_fold k 0 (by omega)
    ((repeat' refine And.intro ?_ ?_)<;>first | omega | assumption | ((rw [this];omega)))
theorem dep_all {L:List Node}:∀ (f:Fo) (b:Nat) (R:List Node),f.ok→L.drop b=f.flat++R→DepAll L b f
  | .nil,b,R,ho,hd=>fun i hi=>by simp [Fo.count] at hi
  | .leaf x r,b,R,ho,hd=>fun i hi=>by
    have hd':L.drop b=x::(r.flat++R):=hd
    match i,hi with
    | 0,_=>exact depth_node (k:=.nil) (R:=r.flat++R) hd' trivial (size_at (f:=.leaf x .nil) hd' ⟨ho.1,trivial⟩ rfl) (fun i hi=>by simp [Fo.count] at hi)
    | i+1,hi=>exact dep_all r (b+1) R ho.2 (drop_next hd').2 i (by simp only [Fo.count] at hi;omega)
  | .seq x k r,b,R,ho,hd=>fun i hi=>by
    have hd':L.drop b=x::(k.flat++(r.flat++R)):=by rw [hd];simp [Fo.flat]
    match i,hi with
    | 0,_=>
      have hs:=size_at (f:=.seq x k .nil) (R:=r.flat++R) (by rw [hd'];simp [Fo.flat]) ⟨ho.1,ho.2.1,ho.2.2.1,ho.2.2.2.1,trivial⟩ rfl
      exact depth_node (k:=k) hd' ho.2.2.2.1 (by rw [hs];simp [Fo.flat];omega) (dep_all k (b+1) _ ho.2.2.2.1 (drop_next hd').2)
    | i+1,hi=>exact dep_all r (b+1+k.flat.length) R ho.2.2.2.2 (drop_app (drop_next hd').2) i (by simp only [Fo.count] at hi;omega)
  | .rep x k r,b,R,ho,hd=>fun i hi=>by
    have hd':L.drop b=x::(k.flat++(r.flat++R)):=by rw [hd];simp [Fo.flat]
    match i,hi with
    | 0,_=>
      have hs:=size_at (f:=.rep x k .nil) (R:=r.flat++R) (by rw [hd'];simp [Fo.flat]) ⟨ho.1,ho.2.1,ho.2.2.1,ho.2.2.2.1,trivial⟩ rfl
      exact depth_node (k:=k) hd' ho.2.2.2.1 (by rw [hs];simp [Fo.flat];omega) (dep_all k (b+1) _ ho.2.2.2.1 (drop_next hd').2)
    | i+1,hi=>exact dep_all r (b+1+k.flat.length) R ho.2.2.2.2 (drop_app (drop_next hd').2) i (by simp only [Fo.count] at hi;omega)
end Go.Ab.T
namespace Go.Ab.T
open Go Go.Ab
set_option maxHeartbeats 1000000
def lenL:Fo→List Int
  | .nil=>[]
  | .leaf x r=>min x.n 4097::lenL r
  | .seq x k r=>min k.len 4097::lenL r
  | .rep x k r=>min (x.n*k.len) 4097::lenL r
theorem lenL_len:∀ (f:Fo),(lenL f).length=f.count
  | .nil=>rfl
  | .leaf x r=>by simp [lenL,Fo.count,lenL_len r]
  | .seq x k r=>by simp [lenL,Fo.count,lenL_len r]
  | .rep x k r=>by simp [lenL,Fo.count,lenL_len r]
theorem rep_n {x:Node} {k r:Fo} (ho:(Fo.rep x k r).ok):1≤x.n∧1≤k.len∧1≤x.n*k.len:=by
  have h1:=kids_n (x:=x) (by rw [ho.2.1];omega)
  have h2:=(Fo.len_pos k ho.2.2.2.1).2 (by have:=ho.2.2.1;omega)
  have h3:1*1≤x.n*k.len:=Int.mul_le_mul h1 h2 (by omega) (by omega)
  omega
theorem lenL_fold:∀ (f:Fo) (s:Int),f.ok→0≤s∧s≤4097→(lenL f).foldl (fun s l=>min (s+l) 4097) s=min (s+f.len) 4097
  | .nil,s,ho,hs=>by simp [lenL,Fo.len];omega
  | .leaf x r,s,ho,hs=>by
    have h1:=kids_n (x:=x) (by rw [ho.1];omega)
    have h2:=(Fo.len_pos r ho.2).1
    simp only [lenL,List.foldl_cons,Fo.len];rw [lenL_fold r _ ho.2 (by omega)];omega
  | .seq x k r,s,ho,hs=>by
    have h1:=(Fo.len_pos k ho.2.2.2.1).1
    have h2:=(Fo.len_pos r ho.2.2.2.2).1
    simp only [lenL,List.foldl_cons,Fo.len];rw [lenL_fold r _ ho.2.2.2.2 (by omega)];omega
  | .rep x k r,s,ho,hs=>by
    have h1:=rep_n ho
    have h2:=(Fo.len_pos r ho.2.2.2.2).1
    simp only [lenL,List.foldl_cons,Fo.len];rw [lenL_fold r _ ho.2.2.2.2 (by omega)];omega
theorem lenL_bd:∀ (f:Fo) (i:Nat),f.ok→i<f.count→0≤nth (lenL f) i∧nth (lenL f) i≤4097
  | .nil,i,ho,h=>by simp [Fo.count] at h
  | .leaf x r,0,ho,h=>by have:=kids_n (x:=x) (by rw [ho.1];omega);simp only [lenL,nth_cons0];omega
  | .seq x k r,0,ho,h=>by have:=(Fo.len_pos k ho.2.2.2.1).1;simp only [lenL,nth_cons0];omega
  | .rep x k r,0,ho,h=>by have:=rep_n ho;simp only [lenL,nth_cons0];omega
  | .leaf x r,i+1,ho,h=>lenL_bd r i ho.2 (by simpa [Fo.count] using h)
  | .seq x k r,i+1,ho,h=>lenL_bd r i ho.2.2.2.2 (by simpa [Fo.count] using h)
  | .rep x k r,i+1,ho,h=>lenL_bd r i ho.2.2.2.2 (by simpa [Fo.count] using h)
def LenAll (L:List Node) (b:Nat) (f:Fo):Prop:=∀ i,i<f.count→Pf tp i_Q76 [.fl 3 (L.map Node.enc),.i .i64 (nth (posF b f) i)] (.i .i64 (nth (lenL f) i))
def RootOf (x:Node) (k t:Fo):Prop:=(kids x=0∧k=.nil∧t=.leaf x .nil)∨(x.kind=3∧t=.seq x k .nil)∨(x.kind=4∧t=.rep x k .nil∧1≤x.n∧1≤k.len∧1≤x.n*k.len)
theorem length_node {L : List Node} {a : Nat} {x : Node} {k t : Fo} {R : List Node} (hd : L.drop a = x :: (k.flat ++ R)) (ho : k.ok) (ht : RootOf x k t) (hs : size L a = 1 + k.flat.length) (ha : LenAll L (a + 1) k) :
    Pf tp i_Q76 [.fl 3 (L.map Node.enc),.i .i64 a] (.i .i64 (nth (lenL t) 0)):=by
  have hll:=congrArg List.length hd
  simp only [List.length_drop,List.length_cons,List.length_append] at hll
  have hnx:=drop_nth_eq hd
  have hal:=(drop_next hd).1
  refine Pf_go fn_Q76 (by simp [t_Q76]) fun rp=>?_;unfold t_Q76;simp (disch:=omega)only[go_sem, *]
  have hL:=rp.head.len
  refine Pf.go (refKids_ev hd ho hs) (by simp only [go_sem]) fun _=>?_;simp (disch:=omega)only[go_sem, *]
  have hpl:=posF_len k (a+1)
  have hdl:=lenL_len k
  have hcl:=Fo.count_le k
  refine ZC_loop_n (fun n e h=>∃ (i:Nat) (m:Int),n=(posF (a+1) k).length - i∧h.lim=0∧e 10=.fl 1 ((posF (a+1) k).map E1)∧e 11=.i .i64 (posF (a+1) k).length∧e 12=.i .i64 i∧e 0=.fl 3 (L.map Node.enc)∧e 1=.i .i64 a∧e 5=.i .i64 m∧i≤(posF (a+1) k).length∧0≤m∧m≤4097∧((lenL k).drop i).foldl (fun s l=>min (s+l) 4097) m=min k.len 4097) ?_ _ _ _ ⟨0,0,rfl, ?_⟩
  · rintro n e h ⟨i,m,rfl,hl,e10,e11,e12,e0,e1,e5,hi,hm0,hm,hz⟩ ih
    rw [ZC_unf Q76_7.eq_1]
    simp (disch:=omega)only[go_sem, *]
    refine Wb_dec (fun hc=>?_) (fun hc=>?_)
    · rw [drop_nth (by omega),List.foldl_cons] at hz
      have hb:=lenL_bd k i ho (by omega)
      simp (disch:=omega)only[go_sem, *]
      refine Pf.go (ha i (by omega)) (by simp only [go_sem]) fun _=>?_;simp (disch:=omega)only[go_sem, *]
      refine ih _ _ _ ?_ ⟨i+1,min (m+nth (lenL k) i) 4097,rfl, ?_⟩
      · omega
      · simp (disch:=omega)only[go_sem, *]
        ((repeat' refine And.intro ?_ ?_)<;>first | omega | assumption | (skip))
    · rw [List.drop_eq_nil_of_le (by omega),List.foldl_nil] at hz
      subst hz
      simp (disch:=omega)only[go_sem, *]
      rcases ht with ⟨c1,rfl,rfl⟩ | ⟨c1,rfl⟩ | ⟨c1,rfl,c2,c3,c4⟩
      · have h34:=kids_cases x (by rw [c1];omega)
        rw [c1] at h34
        refine Wb_dec (fun hc2=>by omega) (fun hc2=>?_)
        simp (disch:=omega)only[go_sem, *]
        refine Wb_dec (fun hc2=>by omega) (fun hc2=>?_)
        simp (disch:=omega)only[go_sem, *]
        simp only [lenL,nth_cons0]
      · refine Wb_dec (fun hc2=>?_) (fun hc2=>by omega)
        simp (disch:=omega)only[go_sem, *]
        simp only [lenL,nth_cons0]
      · refine Wb_dec (fun hc2=>by omega) (fun hc2=>?_)
        have b1:1≤min x.n 4097∧min x.n 4097≤4097:=by omega
        have b2:1≤min k.len 4097∧min k.len 4097≤4097:=by omega
        have b3:0≤min k.len 4097*min x.n 4097:=Int.mul_nonneg (by omega) (by omega)
        have b4:min k.len 4097*min x.n 4097≤4097*4097:=Int.mul_le_mul b2.2 b1.2 (by omega) (by omega)
        simp (disch:=omega)only[go_sem, *]
        have b5:=clip_mul c2 c3
        simp only [lenL,nth_cons0]
        rw [Int.min_comm x.n 4097,Int.min_comm k.len 4097,Int.mul_comm (min 4097 k.len),Int.min_comm _ 4097,b5,Int.min_comm]
  · simp (disch:=omega)only[go_sem, *]
    have:=lenL_fold k 0 ho (by omega)
    ((repeat' refine And.intro ?_ ?_)<;>first | omega | assumption | ((rw [this];omega)))
theorem len_all {L:List Node}:∀ (f:Fo) (b:Nat) (R:List Node),f.ok→L.drop b=f.flat++R→LenAll L b f
  | .nil,b,R,ho,hd=>fun i hi=>by simp [Fo.count] at hi
  | .leaf x r,b,R,ho,hd=>fun i hi=>by
    have hd':L.drop b=x::(r.flat++R):=hd
    match i,hi with
    | 0,_=>exact length_node (k:=.nil) (R:=r.flat++R) (t:=.leaf x .nil) hd' trivial (.inl ⟨ho.1,rfl,rfl⟩) (size_at (f:=.leaf x .nil) hd' ⟨ho.1,trivial⟩ rfl) (fun i hi=>by simp [Fo.count] at hi)
    | i+1,hi=>exact len_all r (b+1) R ho.2 (drop_next hd').2 i (by simp only [Fo.count] at hi;omega)
  | .seq x k r,b,R,ho,hd=>fun i hi=>by
    have hd':L.drop b=x::(k.flat++(r.flat++R)):=by rw [hd];simp [Fo.flat]
    match i,hi with
    | 0,_=>
      have hs:=size_at (f:=.seq x k .nil) (R:=r.flat++R) (by rw [hd'];simp [Fo.flat]) ⟨ho.1,ho.2.1,ho.2.2.1,ho.2.2.2.1,trivial⟩ rfl
      exact length_node (k:=k) (t:=.seq x k .nil) hd' ho.2.2.2.1 (.inr (.inl ⟨ho.1,rfl⟩)) (by rw [hs];simp [Fo.flat];omega) (len_all k (b+1) _ ho.2.2.2.1 (drop_next hd').2)
    | i+1,hi=>exact len_all r (b+1+k.flat.length) R ho.2.2.2.2 (drop_app (drop_next hd').2) i (by simp only [Fo.count] at hi;omega)
  | .rep x k r,b,R,ho,hd=>fun i hi=>by
    have hd':L.drop b=x::(k.flat++(r.flat++R)):=by rw [hd];simp [Fo.flat]
    match i,hi with
    | 0,_=>
      have hs:=size_at (f:=.rep x k .nil) (R:=r.flat++R) (by rw [hd'];simp [Fo.flat]) ⟨ho.1,ho.2.1,ho.2.2.1,ho.2.2.2.1,trivial⟩ rfl
      exact length_node (k:=k) (t:=.rep x k .nil) hd' ho.2.2.2.1 (.inr (.inr ⟨ho.1,rfl,rep_n ho⟩)) (by rw [hs];simp [Fo.flat];omega) (len_all k (b+1) _ ho.2.2.2.1 (drop_next hd').2)
    | i+1,hi=>exact len_all r (b+1+k.flat.length) R ho.2.2.2.2 (drop_app (drop_next hd').2) i (by simp only [Fo.count] at hi;omega)
end Go.Ab.T
namespace Go.Ab.T
open Go Go.Ab
set_option maxHeartbeats 1000000
def Fo.runs:Fo→List Run
  | .nil=>[]
  | .leaf x r=>⟨partR x,x.n⟩::runs r
  | .seq x k r=>runs k++runs r
  | .rep x k r=>(List.replicate x.n.toNat (runs k)).flatten++runs r
theorem Fo.runs_pos:∀ (f:Fo),f.ok→0<f.count→1≤f.runs.length
  | .nil,ho,hc=>by simp [Fo.count] at hc
  | .leaf x r,ho,hc=>by simp [Fo.runs]
  | .seq x k r,ho,hc=>by
    have:=Fo.runs_pos k ho.2.2.2.1 ho.2.2.1
    simp [Fo.runs];omega
  | .rep x k r,ho,hc=>by
    have:=Fo.runs_pos k ho.2.2.2.1 (by have:=ho.2.2.1;omega)
    have hn:=kids_n (x:=x) (by rw [ho.2.1];omega)
    have:1*1≤x.n.toNat*k.runs.length:=Nat.mul_le_mul (by omega) this
    simp [Fo.runs];omega
theorem Fo.runs_len:∀ (f:Fo),f.ok→(f.runs.length:Int)≤f.len
  | .nil,ho=>by simp [Fo.runs,Fo.len]
  | .leaf x r,ho=>by
    have h1:=kids_n (x:=x) (by rw [ho.1];omega)
    have:=Fo.runs_len r ho.2
    simp [Fo.runs,Fo.len];omega
  | .seq x k r,ho=>by
    have:=Fo.runs_len k ho.2.2.2.1;have:=Fo.runs_len r ho.2.2.2.2
    simp [Fo.runs,Fo.len];omega
  | .rep x k r,ho=>by
    have h1:=Fo.runs_len k ho.2.2.2.1;have:=Fo.runs_len r ho.2.2.2.2
    have hn:=kids_n (x:=x) (by rw [ho.2.1];omega)
    have h3:x.n*k.runs.length≤x.n*k.len:=Int.mul_le_mul_of_nonneg_left h1 (by omega)
    have h4:((x.n.toNat*k.runs.length:Nat):Int)=x.n*k.runs.length:=by rw [Int.natCast_mul,Int.toNat_of_nonneg (by omega)]
    simp only [Fo.runs,Fo.len,List.length_append,List.length_flatten,List.map_replicate,List.sum_replicate_nat,Int.natCast_add]
    omega
def runsT:Fo→List (List Run)
  | .nil=>[]
  | .leaf x r=>[⟨partR x,x.n⟩]::runsT r
  | .seq x k r=>k.runs::runsT r
  | .rep x k r=>(List.replicate x.n.toNat k.runs).flatten::runsT r
theorem runsT_flat:∀ (f:Fo),(runsT f).flatten=f.runs
  | .nil=>rfl
  | .leaf x r=>by simp [runsT,Fo.runs,runsT_flat r]
  | .seq x k r=>by simp [runsT,Fo.runs,runsT_flat r]
  | .rep x k r=>by simp [runsT,Fo.runs,runsT_flat r]
theorem runsT_len:∀ (f:Fo),(runsT f).length=f.count
  | .nil=>rfl
  | .leaf x r=>by simp [runsT,Fo.count,runsT_len r]
  | .seq x k r=>by simp [runsT,Fo.count,runsT_len r]
  | .rep x k r=>by simp [runsT,Fo.count,runsT_len r]
def LeaAll (L:List Node) (b:Nat) (f:Fo):Prop:=∀ i,i<f.count→∀ (h:AH) (w:V) (A:List Run) (K:V→AH→Prop),h.lim=0→Sl 0 h 2 w (A.map Run.enc)→A.length+(nth (runsT f) i).length≤4000000000 →
  (∀ r h',Sl 0 h' 2 r ((A++nth (runsT f) i).map Run.enc)→h'.lim=0→K r h')→Cq tp i_Q47 [.fl 3 (L.map Node.enc),.i .i64 (nth (posF b f) i),w] h K
section
variable {L:List Node} {a:Nat} {x:Node} {k:Fo} {R:List Node} {h:AH} {w:V} {A:List Run} {K:V→AH→Prop}
theorem leaf_node (hd:L.drop a=x::R) (hk:kids x=0) (h0:h.lim=0) (hA:Sl 0 h 2 w (A.map Run.enc)) (hl:A.length+[(⟨partR x,x.n⟩:Run)].length≤4000000000)
    (k:∀ r h',Sl 0 h' 2 r ((A++[(⟨partR x,x.n⟩:Run)]).map Run.enc)→h'.lim=0→K r h'):Cq tp i_Q47 [.fl 3 (L.map Node.enc),.i .i64 a,w] h K:=by
  have hnx:=drop_nth_eq hd
  have hal:=(drop_next hd).1
  have hc1:x.kind=1∨x.kind=2:=by
    unfold kids at hk;(repeat' split at hk)<;>omega
  simp only [List.length_cons,List.length_nil] at hl
  refine Cq_raw_go fn_Q47 (by simp [t_Q47]) fun wf rp=>?_;unfold t_Q47;simp (disch:=omega)only[go_sem, *]
  have hL:=rp.head.len
  refine Wb_dec (fun hc=>?_) (fun hc=>?_)
  · simp (disch:=omega)only[go_sem, *]
    refine app_rule (R:=A.map Run.enc) (hA.alloc _) (by simp only [go_sem, *]) (Nat.zero_le _) (by simp;omega) ?_
    intro r h4 s4 g4
    have hl4:=g4.lim
    simp (disch:=omega)only[go_sem, *]
    have hp:partR x=x.part:=by unfold partR;rw [if_neg (by omega)]
    exact k _ _ (by simpa [Run.enc,hp] using s4) (by simpa [AH.alloc, *] using hl4)
  · have h2:x.kind=2:=by omega
    simp (disch:=omega)only[go_sem, *]
    refine app_rule (R:=A.map Run.enc) (hA.alloc _) (by simp only [go_sem, *]) (Nat.zero_le _) (by simp;omega) ?_
    intro r h4 s4 g4
    have hl4:=g4.lim
    simp (disch:=omega)only[go_sem, *]
    have hp:partR x = -1:=by unfold partR;rw [if_pos h2]
    exact k _ _ (by simpa [Run.enc,hp] using s4) (by simpa [AH.alloc, *] using hl4)
theorem flat_take {α:Type} [Inhabited α] {l:List (List α)} {i:Nat} (h:i<l.length):(l.drop i).flatten=nth l i++(l.drop (i+1)).flatten:=by
  rw [drop_nth h,List.flatten_cons]
theorem seq_node (hd:L.drop a=x::(k.flat++R)) (ho:k.ok) (hk3:x.kind=3) (hkc:0<k.count) (hs:size L a=1+k.flat.length) (ha:LeaAll L (a+1) k) (hl:h.lim=0) (hA:Sl 0 h 2 w (A.map Run.enc)) (hlen:A.length+k.runs.length≤4000000000)
    (kk:∀ r h',Sl 0 h' 2 r ((A++k.runs).map Run.enc)→h'.lim=0→K r h'):Cq tp i_Q47 [.fl 3 (L.map Node.enc),.i .i64 a,w] h K:=by
  have hnx:=drop_nth_eq hd
  have hal:=(drop_next hd).1
  have hll:=congrArg List.length hd
  simp only [List.length_drop,List.length_cons,List.length_append] at hll
  refine Cq_raw_go fn_Q47 (by simp [t_Q47]) fun wf rp=>?_;unfold t_Q47;simp (disch:=omega)only[go_sem, *]
  have hL:=rp.head.len
  refine Pf.go (refKids_ev hd ho hs) (by simp only [go_sem]) fun _=>?_;simp (disch:=omega)only[go_sem, *]
  have hpl:=posF_len k (a+1)
  have hrl:=runsT_len k
  have hcl:=Fo.count_le k
  refine ZC_loop_n (fun n e h=>∃ (i:Nat) (o:V) (B:List Run),n=(posF (a+1) k).length - i∧h.lim=0∧e 61=.fl 1 ((posF (a+1) k).map E1)∧e 62=.i .i64 (posF (a+1) k).length∧e 63=.i .i64 i∧e 0=.fl 3 (L.map Node.enc)∧e 1=.i .i64 a∧e 2=o∧i≤(posF (a+1) k).length∧Sl 0 h 2 o (B.map Run.enc)∧B++((runsT k).drop i).flatten=A++k.runs) ?_ _ _ _ ⟨0,w,A,rfl, ?_⟩
  · rintro n e h ⟨i,o,B,rfl,hl,e61,e62,e63,e0,e1,e2,hi,sB,hz⟩ ih
    rw [ZC_unf Q47_18.eq_1]
    simp (disch:=omega)only[go_sem, *]
    refine Wb_dec (fun hc=>?_) (fun hc=>?_)
    · rw [flat_take (by omega)] at hz
      have hzl:=congrArg List.length hz
      simp only [List.length_append] at hzl
      simp (disch:=omega)only[go_sem, *]
      refine ha i (by omega) _ o B _ (by simp only [go_sem, *]) sB (by omega) ?_
      intro r h3 sr hl3
      simp (disch:=omega)only[go_sem, *]
      refine ih _ _ _ ?_ ⟨i+1,r,B++nth (runsT k) i,rfl, ?_⟩
      · omega
      · simp (disch:=omega)only[go_sem, *]
        ((repeat' refine And.intro ?_ ?_)<;>first | omega | assumption | ((rw [← hz,List.append_assoc])))
    · rw [List.drop_eq_nil_of_le (by omega)] at hz
      simp (disch:=omega)only[go_sem, *]
      exact kk _ _ (by rw [← hz];simpa using sB) hl
  · simp (disch:=omega)only[go_sem, *]
    ((repeat' refine And.intro ?_ ?_)<;>first | omega | assumption | ((rw [List.drop_zero,runsT_flat])) | ((rw [runsT_flat])))
theorem rep_node {r : Fo} (hd : L.drop a = x :: (k.flat ++ R)) (ho : (Fo.rep x k r).ok) (ha : LeaAll L (a + 1) k) (hl : h.lim = 0) (hA : Sl 0 h 2 w (A.map Run.enc)) (hlen : A.length + ((List.replicate x.n.toNat k.runs).flatten).length ≤ 4000000000)
    (kk:∀ r h',Sl 0 h' 2 r ((A++(List.replicate x.n.toNat k.runs).flatten).map Run.enc)→h'.lim=0→K r h'):Cq tp i_Q47 [.fl 3 (L.map Node.enc),.i .i64 a,w] h K:=by
  have hnx:=drop_nth_eq hd
  have hal:=(drop_next hd).1
  have h0:0<k.count:=by have:=ho.2.2.1;omega
  have hp0:nth (posF (a+1) k) 0=((a:Int)+1):=by
    cases k with
    | nil=>simp [Fo.count] at h0
    | leaf _ _=>simp [posF,nth]
    | seq _ _ _=>simp [posF,nth]
    | rep _ _ _=>simp [posF,nth]
  have hr0:nth (runsT k) 0=k.runs:=by
    have h1:=runsT_flat k
    have h2:=runsT_len k
    rw [ho.2.2.1] at h2
    match hk:runsT k,h2 with
    | [t],_=>rw [hk] at h1;simpa [nth] using h1
  have ha0:=ha 0 h0
  rw [hp0,hr0] at ha0
  have hk4:=ho.1
  have hn1:=kids_n (x:=x) (by rw [ho.2.1];omega)
  have hr1:=Fo.runs_pos k ho.2.2.2.1 h0
  have hln:(List.replicate x.n.toNat k.runs).flatten.length=x.n.toNat*k.runs.length:=by simp
  have hln1:x.n.toNat*1≤x.n.toNat*k.runs.length:=Nat.mul_le_mul_left _ hr1
  refine Cq_raw_go fn_Q47 (by simp [t_Q47]) fun wf rp=>?_;unfold t_Q47;simp (disch:=omega)only[go_sem, *]
  have hL:=rp.head.len
  refine ZC_loop_n (fun n e h=>∃ (i:Nat) (o:V) (B:List Run),n=x.n.toNat - i∧h.lim=0∧e 0=.fl 3 (L.map Node.enc)∧e 1=.i .i64 a∧e 2=o∧e 7=.i .i64 i∧i≤x.n.toNat∧Sl 0 h 2 o (B.map Run.enc)∧B.length+(x.n.toNat - i)*k.runs.length≤4000000000∧B++(List.replicate (x.n.toNat - i) k.runs).flatten=A++(List.replicate x.n.toNat k.runs).flatten) ?_ _ _ _ ⟨0,w,A,rfl, ?_⟩
  · rintro n e h ⟨i,o,B,rfl,hl,e0,e1,e2,e7,hi,sB,hb,hz⟩ ih
    rw [ZC_unf Q47_11.eq_1]
    simp (disch:=omega)only[go_sem, *]
    refine Wb_dec (fun hc=>?_) (fun hc=>?_)
    · obtain ⟨m,hm⟩:∃ m,x.n.toNat - i=m+1:=⟨x.n.toNat - i - 1,by omega⟩
      rw [hm,List.replicate_succ,List.flatten_cons] at hz
      rw [hm,Nat.succ_mul] at hb
      simp (disch:=omega)only[go_sem, *]
      refine ha0 _ o B _ (by simp only [go_sem, *]) sB (by omega) ?_
      intro r h3 sr hl3
      have hm2:x.n.toNat - (i+1)=m:=by omega
      simp (disch:=omega)only[go_sem, *]
      refine ih _ _ _ ?_ ⟨i+1,r,B++k.runs,rfl, ?_⟩
      · omega
      · simp (disch:=omega)only[go_sem, *]
        ((repeat' refine And.intro ?_ ?_)<;>first | omega | assumption | ((simp;omega)) | ((rw [← hz,List.append_assoc])) | ((rw [hm2,←hz,List.append_assoc])) | ((rw [hm2];simp;omega)))
    · have hm:x.n.toNat - i=0:=by omega
      rw [hm] at hz
      simp (disch:=omega)only[go_sem, *]
      exact kk _ _ (by rw [← hz];simpa using sB) hl
  · simp (disch:=omega)only[go_sem, *]
    ((repeat' refine And.intro ?_ ?_)<;>first | omega | assumption | ((simp only [Nat.sub_zero];omega)) | ((simp only [Nat.sub_zero])))
end
theorem lea_all {L:List Node}:∀ (f:Fo) (b:Nat) (R:List Node),f.ok→L.drop b=f.flat++R→LeaAll L b f
  | .nil,b,R,ho,hd=>fun i hi=>by simp [Fo.count] at hi
  | .leaf x r,b,R,ho,hd=>fun i hi h w A K hw hA hl kk=>by
    have hd':L.drop b=x::(r.flat++R):=hd
    match i,hi with
    | 0,_=>exact leaf_node hd' ho.1 hw hA hl kk
    | i+1,hi=>exact lea_all r (b+1) R ho.2 (drop_next hd').2 i (by simp only [Fo.count] at hi;omega) h w A K hw hA hl kk
  | .seq x k r,b,R,ho,hd=>fun i hi h w A K hw hA hl kk=>by
    have hd':L.drop b=x::(k.flat++(r.flat++R)):=by rw [hd];simp [Fo.flat]
    match i,hi with
    | 0,_=>
      have hs:=size_at (f:=.seq x k .nil) (R:=r.flat++R) (by rw [hd'];simp [Fo.flat]) ⟨ho.1,ho.2.1,ho.2.2.1,ho.2.2.2.1,trivial⟩ rfl
      exact seq_node (k:=k) hd' ho.2.2.2.1 ho.1 ho.2.2.1 (by rw [hs];simp [Fo.flat];omega) (lea_all k (b+1) _ ho.2.2.2.1 (drop_next hd').2) hw hA hl kk
    | i+1,hi=>exact lea_all r (b+1+k.flat.length) R ho.2.2.2.2 (drop_app (drop_next hd').2) i (by simp only [Fo.count] at hi;omega) h w A K hw hA hl kk
  | .rep x k r,b,R,ho,hd=>fun i hi h w A K hw hA hl kk=>by
    have hd':L.drop b=x::(k.flat++(r.flat++R)):=by rw [hd];simp [Fo.flat]
    match i,hi with
    | 0,_=>
      exact rep_node (k:=k) hd' ho (lea_all k (b+1) _ ho.2.2.2.1 (drop_next hd').2) hw hA hl kk
    | i+1,hi=>exact lea_all r (b+1+k.flat.length) R ho.2.2.2.2 (drop_app (drop_next hd').2) i (by simp only [Fo.count] at hi;omega) h w A K hw hA hl kk
end Go.Ab.T
namespace Go.Ab.T
open Go Go.Ab
set_option maxHeartbeats 1000000
theorem Fo.flat_pos {f:Fo} (hc:f.count=1):0<f.flat.length:=by have:=Fo.count_le f;omega
theorem Fo.depth_pos {f:Fo} (hc:0<f.count):0<f.depth:=by cases f<;>simp [Fo.count,Fo.depth] at hc ⊢<;>omega
theorem whole_flat {f:Fo} (ho:f.ok) (hc:f.count=1):wholeB f.flat=true:=(whole_iff _).2 ⟨f,ho,hc,rfl⟩
theorem depR_flat {f:Fo} (ho:f.ok) (hc:f.count=1):depR f.flat=f.depth:=by
  unfold depR;rw [if_pos (whole_flat ho hc),(measured_flat ho hc).1]
theorem lenB_flat {f:Fo} (ho:f.ok) (hc:f.count=1):lenB f.flat=decide (f.len≤4096):=by
  unfold lenB;rw [(measured_flat ho hc).2,whole_flat ho hc];simp;omega
theorem lenR_flat {f:Fo} (ho:f.ok) (hc:f.count=1):lenR f.flat=if f.len≤4096 then f.len else 0:=by
  unfold lenR;rw [lenB_flat ho hc,(measured_flat ho hc).2];simp only [decide_eq_true_eq];split<;>omega
theorem right_iff (L:List Node):rightR L=0↔L.length≤128∧∃ f:Fo,f.ok∧f.count=1∧L=f.flat∧f.depth≤16∧f.len≤4096:=by
  constructor
  · intro h
    by_cases hw:wholeB L=true
    · obtain ⟨f,ho,hc,rfl⟩:=(whole_iff L).1 hw
      unfold rightR at h
      rw [hw,depR_flat ho hc,lenB_flat ho hc] at h
      (repeat' split at h)<;>simp at h
      rename_i h1 h2 h3 h4
      simp at h4
      exact ⟨by omega,f,ho,hc,rfl,by omega,h4⟩
    · simp at hw
      unfold rightR at h
      rw [hw] at h
      (repeat' split at h)<;>simp at h
      all_goals simp_all
  · rintro ⟨hl,f,ho,hc,rfl,hd,hn⟩
    unfold rightR
    rw [if_neg (by omega),if_neg (by rw [whole_flat ho hc];simp),if_neg (by rw [depR_flat ho hc];omega),if_neg (by rw [lenB_flat ho hc];simp;omega)]
theorem refDepth_ev {L:List Node}:Pf tp i_Q45 [.fl 3 (L.map Node.enc)] (.i .i64 (depR L)):=by
  refine Pf_go fn_Q45 (by simp [t_Q45]) fun rp=>?_;unfold t_Q45;simp (disch:=omega)only[go_sem, *]
  refine Wg_dec (fun hc=>?_) (fun hc=>?_)
  · simp (disch:=omega)only[go_sem, *]
    have hwf:wholeB L=false:=by simp [wholeB];omega
    unfold depR;rw [hwf];simp
  · simp (disch:=omega)only[go_sem, *]
    refine Pf.go (refSize_ev) (by simp only [go_sem]) fun _=>?_;simp (disch:=omega)only[go_sem, *]
    refine Wb_dec (fun hc2=>?_) (fun hc2=>?_)
    · simp (disch:=omega)only[go_sem, *]
      have hwf:wholeB L=false:=by simp [wholeB];omega
      unfold depR;rw [hwf];simp
    · have hwt:wholeB L=true:=by simp [wholeB];omega
      obtain ⟨f,ho,hc1,rfl⟩:=(whole_iff L).1 hwt
      have hf:=dep_all (L:=f.flat) f 0 [] ho (by simp) 0 (by omega)
      have hp0:nth (posF 0 f) 0=0:=by cases f<;>simp [Fo.count,posF,nth] at hc1 ⊢
      have hd0:nth (depL f) 0=f.depth:=by
        have h1:=depL_fold f 0 (by omega)
        have h2:=depL_len f
        rw [hc1] at h2
        have h3:=depL_bd f 0 (by omega)
        match hk:depL f,h2 with
        | [t],_=>rw [hk] at h1 h3;simp [nth] at h1 h3 ⊢;omega
      rw [hp0,hd0] at hf
      simp (disch:=omega)only[go_sem, *]
      refine Pf.go (hf) (by simp only [go_sem]) fun _=>?_;simp (disch:=omega)only[go_sem, *]
      have e:=depR_flat ho hc1
      rw [e]
theorem refLength_ev {L:List Node}:Pf tp i_Q46 [.fl 3 (L.map Node.enc)] (.tup [.i .i64 (lenR L),.b (lenB L)]):=by
  refine Pf_go fn_Q46 (by simp [t_Q46]) fun rp=>?_;unfold t_Q46;simp (disch:=omega)only[go_sem, *]
  refine Pf.go (refDepth_ev) (by simp only [go_sem]) fun _=>?_;simp (disch:=omega)only[go_sem, *]
  refine Wb_dec (fun hc=>?_) (fun hc=>?_)
  · simp (disch:=omega)only[go_sem, *]
    have hwf:wholeB L=false:=by
      by_cases hwt:wholeB L=true
      · obtain ⟨f,ho,hc1,rfl⟩:=(whole_iff L).1 hwt
        have:=Fo.depth_pos (f:=f) (by omega)
        rw [depR_flat ho hc1] at hc
        omega
      · simpa using hwt
    have e1:lenB L=false:=by simp [lenB,hwf]
    have e2:lenR L=0:=by simp [lenR,e1]
    rw [e1,e2];exact ⟨rfl,rfl⟩
  · have hwt:wholeB L=true:=by
      by_cases hwt:wholeB L=true
      · exact hwt
      · exact absurd (by unfold depR;rw [if_neg hwt]) hc
    obtain ⟨f,ho,hc1,rfl⟩:=(whole_iff L).1 hwt
    have hf:=len_all (L:=f.flat) f 0 [] ho (by simp) 0 (by omega)
    have hp0:nth (posF 0 f) 0=0:=by cases f<;>simp [Fo.count,posF,nth] at hc1 ⊢
    have hd0:nth (lenL f) 0=min f.len 4097:=by
      have h1:=lenL_fold f 0 ho (by omega)
      have h2:=lenL_len f
      rw [hc1] at h2
      have h3:=lenL_bd f 0 ho (by omega)
      match hk:lenL f,h2 with
      | [t],_=>rw [hk] at h1 h3;simp [nth] at h1 h3 ⊢;omega
    rw [hp0,hd0] at hf
    have e1:=lenB_flat ho hc1
    have e2:=lenR_flat ho hc1
    simp (disch:=omega)only[go_sem, *]
    refine Pf.go (hf) (by simp only [go_sem]) fun _=>?_;simp (disch:=omega)only[go_sem, *]
    refine Wb_dec (fun hc2=>?_) (fun hc2=>?_)
    · simp (disch:=omega)only[go_sem, *]
      rw [if_neg (by omega)]
      exact ⟨rfl,by simp;omega⟩
    · simp (disch:=omega)only[go_sem, *]
      rw [if_pos (by omega),show min f.len 4097=f.len by omega]
      exact ⟨rfl,by simp;omega⟩
theorem refRight_ev {L:List Node}:Pf tp i_Q21 [.fl 3 (L.map Node.enc)] (.i .i64 (rightR L)):=by
  have hdp:wholeB L=false↔depR L=0:=by
    constructor
    · intro h;unfold depR;rw [h];simp
    · intro h
      by_cases hwt:wholeB L=true
      · obtain ⟨f,ho,hc1,rfl⟩:=(whole_iff L).1 hwt
        have:=Fo.depth_pos (f:=f) (by omega)
        rw [depR_flat ho hc1] at h;omega
      · simpa using hwt
  refine Pf_go fn_Q21 (by simp [t_Q21]) fun rp=>?_;unfold t_Q21;simp (disch:=omega)only[go_sem, *]
  refine Wb_dec (fun hc=>?_) (fun hc=>?_)
  · simp (disch:=omega)only[go_sem, *]
    unfold rightR;rw [if_pos (by omega)]
  simp (disch:=omega)only[go_sem, *]
  refine Pf.go (refDepth_ev) (by simp only [go_sem]) fun _=>?_;simp (disch:=omega)only[go_sem, *]
  refine Wb_dec (fun hc2=>?_) (fun hc2=>?_)
  · have hw0:=hdp.2 hc2
    simp (disch:=omega)only[go_sem, *]
    unfold rightR;rw [if_neg (by omega),if_pos hw0]
  have hwt:¬ wholeB L=false:=fun h=>hc2 (hdp.1 h)
  simp (disch:=omega)only[go_sem, *]
  refine Pf.go (refDepth_ev) (by simp only [go_sem]) fun _=>?_;simp (disch:=omega)only[go_sem, *]
  refine Wb_dec (fun hc3=>?_) (fun hc3=>?_)
  · simp (disch:=omega)only[go_sem, *]
    unfold rightR;rw [if_neg (by omega),if_neg hwt,if_pos (by omega)]
  simp (disch:=omega)only[go_sem, *]
  refine Pf.go (refLength_ev) (by simp only [go_sem]) fun _=>?_;simp (disch:=omega)only[go_sem, *]
  refine Wb_of (fun hc4=>?_) (fun hc4=>?_)
  · simp (disch:=omega)only[go_sem, *]
    simp at hc4
    unfold rightR;rw [if_neg (by omega),if_neg hwt,if_neg (by omega),if_pos hc4]
  · simp (disch:=omega)only[go_sem, *]
    simp at hc4
    unfold rightR;rw [if_neg (by omega),if_neg hwt,if_neg (by omega),if_neg (by simp [hc4])]
theorem refLeaves_ev {f:Fo} (ho:f.ok) (hc:f.count=1) (hl:f.len≤4096):Pf tp i_Q23 [.fl 3 (f.flat.map Node.enc)] (.fl 2 (f.runs.map Run.enc)):=by
  have hf:=lea_all (L:=f.flat) f 0 [] ho (by simp) 0 (by omega)
  have hp0:nth (posF 0 f) 0=0:=by cases f<;>simp [Fo.count,posF,nth] at hc ⊢
  have hd0:nth (runsT f) 0=f.runs:=by
    have h1:=runsT_flat f
    have h2:=runsT_len f
    rw [hc] at h2
    match hk:runsT f,h2 with
    | [t],_=>rw [hk] at h1;simpa [nth] using h1
  rw [hp0,hd0] at hf
  have hrl:=Fo.runs_len f ho
  refine Pf_go fn_Q23 (by simp [t_Q23]) fun rp=>?_;unfold t_Q23;simp (disch:=omega)only[go_sem, *]
  refine hf _ .ns [] _ rfl (Sl.nil _ _ _) (by simp;omega) ?_
  intro r h2 sr hl2
  simp (disch:=omega)only[go_sem, *]
  exact sr.froze (fun _=>rfl) trivial (by simp;omega)
end Go.Ab.T
namespace Go.Ab.T
open Go Go.Ab
set_option maxHeartbeats 1000000
structure Proc where
  entry:Int
  prio:Int
  deriving Inhabited,DecidableEq
@[go_sem] def Proc.enc (x:Proc):List V:=[.i .i64 x.entry,.i .i64 x.prio]
structure Part where
  name:ByteArray
  budget:Int
  period:Int
  sched:Bool
  stop:Bool
  procs:List Proc
  h0:Int
  h1:Int
  h2:Int
  h3:Int
  h4:Int
  deriving Inhabited,DecidableEq
@[go_sem] def Part.enc (x:Part):List V:=[.s x.name,.i .i64 x.budget,.i .i64 x.period,.b x.sched,.b x.stop,.fl 2 (x.procs.map Proc.enc),.i .i64 x.h0,.i .i64 x.h1,.i .i64 x.h2,.i .i64 x.h3,.i .i64 x.h4]
structure Chan where
  src:Int
  dst:Int
  queue:Bool
  cap:Int
  top:Int
  late:Int
  deriving Inhabited,DecidableEq
@[go_sem] def Chan.enc (x:Chan):List V:=[.i .i64 x.src,.i .i64 x.dst,.b x.queue,.i .i64 x.cap,.i .u32 x.top,.i .i64 x.late]
@[go_sem] def Tab.enc (x:List Node):List V:=[.fl 3 (x.map Node.enc)]
structure Config where
  parts:List Part
  chans:List Chan
  tables:List (List Node)
  deriving Inhabited,DecidableEq
@[go_sem] def Config.enc (x:Config):List V:=[.fl 11 (x.parts.map Part.enc),.fl 6 (x.chans.map Chan.enc),.fl 1 (x.tables.map Tab.enc)]
theorem clipRun_ev {xs:List (List V)}:Pf tp i_Q68 [.fl 2 xs] (.fl 2 xs):=by
  refine Pf_go fn_Q68 (by simp [t_Q68]) fun rp=>?_;unfold t_Q68;simp (disch:=omega)only[go_sem, *]
theorem cloneNode_ev {xs:List (List V)}:Pf tp i_Q20 [.fl 3 xs] (.fl 3 xs):=by
  refine Pf_go fn_Q20 (by simp [t_Q20]) fun rp=>?_;unfold t_Q20;simp (disch:=omega)only[go_sem, *]
  have hb:=rp.head.big
  intro t ht
  cases t
  · simp (disch:=omega)only[go_sem, *]
    refine app_rule (R:=[]) (Sl.nil' 0 _ _) (Nat.le_refl _) (Nat.le_refl _) (by simp;omega) ?_
    intro w h4 s4 g4
    simp (disch:=omega)only[go_sem, *]
    exact s4.froze' rp.head.frzr trivial (by simp;omega)
  · simp (disch:=omega)only[go_sem, *]
    have:xs=[]:=by
      rcases List.eq_nil_or_concat xs with h | ⟨l,a,h⟩
      · exact h
      · exact absurd (ht (by rw [h];simp)) (by simp)
    rw [this]
def idxGo {α:Type} (P:α→Bool):List α→Int→Int
  | [],_=>-1
  | a::l,i=>if P a=true then i else idxGo P l (i+1)
theorem idxPart {L:List Part} {g:Nat} {caps:List V} {P:Part→Bool} {h0:AH} {K:V→AH→Prop} (hp:∀ x,x∈L→∀ K:V→AH→Prop,K (.b (P x)) h0→Cq tp g (.agg x.enc::caps) h0 K) (k:K (.i .i64 (idxGo P L 0)) h0):Cq tp i_Q100 [.fl 11 (L.map Part.enc),.f (.func g) [] caps] h0 K:=by
  refine Cq_raw_go fn_Q100 (by simp [t_Q100]) fun wf rp=>?_;unfold t_Q100;simp (disch:=omega)only[go_sem, *]
  have hL:=rp.head.len
  refine ZC_loop_n (fun n e h=>∃ (i:Nat),n=L.length - i∧h.lim=h0.lim∧e 6=.fl 11 (L.map Part.enc)∧e 7=.i .i64 L.length∧e 8=.i .i64 i∧e 0=.fl 11 (L.map Part.enc)∧e 1=.f (.func g) [] caps∧i≤L.length∧h=h0∧idxGo P (L.drop i) i=idxGo P L 0) ?_ _ _ _ ⟨0,rfl, ?_⟩
  · rintro n e h ⟨i,rfl,hl,e6,e7,e8,e0,e1,hi,rfl,hz⟩ ih
    rw [ZC_unf Q100_7.eq_1]
    simp (disch:=omega)only[go_sem, *]
    refine Wb_dec (fun hc=>?_) (fun hc=>?_)
    · rw [drop_nth (by omega),idxGo] at hz
      simp (disch:=omega)only[go_sem, *]
      refine hp (nth L i) (nth_mem (by omega)) _ ?_
      simp (disch:=omega)only[go_sem, *]
      refine Wb_of (fun hc2=>?_) (fun hc2=>?_)
      · rw [if_pos hc2] at hz
        simp (disch:=omega)only[go_sem, *]
      · rw [if_neg (by simp [hc2])] at hz
        simp (disch:=omega)only[go_sem, *]
        refine ih _ _ _ ?_ ⟨i+1,rfl, ?_⟩
        · omega
        · simp (disch:=omega)only[go_sem, *]
          ((repeat' refine And.intro ?_ ?_)<;>first | omega | assumption | (skip))
    · rw [List.drop_eq_nil_of_le (by omega),idxGo] at hz
      simp (disch:=omega)only[go_sem, *]
  · simp (disch:=omega)only[go_sem, *]
theorem idxGoPart {P:Part→Bool}:∀ (L:List Part) (i:Int),0≤i→(0≤idxGo P L i↔L.any P=true)
  | [],i,hi=>by simp [idxGo]
  | a::l,i,hi=>by
    rw [idxGo]
    split
    · rename_i h;simp [h,hi]
    · rename_i h;rw [idxGoPart l (i+1) (by omega)];simp [h]
theorem hasPart {L:List Part} {g:Nat} {caps:List V} {P:Part→Bool} {h0:AH} {K:V→AH→Prop} (hp:∀ x,x∈L→∀ K:V→AH→Prop,K (.b (P x)) h0→Cq tp g (.agg x.enc::caps) h0 K) (k:K (.b (L.any P)) h0):Cq tp i_Q83 [.fl 11 (L.map Part.enc),.f (.func g) [] caps] h0 K:=by
  refine Cq_raw_go fn_Q83 (by simp [t_Q83]) fun wf rp=>?_;unfold t_Q83;simp (disch:=omega)only[go_sem, *]
  refine idxPart hp ?_
  simp (disch:=omega)only[go_sem, *]
  have e:(decide (0≤idxGo P L 0))=L.any P:=by rw [Bool.eq_iff_iff];simp only [decide_eq_true_eq];exact idxGoPart L 0 (Int.le_refl _)
  rw [e];exact k
theorem idxRun {L:List Run} {g:Nat} {caps:List V} {P:Run→Bool} {h0:AH} {K:V→AH→Prop} (hp:∀ x,x∈L→∀ K:V→AH→Prop,K (.b (P x)) h0→Cq tp g (.agg x.enc::caps) h0 K) (k:K (.i .i64 (idxGo P L 0)) h0):Cq tp i_Q99 [.fl 2 (L.map Run.enc),.f (.func g) [] caps] h0 K:=by
  refine Cq_raw_go fn_Q99 (by simp [t_Q99]) fun wf rp=>?_;unfold t_Q99;simp (disch:=omega)only[go_sem, *]
  have hL:=rp.head.len
  refine ZC_loop_n (fun n e h=>∃ (i:Nat),n=L.length - i∧h.lim=h0.lim∧e 6=.fl 2 (L.map Run.enc)∧e 7=.i .i64 L.length∧e 8=.i .i64 i∧e 0=.fl 2 (L.map Run.enc)∧e 1=.f (.func g) [] caps∧i≤L.length∧h=h0∧idxGo P (L.drop i) i=idxGo P L 0) ?_ _ _ _ ⟨0,rfl, ?_⟩
  · rintro n e h ⟨i,rfl,hl,e6,e7,e8,e0,e1,hi,rfl,hz⟩ ih
    rw [ZC_unf Q99_7.eq_1]
    simp (disch:=omega)only[go_sem, *]
    refine Wb_dec (fun hc=>?_) (fun hc=>?_)
    · rw [drop_nth (by omega),idxGo] at hz
      simp (disch:=omega)only[go_sem, *]
      refine hp (nth L i) (nth_mem (by omega)) _ ?_
      simp (disch:=omega)only[go_sem, *]
      refine Wb_of (fun hc2=>?_) (fun hc2=>?_)
      · rw [if_pos hc2] at hz
        simp (disch:=omega)only[go_sem, *]
      · rw [if_neg (by simp [hc2])] at hz
        simp (disch:=omega)only[go_sem, *]
        refine ih _ _ _ ?_ ⟨i+1,rfl, ?_⟩
        · omega
        · simp (disch:=omega)only[go_sem, *]
          ((repeat' refine And.intro ?_ ?_)<;>first | omega | assumption | (skip))
    · rw [List.drop_eq_nil_of_le (by omega),idxGo] at hz
      simp (disch:=omega)only[go_sem, *]
  · simp (disch:=omega)only[go_sem, *]
theorem idxGoRun {P:Run→Bool}:∀ (L:List Run) (i:Int),0≤i→(0≤idxGo P L i↔L.any P=true)
  | [],i,hi=>by simp [idxGo]
  | a::l,i,hi=>by
    rw [idxGo]
    split
    · rename_i h;simp [h,hi]
    · rename_i h;rw [idxGoRun l (i+1) (by omega)];simp [h]
theorem hasRun {L:List Run} {g:Nat} {caps:List V} {P:Run→Bool} {h0:AH} {K:V→AH→Prop} (hp:∀ x,x∈L→∀ K:V→AH→Prop,K (.b (P x)) h0→Cq tp g (.agg x.enc::caps) h0 K) (k:K (.b (L.any P)) h0):Cq tp i_Q78 [.fl 2 (L.map Run.enc),.f (.func g) [] caps] h0 K:=by
  refine Cq_raw_go fn_Q78 (by simp [t_Q78]) fun wf rp=>?_;unfold t_Q78;simp (disch:=omega)only[go_sem, *]
  refine idxRun hp ?_
  simp (disch:=omega)only[go_sem, *]
  have e:(decide (0≤idxGo P L 0))=L.any P:=by rw [Bool.eq_iff_iff];simp only [decide_eq_true_eq];exact idxGoRun L 0 (Int.le_refl _)
  rw [e];exact k
theorem eq_step {α:Type} [Inhabited α] [DecidableEq α] {L M:List α} {i:Nat} (hl:L.length=M.length) (hi:i<L.length) (ht:L.take i=M.take i) (he:nth L i=nth M i):L.take (i+1)=M.take (i+1):=by
  rw [List.take_add_one,List.take_add_one,ht,nth_get hi,nth_get (by omega),he]
theorem eq_no {α:Type} [Inhabited α] {L M:List α} {i:Nat} (hi:i<L.length) (he:¬ nth L i=nth M i):¬ L=M:=by rintro rfl;exact he rfl
theorem Node.eq (a b:Node):a=b↔a.kind=b.kind∧a.part=b.part∧a.n=b.n:=by cases a;cases b;simp
theorem Run.eq (a b:Run):a=b↔a.part=b.part∧a.n=b.n:=by cases a;cases b;simp
theorem Proc.eq (a b:Proc):a=b↔a.entry=b.entry∧a.prio=b.prio:=by cases a;cases b;simp
theorem Chan.eq (a b:Chan):a=b↔a.src=b.src∧a.dst=b.dst∧a.queue=b.queue∧a.cap=b.cap∧a.top=b.top∧a.late=b.late:=by cases a;cases b;simp
theorem Part.eq (a b:Part):a=b↔a.name=b.name∧a.budget=b.budget∧a.period=b.period∧a.sched=b.sched∧a.stop=b.stop∧a.procs=b.procs∧a.h0=b.h0∧a.h1=b.h1∧a.h2=b.h2∧a.h3=b.h3∧a.h4=b.h4:=by cases a;cases b;simp
end Go.Ab.T
namespace Go.Ab.T
open Go Go.Ab
set_option maxHeartbeats 1000000
@[irreducible] def withinB (n m:Int):Bool:=decide (0≤n∧n≤m)
theorem cwithin_ev {n m:Int}:Pf tp i_Q102 [.i .i64 n,.i .i64 m] (.b (withinB n m)):=by
  refine Pf_go fn_Q102 (by simp [t_Q102]) fun rp=>?_;unfold t_Q102;simp (disch:=omega)only[go_sem, *]
  repeat' (first | (refine Wg_dec (fun hc=>?_) (fun hc=>?_)<;>simp (disch:=omega)only[go_sem, *]) | (refine Wb_dec (fun hc=>?_) (fun hc=>?_)<;>simp (disch:=omega)only[go_sem, *]) | (refine Wg_of (fun hc=>?_) (fun hc=>?_)<;>simp (disch:=omega)only[go_sem, *]) | (refine Wb_of (fun hc=>?_) (fun hc=>?_)<;>simp (disch:=omega)only[go_sem, *]))
  all_goals (simp only [withinB];grind)
def procB (x:Proc):Bool:=decide (0≤x.entry∧x.entry≤511∧0≤x.prio∧x.prio≤255)
@[irreducible] def procsB (L:List Proc):Bool:=L.all procB&&decide (1≤L.length∧L.length≤3)
theorem all_no {α:Type} [Inhabited α] {L:List α} {P:α→Bool} {i:Nat} (hi:i<L.length) (h:P (nth L i)=false):L.all P=false:=by
  rw [List.all_eq_false];exact ⟨_,nth_mem hi,by simp [h]⟩
theorem all_drop {α:Type} [Inhabited α] {L:List α} {P:α→Bool} {i:Nat} (hi:i<L.length) (h:P (nth L i)=true):(L.drop i).all P=(L.drop (i+1)).all P:=by
  rw [drop_nth hi,List.all_cons,h,Bool.true_and]
theorem procs_ev {L:List Proc}:Pf tp i_Q101 [.fl 2 (L.map Proc.enc)] (.b (procsB L)):=by
  refine Pf_go fn_Q101 (by simp [t_Q101]) fun rp=>?_;unfold t_Q101;simp (disch:=omega)only[go_sem, *]
  have hL:=rp.head.len
  refine ZC_loop_n (fun n e h=>∃ (i:Nat),n=L.length - i∧h.lim=0∧e 5=.fl 2 (L.map Proc.enc)∧e 6=.i .i64 L.length∧e 7=.i .i64 i∧e 0=.fl 2 (L.map Proc.enc)∧i≤L.length∧L.all procB=(L.drop i).all procB) ?_ _ _ _ ⟨0,rfl, ?_⟩
  · rintro n e h ⟨i,rfl,hl,e5,e6,e7,e0,hi,hz⟩ ih
    rw [ZC_unf Q101_7.eq_1]
    simp (disch:=omega)only[go_sem, *]
    refine Wb_dec (fun hc=>?_) (fun hc=>?_)
    · simp (disch:=omega)only[go_sem, *]
      repeat' (first | (refine Wg_dec (fun hc=>?_) (fun hc=>?_)<;>simp (disch:=omega)only[go_sem, *]) | (refine Wb_dec (fun hc=>?_) (fun hc=>?_)<;>simp (disch:=omega)only[go_sem, *]) | (refine Wg_of (fun hc=>?_) (fun hc=>?_)<;>simp (disch:=omega)only[go_sem, *]) | (refine Wb_of (fun hc=>?_) (fun hc=>?_)<;>simp (disch:=omega)only[go_sem, *]) | (refine Pf.go (cwithin_ev) (by simp only [go_sem]) fun _=>?_;simp (disch:=omega)only[go_sem, *]))
      all_goals
        try
          have hn:procB (nth L i)=false:=by (simp only [procB,withinB] at *;grind)
          have:=all_no (by omega) hn
          simp only [procsB,this];rfl
      have hp:procB (nth L i)=true:=by (simp only [procB,withinB] at *;grind)
      refine ih _ _ _ ?_ ⟨i+1,rfl, ?_⟩
      · omega
      · simp (disch:=omega)only[go_sem, *]
        ((repeat' refine And.intro ?_ ?_)<;>first | omega | assumption | (exact all_drop (by omega) hp))
    · rw [List.drop_eq_nil_of_le (by omega),List.all_nil] at hz
      simp (disch:=omega)only[go_sem, *]
      repeat' (first | (refine Wg_dec (fun hc=>?_) (fun hc=>?_)<;>simp (disch:=omega)only[go_sem, *]) | (refine Wb_dec (fun hc=>?_) (fun hc=>?_)<;>simp (disch:=omega)only[go_sem, *]) | (refine Wg_of (fun hc=>?_) (fun hc=>?_)<;>simp (disch:=omega)only[go_sem, *]) | (refine Wb_of (fun hc=>?_) (fun hc=>?_)<;>simp (disch:=omega)only[go_sem, *]))
      all_goals (simp only [procsB,hz];grind)
  · simp (disch:=omega)only[go_sem, *]
/-! ### Names -/
def bt (s:ByteArray) (i:Nat):Int:=((s.data.toList.getD i 0).toNat:Int)
def nmB (i:Nat) (c:Int):Bool:=decide ((97≤c∧c≤122)∨(i≠0∧((48≤c∧c≤57)∨c=95)))
@[irreducible] def nameB (s:ByteArray):Bool:=decide ((∀ i,i<s.size→nmB i (bt s i)=true)∧1≤s.size∧s.size≤12)
theorem nameB_no {s:ByteArray} {i:Nat} (hi:i<s.size) (h:nmB i (bt s i)=false):nameB s=false:=by
  simp only [nameB,decide_eq_false_iff_not]
  intro hh;rw [hh.1 i hi] at h;cases h
theorem nameB_yes {s:ByteArray} (h:∀ j,j<s.size→nmB j (bt s j)=true):nameB s=decide (1≤s.size∧s.size≤12):=by
  simp only [nameB];congr 1;exact propext ⟨fun hh=>hh.2,fun hh=>⟨h,hh⟩⟩
theorem nm_step {s:ByteArray} {i:Nat} (h:∀ j,j<i→nmB j (bt s j)=true) (h1:nmB i (bt s i)=true):∀ j,j<i+1→nmB j (bt s j)=true:=fun j hj=>by
  by_cases e:j=i
  · rw [e];exact h1
  · exact h j (by omega)
@[go_sem] theorem bt_fold {s:ByteArray} {i:Nat}:(↑(UInt8.toNat (s.data.toList.getD i 0)):Int)=bt s i:=nrfl rfl
theorem cname_ev {s:ByteArray} (hs:s.size<4000000000):Pf tp i_Q82 [.s s] (.b (nameB s)):=by
  refine Pf_go fn_Q82 (by simp [t_Q82]) fun rp=>?_;unfold t_Q82;simp (disch:=omega)only[go_sem, *]
  refine ZC_loop_n (fun n e h=>∃ (i:Nat),n=s.size - i∧h.lim=0∧e 0=.s s∧e 7=.i .i64 s.size∧e 8=.i .i64 i∧i≤s.size∧∀ j,j<i→nmB j (bt s j)=true) ?_ _ _ _ ⟨0,rfl, ?_⟩
  · rintro n e h ⟨i,rfl,hl,e0,e7,e8,hi,hz⟩ ih
    rw [ZC_unf Q82_9.eq_1]
    simp (disch:=omega)only[go_sem, *]
    refine Wb_dec (fun hc=>?_) (fun hc=>?_)
    · simp (disch:=omega)only[go_sem, *,bt_fold]
      repeat' (first | (refine Wg_dec (fun hc=>?_) (fun hc=>?_)<;>simp (disch:=omega)only[go_sem, *]) | (refine Wb_dec (fun hc=>?_) (fun hc=>?_)<;>simp (disch:=omega)only[go_sem, *]) | (refine Wg_of (fun hc=>?_) (fun hc=>?_)<;>simp (disch:=omega)only[go_sem, *]) | (refine Wb_of (fun hc=>?_) (fun hc=>?_)<;>simp (disch:=omega)only[go_sem, *]))
      all_goals
        try
          have hn:nmB i (bt s i)=false:=by (simp only [nmB] at *;grind)
          exact (nameB_no (by omega) hn).symm
      all_goals
        have hp:nmB i (bt s i)=true:=by (simp only [nmB] at *;grind)
        refine ih _ _ _ ?_ ⟨i+1,rfl, ?_⟩
        · omega
        · simp (disch:=omega)only[go_sem, *]
          ((repeat' refine And.intro ?_ ?_)<;>first | omega | assumption | (exact nm_step hz hp))
    · have hy:=nameB_yes (s:=s) (fun j hj=>hz j (by omega))
      clear hz
      simp (disch:=omega)only[go_sem, *]
      repeat' (first | (refine Wg_dec (fun hc=>?_) (fun hc=>?_)<;>simp (disch:=omega)only[go_sem, *]) | (refine Wb_dec (fun hc=>?_) (fun hc=>?_)<;>simp (disch:=omega)only[go_sem, *]) | (refine Wg_of (fun hc=>?_) (fun hc=>?_)<;>simp (disch:=omega)only[go_sem, *]) | (refine Wb_of (fun hc=>?_) (fun hc=>?_)<;>simp (disch:=omega)only[go_sem, *]))
      all_goals grind
  · simp (disch:=omega)only[go_sem, *]
    ((repeat' refine And.intro ?_ ?_)<;>first | omega | assumption | ((intro j hj;omega)))
theorem rname_ev {s:ByteArray} (hs:s.size<4000000000):Pf tp i_Q79 [.s s] (.b (nameB s)):=by
  refine Pf_go fn_Q79 (by simp [t_Q79]) fun rp=>?_;unfold t_Q79;simp (disch:=omega)only[go_sem, *]
  refine ZC_loop_n (fun n e h=>∃ (i:Nat),n=s.size - i∧h.lim=0∧e 0=.s s∧e 3=.i .i64 i∧i≤s.size∧∀ j,j<i→nmB j (bt s j)=true) ?_ _ _ _ ⟨0,rfl, ?_⟩
  · rintro n e h ⟨i,rfl,hl,e0,e3,hi,hz⟩ ih
    rw [ZC_unf Q79_7.eq_1]
    simp (disch:=omega)only[go_sem, *]
    refine Wb_dec (fun hc=>?_) (fun hc=>?_)
    · simp (disch:=omega)only[go_sem, *,bt_fold]
      repeat' (first | (refine Wg_dec (fun hc=>?_) (fun hc=>?_)<;>simp (disch:=omega)only[go_sem, *]) | (refine Wb_dec (fun hc=>?_) (fun hc=>?_)<;>simp (disch:=omega)only[go_sem, *]) | (refine Wg_of (fun hc=>?_) (fun hc=>?_)<;>simp (disch:=omega)only[go_sem, *]) | (refine Wb_of (fun hc=>?_) (fun hc=>?_)<;>simp (disch:=omega)only[go_sem, *]))
      all_goals
        try
          have hn:nmB i (bt s i)=false:=by (simp only [nmB] at *;grind)
          exact (nameB_no (by omega) hn).symm
      all_goals
        have hp:nmB i (bt s i)=true:=by (simp only [nmB] at *;grind)
        refine ih _ _ _ ?_ ⟨i+1,rfl, ?_⟩
        · omega
        · simp (disch:=omega)only[go_sem, *]
          ((repeat' refine And.intro ?_ ?_)<;>first | omega | assumption | (exact nm_step hz hp))
    · have hy:=nameB_yes (s:=s) (fun j hj=>hz j (by omega))
      clear hz
      simp (disch:=omega)only[go_sem, *]
      repeat' (first | (refine Wg_dec (fun hc=>?_) (fun hc=>?_)<;>simp (disch:=omega)only[go_sem, *]) | (refine Wb_dec (fun hc=>?_) (fun hc=>?_)<;>simp (disch:=omega)only[go_sem, *]) | (refine Wg_of (fun hc=>?_) (fun hc=>?_)<;>simp (disch:=omega)only[go_sem, *]) | (refine Wb_of (fun hc=>?_) (fun hc=>?_)<;>simp (disch:=omega)only[go_sem, *]))
      all_goals grind
  · simp (disch:=omega)only[go_sem, *]
    ((repeat' refine And.intro ?_ ?_)<;>first | omega | assumption | ((intro j hj;omega)))
/-! ### Parts, channels -/
def healthB (x:Part):Bool:=decide (0≤x.h0∧x.h0≤2∧0≤x.h1∧x.h1≤2∧0≤x.h2∧x.h2≤2∧0≤x.h3∧x.h3≤2∧0≤x.h4∧x.h4≤2)
def budgetB (b p:Int):Bool:=decide ((b=0∧p=0)∨(1≤b∧b≤4096∧b≤p∧p≤4096))
@[irreducible] def partB (x:Part):Bool:=procsB x.procs&&healthB x&&budgetB x.budget x.period
theorem cpart_ev {x:Part}:Pf tp i_Q85 [.agg x.enc] (.b (partB x)):=by
  refine Pf_go fn_Q85 (by simp [t_Q85]) fun rp=>?_;unfold t_Q85;simp (disch:=omega)only[go_sem, *]
  iterate 6
    all_goals
      try
        refine ZC_loop ?_
        rw [ZC_unf Q85_7.eq_1]
        simp (disch:=omega)only[go_sem, *]
        try repeat' (first | (refine Wg_dec (fun hc=>?_) (fun hc=>?_)<;>simp (disch:=omega)only[go_sem, *]) | (refine Wb_dec (fun hc=>?_) (fun hc=>?_)<;>simp (disch:=omega)only[go_sem, *]) | (refine Wg_of (fun hc=>?_) (fun hc=>?_)<;>simp (disch:=omega)only[go_sem, *]) | (refine Wb_of (fun hc=>?_) (fun hc=>?_)<;>simp (disch:=omega)only[go_sem, *]))
  all_goals try (simp only [partB,healthB];grind)
  repeat' (first | (refine Wg_dec (fun hc=>?_) (fun hc=>?_)<;>simp (disch:=omega)only[go_sem, *]) | (refine Wb_dec (fun hc=>?_) (fun hc=>?_)<;>simp (disch:=omega)only[go_sem, *]) | (refine Wg_of (fun hc=>?_) (fun hc=>?_)<;>simp (disch:=omega)only[go_sem, *]) | (refine Wb_of (fun hc=>?_) (fun hc=>?_)<;>simp (disch:=omega)only[go_sem, *]) | (refine Pf.go (procs_ev) (by simp only [go_sem]) fun _=>?_;simp (disch:=omega)only[go_sem, *]))
  all_goals (simp only [partB,healthB,budgetB];grind)
@[irreducible] def chanB (n:Int) (x:Chan):Bool:=decide (0≤x.src∧x.src<n∧0≤x.dst∧x.dst<n∧x.src≠x.dst∧0≤x.late∧x.late≤4096)&&(if x.queue=true then decide (1≤x.cap∧x.cap≤8) else decide (x.cap=0))
theorem cchan_ev {c:Config} {x:Chan}:Pf tp i_Q86 [.agg c.enc,.agg x.enc] (.b (chanB c.parts.length x)):=by
  refine Pf_go fn_Q86 (by simp [t_Q86]) fun rp=>?_;unfold t_Q86;simp (disch:=omega)only[go_sem, *]
  have hL:=rp.head.agg.head.len
  repeat' (first | (refine Wg_dec (fun hc=>?_) (fun hc=>?_)<;>simp (disch:=omega)only[go_sem, *]) | (refine Wb_dec (fun hc=>?_) (fun hc=>?_)<;>simp (disch:=omega)only[go_sem, *]) | (refine Wg_of (fun hc=>?_) (fun hc=>?_)<;>simp (disch:=omega)only[go_sem, *]) | (refine Wb_of (fun hc=>?_) (fun hc=>?_)<;>simp (disch:=omega)only[go_sem, *]) | (refine Pf.go (cwithin_ev) (by simp only [go_sem]) fun _=>?_;simp (disch:=omega)only[go_sem, *]))
  all_goals (simp only [chanB,withinB] at *;grind)
theorem rchan_ev {n:Int} {x:Chan}:Pf tp i_Q81 [.agg x.enc,.i .i64 n] (.b (chanB n x)):=by
  refine Pf_go fn_Q81 (by simp [t_Q81]) fun rp=>?_;unfold t_Q81;simp (disch:=omega)only[go_sem, *]
  repeat' (first | (refine Wg_dec (fun hc=>?_) (fun hc=>?_)<;>simp (disch:=omega)only[go_sem, *]) | (refine Wb_dec (fun hc=>?_) (fun hc=>?_)<;>simp (disch:=omega)only[go_sem, *]) | (refine Wg_of (fun hc=>?_) (fun hc=>?_)<;>simp (disch:=omega)only[go_sem, *]) | (refine Wb_of (fun hc=>?_) (fun hc=>?_)<;>simp (disch:=omega)only[go_sem, *]))
  all_goals (simp only [chanB] at *;grind)
theorem procsB_no {L:List Proc} (h:L.length<1∨3<L.length):procsB L=false:=by simp only [procsB];grind
theorem rpart_ev {x:Part}:Pf tp i_Q80 [.agg x.enc] (.b (partB x)):=by
  refine Pf_go fn_Q80 (by simp [t_Q80]) fun rp=>?_;unfold t_Q80;simp (disch:=omega)only[go_sem, *]
  have hL:=Rep.len (rp.head.agg _ (by simp [Part.enc]):Rep (.fl 2 (x.procs.map Proc.enc)))
  repeat' (first | (refine Wg_dec (fun hc=>?_) (fun hc=>?_)<;>simp (disch:=omega)only[go_sem, *]) | (refine Wb_dec (fun hc=>?_) (fun hc=>?_)<;>simp (disch:=omega)only[go_sem, *]) | (refine Wg_of (fun hc=>?_) (fun hc=>?_)<;>simp (disch:=omega)only[go_sem, *]) | (refine Wb_of (fun hc=>?_) (fun hc=>?_)<;>simp (disch:=omega)only[go_sem, *]))
  iterate 2
    (rw [partB,procsB_no (by omega)];rfl)
  refine ZC_loop_n (fun n e h=>∃ (i:Nat),n=x.procs.length - i∧h.lim=0∧e 18=.fl 2 (x.procs.map Proc.enc)∧e 19=.i .i64 x.procs.length∧e 20=.i .i64 i∧e 1=.p 0 0 0∧i≤x.procs.length∧h.get 0=some ⟨11,[x.enc]⟩∧1≤h.next∧x.procs.all procB=(x.procs.drop i).all procB) ?_ _ _ _ ⟨0,rfl, ?_⟩
  · rintro n e h ⟨i,rfl,hl,e18,e19,e20,e1,hi,hg,hn,hz⟩ ih
    rw [ZC_unf Q80_9.eq_1]
    simp (disch:=omega)only[go_sem, *]
    refine Wb_dec (fun hc=>?_) (fun hc=>?_)
    · simp (disch:=omega)only[go_sem, *]
      repeat' (first | (refine Wg_dec (fun hc=>?_) (fun hc=>?_)<;>simp (disch:=omega)only[go_sem, *]) | (refine Wb_dec (fun hc=>?_) (fun hc=>?_)<;>simp (disch:=omega)only[go_sem, *]) | (refine Wg_of (fun hc=>?_) (fun hc=>?_)<;>simp (disch:=omega)only[go_sem, *]) | (refine Wb_of (fun hc=>?_) (fun hc=>?_)<;>simp (disch:=omega)only[go_sem, *]))
      all_goals
        try
          have hn:procB (nth x.procs i)=false:=by (simp only [procB] at *;grind)
          have:=all_no (by omega) hn
          simp only [partB,procsB,this];rfl
      have hp:procB (nth x.procs i)=true:=by (simp only [procB] at *;grind)
      refine ih _ _ _ ?_ ⟨i+1,rfl, ?_⟩
      · omega
      · simp (disch:=omega)only[go_sem, *]
        ((repeat' refine And.intro ?_ ?_)<;>first | omega | assumption | (exact all_drop (by omega) hp))
    · rw [List.drop_eq_nil_of_le (by omega),List.all_nil] at hz
      simp only [Part.enc] at hg
      have hp:procsB x.procs=true:=by simp only [procsB,hz];grind
      simp (disch:=omega)only[go_sem, *]
      iterate 6
        all_goals
          try
            refine ZC_loop ?_
            rw [ZC_unf Q80_16.eq_1]
            simp (disch:=omega)only[go_sem, *]
            try repeat' (first | (refine Wg_dec (fun hc=>?_) (fun hc=>?_)<;>simp (disch:=omega)only[go_sem, *]) | (refine Wb_dec (fun hc=>?_) (fun hc=>?_)<;>simp (disch:=omega)only[go_sem, *]) | (refine Wg_of (fun hc=>?_) (fun hc=>?_)<;>simp (disch:=omega)only[go_sem, *]) | (refine Wb_of (fun hc=>?_) (fun hc=>?_)<;>simp (disch:=omega)only[go_sem, *]))
      all_goals (simp only [partB,healthB,budgetB,hp];grind)
  · simp (disch:=omega)only[go_sem, *]
end Go.Ab.T
namespace Go.Ab.T
open Go Go.Ab
set_option maxHeartbeats 1000000
theorem Config.eq (a b:Config):a=b↔a.parts=b.parts∧a.chans=b.chans∧a.tables=b.tables:=by cases a;cases b;simp
theorem refNodes_ev {L M:List Node}:Pf tp i_Q5 [.fl 3 (L.map Node.enc),.fl 3 (M.map Node.enc)] (.b (decide (L=M))):=by
  refine Pf_go fn_Q5 (by simp [t_Q5]) fun rp=>?_;unfold t_Q5;simp (disch:=omega)only[go_sem, *]
  have hL:=rp.head.len
  have hM:=rp.tail.head.len
  refine Wb_dec (fun hc=>?_) (fun hc=>?_)
  · simp (disch:=omega)only[go_sem, *]
    simp only [false_eq_decide_iff]
    rintro rfl;exact hc rfl
  · simp (disch:=omega)only[go_sem, *]
    refine ZC_loop_n (fun n e h=>∃ (i:Nat),n=L.length - i∧h.lim=0∧e 0=.fl 3 (L.map Node.enc)∧e 1=.fl 3 (M.map Node.enc)∧e 12=.i .i64 L.length∧e 13=.i .i64 i∧i≤L.length∧L.take i=M.take i) ?_ _ _ _ ⟨0,rfl, ?_⟩
    · rintro n e h ⟨i,rfl,hl,e0,e1,e12,e13,hi,hz⟩ ih
      rw [ZC_unf Q5_9.eq_1]
      simp (disch:=omega)only[go_sem, *]
      refine Wb_dec (fun hc2=>?_) (fun hc2=>?_)
      · simp (disch:=omega)only[go_sem, *]
        refine Wb_dec (fun hc3=>?_) (fun hc3=>?_)
        · simp (disch:=omega)only[go_sem, *]
          simp only [false_eq_decide_iff]
          exact eq_no (i:=i) (by omega) (fun h=>hc3 (((Node.eq _ _).1 h)))
        · have he:=(Node.eq (nth L i) (nth M i)).2 (Decidable.not_not.1 hc3)
          simp (disch:=omega)only[go_sem, *]
          refine ih _ _ _ ?_ ⟨i+1,rfl, ?_⟩
          · omega
          · simp (disch:=omega)only[go_sem, *]
            ((repeat' refine And.intro ?_ ?_)<;>first | omega | assumption | (exact eq_step (by omega) (by omega) hz he))
      · simp (disch:=omega)only[go_sem, *]
        simp only [true_eq_decide_iff]
        rw [List.take_of_length_le (by omega),List.take_of_length_le (by omega)] at hz
        exact hz
    · simp (disch:=omega)only[go_sem, *]
      first | done | simp
theorem rsameParts_ev {a b:Part}:Pf tp i_Q63 [.agg a.enc,.agg b.enc] (.b (decide (a=b))):=by
  refine Pf_go fn_Q63 (by simp [t_Q63]) fun rp=>?_;unfold t_Q63;simp (disch:=omega)only[go_sem, *]
  have hL:=Rep.len (rp.head.agg _ (by simp [Part.enc]):Rep (.fl 2 (a.procs.map Proc.enc)))
  repeat' (first | (refine Wg_dec (fun hc=>?_) (fun hc=>?_)<;>simp (disch:=omega)only[go_sem, *]) | (refine Wb_dec (fun hc=>?_) (fun hc=>?_)<;>simp (disch:=omega)only[go_sem, *]) | (refine Wg_of (fun hc=>?_) (fun hc=>?_)<;>simp (disch:=omega)only[go_sem, *]) | (refine Wb_of (fun hc=>?_) (fun hc=>?_)<;>simp (disch:=omega)only[go_sem, *]))
  all_goals try (simp only [Part.eq];grind)
  refine ZC_loop_n (fun n e h=>∃ (i:Nat),n=a.procs.length - i∧h.lim=0∧e 2=.p 0 0 0∧e 3=.p 1 0 0∧e 57=.i .i64 a.procs.length∧e 58=.i .i64 i∧h.get 0=some ⟨11,[a.enc]⟩∧h.get 1=some ⟨11,[b.enc]⟩∧i≤a.procs.length∧a.procs.take i=b.procs.take i) ?_ _ _ _ ⟨0,rfl, ?_⟩
  · rintro n e h ⟨i,rfl,hl,e2,e3,e57,e58,hg0,hg1,hi,hz⟩ ih
    rw [ZC_unf Q63_9.eq_1]
    simp (disch:=omega)only[go_sem, *]
    simp only [Part.enc] at hg0 hg1
    have hpl:a.procs.length=b.procs.length:=by grind
    refine Wb_dec (fun hc2=>?_) (fun hc2=>?_)
    · simp (disch:=omega)only[go_sem, *]
      refine Wb_dec (fun hc3=>?_) (fun hc3=>?_)
      · simp (disch:=omega)only[go_sem, *]
        simp only [false_eq_decide_iff]
        intro hab
        exact eq_no (L:=a.procs) (M:=b.procs) (i:=i) (by omega) (fun h=>hc3 (((Proc.eq _ _).1 h))) (by rw [hab])
      · have he:=(Proc.eq (nth a.procs i) (nth b.procs i)).2 (Decidable.not_not.1 hc3)
        simp (disch:=omega)only[go_sem, *]
        refine ih _ _ _ ?_ ⟨i+1,rfl, ?_⟩
        · omega
        · simp (disch:=omega)only[go_sem, *]
          ((repeat' refine And.intro ?_ ?_)<;>first | omega | assumption | (exact eq_step (by omega) (by omega) hz he))
    · simp (disch:=omega)only[go_sem, *]
      rw [List.take_of_length_le (by omega),List.take_of_length_le (by omega)] at hz
      simp only [Part.eq];grind
  · simp (disch:=omega)only[go_sem, *]
    first | done | simp
theorem rbut_ev {a b:Config}:Pf tp i_Q36 [.agg a.enc,.agg b.enc] (.b (decide (a.parts=b.parts∧a.chans=b.chans))):=by
  refine Pf_go fn_Q36 (by simp [t_Q36]) fun rp=>?_;unfold t_Q36;simp (disch:=omega)only[go_sem, *]
  have hL:=rp.head.agg.head.len
  have hM:=rp.head.agg.tail.head.len
  repeat' (first | (refine Wg_dec (fun hc=>?_) (fun hc=>?_)<;>simp (disch:=omega)only[go_sem, *]) | (refine Wb_dec (fun hc=>?_) (fun hc=>?_)<;>simp (disch:=omega)only[go_sem, *]) | (refine Wg_of (fun hc=>?_) (fun hc=>?_)<;>simp (disch:=omega)only[go_sem, *]) | (refine Wb_of (fun hc=>?_) (fun hc=>?_)<;>simp (disch:=omega)only[go_sem, *]))
  all_goals try (simp only [false_eq_decide_iff];rintro ⟨h1,h2⟩;have:=congrArg List.length h1;have:=congrArg List.length h2;omega)
  refine ZC_loop_n (fun n e h=>∃ (i:Nat),n=a.parts.length - i∧h.lim=0∧e 2=.p 0 0 0∧e 3=.p 1 0 0∧e 25=.i .i64 a.parts.length∧e 26=.i .i64 i∧h.get 0=some ⟨3,[a.enc]⟩∧h.get 1=some ⟨3,[b.enc]⟩∧i≤a.parts.length∧a.parts.take i=b.parts.take i) ?_ _ _ _ ⟨0,rfl, ?_⟩
  · rintro n e h ⟨i,rfl,hl,e2,e3,e25,e26,hg0,hg1,hi,hz⟩ ih
    rw [ZC_unf Q36_9.eq_1]
    simp (disch:=omega)only[go_sem, *]
    simp only [Config.enc] at hg0 hg1
    have hpl:a.parts.length=b.parts.length:=by grind
    have hcl:a.chans.length=b.chans.length:=by grind
    refine Wb_dec (fun hc2=>?_) (fun hc2=>?_)
    · simp (disch:=omega)only[go_sem, *]
      refine Pf.go (rsameParts_ev (a:=nth a.parts i) (b:=nth b.parts i)) (by simp only [go_sem]) fun _=>?_
      simp (disch:=omega)only[go_sem, *]
      refine Wb_dec (fun hc3=>?_) (fun hc3=>?_)
      · simp (disch:=omega)only[go_sem, *]
        simp only [false_eq_decide_iff]
        intro hab
        exact eq_no (L:=a.parts) (M:=b.parts) (i:=i) (by omega) hc3 hab.1
      · simp (disch:=omega)only[go_sem, *]
        refine ih _ _ _ ?_ ⟨i+1,rfl, ?_⟩
        · omega
        · simp (disch:=omega)only[go_sem, *]
          ((repeat' refine And.intro ?_ ?_)<;>first | omega | assumption | (exact eq_step (by omega) (by omega) hz (Decidable.not_not.1 hc3)))
    · rw [List.take_of_length_le (by omega),List.take_of_length_le (by omega)] at hz
      clear ih
      simp (disch:=omega)only[go_sem, *]
      refine ZC_loop_n (fun n e h=>∃ (i:Nat),n=a.chans.length - i∧h.lim=0∧e 2=.p 0 0 0∧e 3=.p 1 0 0∧e 44=.i .i64 a.chans.length∧e 45=.i .i64 i∧h.get 0=some ⟨3,[a.enc]⟩∧h.get 1=some ⟨3,[b.enc]⟩∧i≤a.chans.length∧a.chans.take i=b.chans.take i) ?_ _ _ _ ⟨0,rfl, ?_⟩
      · rintro n e h ⟨i,rfl,hl,e2,e3,e44,e45,gg0,gg1,hj,hy⟩ ih
        rw [ZC_unf Q36_16.eq_1]
        simp (disch:=omega)only[go_sem, *]
        simp only [Config.enc] at gg0 gg1
        refine Wb_dec (fun hc2=>?_) (fun hc2=>?_)
        · simp (disch:=omega)only[go_sem, *]
          refine Wb_dec (fun hc3=>?_) (fun hc3=>?_)
          · simp (disch:=omega)only[go_sem, *]
            simp only [false_eq_decide_iff]
            intro hab
            exact eq_no (L:=a.chans) (M:=b.chans) (i:=i) (by omega) (fun h=>hc3 (((Chan.eq _ _).1 h))) (by first | exact hab.2 | exact hab)
          · have he:=(Chan.eq (nth a.chans i) (nth b.chans i)).2 (Decidable.not_not.1 hc3)
            simp (disch:=omega)only[go_sem, *]
            refine ih _ _ _ ?_ ⟨i+1,rfl, ?_⟩
            · omega
            · simp (disch:=omega)only[go_sem, *]
              ((repeat' refine And.intro ?_ ?_)<;>first | omega | assumption | (exact eq_step (by omega) (by omega) hy he))
        · simp (disch:=omega)only[go_sem, *]
          rw [List.take_of_length_le (by omega),List.take_of_length_le (by omega)] at hy
          simp only [true_eq_decide_iff]
          first | exact ⟨hz,hy⟩ | exact hy
      · simp (disch:=omega)only[go_sem, *]
        first | done | simp
  · simp (disch:=omega)only[go_sem, *]
    first | done | simp
theorem rsame_ev {a b:Config}:Pf tp i_Q12 [.agg a.enc,.agg b.enc] (.b (decide (a=b))):=by
  refine Pf_go fn_Q12 (by simp [t_Q12]) fun rp=>?_;unfold t_Q12;simp (disch:=omega)only[go_sem, *]
  have hL:=rp.head.agg.tail.tail.head.len
  refine Pf.go (rbut_ev (a:=a) (b:=b)) (by simp only [go_sem]) fun _=>?_
  simp (disch:=omega)only[go_sem, *]
  repeat' (first | (refine Wg_dec (fun hc=>?_) (fun hc=>?_)<;>simp (disch:=omega)only[go_sem, *]) | (refine Wb_dec (fun hc=>?_) (fun hc=>?_)<;>simp (disch:=omega)only[go_sem, *]) | (refine Wg_of (fun hc=>?_) (fun hc=>?_)<;>simp (disch:=omega)only[go_sem, *]) | (refine Wb_of (fun hc=>?_) (fun hc=>?_)<;>simp (disch:=omega)only[go_sem, *]))
  all_goals try (simp only [false_eq_decide_iff];rintro rfl;simp at *;done)
  refine ZC_loop_n (fun n e h=>∃ (i:Nat),n=a.tables.length - i∧h.lim=0∧e 2=.p 0 0 0∧e 3=.p 1 0 0∧e 21=.i .i64 a.tables.length∧e 22=.i .i64 i∧h.get 0=some ⟨3,[a.enc]⟩∧h.get 1=some ⟨3,[b.enc]⟩∧i≤a.tables.length∧a.tables.take i=b.tables.take i) ?_ _ _ _ ⟨0,rfl, ?_⟩
  · rintro n e h ⟨i,rfl,hl,e2,e3,e21,e22,hg0,hg1,hi,hz⟩ ih
    rw [ZC_unf Q12_9.eq_1]
    simp (disch:=omega)only[go_sem, *]
    simp only [Config.enc] at hg0 hg1
    have hpl:a.tables.length=b.tables.length:=by grind
    refine Wb_dec (fun hc2=>?_) (fun hc2=>?_)
    · simp (disch:=omega)only[go_sem, *]
      refine Pf.go (refNodes_ev (L:=nth a.tables i) (M:=nth b.tables i)) (by simp only [go_sem]) fun _=>?_
      simp (disch:=omega)only[go_sem, *]
      refine Wb_dec (fun hc3=>?_) (fun hc3=>?_)
      · simp (disch:=omega)only[go_sem, *]
        simp only [false_eq_decide_iff]
        intro hab
        exact eq_no (L:=a.tables) (M:=b.tables) (i:=i) (by omega) hc3 (by rw [hab])
      · simp (disch:=omega)only[go_sem, *]
        refine ih _ _ _ ?_ ⟨i+1,rfl, ?_⟩
        · omega
        · simp (disch:=omega)only[go_sem, *]
          ((repeat' refine And.intro ?_ ?_)<;>first | omega | assumption | (exact eq_step (by omega) (by omega) hz (Decidable.not_not.1 hc3)))
    · simp (disch:=omega)only[go_sem, *]
      rw [List.take_of_length_le (by omega),List.take_of_length_le (by omega)] at hz
      simp only [Config.eq];grind
  · simp (disch:=omega)only[go_sem, *]
    first | done | simp
end Go.Ab.T
namespace Go.Ab.T
open Go Go.Ab
theorem grown0 {b:Nat} {h h1 h2:AH} {x v:V} (g:Grown b h1 x v h2) (e:Ext h h1) (hb:b≤h.next):Grown b h x v h2:=by
  have e1:=e.next;have g1:=g.next
  refine ⟨by omega,g.lim.trans e.lim,fun i hi=>by rw [g.low i hi,e.get i (by omega)],fun i hi hn=>by rw [g.get i (by omega) hn,e.get i hi], ?_,g.cell,g.cells⟩
  rcases g.own with h | h | h
  · exact .inl h
  · exact .inr (.inl h)
  · exact .inr (.inr (by omega))
theorem sl_low {b sz:Nat} {h:AH} {v:V} {R:List (List V)} (s:Sl b h sz v R):nilV v=true∨idV v<h.next:=by
  rcases s with ⟨hv,_⟩ | ⟨i,el,cap,cs,rfl,_,_,_,_,h1,_,_⟩
  · rcases hv with rfl | rfl<;>exact .inl rfl
  · exact .inr h1
end Go.Ab.T
namespace Go.Ab.T
open Go Go.Ab
structure Place where
  at_:Nat
  left:Int
  deriving DecidableEq,Inhabited
@[go_sem] def Place.enc (p:Place):List V:=[.i .i64 p.at_,.i .i64 p.left]
structure Cs where
  S:List Place
  leaf:Nat
  gone:Int
  at_:Int
def dn (L:List Node) (a:Nat) (S:List Place):List Place×Nat:=
  if h:a<L.length then
    if (nth L a).kind=3∨(nth L a).kind=4 then dn L (a+1) (⟨a,(nth L a).n⟩::S) else (S,a)
  else (S,a)
termination_by L.length - a
def stp (L:List Node) (next:Nat):List Place→List Place×Nat
  | []=>([],L.length)
  | p::r=>if 0<p.left - 1 then dn L (if (nth L p.at_).kind=4 then p.at_+1 else next) (⟨p.at_,p.left - 1⟩::r) else stp L next r
def stpOk (L:List Node) (next:Nat):List Place→Prop
  | []=>True
  | p::r=>p.at_<L.length∧1≤p.left∧p.left≤9223372036854775807∧(if 0<p.left - 1 then (dn L (if (nth L p.at_).kind=4 then p.at_+1 else next) (⟨p.at_,p.left - 1⟩::r)).2<L.length∧(dn L (if (nth L p.at_).kind=4 then p.at_+1 else next) (⟨p.at_,p.left - 1⟩::r)).1.length≤L.length else stpOk L next r)
theorem dn_len {L:List Node} {a:Nat} {S:List Place}:S.length≤(dn L a S).1.length:=by
  rw [dn]
  split
  · split
    · have:=dn_len (L:=L) (a:=a+1) (S:=⟨a,(nth L a).n⟩::S)
      simp at this;omega
    · simp
  · simp
termination_by L.length - a
def lf (L:List Node) (c:Cs):Node:=nth L c.leaf
structure CurOk (L:List Node) (c:Cs):Prop where
  stp:stpOk L (c.leaf+1) c.S
  gone:0≤c.gone∧c.gone<(lf L c).n∧(lf L c).n≤4611686018427387904
  at_:0≤c.at_∧c.at_≤4611686018427387903
def nextC (L:List Node) (c:Cs):Cs:=⟨(stp L (c.leaf+1) c.S).1,(stp L (c.leaf+1) c.S).2,0,c.at_+((lf L c).n - c.gone)⟩
def tickC (L:List Node) (c:Cs):Cs:=if c.gone+1=(lf L c).n then ⟨(stp L (c.leaf+1) c.S).1,(stp L (c.leaf+1) c.S).2,0,c.at_+1⟩ else ⟨c.S,c.leaf,c.gone+1,c.at_+1⟩
def curB (L:List Node) (sv:V) (c:Cs):Blk:=⟨5,[[.fl 3 (L.map Node.enc),sv,.i .i64 c.leaf,.i .i64 c.gone,.i .i64 c.at_]]⟩
structure Cur (h:AH) (id:Nat) (sv:V) (L:List Node) (c:Cs):Prop where
  blk:h.get id=some (curB L sv c)
  stk:Sl (id+1) h 2 sv (c.S.reverse.map Place.enc)
  big:L.length<4000000000
  sbig:c.S.length≤L.length
  lo:h.lim≤id
  hi:id<h.next
structure CurF (h:AH) (id:Nat) (sv:V) (h':AH) (sv':V):Prop where
  next:h.next≤h'.next
  lim:h'.lim=h.lim
  get:∀ i,i<h.next→i≠id→(nilV sv=true∨i≠idV sv)→h'.get i=h.get i
  own:nilV sv'=true∨(nilV sv=false∧idV sv'=idV sv)∨h.next≤idV sv'
theorem CurF.refl {h:AH} {id:Nat} {sv:V}:CurF h id sv h sv:=⟨Nat.le_refl _,rfl,fun _ _ _ _=>rfl,by
  by_cases hs:nilV sv=true
  · exact .inl hs
  · exact .inr (.inl ⟨by simpa using hs,rfl⟩)⟩
theorem CurF.trans {h h1 h2:AH} {id:Nat} {sv s1 s2:V} (a:CurF h id sv h1 s1) (b:CurF h1 id s1 h2 s2):CurF h id sv h2 s2:=by
  have an:=a.next;have bn:=b.next
  refine ⟨by omega,b.lim.trans a.lim,fun i hi hne hs=>?_, ?_⟩
  · rw [b.get i (by omega) hne ?_,a.get i hi hne hs]
    rcases a.own with h1 | ⟨hn,h1⟩ | h1
    · exact .inl h1
    · rcases hs with hs | hs
      · rw [hs] at hn;cases hn
      · exact .inr (by rw [h1];exact hs)
    · exact .inr (by omega)
  · rcases b.own with h2 | ⟨hn,h2⟩ | h2
    · exact .inl h2
    · rcases a.own with h1 | ⟨hn1,h1⟩ | h1
      · rw [h1] at hn;cases hn
      · exact .inr (.inl ⟨hn1,h2.trans h1⟩)
      · exact .inr (.inr (by omega))
    · exact .inr (.inr (by omega))
theorem CurF.ext {h h1 h2:AH} {id:Nat} {sv s1:V} (a:CurF h id sv h1 s1) (b:Ext h1 h2):CurF h id sv h2 s1:=by
  have an:=a.next;have bn:=b.next
  exact ⟨by omega,b.lim.trans a.lim,fun i hi hne hs=>by rw [b.get i (by omega),a.get i hi hne hs],a.own⟩
theorem Cur.ext {h h':AH} {id:Nat} {sv:V} {L:List Node} {c:Cs} (k:Cur h id sv L c) (x:Ext h h'):Cur h' id sv L c:=by
  have:=x.next
  exact ⟨by rw [x.get id k.hi];exact k.blk,k.stk.ext x,k.big,k.sbig,by rw [x.lim];exact k.lo,by have:=k.hi;omega⟩
theorem Cur.sne {h:AH} {id:Nat} {sv:V} {L:List Node} {c:Cs} (k:Cur h id sv L c):nilV sv=true∨(id<idV sv∧idV sv<h.next):=by
  rcases k.stk with ⟨hv,_⟩ | ⟨i,el,cap,cs,rfl,_,_,_,_,h1,h2,_⟩
  · rcases hv with rfl | rfl<;>exact .inl rfl
  · exact .inr ⟨h2,h1⟩
theorem Cur.sne' {h:AH} {id:Nat} {sv:V} {L:List Node} {c:Cs} (k:Cur h id sv L c):nilV sv=true∨id≠idV sv:=by
  rcases k.sne with h | h
  · exact .inl h
  · exact .inr (by omega)
theorem Cur.put {h:AH} {id:Nat} {sv:V} {L:List Node} {c c':Cs} (k:Cur h id sv L c) (hS:c'.S=c.S):Cur (h.put id (curB L sv c')) id sv L c':=by
  refine ⟨by rw [get_put,gsel_eq rfl], ?_,k.big,by rw [hS];exact k.sbig,k.lo,k.hi⟩
  rw [hS]
  rcases k.stk with ⟨hv,hR⟩ | ⟨i,el,cap,cs,rfl,hg,h1,h2,h3,h4,h5,h6⟩
  · exact .inl ⟨hv,hR⟩
  · exact .inr ⟨i,el,cap,cs,rfl,by rw [get_put,gsel_ne (by omega)];exact hg,h1,h2,h3,h4,h5,h6⟩
theorem CurF.put {h:AH} {id:Nat} {sv:V} {b:Blk}:CurF h id sv (h.put id b) sv:=by
  refine ⟨Nat.le_refl _,rfl,fun i hi hne hs=>by rw [get_put,gsel_ne hne],(CurF.refl (h:=h) (id:=id)).own⟩
theorem Cur.push {h h4:AH} {id:Nat} {sv w:V} {L:List Node} {c c':Cs} {p:Place} (k:Cur h id sv L c) (s4:Sl (id+1) h4 2 w (c.S.reverse.map Place.enc++[p.enc])) (a4:Grown (id+1) h sv w h4) (hS:c'.S=p::c.S) (hl:c'.S.length≤L.length):Cur (h4.put id (curB L w c')) id w L c':=by
  have hn:=a4.next;have hi:=k.hi;have:=k.lo
  refine ⟨by rw [get_put,gsel_eq rfl], ?_,k.big,hl, ?_, ?_⟩
  · rw [hS]
    rcases s4 with ⟨hv,hR⟩ | ⟨i,el,cap,cs,hw,hg,h1,h2,h3,q4,h5,h6⟩
    · simp at hR
    · refine Sl.same (h:=h4) (.inr ⟨i,el,cap,cs,by simpa using hw,hg,h1,by simpa using h2,by simpa using h3,q4,h5,by simpa using h6⟩) (Nat.le_refl _) (fun _=>?_)
      rw [get_put,gsel_ne (by rw [hw];simp only [idV];omega)]
  · rw [lim_put,a4.lim];exact k.lo
  · rw [next_put];omega
theorem CurF.push {h h4:AH} {id:Nat} {sv w:V} {b:Blk} (a4:Grown (id+1) h sv w h4):CurF h id sv (h4.put id b) w:=
  ⟨a4.next,a4.lim,fun i hi hne hs=>by rw [get_put,gsel_ne hne];exact a4.get i hi hs,a4.own⟩
set_option maxHeartbeats 1000000
theorem down_ev {h : AH} {id : Nat} {sv : V} {L : List Node} {c : Cs} {a : Nat} {K : V → AH → Prop} (k : Cur h id sv L c) (hd : (dn L a c.S).2 < L.length) (hl : (dn L a c.S).1.length ≤ L.length)
    (kk:∀ sv' h',Cur h' id sv' L ⟨(dn L a c.S).1,(dn L a c.S).2,c.gone,c.at_⟩→CurF h id sv h' sv'→K (.tup []) h'):Cq tp i_Q94 [.p id 0 0,.i .i64 a] h K:=by
  refine Cq_raw_go fn_Q94 (by simp [t_Q94]) fun wf rp=>?_;unfold t_Q94;simp (disch:=omega)only[go_sem, *]
  refine ZC_loop_n (fun n e h'=>∃ (b:Nat) (S:List Place) (sv':V),n=L.length - b∧e 0=.p id 0 0∧e 1=.i .i64 b∧Cur h' id sv' L ⟨S,c.leaf,c.gone,c.at_⟩∧CurF h id sv h' sv'∧dn L b S=dn L a c.S) ?_ _ _ _ ⟨a,c.S,sv,rfl, ?_⟩
  · rintro n e h' ⟨b,S,sv',rfl,e0,e1,k',f',hz⟩ ih
    have k0:=k'
    obtain ⟨kb,ks,kbig,ksb,klo,khi⟩:=k'
    simp only [curB] at kb
    have hb:b<L.length:=by
      rw [← hz] at hd
      rw [dn] at hd
      split at hd
      · assumption
      · exact hd
    rw [dn,dif_pos hb] at hz
    rw [ZC_unf Q94_3.eq_1]
    have tail:(nth L b).kind=3∨(nth L b).kind=4→dn L (b+1) (⟨b,(nth L b).n⟩::S)=dn L a c.S:=fun hk=>by rw [← hz,if_pos hk]
    have stop:¬ ((nth L b).kind=3∨(nth L b).kind=4)→(S,b)=dn L a c.S:=fun hk=>by rw [← hz,if_neg hk]
    have kl:=dn_len (L:=L) (a:=b+1) (S:=⟨b,(nth L b).n⟩::S)
    simp (disch:=omega)only[go_sem, *]
    refine Wg_dec (fun hc=>?_) (fun hc=>?_)
    · simp (disch:=omega)only[go_sem, *]
      have ht:=tail (.inl hc)
      rw [ht] at kl
      simp only [List.length_cons] at kl
      have nsid:=k0.sne'
      refine app_rule (ks.alloc _) (by simp only [lim_alloc];omega) (by simp only [next_alloc];omega) (by simp;omega) ?_
      intro w h4 s4 a4
      have a4:=grown0 a4 ((Ext.refl h').alloc _) (by omega)
      have hn4:=a4.next
      have hl4:=a4.lim
      have hc4:=a4.cells
      have hd4:=a4.cell
      have hb4:=a4.get id khi nsid
      rw [kb] at hb4
      simp (disch:=omega)only[go_sem, *]
      refine ih _ _ _ ?_ ⟨b+1,⟨b,(nth L b).n⟩::S,w,rfl, ?_⟩
      · omega
      · simp (disch:=omega)only[go_sem, *]
        exact ⟨Cur.push (p:=⟨b,(nth L b).n⟩) (c':=⟨⟨b,(nth L b).n⟩::S,c.leaf,c.gone,c.at_⟩) k0 s4 a4 rfl (by simp;omega),f'.trans (CurF.push a4)⟩
    · simp (disch:=omega)only[go_sem, *]
      refine Wb_dec (fun hc2=>?_) (fun hc2=>?_)
      · simp (disch:=omega)only[go_sem, *]
        have ht:=tail (.inr hc2)
        rw [ht] at kl
        simp only [List.length_cons] at kl
        have nsid:=k0.sne'
        refine app_rule (ks.alloc _) (by simp only [lim_alloc];omega) (by simp only [next_alloc];omega) (by simp;omega) ?_
        intro w h4 s4 a4
        have a4:=grown0 a4 ((Ext.refl h').alloc _) (by omega)
        have hn4:=a4.next
        have hl4:=a4.lim
        have hc4:=a4.cells
        have hd4:=a4.cell
        have hb4:=a4.get id khi nsid
        rw [kb] at hb4
        simp (disch:=omega)only[go_sem, *]
        refine ih _ _ _ ?_ ⟨b+1,⟨b,(nth L b).n⟩::S,w,rfl, ?_⟩
        · omega
        · simp (disch:=omega)only[go_sem, *]
          exact ⟨Cur.push (p:=⟨b,(nth L b).n⟩) (c':=⟨⟨b,(nth L b).n⟩::S,c.leaf,c.gone,c.at_⟩) k0 s4 a4 rfl (by simp;omega),f'.trans (CurF.push a4)⟩
      · have hst:=stop (by omega)
        simp (disch:=omega)only[go_sem, *]
        refine kk sv' _ ?_ (f'.trans CurF.put)
        rw [← hst]
        exact Cur.put (c':=⟨S,b,c.gone,c.at_⟩) k0 rfl
  · simp (disch:=omega)only[go_sem, *]
    exact CurF.refl
end Go.Ab.T
namespace Go.Ab.T
open Go Go.Ab
namespace Fo
def hd:Fo→Fo
  | nil=>nil
  | leaf x _=>leaf x nil
  | seq x k _=>seq x k nil
  | rep x k _=>rep x k nil
def tl:Fo→Fo
  | nil=>nil
  | leaf _ r=>r
  | seq _ _ r=>r
  | rep _ _ r=>r
theorem flat_hd:∀ (f:Fo),f.flat=f.hd.flat++f.tl.flat
  | nil=>rfl
  | leaf _ _=>by simp [flat,hd,tl]
  | seq _ _ _=>by simp [flat,hd,tl]
  | rep _ _ _=>by simp [flat,hd,tl]
theorem runs_hd:∀ (f:Fo),f.runs=f.hd.runs++f.tl.runs
  | nil=>rfl
  | leaf _ _=>by simp [runs,hd,tl]
  | seq _ _ _=>by simp [runs,hd,tl]
  | rep _ _ _=>by simp [runs,hd,tl]
theorem count_tl:∀ (f:Fo),0<f.count→f.tl.count+1=f.count
  | nil,h=>by simp [count] at h
  | leaf _ _,_=>rfl
  | seq _ _ _,_=>rfl
  | rep _ _ _,_=>rfl
theorem ok_tl:∀ (f:Fo),f.ok→f.tl.ok
  | nil,_=>trivial
  | leaf _ _,h=>h.2
  | seq _ _ _,h=>h.2.2.2.2
  | rep _ _ _,h=>h.2.2.2.2
theorem len_tl:∀ (f:Fo),f.ok→f.tl.len≤f.len
  | nil,_=>by simp [tl]
  | leaf x r,ho=>by
    have:=kids_n (x:=x) (by rw [ho.1];omega)
    simp only [tl,len];omega
  | seq x k r,ho=>by
    have:=(len_pos k ho.2.2.2.1).1
    simp only [tl,len];omega
  | rep x k r,ho=>by
    have:=rep_n ho
    simp only [tl,len];omega
theorem hd_of_one {f:Fo} (h:f.count=1):f.hd=f:=by
  cases f<;>simp [count] at h<;>simp [hd,nil_of h]
end Fo
def sumN:List Run→Int
  | []=>0
  | r::l=>r.n+sumN l
theorem sumN_app:∀ (a b:List Run),sumN (a++b)=sumN a+sumN b
  | [],b=>by simp [sumN]
  | r::l,b=>by simp only [List.cons_append,sumN,sumN_app l b];omega
theorem sumN_rep (l:List Run):∀ (m:Nat),sumN (List.replicate m l).flatten=m*sumN l
  | 0=>by simp [sumN]
  | m+1=>by rw [List.replicate_succ,List.flatten_cons,sumN_app,sumN_rep l m,Int.natCast_add,Int.add_mul];simp;omega
theorem Fo.runs_sum:∀ (f:Fo),f.ok→sumN f.runs=f.len
  | .nil,_=>rfl
  | .leaf x r,ho=>by simp only [Fo.runs,Fo.len,sumN,Fo.runs_sum r ho.2]
  | .seq x k r,ho=>by simp only [Fo.runs,Fo.len,sumN_app,Fo.runs_sum k ho.2.2.2.1,Fo.runs_sum r ho.2.2.2.2]
  | .rep x k r,ho=>by
    have hn:=kids_n (x:=x) (by rw [ho.2.1];omega)
    simp only [Fo.runs,Fo.len,sumN_app,sumN_rep,Fo.runs_sum k ho.2.2.2.1,Fo.runs_sum r ho.2.2.2.2]
    rw [Int.toNat_of_nonneg (by omega)]
inductive Z (L:List Node):List Place→Nat→List Run→Prop where
  | nil (n:Nat):Z L [] n []
  | seq (a:Nat) (S:List Place) (n:Nat) (g:Fo) (R:List Node) (l:List Run):(nth L a).kind=3→a<n→a<L.length→S.length≤a→g.ok→g.count≤128→g.len≤4611686018427387904→L.drop n=g.flat++R→Z L S (n+g.flat.length) l→Z L (⟨a,(g.count:Int)+1⟩::S) n (g.runs++l)
  | rep (a:Nat) (S:List Place) (k:Fo) (R:List Node) (m:Nat) (l:List Run):(nth L a).kind=4→a<L.length→S.length≤a→k.ok→k.count=1→m+1≤4611686018427387904→k.len≤4611686018427387904→L.drop (a+1)=k.flat++R→Z L S (a+1+k.flat.length) l→Z L (⟨a,(m:Int)+1⟩::S) (a+1+k.flat.length) ((List.replicate m k.runs).flatten++l)
def D (L:List Node) (q:List Place×Nat) (l:List Run):Prop:=q.2<L.length∧q.1.length≤q.2∧kids (nth L q.2)=0∧(nth L q.2).n≤4611686018427387904∧∃ l',Z L q.1 (q.2+1) l'∧l=⟨partR (nth L q.2),(nth L q.2).n⟩::l'
theorem dn_tree {L:List Node}:∀ (f:Fo) (a:Nat) (S:List Place) (l:List Run) (R:List Node),f.ok→0<f.count→f.len≤4611686018427387904→S.length≤a→L.drop a=f.flat++R→Z L S (a+f.hd.flat.length) l→D L (dn L a S) (f.hd.runs++l)
  | .nil,a,S,l,R,ho,hc,hln,hs,hd,hz=>by simp [Fo.count] at hc
  | .leaf x r,a,S,l,R,ho,hc,hln,hs,hd,hz=>by
    have hd':L.drop a=x::(r.flat++R):=hd
    have hx:=drop_nth_eq hd'
    have ha:=(drop_next hd').1
    have hk:=kids_cases x (by rw [ho.1];omega)
    rw [ho.1] at hk
    rw [dn,dif_pos ha,hx,if_neg (by omega)]
    have hlr:=(Fo.len_pos r ho.2).1
    simp only [Fo.len] at hln
    refine ⟨ha,hs,by rw [hx];exact ho.1,by rw [hx];omega,l,hz,by rw [hx];rfl⟩
  | .seq x k r,a,S,l,R,ho,hc,hln,hs,hd,hz=>by
    have hd':L.drop a=x::(k.flat++(r.flat++R)):=by rw [hd];simp [Fo.flat]
    have hx:=drop_nth_eq hd'
    have ha:=(drop_next hd').1
    obtain ⟨h3,hk,hp,hok,hor⟩:=ho
    have hlr:=(Fo.len_pos r hor).1
    simp only [Fo.len] at hln
    rw [dn,dif_pos ha,hx,if_pos (.inl h3)]
    have hd2:=(drop_next hd').2
    have hct:=Fo.count_tl k hp
    have hkb:=kids_bd x
    have hxn:x.n=(k.tl.count:Int)+1:=by
      have:=(kids_all x (by omega)).1 h3;omega
    have hfl:=congrArg List.length (Fo.flat_hd k)
    simp only [List.length_append] at hfl
    rw [show (Fo.seq x k r).hd.runs++l=k.hd.runs++(k.tl.runs++l) by rw [← List.append_assoc,←Fo.runs_hd];simp [Fo.hd,Fo.runs]]
    refine dn_tree k (a+1) _ _ _ hok hp (by omega) (by simp;omega) hd2 ?_
    rw [hxn]
    refine Z.seq a S _ k.tl (r.flat++R) l (by rw [hx];exact h3) (by omega) ha hs (Fo.ok_tl k hok) (by omega) (by have:=Fo.len_tl k hok;omega) ?_ ?_
    · rw [Fo.flat_hd k,List.append_assoc] at hd2
      exact drop_app hd2
    · have:a+1+k.hd.flat.length+k.tl.flat.length=a+(Fo.seq x k r).hd.flat.length:=by
        show _=a+(x::(k.flat++[])).length
        simp;omega
      rw [this];exact hz
  | .rep x k r,a,S,l,R,ho,hc,hln,hs,hd,hz=>by
    have hd':L.drop a=x::(k.flat++(r.flat++R)):=by rw [hd];simp [Fo.flat]
    have hx:=drop_nth_eq hd'
    have ha:=(drop_next hd').1
    have hrn:=rep_n ho
    obtain ⟨h4,hk,hp,hok,hor⟩:=ho
    have hlr:=(Fo.len_pos r hor).1
    simp only [Fo.len] at hln
    have hm1:x.n*1≤x.n*k.len:=Int.mul_le_mul_of_nonneg_left hrn.2.1 (by omega)
    have hm2:1*k.len≤x.n*k.len:=Int.mul_le_mul_of_nonneg_right hrn.1 (by omega)
    have hm3:x.n≤4611686018427387904:=by rw [Int.mul_one] at hm1;omega
    rw [dn,dif_pos ha,hx,if_pos (.inr h4)]
    have hd2:=(drop_next hd').2
    obtain ⟨m,hm⟩:∃ m:Nat,x.n=(m:Int)+1:=⟨(x.n - 1).toNat,by omega⟩
    have h1:=Fo.hd_of_one hp
    rw [show (Fo.rep x k r).hd.runs++l=k.hd.runs++((List.replicate m k.runs).flatten++l) by
      rw [h1,←List.append_assoc];simp only [Fo.hd,Fo.runs,List.append_nil]
      rw [show x.n.toNat=m+1 by omega,List.replicate_succ,List.flatten_cons]]
    refine dn_tree k (a+1) _ _ _ hok (by omega) (by omega) (by simp;omega) hd2 ?_
    rw [hm,h1]
    refine Z.rep a S k (r.flat++R) m l (by rw [hx];exact h4) ha hs hok hp (by rw [hm] at hm3;omega) (by omega) hd2 ?_
    have:a+1+k.flat.length=a+(Fo.rep x k r).hd.flat.length:=by
      show _=a+(x::(k.flat++[])).length
      simp;omega
    rw [this];exact hz
theorem stp_ok {L:List Node} {S:List Place} {n:Nat} {l:List Run} (z:Z L S n l):stpOk L n S∧((l=[]∧stp L n S=([],L.length))∨D L (stp L n S) l):=by
  induction z with
  | nil n=>exact ⟨trivial,.inl ⟨rfl,rfl⟩⟩
  | seq a S n g R l hk han hal hs hg hgc hgl hd hz ih=>
    by_cases hc:0<g.count
    · have hct:=Fo.count_tl g hc
      have hfl:=congrArg List.length (Fo.flat_hd g)
      simp only [List.length_append] at hfl
      have hD:D L (dn L n (⟨a,(g.count:Int)⟩::S)) (g.runs++l):=by
        rw [Fo.runs_hd,List.append_assoc]
        refine dn_tree g n _ _ R hg hc hgl (by simp;omega) hd ?_
        have hd2:=hd
        rw [Fo.flat_hd g,List.append_assoc] at hd2
        have:=Z.seq a S (n+g.hd.flat.length) g.tl R l hk (by omega) hal hs (Fo.ok_tl g hg) (by omega) (by have:=Fo.len_tl g hg;omega) (drop_app hd2) (by rw [Nat.add_assoc,←hfl];exact hz)
        rw [show ((g.tl.count:Int)+1)=g.count by omega] at this
        exact this
      have e:(g.count:Int)+1 - 1=g.count:=by omega
      refine ⟨⟨hal,by simp only;omega,by simp only;omega, ?_⟩,.inr ?_⟩
      · simp only [e]
        rw [if_pos (by omega),if_neg (by omega)]
        exact ⟨hD.1,by have:=hD.1;have:=hD.2.1;omega⟩
      · rw [stp]
        simp only [e]
        rw [if_pos (by omega),if_neg (by omega)]
        exact hD
    · have h0:g=.nil:=Fo.nil_of (by omega)
      subst h0
      simp only [Fo.count,Fo.flat,Fo.runs,List.length_nil,Nat.add_zero,List.nil_append] at hz ih ⊢
      refine ⟨⟨hal,by simp,by simp, ?_⟩, ?_⟩
      · rw [if_neg (by simp)];exact ih.1
      · rw [stp,if_neg (by simp)];exact ih.2
  | rep a S k R m l hk hal hs hok hkc hm hkl hd hz ih=>
    cases m with
    | zero=>
      simp only [List.replicate_zero,List.flatten_nil,List.nil_append]
      refine ⟨⟨hal,by simp,by simp, ?_⟩, ?_⟩
      · rw [if_neg (by simp)];exact ih.1
      · rw [stp,if_neg (by simp)];exact ih.2
    | succ m=>
      have hD:D L (dn L (a+1) (⟨a,((m+1:Nat):Int)⟩::S)) ((List.replicate (m+1) k.runs).flatten++l):=by
        rw [List.replicate_succ,List.flatten_cons,List.append_assoc]
        have h1:=Fo.hd_of_one hkc
        conv=>arg 3;rw [← h1]
        refine dn_tree k (a+1) _ _ R hok (by omega) hkl (by simp;omega) hd ?_
        rw [h1]
        have:=Z.rep a S k R m l hk hal hs hok hkc (by omega) hkl hd hz
        simpa using this
      have e:((m+1:Nat):Int)+1 - 1=((m+1:Nat):Int):=by omega
      refine ⟨⟨hal,by simp only;omega,by simp only;omega, ?_⟩,.inr ?_⟩
      · simp only [e]
        rw [if_pos (by omega),if_pos hk]
        exact ⟨hD.1,by have:=hD.1;have:=hD.2.1;omega⟩
      · rw [stp]
        simp only [e]
        rw [if_pos (by omega),if_pos hk]
        exact hD
structure Rem (L:List Node) (c:Cs) (l:List Run):Prop where
  sb:c.S.length≤L.length
  at_:0≤c.at_∧c.at_+sumN l≤4096
  sum:0≤sumN l
  go:(l=[]∧c.leaf=L.length)∨(c.leaf<L.length∧kids (lf L c)=0∧0≤c.gone∧c.gone<(lf L c).n∧(lf L c).n≤4611686018427387904∧∃ l',Z L c.S (c.leaf+1) l'∧l=⟨partR (lf L c),(lf L c).n - c.gone⟩::l')
theorem Rem.nil {L:List Node} {c:Cs} (r:Rem L c []):c.leaf=L.length:=by
  rcases r.go with h | ⟨_,_,_,_,_,l',_,h⟩
  · exact h.2
  · cases h
theorem D.rem {L:List Node} {q:List Place×Nat} {l:List Run} {a:Int} (d:D L q l) (ha:0≤a∧a+sumN l≤4096) (hp:0≤sumN l):Rem L ⟨q.1,q.2,0,a⟩ l:=by
  obtain ⟨h1,h2,h3,hb,l',hz,hl⟩:=d
  have hn:=kids_n (x:=nth L q.2) (by omega)
  exact ⟨by simp only;omega,ha,hp,.inr ⟨h1,h3,by simp,by simp only [lf];omega,hb,l',hz,by rw [hl];simp [lf]⟩⟩
theorem Z.sum {L:List Node} {S:List Place} {n:Nat} {l:List Run} (z:Z L S n l):0≤sumN l:=by
  induction z with
  | nil n=>simp [sumN]
  | seq a S n g R l hk han hal hs hg hgc hgl hd hz ih=>rw [sumN_app,Fo.runs_sum g hg];have:=(Fo.len_pos g hg).1;omega
  | rep a S k R m l hk hal hs hok hkc hm hkl hd hz ih=>
    rw [sumN_app,sumN_rep,Fo.runs_sum k hok]
    have:0≤(m:Int)*k.len:=Int.mul_nonneg (by omega) (Fo.len_pos k hok).1
    omega
structure RemS (L:List Node) (c:Cs) (r:Run) (l:List Run):Prop where
  lt:c.leaf<L.length
  ok:CurOk L c
  run:r=⟨partR (lf L c),(lf L c).n - c.gone⟩
  pos:1≤r.n
  next:Rem L (nextC L c) l
  tick:Rem L (tickC L c) (if r.n=1 then l else ⟨r.part,r.n - 1⟩::l)
theorem Rem.cons {L:List Node} {c:Cs} {r:Run} {l:List Run} (h:Rem L c (r::l)):RemS L c r l:=by
  obtain ⟨hsb,hat,hsum,hgo⟩:=h
  rcases hgo with ⟨h,_⟩ | ⟨h1,h2,h3,h4,hb,l',hz,h5⟩
  · cases h
  · obtain ⟨rfl,rfl⟩:=List.cons.inj h5
    have hok:=stp_ok hz
    have hl0:=hz.sum
    simp only [sumN] at hat hsum
    have step:∀ a:Int,0≤a→a+sumN l≤4096→Rem L ⟨(stp L (c.leaf+1) c.S).1,(stp L (c.leaf+1) c.S).2,0,a⟩ l:=by
      intro a ha ha2
      rcases hok.2 with ⟨rfl,he⟩ | hd
      · rw [he];exact ⟨by simp,by simp only [sumN];simp only [sumN] at ha2;omega,by simp [sumN],.inl ⟨rfl,rfl⟩⟩
      · exact hd.rem ⟨ha,ha2⟩ hl0
    refine ⟨h1,⟨hok.1,⟨h3,h4,hb⟩,by omega⟩,rfl,by simp only;omega,step _ (by omega) (by omega), ?_⟩
    unfold tickC
    by_cases hg:c.gone+1=(lf L c).n
    · rw [if_pos hg,if_pos (by simp only;omega)]
      exact step _ (by omega) (by omega)
    · rw [if_neg hg,if_neg (by simp only;omega)]
      exact ⟨hsb,by simp only [sumN];omega,by simp only [sumN];omega,.inr ⟨h1,h2,by simp only;omega,by simp only [lf] at hg h4 ⊢;omega,hb,l,hz,by simp only [lf];congr 2;omega⟩⟩
def cur0 (L:List Node):Cs:=⟨(dn L 0 []).1,(dn L 0 []).2,0,0⟩
theorem start_D {f:Fo} (ho:f.ok) (hc:f.count=1) (hl:f.len≤4096):D f.flat (dn f.flat 0 []) f.runs:=by
  have:=dn_tree (L:=f.flat) f 0 [] [] [] ho (by omega) (by omega) (by simp) (by simp) (Z.nil _)
  rw [Fo.hd_of_one hc,List.append_nil] at this
  exact this
theorem start_rem {f:Fo} (ho:f.ok) (hc:f.count=1) (hl:f.len≤4096):Rem f.flat (cur0 f.flat) f.runs:=by
  have h:=Fo.runs_sum f ho
  have:=(Fo.len_pos f ho).1
  exact (start_D ho hc hl).rem (by omega) (by omega)
end Go.Ab.T
namespace Go.Ab.T
open Go Go.Ab
set_option maxHeartbeats 1000000
theorem Cur.some {h:AH} {id:Nat} {sv:V} {L:List Node} {S:List Place} {p:Place} {lf:Nat} {g a:Int} (k:Cur h id sv L ⟨p::S,lf,g,a⟩):nilV sv=false∧id<idV sv∧idV sv<h.next:=by
  rcases k.stk with ⟨_,hR⟩ | ⟨i,el,cap,cs,rfl,_,_,_,_,h1,h2,_⟩
  · simp at hR
  · exact ⟨rfl,h2,h1⟩
theorem Cur.top {h:AH} {id:Nat} {sv:V} {L:List Node} {S:List Place} {p p':Place} {lf:Nat} {g a:Int} (k:Cur h id sv L ⟨p::S,lf,g,a⟩):Cur (h.put (idV sv) ⟨2,(csOf h sv).set (elV sv+S.length) p'.enc⟩) id sv L ⟨p'::S,lf,g,a⟩∧CurF h id sv (h.put (idV sv) ⟨2,(csOf h sv).set (elV sv+S.length) p'.enc⟩) sv:=by
  obtain ⟨hs,h1,h2⟩:=k.some
  refine ⟨⟨?_, ?_,k.big,k.sbig,k.lo,k.hi⟩,⟨Nat.le_refl _,rfl,fun i _ _ hi=>?_,(CurF.refl (h:=h) (id:=id)).own⟩⟩
  · rw [get_put,gsel_ne (by omega)];exact k.blk
  · have:=k.stk.setT (h':=h.put (idV sv) ⟨2,(csOf h sv).set (elV sv+S.length) p'.enc⟩) (j:=S.length) (x:=p') (by simp) (Nat.le_refl _) (by rw [get_put,gsel_eq rfl])
    simp only [List.reverse_cons] at this ⊢
    rw [List.set_append_right _ _ (by simp)] at this
    simpa using this
  · rw [get_put,gsel_ne]
    rcases hi with hi | hi
    · rw [hs] at hi;cases hi
    · exact hi
theorem Cur.pop {h:AH} {id:Nat} {sv:V} {L:List Node} {S:List Place} {p:Place} {lf:Nat} {g a:Int} (k:Cur h id sv L ⟨p::S,lf,g,a⟩):Cur (h.put id (curB L (trunc sv S.length) ⟨S,lf,g,a⟩)) id (trunc sv S.length) L ⟨S,lf,g,a⟩∧CurF h id sv (h.put id (curB L (trunc sv S.length) ⟨S,lf,g,a⟩)) (trunc sv S.length):=by
  obtain ⟨hs,h1,h2⟩:=k.some
  refine ⟨⟨?_, ?_,k.big,by have:=k.sbig;simp at this ⊢;omega,k.lo,k.hi⟩,⟨Nat.le_refl _,rfl,fun i _ hi _=>by rw [get_put,gsel_ne hi],.inr (.inl ⟨hs,idV_trunc⟩)⟩⟩
  · rw [get_put,gsel_eq rfl]
  · have:=k.stk.truncd (n:=S.length) (by simp)
    simp only [List.reverse_cons,List.map_append] at this
    rw [List.take_left' (by simp)] at this
    exact Sl.same this (Nat.le_refl _) (fun _=>by rw [get_put,gsel_ne (by rw [idV_trunc];omega)])
theorem top_nth {p:Place} {S:List Place}:nth (p::S).reverse S.length=p:=by simp [nth,List.getD]
theorem Cur.lim_le {h:AH} {id:Nat} {sv:V} {L:List Node} {c:Cs} (k:Cur h id sv L c):h.lim≤h.next:=by
  have:=k.lo;have:=k.hi;omega
theorem step_ev {h : AH} {id : Nat} {sv : V} {L : List Node} {c : Cs} {K : V → AH → Prop} (k : Cur h id sv L c) (hlf : c.leaf < L.length) (hok : stpOk L (c.leaf + 1) c.S)
    (kk:∀ sv' h',Cur h' id sv' L ⟨(stp L (c.leaf+1) c.S).1,(stp L (c.leaf+1) c.S).2,0,c.at_⟩→CurF h id sv h' sv'→K (.tup []) h'):Cq tp i_Q66 [.p id 0 0] h K:=by
  have k0:=k
  obtain ⟨kb,ks,kbig,ksb,klo,khi⟩:=k
  simp only [curB] at kb
  refine Cq_raw_go fn_Q66 (by simp [t_Q66]) fun wf rp=>?_;unfold t_Q66;simp (disch:=omega)only[go_sem, *]
  refine ZC_loop_n (fun n e h'=>∃ (S:List Place) (sv':V),n=S.length∧e 0=.p id 0 0∧e 2=.i .i64 ((c.leaf:Int)+1)∧Cur h' id sv' L ⟨S,c.leaf,0,c.at_⟩∧CurF h id sv h' sv'∧stpOk L (c.leaf+1) S∧stp L (c.leaf+1) S=stp L (c.leaf+1) c.S) ?_ _ _ _ ⟨c.S,sv,rfl, ?_⟩
  · rintro n e h' ⟨S,sv',rfl,e0,e2,k',f',ok,hz⟩ ih
    have k1:=k'
    obtain ⟨kb,ks,kbig,ksb,klo,khi⟩:=k'
    obtain ⟨glen,gbig,glt,glo,gget,gat,grow,gc,gcs⟩:=ks.facts
    have grl:=fun (hj:0<S.length)=>ks.rowlt (j:=S.length - 1) (by simp;omega)
    have spre:∀ {k:IntKind} {j:Int} {cs:List (List V)},0≤j→j≤S.length→slc2 (some ⟨2,cs⟩) 2 sv' none (some (.i k j)) none=some (trunc sv' j.toNat):=fun h0 h1=>ks.pre h0 (by simp;omega)
    simp only [List.length_reverse] at glen gbig glt gget gat grow grl spre ksb
    simp only [curB] at kb
    rw [ZC_unf Q66_10.eq_1]
    simp (disch:=omega)only[go_sem, *]
    refine Wb_dec (fun hc=>?_) (fun hc=>?_)
    · obtain ⟨p,r,rfl⟩:∃ p r,S=p::r:=by
        match S,hc with
        | [],hc=>simp at hc
        | p::r,_=>exact ⟨p,r,rfl⟩
      simp only [stpOk] at ok
      obtain ⟨o1,o2,o3,o4⟩:=ok
      rw [stp] at hz
      have tn:=top_nth (p:=p) (S:=r)
      simp only [List.length_cons,Int.natCast_add,Int.natCast_one] at glen gbig glt gget gat grow grl spre ksb hc
      have z1:((r.length:Int)+1 - 1).toNat=r.length:=by omega
      have grl':=grl (by omega)
      simp only [Nat.add_sub_cancel] at grl'
      have sne:=k1.some
      have kt:=Cur.top (p':=⟨p.at_,p.left - 1⟩) k1
      simp (disch:=omega)only[go_sem, *]
      refine Wb_dec (fun hc2=>?_) (fun hc2=>?_)
      · rw [if_pos hc2] at o4 hz
        simp (disch:=omega)only[go_sem, *]
        refine Wb_dec (fun hc3=>?_) (fun hc3=>?_)
        · rw [if_pos hc3] at o4 hz
          simp (disch:=omega)only[go_sem, *]
          refine down_ev (a:=p.at_+1) kt.1 o4.1 o4.2 ?_
          intro sv2 h2 c2 f2
          simp (disch:=omega)only[go_sem, *]
          refine kk sv2 _ ?_ (f'.trans (kt.2.trans f2))
          rw [← hz];exact c2
        · rw [if_neg hc3] at o4 hz
          simp (disch:=omega)only[go_sem, *]
          refine down_ev (a:=c.leaf+1) kt.1 o4.1 o4.2 ?_
          intro sv2 h2 c2 f2
          simp (disch:=omega)only[go_sem, *]
          refine kk sv2 _ ?_ (f'.trans (kt.2.trans f2))
          rw [← hz];exact c2
      · rw [if_neg hc2] at o4 hz
        have kq:=Cur.pop kt.1
        have hct:=cells_trunc (n:=r.length) gcs
        simp (disch:=omega)only[go_sem, *]
        refine ih _ _ _ ?_ ⟨r,trunc sv' r.length,rfl, ?_⟩
        · simp
        · simp (disch:=omega)only[go_sem, *]
          exact ⟨kq.1,f'.trans (kt.2.trans kq.2)⟩
    · have hS:S=[]:=by
        match S,hc with
        | [],hc=>rfl
        | p::r,hc=>simp at hc
      subst hS
      rw [stp] at hz
      simp (disch:=omega)only[go_sem, *]
      refine kk sv' _ ?_ (f'.trans CurF.put)
      rw [← hz];exact Cur.put (c':=⟨[],L.length,0,c.at_⟩) k1 rfl
  · simp (disch:=omega)only[go_sem, *]
    exact ⟨Cur.put (c':=⟨c.S,c.leaf,0,c.at_⟩) k0 rfl,CurF.put⟩
end Go.Ab.T
