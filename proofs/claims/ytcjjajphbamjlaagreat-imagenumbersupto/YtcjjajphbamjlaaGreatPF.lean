/- Part of a proof that a law returns true for every input of the second form's bound (no other condition). -/
import Derived.Test.YtcjjajphbamjlaaGreatPE
set_option linter.all false
namespace Go.Ab.T
open Go Go.Ab
structure AI where
 part:Int
 n:Int
 deriving Inhabited,DecidableEq
@[go_sem] def AI.enc (r:AI):List V:=[.i .i64 r.part,.i .i64 r.n]
def Ga (a b:Int):Int:=if 9223372036854775807 - max 0 b<max 0 a then 9223372036854775807 else max 0 a+max 0 b
theorem Fl {a b:Int}:0≤Ga a b∧Ga a b≤9223372036854775807:=by unfold Ga;split<;>omega
theorem QB {a b:Int} (ha:a≤9223372036854775807) (hb:b≤9223372036854775807):Pf tp Yr [.i .i64 a,.i .i64 b] (.i .i64 (Ga a b)):=by
 refine AD aGs (by simp [Pv]) fun rp=>?_;unfold Pv;simp (disch:=omega)only[go_sem, *]
 repeat' (first | (refine Aq (fun hc=>?_) (fun hc=>?_)<;>simp (disch:=omega)only[go_sem, *]) | (refine Aa (fun hc=>?_) (fun hc=>?_)<;>simp (disch:=omega)only[go_sem, *]))
 all_goals (unfold Ga;split<;>omega)
theorem Z6 {a b:Int} (ha:a≤9223372036854775807) (hb:b≤9223372036854775807):Pf tp XP [.i .i64 a,.i .i64 b] (.i .i64 (Ga a b)):=by
 refine AD aFD (by simp [OC]) fun rp=>?_;unfold OC;simp (disch:=omega)only[go_sem, *]
 repeat' (first | (refine Aq (fun hc=>?_) (fun hc=>?_)<;>simp (disch:=omega)only[go_sem, *]) | (refine Aa (fun hc=>?_) (fun hc=>?_)<;>simp (disch:=omega)only[go_sem, *]))
 all_goals (unfold Ga;split<;>omega)
def EN (L:List AI):Prop:=∀ i,i<L.length→(nth L i).n≤9223372036854775807
def C4:List AI→Int→Int
 | [],n=>n
 | r::l,n=>C4 l (Ga n r.n)
theorem Ly {L:List AI} (hok:EN L):Pf tp Yu [.fl 2 (L.map AI.enc)] (.i .i64 (C4 L 0)):=by
 refine AD aGv (by simp [Py]) fun rp=>?_;unfold Py;simp (disch:=omega)only[go_sem, *]
 have hL:=rp.head.len
 refine Ae (fun n e h=>∃ (i:Nat) (a:Int),n=L.length - i∧h.lim=0∧e 6=.fl 2 (L.map AI.enc)∧e 7=.i .i64 L.length∧e 8=.i .i64 i∧e 3=.i .i64 a∧i≤L.length∧a≤9223372036854775807∧C4 (L.drop i) a=C4 L 0) ?_ _ _ _ ⟨0,0,rfl, ?_⟩
 ·rintro n e h ⟨i,a,rfl,hl,e6,e7,e8,e3,hi,ha,hz⟩ ih
  rw [Ai qO.eq_1]
  simp (disch:=omega)only[go_sem, *]
  refine Aa (fun hc=>?_) (fun hc=>?_)
  ·rw [Ax (by omega),C4] at hz
   have hb:=hok i (by omega)
   simp (disch:=omega)only[go_sem, *]
   refine Pf.go (QB ha hb) (by simp only [go_sem]) fun _=>?_;simp (disch:=omega)only[go_sem, *]
   refine ih _ _ _ ?_ ⟨i+1,Ga a (nth L i).n,rfl, ?_⟩
   ·omega
   ·simp (disch:=omega)only[go_sem, *]
    ((repeat' refine And.intro ?_ ?_)<;>first | omega | assumption | (exact Fl.2))
  ·rw [List.drop_eq_nil_of_le (by omega),C4] at hz
   simp (disch:=omega)only[go_sem, *]
 ·simp (disch:=omega)only[go_sem, *]
def Bu:List AI→List AI→List AI
 | [],out=>out
 | r::l,out=>if r.n<1 then Bu l out else
  if 0<out.length∧(nth out (out.length - 1)).part=r.part then Bu l (out.set (out.length - 1) ⟨(nth out (out.length - 1)).part,Ga (nth out (out.length - 1)).n r.n⟩) else Bu l (out++[r])
theorem Fb {A:List AI} {r:AI} (hA:EN A) (hr:r.n≤9223372036854775807):EN (A++[r]):=by
 intro i hi
 simp only [List.length_append,List.length_cons,List.length_nil] at hi
 by_cases h:i<A.length
 ·have:=hA i h
  simp only [nth,List.getD] at this ⊢
  rw [List.getElem?_append_left h];exact this
 ·have:i=A.length:=by omega
  subst this
  simpa [nth,List.getD] using hr
theorem Kk {A:List AI} {j:Nat} {r:AI} (hA:EN A) (hr:r.n≤9223372036854775807):EN (A.set j r):=by
 intro i hi
 simp only [List.length_set] at hi
 have:=hA i hi
 simp only [nth,List.getD] at this ⊢
 rw [List.getElem?_set]
 split
 ·rename_i h;subst h;simp [hi];exact hr
 ·exact this
theorem RF {L:List AI} (hok:EN L):Pf tp XN [.fl 2 (L.map AI.enc)] (.fl 2 ((Bu L []).map AI.enc)):=by
 refine AD aFB (by simp [OA]) fun rp=>?_;unfold OA;simp (disch:=omega)only[go_sem, *]
 have hL:=rp.head.len
 refine Ae (fun n e h=>∃ (i:Nat) (out:V) (A:List AI),n=L.length - i∧h.lim=0∧e 7=.fl 2 (L.map AI.enc)∧e 8=.i .i64 L.length∧e 9=.i .i64 i∧e 3=out∧i≤L.length∧A.length≤i∧Sl 0 h 2 out (A.map AI.enc)∧EN A∧Bu (L.drop i) A=Bu L []) ?_ _ _ _ ⟨0,.ns,[],rfl, ?_⟩
 ·rintro n e h ⟨i,out,A,rfl,hl,e7,e8,e9,e3,hi,hA,so,okA,hz⟩ ih
  rw [Ai Vi.eq_1]
  simp (disch:=omega)only[go_sem, *]
  obtain ⟨olen,obig,olt,olo,oget,oat,orow,ocell,ocells⟩:=so.facts
  refine Aa (fun hc=>?_) (fun hc=>?_)
  ·rw [Ax (by omega),Bu] at hz
   have hb:=hok i (by omega)
   simp (disch:=omega)only[go_sem, *]
   have x1:AK h ((h.alloc ⟨2,[[.i .i64 0,.i .i64 0]]⟩).put h.next ⟨2,[[.i .i64 (nth L i).part,.i .i64 (nth L i).n]]⟩):=by (repeat (first | exact AK.refl _ | refine AK.alloc ?_ _ | (refine AK.put ?_ _ _ ?_;rotate_left;(first | omega | (simp only [Ag,AB];omega)))))
   refine Aa (fun hc2=>?_) (fun hc2=>?_)
   ·rw [if_pos hc2] at hz
    simp (disch:=omega)only[go_sem, *]
    refine ih _ _ _ ?_ ⟨i+1,out,A,rfl, ?_⟩
    ·omega
    ·simp (disch:=omega)only[go_sem, *]
     ((repeat' refine And.intro ?_ ?_)<;>first | omega | assumption | (exact so.ext x1))
   ·rw [if_neg hc2] at hz
    simp (disch:=omega)only[go_sem, *]
    refine Aq (fun hc3=>?_) (fun hc3=>?_)
    ·have hk:((A.length:Int) - 1).toNat=A.length - 1:=by omega
     simp (disch:=omega)only[go_sem, *]
     refine Aa (fun hc4=>?_) (fun hc4=>?_)
     ·rw [if_pos ⟨by omega,hc4⟩] at hz
      have hA1:=okA (A.length - 1) (by omega)
      simp (disch:=omega)only[go_sem, *]
      refine Pf.go (Z6 hA1 hb) (by simp only [go_sem]) fun _=>?_;simp (disch:=omega)only[go_sem, *]
      refine ih _ _ _ ?_ ⟨i+1,out,A.set (A.length - 1) ⟨(nth A (A.length - 1)).part,Ga (nth A (A.length - 1)).n (nth L i).n⟩,rfl, ?_⟩
      ·omega
      ·simp (disch:=omega)only[go_sem, *]
       ((repeat' refine And.intro ?_ ?_)<;>first | omega | assumption | (simp;omega) | (exact Sl.setT so (by omega) (by simp (disch:=omega)only[go_sem]<;>omega) (by simp (disch:=omega)only[go_sem, *])) | (refine Kk okA ?_;exact Fl.2) | (rw [← hz,hc4]))
     ·simp only [hc4,and_false,reduceIte] at hz
      simp (disch:=omega)only[go_sem, *]
      refine Ao (R:=A.map AI.enc) ((so.ext x1).alloc _) (by simp only [go_sem, *]) (Nat.zero_le _) (by simp;omega) ?_
      intro w h4 s4 g4
      have hl4:=g4.lim
      simp (disch:=omega)only[go_sem, *]
      refine ih _ _ _ ?_ ⟨i+1,w,A++[nth L i],rfl, ?_⟩
      ·omega
      ·simp (disch:=omega)only[go_sem, *]
       ((repeat' refine And.intro ?_ ?_)<;>first | omega | assumption | (simp;omega) | (simpa [AI.enc] using s4) | (exact Fb okA hb))
    ·have h0:A.length=0:=by omega
     simp only [h0,Nat.lt_irrefl,false_and,reduceIte] at hz
     simp (disch:=omega)only[go_sem, *]
     refine Ao (R:=A.map AI.enc) ((so.ext x1).alloc _) (by simp only [go_sem, *]) (Nat.zero_le _) (by simp;omega) ?_
     intro w h4 s4 g4
     have hl4:=g4.lim
     simp (disch:=omega)only[go_sem, *]
     refine ih _ _ _ ?_ ⟨i+1,w,A++[nth L i],rfl, ?_⟩
     ·omega
     ·simp (disch:=omega)only[go_sem, *]
      ((repeat' refine And.intro ?_ ?_)<;>first | omega | assumption | (simp;omega) | (simpa [AI.enc] using s4) | (exact Fb okA hb))
  ·rw [List.drop_eq_nil_of_le (by omega),Bu] at hz
   simp (disch:=omega)only[go_sem, *]
   subst hz
   exact Sl.froze so (fun _=>rfl) trivial (by omega)
 ·simp (disch:=omega)only[go_sem, *]
  exact ⟨Sl.nil _ _ _,fun i hi=>by simp at hi⟩
end Go.Ab.T
namespace Go.Ab.T
open Go Go.Ab
structure Node where
 kind:Int
 part:Int
 n:Int
 deriving DecidableEq,Inhabited
@[go_sem] def Node.enc (x:Node):List V:=[.i .i64 x.kind,.i .i64 x.part,.i .i64 x.n]
def kids (x:Node):Int:=
 if x.n<1∨(x.kind≠1∧x.part≠0) then -1
 else if (x.kind=1∧0≤x.part∧x.part<6)∨x.kind=2 then 0
 else if x.kind=3∧x.n≤128 then x.n
 else if x.kind=4 then 1 else -1
theorem HL (x:Node): -1≤kids x∧kids x≤128:=by
 unfold kids;repeat' split
 all_goals omega
theorem SK {x:Node}:Pf tp Q3 [.agg x.enc] (.i .i64 (kids x)):=by
 refine AD iL (by simp [KC]) fun rp=>?_;unfold KC;simp (disch:=omega)only[go_sem, *]
 repeat' (first | (refine Aq (fun hc=>?_) (fun hc=>?_)<;>simp (disch:=omega)only[go_sem, *]) | (refine Aa (fun hc=>?_) (fun hc=>?_)<;>simp (disch:=omega)only[go_sem, *]))
 all_goals (unfold kids;repeat' split)
 all_goals omega
def Ep:List Node→Int→Int→Int
 | [],_,_=>0
 | x::r,left,n=>if kids x<0 then 0 else if left+(kids x - 1)=0 then n+1 else Ep r (left+(kids x - 1)) (n+1)
def size (L:List Node) (a:Int):Int:=if a<0∨(L.length:Int)≤a then 0 else Ep (L.drop a.toNat) 1 0
theorem lK {L:List Node} {a:Int}:Pf tp Yx [.fl 3 (L.map Node.enc),.i .i64 a] (.i .i64 (size L a)):=by
 refine AD aGy (by simp [PB]) fun rp=>?_;unfold PB;simp (disch:=omega)only[go_sem, *]
 have hL:=rp.head.len
 repeat' (first | (refine Aq (fun hc=>?_) (fun hc=>?_)<;>simp (disch:=omega)only[go_sem, *]) | (refine Aa (fun hc=>?_) (fun hc=>?_)<;>simp (disch:=omega)only[go_sem, *]))
 ·simp [size];omega
 ·simp [size];omega
 ·refine Ae (fun n e h=>∃ (i:Nat) (left:Int),n=L.length - i∧h.lim=0∧e 0=.fl 3 (L.map Node.enc)∧e 1=.i .i64 a∧e 5=.i .i64 left∧e 6=.i .i64 i∧a≤i∧i≤L.length∧0<left∧left≤1+128*i∧Ep (L.drop i) left (i - a)=size L a) ?_ _ _ _ ⟨a.toNat,1,rfl, ?_⟩
  ·rintro n e h ⟨i,left,rfl,hl,e0,e1,e5,e6,hi1,hi2,hl1,hl2,hz⟩ ih
   rw [Ai VK.eq_1]
   simp (disch:=omega)only[go_sem, *]
   have hk:=HL (nth L i)
   refine Aa (fun hc=>?_) (fun hc=>?_)
   ·rw [Ax (by omega),Ep] at hz
    simp (disch:=omega)only[go_sem, *]
    refine Pf.go (SK) (by simp only [go_sem]) fun _=>?_;simp (disch:=omega)only[go_sem, *]
    refine Aa (fun hc2=>?_) (fun hc2=>?_)
    ·rw [if_pos hc2] at hz
     simp (disch:=omega)only[go_sem, *]
    ·rw [if_neg hc2] at hz
     simp (disch:=omega)only[go_sem, *]
     refine Aa (fun hc3=>?_) (fun hc3=>?_)
     ·rw [if_pos hc3] at hz
      simp (disch:=omega)only[go_sem, *]
      omega
     ·rw [if_neg hc3] at hz
      simp (disch:=omega)only[go_sem, *]
      refine ih _ _ _ ?_ ⟨i+1,left+(kids (nth L i) - 1),rfl, ?_⟩
      ·omega
      ·simp (disch:=omega)only[go_sem, *]
       refine ⟨by omega,by omega,by omega,by omega, ?_⟩
       rw [← hz];congr 1;omega
   ·rw [List.drop_eq_nil_of_le (by omega),Ep] at hz
    simp (disch:=omega)only[go_sem, *]
  ·simp (disch:=omega)only[go_sem, *]
   ((repeat' refine And.intro ?_ ?_)<;>first | omega | assumption | ((congr 1;omega)) | ((simp only [size];rw [if_neg (by omega)];congr 1;omega)))
def BI (L:List Node):Bool:=decide (0<L.length∧size L 0=L.length)
theorem KW {L:List Node}:Pf tp X8 [.fl 3 (L.map Node.enc)] (.b (BI L)):=by
 refine AD aFZ (by simp [O0]) fun rp=>?_;unfold O0;simp (disch:=omega)only[go_sem, *]
 refine Aq (fun hc=>?_) (fun hc=>?_)
 ·simp (disch:=omega)only[go_sem, *]
  refine Pf.go (lK) (by simp only [go_sem]) fun _=>?_;simp (disch:=omega)only[go_sem, *]
  simp only [BI]
  congr 1
  simp;omega
 ·simp (disch:=omega)only[go_sem, *]
  simp only [BI]
  simp;omega
def Ny (a b:Int):Int:=min 4097 (a+min 4097 b)
def Ix (n t:Int):Int:=min 4097 (min 4097 n*t)
theorem SQ {a b:Int} (ha:0≤a∧a≤4097) (hb:0≤b):Pf tp Q5 [.i .i64 a,.i .i64 b] (.i .i64 (Ny a b)):=by
 refine AD iO (by simp [KE]) fun rp=>?_;unfold KE;simp (disch:=omega)only[go_sem, *]
 rfl
theorem Um {n t:Int} (hn:0≤n) (ht:0≤t∧t≤4097):Pf tp Q4 [.i .i64 n,.i .i64 t] (.i .i64 (Ix n t)):=by
 have h1:0≤min 4097 n*t:=Int.mul_nonneg (by omega) ht.1
 have h2:min 4097 n*t≤4097*4097:=Int.mul_le_mul (by omega) ht.2 ht.1 (by omega)
 refine AD iM (by simp [KD]) fun rp=>?_;unfold KD;simp (disch:=omega)only[go_sem, *]
 rfl
end Go.Ab.T
namespace Go.Ab.T
open Go Go.Ab
structure Frame where
 node:Node
 left:Int
 depth:Int
 ticks:Int
 deriving DecidableEq,Inhabited
@[go_sem] def Frame.enc (f:Frame):List V:=[.i .i64 f.node.kind,.i .i64 f.node.part,.i .i64 f.node.n,.i .i64 f.left,.i .i64 f.depth,.i .i64 f.ticks]
def Frame.out (f:Frame):Int:=if f.node.kind=4 then Ix f.node.n f.ticks else f.ticks
def Frame.take (up top:Frame):Frame:=⟨up.node,up.left - 1,max up.depth (top.depth+1),Ny up.ticks top.out⟩
def EY:List Frame→List Frame
 | []=>[]
 | [t]=>[t]
 | top::up::r=>if top.left=0 then EY (up.take top::r) else top::up::r
termination_by l=>l.length
def A0 (n:Node):Frame:=⟨n,kids n,0,if kids n=0 then min 4097 n.n else 0⟩
def En:List Node→List Frame→List Frame
 | [],s=>s
 | n::l,s=>En l (EY (A0 n::s))
def CM (L:List Node):Frame:=nth (En L [⟨⟨0,0,0⟩,1,0,0⟩]).reverse 0
structure C8 (p:Int) (f:Frame):Prop where
 n0:f.node.kind≠4∨0<f.node.n∨f.left<0
 left : -1 - p≤f.left∧f.left≤128
 depth:0≤f.depth∧f.depth≤p
 ticks:0≤f.ticks∧f.ticks≤4097
theorem C8.more {p:Int} {f:Frame} (h:C8 p f):C8 (p+1) f:=⟨h.n0,by have:=h.left;omega,by have:=h.depth;omega,h.ticks⟩
theorem jU {a b:Int} (ha:0≤a) (hb:0≤b):0≤Ny a b∧Ny a b≤4097:=by unfold Ny;omega
theorem LD {a b:Int} (ha:0≤a) (hb:0≤b):0≤Ix a b∧Ix a b≤4097:=by
 unfold Ix
 have h1:0≤min 4097 a*b:=Int.mul_nonneg (by omega) hb
 omega
theorem Frame.out_bd {p:Int} {f:Frame} (h:C8 p f) (hl:f.left=0):0≤f.out∧f.out≤4097:=by
 unfold Frame.out
 have:=h.n0;have:=h.ticks
 split
 ·exact LD (by omega) (by omega)
 ·omega
theorem C8.took {p:Int} {u t:Frame} (hu:C8 p u) (ht:C8 p t) (hl:t.left=0):C8 (p+1) (u.take t):=by
 have a:=hu.n0;have b:=hu.left;have c:=hu.depth;have d:=hu.ticks
 have e:=ht.depth;have o:=Frame.out_bd ht hl
 refine ⟨?_, ?_, ?_, ?_⟩
 ·simp only [Frame.take];omega
 ·simp only [Frame.take];omega
 ·simp only [Frame.take];omega
 ·simp only [Frame.take];exact jU d.1 o.1
theorem NL {p:Int} {n:Node} (hp:0≤p):C8 p (A0 n):=by
 have hk:=HL n
 refine ⟨?_,by simp only [A0];omega,by simp only [A0];omega, ?_⟩
 ·simp only [A0]
  by_cases h:kids n<0
  ·omega
  ·right;left
   unfold kids at h
   (repeat' split at h)<;>omega
 ·simp only [A0]
  split
  ·rename_i h
   have:1≤n.n:=by unfold kids at h;(repeat' split at h)<;>omega
   omega
  ·omega
def Gd (p:Int) (S:List Frame):Prop:=∀ f∈S,C8 p f
theorem Gd.more {p:Int} {S:List Frame} (h:Gd p S):Gd (p+1) S:=fun f hf=>(h f hf).more
theorem Cm {α:Type} [Inhabited α] {a:α} {l:List α}:nth (a::l) 0=a:=by simp [nth]
end Go.Ab.T
namespace Go.Ab.T
open Go Go.Ab
set_option maxHeartbeats 4000000
theorem kY {top up:Frame} {r:List Frame}:nth (top::up::r).reverse (r.length+1)=top:=by simp [nth,List.getD]
theorem aHz {top up:Frame} {r:List Frame}:nth (top::up::r).reverse r.length=up:=by simp [nth,List.getD]
theorem NU {top up:Frame} {r:List Frame}:(top::up::r).reverse.take (r.length+1)=(up::r).reverse:=by
 rw [List.reverse_cons,List.take_append_of_le_length (by simp)]
 exact List.take_of_length_le (by simp)
theorem MD {up u:Frame} {r:List Frame}:(up::r).reverse.set r.length u=(u::r).reverse:=by
 rw [List.reverse_cons,List.reverse_cons,List.set_append_right _ _ (by simp)]
 simp
structure pW (v:V) (len i:Nat) (F:List Frame) (p:Nat) (S:List Frame) (st:V) (e:Env) (h:AH):Prop where
 e4:e 4=st
 e12:e 12=v
 e13:e 13=.i .i64 len
 e14:e 14=.i .i64 i
 hl:h.lim=0
 sl:Sl 0 h 6 st (S.reverse.map Frame.enc)
 ok:Gd p S
 cnt:p+S.length=i+2
 pos:1≤S.length
 fin:EY S=F
theorem J6 {v : V} {len i : Nat} {F : List Frame} {Q : Ex → Env → AH → Prop} (hi : i < 4294967296)
    (hQ:∀ p st e h',pW v len i F p F st e h'→Q (.ex 2) e h'):∀ n e h',(∃ p S st,n=S.length∧pW v len i F p S st e h')→ZC tp (.loop Qt) e h' Q:=by
 refine Ae _ ?_
 rintro n e h' ⟨p,S,st,rfl,⟨e4,e12,e13,e14,hl,sl,ok,cnt,pos,fin⟩⟩ ih
 obtain ⟨slen,sbig,slt,slo,sget,sat,srow,sc,scs⟩:=sl.facts
 have srl:=fun j (hj:j<(S.reverse.map Frame.enc).length)=>sl.rowlt hj
 simp only [List.length_reverse,List.length_map] at slen sbig slt slo sget sat srow srl
 rw [Ai Qt.eq_1]
 simp (disch:=omega)only[go_sem, *]
 refine Aq (fun hc=>?_) (fun hc=>?_)
 ·obtain ⟨top,up,r,rfl⟩:∃ top up r,S=top::up::r:=by
   match S,hc with
   | [],hc=>simp at hc
   | [_],hc=>simp at hc
   | a::b::r,_=>exact ⟨a,b,r,rfl⟩
  have hr0:=kY (top:=top) (up:=up) (r:=r)
  have hr1:=aHz (top:=top) (up:=up) (r:=r)
  simp only [List.length_cons,Int.natCast_add,Int.natCast_one] at slen sbig slt slo sget sat srow srl cnt hc
  have k1:((r.length:Int)+1).toNat=r.length+1:=by omega
  have k2:((r.length:Int)+1+1 - 2).toNat=r.length:=by omega
  have srl0:=srl r.length (by omega)
  have spre:∀ {k:IntKind} {j:Int} {cs:List (List V)},0≤j→j≤(r.length:Int)+1+1→Ht (some ⟨6,cs⟩) 6 st none (some (.i k j)) none=some (CW st j.toNat):=fun h0 h1=>sl.pre h0 (by simp;omega)
  have okt:=ok top (by simp)
  have oku:=ok up (by simp)
  have bt:=okt.left;have bd:=okt.depth;have bk:=okt.ticks
  have ut:=oku.left;have ud:=oku.depth;have uk:=oku.ticks
  have sct:=IS (n:=r.length+1) scs
  simp (disch:=omega)only[go_sem, *]
  refine Aa (fun hc2=>?_) (fun hc2=>?_)
  ·simp (disch:=omega)only[go_sem, *]
   refine Aa (fun hc3=>?_) (fun hc3=>?_)
   ·have:=okt.n0
    simp (disch:=omega)only[go_sem, *]
    have hb:=LD (a:=top.node.n) (b:=top.ticks) (by omega) (by omega)
    refine Pf.go ((Um (by omega) (by omega))) (by simp only [go_sem]) fun _=>?_;simp (disch:=omega)only[go_sem, *]
    refine Pf.go ((SQ (by omega) hb.1)) (by simp only [go_sem]) fun _=>?_;simp (disch:=omega)only[go_sem, *]
    refine ih _ _ _ ?_ ⟨p+1,up.take top::r,CW st (r.length+1),rfl, ?_, ?_, ?_, ?_, ?_, ?_, ?_, ?_, ?_, ?_⟩
    ·simp
    ·simp (disch:=omega)only[go_sem, *]
    ·simp (disch:=omega)only[go_sem, *]
    ·simp (disch:=omega)only[go_sem, *]
    ·simp (disch:=omega)only[go_sem, *]
    ·simp (disch:=omega)only[go_sem, *]
    ·have st1:=sl.truncd (n:=r.length+1) (by simp)
     rw [← List.map_take,NU] at st1
     rw [← MD (up:=up)]
     refine st1.setT (by simp) ?_ ?_
     ·simp (disch:=omega)only[go_sem, *]
      omega
     ·simp (disch:=omega)only[go_sem, *]
      simp only [Frame.take,Frame.out,if_pos hc3]
    ·intro f hf
     rcases List.mem_cons.1 hf with rfl | hf
     ·exact C8.took oku okt hc2
     ·exact (ok f (by simp [hf])).more
    ·simp only [List.length_cons] at cnt ⊢;omega
    ·simp
    ·rw [← fin];conv=>rhs;rw [EY,if_pos hc2]
   ·simp (disch:=omega)only[go_sem, *]
    refine Pf.go ((SQ (by omega) (by omega))) (by simp only [go_sem]) fun _=>?_;simp (disch:=omega)only[go_sem, *]
    refine ih _ _ _ ?_ ⟨p+1,up.take top::r,CW st (r.length+1),rfl, ?_, ?_, ?_, ?_, ?_, ?_, ?_, ?_, ?_, ?_⟩
    ·simp
    ·simp (disch:=omega)only[go_sem, *]
    ·simp (disch:=omega)only[go_sem, *]
    ·simp (disch:=omega)only[go_sem, *]
    ·simp (disch:=omega)only[go_sem, *]
    ·simp (disch:=omega)only[go_sem, *]
    ·have st1:=sl.truncd (n:=r.length+1) (by simp)
     rw [← List.map_take,NU] at st1
     rw [← MD (up:=up)]
     refine st1.setT (by simp) ?_ ?_
     ·simp (disch:=omega)only[go_sem, *]
      omega
     ·simp (disch:=omega)only[go_sem, *]
      simp only [Frame.take,Frame.out,if_neg hc3]
    ·intro f hf
     rcases List.mem_cons.1 hf with rfl | hf
     ·exact C8.took oku okt hc2
     ·exact (ok f (by simp [hf])).more
    ·simp only [List.length_cons] at cnt ⊢;omega
    ·simp
    ·rw [← fin];conv=>rhs;rw [EY,if_pos hc2]
  ·simp (disch:=omega)only[go_sem, *]
   have hF:top::up::r=F:=by rw [← fin,EY,if_neg hc2]
   rw [hF] at fin sl ok pos
   refine hQ p st _ _ ⟨?_, ?_, ?_, ?_,hl,sl,ok, ?_,pos,fin⟩
   ·simp (disch:=omega)only[go_sem, *]
   ·simp (disch:=omega)only[go_sem, *]
   ·simp (disch:=omega)only[go_sem, *]
   ·simp (disch:=omega)only[go_sem, *]
   ·rw [← hF];simpa using cnt
 ·simp (disch:=omega)only[go_sem, *]
  have hF:S=F:=by
   match S,hc,pos with
   | [t],_,_=>rw [← fin,EY]
   | a::b::r,hc,_=>simp at hc;omega
  rw [hF] at fin sl ok pos cnt
  refine hQ p st _ _ ⟨?_, ?_, ?_, ?_,hl,sl,ok,cnt,pos,fin⟩
  ·simp (disch:=omega)only[go_sem, *]
  ·simp (disch:=omega)only[go_sem, *]
  ·simp (disch:=omega)only[go_sem, *]
  ·simp (disch:=omega)only[go_sem, *]
theorem Kg:∀ (S:List Frame),1≤S.length→1≤(EY S).length
 | [],h=>by simp at h
 | [t],_=>by rw [EY];simp
 | t::u::r,_=>by
  rw [EY]
  split
  ·exact Kg (u.take t::r) (by simp)
  ·simp
termination_by S=>S.length
theorem J7 {L:List Node}:Pf tp Yw [.fl 3 (L.map Node.enc)] (.tup [.i .i64 (CM L).depth,.i .i64 (CM L).ticks]):=by
 refine AD aGx (by simp [PA]) fun rp=>?_;unfold PA;simp (disch:=omega)only[go_sem, *]
 have hL:=rp.head.len
 refine Ae (fun n e h=>∃ (i:Nat) (st:V) (p:Nat) (S:List Frame),n=L.length - i∧h.lim=0∧e 12=.fl 3 (L.map Node.enc)∧e 13=.i .i64 L.length∧e 14=.i .i64 i∧e 4=st∧i≤L.length∧Sl 0 h 6 st (S.reverse.map Frame.enc)∧Gd p S∧p+S.length=i+1∧1≤S.length∧En (L.drop i) S=En L [⟨⟨0,0,0⟩,1,0,0⟩]) ?_ _ _ _ ⟨0,.sl 0 0 1 1,0,[⟨⟨0,0,0⟩,1,0,0⟩],rfl, ?_⟩
 ·rintro n e h ⟨i,st,p,S,rfl,hl,e12,e13,e14,e4,hi,sl,ok,cnt,pos,hz⟩ ih
  rw [Ai VJ.eq_1]
  simp (disch:=omega)only[go_sem, *]
  refine Aa (fun hc=>?_) (fun hc=>?_)
  ·rw [Ax (by omega),En] at hz
   have hkb:=HL (nth L i)
   simp (disch:=omega)only[go_sem, *]
   refine Pf.go (SK) (by simp only [go_sem]) fun _=>?_;simp (disch:=omega)only[go_sem, *]
   have x1:AK h ((h.alloc ⟨3,[[.i .i64 0,.i .i64 0,.i .i64 0]]⟩).put h.next ⟨3,[Node.enc (nth L i)]⟩):=by (repeat (first | exact AK.refl _ | refine AK.alloc ?_ _ | (refine AK.put ?_ _ _ ?_;rotate_left;(first | omega | (simp only [Ag,AB];omega)))))
   refine Ao (R:=S.reverse.map Frame.enc) ((sl.ext x1).alloc _) (by simp only [go_sem, *]) (Nat.zero_le _) (by simp;omega) ?_
   intro w h4 s4 g4
   have hl4:=g4.lim
   have hn4:=g4.next
   have s5:Sl 0 h4 6 w ((⟨nth L i,kids (nth L i),0,0⟩::S).reverse.map Frame.enc):=by simpa [Frame.enc] using s4
   obtain ⟨slen,sbig,slt,slo,sget,sat,srow,sc,scs⟩:=s5.facts
   simp only [List.length_reverse,List.length_cons,Int.natCast_add,Int.natCast_one] at slen sbig slt slo sget sat srow
   have srl:=s5.rowlt (j:=S.length) (by simp)
   simp only [Ag,AB,AG,CU] at hn4 hl4
   have hb4:h4.get h.next=some ⟨3,[Node.enc (nth L i)]⟩:=by
    have hne:Ba st=true∨h.next≠AW st:=by
     refine .inr ?_
     have:=(sl.facts).lt (by simp;omega)
     omega
    rw [g4.get _ (by simp only [Ag,AB];omega) hne]
    simp (disch:=omega)only[go_sem, *]
   have hrv:nth (⟨nth L i,kids (nth L i),0,0⟩::S).reverse S.length=⟨nth L i,kids (nth L i),0,0⟩:=by simp [nth,List.getD]
   have hnl:(0:Int)≤L.length:=by omega
   simp (disch:=omega)only[Node.enc] at hb4
   rw [hl] at hl4
   simp (disch:=omega)only[go_sem, *]
   refine Aa (fun hc2=>?_) (fun hc2=>?_)
   ·have hkn:1≤(nth L i).n:=by unfold kids at hc2;(repeat' split at hc2)<;>omega
    have hrv0:=hrv
    rw [hc2] at hrv0
    simp (disch:=omega)only[go_sem, *]
    refine J6 (v:=.fl 3 (L.map Node.enc)) (len:=L.length) (i:=i) (F:=EY (A0 (nth L i)::S)) (by omega) ?_ _ _ _ ⟨p,A0 (nth L i)::S,w,rfl, ?_, ?_, ?_, ?_, ?_, ?_, ?_, ?_, ?_, ?_⟩
    ·intro p' st' e' h' m
     have hpos:=Kg (A0 (nth L i)::S) (by simp)
     obtain ⟨m4,m12,m13,m14,ml,ms,mo,mc,mp,mf⟩:=m
     simp (disch:=omega)only[go_sem, *]
     refine ih _ _ _ ?_ ⟨i+1,st',p',EY (A0 (nth L i)::S),rfl, ?_⟩
     ·omega
     ·simp (disch:=omega)only[go_sem, *]
      ((repeat' refine And.intro ?_ ?_)<;>first | omega | assumption | (exact ms))
    ·simp (disch:=omega)only[go_sem, *]
    ·simp (disch:=omega)only[go_sem, *]
    ·simp (disch:=omega)only[go_sem, *]
    ·simp (disch:=omega)only[go_sem, *]
    ·simp (disch:=omega)only[go_sem, *]
    ·(have hpf:A0 (nth L i)=⟨nth L i,kids (nth L i),0,min 4097 (nth L i).n⟩:=(by simp only [A0,if_pos hc2]);rw [hpf,←MD (up:=⟨nth L i,kids (nth L i),0,0⟩)];refine s5.setT (j:=S.length) (by simp) ?_ ?_;all_goals (first | (simp (disch:=omega)only[go_sem, *];done) | (simp (disch:=omega)only[go_sem, *];omega) | omega))
    ·intro f hf
     rcases List.mem_cons.1 hf with rfl | hf
     ·exact NL (by omega)
     ·exact ok f hf
    ·simp only [List.length_cons];omega
    ·simp
    ·rfl
   ·simp (disch:=omega)only[go_sem, *]
    refine J6 (v:=.fl 3 (L.map Node.enc)) (len:=L.length) (i:=i) (F:=EY (A0 (nth L i)::S)) (by omega) ?_ _ _ _ ⟨p,A0 (nth L i)::S,w,rfl, ?_, ?_, ?_, ?_, ?_, ?_, ?_, ?_, ?_, ?_⟩
    ·intro p' st' e' h' m
     have hpos:=Kg (A0 (nth L i)::S) (by simp)
     obtain ⟨m4,m12,m13,m14,ml,ms,mo,mc,mp,mf⟩:=m
     simp (disch:=omega)only[go_sem, *]
     refine ih _ _ _ ?_ ⟨i+1,st',p',EY (A0 (nth L i)::S),rfl, ?_⟩
     ·omega
     ·simp (disch:=omega)only[go_sem, *]
      ((repeat' refine And.intro ?_ ?_)<;>first | omega | assumption | (exact ms))
    ·simp (disch:=omega)only[go_sem, *]
    ·simp (disch:=omega)only[go_sem, *]
    ·simp (disch:=omega)only[go_sem, *]
    ·simp (disch:=omega)only[go_sem, *]
    ·simp (disch:=omega)only[go_sem, *]
    ·(have hpf:A0 (nth L i)=⟨nth L i,kids (nth L i),0,0⟩:=(by simp only [A0,if_neg hc2]);rw [hpf];exact s5)
    ·intro f hf
     rcases List.mem_cons.1 hf with rfl | hf
     ·exact NL (by omega)
     ·exact ok f hf
    ·simp only [List.length_cons];omega
    ·simp
    ·rfl
  ·rw [List.drop_eq_nil_of_le (by omega),En] at hz
   have hme:CM L=nth S.reverse 0:=by rw [CM,←hz]
   obtain ⟨slen,sbig,slt,slo,sget,sat,srow,_,_⟩:=sl.facts
   simp only [List.length_reverse] at slen sbig slt slo sget sat srow
   have z0:Int.toNat 0=0:=rfl
   have srow0:=srow 0 (by omega)
   rw [Nat.add_zero] at srow0
   have hsl:(0:Int)<S.length:=by omega
   simp (disch:=omega)only[go_sem, *]
 ·simp (disch:=omega)only[go_sem, *]
  refine ⟨?_, ?_⟩
  ·exact .inr ⟨0,0,1,_,rfl,rfl,by simp,by simp [Frame.enc],by simp,by simp [AH.alloc,AH.emp],Nat.le_refl _,by simp⟩
  ·intro f hf
   simp only [List.mem_singleton] at hf
   subst hf
   exact ⟨.inl (by simp),by simp,by simp,by simp⟩
end Go.Ab.T
namespace Go.Ab.T
open Go Go.Ab
def J4 (L:List Node):Bool:=decide (BI L=true∧(CM L).ticks≤4096)
def Mu (L:List Node):Int:=if J4 L=true then (CM L).ticks else 0
theorem K6 {L:List Node}:Pf tp X7 [.fl 3 (L.map Node.enc)] (.tup [.i .i64 (Mu L),.b (J4 L)]):=by
 refine AD aFY (by simp [OZ]) fun rp=>?_;unfold OZ;simp (disch:=omega)only[go_sem, *]
 refine Pf.go (KW) (by simp only [go_sem]) fun _=>?_;simp (disch:=omega)only[go_sem, *]
 refine AX (fun hc=>?_) (fun hc=>?_)
 ·simp (disch:=omega)only[go_sem, *]
  simp at hc
  simp [Mu,J4,hc]
 ·simp at hc
  simp (disch:=omega)only[go_sem, *]
  refine Pf.go (J7) (by simp only [go_sem]) fun _=>?_;simp (disch:=omega)only[go_sem, *]
  refine Aa (fun hc2=>?_) (fun hc2=>?_)
  ·simp (disch:=omega)only[go_sem, *]
   simp [Mu,J4,hc,hc2]
  ·simp (disch:=omega)only[go_sem, *]
   simp [Mu,J4,hc,hc2]
def Jb (L:List Node):Int:=if BI L=true then (CM L).depth else 0
theorem Mv {L:List Node}:Pf tp X9 [.fl 3 (L.map Node.enc)] (.i .i64 (Jb L)):=by
 refine AD aF0 (by simp [O1]) fun rp=>?_;unfold O1;simp (disch:=omega)only[go_sem, *]
 refine Pf.go (KW) (by simp only [go_sem]) fun _=>?_;simp (disch:=omega)only[go_sem, *]
 refine AX (fun hc=>?_) (fun hc=>?_)
 ·simp (disch:=omega)only[go_sem, *]
  simp at hc
  simp [Jb,hc]
 ·simp at hc
  simp (disch:=omega)only[go_sem, *]
  refine Pf.go (J7) (by simp only [go_sem]) fun _=>?_;simp (disch:=omega)only[go_sem, *]
  simp [Jb,hc]
def Bj (L:List Node):Int:=if 128<L.length then 3 else if BI L=false then 12 else if 16<Jb L then 14 else if J4 L=false then 18 else 0
theorem HS {L:List Node}:Pf tp XK [.fl 3 (L.map Node.enc)] (.i .i64 (Bj L)):=by
 refine AD aFy (by simp [Ox]) fun rp=>?_;unfold Ox;simp (disch:=omega)only[go_sem, *]
 refine Pf.go (K6) (by simp only [go_sem]) fun _=>?_;simp (disch:=omega)only[go_sem, *]
 refine Aa (fun hc=>?_) (fun hc=>?_)
 ·simp (disch:=omega)only[go_sem, *]
  simp only [Bj];rw [if_pos (by omega)]
 simp (disch:=omega)only[go_sem, *]
 refine Pf.go (KW) (by simp only [go_sem]) fun _=>?_;simp (disch:=omega)only[go_sem, *]
 refine AX (fun hc2=>?_) (fun hc2=>?_)
 ·simp (disch:=omega)only[go_sem, *]
  simp at hc2
  simp only [Bj];rw [if_neg (by omega),if_pos hc2]
 simp at hc2
 simp (disch:=omega)only[go_sem, *]
 refine Pf.go (Mv) (by simp only [go_sem]) fun _=>?_;simp (disch:=omega)only[go_sem, *]
 refine Aa (fun hc3=>?_) (fun hc3=>?_)
 ·simp (disch:=omega)only[go_sem, *]
  simp only [Bj];rw [if_neg (by omega),if_neg (by simp [hc2]),if_pos (by omega)]
 simp (disch:=omega)only[go_sem, *]
 refine AX (fun hc4=>?_) (fun hc4=>?_)
 ·simp (disch:=omega)only[go_sem, *]
  simp at hc4
  simp only [Bj];rw [if_neg (by omega),if_neg (by simp [hc2]),if_neg (by omega),if_pos hc4]
 ·simp (disch:=omega)only[go_sem, *]
  simp at hc4
  simp only [Bj];rw [if_neg (by omega),if_neg (by simp [hc2]),if_neg (by omega),if_neg (by simp [hc4])]
end Go.Ab.T
namespace Go.Ab.T
open Go Go.Ab
def DN (x:Node):Int:=if x.kind=2 then -1 else x.part
theorem kJ {x:Node}:Pf tp Yq [.agg x.enc] (.i .i64 (DN x)):=by
 refine AD aGq (by simp [Pt]) fun rp=>?_;unfold Pt;simp (disch:=omega)only[go_sem, *]
 repeat' (first | (refine Aq (fun hc=>?_) (fun hc=>?_)<;>simp (disch:=omega)only[go_sem, *]) | (refine Aa (fun hc=>?_) (fun hc=>?_)<;>simp (disch:=omega)only[go_sem, *]))
 ·simp [DN, *]
 ·simp [DN, *]
theorem gZ {x:Node}:Pf tp Q6 [.agg x.enc] (.b (decide (0≤kids x))):=by
 refine AD iP (by simp [KF]) fun rp=>?_;unfold KF;simp (disch:=omega)only[go_sem, *]
 repeat' (first | (refine Aq (fun hc=>?_) (fun hc=>?_)<;>simp (disch:=omega)only[go_sem, *]) | (refine Aa (fun hc=>?_) (fun hc=>?_)<;>simp (disch:=omega)only[go_sem, *]))
 all_goals unfold kids
 all_goals rw [Bool.eq_iff_iff]
 all_goals (repeat' split)
 all_goals simp only [decide_eq_true_eq,Bool.false_eq_true,false_iff,true_iff,iff_true,iff_false]
 all_goals omega
theorem HK (x:Node) (h:0≤kids x):(x.kind=3→kids x=x.n)∧(x.kind=4→kids x=1)∧(x.kind≠3→x.kind≠4→kids x=0):=by
 unfold kids at h ⊢
 refine ⟨fun hk=>?_,fun hk=>?_,fun h3 h4=>?_⟩<;>(repeat' split)<;>(repeat' split at h)<;>omega
set_option maxHeartbeats 4000000 in
theorem Hl {L:List Node} {a:Int}:Pf tp SG [.fl 3 (L.map Node.enc),.i .i64 a] (.i .i64 (size L a)):=by
 refine AD aGz (by simp [PC]) fun rp=>?_;unfold PC;simp (disch:=omega)only[go_sem, *]
 have hL:=rp.head.len
 repeat' (first | (refine Aq (fun hc=>?_) (fun hc=>?_)<;>simp (disch:=omega)only[go_sem, *]) | (refine Aa (fun hc=>?_) (fun hc=>?_)<;>simp (disch:=omega)only[go_sem, *]))
 ·simp [size];omega
 ·simp [size];omega
 ·refine Ae (fun n e h=>∃ (i:Nat) (left:Int),n=L.length - i∧h.lim=0∧e 0=.fl 3 (L.map Node.enc)∧e 1=.i .i64 a∧e 5=.i .i64 left∧e 6=.i .i64 i∧a≤i∧i≤L.length∧0<left∧left≤1+128*i∧Ep (L.drop i) left (i - a)=size L a) ?_ _ _ _ ⟨a.toNat,1,rfl, ?_⟩
  ·rintro n e h ⟨i,left,rfl,hl,e0,e1,e5,e6,hi1,hi2,hl1,hl2,hz⟩ ih
   rw [Ai VL.eq_1]
   simp (disch:=omega)only[go_sem, *]
   have hk:=HL (nth L i)
   refine Aa (fun hc=>?_) (fun hc=>?_)
   ·rw [Ax (by omega),Ep] at hz
    simp (disch:=omega)only[go_sem, *]
    refine Pf.go (gZ) (by simp only [go_sem]) fun _=>?_;simp (disch:=omega)only[go_sem, *]
    refine Aa (fun hc2=>?_) (fun hc2=>?_)
    ·rw [if_pos (by omega)] at hz
     simp (disch:=omega)only[go_sem, *]
    ·rw [if_neg (by omega)] at hz
     have hka:=HK (nth L i) (by omega)
     simp (disch:=omega)only[go_sem, *]
     repeat' (first | (refine Aq (fun hc=>?_) (fun hc=>?_)<;>simp (disch:=omega)only[go_sem, *]) | (refine Aa (fun hc=>?_) (fun hc=>?_)<;>simp (disch:=omega)only[go_sem, *]))
     all_goals first
      | (rw [if_pos (by omega)] at hz
         rw [hz])
      | (rw [if_pos (by omega)] at hz
         rw [← hz];omega)
      | (rw [if_neg (by omega)] at hz
         refine ih _ _ _ ?_ ⟨i+1,left+(kids (nth L i) - 1),rfl, ?_⟩
         ·omega
         ·simp (disch:=omega)only[go_sem, *]
          refine ⟨by first | rfl | (congr 1;omega),by omega,by omega,by omega,by omega, ?_⟩
          rw [← hz];congr 1<;>omega)
   ·rw [List.drop_eq_nil_of_le (by omega),Ep] at hz
    simp (disch:=omega)only[go_sem, *]
  ·simp (disch:=omega)only[go_sem, *]
   ((repeat' refine And.intro ?_ ?_)<;>first | omega | assumption | ((congr 1;omega)) | ((simp only [size];rw [if_neg (by omega)];congr 1;omega)))
end Go.Ab.T
namespace Go.Ab.T
open Go Go.Ab
inductive Fo where
 | nil
 | leaf (x:Node) (r:Fo)
 | seq (x:Node) (k r:Fo)
 | rep (x:Node) (k r:Fo)
namespace Fo
def flat:Fo→List Node
 | nil=>[]
 | leaf x r=>x::flat r
 | seq x k r=>x::(flat k++flat r)
 | rep x k r=>x::(flat k++flat r)
def count:Fo→Nat
 | nil=>0
 | leaf _ r=>count r+1
 | seq _ _ r=>count r+1
 | rep _ _ r=>count r+1
def ok:Fo→Prop
 | nil=>True
 | leaf x r=>T.kids x=0∧ok r
 | seq x k r=>x.kind=3∧T.kids x=count k∧0<count k∧ok k∧ok r
 | rep x k r=>x.kind=4∧T.kids x=1∧count k=1∧ok k∧ok r
def depth:Fo→Nat
 | nil=>0
 | leaf _ r=>max 1 (depth r)
 | seq _ k r=>max (depth k+1) (depth r)
 | rep _ k r=>max (depth k+1) (depth r)
def len:Fo→Int
 | nil=>0
 | leaf x r=>x.n+len r
 | seq _ k r=>len k+len r
 | rep x k r=>x.n*len k+len r
theorem split:∀ (f:Fo) (a b:Nat),count f=a+b→ok f→∃ f1 f2,flat f=flat f1++flat f2∧count f1=a∧count f2=b∧ok f1∧ok f2
 | f,0,b,hc,ho=>⟨nil,f,by simp [flat],rfl,by omega,trivial,ho⟩
 | nil,a+1,b,hc,ho=>by simp only [count] at hc;omega
 | leaf x r,a+1,b,hc,ho=>by
  obtain ⟨f1,f2,h1,h2,h3,h4,h5⟩:=split r a b (by simp only [count] at hc;omega) ho.2
  exact ⟨leaf x f1,f2,by simp [flat,h1],by simp [count,h2],h3,⟨ho.1,h4⟩,h5⟩
 | seq x k r,a+1,b,hc,ho=>by
  obtain ⟨f1,f2,h1,h2,h3,h4,h5⟩:=split r a b (by simp only [count] at hc;omega) ho.2.2.2.2
  exact ⟨seq x k f1,f2,by simp [flat,h1],by simp [count,h2],h3,⟨ho.1,ho.2.1,ho.2.2.1,ho.2.2.2.1,h4⟩,h5⟩
 | rep x k r,a+1,b,hc,ho=>by
  obtain ⟨f1,f2,h1,h2,h3,h4,h5⟩:=split r a b (by simp only [count] at hc;omega) ho.2.2.2.2
  exact ⟨rep x k f1,f2,by simp [flat,h1],by simp [count,h2],h3,⟨ho.1,ho.2.1,ho.2.2.1,ho.2.2.2.1,h4⟩,h5⟩
end Fo
theorem Fo.nil_of {f:Fo} (h:f.count=0):f=.nil:=by cases f<;>simp [Fo.count] at h ⊢
theorem F4:∀ (f:Fo) (R:List Node) (left n:Int),f.ok→((f.count:Int)<left→Ep (f.flat++R) left n=Ep R (left - f.count) (n+f.flat.length))∧(0<f.count→left=f.count→Ep (f.flat++R) left n=n+f.flat.length)
 | .nil,R,left,n,ho=>⟨fun _=>by simp [Fo.flat,Fo.count],fun h=>by simp [Fo.count] at h⟩
 | .leaf x r,R,left,n,ho=>by
  obtain ⟨hk,hor⟩:=ho
  have ih:=F4 r R (left+(kids x - 1)) (n+1) hor
  simp only [Fo.flat,Fo.count,List.cons_append,Ep,List.length_cons]
  rw [if_neg (by omega)]
  refine ⟨fun h=>?_,fun _ h=>?_⟩
  ·rw [if_neg (by omega),ih.1 (by omega)];congr 1<;>omega
  ·by_cases hr:r.count=0
   ·rw [if_pos (by omega),Fo.nil_of hr];simp [Fo.flat]
   ·rw [if_neg (by omega),ih.2 (by omega) (by omega)];omega
 | .seq x k r,R,left,n,ho=>by
  obtain ⟨h3,hk,hp,hok,hor⟩:=ho
  have i1:=F4 k (r.flat++R) (left+(kids x - 1)) (n+1) hok
  have i2:=F4 r R (left+(kids x - 1) - k.count) (n+1+k.flat.length) hor
  simp only [Fo.flat,Fo.count,List.cons_append,Ep,List.length_cons,List.append_assoc,List.length_append]
  rw [if_neg (by omega)]
  refine ⟨fun h=>?_,fun _ h=>?_⟩
  ·rw [if_neg (by omega),i1.1 (by omega),i2.1 (by omega)];congr 1<;>omega
  ·by_cases hr:r.count=0
   ·rw [if_neg (by omega),i1.2 (by omega) (by omega),Fo.nil_of hr];simp [Fo.flat];omega
   ·rw [if_neg (by omega),i1.1 (by omega),i2.2 (by omega) (by omega)];omega
 | .rep x k r,R,left,n,ho=>by
  obtain ⟨h3,hk,hp,hok,hor⟩:=ho
  have i1:=F4 k (r.flat++R) (left+(kids x - 1)) (n+1) hok
  have i2:=F4 r R (left+(kids x - 1) - k.count) (n+1+k.flat.length) hor
  simp only [Fo.flat,Fo.count,List.cons_append,Ep,List.length_cons,List.append_assoc,List.length_append]
  rw [if_neg (by omega)]
  refine ⟨fun h=>?_,fun _ h=>?_⟩
  ·rw [if_neg (by omega),i1.1 (by omega),i2.1 (by omega)];congr 1<;>omega
  ·by_cases hr:r.count=0
   ·rw [if_neg (by omega),i1.2 (by omega) (by omega),Fo.nil_of hr];simp [Fo.flat];omega
   ·rw [if_neg (by omega),i1.1 (by omega),i2.2 (by omega) (by omega)];omega
theorem FW (x:Node) (h:0≤kids x):(kids x=0∧x.kind≠3∧x.kind≠4)∨(x.kind=3∧0<kids x)∨(x.kind=4∧kids x=1):=by
 have hk:=HK x h
 by_cases h3:x.kind=3
 ·right;left
  refine ⟨h3, ?_⟩
  have:=hk.1 h3
  unfold kids at h this ⊢
  (repeat' split at h)<;>omega
 ·by_cases h4:x.kind=4
  ·exact .inr (.inr ⟨h4,hk.2.1 h4⟩)
  ·exact .inl ⟨hk.2.2 h3 h4,h3,h4⟩
theorem Od:∀ (L:List Node) (left:Nat) (n:Int),0<left→0≤n→Ep L left n≠0→∃ (f:Fo) (R:List Node),f.ok∧f.count=left∧L=f.flat++R∧Ep L left n=n+f.flat.length
 | [],left,n,hl,hn,hz=>by simp [Ep] at hz
 | x::r,left,n,hl,hn,hz=>by
  by_cases hk:kids x<0
  ·rw [Ep,if_pos hk] at hz;exact absurd rfl hz
  ·by_cases h0:(left:Int)+(kids x - 1)=0
   ·have hkx:kids x=0:=by omega
    refine ⟨.leaf x .nil,r,⟨hkx,trivial⟩,by simp only [Fo.count];omega,by simp [Fo.flat], ?_⟩
    rw [Ep,if_neg hk,if_pos h0];simp [Fo.flat]
   ·rw [Ep,if_neg hk,if_neg h0] at hz
    have e:(left:Int)+(kids x - 1)=((kids x).toNat+(left - 1):Nat):=by omega
    rw [e] at hz
    obtain ⟨f,R,hfo,hfc,hL,hs⟩:=Od r _ (n+1) (by omega) (by omega) hz
    obtain ⟨f1,f2,h1,h2,h3,h4,h5⟩:=Fo.split f _ _ hfc hfo
    rcases FW x (by omega) with ⟨c1,c2,c3⟩ | ⟨c1,c2⟩ | ⟨c1,c2⟩
    ·refine ⟨.leaf x f,R,⟨c1,hfo⟩,by simp only [Fo.count];omega,by simp [Fo.flat,hL], ?_⟩
     rw [Ep,if_neg hk,if_neg h0,e,hs];simp only [Fo.flat,List.length_cons];omega
    ·refine ⟨.seq x f1 f2,R,⟨c1,by omega,by omega,h4,h5⟩,by simp only [Fo.count];omega,by simp [Fo.flat,hL,h1], ?_⟩
     rw [Ep,if_neg hk,if_neg h0,e,hs,h1];simp only [Fo.flat,List.length_cons];omega
    ·refine ⟨.rep x f1 f2,R,⟨c1,c2,by omega,h4,h5⟩,by simp only [Fo.count];omega,by simp [Fo.flat,hL,h1], ?_⟩
     rw [Ep,if_neg hk,if_neg h0,e,hs,h1];simp only [Fo.flat,List.length_cons];omega
theorem EH (L:List Node):BI L=true↔∃ f:Fo,f.ok∧f.count=1∧L=f.flat:=by
 simp only [BI,decide_eq_true_eq]
 constructor
 ·rintro ⟨hp,hs⟩
  unfold size at hs
  rw [if_neg (by omega)] at hs
  simp only [Int.toNat_zero,List.drop_zero] at hs
  obtain ⟨f,R,ho,hc,hL,hz⟩:=Od L 1 0 (by omega) (by omega) (by simp only [Int.natCast_one];omega)
  refine ⟨f,ho,hc, ?_⟩
  simp only [Int.natCast_one] at hz
  rw [hz] at hs
  have:R=[]:=by
   have:=congrArg List.length hL
   simp only [List.length_append] at this
   exact List.length_eq_zero_iff.1 (by omega)
  rw [hL,this,List.append_nil]
 ·rintro ⟨f,ho,hc,rfl⟩
  have hp:0<f.flat.length:=by cases f<;>simp [Fo.flat,Fo.count] at hc ⊢
  refine ⟨hp, ?_⟩
  unfold size
  rw [if_neg (by omega)]
  have:=(F4 f [] 1 0 ho).2 (by omega) (by omega)
  rw [List.append_nil] at this
  simp only [Int.toNat_zero,List.drop_zero]
  omega
theorem Fc {L:List Node} {a:Nat} {f:Fo} {R:List Node} (hd:L.drop a=f.flat++R) (ho:f.ok) (hc:f.count=1):size L a=f.flat.length:=by
 have hp:0<f.flat.length:=by cases f<;>simp [Fo.flat,Fo.count] at hc ⊢
 have hl:=congrArg List.length hd
 simp only [List.length_drop,List.length_append] at hl
 unfold size
 rw [if_neg (by omega),Int.toNat_natCast,hd,(F4 f R 1 0 ho).2 (by omega) (by omega)]
 omega
/-! ### The stack machine on a forest -/
def CE:Frame→Fo→Frame
 | t,.nil=>t
 | t,.leaf x r=>CE (t.take (A0 x)) r
 | t,.seq x k r=>CE (t.take (CE (A0 x) k)) r
 | t,.rep x k r=>CE (t.take (CE (A0 x) k)) r
theorem Fj:∀ (f:Fo) (t:Frame),(CE t f).left=t.left - f.count
 | .nil,t=>by simp [CE,Fo.count]
 | .leaf x r,t=>by rw [CE,Fj r];simp only [Frame.take,Fo.count];omega
 | .seq x k r,t=>by rw [CE,Fj r];simp only [Frame.take,Fo.count];omega
 | .rep x k r,t=>by rw [CE,Fj r];simp only [Frame.take,Fo.count];omega
theorem Fk:∀ (f:Fo) (t:Frame),(CE t f).node=t.node
 | .nil,t=>by simp [CE]
 | .leaf x r,t=>by rw [CE,Fk r];simp only [Frame.take]
 | .seq x k r,t=>by rw [CE,Fk r];simp only [Frame.take]
 | .rep x k r,t=>by rw [CE,Fk r];simp only [Frame.take]
theorem IC {t u:Frame} {S:List Frame} (h:t.left≠0):EY (t::u::S)=t::u::S:=by rw [EY,if_neg h]
theorem My {t u:Frame} {S:List Frame} (h:t.left=0):EY (t::u::S)=EY (u.take t::S):=by rw [EY,if_pos h]
theorem NJ {t:Frame}:EY [t]=[t]:=by rw [EY]
theorem IB {t:Frame} {S:List Frame} (h:t.left≠0):EY (t::S)=t::S:=by
 cases S with
 | nil=>exact NJ
 | cons u S=>exact IC h
theorem ED:∀ (f:Fo) (R:List Node) (t:Frame) (S:List Frame),f.ok→(f.count:Int)≤t.left→0<f.count→En (f.flat++R) (t::S)=En R (EY (CE t f::S))
 | .nil,R,t,S,ho,hl,hc=>by simp [Fo.count] at hc
 | .leaf x r,R,t,S,ho,hl,hc=>by
  obtain ⟨hk,hor⟩:=ho
  simp only [Fo.count] at hl
  have hp:(A0 x).left=0:=by simp only [A0];exact hk
  have ht:(t.take (A0 x)).left=t.left - 1:=rfl
  rw [Fo.flat,List.cons_append,En,My hp,CE]
  by_cases hr:r.count=0
  ·rw [Fo.nil_of hr,Fo.flat,CE,List.nil_append]
  ·rw [IB (by omega),ED r R _ S hor (by omega) (by omega)]
 | .seq x k r,R,t,S,ho,hl,hc=>by
  obtain ⟨h3,hk,hp,hok,hor⟩:=ho
  simp only [Fo.count] at hl
  have hpl:(A0 x).left=k.count:=by simp only [A0];exact hk
  have hak:=Fj k (A0 x)
  have ht:(t.take (CE (A0 x) k)).left=t.left - 1:=rfl
  rw [Fo.flat,List.cons_append,List.append_assoc,En,IC (by omega),CE,ED k _ (A0 x) (t::S) hok (by omega) hp,My (by omega)]
  by_cases hr:r.count=0
  ·rw [Fo.nil_of hr,Fo.flat,CE,List.nil_append]
  ·rw [IB (by omega),ED r R _ S hor (by omega) (by omega)]
 | .rep x k r,R,t,S,ho,hl,hc=>by
  obtain ⟨h3,hk,hp,hok,hor⟩:=ho
  simp only [Fo.count] at hl
  have hpl:(A0 x).left=k.count:=by simp only [A0];omega
  have hak:=Fj k (A0 x)
  have ht:(t.take (CE (A0 x) k)).left=t.left - 1:=rfl
  rw [Fo.flat,List.cons_append,List.append_assoc,En,IC (by omega),CE,ED k _ (A0 x) (t::S) hok (by omega) (by omega),My (by omega)]
  by_cases hr:r.count=0
  ·rw [Fo.nil_of hr,Fo.flat,CE,List.nil_append]
  ·rw [IB (by omega),ED r R _ S hor (by omega) (by omega)]
theorem De {x:Node} (h:0≤kids x):1≤x.n:=by
 unfold kids at h;(repeat' split at h)<;>omega
theorem Fo.len_pos:∀ (f:Fo),f.ok→0≤f.len∧(0<f.count→1≤f.len)
 | .nil,_=>by simp [Fo.len,Fo.count]
 | .leaf x r,ho=>by
  have:=Fo.len_pos r ho.2;have:=De (x:=x) (by rw [ho.1];omega)
  simp only [Fo.len];omega
 | .seq x k r,ho=>by
  have:=Fo.len_pos r ho.2.2.2.2;have h1:=Fo.len_pos k ho.2.2.2.1;have:=ho.2.2.1
  simp only [Fo.len];omega
 | .rep x k r,ho=>by
  have:=Fo.len_pos r ho.2.2.2.2;have h1:=Fo.len_pos k ho.2.2.2.1;have:=ho.2.2.1
  have h2:=De (x:=x) (by rw [ho.2.1];omega)
  have h3:1*1≤x.n*k.len:=Int.mul_le_mul h2 (by omega) (by omega) (by omega)
  simp only [Fo.len];omega
theorem DQ:∀ (f:Fo) (t:Frame),f.ok→0≤t.depth→(CE t f).depth=max t.depth f.depth
 | .nil,t,ho,ht=>by simp only [CE,Fo.depth];omega
 | .leaf x r,t,ho,ht=>by
  rw [CE,DQ r _ ho.2 (by simp only [Frame.take];omega)];simp only [Frame.take,A0,Fo.depth];omega
 | .seq x k r,t,ho,ht=>by
  have:=DQ k (A0 x) ho.2.2.2.1 (by simp [A0])
  simp only [A0] at this
  rw [CE,DQ r _ ho.2.2.2.2 (by simp only [Frame.take];omega)];simp only [Frame.take,A0,Fo.depth,this];omega
 | .rep x k r,t,ho,ht=>by
  have:=DQ k (A0 x) ho.2.2.2.1 (by simp [A0])
  simp only [A0] at this
  rw [CE,DQ r _ ho.2.2.2.2 (by simp only [Frame.take];omega)];simp only [Frame.take,A0,Fo.depth,this];omega
theorem MX {n l:Int} (hn:1≤n) (hl:1≤l):min 4097 (min 4097 n*min 4097 l)=min 4097 (n*l):=by
 by_cases h1:n≤4097
 ·by_cases h2:l≤4097
  ·rw [Int.min_eq_right h1,Int.min_eq_right h2]
  ·have a:1*l≤n*l:=Int.mul_le_mul_of_nonneg_right hn (by omega)
   have b:1*4097≤n*4097:=Int.mul_le_mul_of_nonneg_right hn (by omega)
   rw [Int.min_eq_right h1,Int.min_eq_left (by omega:4097≤l)];omega
 ·have a:n*1≤n*l:=Int.mul_le_mul_of_nonneg_left hl (by omega)
  have b:4097*1≤4097*min 4097 l:=Int.mul_le_mul_of_nonneg_left (by omega) (by omega)
  rw [Int.min_eq_left (by omega:4097≤n)];omega
theorem DR:∀ (f:Fo) (t:Frame),f.ok→0≤t.ticks∧t.ticks≤4097→(CE t f).ticks=min 4097 (t.ticks+f.len)
 | .nil,t,ho,ht=>by simp only [CE,Fo.len];omega
 | .leaf x r,t,ho,ht=>by
  have h1:=De (x:=x) (by rw [ho.1];omega)
  have h4:x.kind≠4:=by
   have:=FW x (by rw [ho.1];omega)
   rw [ho.1] at this;omega
  have hl:=(Fo.len_pos r ho.2).1
  have e:(t.take (A0 x)).ticks=min 4097 (t.ticks+x.n):=by
   simp only [Frame.take,Frame.out,A0,Ny,if_neg h4,if_pos ho.1];omega
  rw [CE,DR r _ ho.2 (by rw [e];omega),e];simp only [Fo.len];omega
 | .seq x k r,t,ho,ht=>by
  have hk:=DR k (A0 x) ho.2.2.2.1 (by
   have:=ho.2.2.1;have:=ho.2.1
   simp only [A0];rw [if_neg (by omega)];omega)
  have hl:=(Fo.len_pos r ho.2.2.2.2).1
  have hlk:=(Fo.len_pos k ho.2.2.2.1).1
  have h0:(A0 x).ticks=0:=by
   have:=ho.2.2.1;have:=ho.2.1
   simp only [A0];rw [if_neg (by omega)]
  have e:(t.take (CE (A0 x) k)).ticks=min 4097 (t.ticks+k.len):=by
   simp only [Frame.take,Frame.out,Fk,Ny,hk,h0]
   rw [if_neg (by simp only [A0];have:=ho.1;omega)];omega
  rw [CE,DR r _ ho.2.2.2.2 (by rw [e];omega),e];simp only [Fo.len];omega
 | .rep x k r,t,ho,ht=>by
  have hk:=DR k (A0 x) ho.2.2.2.1 (by
   have:=ho.2.1
   simp only [A0];rw [if_neg (by omega)];omega)
  have hl:=(Fo.len_pos r ho.2.2.2.2).1
  have hlk:=(Fo.len_pos k ho.2.2.2.1).2 (by have:=ho.2.2.1;omega)
  have h1:=De (x:=x) (by rw [ho.2.1];omega)
  have h0:(A0 x).ticks=0:=by
   have:=ho.2.1
   simp only [A0];rw [if_neg (by omega)]
  have hx:1*1≤x.n*k.len:=Int.mul_le_mul h1 hlk (by omega) (by omega)
  have e:(t.take (CE (A0 x) k)).ticks=min 4097 (t.ticks+x.n*k.len):=by
   simp only [Frame.take,Frame.out,Fk,Ny,hk,h0,Ix]
   rw [if_pos (by simp only [A0];exact ho.1),Int.zero_add,show (A0 x).node.n=x.n from rfl,MX h1 hlk];omega
  rw [CE,DR r _ ho.2.2.2.2 (by rw [e];omega),e];simp only [Fo.len];omega
theorem C5 {f:Fo} (ho:f.ok) (hc:f.count=1):(CM f.flat).depth=f.depth∧(CM f.flat).ticks=min 4097 f.len:=by
 have h:=ED f [] ⟨⟨0,0,0⟩,1,0,0⟩ [] ho (by simp [hc]) (by omega)
 rw [List.append_nil,En,NJ] at h
 have e:CM f.flat=CE ⟨⟨0,0,0⟩,1,0,0⟩ f:=by simp [CM,h,nth]
 rw [e,DQ f _ ho (by simp),DR f _ ho (by simp)]
 simp
end Go.Ab.T
namespace Go.Ab.T
open Go Go.Ab
set_option maxHeartbeats 1000000
@[go_sem] def E1 (x:Int):List V:=[.i .i64 x]
def Ce:Nat→Fo→List Int
 | _,.nil=>[]
 | b,.leaf x r=>(b:Int)::Ce (b+1) r
 | b,.seq x k r=>(b:Int)::Ce (b+1+k.flat.length) r
 | b,.rep x k r=>(b:Int)::Ce (b+1+k.flat.length) r
theorem Ed:∀ (f:Fo) (b:Nat),(Ce b f).length=f.count
 | .nil,b=>rfl
 | .leaf x r,b=>by simp [Ce,Fo.count,Ed r]
 | .seq x k r,b=>by simp [Ce,Fo.count,Ed r]
 | .rep x k r,b=>by simp [Ce,Fo.count,Ed r]
theorem Fo.count_le:∀ (f:Fo),f.count≤f.flat.length
 | .nil=>by simp [Fo.count]
 | .leaf x r=>by have:=Fo.count_le r;simp [Fo.count,Fo.flat];omega
 | .seq x k r=>by have:=Fo.count_le r;simp [Fo.count,Fo.flat];omega
 | .rep x k r=>by have:=Fo.count_le r;simp [Fo.count,Fo.flat];omega
theorem AQ {α:Type} {L:List α} {b:Nat} {x:α} {r:List α} (h:L.drop b=x::r):b<L.length∧L.drop (b+1)=r:=by
 constructor
 ·have:=congrArg List.length h
  simp only [List.length_drop,List.length_cons] at this;omega
 ·rw [← List.drop_drop,h];rfl
theorem Dw {α:Type} {L:List α} {b:Nat} {p r:List α} (h:L.drop b=p++r):L.drop (b+p.length)=r:=by
 rw [← List.drop_drop,h,List.drop_left]
theorem CJ {α:Type} [Inhabited α] {L:List α} {b:Nat} {x:α} {r:List α} (h:L.drop b=x::r):nth L b=x:=by
 have h1:=AQ h
 rw [Ax h1.1] at h
 exact (List.cons.inj h).1
theorem QQ {g:Fo} (hg:0<g.count) (ho:g.ok):∃ (f r:Fo),f.ok∧f.count=1∧r.ok∧g.flat=f.flat++r.flat∧r.count+1=g.count∧∀ b,Ce b g=(b:Int)::Ce (b+f.flat.length) r:=by
 cases g with
 | nil=>simp [Fo.count] at hg
 | leaf x r=>exact ⟨.leaf x .nil,r,⟨ho.1,trivial⟩,rfl,ho.2,by simp [Fo.flat],rfl,fun b=>by simp [Ce,Fo.flat]⟩
 | seq x k r=>exact ⟨.seq x k .nil,r,⟨ho.1,ho.2.1,ho.2.2.1,ho.2.2.2.1,trivial⟩,rfl,ho.2.2.2.2,by simp [Fo.flat],rfl,fun b=>by simp [Ce,Fo.flat];congr 1;omega⟩
 | rep x k r=>exact ⟨.rep x k .nil,r,⟨ho.1,ho.2.1,ho.2.2.1,ho.2.2.2.1,trivial⟩,rfl,ho.2.2.2.2,by simp [Fo.flat],rfl,fun b=>by simp [Ce,Fo.flat];congr 1;omega⟩
theorem Hk {L : List Node} {a : Nat} {x : Node} {k : Fo} {R : List Node} (hd : L.drop a = x :: (k.flat ++ R)) (ho : k.ok) (hs : size L a = 1 + k.flat.length) :
    Pf tp Yy [.fl 3 (L.map Node.enc),.i .i64 a] (.fl 1 ((Ce (a+1) k).map E1)):=by
 have hal:=(AQ hd).1
 have hll:=congrArg List.length hd
 simp only [List.length_drop,List.length_cons,List.length_append] at hll
 refine AD aGC (by simp [PF]) fun rp=>?_;unfold PF;simp (disch:=omega)only[go_sem, *]
 have hL:=rp.head.len
 refine Pf.go (Hl) (by simp only [go_sem]) fun _=>?_;simp (disch:=omega)only[go_sem, *]
 refine Ae (fun n e h=>∃ (b:Nat) (g:Fo) (out:V) (D:List Int),n=g.count∧h.lim=0∧e 0=.fl 3 (L.map Node.enc)∧e 1=.i .i64 a∧e 5=.i .i64 (1+k.flat.length)∧e 6=out∧e 7=.i .i64 b∧Sl 0 h 1 out (D.map E1)∧g.ok∧L.drop b=g.flat++R∧b+g.flat.length=a+1+k.flat.length∧D++Ce b g=Ce (a+1) k) ?_ _ _ _ ⟨a+1,k,.ns,[],rfl, ?_⟩
 ·rintro n e h ⟨b,g,out,D,rfl,hl,e0,e1,e5,e6,e7,so,go,gd,gl,gz⟩ ih
  rw [Ai qS.eq_1]
  simp (disch:=omega)only[go_sem, *]
  have gpl:=Ed g b
  have kpl:=Ed k (a+1)
  have kcl:=Fo.count_le k
  have hzl:=congrArg List.length gz
  simp only [List.length_append] at hzl
  refine Aa (fun hc=>?_) (fun hc=>?_)
  ·have hgc:0<g.count:=by
    by_cases h0:g.count=0
    ·rw [Fo.nil_of h0] at gl;simp [Fo.flat] at gl;omega
    ·omega
   obtain ⟨f,r,fo,fc,ro,gf,gc,gp⟩:=QQ hgc go
   rw [gf,List.append_assoc] at gd
   have hsz:=Fc gd fo fc
   have gfl:=congrArg List.length gf
   simp only [List.length_append] at gfl
   simp (disch:=omega)only[go_sem, *]
   refine Ao (R:=D.map E1) (so.alloc _) (by simp only [go_sem, *]) (Nat.zero_le _) (by simp;omega) ?_
   intro w h4 s4 g4
   have hl4:=g4.lim
   simp (disch:=omega)only[go_sem, *]
   refine Pf.go (Hl) (by simp only [go_sem]) fun _=>?_;simp (disch:=omega)only[go_sem, *]
   have hfl:=Fo.count_le f
   refine ih _ _ _ ?_ ⟨b+f.flat.length,r,w,D++[(b:Int)],rfl, ?_⟩
   ·omega
   ·simp (disch:=omega)only[go_sem, *]
    ((repeat' refine And.intro ?_ ?_)<;>first | omega | assumption | (simpa [E1] using s4) | (exact Dw gd) | ((rw [← gz,gp b];simp)))
  ·have h0:g.flat.length=0:=by omega
   have h1:=Fo.count_le g
   have h2:=Fo.nil_of (f:=g) (by omega)
   subst h2
   simp (disch:=omega)only[go_sem, *]
   rw [← gz,Ce,List.append_nil]
   rw [Ce,List.append_nil] at gz
   exact so.froze (fun _=>rfl) trivial (by rw [gz];omega)
 ·simp (disch:=omega)only[go_sem, *]
  exact ⟨Sl.nil _ _ _,(AQ hd).2⟩
end Go.Ab.T
namespace Go.Ab.T
open Go Go.Ab
set_option maxHeartbeats 1000000
def Em:Fo→List Int
 | .nil=>[]
 | .leaf x r=>1::Em r
 | .seq x k r=>((k.depth:Int)+1)::Em r
 | .rep x k r=>((k.depth:Int)+1)::Em r
theorem Gh:∀ (f:Fo),(Em f).length=f.count
 | .nil=>rfl
 | .leaf x r=>by simp [Em,Fo.count,Gh r]
 | .seq x k r=>by simp [Em,Fo.count,Gh r]
 | .rep x k r=>by simp [Em,Fo.count,Gh r]
theorem Fm:∀ (f:Fo) (m:Int),0≤m→(Em f).foldl max m=max m f.depth
 | .nil,m,hm=>by simp [Em,Fo.depth];omega
 | .leaf x r,m,hm=>by simp only [Em,List.foldl_cons,Fo.depth];rw [Fm r _ (by omega)];omega
 | .seq x k r,m,hm=>by simp only [Em,List.foldl_cons,Fo.depth];rw [Fm r _ (by omega)];omega
 | .rep x k r,m,hm=>by simp only [Em,List.foldl_cons,Fo.depth];rw [Fm r _ (by omega)];omega
theorem Fo.depth_le:∀ (f:Fo),f.depth≤f.flat.length
 | .nil=>by simp [Fo.depth]
 | .leaf x r=>by have:=Fo.depth_le r;simp [Fo.depth,Fo.flat];omega
 | .seq x k r=>by have:=Fo.depth_le r;have:=Fo.depth_le k;simp [Fo.depth,Fo.flat];omega
 | .rep x k r=>by have:=Fo.depth_le r;have:=Fo.depth_le k;simp [Fo.depth,Fo.flat];omega
theorem HH:∀ (f:Fo) (i:Nat),i<f.count→0≤nth (Em f) i∧nth (Em f) i≤f.flat.length
 | .nil,i,h=>by simp [Fo.count] at h
 | .leaf x r,0,h=>by simp [Em,nth,Fo.flat];omega
 | .seq x k r,0,h=>by have:=Fo.depth_le k;simp [Em,nth,Fo.flat];omega
 | .rep x k r,0,h=>by have:=Fo.depth_le k;simp [Em,nth,Fo.flat];omega
 | .leaf x r,i+1,h=>by have:=HH r i (by simpa [Fo.count] using h);simp [Em,nth,Fo.flat] at this ⊢;omega
 | .seq x k r,i+1,h=>by have:=HH r i (by simpa [Fo.count] using h);simp [Em,nth,Fo.flat] at this ⊢;omega
 | .rep x k r,i+1,h=>by have:=HH r i (by simpa [Fo.count] using h);simp [Em,nth,Fo.flat] at this ⊢;omega
def UW (L:List Node) (b:Nat) (f:Fo):Prop:=∀ i,i<f.count→Pf tp Nl [.fl 3 (L.map Node.enc),.i .i64 (nth (Ce b f) i)] (.i .i64 (nth (Em f) i))
theorem G9 {L : List Node} {a : Nat} {x : Node} {k : Fo} {R : List Node} (hd : L.drop a = x :: (k.flat ++ R)) (ho : k.ok) (hs : size L a = 1 + k.flat.length) (ha : UW L (a + 1) k) :
    Pf tp Nl [.fl 3 (L.map Node.enc),.i .i64 a] (.i .i64 ((k.depth:Int)+1)):=by
 have hll:=congrArg List.length hd
 simp only [List.length_drop,List.length_cons,List.length_append] at hll
 refine AD aGA (by simp [PD]) fun rp=>?_;unfold PD;simp (disch:=omega)only[go_sem, *]
 have hL:=rp.head.len
 refine Pf.go (Hk hd ho hs) (by simp only [go_sem]) fun _=>?_;simp (disch:=omega)only[go_sem, *]
 have hpl:=Ed k (a+1)
 have hdl:=Gh k
 have hcl:=Fo.count_le k
 have hdk:=Fo.depth_le k
 refine Ae (fun n e h=>∃ (i:Nat) (m:Int),n=(Ce (a+1) k).length - i∧h.lim=0∧e 10=.fl 1 ((Ce (a+1) k).map E1)∧e 11=.i .i64 (Ce (a+1) k).length∧e 12=.i .i64 i∧e 0=.fl 3 (L.map Node.enc)∧e 1=.i .i64 a∧e 5=.i .i64 m∧i≤(Ce (a+1) k).length∧0≤m∧m≤4000000000∧((Em k).drop i).foldl max m=k.depth) ?_ _ _ _ ⟨0,0,rfl, ?_⟩
 ·rintro n e h ⟨i,m,rfl,hl,e10,e11,e12,e0,e1,e5,hi,hm0,hm,hz⟩ ih
  rw [Ai qQ.eq_1]
  simp (disch:=omega)only[go_sem, *]
  refine Aa (fun hc=>?_) (fun hc=>?_)
  ·rw [Ax (by omega),List.foldl_cons] at hz
   have hb:=HH k i (by omega)
   simp (disch:=omega)only[go_sem, *]
   refine Pf.go (ha i (by omega)) (by simp only [go_sem]) fun _=>?_;simp (disch:=omega)only[go_sem, *]
   refine ih _ _ _ ?_ ⟨i+1,max m (nth (Em k) i),rfl, ?_⟩
   ·omega
   ·simp (disch:=omega)only[go_sem, *]
    ((repeat' refine And.intro ?_ ?_)<;>first | omega | assumption | (skip))
  ·rw [List.drop_eq_nil_of_le (by omega),List.foldl_nil] at hz
   simp (disch:=omega)only[go_sem, *]
 ·simp (disch:=omega)only[go_sem, *]
  have:=Fm k 0 (by omega)
  ((repeat' refine And.intro ?_ ?_)<;>first | omega | assumption | ((rw [this];omega)))
theorem Gy {L:List Node}:∀ (f:Fo) (b:Nat) (R:List Node),f.ok→L.drop b=f.flat++R→UW L b f
 | .nil,b,R,ho,hd=>fun i hi=>by simp [Fo.count] at hi
 | .leaf x r,b,R,ho,hd=>fun i hi=>by
  have hd':L.drop b=x::(r.flat++R):=hd
  match i,hi with
  | 0,_=>exact G9 (k:=.nil) (R:=r.flat++R) hd' trivial (Fc (f:=.leaf x .nil) hd' ⟨ho.1,trivial⟩ rfl) (fun i hi=>by simp [Fo.count] at hi)
  | i+1,hi=>exact Gy r (b+1) R ho.2 (AQ hd').2 i (by simp only [Fo.count] at hi;omega)
 | .seq x k r,b,R,ho,hd=>fun i hi=>by
  have hd':L.drop b=x::(k.flat++(r.flat++R)):=by rw [hd];simp [Fo.flat]
  match i,hi with
  | 0,_=>
   have hs:=Fc (f:=.seq x k .nil) (R:=r.flat++R) (by rw [hd'];simp [Fo.flat]) ⟨ho.1,ho.2.1,ho.2.2.1,ho.2.2.2.1,trivial⟩ rfl
   exact G9 (k:=k) hd' ho.2.2.2.1 (by rw [hs];simp [Fo.flat];omega) (Gy k (b+1) _ ho.2.2.2.1 (AQ hd').2)
  | i+1,hi=>exact Gy r (b+1+k.flat.length) R ho.2.2.2.2 (Dw (AQ hd').2) i (by simp only [Fo.count] at hi;omega)
 | .rep x k r,b,R,ho,hd=>fun i hi=>by
  have hd':L.drop b=x::(k.flat++(r.flat++R)):=by rw [hd];simp [Fo.flat]
  match i,hi with
  | 0,_=>
   have hs:=Fc (f:=.rep x k .nil) (R:=r.flat++R) (by rw [hd'];simp [Fo.flat]) ⟨ho.1,ho.2.1,ho.2.2.1,ho.2.2.2.1,trivial⟩ rfl
   exact G9 (k:=k) hd' ho.2.2.2.1 (by rw [hs];simp [Fo.flat];omega) (Gy k (b+1) _ ho.2.2.2.1 (AQ hd').2)
  | i+1,hi=>exact Gy r (b+1+k.flat.length) R ho.2.2.2.2 (Dw (AQ hd').2) i (by simp only [Fo.count] at hi;omega)
end Go.Ab.T
namespace Go.Ab.T
open Go Go.Ab
set_option maxHeartbeats 1000000
def Ec:Fo→List Int
 | .nil=>[]
 | .leaf x r=>min x.n 4097::Ec r
 | .seq x k r=>min k.len 4097::Ec r
 | .rep x k r=>min (x.n*k.len) 4097::Ec r
theorem Gj:∀ (f:Fo),(Ec f).length=f.count
 | .nil=>rfl
 | .leaf x r=>by simp [Ec,Fo.count,Gj r]
 | .seq x k r=>by simp [Ec,Fo.count,Gj r]
 | .rep x k r=>by simp [Ec,Fo.count,Gj r]
theorem NT {x:Node} {k r:Fo} (ho:(Fo.rep x k r).ok):1≤x.n∧1≤k.len∧1≤x.n*k.len:=by
 have h1:=De (x:=x) (by rw [ho.2.1];omega)
 have h2:=(Fo.len_pos k ho.2.2.2.1).2 (by have:=ho.2.2.1;omega)
 have h3:1*1≤x.n*k.len:=Int.mul_le_mul h1 h2 (by omega) (by omega)
 omega
theorem Fu:∀ (f:Fo) (s:Int),f.ok→0≤s∧s≤4097→(Ec f).foldl (fun s l=>min (s+l) 4097) s=min (s+f.len) 4097
 | .nil,s,ho,hs=>by simp [Ec,Fo.len];omega
 | .leaf x r,s,ho,hs=>by
  have h1:=De (x:=x) (by rw [ho.1];omega)
  have h2:=(Fo.len_pos r ho.2).1
  simp only [Ec,List.foldl_cons,Fo.len];rw [Fu r _ ho.2 (by omega)];omega
 | .seq x k r,s,ho,hs=>by
  have h1:=(Fo.len_pos k ho.2.2.2.1).1
  have h2:=(Fo.len_pos r ho.2.2.2.2).1
  simp only [Ec,List.foldl_cons,Fo.len];rw [Fu r _ ho.2.2.2.2 (by omega)];omega
 | .rep x k r,s,ho,hs=>by
  have h1:=NT ho
  have h2:=(Fo.len_pos r ho.2.2.2.2).1
  simp only [Ec,List.foldl_cons,Fo.len];rw [Fu r _ ho.2.2.2.2 (by omega)];omega
theorem HN:∀ (f:Fo) (i:Nat),f.ok→i<f.count→0≤nth (Ec f) i∧nth (Ec f) i≤4097
 | .nil,i,ho,h=>by simp [Fo.count] at h
 | .leaf x r,0,ho,h=>by have:=De (x:=x) (by rw [ho.1];omega);simp only [Ec,Cm];omega
 | .seq x k r,0,ho,h=>by have:=(Fo.len_pos k ho.2.2.2.1).1;simp only [Ec,Cm];omega
 | .rep x k r,0,ho,h=>by have:=NT ho;simp only [Ec,Cm];omega
 | .leaf x r,i+1,ho,h=>HN r i ho.2 (by simpa [Fo.count] using h)
 | .seq x k r,i+1,ho,h=>HN r i ho.2.2.2.2 (by simpa [Fo.count] using h)
 | .rep x k r,i+1,ho,h=>HN r i ho.2.2.2.2 (by simpa [Fo.count] using h)
def U0 (L:List Node) (b:Nat) (f:Fo):Prop:=∀ i,i<f.count→Pf tp Nm [.fl 3 (L.map Node.enc),.i .i64 (nth (Ce b f) i)] (.i .i64 (nth (Ec f) i))
def aD9 (x:Node) (k t:Fo):Prop:=(kids x=0∧k=.nil∧t=.leaf x .nil)∨(x.kind=3∧t=.seq x k .nil)∨(x.kind=4∧t=.rep x k .nil∧1≤x.n∧1≤k.len∧1≤x.n*k.len)
theorem Gk {L : List Node} {a : Nat} {x : Node} {k t : Fo} {R : List Node} (hd : L.drop a = x :: (k.flat ++ R)) (ho : k.ok) (ht : aD9 x k t) (hs : size L a = 1 + k.flat.length) (ha : U0 L (a + 1) k) :
    Pf tp Nm [.fl 3 (L.map Node.enc),.i .i64 a] (.i .i64 (nth (Ec t) 0)):=by
 have hll:=congrArg List.length hd
 simp only [List.length_drop,List.length_cons,List.length_append] at hll
 have hnx:=CJ hd
 have hal:=(AQ hd).1
 refine AD aGB (by simp [PE]) fun rp=>?_;unfold PE;simp (disch:=omega)only[go_sem, *]
 have hL:=rp.head.len
 refine Pf.go (Hk hd ho hs) (by simp only [go_sem]) fun _=>?_;simp (disch:=omega)only[go_sem, *]
 have hpl:=Ed k (a+1)
 have hdl:=Gj k
 have hcl:=Fo.count_le k
 refine Ae (fun n e h=>∃ (i:Nat) (m:Int),n=(Ce (a+1) k).length - i∧h.lim=0∧e 10=.fl 1 ((Ce (a+1) k).map E1)∧e 11=.i .i64 (Ce (a+1) k).length∧e 12=.i .i64 i∧e 0=.fl 3 (L.map Node.enc)∧e 1=.i .i64 a∧e 5=.i .i64 m∧i≤(Ce (a+1) k).length∧0≤m∧m≤4097∧((Ec k).drop i).foldl (fun s l=>min (s+l) 4097) m=min k.len 4097) ?_ _ _ _ ⟨0,0,rfl, ?_⟩
 ·rintro n e h ⟨i,m,rfl,hl,e10,e11,e12,e0,e1,e5,hi,hm0,hm,hz⟩ ih
  rw [Ai qR.eq_1]
  simp (disch:=omega)only[go_sem, *]
  refine Aa (fun hc=>?_) (fun hc=>?_)
  ·rw [Ax (by omega),List.foldl_cons] at hz
   have hb:=HN k i ho (by omega)
   simp (disch:=omega)only[go_sem, *]
   refine Pf.go (ha i (by omega)) (by simp only [go_sem]) fun _=>?_;simp (disch:=omega)only[go_sem, *]
   refine ih _ _ _ ?_ ⟨i+1,min (m+nth (Ec k) i) 4097,rfl, ?_⟩
   ·omega
   ·simp (disch:=omega)only[go_sem, *]
    ((repeat' refine And.intro ?_ ?_)<;>first | omega | assumption | (skip))
  ·rw [List.drop_eq_nil_of_le (by omega),List.foldl_nil] at hz
   subst hz
   simp (disch:=omega)only[go_sem, *]
   rcases ht with ⟨c1,rfl,rfl⟩ | ⟨c1,rfl⟩ | ⟨c1,rfl,c2,c3,c4⟩
   ·have h34:=FW x (by rw [c1];omega)
    rw [c1] at h34
    refine Aa (fun hc2=>by omega) (fun hc2=>?_)
    simp (disch:=omega)only[go_sem, *]
    refine Aa (fun hc2=>by omega) (fun hc2=>?_)
    simp (disch:=omega)only[go_sem, *]
    simp only [Ec,Cm]
   ·refine Aa (fun hc2=>?_) (fun hc2=>by omega)
    simp (disch:=omega)only[go_sem, *]
    simp only [Ec,Cm]
   ·refine Aa (fun hc2=>by omega) (fun hc2=>?_)
    have b1:1≤min x.n 4097∧min x.n 4097≤4097:=by omega
    have b2:1≤min k.len 4097∧min k.len 4097≤4097:=by omega
    have b3:0≤min k.len 4097*min x.n 4097:=Int.mul_nonneg (by omega) (by omega)
    have b4:min k.len 4097*min x.n 4097≤4097*4097:=Int.mul_le_mul b2.2 b1.2 (by omega) (by omega)
    simp (disch:=omega)only[go_sem, *]
    have b5:=MX c2 c3
    simp only [Ec,Cm]
    rw [Int.min_comm x.n 4097,Int.min_comm k.len 4097,Int.mul_comm (min 4097 k.len),Int.min_comm _ 4097,b5,Int.min_comm]
 ·simp (disch:=omega)only[go_sem, *]
  have:=Fu k 0 ho (by omega)
  ((repeat' refine And.intro ?_ ?_)<;>first | omega | assumption | ((rw [this];omega)))
theorem GG {L:List Node}:∀ (f:Fo) (b:Nat) (R:List Node),f.ok→L.drop b=f.flat++R→U0 L b f
 | .nil,b,R,ho,hd=>fun i hi=>by simp [Fo.count] at hi
 | .leaf x r,b,R,ho,hd=>fun i hi=>by
  have hd':L.drop b=x::(r.flat++R):=hd
  match i,hi with
  | 0,_=>exact Gk (k:=.nil) (R:=r.flat++R) (t:=.leaf x .nil) hd' trivial (.inl ⟨ho.1,rfl,rfl⟩) (Fc (f:=.leaf x .nil) hd' ⟨ho.1,trivial⟩ rfl) (fun i hi=>by simp [Fo.count] at hi)
  | i+1,hi=>exact GG r (b+1) R ho.2 (AQ hd').2 i (by simp only [Fo.count] at hi;omega)
 | .seq x k r,b,R,ho,hd=>fun i hi=>by
  have hd':L.drop b=x::(k.flat++(r.flat++R)):=by rw [hd];simp [Fo.flat]
  match i,hi with
  | 0,_=>
   have hs:=Fc (f:=.seq x k .nil) (R:=r.flat++R) (by rw [hd'];simp [Fo.flat]) ⟨ho.1,ho.2.1,ho.2.2.1,ho.2.2.2.1,trivial⟩ rfl
   exact Gk (k:=k) (t:=.seq x k .nil) hd' ho.2.2.2.1 (.inr (.inl ⟨ho.1,rfl⟩)) (by rw [hs];simp [Fo.flat];omega) (GG k (b+1) _ ho.2.2.2.1 (AQ hd').2)
  | i+1,hi=>exact GG r (b+1+k.flat.length) R ho.2.2.2.2 (Dw (AQ hd').2) i (by simp only [Fo.count] at hi;omega)
 | .rep x k r,b,R,ho,hd=>fun i hi=>by
  have hd':L.drop b=x::(k.flat++(r.flat++R)):=by rw [hd];simp [Fo.flat]
  match i,hi with
  | 0,_=>
   have hs:=Fc (f:=.rep x k .nil) (R:=r.flat++R) (by rw [hd'];simp [Fo.flat]) ⟨ho.1,ho.2.1,ho.2.2.1,ho.2.2.2.1,trivial⟩ rfl
   exact Gk (k:=k) (t:=.rep x k .nil) hd' ho.2.2.2.1 (.inr (.inr ⟨ho.1,rfl,NT ho⟩)) (by rw [hs];simp [Fo.flat];omega) (GG k (b+1) _ ho.2.2.2.1 (AQ hd').2)
  | i+1,hi=>exact GG r (b+1+k.flat.length) R ho.2.2.2.2 (Dw (AQ hd').2) i (by simp only [Fo.count] at hi;omega)
end Go.Ab.T
namespace Go.Ab.T
open Go Go.Ab
set_option maxHeartbeats 1000000
def Fo.runs:Fo→List AI
 | .nil=>[]
 | .leaf x r=>⟨DN x,x.n⟩::runs r
 | .seq x k r=>runs k++runs r
 | .rep x k r=>(List.replicate x.n.toNat (runs k)).flatten++runs r
theorem Fo.runs_pos:∀ (f:Fo),f.ok→0<f.count→1≤f.runs.length
 | .nil,ho,hc=>by simp [Fo.count] at hc
 | .leaf x r,ho,hc=>by simp [Fo.runs]
 | .seq x k r,ho,hc=>by
  have:=Fo.runs_pos k ho.2.2.2.1 ho.2.2.1
  simp [Fo.runs];omega
 | .rep x k r,ho,hc=>by
  have:=Fo.runs_pos k ho.2.2.2.1 (by have:=ho.2.2.1;omega)
  have hn:=De (x:=x) (by rw [ho.2.1];omega)
  have:1*1≤x.n.toNat*k.runs.length:=Nat.mul_le_mul (by omega) this
  simp [Fo.runs];omega
theorem Fo.runs_len:∀ (f:Fo),f.ok→(f.runs.length:Int)≤f.len
 | .nil,ho=>by simp [Fo.runs,Fo.len]
 | .leaf x r,ho=>by
  have h1:=De (x:=x) (by rw [ho.1];omega)
  have:=Fo.runs_len r ho.2
  simp [Fo.runs,Fo.len];omega
 | .seq x k r,ho=>by
  have:=Fo.runs_len k ho.2.2.2.1;have:=Fo.runs_len r ho.2.2.2.2
  simp [Fo.runs,Fo.len];omega
 | .rep x k r,ho=>by
  have h1:=Fo.runs_len k ho.2.2.2.1;have:=Fo.runs_len r ho.2.2.2.2
  have hn:=De (x:=x) (by rw [ho.2.1];omega)
  have h3:x.n*k.runs.length≤x.n*k.len:=Int.mul_le_mul_of_nonneg_left h1 (by omega)
  have h4:((x.n.toNat*k.runs.length:Nat):Int)=x.n*k.runs.length:=by rw [Int.natCast_mul,Int.toNat_of_nonneg (by omega)]
  simp only [Fo.runs,Fo.len,List.length_append,List.length_flatten,List.map_replicate,List.sum_replicate_nat,Int.natCast_add]
  omega
def DE:Fo→List (List AI)
 | .nil=>[]
 | .leaf x r=>[⟨DN x,x.n⟩]::DE r
 | .seq x k r=>k.runs::DE r
 | .rep x k r=>(List.replicate x.n.toNat k.runs).flatten::DE r
theorem Df:∀ (f:Fo),(DE f).flatten=f.runs
 | .nil=>rfl
 | .leaf x r=>by simp [DE,Fo.runs,Df r]
 | .seq x k r=>by simp [DE,Fo.runs,Df r]
 | .rep x k r=>by simp [DE,Fo.runs,Df r]
theorem EG:∀ (f:Fo),(DE f).length=f.count
 | .nil=>rfl
 | .leaf x r=>by simp [DE,Fo.count,EG r]
 | .seq x k r=>by simp [DE,Fo.count,EG r]
 | .rep x k r=>by simp [DE,Fo.count,EG r]
def PY (L:List Node) (b:Nat) (f:Fo):Prop:=∀ i,i<f.count→∀ (h:AH) (w:V) (A:List AI) (K:V→AH→Prop),h.lim=0→Sl 0 h 2 w (A.map AI.enc)→A.length+(nth (DE f) i).length≤4000000000 →
 (∀ r h',Sl 0 h' 2 r ((A++nth (DE f) i).map AI.enc)→h'.lim=0→K r h')→Cq tp J1 [.fl 3 (L.map Node.enc),.i .i64 (nth (Ce b f) i),w] h K
section
variable {L:List Node} {a:Nat} {x:Node} {k:Fo} {R:List Node} {h:AH} {w:V} {A:List AI} {K:V→AH→Prop}
theorem Ua (hd:L.drop a=x::R) (hk:kids x=0) (h0:h.lim=0) (hA:Sl 0 h 2 w (A.map AI.enc)) (hl:A.length+[(⟨DN x,x.n⟩:AI)].length≤4000000000)
    (k:∀ r h',Sl 0 h' 2 r ((A++[(⟨DN x,x.n⟩:AI)]).map AI.enc)→h'.lim=0→K r h'):Cq tp J1 [.fl 3 (L.map Node.enc),.i .i64 a,w] h K:=by
 have hnx:=CJ hd
 have hal:=(AQ hd).1
 have hc1:x.kind=1∨x.kind=2:=by
  unfold kids at hk;(repeat' split at hk)<;>omega
 simp only [List.length_cons,List.length_nil] at hl
 refine A8 QR (by simp [H5]) fun wf rp=>?_;unfold H5;simp (disch:=omega)only[go_sem, *]
 have hL:=rp.head.len
 refine Aa (fun hc=>?_) (fun hc=>?_)
 ·simp (disch:=omega)only[go_sem, *]
  refine Ao (R:=A.map AI.enc) (hA.alloc _) (by simp only [go_sem, *]) (Nat.zero_le _) (by simp;omega) ?_
  intro r h4 s4 g4
  have hl4:=g4.lim
  simp (disch:=omega)only[go_sem, *]
  have hp:DN x=x.part:=by unfold DN;rw [if_neg (by omega)]
  exact k _ _ (by simpa [AI.enc,hp] using s4) (by simpa [AH.alloc, *] using hl4)
 ·have h2:x.kind=2:=by omega
  simp (disch:=omega)only[go_sem, *]
  refine Ao (R:=A.map AI.enc) (hA.alloc _) (by simp only [go_sem, *]) (Nat.zero_le _) (by simp;omega) ?_
  intro r h4 s4 g4
  have hl4:=g4.lim
  simp (disch:=omega)only[go_sem, *]
  have hp:DN x = -1:=by unfold DN;rw [if_pos h2]
  exact k _ _ (by simpa [AI.enc,hp] using s4) (by simpa [AH.alloc, *] using hl4)
theorem TU {α:Type} [Inhabited α] {l:List (List α)} {i:Nat} (h:i<l.length):(l.drop i).flatten=nth l i++(l.drop (i+1)).flatten:=by
 rw [Ax h,List.flatten_cons]
theorem ZW (hd:L.drop a=x::(k.flat++R)) (ho:k.ok) (hk3:x.kind=3) (hkc:0<k.count) (hs:size L a=1+k.flat.length) (ha:PY L (a+1) k) (hl:h.lim=0) (hA:Sl 0 h 2 w (A.map AI.enc)) (hlen:A.length+k.runs.length≤4000000000)
    (kk:∀ r h',Sl 0 h' 2 r ((A++k.runs).map AI.enc)→h'.lim=0→K r h'):Cq tp J1 [.fl 3 (L.map Node.enc),.i .i64 a,w] h K:=by
 have hnx:=CJ hd
 have hal:=(AQ hd).1
 have hll:=congrArg List.length hd
 simp only [List.length_drop,List.length_cons,List.length_append] at hll
 refine A8 QR (by simp [H5]) fun wf rp=>?_;unfold H5;simp (disch:=omega)only[go_sem, *]
 have hL:=rp.head.len
 refine Pf.go (Hk hd ho hs) (by simp only [go_sem]) fun _=>?_;simp (disch:=omega)only[go_sem, *]
 have hpl:=Ed k (a+1)
 have hrl:=EG k
 have hcl:=Fo.count_le k
 refine Ae (fun n e h=>∃ (i:Nat) (o:V) (B:List AI),n=(Ce (a+1) k).length - i∧h.lim=0∧e 61=.fl 1 ((Ce (a+1) k).map E1)∧e 62=.i .i64 (Ce (a+1) k).length∧e 63=.i .i64 i∧e 0=.fl 3 (L.map Node.enc)∧e 1=.i .i64 a∧e 2=o∧i≤(Ce (a+1) k).length∧Sl 0 h 2 o (B.map AI.enc)∧B++((DE k).drop i).flatten=A++k.runs) ?_ _ _ _ ⟨0,w,A,rfl, ?_⟩
 ·rintro n e h ⟨i,o,B,rfl,hl,e61,e62,e63,e0,e1,e2,hi,sB,hz⟩ ih
  rw [Ai Vv.eq_1]
  simp (disch:=omega)only[go_sem, *]
  refine Aa (fun hc=>?_) (fun hc=>?_)
  ·rw [TU (by omega)] at hz
   have hzl:=congrArg List.length hz
   simp only [List.length_append] at hzl
   simp (disch:=omega)only[go_sem, *]
   refine ha i (by omega) _ o B _ (by simp only [go_sem, *]) sB (by omega) ?_
   intro r h3 sr hl3
   simp (disch:=omega)only[go_sem, *]
   refine ih _ _ _ ?_ ⟨i+1,r,B++nth (DE k) i,rfl, ?_⟩
   ·omega
   ·simp (disch:=omega)only[go_sem, *]
    ((repeat' refine And.intro ?_ ?_)<;>first | omega | assumption | ((rw [← hz,List.append_assoc])))
  ·rw [List.drop_eq_nil_of_le (by omega)] at hz
   simp (disch:=omega)only[go_sem, *]
   exact kk _ _ (by rw [← hz];simpa using sB) hl
 ·simp (disch:=omega)only[go_sem, *]
  ((repeat' refine And.intro ?_ ?_)<;>first | omega | assumption | ((rw [List.drop_zero,Df])) | ((rw [Df])))
theorem Zu {r : Fo} (hd : L.drop a = x :: (k.flat ++ R)) (ho : (Fo.rep x k r).ok) (ha : PY L (a + 1) k) (hl : h.lim = 0) (hA : Sl 0 h 2 w (A.map AI.enc)) (hlen : A.length + ((List.replicate x.n.toNat k.runs).flatten).length ≤ 4000000000)
    (kk:∀ r h',Sl 0 h' 2 r ((A++(List.replicate x.n.toNat k.runs).flatten).map AI.enc)→h'.lim=0→K r h'):Cq tp J1 [.fl 3 (L.map Node.enc),.i .i64 a,w] h K:=by
 have hnx:=CJ hd
 have hal:=(AQ hd).1
 have h0:0<k.count:=by have:=ho.2.2.1;omega
 have hp0:nth (Ce (a+1) k) 0=((a:Int)+1):=by
  cases k with
  | nil=>simp [Fo.count] at h0
  | leaf _ _=>simp [Ce,nth]
  | seq _ _ _=>simp [Ce,nth]
  | rep _ _ _=>simp [Ce,nth]
 have hr0:nth (DE k) 0=k.runs:=by
  have h1:=Df k
  have h2:=EG k
  rw [ho.2.2.1] at h2
  match hk:DE k,h2 with
  | [t],_=>rw [hk] at h1;simpa [nth] using h1
 have ha0:=ha 0 h0
 rw [hp0,hr0] at ha0
 have hk4:=ho.1
 have hn1:=De (x:=x) (by rw [ho.2.1];omega)
 have hr1:=Fo.runs_pos k ho.2.2.2.1 h0
 have hln:(List.replicate x.n.toNat k.runs).flatten.length=x.n.toNat*k.runs.length:=by simp
 have hln1:x.n.toNat*1≤x.n.toNat*k.runs.length:=Nat.mul_le_mul_left _ hr1
 refine A8 QR (by simp [H5]) fun wf rp=>?_;unfold H5;simp (disch:=omega)only[go_sem, *]
 have hL:=rp.head.len
 refine Ae (fun n e h=>∃ (i:Nat) (o:V) (B:List AI),n=x.n.toNat - i∧h.lim=0∧e 0=.fl 3 (L.map Node.enc)∧e 1=.i .i64 a∧e 2=o∧e 7=.i .i64 i∧i≤x.n.toNat∧Sl 0 h 2 o (B.map AI.enc)∧B.length+(x.n.toNat - i)*k.runs.length≤4000000000∧B++(List.replicate (x.n.toNat - i) k.runs).flatten=A++(List.replicate x.n.toNat k.runs).flatten) ?_ _ _ _ ⟨0,w,A,rfl, ?_⟩
 ·rintro n e h ⟨i,o,B,rfl,hl,e0,e1,e2,e7,hi,sB,hb,hz⟩ ih
  rw [Ai Vu.eq_1]
  simp (disch:=omega)only[go_sem, *]
  refine Aa (fun hc=>?_) (fun hc=>?_)
  ·obtain ⟨m,hm⟩:∃ m,x.n.toNat - i=m+1:=⟨x.n.toNat - i - 1,by omega⟩
   rw [hm,List.replicate_succ,List.flatten_cons] at hz
   rw [hm,Nat.succ_mul] at hb
   simp (disch:=omega)only[go_sem, *]
   refine ha0 _ o B _ (by simp only [go_sem, *]) sB (by omega) ?_
   intro r h3 sr hl3
   have hm2:x.n.toNat - (i+1)=m:=by omega
   simp (disch:=omega)only[go_sem, *]
   refine ih _ _ _ ?_ ⟨i+1,r,B++k.runs,rfl, ?_⟩
   ·omega
   ·simp (disch:=omega)only[go_sem, *]
    ((repeat' refine And.intro ?_ ?_)<;>first | omega | assumption | ((simp;omega)) | ((rw [← hz,List.append_assoc])) | ((rw [hm2,←hz,List.append_assoc])) | ((rw [hm2];simp;omega)))
  ·have hm:x.n.toNat - i=0:=by omega
   rw [hm] at hz
   simp (disch:=omega)only[go_sem, *]
   exact kk _ _ (by rw [← hz];simpa using sB) hl
 ·simp (disch:=omega)only[go_sem, *]
  ((repeat' refine And.intro ?_ ?_)<;>first | omega | assumption | ((simp only [Nat.sub_zero];omega)) | ((simp only [Nat.sub_zero])))
end
theorem GE {L:List Node}:∀ (f:Fo) (b:Nat) (R:List Node),f.ok→L.drop b=f.flat++R→PY L b f
 | .nil,b,R,ho,hd=>fun i hi=>by simp [Fo.count] at hi
 | .leaf x r,b,R,ho,hd=>fun i hi h w A K hw hA hl kk=>by
  have hd':L.drop b=x::(r.flat++R):=hd
  match i,hi with
  | 0,_=>exact Ua hd' ho.1 hw hA hl kk
  | i+1,hi=>exact GE r (b+1) R ho.2 (AQ hd').2 i (by simp only [Fo.count] at hi;omega) h w A K hw hA hl kk
 | .seq x k r,b,R,ho,hd=>fun i hi h w A K hw hA hl kk=>by
  have hd':L.drop b=x::(k.flat++(r.flat++R)):=by rw [hd];simp [Fo.flat]
  match i,hi with
  | 0,_=>
   have hs:=Fc (f:=.seq x k .nil) (R:=r.flat++R) (by rw [hd'];simp [Fo.flat]) ⟨ho.1,ho.2.1,ho.2.2.1,ho.2.2.2.1,trivial⟩ rfl
   exact ZW (k:=k) hd' ho.2.2.2.1 ho.1 ho.2.2.1 (by rw [hs];simp [Fo.flat];omega) (GE k (b+1) _ ho.2.2.2.1 (AQ hd').2) hw hA hl kk
  | i+1,hi=>exact GE r (b+1+k.flat.length) R ho.2.2.2.2 (Dw (AQ hd').2) i (by simp only [Fo.count] at hi;omega) h w A K hw hA hl kk
 | .rep x k r,b,R,ho,hd=>fun i hi h w A K hw hA hl kk=>by
  have hd':L.drop b=x::(k.flat++(r.flat++R)):=by rw [hd];simp [Fo.flat]
  match i,hi with
  | 0,_=>
   exact Zu (k:=k) hd' ho (GE k (b+1) _ ho.2.2.2.1 (AQ hd').2) hw hA hl kk
  | i+1,hi=>exact GE r (b+1+k.flat.length) R ho.2.2.2.2 (Dw (AQ hd').2) i (by simp only [Fo.count] at hi;omega) h w A K hw hA hl kk
end Go.Ab.T
namespace Go.Ab.T
open Go Go.Ab
set_option maxHeartbeats 1000000
theorem Fo.flat_pos {f:Fo} (hc:f.count=1):0<f.flat.length:=by have:=Fo.count_le f;omega
theorem Fo.depth_pos {f:Fo} (hc:0<f.count):0<f.depth:=by cases f<;>simp [Fo.count,Fo.depth] at hc ⊢<;>omega
theorem Hv {f:Fo} (ho:f.ok) (hc:f.count=1):BI f.flat=true:=(EH _).2 ⟨f,ho,hc,rfl⟩
theorem Fp {f:Fo} (ho:f.ok) (hc:f.count=1):Jb f.flat=f.depth:=by
 unfold Jb;rw [if_pos (Hv ho hc),(C5 ho hc).1]
theorem GF {f:Fo} (ho:f.ok) (hc:f.count=1):J4 f.flat=decide (f.len≤4096):=by
 unfold J4;rw [(C5 ho hc).2,Hv ho hc];simp;omega
theorem Ub {f:Fo} (ho:f.ok) (hc:f.count=1):Mu f.flat=if f.len≤4096 then f.len else 0:=by
 unfold Mu;rw [GF ho hc,(C5 ho hc).2];simp only [decide_eq_true_eq];split<;>omega
theorem FB (L:List Node):Bj L=0↔L.length≤128∧∃ f:Fo,f.ok∧f.count=1∧L=f.flat∧f.depth≤16∧f.len≤4096:=by
 constructor
 ·intro h
  by_cases hw:BI L=true
  ·obtain ⟨f,ho,hc,rfl⟩:=(EH L).1 hw
   unfold Bj at h
   rw [hw,Fp ho hc,GF ho hc] at h
   (repeat' split at h)<;>simp at h
   rename_i h1 h2 h3 h4
   simp at h4
   exact ⟨by omega,f,ho,hc,rfl,by omega,h4⟩
  ·simp at hw
   unfold Bj at h
   rw [hw] at h
   (repeat' split at h)<;>simp at h
   all_goals simp_all
 ·rintro ⟨hl,f,ho,hc,rfl,hd,hn⟩
  unfold Bj
  rw [if_neg (by omega),if_neg (by rw [Hv ho hc];simp),if_neg (by rw [Fp ho hc];omega),if_neg (by rw [GF ho hc];simp;omega)]
theorem Gn {L:List Node}:Pf tp Ya [.fl 3 (L.map Node.enc)] (.i .i64 (Jb L)):=by
 refine AD aF1 (by simp [O2]) fun rp=>?_;unfold O2;simp (disch:=omega)only[go_sem, *]
 refine Aq (fun hc=>?_) (fun hc=>?_)
 ·simp (disch:=omega)only[go_sem, *]
  have hwf:BI L=false:=by simp [BI];omega
  unfold Jb;rw [hwf];simp
 ·simp (disch:=omega)only[go_sem, *]
  refine Pf.go (Hl) (by simp only [go_sem]) fun _=>?_;simp (disch:=omega)only[go_sem, *]
  refine Aa (fun hc2=>?_) (fun hc2=>?_)
  ·simp (disch:=omega)only[go_sem, *]
   have hwf:BI L=false:=by simp [BI];omega
   unfold Jb;rw [hwf];simp
  ·have hwt:BI L=true:=by simp [BI];omega
   obtain ⟨f,ho,hc1,rfl⟩:=(EH L).1 hwt
   have hf:=Gy (L:=f.flat) f 0 [] ho (by simp) 0 (by omega)
   have hp0:nth (Ce 0 f) 0=0:=by cases f<;>simp [Fo.count,Ce,nth] at hc1 ⊢
   have hd0:nth (Em f) 0=f.depth:=by
    have h1:=Fm f 0 (by omega)
    have h2:=Gh f
    rw [hc1] at h2
    have h3:=HH f 0 (by omega)
    match hk:Em f,h2 with
    | [t],_=>rw [hk] at h1 h3;simp [nth] at h1 h3 ⊢;omega
   rw [hp0,hd0] at hf
   simp (disch:=omega)only[go_sem, *]
   refine Pf.go (hf) (by simp only [go_sem]) fun _=>?_;simp (disch:=omega)only[go_sem, *]
   have e:=Fp ho hc1
   rw [e]
theorem MB {L:List Node}:Pf tp Yb [.fl 3 (L.map Node.enc)] (.tup [.i .i64 (Mu L),.b (J4 L)]):=by
 refine AD aF2 (by simp [O3]) fun rp=>?_;unfold O3;simp (disch:=omega)only[go_sem, *]
 refine Pf.go (Gn) (by simp only [go_sem]) fun _=>?_;simp (disch:=omega)only[go_sem, *]
 refine Aa (fun hc=>?_) (fun hc=>?_)
 ·simp (disch:=omega)only[go_sem, *]
  have hwf:BI L=false:=by
   by_cases hwt:BI L=true
   ·obtain ⟨f,ho,hc1,rfl⟩:=(EH L).1 hwt
    have:=Fo.depth_pos (f:=f) (by omega)
    rw [Fp ho hc1] at hc
    omega
   ·simpa using hwt
  have e1:J4 L=false:=by simp [J4,hwf]
  have e2:Mu L=0:=by simp [Mu,e1]
  rw [e1,e2];exact ⟨rfl,rfl⟩
 ·have hwt:BI L=true:=by
   by_cases hwt:BI L=true
   ·exact hwt
   ·exact absurd (by unfold Jb;rw [if_neg hwt]) hc
  obtain ⟨f,ho,hc1,rfl⟩:=(EH L).1 hwt
  have hf:=GG (L:=f.flat) f 0 [] ho (by simp) 0 (by omega)
  have hp0:nth (Ce 0 f) 0=0:=by cases f<;>simp [Fo.count,Ce,nth] at hc1 ⊢
  have hd0:nth (Ec f) 0=min f.len 4097:=by
   have h1:=Fu f 0 ho (by omega)
   have h2:=Gj f
   rw [hc1] at h2
   have h3:=HN f 0 ho (by omega)
   match hk:Ec f,h2 with
   | [t],_=>rw [hk] at h1 h3;simp [nth] at h1 h3 ⊢;omega
  rw [hp0,hd0] at hf
  have e1:=GF ho hc1
  have e2:=Ub ho hc1
  simp (disch:=omega)only[go_sem, *]
  refine Pf.go (hf) (by simp only [go_sem]) fun _=>?_;simp (disch:=omega)only[go_sem, *]
  refine Aa (fun hc2=>?_) (fun hc2=>?_)
  ·simp (disch:=omega)only[go_sem, *]
   rw [if_neg (by omega)]
   exact ⟨rfl,by simp;omega⟩
  ·simp (disch:=omega)only[go_sem, *]
   rw [if_pos (by omega),show min f.len 4097=f.len by omega]
   exact ⟨rfl,by simp;omega⟩
theorem NQ {L:List Node}:Pf tp XM [.fl 3 (L.map Node.enc)] (.i .i64 (Bj L)):=by
 have hdp:BI L=false↔Jb L=0:=by
  constructor
  ·intro h;unfold Jb;rw [h];simp
  ·intro h
   by_cases hwt:BI L=true
   ·obtain ⟨f,ho,hc1,rfl⟩:=(EH L).1 hwt
    have:=Fo.depth_pos (f:=f) (by omega)
    rw [Fp ho hc1] at h;omega
   ·simpa using hwt
 refine AD aFA (by simp [Oz]) fun rp=>?_;unfold Oz;simp (disch:=omega)only[go_sem, *]
 refine Aa (fun hc=>?_) (fun hc=>?_)
 ·simp (disch:=omega)only[go_sem, *]
  unfold Bj;rw [if_pos (by omega)]
 simp (disch:=omega)only[go_sem, *]
 refine Pf.go (Gn) (by simp only [go_sem]) fun _=>?_;simp (disch:=omega)only[go_sem, *]
 refine Aa (fun hc2=>?_) (fun hc2=>?_)
 ·have hw0:=hdp.2 hc2
  simp (disch:=omega)only[go_sem, *]
  unfold Bj;rw [if_neg (by omega),if_pos hw0]
 have hwt:¬ BI L=false:=fun h=>hc2 (hdp.1 h)
 simp (disch:=omega)only[go_sem, *]
 refine Pf.go (Gn) (by simp only [go_sem]) fun _=>?_;simp (disch:=omega)only[go_sem, *]
 refine Aa (fun hc3=>?_) (fun hc3=>?_)
 ·simp (disch:=omega)only[go_sem, *]
  unfold Bj;rw [if_neg (by omega),if_neg hwt,if_pos (by omega)]
 simp (disch:=omega)only[go_sem, *]
 refine Pf.go (MB) (by simp only [go_sem]) fun _=>?_;simp (disch:=omega)only[go_sem, *]
 refine AX (fun hc4=>?_) (fun hc4=>?_)
 ·simp (disch:=omega)only[go_sem, *]
  simp at hc4
  unfold Bj;rw [if_neg (by omega),if_neg hwt,if_neg (by omega),if_pos hc4]
 ·simp (disch:=omega)only[go_sem, *]
  simp at hc4
  unfold Bj;rw [if_neg (by omega),if_neg hwt,if_neg (by omega),if_neg (by simp [hc4])]
theorem MA {f:Fo} (ho:f.ok) (hc:f.count=1) (hl:f.len≤4096):Pf tp XO [.fl 3 (f.flat.map Node.enc)] (.fl 2 (f.runs.map AI.enc)):=by
 have hf:=GE (L:=f.flat) f 0 [] ho (by simp) 0 (by omega)
 have hp0:nth (Ce 0 f) 0=0:=by cases f<;>simp [Fo.count,Ce,nth] at hc ⊢
 have hd0:nth (DE f) 0=f.runs:=by
  have h1:=Df f
  have h2:=EG f
  rw [hc] at h2
  match hk:DE f,h2 with
  | [t],_=>rw [hk] at h1;simpa [nth] using h1
 rw [hp0,hd0] at hf
 have hrl:=Fo.runs_len f ho
 refine AD aFC (by simp [OB]) fun rp=>?_;unfold OB;simp (disch:=omega)only[go_sem, *]
 refine hf _ .ns [] _ rfl (Sl.nil _ _ _) (by simp;omega) ?_
 intro r h2 sr hl2
 simp (disch:=omega)only[go_sem, *]
 exact sr.froze (fun _=>rfl) trivial (by simp;omega)
end Go.Ab.T
namespace Go.Ab.T
open Go Go.Ab
set_option maxHeartbeats 1000000
structure AO where
 entry:Int
 prio:Int
 deriving Inhabited,DecidableEq
@[go_sem] def AO.enc (x:AO):List V:=[.i .i64 x.entry,.i .i64 x.prio]
structure Part where
 name:ByteArray
 budget:Int
 period:Int
 sched:Bool
 stop:Bool
 procs:List AO
 h0:Int
 h1:Int
 h2:Int
 h3:Int
 h4:Int
 deriving Inhabited,DecidableEq
@[go_sem] def Part.enc (x:Part):List V:=[.s x.name,.i .i64 x.budget,.i .i64 x.period,.b x.sched,.b x.stop,.fl 2 (x.procs.map AO.enc),.i .i64 x.h0,.i .i64 x.h1,.i .i64 x.h2,.i .i64 x.h3,.i .i64 x.h4]
structure Ar where
 src:Int
 dst:Int
 queue:Bool
 cap:Int
 top:Int
 late:Int
 deriving Inhabited,DecidableEq
@[go_sem] def Ar.enc (x:Ar):List V:=[.i .i64 x.src,.i .i64 x.dst,.b x.queue,.i .i64 x.cap,.i .u32 x.top,.i .i64 x.late]
@[go_sem] def Tab.enc (x:List Node):List V:=[.fl 3 (x.map Node.enc)]
structure Ah where
 parts:List Part
 chans:List Ar
 tables:List (List Node)
 deriving Inhabited,DecidableEq
@[go_sem] def Ah.enc (x:Ah):List V:=[.fl 11 (x.parts.map Part.enc),.fl 6 (x.chans.map Ar.enc),.fl 1 (x.tables.map Tab.enc)]
theorem QI {xs:List (List V)}:Pf tp Ys [.fl 2 xs] (.fl 2 xs):=by
 refine AD aGt (by simp [Pw]) fun rp=>?_;unfold Pw;simp (disch:=omega)only[go_sem, *]
theorem Mb {xs:List (List V)}:Pf tp XL [.fl 3 xs] (.fl 3 xs):=by
 refine AD aFz (by simp [Oy]) fun rp=>?_;unfold Oy;simp (disch:=omega)only[go_sem, *]
 have hb:=rp.head.big
 intro t ht
 cases t
 ·simp (disch:=omega)only[go_sem, *]
  refine Ao (R:=[]) (Sl.nil' 0 _ _) (Nat.le_refl _) (Nat.le_refl _) (by simp;omega) ?_
  intro w h4 s4 g4
  simp (disch:=omega)only[go_sem, *]
  exact s4.froze' rp.head.frzr trivial (by simp;omega)
 ·simp (disch:=omega)only[go_sem, *]
  have:xs=[]:=by
   rcases List.eq_nil_or_concat xs with h | ⟨l,a,h⟩
   ·exact h
   ·exact absurd (ht (by rw [h];simp)) (by simp)
  rw [this]
def DB {α:Type} (P:α→Bool):List α→Int→Int
 | [],_=>-1
 | a::l,i=>if P a=true then i else DB P l (i+1)
theorem jF {L:List Part} {g:Nat} {caps:List V} {P:Part→Bool} {h0:AH} {K:V→AH→Prop} (hp:∀ x,x∈L→∀ K:V→AH→Prop,K (.b (P x)) h0→Cq tp g (.agg x.enc::caps) h0 K) (k:K (.i .i64 (DB P L 0)) h0):Cq tp Q9 [.fl 11 (L.map Part.enc),.f (.func g) [] caps] h0 K:=by
 refine A8 iS (by simp [KI]) fun wf rp=>?_;unfold KI;simp (disch:=omega)only[go_sem, *]
 have hL:=rp.head.len
 refine Ae (fun n e h=>∃ (i:Nat),n=L.length - i∧h.lim=h0.lim∧e 6=.fl 11 (L.map Part.enc)∧e 7=.i .i64 L.length∧e 8=.i .i64 i∧e 0=.fl 11 (L.map Part.enc)∧e 1=.f (.func g) [] caps∧i≤L.length∧h=h0∧DB P (L.drop i) i=DB P L 0) ?_ _ _ _ ⟨0,rfl, ?_⟩
 ·rintro n e h ⟨i,rfl,hl,e6,e7,e8,e0,e1,hi,rfl,hz⟩ ih
  rw [Ai U8.eq_1]
  simp (disch:=omega)only[go_sem, *]
  refine Aa (fun hc=>?_) (fun hc=>?_)
  ·rw [Ax (by omega),DB] at hz
   simp (disch:=omega)only[go_sem, *]
   refine hp (nth L i) (Bl (by omega)) _ ?_
   simp (disch:=omega)only[go_sem, *]
   refine AX (fun hc2=>?_) (fun hc2=>?_)
   ·rw [if_pos hc2] at hz
    simp (disch:=omega)only[go_sem, *]
   ·rw [if_neg (by simp [hc2])] at hz
    simp (disch:=omega)only[go_sem, *]
    refine ih _ _ _ ?_ ⟨i+1,rfl, ?_⟩
    ·omega
    ·simp (disch:=omega)only[go_sem, *]
     ((repeat' refine And.intro ?_ ?_)<;>first | omega | assumption | (skip))
  ·rw [List.drop_eq_nil_of_le (by omega),DB] at hz
   simp (disch:=omega)only[go_sem, *]
 ·simp (disch:=omega)only[go_sem, *]
theorem Lw {P:Part→Bool}:∀ (L:List Part) (i:Int),0≤i→(0≤DB P L i↔L.any P=true)
 | [],i,hi=>by simp [DB]
 | a::l,i,hi=>by
  rw [DB]
  split
  ·rename_i h;simp [h,hi]
  ·rename_i h;rw [Lw l (i+1) (by omega)];simp [h]
theorem iZ {L:List Part} {g:Nat} {caps:List V} {P:Part→Bool} {h0:AH} {K:V→AH→Prop} (hp:∀ x,x∈L→∀ K:V→AH→Prop,K (.b (P x)) h0→Cq tp g (.agg x.enc::caps) h0 K) (k:K (.b (L.any P)) h0):Cq tp QU [.fl 11 (L.map Part.enc),.f (.func g) [] caps] h0 K:=by
 refine A8 hU (by simp [Kq]) fun wf rp=>?_;unfold Kq;simp (disch:=omega)only[go_sem, *]
 refine jF hp ?_
 simp (disch:=omega)only[go_sem, *]
 have e:(decide (0≤DB P L 0))=L.any P:=by rw [Bool.eq_iff_iff];simp only [decide_eq_true_eq];exact Lw L 0 (Int.le_refl _)
 rw [e];exact k
theorem aGX {L:List AI} {g:Nat} {caps:List V} {P:AI→Bool} {h0:AH} {K:V→AH→Prop} (hp:∀ x,x∈L→∀ K:V→AH→Prop,K (.b (P x)) h0→Cq tp g (.agg x.enc::caps) h0 K) (k:K (.i .i64 (DB P L 0)) h0):Cq tp Q7 [.fl 2 (L.map AI.enc),.f (.func g) [] caps] h0 K:=by
 refine A8 iQ (by simp [KG]) fun wf rp=>?_;unfold KG;simp (disch:=omega)only[go_sem, *]
 have hL:=rp.head.len
 refine Ae (fun n e h=>∃ (i:Nat),n=L.length - i∧h.lim=h0.lim∧e 6=.fl 2 (L.map AI.enc)∧e 7=.i .i64 L.length∧e 8=.i .i64 i∧e 0=.fl 2 (L.map AI.enc)∧e 1=.f (.func g) [] caps∧i≤L.length∧h=h0∧DB P (L.drop i) i=DB P L 0) ?_ _ _ _ ⟨0,rfl, ?_⟩
 ·rintro n e h ⟨i,rfl,hl,e6,e7,e8,e0,e1,hi,rfl,hz⟩ ih
  rw [Ai U7.eq_1]
  simp (disch:=omega)only[go_sem, *]
  refine Aa (fun hc=>?_) (fun hc=>?_)
  ·rw [Ax (by omega),DB] at hz
   simp (disch:=omega)only[go_sem, *]
   refine hp (nth L i) (Bl (by omega)) _ ?_
   simp (disch:=omega)only[go_sem, *]
   refine AX (fun hc2=>?_) (fun hc2=>?_)
   ·rw [if_pos hc2] at hz
    simp (disch:=omega)only[go_sem, *]
   ·rw [if_neg (by simp [hc2])] at hz
    simp (disch:=omega)only[go_sem, *]
    refine ih _ _ _ ?_ ⟨i+1,rfl, ?_⟩
    ·omega
    ·simp (disch:=omega)only[go_sem, *]
     ((repeat' refine And.intro ?_ ?_)<;>first | omega | assumption | (skip))
  ·rw [List.drop_eq_nil_of_le (by omega),DB] at hz
   simp (disch:=omega)only[go_sem, *]
 ·simp (disch:=omega)only[go_sem, *]
theorem Nn {P:AI→Bool}:∀ (L:List AI) (i:Int),0≤i→(0≤DB P L i↔L.any P=true)
 | [],i,hi=>by simp [DB]
 | a::l,i,hi=>by
  rw [DB]
  split
  ·rename_i h;simp [h,hi]
  ·rename_i h;rw [Nn l (i+1) (by omega)];simp [h]
theorem aGL {L:List AI} {g:Nat} {caps:List V} {P:AI→Bool} {h0:AH} {K:V→AH→Prop} (hp:∀ x,x∈L→∀ K:V→AH→Prop,K (.b (P x)) h0→Cq tp g (.agg x.enc::caps) h0 K) (k:K (.b (L.any P)) h0):Cq tp Yz [.fl 2 (L.map AI.enc),.f (.func g) [] caps] h0 K:=by
 refine A8 aGD (by simp [PG]) fun wf rp=>?_;unfold PG;simp (disch:=omega)only[go_sem, *]
 refine aGX hp ?_
 simp (disch:=omega)only[go_sem, *]
 have e:(decide (0≤DB P L 0))=L.any P:=by rw [Bool.eq_iff_iff];simp only [decide_eq_true_eq];exact Nn L 0 (Int.le_refl _)
 rw [e];exact k
theorem Gz {α:Type} [Inhabited α] [DecidableEq α] {L M:List α} {i:Nat} (hl:L.length=M.length) (hi:i<L.length) (ht:L.take i=M.take i) (he:nth L i=nth M i):L.take (i+1)=M.take (i+1):=by
 rw [List.take_add_one,List.take_add_one,ht,E8 hi,E8 (by omega),he]
theorem Lr {α:Type} [Inhabited α] {L M:List α} {i:Nat} (hi:i<L.length) (he:¬ nth L i=nth M i):¬ L=M:=by rintro rfl;exact he rfl
theorem Node.eq (a b:Node):a=b↔a.kind=b.kind∧a.part=b.part∧a.n=b.n:=by cases a;cases b;simp
theorem AI.eq (a b:AI):a=b↔a.part=b.part∧a.n=b.n:=by cases a;cases b;simp
theorem AO.eq (a b:AO):a=b↔a.entry=b.entry∧a.prio=b.prio:=by cases a;cases b;simp
theorem Ar.eq (a b:Ar):a=b↔a.src=b.src∧a.dst=b.dst∧a.queue=b.queue∧a.cap=b.cap∧a.top=b.top∧a.late=b.late:=by cases a;cases b;simp
theorem Part.eq (a b:Part):a=b↔a.name=b.name∧a.budget=b.budget∧a.period=b.period∧a.sched=b.sched∧a.stop=b.stop∧a.procs=b.procs∧a.h0=b.h0∧a.h1=b.h1∧a.h2=b.h2∧a.h3=b.h3∧a.h4=b.h4:=by cases a;cases b;simp
end Go.Ab.T
namespace Go.Ab.T
open Go Go.Ab
set_option maxHeartbeats 1000000
@[irreducible] def H9 (n m:Int):Bool:=decide (0≤n∧n≤m)
theorem JQ {n m:Int}:Pf tp Io [.i .i64 n,.i .i64 m] (.b (H9 n m)):=by
 refine AD iU (by simp [KK]) fun rp=>?_;unfold KK;simp (disch:=omega)only[go_sem, *]
 repeat' (first | (refine Aq (fun hc=>?_) (fun hc=>?_)<;>simp (disch:=omega)only[go_sem, *]) | (refine Aa (fun hc=>?_) (fun hc=>?_)<;>simp (disch:=omega)only[go_sem, *]) | (refine Bk (fun hc=>?_) (fun hc=>?_)<;>simp (disch:=omega)only[go_sem, *]) | (refine AX (fun hc=>?_) (fun hc=>?_)<;>simp (disch:=omega)only[go_sem, *]))
 all_goals (simp only [H9];grind)
def Ee (x:AO):Bool:=decide (0≤x.entry∧x.entry≤511∧0≤x.prio∧x.prio≤255)
@[irreducible] def CG (L:List AO):Bool:=L.all Ee&&decide (1≤L.length∧L.length≤3)
theorem Ww {α:Type} [Inhabited α] {L:List α} {P:α→Bool} {i:Nat} (hi:i<L.length) (h:P (nth L i)=false):L.all P=false:=by
 rw [List.all_eq_false];exact ⟨_,Bl hi,by simp [h]⟩
theorem MU {α:Type} [Inhabited α] {L:List α} {P:α→Bool} {i:Nat} (hi:i<L.length) (h:P (nth L i)=true):(L.drop i).all P=(L.drop (i+1)).all P:=by
 rw [Ax hi,List.all_cons,h,Bool.true_and]
theorem Zk {L:List AO}:Pf tp Ra [.fl 2 (L.map AO.enc)] (.b (CG L)):=by
 refine AD iT (by simp [KJ]) fun rp=>?_;unfold KJ;simp (disch:=omega)only[go_sem, *]
 have hL:=rp.head.len
 refine Ae (fun n e h=>∃ (i:Nat),n=L.length - i∧h.lim=0∧e 5=.fl 2 (L.map AO.enc)∧e 6=.i .i64 L.length∧e 7=.i .i64 i∧e 0=.fl 2 (L.map AO.enc)∧i≤L.length∧L.all Ee=(L.drop i).all Ee) ?_ _ _ _ ⟨0,rfl, ?_⟩
 ·rintro n e h ⟨i,rfl,hl,e5,e6,e7,e0,hi,hz⟩ ih
  rw [Ai U9.eq_1]
  simp (disch:=omega)only[go_sem, *]
  refine Aa (fun hc=>?_) (fun hc=>?_)
  ·simp (disch:=omega)only[go_sem, *]
   repeat' (first | (refine Aq (fun hc=>?_) (fun hc=>?_)<;>simp (disch:=omega)only[go_sem, *]) | (refine Aa (fun hc=>?_) (fun hc=>?_)<;>simp (disch:=omega)only[go_sem, *]) | (refine Bk (fun hc=>?_) (fun hc=>?_)<;>simp (disch:=omega)only[go_sem, *]) | (refine AX (fun hc=>?_) (fun hc=>?_)<;>simp (disch:=omega)only[go_sem, *]) | (refine Pf.go (JQ) (by simp only [go_sem]) fun _=>?_;simp (disch:=omega)only[go_sem, *]))
   all_goals
    try
     have hn:Ee (nth L i)=false:=by (simp only [Ee,H9] at *;grind)
     have:=Ww (by omega) hn
     simp only [CG,this];rfl
   have hp:Ee (nth L i)=true:=by (simp only [Ee,H9] at *;grind)
   refine ih _ _ _ ?_ ⟨i+1,rfl, ?_⟩
   ·omega
   ·simp (disch:=omega)only[go_sem, *]
    ((repeat' refine And.intro ?_ ?_)<;>first | omega | assumption | (exact MU (by omega) hp))
  ·rw [List.drop_eq_nil_of_le (by omega),List.all_nil] at hz
   simp (disch:=omega)only[go_sem, *]
   repeat' (first | (refine Aq (fun hc=>?_) (fun hc=>?_)<;>simp (disch:=omega)only[go_sem, *]) | (refine Aa (fun hc=>?_) (fun hc=>?_)<;>simp (disch:=omega)only[go_sem, *]) | (refine Bk (fun hc=>?_) (fun hc=>?_)<;>simp (disch:=omega)only[go_sem, *]) | (refine AX (fun hc=>?_) (fun hc=>?_)<;>simp (disch:=omega)only[go_sem, *]))
   all_goals (simp only [CG,hz];grind)
 ·simp (disch:=omega)only[go_sem, *]
/-! ### Names -/
def bt (s:ByteArray) (i:Nat):Int:=((s.data.toList.getD i 0).toNat:Int)
def PW (i:Nat) (c:Int):Bool:=decide ((97≤c∧c≤122)∨(i≠0∧((48≤c∧c≤57)∨c=95)))
@[irreducible] def Ew (s:ByteArray):Bool:=decide ((∀ i,i<s.size→PW i (bt s i)=true)∧1≤s.size∧s.size≤12)
theorem Nz {s:ByteArray} {i:Nat} (hi:i<s.size) (h:PW i (bt s i)=false):Ew s=false:=by
 simp only [Ew,decide_eq_false_iff_not]
 intro hh;rw [hh.1 i hi] at h;cases h
theorem LC {s:ByteArray} (h:∀ j,j<s.size→PW j (bt s j)=true):Ew s=decide (1≤s.size∧s.size≤12):=by
 simp only [Ew];congr 1;exact propext ⟨fun hh=>hh.2,fun hh=>⟨h,hh⟩⟩
theorem SU {s:ByteArray} {i:Nat} (h:∀ j,j<i→PW j (bt s j)=true) (h1:PW i (bt s i)=true):∀ j,j<i+1→PW j (bt s j)=true:=fun j hj=>by
 by_cases e:j=i
 ·rw [e];exact h1
 ·exact h j (by omega)
@[go_sem] theorem Se {s:ByteArray} {i:Nat}:(↑(UInt8.toNat (s.data.toList.getD i 0)):Int)=bt s i:=An rfl
theorem WV {s:ByteArray} (hs:s.size<4000000000):Pf tp YE [.s s] (.b (Ew s)):=by
 refine AD aGJ (by simp [PM]) fun rp=>?_;unfold PM;simp (disch:=omega)only[go_sem, *]
 refine Ae (fun n e h=>∃ (i:Nat),n=s.size - i∧h.lim=0∧e 0=.s s∧e 7=.i .i64 s.size∧e 8=.i .i64 i∧i≤s.size∧∀ j,j<i→PW j (bt s j)=true) ?_ _ _ _ ⟨0,rfl, ?_⟩
 ·rintro n e h ⟨i,rfl,hl,e0,e7,e8,hi,hz⟩ ih
  rw [Ai qV.eq_1]
  simp (disch:=omega)only[go_sem, *]
  refine Aa (fun hc=>?_) (fun hc=>?_)
  ·simp (disch:=omega)only[go_sem, *,Se]
   repeat' (first | (refine Aq (fun hc=>?_) (fun hc=>?_)<;>simp (disch:=omega)only[go_sem, *]) | (refine Aa (fun hc=>?_) (fun hc=>?_)<;>simp (disch:=omega)only[go_sem, *]) | (refine Bk (fun hc=>?_) (fun hc=>?_)<;>simp (disch:=omega)only[go_sem, *]) | (refine AX (fun hc=>?_) (fun hc=>?_)<;>simp (disch:=omega)only[go_sem, *]))
   all_goals
    try
     have hn:PW i (bt s i)=false:=by (simp only [PW] at *;grind)
     exact (Nz (by omega) hn).symm
   all_goals
    have hp:PW i (bt s i)=true:=by (simp only [PW] at *;grind)
    refine ih _ _ _ ?_ ⟨i+1,rfl, ?_⟩
    ·omega
    ·simp (disch:=omega)only[go_sem, *]
     ((repeat' refine And.intro ?_ ?_)<;>first | omega | assumption | (exact SU hz hp))
  ·have hy:=LC (s:=s) (fun j hj=>hz j (by omega))
   clear hz
   simp (disch:=omega)only[go_sem, *]
   repeat' (first | (refine Aq (fun hc=>?_) (fun hc=>?_)<;>simp (disch:=omega)only[go_sem, *]) | (refine Aa (fun hc=>?_) (fun hc=>?_)<;>simp (disch:=omega)only[go_sem, *]) | (refine Bk (fun hc=>?_) (fun hc=>?_)<;>simp (disch:=omega)only[go_sem, *]) | (refine AX (fun hc=>?_) (fun hc=>?_)<;>simp (disch:=omega)only[go_sem, *]))
   all_goals grind
 ·simp (disch:=omega)only[go_sem, *]
  ((repeat' refine And.intro ?_ ?_)<;>first | omega | assumption | ((intro j hj;omega)))
theorem Zy {s:ByteArray} (hs:s.size<4000000000):Pf tp YA [.s s] (.b (Ew s)):=by
 refine AD aGE (by simp [PH]) fun rp=>?_;unfold PH;simp (disch:=omega)only[go_sem, *]
 refine Ae (fun n e h=>∃ (i:Nat),n=s.size - i∧h.lim=0∧e 0=.s s∧e 3=.i .i64 i∧i≤s.size∧∀ j,j<i→PW j (bt s j)=true) ?_ _ _ _ ⟨0,rfl, ?_⟩
 ·rintro n e h ⟨i,rfl,hl,e0,e3,hi,hz⟩ ih
  rw [Ai qT.eq_1]
  simp (disch:=omega)only[go_sem, *]
  refine Aa (fun hc=>?_) (fun hc=>?_)
  ·simp (disch:=omega)only[go_sem, *,Se]
   repeat' (first | (refine Aq (fun hc=>?_) (fun hc=>?_)<;>simp (disch:=omega)only[go_sem, *]) | (refine Aa (fun hc=>?_) (fun hc=>?_)<;>simp (disch:=omega)only[go_sem, *]) | (refine Bk (fun hc=>?_) (fun hc=>?_)<;>simp (disch:=omega)only[go_sem, *]) | (refine AX (fun hc=>?_) (fun hc=>?_)<;>simp (disch:=omega)only[go_sem, *]))
   all_goals
    try
     have hn:PW i (bt s i)=false:=by (simp only [PW] at *;grind)
     exact (Nz (by omega) hn).symm
   all_goals
    have hp:PW i (bt s i)=true:=by (simp only [PW] at *;grind)
    refine ih _ _ _ ?_ ⟨i+1,rfl, ?_⟩
    ·omega
    ·simp (disch:=omega)only[go_sem, *]
     ((repeat' refine And.intro ?_ ?_)<;>first | omega | assumption | (exact SU hz hp))
  ·have hy:=LC (s:=s) (fun j hj=>hz j (by omega))
   clear hz
   simp (disch:=omega)only[go_sem, *]
   repeat' (first | (refine Aq (fun hc=>?_) (fun hc=>?_)<;>simp (disch:=omega)only[go_sem, *]) | (refine Aa (fun hc=>?_) (fun hc=>?_)<;>simp (disch:=omega)only[go_sem, *]) | (refine Bk (fun hc=>?_) (fun hc=>?_)<;>simp (disch:=omega)only[go_sem, *]) | (refine AX (fun hc=>?_) (fun hc=>?_)<;>simp (disch:=omega)only[go_sem, *]))
   all_goals grind
 ·simp (disch:=omega)only[go_sem, *]
  ((repeat' refine And.intro ?_ ?_)<;>first | omega | assumption | ((intro j hj;omega)))
/-! ### Parts, channels -/
def FV (x:Part):Bool:=decide (0≤x.h0∧x.h0≤2∧0≤x.h1∧x.h1≤2∧0≤x.h2∧x.h2≤2∧0≤x.h3∧x.h3≤2∧0≤x.h4∧x.h4≤2)
def Ji (b p:Int):Bool:=decide ((b=0∧p=0)∨(1≤b∧b≤4096∧b≤p∧p≤4096))
@[irreducible] def EX (x:Part):Bool:=CG x.procs&&FV x&&Ji x.budget x.period
theorem W0 {x:Part}:Pf tp QW [.agg x.enc] (.b (EX x)):=by
 refine AD iA (by simp [Ks]) fun rp=>?_;unfold Ks;simp (disch:=omega)only[go_sem, *]
 iterate 6
  all_goals
   try
    refine Bb ?_
    rw [Ai U4.eq_1]
    simp (disch:=omega)only[go_sem, *]
    try repeat' (first | (refine Aq (fun hc=>?_) (fun hc=>?_)<;>simp (disch:=omega)only[go_sem, *]) | (refine Aa (fun hc=>?_) (fun hc=>?_)<;>simp (disch:=omega)only[go_sem, *]) | (refine Bk (fun hc=>?_) (fun hc=>?_)<;>simp (disch:=omega)only[go_sem, *]) | (refine AX (fun hc=>?_) (fun hc=>?_)<;>simp (disch:=omega)only[go_sem, *]))
 all_goals try (simp only [EX,FV];grind)
 repeat' (first | (refine Aq (fun hc=>?_) (fun hc=>?_)<;>simp (disch:=omega)only[go_sem, *]) | (refine Aa (fun hc=>?_) (fun hc=>?_)<;>simp (disch:=omega)only[go_sem, *]) | (refine Bk (fun hc=>?_) (fun hc=>?_)<;>simp (disch:=omega)only[go_sem, *]) | (refine AX (fun hc=>?_) (fun hc=>?_)<;>simp (disch:=omega)only[go_sem, *]) | (refine Pf.go (Zk) (by simp only [go_sem]) fun _=>?_;simp (disch:=omega)only[go_sem, *]))
 all_goals (simp only [EX,FV,Ji];grind)
@[irreducible] def C0 (n:Int) (x:Ar):Bool:=decide (0≤x.src∧x.src<n∧0≤x.dst∧x.dst<n∧x.src≠x.dst∧0≤x.late∧x.late≤4096)&&(if x.queue=true then decide (1≤x.cap∧x.cap≤8) else decide (x.cap=0))
theorem WI {c:Ah} {x:Ar}:Pf tp QX [.agg c.enc,.agg x.enc] (.b (C0 c.parts.length x)):=by
 refine AD iB (by simp [Kt]) fun rp=>?_;unfold Kt;simp (disch:=omega)only[go_sem, *]
 have hL:=rp.head.agg.head.len
 repeat' (first | (refine Aq (fun hc=>?_) (fun hc=>?_)<;>simp (disch:=omega)only[go_sem, *]) | (refine Aa (fun hc=>?_) (fun hc=>?_)<;>simp (disch:=omega)only[go_sem, *]) | (refine Bk (fun hc=>?_) (fun hc=>?_)<;>simp (disch:=omega)only[go_sem, *]) | (refine AX (fun hc=>?_) (fun hc=>?_)<;>simp (disch:=omega)only[go_sem, *]) | (refine Pf.go (JQ) (by simp only [go_sem]) fun _=>?_;simp (disch:=omega)only[go_sem, *]))
 all_goals (simp only [C0,H9] at *;grind)
theorem Zq {n:Int} {x:Ar}:Pf tp YC [.agg x.enc,.i .i64 n] (.b (C0 n x)):=by
 refine AD aGG (by simp [PJ]) fun rp=>?_;unfold PJ;simp (disch:=omega)only[go_sem, *]
 repeat' (first | (refine Aq (fun hc=>?_) (fun hc=>?_)<;>simp (disch:=omega)only[go_sem, *]) | (refine Aa (fun hc=>?_) (fun hc=>?_)<;>simp (disch:=omega)only[go_sem, *]) | (refine Bk (fun hc=>?_) (fun hc=>?_)<;>simp (disch:=omega)only[go_sem, *]) | (refine AX (fun hc=>?_) (fun hc=>?_)<;>simp (disch:=omega)only[go_sem, *]))
 all_goals (simp only [C0] at *;grind)
theorem LG {L:List AO} (h:L.length<1∨3<L.length):CG L=false:=by simp only [CG];grind
theorem ZF {x:Part}:Pf tp YB [.agg x.enc] (.b (EX x)):=by
 refine AD aGF (by simp [PI]) fun rp=>?_;unfold PI;simp (disch:=omega)only[go_sem, *]
 have hL:=G7.len (rp.head.agg _ (by simp [Part.enc]):G7 (.fl 2 (x.procs.map AO.enc)))
 repeat' (first | (refine Aq (fun hc=>?_) (fun hc=>?_)<;>simp (disch:=omega)only[go_sem, *]) | (refine Aa (fun hc=>?_) (fun hc=>?_)<;>simp (disch:=omega)only[go_sem, *]) | (refine Bk (fun hc=>?_) (fun hc=>?_)<;>simp (disch:=omega)only[go_sem, *]) | (refine AX (fun hc=>?_) (fun hc=>?_)<;>simp (disch:=omega)only[go_sem, *]))
 iterate 2
  (rw [EX,LG (by omega)];rfl)
 refine Ae (fun n e h=>∃ (i:Nat),n=x.procs.length - i∧h.lim=0∧e 18=.fl 2 (x.procs.map AO.enc)∧e 19=.i .i64 x.procs.length∧e 20=.i .i64 i∧e 1=.p 0 0 0∧i≤x.procs.length∧h.get 0=some ⟨11,[x.enc]⟩∧1≤h.next∧x.procs.all Ee=(x.procs.drop i).all Ee) ?_ _ _ _ ⟨0,rfl, ?_⟩
 ·rintro n e h ⟨i,rfl,hl,e18,e19,e20,e1,hi,hg,hn,hz⟩ ih
  rw [Ai qU.eq_1]
  simp (disch:=omega)only[go_sem, *]
  refine Aa (fun hc=>?_) (fun hc=>?_)
  ·simp (disch:=omega)only[go_sem, *]
   repeat' (first | (refine Aq (fun hc=>?_) (fun hc=>?_)<;>simp (disch:=omega)only[go_sem, *]) | (refine Aa (fun hc=>?_) (fun hc=>?_)<;>simp (disch:=omega)only[go_sem, *]) | (refine Bk (fun hc=>?_) (fun hc=>?_)<;>simp (disch:=omega)only[go_sem, *]) | (refine AX (fun hc=>?_) (fun hc=>?_)<;>simp (disch:=omega)only[go_sem, *]))
   all_goals
    try
     have hn:Ee (nth x.procs i)=false:=by (simp only [Ee] at *;grind)
     have:=Ww (by omega) hn
     simp only [EX,CG,this];rfl
   have hp:Ee (nth x.procs i)=true:=by (simp only [Ee] at *;grind)
   refine ih _ _ _ ?_ ⟨i+1,rfl, ?_⟩
   ·omega
   ·simp (disch:=omega)only[go_sem, *]
    ((repeat' refine And.intro ?_ ?_)<;>first | omega | assumption | (exact MU (by omega) hp))
  ·rw [List.drop_eq_nil_of_le (by omega),List.all_nil] at hz
   simp only [Part.enc] at hg
   have hp:CG x.procs=true:=by simp only [CG,hz];grind
   simp (disch:=omega)only[go_sem, *]
   iterate 6
    all_goals
     try
      refine Bb ?_
      rw [Ai VM.eq_1]
      simp (disch:=omega)only[go_sem, *]
      try repeat' (first | (refine Aq (fun hc=>?_) (fun hc=>?_)<;>simp (disch:=omega)only[go_sem, *]) | (refine Aa (fun hc=>?_) (fun hc=>?_)<;>simp (disch:=omega)only[go_sem, *]) | (refine Bk (fun hc=>?_) (fun hc=>?_)<;>simp (disch:=omega)only[go_sem, *]) | (refine AX (fun hc=>?_) (fun hc=>?_)<;>simp (disch:=omega)only[go_sem, *]))
   all_goals (simp only [EX,FV,Ji,hp];grind)
 ·simp (disch:=omega)only[go_sem, *]
end Go.Ab.T
namespace Go.Ab.T
open Go Go.Ab
set_option maxHeartbeats 1000000
theorem Ah.eq (a b:Ah):a=b↔a.parts=b.parts∧a.chans=b.chans∧a.tables=b.tables:=by cases a;cases b;simp
theorem NP {L M:List Node}:Pf tp aGR [.fl 3 (L.map Node.enc),.fl 3 (M.map Node.enc)] (.b (decide (L=M))):=by
 refine AD aUd (by simp [aD]) fun rp=>?_;unfold aD;simp (disch:=omega)only[go_sem, *]
 have hL:=rp.head.len
 have hM:=rp.tail.head.len
 refine Aa (fun hc=>?_) (fun hc=>?_)
 ·simp (disch:=omega)only[go_sem, *]
  simp only [false_eq_decide_iff]
  rintro rfl;exact hc rfl
 ·simp (disch:=omega)only[go_sem, *]
  refine Ae (fun n e h=>∃ (i:Nat),n=L.length - i∧h.lim=0∧e 0=.fl 3 (L.map Node.enc)∧e 1=.fl 3 (M.map Node.enc)∧e 12=.i .i64 L.length∧e 13=.i .i64 i∧i≤L.length∧L.take i=M.take i) ?_ _ _ _ ⟨0,rfl, ?_⟩
  ·rintro n e h ⟨i,rfl,hl,e0,e1,e12,e13,hi,hz⟩ ih
   rw [Ai aOm.eq_1]
   simp (disch:=omega)only[go_sem, *]
   refine Aa (fun hc2=>?_) (fun hc2=>?_)
   ·simp (disch:=omega)only[go_sem, *]
    refine Aa (fun hc3=>?_) (fun hc3=>?_)
    ·simp (disch:=omega)only[go_sem, *]
     simp only [false_eq_decide_iff]
     exact Lr (i:=i) (by omega) (fun h=>hc3 (((Node.eq _ _).1 h)))
    ·have he:=(Node.eq (nth L i) (nth M i)).2 (Decidable.not_not.1 hc3)
     simp (disch:=omega)only[go_sem, *]
     refine ih _ _ _ ?_ ⟨i+1,rfl, ?_⟩
     ·omega
     ·simp (disch:=omega)only[go_sem, *]
      ((repeat' refine And.intro ?_ ?_)<;>first | omega | assumption | (exact Gz (by omega) (by omega) hz he))
   ·simp (disch:=omega)only[go_sem, *]
    simp only [true_eq_decide_iff]
    rw [List.take_of_length_le (by omega),List.take_of_length_le (by omega)] at hz
    exact hz
  ·simp (disch:=omega)only[go_sem, *]
   first | done | simp
theorem K7 {a b:Part}:Pf tp Yp [.agg a.enc,.agg b.enc] (.b (decide (a=b))):=by
 refine AD aGo (by simp [Pq]) fun rp=>?_;unfold Pq;simp (disch:=omega)only[go_sem, *]
 have hL:=G7.len (rp.head.agg _ (by simp [Part.enc]):G7 (.fl 2 (a.procs.map AO.enc)))
 repeat' (first | (refine Aq (fun hc=>?_) (fun hc=>?_)<;>simp (disch:=omega)only[go_sem, *]) | (refine Aa (fun hc=>?_) (fun hc=>?_)<;>simp (disch:=omega)only[go_sem, *]) | (refine Bk (fun hc=>?_) (fun hc=>?_)<;>simp (disch:=omega)only[go_sem, *]) | (refine AX (fun hc=>?_) (fun hc=>?_)<;>simp (disch:=omega)only[go_sem, *]))
 all_goals try (simp only [Part.eq];grind)
 refine Ae (fun n e h=>∃ (i:Nat),n=a.procs.length - i∧h.lim=0∧e 2=.p 0 0 0∧e 3=.p 1 0 0∧e 57=.i .i64 a.procs.length∧e 58=.i .i64 i∧h.get 0=some ⟨11,[a.enc]⟩∧h.get 1=some ⟨11,[b.enc]⟩∧i≤a.procs.length∧a.procs.take i=b.procs.take i) ?_ _ _ _ ⟨0,rfl, ?_⟩
 ·rintro n e h ⟨i,rfl,hl,e2,e3,e57,e58,hg0,hg1,hi,hz⟩ ih
  rw [Ai qN.eq_1]
  simp (disch:=omega)only[go_sem, *]
  simp only [Part.enc] at hg0 hg1
  have hpl:a.procs.length=b.procs.length:=by grind
  refine Aa (fun hc2=>?_) (fun hc2=>?_)
  ·simp (disch:=omega)only[go_sem, *]
   refine Aa (fun hc3=>?_) (fun hc3=>?_)
   ·simp (disch:=omega)only[go_sem, *]
    simp only [false_eq_decide_iff]
    intro hab
    exact Lr (L:=a.procs) (M:=b.procs) (i:=i) (by omega) (fun h=>hc3 (((AO.eq _ _).1 h))) (by rw [hab])
   ·have he:=(AO.eq (nth a.procs i) (nth b.procs i)).2 (Decidable.not_not.1 hc3)
    simp (disch:=omega)only[go_sem, *]
    refine ih _ _ _ ?_ ⟨i+1,rfl, ?_⟩
    ·omega
    ·simp (disch:=omega)only[go_sem, *]
     ((repeat' refine And.intro ?_ ?_)<;>first | omega | assumption | (exact Gz (by omega) (by omega) hz he))
  ·simp (disch:=omega)only[go_sem, *]
   rw [List.take_of_length_le (by omega),List.take_of_length_le (by omega)] at hz
   simp only [Part.eq];grind
 ·simp (disch:=omega)only[go_sem, *]
  first | done | simp
theorem kP {a b:Ah}:Pf tp X2 [.agg a.enc,.agg b.enc] (.b (decide (a.parts=b.parts∧a.chans=b.chans))):=by
 refine AD aFT (by simp [OU]) fun rp=>?_;unfold OU;simp (disch:=omega)only[go_sem, *]
 have hL:=rp.head.agg.head.len
 have hM:=rp.head.agg.tail.head.len
 repeat' (first | (refine Aq (fun hc=>?_) (fun hc=>?_)<;>simp (disch:=omega)only[go_sem, *]) | (refine Aa (fun hc=>?_) (fun hc=>?_)<;>simp (disch:=omega)only[go_sem, *]) | (refine Bk (fun hc=>?_) (fun hc=>?_)<;>simp (disch:=omega)only[go_sem, *]) | (refine AX (fun hc=>?_) (fun hc=>?_)<;>simp (disch:=omega)only[go_sem, *]))
 all_goals try (simp only [false_eq_decide_iff];rintro ⟨h1,h2⟩;have:=congrArg List.length h1;have:=congrArg List.length h2;omega)
 refine Ae (fun n e h=>∃ (i:Nat),n=a.parts.length - i∧h.lim=0∧e 2=.p 0 0 0∧e 3=.p 1 0 0∧e 25=.i .i64 a.parts.length∧e 26=.i .i64 i∧h.get 0=some ⟨3,[a.enc]⟩∧h.get 1=some ⟨3,[b.enc]⟩∧i≤a.parts.length∧a.parts.take i=b.parts.take i) ?_ _ _ _ ⟨0,rfl, ?_⟩
 ·rintro n e h ⟨i,rfl,hl,e2,e3,e25,e26,hg0,hg1,hi,hz⟩ ih
  rw [Ai qF.eq_1]
  simp (disch:=omega)only[go_sem, *]
  simp only [Ah.enc] at hg0 hg1
  have hpl:a.parts.length=b.parts.length:=by grind
  have hcl:a.chans.length=b.chans.length:=by grind
  refine Aa (fun hc2=>?_) (fun hc2=>?_)
  ·simp (disch:=omega)only[go_sem, *]
   refine Pf.go (K7 (a:=nth a.parts i) (b:=nth b.parts i)) (by simp only [go_sem]) fun _=>?_
   simp (disch:=omega)only[go_sem, *]
   refine Aa (fun hc3=>?_) (fun hc3=>?_)
   ·simp (disch:=omega)only[go_sem, *]
    simp only [false_eq_decide_iff]
    intro hab
    exact Lr (L:=a.parts) (M:=b.parts) (i:=i) (by omega) hc3 hab.1
   ·simp (disch:=omega)only[go_sem, *]
    refine ih _ _ _ ?_ ⟨i+1,rfl, ?_⟩
    ·omega
    ·simp (disch:=omega)only[go_sem, *]
     ((repeat' refine And.intro ?_ ?_)<;>first | omega | assumption | (exact Gz (by omega) (by omega) hz (Decidable.not_not.1 hc3)))
  ·rw [List.take_of_length_le (by omega),List.take_of_length_le (by omega)] at hz
   clear ih
   simp (disch:=omega)only[go_sem, *]
   refine Ae (fun n e h=>∃ (i:Nat),n=a.chans.length - i∧h.lim=0∧e 2=.p 0 0 0∧e 3=.p 1 0 0∧e 44=.i .i64 a.chans.length∧e 45=.i .i64 i∧h.get 0=some ⟨3,[a.enc]⟩∧h.get 1=some ⟨3,[b.enc]⟩∧i≤a.chans.length∧a.chans.take i=b.chans.take i) ?_ _ _ _ ⟨0,rfl, ?_⟩
   ·rintro n e h ⟨i,rfl,hl,e2,e3,e44,e45,gg0,gg1,hj,hy⟩ ih
    rw [Ai Vp.eq_1]
    simp (disch:=omega)only[go_sem, *]
    simp only [Ah.enc] at gg0 gg1
    refine Aa (fun hc2=>?_) (fun hc2=>?_)
    ·simp (disch:=omega)only[go_sem, *]
     refine Aa (fun hc3=>?_) (fun hc3=>?_)
     ·simp (disch:=omega)only[go_sem, *]
      simp only [false_eq_decide_iff]
      intro hab
      exact Lr (L:=a.chans) (M:=b.chans) (i:=i) (by omega) (fun h=>hc3 (((Ar.eq _ _).1 h))) (by first | exact hab.2 | exact hab)
     ·have he:=(Ar.eq (nth a.chans i) (nth b.chans i)).2 (Decidable.not_not.1 hc3)
      simp (disch:=omega)only[go_sem, *]
      refine ih _ _ _ ?_ ⟨i+1,rfl, ?_⟩
      ·omega
      ·simp (disch:=omega)only[go_sem, *]
       ((repeat' refine And.intro ?_ ?_)<;>first | omega | assumption | (exact Gz (by omega) (by omega) hy he))
    ·simp (disch:=omega)only[go_sem, *]
     rw [List.take_of_length_le (by omega),List.take_of_length_le (by omega)] at hy
     simp only [true_eq_decide_iff]
     first | exact ⟨hz,hy⟩ | exact hy
   ·simp (disch:=omega)only[go_sem, *]
    first | done | simp
 ·simp (disch:=omega)only[go_sem, *]
  first | done | simp
theorem NX {a b:Ah}:Pf tp XG [.agg a.enc,.agg b.enc] (.b (decide (a=b))):=by
 refine AD aFr (by simp [Om]) fun rp=>?_;unfold Om;simp (disch:=omega)only[go_sem, *]
 have hL:=rp.head.agg.tail.tail.head.len
 refine Pf.go (kP (a:=a) (b:=b)) (by simp only [go_sem]) fun _=>?_
 simp (disch:=omega)only[go_sem, *]
 repeat' (first | (refine Aq (fun hc=>?_) (fun hc=>?_)<;>simp (disch:=omega)only[go_sem, *]) | (refine Aa (fun hc=>?_) (fun hc=>?_)<;>simp (disch:=omega)only[go_sem, *]) | (refine Bk (fun hc=>?_) (fun hc=>?_)<;>simp (disch:=omega)only[go_sem, *]) | (refine AX (fun hc=>?_) (fun hc=>?_)<;>simp (disch:=omega)only[go_sem, *]))
 all_goals try (simp only [false_eq_decide_iff];rintro rfl;simp at *;done)
 refine Ae (fun n e h=>∃ (i:Nat),n=a.tables.length - i∧h.lim=0∧e 2=.p 0 0 0∧e 3=.p 1 0 0∧e 21=.i .i64 a.tables.length∧e 22=.i .i64 i∧h.get 0=some ⟨3,[a.enc]⟩∧h.get 1=some ⟨3,[b.enc]⟩∧i≤a.tables.length∧a.tables.take i=b.tables.take i) ?_ _ _ _ ⟨0,rfl, ?_⟩
 ·rintro n e h ⟨i,rfl,hl,e2,e3,e21,e22,hg0,hg1,hi,hz⟩ ih
  rw [Ai pZ.eq_1]
  simp (disch:=omega)only[go_sem, *]
  simp only [Ah.enc] at hg0 hg1
  have hpl:a.tables.length=b.tables.length:=by grind
  refine Aa (fun hc2=>?_) (fun hc2=>?_)
  ·simp (disch:=omega)only[go_sem, *]
   refine Pf.go (NP (L:=nth a.tables i) (M:=nth b.tables i)) (by simp only [go_sem]) fun _=>?_
   simp (disch:=omega)only[go_sem, *]
   refine Aa (fun hc3=>?_) (fun hc3=>?_)
   ·simp (disch:=omega)only[go_sem, *]
    simp only [false_eq_decide_iff]
    intro hab
    exact Lr (L:=a.tables) (M:=b.tables) (i:=i) (by omega) hc3 (by rw [hab])
   ·simp (disch:=omega)only[go_sem, *]
    refine ih _ _ _ ?_ ⟨i+1,rfl, ?_⟩
    ·omega
    ·simp (disch:=omega)only[go_sem, *]
     ((repeat' refine And.intro ?_ ?_)<;>first | omega | assumption | (exact Gz (by omega) (by omega) hz (Decidable.not_not.1 hc3)))
  ·simp (disch:=omega)only[go_sem, *]
   rw [List.take_of_length_le (by omega),List.take_of_length_le (by omega)] at hz
   simp only [Ah.eq];grind
 ·simp (disch:=omega)only[go_sem, *]
  first | done | simp
end Go.Ab.T
namespace Go.Ab.T
open Go Go.Ab
theorem Mo {b:Nat} {h h1 h2:AH} {x v:V} (g:Grown b h1 x v h2) (e:AK h h1) (hb:b≤h.next):Grown b h x v h2:=by
 have e1:=e.next;have g1:=g.next
 refine ⟨by omega,g.lim.trans e.lim,fun i hi=>by rw [g.low i hi,e.get i (by omega)],fun i hi hn=>by rw [g.get i (by omega) hn,e.get i hi], ?_,g.cell,g.cells⟩
 rcases g.own with h | h | h
 ·exact .inl h
 ·exact .inr (.inl h)
 ·exact .inr (.inr (by omega))
theorem DG {b sz:Nat} {h:AH} {v:V} {R:List (List V)} (s:Sl b h sz v R):Ba v=true∨AW v<h.next:=by
 rcases s with ⟨hv,_⟩ | ⟨i,el,cap,cs,rfl,_,_,_,_,h1,_,_⟩
 ·rcases hv with rfl | rfl<;>exact .inl rfl
 ·exact .inr h1
end Go.Ab.T
namespace Go.Ab.T
open Go Go.Ab
structure Place where
 at_:Nat
 left:Int
 deriving DecidableEq,Inhabited
@[go_sem] def Place.enc (p:Place):List V:=[.i .i64 p.at_,.i .i64 p.left]
structure Cs where
 S:List Place
 leaf:Nat
 gone:Int
 at_:Int
def dn (L:List Node) (a:Nat) (S:List Place):List Place×Nat:=
 if h:a<L.length then
  if (nth L a).kind=3∨(nth L a).kind=4 then dn L (a+1) (⟨a,(nth L a).n⟩::S) else (S,a)
 else (S,a)
termination_by L.length - a
def LP (L:List Node) (next:Nat):List Place→List Place×Nat
 | []=>([],L.length)
 | p::r=>if 0<p.left - 1 then dn L (if (nth L p.at_).kind=4 then p.at_+1 else next) (⟨p.at_,p.left - 1⟩::r) else LP L next r
def LQ (L:List Node) (next:Nat):List Place→Prop
 | []=>True
 | p::r=>p.at_<L.length∧1≤p.left∧p.left≤9223372036854775807∧(if 0<p.left - 1 then (dn L (if (nth L p.at_).kind=4 then p.at_+1 else next) (⟨p.at_,p.left - 1⟩::r)).2<L.length∧(dn L (if (nth L p.at_).kind=4 then p.at_+1 else next) (⟨p.at_,p.left - 1⟩::r)).1.length≤L.length else LQ L next r)
theorem W6 {L:List Node} {a:Nat} {S:List Place}:S.length≤(dn L a S).1.length:=by
 rw [dn]
 split
 ·split
  ·have:=W6 (L:=L) (a:=a+1) (S:=⟨a,(nth L a).n⟩::S)
   simp at this;omega
  ·simp
 ·simp
termination_by L.length - a
def lf (L:List Node) (c:Cs):Node:=nth L c.leaf
structure pV (L:List Node) (c:Cs):Prop where
 LP:LQ L (c.leaf+1) c.S
 gone:0≤c.gone∧c.gone<(lf L c).n∧(lf L c).n≤4611686018427387904
 at_:0≤c.at_∧c.at_≤4611686018427387903
def Y1 (L:List Node) (c:Cs):Cs:=⟨(LP L (c.leaf+1) c.S).1,(LP L (c.leaf+1) c.S).2,0,c.at_+((lf L c).n - c.gone)⟩
def rT (L:List Node) (c:Cs):Cs:=if c.gone+1=(lf L c).n then ⟨(LP L (c.leaf+1) c.S).1,(LP L (c.leaf+1) c.S).2,0,c.at_+1⟩ else ⟨c.S,c.leaf,c.gone+1,c.at_+1⟩
def GX (L:List Node) (sv:V) (c:Cs):BV:=⟨5,[[.fl 3 (L.map Node.enc),sv,.i .i64 c.leaf,.i .i64 c.gone,.i .i64 c.at_]]⟩
structure Ej (h:AH) (id:Nat) (sv:V) (L:List Node) (c:Cs):Prop where
 blk:h.get id=some (GX L sv c)
 stk:Sl (id+1) h 2 sv (c.S.reverse.map Place.enc)
 big:L.length<4000000000
 sbig:c.S.length≤L.length
 lo:h.lim≤id
 hi:id<h.next
structure CA (h:AH) (id:Nat) (sv:V) (h':AH) (sv':V):Prop where
 next:h.next≤h'.next
 lim:h'.lim=h.lim
 get:∀ i,i<h.next→i≠id→(Ba sv=true∨i≠AW sv)→h'.get i=h.get i
 own:Ba sv'=true∨(Ba sv=false∧AW sv'=AW sv)∨h.next≤AW sv'
theorem CA.refl {h:AH} {id:Nat} {sv:V}:CA h id sv h sv:=⟨Nat.le_refl _,rfl,fun _ _ _ _=>rfl,by
 by_cases hs:Ba sv=true
 ·exact .inl hs
 ·exact .inr (.inl ⟨by simpa using hs,rfl⟩)⟩
theorem CA.trans {h h1 h2:AH} {id:Nat} {sv s1 s2:V} (a:CA h id sv h1 s1) (b:CA h1 id s1 h2 s2):CA h id sv h2 s2:=by
 have an:=a.next;have bn:=b.next
 refine ⟨by omega,b.lim.trans a.lim,fun i hi hne hs=>?_, ?_⟩
 ·rw [b.get i (by omega) hne ?_,a.get i hi hne hs]
  rcases a.own with h1 | ⟨hn,h1⟩ | h1
  ·exact .inl h1
  ·rcases hs with hs | hs
   ·rw [hs] at hn;cases hn
   ·exact .inr (by rw [h1];exact hs)
  ·exact .inr (by omega)
 ·rcases b.own with h2 | ⟨hn,h2⟩ | h2
  ·exact .inl h2
  ·rcases a.own with h1 | ⟨hn1,h1⟩ | h1
   ·rw [h1] at hn;cases hn
   ·exact .inr (.inl ⟨hn1,h2.trans h1⟩)
   ·exact .inr (.inr (by omega))
  ·exact .inr (.inr (by omega))
theorem CA.ext {h h1 h2:AH} {id:Nat} {sv s1:V} (a:CA h id sv h1 s1) (b:AK h1 h2):CA h id sv h2 s1:=by
 have an:=a.next;have bn:=b.next
 exact ⟨by omega,b.lim.trans a.lim,fun i hi hne hs=>by rw [b.get i (by omega),a.get i hi hne hs],a.own⟩
theorem Ej.ext {h h':AH} {id:Nat} {sv:V} {L:List Node} {c:Cs} (k:Ej h id sv L c) (x:AK h h'):Ej h' id sv L c:=by
 have:=x.next
 exact ⟨by rw [x.get id k.hi];exact k.blk,k.stk.ext x,k.big,k.sbig,by rw [x.lim];exact k.lo,by have:=k.hi;omega⟩
theorem Ej.sne {h:AH} {id:Nat} {sv:V} {L:List Node} {c:Cs} (k:Ej h id sv L c):Ba sv=true∨(id<AW sv∧AW sv<h.next):=by
 rcases k.stk with ⟨hv,_⟩ | ⟨i,el,cap,cs,rfl,_,_,_,_,h1,h2,_⟩
 ·rcases hv with rfl | rfl<;>exact .inl rfl
 ·exact .inr ⟨h2,h1⟩
theorem Ej.sne' {h:AH} {id:Nat} {sv:V} {L:List Node} {c:Cs} (k:Ej h id sv L c):Ba sv=true∨id≠AW sv:=by
 rcases k.sne with h | h
 ·exact .inl h
 ·exact .inr (by omega)
theorem Ej.put {h:AH} {id:Nat} {sv:V} {L:List Node} {c c':Cs} (k:Ej h id sv L c) (hS:c'.S=c.S):Ej (h.put id (GX L sv c')) id sv L c':=by
 refine ⟨by rw [Ad,AC rfl], ?_,k.big,by rw [hS];exact k.sbig,k.lo,k.hi⟩
 rw [hS]
 rcases k.stk with ⟨hv,hR⟩ | ⟨i,el,cap,cs,rfl,hg,h1,h2,h3,h4,h5,h6⟩
 ·exact .inl ⟨hv,hR⟩
 ·exact .inr ⟨i,el,cap,cs,rfl,by rw [Ad,Ac (by omega)];exact hg,h1,h2,h3,h4,h5,h6⟩
theorem CA.put {h:AH} {id:Nat} {sv:V} {b:BV}:CA h id sv (h.put id b) sv:=by
 refine ⟨Nat.le_refl _,rfl,fun i hi hne hs=>by rw [Ad,Ac hne],(CA.refl (h:=h) (id:=id)).own⟩
theorem Ej.push {h h4:AH} {id:Nat} {sv w:V} {L:List Node} {c c':Cs} {p:Place} (k:Ej h id sv L c) (s4:Sl (id+1) h4 2 w (c.S.reverse.map Place.enc++[p.enc])) (a4:Grown (id+1) h sv w h4) (hS:c'.S=p::c.S) (hl:c'.S.length≤L.length):Ej (h4.put id (GX L w c')) id w L c':=by
 have hn:=a4.next;have hi:=k.hi;have:=k.lo
 refine ⟨by rw [Ad,AC rfl], ?_,k.big,hl, ?_, ?_⟩
 ·rw [hS]
  rcases s4 with ⟨hv,hR⟩ | ⟨i,el,cap,cs,hw,hg,h1,h2,h3,q4,h5,h6⟩
  ·simp at hR
  ·refine Sl.same (h:=h4) (.inr ⟨i,el,cap,cs,by simpa using hw,hg,h1,by simpa using h2,by simpa using h3,q4,h5,by simpa using h6⟩) (Nat.le_refl _) (fun _=>?_)
   rw [Ad,Ac (by rw [hw];simp only [AW];omega)]
 ·rw [CU,a4.lim];exact k.lo
 ·rw [AB];omega
theorem CA.push {h h4:AH} {id:Nat} {sv w:V} {b:BV} (a4:Grown (id+1) h sv w h4):CA h id sv (h4.put id b) w:=
 ⟨a4.next,a4.lim,fun i hi hne hs=>by rw [Ad,Ac hne];exact a4.get i hi hs,a4.own⟩
set_option maxHeartbeats 1000000
theorem Mg {h : AH} {id : Nat} {sv : V} {L : List Node} {c : Cs} {a : Nat} {K : V → AH → Prop} (k : Ej h id sv L c) (hd : (dn L a c.S).2 < L.length) (hl : (dn L a c.S).1.length ≤ L.length)
    (kk:∀ sv' h',Ej h' id sv' L ⟨(dn L a c.S).1,(dn L a c.S).2,c.gone,c.at_⟩→CA h id sv h' sv'→K (.tup []) h'):Cq tp JZ [.p id 0 0,.i .i64 a] h K:=by
 refine A8 iK (by simp [KB]) fun wf rp=>?_;unfold KB;simp (disch:=omega)only[go_sem, *]
 refine Ae (fun n e h'=>∃ (b:Nat) (S:List Place) (sv':V),n=L.length - b∧e 0=.p id 0 0∧e 1=.i .i64 b∧Ej h' id sv' L ⟨S,c.leaf,c.gone,c.at_⟩∧CA h id sv h' sv'∧dn L b S=dn L a c.S) ?_ _ _ _ ⟨a,c.S,sv,rfl, ?_⟩
 ·rintro n e h' ⟨b,S,sv',rfl,e0,e1,k',f',hz⟩ ih
  have k0:=k'
  obtain ⟨kb,ks,kbig,ksb,klo,khi⟩:=k'
  simp only [GX] at kb
  have hb:b<L.length:=by
   rw [← hz] at hd
   rw [dn] at hd
   split at hd
   ·assumption
   ·exact hd
  rw [dn,dif_pos hb] at hz
  rw [Ai U6.eq_1]
  have tail:(nth L b).kind=3∨(nth L b).kind=4→dn L (b+1) (⟨b,(nth L b).n⟩::S)=dn L a c.S:=fun hk=>by rw [← hz,if_pos hk]
  have stop:¬ ((nth L b).kind=3∨(nth L b).kind=4)→(S,b)=dn L a c.S:=fun hk=>by rw [← hz,if_neg hk]
  have kl:=W6 (L:=L) (a:=b+1) (S:=⟨b,(nth L b).n⟩::S)
  simp (disch:=omega)only[go_sem, *]
  refine Aq (fun hc=>?_) (fun hc=>?_)
  ·simp (disch:=omega)only[go_sem, *]
   have ht:=tail (.inl hc)
   rw [ht] at kl
   simp only [List.length_cons] at kl
   have nsid:=k0.sne'
   refine Ao (ks.alloc _) (by simp only [AG];omega) (by simp only [Ag];omega) (by simp;omega) ?_
   intro w h4 s4 a4
   have a4:=Mo a4 ((AK.refl h').alloc _) (by omega)
   have hn4:=a4.next
   have hl4:=a4.lim
   have hc4:=a4.cells
   have hd4:=a4.cell
   have hb4:=a4.get id khi nsid
   rw [kb] at hb4
   simp (disch:=omega)only[go_sem, *]
   refine ih _ _ _ ?_ ⟨b+1,⟨b,(nth L b).n⟩::S,w,rfl, ?_⟩
   ·omega
   ·simp (disch:=omega)only[go_sem, *]
    exact ⟨Ej.push (p:=⟨b,(nth L b).n⟩) (c':=⟨⟨b,(nth L b).n⟩::S,c.leaf,c.gone,c.at_⟩) k0 s4 a4 rfl (by simp;omega),f'.trans (CA.push a4)⟩
  ·simp (disch:=omega)only[go_sem, *]
   refine Aa (fun hc2=>?_) (fun hc2=>?_)
   ·simp (disch:=omega)only[go_sem, *]
    have ht:=tail (.inr hc2)
    rw [ht] at kl
    simp only [List.length_cons] at kl
    have nsid:=k0.sne'
    refine Ao (ks.alloc _) (by simp only [AG];omega) (by simp only [Ag];omega) (by simp;omega) ?_
    intro w h4 s4 a4
    have a4:=Mo a4 ((AK.refl h').alloc _) (by omega)
    have hn4:=a4.next
    have hl4:=a4.lim
    have hc4:=a4.cells
    have hd4:=a4.cell
    have hb4:=a4.get id khi nsid
    rw [kb] at hb4
    simp (disch:=omega)only[go_sem, *]
    refine ih _ _ _ ?_ ⟨b+1,⟨b,(nth L b).n⟩::S,w,rfl, ?_⟩
    ·omega
    ·simp (disch:=omega)only[go_sem, *]
     exact ⟨Ej.push (p:=⟨b,(nth L b).n⟩) (c':=⟨⟨b,(nth L b).n⟩::S,c.leaf,c.gone,c.at_⟩) k0 s4 a4 rfl (by simp;omega),f'.trans (CA.push a4)⟩
   ·have hst:=stop (by omega)
    simp (disch:=omega)only[go_sem, *]
    refine kk sv' _ ?_ (f'.trans CA.put)
    rw [← hst]
    exact Ej.put (c':=⟨S,b,c.gone,c.at_⟩) k0 rfl
 ·simp (disch:=omega)only[go_sem, *]
  exact CA.refl
end Go.Ab.T
namespace Go.Ab.T
open Go Go.Ab
namespace Fo
def hd:Fo→Fo
 | nil=>nil
 | leaf x _=>leaf x nil
 | seq x k _=>seq x k nil
 | rep x k _=>rep x k nil
def tl:Fo→Fo
 | nil=>nil
 | leaf _ r=>r
 | seq _ _ r=>r
 | rep _ _ r=>r
theorem flat_hd:∀ (f:Fo),f.flat=f.hd.flat++f.tl.flat
 | nil=>rfl
 | leaf _ _=>by simp [flat,hd,tl]
 | seq _ _ _=>by simp [flat,hd,tl]
 | rep _ _ _=>by simp [flat,hd,tl]
theorem runs_hd:∀ (f:Fo),f.runs=f.hd.runs++f.tl.runs
 | nil=>rfl
 | leaf _ _=>by simp [runs,hd,tl]
 | seq _ _ _=>by simp [runs,hd,tl]
 | rep _ _ _=>by simp [runs,hd,tl]
theorem count_tl:∀ (f:Fo),0<f.count→f.tl.count+1=f.count
 | nil,h=>by simp [count] at h
 | leaf _ _,_=>rfl
 | seq _ _ _,_=>rfl
 | rep _ _ _,_=>rfl
theorem ok_tl:∀ (f:Fo),f.ok→f.tl.ok
 | nil,_=>trivial
 | leaf _ _,h=>h.2
 | seq _ _ _,h=>h.2.2.2.2
 | rep _ _ _,h=>h.2.2.2.2
theorem len_tl:∀ (f:Fo),f.ok→f.tl.len≤f.len
 | nil,_=>by simp [tl]
 | leaf x r,ho=>by
  have:=De (x:=x) (by rw [ho.1];omega)
  simp only [tl,len];omega
 | seq x k r,ho=>by
  have:=(len_pos k ho.2.2.2.1).1
  simp only [tl,len];omega
 | rep x k r,ho=>by
  have:=NT ho
  simp only [tl,len];omega
theorem hd_of_one {f:Fo} (h:f.count=1):f.hd=f:=by
 cases f<;>simp [count] at h<;>simp [hd,nil_of h]
end Fo
def Ay:List AI→Int
 | []=>0
 | r::l=>r.n+Ay l
theorem CP:∀ (a b:List AI),Ay (a++b)=Ay a+Ay b
 | [],b=>by simp [Ay]
 | r::l,b=>by simp only [List.cons_append,Ay,CP l b];omega
theorem Ko (l:List AI):∀ (m:Nat),Ay (List.replicate m l).flatten=m*Ay l
 | 0=>by simp [Ay]
 | m+1=>by rw [List.replicate_succ,List.flatten_cons,CP,Ko l m,Int.natCast_add,Int.add_mul];simp;omega
theorem Fo.runs_sum:∀ (f:Fo),f.ok→Ay f.runs=f.len
 | .nil,_=>rfl
 | .leaf x r,ho=>by simp only [Fo.runs,Fo.len,Ay,Fo.runs_sum r ho.2]
 | .seq x k r,ho=>by simp only [Fo.runs,Fo.len,CP,Fo.runs_sum k ho.2.2.2.1,Fo.runs_sum r ho.2.2.2.2]
 | .rep x k r,ho=>by
  have hn:=De (x:=x) (by rw [ho.2.1];omega)
  simp only [Fo.runs,Fo.len,CP,Ko,Fo.runs_sum k ho.2.2.2.1,Fo.runs_sum r ho.2.2.2.2]
  rw [Int.toNat_of_nonneg (by omega)]
inductive Z (L:List Node):List Place→Nat→List AI→Prop where
 | nil (n:Nat):Z L [] n []
 | seq (a:Nat) (S:List Place) (n:Nat) (g:Fo) (R:List Node) (l:List AI):(nth L a).kind=3→a<n→a<L.length→S.length≤a→g.ok→g.count≤128→g.len≤4611686018427387904→L.drop n=g.flat++R→Z L S (n+g.flat.length) l→Z L (⟨a,(g.count:Int)+1⟩::S) n (g.runs++l)
 | rep (a:Nat) (S:List Place) (k:Fo) (R:List Node) (m:Nat) (l:List AI):(nth L a).kind=4→a<L.length→S.length≤a→k.ok→k.count=1→m+1≤4611686018427387904→k.len≤4611686018427387904→L.drop (a+1)=k.flat++R→Z L S (a+1+k.flat.length) l→Z L (⟨a,(m:Int)+1⟩::S) (a+1+k.flat.length) ((List.replicate m k.runs).flatten++l)
def D (L:List Node) (q:List Place×Nat) (l:List AI):Prop:=q.2<L.length∧q.1.length≤q.2∧kids (nth L q.2)=0∧(nth L q.2).n≤4611686018427387904∧∃ l',Z L q.1 (q.2+1) l'∧l=⟨DN (nth L q.2),(nth L q.2).n⟩::l'
theorem HI {L:List Node}:∀ (f:Fo) (a:Nat) (S:List Place) (l:List AI) (R:List Node),f.ok→0<f.count→f.len≤4611686018427387904→S.length≤a→L.drop a=f.flat++R→Z L S (a+f.hd.flat.length) l→D L (dn L a S) (f.hd.runs++l)
 | .nil,a,S,l,R,ho,hc,hln,hs,hd,hz=>by simp [Fo.count] at hc
 | .leaf x r,a,S,l,R,ho,hc,hln,hs,hd,hz=>by
  have hd':L.drop a=x::(r.flat++R):=hd
  have hx:=CJ hd'
  have ha:=(AQ hd').1
  have hk:=FW x (by rw [ho.1];omega)
  rw [ho.1] at hk
  rw [dn,dif_pos ha,hx,if_neg (by omega)]
  have hlr:=(Fo.len_pos r ho.2).1
  simp only [Fo.len] at hln
  refine ⟨ha,hs,by rw [hx];exact ho.1,by rw [hx];omega,l,hz,by rw [hx];rfl⟩
 | .seq x k r,a,S,l,R,ho,hc,hln,hs,hd,hz=>by
  have hd':L.drop a=x::(k.flat++(r.flat++R)):=by rw [hd];simp [Fo.flat]
  have hx:=CJ hd'
  have ha:=(AQ hd').1
  obtain ⟨h3,hk,hp,hok,hor⟩:=ho
  have hlr:=(Fo.len_pos r hor).1
  simp only [Fo.len] at hln
  rw [dn,dif_pos ha,hx,if_pos (.inl h3)]
  have hd2:=(AQ hd').2
  have hct:=Fo.count_tl k hp
  have hkb:=HL x
  have hxn:x.n=(k.tl.count:Int)+1:=by
   have:=(HK x (by omega)).1 h3;omega
  have hfl:=congrArg List.length (Fo.flat_hd k)
  simp only [List.length_append] at hfl
  rw [show (Fo.seq x k r).hd.runs++l=k.hd.runs++(k.tl.runs++l) by rw [← List.append_assoc,←Fo.runs_hd];simp [Fo.hd,Fo.runs]]
  refine HI k (a+1) _ _ _ hok hp (by omega) (by simp;omega) hd2 ?_
  rw [hxn]
  refine Z.seq a S _ k.tl (r.flat++R) l (by rw [hx];exact h3) (by omega) ha hs (Fo.ok_tl k hok) (by omega) (by have:=Fo.len_tl k hok;omega) ?_ ?_
  ·rw [Fo.flat_hd k,List.append_assoc] at hd2
   exact Dw hd2
  ·have:a+1+k.hd.flat.length+k.tl.flat.length=a+(Fo.seq x k r).hd.flat.length:=by
    show _=a+(x::(k.flat++[])).length
    simp;omega
   rw [this];exact hz
 | .rep x k r,a,S,l,R,ho,hc,hln,hs,hd,hz=>by
  have hd':L.drop a=x::(k.flat++(r.flat++R)):=by rw [hd];simp [Fo.flat]
  have hx:=CJ hd'
  have ha:=(AQ hd').1
  have hrn:=NT ho
  obtain ⟨h4,hk,hp,hok,hor⟩:=ho
  have hlr:=(Fo.len_pos r hor).1
  simp only [Fo.len] at hln
  have hm1:x.n*1≤x.n*k.len:=Int.mul_le_mul_of_nonneg_left hrn.2.1 (by omega)
  have hm2:1*k.len≤x.n*k.len:=Int.mul_le_mul_of_nonneg_right hrn.1 (by omega)
  have hm3:x.n≤4611686018427387904:=by rw [Int.mul_one] at hm1;omega
  rw [dn,dif_pos ha,hx,if_pos (.inr h4)]
  have hd2:=(AQ hd').2
  obtain ⟨m,hm⟩:∃ m:Nat,x.n=(m:Int)+1:=⟨(x.n - 1).toNat,by omega⟩
  have h1:=Fo.hd_of_one hp
  rw [show (Fo.rep x k r).hd.runs++l=k.hd.runs++((List.replicate m k.runs).flatten++l) by
   rw [h1,←List.append_assoc];simp only [Fo.hd,Fo.runs,List.append_nil]
   rw [show x.n.toNat=m+1 by omega,List.replicate_succ,List.flatten_cons]]
  refine HI k (a+1) _ _ _ hok (by omega) (by omega) (by simp;omega) hd2 ?_
  rw [hm,h1]
  refine Z.rep a S k (r.flat++R) m l (by rw [hx];exact h4) ha hs hok hp (by rw [hm] at hm3;omega) (by omega) hd2 ?_
  have:a+1+k.flat.length=a+(Fo.rep x k r).hd.flat.length:=by
   show _=a+(x::(k.flat++[])).length
   simp;omega
  rw [this];exact hz
theorem aHF {L:List Node} {S:List Place} {n:Nat} {l:List AI} (z:Z L S n l):LQ L n S∧((l=[]∧LP L n S=([],L.length))∨D L (LP L n S) l):=by
 induction z with
 | nil n=>exact ⟨trivial,.inl ⟨rfl,rfl⟩⟩
 | seq a S n g R l hk han hal hs hg hgc hgl hd hz ih=>
  by_cases hc:0<g.count
  ·have hct:=Fo.count_tl g hc
   have hfl:=congrArg List.length (Fo.flat_hd g)
   simp only [List.length_append] at hfl
   have hD:D L (dn L n (⟨a,(g.count:Int)⟩::S)) (g.runs++l):=by
    rw [Fo.runs_hd,List.append_assoc]
    refine HI g n _ _ R hg hc hgl (by simp;omega) hd ?_
    have hd2:=hd
    rw [Fo.flat_hd g,List.append_assoc] at hd2
    have:=Z.seq a S (n+g.hd.flat.length) g.tl R l hk (by omega) hal hs (Fo.ok_tl g hg) (by omega) (by have:=Fo.len_tl g hg;omega) (Dw hd2) (by rw [Nat.add_assoc,←hfl];exact hz)
    rw [show ((g.tl.count:Int)+1)=g.count by omega] at this
    exact this
   have e:(g.count:Int)+1 - 1=g.count:=by omega
   refine ⟨⟨hal,by simp only;omega,by simp only;omega, ?_⟩,.inr ?_⟩
   ·simp only [e]
    rw [if_pos (by omega),if_neg (by omega)]
    exact ⟨hD.1,by have:=hD.1;have:=hD.2.1;omega⟩
   ·rw [LP]
    simp only [e]
    rw [if_pos (by omega),if_neg (by omega)]
    exact hD
  ·have h0:g=.nil:=Fo.nil_of (by omega)
   subst h0
   simp only [Fo.count,Fo.flat,Fo.runs,List.length_nil,Nat.add_zero,List.nil_append] at hz ih ⊢
   refine ⟨⟨hal,by simp,by simp, ?_⟩, ?_⟩
   ·rw [if_neg (by simp)];exact ih.1
   ·rw [LP,if_neg (by simp)];exact ih.2
 | rep a S k R m l hk hal hs hok hkc hm hkl hd hz ih=>
  cases m with
  | zero=>
   simp only [List.replicate_zero,List.flatten_nil,List.nil_append]
   refine ⟨⟨hal,by simp,by simp, ?_⟩, ?_⟩
   ·rw [if_neg (by simp)];exact ih.1
   ·rw [LP,if_neg (by simp)];exact ih.2
  | succ m=>
   have hD:D L (dn L (a+1) (⟨a,((m+1:Nat):Int)⟩::S)) ((List.replicate (m+1) k.runs).flatten++l):=by
    rw [List.replicate_succ,List.flatten_cons,List.append_assoc]
    have h1:=Fo.hd_of_one hkc
    conv=>arg 3;rw [← h1]
    refine HI k (a+1) _ _ R hok (by omega) hkl (by simp;omega) hd ?_
    rw [h1]
    have:=Z.rep a S k R m l hk hal hs hok hkc (by omega) hkl hd hz
    simpa using this
   have e:((m+1:Nat):Int)+1 - 1=((m+1:Nat):Int):=by omega
   refine ⟨⟨hal,by simp only;omega,by simp only;omega, ?_⟩,.inr ?_⟩
   ·simp only [e]
    rw [if_pos (by omega),if_pos hk]
    exact ⟨hD.1,by have:=hD.1;have:=hD.2.1;omega⟩
   ·rw [LP]
    simp only [e]
    rw [if_pos (by omega),if_pos hk]
    exact hD
structure Tg (L:List Node) (c:Cs) (l:List AI):Prop where
 sb:c.S.length≤L.length
 at_:0≤c.at_∧c.at_+Ay l≤4096
 sum:0≤Ay l
 go:(l=[]∧c.leaf=L.length)∨(c.leaf<L.length∧kids (lf L c)=0∧0≤c.gone∧c.gone<(lf L c).n∧(lf L c).n≤4611686018427387904∧∃ l',Z L c.S (c.leaf+1) l'∧l=⟨DN (lf L c),(lf L c).n - c.gone⟩::l')
theorem Tg.nil {L:List Node} {c:Cs} (r:Tg L c []):c.leaf=L.length:=by
 rcases r.go with h | ⟨_,_,_,_,_,l',_,h⟩
 ·exact h.2
 ·cases h
theorem D.rem {L:List Node} {q:List Place×Nat} {l:List AI} {a:Int} (d:D L q l) (ha:0≤a∧a+Ay l≤4096) (hp:0≤Ay l):Tg L ⟨q.1,q.2,0,a⟩ l:=by
 obtain ⟨h1,h2,h3,hb,l',hz,hl⟩:=d
 have hn:=De (x:=nth L q.2) (by omega)
 exact ⟨by simp only;omega,ha,hp,.inr ⟨h1,h3,by simp,by simp only [lf];omega,hb,l',hz,by rw [hl];simp [lf]⟩⟩
theorem Z.sum {L:List Node} {S:List Place} {n:Nat} {l:List AI} (z:Z L S n l):0≤Ay l:=by
 induction z with
 | nil n=>simp [Ay]
 | seq a S n g R l hk han hal hs hg hgc hgl hd hz ih=>rw [CP,Fo.runs_sum g hg];have:=(Fo.len_pos g hg).1;omega
 | rep a S k R m l hk hal hs hok hkc hm hkl hd hz ih=>
  rw [CP,Ko,Fo.runs_sum k hok]
  have:0≤(m:Int)*k.len:=Int.mul_nonneg (by omega) (Fo.len_pos k hok).1
  omega
structure aWe (L:List Node) (c:Cs) (r:AI) (l:List AI):Prop where
 lt:c.leaf<L.length
 ok:pV L c
 run:r=⟨DN (lf L c),(lf L c).n - c.gone⟩
 pos:1≤r.n
 next:Tg L (Y1 L c) l
 tick:Tg L (rT L c) (if r.n=1 then l else ⟨r.part,r.n - 1⟩::l)
theorem Tg.cons {L:List Node} {c:Cs} {r:AI} {l:List AI} (h:Tg L c (r::l)):aWe L c r l:=by
 obtain ⟨hsb,hat,hsum,hgo⟩:=h
 rcases hgo with ⟨h,_⟩ | ⟨h1,h2,h3,h4,hb,l',hz,h5⟩
 ·cases h
 ·obtain ⟨rfl,rfl⟩:=List.cons.inj h5
  have hok:=aHF hz
  have hl0:=hz.sum
  simp only [Ay] at hat hsum
  have step:∀ a:Int,0≤a→a+Ay l≤4096→Tg L ⟨(LP L (c.leaf+1) c.S).1,(LP L (c.leaf+1) c.S).2,0,a⟩ l:=by
   intro a ha ha2
   rcases hok.2 with ⟨rfl,he⟩ | hd
   ·rw [he];exact ⟨by simp,by simp only [Ay];simp only [Ay] at ha2;omega,by simp [Ay],.inl ⟨rfl,rfl⟩⟩
   ·exact hd.rem ⟨ha,ha2⟩ hl0
  refine ⟨h1,⟨hok.1,⟨h3,h4,hb⟩,by omega⟩,rfl,by simp only;omega,step _ (by omega) (by omega), ?_⟩
  unfold rT
  by_cases hg:c.gone+1=(lf L c).n
  ·rw [if_pos hg,if_pos (by simp only;omega)]
   exact step _ (by omega) (by omega)
  ·rw [if_neg hg,if_neg (by simp only;omega)]
   exact ⟨hsb,by simp only [Ay];omega,by simp only [Ay];omega,.inr ⟨h1,h2,by simp only;omega,by simp only [lf] at hg h4 ⊢;omega,hb,l,hz,by simp only [lf];congr 2;omega⟩⟩
def gP (L:List Node):Cs:=⟨(dn L 0 []).1,(dn L 0 []).2,0,0⟩
theorem S8 {f:Fo} (ho:f.ok) (hc:f.count=1) (hl:f.len≤4096):D f.flat (dn f.flat 0 []) f.runs:=by
 have:=HI (L:=f.flat) f 0 [] [] [] ho (by omega) (by omega) (by simp) (by simp) (Z.nil _)
 rw [Fo.hd_of_one hc,List.append_nil] at this
 exact this
theorem UL {f:Fo} (ho:f.ok) (hc:f.count=1) (hl:f.len≤4096):Tg f.flat (gP f.flat) f.runs:=by
 have h:=Fo.runs_sum f ho
 have:=(Fo.len_pos f ho).1
 exact (S8 ho hc hl).rem (by omega) (by omega)
end Go.Ab.T
namespace Go.Ab.T
open Go Go.Ab
set_option maxHeartbeats 1000000
theorem Ej.some {h:AH} {id:Nat} {sv:V} {L:List Node} {S:List Place} {p:Place} {lf:Nat} {g a:Int} (k:Ej h id sv L ⟨p::S,lf,g,a⟩):Ba sv=false∧id<AW sv∧AW sv<h.next:=by
 rcases k.stk with ⟨_,hR⟩ | ⟨i,el,cap,cs,rfl,_,_,_,_,h1,h2,_⟩
 ·simp at hR
 ·exact ⟨rfl,h2,h1⟩
theorem Ej.top {h:AH} {id:Nat} {sv:V} {L:List Node} {S:List Place} {p p':Place} {lf:Nat} {g a:Int} (k:Ej h id sv L ⟨p::S,lf,g,a⟩):Ej (h.put (AW sv) ⟨2,(Bm h sv).set (E2 sv+S.length) p'.enc⟩) id sv L ⟨p'::S,lf,g,a⟩∧CA h id sv (h.put (AW sv) ⟨2,(Bm h sv).set (E2 sv+S.length) p'.enc⟩) sv:=by
 obtain ⟨hs,h1,h2⟩:=k.some
 refine ⟨⟨?_, ?_,k.big,k.sbig,k.lo,k.hi⟩,⟨Nat.le_refl _,rfl,fun i _ _ hi=>?_,(CA.refl (h:=h) (id:=id)).own⟩⟩
 ·rw [Ad,Ac (by omega)];exact k.blk
 ·have:=k.stk.setT (h':=h.put (AW sv) ⟨2,(Bm h sv).set (E2 sv+S.length) p'.enc⟩) (j:=S.length) (x:=p') (by simp) (Nat.le_refl _) (by rw [Ad,AC rfl])
  simp only [List.reverse_cons] at this ⊢
  rw [List.set_append_right _ _ (by simp)] at this
  simpa using this
 ·rw [Ad,Ac]
  rcases hi with hi | hi
  ·rw [hs] at hi;cases hi
  ·exact hi
theorem Ej.pop {h:AH} {id:Nat} {sv:V} {L:List Node} {S:List Place} {p:Place} {lf:Nat} {g a:Int} (k:Ej h id sv L ⟨p::S,lf,g,a⟩):Ej (h.put id (GX L (CW sv S.length) ⟨S,lf,g,a⟩)) id (CW sv S.length) L ⟨S,lf,g,a⟩∧CA h id sv (h.put id (GX L (CW sv S.length) ⟨S,lf,g,a⟩)) (CW sv S.length):=by
 obtain ⟨hs,h1,h2⟩:=k.some
 refine ⟨⟨?_, ?_,k.big,by have:=k.sbig;simp at this ⊢;omega,k.lo,k.hi⟩,⟨Nat.le_refl _,rfl,fun i _ hi _=>by rw [Ad,Ac hi],.inr (.inl ⟨hs,Ip⟩)⟩⟩
 ·rw [Ad,AC rfl]
 ·have:=k.stk.truncd (n:=S.length) (by simp)
  simp only [List.reverse_cons,List.map_append] at this
  rw [List.take_left' (by simp)] at this
  exact Sl.same this (Nat.le_refl _) (fun _=>by rw [Ad,Ac (by rw [Ip];omega)])
theorem pM {p:Place} {S:List Place}:nth (p::S).reverse S.length=p:=by simp [nth,List.getD]
theorem Ej.lim_le {h:AH} {id:Nat} {sv:V} {L:List Node} {c:Cs} (k:Ej h id sv L c):h.lim≤h.next:=by
 have:=k.lo;have:=k.hi;omega
theorem lP {h : AH} {id : Nat} {sv : V} {L : List Node} {c : Cs} {K : V → AH → Prop} (k : Ej h id sv L c) (hlf : c.leaf < L.length) (hok : LQ L (c.leaf + 1) c.S)
    (kk:∀ sv' h',Ej h' id sv' L ⟨(LP L (c.leaf+1) c.S).1,(LP L (c.leaf+1) c.S).2,0,c.at_⟩→CA h id sv h' sv'→K (.tup []) h'):Cq tp SF [.p id 0 0] h K:=by
 have k0:=k
 obtain ⟨kb,ks,kbig,ksb,klo,khi⟩:=k
 simp only [GX] at kb
 refine A8 aGr (by simp [Pu]) fun wf rp=>?_;unfold Pu;simp (disch:=omega)only[go_sem, *]
 refine Ae (fun n e h'=>∃ (S:List Place) (sv':V),n=S.length∧e 0=.p id 0 0∧e 2=.i .i64 ((c.leaf:Int)+1)∧Ej h' id sv' L ⟨S,c.leaf,0,c.at_⟩∧CA h id sv h' sv'∧LQ L (c.leaf+1) S∧LP L (c.leaf+1) S=LP L (c.leaf+1) c.S) ?_ _ _ _ ⟨c.S,sv,rfl, ?_⟩
 ·rintro n e h' ⟨S,sv',rfl,e0,e2,k',f',ok,hz⟩ ih
  have k1:=k'
  obtain ⟨kb,ks,kbig,ksb,klo,khi⟩:=k'
  obtain ⟨glen,gbig,glt,glo,gget,gat,grow,gc,gcs⟩:=ks.facts
  have grl:=fun (hj:0<S.length)=>ks.rowlt (j:=S.length - 1) (by simp;omega)
  have spre:∀ {k:IntKind} {j:Int} {cs:List (List V)},0≤j→j≤S.length→Ht (some ⟨2,cs⟩) 2 sv' none (some (.i k j)) none=some (CW sv' j.toNat):=fun h0 h1=>ks.pre h0 (by simp;omega)
  simp only [List.length_reverse] at glen gbig glt gget gat grow grl spre ksb
  simp only [GX] at kb
  rw [Ai VH.eq_1]
  simp (disch:=omega)only[go_sem, *]
  refine Aa (fun hc=>?_) (fun hc=>?_)
  ·obtain ⟨p,r,rfl⟩:∃ p r,S=p::r:=by
    match S,hc with
    | [],hc=>simp at hc
    | p::r,_=>exact ⟨p,r,rfl⟩
   simp only [LQ] at ok
   obtain ⟨o1,o2,o3,o4⟩:=ok
   rw [LP] at hz
   have tn:=pM (p:=p) (S:=r)
   simp only [List.length_cons,Int.natCast_add,Int.natCast_one] at glen gbig glt gget gat grow grl spre ksb hc
   have z1:((r.length:Int)+1 - 1).toNat=r.length:=by omega
   have grl':=grl (by omega)
   simp only [Nat.add_sub_cancel] at grl'
   have sne:=k1.some
   have kt:=Ej.top (p':=⟨p.at_,p.left - 1⟩) k1
   simp (disch:=omega)only[go_sem, *]
   refine Aa (fun hc2=>?_) (fun hc2=>?_)
   ·rw [if_pos hc2] at o4 hz
    simp (disch:=omega)only[go_sem, *]
    refine Aa (fun hc3=>?_) (fun hc3=>?_)
    ·rw [if_pos hc3] at o4 hz
     simp (disch:=omega)only[go_sem, *]
     refine Mg (a:=p.at_+1) kt.1 o4.1 o4.2 ?_
     intro sv2 h2 c2 f2
     simp (disch:=omega)only[go_sem, *]
     refine kk sv2 _ ?_ (f'.trans (kt.2.trans f2))
     rw [← hz];exact c2
    ·rw [if_neg hc3] at o4 hz
     simp (disch:=omega)only[go_sem, *]
     refine Mg (a:=c.leaf+1) kt.1 o4.1 o4.2 ?_
     intro sv2 h2 c2 f2
     simp (disch:=omega)only[go_sem, *]
     refine kk sv2 _ ?_ (f'.trans (kt.2.trans f2))
     rw [← hz];exact c2
   ·rw [if_neg hc2] at o4 hz
    have kq:=Ej.pop kt.1
    have hct:=IS (n:=r.length) gcs
    simp (disch:=omega)only[go_sem, *]
    refine ih _ _ _ ?_ ⟨r,CW sv' r.length,rfl, ?_⟩
    ·simp
    ·simp (disch:=omega)only[go_sem, *]
     exact ⟨kq.1,f'.trans (kt.2.trans kq.2)⟩
  ·have hS:S=[]:=by
    match S,hc with
    | [],hc=>rfl
    | p::r,hc=>simp at hc
   subst hS
   rw [LP] at hz
   simp (disch:=omega)only[go_sem, *]
   refine kk sv' _ ?_ (f'.trans CA.put)
   rw [← hz];exact Ej.put (c':=⟨[],L.length,0,c.at_⟩) k1 rfl
 ·simp (disch:=omega)only[go_sem, *]
  exact ⟨Ej.put (c':=⟨c.S,c.leaf,0,c.at_⟩) k0 rfl,CA.put⟩
end Go.Ab.T
namespace Go.Ab.T
open Go Go.Ab
set_option maxHeartbeats 1000000
theorem M5 {h : AH} {id : Nat} {sv : V} {L : List Node} {c : Cs} {K : V → AH → Prop} (k : Ej h id sv L c) (hl : L.length ≤ c.leaf)
    (kk:∀ h',AK h h'→K (.tup [.agg (AI.enc ⟨0,0⟩),.b false]) h'):Cq tp J0 [.p id 0 0] h K:=by
 have kb:=k.blk
 have kl:=k.lim_le
 have khi:=k.hi
 simp only [GX] at kb
 refine A8 Xp (by simp [KP]) fun wf rp=>?_;unfold KP;simp (disch:=omega)only[go_sem, *]
 refine Aa (fun hc=>?_) (fun hc=>by omega)
 simp (disch:=omega)only[go_sem, *]
 exact kk _ (by (repeat (first | exact AK.refl _ | refine AK.alloc ?_ _ | (refine AK.put ?_ _ _ ?_;rotate_left;(first | omega | (simp only [Ag,AB];omega))))))
theorem Ej.put_other {h:AH} {id:Nat} {sv:V} {L:List Node} {c:Cs} (k:Ej h id sv L c) {j:Nat} {b:BV} (h1:id≠j) (h3:Ba sv=true∨AW sv≠j):Ej (h.put j b) id sv L c:=by
 refine ⟨by rw [Ad,Ac h1];exact k.blk, ?_,k.big,k.sbig,k.lo,k.hi⟩
 rcases k.stk with ⟨hv,hR⟩ | ⟨i,el,cap,cs,rfl,hg,q1,q2,q3,q4,q5,q6⟩
 ·exact .inl ⟨hv,hR⟩
 ·refine .inr ⟨i,el,cap,cs,rfl, ?_,q1,q2,q3,q4,q5,q6⟩
  rcases h3 with h3 | h3
  ·cases h3
  ·rw [Ad,Ac (show ¬ i=j from h3)];exact hg
theorem CA.put_new {h h':AH} {id:Nat} {sv sv':V} {i:Nat} {b:BV} (f:CA h id sv h' sv') (hi:h.next≤i):CA h id sv (h'.put i b) sv':=
 ⟨f.next,f.lim,fun j hj hne hs=>by rw [Ad,Ac (by omega)];exact f.get j hj hne hs,f.own⟩
theorem QM {h : AH} {id : Nat} {sv : V} {L : List Node} {c : Cs} {K : V → AH → Prop} (k : Ej h id sv L c) (hl : c.leaf < L.length) (hok : pV L c)
    (kk:∀ sv' h',Ej h' id sv' L (Y1 L c)→CA h id sv h' sv'→K (.tup [.agg (AI.enc ⟨DN (lf L c),(lf L c).n - c.gone⟩),.b true]) h'):Cq tp J0 [.p id 0 0] h K:=by
 have k0:=k
 obtain ⟨o1,o2,o3⟩:=hok
 obtain ⟨kb,ks,kbig,ksb,klo,khi⟩:=k
 simp only [GX] at kb
 unfold lf at o2
 refine A8 Xp (by simp [KP]) fun wf rp=>?_;unfold KP;simp (disch:=omega)only[go_sem, *]
 refine Aa (fun hc=>by omega) (fun hc=>?_)
 simp (disch:=omega)only[go_sem, *]
 refine Pf.go (kJ) (by simp only [go_sem]) fun _=>?_;simp (disch:=omega)only[go_sem, *]
 refine lP (c:=⟨c.S,c.leaf,c.gone,c.at_+((nth L c.leaf).n - c.gone)⟩) (L:=L) (id:=id) (sv:=sv) ?_ hl o1 ?_
 ·have x3:AK h (((h.alloc ⟨2,[[.i .i64 0,.i .i64 0]]⟩).alloc ⟨2,[[.i .i64 0,.i .i64 0]]⟩).put (h.next+1) ⟨2,[[.i .i64 (DN (nth L c.leaf)),.i .i64 ((nth L c.leaf).n - c.gone)]]⟩):=by (repeat (first | exact AK.refl _ | refine AK.alloc ?_ _ | (refine AK.put ?_ _ _ ?_;rotate_left;(first | omega | (simp only [Ag,AB];omega)))))
  have k3:=Ej.put (c':=⟨c.S,c.leaf,c.gone,c.at_+((nth L c.leaf).n - c.gone)⟩) (k0.ext x3) rfl
  exact k3
 ·intro sv4 h4 c4 f4
  have sne:=k0.sne
  have svlt:Ba sv=true∨AW sv<h.next:=sne.imp (fun x=>x) fun x=>x.2
  have n4:=f4.next
  have l4:=f4.lim
  have y1:=f4.get (h.next+1) (by simp only [AB,Ag];omega) (by omega) (svlt.imp (fun x=>x) (fun x=>by omega))
  have y2:=f4.get h.next (by simp only [AB,Ag];omega) (by omega) (svlt.imp (fun x=>x) (fun x=>by omega))
  simp (disch:=omega)only[go_sem] at y1 y2 n4 l4
  have i4:=c4.hi
  simp (disch:=omega)only[go_sem, *]
  refine kk sv4 _ (c4.put_other (by omega) ?_) ?_
  ·rcases f4.own with h1 | ⟨h0,h1⟩ | h1
   ·exact .inl h1
   ·rcases svlt with h2 | h2
    ·rw [h2] at h0;cases h0
    ·exact .inr (by omega)
   ·simp only [AB,Ag] at h1
    exact .inr (by omega)
  ·refine CA.put_new ⟨by omega,l4,fun i hi hne hs=>?_, ?_⟩ (Nat.le_refl _)
   ·rw [f4.get i (by simp only [AB,Ag];omega) hne hs]
    simp (disch:=omega)only[go_sem]
   ·rcases f4.own with h1 | h1 | h1
    ·exact .inl h1
    ·exact .inr (.inl h1)
    ·simp only [AB,Ag] at h1
     exact .inr (.inr (by omega))
theorem Zw {h : AH} {id : Nat} {sv : V} {f : Fo} {c : Cs} {K : V → AH → Prop} (k : Ej h id sv f.flat c) (ho : f.ok) (hc : f.count = 1) (hl : f.len ≤ 4096)
    (kk:∀ sv' h',Ej h' id sv' f.flat (gP f.flat)→CA h id sv h' sv'→K (.tup []) h'):Cq tp SE [.p id 0 0] h K:=by
 have kb:=k.blk
 have klo:=k.lo
 have hD:=S8 ho hc hl
 simp only [GX] at kb
 have k2:Ej (h.put id (GX f.flat .ns ⟨[],c.leaf,0,0⟩)) id .ns f.flat ⟨[],c.leaf,0,0⟩:=by
  refine ⟨by rw [Ad,AC rfl],Sl.nil _ _ _,k.big,by simp,k.lo,k.hi⟩
 have f2:CA h id sv (h.put id (GX f.flat .ns ⟨[],c.leaf,0,0⟩)) .ns:=⟨Nat.le_refl _,rfl,fun i hi hne hs=>by rw [Ad,Ac hne],.inl rfl⟩
 refine A8 aGp (by simp [Pr]) fun wf rp=>?_;unfold Pr;simp (disch:=omega)only[go_sem, *]
 refine Mg (a:=0) k2 hD.1 (by have:=hD.1;have:=hD.2.1;simp only;omega) ?_
 intro sv3 h3 c3 f3
 simp (disch:=omega)only[go_sem, *]
 exact kk sv3 h3 c3 (f2.trans f3)
structure GS (h h':AH) (L:List Node) (id:Nat) (sv:V) (c:Cs):Prop where
 cur:Ej h' id sv L c
 ext:AK h h'
 id_:h.next≤id
theorem GS.step {h h1 h2:AH} {L:List Node} {id:Nat} {sv s2:V} {c c2:Cs} (n:GS h h1 L id sv c) (k:Ej h2 id s2 L c2) (f:CA h1 id sv h2 s2):GS h h2 L id s2 c2:=by
 have x:=n.ext
 have:=x.next;have:=f.next
 have i1:=n.id_
 have sne:=n.cur.sne
 refine ⟨k,⟨by omega,f.lim.trans x.lim,fun i hi=>?_⟩,n.id_⟩
 rw [f.get i (by omega) (by omega) (sne.imp (fun x=>x) (fun x=>by omega)),x.get i hi]
theorem GS.grow {h h1 h2:AH} {L:List Node} {id:Nat} {sv:V} {c:Cs} (n:GS h h1 L id sv c) (x:AK h1 h2):GS h h2 L id sv c:=
 ⟨n.cur.ext x,n.ext.trans x,n.id_⟩
theorem aG5 {h:AH} {L:List Node} {K:V→AH→Prop} (kbad:Bj L≠0→K .np h) (kk:Bj L=0→∀ id sv h',GS h h' L id sv (gP L)→K (.p id 0 0) h'):Cq tp X3 [.fl 3 (L.map Node.enc)] h K:=by
 refine A8 aFU (by simp [OV]) fun wf rp=>?_;unfold OV;simp (disch:=omega)only[go_sem, *]
 have hlm:=wf.1
 have hL:=rp.head.len
 refine Pf.go (HS) (by simp only [go_sem]) fun _=>?_;simp (disch:=omega)only[go_sem, *]
 refine Aa (fun hc=>?_) (fun hc=>?_)
 ·simp (disch:=omega)only[go_sem, *]
 ·have hr:Bj L=0:=by omega
  obtain ⟨hl128,f,ho,hc1,rfl,hdp,hln⟩:=(FB L).1 hr
  simp (disch:=omega)only[go_sem, *]
  refine Pf.go (Mb) (by simp only [go_sem]) fun _=>?_;simp (disch:=omega)only[go_sem, *]
  have xa:AK h (h.alloc (GX f.flat .ns ⟨[],0,0,0⟩)):=(AK.refl h).alloc _
  have k4:Ej (h.alloc (GX f.flat .ns ⟨[],0,0,0⟩)) h.next .ns f.flat ⟨[],0,0,0⟩:=
   ⟨by rw [AL,AC rfl],Sl.nil _ _ _,by omega,by simp,by rw [AG];omega,by rw [Ag];omega⟩
  refine Zw k4 ho hc1 hln ?_
  intro sv5 h5 c5 f5
  simp (disch:=omega)only[go_sem, *]
  have n4:GS h (h.alloc (GX f.flat .ns ⟨[],0,0,0⟩)) f.flat h.next .ns ⟨[],0,0,0⟩:=⟨k4,xa,Nat.le_refl _⟩
  exact kk hr _ _ _ (n4.step c5 f5)
end Go.Ab.T
namespace Go.Ab.T
open Go Go.Ab
def Hj:List AI→Int→Int
 | [],_=>-1
 | r::l,t=>if t<r.n then r.part else Hj l (t - r.n)
theorem Hm {f:Fo} (ho:f.ok) (hc:f.count=1) (hd:f.depth≤16) (hl:f.len≤4096) (hn:f.flat.length≤128):Bj f.flat=0:=(FB _).2 ⟨hn,f,ho,hc,rfl,hd,hl⟩
theorem Ka {α:Type} [Inhabited α] {a:α} {l:List α} {i:Nat}:nth (a::l) (i+1)=nth l i:=by simp [nth]
def Bd (w:List AI):Prop:=∀ r∈w,1≤r.n
theorem Bd.nth {w:List AI} (h:Bd w) {i:Nat} (hi:i<w.length):1≤(nth w i).n:=by
 rw [BX hi];exact h _ (List.getElem_mem _)
theorem Fo.runs_allpos:∀ (f:Fo),f.ok→Bd f.runs
 | .nil,_=>by intro r hr;cases hr
 | .leaf x r,ho=>by
  intro q hq
  rcases List.mem_cons.1 hq with rfl | hq
  ·exact De (by rw [ho.1];omega)
  ·exact Fo.runs_allpos r ho.2 q hq
 | .seq x k r,ho=>by
  intro q hq
  rcases List.mem_append.1 hq with hq | hq
  ·exact Fo.runs_allpos k ho.2.2.2.1 q hq
  ·exact Fo.runs_allpos r ho.2.2.2.2 q hq
 | .rep x k r,ho=>by
  intro q hq
  rcases List.mem_append.1 hq with hq | hq
  ·obtain ⟨l,hl,hq⟩:=List.mem_flatten.1 hq
   rw [List.eq_of_mem_replicate hl] at hq
   exact Fo.runs_allpos k ho.2.2.2.1 q hq
  ·exact Fo.runs_allpos r ho.2.2.2.2 q hq
theorem Cn:∀ {w:List AI},Bd w→0≤Ay w
 | [],_=>by simp [Ay]
 | r::l,h=>by
  have:=Cn (w:=l) (fun q hq=>h q (List.mem_cons_of_mem _ hq))
  have:=h r (List.mem_cons_self ..)
  simp only [Ay];omega
theorem LS:∀ (w:List AI) (i:Nat),i<w.length→Ay (w.take (i+1))=Ay (w.take i)+(nth w i).n
 | [],i,hi=>by simp at hi
 | r::l,0,hi=>by simp [Ay,nth]
 | r::l,i+1,hi=>by
  rw [Ka,List.take_succ_cons,List.take_succ_cons,Ay,Ay,LS l i (by simpa using hi)];omega
theorem MG (w:List AI) (i:Nat) (h:Bd w):Ay (w.take i)≤Ay w:=by
 have h1:=congrArg Ay (List.take_append_drop i w)
 rw [CP] at h1
 have:=Cn (w:=w.drop i) (fun q hq=>h q (List.mem_of_mem_drop hq))
 omega
theorem JE {a b:Int} (ha:0≤a) (hb:0≤b) (h:a+b≤4611686018427387904):Ga a b=a+b:=by unfold Ga;rw [if_neg (by omega)];omega
theorem UQ {B:List AI} {q r:AI} {l:List AI} (hr:1≤r.n):Bu (r::l) (B++[q])=if q.part=r.part then Bu l (B++[⟨q.part,Ga q.n r.n⟩]) else Bu l (B++[q]++[r]):=by
 have h1:nth (B++[q]) ((B++[q]).length - 1)=q:=by simp [nth,List.getD]
 rw [Bu,if_neg (by omega),h1]
 by_cases h:q.part=r.part
 ·rw [if_pos ⟨by simp,h⟩,if_pos h,h]
  congr 1
  rw [List.length_append,List.length_singleton,Nat.add_sub_cancel,List.set_append_right _ _ (Nat.le_refl _)]
  simp
 ·rw [if_neg (fun hh=>h hh.2),if_neg h]
theorem aJ {r:AI} {l:List AI} (hr:1≤r.n):Bu (r::l) []=Bu l [r]:=by
 rw [Bu,if_neg (by omega),if_neg (by simp)];rfl
def tk (p:Int):List AI→Int
 | []=>0
 | r::l=>(if r.part=p then r.n else 0)+tk p l
theorem bK (p:Int):∀ (a b:List AI),tk p (a++b)=tk p a+tk p b
 | [],b=>by simp [tk]
 | r::l,b=>by simp only [List.cons_append,tk,bK p l b];omega
def Sep:List AI→Prop
 | []=>True
 | [_]=>True
 | a::b::l=>a.part≠b.part∧Sep (b::l)
theorem N9:∀ {B:List AI} {q r:AI},Sep (B++[q])→q.part≠r.part→Sep (B++[q]++[r])
 | [],q,r,_,h=>⟨h,trivial⟩
 | [a],q,r,h1,h=>⟨h1.1,h,trivial⟩
 | a::b::B,q,r,h1,h=>⟨h1.1,N9 (B:=b::B) h1.2 h⟩
theorem N8:∀ {B:List AI} {q r:AI},Sep (B++[q])→q.part=r.part→Sep (B++[r])
 | [],q,r,_,h=>trivial
 | [a],q,r,h1,h=>⟨by rw [← h];exact h1.1,trivial⟩
 | a::b::B,q,r,h1,h=>⟨h1.1,N8 (B:=b::B) h1.2 h⟩
theorem QC {a b:List AI} (h:Bd (a++b)):Bd a∧Bd b:=⟨fun r hr=>h r (List.mem_append_left _ hr),fun r hr=>h r (List.mem_append_right _ hr)⟩
theorem Ld {a b:List AI} (h1:Bd a) (h2:Bd b):Bd (a++b):=fun r hr=>by
 rcases List.mem_append.1 hr with hr | hr
 ·exact h1 r hr
 ·exact h2 r hr
theorem HW {p a b:Int} {l:List AI} (ha:0≤a) (hb:0≤b):∀ (B:List AI) (t:Int),Hj (B++⟨p,a+b⟩::l) t=Hj (B++⟨p,a⟩::⟨p,b⟩::l) t
 | [],t=>by
  simp only [List.nil_append,Hj]
  by_cases h1:t<a+b
  ·rw [if_pos h1]
   by_cases h2:t<a
   ·rw [if_pos h2]
   ·rw [if_neg h2,if_pos (by omega)]
  ·rw [if_neg h1,if_neg (by omega),if_neg (by omega)];congr 1;omega
 | r::B,t=>by simp only [List.cons_append,Hj,HW ha hb B]
structure VS (L R:List AI):Prop where
 pos:Bd R
 sep:Sep R
 sum:Ay R=Ay L
 tks:∀ p,tk p R=tk p L
 at_:∀ t,Hj R t=Hj L t
 parts:∀ r∈R,∃ q∈L,q.part=r.part
 len:R.length≤L.length
 ne:L≠[]→R≠[]
theorem MJ:∀ (l B:List AI) (q:AI),Bd (B++[q])→Bd l→Sep (B++[q])→Ay (B++[q])+Ay l≤4611686018427387904→VS (B++[q]++l) (Bu l (B++[q]))
 | [],B,q,hp,_,hs,_=>by
  rw [Bu,List.append_nil]
  exact ⟨hp,hs,rfl,fun _=>rfl,fun _=>rfl,fun r hr=>⟨r,hr,rfl⟩,Nat.le_refl _,fun h=>h⟩
 | r::l,B,q,hp,hl,hs,hb=>by
  have hr:=hl r (List.mem_cons_self ..)
  have hl2:Bd l:=fun x hx=>hl x (List.mem_cons_of_mem _ hx)
  have hq:=hp q (by simp)
  have hB:=(QC hp).1
  have sB:=Cn hB
  have sl:=Cn hl2
  simp only [Ay,CP] at hb
  rw [UQ hr]
  by_cases h:q.part=r.part
  ·rw [if_pos h,JE (by omega) (by omega) (by omega)]
   have ih:=MJ l B ⟨q.part,q.n+r.n⟩ (Ld hB (fun x hx=>by simp at hx;subst hx;simp only;omega)) hl2 (N8 hs rfl) (by simp only [Ay,CP];omega)
   refine ⟨ih.pos,ih.sep,by rw [ih.sum];simp only [Ay,CP];omega,fun p=>?_,fun t=>?_,fun x hx=>?_, ?_,fun _=>ih.ne (by simp)⟩
   ·rw [ih.tks];simp only [tk,bK,h];split<;>omega
   ·rw [ih.at_]
    have e1:B++[⟨q.part,q.n+r.n⟩]++l=B++⟨q.part,q.n+r.n⟩::l:=by simp
    have e2:B++[q]++r::l=B++⟨q.part,q.n⟩::⟨q.part,r.n⟩::l:=by
     rw [show (⟨q.part,r.n⟩:AI)=r by cases r;simp_all];simp
    rw [e1,e2]
    exact HW (by omega) (by omega) B t
   ·obtain ⟨y,hy,he⟩:=ih.parts x hx
    rcases List.mem_append.1 hy with hy | hy
    ·rcases List.mem_append.1 hy with hy | hy
     ·exact ⟨y,by simp [hy],he⟩
     ·simp at hy;subst hy;exact ⟨q,by simp,he⟩
    ·exact ⟨y,by simp [hy],he⟩
   ·have:=ih.len;simp at this ⊢;omega
  ·rw [if_neg h]
   have ih:=MJ l (B++[q]) r (Ld hp (fun x hx=>by simp at hx;subst hx;exact hr)) hl2 (N9 hs h) (by simp only [Ay,CP];omega)
   have e:B++[q]++[r]++l=B++[q]++r::l:=by simp
   rw [e] at ih
   exact ih
theorem RX {L:List AI} (hp:Bd L) (hs:Ay L≤4611686018427387904):VS L (Bu L []):=by
 cases L with
 | nil=>exact ⟨hp,trivial,rfl,fun _=>rfl,fun _=>rfl,fun r hr=>⟨r,hr,rfl⟩,Nat.le_refl _,fun h=>h⟩
 | cons r l=>
  rw [aJ (hp r (List.mem_cons_self ..))]
  exact MJ l [] r (fun x hx=>by simp at hx;subst hx;exact hp _ (List.mem_cons_self ..)) (fun x hx=>hp x (List.mem_cons_of_mem _ hx)) trivial (by simpa [Ay] using hs)
theorem HP:∀ (L:List AI) (a:Int),Bd L→0≤a→a+Ay L≤4611686018427387904→C4 L a=a+Ay L
 | [],a,_,_,_=>by simp [C4,Ay]
 | r::l,a,hp,ha,hb=>by
  have hr:=hp r (List.mem_cons_self ..)
  have hl:Bd l:=fun x hx=>hp x (List.mem_cons_of_mem _ hx)
  have:=Cn hl
  simp only [Ay] at hb ⊢
  rw [C4,JE ha (by omega) (by omega),HP l _ hl (by omega) (by omega)];omega
theorem Ho {L:List AI} (hp:Bd L) (hs:Ay L≤4611686018427387904):EN L:=by
 intro i hi
 have h1:=LS L i hi
 have h2:=MG L (i+1) hp
 have h3:=Cn (w:=L.take i) (fun q hq=>hp q (List.mem_of_mem_take hq))
 omega
end Go.Ab.T
