/- Part of a proof that a law returns true for every input of the second form's bound (no other condition). -/
import Derived.Test.YtlcknhidblndnaaGreatPE
set_option linter.all false
namespace Go.Ab.T
open Go Go.Ab
structure AM where
 part:Int
 n:Int
 deriving Inhabited,DecidableEq
@[go_sem] def AM.enc (r:AM):List V:=[.i .i64 r.part,.i .i64 r.n]
def Fm (a b:Int):Int:=if 9223372036854775807 - max 0 b<max 0 a then 9223372036854775807 else max 0 a+max 0 b
theorem Ey {a b:Int}:0≤Fm a b∧Fm a b≤9223372036854775807:=by unfold Fm;split<;>omega
theorem Ph {a b:Int} (ha:a≤9223372036854775807) (hb:b≤9223372036854775807):Pf tp PZ [.i .i64 a,.i .i64 b] (.i .i64 (Fm a b)):=by
 refine AG fC (by simp [JT]) fun rp=>?_;unfold JT;simp (disch:=omega)only[go_sem, *]
 repeat' (first | (refine Av (fun hc=>?_) (fun hc=>?_)<;>simp (disch:=omega)only[go_sem, *]) | (refine Aa (fun hc=>?_) (fun hc=>?_)<;>simp (disch:=omega)only[go_sem, *]))
 all_goals (unfold Fm;split<;>omega)
theorem YI {a b:Int} (ha:a≤9223372036854775807) (hb:b≤9223372036854775807):Pf tp WW [.i .i64 a,.i .i64 b] (.i .i64 (Fm a b)):=by
 refine AG aEm (by simp [Oo]) fun rp=>?_;unfold Oo;simp (disch:=omega)only[go_sem, *]
 repeat' (first | (refine Av (fun hc=>?_) (fun hc=>?_)<;>simp (disch:=omega)only[go_sem, *]) | (refine Aa (fun hc=>?_) (fun hc=>?_)<;>simp (disch:=omega)only[go_sem, *]))
 all_goals (unfold Fm;split<;>omega)
def DW (L:List AM):Prop:=∀ i,i<L.length→(nth L i).n≤9223372036854775807
def Cj:List AM→Int→Int
 | [],n=>n
 | r::l,n=>Cj l (Fm n r.n)
theorem KY {L:List AM} (hok:DW L):Pf tp P3 [.fl 2 (L.map AM.enc)] (.i .i64 (Cj L 0)):=by
 refine AG fF (by simp [JW]) fun rp=>?_;unfold JW;simp (disch:=omega)only[go_sem, *]
 have hL:=rp.head.len
 refine Ah (fun n e h=>∃ (i:Nat) (a:Int),n=L.length - i∧h.lim=0∧e 6=.fl 2 (L.map AM.enc)∧e 7=.i .i64 L.length∧e 8=.i .i64 i∧e 3=.i .i64 a∧i≤L.length∧a≤9223372036854775807∧Cj (L.drop i) a=Cj L 0) ?_ _ _ _ ⟨0,0,rfl, ?_⟩
 ·rintro n e h ⟨i,a,rfl,hl,e6,e7,e8,e3,hi,ha,hz⟩ ih
  rw [An T8.eq_1]
  simp (disch:=omega)only[go_sem, *]
  refine Aa (fun hc=>?_) (fun hc=>?_)
  ·rw [AK (by omega),Cj] at hz
   have hb:=hok i (by omega)
   simp (disch:=omega)only[go_sem, *]
   refine Pf.go (Ph ha hb) (by simp only [go_sem]) fun _=>?_;simp (disch:=omega)only[go_sem, *]
   refine ih _ _ _ ?_ ⟨i+1,Fm a (nth L i).n,rfl, ?_⟩
   ·omega
   ·simp (disch:=omega)only[go_sem, *]
    ((repeat' refine And.intro ?_ ?_)<;>first | omega | assumption | (exact Ey.2))
  ·rw [List.drop_eq_nil_of_le (by omega),Cj] at hz
   simp (disch:=omega)only[go_sem, *]
 ·simp (disch:=omega)only[go_sem, *]
def Bm:List AM→List AM→List AM
 | [],out=>out
 | r::l,out=>if r.n<1 then Bm l out else
  if 0<out.length∧(nth out (out.length - 1)).part=r.part then Bm l (out.set (out.length - 1) ⟨(nth out (out.length - 1)).part,Fm (nth out (out.length - 1)).n r.n⟩) else Bm l (out++[r])
theorem Ej {A:List AM} {r:AM} (hA:DW A) (hr:r.n≤9223372036854775807):DW (A++[r]):=by
 intro i hi
 simp only [List.length_append,List.length_cons,List.length_nil] at hi
 by_cases h:i<A.length
 ·have:=hA i h
  simp only [nth,List.getD] at this ⊢
  rw [List.getElem?_append_left h];exact this
 ·have:i=A.length:=by omega
  subst this
  simpa [nth,List.getD] using hr
theorem JE {A:List AM} {j:Nat} {r:AM} (hA:DW A) (hr:r.n≤9223372036854775807):DW (A.set j r):=by
 intro i hi
 simp only [List.length_set] at hi
 have:=hA i hi
 simp only [nth,List.getD] at this ⊢
 rw [List.getElem?_set]
 split
 ·rename_i h;subst h;simp [hi];exact hr
 ·exact this
theorem Qv {L:List AM} (hok:DW L):Pf tp WU [.fl 2 (L.map AM.enc)] (.fl 2 ((Bm L []).map AM.enc)):=by
 refine AG aEk (by simp [Ol]) fun rp=>?_;unfold Ol;simp (disch:=omega)only[go_sem, *]
 have hL:=rp.head.len
 refine Ah (fun n e h=>∃ (i:Nat) (out:V) (A:List AM),n=L.length - i∧h.lim=0∧e 7=.fl 2 (L.map AM.enc)∧e 8=.i .i64 L.length∧e 9=.i .i64 i∧e 3=out∧i≤L.length∧A.length≤i∧Sl 0 h 2 out (A.map AM.enc)∧DW A∧Bm (L.drop i) A=Bm L []) ?_ _ _ _ ⟨0,.ns,[],rfl, ?_⟩
 ·rintro n e h ⟨i,out,A,rfl,hl,e7,e8,e9,e3,hi,hA,so,okA,hz⟩ ih
  rw [An Ut.eq_1]
  simp (disch:=omega)only[go_sem, *]
  obtain ⟨olen,obig,olt,olo,oget,oat,orow,ocell,ocells⟩:=so.facts
  refine Aa (fun hc=>?_) (fun hc=>?_)
  ·rw [AK (by omega),Bm] at hz
   have hb:=hok i (by omega)
   simp (disch:=omega)only[go_sem, *]
   have x1:Au h ((h.alloc ⟨2,[[.i .i64 0,.i .i64 0]]⟩).put h.next ⟨2,[[.i .i64 (nth L i).part,.i .i64 (nth L i).n]]⟩):=by (repeat (first | exact Au.refl _ | refine Au.alloc ?_ _ | (refine Au.put ?_ _ _ ?_;rotate_left;(first | omega | (simp only [Ag,Ai];omega)))))
   refine Aa (fun hc2=>?_) (fun hc2=>?_)
   ·rw [if_pos hc2] at hz
    simp (disch:=omega)only[go_sem, *]
    refine ih _ _ _ ?_ ⟨i+1,out,A,rfl, ?_⟩
    ·omega
    ·simp (disch:=omega)only[go_sem, *]
     ((repeat' refine And.intro ?_ ?_)<;>first | omega | assumption | (exact so.ext x1))
   ·rw [if_neg hc2] at hz
    simp (disch:=omega)only[go_sem, *]
    refine Av (fun hc3=>?_) (fun hc3=>?_)
    ·have hk:((A.length:Int) - 1).toNat=A.length - 1:=by omega
     simp (disch:=omega)only[go_sem, *]
     refine Aa (fun hc4=>?_) (fun hc4=>?_)
     ·rw [if_pos ⟨by omega,hc4⟩] at hz
      have hA1:=okA (A.length - 1) (by omega)
      simp (disch:=omega)only[go_sem, *]
      refine Pf.go (YI hA1 hb) (by simp only [go_sem]) fun _=>?_;simp (disch:=omega)only[go_sem, *]
      refine ih _ _ _ ?_ ⟨i+1,out,A.set (A.length - 1) ⟨(nth A (A.length - 1)).part,Fm (nth A (A.length - 1)).n (nth L i).n⟩,rfl, ?_⟩
      ·omega
      ·simp (disch:=omega)only[go_sem, *]
       ((repeat' refine And.intro ?_ ?_)<;>first | omega | assumption | (simp;omega) | (exact Sl.setT so (by omega) (by simp (disch:=omega)only[go_sem]<;>omega) (by simp (disch:=omega)only[go_sem, *])) | (refine JE okA ?_;exact Ey.2) | (rw [← hz,hc4]))
     ·simp only [hc4,and_false,reduceIte] at hz
      simp (disch:=omega)only[go_sem, *]
      refine Az (R:=A.map AM.enc) ((so.ext x1).alloc _) (by simp only [go_sem, *]) (Nat.zero_le _) (by simp;omega) ?_
      intro w h4 s4 g4
      have hl4:=g4.lim
      simp (disch:=omega)only[go_sem, *]
      refine ih _ _ _ ?_ ⟨i+1,w,A++[nth L i],rfl, ?_⟩
      ·omega
      ·simp (disch:=omega)only[go_sem, *]
       ((repeat' refine And.intro ?_ ?_)<;>first | omega | assumption | (simp;omega) | (simpa [AM.enc] using s4) | (exact Ej okA hb))
    ·have h0:A.length=0:=by omega
     simp only [h0,Nat.lt_irrefl,false_and,reduceIte] at hz
     simp (disch:=omega)only[go_sem, *]
     refine Az (R:=A.map AM.enc) ((so.ext x1).alloc _) (by simp only [go_sem, *]) (Nat.zero_le _) (by simp;omega) ?_
     intro w h4 s4 g4
     have hl4:=g4.lim
     simp (disch:=omega)only[go_sem, *]
     refine ih _ _ _ ?_ ⟨i+1,w,A++[nth L i],rfl, ?_⟩
     ·omega
     ·simp (disch:=omega)only[go_sem, *]
      ((repeat' refine And.intro ?_ ?_)<;>first | omega | assumption | (simp;omega) | (simpa [AM.enc] using s4) | (exact Ej okA hb))
  ·rw [List.drop_eq_nil_of_le (by omega),Bm] at hz
   simp (disch:=omega)only[go_sem, *]
   subst hz
   exact Sl.froze so (fun _=>rfl) trivial (by omega)
 ·simp (disch:=omega)only[go_sem, *]
  exact ⟨Sl.nil _ _ _,fun i hi=>by simp at hi⟩
end Go.Ab.T
namespace Go.Ab.T
open Go Go.Ab
structure Node where
 kind:Int
 part:Int
 n:Int
 deriving DecidableEq,Inhabited
@[go_sem] def Node.enc (x:Node):List V:=[.i .i64 x.kind,.i .i64 x.part,.i .i64 x.n]
def kids (x:Node):Int:=
 if x.n<1∨(x.kind≠1∧x.part≠0) then -1
 else if (x.kind=1∧0≤x.part∧x.part<6)∨x.kind=2 then 0
 else if x.kind=3∧x.n≤128 then x.n
 else if x.kind=4 then 1 else -1
theorem GP (x:Node): -1≤kids x∧kids x≤128:=by
 unfold kids;repeat' split
 all_goals omega
theorem RG {x:Node}:Pf tp P7 [.agg x.enc] (.i .i64 (kids x)):=by
 refine AG fK (by simp [J1]) fun rp=>?_;unfold J1;simp (disch:=omega)only[go_sem, *]
 repeat' (first | (refine Av (fun hc=>?_) (fun hc=>?_)<;>simp (disch:=omega)only[go_sem, *]) | (refine Aa (fun hc=>?_) (fun hc=>?_)<;>simp (disch:=omega)only[go_sem, *]))
 all_goals (unfold kids;repeat' split)
 all_goals omega
def Ec:List Node→Int→Int→Int
 | [],_,_=>0
 | x::r,left,n=>if kids x<0 then 0 else if left+(kids x - 1)=0 then n+1 else Ec r (left+(kids x - 1)) (n+1)
def size (L:List Node) (a:Int):Int:=if a<0∨(L.length:Int)≤a then 0 else Ec (L.drop a.toNat) 1 0
theorem jG {L:List Node} {a:Int}:Pf tp P6 [.fl 3 (L.map Node.enc),.i .i64 a] (.i .i64 (size L a)):=by
 refine AG fI (by simp [JZ]) fun rp=>?_;unfold JZ;simp (disch:=omega)only[go_sem, *]
 have hL:=rp.head.len
 repeat' (first | (refine Av (fun hc=>?_) (fun hc=>?_)<;>simp (disch:=omega)only[go_sem, *]) | (refine Aa (fun hc=>?_) (fun hc=>?_)<;>simp (disch:=omega)only[go_sem, *]))
 ·simp [size];omega
 ·simp [size];omega
 ·refine Ah (fun n e h=>∃ (i:Nat) (left:Int),n=L.length - i∧h.lim=0∧e 0=.fl 3 (L.map Node.enc)∧e 1=.i .i64 a∧e 5=.i .i64 left∧e 6=.i .i64 i∧a≤i∧i≤L.length∧0<left∧left≤1+128*i∧Ec (L.drop i) left (i - a)=size L a) ?_ _ _ _ ⟨a.toNat,1,rfl, ?_⟩
  ·rintro n e h ⟨i,left,rfl,hl,e0,e1,e5,e6,hi1,hi2,hl1,hl2,hz⟩ ih
   rw [An QZ.eq_1]
   simp (disch:=omega)only[go_sem, *]
   have hk:=GP (nth L i)
   refine Aa (fun hc=>?_) (fun hc=>?_)
   ·rw [AK (by omega),Ec] at hz
    simp (disch:=omega)only[go_sem, *]
    refine Pf.go (RG) (by simp only [go_sem]) fun _=>?_;simp (disch:=omega)only[go_sem, *]
    refine Aa (fun hc2=>?_) (fun hc2=>?_)
    ·rw [if_pos hc2] at hz
     simp (disch:=omega)only[go_sem, *]
    ·rw [if_neg hc2] at hz
     simp (disch:=omega)only[go_sem, *]
     refine Aa (fun hc3=>?_) (fun hc3=>?_)
     ·rw [if_pos hc3] at hz
      simp (disch:=omega)only[go_sem, *]
      omega
     ·rw [if_neg hc3] at hz
      simp (disch:=omega)only[go_sem, *]
      refine ih _ _ _ ?_ ⟨i+1,left+(kids (nth L i) - 1),rfl, ?_⟩
      ·omega
      ·simp (disch:=omega)only[go_sem, *]
       refine ⟨by omega,by omega,by omega,by omega, ?_⟩
       rw [← hz];congr 1;omega
   ·rw [List.drop_eq_nil_of_le (by omega),Ec] at hz
    simp (disch:=omega)only[go_sem, *]
  ·simp (disch:=omega)only[go_sem, *]
   ((repeat' refine And.intro ?_ ?_)<;>first | omega | assumption | ((congr 1;omega)) | ((simp only [size];rw [if_neg (by omega)];congr 1;omega)))
def Bq (L:List Node):Bool:=decide (0<L.length∧size L 0=L.length)
theorem Ku {L:List Node}:Pf tp PV [.fl 3 (L.map Node.enc)] (.b (Bq L)):=by
 refine AG eW (by simp [JO]) fun rp=>?_;unfold JO;simp (disch:=omega)only[go_sem, *]
 refine Av (fun hc=>?_) (fun hc=>?_)
 ·simp (disch:=omega)only[go_sem, *]
  refine Pf.go (jG) (by simp only [go_sem]) fun _=>?_;simp (disch:=omega)only[go_sem, *]
  simp only [Bq]
  congr 1
  simp;omega
 ·simp (disch:=omega)only[go_sem, *]
  simp only [Bq]
  simp;omega
def M5 (a b:Int):Int:=min 4097 (a+min 4097 b)
def HC (n t:Int):Int:=min 4097 (min 4097 n*t)
theorem RM {a b:Int} (ha:0≤a∧a≤4097) (hb:0≤b):Pf tp P9 [.i .i64 a,.i .i64 b] (.i .i64 (M5 a b)):=by
 refine AG fM (by simp [J3]) fun rp=>?_;unfold J3;simp (disch:=omega)only[go_sem, *]
 rfl
theorem Tk {n t:Int} (hn:0≤n) (ht:0≤t∧t≤4097):Pf tp P8 [.i .i64 n,.i .i64 t] (.i .i64 (HC n t)):=by
 have h1:0≤min 4097 n*t:=Int.mul_nonneg (by omega) ht.1
 have h2:min 4097 n*t≤4097*4097:=Int.mul_le_mul (by omega) ht.2 ht.1 (by omega)
 refine AG fL (by simp [J2]) fun rp=>?_;unfold J2;simp (disch:=omega)only[go_sem, *]
 rfl
end Go.Ab.T
namespace Go.Ab.T
open Go Go.Ab
structure Frame where
 node:Node
 left:Int
 depth:Int
 ticks:Int
 deriving DecidableEq,Inhabited
@[go_sem] def Frame.enc (f:Frame):List V:=[.i .i64 f.node.kind,.i .i64 f.node.part,.i .i64 f.node.n,.i .i64 f.left,.i .i64 f.depth,.i .i64 f.ticks]
def Frame.out (f:Frame):Int:=if f.node.kind=4 then HC f.node.n f.ticks else f.ticks
def Frame.take (up top:Frame):Frame:=⟨up.node,up.left - 1,max up.depth (top.depth+1),M5 up.ticks top.out⟩
def D9:List Frame→List Frame
 | []=>[]
 | [t]=>[t]
 | top::up::r=>if top.left=0 then D9 (up.take top::r) else top::up::r
termination_by l=>l.length
def AV (n:Node):Frame:=⟨n,kids n,0,if kids n=0 then min 4097 n.n else 0⟩
def DC:List Node→List Frame→List Frame
 | [],s=>s
 | n::l,s=>DC l (D9 (AV n::s))
def B4 (L:List Node):Frame:=nth (DC L [⟨⟨0,0,0⟩,1,0,0⟩]).reverse 0
structure Cn (p:Int) (f:Frame):Prop where
 n0:f.node.kind≠4∨0<f.node.n∨f.left<0
 left : -1 - p≤f.left∧f.left≤128
 depth:0≤f.depth∧f.depth≤p
 ticks:0≤f.ticks∧f.ticks≤4097
theorem Cn.more {p:Int} {f:Frame} (h:Cn p f):Cn (p+1) f:=⟨h.n0,by have:=h.left;omega,by have:=h.depth;omega,h.ticks⟩
theorem gZ {a b:Int} (ha:0≤a) (hb:0≤b):0≤M5 a b∧M5 a b≤4097:=by unfold M5;omega
theorem K4 {a b:Int} (ha:0≤a) (hb:0≤b):0≤HC a b∧HC a b≤4097:=by
 unfold HC
 have h1:0≤min 4097 a*b:=Int.mul_nonneg (by omega) hb
 omega
theorem Frame.out_bd {p:Int} {f:Frame} (h:Cn p f) (hl:f.left=0):0≤f.out∧f.out≤4097:=by
 unfold Frame.out
 have:=h.n0;have:=h.ticks
 split
 ·exact K4 (by omega) (by omega)
 ·omega
theorem Cn.took {p:Int} {u t:Frame} (hu:Cn p u) (ht:Cn p t) (hl:t.left=0):Cn (p+1) (u.take t):=by
 have a:=hu.n0;have b:=hu.left;have c:=hu.depth;have d:=hu.ticks
 have e:=ht.depth;have o:=Frame.out_bd ht hl
 refine ⟨?_, ?_, ?_, ?_⟩
 ·simp only [Frame.take];omega
 ·simp only [Frame.take];omega
 ·simp only [Frame.take];omega
 ·simp only [Frame.take];exact gZ d.1 o.1
theorem Nd {p:Int} {n:Node} (hp:0≤p):Cn p (AV n):=by
 have hk:=GP n
 refine ⟨?_,by simp only [AV];omega,by simp only [AV];omega, ?_⟩
 ·simp only [AV]
  by_cases h:kids n<0
  ·omega
  ·right;left
   unfold kids at h
   (repeat' split at h)<;>omega
 ·simp only [AV]
  split
  ·rename_i h
   have:1≤n.n:=by unfold kids at h;(repeat' split at h)<;>omega
   omega
  ·omega
def Fk (p:Int) (S:List Frame):Prop:=∀ f∈S,Cn p f
theorem Fk.more {p:Int} {S:List Frame} (h:Fk p S):Fk (p+1) S:=fun f hf=>(h f hf).more
theorem Df {α:Type} [Inhabited α] {a:α} {l:List α}:nth (a::l) 0=a:=by simp [nth]
end Go.Ab.T
namespace Go.Ab.T
open Go Go.Ab
set_option maxHeartbeats 4000000
theorem iY {top up:Frame} {r:List Frame}:nth (top::up::r).reverse (r.length+1)=top:=by simp [nth,List.getD]
theorem aFx {top up:Frame} {r:List Frame}:nth (top::up::r).reverse r.length=up:=by simp [nth,List.getD]
theorem Nn {top up:Frame} {r:List Frame}:(top::up::r).reverse.take (r.length+1)=(up::r).reverse:=by
 rw [List.reverse_cons,List.take_append_of_le_length (by simp)]
 exact List.take_of_length_le (by simp)
theorem L3 {up u:Frame} {r:List Frame}:(up::r).reverse.set r.length u=(u::r).reverse:=by
 rw [List.reverse_cons,List.reverse_cons,List.set_append_right _ _ (by simp)]
 simp
structure nQ (v:V) (len i:Nat) (F:List Frame) (p:Nat) (S:List Frame) (st:V) (e:Env) (h:AH):Prop where
 e4:e 4=st
 e12:e 12=v
 e13:e 13=.i .i64 len
 e14:e 14=.i .i64 i
 hl:h.lim=0
 sl:Sl 0 h 6 st (S.reverse.map Frame.enc)
 ok:Fk p S
 cnt:p+S.length=i+2
 pos:1≤S.length
 fin:D9 S=F
theorem Jn {v : V} {len i : Nat} {F : List Frame} {Q : Ex → Env → AH → Prop} (hi : i < 4294967296)
    (hQ:∀ p st e h',nQ v len i F p F st e h'→Q (.ex 2) e h'):∀ n e h',(∃ p S st,n=S.length∧nQ v len i F p S st e h')→ZC tp (.loop Lk) e h' Q:=by
 refine Ah _ ?_
 rintro n e h' ⟨p,S,st,rfl,⟨e4,e12,e13,e14,hl,sl,ok,cnt,pos,fin⟩⟩ ih
 obtain ⟨slen,sbig,slt,slo,sget,sat,srow,sc,scs⟩:=sl.facts
 have srl:=fun j (hj:j<(S.reverse.map Frame.enc).length)=>sl.rowlt hj
 simp only [List.length_reverse,List.length_map] at slen sbig slt slo sget sat srow srl
 rw [An Lk.eq_1]
 simp (disch:=omega)only[go_sem, *]
 refine Av (fun hc=>?_) (fun hc=>?_)
 ·obtain ⟨top,up,r,rfl⟩:∃ top up r,S=top::up::r:=by
   match S,hc with
   | [],hc=>simp at hc
   | [_],hc=>simp at hc
   | a::b::r,_=>exact ⟨a,b,r,rfl⟩
  have hr0:=iY (top:=top) (up:=up) (r:=r)
  have hr1:=aFx (top:=top) (up:=up) (r:=r)
  simp only [List.length_cons,Int.natCast_add,Int.natCast_one] at slen sbig slt slo sget sat srow srl cnt hc
  have k1:((r.length:Int)+1).toNat=r.length+1:=by omega
  have k2:((r.length:Int)+1+1 - 2).toNat=r.length:=by omega
  have srl0:=srl r.length (by omega)
  have spre:∀ {k:IntKind} {j:Int} {cs:List (List V)},0≤j→j≤(r.length:Int)+1+1→G4 (some ⟨6,cs⟩) 6 st none (some (.i k j)) none=some (B9 st j.toNat):=fun h0 h1=>sl.pre h0 (by simp;omega)
  have okt:=ok top (by simp)
  have oku:=ok up (by simp)
  have bt:=okt.left;have bd:=okt.depth;have bk:=okt.ticks
  have ut:=oku.left;have ud:=oku.depth;have uk:=oku.ticks
  have sct:=Fp (n:=r.length+1) scs
  simp (disch:=omega)only[go_sem, *]
  refine Aa (fun hc2=>?_) (fun hc2=>?_)
  ·simp (disch:=omega)only[go_sem, *]
   refine Aa (fun hc3=>?_) (fun hc3=>?_)
   ·have:=okt.n0
    simp (disch:=omega)only[go_sem, *]
    have hb:=K4 (a:=top.node.n) (b:=top.ticks) (by omega) (by omega)
    refine Pf.go ((Tk (by omega) (by omega))) (by simp only [go_sem]) fun _=>?_;simp (disch:=omega)only[go_sem, *]
    refine Pf.go ((RM (by omega) hb.1)) (by simp only [go_sem]) fun _=>?_;simp (disch:=omega)only[go_sem, *]
    refine ih _ _ _ ?_ ⟨p+1,up.take top::r,B9 st (r.length+1),rfl, ?_, ?_, ?_, ?_, ?_, ?_, ?_, ?_, ?_, ?_⟩
    ·simp
    ·simp (disch:=omega)only[go_sem, *]
    ·simp (disch:=omega)only[go_sem, *]
    ·simp (disch:=omega)only[go_sem, *]
    ·simp (disch:=omega)only[go_sem, *]
    ·simp (disch:=omega)only[go_sem, *]
    ·have st1:=sl.truncd (n:=r.length+1) (by simp)
     rw [← List.map_take,Nn] at st1
     rw [← L3 (up:=up)]
     refine st1.setT (by simp) ?_ ?_
     ·simp (disch:=omega)only[go_sem, *]
      omega
     ·simp (disch:=omega)only[go_sem, *]
      simp only [Frame.take,Frame.out,if_pos hc3]
    ·intro f hf
     rcases List.mem_cons.1 hf with rfl | hf
     ·exact Cn.took oku okt hc2
     ·exact (ok f (by simp [hf])).more
    ·simp only [List.length_cons] at cnt ⊢;omega
    ·simp
    ·rw [← fin];conv=>rhs;rw [D9,if_pos hc2]
   ·simp (disch:=omega)only[go_sem, *]
    refine Pf.go ((RM (by omega) (by omega))) (by simp only [go_sem]) fun _=>?_;simp (disch:=omega)only[go_sem, *]
    refine ih _ _ _ ?_ ⟨p+1,up.take top::r,B9 st (r.length+1),rfl, ?_, ?_, ?_, ?_, ?_, ?_, ?_, ?_, ?_, ?_⟩
    ·simp
    ·simp (disch:=omega)only[go_sem, *]
    ·simp (disch:=omega)only[go_sem, *]
    ·simp (disch:=omega)only[go_sem, *]
    ·simp (disch:=omega)only[go_sem, *]
    ·simp (disch:=omega)only[go_sem, *]
    ·have st1:=sl.truncd (n:=r.length+1) (by simp)
     rw [← List.map_take,Nn] at st1
     rw [← L3 (up:=up)]
     refine st1.setT (by simp) ?_ ?_
     ·simp (disch:=omega)only[go_sem, *]
      omega
     ·simp (disch:=omega)only[go_sem, *]
      simp only [Frame.take,Frame.out,if_neg hc3]
    ·intro f hf
     rcases List.mem_cons.1 hf with rfl | hf
     ·exact Cn.took oku okt hc2
     ·exact (ok f (by simp [hf])).more
    ·simp only [List.length_cons] at cnt ⊢;omega
    ·simp
    ·rw [← fin];conv=>rhs;rw [D9,if_pos hc2]
  ·simp (disch:=omega)only[go_sem, *]
   have hF:top::up::r=F:=by rw [← fin,D9,if_neg hc2]
   rw [hF] at fin sl ok pos
   refine hQ p st _ _ ⟨?_, ?_, ?_, ?_,hl,sl,ok, ?_,pos,fin⟩
   ·simp (disch:=omega)only[go_sem, *]
   ·simp (disch:=omega)only[go_sem, *]
   ·simp (disch:=omega)only[go_sem, *]
   ·simp (disch:=omega)only[go_sem, *]
   ·rw [← hF];simpa using cnt
 ·simp (disch:=omega)only[go_sem, *]
  have hF:S=F:=by
   match S,hc,pos with
   | [t],_,_=>rw [← fin,D9]
   | a::b::r,hc,_=>simp at hc;omega
  rw [hF] at fin sl ok pos cnt
  refine hQ p st _ _ ⟨?_, ?_, ?_, ?_,hl,sl,ok,cnt,pos,fin⟩
  ·simp (disch:=omega)only[go_sem, *]
  ·simp (disch:=omega)only[go_sem, *]
  ·simp (disch:=omega)only[go_sem, *]
  ·simp (disch:=omega)only[go_sem, *]
theorem Jw:∀ (S:List Frame),1≤S.length→1≤(D9 S).length
 | [],h=>by simp at h
 | [t],_=>by rw [D9];simp
 | t::u::r,_=>by
  rw [D9]
  split
  ·exact Jw (u.take t::r) (by simp)
  ·simp
termination_by S=>S.length
theorem Jo {L:List Node}:Pf tp P5 [.fl 3 (L.map Node.enc)] (.tup [.i .i64 (B4 L).depth,.i .i64 (B4 L).ticks]):=by
 refine AG fH (by simp [JY]) fun rp=>?_;unfold JY;simp (disch:=omega)only[go_sem, *]
 have hL:=rp.head.len
 refine Ah (fun n e h=>∃ (i:Nat) (st:V) (p:Nat) (S:List Frame),n=L.length - i∧h.lim=0∧e 12=.fl 3 (L.map Node.enc)∧e 13=.i .i64 L.length∧e 14=.i .i64 i∧e 4=st∧i≤L.length∧Sl 0 h 6 st (S.reverse.map Frame.enc)∧Fk p S∧p+S.length=i+1∧1≤S.length∧DC (L.drop i) S=DC L [⟨⟨0,0,0⟩,1,0,0⟩]) ?_ _ _ _ ⟨0,.sl 0 0 1 1,0,[⟨⟨0,0,0⟩,1,0,0⟩],rfl, ?_⟩
 ·rintro n e h ⟨i,st,p,S,rfl,hl,e12,e13,e14,e4,hi,sl,ok,cnt,pos,hz⟩ ih
  rw [An QY.eq_1]
  simp (disch:=omega)only[go_sem, *]
  refine Aa (fun hc=>?_) (fun hc=>?_)
  ·rw [AK (by omega),DC] at hz
   have hkb:=GP (nth L i)
   simp (disch:=omega)only[go_sem, *]
   refine Pf.go (RG) (by simp only [go_sem]) fun _=>?_;simp (disch:=omega)only[go_sem, *]
   have x1:Au h ((h.alloc ⟨3,[[.i .i64 0,.i .i64 0,.i .i64 0]]⟩).put h.next ⟨3,[Node.enc (nth L i)]⟩):=by (repeat (first | exact Au.refl _ | refine Au.alloc ?_ _ | (refine Au.put ?_ _ _ ?_;rotate_left;(first | omega | (simp only [Ag,Ai];omega)))))
   refine Az (R:=S.reverse.map Frame.enc) ((sl.ext x1).alloc _) (by simp only [go_sem, *]) (Nat.zero_le _) (by simp;omega) ?_
   intro w h4 s4 g4
   have hl4:=g4.lim
   have hn4:=g4.next
   have s5:Sl 0 h4 6 w ((⟨nth L i,kids (nth L i),0,0⟩::S).reverse.map Frame.enc):=by simpa [Frame.enc] using s4
   obtain ⟨slen,sbig,slt,slo,sget,sat,srow,sc,scs⟩:=s5.facts
   simp only [List.length_reverse,List.length_cons,Int.natCast_add,Int.natCast_one] at slen sbig slt slo sget sat srow
   have srl:=s5.rowlt (j:=S.length) (by simp)
   simp only [Ag,Ai,A9,DK] at hn4 hl4
   have hb4:h4.get h.next=some ⟨3,[Node.enc (nth L i)]⟩:=by
    have hne:AD st=true∨h.next≠Aq st:=by
     refine .inr ?_
     have:=(sl.facts).lt (by simp;omega)
     omega
    rw [g4.get _ (by simp only [Ag,Ai];omega) hne]
    simp (disch:=omega)only[go_sem, *]
   have hrv:nth (⟨nth L i,kids (nth L i),0,0⟩::S).reverse S.length=⟨nth L i,kids (nth L i),0,0⟩:=by simp [nth,List.getD]
   have hnl:(0:Int)≤L.length:=by omega
   simp (disch:=omega)only[Node.enc] at hb4
   rw [hl] at hl4
   simp (disch:=omega)only[go_sem, *]
   refine Aa (fun hc2=>?_) (fun hc2=>?_)
   ·have hkn:1≤(nth L i).n:=by unfold kids at hc2;(repeat' split at hc2)<;>omega
    have hrv0:=hrv
    rw [hc2] at hrv0
    simp (disch:=omega)only[go_sem, *]
    refine Jn (v:=.fl 3 (L.map Node.enc)) (len:=L.length) (i:=i) (F:=D9 (AV (nth L i)::S)) (by omega) ?_ _ _ _ ⟨p,AV (nth L i)::S,w,rfl, ?_, ?_, ?_, ?_, ?_, ?_, ?_, ?_, ?_, ?_⟩
    ·intro p' st' e' h' m
     have hpos:=Jw (AV (nth L i)::S) (by simp)
     obtain ⟨m4,m12,m13,m14,ml,ms,mo,mc,mp,mf⟩:=m
     simp (disch:=omega)only[go_sem, *]
     refine ih _ _ _ ?_ ⟨i+1,st',p',D9 (AV (nth L i)::S),rfl, ?_⟩
     ·omega
     ·simp (disch:=omega)only[go_sem, *]
      ((repeat' refine And.intro ?_ ?_)<;>first | omega | assumption | (exact ms))
    ·simp (disch:=omega)only[go_sem, *]
    ·simp (disch:=omega)only[go_sem, *]
    ·simp (disch:=omega)only[go_sem, *]
    ·simp (disch:=omega)only[go_sem, *]
    ·simp (disch:=omega)only[go_sem, *]
    ·(have hpf:AV (nth L i)=⟨nth L i,kids (nth L i),0,min 4097 (nth L i).n⟩:=(by simp only [AV,if_pos hc2]);rw [hpf,←L3 (up:=⟨nth L i,kids (nth L i),0,0⟩)];refine s5.setT (j:=S.length) (by simp) ?_ ?_;all_goals (first | (simp (disch:=omega)only[go_sem, *];done) | (simp (disch:=omega)only[go_sem, *];omega) | omega))
    ·intro f hf
     rcases List.mem_cons.1 hf with rfl | hf
     ·exact Nd (by omega)
     ·exact ok f hf
    ·simp only [List.length_cons];omega
    ·simp
    ·rfl
   ·simp (disch:=omega)only[go_sem, *]
    refine Jn (v:=.fl 3 (L.map Node.enc)) (len:=L.length) (i:=i) (F:=D9 (AV (nth L i)::S)) (by omega) ?_ _ _ _ ⟨p,AV (nth L i)::S,w,rfl, ?_, ?_, ?_, ?_, ?_, ?_, ?_, ?_, ?_, ?_⟩
    ·intro p' st' e' h' m
     have hpos:=Jw (AV (nth L i)::S) (by simp)
     obtain ⟨m4,m12,m13,m14,ml,ms,mo,mc,mp,mf⟩:=m
     simp (disch:=omega)only[go_sem, *]
     refine ih _ _ _ ?_ ⟨i+1,st',p',D9 (AV (nth L i)::S),rfl, ?_⟩
     ·omega
     ·simp (disch:=omega)only[go_sem, *]
      ((repeat' refine And.intro ?_ ?_)<;>first | omega | assumption | (exact ms))
    ·simp (disch:=omega)only[go_sem, *]
    ·simp (disch:=omega)only[go_sem, *]
    ·simp (disch:=omega)only[go_sem, *]
    ·simp (disch:=omega)only[go_sem, *]
    ·simp (disch:=omega)only[go_sem, *]
    ·(have hpf:AV (nth L i)=⟨nth L i,kids (nth L i),0,0⟩:=(by simp only [AV,if_neg hc2]);rw [hpf];exact s5)
    ·intro f hf
     rcases List.mem_cons.1 hf with rfl | hf
     ·exact Nd (by omega)
     ·exact ok f hf
    ·simp only [List.length_cons];omega
    ·simp
    ·rfl
  ·rw [List.drop_eq_nil_of_le (by omega),DC] at hz
   have hme:B4 L=nth S.reverse 0:=by rw [B4,←hz]
   obtain ⟨slen,sbig,slt,slo,sget,sat,srow,_,_⟩:=sl.facts
   simp only [List.length_reverse] at slen sbig slt slo sget sat srow
   have z0:Int.toNat 0=0:=rfl
   have srow0:=srow 0 (by omega)
   rw [Nat.add_zero] at srow0
   have hsl:(0:Int)<S.length:=by omega
   simp (disch:=omega)only[go_sem, *]
 ·simp (disch:=omega)only[go_sem, *]
  refine ⟨?_, ?_⟩
  ·exact .inr ⟨0,0,1,_,rfl,rfl,by simp,by simp [Frame.enc],by simp,by simp [AH.alloc,AH.emp],Nat.le_refl _,by simp⟩
  ·intro f hf
   simp only [List.mem_singleton] at hf
   subst hf
   exact ⟨.inl (by simp),by simp,by simp,by simp⟩
end Go.Ab.T
namespace Go.Ab.T
open Go Go.Ab
def Jl (L:List Node):Bool:=decide (Bq L=true∧(B4 L).ticks≤4096)
def LP (L:List Node):Int:=if Jl L=true then (B4 L).ticks else 0
theorem KA {L:List Node}:Pf tp PU [.fl 3 (L.map Node.enc)] (.tup [.i .i64 (LP L),.b (Jl L)]):=by
 refine AG eV (by simp [JN]) fun rp=>?_;unfold JN;simp (disch:=omega)only[go_sem, *]
 refine Pf.go (Ku) (by simp only [go_sem]) fun _=>?_;simp (disch:=omega)only[go_sem, *]
 refine Bi (fun hc=>?_) (fun hc=>?_)
 ·simp (disch:=omega)only[go_sem, *]
  simp at hc
  simp [LP,Jl,hc]
 ·simp at hc
  simp (disch:=omega)only[go_sem, *]
  refine Pf.go (Jo) (by simp only [go_sem]) fun _=>?_;simp (disch:=omega)only[go_sem, *]
  refine Aa (fun hc2=>?_) (fun hc2=>?_)
  ·simp (disch:=omega)only[go_sem, *]
   simp [LP,Jl,hc,hc2]
  ·simp (disch:=omega)only[go_sem, *]
   simp [LP,Jl,hc,hc2]
def Ib (L:List Node):Int:=if Bq L=true then (B4 L).depth else 0
theorem LS {L:List Node}:Pf tp PX [.fl 3 (L.map Node.enc)] (.i .i64 (Ib L)):=by
 refine AG eY (by simp [JP]) fun rp=>?_;unfold JP;simp (disch:=omega)only[go_sem, *]
 refine Pf.go (Ku) (by simp only [go_sem]) fun _=>?_;simp (disch:=omega)only[go_sem, *]
 refine Bi (fun hc=>?_) (fun hc=>?_)
 ·simp (disch:=omega)only[go_sem, *]
  simp at hc
  simp [Ib,hc]
 ·simp at hc
  simp (disch:=omega)only[go_sem, *]
  refine Pf.go (Jo) (by simp only [go_sem]) fun _=>?_;simp (disch:=omega)only[go_sem, *]
  simp [Ib,hc]
def A7 (L:List Node):Int:=if 128<L.length then 3 else if Bq L=false then 12 else if 16<Ib L then 14 else if Jl L=false then 18 else 0
theorem GT {L:List Node}:Pf tp Xo [.fl 3 (L.map Node.enc)] (.i .i64 (A7 L)):=by
 refine AG aEN (by simp [OT]) fun rp=>?_;unfold OT;simp (disch:=omega)only[go_sem, *]
 refine Pf.go (KA) (by simp only [go_sem]) fun _=>?_;simp (disch:=omega)only[go_sem, *]
 refine Aa (fun hc=>?_) (fun hc=>?_)
 ·simp (disch:=omega)only[go_sem, *]
  simp only [A7];rw [if_pos (by omega)]
 simp (disch:=omega)only[go_sem, *]
 refine Pf.go (Ku) (by simp only [go_sem]) fun _=>?_;simp (disch:=omega)only[go_sem, *]
 refine Bi (fun hc2=>?_) (fun hc2=>?_)
 ·simp (disch:=omega)only[go_sem, *]
  simp at hc2
  simp only [A7];rw [if_neg (by omega),if_pos hc2]
 simp at hc2
 simp (disch:=omega)only[go_sem, *]
 refine Pf.go (LS) (by simp only [go_sem]) fun _=>?_;simp (disch:=omega)only[go_sem, *]
 refine Aa (fun hc3=>?_) (fun hc3=>?_)
 ·simp (disch:=omega)only[go_sem, *]
  simp only [A7];rw [if_neg (by omega),if_neg (by simp [hc2]),if_pos (by omega)]
 simp (disch:=omega)only[go_sem, *]
 refine Bi (fun hc4=>?_) (fun hc4=>?_)
 ·simp (disch:=omega)only[go_sem, *]
  simp at hc4
  simp only [A7];rw [if_neg (by omega),if_neg (by simp [hc2]),if_neg (by omega),if_pos hc4]
 ·simp (disch:=omega)only[go_sem, *]
  simp at hc4
  simp only [A7];rw [if_neg (by omega),if_neg (by simp [hc2]),if_neg (by omega),if_neg (by simp [hc4])]
end Go.Ab.T
namespace Go.Ab.T
open Go Go.Ab
def C4 (x:Node):Int:=if x.kind=2 then -1 else x.part
theorem iJ {x:Node}:Pf tp PY [.agg x.enc] (.i .i64 (C4 x)):=by
 refine AG fA (by simp [JR]) fun rp=>?_;unfold JR;simp (disch:=omega)only[go_sem, *]
 repeat' (first | (refine Av (fun hc=>?_) (fun hc=>?_)<;>simp (disch:=omega)only[go_sem, *]) | (refine Aa (fun hc=>?_) (fun hc=>?_)<;>simp (disch:=omega)only[go_sem, *]))
 ·simp [C4, *]
 ·simp [C4, *]
theorem eP {x:Node}:Pf tp PT [.agg x.enc] (.b (decide (0≤kids x))):=by
 refine AG eU (by simp [JM]) fun rp=>?_;unfold JM;simp (disch:=omega)only[go_sem, *]
 repeat' (first | (refine Av (fun hc=>?_) (fun hc=>?_)<;>simp (disch:=omega)only[go_sem, *]) | (refine Aa (fun hc=>?_) (fun hc=>?_)<;>simp (disch:=omega)only[go_sem, *]))
 all_goals unfold kids
 all_goals rw [Bool.eq_iff_iff]
 all_goals (repeat' split)
 all_goals simp only [decide_eq_true_eq,Bool.false_eq_true,false_iff,true_iff,iff_true,iff_false]
 all_goals omega
theorem Jh (x:Node) (h:0≤kids x):(x.kind=3→kids x=x.n)∧(x.kind=4→kids x=1)∧(x.kind≠3→x.kind≠4→kids x=0):=by
 unfold kids at h ⊢
 refine ⟨fun hk=>?_,fun hk=>?_,fun h3 h4=>?_⟩<;>(repeat' split)<;>(repeat' split at h)<;>omega
set_option maxHeartbeats 4000000 in
theorem Gt {L:List Node} {a:Int}:Pf tp RC [.fl 3 (L.map Node.enc),.i .i64 a] (.i .i64 (size L a)):=by
 refine AG aEJ (by simp [OO]) fun rp=>?_;unfold OO;simp (disch:=omega)only[go_sem, *]
 have hL:=rp.head.len
 repeat' (first | (refine Av (fun hc=>?_) (fun hc=>?_)<;>simp (disch:=omega)only[go_sem, *]) | (refine Aa (fun hc=>?_) (fun hc=>?_)<;>simp (disch:=omega)only[go_sem, *]))
 ·simp [size];omega
 ·simp [size];omega
 ·refine Ah (fun n e h=>∃ (i:Nat) (left:Int),n=L.length - i∧h.lim=0∧e 0=.fl 3 (L.map Node.enc)∧e 1=.i .i64 a∧e 5=.i .i64 left∧e 6=.i .i64 i∧a≤i∧i≤L.length∧0<left∧left≤1+128*i∧Ec (L.drop i) left (i - a)=size L a) ?_ _ _ _ ⟨a.toNat,1,rfl, ?_⟩
  ·rintro n e h ⟨i,left,rfl,hl,e0,e1,e5,e6,hi1,hi2,hl1,hl2,hz⟩ ih
   rw [An UF.eq_1]
   simp (disch:=omega)only[go_sem, *]
   have hk:=GP (nth L i)
   refine Aa (fun hc=>?_) (fun hc=>?_)
   ·rw [AK (by omega),Ec] at hz
    simp (disch:=omega)only[go_sem, *]
    refine Pf.go (eP) (by simp only [go_sem]) fun _=>?_;simp (disch:=omega)only[go_sem, *]
    refine Aa (fun hc2=>?_) (fun hc2=>?_)
    ·rw [if_pos (by omega)] at hz
     simp (disch:=omega)only[go_sem, *]
    ·rw [if_neg (by omega)] at hz
     have hka:=Jh (nth L i) (by omega)
     simp (disch:=omega)only[go_sem, *]
     repeat' (first | (refine Av (fun hc=>?_) (fun hc=>?_)<;>simp (disch:=omega)only[go_sem, *]) | (refine Aa (fun hc=>?_) (fun hc=>?_)<;>simp (disch:=omega)only[go_sem, *]))
     all_goals first
      | (rw [if_pos (by omega)] at hz
         rw [hz])
      | (rw [if_pos (by omega)] at hz
         rw [← hz];omega)
      | (rw [if_neg (by omega)] at hz
         refine ih _ _ _ ?_ ⟨i+1,left+(kids (nth L i) - 1),rfl, ?_⟩
         ·omega
         ·simp (disch:=omega)only[go_sem, *]
          refine ⟨by first | rfl | (congr 1;omega),by omega,by omega,by omega,by omega, ?_⟩
          rw [← hz];congr 1<;>omega)
   ·rw [List.drop_eq_nil_of_le (by omega),Ec] at hz
    simp (disch:=omega)only[go_sem, *]
  ·simp (disch:=omega)only[go_sem, *]
   ((repeat' refine And.intro ?_ ?_)<;>first | omega | assumption | ((congr 1;omega)) | ((simp only [size];rw [if_neg (by omega)];congr 1;omega)))
end Go.Ab.T
namespace Go.Ab.T
open Go Go.Ab
inductive Fo where
 | nil
 | leaf (x:Node) (r:Fo)
 | seq (x:Node) (k r:Fo)
 | rep (x:Node) (k r:Fo)
namespace Fo
def flat:Fo→List Node
 | nil=>[]
 | leaf x r=>x::flat r
 | seq x k r=>x::(flat k++flat r)
 | rep x k r=>x::(flat k++flat r)
def count:Fo→Nat
 | nil=>0
 | leaf _ r=>count r+1
 | seq _ _ r=>count r+1
 | rep _ _ r=>count r+1
def ok:Fo→Prop
 | nil=>True
 | leaf x r=>T.kids x=0∧ok r
 | seq x k r=>x.kind=3∧T.kids x=count k∧0<count k∧ok k∧ok r
 | rep x k r=>x.kind=4∧T.kids x=1∧count k=1∧ok k∧ok r
def depth:Fo→Nat
 | nil=>0
 | leaf _ r=>max 1 (depth r)
 | seq _ k r=>max (depth k+1) (depth r)
 | rep _ k r=>max (depth k+1) (depth r)
def len:Fo→Int
 | nil=>0
 | leaf x r=>x.n+len r
 | seq _ k r=>len k+len r
 | rep x k r=>x.n*len k+len r
theorem split:∀ (f:Fo) (a b:Nat),count f=a+b→ok f→∃ f1 f2,flat f=flat f1++flat f2∧count f1=a∧count f2=b∧ok f1∧ok f2
 | f,0,b,hc,ho=>⟨nil,f,by simp [flat],rfl,by omega,trivial,ho⟩
 | nil,a+1,b,hc,ho=>by simp only [count] at hc;omega
 | leaf x r,a+1,b,hc,ho=>by
  obtain ⟨f1,f2,h1,h2,h3,h4,h5⟩:=split r a b (by simp only [count] at hc;omega) ho.2
  exact ⟨leaf x f1,f2,by simp [flat,h1],by simp [count,h2],h3,⟨ho.1,h4⟩,h5⟩
 | seq x k r,a+1,b,hc,ho=>by
  obtain ⟨f1,f2,h1,h2,h3,h4,h5⟩:=split r a b (by simp only [count] at hc;omega) ho.2.2.2.2
  exact ⟨seq x k f1,f2,by simp [flat,h1],by simp [count,h2],h3,⟨ho.1,ho.2.1,ho.2.2.1,ho.2.2.2.1,h4⟩,h5⟩
 | rep x k r,a+1,b,hc,ho=>by
  obtain ⟨f1,f2,h1,h2,h3,h4,h5⟩:=split r a b (by simp only [count] at hc;omega) ho.2.2.2.2
  exact ⟨rep x k f1,f2,by simp [flat,h1],by simp [count,h2],h3,⟨ho.1,ho.2.1,ho.2.2.1,ho.2.2.2.1,h4⟩,h5⟩
end Fo
theorem Fo.nil_of {f:Fo} (h:f.count=0):f=.nil:=by cases f<;>simp [Fo.count] at h ⊢
theorem Fc:∀ (f:Fo) (R:List Node) (left n:Int),f.ok→((f.count:Int)<left→Ec (f.flat++R) left n=Ec R (left - f.count) (n+f.flat.length))∧(0<f.count→left=f.count→Ec (f.flat++R) left n=n+f.flat.length)
 | .nil,R,left,n,ho=>⟨fun _=>by simp [Fo.flat,Fo.count],fun h=>by simp [Fo.count] at h⟩
 | .leaf x r,R,left,n,ho=>by
  obtain ⟨hk,hor⟩:=ho
  have ih:=Fc r R (left+(kids x - 1)) (n+1) hor
  simp only [Fo.flat,Fo.count,List.cons_append,Ec,List.length_cons]
  rw [if_neg (by omega)]
  refine ⟨fun h=>?_,fun _ h=>?_⟩
  ·rw [if_neg (by omega),ih.1 (by omega)];congr 1<;>omega
  ·by_cases hr:r.count=0
   ·rw [if_pos (by omega),Fo.nil_of hr];simp [Fo.flat]
   ·rw [if_neg (by omega),ih.2 (by omega) (by omega)];omega
 | .seq x k r,R,left,n,ho=>by
  obtain ⟨h3,hk,hp,hok,hor⟩:=ho
  have i1:=Fc k (r.flat++R) (left+(kids x - 1)) (n+1) hok
  have i2:=Fc r R (left+(kids x - 1) - k.count) (n+1+k.flat.length) hor
  simp only [Fo.flat,Fo.count,List.cons_append,Ec,List.length_cons,List.append_assoc,List.length_append]
  rw [if_neg (by omega)]
  refine ⟨fun h=>?_,fun _ h=>?_⟩
  ·rw [if_neg (by omega),i1.1 (by omega),i2.1 (by omega)];congr 1<;>omega
  ·by_cases hr:r.count=0
   ·rw [if_neg (by omega),i1.2 (by omega) (by omega),Fo.nil_of hr];simp [Fo.flat];omega
   ·rw [if_neg (by omega),i1.1 (by omega),i2.2 (by omega) (by omega)];omega
 | .rep x k r,R,left,n,ho=>by
  obtain ⟨h3,hk,hp,hok,hor⟩:=ho
  have i1:=Fc k (r.flat++R) (left+(kids x - 1)) (n+1) hok
  have i2:=Fc r R (left+(kids x - 1) - k.count) (n+1+k.flat.length) hor
  simp only [Fo.flat,Fo.count,List.cons_append,Ec,List.length_cons,List.append_assoc,List.length_append]
  rw [if_neg (by omega)]
  refine ⟨fun h=>?_,fun _ h=>?_⟩
  ·rw [if_neg (by omega),i1.1 (by omega),i2.1 (by omega)];congr 1<;>omega
  ·by_cases hr:r.count=0
   ·rw [if_neg (by omega),i1.2 (by omega) (by omega),Fo.nil_of hr];simp [Fo.flat];omega
   ·rw [if_neg (by omega),i1.1 (by omega),i2.2 (by omega) (by omega)];omega
theorem E2 (x:Node) (h:0≤kids x):(kids x=0∧x.kind≠3∧x.kind≠4)∨(x.kind=3∧0<kids x)∨(x.kind=4∧kids x=1):=by
 have hk:=Jh x h
 by_cases h3:x.kind=3
 ·right;left
  refine ⟨h3, ?_⟩
  have:=hk.1 h3
  unfold kids at h this ⊢
  (repeat' split at h)<;>omega
 ·by_cases h4:x.kind=4
  ·exact .inr (.inr ⟨h4,hk.2.1 h4⟩)
  ·exact .inl ⟨hk.2.2 h3 h4,h3,h4⟩
theorem NA:∀ (L:List Node) (left:Nat) (n:Int),0<left→0≤n→Ec L left n≠0→∃ (f:Fo) (R:List Node),f.ok∧f.count=left∧L=f.flat++R∧Ec L left n=n+f.flat.length
 | [],left,n,hl,hn,hz=>by simp [Ec] at hz
 | x::r,left,n,hl,hn,hz=>by
  by_cases hk:kids x<0
  ·rw [Ec,if_pos hk] at hz;exact absurd rfl hz
  ·by_cases h0:(left:Int)+(kids x - 1)=0
   ·have hkx:kids x=0:=by omega
    refine ⟨.leaf x .nil,r,⟨hkx,trivial⟩,by simp only [Fo.count];omega,by simp [Fo.flat], ?_⟩
    rw [Ec,if_neg hk,if_pos h0];simp [Fo.flat]
   ·rw [Ec,if_neg hk,if_neg h0] at hz
    have e:(left:Int)+(kids x - 1)=((kids x).toNat+(left - 1):Nat):=by omega
    rw [e] at hz
    obtain ⟨f,R,hfo,hfc,hL,hs⟩:=NA r _ (n+1) (by omega) (by omega) hz
    obtain ⟨f1,f2,h1,h2,h3,h4,h5⟩:=Fo.split f _ _ hfc hfo
    rcases E2 x (by omega) with ⟨c1,c2,c3⟩ | ⟨c1,c2⟩ | ⟨c1,c2⟩
    ·refine ⟨.leaf x f,R,⟨c1,hfo⟩,by simp only [Fo.count];omega,by simp [Fo.flat,hL], ?_⟩
     rw [Ec,if_neg hk,if_neg h0,e,hs];simp only [Fo.flat,List.length_cons];omega
    ·refine ⟨.seq x f1 f2,R,⟨c1,by omega,by omega,h4,h5⟩,by simp only [Fo.count];omega,by simp [Fo.flat,hL,h1], ?_⟩
     rw [Ec,if_neg hk,if_neg h0,e,hs,h1];simp only [Fo.flat,List.length_cons];omega
    ·refine ⟨.rep x f1 f2,R,⟨c1,c2,by omega,h4,h5⟩,by simp only [Fo.count];omega,by simp [Fo.flat,hL,h1], ?_⟩
     rw [Ec,if_neg hk,if_neg h0,e,hs,h1];simp only [Fo.flat,List.length_cons];omega
theorem DT (L:List Node):Bq L=true↔∃ f:Fo,f.ok∧f.count=1∧L=f.flat:=by
 simp only [Bq,decide_eq_true_eq]
 constructor
 ·rintro ⟨hp,hs⟩
  unfold size at hs
  rw [if_neg (by omega)] at hs
  simp only [Int.toNat_zero,List.drop_zero] at hs
  obtain ⟨f,R,ho,hc,hL,hz⟩:=NA L 1 0 (by omega) (by omega) (by simp only [Int.natCast_one];omega)
  refine ⟨f,ho,hc, ?_⟩
  simp only [Int.natCast_one] at hz
  rw [hz] at hs
  have:R=[]:=by
   have:=congrArg List.length hL
   simp only [List.length_append] at this
   exact List.length_eq_zero_iff.1 (by omega)
  rw [hL,this,List.append_nil]
 ·rintro ⟨f,ho,hc,rfl⟩
  have hp:0<f.flat.length:=by cases f<;>simp [Fo.flat,Fo.count] at hc ⊢
  refine ⟨hp, ?_⟩
  unfold size
  rw [if_neg (by omega)]
  have:=(Fc f [] 1 0 ho).2 (by omega) (by omega)
  rw [List.append_nil] at this
  simp only [Int.toNat_zero,List.drop_zero]
  omega
theorem Ek {L:List Node} {a:Nat} {f:Fo} {R:List Node} (hd:L.drop a=f.flat++R) (ho:f.ok) (hc:f.count=1):size L a=f.flat.length:=by
 have hp:0<f.flat.length:=by cases f<;>simp [Fo.flat,Fo.count] at hc ⊢
 have hl:=congrArg List.length hd
 simp only [List.length_drop,List.length_append] at hl
 unfold size
 rw [if_neg (by omega),Int.toNat_natCast,hd,(Fc f R 1 0 ho).2 (by omega) (by omega)]
 omega
/-! ### The stack machine on a forest -/
def BV:Frame→Fo→Frame
 | t,.nil=>t
 | t,.leaf x r=>BV (t.take (AV x)) r
 | t,.seq x k r=>BV (t.take (BV (AV x) k)) r
 | t,.rep x k r=>BV (t.take (BV (AV x) k)) r
theorem Eu:∀ (f:Fo) (t:Frame),(BV t f).left=t.left - f.count
 | .nil,t=>by simp [BV,Fo.count]
 | .leaf x r,t=>by rw [BV,Eu r];simp only [Frame.take,Fo.count];omega
 | .seq x k r,t=>by rw [BV,Eu r];simp only [Frame.take,Fo.count];omega
 | .rep x k r,t=>by rw [BV,Eu r];simp only [Frame.take,Fo.count];omega
theorem Ew:∀ (f:Fo) (t:Frame),(BV t f).node=t.node
 | .nil,t=>by simp [BV]
 | .leaf x r,t=>by rw [BV,Ew r];simp only [Frame.take]
 | .seq x k r,t=>by rw [BV,Ew r];simp only [Frame.take]
 | .rep x k r,t=>by rw [BV,Ew r];simp only [Frame.take]
theorem HH {t u:Frame} {S:List Frame} (h:t.left≠0):D9 (t::u::S)=t::u::S:=by rw [D9,if_neg h]
theorem LX {t u:Frame} {S:List Frame} (h:t.left=0):D9 (t::u::S)=D9 (u.take t::S):=by rw [D9,if_pos h]
theorem Nc {t:Frame}:D9 [t]=[t]:=by rw [D9]
theorem HG {t:Frame} {S:List Frame} (h:t.left≠0):D9 (t::S)=t::S:=by
 cases S with
 | nil=>exact Nc
 | cons u S=>exact HH h
theorem DN:∀ (f:Fo) (R:List Node) (t:Frame) (S:List Frame),f.ok→(f.count:Int)≤t.left→0<f.count→DC (f.flat++R) (t::S)=DC R (D9 (BV t f::S))
 | .nil,R,t,S,ho,hl,hc=>by simp [Fo.count] at hc
 | .leaf x r,R,t,S,ho,hl,hc=>by
  obtain ⟨hk,hor⟩:=ho
  simp only [Fo.count] at hl
  have hp:(AV x).left=0:=by simp only [AV];exact hk
  have ht:(t.take (AV x)).left=t.left - 1:=rfl
  rw [Fo.flat,List.cons_append,DC,LX hp,BV]
  by_cases hr:r.count=0
  ·rw [Fo.nil_of hr,Fo.flat,BV,List.nil_append]
  ·rw [HG (by omega),DN r R _ S hor (by omega) (by omega)]
 | .seq x k r,R,t,S,ho,hl,hc=>by
  obtain ⟨h3,hk,hp,hok,hor⟩:=ho
  simp only [Fo.count] at hl
  have hpl:(AV x).left=k.count:=by simp only [AV];exact hk
  have hak:=Eu k (AV x)
  have ht:(t.take (BV (AV x) k)).left=t.left - 1:=rfl
  rw [Fo.flat,List.cons_append,List.append_assoc,DC,HH (by omega),BV,DN k _ (AV x) (t::S) hok (by omega) hp,LX (by omega)]
  by_cases hr:r.count=0
  ·rw [Fo.nil_of hr,Fo.flat,BV,List.nil_append]
  ·rw [HG (by omega),DN r R _ S hor (by omega) (by omega)]
 | .rep x k r,R,t,S,ho,hl,hc=>by
  obtain ⟨h3,hk,hp,hok,hor⟩:=ho
  simp only [Fo.count] at hl
  have hpl:(AV x).left=k.count:=by simp only [AV];omega
  have hak:=Eu k (AV x)
  have ht:(t.take (BV (AV x) k)).left=t.left - 1:=rfl
  rw [Fo.flat,List.cons_append,List.append_assoc,DC,HH (by omega),BV,DN k _ (AV x) (t::S) hok (by omega) (by omega),LX (by omega)]
  by_cases hr:r.count=0
  ·rw [Fo.nil_of hr,Fo.flat,BV,List.nil_append]
  ·rw [HG (by omega),DN r R _ S hor (by omega) (by omega)]
theorem Cw {x:Node} (h:0≤kids x):1≤x.n:=by
 unfold kids at h;(repeat' split at h)<;>omega
theorem Fo.len_pos:∀ (f:Fo),f.ok→0≤f.len∧(0<f.count→1≤f.len)
 | .nil,_=>by simp [Fo.len,Fo.count]
 | .leaf x r,ho=>by
  have:=Fo.len_pos r ho.2;have:=Cw (x:=x) (by rw [ho.1];omega)
  simp only [Fo.len];omega
 | .seq x k r,ho=>by
  have:=Fo.len_pos r ho.2.2.2.2;have h1:=Fo.len_pos k ho.2.2.2.1;have:=ho.2.2.1
  simp only [Fo.len];omega
 | .rep x k r,ho=>by
  have:=Fo.len_pos r ho.2.2.2.2;have h1:=Fo.len_pos k ho.2.2.2.1;have:=ho.2.2.1
  have h2:=Cw (x:=x) (by rw [ho.2.1];omega)
  have h3:1*1≤x.n*k.len:=Int.mul_le_mul h2 (by omega) (by omega) (by omega)
  simp only [Fo.len];omega
theorem C7:∀ (f:Fo) (t:Frame),f.ok→0≤t.depth→(BV t f).depth=max t.depth f.depth
 | .nil,t,ho,ht=>by simp only [BV,Fo.depth];omega
 | .leaf x r,t,ho,ht=>by
  rw [BV,C7 r _ ho.2 (by simp only [Frame.take];omega)];simp only [Frame.take,AV,Fo.depth];omega
 | .seq x k r,t,ho,ht=>by
  have:=C7 k (AV x) ho.2.2.2.1 (by simp [AV])
  simp only [AV] at this
  rw [BV,C7 r _ ho.2.2.2.2 (by simp only [Frame.take];omega)];simp only [Frame.take,AV,Fo.depth,this];omega
 | .rep x k r,t,ho,ht=>by
  have:=C7 k (AV x) ho.2.2.2.1 (by simp [AV])
  simp only [AV] at this
  rw [BV,C7 r _ ho.2.2.2.2 (by simp only [Frame.take];omega)];simp only [Frame.take,AV,Fo.depth,this];omega
theorem Mx {n l:Int} (hn:1≤n) (hl:1≤l):min 4097 (min 4097 n*min 4097 l)=min 4097 (n*l):=by
 by_cases h1:n≤4097
 ·by_cases h2:l≤4097
  ·rw [Int.min_eq_right h1,Int.min_eq_right h2]
  ·have a:1*l≤n*l:=Int.mul_le_mul_of_nonneg_right hn (by omega)
   have b:1*4097≤n*4097:=Int.mul_le_mul_of_nonneg_right hn (by omega)
   rw [Int.min_eq_right h1,Int.min_eq_left (by omega:4097≤l)];omega
 ·have a:n*1≤n*l:=Int.mul_le_mul_of_nonneg_left hl (by omega)
  have b:4097*1≤4097*min 4097 l:=Int.mul_le_mul_of_nonneg_left (by omega) (by omega)
  rw [Int.min_eq_left (by omega:4097≤n)];omega
theorem C8:∀ (f:Fo) (t:Frame),f.ok→0≤t.ticks∧t.ticks≤4097→(BV t f).ticks=min 4097 (t.ticks+f.len)
 | .nil,t,ho,ht=>by simp only [BV,Fo.len];omega
 | .leaf x r,t,ho,ht=>by
  have h1:=Cw (x:=x) (by rw [ho.1];omega)
  have h4:x.kind≠4:=by
   have:=E2 x (by rw [ho.1];omega)
   rw [ho.1] at this;omega
  have hl:=(Fo.len_pos r ho.2).1
  have e:(t.take (AV x)).ticks=min 4097 (t.ticks+x.n):=by
   simp only [Frame.take,Frame.out,AV,M5,if_neg h4,if_pos ho.1];omega
  rw [BV,C8 r _ ho.2 (by rw [e];omega),e];simp only [Fo.len];omega
 | .seq x k r,t,ho,ht=>by
  have hk:=C8 k (AV x) ho.2.2.2.1 (by
   have:=ho.2.2.1;have:=ho.2.1
   simp only [AV];rw [if_neg (by omega)];omega)
  have hl:=(Fo.len_pos r ho.2.2.2.2).1
  have hlk:=(Fo.len_pos k ho.2.2.2.1).1
  have h0:(AV x).ticks=0:=by
   have:=ho.2.2.1;have:=ho.2.1
   simp only [AV];rw [if_neg (by omega)]
  have e:(t.take (BV (AV x) k)).ticks=min 4097 (t.ticks+k.len):=by
   simp only [Frame.take,Frame.out,Ew,M5,hk,h0]
   rw [if_neg (by simp only [AV];have:=ho.1;omega)];omega
  rw [BV,C8 r _ ho.2.2.2.2 (by rw [e];omega),e];simp only [Fo.len];omega
 | .rep x k r,t,ho,ht=>by
  have hk:=C8 k (AV x) ho.2.2.2.1 (by
   have:=ho.2.1
   simp only [AV];rw [if_neg (by omega)];omega)
  have hl:=(Fo.len_pos r ho.2.2.2.2).1
  have hlk:=(Fo.len_pos k ho.2.2.2.1).2 (by have:=ho.2.2.1;omega)
  have h1:=Cw (x:=x) (by rw [ho.2.1];omega)
  have h0:(AV x).ticks=0:=by
   have:=ho.2.1
   simp only [AV];rw [if_neg (by omega)]
  have hx:1*1≤x.n*k.len:=Int.mul_le_mul h1 hlk (by omega) (by omega)
  have e:(t.take (BV (AV x) k)).ticks=min 4097 (t.ticks+x.n*k.len):=by
   simp only [Frame.take,Frame.out,Ew,M5,hk,h0,HC]
   rw [if_pos (by simp only [AV];exact ho.1),Int.zero_add,show (AV x).node.n=x.n from rfl,Mx h1 hlk];omega
  rw [BV,C8 r _ ho.2.2.2.2 (by rw [e];omega),e];simp only [Fo.len];omega
theorem BA {f:Fo} (ho:f.ok) (hc:f.count=1):(B4 f.flat).depth=f.depth∧(B4 f.flat).ticks=min 4097 f.len:=by
 have h:=DN f [] ⟨⟨0,0,0⟩,1,0,0⟩ [] ho (by simp [hc]) (by omega)
 rw [List.append_nil,DC,Nc] at h
 have e:B4 f.flat=BV ⟨⟨0,0,0⟩,1,0,0⟩ f:=by simp [B4,h,nth]
 rw [e,C7 f _ ho (by simp),C8 f _ ho (by simp)]
 simp
end Go.Ab.T
namespace Go.Ab.T
open Go Go.Ab
set_option maxHeartbeats 1000000
@[go_sem] def E1 (x:Int):List V:=[.i .i64 x]
def BF:Nat→Fo→List Int
 | _,.nil=>[]
 | b,.leaf x r=>(b:Int)::BF (b+1) r
 | b,.seq x k r=>(b:Int)::BF (b+1+k.flat.length) r
 | b,.rep x k r=>(b:Int)::BF (b+1+k.flat.length) r
theorem Dv:∀ (f:Fo) (b:Nat),(BF b f).length=f.count
 | .nil,b=>rfl
 | .leaf x r,b=>by simp [BF,Fo.count,Dv r]
 | .seq x k r,b=>by simp [BF,Fo.count,Dv r]
 | .rep x k r,b=>by simp [BF,Fo.count,Dv r]
theorem Fo.count_le:∀ (f:Fo),f.count≤f.flat.length
 | .nil=>by simp [Fo.count]
 | .leaf x r=>by have:=Fo.count_le r;simp [Fo.count,Fo.flat];omega
 | .seq x k r=>by have:=Fo.count_le r;simp [Fo.count,Fo.flat];omega
 | .rep x k r=>by have:=Fo.count_le r;simp [Fo.count,Fo.flat];omega
theorem AN {α:Type} {L:List α} {b:Nat} {x:α} {r:List α} (h:L.drop b=x::r):b<L.length∧L.drop (b+1)=r:=by
 constructor
 ·have:=congrArg List.length h
  simp only [List.length_drop,List.length_cons] at this;omega
 ·rw [← List.drop_drop,h];rfl
theorem CM {α:Type} {L:List α} {b:Nat} {p r:List α} (h:L.drop b=p++r):L.drop (b+p.length)=r:=by
 rw [← List.drop_drop,h,List.drop_left]
theorem B2 {α:Type} [Inhabited α] {L:List α} {b:Nat} {x:α} {r:List α} (h:L.drop b=x::r):nth L b=x:=by
 have h1:=AN h
 rw [AK h1.1] at h
 exact (List.cons.inj h).1
theorem PF {g:Fo} (hg:0<g.count) (ho:g.ok):∃ (f r:Fo),f.ok∧f.count=1∧r.ok∧g.flat=f.flat++r.flat∧r.count+1=g.count∧∀ b,BF b g=(b:Int)::BF (b+f.flat.length) r:=by
 cases g with
 | nil=>simp [Fo.count] at hg
 | leaf x r=>exact ⟨.leaf x .nil,r,⟨ho.1,trivial⟩,rfl,ho.2,by simp [Fo.flat],rfl,fun b=>by simp [BF,Fo.flat]⟩
 | seq x k r=>exact ⟨.seq x k .nil,r,⟨ho.1,ho.2.1,ho.2.2.1,ho.2.2.2.1,trivial⟩,rfl,ho.2.2.2.2,by simp [Fo.flat],rfl,fun b=>by simp [BF,Fo.flat];congr 1;omega⟩
 | rep x k r=>exact ⟨.rep x k .nil,r,⟨ho.1,ho.2.1,ho.2.2.1,ho.2.2.2.1,trivial⟩,rfl,ho.2.2.2.2,by simp [Fo.flat],rfl,fun b=>by simp [BF,Fo.flat];congr 1;omega⟩
theorem Gs {L : List Node} {a : Nat} {x : Node} {k : Fo} {R : List Node} (hd : L.drop a = x :: (k.flat ++ R)) (ho : k.ok) (hs : size L a = 1 + k.flat.length) :
    Pf tp Xn [.fl 3 (L.map Node.enc),.i .i64 a] (.fl 1 ((BF (a+1) k).map E1)):=by
 have hal:=(AN hd).1
 have hll:=congrArg List.length hd
 simp only [List.length_drop,List.length_cons,List.length_append] at hll
 refine AG aEM (by simp [OS]) fun rp=>?_;unfold OS;simp (disch:=omega)only[go_sem, *]
 have hL:=rp.head.len
 refine Pf.go (Gt) (by simp only [go_sem]) fun _=>?_;simp (disch:=omega)only[go_sem, *]
 refine Ah (fun n e h=>∃ (b:Nat) (g:Fo) (out:V) (D:List Int),n=g.count∧h.lim=0∧e 0=.fl 3 (L.map Node.enc)∧e 1=.i .i64 a∧e 5=.i .i64 (1+k.flat.length)∧e 6=out∧e 7=.i .i64 b∧Sl 0 h 1 out (D.map E1)∧g.ok∧L.drop b=g.flat++R∧b+g.flat.length=a+1+k.flat.length∧D++BF b g=BF (a+1) k) ?_ _ _ _ ⟨a+1,k,.ns,[],rfl, ?_⟩
 ·rintro n e h ⟨b,g,out,D,rfl,hl,e0,e1,e5,e6,e7,so,go,gd,gl,gz⟩ ih
  rw [An oM.eq_1]
  simp (disch:=omega)only[go_sem, *]
  have gpl:=Dv g b
  have kpl:=Dv k (a+1)
  have kcl:=Fo.count_le k
  have hzl:=congrArg List.length gz
  simp only [List.length_append] at hzl
  refine Aa (fun hc=>?_) (fun hc=>?_)
  ·have hgc:0<g.count:=by
    by_cases h0:g.count=0
    ·rw [Fo.nil_of h0] at gl;simp [Fo.flat] at gl;omega
    ·omega
   obtain ⟨f,r,fo,fc,ro,gf,gc,gp⟩:=PF hgc go
   rw [gf,List.append_assoc] at gd
   have hsz:=Ek gd fo fc
   have gfl:=congrArg List.length gf
   simp only [List.length_append] at gfl
   simp (disch:=omega)only[go_sem, *]
   refine Az (R:=D.map E1) (so.alloc _) (by simp only [go_sem, *]) (Nat.zero_le _) (by simp;omega) ?_
   intro w h4 s4 g4
   have hl4:=g4.lim
   simp (disch:=omega)only[go_sem, *]
   refine Pf.go (Gt) (by simp only [go_sem]) fun _=>?_;simp (disch:=omega)only[go_sem, *]
   have hfl:=Fo.count_le f
   refine ih _ _ _ ?_ ⟨b+f.flat.length,r,w,D++[(b:Int)],rfl, ?_⟩
   ·omega
   ·simp (disch:=omega)only[go_sem, *]
    ((repeat' refine And.intro ?_ ?_)<;>first | omega | assumption | (simpa [E1] using s4) | (exact CM gd) | ((rw [← gz,gp b];simp)))
  ·have h0:g.flat.length=0:=by omega
   have h1:=Fo.count_le g
   have h2:=Fo.nil_of (f:=g) (by omega)
   subst h2
   simp (disch:=omega)only[go_sem, *]
   rw [← gz,BF,List.append_nil]
   rw [BF,List.append_nil] at gz
   exact so.froze (fun _=>rfl) trivial (by rw [gz];omega)
 ·simp (disch:=omega)only[go_sem, *]
  exact ⟨Sl.nil _ _ _,(AN hd).2⟩
end Go.Ab.T
namespace Go.Ab.T
open Go Go.Ab
set_option maxHeartbeats 1000000
def DB:Fo→List Int
 | .nil=>[]
 | .leaf x r=>1::DB r
 | .seq x k r=>((k.depth:Int)+1)::DB r
 | .rep x k r=>((k.depth:Int)+1)::DB r
theorem Fq:∀ (f:Fo),(DB f).length=f.count
 | .nil=>rfl
 | .leaf x r=>by simp [DB,Fo.count,Fq r]
 | .seq x k r=>by simp [DB,Fo.count,Fq r]
 | .rep x k r=>by simp [DB,Fo.count,Fq r]
theorem Ez:∀ (f:Fo) (m:Int),0≤m→(DB f).foldl max m=max m f.depth
 | .nil,m,hm=>by simp [DB,Fo.depth];omega
 | .leaf x r,m,hm=>by simp only [DB,List.foldl_cons,Fo.depth];rw [Ez r _ (by omega)];omega
 | .seq x k r,m,hm=>by simp only [DB,List.foldl_cons,Fo.depth];rw [Ez r _ (by omega)];omega
 | .rep x k r,m,hm=>by simp only [DB,List.foldl_cons,Fo.depth];rw [Ez r _ (by omega)];omega
theorem Fo.depth_le:∀ (f:Fo),f.depth≤f.flat.length
 | .nil=>by simp [Fo.depth]
 | .leaf x r=>by have:=Fo.depth_le r;simp [Fo.depth,Fo.flat];omega
 | .seq x k r=>by have:=Fo.depth_le r;have:=Fo.depth_le k;simp [Fo.depth,Fo.flat];omega
 | .rep x k r=>by have:=Fo.depth_le r;have:=Fo.depth_le k;simp [Fo.depth,Fo.flat];omega
theorem GM:∀ (f:Fo) (i:Nat),i<f.count→0≤nth (DB f) i∧nth (DB f) i≤f.flat.length
 | .nil,i,h=>by simp [Fo.count] at h
 | .leaf x r,0,h=>by simp [DB,nth,Fo.flat];omega
 | .seq x k r,0,h=>by have:=Fo.depth_le k;simp [DB,nth,Fo.flat];omega
 | .rep x k r,0,h=>by have:=Fo.depth_le k;simp [DB,nth,Fo.flat];omega
 | .leaf x r,i+1,h=>by have:=GM r i (by simpa [Fo.count] using h);simp [DB,nth,Fo.flat] at this ⊢;omega
 | .seq x k r,i+1,h=>by have:=GM r i (by simpa [Fo.count] using h);simp [DB,nth,Fo.flat] at this ⊢;omega
 | .rep x k r,i+1,h=>by have:=GM r i (by simpa [Fo.count] using h);simp [DB,nth,Fo.flat] at this ⊢;omega
def TW (L:List Node) (b:Nat) (f:Fo):Prop:=∀ i,i<f.count→Pf tp MQ [.fl 3 (L.map Node.enc),.i .i64 (nth (BF b f) i)] (.i .i64 (nth (DB f) i))
theorem Ge {L : List Node} {a : Nat} {x : Node} {k : Fo} {R : List Node} (hd : L.drop a = x :: (k.flat ++ R)) (ho : k.ok) (hs : size L a = 1 + k.flat.length) (ha : TW L (a + 1) k) :
    Pf tp MQ [.fl 3 (L.map Node.enc),.i .i64 a] (.i .i64 ((k.depth:Int)+1)):=by
 have hll:=congrArg List.length hd
 simp only [List.length_drop,List.length_cons,List.length_append] at hll
 refine AG aEK (by simp [OP]) fun rp=>?_;unfold OP;simp (disch:=omega)only[go_sem, *]
 have hL:=rp.head.len
 refine Pf.go (Gs hd ho hs) (by simp only [go_sem]) fun _=>?_;simp (disch:=omega)only[go_sem, *]
 have hpl:=Dv k (a+1)
 have hdl:=Fq k
 have hcl:=Fo.count_le k
 have hdk:=Fo.depth_le k
 refine Ah (fun n e h=>∃ (i:Nat) (m:Int),n=(BF (a+1) k).length - i∧h.lim=0∧e 10=.fl 1 ((BF (a+1) k).map E1)∧e 11=.i .i64 (BF (a+1) k).length∧e 12=.i .i64 i∧e 0=.fl 3 (L.map Node.enc)∧e 1=.i .i64 a∧e 5=.i .i64 m∧i≤(BF (a+1) k).length∧0≤m∧m≤4000000000∧((DB k).drop i).foldl max m=k.depth) ?_ _ _ _ ⟨0,0,rfl, ?_⟩
 ·rintro n e h ⟨i,m,rfl,hl,e10,e11,e12,e0,e1,e5,hi,hm0,hm,hz⟩ ih
  rw [An oK.eq_1]
  simp (disch:=omega)only[go_sem, *]
  refine Aa (fun hc=>?_) (fun hc=>?_)
  ·rw [AK (by omega),List.foldl_cons] at hz
   have hb:=GM k i (by omega)
   simp (disch:=omega)only[go_sem, *]
   refine Pf.go (ha i (by omega)) (by simp only [go_sem]) fun _=>?_;simp (disch:=omega)only[go_sem, *]
   refine ih _ _ _ ?_ ⟨i+1,max m (nth (DB k) i),rfl, ?_⟩
   ·omega
   ·simp (disch:=omega)only[go_sem, *]
    ((repeat' refine And.intro ?_ ?_)<;>first | omega | assumption | (skip))
  ·rw [List.drop_eq_nil_of_le (by omega),List.foldl_nil] at hz
   simp (disch:=omega)only[go_sem, *]
 ·simp (disch:=omega)only[go_sem, *]
  have:=Ez k 0 (by omega)
  ((repeat' refine And.intro ?_ ?_)<;>first | omega | assumption | ((rw [this];omega)))
theorem FJ {L:List Node}:∀ (f:Fo) (b:Nat) (R:List Node),f.ok→L.drop b=f.flat++R→TW L b f
 | .nil,b,R,ho,hd=>fun i hi=>by simp [Fo.count] at hi
 | .leaf x r,b,R,ho,hd=>fun i hi=>by
  have hd':L.drop b=x::(r.flat++R):=hd
  match i,hi with
  | 0,_=>exact Ge (k:=.nil) (R:=r.flat++R) hd' trivial (Ek (f:=.leaf x .nil) hd' ⟨ho.1,trivial⟩ rfl) (fun i hi=>by simp [Fo.count] at hi)
  | i+1,hi=>exact FJ r (b+1) R ho.2 (AN hd').2 i (by simp only [Fo.count] at hi;omega)
 | .seq x k r,b,R,ho,hd=>fun i hi=>by
  have hd':L.drop b=x::(k.flat++(r.flat++R)):=by rw [hd];simp [Fo.flat]
  match i,hi with
  | 0,_=>
   have hs:=Ek (f:=.seq x k .nil) (R:=r.flat++R) (by rw [hd'];simp [Fo.flat]) ⟨ho.1,ho.2.1,ho.2.2.1,ho.2.2.2.1,trivial⟩ rfl
   exact Ge (k:=k) hd' ho.2.2.2.1 (by rw [hs];simp [Fo.flat];omega) (FJ k (b+1) _ ho.2.2.2.1 (AN hd').2)
  | i+1,hi=>exact FJ r (b+1+k.flat.length) R ho.2.2.2.2 (CM (AN hd').2) i (by simp only [Fo.count] at hi;omega)
 | .rep x k r,b,R,ho,hd=>fun i hi=>by
  have hd':L.drop b=x::(k.flat++(r.flat++R)):=by rw [hd];simp [Fo.flat]
  match i,hi with
  | 0,_=>
   have hs:=Ek (f:=.rep x k .nil) (R:=r.flat++R) (by rw [hd'];simp [Fo.flat]) ⟨ho.1,ho.2.1,ho.2.2.1,ho.2.2.2.1,trivial⟩ rfl
   exact Ge (k:=k) hd' ho.2.2.2.1 (by rw [hs];simp [Fo.flat];omega) (FJ k (b+1) _ ho.2.2.2.1 (AN hd').2)
  | i+1,hi=>exact FJ r (b+1+k.flat.length) R ho.2.2.2.2 (CM (AN hd').2) i (by simp only [Fo.count] at hi;omega)
end Go.Ab.T
namespace Go.Ab.T
open Go Go.Ab
set_option maxHeartbeats 1000000
def Du:Fo→List Int
 | .nil=>[]
 | .leaf x r=>min x.n 4097::Du r
 | .seq x k r=>min k.len 4097::Du r
 | .rep x k r=>min (x.n*k.len) 4097::Du r
theorem Fs:∀ (f:Fo),(Du f).length=f.count
 | .nil=>rfl
 | .leaf x r=>by simp [Du,Fo.count,Fs r]
 | .seq x k r=>by simp [Du,Fo.count,Fs r]
 | .rep x k r=>by simp [Du,Fo.count,Fs r]
theorem Nm {x:Node} {k r:Fo} (ho:(Fo.rep x k r).ok):1≤x.n∧1≤k.len∧1≤x.n*k.len:=by
 have h1:=Cw (x:=x) (by rw [ho.2.1];omega)
 have h2:=(Fo.len_pos k ho.2.2.2.1).2 (by have:=ho.2.2.1;omega)
 have h3:1*1≤x.n*k.len:=Int.mul_le_mul h1 h2 (by omega) (by omega)
 omega
theorem EF:∀ (f:Fo) (s:Int),f.ok→0≤s∧s≤4097→(Du f).foldl (fun s l=>min (s+l) 4097) s=min (s+f.len) 4097
 | .nil,s,ho,hs=>by simp [Du,Fo.len];omega
 | .leaf x r,s,ho,hs=>by
  have h1:=Cw (x:=x) (by rw [ho.1];omega)
  have h2:=(Fo.len_pos r ho.2).1
  simp only [Du,List.foldl_cons,Fo.len];rw [EF r _ ho.2 (by omega)];omega
 | .seq x k r,s,ho,hs=>by
  have h1:=(Fo.len_pos k ho.2.2.2.1).1
  have h2:=(Fo.len_pos r ho.2.2.2.2).1
  simp only [Du,List.foldl_cons,Fo.len];rw [EF r _ ho.2.2.2.2 (by omega)];omega
 | .rep x k r,s,ho,hs=>by
  have h1:=Nm ho
  have h2:=(Fo.len_pos r ho.2.2.2.2).1
  simp only [Du,List.foldl_cons,Fo.len];rw [EF r _ ho.2.2.2.2 (by omega)];omega
theorem GR:∀ (f:Fo) (i:Nat),f.ok→i<f.count→0≤nth (Du f) i∧nth (Du f) i≤4097
 | .nil,i,ho,h=>by simp [Fo.count] at h
 | .leaf x r,0,ho,h=>by have:=Cw (x:=x) (by rw [ho.1];omega);simp only [Du,Df];omega
 | .seq x k r,0,ho,h=>by have:=(Fo.len_pos k ho.2.2.2.1).1;simp only [Du,Df];omega
 | .rep x k r,0,ho,h=>by have:=Nm ho;simp only [Du,Df];omega
 | .leaf x r,i+1,ho,h=>GR r i ho.2 (by simpa [Fo.count] using h)
 | .seq x k r,i+1,ho,h=>GR r i ho.2.2.2.2 (by simpa [Fo.count] using h)
 | .rep x k r,i+1,ho,h=>GR r i ho.2.2.2.2 (by simpa [Fo.count] using h)
def T3 (L:List Node) (b:Nat) (f:Fo):Prop:=∀ i,i<f.count→Pf tp MR [.fl 3 (L.map Node.enc),.i .i64 (nth (BF b f) i)] (.i .i64 (nth (Du f) i))
def aCC (x:Node) (k t:Fo):Prop:=(kids x=0∧k=.nil∧t=.leaf x .nil)∨(x.kind=3∧t=.seq x k .nil)∨(x.kind=4∧t=.rep x k .nil∧1≤x.n∧1≤k.len∧1≤x.n*k.len)
theorem Ft {L : List Node} {a : Nat} {x : Node} {k t : Fo} {R : List Node} (hd : L.drop a = x :: (k.flat ++ R)) (ho : k.ok) (ht : aCC x k t) (hs : size L a = 1 + k.flat.length) (ha : T3 L (a + 1) k) :
    Pf tp MR [.fl 3 (L.map Node.enc),.i .i64 a] (.i .i64 (nth (Du t) 0)):=by
 have hll:=congrArg List.length hd
 simp only [List.length_drop,List.length_cons,List.length_append] at hll
 have hnx:=B2 hd
 have hal:=(AN hd).1
 refine AG aEL (by simp [OQ]) fun rp=>?_;unfold OQ;simp (disch:=omega)only[go_sem, *]
 have hL:=rp.head.len
 refine Pf.go (Gs hd ho hs) (by simp only [go_sem]) fun _=>?_;simp (disch:=omega)only[go_sem, *]
 have hpl:=Dv k (a+1)
 have hdl:=Fs k
 have hcl:=Fo.count_le k
 refine Ah (fun n e h=>∃ (i:Nat) (m:Int),n=(BF (a+1) k).length - i∧h.lim=0∧e 10=.fl 1 ((BF (a+1) k).map E1)∧e 11=.i .i64 (BF (a+1) k).length∧e 12=.i .i64 i∧e 0=.fl 3 (L.map Node.enc)∧e 1=.i .i64 a∧e 5=.i .i64 m∧i≤(BF (a+1) k).length∧0≤m∧m≤4097∧((Du k).drop i).foldl (fun s l=>min (s+l) 4097) m=min k.len 4097) ?_ _ _ _ ⟨0,0,rfl, ?_⟩
 ·rintro n e h ⟨i,m,rfl,hl,e10,e11,e12,e0,e1,e5,hi,hm0,hm,hz⟩ ih
  rw [An oL.eq_1]
  simp (disch:=omega)only[go_sem, *]
  refine Aa (fun hc=>?_) (fun hc=>?_)
  ·rw [AK (by omega),List.foldl_cons] at hz
   have hb:=GR k i ho (by omega)
   simp (disch:=omega)only[go_sem, *]
   refine Pf.go (ha i (by omega)) (by simp only [go_sem]) fun _=>?_;simp (disch:=omega)only[go_sem, *]
   refine ih _ _ _ ?_ ⟨i+1,min (m+nth (Du k) i) 4097,rfl, ?_⟩
   ·omega
   ·simp (disch:=omega)only[go_sem, *]
    ((repeat' refine And.intro ?_ ?_)<;>first | omega | assumption | (skip))
  ·rw [List.drop_eq_nil_of_le (by omega),List.foldl_nil] at hz
   subst hz
   simp (disch:=omega)only[go_sem, *]
   rcases ht with ⟨c1,rfl,rfl⟩ | ⟨c1,rfl⟩ | ⟨c1,rfl,c2,c3,c4⟩
   ·have h34:=E2 x (by rw [c1];omega)
    rw [c1] at h34
    refine Aa (fun hc2=>by omega) (fun hc2=>?_)
    simp (disch:=omega)only[go_sem, *]
    refine Aa (fun hc2=>by omega) (fun hc2=>?_)
    simp (disch:=omega)only[go_sem, *]
    simp only [Du,Df]
   ·refine Aa (fun hc2=>?_) (fun hc2=>by omega)
    simp (disch:=omega)only[go_sem, *]
    simp only [Du,Df]
   ·refine Aa (fun hc2=>by omega) (fun hc2=>?_)
    have b1:1≤min x.n 4097∧min x.n 4097≤4097:=by omega
    have b2:1≤min k.len 4097∧min k.len 4097≤4097:=by omega
    have b3:0≤min k.len 4097*min x.n 4097:=Int.mul_nonneg (by omega) (by omega)
    have b4:min k.len 4097*min x.n 4097≤4097*4097:=Int.mul_le_mul b2.2 b1.2 (by omega) (by omega)
    simp (disch:=omega)only[go_sem, *]
    have b5:=Mx c2 c3
    simp only [Du,Df]
    rw [Int.min_comm x.n 4097,Int.min_comm k.len 4097,Int.mul_comm (min 4097 k.len),Int.min_comm _ 4097,b5,Int.min_comm]
 ·simp (disch:=omega)only[go_sem, *]
  have:=EF k 0 ho (by omega)
  ((repeat' refine And.intro ?_ ?_)<;>first | omega | assumption | ((rw [this];omega)))
theorem FP {L:List Node}:∀ (f:Fo) (b:Nat) (R:List Node),f.ok→L.drop b=f.flat++R→T3 L b f
 | .nil,b,R,ho,hd=>fun i hi=>by simp [Fo.count] at hi
 | .leaf x r,b,R,ho,hd=>fun i hi=>by
  have hd':L.drop b=x::(r.flat++R):=hd
  match i,hi with
  | 0,_=>exact Ft (k:=.nil) (R:=r.flat++R) (t:=.leaf x .nil) hd' trivial (.inl ⟨ho.1,rfl,rfl⟩) (Ek (f:=.leaf x .nil) hd' ⟨ho.1,trivial⟩ rfl) (fun i hi=>by simp [Fo.count] at hi)
  | i+1,hi=>exact FP r (b+1) R ho.2 (AN hd').2 i (by simp only [Fo.count] at hi;omega)
 | .seq x k r,b,R,ho,hd=>fun i hi=>by
  have hd':L.drop b=x::(k.flat++(r.flat++R)):=by rw [hd];simp [Fo.flat]
  match i,hi with
  | 0,_=>
   have hs:=Ek (f:=.seq x k .nil) (R:=r.flat++R) (by rw [hd'];simp [Fo.flat]) ⟨ho.1,ho.2.1,ho.2.2.1,ho.2.2.2.1,trivial⟩ rfl
   exact Ft (k:=k) (t:=.seq x k .nil) hd' ho.2.2.2.1 (.inr (.inl ⟨ho.1,rfl⟩)) (by rw [hs];simp [Fo.flat];omega) (FP k (b+1) _ ho.2.2.2.1 (AN hd').2)
  | i+1,hi=>exact FP r (b+1+k.flat.length) R ho.2.2.2.2 (CM (AN hd').2) i (by simp only [Fo.count] at hi;omega)
 | .rep x k r,b,R,ho,hd=>fun i hi=>by
  have hd':L.drop b=x::(k.flat++(r.flat++R)):=by rw [hd];simp [Fo.flat]
  match i,hi with
  | 0,_=>
   have hs:=Ek (f:=.rep x k .nil) (R:=r.flat++R) (by rw [hd'];simp [Fo.flat]) ⟨ho.1,ho.2.1,ho.2.2.1,ho.2.2.2.1,trivial⟩ rfl
   exact Ft (k:=k) (t:=.rep x k .nil) hd' ho.2.2.2.1 (.inr (.inr ⟨ho.1,rfl,Nm ho⟩)) (by rw [hs];simp [Fo.flat];omega) (FP k (b+1) _ ho.2.2.2.1 (AN hd').2)
  | i+1,hi=>exact FP r (b+1+k.flat.length) R ho.2.2.2.2 (CM (AN hd').2) i (by simp only [Fo.count] at hi;omega)
end Go.Ab.T
namespace Go.Ab.T
open Go Go.Ab
set_option maxHeartbeats 1000000
def Fo.runs:Fo→List AM
 | .nil=>[]
 | .leaf x r=>⟨C4 x,x.n⟩::runs r
 | .seq x k r=>runs k++runs r
 | .rep x k r=>(List.replicate x.n.toNat (runs k)).flatten++runs r
theorem Fo.runs_pos:∀ (f:Fo),f.ok→0<f.count→1≤f.runs.length
 | .nil,ho,hc=>by simp [Fo.count] at hc
 | .leaf x r,ho,hc=>by simp [Fo.runs]
 | .seq x k r,ho,hc=>by
  have:=Fo.runs_pos k ho.2.2.2.1 ho.2.2.1
  simp [Fo.runs];omega
 | .rep x k r,ho,hc=>by
  have:=Fo.runs_pos k ho.2.2.2.1 (by have:=ho.2.2.1;omega)
  have hn:=Cw (x:=x) (by rw [ho.2.1];omega)
  have:1*1≤x.n.toNat*k.runs.length:=Nat.mul_le_mul (by omega) this
  simp [Fo.runs];omega
theorem Fo.runs_len:∀ (f:Fo),f.ok→(f.runs.length:Int)≤f.len
 | .nil,ho=>by simp [Fo.runs,Fo.len]
 | .leaf x r,ho=>by
  have h1:=Cw (x:=x) (by rw [ho.1];omega)
  have:=Fo.runs_len r ho.2
  simp [Fo.runs,Fo.len];omega
 | .seq x k r,ho=>by
  have:=Fo.runs_len k ho.2.2.2.1;have:=Fo.runs_len r ho.2.2.2.2
  simp [Fo.runs,Fo.len];omega
 | .rep x k r,ho=>by
  have h1:=Fo.runs_len k ho.2.2.2.1;have:=Fo.runs_len r ho.2.2.2.2
  have hn:=Cw (x:=x) (by rw [ho.2.1];omega)
  have h3:x.n*k.runs.length≤x.n*k.len:=Int.mul_le_mul_of_nonneg_left h1 (by omega)
  have h4:((x.n.toNat*k.runs.length:Nat):Int)=x.n*k.runs.length:=by rw [Int.natCast_mul,Int.toNat_of_nonneg (by omega)]
  simp only [Fo.runs,Fo.len,List.length_append,List.length_flatten,List.map_replicate,List.sum_replicate_nat,Int.natCast_add]
  omega
def CW:Fo→List (List AM)
 | .nil=>[]
 | .leaf x r=>[⟨C4 x,x.n⟩]::CW r
 | .seq x k r=>k.runs::CW r
 | .rep x k r=>(List.replicate x.n.toNat k.runs).flatten::CW r
theorem Cx:∀ (f:Fo),(CW f).flatten=f.runs
 | .nil=>rfl
 | .leaf x r=>by simp [CW,Fo.runs,Cx r]
 | .seq x k r=>by simp [CW,Fo.runs,Cx r]
 | .rep x k r=>by simp [CW,Fo.runs,Cx r]
theorem DS:∀ (f:Fo),(CW f).length=f.count
 | .nil=>rfl
 | .leaf x r=>by simp [CW,Fo.count,DS r]
 | .seq x k r=>by simp [CW,Fo.count,DS r]
 | .rep x k r=>by simp [CW,Fo.count,DS r]
def O0 (L:List Node) (b:Nat) (f:Fo):Prop:=∀ i,i<f.count→∀ (h:AH) (w:V) (A:List AM) (K:V→AH→Prop),h.lim=0→Sl 0 h 2 w (A.map AM.enc)→A.length+(nth (CW f) i).length≤4000000000 →
 (∀ r h',Sl 0 h' 2 r ((A++nth (CW f) i).map AM.enc)→h'.lim=0→K r h')→Cq tp Jf [.fl 3 (L.map Node.enc),.i .i64 (nth (BF b f) i),w] h K
section
variable {L:List Node} {a:Nat} {x:Node} {k:Fo} {R:List Node} {h:AH} {w:V} {A:List AM} {K:V→AH→Prop}
theorem Ta (hd:L.drop a=x::R) (hk:kids x=0) (h0:h.lim=0) (hA:Sl 0 h 2 w (A.map AM.enc)) (hl:A.length+[(⟨C4 x,x.n⟩:AM)].length≤4000000000)
    (k:∀ r h',Sl 0 h' 2 r ((A++[(⟨C4 x,x.n⟩:AM)]).map AM.enc)→h'.lim=0→K r h'):Cq tp Jf [.fl 3 (L.map Node.enc),.i .i64 a,w] h K:=by
 have hnx:=B2 hd
 have hal:=(AN hd).1
 have hc1:x.kind=1∨x.kind=2:=by
  unfold kids at hk;(repeat' split at hk)<;>omega
 simp only [List.length_cons,List.length_nil] at hl
 refine Ac PK (by simp [Ha]) fun wf rp=>?_;unfold Ha;simp (disch:=omega)only[go_sem, *]
 have hL:=rp.head.len
 refine Aa (fun hc=>?_) (fun hc=>?_)
 ·simp (disch:=omega)only[go_sem, *]
  refine Az (R:=A.map AM.enc) (hA.alloc _) (by simp only [go_sem, *]) (Nat.zero_le _) (by simp;omega) ?_
  intro r h4 s4 g4
  have hl4:=g4.lim
  simp (disch:=omega)only[go_sem, *]
  have hp:C4 x=x.part:=by unfold C4;rw [if_neg (by omega)]
  exact k _ _ (by simpa [AM.enc,hp] using s4) (by simpa [AH.alloc, *] using hl4)
 ·have h2:x.kind=2:=by omega
  simp (disch:=omega)only[go_sem, *]
  refine Az (R:=A.map AM.enc) (hA.alloc _) (by simp only [go_sem, *]) (Nat.zero_le _) (by simp;omega) ?_
  intro r h4 s4 g4
  have hl4:=g4.lim
  simp (disch:=omega)only[go_sem, *]
  have hp:C4 x = -1:=by unfold C4;rw [if_pos h2]
  exact k _ _ (by simpa [AM.enc,hp] using s4) (by simpa [AH.alloc, *] using hl4)
theorem SR {α:Type} [Inhabited α] {l:List (List α)} {i:Nat} (h:i<l.length):(l.drop i).flatten=nth l i++(l.drop (i+1)).flatten:=by
 rw [AK h,List.flatten_cons]
theorem YA (hd:L.drop a=x::(k.flat++R)) (ho:k.ok) (hk3:x.kind=3) (hkc:0<k.count) (hs:size L a=1+k.flat.length) (ha:O0 L (a+1) k) (hl:h.lim=0) (hA:Sl 0 h 2 w (A.map AM.enc)) (hlen:A.length+k.runs.length≤4000000000)
    (kk:∀ r h',Sl 0 h' 2 r ((A++k.runs).map AM.enc)→h'.lim=0→K r h'):Cq tp Jf [.fl 3 (L.map Node.enc),.i .i64 a,w] h K:=by
 have hnx:=B2 hd
 have hal:=(AN hd).1
 have hll:=congrArg List.length hd
 simp only [List.length_drop,List.length_cons,List.length_append] at hll
 refine Ac PK (by simp [Ha]) fun wf rp=>?_;unfold Ha;simp (disch:=omega)only[go_sem, *]
 have hL:=rp.head.len
 refine Pf.go (Gs hd ho hs) (by simp only [go_sem]) fun _=>?_;simp (disch:=omega)only[go_sem, *]
 have hpl:=Dv k (a+1)
 have hrl:=DS k
 have hcl:=Fo.count_le k
 refine Ah (fun n e h=>∃ (i:Nat) (o:V) (B:List AM),n=(BF (a+1) k).length - i∧h.lim=0∧e 61=.fl 1 ((BF (a+1) k).map E1)∧e 62=.i .i64 (BF (a+1) k).length∧e 63=.i .i64 i∧e 0=.fl 3 (L.map Node.enc)∧e 1=.i .i64 a∧e 2=o∧i≤(BF (a+1) k).length∧Sl 0 h 2 o (B.map AM.enc)∧B++((CW k).drop i).flatten=A++k.runs) ?_ _ _ _ ⟨0,w,A,rfl, ?_⟩
 ·rintro n e h ⟨i,o,B,rfl,hl,e61,e62,e63,e0,e1,e2,hi,sB,hz⟩ ih
  rw [An UB.eq_1]
  simp (disch:=omega)only[go_sem, *]
  refine Aa (fun hc=>?_) (fun hc=>?_)
  ·rw [SR (by omega)] at hz
   have hzl:=congrArg List.length hz
   simp only [List.length_append] at hzl
   simp (disch:=omega)only[go_sem, *]
   refine ha i (by omega) _ o B _ (by simp only [go_sem, *]) sB (by omega) ?_
   intro r h3 sr hl3
   simp (disch:=omega)only[go_sem, *]
   refine ih _ _ _ ?_ ⟨i+1,r,B++nth (CW k) i,rfl, ?_⟩
   ·omega
   ·simp (disch:=omega)only[go_sem, *]
    ((repeat' refine And.intro ?_ ?_)<;>first | omega | assumption | ((rw [← hz,List.append_assoc])))
  ·rw [List.drop_eq_nil_of_le (by omega)] at hz
   simp (disch:=omega)only[go_sem, *]
   exact kk _ _ (by rw [← hz];simpa using sB) hl
 ·simp (disch:=omega)only[go_sem, *]
  ((repeat' refine And.intro ?_ ?_)<;>first | omega | assumption | ((rw [List.drop_zero,Cx])) | ((rw [Cx])))
theorem Yh {r : Fo} (hd : L.drop a = x :: (k.flat ++ R)) (ho : (Fo.rep x k r).ok) (ha : O0 L (a + 1) k) (hl : h.lim = 0) (hA : Sl 0 h 2 w (A.map AM.enc)) (hlen : A.length + ((List.replicate x.n.toNat k.runs).flatten).length ≤ 4000000000)
    (kk:∀ r h',Sl 0 h' 2 r ((A++(List.replicate x.n.toNat k.runs).flatten).map AM.enc)→h'.lim=0→K r h'):Cq tp Jf [.fl 3 (L.map Node.enc),.i .i64 a,w] h K:=by
 have hnx:=B2 hd
 have hal:=(AN hd).1
 have h0:0<k.count:=by have:=ho.2.2.1;omega
 have hp0:nth (BF (a+1) k) 0=((a:Int)+1):=by
  cases k with
  | nil=>simp [Fo.count] at h0
  | leaf _ _=>simp [BF,nth]
  | seq _ _ _=>simp [BF,nth]
  | rep _ _ _=>simp [BF,nth]
 have hr0:nth (CW k) 0=k.runs:=by
  have h1:=Cx k
  have h2:=DS k
  rw [ho.2.2.1] at h2
  match hk:CW k,h2 with
  | [t],_=>rw [hk] at h1;simpa [nth] using h1
 have ha0:=ha 0 h0
 rw [hp0,hr0] at ha0
 have hk4:=ho.1
 have hn1:=Cw (x:=x) (by rw [ho.2.1];omega)
 have hr1:=Fo.runs_pos k ho.2.2.2.1 h0
 have hln:(List.replicate x.n.toNat k.runs).flatten.length=x.n.toNat*k.runs.length:=by simp
 have hln1:x.n.toNat*1≤x.n.toNat*k.runs.length:=Nat.mul_le_mul_left _ hr1
 refine Ac PK (by simp [Ha]) fun wf rp=>?_;unfold Ha;simp (disch:=omega)only[go_sem, *]
 have hL:=rp.head.len
 refine Ah (fun n e h=>∃ (i:Nat) (o:V) (B:List AM),n=x.n.toNat - i∧h.lim=0∧e 0=.fl 3 (L.map Node.enc)∧e 1=.i .i64 a∧e 2=o∧e 7=.i .i64 i∧i≤x.n.toNat∧Sl 0 h 2 o (B.map AM.enc)∧B.length+(x.n.toNat - i)*k.runs.length≤4000000000∧B++(List.replicate (x.n.toNat - i) k.runs).flatten=A++(List.replicate x.n.toNat k.runs).flatten) ?_ _ _ _ ⟨0,w,A,rfl, ?_⟩
 ·rintro n e h ⟨i,o,B,rfl,hl,e0,e1,e2,e7,hi,sB,hb,hz⟩ ih
  rw [An UA.eq_1]
  simp (disch:=omega)only[go_sem, *]
  refine Aa (fun hc=>?_) (fun hc=>?_)
  ·obtain ⟨m,hm⟩:∃ m,x.n.toNat - i=m+1:=⟨x.n.toNat - i - 1,by omega⟩
   rw [hm,List.replicate_succ,List.flatten_cons] at hz
   rw [hm,Nat.succ_mul] at hb
   simp (disch:=omega)only[go_sem, *]
   refine ha0 _ o B _ (by simp only [go_sem, *]) sB (by omega) ?_
   intro r h3 sr hl3
   have hm2:x.n.toNat - (i+1)=m:=by omega
   simp (disch:=omega)only[go_sem, *]
   refine ih _ _ _ ?_ ⟨i+1,r,B++k.runs,rfl, ?_⟩
   ·omega
   ·simp (disch:=omega)only[go_sem, *]
    ((repeat' refine And.intro ?_ ?_)<;>first | omega | assumption | ((simp;omega)) | ((rw [← hz,List.append_assoc])) | ((rw [hm2,←hz,List.append_assoc])) | ((rw [hm2];simp;omega)))
  ·have hm:x.n.toNat - i=0:=by omega
   rw [hm] at hz
   simp (disch:=omega)only[go_sem, *]
   exact kk _ _ (by rw [← hz];simpa using sB) hl
 ·simp (disch:=omega)only[go_sem, *]
  ((repeat' refine And.intro ?_ ?_)<;>first | omega | assumption | ((simp only [Nat.sub_zero];omega)) | ((simp only [Nat.sub_zero])))
end
theorem FN {L:List Node}:∀ (f:Fo) (b:Nat) (R:List Node),f.ok→L.drop b=f.flat++R→O0 L b f
 | .nil,b,R,ho,hd=>fun i hi=>by simp [Fo.count] at hi
 | .leaf x r,b,R,ho,hd=>fun i hi h w A K hw hA hl kk=>by
  have hd':L.drop b=x::(r.flat++R):=hd
  match i,hi with
  | 0,_=>exact Ta hd' ho.1 hw hA hl kk
  | i+1,hi=>exact FN r (b+1) R ho.2 (AN hd').2 i (by simp only [Fo.count] at hi;omega) h w A K hw hA hl kk
 | .seq x k r,b,R,ho,hd=>fun i hi h w A K hw hA hl kk=>by
  have hd':L.drop b=x::(k.flat++(r.flat++R)):=by rw [hd];simp [Fo.flat]
  match i,hi with
  | 0,_=>
   have hs:=Ek (f:=.seq x k .nil) (R:=r.flat++R) (by rw [hd'];simp [Fo.flat]) ⟨ho.1,ho.2.1,ho.2.2.1,ho.2.2.2.1,trivial⟩ rfl
   exact YA (k:=k) hd' ho.2.2.2.1 ho.1 ho.2.2.1 (by rw [hs];simp [Fo.flat];omega) (FN k (b+1) _ ho.2.2.2.1 (AN hd').2) hw hA hl kk
  | i+1,hi=>exact FN r (b+1+k.flat.length) R ho.2.2.2.2 (CM (AN hd').2) i (by simp only [Fo.count] at hi;omega) h w A K hw hA hl kk
 | .rep x k r,b,R,ho,hd=>fun i hi h w A K hw hA hl kk=>by
  have hd':L.drop b=x::(k.flat++(r.flat++R)):=by rw [hd];simp [Fo.flat]
  match i,hi with
  | 0,_=>
   exact Yh (k:=k) hd' ho (FN k (b+1) _ ho.2.2.2.1 (AN hd').2) hw hA hl kk
  | i+1,hi=>exact FN r (b+1+k.flat.length) R ho.2.2.2.2 (CM (AN hd').2) i (by simp only [Fo.count] at hi;omega) h w A K hw hA hl kk
end Go.Ab.T
namespace Go.Ab.T
open Go Go.Ab
set_option maxHeartbeats 1000000
theorem Fo.flat_pos {f:Fo} (hc:f.count=1):0<f.flat.length:=by have:=Fo.count_le f;omega
theorem Fo.depth_pos {f:Fo} (hc:0<f.count):0<f.depth:=by cases f<;>simp [Fo.count,Fo.depth] at hc ⊢<;>omega
theorem GB {f:Fo} (ho:f.ok) (hc:f.count=1):Bq f.flat=true:=(DT _).2 ⟨f,ho,hc,rfl⟩
theorem EA {f:Fo} (ho:f.ok) (hc:f.count=1):Ib f.flat=f.depth:=by
 unfold Ib;rw [if_pos (GB ho hc),(BA ho hc).1]
theorem FO {f:Fo} (ho:f.ok) (hc:f.count=1):Jl f.flat=decide (f.len≤4096):=by
 unfold Jl;rw [(BA ho hc).2,GB ho hc];simp;omega
theorem Tb {f:Fo} (ho:f.ok) (hc:f.count=1):LP f.flat=if f.len≤4096 then f.len else 0:=by
 unfold LP;rw [FO ho hc,(BA ho hc).2];simp only [decide_eq_true_eq];split<;>omega
theorem FS (L:List Node):A7 L=0↔L.length≤128∧∃ f:Fo,f.ok∧f.count=1∧L=f.flat∧f.depth≤16∧f.len≤4096:=by
 constructor
 ·intro h
  by_cases hw:Bq L=true
  ·obtain ⟨f,ho,hc,rfl⟩:=(DT L).1 hw
   unfold A7 at h
   rw [hw,EA ho hc,FO ho hc] at h
   (repeat' split at h)<;>simp at h
   rename_i h1 h2 h3 h4
   simp at h4
   exact ⟨by omega,f,ho,hc,rfl,by omega,h4⟩
  ·simp at hw
   unfold A7 at h
   rw [hw] at h
   (repeat' split at h)<;>simp at h
   all_goals simp_all
 ·rintro ⟨hl,f,ho,hc,rfl,hd,hn⟩
  unfold A7
  rw [if_neg (by omega),if_neg (by rw [GB ho hc];simp),if_neg (by rw [EA ho hc];omega),if_neg (by rw [FO ho hc];simp;omega)]
theorem Fx {L:List Node}:Pf tp Xb [.fl 3 (L.map Node.enc)] (.i .i64 (Ib L)):=by
 refine AG aEw (by simp [OB]) fun rp=>?_;unfold OB;simp (disch:=omega)only[go_sem, *]
 refine Av (fun hc=>?_) (fun hc=>?_)
 ·simp (disch:=omega)only[go_sem, *]
  have hwf:Bq L=false:=by simp [Bq];omega
  unfold Ib;rw [hwf];simp
 ·simp (disch:=omega)only[go_sem, *]
  refine Pf.go (Gt) (by simp only [go_sem]) fun _=>?_;simp (disch:=omega)only[go_sem, *]
  refine Aa (fun hc2=>?_) (fun hc2=>?_)
  ·simp (disch:=omega)only[go_sem, *]
   have hwf:Bq L=false:=by simp [Bq];omega
   unfold Ib;rw [hwf];simp
  ·have hwt:Bq L=true:=by simp [Bq];omega
   obtain ⟨f,ho,hc1,rfl⟩:=(DT L).1 hwt
   have hf:=FJ (L:=f.flat) f 0 [] ho (by simp) 0 (by omega)
   have hp0:nth (BF 0 f) 0=0:=by cases f<;>simp [Fo.count,BF,nth] at hc1 ⊢
   have hd0:nth (DB f) 0=f.depth:=by
    have h1:=Ez f 0 (by omega)
    have h2:=Fq f
    rw [hc1] at h2
    have h3:=GM f 0 (by omega)
    match hk:DB f,h2 with
    | [t],_=>rw [hk] at h1 h3;simp [nth] at h1 h3 ⊢;omega
   rw [hp0,hd0] at hf
   simp (disch:=omega)only[go_sem, *]
   refine Pf.go (hf) (by simp only [go_sem]) fun _=>?_;simp (disch:=omega)only[go_sem, *]
   have e:=EA ho hc1
   rw [e]
theorem L2 {L:List Node}:Pf tp Xc [.fl 3 (L.map Node.enc)] (.tup [.i .i64 (LP L),.b (Jl L)]):=by
 refine AG aEx (by simp [OC]) fun rp=>?_;unfold OC;simp (disch:=omega)only[go_sem, *]
 refine Pf.go (Fx) (by simp only [go_sem]) fun _=>?_;simp (disch:=omega)only[go_sem, *]
 refine Aa (fun hc=>?_) (fun hc=>?_)
 ·simp (disch:=omega)only[go_sem, *]
  have hwf:Bq L=false:=by
   by_cases hwt:Bq L=true
   ·obtain ⟨f,ho,hc1,rfl⟩:=(DT L).1 hwt
    have:=Fo.depth_pos (f:=f) (by omega)
    rw [EA ho hc1] at hc
    omega
   ·simpa using hwt
  have e1:Jl L=false:=by simp [Jl,hwf]
  have e2:LP L=0:=by simp [LP,e1]
  rw [e1,e2];exact ⟨rfl,rfl⟩
 ·have hwt:Bq L=true:=by
   by_cases hwt:Bq L=true
   ·exact hwt
   ·exact absurd (by unfold Ib;rw [if_neg hwt]) hc
  obtain ⟨f,ho,hc1,rfl⟩:=(DT L).1 hwt
  have hf:=FP (L:=f.flat) f 0 [] ho (by simp) 0 (by omega)
  have hp0:nth (BF 0 f) 0=0:=by cases f<;>simp [Fo.count,BF,nth] at hc1 ⊢
  have hd0:nth (Du f) 0=min f.len 4097:=by
   have h1:=EF f 0 ho (by omega)
   have h2:=Fs f
   rw [hc1] at h2
   have h3:=GR f 0 ho (by omega)
   match hk:Du f,h2 with
   | [t],_=>rw [hk] at h1 h3;simp [nth] at h1 h3 ⊢;omega
  rw [hp0,hd0] at hf
  have e1:=FO ho hc1
  have e2:=Tb ho hc1
  simp (disch:=omega)only[go_sem, *]
  refine Pf.go (hf) (by simp only [go_sem]) fun _=>?_;simp (disch:=omega)only[go_sem, *]
  refine Aa (fun hc2=>?_) (fun hc2=>?_)
  ·simp (disch:=omega)only[go_sem, *]
   rw [if_neg (by omega)]
   exact ⟨rfl,by simp;omega⟩
  ·simp (disch:=omega)only[go_sem, *]
   rw [if_pos (by omega),show min f.len 4097=f.len by omega]
   exact ⟨rfl,by simp;omega⟩
theorem Nj {L:List Node}:Pf tp WT [.fl 3 (L.map Node.enc)] (.i .i64 (A7 L)):=by
 have hdp:Bq L=false↔Ib L=0:=by
  constructor
  ·intro h;unfold Ib;rw [h];simp
  ·intro h
   by_cases hwt:Bq L=true
   ·obtain ⟨f,ho,hc1,rfl⟩:=(DT L).1 hwt
    have:=Fo.depth_pos (f:=f) (by omega)
    rw [EA ho hc1] at h;omega
   ·simpa using hwt
 refine AG aEj (by simp [Oj]) fun rp=>?_;unfold Oj;simp (disch:=omega)only[go_sem, *]
 refine Aa (fun hc=>?_) (fun hc=>?_)
 ·simp (disch:=omega)only[go_sem, *]
  unfold A7;rw [if_pos (by omega)]
 simp (disch:=omega)only[go_sem, *]
 refine Pf.go (Fx) (by simp only [go_sem]) fun _=>?_;simp (disch:=omega)only[go_sem, *]
 refine Aa (fun hc2=>?_) (fun hc2=>?_)
 ·have hw0:=hdp.2 hc2
  simp (disch:=omega)only[go_sem, *]
  unfold A7;rw [if_neg (by omega),if_pos hw0]
 have hwt:¬ Bq L=false:=fun h=>hc2 (hdp.1 h)
 simp (disch:=omega)only[go_sem, *]
 refine Pf.go (Fx) (by simp only [go_sem]) fun _=>?_;simp (disch:=omega)only[go_sem, *]
 refine Aa (fun hc3=>?_) (fun hc3=>?_)
 ·simp (disch:=omega)only[go_sem, *]
  unfold A7;rw [if_neg (by omega),if_neg hwt,if_pos (by omega)]
 simp (disch:=omega)only[go_sem, *]
 refine Pf.go (L2) (by simp only [go_sem]) fun _=>?_;simp (disch:=omega)only[go_sem, *]
 refine Bi (fun hc4=>?_) (fun hc4=>?_)
 ·simp (disch:=omega)only[go_sem, *]
  simp at hc4
  unfold A7;rw [if_neg (by omega),if_neg hwt,if_neg (by omega),if_pos hc4]
 ·simp (disch:=omega)only[go_sem, *]
  simp at hc4
  unfold A7;rw [if_neg (by omega),if_neg hwt,if_neg (by omega),if_neg (by simp [hc4])]
theorem L1 {f:Fo} (ho:f.ok) (hc:f.count=1) (hl:f.len≤4096):Pf tp WV [.fl 3 (f.flat.map Node.enc)] (.fl 2 (f.runs.map AM.enc)):=by
 have hf:=FN (L:=f.flat) f 0 [] ho (by simp) 0 (by omega)
 have hp0:nth (BF 0 f) 0=0:=by cases f<;>simp [Fo.count,BF,nth] at hc ⊢
 have hd0:nth (CW f) 0=f.runs:=by
  have h1:=Cx f
  have h2:=DS f
  rw [hc] at h2
  match hk:CW f,h2 with
  | [t],_=>rw [hk] at h1;simpa [nth] using h1
 rw [hp0,hd0] at hf
 have hrl:=Fo.runs_len f ho
 refine AG aEl (by simp [Om]) fun rp=>?_;unfold Om;simp (disch:=omega)only[go_sem, *]
 refine hf _ .ns [] _ rfl (Sl.nil _ _ _) (by simp;omega) ?_
 intro r h2 sr hl2
 simp (disch:=omega)only[go_sem, *]
 exact sr.froze (fun _=>rfl) trivial (by simp;omega)
end Go.Ab.T
namespace Go.Ab.T
open Go Go.Ab
set_option maxHeartbeats 1000000
structure Bd where
 entry:Int
 prio:Int
 deriving Inhabited,DecidableEq
@[go_sem] def Bd.enc (x:Bd):List V:=[.i .i64 x.entry,.i .i64 x.prio]
structure Part where
 name:ByteArray
 budget:Int
 period:Int
 sched:Bool
 stop:Bool
 procs:List Bd
 h0:Int
 h1:Int
 h2:Int
 h3:Int
 h4:Int
 deriving Inhabited,DecidableEq
@[go_sem] def Part.enc (x:Part):List V:=[.s x.name,.i .i64 x.budget,.i .i64 x.period,.b x.sched,.b x.stop,.fl 2 (x.procs.map Bd.enc),.i .i64 x.h0,.i .i64 x.h1,.i .i64 x.h2,.i .i64 x.h3,.i .i64 x.h4]
structure A1 where
 src:Int
 dst:Int
 queue:Bool
 cap:Int
 top:Int
 late:Int
 deriving Inhabited,DecidableEq
@[go_sem] def A1.enc (x:A1):List V:=[.i .i64 x.src,.i .i64 x.dst,.b x.queue,.i .i64 x.cap,.i .u32 x.top,.i .i64 x.late]
@[go_sem] def Tab.enc (x:List Node):List V:=[.fl 3 (x.map Node.enc)]
structure Ao where
 parts:List Part
 chans:List A1
 tables:List (List Node)
 deriving Inhabited,DecidableEq
@[go_sem] def Ao.enc (x:Ao):List V:=[.fl 11 (x.parts.map Part.enc),.fl 6 (x.chans.map A1.enc),.fl 1 (x.tables.map Tab.enc)]
theorem Pm {xs:List (List V)}:Pf tp P1 [.fl 2 xs] (.fl 2 xs):=by
 refine AG fD (by simp [JU]) fun rp=>?_;unfold JU;simp (disch:=omega)only[go_sem, *]
theorem Mw {xs:List (List V)}:Pf tp Rk [.fl 2 xs] (.fl 2 xs):=by
 refine AG V1 (by simp [Kh]) fun rp=>?_;unfold Kh;simp (disch:=omega)only[go_sem, *]
theorem Mv {xs:List (List V)}:Pf tp Rm [.fl 3 xs] (.fl 3 xs):=by
 refine AG V4 (by simp [Kj]) fun rp=>?_;unfold Kj;simp (disch:=omega)only[go_sem, *]
theorem Lt {xs:List (List V)}:Pf tp Rl [.fl 2 xs] (.fl 2 xs):=by
 refine AG V3 (by simp [Ki]) fun rp=>?_;unfold Ki;simp (disch:=omega)only[go_sem, *]
 have hb:=rp.head.big
 intro t ht
 cases t
 ·simp (disch:=omega)only[go_sem, *]
  refine Az (R:=[]) (Sl.nil' 0 _ _) (Nat.le_refl _) (Nat.le_refl _) (by simp;omega) ?_
  intro w h4 s4 g4
  simp (disch:=omega)only[go_sem, *]
  exact s4.froze' rp.head.frzr trivial (by simp;omega)
 ·simp (disch:=omega)only[go_sem, *]
  have:xs=[]:=by
   rcases List.eq_nil_or_concat xs with h | ⟨l,a,h⟩
   ·exact h
   ·exact absurd (ht (by rw [h];simp)) (by simp)
  rw [this]
theorem Pp {xs:List (List V)} {h:AH} {K:V→AH→Prop} (hl:h.lim≤h.next) (k:∀ r h',Sl h.next h' 2 r xs→Au h h'→K r h'):Cq tp Rl [.fl 2 xs] h K:=by
 refine Ac V3 (by simp [Ki]) fun wf rp=>?_;unfold Ki;simp (disch:=omega)only[go_sem, *]
 have hb:=rp.head.big
 intro t ht
 cases t
 ·simp (disch:=omega)only[go_sem, *]
  refine Az (R:=[]) (Sl.nil' h.next _ _) hl (Nat.le_refl _) (by simp;omega) ?_
  intro w h4 s4 g4
  simp (disch:=omega)only[go_sem, *]
  exact k _ _ s4 ⟨g4.next,g4.lim,g4.low⟩
 ·simp (disch:=omega)only[go_sem, *]
  have:xs=[]:=by
   rcases List.eq_nil_or_concat xs with h | ⟨l,a,h⟩
   ·exact h
   ·exact absurd (ht (by rw [h];simp)) (by simp)
  subst this
  exact k _ _ (Sl.nil _ _ _) (Au.refl h)
theorem Pn {xs:List (List V)} {h:AH} {K:V→AH→Prop} (hl:h.lim≤h.next) (k:∀ r h',Sl h.next h' 6 r xs→Au h h'→K r h'):Cq tp WL [.fl 6 xs] h K:=by
 refine Ac aD7 (by simp [N2]) fun wf rp=>?_;unfold N2;simp (disch:=omega)only[go_sem, *]
 have hb:=rp.head.big
 intro t ht
 cases t
 ·simp (disch:=omega)only[go_sem, *]
  refine Az (R:=[]) (Sl.nil' h.next _ _) hl (Nat.le_refl _) (by simp;omega) ?_
  intro w h4 s4 g4
  simp (disch:=omega)only[go_sem, *]
  exact k _ _ s4 ⟨g4.next,g4.lim,g4.low⟩
 ·simp (disch:=omega)only[go_sem, *]
  have:xs=[]:=by
   rcases List.eq_nil_or_concat xs with h | ⟨l,a,h⟩
   ·exact h
   ·exact absurd (ht (by rw [h];simp)) (by simp)
  subst this
  exact k _ _ (Sl.nil _ _ _) (Au.refl h)
theorem GI {xs:List (List V)}:Pf tp Rn [.fl 3 xs] (.fl 3 xs):=by
 refine AG V5 (by simp [Kk]) fun rp=>?_;unfold Kk;simp (disch:=omega)only[go_sem, *]
 have hb:=rp.head.big
 intro t ht
 cases t
 ·simp (disch:=omega)only[go_sem, *]
  refine Az (R:=[]) (Sl.nil' 0 _ _) (Nat.le_refl _) (Nat.le_refl _) (by simp;omega) ?_
  intro w h4 s4 g4
  simp (disch:=omega)only[go_sem, *]
  exact s4.froze' rp.head.frzr trivial (by simp;omega)
 ·simp (disch:=omega)only[go_sem, *]
  have:xs=[]:=by
   rcases List.eq_nil_or_concat xs with h | ⟨l,a,h⟩
   ·exact h
   ·exact absurd (ht (by rw [h];simp)) (by simp)
  rw [this]
theorem Po {xs:List (List V)} {h:AH} {K:V→AH→Prop} (hl:h.lim≤h.next) (k:∀ r h',Sl h.next h' 3 r xs→Au h h'→K r h'):Cq tp Rn [.fl 3 xs] h K:=by
 refine Ac V5 (by simp [Kk]) fun wf rp=>?_;unfold Kk;simp (disch:=omega)only[go_sem, *]
 have hb:=rp.head.big
 intro t ht
 cases t
 ·simp (disch:=omega)only[go_sem, *]
  refine Az (R:=[]) (Sl.nil' h.next _ _) hl (Nat.le_refl _) (by simp;omega) ?_
  intro w h4 s4 g4
  simp (disch:=omega)only[go_sem, *]
  exact k _ _ s4 ⟨g4.next,g4.lim,g4.low⟩
 ·simp (disch:=omega)only[go_sem, *]
  have:xs=[]:=by
   rcases List.eq_nil_or_concat xs with h | ⟨l,a,h⟩
   ·exact h
   ·exact absurd (ht (by rw [h];simp)) (by simp)
  subst this
  exact k _ _ (Sl.nil _ _ _) (Au.refl h)
def CR {α:Type} (P:α→Bool):List α→Int→Int
 | [],_=>-1
 | a::l,i=>if P a=true then i else CR P l (i+1)
theorem gK {L:List Part} {g:Nat} {caps:List V} {P:Part→Bool} {h0:AH} {K:V→AH→Prop} (hp:∀ x,x∈L→∀ K:V→AH→Prop,K (.b (P x)) h0→Cq tp g (.agg x.enc::caps) h0 K) (k:K (.i .i64 (CR P L 0)) h0):Cq tp Xh [.fl 11 (L.map Part.enc),.f (.func g) [] caps] h0 K:=by
 refine Ac aEC (by simp [OH]) fun wf rp=>?_;unfold OH;simp (disch:=omega)only[go_sem, *]
 have hL:=rp.head.len
 refine Ah (fun n e h=>∃ (i:Nat),n=L.length - i∧h.lim=h0.lim∧e 6=.fl 11 (L.map Part.enc)∧e 7=.i .i64 L.length∧e 8=.i .i64 i∧e 0=.fl 11 (L.map Part.enc)∧e 1=.f (.func g) [] caps∧i≤L.length∧h=h0∧CR P (L.drop i) i=CR P L 0) ?_ _ _ _ ⟨0,rfl, ?_⟩
 ·rintro n e h ⟨i,rfl,hl,e6,e7,e8,e0,e1,hi,rfl,hz⟩ ih
  rw [An oG.eq_1]
  simp (disch:=omega)only[go_sem, *]
  refine Aa (fun hc=>?_) (fun hc=>?_)
  ·rw [AK (by omega),CR] at hz
   simp (disch:=omega)only[go_sem, *]
   refine hp (nth L i) (AP (by omega)) _ ?_
   simp (disch:=omega)only[go_sem, *]
   refine Bi (fun hc2=>?_) (fun hc2=>?_)
   ·rw [if_pos hc2] at hz
    simp (disch:=omega)only[go_sem, *]
   ·rw [if_neg (by simp [hc2])] at hz
    simp (disch:=omega)only[go_sem, *]
    refine ih _ _ _ ?_ ⟨i+1,rfl, ?_⟩
    ·omega
    ·simp (disch:=omega)only[go_sem, *]
     ((repeat' refine And.intro ?_ ?_)<;>first | omega | assumption | (skip))
  ·rw [List.drop_eq_nil_of_le (by omega),CR] at hz
   simp (disch:=omega)only[go_sem, *]
 ·simp (disch:=omega)only[go_sem, *]
theorem KX {P:Part→Bool}:∀ (L:List Part) (i:Int),0≤i→(0≤CR P L i↔L.any P=true)
 | [],i,hi=>by simp [CR]
 | a::l,i,hi=>by
  rw [CR]
  split
  ·rename_i h;simp [h,hi]
  ·rename_i h;rw [KX l (i+1) (by omega)];simp [h]
theorem gA {L:List Part} {g:Nat} {caps:List V} {P:Part→Bool} {h0:AH} {K:V→AH→Prop} (hp:∀ x,x∈L→∀ K:V→AH→Prop,K (.b (P x)) h0→Cq tp g (.agg x.enc::caps) h0 K) (k:K (.b (L.any P)) h0):Cq tp W0 [.fl 11 (L.map Part.enc),.f (.func g) [] caps] h0 K:=by
 refine Ac aEq (by simp [Ov]) fun wf rp=>?_;unfold Ov;simp (disch:=omega)only[go_sem, *]
 refine gK hp ?_
 simp (disch:=omega)only[go_sem, *]
 have e:(decide (0≤CR P L 0))=L.any P:=by rw [Bool.eq_iff_iff];simp only [decide_eq_true_eq];exact KX L 0 (Int.le_refl _)
 rw [e];exact k
theorem aEZ {L:List AM} {g:Nat} {caps:List V} {P:AM→Bool} {h0:AH} {K:V→AH→Prop} (hp:∀ x,x∈L→∀ K:V→AH→Prop,K (.b (P x)) h0→Cq tp g (.agg x.enc::caps) h0 K) (k:K (.i .i64 (CR P L 0)) h0):Cq tp PM [.fl 2 (L.map AM.enc),.f (.func g) [] caps] h0 K:=by
 refine Ac eR (by simp [JJ]) fun wf rp=>?_;unfold JJ;simp (disch:=omega)only[go_sem, *]
 have hL:=rp.head.len
 refine Ah (fun n e h=>∃ (i:Nat),n=L.length - i∧h.lim=h0.lim∧e 6=.fl 2 (L.map AM.enc)∧e 7=.i .i64 L.length∧e 8=.i .i64 i∧e 0=.fl 2 (L.map AM.enc)∧e 1=.f (.func g) [] caps∧i≤L.length∧h=h0∧CR P (L.drop i) i=CR P L 0) ?_ _ _ _ ⟨0,rfl, ?_⟩
 ·rintro n e h ⟨i,rfl,hl,e6,e7,e8,e0,e1,hi,rfl,hz⟩ ih
  rw [An T7.eq_1]
  simp (disch:=omega)only[go_sem, *]
  refine Aa (fun hc=>?_) (fun hc=>?_)
  ·rw [AK (by omega),CR] at hz
   simp (disch:=omega)only[go_sem, *]
   refine hp (nth L i) (AP (by omega)) _ ?_
   simp (disch:=omega)only[go_sem, *]
   refine Bi (fun hc2=>?_) (fun hc2=>?_)
   ·rw [if_pos hc2] at hz
    simp (disch:=omega)only[go_sem, *]
   ·rw [if_neg (by simp [hc2])] at hz
    simp (disch:=omega)only[go_sem, *]
    refine ih _ _ _ ?_ ⟨i+1,rfl, ?_⟩
    ·omega
    ·simp (disch:=omega)only[go_sem, *]
     ((repeat' refine And.intro ?_ ?_)<;>first | omega | assumption | (skip))
  ·rw [List.drop_eq_nil_of_le (by omega),CR] at hz
   simp (disch:=omega)only[go_sem, *]
 ·simp (disch:=omega)only[go_sem, *]
theorem MS {P:AM→Bool}:∀ (L:List AM) (i:Int),0≤i→(0≤CR P L i↔L.any P=true)
 | [],i,hi=>by simp [CR]
 | a::l,i,hi=>by
  rw [CR]
  split
  ·rename_i h;simp [h,hi]
  ·rename_i h;rw [MS l (i+1) (by omega)];simp [h]
theorem aER {L:List AM} {g:Nat} {caps:List V} {P:AM→Bool} {h0:AH} {K:V→AH→Prop} (hp:∀ x,x∈L→∀ K:V→AH→Prop,K (.b (P x)) h0→Cq tp g (.agg x.enc::caps) h0 K) (k:K (.b (L.any P)) h0):Cq tp Xk [.fl 2 (L.map AM.enc),.f (.func g) [] caps] h0 K:=by
 refine Ac aEG (by simp [OL]) fun wf rp=>?_;unfold OL;simp (disch:=omega)only[go_sem, *]
 refine aEZ hp ?_
 simp (disch:=omega)only[go_sem, *]
 have e:(decide (0≤CR P L 0))=L.any P:=by rw [Bool.eq_iff_iff];simp only [decide_eq_true_eq];exact MS L 0 (Int.le_refl _)
 rw [e];exact k
theorem Lz {α:Type} [Inhabited α] [DecidableEq α] {L M:List α} {i:Nat} (hl:L.length=M.length) (hi:i<L.length) (ht:L.take i=M.take i) (he:nth L i=nth M i):L.take (i+1)=M.take (i+1):=by
 rw [List.take_add_one,List.take_add_one,ht,E6 hi,E6 (by omega),he]
theorem VT {α:Type} [Inhabited α] {L M:List α} {i:Nat} (hi:i<L.length) (he:¬ nth L i=nth M i):¬ L=M:=by rintro rfl;exact he rfl
theorem Node.eq (a b:Node):a=b↔a.kind=b.kind∧a.part=b.part∧a.n=b.n:=by cases a;cases b;simp
theorem AM.eq (a b:AM):a=b↔a.part=b.part∧a.n=b.n:=by cases a;cases b;simp
theorem Bd.eq (a b:Bd):a=b↔a.entry=b.entry∧a.prio=b.prio:=by cases a;cases b;simp
theorem A1.eq (a b:A1):a=b↔a.src=b.src∧a.dst=b.dst∧a.queue=b.queue∧a.cap=b.cap∧a.top=b.top∧a.late=b.late:=by cases a;cases b;simp
theorem Part.eq (a b:Part):a=b↔a.name=b.name∧a.budget=b.budget∧a.period=b.period∧a.sched=b.sched∧a.stop=b.stop∧a.procs=b.procs∧a.h0=b.h0∧a.h1=b.h1∧a.h2=b.h2∧a.h3=b.h3∧a.h4=b.h4:=by cases a;cases b;simp
end Go.Ab.T
namespace Go.Ab.T
open Go Go.Ab
set_option maxHeartbeats 1000000
@[irreducible] def Hf (n m:Int):Bool:=decide (0≤n∧n≤m)
theorem IX {n m:Int}:Pf tp KW [.i .i64 n,.i .i64 m] (.b (Hf n m)):=by
 refine AG aEE (by simp [OJ]) fun rp=>?_;unfold OJ;simp (disch:=omega)only[go_sem, *]
 repeat' (first | (refine Av (fun hc=>?_) (fun hc=>?_)<;>simp (disch:=omega)only[go_sem, *]) | (refine Aa (fun hc=>?_) (fun hc=>?_)<;>simp (disch:=omega)only[go_sem, *]) | (refine Cz (fun hc=>?_) (fun hc=>?_)<;>simp (disch:=omega)only[go_sem, *]) | (refine Bi (fun hc=>?_) (fun hc=>?_)<;>simp (disch:=omega)only[go_sem, *]))
 all_goals (simp only [Hf];grind)
def Dw (x:Bd):Bool:=decide (0≤x.entry∧x.entry≤511∧0≤x.prio∧x.prio≤255)
@[irreducible] def BP (L:List Bd):Bool:=L.all Dw&&decide (1≤L.length∧L.length≤3)
theorem Vh {α:Type} [Inhabited α] {L:List α} {P:α→Bool} {i:Nat} (hi:i<L.length) (h:P (nth L i)=false):L.all P=false:=by
 rw [List.all_eq_false];exact ⟨_,AP hi,by simp [h]⟩
theorem Mq {α:Type} [Inhabited α] {L:List α} {P:α→Bool} {i:Nat} (hi:i<L.length) (h:P (nth L i)=true):(L.drop i).all P=(L.drop (i+1)).all P:=by
 rw [AK hi,List.all_cons,h,Bool.true_and]
theorem X8 {L:List Bd}:Pf tp Xi [.fl 2 (L.map Bd.enc)] (.b (BP L)):=by
 refine AG aED (by simp [OI]) fun rp=>?_;unfold OI;simp (disch:=omega)only[go_sem, *]
 have hL:=rp.head.len
 refine Ah (fun n e h=>∃ (i:Nat),n=L.length - i∧h.lim=0∧e 5=.fl 2 (L.map Bd.enc)∧e 6=.i .i64 L.length∧e 7=.i .i64 i∧e 0=.fl 2 (L.map Bd.enc)∧i≤L.length∧L.all Dw=(L.drop i).all Dw) ?_ _ _ _ ⟨0,rfl, ?_⟩
 ·rintro n e h ⟨i,rfl,hl,e5,e6,e7,e0,hi,hz⟩ ih
  rw [An oH.eq_1]
  simp (disch:=omega)only[go_sem, *]
  refine Aa (fun hc=>?_) (fun hc=>?_)
  ·simp (disch:=omega)only[go_sem, *]
   repeat' (first | (refine Av (fun hc=>?_) (fun hc=>?_)<;>simp (disch:=omega)only[go_sem, *]) | (refine Aa (fun hc=>?_) (fun hc=>?_)<;>simp (disch:=omega)only[go_sem, *]) | (refine Cz (fun hc=>?_) (fun hc=>?_)<;>simp (disch:=omega)only[go_sem, *]) | (refine Bi (fun hc=>?_) (fun hc=>?_)<;>simp (disch:=omega)only[go_sem, *]) | (refine Pf.go (IX) (by simp only [go_sem]) fun _=>?_;simp (disch:=omega)only[go_sem, *]))
   all_goals
    try
     have hn:Dw (nth L i)=false:=by (simp only [Dw,Hf] at *;grind)
     have:=Vh (by omega) hn
     simp only [BP,this];rfl
   have hp:Dw (nth L i)=true:=by (simp only [Dw,Hf] at *;grind)
   refine ih _ _ _ ?_ ⟨i+1,rfl, ?_⟩
   ·omega
   ·simp (disch:=omega)only[go_sem, *]
    ((repeat' refine And.intro ?_ ?_)<;>first | omega | assumption | (exact Mq (by omega) hp))
  ·rw [List.drop_eq_nil_of_le (by omega),List.all_nil] at hz
   simp (disch:=omega)only[go_sem, *]
   repeat' (first | (refine Av (fun hc=>?_) (fun hc=>?_)<;>simp (disch:=omega)only[go_sem, *]) | (refine Aa (fun hc=>?_) (fun hc=>?_)<;>simp (disch:=omega)only[go_sem, *]) | (refine Cz (fun hc=>?_) (fun hc=>?_)<;>simp (disch:=omega)only[go_sem, *]) | (refine Bi (fun hc=>?_) (fun hc=>?_)<;>simp (disch:=omega)only[go_sem, *]))
   all_goals (simp only [BP,hz];grind)
 ·simp (disch:=omega)only[go_sem, *]
/-! ### Names -/
def bt (s:ByteArray) (i:Nat):Int:=((s.data.toList.getD i 0).toNat:Int)
def OZ (i:Nat) (c:Int):Bool:=decide ((97≤c∧c≤122)∨(i≠0∧((48≤c∧c≤57)∨c=95)))
@[irreducible] def D6 (s:ByteArray):Bool:=decide ((∀ i,i<s.size→OZ i (bt s i)=true)∧1≤s.size∧s.size≤12)
theorem M6 {s:ByteArray} {i:Nat} (hi:i<s.size) (h:OZ i (bt s i)=false):D6 s=false:=by
 simp only [D6,decide_eq_false_iff_not]
 intro hh;rw [hh.1 i hi] at h;cases h
theorem K3 {s:ByteArray} (h:∀ j,j<s.size→OZ j (bt s j)=true):D6 s=decide (1≤s.size∧s.size≤12):=by
 simp only [D6];congr 1;exact propext ⟨fun hh=>hh.2,fun hh=>⟨h,hh⟩⟩
theorem RQ {s:ByteArray} {i:Nat} (h:∀ j,j<i→OZ j (bt s j)=true) (h1:OZ i (bt s i)=true):∀ j,j<i+1→OZ j (bt s j)=true:=fun j hj=>by
 by_cases e:j=i
 ·rw [e];exact h1
 ·exact h j (by omega)
@[go_sem] theorem Q5 {s:ByteArray} {i:Nat}:(↑(UInt8.toNat (s.data.toList.getD i 0)):Int)=bt s i:=Am rfl
theorem VA {s:ByteArray} (hs:s.size<4000000000):Pf tp WZ [.s s] (.b (D6 s)):=by
 refine AG aEp (by simp [Ou]) fun rp=>?_;unfold Ou;simp (disch:=omega)only[go_sem, *]
 refine Ah (fun n e h=>∃ (i:Nat),n=s.size - i∧h.lim=0∧e 0=.s s∧e 7=.i .i64 s.size∧e 8=.i .i64 i∧i≤s.size∧∀ j,j<i→OZ j (bt s j)=true) ?_ _ _ _ ⟨0,rfl, ?_⟩
 ·rintro n e h ⟨i,rfl,hl,e0,e7,e8,hi,hz⟩ ih
  rw [An oB.eq_1]
  simp (disch:=omega)only[go_sem, *]
  refine Aa (fun hc=>?_) (fun hc=>?_)
  ·simp (disch:=omega)only[go_sem, *,Q5]
   repeat' (first | (refine Av (fun hc=>?_) (fun hc=>?_)<;>simp (disch:=omega)only[go_sem, *]) | (refine Aa (fun hc=>?_) (fun hc=>?_)<;>simp (disch:=omega)only[go_sem, *]) | (refine Cz (fun hc=>?_) (fun hc=>?_)<;>simp (disch:=omega)only[go_sem, *]) | (refine Bi (fun hc=>?_) (fun hc=>?_)<;>simp (disch:=omega)only[go_sem, *]))
   all_goals
    try
     have hn:OZ i (bt s i)=false:=by (simp only [OZ] at *;grind)
     exact (M6 (by omega) hn).symm
   all_goals
    have hp:OZ i (bt s i)=true:=by (simp only [OZ] at *;grind)
    refine ih _ _ _ ?_ ⟨i+1,rfl, ?_⟩
    ·omega
    ·simp (disch:=omega)only[go_sem, *]
     ((repeat' refine And.intro ?_ ?_)<;>first | omega | assumption | (exact RQ hz hp))
  ·have hy:=K3 (s:=s) (fun j hj=>hz j (by omega))
   clear hz
   simp (disch:=omega)only[go_sem, *]
   repeat' (first | (refine Av (fun hc=>?_) (fun hc=>?_)<;>simp (disch:=omega)only[go_sem, *]) | (refine Aa (fun hc=>?_) (fun hc=>?_)<;>simp (disch:=omega)only[go_sem, *]) | (refine Cz (fun hc=>?_) (fun hc=>?_)<;>simp (disch:=omega)only[go_sem, *]) | (refine Bi (fun hc=>?_) (fun hc=>?_)<;>simp (disch:=omega)only[go_sem, *]))
   all_goals grind
 ·simp (disch:=omega)only[go_sem, *]
  ((repeat' refine And.intro ?_ ?_)<;>first | omega | assumption | ((intro j hj;omega)))
theorem Yk {s:ByteArray} (hs:s.size<4000000000):Pf tp Xd [.s s] (.b (D6 s)):=by
 refine AG aEy (by simp [OD]) fun rp=>?_;unfold OD;simp (disch:=omega)only[go_sem, *]
 refine Ah (fun n e h=>∃ (i:Nat),n=s.size - i∧h.lim=0∧e 0=.s s∧e 3=.i .i64 i∧i≤s.size∧∀ j,j<i→OZ j (bt s j)=true) ?_ _ _ _ ⟨0,rfl, ?_⟩
 ·rintro n e h ⟨i,rfl,hl,e0,e3,hi,hz⟩ ih
  rw [An oD.eq_1]
  simp (disch:=omega)only[go_sem, *]
  refine Aa (fun hc=>?_) (fun hc=>?_)
  ·simp (disch:=omega)only[go_sem, *,Q5]
   repeat' (first | (refine Av (fun hc=>?_) (fun hc=>?_)<;>simp (disch:=omega)only[go_sem, *]) | (refine Aa (fun hc=>?_) (fun hc=>?_)<;>simp (disch:=omega)only[go_sem, *]) | (refine Cz (fun hc=>?_) (fun hc=>?_)<;>simp (disch:=omega)only[go_sem, *]) | (refine Bi (fun hc=>?_) (fun hc=>?_)<;>simp (disch:=omega)only[go_sem, *]))
   all_goals
    try
     have hn:OZ i (bt s i)=false:=by (simp only [OZ] at *;grind)
     exact (M6 (by omega) hn).symm
   all_goals
    have hp:OZ i (bt s i)=true:=by (simp only [OZ] at *;grind)
    refine ih _ _ _ ?_ ⟨i+1,rfl, ?_⟩
    ·omega
    ·simp (disch:=omega)only[go_sem, *]
     ((repeat' refine And.intro ?_ ?_)<;>first | omega | assumption | (exact RQ hz hp))
  ·have hy:=K3 (s:=s) (fun j hj=>hz j (by omega))
   clear hz
   simp (disch:=omega)only[go_sem, *]
   repeat' (first | (refine Av (fun hc=>?_) (fun hc=>?_)<;>simp (disch:=omega)only[go_sem, *]) | (refine Aa (fun hc=>?_) (fun hc=>?_)<;>simp (disch:=omega)only[go_sem, *]) | (refine Cz (fun hc=>?_) (fun hc=>?_)<;>simp (disch:=omega)only[go_sem, *]) | (refine Bi (fun hc=>?_) (fun hc=>?_)<;>simp (disch:=omega)only[go_sem, *]))
   all_goals grind
 ·simp (disch:=omega)only[go_sem, *]
  ((repeat' refine And.intro ?_ ?_)<;>first | omega | assumption | ((intro j hj;omega)))
/-! ### Parts, channels -/
def FL (x:Part):Bool:=decide (0≤x.h0∧x.h0≤2∧0≤x.h1∧x.h1≤2∧0≤x.h2∧x.h2≤2∧0≤x.h3∧x.h3≤2∧0≤x.h4∧x.h4≤2)
def Ls (b p:Int):Bool:=decide ((b=0∧p=0)∨(1≤b∧b≤4096∧b≤p∧p≤4096))
@[irreducible] def Ef (x:Part):Bool:=BP x.procs&&FL x&&Ls x.budget x.period
theorem VH {x:Part}:Pf tp W3 [.agg x.enc] (.b (Ef x)):=by
 refine AG aEs (by simp [Ox]) fun rp=>?_;unfold Ox;simp (disch:=omega)only[go_sem, *]
 iterate 6
  all_goals
   try
    refine BH ?_
    rw [An oC.eq_1]
    simp (disch:=omega)only[go_sem, *]
    try repeat' (first | (refine Av (fun hc=>?_) (fun hc=>?_)<;>simp (disch:=omega)only[go_sem, *]) | (refine Aa (fun hc=>?_) (fun hc=>?_)<;>simp (disch:=omega)only[go_sem, *]) | (refine Cz (fun hc=>?_) (fun hc=>?_)<;>simp (disch:=omega)only[go_sem, *]) | (refine Bi (fun hc=>?_) (fun hc=>?_)<;>simp (disch:=omega)only[go_sem, *]))
 all_goals try (simp only [Ef,FL];grind)
 repeat' (first | (refine Av (fun hc=>?_) (fun hc=>?_)<;>simp (disch:=omega)only[go_sem, *]) | (refine Aa (fun hc=>?_) (fun hc=>?_)<;>simp (disch:=omega)only[go_sem, *]) | (refine Cz (fun hc=>?_) (fun hc=>?_)<;>simp (disch:=omega)only[go_sem, *]) | (refine Bi (fun hc=>?_) (fun hc=>?_)<;>simp (disch:=omega)only[go_sem, *]) | (refine Pf.go (X8) (by simp only [go_sem]) fun _=>?_;simp (disch:=omega)only[go_sem, *]))
 all_goals (simp only [Ef,FL,Ls];grind)
@[irreducible] def CJ (n:Int) (x:A1):Bool:=decide (0≤x.src∧x.src<n∧0≤x.dst∧x.dst<n∧x.src≠x.dst∧0≤x.late∧x.late≤4096)&&(if x.queue=true then decide (1≤x.cap∧x.cap≤8) else decide (x.cap=0))
theorem Vq {c:Ao} {x:A1}:Pf tp W5 [.agg c.enc,.agg x.enc] (.b (CJ c.parts.length x)):=by
 refine AG aEt (by simp [Oy]) fun rp=>?_;unfold Oy;simp (disch:=omega)only[go_sem, *]
 have hL:=rp.head.agg.head.len
 repeat' (first | (refine Av (fun hc=>?_) (fun hc=>?_)<;>simp (disch:=omega)only[go_sem, *]) | (refine Aa (fun hc=>?_) (fun hc=>?_)<;>simp (disch:=omega)only[go_sem, *]) | (refine Cz (fun hc=>?_) (fun hc=>?_)<;>simp (disch:=omega)only[go_sem, *]) | (refine Bi (fun hc=>?_) (fun hc=>?_)<;>simp (disch:=omega)only[go_sem, *]) | (refine Pf.go (IX) (by simp only [go_sem]) fun _=>?_;simp (disch:=omega)only[go_sem, *]))
 all_goals (simp only [CJ,Hf] at *;grind)
theorem Ye {n:Int} {x:A1}:Pf tp Xf [.agg x.enc,.i .i64 n] (.b (CJ n x)):=by
 refine AG aEA (by simp [OF]) fun rp=>?_;unfold OF;simp (disch:=omega)only[go_sem, *]
 repeat' (first | (refine Av (fun hc=>?_) (fun hc=>?_)<;>simp (disch:=omega)only[go_sem, *]) | (refine Aa (fun hc=>?_) (fun hc=>?_)<;>simp (disch:=omega)only[go_sem, *]) | (refine Cz (fun hc=>?_) (fun hc=>?_)<;>simp (disch:=omega)only[go_sem, *]) | (refine Bi (fun hc=>?_) (fun hc=>?_)<;>simp (disch:=omega)only[go_sem, *]))
 all_goals (simp only [CJ] at *;grind)
theorem Tr {L:List Bd} (h:L.length<1∨3<L.length):BP L=false:=by simp only [BP];grind
theorem Yr {x:Part}:Pf tp Xe [.agg x.enc] (.b (Ef x)):=by
 refine AG aEz (by simp [OE]) fun rp=>?_;unfold OE;simp (disch:=omega)only[go_sem, *]
 have hL:=F5.len (rp.head.agg _ (by simp [Part.enc]):F5 (.fl 2 (x.procs.map Bd.enc)))
 repeat' (first | (refine Av (fun hc=>?_) (fun hc=>?_)<;>simp (disch:=omega)only[go_sem, *]) | (refine Aa (fun hc=>?_) (fun hc=>?_)<;>simp (disch:=omega)only[go_sem, *]) | (refine Cz (fun hc=>?_) (fun hc=>?_)<;>simp (disch:=omega)only[go_sem, *]) | (refine Bi (fun hc=>?_) (fun hc=>?_)<;>simp (disch:=omega)only[go_sem, *]))
 iterate 2
  (rw [Ef,Tr (by omega)];rfl)
 refine Ah (fun n e h=>∃ (i:Nat),n=x.procs.length - i∧h.lim=0∧e 18=.fl 2 (x.procs.map Bd.enc)∧e 19=.i .i64 x.procs.length∧e 20=.i .i64 i∧e 1=.p 0 0 0∧i≤x.procs.length∧h.get 0=some ⟨11,[x.enc]⟩∧1≤h.next∧x.procs.all Dw=(x.procs.drop i).all Dw) ?_ _ _ _ ⟨0,rfl, ?_⟩
 ·rintro n e h ⟨i,rfl,hl,e18,e19,e20,e1,hi,hg,hn,hz⟩ ih
  rw [An oE.eq_1]
  simp (disch:=omega)only[go_sem, *]
  refine Aa (fun hc=>?_) (fun hc=>?_)
  ·simp (disch:=omega)only[go_sem, *]
   repeat' (first | (refine Av (fun hc=>?_) (fun hc=>?_)<;>simp (disch:=omega)only[go_sem, *]) | (refine Aa (fun hc=>?_) (fun hc=>?_)<;>simp (disch:=omega)only[go_sem, *]) | (refine Cz (fun hc=>?_) (fun hc=>?_)<;>simp (disch:=omega)only[go_sem, *]) | (refine Bi (fun hc=>?_) (fun hc=>?_)<;>simp (disch:=omega)only[go_sem, *]))
   all_goals
    try
     have hn:Dw (nth x.procs i)=false:=by (simp only [Dw] at *;grind)
     have:=Vh (by omega) hn
     simp only [Ef,BP,this];rfl
   have hp:Dw (nth x.procs i)=true:=by (simp only [Dw] at *;grind)
   refine ih _ _ _ ?_ ⟨i+1,rfl, ?_⟩
   ·omega
   ·simp (disch:=omega)only[go_sem, *]
    ((repeat' refine And.intro ?_ ?_)<;>first | omega | assumption | (exact Mq (by omega) hp))
  ·rw [List.drop_eq_nil_of_le (by omega),List.all_nil] at hz
   simp only [Part.enc] at hg
   have hp:BP x.procs=true:=by simp only [BP,hz];grind
   simp (disch:=omega)only[go_sem, *]
   iterate 6
    all_goals
     try
      refine BH ?_
      rw [An UC.eq_1]
      simp (disch:=omega)only[go_sem, *]
      try repeat' (first | (refine Av (fun hc=>?_) (fun hc=>?_)<;>simp (disch:=omega)only[go_sem, *]) | (refine Aa (fun hc=>?_) (fun hc=>?_)<;>simp (disch:=omega)only[go_sem, *]) | (refine Cz (fun hc=>?_) (fun hc=>?_)<;>simp (disch:=omega)only[go_sem, *]) | (refine Bi (fun hc=>?_) (fun hc=>?_)<;>simp (disch:=omega)only[go_sem, *]))
   all_goals (simp only [Ef,FL,Ls,hp];grind)
 ·simp (disch:=omega)only[go_sem, *]
end Go.Ab.T
namespace Go.Ab.T
open Go Go.Ab
set_option maxHeartbeats 1000000
theorem Ao.eq (a b:Ao):a=b↔a.parts=b.parts∧a.chans=b.chans∧a.tables=b.tables:=by cases a;cases b;simp
end Go.Ab.T
namespace Go.Ab.T
open Go Go.Ab
theorem LH {b:Nat} {h h1 h2:AH} {x v:V} (g:Grown b h1 x v h2) (e:Au h h1) (hb:b≤h.next):Grown b h x v h2:=by
 have e1:=e.next;have g1:=g.next
 refine ⟨by omega,g.lim.trans e.lim,fun i hi=>by rw [g.low i hi,e.get i (by omega)],fun i hi hn=>by rw [g.get i (by omega) hn,e.get i hi], ?_,g.cell,g.cells⟩
 rcases g.own with h | h | h
 ·exact .inl h
 ·exact .inr (.inl h)
 ·exact .inr (.inr (by omega))
theorem CY {b sz:Nat} {h:AH} {v:V} {R:List (List V)} (s:Sl b h sz v R):AD v=true∨Aq v<h.next:=by
 rcases s with ⟨hv,_⟩ | ⟨i,el,cap,cs,rfl,_,_,_,_,h1,_,_⟩
 ·rcases hv with rfl | rfl<;>exact .inl rfl
 ·exact .inr h1
end Go.Ab.T
namespace Go.Ab.T
open Go Go.Ab
structure Place where
 at_:Nat
 left:Int
 deriving DecidableEq,Inhabited
@[go_sem] def Place.enc (p:Place):List V:=[.i .i64 p.at_,.i .i64 p.left]
structure Cs where
 S:List Place
 leaf:Nat
 gone:Int
 at_:Int
def dn (L:List Node) (a:Nat) (S:List Place):List Place×Nat:=
 if h:a<L.length then
  if (nth L a).kind=3∨(nth L a).kind=4 then dn L (a+1) (⟨a,(nth L a).n⟩::S) else (S,a)
 else (S,a)
termination_by L.length - a
def Le (L:List Node) (next:Nat):List Place→List Place×Nat
 | []=>([],L.length)
 | p::r=>if 0<p.left - 1 then dn L (if (nth L p.at_).kind=4 then p.at_+1 else next) (⟨p.at_,p.left - 1⟩::r) else Le L next r
def Lf (L:List Node) (next:Nat):List Place→Prop
 | []=>True
 | p::r=>p.at_<L.length∧1≤p.left∧p.left≤9223372036854775807∧(if 0<p.left - 1 then (dn L (if (nth L p.at_).kind=4 then p.at_+1 else next) (⟨p.at_,p.left - 1⟩::r)).2<L.length∧(dn L (if (nth L p.at_).kind=4 then p.at_+1 else next) (⟨p.at_,p.left - 1⟩::r)).1.length≤L.length else Lf L next r)
theorem VK {L:List Node} {a:Nat} {S:List Place}:S.length≤(dn L a S).1.length:=by
 rw [dn]
 split
 ·split
  ·have:=VK (L:=L) (a:=a+1) (S:=⟨a,(nth L a).n⟩::S)
   simp at this;omega
  ·simp
 ·simp
termination_by L.length - a
def lf (L:List Node) (c:Cs):Node:=nth L c.leaf
structure nP (L:List Node) (c:Cs):Prop where
 Le:Lf L (c.leaf+1) c.S
 gone:0≤c.gone∧c.gone<(lf L c).n∧(lf L c).n≤4611686018427387904
 at_:0≤c.at_∧c.at_≤4611686018427387903
def XR (L:List Node) (c:Cs):Cs:=⟨(Le L (c.leaf+1) c.S).1,(Le L (c.leaf+1) c.S).2,0,c.at_+((lf L c).n - c.gone)⟩
def pB (L:List Node) (c:Cs):Cs:=if c.gone+1=(lf L c).n then ⟨(Le L (c.leaf+1) c.S).1,(Le L (c.leaf+1) c.S).2,0,c.at_+1⟩ else ⟨c.S,c.leaf,c.gone+1,c.at_+1⟩
def F2 (L:List Node) (sv:V) (c:Cs):Bx:=⟨5,[[.fl 3 (L.map Node.enc),sv,.i .i64 c.leaf,.i .i64 c.gone,.i .i64 c.at_]]⟩
structure DA (h:AH) (id:Nat) (sv:V) (L:List Node) (c:Cs):Prop where
 blk:h.get id=some (F2 L sv c)
 stk:Sl (id+1) h 2 sv (c.S.reverse.map Place.enc)
 big:L.length<4000000000
 sbig:c.S.length≤L.length
 lo:h.lim≤id
 hi:id<h.next
structure BT (h:AH) (id:Nat) (sv:V) (h':AH) (sv':V):Prop where
 next:h.next≤h'.next
 lim:h'.lim=h.lim
 get:∀ i,i<h.next→i≠id→(AD sv=true∨i≠Aq sv)→h'.get i=h.get i
 own:AD sv'=true∨(AD sv=false∧Aq sv'=Aq sv)∨h.next≤Aq sv'
theorem BT.refl {h:AH} {id:Nat} {sv:V}:BT h id sv h sv:=⟨Nat.le_refl _,rfl,fun _ _ _ _=>rfl,by
 by_cases hs:AD sv=true
 ·exact .inl hs
 ·exact .inr (.inl ⟨by simpa using hs,rfl⟩)⟩
theorem BT.trans {h h1 h2:AH} {id:Nat} {sv s1 s2:V} (a:BT h id sv h1 s1) (b:BT h1 id s1 h2 s2):BT h id sv h2 s2:=by
 have an:=a.next;have bn:=b.next
 refine ⟨by omega,b.lim.trans a.lim,fun i hi hne hs=>?_, ?_⟩
 ·rw [b.get i (by omega) hne ?_,a.get i hi hne hs]
  rcases a.own with h1 | ⟨hn,h1⟩ | h1
  ·exact .inl h1
  ·rcases hs with hs | hs
   ·rw [hs] at hn;cases hn
   ·exact .inr (by rw [h1];exact hs)
  ·exact .inr (by omega)
 ·rcases b.own with h2 | ⟨hn,h2⟩ | h2
  ·exact .inl h2
  ·rcases a.own with h1 | ⟨hn1,h1⟩ | h1
   ·rw [h1] at hn;cases hn
   ·exact .inr (.inl ⟨hn1,h2.trans h1⟩)
   ·exact .inr (.inr (by omega))
  ·exact .inr (.inr (by omega))
theorem BT.ext {h h1 h2:AH} {id:Nat} {sv s1:V} (a:BT h id sv h1 s1) (b:Au h1 h2):BT h id sv h2 s1:=by
 have an:=a.next;have bn:=b.next
 exact ⟨by omega,b.lim.trans a.lim,fun i hi hne hs=>by rw [b.get i (by omega),a.get i hi hne hs],a.own⟩
theorem DA.ext {h h':AH} {id:Nat} {sv:V} {L:List Node} {c:Cs} (k:DA h id sv L c) (x:Au h h'):DA h' id sv L c:=by
 have:=x.next
 exact ⟨by rw [x.get id k.hi];exact k.blk,k.stk.ext x,k.big,k.sbig,by rw [x.lim];exact k.lo,by have:=k.hi;omega⟩
theorem DA.sne {h:AH} {id:Nat} {sv:V} {L:List Node} {c:Cs} (k:DA h id sv L c):AD sv=true∨(id<Aq sv∧Aq sv<h.next):=by
 rcases k.stk with ⟨hv,_⟩ | ⟨i,el,cap,cs,rfl,_,_,_,_,h1,h2,_⟩
 ·rcases hv with rfl | rfl<;>exact .inl rfl
 ·exact .inr ⟨h2,h1⟩
theorem DA.sne' {h:AH} {id:Nat} {sv:V} {L:List Node} {c:Cs} (k:DA h id sv L c):AD sv=true∨id≠Aq sv:=by
 rcases k.sne with h | h
 ·exact .inl h
 ·exact .inr (by omega)
theorem DA.put {h:AH} {id:Nat} {sv:V} {L:List Node} {c c':Cs} (k:DA h id sv L c) (hS:c'.S=c.S):DA (h.put id (F2 L sv c')) id sv L c':=by
 refine ⟨by rw [Ad,Aw rfl], ?_,k.big,by rw [hS];exact k.sbig,k.lo,k.hi⟩
 rw [hS]
 rcases k.stk with ⟨hv,hR⟩ | ⟨i,el,cap,cs,rfl,hg,h1,h2,h3,h4,h5,h6⟩
 ·exact .inl ⟨hv,hR⟩
 ·exact .inr ⟨i,el,cap,cs,rfl,by rw [Ad,Af (by omega)];exact hg,h1,h2,h3,h4,h5,h6⟩
theorem BT.put {h:AH} {id:Nat} {sv:V} {b:Bx}:BT h id sv (h.put id b) sv:=by
 refine ⟨Nat.le_refl _,rfl,fun i hi hne hs=>by rw [Ad,Af hne],(BT.refl (h:=h) (id:=id)).own⟩
theorem DA.push {h h4:AH} {id:Nat} {sv w:V} {L:List Node} {c c':Cs} {p:Place} (k:DA h id sv L c) (s4:Sl (id+1) h4 2 w (c.S.reverse.map Place.enc++[p.enc])) (a4:Grown (id+1) h sv w h4) (hS:c'.S=p::c.S) (hl:c'.S.length≤L.length):DA (h4.put id (F2 L w c')) id w L c':=by
 have hn:=a4.next;have hi:=k.hi;have:=k.lo
 refine ⟨by rw [Ad,Aw rfl], ?_,k.big,hl, ?_, ?_⟩
 ·rw [hS]
  rcases s4 with ⟨hv,hR⟩ | ⟨i,el,cap,cs,hw,hg,h1,h2,h3,q4,h5,h6⟩
  ·simp at hR
  ·refine Sl.same (h:=h4) (.inr ⟨i,el,cap,cs,by simpa using hw,hg,h1,by simpa using h2,by simpa using h3,q4,h5,by simpa using h6⟩) (Nat.le_refl _) (fun _=>?_)
   rw [Ad,Af (by rw [hw];simp only [Aq];omega)]
 ·rw [DK,a4.lim];exact k.lo
 ·rw [Ai];omega
theorem BT.push {h h4:AH} {id:Nat} {sv w:V} {b:Bx} (a4:Grown (id+1) h sv w h4):BT h id sv (h4.put id b) w:=
 ⟨a4.next,a4.lim,fun i hi hne hs=>by rw [Ad,Af hne];exact a4.get i hi hs,a4.own⟩
set_option maxHeartbeats 1000000
theorem Ly {h : AH} {id : Nat} {sv : V} {L : List Node} {c : Cs} {a : Nat} {K : V → AH → Prop} (k : DA h id sv L c) (hd : (dn L a c.S).2 < L.length) (hl : (dn L a c.S).1.length ≤ L.length)
    (kk:∀ sv' h',DA h' id sv' L ⟨(dn L a c.S).1,(dn L a c.S).2,c.gone,c.at_⟩→BT h id sv h' sv'→K (.tup []) h'):Cq tp Jb [.p id 0 0,.i .i64 a] h K:=by
 refine Ac fJ (by simp [J0]) fun wf rp=>?_;unfold J0;simp (disch:=omega)only[go_sem, *]
 refine Ah (fun n e h'=>∃ (b:Nat) (S:List Place) (sv':V),n=L.length - b∧e 0=.p id 0 0∧e 1=.i .i64 b∧DA h' id sv' L ⟨S,c.leaf,c.gone,c.at_⟩∧BT h id sv h' sv'∧dn L b S=dn L a c.S) ?_ _ _ _ ⟨a,c.S,sv,rfl, ?_⟩
 ·rintro n e h' ⟨b,S,sv',rfl,e0,e1,k',f',hz⟩ ih
  have k0:=k'
  obtain ⟨kb,ks,kbig,ksb,klo,khi⟩:=k'
  simp only [F2] at kb
  have hb:b<L.length:=by
   rw [← hz] at hd
   rw [dn] at hd
   split at hd
   ·assumption
   ·exact hd
  rw [dn,dif_pos hb] at hz
  rw [An Ua.eq_1]
  have tail:(nth L b).kind=3∨(nth L b).kind=4→dn L (b+1) (⟨b,(nth L b).n⟩::S)=dn L a c.S:=fun hk=>by rw [← hz,if_pos hk]
  have stop:¬ ((nth L b).kind=3∨(nth L b).kind=4)→(S,b)=dn L a c.S:=fun hk=>by rw [← hz,if_neg hk]
  have kl:=VK (L:=L) (a:=b+1) (S:=⟨b,(nth L b).n⟩::S)
  simp (disch:=omega)only[go_sem, *]
  refine Av (fun hc=>?_) (fun hc=>?_)
  ·simp (disch:=omega)only[go_sem, *]
   have ht:=tail (.inl hc)
   rw [ht] at kl
   simp only [List.length_cons] at kl
   have nsid:=k0.sne'
   refine Az (ks.alloc _) (by simp only [A9];omega) (by simp only [Ag];omega) (by simp;omega) ?_
   intro w h4 s4 a4
   have a4:=LH a4 ((Au.refl h').alloc _) (by omega)
   have hn4:=a4.next
   have hl4:=a4.lim
   have hc4:=a4.cells
   have hd4:=a4.cell
   have hb4:=a4.get id khi nsid
   rw [kb] at hb4
   simp (disch:=omega)only[go_sem, *]
   refine ih _ _ _ ?_ ⟨b+1,⟨b,(nth L b).n⟩::S,w,rfl, ?_⟩
   ·omega
   ·simp (disch:=omega)only[go_sem, *]
    exact ⟨DA.push (p:=⟨b,(nth L b).n⟩) (c':=⟨⟨b,(nth L b).n⟩::S,c.leaf,c.gone,c.at_⟩) k0 s4 a4 rfl (by simp;omega),f'.trans (BT.push a4)⟩
  ·simp (disch:=omega)only[go_sem, *]
   refine Aa (fun hc2=>?_) (fun hc2=>?_)
   ·simp (disch:=omega)only[go_sem, *]
    have ht:=tail (.inr hc2)
    rw [ht] at kl
    simp only [List.length_cons] at kl
    have nsid:=k0.sne'
    refine Az (ks.alloc _) (by simp only [A9];omega) (by simp only [Ag];omega) (by simp;omega) ?_
    intro w h4 s4 a4
    have a4:=LH a4 ((Au.refl h').alloc _) (by omega)
    have hn4:=a4.next
    have hl4:=a4.lim
    have hc4:=a4.cells
    have hd4:=a4.cell
    have hb4:=a4.get id khi nsid
    rw [kb] at hb4
    simp (disch:=omega)only[go_sem, *]
    refine ih _ _ _ ?_ ⟨b+1,⟨b,(nth L b).n⟩::S,w,rfl, ?_⟩
    ·omega
    ·simp (disch:=omega)only[go_sem, *]
     exact ⟨DA.push (p:=⟨b,(nth L b).n⟩) (c':=⟨⟨b,(nth L b).n⟩::S,c.leaf,c.gone,c.at_⟩) k0 s4 a4 rfl (by simp;omega),f'.trans (BT.push a4)⟩
   ·have hst:=stop (by omega)
    simp (disch:=omega)only[go_sem, *]
    refine kk sv' _ ?_ (f'.trans BT.put)
    rw [← hst]
    exact DA.put (c':=⟨S,b,c.gone,c.at_⟩) k0 rfl
 ·simp (disch:=omega)only[go_sem, *]
  exact BT.refl
end Go.Ab.T
namespace Go.Ab.T
open Go Go.Ab
namespace Fo
def hd:Fo→Fo
 | nil=>nil
 | leaf x _=>leaf x nil
 | seq x k _=>seq x k nil
 | rep x k _=>rep x k nil
def tl:Fo→Fo
 | nil=>nil
 | leaf _ r=>r
 | seq _ _ r=>r
 | rep _ _ r=>r
theorem flat_hd:∀ (f:Fo),f.flat=f.hd.flat++f.tl.flat
 | nil=>rfl
 | leaf _ _=>by simp [flat,hd,tl]
 | seq _ _ _=>by simp [flat,hd,tl]
 | rep _ _ _=>by simp [flat,hd,tl]
theorem runs_hd:∀ (f:Fo),f.runs=f.hd.runs++f.tl.runs
 | nil=>rfl
 | leaf _ _=>by simp [runs,hd,tl]
 | seq _ _ _=>by simp [runs,hd,tl]
 | rep _ _ _=>by simp [runs,hd,tl]
theorem count_tl:∀ (f:Fo),0<f.count→f.tl.count+1=f.count
 | nil,h=>by simp [count] at h
 | leaf _ _,_=>rfl
 | seq _ _ _,_=>rfl
 | rep _ _ _,_=>rfl
theorem ok_tl:∀ (f:Fo),f.ok→f.tl.ok
 | nil,_=>trivial
 | leaf _ _,h=>h.2
 | seq _ _ _,h=>h.2.2.2.2
 | rep _ _ _,h=>h.2.2.2.2
theorem len_tl:∀ (f:Fo),f.ok→f.tl.len≤f.len
 | nil,_=>by simp [tl]
 | leaf x r,ho=>by
  have:=Cw (x:=x) (by rw [ho.1];omega)
  simp only [tl,len];omega
 | seq x k r,ho=>by
  have:=(len_pos k ho.2.2.2.1).1
  simp only [tl,len];omega
 | rep x k r,ho=>by
  have:=Nm ho
  simp only [tl,len];omega
theorem hd_of_one {f:Fo} (h:f.count=1):f.hd=f:=by
 cases f<;>simp [count] at h<;>simp [hd,nil_of h]
end Fo
def Ax:List AM→Int
 | []=>0
 | r::l=>r.n+Ax l
theorem B6:∀ (a b:List AM),Ax (a++b)=Ax a+Ax b
 | [],b=>by simp [Ax]
 | r::l,b=>by simp only [List.cons_append,Ax,B6 l b];omega
theorem JI (l:List AM):∀ (m:Nat),Ax (List.replicate m l).flatten=m*Ax l
 | 0=>by simp [Ax]
 | m+1=>by rw [List.replicate_succ,List.flatten_cons,B6,JI l m,Int.natCast_add,Int.add_mul];simp;omega
theorem Fo.runs_sum:∀ (f:Fo),f.ok→Ax f.runs=f.len
 | .nil,_=>rfl
 | .leaf x r,ho=>by simp only [Fo.runs,Fo.len,Ax,Fo.runs_sum r ho.2]
 | .seq x k r,ho=>by simp only [Fo.runs,Fo.len,B6,Fo.runs_sum k ho.2.2.2.1,Fo.runs_sum r ho.2.2.2.2]
 | .rep x k r,ho=>by
  have hn:=Cw (x:=x) (by rw [ho.2.1];omega)
  simp only [Fo.runs,Fo.len,B6,JI,Fo.runs_sum k ho.2.2.2.1,Fo.runs_sum r ho.2.2.2.2]
  rw [Int.toNat_of_nonneg (by omega)]
inductive Z (L:List Node):List Place→Nat→List AM→Prop where
 | nil (n:Nat):Z L [] n []
 | seq (a:Nat) (S:List Place) (n:Nat) (g:Fo) (R:List Node) (l:List AM):(nth L a).kind=3→a<n→a<L.length→S.length≤a→g.ok→g.count≤128→g.len≤4611686018427387904→L.drop n=g.flat++R→Z L S (n+g.flat.length) l→Z L (⟨a,(g.count:Int)+1⟩::S) n (g.runs++l)
 | rep (a:Nat) (S:List Place) (k:Fo) (R:List Node) (m:Nat) (l:List AM):(nth L a).kind=4→a<L.length→S.length≤a→k.ok→k.count=1→m+1≤4611686018427387904→k.len≤4611686018427387904→L.drop (a+1)=k.flat++R→Z L S (a+1+k.flat.length) l→Z L (⟨a,(m:Int)+1⟩::S) (a+1+k.flat.length) ((List.replicate m k.runs).flatten++l)
def D (L:List Node) (q:List Place×Nat) (l:List AM):Prop:=q.2<L.length∧q.1.length≤q.2∧kids (nth L q.2)=0∧(nth L q.2).n≤4611686018427387904∧∃ l',Z L q.1 (q.2+1) l'∧l=⟨C4 (nth L q.2),(nth L q.2).n⟩::l'
theorem GN {L:List Node}:∀ (f:Fo) (a:Nat) (S:List Place) (l:List AM) (R:List Node),f.ok→0<f.count→f.len≤4611686018427387904→S.length≤a→L.drop a=f.flat++R→Z L S (a+f.hd.flat.length) l→D L (dn L a S) (f.hd.runs++l)
 | .nil,a,S,l,R,ho,hc,hln,hs,hd,hz=>by simp [Fo.count] at hc
 | .leaf x r,a,S,l,R,ho,hc,hln,hs,hd,hz=>by
  have hd':L.drop a=x::(r.flat++R):=hd
  have hx:=B2 hd'
  have ha:=(AN hd').1
  have hk:=E2 x (by rw [ho.1];omega)
  rw [ho.1] at hk
  rw [dn,dif_pos ha,hx,if_neg (by omega)]
  have hlr:=(Fo.len_pos r ho.2).1
  simp only [Fo.len] at hln
  refine ⟨ha,hs,by rw [hx];exact ho.1,by rw [hx];omega,l,hz,by rw [hx];rfl⟩
 | .seq x k r,a,S,l,R,ho,hc,hln,hs,hd,hz=>by
  have hd':L.drop a=x::(k.flat++(r.flat++R)):=by rw [hd];simp [Fo.flat]
  have hx:=B2 hd'
  have ha:=(AN hd').1
  obtain ⟨h3,hk,hp,hok,hor⟩:=ho
  have hlr:=(Fo.len_pos r hor).1
  simp only [Fo.len] at hln
  rw [dn,dif_pos ha,hx,if_pos (.inl h3)]
  have hd2:=(AN hd').2
  have hct:=Fo.count_tl k hp
  have hkb:=GP x
  have hxn:x.n=(k.tl.count:Int)+1:=by
   have:=(Jh x (by omega)).1 h3;omega
  have hfl:=congrArg List.length (Fo.flat_hd k)
  simp only [List.length_append] at hfl
  rw [show (Fo.seq x k r).hd.runs++l=k.hd.runs++(k.tl.runs++l) by rw [← List.append_assoc,←Fo.runs_hd];simp [Fo.hd,Fo.runs]]
  refine GN k (a+1) _ _ _ hok hp (by omega) (by simp;omega) hd2 ?_
  rw [hxn]
  refine Z.seq a S _ k.tl (r.flat++R) l (by rw [hx];exact h3) (by omega) ha hs (Fo.ok_tl k hok) (by omega) (by have:=Fo.len_tl k hok;omega) ?_ ?_
  ·rw [Fo.flat_hd k,List.append_assoc] at hd2
   exact CM hd2
  ·have:a+1+k.hd.flat.length+k.tl.flat.length=a+(Fo.seq x k r).hd.flat.length:=by
    show _=a+(x::(k.flat++[])).length
    simp;omega
   rw [this];exact hz
 | .rep x k r,a,S,l,R,ho,hc,hln,hs,hd,hz=>by
  have hd':L.drop a=x::(k.flat++(r.flat++R)):=by rw [hd];simp [Fo.flat]
  have hx:=B2 hd'
  have ha:=(AN hd').1
  have hrn:=Nm ho
  obtain ⟨h4,hk,hp,hok,hor⟩:=ho
  have hlr:=(Fo.len_pos r hor).1
  simp only [Fo.len] at hln
  have hm1:x.n*1≤x.n*k.len:=Int.mul_le_mul_of_nonneg_left hrn.2.1 (by omega)
  have hm2:1*k.len≤x.n*k.len:=Int.mul_le_mul_of_nonneg_right hrn.1 (by omega)
  have hm3:x.n≤4611686018427387904:=by rw [Int.mul_one] at hm1;omega
  rw [dn,dif_pos ha,hx,if_pos (.inr h4)]
  have hd2:=(AN hd').2
  obtain ⟨m,hm⟩:∃ m:Nat,x.n=(m:Int)+1:=⟨(x.n - 1).toNat,by omega⟩
  have h1:=Fo.hd_of_one hp
  rw [show (Fo.rep x k r).hd.runs++l=k.hd.runs++((List.replicate m k.runs).flatten++l) by
   rw [h1,←List.append_assoc];simp only [Fo.hd,Fo.runs,List.append_nil]
   rw [show x.n.toNat=m+1 by omega,List.replicate_succ,List.flatten_cons]]
  refine GN k (a+1) _ _ _ hok (by omega) (by omega) (by simp;omega) hd2 ?_
  rw [hm,h1]
  refine Z.rep a S k (r.flat++R) m l (by rw [hx];exact h4) ha hs hok hp (by rw [hm] at hm3;omega) (by omega) hd2 ?_
  have:a+1+k.flat.length=a+(Fo.rep x k r).hd.flat.length:=by
   show _=a+(x::(k.flat++[])).length
   simp;omega
  rw [this];exact hz
theorem aFB {L:List Node} {S:List Place} {n:Nat} {l:List AM} (z:Z L S n l):Lf L n S∧((l=[]∧Le L n S=([],L.length))∨D L (Le L n S) l):=by
 induction z with
 | nil n=>exact ⟨trivial,.inl ⟨rfl,rfl⟩⟩
 | seq a S n g R l hk han hal hs hg hgc hgl hd hz ih=>
  by_cases hc:0<g.count
  ·have hct:=Fo.count_tl g hc
   have hfl:=congrArg List.length (Fo.flat_hd g)
   simp only [List.length_append] at hfl
   have hD:D L (dn L n (⟨a,(g.count:Int)⟩::S)) (g.runs++l):=by
    rw [Fo.runs_hd,List.append_assoc]
    refine GN g n _ _ R hg hc hgl (by simp;omega) hd ?_
    have hd2:=hd
    rw [Fo.flat_hd g,List.append_assoc] at hd2
    have:=Z.seq a S (n+g.hd.flat.length) g.tl R l hk (by omega) hal hs (Fo.ok_tl g hg) (by omega) (by have:=Fo.len_tl g hg;omega) (CM hd2) (by rw [Nat.add_assoc,←hfl];exact hz)
    rw [show ((g.tl.count:Int)+1)=g.count by omega] at this
    exact this
   have e:(g.count:Int)+1 - 1=g.count:=by omega
   refine ⟨⟨hal,by simp only;omega,by simp only;omega, ?_⟩,.inr ?_⟩
   ·simp only [e]
    rw [if_pos (by omega),if_neg (by omega)]
    exact ⟨hD.1,by have:=hD.1;have:=hD.2.1;omega⟩
   ·rw [Le]
    simp only [e]
    rw [if_pos (by omega),if_neg (by omega)]
    exact hD
  ·have h0:g=.nil:=Fo.nil_of (by omega)
   subst h0
   simp only [Fo.count,Fo.flat,Fo.runs,List.length_nil,Nat.add_zero,List.nil_append] at hz ih ⊢
   refine ⟨⟨hal,by simp,by simp, ?_⟩, ?_⟩
   ·rw [if_neg (by simp)];exact ih.1
   ·rw [Le,if_neg (by simp)];exact ih.2
 | rep a S k R m l hk hal hs hok hkc hm hkl hd hz ih=>
  cases m with
  | zero=>
   simp only [List.replicate_zero,List.flatten_nil,List.nil_append]
   refine ⟨⟨hal,by simp,by simp, ?_⟩, ?_⟩
   ·rw [if_neg (by simp)];exact ih.1
   ·rw [Le,if_neg (by simp)];exact ih.2
  | succ m=>
   have hD:D L (dn L (a+1) (⟨a,((m+1:Nat):Int)⟩::S)) ((List.replicate (m+1) k.runs).flatten++l):=by
    rw [List.replicate_succ,List.flatten_cons,List.append_assoc]
    have h1:=Fo.hd_of_one hkc
    conv=>arg 3;rw [← h1]
    refine GN k (a+1) _ _ R hok (by omega) hkl (by simp;omega) hd ?_
    rw [h1]
    have:=Z.rep a S k R m l hk hal hs hok hkc (by omega) hkl hd hz
    simpa using this
   have e:((m+1:Nat):Int)+1 - 1=((m+1:Nat):Int):=by omega
   refine ⟨⟨hal,by simp only;omega,by simp only;omega, ?_⟩,.inr ?_⟩
   ·simp only [e]
    rw [if_pos (by omega),if_pos hk]
    exact ⟨hD.1,by have:=hD.1;have:=hD.2.1;omega⟩
   ·rw [Le]
    simp only [e]
    rw [if_pos (by omega),if_pos hk]
    exact hD
structure Sa (L:List Node) (c:Cs) (l:List AM):Prop where
 sb:c.S.length≤L.length
 at_:0≤c.at_∧c.at_+Ax l≤4096
 sum:0≤Ax l
 go:(l=[]∧c.leaf=L.length)∨(c.leaf<L.length∧kids (lf L c)=0∧0≤c.gone∧c.gone<(lf L c).n∧(lf L c).n≤4611686018427387904∧∃ l',Z L c.S (c.leaf+1) l'∧l=⟨C4 (lf L c),(lf L c).n - c.gone⟩::l')
theorem Sa.nil {L:List Node} {c:Cs} (r:Sa L c []):c.leaf=L.length:=by
 rcases r.go with h | ⟨_,_,_,_,_,l',_,h⟩
 ·exact h.2
 ·cases h
theorem D.rem {L:List Node} {q:List Place×Nat} {l:List AM} {a:Int} (d:D L q l) (ha:0≤a∧a+Ax l≤4096) (hp:0≤Ax l):Sa L ⟨q.1,q.2,0,a⟩ l:=by
 obtain ⟨h1,h2,h3,hb,l',hz,hl⟩:=d
 have hn:=Cw (x:=nth L q.2) (by omega)
 exact ⟨by simp only;omega,ha,hp,.inr ⟨h1,h3,by simp,by simp only [lf];omega,hb,l',hz,by rw [hl];simp [lf]⟩⟩
theorem Z.sum {L:List Node} {S:List Place} {n:Nat} {l:List AM} (z:Z L S n l):0≤Ax l:=by
 induction z with
 | nil n=>simp [Ax]
 | seq a S n g R l hk han hal hs hg hgc hgl hd hz ih=>rw [B6,Fo.runs_sum g hg];have:=(Fo.len_pos g hg).1;omega
 | rep a S k R m l hk hal hs hok hkc hm hkl hd hz ih=>
  rw [B6,JI,Fo.runs_sum k hok]
  have:0≤(m:Int)*k.len:=Int.mul_nonneg (by omega) (Fo.len_pos k hok).1
  omega
structure aSb (L:List Node) (c:Cs) (r:AM) (l:List AM):Prop where
 lt:c.leaf<L.length
 ok:nP L c
 run:r=⟨C4 (lf L c),(lf L c).n - c.gone⟩
 pos:1≤r.n
 next:Sa L (XR L c) l
 tick:Sa L (pB L c) (if r.n=1 then l else ⟨r.part,r.n - 1⟩::l)
theorem Sa.cons {L:List Node} {c:Cs} {r:AM} {l:List AM} (h:Sa L c (r::l)):aSb L c r l:=by
 obtain ⟨hsb,hat,hsum,hgo⟩:=h
 rcases hgo with ⟨h,_⟩ | ⟨h1,h2,h3,h4,hb,l',hz,h5⟩
 ·cases h
 ·obtain ⟨rfl,rfl⟩:=List.cons.inj h5
  have hok:=aFB hz
  have hl0:=hz.sum
  simp only [Ax] at hat hsum
  have step:∀ a:Int,0≤a→a+Ax l≤4096→Sa L ⟨(Le L (c.leaf+1) c.S).1,(Le L (c.leaf+1) c.S).2,0,a⟩ l:=by
   intro a ha ha2
   rcases hok.2 with ⟨rfl,he⟩ | hd
   ·rw [he];exact ⟨by simp,by simp only [Ax];simp only [Ax] at ha2;omega,by simp [Ax],.inl ⟨rfl,rfl⟩⟩
   ·exact hd.rem ⟨ha,ha2⟩ hl0
  refine ⟨h1,⟨hok.1,⟨h3,h4,hb⟩,by omega⟩,rfl,by simp only;omega,step _ (by omega) (by omega), ?_⟩
  unfold pB
  by_cases hg:c.gone+1=(lf L c).n
  ·rw [if_pos hg,if_pos (by simp only;omega)]
   exact step _ (by omega) (by omega)
  ·rw [if_neg hg,if_neg (by simp only;omega)]
   exact ⟨hsb,by simp only [Ax];omega,by simp only [Ax];omega,.inr ⟨h1,h2,by simp only;omega,by simp only [lf] at hg h4 ⊢;omega,hb,l,hz,by simp only [lf];congr 2;omega⟩⟩
def eG (L:List Node):Cs:=⟨(dn L 0 []).1,(dn L 0 []).2,0,0⟩
theorem R3 {f:Fo} (ho:f.ok) (hc:f.count=1) (hl:f.len≤4096):D f.flat (dn f.flat 0 []) f.runs:=by
 have:=GN (L:=f.flat) f 0 [] [] [] ho (by omega) (by omega) (by simp) (by simp) (Z.nil _)
 rw [Fo.hd_of_one hc,List.append_nil] at this
 exact this
theorem TG {f:Fo} (ho:f.ok) (hc:f.count=1) (hl:f.len≤4096):Sa f.flat (eG f.flat) f.runs:=by
 have h:=Fo.runs_sum f ho
 have:=(Fo.len_pos f ho).1
 exact (R3 ho hc hl).rem (by omega) (by omega)
end Go.Ab.T
namespace Go.Ab.T
open Go Go.Ab
set_option maxHeartbeats 1000000
theorem DA.some {h:AH} {id:Nat} {sv:V} {L:List Node} {S:List Place} {p:Place} {lf:Nat} {g a:Int} (k:DA h id sv L ⟨p::S,lf,g,a⟩):AD sv=false∧id<Aq sv∧Aq sv<h.next:=by
 rcases k.stk with ⟨_,hR⟩ | ⟨i,el,cap,cs,rfl,_,_,_,_,h1,h2,_⟩
 ·simp at hR
 ·exact ⟨rfl,h2,h1⟩
theorem DA.top {h:AH} {id:Nat} {sv:V} {L:List Node} {S:List Place} {p p':Place} {lf:Nat} {g a:Int} (k:DA h id sv L ⟨p::S,lf,g,a⟩):DA (h.put (Aq sv) ⟨2,(A3 h sv).set (CF sv+S.length) p'.enc⟩) id sv L ⟨p'::S,lf,g,a⟩∧BT h id sv (h.put (Aq sv) ⟨2,(A3 h sv).set (CF sv+S.length) p'.enc⟩) sv:=by
 obtain ⟨hs,h1,h2⟩:=k.some
 refine ⟨⟨?_, ?_,k.big,k.sbig,k.lo,k.hi⟩,⟨Nat.le_refl _,rfl,fun i _ _ hi=>?_,(BT.refl (h:=h) (id:=id)).own⟩⟩
 ·rw [Ad,Af (by omega)];exact k.blk
 ·have:=k.stk.setT (h':=h.put (Aq sv) ⟨2,(A3 h sv).set (CF sv+S.length) p'.enc⟩) (j:=S.length) (x:=p') (by simp) (Nat.le_refl _) (by rw [Ad,Aw rfl])
  simp only [List.reverse_cons] at this ⊢
  rw [List.set_append_right _ _ (by simp)] at this
  simpa using this
 ·rw [Ad,Af]
  rcases hi with hi | hi
  ·rw [hs] at hi;cases hi
  ·exact hi
theorem DA.pop {h:AH} {id:Nat} {sv:V} {L:List Node} {S:List Place} {p:Place} {lf:Nat} {g a:Int} (k:DA h id sv L ⟨p::S,lf,g,a⟩):DA (h.put id (F2 L (B9 sv S.length) ⟨S,lf,g,a⟩)) id (B9 sv S.length) L ⟨S,lf,g,a⟩∧BT h id sv (h.put id (F2 L (B9 sv S.length) ⟨S,lf,g,a⟩)) (B9 sv S.length):=by
 obtain ⟨hs,h1,h2⟩:=k.some
 refine ⟨⟨?_, ?_,k.big,by have:=k.sbig;simp at this ⊢;omega,k.lo,k.hi⟩,⟨Nat.le_refl _,rfl,fun i _ hi _=>by rw [Ad,Af hi],.inr (.inl ⟨hs,Hv⟩)⟩⟩
 ·rw [Ad,Aw rfl]
 ·have:=k.stk.truncd (n:=S.length) (by simp)
  simp only [List.reverse_cons,List.map_append] at this
  rw [List.take_left' (by simp)] at this
  exact Sl.same this (Nat.le_refl _) (fun _=>by rw [Ad,Af (by rw [Hv];omega)])
theorem nH {p:Place} {S:List Place}:nth (p::S).reverse S.length=p:=by simp [nth,List.getD]
theorem DA.lim_le {h:AH} {id:Nat} {sv:V} {L:List Node} {c:Cs} (k:DA h id sv L c):h.lim≤h.next:=by
 have:=k.lo;have:=k.hi;omega
theorem jK {h : AH} {id : Nat} {sv : V} {L : List Node} {c : Cs} {K : V → AH → Prop} (k : DA h id sv L c) (hlf : c.leaf < L.length) (hok : Lf L (c.leaf + 1) c.S)
    (kk:∀ sv' h',DA h' id sv' L ⟨(Le L (c.leaf+1) c.S).1,(Le L (c.leaf+1) c.S).2,0,c.at_⟩→BT h id sv h' sv'→K (.tup []) h'):Cq tp LJ [.p id 0 0] h K:=by
 have k0:=k
 obtain ⟨kb,ks,kbig,ksb,klo,khi⟩:=k
 simp only [F2] at kb
 refine Ac fB (by simp [JS]) fun wf rp=>?_;unfold JS;simp (disch:=omega)only[go_sem, *]
 refine Ah (fun n e h'=>∃ (S:List Place) (sv':V),n=S.length∧e 0=.p id 0 0∧e 2=.i .i64 ((c.leaf:Int)+1)∧DA h' id sv' L ⟨S,c.leaf,0,c.at_⟩∧BT h id sv h' sv'∧Lf L (c.leaf+1) S∧Le L (c.leaf+1) S=Le L (c.leaf+1) c.S) ?_ _ _ _ ⟨c.S,sv,rfl, ?_⟩
 ·rintro n e h' ⟨S,sv',rfl,e0,e2,k',f',ok,hz⟩ ih
  have k1:=k'
  obtain ⟨kb,ks,kbig,ksb,klo,khi⟩:=k'
  obtain ⟨glen,gbig,glt,glo,gget,gat,grow,gc,gcs⟩:=ks.facts
  have grl:=fun (hj:0<S.length)=>ks.rowlt (j:=S.length - 1) (by simp;omega)
  have spre:∀ {k:IntKind} {j:Int} {cs:List (List V)},0≤j→j≤S.length→G4 (some ⟨2,cs⟩) 2 sv' none (some (.i k j)) none=some (B9 sv' j.toNat):=fun h0 h1=>ks.pre h0 (by simp;omega)
  simp only [List.length_reverse] at glen gbig glt gget gat grow grl spre ksb
  simp only [F2] at kb
  rw [An QW.eq_1]
  simp (disch:=omega)only[go_sem, *]
  refine Aa (fun hc=>?_) (fun hc=>?_)
  ·obtain ⟨p,r,rfl⟩:∃ p r,S=p::r:=by
    match S,hc with
    | [],hc=>simp at hc
    | p::r,_=>exact ⟨p,r,rfl⟩
   simp only [Lf] at ok
   obtain ⟨o1,o2,o3,o4⟩:=ok
   rw [Le] at hz
   have tn:=nH (p:=p) (S:=r)
   simp only [List.length_cons,Int.natCast_add,Int.natCast_one] at glen gbig glt gget gat grow grl spre ksb hc
   have z1:((r.length:Int)+1 - 1).toNat=r.length:=by omega
   have grl':=grl (by omega)
   simp only [Nat.add_sub_cancel] at grl'
   have sne:=k1.some
   have kt:=DA.top (p':=⟨p.at_,p.left - 1⟩) k1
   simp (disch:=omega)only[go_sem, *]
   refine Aa (fun hc2=>?_) (fun hc2=>?_)
   ·rw [if_pos hc2] at o4 hz
    simp (disch:=omega)only[go_sem, *]
    refine Aa (fun hc3=>?_) (fun hc3=>?_)
    ·rw [if_pos hc3] at o4 hz
     simp (disch:=omega)only[go_sem, *]
     refine Ly (a:=p.at_+1) kt.1 o4.1 o4.2 ?_
     intro sv2 h2 c2 f2
     simp (disch:=omega)only[go_sem, *]
     refine kk sv2 _ ?_ (f'.trans (kt.2.trans f2))
     rw [← hz];exact c2
    ·rw [if_neg hc3] at o4 hz
     simp (disch:=omega)only[go_sem, *]
     refine Ly (a:=c.leaf+1) kt.1 o4.1 o4.2 ?_
     intro sv2 h2 c2 f2
     simp (disch:=omega)only[go_sem, *]
     refine kk sv2 _ ?_ (f'.trans (kt.2.trans f2))
     rw [← hz];exact c2
   ·rw [if_neg hc2] at o4 hz
    have kq:=DA.pop kt.1
    have hct:=Fp (n:=r.length) gcs
    simp (disch:=omega)only[go_sem, *]
    refine ih _ _ _ ?_ ⟨r,B9 sv' r.length,rfl, ?_⟩
    ·simp
    ·simp (disch:=omega)only[go_sem, *]
     exact ⟨kq.1,f'.trans (kt.2.trans kq.2)⟩
  ·have hS:S=[]:=by
    match S,hc with
    | [],hc=>rfl
    | p::r,hc=>simp at hc
   subst hS
   rw [Le] at hz
   simp (disch:=omega)only[go_sem, *]
   refine kk sv' _ ?_ (f'.trans BT.put)
   rw [← hz];exact DA.put (c':=⟨[],L.length,0,c.at_⟩) k1 rfl
 ·simp (disch:=omega)only[go_sem, *]
  exact ⟨DA.put (c':=⟨c.S,c.leaf,0,c.at_⟩) k0 rfl,BT.put⟩
end Go.Ab.T
namespace Go.Ab.T
open Go Go.Ab
set_option maxHeartbeats 1000000
theorem MC {h : AH} {id : Nat} {sv : V} {L : List Node} {c : Cs} {K : V → AH → Prop} (k : DA h id sv L c) (hl : L.length ≤ c.leaf)
    (kk:∀ h',Au h h'→K (.tup [.agg (AM.enc ⟨0,0⟩),.b false]) h'):Cq tp Jg [.p id 0 0] h K:=by
 have kb:=k.blk
 have kl:=k.lim_le
 have khi:=k.hi
 simp only [F2] at kb
 refine Ac V8 (by simp [Ko]) fun wf rp=>?_;unfold Ko;simp (disch:=omega)only[go_sem, *]
 refine Aa (fun hc=>?_) (fun hc=>by omega)
 simp (disch:=omega)only[go_sem, *]
 exact kk _ (by (repeat (first | exact Au.refl _ | refine Au.alloc ?_ _ | (refine Au.put ?_ _ _ ?_;rotate_left;(first | omega | (simp only [Ag,Ai];omega))))))
theorem DA.put_other {h:AH} {id:Nat} {sv:V} {L:List Node} {c:Cs} (k:DA h id sv L c) {j:Nat} {b:Bx} (h1:id≠j) (h3:AD sv=true∨Aq sv≠j):DA (h.put j b) id sv L c:=by
 refine ⟨by rw [Ad,Af h1];exact k.blk, ?_,k.big,k.sbig,k.lo,k.hi⟩
 rcases k.stk with ⟨hv,hR⟩ | ⟨i,el,cap,cs,rfl,hg,q1,q2,q3,q4,q5,q6⟩
 ·exact .inl ⟨hv,hR⟩
 ·refine .inr ⟨i,el,cap,cs,rfl, ?_,q1,q2,q3,q4,q5,q6⟩
  rcases h3 with h3 | h3
  ·cases h3
  ·rw [Ad,Af (show ¬ i=j from h3)];exact hg
theorem BT.put_new {h h':AH} {id:Nat} {sv sv':V} {i:Nat} {b:Bx} (f:BT h id sv h' sv') (hi:h.next≤i):BT h id sv (h'.put i b) sv':=
 ⟨f.next,f.lim,fun j hj hne hs=>by rw [Ad,Af (by omega)];exact f.get j hj hne hs,f.own⟩
theorem Pw {h : AH} {id : Nat} {sv : V} {L : List Node} {c : Cs} {K : V → AH → Prop} (k : DA h id sv L c) (hl : c.leaf < L.length) (hok : nP L c)
    (kk:∀ sv' h',DA h' id sv' L (XR L c)→BT h id sv h' sv'→K (.tup [.agg (AM.enc ⟨C4 (lf L c),(lf L c).n - c.gone⟩),.b true]) h'):Cq tp Jg [.p id 0 0] h K:=by
 have k0:=k
 obtain ⟨o1,o2,o3⟩:=hok
 obtain ⟨kb,ks,kbig,ksb,klo,khi⟩:=k
 simp only [F2] at kb
 unfold lf at o2
 refine Ac V8 (by simp [Ko]) fun wf rp=>?_;unfold Ko;simp (disch:=omega)only[go_sem, *]
 refine Aa (fun hc=>by omega) (fun hc=>?_)
 simp (disch:=omega)only[go_sem, *]
 refine Pf.go (iJ) (by simp only [go_sem]) fun _=>?_;simp (disch:=omega)only[go_sem, *]
 refine jK (c:=⟨c.S,c.leaf,c.gone,c.at_+((nth L c.leaf).n - c.gone)⟩) (L:=L) (id:=id) (sv:=sv) ?_ hl o1 ?_
 ·have x3:Au h (((h.alloc ⟨2,[[.i .i64 0,.i .i64 0]]⟩).alloc ⟨2,[[.i .i64 0,.i .i64 0]]⟩).put (h.next+1) ⟨2,[[.i .i64 (C4 (nth L c.leaf)),.i .i64 ((nth L c.leaf).n - c.gone)]]⟩):=by (repeat (first | exact Au.refl _ | refine Au.alloc ?_ _ | (refine Au.put ?_ _ _ ?_;rotate_left;(first | omega | (simp only [Ag,Ai];omega)))))
  have k3:=DA.put (c':=⟨c.S,c.leaf,c.gone,c.at_+((nth L c.leaf).n - c.gone)⟩) (k0.ext x3) rfl
  exact k3
 ·intro sv4 h4 c4 f4
  have sne:=k0.sne
  have svlt:AD sv=true∨Aq sv<h.next:=sne.imp (fun x=>x) fun x=>x.2
  have n4:=f4.next
  have l4:=f4.lim
  have y1:=f4.get (h.next+1) (by simp only [Ai,Ag];omega) (by omega) (svlt.imp (fun x=>x) (fun x=>by omega))
  have y2:=f4.get h.next (by simp only [Ai,Ag];omega) (by omega) (svlt.imp (fun x=>x) (fun x=>by omega))
  simp (disch:=omega)only[go_sem] at y1 y2 n4 l4
  have i4:=c4.hi
  simp (disch:=omega)only[go_sem, *]
  refine kk sv4 _ (c4.put_other (by omega) ?_) ?_
  ·rcases f4.own with h1 | ⟨h0,h1⟩ | h1
   ·exact .inl h1
   ·rcases svlt with h2 | h2
    ·rw [h2] at h0;cases h0
    ·exact .inr (by omega)
   ·simp only [Ai,Ag] at h1
    exact .inr (by omega)
  ·refine BT.put_new ⟨by omega,l4,fun i hi hne hs=>?_, ?_⟩ (Nat.le_refl _)
   ·rw [f4.get i (by simp only [Ai,Ag];omega) hne hs]
    simp (disch:=omega)only[go_sem]
   ·rcases f4.own with h1 | h1 | h1
    ·exact .inl h1
    ·exact .inr (.inl h1)
    ·simp only [Ai,Ag] at h1
     exact .inr (.inr (by omega))
theorem Yj {h : AH} {id : Nat} {sv : V} {f : Fo} {c : Cs} {K : V → AH → Prop} (k : DA h id sv f.flat c) (ho : f.ok) (hc : f.count = 1) (hl : f.len ≤ 4096)
    (kk:∀ sv' h',DA h' id sv' f.flat (eG f.flat)→BT h id sv h' sv'→K (.tup []) h'):Cq tp LI [.p id 0 0] h K:=by
 have kb:=k.blk
 have klo:=k.lo
 have hD:=R3 ho hc hl
 simp only [F2] at kb
 have k2:DA (h.put id (F2 f.flat .ns ⟨[],c.leaf,0,0⟩)) id .ns f.flat ⟨[],c.leaf,0,0⟩:=by
  refine ⟨by rw [Ad,Aw rfl],Sl.nil _ _ _,k.big,by simp,k.lo,k.hi⟩
 have f2:BT h id sv (h.put id (F2 f.flat .ns ⟨[],c.leaf,0,0⟩)) .ns:=⟨Nat.le_refl _,rfl,fun i hi hne hs=>by rw [Ad,Af hne],.inl rfl⟩
 refine Ac eZ (by simp [JQ]) fun wf rp=>?_;unfold JQ;simp (disch:=omega)only[go_sem, *]
 refine Ly (a:=0) k2 hD.1 (by have:=hD.1;have:=hD.2.1;simp only;omega) ?_
 intro sv3 h3 c3 f3
 simp (disch:=omega)only[go_sem, *]
 exact kk sv3 h3 c3 (f2.trans f3)
structure FZ (h h':AH) (L:List Node) (id:Nat) (sv:V) (c:Cs):Prop where
 cur:DA h' id sv L c
 ext:Au h h'
 id_:h.next≤id
theorem FZ.step {h h1 h2:AH} {L:List Node} {id:Nat} {sv s2:V} {c c2:Cs} (n:FZ h h1 L id sv c) (k:DA h2 id s2 L c2) (f:BT h1 id sv h2 s2):FZ h h2 L id s2 c2:=by
 have x:=n.ext
 have:=x.next;have:=f.next
 have i1:=n.id_
 have sne:=n.cur.sne
 refine ⟨k,⟨by omega,f.lim.trans x.lim,fun i hi=>?_⟩,n.id_⟩
 rw [f.get i (by omega) (by omega) (sne.imp (fun x=>x) (fun x=>by omega)),x.get i hi]
theorem FZ.grow {h h1 h2:AH} {L:List Node} {id:Nat} {sv:V} {c:Cs} (n:FZ h h1 L id sv c) (x:Au h1 h2):FZ h h2 L id sv c:=
 ⟨n.cur.ext x,n.ext.trans x,n.id_⟩
theorem aE8 {h:AH} {L:List Node} {K:V→AH→Prop} (kbad:A7 L≠0→K .np h) (kk:A7 L=0→∀ id sv h',FZ h h' L id sv (eG L)→K (.p id 0 0) h'):Cq tp Xp [.fl 3 (L.map Node.enc)] h K:=by
 refine Ac aEO (by simp [OU]) fun wf rp=>?_;unfold OU;simp (disch:=omega)only[go_sem, *]
 have hlm:=wf.1
 have hL:=rp.head.len
 refine Pf.go (GT) (by simp only [go_sem]) fun _=>?_;simp (disch:=omega)only[go_sem, *]
 refine Aa (fun hc=>?_) (fun hc=>?_)
 ·simp (disch:=omega)only[go_sem, *]
 ·have hr:A7 L=0:=by omega
  obtain ⟨hl128,f,ho,hc1,rfl,hdp,hln⟩:=(FS L).1 hr
  simp (disch:=omega)only[go_sem, *]
  refine Pf.go (GI) (by simp only [go_sem]) fun _=>?_;simp (disch:=omega)only[go_sem, *]
  have xa:Au h (h.alloc (F2 f.flat .ns ⟨[],0,0,0⟩)):=(Au.refl h).alloc _
  have k4:DA (h.alloc (F2 f.flat .ns ⟨[],0,0,0⟩)) h.next .ns f.flat ⟨[],0,0,0⟩:=
   ⟨by rw [AO,Aw rfl],Sl.nil _ _ _,by omega,by simp,by rw [A9];omega,by rw [Ag];omega⟩
  refine Yj k4 ho hc1 hln ?_
  intro sv5 h5 c5 f5
  simp (disch:=omega)only[go_sem, *]
  have n4:FZ h (h.alloc (F2 f.flat .ns ⟨[],0,0,0⟩)) f.flat h.next .ns ⟨[],0,0,0⟩:=⟨k4,xa,Nat.le_refl _⟩
  exact kk hr _ _ _ (n4.step c5 f5)
end Go.Ab.T
namespace Go.Ab.T
open Go Go.Ab
def Gp:List AM→Int→Int
 | [],_=>-1
 | r::l,t=>if t<r.n then r.part else Gp l (t - r.n)
theorem JB {f:Fo} (ho:f.ok) (hc:f.count=1) (hd:f.depth≤16) (hl:f.len≤4096) (hn:f.flat.length≤128):A7 f.flat=0:=(FS _).2 ⟨hn,f,ho,hc,rfl,hd,hl⟩
theorem XU {α:Type} [Inhabited α] {a:α} {l:List α} {i:Nat}:nth (a::l) (i+1)=nth l i:=by simp [nth]
def A5 (w:List AM):Prop:=∀ r∈w,1≤r.n
theorem A5.nth {w:List AM} (h:A5 w) {i:Nat} (hi:i<w.length):1≤(nth w i).n:=by
 rw [BO hi];exact h _ (List.getElem_mem _)
theorem Fo.runs_allpos:∀ (f:Fo),f.ok→A5 f.runs
 | .nil,_=>by intro r hr;cases hr
 | .leaf x r,ho=>by
  intro q hq
  rcases List.mem_cons.1 hq with rfl | hq
  ·exact Cw (by rw [ho.1];omega)
  ·exact Fo.runs_allpos r ho.2 q hq
 | .seq x k r,ho=>by
  intro q hq
  rcases List.mem_append.1 hq with hq | hq
  ·exact Fo.runs_allpos k ho.2.2.2.1 q hq
  ·exact Fo.runs_allpos r ho.2.2.2.2 q hq
 | .rep x k r,ho=>by
  intro q hq
  rcases List.mem_append.1 hq with hq | hq
  ·obtain ⟨l,hl,hq⟩:=List.mem_flatten.1 hq
   rw [List.eq_of_mem_replicate hl] at hq
   exact Fo.runs_allpos k ho.2.2.2.1 q hq
  ·exact Fo.runs_allpos r ho.2.2.2.2 q hq
theorem BN:∀ {w:List AM},A5 w→0≤Ax w
 | [],_=>by simp [Ax]
 | r::l,h=>by
  have:=BN (w:=l) (fun q hq=>h q (List.mem_cons_of_mem _ hq))
  have:=h r (List.mem_cons_self ..)
  simp only [Ax];omega
theorem Lg:∀ (w:List AM) (i:Nat),i<w.length→Ax (w.take (i+1))=Ax (w.take i)+(nth w i).n
 | [],i,hi=>by simp at hi
 | r::l,0,hi=>by simp [Ax,nth]
 | r::l,i+1,hi=>by
  rw [XU,List.take_succ_cons,List.take_succ_cons,Ax,Ax,Lg l i (by simpa using hi)];omega
theorem Mb (w:List AM) (i:Nat) (h:A5 w):Ax (w.take i)≤Ax w:=by
 have h1:=congrArg Ax (List.take_append_drop i w)
 rw [B6] at h1
 have:=BN (w:=w.drop i) (fun q hq=>h q (List.mem_of_mem_drop hq))
 omega
theorem IJ {a b:Int} (ha:0≤a) (hb:0≤b) (h:a+b≤4611686018427387904):Fm a b=a+b:=by unfold Fm;rw [if_neg (by omega)];omega
theorem TL {B:List AM} {q r:AM} {l:List AM} (hr:1≤r.n):Bm (r::l) (B++[q])=if q.part=r.part then Bm l (B++[⟨q.part,Fm q.n r.n⟩]) else Bm l (B++[q]++[r]):=by
 have h1:nth (B++[q]) ((B++[q]).length - 1)=q:=by simp [nth,List.getD]
 rw [Bm,if_neg (by omega),h1]
 by_cases h:q.part=r.part
 ·rw [if_pos ⟨by simp,h⟩,if_pos h,h]
  congr 1
  rw [List.length_append,List.length_singleton,Nat.add_sub_cancel,List.set_append_right _ _ (Nat.le_refl _)]
  simp
 ·rw [if_neg (fun hh=>h hh.2),if_neg h]
theorem YR {r:AM} {l:List AM} (hr:1≤r.n):Bm (r::l) []=Bm l [r]:=by
 rw [Bm,if_neg (by omega),if_neg (by simp)];rfl
def tk (p:Int):List AM→Int
 | []=>0
 | r::l=>(if r.part=p then r.n else 0)+tk p l
theorem Zo (p:Int):∀ (a b:List AM),tk p (a++b)=tk p a+tk p b
 | [],b=>by simp [tk]
 | r::l,b=>by simp only [List.cons_append,tk,Zo p l b];omega
def Sep:List AM→Prop
 | []=>True
 | [_]=>True
 | a::b::l=>a.part≠b.part∧Sep (b::l)
theorem Nx:∀ {B:List AM} {q r:AM},Sep (B++[q])→q.part≠r.part→Sep (B++[q]++[r])
 | [],q,r,_,h=>⟨h,trivial⟩
 | [a],q,r,h1,h=>⟨h1.1,h,trivial⟩
 | a::b::B,q,r,h1,h=>⟨h1.1,Nx (B:=b::B) h1.2 h⟩
theorem Nw:∀ {B:List AM} {q r:AM},Sep (B++[q])→q.part=r.part→Sep (B++[r])
 | [],q,r,_,h=>trivial
 | [a],q,r,h1,h=>⟨by rw [← h];exact h1.1,trivial⟩
 | a::b::B,q,r,h1,h=>⟨h1.1,Nw (B:=b::B) h1.2 h⟩
theorem Pi {a b:List AM} (h:A5 (a++b)):A5 a∧A5 b:=⟨fun r hr=>h r (List.mem_append_left _ hr),fun r hr=>h r (List.mem_append_right _ hr)⟩
theorem KI {a b:List AM} (h1:A5 a) (h2:A5 b):A5 (a++b):=fun r hr=>by
 rcases List.mem_append.1 hr with hr | hr
 ·exact h1 r hr
 ·exact h2 r hr
theorem GW {p a b:Int} {l:List AM} (ha:0≤a) (hb:0≤b):∀ (B:List AM) (t:Int),Gp (B++⟨p,a+b⟩::l) t=Gp (B++⟨p,a⟩::⟨p,b⟩::l) t
 | [],t=>by
  simp only [List.nil_append,Gp]
  by_cases h1:t<a+b
  ·rw [if_pos h1]
   by_cases h2:t<a
   ·rw [if_pos h2]
   ·rw [if_neg h2,if_pos (by omega)]
  ·rw [if_neg h1,if_neg (by omega),if_neg (by omega)];congr 1;omega
 | r::B,t=>by simp only [List.cons_append,Gp,GW ha hb B]
structure UH (L R:List AM):Prop where
 pos:A5 R
 sep:Sep R
 sum:Ax R=Ax L
 tks:∀ p,tk p R=tk p L
 at_:∀ t,Gp R t=Gp L t
 parts:∀ r∈R,∃ q∈L,q.part=r.part
 len:R.length≤L.length
 ne:L≠[]→R≠[]
theorem Mf:∀ (l B:List AM) (q:AM),A5 (B++[q])→A5 l→Sep (B++[q])→Ax (B++[q])+Ax l≤4611686018427387904→UH (B++[q]++l) (Bm l (B++[q]))
 | [],B,q,hp,_,hs,_=>by
  rw [Bm,List.append_nil]
  exact ⟨hp,hs,rfl,fun _=>rfl,fun _=>rfl,fun r hr=>⟨r,hr,rfl⟩,Nat.le_refl _,fun h=>h⟩
 | r::l,B,q,hp,hl,hs,hb=>by
  have hr:=hl r (List.mem_cons_self ..)
  have hl2:A5 l:=fun x hx=>hl x (List.mem_cons_of_mem _ hx)
  have hq:=hp q (by simp)
  have hB:=(Pi hp).1
  have sB:=BN hB
  have sl:=BN hl2
  simp only [Ax,B6] at hb
  rw [TL hr]
  by_cases h:q.part=r.part
  ·rw [if_pos h,IJ (by omega) (by omega) (by omega)]
   have ih:=Mf l B ⟨q.part,q.n+r.n⟩ (KI hB (fun x hx=>by simp at hx;subst hx;simp only;omega)) hl2 (Nw hs rfl) (by simp only [Ax,B6];omega)
   refine ⟨ih.pos,ih.sep,by rw [ih.sum];simp only [Ax,B6];omega,fun p=>?_,fun t=>?_,fun x hx=>?_, ?_,fun _=>ih.ne (by simp)⟩
   ·rw [ih.tks];simp only [tk,Zo,h];split<;>omega
   ·rw [ih.at_]
    have e1:B++[⟨q.part,q.n+r.n⟩]++l=B++⟨q.part,q.n+r.n⟩::l:=by simp
    have e2:B++[q]++r::l=B++⟨q.part,q.n⟩::⟨q.part,r.n⟩::l:=by
     rw [show (⟨q.part,r.n⟩:AM)=r by cases r;simp_all];simp
    rw [e1,e2]
    exact GW (by omega) (by omega) B t
   ·obtain ⟨y,hy,he⟩:=ih.parts x hx
    rcases List.mem_append.1 hy with hy | hy
    ·rcases List.mem_append.1 hy with hy | hy
     ·exact ⟨y,by simp [hy],he⟩
     ·simp at hy;subst hy;exact ⟨q,by simp,he⟩
    ·exact ⟨y,by simp [hy],he⟩
   ·have:=ih.len;simp at this ⊢;omega
  ·rw [if_neg h]
   have ih:=Mf l (B++[q]) r (KI hp (fun x hx=>by simp at hx;subst hx;exact hr)) hl2 (Nx hs h) (by simp only [Ax,B6];omega)
   have e:B++[q]++[r]++l=B++[q]++r::l:=by simp
   rw [e] at ih
   exact ih
theorem Me {L:List AM} (hp:A5 L) (hs:Ax L≤4611686018427387904):UH L (Bm L []):=by
 cases L with
 | nil=>exact ⟨hp,trivial,rfl,fun _=>rfl,fun _=>rfl,fun r hr=>⟨r,hr,rfl⟩,Nat.le_refl _,fun h=>h⟩
 | cons r l=>
  rw [YR (hp r (List.mem_cons_self ..))]
  exact Mf l [] r (fun x hx=>by simp at hx;subst hx;exact hp _ (List.mem_cons_self ..)) (fun x hx=>hp x (List.mem_cons_of_mem _ hx)) trivial (by simpa [Ax] using hs)
theorem GS:∀ (L:List AM) (a:Int),A5 L→0≤a→a+Ax L≤4611686018427387904→Cj L a=a+Ax L
 | [],a,_,_,_=>by simp [Cj,Ax]
 | r::l,a,hp,ha,hb=>by
  have hr:=hp r (List.mem_cons_self ..)
  have hl:A5 l:=fun x hx=>hp x (List.mem_cons_of_mem _ hx)
  have:=BN hl
  simp only [Ax] at hb ⊢
  rw [Cj,IJ ha (by omega) (by omega),GS l _ hl (by omega) (by omega)];omega
theorem Gw {L:List AM} (hp:A5 L) (hs:Ax L≤4611686018427387904):DW L:=by
 intro i hi
 have h1:=Lg L i hi
 have h2:=Mb L (i+1) hp
 have h3:=BN (w:=L.take i) (fun q hq=>hp q (List.mem_of_mem_take hq))
 omega
end Go.Ab.T
namespace Go.Ab.T
open Go Go.Ab
theorem jQ {L:List AM} (hok:DW L):Pf tp Xq [.fl 2 (L.map AM.enc)] (.fl 2 ((Bm L []).map AM.enc)):=by
 refine AG aEP (by simp [OV]) fun rp=>?_;unfold OV;simp (disch:=omega)only[go_sem, *]
 have hL:=rp.head.len
 refine Ah (fun n e h=>∃ (i:Nat) (out:V) (A:List AM),n=L.length - i∧h.lim=0∧e 7=.fl 2 (L.map AM.enc)∧e 8=.i .i64 L.length∧e 9=.i .i64 i∧e 3=out∧i≤L.length∧A.length≤i∧Sl 0 h 2 out (A.map AM.enc)∧DW A∧Bm (L.drop i) A=Bm L []) ?_ _ _ _ ⟨0,.ns,[],rfl, ?_⟩
 ·rintro n e h ⟨i,out,A,rfl,hl,e7,e8,e9,e3,hi,hA,so,okA,hz⟩ ih
  rw [An UG.eq_1]
  simp (disch:=omega)only[go_sem, *]
  obtain ⟨olen,obig,olt,olo,oget,oat,orow,ocell,ocells⟩:=so.facts
  refine Aa (fun hc=>?_) (fun hc=>?_)
  ·rw [AK (by omega),Bm] at hz
   have hb:=hok i (by omega)
   simp (disch:=omega)only[go_sem, *]
   have x1:Au h ((h.alloc ⟨2,[[.i .i64 0,.i .i64 0]]⟩).put h.next ⟨2,[[.i .i64 (nth L i).part,.i .i64 (nth L i).n]]⟩):=by (repeat (first | exact Au.refl _ | refine Au.alloc ?_ _ | (refine Au.put ?_ _ _ ?_;rotate_left;(first | omega | (simp only [Ag,Ai];omega)))))
   refine Aa (fun hc2=>?_) (fun hc2=>?_)
   ·rw [if_pos hc2] at hz
    simp (disch:=omega)only[go_sem, *]
    refine ih _ _ _ ?_ ⟨i+1,out,A,rfl, ?_⟩
    ·omega
    ·simp (disch:=omega)only[go_sem, *]
     ((repeat' refine And.intro ?_ ?_)<;>first | omega | assumption | (exact so.ext x1))
   ·rw [if_neg hc2] at hz
    simp (disch:=omega)only[go_sem, *]
    refine Av (fun hc3=>?_) (fun hc3=>?_)
    ·have hk:((A.length:Int) - 1).toNat=A.length - 1:=by omega
     simp (disch:=omega)only[go_sem, *]
     refine Aa (fun hc4=>?_) (fun hc4=>?_)
     ·rw [if_pos ⟨by omega,hc4⟩] at hz
      have hA1:=okA (A.length - 1) (by omega)
      simp (disch:=omega)only[go_sem, *]
      refine Pf.go (Ph hA1 hb) (by simp only [go_sem]) fun _=>?_;simp (disch:=omega)only[go_sem, *]
      refine ih _ _ _ ?_ ⟨i+1,out,A.set (A.length - 1) ⟨(nth A (A.length - 1)).part,Fm (nth A (A.length - 1)).n (nth L i).n⟩,rfl, ?_⟩
      ·omega
      ·simp (disch:=omega)only[go_sem, *]
       ((repeat' refine And.intro ?_ ?_)<;>first | omega | assumption | (simp;omega) | (exact Sl.setT so (by omega) (by simp (disch:=omega)only[go_sem]<;>omega) (by simp (disch:=omega)only[go_sem, *])) | (refine JE okA ?_;exact Ey.2) | (rw [← hz,hc4]))
     ·simp only [hc4,and_false,reduceIte] at hz
      simp (disch:=omega)only[go_sem, *]
      refine Az (R:=A.map AM.enc) ((so.ext x1).alloc _) (by simp only [go_sem, *]) (Nat.zero_le _) (by simp;omega) ?_
      intro w h4 s4 g4
      have hl4:=g4.lim
      simp (disch:=omega)only[go_sem, *]
      refine ih _ _ _ ?_ ⟨i+1,w,A++[nth L i],rfl, ?_⟩
      ·omega
      ·simp (disch:=omega)only[go_sem, *]
       ((repeat' refine And.intro ?_ ?_)<;>first | omega | assumption | (simp;omega) | (simpa [AM.enc] using s4) | (exact Ej okA hb))
    ·have h0:A.length=0:=by omega
     simp only [h0,Nat.lt_irrefl,false_and,reduceIte] at hz
     simp (disch:=omega)only[go_sem, *]
     refine Az (R:=A.map AM.enc) ((so.ext x1).alloc _) (by simp only [go_sem, *]) (Nat.zero_le _) (by simp;omega) ?_
     intro w h4 s4 g4
     have hl4:=g4.lim
     simp (disch:=omega)only[go_sem, *]
     refine ih _ _ _ ?_ ⟨i+1,w,A++[nth L i],rfl, ?_⟩
     ·omega
     ·simp (disch:=omega)only[go_sem, *]
      ((repeat' refine And.intro ?_ ?_)<;>first | omega | assumption | (simp;omega) | (simpa [AM.enc] using s4) | (exact Ej okA hb))
  ·rw [List.drop_eq_nil_of_le (by omega),Bm] at hz
   simp (disch:=omega)only[go_sem, *]
   subst hz
   refine Pf.take [Aq out] Pm (.cons _ _ _ _ _ (so.froze (fun _=>rfl) (by simp) (by omega)) (.nil _)) fun _=>?_
   simp (disch:=omega)only[go_sem, *]
 ·simp (disch:=omega)only[go_sem, *]
  exact ⟨Sl.nil _ _ _,fun i hi=>by simp at hi⟩
def iB (f:Fo):List AM:=Bm f.runs []
open Classical in
noncomputable def E0 (L:List Node):Fo:=if h:∃ f:Fo,f.ok∧f.count=1∧L=f.flat∧f.depth≤16∧f.len≤4096 then h.choose else .nil
theorem FK {L:List Node} (h:A7 L=0):L.length≤128∧(E0 L).ok∧(E0 L).count=1∧L=(E0 L).flat∧(E0 L).depth≤16∧(E0 L).len≤4096:=by
 obtain ⟨h1,h2⟩:=(FS L).1 h
 refine ⟨h1, ?_⟩
 unfold E0
 rw [dif_pos h2]
 exact h2.choose_spec
noncomputable def Fj (L:List Node):List AM×Int:=if A7 L≠0 then ([],A7 L) else if 96<(iB (E0 L)).length then ([],3) else (iB (E0 L),0)
theorem Iu {L:List Node} (hr:A7 L≠0):Fj L=([],A7 L):=if_pos hr
theorem Fv {L:List Node} (hr:A7 L=0):Fj L=if 96<(iB (E0 L)).length then ([],3) else (iB (E0 L),0):=if_neg (by omega)
theorem Jz {L:List Node}:Pf tp WE [.fl 3 (L.map Node.enc)] (.tup [.fl 2 ((Fj L).1.map AM.enc),.i .i64 (Fj L).2]):=by
 refine AG aD0 (by simp [NV]) fun rp=>?_;unfold NV;simp (disch:=omega)only[go_sem, *]
 refine Pf.go (Nj) (by simp only [go_sem]) fun _=>?_;simp (disch:=omega)only[go_sem, *]
 refine Aa (fun hc=>?_) (fun hc=>?_)
 ·have e:=Iu hc
  simp (disch:=omega)only[go_sem, *]
 ·have e:=Fv (L:=L) (by omega)
  obtain ⟨_,ho,hc1,hL,hd,hl⟩:=FK (L:=L) (by omega)
  have hap:=Fo.runs_allpos _ ho
  have hsum:=Fo.runs_sum _ ho
  have hlv:=L1 ho hc1 hl
  rw [← hL] at hlv
  clear hL
  simp (disch:=omega)only[go_sem, *]
  refine Pf.go (hlv) (by simp only [go_sem]) fun _=>?_;simp (disch:=omega)only[go_sem, *]
  refine Pf.go (Qv (Gw hap (by omega))) (by simp only [go_sem]) fun _=>?_;simp (disch:=omega)only[go_sem, *]
  unfold iB at e
  refine Aa (fun hc5=>?_) (fun hc5=>?_)
  ·rw [if_pos (by omega)] at e
   simp (disch:=omega)only[go_sem, *]
  ·rw [if_neg (by omega)] at e
   simp (disch:=omega)only[go_sem, *]
end Go.Ab.T
