/- Part of a proof that a law returns true for every input of the second form's bound (no other condition). -/
import Derived.Test.YtlcknhidblndnaaGreatPE
set_option linter.all false
namespace Go.Ab.T
open Go Go.Ab
structure AK where
 part:Int
 n:Int
 deriving Inhabited,DecidableEq
@[go_sem] def AK.enc (r:AK):List V:=[.i .i64 r.part,.i .i64 r.n]
def Fg (a b:Int):Int:=if 9223372036854775807 - max 0 b<max 0 a then 9223372036854775807 else max 0 a+max 0 b
theorem Et {a b:Int}:0≤Fg a b∧Fg a b≤9223372036854775807:=by unfold Fg;split<;>omega
theorem O6 {a b:Int} (ha:a≤9223372036854775807) (hb:b≤9223372036854775807):Pf tp PJ [.i .i64 a,.i .i64 b] (.i .i64 (Fg a b)):=by
 refine AE eQ (by simp [JM]) fun rp=>?_;unfold JM;simp (disch:=omega)only[go_sem, *]
 repeat' (first | (refine Av (fun hc=>?_) (fun hc=>?_)<;>simp (disch:=omega)only[go_sem, *]) | (refine Aa (fun hc=>?_) (fun hc=>?_)<;>simp (disch:=omega)only[go_sem, *]))
 all_goals (unfold Fg;split<;>omega)
theorem Yy {a b:Int} (ha:a≤9223372036854775807) (hb:b≤9223372036854775807):Pf tp WJ [.i .i64 a,.i .i64 b] (.i .i64 (Fg a b)):=by
 refine AE aDG (by simp [Ob]) fun rp=>?_;unfold Ob;simp (disch:=omega)only[go_sem, *]
 repeat' (first | (refine Av (fun hc=>?_) (fun hc=>?_)<;>simp (disch:=omega)only[go_sem, *]) | (refine Aa (fun hc=>?_) (fun hc=>?_)<;>simp (disch:=omega)only[go_sem, *]))
 all_goals (unfold Fg;split<;>omega)
def DT (L:List AK):Prop:=∀ i,i<L.length→(nth L i).n≤9223372036854775807
def Cg:List AK→Int→Int
 | [],n=>n
 | r::l,n=>Cg l (Fg n r.n)
theorem KL {L:List AK} (hok:DT L):Pf tp PM [.fl 2 (L.map AK.enc)] (.i .i64 (Cg L 0)):=by
 refine AE eT (by simp [JP]) fun rp=>?_;unfold JP;simp (disch:=omega)only[go_sem, *]
 have hL:=rp.head.len
 refine Ah (fun n e h=>∃ (i:Nat) (a:Int),n=L.length - i∧h.lim=0∧e 6=.fl 2 (L.map AK.enc)∧e 7=.i .i64 L.length∧e 8=.i .i64 i∧e 3=.i .i64 a∧i≤L.length∧a≤9223372036854775807∧Cg (L.drop i) a=Cg L 0) ?_ _ _ _ ⟨0,0,rfl, ?_⟩
 ·rintro n e h ⟨i,a,rfl,hl,e6,e7,e8,e3,hi,ha,hz⟩ ih
  rw [Am TZ.eq_1]
  simp (disch:=omega)only[go_sem, *]
  refine Aa (fun hc=>?_) (fun hc=>?_)
  ·rw [AI (by omega),Cg] at hz
   have hb:=hok i (by omega)
   simp (disch:=omega)only[go_sem, *]
   refine Pf.go (O6 ha hb) (by simp only [go_sem]) fun _=>?_;simp (disch:=omega)only[go_sem, *]
   refine ih _ _ _ ?_ ⟨i+1,Fg a (nth L i).n,rfl, ?_⟩
   ·omega
   ·simp (disch:=omega)only[go_sem, *]
    ((repeat' refine And.intro ?_ ?_)<;>first | omega | assumption | (exact Et.2))
  ·rw [List.drop_eq_nil_of_le (by omega),Cg] at hz
   simp (disch:=omega)only[go_sem, *]
 ·simp (disch:=omega)only[go_sem, *]
def Bk:List AK→List AK→List AK
 | [],out=>out
 | r::l,out=>if r.n<1 then Bk l out else
  if 0<out.length∧(nth out (out.length - 1)).part=r.part then Bk l (out.set (out.length - 1) ⟨(nth out (out.length - 1)).part,Fg (nth out (out.length - 1)).n r.n⟩) else Bk l (out++[r])
theorem Ef {A:List AK} {r:AK} (hA:DT A) (hr:r.n≤9223372036854775807):DT (A++[r]):=by
 intro i hi
 simp only [List.length_append,List.length_cons,List.length_nil] at hi
 by_cases h:i<A.length
 ·have:=hA i h
  simp only [nth,List.getD] at this ⊢
  rw [List.getElem?_append_left h];exact this
 ·have:i=A.length:=by omega
  subst this
  simpa [nth,List.getD] using hr
theorem Jx {A:List AK} {j:Nat} {r:AK} (hA:DT A) (hr:r.n≤9223372036854775807):DT (A.set j r):=by
 intro i hi
 simp only [List.length_set] at hi
 have:=hA i hi
 simp only [nth,List.getD] at this ⊢
 rw [List.getElem?_set]
 split
 ·rename_i h;subst h;simp [hi];exact hr
 ·exact this
theorem Ql {L:List AK} (hok:DT L):Pf tp WH [.fl 2 (L.map AK.enc)] (.fl 2 ((Bk L []).map AK.enc)):=by
 refine AE aDE (by simp [N9]) fun rp=>?_;unfold N9;simp (disch:=omega)only[go_sem, *]
 have hL:=rp.head.len
 refine Ah (fun n e h=>∃ (i:Nat) (out:V) (A:List AK),n=L.length - i∧h.lim=0∧e 7=.fl 2 (L.map AK.enc)∧e 8=.i .i64 L.length∧e 9=.i .i64 i∧e 3=out∧i≤L.length∧A.length≤i∧Sl 0 h 2 out (A.map AK.enc)∧DT A∧Bk (L.drop i) A=Bk L []) ?_ _ _ _ ⟨0,.ns,[],rfl, ?_⟩
 ·rintro n e h ⟨i,out,A,rfl,hl,e7,e8,e9,e3,hi,hA,so,okA,hz⟩ ih
  rw [Am Ul.eq_1]
  simp (disch:=omega)only[go_sem, *]
  obtain ⟨olen,obig,olt,olo,oget,oat,orow,ocell,ocells⟩:=so.facts
  refine Aa (fun hc=>?_) (fun hc=>?_)
  ·rw [AI (by omega),Bk] at hz
   have hb:=hok i (by omega)
   simp (disch:=omega)only[go_sem, *]
   have x1:Aq h ((h.alloc ⟨2,[[.i .i64 0,.i .i64 0]]⟩).put h.next ⟨2,[[.i .i64 (nth L i).part,.i .i64 (nth L i).n]]⟩):=by (repeat (first | exact Aq.refl _ | refine Aq.alloc ?_ _ | (refine Aq.put ?_ _ _ ?_;rotate_left;(first | omega | (simp only [Af,Ai];omega)))))
   refine Aa (fun hc2=>?_) (fun hc2=>?_)
   ·rw [if_pos hc2] at hz
    simp (disch:=omega)only[go_sem, *]
    refine ih _ _ _ ?_ ⟨i+1,out,A,rfl, ?_⟩
    ·omega
    ·simp (disch:=omega)only[go_sem, *]
     ((repeat' refine And.intro ?_ ?_)<;>first | omega | assumption | (exact so.ext x1))
   ·rw [if_neg hc2] at hz
    simp (disch:=omega)only[go_sem, *]
    refine Av (fun hc3=>?_) (fun hc3=>?_)
    ·have hk:((A.length:Int) - 1).toNat=A.length - 1:=by omega
     simp (disch:=omega)only[go_sem, *]
     refine Aa (fun hc4=>?_) (fun hc4=>?_)
     ·rw [if_pos ⟨by omega,hc4⟩] at hz
      have hA1:=okA (A.length - 1) (by omega)
      simp (disch:=omega)only[go_sem, *]
      refine Pf.go (Yy hA1 hb) (by simp only [go_sem]) fun _=>?_;simp (disch:=omega)only[go_sem, *]
      refine ih _ _ _ ?_ ⟨i+1,out,A.set (A.length - 1) ⟨(nth A (A.length - 1)).part,Fg (nth A (A.length - 1)).n (nth L i).n⟩,rfl, ?_⟩
      ·omega
      ·simp (disch:=omega)only[go_sem, *]
       ((repeat' refine And.intro ?_ ?_)<;>first | omega | assumption | (simp;omega) | (exact Sl.setT so (by omega) (by simp (disch:=omega)only[go_sem]<;>omega) (by simp (disch:=omega)only[go_sem, *])) | (refine Jx okA ?_;exact Et.2) | (rw [← hz,hc4]))
     ·simp only [hc4,and_false,reduceIte] at hz
      simp (disch:=omega)only[go_sem, *]
      refine AA (R:=A.map AK.enc) ((so.ext x1).alloc _) (by simp only [go_sem, *]) (Nat.zero_le _) (by simp;omega) ?_
      intro w h4 s4 g4
      have hl4:=g4.lim
      simp (disch:=omega)only[go_sem, *]
      refine ih _ _ _ ?_ ⟨i+1,w,A++[nth L i],rfl, ?_⟩
      ·omega
      ·simp (disch:=omega)only[go_sem, *]
       ((repeat' refine And.intro ?_ ?_)<;>first | omega | assumption | (simp;omega) | (simpa [AK.enc] using s4) | (exact Ef okA hb))
    ·have h0:A.length=0:=by omega
     simp only [h0,Nat.lt_irrefl,false_and,reduceIte] at hz
     simp (disch:=omega)only[go_sem, *]
     refine AA (R:=A.map AK.enc) ((so.ext x1).alloc _) (by simp only [go_sem, *]) (Nat.zero_le _) (by simp;omega) ?_
     intro w h4 s4 g4
     have hl4:=g4.lim
     simp (disch:=omega)only[go_sem, *]
     refine ih _ _ _ ?_ ⟨i+1,w,A++[nth L i],rfl, ?_⟩
     ·omega
     ·simp (disch:=omega)only[go_sem, *]
      ((repeat' refine And.intro ?_ ?_)<;>first | omega | assumption | (simp;omega) | (simpa [AK.enc] using s4) | (exact Ef okA hb))
  ·rw [List.drop_eq_nil_of_le (by omega),Bk] at hz
   simp (disch:=omega)only[go_sem, *]
   subst hz
   exact Sl.froze so (fun _=>rfl) trivial (by omega)
 ·simp (disch:=omega)only[go_sem, *]
  exact ⟨Sl.nil _ _ _,fun i hi=>by simp at hi⟩
end Go.Ab.T
namespace Go.Ab.T
open Go Go.Ab
structure Node where
 kind:Int
 part:Int
 n:Int
 deriving DecidableEq,Inhabited
@[go_sem] def Node.enc (x:Node):List V:=[.i .i64 x.kind,.i .i64 x.part,.i .i64 x.n]
def kids (x:Node):Int:=
 if x.n<1∨(x.kind≠1∧x.part≠0) then -1
 else if (x.kind=1∧0≤x.part∧x.part<6)∨x.kind=2 then 0
 else if x.kind=3∧x.n≤128 then x.n
 else if x.kind=4 then 1 else -1
theorem GI (x:Node): -1≤kids x∧kids x≤128:=by
 unfold kids;repeat' split
 all_goals omega
theorem Rt {x:Node}:Pf tp PU [.agg x.enc] (.i .i64 (kids x)):=by
 refine AE eZ (by simp [JU]) fun rp=>?_;unfold JU;simp (disch:=omega)only[go_sem, *]
 repeat' (first | (refine Av (fun hc=>?_) (fun hc=>?_)<;>simp (disch:=omega)only[go_sem, *]) | (refine Aa (fun hc=>?_) (fun hc=>?_)<;>simp (disch:=omega)only[go_sem, *]))
 all_goals (unfold kids;repeat' split)
 all_goals omega
def D9:List Node→Int→Int→Int
 | [],_,_=>0
 | x::r,left,n=>if kids x<0 then 0 else if left+(kids x - 1)=0 then n+1 else D9 r (left+(kids x - 1)) (n+1)
def size (L:List Node) (a:Int):Int:=if a<0∨(L.length:Int)≤a then 0 else D9 (L.drop a.toNat) 1 0
theorem iV {L:List Node} {a:Int}:Pf tp PT [.fl 3 (L.map Node.enc),.i .i64 a] (.i .i64 (size L a)):=by
 refine AE eW (by simp [JS]) fun rp=>?_;unfold JS;simp (disch:=omega)only[go_sem, *]
 have hL:=rp.head.len
 repeat' (first | (refine Av (fun hc=>?_) (fun hc=>?_)<;>simp (disch:=omega)only[go_sem, *]) | (refine Aa (fun hc=>?_) (fun hc=>?_)<;>simp (disch:=omega)only[go_sem, *]))
 ·simp [size];omega
 ·simp [size];omega
 ·refine Ah (fun n e h=>∃ (i:Nat) (left:Int),n=L.length - i∧h.lim=0∧e 0=.fl 3 (L.map Node.enc)∧e 1=.i .i64 a∧e 5=.i .i64 left∧e 6=.i .i64 i∧a≤i∧i≤L.length∧0<left∧left≤1+128*i∧D9 (L.drop i) left (i - a)=size L a) ?_ _ _ _ ⟨a.toNat,1,rfl, ?_⟩
  ·rintro n e h ⟨i,left,rfl,hl,e0,e1,e5,e6,hi1,hi2,hl1,hl2,hz⟩ ih
   rw [Am QQ.eq_1]
   simp (disch:=omega)only[go_sem, *]
   have hk:=GI (nth L i)
   refine Aa (fun hc=>?_) (fun hc=>?_)
   ·rw [AI (by omega),D9] at hz
    simp (disch:=omega)only[go_sem, *]
    refine Pf.go (Rt) (by simp only [go_sem]) fun _=>?_;simp (disch:=omega)only[go_sem, *]
    refine Aa (fun hc2=>?_) (fun hc2=>?_)
    ·rw [if_pos hc2] at hz
     simp (disch:=omega)only[go_sem, *]
    ·rw [if_neg hc2] at hz
     simp (disch:=omega)only[go_sem, *]
     refine Aa (fun hc3=>?_) (fun hc3=>?_)
     ·rw [if_pos hc3] at hz
      simp (disch:=omega)only[go_sem, *]
      omega
     ·rw [if_neg hc3] at hz
      simp (disch:=omega)only[go_sem, *]
      refine ih _ _ _ ?_ ⟨i+1,left+(kids (nth L i) - 1),rfl, ?_⟩
      ·omega
      ·simp (disch:=omega)only[go_sem, *]
       refine ⟨by omega,by omega,by omega,by omega, ?_⟩
       rw [← hz];congr 1;omega
   ·rw [List.drop_eq_nil_of_le (by omega),D9] at hz
    simp (disch:=omega)only[go_sem, *]
  ·simp (disch:=omega)only[go_sem, *]
   ((repeat' refine And.intro ?_ ?_)<;>first | omega | assumption | ((congr 1;omega)) | ((simp only [size];rw [if_neg (by omega)];congr 1;omega)))
def Bo (L:List Node):Bool:=decide (0<L.length∧size L 0=L.length)
theorem Kl {L:List Node}:Pf tp PF [.fl 3 (L.map Node.enc)] (.b (Bo L)):=by
 refine AE eJ (by simp [JH]) fun rp=>?_;unfold JH;simp (disch:=omega)only[go_sem, *]
 refine Av (fun hc=>?_) (fun hc=>?_)
 ·simp (disch:=omega)only[go_sem, *]
  refine Pf.go (iV) (by simp only [go_sem]) fun _=>?_;simp (disch:=omega)only[go_sem, *]
  simp only [Bo]
  congr 1
  simp;omega
 ·simp (disch:=omega)only[go_sem, *]
  simp only [Bo]
  simp;omega
def MR (a b:Int):Int:=min 4097 (a+min 4097 b)
def Hx (n t:Int):Int:=min 4097 (min 4097 n*t)
theorem Rz {a b:Int} (ha:0≤a∧a≤4097) (hb:0≤b):Pf tp PX [.i .i64 a,.i .i64 b] (.i .i64 (MR a b)):=by
 refine AE fB (by simp [JW]) fun rp=>?_;unfold JW;simp (disch:=omega)only[go_sem, *]
 rfl
theorem Ta {n t:Int} (hn:0≤n) (ht:0≤t∧t≤4097):Pf tp PV [.i .i64 n,.i .i64 t] (.i .i64 (Hx n t)):=by
 have h1:0≤min 4097 n*t:=Int.mul_nonneg (by omega) ht.1
 have h2:min 4097 n*t≤4097*4097:=Int.mul_le_mul (by omega) ht.2 ht.1 (by omega)
 refine AE fA (by simp [JV]) fun rp=>?_;unfold JV;simp (disch:=omega)only[go_sem, *]
 rfl
end Go.Ab.T
namespace Go.Ab.T
open Go Go.Ab
structure Frame where
 node:Node
 left:Int
 depth:Int
 ticks:Int
 deriving DecidableEq,Inhabited
@[go_sem] def Frame.enc (f:Frame):List V:=[.i .i64 f.node.kind,.i .i64 f.node.part,.i .i64 f.node.n,.i .i64 f.left,.i .i64 f.depth,.i .i64 f.ticks]
def Frame.out (f:Frame):Int:=if f.node.kind=4 then Hx f.node.n f.ticks else f.ticks
def Frame.take (up top:Frame):Frame:=⟨up.node,up.left - 1,max up.depth (top.depth+1),MR up.ticks top.out⟩
def D6:List Frame→List Frame
 | []=>[]
 | [t]=>[t]
 | top::up::r=>if top.left=0 then D6 (up.take top::r) else top::up::r
termination_by l=>l.length
def AU (n:Node):Frame:=⟨n,kids n,0,if kids n=0 then min 4097 n.n else 0⟩
def DB:List Node→List Frame→List Frame
 | [],s=>s
 | n::l,s=>DB l (D6 (AU n::s))
def B5 (L:List Node):Frame:=nth (DB L [⟨⟨0,0,0⟩,1,0,0⟩]).reverse 0
structure Ck (p:Int) (f:Frame):Prop where
 n0:f.node.kind≠4∨0<f.node.n∨f.left<0
 left : -1 - p≤f.left∧f.left≤128
 depth:0≤f.depth∧f.depth≤p
 ticks:0≤f.ticks∧f.ticks≤4097
theorem Ck.more {p:Int} {f:Frame} (h:Ck p f):Ck (p+1) f:=⟨h.n0,by have:=h.left;omega,by have:=h.depth;omega,h.ticks⟩
theorem gM {a b:Int} (ha:0≤a) (hb:0≤b):0≤MR a b∧MR a b≤4097:=by unfold MR;omega
theorem KR {a b:Int} (ha:0≤a) (hb:0≤b):0≤Hx a b∧Hx a b≤4097:=by
 unfold Hx
 have h1:0≤min 4097 a*b:=Int.mul_nonneg (by omega) hb
 omega
theorem Frame.out_bd {p:Int} {f:Frame} (h:Ck p f) (hl:f.left=0):0≤f.out∧f.out≤4097:=by
 unfold Frame.out
 have:=h.n0;have:=h.ticks
 split
 ·exact KR (by omega) (by omega)
 ·omega
theorem Ck.took {p:Int} {u t:Frame} (hu:Ck p u) (ht:Ck p t) (hl:t.left=0):Ck (p+1) (u.take t):=by
 have a:=hu.n0;have b:=hu.left;have c:=hu.depth;have d:=hu.ticks
 have e:=ht.depth;have o:=Frame.out_bd ht hl
 refine ⟨?_, ?_, ?_, ?_⟩
 ·simp only [Frame.take];omega
 ·simp only [Frame.take];omega
 ·simp only [Frame.take];omega
 ·simp only [Frame.take];exact gM d.1 o.1
theorem M4 {p:Int} {n:Node} (hp:0≤p):Ck p (AU n):=by
 have hk:=GI n
 refine ⟨?_,by simp only [AU];omega,by simp only [AU];omega, ?_⟩
 ·simp only [AU]
  by_cases h:kids n<0
  ·omega
  ·right;left
   unfold kids at h
   (repeat' split at h)<;>omega
 ·simp only [AU]
  split
  ·rename_i h
   have:1≤n.n:=by unfold kids at h;(repeat' split at h)<;>omega
   omega
  ·omega
def Fe (p:Int) (S:List Frame):Prop:=∀ f∈S,Ck p f
theorem Fe.more {p:Int} {S:List Frame} (h:Fe p S):Fe (p+1) S:=fun f hf=>(h f hf).more
theorem Dd {α:Type} [Inhabited α] {a:α} {l:List α}:nth (a::l) 0=a:=by simp [nth]
end Go.Ab.T
namespace Go.Ab.T
open Go Go.Ab
set_option maxHeartbeats 4000000
theorem iM {top up:Frame} {r:List Frame}:nth (top::up::r).reverse (r.length+1)=top:=by simp [nth,List.getD]
theorem aET {top up:Frame} {r:List Frame}:nth (top::up::r).reverse r.length=up:=by simp [nth,List.getD]
theorem Ng {top up:Frame} {r:List Frame}:(top::up::r).reverse.take (r.length+1)=(up::r).reverse:=by
 rw [List.reverse_cons,List.take_append_of_le_length (by simp)]
 exact List.take_of_length_le (by simp)
theorem LS {up u:Frame} {r:List Frame}:(up::r).reverse.set r.length u=(u::r).reverse:=by
 rw [List.reverse_cons,List.reverse_cons,List.set_append_right _ _ (by simp)]
 simp
structure nE (v:V) (len i:Nat) (F:List Frame) (p:Nat) (S:List Frame) (st:V) (e:Env) (h:AH):Prop where
 e4:e 4=st
 e12:e 12=v
 e13:e 13=.i .i64 len
 e14:e 14=.i .i64 i
 hl:h.lim=0
 sl:Sl 0 h 6 st (S.reverse.map Frame.enc)
 ok:Fe p S
 cnt:p+S.length=i+2
 pos:1≤S.length
 fin:D6 S=F
theorem Ji {v : V} {len i : Nat} {F : List Frame} {Q : Ex → Env → AH → Prop} (hi : i < 4294967296)
    (hQ:∀ p st e h',nE v len i F p F st e h'→Q (.ex 2) e h'):∀ n e h',(∃ p S st,n=S.length∧nE v len i F p S st e h')→ZC tp (.loop La) e h' Q:=by
 refine Ah _ ?_
 rintro n e h' ⟨p,S,st,rfl,⟨e4,e12,e13,e14,hl,sl,ok,cnt,pos,fin⟩⟩ ih
 obtain ⟨slen,sbig,slt,slo,sget,sat,srow,sc,scs⟩:=sl.facts
 have srl:=fun j (hj:j<(S.reverse.map Frame.enc).length)=>sl.rowlt hj
 simp only [List.length_reverse,List.length_map] at slen sbig slt slo sget sat srow srl
 rw [Am La.eq_1]
 simp (disch:=omega)only[go_sem, *]
 refine Av (fun hc=>?_) (fun hc=>?_)
 ·obtain ⟨top,up,r,rfl⟩:∃ top up r,S=top::up::r:=by
   match S,hc with
   | [],hc=>simp at hc
   | [_],hc=>simp at hc
   | a::b::r,_=>exact ⟨a,b,r,rfl⟩
  have hr0:=iM (top:=top) (up:=up) (r:=r)
  have hr1:=aET (top:=top) (up:=up) (r:=r)
  simp only [List.length_cons,Int.natCast_add,Int.natCast_one] at slen sbig slt slo sget sat srow srl cnt hc
  have k1:((r.length:Int)+1).toNat=r.length+1:=by omega
  have k2:((r.length:Int)+1+1 - 2).toNat=r.length:=by omega
  have srl0:=srl r.length (by omega)
  have spre:∀ {k:IntKind} {j:Int} {cs:List (List V)},0≤j→j≤(r.length:Int)+1+1→GW (some ⟨6,cs⟩) 6 st none (some (.i k j)) none=some (B9 st j.toNat):=fun h0 h1=>sl.pre h0 (by simp;omega)
  have okt:=ok top (by simp)
  have oku:=ok up (by simp)
  have bt:=okt.left;have bd:=okt.depth;have bk:=okt.ticks
  have ut:=oku.left;have ud:=oku.depth;have uk:=oku.ticks
  have sct:=Fh (n:=r.length+1) scs
  simp (disch:=omega)only[go_sem, *]
  refine Aa (fun hc2=>?_) (fun hc2=>?_)
  ·simp (disch:=omega)only[go_sem, *]
   refine Aa (fun hc3=>?_) (fun hc3=>?_)
   ·have:=okt.n0
    simp (disch:=omega)only[go_sem, *]
    have hb:=KR (a:=top.node.n) (b:=top.ticks) (by omega) (by omega)
    refine Pf.go ((Ta (by omega) (by omega))) (by simp only [go_sem]) fun _=>?_;simp (disch:=omega)only[go_sem, *]
    refine Pf.go ((Rz (by omega) hb.1)) (by simp only [go_sem]) fun _=>?_;simp (disch:=omega)only[go_sem, *]
    refine ih _ _ _ ?_ ⟨p+1,up.take top::r,B9 st (r.length+1),rfl, ?_, ?_, ?_, ?_, ?_, ?_, ?_, ?_, ?_, ?_⟩
    ·simp
    ·simp (disch:=omega)only[go_sem, *]
    ·simp (disch:=omega)only[go_sem, *]
    ·simp (disch:=omega)only[go_sem, *]
    ·simp (disch:=omega)only[go_sem, *]
    ·simp (disch:=omega)only[go_sem, *]
    ·have st1:=sl.truncd (n:=r.length+1) (by simp)
     rw [← List.map_take,Ng] at st1
     rw [← LS (up:=up)]
     refine st1.setT (by simp) ?_ ?_
     ·simp (disch:=omega)only[go_sem, *]
      omega
     ·simp (disch:=omega)only[go_sem, *]
      simp only [Frame.take,Frame.out,if_pos hc3]
    ·intro f hf
     rcases List.mem_cons.1 hf with rfl | hf
     ·exact Ck.took oku okt hc2
     ·exact (ok f (by simp [hf])).more
    ·simp only [List.length_cons] at cnt ⊢;omega
    ·simp
    ·rw [← fin];conv=>rhs;rw [D6,if_pos hc2]
   ·simp (disch:=omega)only[go_sem, *]
    refine Pf.go ((Rz (by omega) (by omega))) (by simp only [go_sem]) fun _=>?_;simp (disch:=omega)only[go_sem, *]
    refine ih _ _ _ ?_ ⟨p+1,up.take top::r,B9 st (r.length+1),rfl, ?_, ?_, ?_, ?_, ?_, ?_, ?_, ?_, ?_, ?_⟩
    ·simp
    ·simp (disch:=omega)only[go_sem, *]
    ·simp (disch:=omega)only[go_sem, *]
    ·simp (disch:=omega)only[go_sem, *]
    ·simp (disch:=omega)only[go_sem, *]
    ·simp (disch:=omega)only[go_sem, *]
    ·have st1:=sl.truncd (n:=r.length+1) (by simp)
     rw [← List.map_take,Ng] at st1
     rw [← LS (up:=up)]
     refine st1.setT (by simp) ?_ ?_
     ·simp (disch:=omega)only[go_sem, *]
      omega
     ·simp (disch:=omega)only[go_sem, *]
      simp only [Frame.take,Frame.out,if_neg hc3]
    ·intro f hf
     rcases List.mem_cons.1 hf with rfl | hf
     ·exact Ck.took oku okt hc2
     ·exact (ok f (by simp [hf])).more
    ·simp only [List.length_cons] at cnt ⊢;omega
    ·simp
    ·rw [← fin];conv=>rhs;rw [D6,if_pos hc2]
  ·simp (disch:=omega)only[go_sem, *]
   have hF:top::up::r=F:=by rw [← fin,D6,if_neg hc2]
   rw [hF] at fin sl ok pos
   refine hQ p st _ _ ⟨?_, ?_, ?_, ?_,hl,sl,ok, ?_,pos,fin⟩
   ·simp (disch:=omega)only[go_sem, *]
   ·simp (disch:=omega)only[go_sem, *]
   ·simp (disch:=omega)only[go_sem, *]
   ·simp (disch:=omega)only[go_sem, *]
   ·rw [← hF];simpa using cnt
 ·simp (disch:=omega)only[go_sem, *]
  have hF:S=F:=by
   match S,hc,pos with
   | [t],_,_=>rw [← fin,D6]
   | a::b::r,hc,_=>simp at hc;omega
  rw [hF] at fin sl ok pos cnt
  refine hQ p st _ _ ⟨?_, ?_, ?_, ?_,hl,sl,ok,cnt,pos,fin⟩
  ·simp (disch:=omega)only[go_sem, *]
  ·simp (disch:=omega)only[go_sem, *]
  ·simp (disch:=omega)only[go_sem, *]
  ·simp (disch:=omega)only[go_sem, *]
theorem Jr:∀ (S:List Frame),1≤S.length→1≤(D6 S).length
 | [],h=>by simp at h
 | [t],_=>by rw [D6];simp
 | t::u::r,_=>by
  rw [D6]
  split
  ·exact Jr (u.take t::r) (by simp)
  ·simp
termination_by S=>S.length
theorem Jj {L:List Node}:Pf tp PQ [.fl 3 (L.map Node.enc)] (.tup [.i .i64 (B5 L).depth,.i .i64 (B5 L).ticks]):=by
 refine AE eV (by simp [JR]) fun rp=>?_;unfold JR;simp (disch:=omega)only[go_sem, *]
 have hL:=rp.head.len
 refine Ah (fun n e h=>∃ (i:Nat) (st:V) (p:Nat) (S:List Frame),n=L.length - i∧h.lim=0∧e 12=.fl 3 (L.map Node.enc)∧e 13=.i .i64 L.length∧e 14=.i .i64 i∧e 4=st∧i≤L.length∧Sl 0 h 6 st (S.reverse.map Frame.enc)∧Fe p S∧p+S.length=i+1∧1≤S.length∧DB (L.drop i) S=DB L [⟨⟨0,0,0⟩,1,0,0⟩]) ?_ _ _ _ ⟨0,.sl 0 0 1 1,0,[⟨⟨0,0,0⟩,1,0,0⟩],rfl, ?_⟩
 ·rintro n e h ⟨i,st,p,S,rfl,hl,e12,e13,e14,e4,hi,sl,ok,cnt,pos,hz⟩ ih
  rw [Am QP.eq_1]
  simp (disch:=omega)only[go_sem, *]
  refine Aa (fun hc=>?_) (fun hc=>?_)
  ·rw [AI (by omega),DB] at hz
   have hkb:=GI (nth L i)
   simp (disch:=omega)only[go_sem, *]
   refine Pf.go (Rt) (by simp only [go_sem]) fun _=>?_;simp (disch:=omega)only[go_sem, *]
   have x1:Aq h ((h.alloc ⟨3,[[.i .i64 0,.i .i64 0,.i .i64 0]]⟩).put h.next ⟨3,[Node.enc (nth L i)]⟩):=by (repeat (first | exact Aq.refl _ | refine Aq.alloc ?_ _ | (refine Aq.put ?_ _ _ ?_;rotate_left;(first | omega | (simp only [Af,Ai];omega)))))
   refine AA (R:=S.reverse.map Frame.enc) ((sl.ext x1).alloc _) (by simp only [go_sem, *]) (Nat.zero_le _) (by simp;omega) ?_
   intro w h4 s4 g4
   have hl4:=g4.lim
   have hn4:=g4.next
   have s5:Sl 0 h4 6 w ((⟨nth L i,kids (nth L i),0,0⟩::S).reverse.map Frame.enc):=by simpa [Frame.enc] using s4
   obtain ⟨slen,sbig,slt,slo,sget,sat,srow,sc,scs⟩:=s5.facts
   simp only [List.length_reverse,List.length_cons,Int.natCast_add,Int.natCast_one] at slen sbig slt slo sget sat srow
   have srl:=s5.rowlt (j:=S.length) (by simp)
   simp only [Af,Ai,A9,Eb] at hn4 hl4
   have hb4:h4.get h.next=some ⟨3,[Node.enc (nth L i)]⟩:=by
    have hne:AF st=true∨h.next≠Ar st:=by
     refine .inr ?_
     have:=(sl.facts).lt (by simp;omega)
     omega
    rw [g4.get _ (by simp only [Af,Ai];omega) hne]
    simp (disch:=omega)only[go_sem, *]
   have hrv:nth (⟨nth L i,kids (nth L i),0,0⟩::S).reverse S.length=⟨nth L i,kids (nth L i),0,0⟩:=by simp [nth,List.getD]
   have hnl:(0:Int)≤L.length:=by omega
   simp (disch:=omega)only[Node.enc] at hb4
   rw [hl] at hl4
   simp (disch:=omega)only[go_sem, *]
   refine Aa (fun hc2=>?_) (fun hc2=>?_)
   ·have hkn:1≤(nth L i).n:=by unfold kids at hc2;(repeat' split at hc2)<;>omega
    have hrv0:=hrv
    rw [hc2] at hrv0
    simp (disch:=omega)only[go_sem, *]
    refine Ji (v:=.fl 3 (L.map Node.enc)) (len:=L.length) (i:=i) (F:=D6 (AU (nth L i)::S)) (by omega) ?_ _ _ _ ⟨p,AU (nth L i)::S,w,rfl, ?_, ?_, ?_, ?_, ?_, ?_, ?_, ?_, ?_, ?_⟩
    ·intro p' st' e' h' m
     have hpos:=Jr (AU (nth L i)::S) (by simp)
     obtain ⟨m4,m12,m13,m14,ml,ms,mo,mc,mp,mf⟩:=m
     simp (disch:=omega)only[go_sem, *]
     refine ih _ _ _ ?_ ⟨i+1,st',p',D6 (AU (nth L i)::S),rfl, ?_⟩
     ·omega
     ·simp (disch:=omega)only[go_sem, *]
      ((repeat' refine And.intro ?_ ?_)<;>first | omega | assumption | (exact ms))
    ·simp (disch:=omega)only[go_sem, *]
    ·simp (disch:=omega)only[go_sem, *]
    ·simp (disch:=omega)only[go_sem, *]
    ·simp (disch:=omega)only[go_sem, *]
    ·simp (disch:=omega)only[go_sem, *]
    ·(have hpf:AU (nth L i)=⟨nth L i,kids (nth L i),0,min 4097 (nth L i).n⟩:=(by simp only [AU,if_pos hc2]);rw [hpf,←LS (up:=⟨nth L i,kids (nth L i),0,0⟩)];refine s5.setT (j:=S.length) (by simp) ?_ ?_;all_goals (first | (simp (disch:=omega)only[go_sem, *];done) | (simp (disch:=omega)only[go_sem, *];omega) | omega))
    ·intro f hf
     rcases List.mem_cons.1 hf with rfl | hf
     ·exact M4 (by omega)
     ·exact ok f hf
    ·simp only [List.length_cons];omega
    ·simp
    ·rfl
   ·simp (disch:=omega)only[go_sem, *]
    refine Ji (v:=.fl 3 (L.map Node.enc)) (len:=L.length) (i:=i) (F:=D6 (AU (nth L i)::S)) (by omega) ?_ _ _ _ ⟨p,AU (nth L i)::S,w,rfl, ?_, ?_, ?_, ?_, ?_, ?_, ?_, ?_, ?_, ?_⟩
    ·intro p' st' e' h' m
     have hpos:=Jr (AU (nth L i)::S) (by simp)
     obtain ⟨m4,m12,m13,m14,ml,ms,mo,mc,mp,mf⟩:=m
     simp (disch:=omega)only[go_sem, *]
     refine ih _ _ _ ?_ ⟨i+1,st',p',D6 (AU (nth L i)::S),rfl, ?_⟩
     ·omega
     ·simp (disch:=omega)only[go_sem, *]
      ((repeat' refine And.intro ?_ ?_)<;>first | omega | assumption | (exact ms))
    ·simp (disch:=omega)only[go_sem, *]
    ·simp (disch:=omega)only[go_sem, *]
    ·simp (disch:=omega)only[go_sem, *]
    ·simp (disch:=omega)only[go_sem, *]
    ·simp (disch:=omega)only[go_sem, *]
    ·(have hpf:AU (nth L i)=⟨nth L i,kids (nth L i),0,0⟩:=(by simp only [AU,if_neg hc2]);rw [hpf];exact s5)
    ·intro f hf
     rcases List.mem_cons.1 hf with rfl | hf
     ·exact M4 (by omega)
     ·exact ok f hf
    ·simp only [List.length_cons];omega
    ·simp
    ·rfl
  ·rw [List.drop_eq_nil_of_le (by omega),DB] at hz
   have hme:B5 L=nth S.reverse 0:=by rw [B5,←hz]
   obtain ⟨slen,sbig,slt,slo,sget,sat,srow,_,_⟩:=sl.facts
   simp only [List.length_reverse] at slen sbig slt slo sget sat srow
   have z0:Int.toNat 0=0:=rfl
   have srow0:=srow 0 (by omega)
   rw [Nat.add_zero] at srow0
   have hsl:(0:Int)<S.length:=by omega
   simp (disch:=omega)only[go_sem, *]
 ·simp (disch:=omega)only[go_sem, *]
  refine ⟨?_, ?_⟩
  ·exact .inr ⟨0,0,1,_,rfl,rfl,by simp,by simp [Frame.enc],by simp,by simp [AH.alloc,AH.emp],Nat.le_refl _,by simp⟩
  ·intro f hf
   simp only [List.mem_singleton] at hf
   subst hf
   exact ⟨.inl (by simp),by simp,by simp,by simp⟩
end Go.Ab.T
namespace Go.Ab.T
open Go Go.Ab
def Jg (L:List Node):Bool:=decide (Bo L=true∧(B5 L).ticks≤4096)
def LF (L:List Node):Int:=if Jg L=true then (B5 L).ticks else 0
theorem Ks {L:List Node}:Pf tp PE [.fl 3 (L.map Node.enc)] (.tup [.i .i64 (LF L),.b (Jg L)]):=by
 refine AE eI (by simp [JG]) fun rp=>?_;unfold JG;simp (disch:=omega)only[go_sem, *]
 refine Pf.go (Kl) (by simp only [go_sem]) fun _=>?_;simp (disch:=omega)only[go_sem, *]
 refine Bh (fun hc=>?_) (fun hc=>?_)
 ·simp (disch:=omega)only[go_sem, *]
  simp at hc
  simp [LF,Jg,hc]
 ·simp at hc
  simp (disch:=omega)only[go_sem, *]
  refine Pf.go (Jj) (by simp only [go_sem]) fun _=>?_;simp (disch:=omega)only[go_sem, *]
  refine Aa (fun hc2=>?_) (fun hc2=>?_)
  ·simp (disch:=omega)only[go_sem, *]
   simp [LF,Jg,hc,hc2]
  ·simp (disch:=omega)only[go_sem, *]
   simp [LF,Jg,hc,hc2]
def H6 (L:List Node):Int:=if Bo L=true then (B5 L).depth else 0
theorem LJ {L:List Node}:Pf tp PH [.fl 3 (L.map Node.enc)] (.i .i64 (H6 L)):=by
 refine AE eK (by simp [JI]) fun rp=>?_;unfold JI;simp (disch:=omega)only[go_sem, *]
 refine Pf.go (Kl) (by simp only [go_sem]) fun _=>?_;simp (disch:=omega)only[go_sem, *]
 refine Bh (fun hc=>?_) (fun hc=>?_)
 ·simp (disch:=omega)only[go_sem, *]
  simp at hc
  simp [H6,hc]
 ·simp at hc
  simp (disch:=omega)only[go_sem, *]
  refine Pf.go (Jj) (by simp only [go_sem]) fun _=>?_;simp (disch:=omega)only[go_sem, *]
  simp [H6,hc]
def A7 (L:List Node):Int:=if 128<L.length then 3 else if Bo L=false then 12 else if 16<H6 L then 14 else if Jg L=false then 18 else 0
theorem GN {L:List Node}:Pf tp Xc [.fl 3 (L.map Node.enc)] (.i .i64 (A7 L)):=by
 refine AE aD7 (by simp [OI]) fun rp=>?_;unfold OI;simp (disch:=omega)only[go_sem, *]
 refine Pf.go (Ks) (by simp only [go_sem]) fun _=>?_;simp (disch:=omega)only[go_sem, *]
 refine Aa (fun hc=>?_) (fun hc=>?_)
 ·simp (disch:=omega)only[go_sem, *]
  simp only [A7];rw [if_pos (by omega)]
 simp (disch:=omega)only[go_sem, *]
 refine Pf.go (Kl) (by simp only [go_sem]) fun _=>?_;simp (disch:=omega)only[go_sem, *]
 refine Bh (fun hc2=>?_) (fun hc2=>?_)
 ·simp (disch:=omega)only[go_sem, *]
  simp at hc2
  simp only [A7];rw [if_neg (by omega),if_pos hc2]
 simp at hc2
 simp (disch:=omega)only[go_sem, *]
 refine Pf.go (LJ) (by simp only [go_sem]) fun _=>?_;simp (disch:=omega)only[go_sem, *]
 refine Aa (fun hc3=>?_) (fun hc3=>?_)
 ·simp (disch:=omega)only[go_sem, *]
  simp only [A7];rw [if_neg (by omega),if_neg (by simp [hc2]),if_pos (by omega)]
 simp (disch:=omega)only[go_sem, *]
 refine Bh (fun hc4=>?_) (fun hc4=>?_)
 ·simp (disch:=omega)only[go_sem, *]
  simp at hc4
  simp only [A7];rw [if_neg (by omega),if_neg (by simp [hc2]),if_neg (by omega),if_pos hc4]
 ·simp (disch:=omega)only[go_sem, *]
  simp at hc4
  simp only [A7];rw [if_neg (by omega),if_neg (by simp [hc2]),if_neg (by omega),if_neg (by simp [hc4])]
end Go.Ab.T
namespace Go.Ab.T
open Go Go.Ab
def C2 (x:Node):Int:=if x.kind=2 then -1 else x.part
theorem hJ {x:Node}:Pf tp PI [.agg x.enc] (.i .i64 (C2 x)):=by
 refine AE eO (by simp [JK]) fun rp=>?_;unfold JK;simp (disch:=omega)only[go_sem, *]
 repeat' (first | (refine Av (fun hc=>?_) (fun hc=>?_)<;>simp (disch:=omega)only[go_sem, *]) | (refine Aa (fun hc=>?_) (fun hc=>?_)<;>simp (disch:=omega)only[go_sem, *]))
 ·simp [C2, *]
 ·simp [C2, *]
theorem eD {x:Node}:Pf tp PD [.agg x.enc] (.b (decide (0≤kids x))):=by
 refine AE eH (by simp [JF]) fun rp=>?_;unfold JF;simp (disch:=omega)only[go_sem, *]
 repeat' (first | (refine Av (fun hc=>?_) (fun hc=>?_)<;>simp (disch:=omega)only[go_sem, *]) | (refine Aa (fun hc=>?_) (fun hc=>?_)<;>simp (disch:=omega)only[go_sem, *]))
 all_goals unfold kids
 all_goals rw [Bool.eq_iff_iff]
 all_goals (repeat' split)
 all_goals simp only [decide_eq_true_eq,Bool.false_eq_true,false_iff,true_iff,iff_true,iff_false]
 all_goals omega
theorem Jd (x:Node) (h:0≤kids x):(x.kind=3→kids x=x.n)∧(x.kind=4→kids x=1)∧(x.kind≠3→x.kind≠4→kids x=0):=by
 unfold kids at h ⊢
 refine ⟨fun hk=>?_,fun hk=>?_,fun h3 h4=>?_⟩<;>(repeat' split)<;>(repeat' split at h)<;>omega
set_option maxHeartbeats 4000000 in
theorem Gi {L:List Node} {a:Int}:Pf tp Ro [.fl 3 (L.map Node.enc),.i .i64 a] (.i .i64 (size L a)):=by
 refine AE aD3 (by simp [OE]) fun rp=>?_;unfold OE;simp (disch:=omega)only[go_sem, *]
 have hL:=rp.head.len
 repeat' (first | (refine Av (fun hc=>?_) (fun hc=>?_)<;>simp (disch:=omega)only[go_sem, *]) | (refine Aa (fun hc=>?_) (fun hc=>?_)<;>simp (disch:=omega)only[go_sem, *]))
 ·simp [size];omega
 ·simp [size];omega
 ·refine Ah (fun n e h=>∃ (i:Nat) (left:Int),n=L.length - i∧h.lim=0∧e 0=.fl 3 (L.map Node.enc)∧e 1=.i .i64 a∧e 5=.i .i64 left∧e 6=.i .i64 i∧a≤i∧i≤L.length∧0<left∧left≤1+128*i∧D9 (L.drop i) left (i - a)=size L a) ?_ _ _ _ ⟨a.toNat,1,rfl, ?_⟩
  ·rintro n e h ⟨i,left,rfl,hl,e0,e1,e5,e6,hi1,hi2,hl1,hl2,hz⟩ ih
   rw [Am Ux.eq_1]
   simp (disch:=omega)only[go_sem, *]
   have hk:=GI (nth L i)
   refine Aa (fun hc=>?_) (fun hc=>?_)
   ·rw [AI (by omega),D9] at hz
    simp (disch:=omega)only[go_sem, *]
    refine Pf.go (eD) (by simp only [go_sem]) fun _=>?_;simp (disch:=omega)only[go_sem, *]
    refine Aa (fun hc2=>?_) (fun hc2=>?_)
    ·rw [if_pos (by omega)] at hz
     simp (disch:=omega)only[go_sem, *]
    ·rw [if_neg (by omega)] at hz
     have hka:=Jd (nth L i) (by omega)
     simp (disch:=omega)only[go_sem, *]
     repeat' (first | (refine Av (fun hc=>?_) (fun hc=>?_)<;>simp (disch:=omega)only[go_sem, *]) | (refine Aa (fun hc=>?_) (fun hc=>?_)<;>simp (disch:=omega)only[go_sem, *]))
     all_goals first
      | (rw [if_pos (by omega)] at hz
         rw [hz])
      | (rw [if_pos (by omega)] at hz
         rw [← hz];omega)
      | (rw [if_neg (by omega)] at hz
         refine ih _ _ _ ?_ ⟨i+1,left+(kids (nth L i) - 1),rfl, ?_⟩
         ·omega
         ·simp (disch:=omega)only[go_sem, *]
          refine ⟨by first | rfl | (congr 1;omega),by omega,by omega,by omega,by omega, ?_⟩
          rw [← hz];congr 1<;>omega)
   ·rw [List.drop_eq_nil_of_le (by omega),D9] at hz
    simp (disch:=omega)only[go_sem, *]
  ·simp (disch:=omega)only[go_sem, *]
   ((repeat' refine And.intro ?_ ?_)<;>first | omega | assumption | ((congr 1;omega)) | ((simp only [size];rw [if_neg (by omega)];congr 1;omega)))
end Go.Ab.T
namespace Go.Ab.T
open Go Go.Ab
inductive Fo where
 | nil
 | leaf (x:Node) (r:Fo)
 | seq (x:Node) (k r:Fo)
 | rep (x:Node) (k r:Fo)
namespace Fo
def flat:Fo→List Node
 | nil=>[]
 | leaf x r=>x::flat r
 | seq x k r=>x::(flat k++flat r)
 | rep x k r=>x::(flat k++flat r)
def count:Fo→Nat
 | nil=>0
 | leaf _ r=>count r+1
 | seq _ _ r=>count r+1
 | rep _ _ r=>count r+1
def ok:Fo→Prop
 | nil=>True
 | leaf x r=>T.kids x=0∧ok r
 | seq x k r=>x.kind=3∧T.kids x=count k∧0<count k∧ok k∧ok r
 | rep x k r=>x.kind=4∧T.kids x=1∧count k=1∧ok k∧ok r
def depth:Fo→Nat
 | nil=>0
 | leaf _ r=>max 1 (depth r)
 | seq _ k r=>max (depth k+1) (depth r)
 | rep _ k r=>max (depth k+1) (depth r)
def len:Fo→Int
 | nil=>0
 | leaf x r=>x.n+len r
 | seq _ k r=>len k+len r
 | rep x k r=>x.n*len k+len r
theorem split:∀ (f:Fo) (a b:Nat),count f=a+b→ok f→∃ f1 f2,flat f=flat f1++flat f2∧count f1=a∧count f2=b∧ok f1∧ok f2
 | f,0,b,hc,ho=>⟨nil,f,by simp [flat],rfl,by omega,trivial,ho⟩
 | nil,a+1,b,hc,ho=>by simp only [count] at hc;omega
 | leaf x r,a+1,b,hc,ho=>by
  obtain ⟨f1,f2,h1,h2,h3,h4,h5⟩:=split r a b (by simp only [count] at hc;omega) ho.2
  exact ⟨leaf x f1,f2,by simp [flat,h1],by simp [count,h2],h3,⟨ho.1,h4⟩,h5⟩
 | seq x k r,a+1,b,hc,ho=>by
  obtain ⟨f1,f2,h1,h2,h3,h4,h5⟩:=split r a b (by simp only [count] at hc;omega) ho.2.2.2.2
  exact ⟨seq x k f1,f2,by simp [flat,h1],by simp [count,h2],h3,⟨ho.1,ho.2.1,ho.2.2.1,ho.2.2.2.1,h4⟩,h5⟩
 | rep x k r,a+1,b,hc,ho=>by
  obtain ⟨f1,f2,h1,h2,h3,h4,h5⟩:=split r a b (by simp only [count] at hc;omega) ho.2.2.2.2
  exact ⟨rep x k f1,f2,by simp [flat,h1],by simp [count,h2],h3,⟨ho.1,ho.2.1,ho.2.2.1,ho.2.2.2.1,h4⟩,h5⟩
end Fo
theorem Fo.nil_of {f:Fo} (h:f.count=0):f=.nil:=by cases f<;>simp [Fo.count] at h ⊢
theorem E8:∀ (f:Fo) (R:List Node) (left n:Int),f.ok→((f.count:Int)<left→D9 (f.flat++R) left n=D9 R (left - f.count) (n+f.flat.length))∧(0<f.count→left=f.count→D9 (f.flat++R) left n=n+f.flat.length)
 | .nil,R,left,n,ho=>⟨fun _=>by simp [Fo.flat,Fo.count],fun h=>by simp [Fo.count] at h⟩
 | .leaf x r,R,left,n,ho=>by
  obtain ⟨hk,hor⟩:=ho
  have ih:=E8 r R (left+(kids x - 1)) (n+1) hor
  simp only [Fo.flat,Fo.count,List.cons_append,D9,List.length_cons]
  rw [if_neg (by omega)]
  refine ⟨fun h=>?_,fun _ h=>?_⟩
  ·rw [if_neg (by omega),ih.1 (by omega)];congr 1<;>omega
  ·by_cases hr:r.count=0
   ·rw [if_pos (by omega),Fo.nil_of hr];simp [Fo.flat]
   ·rw [if_neg (by omega),ih.2 (by omega) (by omega)];omega
 | .seq x k r,R,left,n,ho=>by
  obtain ⟨h3,hk,hp,hok,hor⟩:=ho
  have i1:=E8 k (r.flat++R) (left+(kids x - 1)) (n+1) hok
  have i2:=E8 r R (left+(kids x - 1) - k.count) (n+1+k.flat.length) hor
  simp only [Fo.flat,Fo.count,List.cons_append,D9,List.length_cons,List.append_assoc,List.length_append]
  rw [if_neg (by omega)]
  refine ⟨fun h=>?_,fun _ h=>?_⟩
  ·rw [if_neg (by omega),i1.1 (by omega),i2.1 (by omega)];congr 1<;>omega
  ·by_cases hr:r.count=0
   ·rw [if_neg (by omega),i1.2 (by omega) (by omega),Fo.nil_of hr];simp [Fo.flat];omega
   ·rw [if_neg (by omega),i1.1 (by omega),i2.2 (by omega) (by omega)];omega
 | .rep x k r,R,left,n,ho=>by
  obtain ⟨h3,hk,hp,hok,hor⟩:=ho
  have i1:=E8 k (r.flat++R) (left+(kids x - 1)) (n+1) hok
  have i2:=E8 r R (left+(kids x - 1) - k.count) (n+1+k.flat.length) hor
  simp only [Fo.flat,Fo.count,List.cons_append,D9,List.length_cons,List.append_assoc,List.length_append]
  rw [if_neg (by omega)]
  refine ⟨fun h=>?_,fun _ h=>?_⟩
  ·rw [if_neg (by omega),i1.1 (by omega),i2.1 (by omega)];congr 1<;>omega
  ·by_cases hr:r.count=0
   ·rw [if_neg (by omega),i1.2 (by omega) (by omega),Fo.nil_of hr];simp [Fo.flat];omega
   ·rw [if_neg (by omega),i1.1 (by omega),i2.2 (by omega) (by omega)];omega
theorem EX (x:Node) (h:0≤kids x):(kids x=0∧x.kind≠3∧x.kind≠4)∨(x.kind=3∧0<kids x)∨(x.kind=4∧kids x=1):=by
 have hk:=Jd x h
 by_cases h3:x.kind=3
 ·right;left
  refine ⟨h3, ?_⟩
  have:=hk.1 h3
  unfold kids at h this ⊢
  (repeat' split at h)<;>omega
 ·by_cases h4:x.kind=4
  ·exact .inr (.inr ⟨h4,hk.2.1 h4⟩)
  ·exact .inl ⟨hk.2.2 h3 h4,h3,h4⟩
theorem Nr:∀ (L:List Node) (left:Nat) (n:Int),0<left→0≤n→D9 L left n≠0→∃ (f:Fo) (R:List Node),f.ok∧f.count=left∧L=f.flat++R∧D9 L left n=n+f.flat.length
 | [],left,n,hl,hn,hz=>by simp [D9] at hz
 | x::r,left,n,hl,hn,hz=>by
  by_cases hk:kids x<0
  ·rw [D9,if_pos hk] at hz;exact absurd rfl hz
  ·by_cases h0:(left:Int)+(kids x - 1)=0
   ·have hkx:kids x=0:=by omega
    refine ⟨.leaf x .nil,r,⟨hkx,trivial⟩,by simp only [Fo.count];omega,by simp [Fo.flat], ?_⟩
    rw [D9,if_neg hk,if_pos h0];simp [Fo.flat]
   ·rw [D9,if_neg hk,if_neg h0] at hz
    have e:(left:Int)+(kids x - 1)=((kids x).toNat+(left - 1):Nat):=by omega
    rw [e] at hz
    obtain ⟨f,R,hfo,hfc,hL,hs⟩:=Nr r _ (n+1) (by omega) (by omega) hz
    obtain ⟨f1,f2,h1,h2,h3,h4,h5⟩:=Fo.split f _ _ hfc hfo
    rcases EX x (by omega) with ⟨c1,c2,c3⟩ | ⟨c1,c2⟩ | ⟨c1,c2⟩
    ·refine ⟨.leaf x f,R,⟨c1,hfo⟩,by simp only [Fo.count];omega,by simp [Fo.flat,hL], ?_⟩
     rw [D9,if_neg hk,if_neg h0,e,hs];simp only [Fo.flat,List.length_cons];omega
    ·refine ⟨.seq x f1 f2,R,⟨c1,by omega,by omega,h4,h5⟩,by simp only [Fo.count];omega,by simp [Fo.flat,hL,h1], ?_⟩
     rw [D9,if_neg hk,if_neg h0,e,hs,h1];simp only [Fo.flat,List.length_cons];omega
    ·refine ⟨.rep x f1 f2,R,⟨c1,c2,by omega,h4,h5⟩,by simp only [Fo.count];omega,by simp [Fo.flat,hL,h1], ?_⟩
     rw [D9,if_neg hk,if_neg h0,e,hs,h1];simp only [Fo.flat,List.length_cons];omega
theorem DR (L:List Node):Bo L=true↔∃ f:Fo,f.ok∧f.count=1∧L=f.flat:=by
 simp only [Bo,decide_eq_true_eq]
 constructor
 ·rintro ⟨hp,hs⟩
  unfold size at hs
  rw [if_neg (by omega)] at hs
  simp only [Int.toNat_zero,List.drop_zero] at hs
  obtain ⟨f,R,ho,hc,hL,hz⟩:=Nr L 1 0 (by omega) (by omega) (by simp only [Int.natCast_one];omega)
  refine ⟨f,ho,hc, ?_⟩
  simp only [Int.natCast_one] at hz
  rw [hz] at hs
  have:R=[]:=by
   have:=congrArg List.length hL
   simp only [List.length_append] at this
   exact List.length_eq_zero_iff.1 (by omega)
  rw [hL,this,List.append_nil]
 ·rintro ⟨f,ho,hc,rfl⟩
  have hp:0<f.flat.length:=by cases f<;>simp [Fo.flat,Fo.count] at hc ⊢
  refine ⟨hp, ?_⟩
  unfold size
  rw [if_neg (by omega)]
  have:=(E8 f [] 1 0 ho).2 (by omega) (by omega)
  rw [List.append_nil] at this
  simp only [Int.toNat_zero,List.drop_zero]
  omega
theorem Eg {L:List Node} {a:Nat} {f:Fo} {R:List Node} (hd:L.drop a=f.flat++R) (ho:f.ok) (hc:f.count=1):size L a=f.flat.length:=by
 have hp:0<f.flat.length:=by cases f<;>simp [Fo.flat,Fo.count] at hc ⊢
 have hl:=congrArg List.length hd
 simp only [List.length_drop,List.length_append] at hl
 unfold size
 rw [if_neg (by omega),Int.toNat_natCast,hd,(E8 f R 1 0 ho).2 (by omega) (by omega)]
 omega
/-! ### The stack machine on a forest -/
def BT:Frame→Fo→Frame
 | t,.nil=>t
 | t,.leaf x r=>BT (t.take (AU x)) r
 | t,.seq x k r=>BT (t.take (BT (AU x) k)) r
 | t,.rep x k r=>BT (t.take (BT (AU x) k)) r
theorem Er:∀ (f:Fo) (t:Frame),(BT t f).left=t.left - f.count
 | .nil,t=>by simp [BT,Fo.count]
 | .leaf x r,t=>by rw [BT,Er r];simp only [Frame.take,Fo.count];omega
 | .seq x k r,t=>by rw [BT,Er r];simp only [Frame.take,Fo.count];omega
 | .rep x k r,t=>by rw [BT,Er r];simp only [Frame.take,Fo.count];omega
theorem Es:∀ (f:Fo) (t:Frame),(BT t f).node=t.node
 | .nil,t=>by simp [BT]
 | .leaf x r,t=>by rw [BT,Es r];simp only [Frame.take]
 | .seq x k r,t=>by rw [BT,Es r];simp only [Frame.take]
 | .rep x k r,t=>by rw [BT,Es r];simp only [Frame.take]
theorem HB {t u:Frame} {S:List Frame} (h:t.left≠0):D6 (t::u::S)=t::u::S:=by rw [D6,if_neg h]
theorem LN {t u:Frame} {S:List Frame} (h:t.left=0):D6 (t::u::S)=D6 (u.take t::S):=by rw [D6,if_pos h]
theorem MZ {t:Frame}:D6 [t]=[t]:=by rw [D6]
theorem HA {t:Frame} {S:List Frame} (h:t.left≠0):D6 (t::S)=t::S:=by
 cases S with
 | nil=>exact MZ
 | cons u S=>exact HB h
theorem DM:∀ (f:Fo) (R:List Node) (t:Frame) (S:List Frame),f.ok→(f.count:Int)≤t.left→0<f.count→DB (f.flat++R) (t::S)=DB R (D6 (BT t f::S))
 | .nil,R,t,S,ho,hl,hc=>by simp [Fo.count] at hc
 | .leaf x r,R,t,S,ho,hl,hc=>by
  obtain ⟨hk,hor⟩:=ho
  simp only [Fo.count] at hl
  have hp:(AU x).left=0:=by simp only [AU];exact hk
  have ht:(t.take (AU x)).left=t.left - 1:=rfl
  rw [Fo.flat,List.cons_append,DB,LN hp,BT]
  by_cases hr:r.count=0
  ·rw [Fo.nil_of hr,Fo.flat,BT,List.nil_append]
  ·rw [HA (by omega),DM r R _ S hor (by omega) (by omega)]
 | .seq x k r,R,t,S,ho,hl,hc=>by
  obtain ⟨h3,hk,hp,hok,hor⟩:=ho
  simp only [Fo.count] at hl
  have hpl:(AU x).left=k.count:=by simp only [AU];exact hk
  have hak:=Er k (AU x)
  have ht:(t.take (BT (AU x) k)).left=t.left - 1:=rfl
  rw [Fo.flat,List.cons_append,List.append_assoc,DB,HB (by omega),BT,DM k _ (AU x) (t::S) hok (by omega) hp,LN (by omega)]
  by_cases hr:r.count=0
  ·rw [Fo.nil_of hr,Fo.flat,BT,List.nil_append]
  ·rw [HA (by omega),DM r R _ S hor (by omega) (by omega)]
 | .rep x k r,R,t,S,ho,hl,hc=>by
  obtain ⟨h3,hk,hp,hok,hor⟩:=ho
  simp only [Fo.count] at hl
  have hpl:(AU x).left=k.count:=by simp only [AU];omega
  have hak:=Er k (AU x)
  have ht:(t.take (BT (AU x) k)).left=t.left - 1:=rfl
  rw [Fo.flat,List.cons_append,List.append_assoc,DB,HB (by omega),BT,DM k _ (AU x) (t::S) hok (by omega) (by omega),LN (by omega)]
  by_cases hr:r.count=0
  ·rw [Fo.nil_of hr,Fo.flat,BT,List.nil_append]
  ·rw [HA (by omega),DM r R _ S hor (by omega) (by omega)]
theorem Ct {x:Node} (h:0≤kids x):1≤x.n:=by
 unfold kids at h;(repeat' split at h)<;>omega
theorem Fo.len_pos:∀ (f:Fo),f.ok→0≤f.len∧(0<f.count→1≤f.len)
 | .nil,_=>by simp [Fo.len,Fo.count]
 | .leaf x r,ho=>by
  have:=Fo.len_pos r ho.2;have:=Ct (x:=x) (by rw [ho.1];omega)
  simp only [Fo.len];omega
 | .seq x k r,ho=>by
  have:=Fo.len_pos r ho.2.2.2.2;have h1:=Fo.len_pos k ho.2.2.2.1;have:=ho.2.2.1
  simp only [Fo.len];omega
 | .rep x k r,ho=>by
  have:=Fo.len_pos r ho.2.2.2.2;have h1:=Fo.len_pos k ho.2.2.2.1;have:=ho.2.2.1
  have h2:=Ct (x:=x) (by rw [ho.2.1];omega)
  have h3:1*1≤x.n*k.len:=Int.mul_le_mul h2 (by omega) (by omega) (by omega)
  simp only [Fo.len];omega
theorem C6:∀ (f:Fo) (t:Frame),f.ok→0≤t.depth→(BT t f).depth=max t.depth f.depth
 | .nil,t,ho,ht=>by simp only [BT,Fo.depth];omega
 | .leaf x r,t,ho,ht=>by
  rw [BT,C6 r _ ho.2 (by simp only [Frame.take];omega)];simp only [Frame.take,AU,Fo.depth];omega
 | .seq x k r,t,ho,ht=>by
  have:=C6 k (AU x) ho.2.2.2.1 (by simp [AU])
  simp only [AU] at this
  rw [BT,C6 r _ ho.2.2.2.2 (by simp only [Frame.take];omega)];simp only [Frame.take,AU,Fo.depth,this];omega
 | .rep x k r,t,ho,ht=>by
  have:=C6 k (AU x) ho.2.2.2.1 (by simp [AU])
  simp only [AU] at this
  rw [BT,C6 r _ ho.2.2.2.2 (by simp only [Frame.take];omega)];simp only [Frame.take,AU,Fo.depth,this];omega
theorem Ml {n l:Int} (hn:1≤n) (hl:1≤l):min 4097 (min 4097 n*min 4097 l)=min 4097 (n*l):=by
 by_cases h1:n≤4097
 ·by_cases h2:l≤4097
  ·rw [Int.min_eq_right h1,Int.min_eq_right h2]
  ·have a:1*l≤n*l:=Int.mul_le_mul_of_nonneg_right hn (by omega)
   have b:1*4097≤n*4097:=Int.mul_le_mul_of_nonneg_right hn (by omega)
   rw [Int.min_eq_right h1,Int.min_eq_left (by omega:4097≤l)];omega
 ·have a:n*1≤n*l:=Int.mul_le_mul_of_nonneg_left hl (by omega)
  have b:4097*1≤4097*min 4097 l:=Int.mul_le_mul_of_nonneg_left (by omega) (by omega)
  rw [Int.min_eq_left (by omega:4097≤n)];omega
theorem C7:∀ (f:Fo) (t:Frame),f.ok→0≤t.ticks∧t.ticks≤4097→(BT t f).ticks=min 4097 (t.ticks+f.len)
 | .nil,t,ho,ht=>by simp only [BT,Fo.len];omega
 | .leaf x r,t,ho,ht=>by
  have h1:=Ct (x:=x) (by rw [ho.1];omega)
  have h4:x.kind≠4:=by
   have:=EX x (by rw [ho.1];omega)
   rw [ho.1] at this;omega
  have hl:=(Fo.len_pos r ho.2).1
  have e:(t.take (AU x)).ticks=min 4097 (t.ticks+x.n):=by
   simp only [Frame.take,Frame.out,AU,MR,if_neg h4,if_pos ho.1];omega
  rw [BT,C7 r _ ho.2 (by rw [e];omega),e];simp only [Fo.len];omega
 | .seq x k r,t,ho,ht=>by
  have hk:=C7 k (AU x) ho.2.2.2.1 (by
   have:=ho.2.2.1;have:=ho.2.1
   simp only [AU];rw [if_neg (by omega)];omega)
  have hl:=(Fo.len_pos r ho.2.2.2.2).1
  have hlk:=(Fo.len_pos k ho.2.2.2.1).1
  have h0:(AU x).ticks=0:=by
   have:=ho.2.2.1;have:=ho.2.1
   simp only [AU];rw [if_neg (by omega)]
  have e:(t.take (BT (AU x) k)).ticks=min 4097 (t.ticks+k.len):=by
   simp only [Frame.take,Frame.out,Es,MR,hk,h0]
   rw [if_neg (by simp only [AU];have:=ho.1;omega)];omega
  rw [BT,C7 r _ ho.2.2.2.2 (by rw [e];omega),e];simp only [Fo.len];omega
 | .rep x k r,t,ho,ht=>by
  have hk:=C7 k (AU x) ho.2.2.2.1 (by
   have:=ho.2.1
   simp only [AU];rw [if_neg (by omega)];omega)
  have hl:=(Fo.len_pos r ho.2.2.2.2).1
  have hlk:=(Fo.len_pos k ho.2.2.2.1).2 (by have:=ho.2.2.1;omega)
  have h1:=Ct (x:=x) (by rw [ho.2.1];omega)
  have h0:(AU x).ticks=0:=by
   have:=ho.2.1
   simp only [AU];rw [if_neg (by omega)]
  have hx:1*1≤x.n*k.len:=Int.mul_le_mul h1 hlk (by omega) (by omega)
  have e:(t.take (BT (AU x) k)).ticks=min 4097 (t.ticks+x.n*k.len):=by
   simp only [Frame.take,Frame.out,Es,MR,hk,h0,Hx]
   rw [if_pos (by simp only [AU];exact ho.1),Int.zero_add,show (AU x).node.n=x.n from rfl,Ml h1 hlk];omega
  rw [BT,C7 r _ ho.2.2.2.2 (by rw [e];omega),e];simp only [Fo.len];omega
theorem Bx {f:Fo} (ho:f.ok) (hc:f.count=1):(B5 f.flat).depth=f.depth∧(B5 f.flat).ticks=min 4097 f.len:=by
 have h:=DM f [] ⟨⟨0,0,0⟩,1,0,0⟩ [] ho (by simp [hc]) (by omega)
 rw [List.append_nil,DB,MZ] at h
 have e:B5 f.flat=BT ⟨⟨0,0,0⟩,1,0,0⟩ f:=by simp [B5,h,nth]
 rw [e,C6 f _ ho (by simp),C7 f _ ho (by simp)]
 simp
end Go.Ab.T
namespace Go.Ab.T
open Go Go.Ab
set_option maxHeartbeats 1000000
@[go_sem] def E1 (x:Int):List V:=[.i .i64 x]
def BF:Nat→Fo→List Int
 | _,.nil=>[]
 | b,.leaf x r=>(b:Int)::BF (b+1) r
 | b,.seq x k r=>(b:Int)::BF (b+1+k.flat.length) r
 | b,.rep x k r=>(b:Int)::BF (b+1+k.flat.length) r
theorem Du:∀ (f:Fo) (b:Nat),(BF b f).length=f.count
 | .nil,b=>rfl
 | .leaf x r,b=>by simp [BF,Fo.count,Du r]
 | .seq x k r,b=>by simp [BF,Fo.count,Du r]
 | .rep x k r,b=>by simp [BF,Fo.count,Du r]
theorem Fo.count_le:∀ (f:Fo),f.count≤f.flat.length
 | .nil=>by simp [Fo.count]
 | .leaf x r=>by have:=Fo.count_le r;simp [Fo.count,Fo.flat];omega
 | .seq x k r=>by have:=Fo.count_le r;simp [Fo.count,Fo.flat];omega
 | .rep x k r=>by have:=Fo.count_le r;simp [Fo.count,Fo.flat];omega
theorem AL {α:Type} {L:List α} {b:Nat} {x:α} {r:List α} (h:L.drop b=x::r):b<L.length∧L.drop (b+1)=r:=by
 constructor
 ·have:=congrArg List.length h
  simp only [List.length_drop,List.length_cons] at this;omega
 ·rw [← List.drop_drop,h];rfl
theorem CI {α:Type} {L:List α} {b:Nat} {p r:List α} (h:L.drop b=p++r):L.drop (b+p.length)=r:=by
 rw [← List.drop_drop,h,List.drop_left]
theorem B2 {α:Type} [Inhabited α] {L:List α} {b:Nat} {x:α} {r:List α} (h:L.drop b=x::r):nth L b=x:=by
 have h1:=AL h
 rw [AI h1.1] at h
 exact (List.cons.inj h).1
theorem Pr {g:Fo} (hg:0<g.count) (ho:g.ok):∃ (f r:Fo),f.ok∧f.count=1∧r.ok∧g.flat=f.flat++r.flat∧r.count+1=g.count∧∀ b,BF b g=(b:Int)::BF (b+f.flat.length) r:=by
 cases g with
 | nil=>simp [Fo.count] at hg
 | leaf x r=>exact ⟨.leaf x .nil,r,⟨ho.1,trivial⟩,rfl,ho.2,by simp [Fo.flat],rfl,fun b=>by simp [BF,Fo.flat]⟩
 | seq x k r=>exact ⟨.seq x k .nil,r,⟨ho.1,ho.2.1,ho.2.2.1,ho.2.2.2.1,trivial⟩,rfl,ho.2.2.2.2,by simp [Fo.flat],rfl,fun b=>by simp [BF,Fo.flat];congr 1;omega⟩
 | rep x k r=>exact ⟨.rep x k .nil,r,⟨ho.1,ho.2.1,ho.2.2.1,ho.2.2.2.1,trivial⟩,rfl,ho.2.2.2.2,by simp [Fo.flat],rfl,fun b=>by simp [BF,Fo.flat];congr 1;omega⟩
theorem Gh {L : List Node} {a : Nat} {x : Node} {k : Fo} {R : List Node} (hd : L.drop a = x :: (k.flat ++ R)) (ho : k.ok) (hs : size L a = 1 + k.flat.length) :
    Pf tp Xb [.fl 3 (L.map Node.enc),.i .i64 a] (.fl 1 ((BF (a+1) k).map E1)):=by
 have hal:=(AL hd).1
 have hll:=congrArg List.length hd
 simp only [List.length_drop,List.length_cons,List.length_append] at hll
 refine AE aD6 (by simp [OH]) fun rp=>?_;unfold OH;simp (disch:=omega)only[go_sem, *]
 have hL:=rp.head.len
 refine Pf.go (Gi) (by simp only [go_sem]) fun _=>?_;simp (disch:=omega)only[go_sem, *]
 refine Ah (fun n e h=>∃ (b:Nat) (g:Fo) (out:V) (D:List Int),n=g.count∧h.lim=0∧e 0=.fl 3 (L.map Node.enc)∧e 1=.i .i64 a∧e 5=.i .i64 (1+k.flat.length)∧e 6=out∧e 7=.i .i64 b∧Sl 0 h 1 out (D.map E1)∧g.ok∧L.drop b=g.flat++R∧b+g.flat.length=a+1+k.flat.length∧D++BF b g=BF (a+1) k) ?_ _ _ _ ⟨a+1,k,.ns,[],rfl, ?_⟩
 ·rintro n e h ⟨b,g,out,D,rfl,hl,e0,e1,e5,e6,e7,so,go,gd,gl,gz⟩ ih
  rw [Am nZ.eq_1]
  simp (disch:=omega)only[go_sem, *]
  have gpl:=Du g b
  have kpl:=Du k (a+1)
  have kcl:=Fo.count_le k
  have hzl:=congrArg List.length gz
  simp only [List.length_append] at hzl
  refine Aa (fun hc=>?_) (fun hc=>?_)
  ·have hgc:0<g.count:=by
    by_cases h0:g.count=0
    ·rw [Fo.nil_of h0] at gl;simp [Fo.flat] at gl;omega
    ·omega
   obtain ⟨f,r,fo,fc,ro,gf,gc,gp⟩:=Pr hgc go
   rw [gf,List.append_assoc] at gd
   have hsz:=Eg gd fo fc
   have gfl:=congrArg List.length gf
   simp only [List.length_append] at gfl
   simp (disch:=omega)only[go_sem, *]
   refine AA (R:=D.map E1) (so.alloc _) (by simp only [go_sem, *]) (Nat.zero_le _) (by simp;omega) ?_
   intro w h4 s4 g4
   have hl4:=g4.lim
   simp (disch:=omega)only[go_sem, *]
   refine Pf.go (Gi) (by simp only [go_sem]) fun _=>?_;simp (disch:=omega)only[go_sem, *]
   have hfl:=Fo.count_le f
   refine ih _ _ _ ?_ ⟨b+f.flat.length,r,w,D++[(b:Int)],rfl, ?_⟩
   ·omega
   ·simp (disch:=omega)only[go_sem, *]
    ((repeat' refine And.intro ?_ ?_)<;>first | omega | assumption | (simpa [E1] using s4) | (exact CI gd) | ((rw [← gz,gp b];simp)))
  ·have h0:g.flat.length=0:=by omega
   have h1:=Fo.count_le g
   have h2:=Fo.nil_of (f:=g) (by omega)
   subst h2
   simp (disch:=omega)only[go_sem, *]
   rw [← gz,BF,List.append_nil]
   rw [BF,List.append_nil] at gz
   exact so.froze (fun _=>rfl) trivial (by rw [gz];omega)
 ·simp (disch:=omega)only[go_sem, *]
  exact ⟨Sl.nil _ _ _,(AL hd).2⟩
end Go.Ab.T
namespace Go.Ab.T
open Go Go.Ab
set_option maxHeartbeats 1000000
def DA:Fo→List Int
 | .nil=>[]
 | .leaf x r=>1::DA r
 | .seq x k r=>((k.depth:Int)+1)::DA r
 | .rep x k r=>((k.depth:Int)+1)::DA r
theorem Fi:∀ (f:Fo),(DA f).length=f.count
 | .nil=>rfl
 | .leaf x r=>by simp [DA,Fo.count,Fi r]
 | .seq x k r=>by simp [DA,Fo.count,Fi r]
 | .rep x k r=>by simp [DA,Fo.count,Fi r]
theorem Eu:∀ (f:Fo) (m:Int),0≤m→(DA f).foldl max m=max m f.depth
 | .nil,m,hm=>by simp [DA,Fo.depth];omega
 | .leaf x r,m,hm=>by simp only [DA,List.foldl_cons,Fo.depth];rw [Eu r _ (by omega)];omega
 | .seq x k r,m,hm=>by simp only [DA,List.foldl_cons,Fo.depth];rw [Eu r _ (by omega)];omega
 | .rep x k r,m,hm=>by simp only [DA,List.foldl_cons,Fo.depth];rw [Eu r _ (by omega)];omega
theorem Fo.depth_le:∀ (f:Fo),f.depth≤f.flat.length
 | .nil=>by simp [Fo.depth]
 | .leaf x r=>by have:=Fo.depth_le r;simp [Fo.depth,Fo.flat];omega
 | .seq x k r=>by have:=Fo.depth_le r;have:=Fo.depth_le k;simp [Fo.depth,Fo.flat];omega
 | .rep x k r=>by have:=Fo.depth_le r;have:=Fo.depth_le k;simp [Fo.depth,Fo.flat];omega
theorem GF:∀ (f:Fo) (i:Nat),i<f.count→0≤nth (DA f) i∧nth (DA f) i≤f.flat.length
 | .nil,i,h=>by simp [Fo.count] at h
 | .leaf x r,0,h=>by simp [DA,nth,Fo.flat];omega
 | .seq x k r,0,h=>by have:=Fo.depth_le k;simp [DA,nth,Fo.flat];omega
 | .rep x k r,0,h=>by have:=Fo.depth_le k;simp [DA,nth,Fo.flat];omega
 | .leaf x r,i+1,h=>by have:=GF r i (by simpa [Fo.count] using h);simp [DA,nth,Fo.flat] at this ⊢;omega
 | .seq x k r,i+1,h=>by have:=GF r i (by simpa [Fo.count] using h);simp [DA,nth,Fo.flat] at this ⊢;omega
 | .rep x k r,i+1,h=>by have:=GF r i (by simpa [Fo.count] using h);simp [DA,nth,Fo.flat] at this ⊢;omega
def TR (L:List Node) (b:Nat) (f:Fo):Prop:=∀ i,i<f.count→Pf tp MD [.fl 3 (L.map Node.enc),.i .i64 (nth (BF b f) i)] (.i .i64 (nth (DA f) i))
theorem F6 {L : List Node} {a : Nat} {x : Node} {k : Fo} {R : List Node} (hd : L.drop a = x :: (k.flat ++ R)) (ho : k.ok) (hs : size L a = 1 + k.flat.length) (ha : TR L (a + 1) k) :
    Pf tp MD [.fl 3 (L.map Node.enc),.i .i64 a] (.i .i64 ((k.depth:Int)+1)):=by
 have hll:=congrArg List.length hd
 simp only [List.length_drop,List.length_cons,List.length_append] at hll
 refine AE aD4 (by simp [OF]) fun rp=>?_;unfold OF;simp (disch:=omega)only[go_sem, *]
 have hL:=rp.head.len
 refine Pf.go (Gh hd ho hs) (by simp only [go_sem]) fun _=>?_;simp (disch:=omega)only[go_sem, *]
 have hpl:=Du k (a+1)
 have hdl:=Fi k
 have hcl:=Fo.count_le k
 have hdk:=Fo.depth_le k
 refine Ah (fun n e h=>∃ (i:Nat) (m:Int),n=(BF (a+1) k).length - i∧h.lim=0∧e 10=.fl 1 ((BF (a+1) k).map E1)∧e 11=.i .i64 (BF (a+1) k).length∧e 12=.i .i64 i∧e 0=.fl 3 (L.map Node.enc)∧e 1=.i .i64 a∧e 5=.i .i64 m∧i≤(BF (a+1) k).length∧0≤m∧m≤4000000000∧((DA k).drop i).foldl max m=k.depth) ?_ _ _ _ ⟨0,0,rfl, ?_⟩
 ·rintro n e h ⟨i,m,rfl,hl,e10,e11,e12,e0,e1,e5,hi,hm0,hm,hz⟩ ih
  rw [Am nX.eq_1]
  simp (disch:=omega)only[go_sem, *]
  refine Aa (fun hc=>?_) (fun hc=>?_)
  ·rw [AI (by omega),List.foldl_cons] at hz
   have hb:=GF k i (by omega)
   simp (disch:=omega)only[go_sem, *]
   refine Pf.go (ha i (by omega)) (by simp only [go_sem]) fun _=>?_;simp (disch:=omega)only[go_sem, *]
   refine ih _ _ _ ?_ ⟨i+1,max m (nth (DA k) i),rfl, ?_⟩
   ·omega
   ·simp (disch:=omega)only[go_sem, *]
    ((repeat' refine And.intro ?_ ?_)<;>first | omega | assumption | (skip))
  ·rw [List.drop_eq_nil_of_le (by omega),List.foldl_nil] at hz
   simp (disch:=omega)only[go_sem, *]
 ·simp (disch:=omega)only[go_sem, *]
  have:=Eu k 0 (by omega)
  ((repeat' refine And.intro ?_ ?_)<;>first | omega | assumption | ((rw [this];omega)))
theorem FD {L:List Node}:∀ (f:Fo) (b:Nat) (R:List Node),f.ok→L.drop b=f.flat++R→TR L b f
 | .nil,b,R,ho,hd=>fun i hi=>by simp [Fo.count] at hi
 | .leaf x r,b,R,ho,hd=>fun i hi=>by
  have hd':L.drop b=x::(r.flat++R):=hd
  match i,hi with
  | 0,_=>exact F6 (k:=.nil) (R:=r.flat++R) hd' trivial (Eg (f:=.leaf x .nil) hd' ⟨ho.1,trivial⟩ rfl) (fun i hi=>by simp [Fo.count] at hi)
  | i+1,hi=>exact FD r (b+1) R ho.2 (AL hd').2 i (by simp only [Fo.count] at hi;omega)
 | .seq x k r,b,R,ho,hd=>fun i hi=>by
  have hd':L.drop b=x::(k.flat++(r.flat++R)):=by rw [hd];simp [Fo.flat]
  match i,hi with
  | 0,_=>
   have hs:=Eg (f:=.seq x k .nil) (R:=r.flat++R) (by rw [hd'];simp [Fo.flat]) ⟨ho.1,ho.2.1,ho.2.2.1,ho.2.2.2.1,trivial⟩ rfl
   exact F6 (k:=k) hd' ho.2.2.2.1 (by rw [hs];simp [Fo.flat];omega) (FD k (b+1) _ ho.2.2.2.1 (AL hd').2)
  | i+1,hi=>exact FD r (b+1+k.flat.length) R ho.2.2.2.2 (CI (AL hd').2) i (by simp only [Fo.count] at hi;omega)
 | .rep x k r,b,R,ho,hd=>fun i hi=>by
  have hd':L.drop b=x::(k.flat++(r.flat++R)):=by rw [hd];simp [Fo.flat]
  match i,hi with
  | 0,_=>
   have hs:=Eg (f:=.rep x k .nil) (R:=r.flat++R) (by rw [hd'];simp [Fo.flat]) ⟨ho.1,ho.2.1,ho.2.2.1,ho.2.2.2.1,trivial⟩ rfl
   exact F6 (k:=k) hd' ho.2.2.2.1 (by rw [hs];simp [Fo.flat];omega) (FD k (b+1) _ ho.2.2.2.1 (AL hd').2)
  | i+1,hi=>exact FD r (b+1+k.flat.length) R ho.2.2.2.2 (CI (AL hd').2) i (by simp only [Fo.count] at hi;omega)
end Go.Ab.T
namespace Go.Ab.T
open Go Go.Ab
set_option maxHeartbeats 1000000
def Ds:Fo→List Int
 | .nil=>[]
 | .leaf x r=>min x.n 4097::Ds r
 | .seq x k r=>min k.len 4097::Ds r
 | .rep x k r=>min (x.n*k.len) 4097::Ds r
theorem Fk:∀ (f:Fo),(Ds f).length=f.count
 | .nil=>rfl
 | .leaf x r=>by simp [Ds,Fo.count,Fk r]
 | .seq x k r=>by simp [Ds,Fo.count,Fk r]
 | .rep x k r=>by simp [Ds,Fo.count,Fk r]
theorem Nb {x:Node} {k r:Fo} (ho:(Fo.rep x k r).ok):1≤x.n∧1≤k.len∧1≤x.n*k.len:=by
 have h1:=Ct (x:=x) (by rw [ho.2.1];omega)
 have h2:=(Fo.len_pos k ho.2.2.2.1).2 (by have:=ho.2.2.1;omega)
 have h3:1*1≤x.n*k.len:=Int.mul_le_mul h1 h2 (by omega) (by omega)
 omega
theorem EB:∀ (f:Fo) (s:Int),f.ok→0≤s∧s≤4097→(Ds f).foldl (fun s l=>min (s+l) 4097) s=min (s+f.len) 4097
 | .nil,s,ho,hs=>by simp [Ds,Fo.len];omega
 | .leaf x r,s,ho,hs=>by
  have h1:=Ct (x:=x) (by rw [ho.1];omega)
  have h2:=(Fo.len_pos r ho.2).1
  simp only [Ds,List.foldl_cons,Fo.len];rw [EB r _ ho.2 (by omega)];omega
 | .seq x k r,s,ho,hs=>by
  have h1:=(Fo.len_pos k ho.2.2.2.1).1
  have h2:=(Fo.len_pos r ho.2.2.2.2).1
  simp only [Ds,List.foldl_cons,Fo.len];rw [EB r _ ho.2.2.2.2 (by omega)];omega
 | .rep x k r,s,ho,hs=>by
  have h1:=Nb ho
  have h2:=(Fo.len_pos r ho.2.2.2.2).1
  simp only [Ds,List.foldl_cons,Fo.len];rw [EB r _ ho.2.2.2.2 (by omega)];omega
theorem GK:∀ (f:Fo) (i:Nat),f.ok→i<f.count→0≤nth (Ds f) i∧nth (Ds f) i≤4097
 | .nil,i,ho,h=>by simp [Fo.count] at h
 | .leaf x r,0,ho,h=>by have:=Ct (x:=x) (by rw [ho.1];omega);simp only [Ds,Dd];omega
 | .seq x k r,0,ho,h=>by have:=(Fo.len_pos k ho.2.2.2.1).1;simp only [Ds,Dd];omega
 | .rep x k r,0,ho,h=>by have:=Nb ho;simp only [Ds,Dd];omega
 | .leaf x r,i+1,ho,h=>GK r i ho.2 (by simpa [Fo.count] using h)
 | .seq x k r,i+1,ho,h=>GK r i ho.2.2.2.2 (by simpa [Fo.count] using h)
 | .rep x k r,i+1,ho,h=>GK r i ho.2.2.2.2 (by simpa [Fo.count] using h)
def TW (L:List Node) (b:Nat) (f:Fo):Prop:=∀ i,i<f.count→Pf tp ME [.fl 3 (L.map Node.enc),.i .i64 (nth (BF b f) i)] (.i .i64 (nth (Ds f) i))
def aBY (x:Node) (k t:Fo):Prop:=(kids x=0∧k=.nil∧t=.leaf x .nil)∨(x.kind=3∧t=.seq x k .nil)∨(x.kind=4∧t=.rep x k .nil∧1≤x.n∧1≤k.len∧1≤x.n*k.len)
theorem Fl {L : List Node} {a : Nat} {x : Node} {k t : Fo} {R : List Node} (hd : L.drop a = x :: (k.flat ++ R)) (ho : k.ok) (ht : aBY x k t) (hs : size L a = 1 + k.flat.length) (ha : TW L (a + 1) k) :
    Pf tp ME [.fl 3 (L.map Node.enc),.i .i64 a] (.i .i64 (nth (Ds t) 0)):=by
 have hll:=congrArg List.length hd
 simp only [List.length_drop,List.length_cons,List.length_append] at hll
 have hnx:=B2 hd
 have hal:=(AL hd).1
 refine AE aD5 (by simp [OG]) fun rp=>?_;unfold OG;simp (disch:=omega)only[go_sem, *]
 have hL:=rp.head.len
 refine Pf.go (Gh hd ho hs) (by simp only [go_sem]) fun _=>?_;simp (disch:=omega)only[go_sem, *]
 have hpl:=Du k (a+1)
 have hdl:=Fk k
 have hcl:=Fo.count_le k
 refine Ah (fun n e h=>∃ (i:Nat) (m:Int),n=(BF (a+1) k).length - i∧h.lim=0∧e 10=.fl 1 ((BF (a+1) k).map E1)∧e 11=.i .i64 (BF (a+1) k).length∧e 12=.i .i64 i∧e 0=.fl 3 (L.map Node.enc)∧e 1=.i .i64 a∧e 5=.i .i64 m∧i≤(BF (a+1) k).length∧0≤m∧m≤4097∧((Ds k).drop i).foldl (fun s l=>min (s+l) 4097) m=min k.len 4097) ?_ _ _ _ ⟨0,0,rfl, ?_⟩
 ·rintro n e h ⟨i,m,rfl,hl,e10,e11,e12,e0,e1,e5,hi,hm0,hm,hz⟩ ih
  rw [Am nY.eq_1]
  simp (disch:=omega)only[go_sem, *]
  refine Aa (fun hc=>?_) (fun hc=>?_)
  ·rw [AI (by omega),List.foldl_cons] at hz
   have hb:=GK k i ho (by omega)
   simp (disch:=omega)only[go_sem, *]
   refine Pf.go (ha i (by omega)) (by simp only [go_sem]) fun _=>?_;simp (disch:=omega)only[go_sem, *]
   refine ih _ _ _ ?_ ⟨i+1,min (m+nth (Ds k) i) 4097,rfl, ?_⟩
   ·omega
   ·simp (disch:=omega)only[go_sem, *]
    ((repeat' refine And.intro ?_ ?_)<;>first | omega | assumption | (skip))
  ·rw [List.drop_eq_nil_of_le (by omega),List.foldl_nil] at hz
   subst hz
   simp (disch:=omega)only[go_sem, *]
   rcases ht with ⟨c1,rfl,rfl⟩ | ⟨c1,rfl⟩ | ⟨c1,rfl,c2,c3,c4⟩
   ·have h34:=EX x (by rw [c1];omega)
    rw [c1] at h34
    refine Aa (fun hc2=>by omega) (fun hc2=>?_)
    simp (disch:=omega)only[go_sem, *]
    refine Aa (fun hc2=>by omega) (fun hc2=>?_)
    simp (disch:=omega)only[go_sem, *]
    simp only [Ds,Dd]
   ·refine Aa (fun hc2=>?_) (fun hc2=>by omega)
    simp (disch:=omega)only[go_sem, *]
    simp only [Ds,Dd]
   ·refine Aa (fun hc2=>by omega) (fun hc2=>?_)
    have b1:1≤min x.n 4097∧min x.n 4097≤4097:=by omega
    have b2:1≤min k.len 4097∧min k.len 4097≤4097:=by omega
    have b3:0≤min k.len 4097*min x.n 4097:=Int.mul_nonneg (by omega) (by omega)
    have b4:min k.len 4097*min x.n 4097≤4097*4097:=Int.mul_le_mul b2.2 b1.2 (by omega) (by omega)
    simp (disch:=omega)only[go_sem, *]
    have b5:=Ml c2 c3
    simp only [Ds,Dd]
    rw [Int.min_comm x.n 4097,Int.min_comm k.len 4097,Int.mul_comm (min 4097 k.len),Int.min_comm _ 4097,b5,Int.min_comm]
 ·simp (disch:=omega)only[go_sem, *]
  have:=EB k 0 ho (by omega)
  ((repeat' refine And.intro ?_ ?_)<;>first | omega | assumption | ((rw [this];omega)))
theorem FI {L:List Node}:∀ (f:Fo) (b:Nat) (R:List Node),f.ok→L.drop b=f.flat++R→TW L b f
 | .nil,b,R,ho,hd=>fun i hi=>by simp [Fo.count] at hi
 | .leaf x r,b,R,ho,hd=>fun i hi=>by
  have hd':L.drop b=x::(r.flat++R):=hd
  match i,hi with
  | 0,_=>exact Fl (k:=.nil) (R:=r.flat++R) (t:=.leaf x .nil) hd' trivial (.inl ⟨ho.1,rfl,rfl⟩) (Eg (f:=.leaf x .nil) hd' ⟨ho.1,trivial⟩ rfl) (fun i hi=>by simp [Fo.count] at hi)
  | i+1,hi=>exact FI r (b+1) R ho.2 (AL hd').2 i (by simp only [Fo.count] at hi;omega)
 | .seq x k r,b,R,ho,hd=>fun i hi=>by
  have hd':L.drop b=x::(k.flat++(r.flat++R)):=by rw [hd];simp [Fo.flat]
  match i,hi with
  | 0,_=>
   have hs:=Eg (f:=.seq x k .nil) (R:=r.flat++R) (by rw [hd'];simp [Fo.flat]) ⟨ho.1,ho.2.1,ho.2.2.1,ho.2.2.2.1,trivial⟩ rfl
   exact Fl (k:=k) (t:=.seq x k .nil) hd' ho.2.2.2.1 (.inr (.inl ⟨ho.1,rfl⟩)) (by rw [hs];simp [Fo.flat];omega) (FI k (b+1) _ ho.2.2.2.1 (AL hd').2)
  | i+1,hi=>exact FI r (b+1+k.flat.length) R ho.2.2.2.2 (CI (AL hd').2) i (by simp only [Fo.count] at hi;omega)
 | .rep x k r,b,R,ho,hd=>fun i hi=>by
  have hd':L.drop b=x::(k.flat++(r.flat++R)):=by rw [hd];simp [Fo.flat]
  match i,hi with
  | 0,_=>
   have hs:=Eg (f:=.rep x k .nil) (R:=r.flat++R) (by rw [hd'];simp [Fo.flat]) ⟨ho.1,ho.2.1,ho.2.2.1,ho.2.2.2.1,trivial⟩ rfl
   exact Fl (k:=k) (t:=.rep x k .nil) hd' ho.2.2.2.1 (.inr (.inr ⟨ho.1,rfl,Nb ho⟩)) (by rw [hs];simp [Fo.flat];omega) (FI k (b+1) _ ho.2.2.2.1 (AL hd').2)
  | i+1,hi=>exact FI r (b+1+k.flat.length) R ho.2.2.2.2 (CI (AL hd').2) i (by simp only [Fo.count] at hi;omega)
end Go.Ab.T
namespace Go.Ab.T
open Go Go.Ab
set_option maxHeartbeats 1000000
def Fo.runs:Fo→List AK
 | .nil=>[]
 | .leaf x r=>⟨C2 x,x.n⟩::runs r
 | .seq x k r=>runs k++runs r
 | .rep x k r=>(List.replicate x.n.toNat (runs k)).flatten++runs r
theorem Fo.runs_pos:∀ (f:Fo),f.ok→0<f.count→1≤f.runs.length
 | .nil,ho,hc=>by simp [Fo.count] at hc
 | .leaf x r,ho,hc=>by simp [Fo.runs]
 | .seq x k r,ho,hc=>by
  have:=Fo.runs_pos k ho.2.2.2.1 ho.2.2.1
  simp [Fo.runs];omega
 | .rep x k r,ho,hc=>by
  have:=Fo.runs_pos k ho.2.2.2.1 (by have:=ho.2.2.1;omega)
  have hn:=Ct (x:=x) (by rw [ho.2.1];omega)
  have:1*1≤x.n.toNat*k.runs.length:=Nat.mul_le_mul (by omega) this
  simp [Fo.runs];omega
theorem Fo.runs_len:∀ (f:Fo),f.ok→(f.runs.length:Int)≤f.len
 | .nil,ho=>by simp [Fo.runs,Fo.len]
 | .leaf x r,ho=>by
  have h1:=Ct (x:=x) (by rw [ho.1];omega)
  have:=Fo.runs_len r ho.2
  simp [Fo.runs,Fo.len];omega
 | .seq x k r,ho=>by
  have:=Fo.runs_len k ho.2.2.2.1;have:=Fo.runs_len r ho.2.2.2.2
  simp [Fo.runs,Fo.len];omega
 | .rep x k r,ho=>by
  have h1:=Fo.runs_len k ho.2.2.2.1;have:=Fo.runs_len r ho.2.2.2.2
  have hn:=Ct (x:=x) (by rw [ho.2.1];omega)
  have h3:x.n*k.runs.length≤x.n*k.len:=Int.mul_le_mul_of_nonneg_left h1 (by omega)
  have h4:((x.n.toNat*k.runs.length:Nat):Int)=x.n*k.runs.length:=by rw [Int.natCast_mul,Int.toNat_of_nonneg (by omega)]
  simp only [Fo.runs,Fo.len,List.length_append,List.length_flatten,List.map_replicate,List.sum_replicate_nat,Int.natCast_add]
  omega
def CU:Fo→List (List AK)
 | .nil=>[]
 | .leaf x r=>[⟨C2 x,x.n⟩]::CU r
 | .seq x k r=>k.runs::CU r
 | .rep x k r=>(List.replicate x.n.toNat k.runs).flatten::CU r
theorem Cu:∀ (f:Fo),(CU f).flatten=f.runs
 | .nil=>rfl
 | .leaf x r=>by simp [CU,Fo.runs,Cu r]
 | .seq x k r=>by simp [CU,Fo.runs,Cu r]
 | .rep x k r=>by simp [CU,Fo.runs,Cu r]
theorem DQ:∀ (f:Fo),(CU f).length=f.count
 | .nil=>rfl
 | .leaf x r=>by simp [CU,Fo.count,DQ r]
 | .seq x k r=>by simp [CU,Fo.count,DQ r]
 | .rep x k r=>by simp [CU,Fo.count,DQ r]
def OQ (L:List Node) (b:Nat) (f:Fo):Prop:=∀ i,i<f.count→∀ (h:AH) (w:V) (A:List AK) (K:V→AH→Prop),h.lim=0→Sl 0 h 2 w (A.map AK.enc)→A.length+(nth (CU f) i).length≤4000000000 →
 (∀ r h',Sl 0 h' 2 r ((A++nth (CU f) i).map AK.enc)→h'.lim=0→K r h')→Cq tp Jb [.fl 3 (L.map Node.enc),.i .i64 (nth (BF b f) i),w] h K
section
variable {L:List Node} {a:Nat} {x:Node} {k:Fo} {R:List Node} {h:AH} {w:V} {A:List AK} {K:V→AH→Prop}
theorem SZ (hd:L.drop a=x::R) (hk:kids x=0) (h0:h.lim=0) (hA:Sl 0 h 2 w (A.map AK.enc)) (hl:A.length+[(⟨C2 x,x.n⟩:AK)].length≤4000000000)
    (k:∀ r h',Sl 0 h' 2 r ((A++[(⟨C2 x,x.n⟩:AK)]).map AK.enc)→h'.lim=0→K r h'):Cq tp Jb [.fl 3 (L.map Node.enc),.i .i64 a,w] h K:=by
 have hnx:=B2 hd
 have hal:=(AL hd).1
 have hc1:x.kind=1∨x.kind=2:=by
  unfold kids at hk;(repeat' split at hk)<;>omega
 simp only [List.length_cons,List.length_nil] at hl
 refine Ac Px (by simp [G4]) fun wf rp=>?_;unfold G4;simp (disch:=omega)only[go_sem, *]
 have hL:=rp.head.len
 refine Aa (fun hc=>?_) (fun hc=>?_)
 ·simp (disch:=omega)only[go_sem, *]
  refine AA (R:=A.map AK.enc) (hA.alloc _) (by simp only [go_sem, *]) (Nat.zero_le _) (by simp;omega) ?_
  intro r h4 s4 g4
  have hl4:=g4.lim
  simp (disch:=omega)only[go_sem, *]
  have hp:C2 x=x.part:=by unfold C2;rw [if_neg (by omega)]
  exact k _ _ (by simpa [AK.enc,hp] using s4) (by simpa [AH.alloc, *] using hl4)
 ·have h2:x.kind=2:=by omega
  simp (disch:=omega)only[go_sem, *]
  refine AA (R:=A.map AK.enc) (hA.alloc _) (by simp only [go_sem, *]) (Nat.zero_le _) (by simp;omega) ?_
  intro r h4 s4 g4
  have hl4:=g4.lim
  simp (disch:=omega)only[go_sem, *]
  have hp:C2 x = -1:=by unfold C2;rw [if_pos h2]
  exact k _ _ (by simpa [AK.enc,hp] using s4) (by simpa [AH.alloc, *] using hl4)
theorem SF {α:Type} [Inhabited α] {l:List (List α)} {i:Nat} (h:i<l.length):(l.drop i).flatten=nth l i++(l.drop (i+1)).flatten:=by
 rw [AI h,List.flatten_cons]
theorem Yq (hd:L.drop a=x::(k.flat++R)) (ho:k.ok) (hk3:x.kind=3) (hkc:0<k.count) (hs:size L a=1+k.flat.length) (ha:OQ L (a+1) k) (hl:h.lim=0) (hA:Sl 0 h 2 w (A.map AK.enc)) (hlen:A.length+k.runs.length≤4000000000)
    (kk:∀ r h',Sl 0 h' 2 r ((A++k.runs).map AK.enc)→h'.lim=0→K r h'):Cq tp Jb [.fl 3 (L.map Node.enc),.i .i64 a,w] h K:=by
 have hnx:=B2 hd
 have hal:=(AL hd).1
 have hll:=congrArg List.length hd
 simp only [List.length_drop,List.length_cons,List.length_append] at hll
 refine Ac Px (by simp [G4]) fun wf rp=>?_;unfold G4;simp (disch:=omega)only[go_sem, *]
 have hL:=rp.head.len
 refine Pf.go (Gh hd ho hs) (by simp only [go_sem]) fun _=>?_;simp (disch:=omega)only[go_sem, *]
 have hpl:=Du k (a+1)
 have hrl:=DQ k
 have hcl:=Fo.count_le k
 refine Ah (fun n e h=>∃ (i:Nat) (o:V) (B:List AK),n=(BF (a+1) k).length - i∧h.lim=0∧e 61=.fl 1 ((BF (a+1) k).map E1)∧e 62=.i .i64 (BF (a+1) k).length∧e 63=.i .i64 i∧e 0=.fl 3 (L.map Node.enc)∧e 1=.i .i64 a∧e 2=o∧i≤(BF (a+1) k).length∧Sl 0 h 2 o (B.map AK.enc)∧B++((CU k).drop i).flatten=A++k.runs) ?_ _ _ _ ⟨0,w,A,rfl, ?_⟩
 ·rintro n e h ⟨i,o,B,rfl,hl,e61,e62,e63,e0,e1,e2,hi,sB,hz⟩ ih
  rw [Am Ut.eq_1]
  simp (disch:=omega)only[go_sem, *]
  refine Aa (fun hc=>?_) (fun hc=>?_)
  ·rw [SF (by omega)] at hz
   have hzl:=congrArg List.length hz
   simp only [List.length_append] at hzl
   simp (disch:=omega)only[go_sem, *]
   refine ha i (by omega) _ o B _ (by simp only [go_sem, *]) sB (by omega) ?_
   intro r h3 sr hl3
   simp (disch:=omega)only[go_sem, *]
   refine ih _ _ _ ?_ ⟨i+1,r,B++nth (CU k) i,rfl, ?_⟩
   ·omega
   ·simp (disch:=omega)only[go_sem, *]
    ((repeat' refine And.intro ?_ ?_)<;>first | omega | assumption | ((rw [← hz,List.append_assoc])))
  ·rw [List.drop_eq_nil_of_le (by omega)] at hz
   simp (disch:=omega)only[go_sem, *]
   exact kk _ _ (by rw [← hz];simpa using sB) hl
 ·simp (disch:=omega)only[go_sem, *]
  ((repeat' refine And.intro ?_ ?_)<;>first | omega | assumption | ((rw [List.drop_zero,Cu])) | ((rw [Cu])))
theorem X7 {r : Fo} (hd : L.drop a = x :: (k.flat ++ R)) (ho : (Fo.rep x k r).ok) (ha : OQ L (a + 1) k) (hl : h.lim = 0) (hA : Sl 0 h 2 w (A.map AK.enc)) (hlen : A.length + ((List.replicate x.n.toNat k.runs).flatten).length ≤ 4000000000)
    (kk:∀ r h',Sl 0 h' 2 r ((A++(List.replicate x.n.toNat k.runs).flatten).map AK.enc)→h'.lim=0→K r h'):Cq tp Jb [.fl 3 (L.map Node.enc),.i .i64 a,w] h K:=by
 have hnx:=B2 hd
 have hal:=(AL hd).1
 have h0:0<k.count:=by have:=ho.2.2.1;omega
 have hp0:nth (BF (a+1) k) 0=((a:Int)+1):=by
  cases k with
  | nil=>simp [Fo.count] at h0
  | leaf _ _=>simp [BF,nth]
  | seq _ _ _=>simp [BF,nth]
  | rep _ _ _=>simp [BF,nth]
 have hr0:nth (CU k) 0=k.runs:=by
  have h1:=Cu k
  have h2:=DQ k
  rw [ho.2.2.1] at h2
  match hk:CU k,h2 with
  | [t],_=>rw [hk] at h1;simpa [nth] using h1
 have ha0:=ha 0 h0
 rw [hp0,hr0] at ha0
 have hk4:=ho.1
 have hn1:=Ct (x:=x) (by rw [ho.2.1];omega)
 have hr1:=Fo.runs_pos k ho.2.2.2.1 h0
 have hln:(List.replicate x.n.toNat k.runs).flatten.length=x.n.toNat*k.runs.length:=by simp
 have hln1:x.n.toNat*1≤x.n.toNat*k.runs.length:=Nat.mul_le_mul_left _ hr1
 refine Ac Px (by simp [G4]) fun wf rp=>?_;unfold G4;simp (disch:=omega)only[go_sem, *]
 have hL:=rp.head.len
 refine Ah (fun n e h=>∃ (i:Nat) (o:V) (B:List AK),n=x.n.toNat - i∧h.lim=0∧e 0=.fl 3 (L.map Node.enc)∧e 1=.i .i64 a∧e 2=o∧e 7=.i .i64 i∧i≤x.n.toNat∧Sl 0 h 2 o (B.map AK.enc)∧B.length+(x.n.toNat - i)*k.runs.length≤4000000000∧B++(List.replicate (x.n.toNat - i) k.runs).flatten=A++(List.replicate x.n.toNat k.runs).flatten) ?_ _ _ _ ⟨0,w,A,rfl, ?_⟩
 ·rintro n e h ⟨i,o,B,rfl,hl,e0,e1,e2,e7,hi,sB,hb,hz⟩ ih
  rw [Am Us.eq_1]
  simp (disch:=omega)only[go_sem, *]
  refine Aa (fun hc=>?_) (fun hc=>?_)
  ·obtain ⟨m,hm⟩:∃ m,x.n.toNat - i=m+1:=⟨x.n.toNat - i - 1,by omega⟩
   rw [hm,List.replicate_succ,List.flatten_cons] at hz
   rw [hm,Nat.succ_mul] at hb
   simp (disch:=omega)only[go_sem, *]
   refine ha0 _ o B _ (by simp only [go_sem, *]) sB (by omega) ?_
   intro r h3 sr hl3
   have hm2:x.n.toNat - (i+1)=m:=by omega
   simp (disch:=omega)only[go_sem, *]
   refine ih _ _ _ ?_ ⟨i+1,r,B++k.runs,rfl, ?_⟩
   ·omega
   ·simp (disch:=omega)only[go_sem, *]
    ((repeat' refine And.intro ?_ ?_)<;>first | omega | assumption | ((simp;omega)) | ((rw [← hz,List.append_assoc])) | ((rw [hm2,←hz,List.append_assoc])) | ((rw [hm2];simp;omega)))
  ·have hm:x.n.toNat - i=0:=by omega
   rw [hm] at hz
   simp (disch:=omega)only[go_sem, *]
   exact kk _ _ (by rw [← hz];simpa using sB) hl
 ·simp (disch:=omega)only[go_sem, *]
  ((repeat' refine And.intro ?_ ?_)<;>first | omega | assumption | ((simp only [Nat.sub_zero];omega)) | ((simp only [Nat.sub_zero])))
end
theorem FG {L:List Node}:∀ (f:Fo) (b:Nat) (R:List Node),f.ok→L.drop b=f.flat++R→OQ L b f
 | .nil,b,R,ho,hd=>fun i hi=>by simp [Fo.count] at hi
 | .leaf x r,b,R,ho,hd=>fun i hi h w A K hw hA hl kk=>by
  have hd':L.drop b=x::(r.flat++R):=hd
  match i,hi with
  | 0,_=>exact SZ hd' ho.1 hw hA hl kk
  | i+1,hi=>exact FG r (b+1) R ho.2 (AL hd').2 i (by simp only [Fo.count] at hi;omega) h w A K hw hA hl kk
 | .seq x k r,b,R,ho,hd=>fun i hi h w A K hw hA hl kk=>by
  have hd':L.drop b=x::(k.flat++(r.flat++R)):=by rw [hd];simp [Fo.flat]
  match i,hi with
  | 0,_=>
   have hs:=Eg (f:=.seq x k .nil) (R:=r.flat++R) (by rw [hd'];simp [Fo.flat]) ⟨ho.1,ho.2.1,ho.2.2.1,ho.2.2.2.1,trivial⟩ rfl
   exact Yq (k:=k) hd' ho.2.2.2.1 ho.1 ho.2.2.1 (by rw [hs];simp [Fo.flat];omega) (FG k (b+1) _ ho.2.2.2.1 (AL hd').2) hw hA hl kk
  | i+1,hi=>exact FG r (b+1+k.flat.length) R ho.2.2.2.2 (CI (AL hd').2) i (by simp only [Fo.count] at hi;omega) h w A K hw hA hl kk
 | .rep x k r,b,R,ho,hd=>fun i hi h w A K hw hA hl kk=>by
  have hd':L.drop b=x::(k.flat++(r.flat++R)):=by rw [hd];simp [Fo.flat]
  match i,hi with
  | 0,_=>
   exact X7 (k:=k) hd' ho (FG k (b+1) _ ho.2.2.2.1 (AL hd').2) hw hA hl kk
  | i+1,hi=>exact FG r (b+1+k.flat.length) R ho.2.2.2.2 (CI (AL hd').2) i (by simp only [Fo.count] at hi;omega) h w A K hw hA hl kk
end Go.Ab.T
namespace Go.Ab.T
open Go Go.Ab
set_option maxHeartbeats 1000000
theorem Fo.flat_pos {f:Fo} (hc:f.count=1):0<f.flat.length:=by have:=Fo.count_le f;omega
theorem Fo.depth_pos {f:Fo} (hc:0<f.count):0<f.depth:=by cases f<;>simp [Fo.count,Fo.depth] at hc ⊢<;>omega
theorem Gt {f:Fo} (ho:f.ok) (hc:f.count=1):Bo f.flat=true:=(DR _).2 ⟨f,ho,hc,rfl⟩
theorem Ew {f:Fo} (ho:f.ok) (hc:f.count=1):H6 f.flat=f.depth:=by
 unfold H6;rw [if_pos (Gt ho hc),(Bx ho hc).1]
theorem FH {f:Fo} (ho:f.ok) (hc:f.count=1):Jg f.flat=decide (f.len≤4096):=by
 unfold Jg;rw [(Bx ho hc).2,Gt ho hc];simp;omega
theorem S0 {f:Fo} (ho:f.ok) (hc:f.count=1):LF f.flat=if f.len≤4096 then f.len else 0:=by
 unfold LF;rw [FH ho hc,(Bx ho hc).2];simp only [decide_eq_true_eq];split<;>omega
theorem FM (L:List Node):A7 L=0↔L.length≤128∧∃ f:Fo,f.ok∧f.count=1∧L=f.flat∧f.depth≤16∧f.len≤4096:=by
 constructor
 ·intro h
  by_cases hw:Bo L=true
  ·obtain ⟨f,ho,hc,rfl⟩:=(DR L).1 hw
   unfold A7 at h
   rw [hw,Ew ho hc,FH ho hc] at h
   (repeat' split at h)<;>simp at h
   rename_i h1 h2 h3 h4
   simp at h4
   exact ⟨by omega,f,ho,hc,rfl,by omega,h4⟩
  ·simp at hw
   unfold A7 at h
   rw [hw] at h
   (repeat' split at h)<;>simp at h
   all_goals simp_all
 ·rintro ⟨hl,f,ho,hc,rfl,hd,hn⟩
  unfold A7
  rw [if_neg (by omega),if_neg (by rw [Gt ho hc];simp),if_neg (by rw [Ew ho hc];omega),if_neg (by rw [FH ho hc];simp;omega)]
theorem Fq {L:List Node}:Pf tp WY [.fl 3 (L.map Node.enc)] (.i .i64 (H6 L)):=by
 refine AE aDQ (by simp [Oo]) fun rp=>?_;unfold Oo;simp (disch:=omega)only[go_sem, *]
 refine Av (fun hc=>?_) (fun hc=>?_)
 ·simp (disch:=omega)only[go_sem, *]
  have hwf:Bo L=false:=by simp [Bo];omega
  unfold H6;rw [hwf];simp
 ·simp (disch:=omega)only[go_sem, *]
  refine Pf.go (Gi) (by simp only [go_sem]) fun _=>?_;simp (disch:=omega)only[go_sem, *]
  refine Aa (fun hc2=>?_) (fun hc2=>?_)
  ·simp (disch:=omega)only[go_sem, *]
   have hwf:Bo L=false:=by simp [Bo];omega
   unfold H6;rw [hwf];simp
  ·have hwt:Bo L=true:=by simp [Bo];omega
   obtain ⟨f,ho,hc1,rfl⟩:=(DR L).1 hwt
   have hf:=FD (L:=f.flat) f 0 [] ho (by simp) 0 (by omega)
   have hp0:nth (BF 0 f) 0=0:=by cases f<;>simp [Fo.count,BF,nth] at hc1 ⊢
   have hd0:nth (DA f) 0=f.depth:=by
    have h1:=Eu f 0 (by omega)
    have h2:=Fi f
    rw [hc1] at h2
    have h3:=GF f 0 (by omega)
    match hk:DA f,h2 with
    | [t],_=>rw [hk] at h1 h3;simp [nth] at h1 h3 ⊢;omega
   rw [hp0,hd0] at hf
   simp (disch:=omega)only[go_sem, *]
   refine Pf.go (hf) (by simp only [go_sem]) fun _=>?_;simp (disch:=omega)only[go_sem, *]
   have e:=Ew ho hc1
   rw [e]
theorem LR {L:List Node}:Pf tp WZ [.fl 3 (L.map Node.enc)] (.tup [.i .i64 (LF L),.b (Jg L)]):=by
 refine AE aDR (by simp [Oq]) fun rp=>?_;unfold Oq;simp (disch:=omega)only[go_sem, *]
 refine Pf.go (Fq) (by simp only [go_sem]) fun _=>?_;simp (disch:=omega)only[go_sem, *]
 refine Aa (fun hc=>?_) (fun hc=>?_)
 ·simp (disch:=omega)only[go_sem, *]
  have hwf:Bo L=false:=by
   by_cases hwt:Bo L=true
   ·obtain ⟨f,ho,hc1,rfl⟩:=(DR L).1 hwt
    have:=Fo.depth_pos (f:=f) (by omega)
    rw [Ew ho hc1] at hc
    omega
   ·simpa using hwt
  have e1:Jg L=false:=by simp [Jg,hwf]
  have e2:LF L=0:=by simp [LF,e1]
  rw [e1,e2];exact ⟨rfl,rfl⟩
 ·have hwt:Bo L=true:=by
   by_cases hwt:Bo L=true
   ·exact hwt
   ·exact absurd (by unfold H6;rw [if_neg hwt]) hc
  obtain ⟨f,ho,hc1,rfl⟩:=(DR L).1 hwt
  have hf:=FI (L:=f.flat) f 0 [] ho (by simp) 0 (by omega)
  have hp0:nth (BF 0 f) 0=0:=by cases f<;>simp [Fo.count,BF,nth] at hc1 ⊢
  have hd0:nth (Ds f) 0=min f.len 4097:=by
   have h1:=EB f 0 ho (by omega)
   have h2:=Fk f
   rw [hc1] at h2
   have h3:=GK f 0 ho (by omega)
   match hk:Ds f,h2 with
   | [t],_=>rw [hk] at h1 h3;simp [nth] at h1 h3 ⊢;omega
  rw [hp0,hd0] at hf
  have e1:=FH ho hc1
  have e2:=S0 ho hc1
  simp (disch:=omega)only[go_sem, *]
  refine Pf.go (hf) (by simp only [go_sem]) fun _=>?_;simp (disch:=omega)only[go_sem, *]
  refine Aa (fun hc2=>?_) (fun hc2=>?_)
  ·simp (disch:=omega)only[go_sem, *]
   rw [if_neg (by omega)]
   exact ⟨rfl,by simp;omega⟩
  ·simp (disch:=omega)only[go_sem, *]
   rw [if_pos (by omega),show min f.len 4097=f.len by omega]
   exact ⟨rfl,by simp;omega⟩
theorem M8 {L:List Node}:Pf tp WF [.fl 3 (L.map Node.enc)] (.i .i64 (A7 L)):=by
 have hdp:Bo L=false↔H6 L=0:=by
  constructor
  ·intro h;unfold H6;rw [h];simp
  ·intro h
   by_cases hwt:Bo L=true
   ·obtain ⟨f,ho,hc1,rfl⟩:=(DR L).1 hwt
    have:=Fo.depth_pos (f:=f) (by omega)
    rw [Ew ho hc1] at h;omega
   ·simpa using hwt
 refine AE aDD (by simp [N8]) fun rp=>?_;unfold N8;simp (disch:=omega)only[go_sem, *]
 refine Aa (fun hc=>?_) (fun hc=>?_)
 ·simp (disch:=omega)only[go_sem, *]
  unfold A7;rw [if_pos (by omega)]
 simp (disch:=omega)only[go_sem, *]
 refine Pf.go (Fq) (by simp only [go_sem]) fun _=>?_;simp (disch:=omega)only[go_sem, *]
 refine Aa (fun hc2=>?_) (fun hc2=>?_)
 ·have hw0:=hdp.2 hc2
  simp (disch:=omega)only[go_sem, *]
  unfold A7;rw [if_neg (by omega),if_pos hw0]
 have hwt:¬ Bo L=false:=fun h=>hc2 (hdp.1 h)
 simp (disch:=omega)only[go_sem, *]
 refine Pf.go (Fq) (by simp only [go_sem]) fun _=>?_;simp (disch:=omega)only[go_sem, *]
 refine Aa (fun hc3=>?_) (fun hc3=>?_)
 ·simp (disch:=omega)only[go_sem, *]
  unfold A7;rw [if_neg (by omega),if_neg hwt,if_pos (by omega)]
 simp (disch:=omega)only[go_sem, *]
 refine Pf.go (LR) (by simp only [go_sem]) fun _=>?_;simp (disch:=omega)only[go_sem, *]
 refine Bh (fun hc4=>?_) (fun hc4=>?_)
 ·simp (disch:=omega)only[go_sem, *]
  simp at hc4
  unfold A7;rw [if_neg (by omega),if_neg hwt,if_neg (by omega),if_pos hc4]
 ·simp (disch:=omega)only[go_sem, *]
  simp at hc4
  unfold A7;rw [if_neg (by omega),if_neg hwt,if_neg (by omega),if_neg (by simp [hc4])]
theorem LQ {f:Fo} (ho:f.ok) (hc:f.count=1) (hl:f.len≤4096):Pf tp WI [.fl 3 (f.flat.map Node.enc)] (.fl 2 (f.runs.map AK.enc)):=by
 have hf:=FG (L:=f.flat) f 0 [] ho (by simp) 0 (by omega)
 have hp0:nth (BF 0 f) 0=0:=by cases f<;>simp [Fo.count,BF,nth] at hc ⊢
 have hd0:nth (CU f) 0=f.runs:=by
  have h1:=Cu f
  have h2:=DQ f
  rw [hc] at h2
  match hk:CU f,h2 with
  | [t],_=>rw [hk] at h1;simpa [nth] using h1
 rw [hp0,hd0] at hf
 have hrl:=Fo.runs_len f ho
 refine AE aDF (by simp [Oa]) fun rp=>?_;unfold Oa;simp (disch:=omega)only[go_sem, *]
 refine hf _ .ns [] _ rfl (Sl.nil _ _ _) (by simp;omega) ?_
 intro r h2 sr hl2
 simp (disch:=omega)only[go_sem, *]
 exact sr.froze (fun _=>rfl) trivial (by simp;omega)
end Go.Ab.T
namespace Go.Ab.T
open Go Go.Ab
set_option maxHeartbeats 1000000
structure Bd where
 entry:Int
 prio:Int
 deriving Inhabited,DecidableEq
@[go_sem] def Bd.enc (x:Bd):List V:=[.i .i64 x.entry,.i .i64 x.prio]
structure Part where
 name:ByteArray
 budget:Int
 period:Int
 sched:Bool
 stop:Bool
 procs:List Bd
 h0:Int
 h1:Int
 h2:Int
 h3:Int
 h4:Int
 deriving Inhabited,DecidableEq
@[go_sem] def Part.enc (x:Part):List V:=[.s x.name,.i .i64 x.budget,.i .i64 x.period,.b x.sched,.b x.stop,.fl 2 (x.procs.map Bd.enc),.i .i64 x.h0,.i .i64 x.h1,.i .i64 x.h2,.i .i64 x.h3,.i .i64 x.h4]
structure A1 where
 src:Int
 dst:Int
 queue:Bool
 cap:Int
 top:Int
 late:Int
 deriving Inhabited,DecidableEq
@[go_sem] def A1.enc (x:A1):List V:=[.i .i64 x.src,.i .i64 x.dst,.b x.queue,.i .i64 x.cap,.i .u32 x.top,.i .i64 x.late]
@[go_sem] def Tab.enc (x:List Node):List V:=[.fl 3 (x.map Node.enc)]
structure An where
 parts:List Part
 chans:List A1
 tables:List (List Node)
 deriving Inhabited,DecidableEq
@[go_sem] def An.enc (x:An):List V:=[.fl 11 (x.parts.map Part.enc),.fl 6 (x.chans.map A1.enc),.fl 1 (x.tables.map Tab.enc)]
theorem Pb {xs:List (List V)}:Pf tp PK [.fl 2 xs] (.fl 2 xs):=by
 refine AE eR (by simp [JN]) fun rp=>?_;unfold JN;simp (disch:=omega)only[go_sem, *]
theorem Mk {xs:List (List V)}:Pf tp Q8 [.fl 2 xs] (.fl 2 xs):=by
 refine AE VS (by simp [Ka]) fun rp=>?_;unfold Ka;simp (disch:=omega)only[go_sem, *]
theorem Mj {xs:List (List V)}:Pf tp Ra [.fl 3 xs] (.fl 3 xs):=by
 refine AE VU (by simp [Kc]) fun rp=>?_;unfold Kc;simp (disch:=omega)only[go_sem, *]
theorem Lj {xs:List (List V)}:Pf tp Q9 [.fl 2 xs] (.fl 2 xs):=by
 refine AE VT (by simp [Kb]) fun rp=>?_;unfold Kb;simp (disch:=omega)only[go_sem, *]
 have hb:=rp.head.big
 intro t ht
 cases t
 ·simp (disch:=omega)only[go_sem, *]
  refine AA (R:=[]) (Sl.nil' 0 _ _) (Nat.le_refl _) (Nat.le_refl _) (by simp;omega) ?_
  intro w h4 s4 g4
  simp (disch:=omega)only[go_sem, *]
  exact s4.froze' rp.head.frzr trivial (by simp;omega)
 ·simp (disch:=omega)only[go_sem, *]
  have:xs=[]:=by
   rcases List.eq_nil_or_concat xs with h | ⟨l,a,h⟩
   ·exact h
   ·exact absurd (ht (by rw [h];simp)) (by simp)
  rw [this]
theorem Pe {xs:List (List V)} {h:AH} {K:V→AH→Prop} (hl:h.lim≤h.next) (k:∀ r h',Sl h.next h' 2 r xs→Aq h h'→K r h'):Cq tp Q9 [.fl 2 xs] h K:=by
 refine Ac VT (by simp [Kb]) fun wf rp=>?_;unfold Kb;simp (disch:=omega)only[go_sem, *]
 have hb:=rp.head.big
 intro t ht
 cases t
 ·simp (disch:=omega)only[go_sem, *]
  refine AA (R:=[]) (Sl.nil' h.next _ _) hl (Nat.le_refl _) (by simp;omega) ?_
  intro w h4 s4 g4
  simp (disch:=omega)only[go_sem, *]
  exact k _ _ s4 ⟨g4.next,g4.lim,g4.low⟩
 ·simp (disch:=omega)only[go_sem, *]
  have:xs=[]:=by
   rcases List.eq_nil_or_concat xs with h | ⟨l,a,h⟩
   ·exact h
   ·exact absurd (ht (by rw [h];simp)) (by simp)
  subst this
  exact k _ _ (Sl.nil _ _ _) (Aq.refl h)
theorem Pc {xs:List (List V)} {h:AH} {K:V→AH→Prop} (hl:h.lim≤h.next) (k:∀ r h',Sl h.next h' 6 r xs→Aq h h'→K r h'):Cq tp Wy [.fl 6 xs] h K:=by
 refine Ac aDr (by simp [NS]) fun wf rp=>?_;unfold NS;simp (disch:=omega)only[go_sem, *]
 have hb:=rp.head.big
 intro t ht
 cases t
 ·simp (disch:=omega)only[go_sem, *]
  refine AA (R:=[]) (Sl.nil' h.next _ _) hl (Nat.le_refl _) (by simp;omega) ?_
  intro w h4 s4 g4
  simp (disch:=omega)only[go_sem, *]
  exact k _ _ s4 ⟨g4.next,g4.lim,g4.low⟩
 ·simp (disch:=omega)only[go_sem, *]
  have:xs=[]:=by
   rcases List.eq_nil_or_concat xs with h | ⟨l,a,h⟩
   ·exact h
   ·exact absurd (ht (by rw [h];simp)) (by simp)
  subst this
  exact k _ _ (Sl.nil _ _ _) (Aq.refl h)
theorem GB {xs:List (List V)}:Pf tp Rb [.fl 3 xs] (.fl 3 xs):=by
 refine AE VV (by simp [Kd]) fun rp=>?_;unfold Kd;simp (disch:=omega)only[go_sem, *]
 have hb:=rp.head.big
 intro t ht
 cases t
 ·simp (disch:=omega)only[go_sem, *]
  refine AA (R:=[]) (Sl.nil' 0 _ _) (Nat.le_refl _) (Nat.le_refl _) (by simp;omega) ?_
  intro w h4 s4 g4
  simp (disch:=omega)only[go_sem, *]
  exact s4.froze' rp.head.frzr trivial (by simp;omega)
 ·simp (disch:=omega)only[go_sem, *]
  have:xs=[]:=by
   rcases List.eq_nil_or_concat xs with h | ⟨l,a,h⟩
   ·exact h
   ·exact absurd (ht (by rw [h];simp)) (by simp)
  rw [this]
theorem Pd {xs:List (List V)} {h:AH} {K:V→AH→Prop} (hl:h.lim≤h.next) (k:∀ r h',Sl h.next h' 3 r xs→Aq h h'→K r h'):Cq tp Rb [.fl 3 xs] h K:=by
 refine Ac VV (by simp [Kd]) fun wf rp=>?_;unfold Kd;simp (disch:=omega)only[go_sem, *]
 have hb:=rp.head.big
 intro t ht
 cases t
 ·simp (disch:=omega)only[go_sem, *]
  refine AA (R:=[]) (Sl.nil' h.next _ _) hl (Nat.le_refl _) (by simp;omega) ?_
  intro w h4 s4 g4
  simp (disch:=omega)only[go_sem, *]
  exact k _ _ s4 ⟨g4.next,g4.lim,g4.low⟩
 ·simp (disch:=omega)only[go_sem, *]
  have:xs=[]:=by
   rcases List.eq_nil_or_concat xs with h | ⟨l,a,h⟩
   ·exact h
   ·exact absurd (ht (by rw [h];simp)) (by simp)
  subst this
  exact k _ _ (Sl.nil _ _ _) (Aq.refl h)
def CP {α:Type} (P:α→Bool):List α→Int→Int
 | [],_=>-1
 | a::l,i=>if P a=true then i else CP P l (i+1)
theorem fY {L:List Part} {g:Nat} {caps:List V} {P:Part→Bool} {h0:AH} {K:V→AH→Prop} (hp:∀ x,x∈L→∀ K:V→AH→Prop,K (.b (P x)) h0→Cq tp g (.agg x.enc::caps) h0 K) (k:K (.i .i64 (CP P L 0)) h0):Cq tp W5 [.fl 11 (L.map Part.enc),.f (.func g) [] caps] h0 K:=by
 refine Ac aDW (by simp [Ox]) fun wf rp=>?_;unfold Ox;simp (disch:=omega)only[go_sem, *]
 have hL:=rp.head.len
 refine Ah (fun n e h=>∃ (i:Nat),n=L.length - i∧h.lim=h0.lim∧e 6=.fl 11 (L.map Part.enc)∧e 7=.i .i64 L.length∧e 8=.i .i64 i∧e 0=.fl 11 (L.map Part.enc)∧e 1=.f (.func g) [] caps∧i≤L.length∧h=h0∧CP P (L.drop i) i=CP P L 0) ?_ _ _ _ ⟨0,rfl, ?_⟩
 ·rintro n e h ⟨i,rfl,hl,e6,e7,e8,e0,e1,hi,rfl,hz⟩ ih
  rw [Am nT.eq_1]
  simp (disch:=omega)only[go_sem, *]
  refine Aa (fun hc=>?_) (fun hc=>?_)
  ·rw [AI (by omega),CP] at hz
   simp (disch:=omega)only[go_sem, *]
   refine hp (nth L i) (AP (by omega)) _ ?_
   simp (disch:=omega)only[go_sem, *]
   refine Bh (fun hc2=>?_) (fun hc2=>?_)
   ·rw [if_pos hc2] at hz
    simp (disch:=omega)only[go_sem, *]
   ·rw [if_neg (by simp [hc2])] at hz
    simp (disch:=omega)only[go_sem, *]
    refine ih _ _ _ ?_ ⟨i+1,rfl, ?_⟩
    ·omega
    ·simp (disch:=omega)only[go_sem, *]
     ((repeat' refine And.intro ?_ ?_)<;>first | omega | assumption | (skip))
  ·rw [List.drop_eq_nil_of_le (by omega),CP] at hz
   simp (disch:=omega)only[go_sem, *]
 ·simp (disch:=omega)only[go_sem, *]
theorem KK {P:Part→Bool}:∀ (L:List Part) (i:Int),0≤i→(0≤CP P L i↔L.any P=true)
 | [],i,hi=>by simp [CP]
 | a::l,i,hi=>by
  rw [CP]
  split
  ·rename_i h;simp [h,hi]
  ·rename_i h;rw [KK l (i+1) (by omega)];simp [h]
theorem fP {L:List Part} {g:Nat} {caps:List V} {P:Part→Bool} {h0:AH} {K:V→AH→Prop} (hp:∀ x,x∈L→∀ K:V→AH→Prop,K (.b (P x)) h0→Cq tp g (.agg x.enc::caps) h0 K) (k:K (.b (L.any P)) h0):Cq tp WN [.fl 11 (L.map Part.enc),.f (.func g) [] caps] h0 K:=by
 refine Ac aDK (by simp [Og]) fun wf rp=>?_;unfold Og;simp (disch:=omega)only[go_sem, *]
 refine fY hp ?_
 simp (disch:=omega)only[go_sem, *]
 have e:(decide (0≤CP P L 0))=L.any P:=by rw [Bool.eq_iff_iff];simp only [decide_eq_true_eq];exact KK L 0 (Int.le_refl _)
 rw [e];exact k
theorem aEl {L:List AK} {g:Nat} {caps:List V} {P:AK→Bool} {h0:AH} {K:V→AH→Prop} (hp:∀ x,x∈L→∀ K:V→AH→Prop,K (.b (P x)) h0→Cq tp g (.agg x.enc::caps) h0 K) (k:K (.i .i64 (CP P L 0)) h0):Cq tp Xf [.fl 2 (L.map AK.enc),.f (.func g) [] caps] h0 K:=by
 refine Ac aEa (by simp [OL]) fun wf rp=>?_;unfold OL;simp (disch:=omega)only[go_sem, *]
 have hL:=rp.head.len
 refine Ah (fun n e h=>∃ (i:Nat),n=L.length - i∧h.lim=h0.lim∧e 6=.fl 2 (L.map AK.enc)∧e 7=.i .i64 L.length∧e 8=.i .i64 i∧e 0=.fl 2 (L.map AK.enc)∧e 1=.f (.func g) [] caps∧i≤L.length∧h=h0∧CP P (L.drop i) i=CP P L 0) ?_ _ _ _ ⟨0,rfl, ?_⟩
 ·rintro n e h ⟨i,rfl,hl,e6,e7,e8,e0,e1,hi,rfl,hz⟩ ih
  rw [Am oA.eq_1]
  simp (disch:=omega)only[go_sem, *]
  refine Aa (fun hc=>?_) (fun hc=>?_)
  ·rw [AI (by omega),CP] at hz
   simp (disch:=omega)only[go_sem, *]
   refine hp (nth L i) (AP (by omega)) _ ?_
   simp (disch:=omega)only[go_sem, *]
   refine Bh (fun hc2=>?_) (fun hc2=>?_)
   ·rw [if_pos hc2] at hz
    simp (disch:=omega)only[go_sem, *]
   ·rw [if_neg (by simp [hc2])] at hz
    simp (disch:=omega)only[go_sem, *]
    refine ih _ _ _ ?_ ⟨i+1,rfl, ?_⟩
    ·omega
    ·simp (disch:=omega)only[go_sem, *]
     ((repeat' refine And.intro ?_ ?_)<;>first | omega | assumption | (skip))
  ·rw [List.drop_eq_nil_of_le (by omega),CP] at hz
   simp (disch:=omega)only[go_sem, *]
 ·simp (disch:=omega)only[go_sem, *]
theorem MF {P:AK→Bool}:∀ (L:List AK) (i:Int),0≤i→(0≤CP P L i↔L.any P=true)
 | [],i,hi=>by simp [CP]
 | a::l,i,hi=>by
  rw [CP]
  split
  ·rename_i h;simp [h,hi]
  ·rename_i h;rw [MF l (i+1) (by omega)];simp [h]
theorem aEb {L:List AK} {g:Nat} {caps:List V} {P:AK→Bool} {h0:AH} {K:V→AH→Prop} (hp:∀ x,x∈L→∀ K:V→AH→Prop,K (.b (P x)) h0→Cq tp g (.agg x.enc::caps) h0 K) (k:K (.b (L.any P)) h0):Cq tp W8 [.fl 2 (L.map AK.enc),.f (.func g) [] caps] h0 K:=by
 refine Ac aD0 (by simp [OB]) fun wf rp=>?_;unfold OB;simp (disch:=omega)only[go_sem, *]
 refine aEl hp ?_
 simp (disch:=omega)only[go_sem, *]
 have e:(decide (0≤CP P L 0))=L.any P:=by rw [Bool.eq_iff_iff];simp only [decide_eq_true_eq];exact MF L 0 (Int.le_refl _)
 rw [e];exact k
theorem Lq {α:Type} [Inhabited α] [DecidableEq α] {L M:List α} {i:Nat} (hl:L.length=M.length) (hi:i<L.length) (ht:L.take i=M.take i) (he:nth L i=nth M i):L.take (i+1)=M.take (i+1):=by
 rw [List.take_add_one,List.take_add_one,ht,E0 hi,E0 (by omega),he]
theorem VI {α:Type} [Inhabited α] {L M:List α} {i:Nat} (hi:i<L.length) (he:¬ nth L i=nth M i):¬ L=M:=by rintro rfl;exact he rfl
theorem Node.eq (a b:Node):a=b↔a.kind=b.kind∧a.part=b.part∧a.n=b.n:=by cases a;cases b;simp
theorem AK.eq (a b:AK):a=b↔a.part=b.part∧a.n=b.n:=by cases a;cases b;simp
theorem Bd.eq (a b:Bd):a=b↔a.entry=b.entry∧a.prio=b.prio:=by cases a;cases b;simp
theorem A1.eq (a b:A1):a=b↔a.src=b.src∧a.dst=b.dst∧a.queue=b.queue∧a.cap=b.cap∧a.top=b.top∧a.late=b.late:=by cases a;cases b;simp
theorem Part.eq (a b:Part):a=b↔a.name=b.name∧a.budget=b.budget∧a.period=b.period∧a.sched=b.sched∧a.stop=b.stop∧a.procs=b.procs∧a.h0=b.h0∧a.h1=b.h1∧a.h2=b.h2∧a.h3=b.h3∧a.h4=b.h4:=by cases a;cases b;simp
end Go.Ab.T
namespace Go.Ab.T
open Go Go.Ab
set_option maxHeartbeats 1000000
@[irreducible] def G8 (n m:Int):Bool:=decide (0≤n∧n≤m)
theorem IQ {n m:Int}:Pf tp KJ [.i .i64 n,.i .i64 m] (.b (G8 n m)):=by
 refine AE aDY (by simp [Oz]) fun rp=>?_;unfold Oz;simp (disch:=omega)only[go_sem, *]
 repeat' (first | (refine Av (fun hc=>?_) (fun hc=>?_)<;>simp (disch:=omega)only[go_sem, *]) | (refine Aa (fun hc=>?_) (fun hc=>?_)<;>simp (disch:=omega)only[go_sem, *]) | (refine Cw (fun hc=>?_) (fun hc=>?_)<;>simp (disch:=omega)only[go_sem, *]) | (refine Bh (fun hc=>?_) (fun hc=>?_)<;>simp (disch:=omega)only[go_sem, *]))
 all_goals (simp only [G8];grind)
def Dv (x:Bd):Bool:=decide (0≤x.entry∧x.entry≤511∧0≤x.prio∧x.prio≤255)
@[irreducible] def BO (L:List Bd):Bool:=L.all Dv&&decide (1≤L.length∧L.length≤3)
theorem U6 {α:Type} [Inhabited α] {L:List α} {P:α→Bool} {i:Nat} (hi:i<L.length) (h:P (nth L i)=false):L.all P=false:=by
 rw [List.all_eq_false];exact ⟨_,AP hi,by simp [h]⟩
theorem Me {α:Type} [Inhabited α] {L:List α} {P:α→Bool} {i:Nat} (hi:i<L.length) (h:P (nth L i)=true):(L.drop i).all P=(L.drop (i+1)).all P:=by
 rw [AI hi,List.all_cons,h,Bool.true_and]
theorem XV {L:List Bd}:Pf tp W6 [.fl 2 (L.map Bd.enc)] (.b (BO L)):=by
 refine AE aDX (by simp [Oy]) fun rp=>?_;unfold Oy;simp (disch:=omega)only[go_sem, *]
 have hL:=rp.head.len
 refine Ah (fun n e h=>∃ (i:Nat),n=L.length - i∧h.lim=0∧e 5=.fl 2 (L.map Bd.enc)∧e 6=.i .i64 L.length∧e 7=.i .i64 i∧e 0=.fl 2 (L.map Bd.enc)∧i≤L.length∧L.all Dv=(L.drop i).all Dv) ?_ _ _ _ ⟨0,rfl, ?_⟩
 ·rintro n e h ⟨i,rfl,hl,e5,e6,e7,e0,hi,hz⟩ ih
  rw [Am nU.eq_1]
  simp (disch:=omega)only[go_sem, *]
  refine Aa (fun hc=>?_) (fun hc=>?_)
  ·simp (disch:=omega)only[go_sem, *]
   repeat' (first | (refine Av (fun hc=>?_) (fun hc=>?_)<;>simp (disch:=omega)only[go_sem, *]) | (refine Aa (fun hc=>?_) (fun hc=>?_)<;>simp (disch:=omega)only[go_sem, *]) | (refine Cw (fun hc=>?_) (fun hc=>?_)<;>simp (disch:=omega)only[go_sem, *]) | (refine Bh (fun hc=>?_) (fun hc=>?_)<;>simp (disch:=omega)only[go_sem, *]) | (refine Pf.go (IQ) (by simp only [go_sem]) fun _=>?_;simp (disch:=omega)only[go_sem, *]))
   all_goals
    try
     have hn:Dv (nth L i)=false:=by (simp only [Dv,G8] at *;grind)
     have:=U6 (by omega) hn
     simp only [BO,this];rfl
   have hp:Dv (nth L i)=true:=by (simp only [Dv,G8] at *;grind)
   refine ih _ _ _ ?_ ⟨i+1,rfl, ?_⟩
   ·omega
   ·simp (disch:=omega)only[go_sem, *]
    ((repeat' refine And.intro ?_ ?_)<;>first | omega | assumption | (exact Me (by omega) hp))
  ·rw [List.drop_eq_nil_of_le (by omega),List.all_nil] at hz
   simp (disch:=omega)only[go_sem, *]
   repeat' (first | (refine Av (fun hc=>?_) (fun hc=>?_)<;>simp (disch:=omega)only[go_sem, *]) | (refine Aa (fun hc=>?_) (fun hc=>?_)<;>simp (disch:=omega)only[go_sem, *]) | (refine Cw (fun hc=>?_) (fun hc=>?_)<;>simp (disch:=omega)only[go_sem, *]) | (refine Bh (fun hc=>?_) (fun hc=>?_)<;>simp (disch:=omega)only[go_sem, *]))
   all_goals (simp only [BO,hz];grind)
 ·simp (disch:=omega)only[go_sem, *]
/-! ### Names -/
def bt (s:ByteArray) (i:Nat):Int:=((s.data.toList.getD i 0).toNat:Int)
def OP (i:Nat) (c:Int):Bool:=decide ((97≤c∧c≤122)∨(i≠0∧((48≤c∧c≤57)∨c=95)))
@[irreducible] def D3 (s:ByteArray):Bool:=decide ((∀ i,i<s.size→OP i (bt s i)=true)∧1≤s.size∧s.size≤12)
theorem MS {s:ByteArray} {i:Nat} (hi:i<s.size) (h:OP i (bt s i)=false):D3 s=false:=by
 simp only [D3,decide_eq_false_iff_not]
 intro hh;rw [hh.1 i hi] at h;cases h
theorem KQ {s:ByteArray} (h:∀ j,j<s.size→OP j (bt s j)=true):D3 s=decide (1≤s.size∧s.size≤12):=by
 simp only [D3];congr 1;exact propext ⟨fun hh=>hh.2,fun hh=>⟨h,hh⟩⟩
theorem RE {s:ByteArray} {i:Nat} (h:∀ j,j<i→OP j (bt s j)=true) (h1:OP i (bt s i)=true):∀ j,j<i+1→OP j (bt s j)=true:=fun j hj=>by
 by_cases e:j=i
 ·rw [e];exact h1
 ·exact h j (by omega)
@[go_sem] theorem QU {s:ByteArray} {i:Nat}:(↑(UInt8.toNat (s.data.toList.getD i 0)):Int)=bt s i:=Ak rfl
theorem Vp {s:ByteArray} (hs:s.size<4000000000):Pf tp WM [.s s] (.b (D3 s)):=by
 refine AE aDJ (by simp [Oe]) fun rp=>?_;unfold Oe;simp (disch:=omega)only[go_sem, *]
 refine Ah (fun n e h=>∃ (i:Nat),n=s.size - i∧h.lim=0∧e 0=.s s∧e 7=.i .i64 s.size∧e 8=.i .i64 i∧i≤s.size∧∀ j,j<i→OP j (bt s j)=true) ?_ _ _ _ ⟨0,rfl, ?_⟩
 ·rintro n e h ⟨i,rfl,hl,e0,e7,e8,hi,hz⟩ ih
  rw [Am nO.eq_1]
  simp (disch:=omega)only[go_sem, *]
  refine Aa (fun hc=>?_) (fun hc=>?_)
  ·simp (disch:=omega)only[go_sem, *,QU]
   repeat' (first | (refine Av (fun hc=>?_) (fun hc=>?_)<;>simp (disch:=omega)only[go_sem, *]) | (refine Aa (fun hc=>?_) (fun hc=>?_)<;>simp (disch:=omega)only[go_sem, *]) | (refine Cw (fun hc=>?_) (fun hc=>?_)<;>simp (disch:=omega)only[go_sem, *]) | (refine Bh (fun hc=>?_) (fun hc=>?_)<;>simp (disch:=omega)only[go_sem, *]))
   all_goals
    try
     have hn:OP i (bt s i)=false:=by (simp only [OP] at *;grind)
     exact (MS (by omega) hn).symm
   all_goals
    have hp:OP i (bt s i)=true:=by (simp only [OP] at *;grind)
    refine ih _ _ _ ?_ ⟨i+1,rfl, ?_⟩
    ·omega
    ·simp (disch:=omega)only[go_sem, *]
     ((repeat' refine And.intro ?_ ?_)<;>first | omega | assumption | (exact RE hz hp))
  ·have hy:=KQ (s:=s) (fun j hj=>hz j (by omega))
   clear hz
   simp (disch:=omega)only[go_sem, *]
   repeat' (first | (refine Av (fun hc=>?_) (fun hc=>?_)<;>simp (disch:=omega)only[go_sem, *]) | (refine Aa (fun hc=>?_) (fun hc=>?_)<;>simp (disch:=omega)only[go_sem, *]) | (refine Cw (fun hc=>?_) (fun hc=>?_)<;>simp (disch:=omega)only[go_sem, *]) | (refine Bh (fun hc=>?_) (fun hc=>?_)<;>simp (disch:=omega)only[go_sem, *]))
   all_goals grind
 ·simp (disch:=omega)only[go_sem, *]
  ((repeat' refine And.intro ?_ ?_)<;>first | omega | assumption | ((intro j hj;omega)))
theorem Ya {s:ByteArray} (hs:s.size<4000000000):Pf tp W0 [.s s] (.b (D3 s)):=by
 refine AE aDS (by simp [Ot]) fun rp=>?_;unfold Ot;simp (disch:=omega)only[go_sem, *]
 refine Ah (fun n e h=>∃ (i:Nat),n=s.size - i∧h.lim=0∧e 0=.s s∧e 3=.i .i64 i∧i≤s.size∧∀ j,j<i→OP j (bt s j)=true) ?_ _ _ _ ⟨0,rfl, ?_⟩
 ·rintro n e h ⟨i,rfl,hl,e0,e3,hi,hz⟩ ih
  rw [Am nQ.eq_1]
  simp (disch:=omega)only[go_sem, *]
  refine Aa (fun hc=>?_) (fun hc=>?_)
  ·simp (disch:=omega)only[go_sem, *,QU]
   repeat' (first | (refine Av (fun hc=>?_) (fun hc=>?_)<;>simp (disch:=omega)only[go_sem, *]) | (refine Aa (fun hc=>?_) (fun hc=>?_)<;>simp (disch:=omega)only[go_sem, *]) | (refine Cw (fun hc=>?_) (fun hc=>?_)<;>simp (disch:=omega)only[go_sem, *]) | (refine Bh (fun hc=>?_) (fun hc=>?_)<;>simp (disch:=omega)only[go_sem, *]))
   all_goals
    try
     have hn:OP i (bt s i)=false:=by (simp only [OP] at *;grind)
     exact (MS (by omega) hn).symm
   all_goals
    have hp:OP i (bt s i)=true:=by (simp only [OP] at *;grind)
    refine ih _ _ _ ?_ ⟨i+1,rfl, ?_⟩
    ·omega
    ·simp (disch:=omega)only[go_sem, *]
     ((repeat' refine And.intro ?_ ?_)<;>first | omega | assumption | (exact RE hz hp))
  ·have hy:=KQ (s:=s) (fun j hj=>hz j (by omega))
   clear hz
   simp (disch:=omega)only[go_sem, *]
   repeat' (first | (refine Av (fun hc=>?_) (fun hc=>?_)<;>simp (disch:=omega)only[go_sem, *]) | (refine Aa (fun hc=>?_) (fun hc=>?_)<;>simp (disch:=omega)only[go_sem, *]) | (refine Cw (fun hc=>?_) (fun hc=>?_)<;>simp (disch:=omega)only[go_sem, *]) | (refine Bh (fun hc=>?_) (fun hc=>?_)<;>simp (disch:=omega)only[go_sem, *]))
   all_goals grind
 ·simp (disch:=omega)only[go_sem, *]
  ((repeat' refine And.intro ?_ ?_)<;>first | omega | assumption | ((intro j hj;omega)))
/-! ### Parts, channels -/
def EW (x:Part):Bool:=decide (0≤x.h0∧x.h0≤2∧0≤x.h1∧x.h1≤2∧0≤x.h2∧x.h2≤2∧0≤x.h3∧x.h3≤2∧0≤x.h4∧x.h4≤2)
def Li (b p:Int):Bool:=decide ((b=0∧p=0)∨(1≤b∧b≤4096∧b≤p∧p≤4096))
@[irreducible] def Dt (x:Part):Bool:=BO x.procs&&EW x&&Li x.budget x.period
theorem Vv {x:Part}:Pf tp WP [.agg x.enc] (.b (Dt x)):=by
 refine AE aDM (by simp [Oi]) fun rp=>?_;unfold Oi;simp (disch:=omega)only[go_sem, *]
 iterate 6
  all_goals
   try
    refine BH ?_
    rw [Am nP.eq_1]
    simp (disch:=omega)only[go_sem, *]
    try repeat' (first | (refine Av (fun hc=>?_) (fun hc=>?_)<;>simp (disch:=omega)only[go_sem, *]) | (refine Aa (fun hc=>?_) (fun hc=>?_)<;>simp (disch:=omega)only[go_sem, *]) | (refine Cw (fun hc=>?_) (fun hc=>?_)<;>simp (disch:=omega)only[go_sem, *]) | (refine Bh (fun hc=>?_) (fun hc=>?_)<;>simp (disch:=omega)only[go_sem, *]))
 all_goals try (simp only [Dt,EW];grind)
 repeat' (first | (refine Av (fun hc=>?_) (fun hc=>?_)<;>simp (disch:=omega)only[go_sem, *]) | (refine Aa (fun hc=>?_) (fun hc=>?_)<;>simp (disch:=omega)only[go_sem, *]) | (refine Cw (fun hc=>?_) (fun hc=>?_)<;>simp (disch:=omega)only[go_sem, *]) | (refine Bh (fun hc=>?_) (fun hc=>?_)<;>simp (disch:=omega)only[go_sem, *]) | (refine Pf.go (XV) (by simp only [go_sem]) fun _=>?_;simp (disch:=omega)only[go_sem, *]))
 all_goals (simp only [Dt,EW,Li];grind)
@[irreducible] def CG (n:Int) (x:A1):Bool:=decide (0≤x.src∧x.src<n∧0≤x.dst∧x.dst<n∧x.src≠x.dst∧0≤x.late∧x.late≤4096)&&(if x.queue=true then decide (1≤x.cap∧x.cap≤8) else decide (x.cap=0))
theorem Vf {c:An} {x:A1}:Pf tp WR [.agg c.enc,.agg x.enc] (.b (CG c.parts.length x)):=by
 refine AE aDN (by simp [Oj]) fun rp=>?_;unfold Oj;simp (disch:=omega)only[go_sem, *]
 have hL:=rp.head.agg.head.len
 repeat' (first | (refine Av (fun hc=>?_) (fun hc=>?_)<;>simp (disch:=omega)only[go_sem, *]) | (refine Aa (fun hc=>?_) (fun hc=>?_)<;>simp (disch:=omega)only[go_sem, *]) | (refine Cw (fun hc=>?_) (fun hc=>?_)<;>simp (disch:=omega)only[go_sem, *]) | (refine Bh (fun hc=>?_) (fun hc=>?_)<;>simp (disch:=omega)only[go_sem, *]) | (refine Pf.go (IQ) (by simp only [go_sem]) fun _=>?_;simp (disch:=omega)only[go_sem, *]))
 all_goals (simp only [CG,G8] at *;grind)
theorem X4 {n:Int} {x:A1}:Pf tp W3 [.agg x.enc,.i .i64 n] (.b (CG n x)):=by
 refine AE aDU (by simp [Ov]) fun rp=>?_;unfold Ov;simp (disch:=omega)only[go_sem, *]
 repeat' (first | (refine Av (fun hc=>?_) (fun hc=>?_)<;>simp (disch:=omega)only[go_sem, *]) | (refine Aa (fun hc=>?_) (fun hc=>?_)<;>simp (disch:=omega)only[go_sem, *]) | (refine Cw (fun hc=>?_) (fun hc=>?_)<;>simp (disch:=omega)only[go_sem, *]) | (refine Bh (fun hc=>?_) (fun hc=>?_)<;>simp (disch:=omega)only[go_sem, *]))
 all_goals (simp only [CG] at *;grind)
theorem Th {L:List Bd} (h:L.length<1∨3<L.length):BO L=false:=by simp only [BO];grind
theorem Yh {x:Part}:Pf tp W2 [.agg x.enc] (.b (Dt x)):=by
 refine AE aDT (by simp [Ou]) fun rp=>?_;unfold Ou;simp (disch:=omega)only[go_sem, *]
 have hL:=FZ.len (rp.head.agg _ (by simp [Part.enc]):FZ (.fl 2 (x.procs.map Bd.enc)))
 repeat' (first | (refine Av (fun hc=>?_) (fun hc=>?_)<;>simp (disch:=omega)only[go_sem, *]) | (refine Aa (fun hc=>?_) (fun hc=>?_)<;>simp (disch:=omega)only[go_sem, *]) | (refine Cw (fun hc=>?_) (fun hc=>?_)<;>simp (disch:=omega)only[go_sem, *]) | (refine Bh (fun hc=>?_) (fun hc=>?_)<;>simp (disch:=omega)only[go_sem, *]))
 iterate 2
  (rw [Dt,Th (by omega)];rfl)
 refine Ah (fun n e h=>∃ (i:Nat),n=x.procs.length - i∧h.lim=0∧e 18=.fl 2 (x.procs.map Bd.enc)∧e 19=.i .i64 x.procs.length∧e 20=.i .i64 i∧e 1=.p 0 0 0∧i≤x.procs.length∧h.get 0=some ⟨11,[x.enc]⟩∧1≤h.next∧x.procs.all Dv=(x.procs.drop i).all Dv) ?_ _ _ _ ⟨0,rfl, ?_⟩
 ·rintro n e h ⟨i,rfl,hl,e18,e19,e20,e1,hi,hg,hn,hz⟩ ih
  rw [Am nR.eq_1]
  simp (disch:=omega)only[go_sem, *]
  refine Aa (fun hc=>?_) (fun hc=>?_)
  ·simp (disch:=omega)only[go_sem, *]
   repeat' (first | (refine Av (fun hc=>?_) (fun hc=>?_)<;>simp (disch:=omega)only[go_sem, *]) | (refine Aa (fun hc=>?_) (fun hc=>?_)<;>simp (disch:=omega)only[go_sem, *]) | (refine Cw (fun hc=>?_) (fun hc=>?_)<;>simp (disch:=omega)only[go_sem, *]) | (refine Bh (fun hc=>?_) (fun hc=>?_)<;>simp (disch:=omega)only[go_sem, *]))
   all_goals
    try
     have hn:Dv (nth x.procs i)=false:=by (simp only [Dv] at *;grind)
     have:=U6 (by omega) hn
     simp only [Dt,BO,this];rfl
   have hp:Dv (nth x.procs i)=true:=by (simp only [Dv] at *;grind)
   refine ih _ _ _ ?_ ⟨i+1,rfl, ?_⟩
   ·omega
   ·simp (disch:=omega)only[go_sem, *]
    ((repeat' refine And.intro ?_ ?_)<;>first | omega | assumption | (exact Me (by omega) hp))
  ·rw [List.drop_eq_nil_of_le (by omega),List.all_nil] at hz
   simp only [Part.enc] at hg
   have hp:BO x.procs=true:=by simp only [BO,hz];grind
   simp (disch:=omega)only[go_sem, *]
   iterate 6
    all_goals
     try
      refine BH ?_
      rw [Am Uu.eq_1]
      simp (disch:=omega)only[go_sem, *]
      try repeat' (first | (refine Av (fun hc=>?_) (fun hc=>?_)<;>simp (disch:=omega)only[go_sem, *]) | (refine Aa (fun hc=>?_) (fun hc=>?_)<;>simp (disch:=omega)only[go_sem, *]) | (refine Cw (fun hc=>?_) (fun hc=>?_)<;>simp (disch:=omega)only[go_sem, *]) | (refine Bh (fun hc=>?_) (fun hc=>?_)<;>simp (disch:=omega)only[go_sem, *]))
   all_goals (simp only [Dt,EW,Li,hp];grind)
 ·simp (disch:=omega)only[go_sem, *]
end Go.Ab.T
namespace Go.Ab.T
open Go Go.Ab
set_option maxHeartbeats 1000000
theorem An.eq (a b:An):a=b↔a.parts=b.parts∧a.chans=b.chans∧a.tables=b.tables:=by cases a;cases b;simp
end Go.Ab.T
namespace Go.Ab.T
open Go Go.Ab
theorem Ly {b:Nat} {h h1 h2:AH} {x v:V} (g:Grown b h1 x v h2) (e:Aq h h1) (hb:b≤h.next):Grown b h x v h2:=by
 have e1:=e.next;have g1:=g.next
 refine ⟨by omega,g.lim.trans e.lim,fun i hi=>by rw [g.low i hi,e.get i (by omega)],fun i hi hn=>by rw [g.get i (by omega) hn,e.get i hi], ?_,g.cell,g.cells⟩
 rcases g.own with h | h | h
 ·exact .inl h
 ·exact .inr (.inl h)
 ·exact .inr (.inr (by omega))
theorem CW {b sz:Nat} {h:AH} {v:V} {R:List (List V)} (s:Sl b h sz v R):AF v=true∨Ar v<h.next:=by
 rcases s with ⟨hv,_⟩ | ⟨i,el,cap,cs,rfl,_,_,_,_,h1,_,_⟩
 ·rcases hv with rfl | rfl<;>exact .inl rfl
 ·exact .inr h1
end Go.Ab.T
namespace Go.Ab.T
open Go Go.Ab
structure Place where
 at_:Nat
 left:Int
 deriving DecidableEq,Inhabited
@[go_sem] def Place.enc (p:Place):List V:=[.i .i64 p.at_,.i .i64 p.left]
structure Cs where
 S:List Place
 leaf:Nat
 gone:Int
 at_:Int
def dn (L:List Node) (a:Nat) (S:List Place):List Place×Nat:=
 if h:a<L.length then
  if (nth L a).kind=3∨(nth L a).kind=4 then dn L (a+1) (⟨a,(nth L a).n⟩::S) else (S,a)
 else (S,a)
termination_by L.length - a
def K3 (L:List Node) (next:Nat):List Place→List Place×Nat
 | []=>([],L.length)
 | p::r=>if 0<p.left - 1 then dn L (if (nth L p.at_).kind=4 then p.at_+1 else next) (⟨p.at_,p.left - 1⟩::r) else K3 L next r
def K4 (L:List Node) (next:Nat):List Place→Prop
 | []=>True
 | p::r=>p.at_<L.length∧1≤p.left∧p.left≤9223372036854775807∧(if 0<p.left - 1 then (dn L (if (nth L p.at_).kind=4 then p.at_+1 else next) (⟨p.at_,p.left - 1⟩::r)).2<L.length∧(dn L (if (nth L p.at_).kind=4 then p.at_+1 else next) (⟨p.at_,p.left - 1⟩::r)).1.length≤L.length else K4 L next r)
theorem Vy {L:List Node} {a:Nat} {S:List Place}:S.length≤(dn L a S).1.length:=by
 rw [dn]
 split
 ·split
  ·have:=Vy (L:=L) (a:=a+1) (S:=⟨a,(nth L a).n⟩::S)
   simp at this;omega
  ·simp
 ·simp
termination_by L.length - a
def lf (L:List Node) (c:Cs):Node:=nth L c.leaf
structure nD (L:List Node) (c:Cs):Prop where
 K3:K4 L (c.leaf+1) c.S
 gone:0≤c.gone∧c.gone<(lf L c).n∧(lf L c).n≤4611686018427387904
 at_:0≤c.at_∧c.at_≤4611686018427387903
def XG (L:List Node) (c:Cs):Cs:=⟨(K3 L (c.leaf+1) c.S).1,(K3 L (c.leaf+1) c.S).2,0,c.at_+((lf L c).n - c.gone)⟩
def oO (L:List Node) (c:Cs):Cs:=if c.gone+1=(lf L c).n then ⟨(K3 L (c.leaf+1) c.S).1,(K3 L (c.leaf+1) c.S).2,0,c.at_+1⟩ else ⟨c.S,c.leaf,c.gone+1,c.at_+1⟩
def FV (L:List Node) (sv:V) (c:Cs):BA:=⟨5,[[.fl 3 (L.map Node.enc),sv,.i .i64 c.leaf,.i .i64 c.gone,.i .i64 c.at_]]⟩
structure Dz (h:AH) (id:Nat) (sv:V) (L:List Node) (c:Cs):Prop where
 blk:h.get id=some (FV L sv c)
 stk:Sl (id+1) h 2 sv (c.S.reverse.map Place.enc)
 big:L.length<4000000000
 sbig:c.S.length≤L.length
 lo:h.lim≤id
 hi:id<h.next
structure BR (h:AH) (id:Nat) (sv:V) (h':AH) (sv':V):Prop where
 next:h.next≤h'.next
 lim:h'.lim=h.lim
 get:∀ i,i<h.next→i≠id→(AF sv=true∨i≠Ar sv)→h'.get i=h.get i
 own:AF sv'=true∨(AF sv=false∧Ar sv'=Ar sv)∨h.next≤Ar sv'
theorem BR.refl {h:AH} {id:Nat} {sv:V}:BR h id sv h sv:=⟨Nat.le_refl _,rfl,fun _ _ _ _=>rfl,by
 by_cases hs:AF sv=true
 ·exact .inl hs
 ·exact .inr (.inl ⟨by simpa using hs,rfl⟩)⟩
theorem BR.trans {h h1 h2:AH} {id:Nat} {sv s1 s2:V} (a:BR h id sv h1 s1) (b:BR h1 id s1 h2 s2):BR h id sv h2 s2:=by
 have an:=a.next;have bn:=b.next
 refine ⟨by omega,b.lim.trans a.lim,fun i hi hne hs=>?_, ?_⟩
 ·rw [b.get i (by omega) hne ?_,a.get i hi hne hs]
  rcases a.own with h1 | ⟨hn,h1⟩ | h1
  ·exact .inl h1
  ·rcases hs with hs | hs
   ·rw [hs] at hn;cases hn
   ·exact .inr (by rw [h1];exact hs)
  ·exact .inr (by omega)
 ·rcases b.own with h2 | ⟨hn,h2⟩ | h2
  ·exact .inl h2
  ·rcases a.own with h1 | ⟨hn1,h1⟩ | h1
   ·rw [h1] at hn;cases hn
   ·exact .inr (.inl ⟨hn1,h2.trans h1⟩)
   ·exact .inr (.inr (by omega))
  ·exact .inr (.inr (by omega))
theorem BR.ext {h h1 h2:AH} {id:Nat} {sv s1:V} (a:BR h id sv h1 s1) (b:Aq h1 h2):BR h id sv h2 s1:=by
 have an:=a.next;have bn:=b.next
 exact ⟨by omega,b.lim.trans a.lim,fun i hi hne hs=>by rw [b.get i (by omega),a.get i hi hne hs],a.own⟩
theorem Dz.ext {h h':AH} {id:Nat} {sv:V} {L:List Node} {c:Cs} (k:Dz h id sv L c) (x:Aq h h'):Dz h' id sv L c:=by
 have:=x.next
 exact ⟨by rw [x.get id k.hi];exact k.blk,k.stk.ext x,k.big,k.sbig,by rw [x.lim];exact k.lo,by have:=k.hi;omega⟩
theorem Dz.sne {h:AH} {id:Nat} {sv:V} {L:List Node} {c:Cs} (k:Dz h id sv L c):AF sv=true∨(id<Ar sv∧Ar sv<h.next):=by
 rcases k.stk with ⟨hv,_⟩ | ⟨i,el,cap,cs,rfl,_,_,_,_,h1,h2,_⟩
 ·rcases hv with rfl | rfl<;>exact .inl rfl
 ·exact .inr ⟨h2,h1⟩
theorem Dz.sne' {h:AH} {id:Nat} {sv:V} {L:List Node} {c:Cs} (k:Dz h id sv L c):AF sv=true∨id≠Ar sv:=by
 rcases k.sne with h | h
 ·exact .inl h
 ·exact .inr (by omega)
theorem Dz.put {h:AH} {id:Nat} {sv:V} {L:List Node} {c c':Cs} (k:Dz h id sv L c) (hS:c'.S=c.S):Dz (h.put id (FV L sv c')) id sv L c':=by
 refine ⟨by rw [Ae,Ax rfl], ?_,k.big,by rw [hS];exact k.sbig,k.lo,k.hi⟩
 rw [hS]
 rcases k.stk with ⟨hv,hR⟩ | ⟨i,el,cap,cs,rfl,hg,h1,h2,h3,h4,h5,h6⟩
 ·exact .inl ⟨hv,hR⟩
 ·exact .inr ⟨i,el,cap,cs,rfl,by rw [Ae,Ag (by omega)];exact hg,h1,h2,h3,h4,h5,h6⟩
theorem BR.put {h:AH} {id:Nat} {sv:V} {b:BA}:BR h id sv (h.put id b) sv:=by
 refine ⟨Nat.le_refl _,rfl,fun i hi hne hs=>by rw [Ae,Ag hne],(BR.refl (h:=h) (id:=id)).own⟩
theorem Dz.push {h h4:AH} {id:Nat} {sv w:V} {L:List Node} {c c':Cs} {p:Place} (k:Dz h id sv L c) (s4:Sl (id+1) h4 2 w (c.S.reverse.map Place.enc++[p.enc])) (a4:Grown (id+1) h sv w h4) (hS:c'.S=p::c.S) (hl:c'.S.length≤L.length):Dz (h4.put id (FV L w c')) id w L c':=by
 have hn:=a4.next;have hi:=k.hi;have:=k.lo
 refine ⟨by rw [Ae,Ax rfl], ?_,k.big,hl, ?_, ?_⟩
 ·rw [hS]
  rcases s4 with ⟨hv,hR⟩ | ⟨i,el,cap,cs,hw,hg,h1,h2,h3,q4,h5,h6⟩
  ·simp at hR
  ·refine Sl.same (h:=h4) (.inr ⟨i,el,cap,cs,by simpa using hw,hg,h1,by simpa using h2,by simpa using h3,q4,h5,by simpa using h6⟩) (Nat.le_refl _) (fun _=>?_)
   rw [Ae,Ag (by rw [hw];simp only [Ar];omega)]
 ·rw [Eb,a4.lim];exact k.lo
 ·rw [Ai];omega
theorem BR.push {h h4:AH} {id:Nat} {sv w:V} {b:BA} (a4:Grown (id+1) h sv w h4):BR h id sv (h4.put id b) w:=
 ⟨a4.next,a4.lim,fun i hi hne hs=>by rw [Ae,Ag hne];exact a4.get i hi hs,a4.own⟩
set_option maxHeartbeats 1000000
theorem Lo {h : AH} {id : Nat} {sv : V} {L : List Node} {c : Cs} {a : Nat} {K : V → AH → Prop} (k : Dz h id sv L c) (hd : (dn L a c.S).2 < L.length) (hl : (dn L a c.S).1.length ≤ L.length)
    (kk:∀ sv' h',Dz h' id sv' L ⟨(dn L a c.S).1,(dn L a c.S).2,c.gone,c.at_⟩→BR h id sv h' sv'→K (.tup []) h'):Cq tp I7 [.p id 0 0,.i .i64 a] h K:=by
 refine Ac eY (by simp [JT]) fun wf rp=>?_;unfold JT;simp (disch:=omega)only[go_sem, *]
 refine Ah (fun n e h'=>∃ (b:Nat) (S:List Place) (sv':V),n=L.length - b∧e 0=.p id 0 0∧e 1=.i .i64 b∧Dz h' id sv' L ⟨S,c.leaf,c.gone,c.at_⟩∧BR h id sv h' sv'∧dn L b S=dn L a c.S) ?_ _ _ _ ⟨a,c.S,sv,rfl, ?_⟩
 ·rintro n e h' ⟨b,S,sv',rfl,e0,e1,k',f',hz⟩ ih
  have k0:=k'
  obtain ⟨kb,ks,kbig,ksb,klo,khi⟩:=k'
  simp only [FV] at kb
  have hb:b<L.length:=by
   rw [← hz] at hd
   rw [dn] at hd
   split at hd
   ·assumption
   ·exact hd
  rw [dn,dif_pos hb] at hz
  rw [Am T3.eq_1]
  have tail:(nth L b).kind=3∨(nth L b).kind=4→dn L (b+1) (⟨b,(nth L b).n⟩::S)=dn L a c.S:=fun hk=>by rw [← hz,if_pos hk]
  have stop:¬ ((nth L b).kind=3∨(nth L b).kind=4)→(S,b)=dn L a c.S:=fun hk=>by rw [← hz,if_neg hk]
  have kl:=Vy (L:=L) (a:=b+1) (S:=⟨b,(nth L b).n⟩::S)
  simp (disch:=omega)only[go_sem, *]
  refine Av (fun hc=>?_) (fun hc=>?_)
  ·simp (disch:=omega)only[go_sem, *]
   have ht:=tail (.inl hc)
   rw [ht] at kl
   simp only [List.length_cons] at kl
   have nsid:=k0.sne'
   refine AA (ks.alloc _) (by simp only [A9];omega) (by simp only [Af];omega) (by simp;omega) ?_
   intro w h4 s4 a4
   have a4:=Ly a4 ((Aq.refl h').alloc _) (by omega)
   have hn4:=a4.next
   have hl4:=a4.lim
   have hc4:=a4.cells
   have hd4:=a4.cell
   have hb4:=a4.get id khi nsid
   rw [kb] at hb4
   simp (disch:=omega)only[go_sem, *]
   refine ih _ _ _ ?_ ⟨b+1,⟨b,(nth L b).n⟩::S,w,rfl, ?_⟩
   ·omega
   ·simp (disch:=omega)only[go_sem, *]
    exact ⟨Dz.push (p:=⟨b,(nth L b).n⟩) (c':=⟨⟨b,(nth L b).n⟩::S,c.leaf,c.gone,c.at_⟩) k0 s4 a4 rfl (by simp;omega),f'.trans (BR.push a4)⟩
  ·simp (disch:=omega)only[go_sem, *]
   refine Aa (fun hc2=>?_) (fun hc2=>?_)
   ·simp (disch:=omega)only[go_sem, *]
    have ht:=tail (.inr hc2)
    rw [ht] at kl
    simp only [List.length_cons] at kl
    have nsid:=k0.sne'
    refine AA (ks.alloc _) (by simp only [A9];omega) (by simp only [Af];omega) (by simp;omega) ?_
    intro w h4 s4 a4
    have a4:=Ly a4 ((Aq.refl h').alloc _) (by omega)
    have hn4:=a4.next
    have hl4:=a4.lim
    have hc4:=a4.cells
    have hd4:=a4.cell
    have hb4:=a4.get id khi nsid
    rw [kb] at hb4
    simp (disch:=omega)only[go_sem, *]
    refine ih _ _ _ ?_ ⟨b+1,⟨b,(nth L b).n⟩::S,w,rfl, ?_⟩
    ·omega
    ·simp (disch:=omega)only[go_sem, *]
     exact ⟨Dz.push (p:=⟨b,(nth L b).n⟩) (c':=⟨⟨b,(nth L b).n⟩::S,c.leaf,c.gone,c.at_⟩) k0 s4 a4 rfl (by simp;omega),f'.trans (BR.push a4)⟩
   ·have hst:=stop (by omega)
    simp (disch:=omega)only[go_sem, *]
    refine kk sv' _ ?_ (f'.trans BR.put)
    rw [← hst]
    exact Dz.put (c':=⟨S,b,c.gone,c.at_⟩) k0 rfl
 ·simp (disch:=omega)only[go_sem, *]
  exact BR.refl
end Go.Ab.T
namespace Go.Ab.T
open Go Go.Ab
namespace Fo
def hd:Fo→Fo
 | nil=>nil
 | leaf x _=>leaf x nil
 | seq x k _=>seq x k nil
 | rep x k _=>rep x k nil
def tl:Fo→Fo
 | nil=>nil
 | leaf _ r=>r
 | seq _ _ r=>r
 | rep _ _ r=>r
theorem flat_hd:∀ (f:Fo),f.flat=f.hd.flat++f.tl.flat
 | nil=>rfl
 | leaf _ _=>by simp [flat,hd,tl]
 | seq _ _ _=>by simp [flat,hd,tl]
 | rep _ _ _=>by simp [flat,hd,tl]
theorem runs_hd:∀ (f:Fo),f.runs=f.hd.runs++f.tl.runs
 | nil=>rfl
 | leaf _ _=>by simp [runs,hd,tl]
 | seq _ _ _=>by simp [runs,hd,tl]
 | rep _ _ _=>by simp [runs,hd,tl]
theorem count_tl:∀ (f:Fo),0<f.count→f.tl.count+1=f.count
 | nil,h=>by simp [count] at h
 | leaf _ _,_=>rfl
 | seq _ _ _,_=>rfl
 | rep _ _ _,_=>rfl
theorem ok_tl:∀ (f:Fo),f.ok→f.tl.ok
 | nil,_=>trivial
 | leaf _ _,h=>h.2
 | seq _ _ _,h=>h.2.2.2.2
 | rep _ _ _,h=>h.2.2.2.2
theorem len_tl:∀ (f:Fo),f.ok→f.tl.len≤f.len
 | nil,_=>by simp [tl]
 | leaf x r,ho=>by
  have:=Ct (x:=x) (by rw [ho.1];omega)
  simp only [tl,len];omega
 | seq x k r,ho=>by
  have:=(len_pos k ho.2.2.2.1).1
  simp only [tl,len];omega
 | rep x k r,ho=>by
  have:=Nb ho
  simp only [tl,len];omega
theorem hd_of_one {f:Fo} (h:f.count=1):f.hd=f:=by
 cases f<;>simp [count] at h<;>simp [hd,nil_of h]
end Fo
def Aw:List AK→Int
 | []=>0
 | r::l=>r.n+Aw l
theorem B7:∀ (a b:List AK),Aw (a++b)=Aw a+Aw b
 | [],b=>by simp [Aw]
 | r::l,b=>by simp only [List.cons_append,Aw,B7 l b];omega
theorem JC (l:List AK):∀ (m:Nat),Aw (List.replicate m l).flatten=m*Aw l
 | 0=>by simp [Aw]
 | m+1=>by rw [List.replicate_succ,List.flatten_cons,B7,JC l m,Int.natCast_add,Int.add_mul];simp;omega
theorem Fo.runs_sum:∀ (f:Fo),f.ok→Aw f.runs=f.len
 | .nil,_=>rfl
 | .leaf x r,ho=>by simp only [Fo.runs,Fo.len,Aw,Fo.runs_sum r ho.2]
 | .seq x k r,ho=>by simp only [Fo.runs,Fo.len,B7,Fo.runs_sum k ho.2.2.2.1,Fo.runs_sum r ho.2.2.2.2]
 | .rep x k r,ho=>by
  have hn:=Ct (x:=x) (by rw [ho.2.1];omega)
  simp only [Fo.runs,Fo.len,B7,JC,Fo.runs_sum k ho.2.2.2.1,Fo.runs_sum r ho.2.2.2.2]
  rw [Int.toNat_of_nonneg (by omega)]
inductive Z (L:List Node):List Place→Nat→List AK→Prop where
 | nil (n:Nat):Z L [] n []
 | seq (a:Nat) (S:List Place) (n:Nat) (g:Fo) (R:List Node) (l:List AK):(nth L a).kind=3→a<n→a<L.length→S.length≤a→g.ok→g.count≤128→g.len≤4611686018427387904→L.drop n=g.flat++R→Z L S (n+g.flat.length) l→Z L (⟨a,(g.count:Int)+1⟩::S) n (g.runs++l)
 | rep (a:Nat) (S:List Place) (k:Fo) (R:List Node) (m:Nat) (l:List AK):(nth L a).kind=4→a<L.length→S.length≤a→k.ok→k.count=1→m+1≤4611686018427387904→k.len≤4611686018427387904→L.drop (a+1)=k.flat++R→Z L S (a+1+k.flat.length) l→Z L (⟨a,(m:Int)+1⟩::S) (a+1+k.flat.length) ((List.replicate m k.runs).flatten++l)
def D (L:List Node) (q:List Place×Nat) (l:List AK):Prop:=q.2<L.length∧q.1.length≤q.2∧kids (nth L q.2)=0∧(nth L q.2).n≤4611686018427387904∧∃ l',Z L q.1 (q.2+1) l'∧l=⟨C2 (nth L q.2),(nth L q.2).n⟩::l'
theorem GG {L:List Node}:∀ (f:Fo) (a:Nat) (S:List Place) (l:List AK) (R:List Node),f.ok→0<f.count→f.len≤4611686018427387904→S.length≤a→L.drop a=f.flat++R→Z L S (a+f.hd.flat.length) l→D L (dn L a S) (f.hd.runs++l)
 | .nil,a,S,l,R,ho,hc,hln,hs,hd,hz=>by simp [Fo.count] at hc
 | .leaf x r,a,S,l,R,ho,hc,hln,hs,hd,hz=>by
  have hd':L.drop a=x::(r.flat++R):=hd
  have hx:=B2 hd'
  have ha:=(AL hd').1
  have hk:=EX x (by rw [ho.1];omega)
  rw [ho.1] at hk
  rw [dn,dif_pos ha,hx,if_neg (by omega)]
  have hlr:=(Fo.len_pos r ho.2).1
  simp only [Fo.len] at hln
  refine ⟨ha,hs,by rw [hx];exact ho.1,by rw [hx];omega,l,hz,by rw [hx];rfl⟩
 | .seq x k r,a,S,l,R,ho,hc,hln,hs,hd,hz=>by
  have hd':L.drop a=x::(k.flat++(r.flat++R)):=by rw [hd];simp [Fo.flat]
  have hx:=B2 hd'
  have ha:=(AL hd').1
  obtain ⟨h3,hk,hp,hok,hor⟩:=ho
  have hlr:=(Fo.len_pos r hor).1
  simp only [Fo.len] at hln
  rw [dn,dif_pos ha,hx,if_pos (.inl h3)]
  have hd2:=(AL hd').2
  have hct:=Fo.count_tl k hp
  have hkb:=GI x
  have hxn:x.n=(k.tl.count:Int)+1:=by
   have:=(Jd x (by omega)).1 h3;omega
  have hfl:=congrArg List.length (Fo.flat_hd k)
  simp only [List.length_append] at hfl
  rw [show (Fo.seq x k r).hd.runs++l=k.hd.runs++(k.tl.runs++l) by rw [← List.append_assoc,←Fo.runs_hd];simp [Fo.hd,Fo.runs]]
  refine GG k (a+1) _ _ _ hok hp (by omega) (by simp;omega) hd2 ?_
  rw [hxn]
  refine Z.seq a S _ k.tl (r.flat++R) l (by rw [hx];exact h3) (by omega) ha hs (Fo.ok_tl k hok) (by omega) (by have:=Fo.len_tl k hok;omega) ?_ ?_
  ·rw [Fo.flat_hd k,List.append_assoc] at hd2
   exact CI hd2
  ·have:a+1+k.hd.flat.length+k.tl.flat.length=a+(Fo.seq x k r).hd.flat.length:=by
    show _=a+(x::(k.flat++[])).length
    simp;omega
   rw [this];exact hz
 | .rep x k r,a,S,l,R,ho,hc,hln,hs,hd,hz=>by
  have hd':L.drop a=x::(k.flat++(r.flat++R)):=by rw [hd];simp [Fo.flat]
  have hx:=B2 hd'
  have ha:=(AL hd').1
  have hrn:=Nb ho
  obtain ⟨h4,hk,hp,hok,hor⟩:=ho
  have hlr:=(Fo.len_pos r hor).1
  simp only [Fo.len] at hln
  have hm1:x.n*1≤x.n*k.len:=Int.mul_le_mul_of_nonneg_left hrn.2.1 (by omega)
  have hm2:1*k.len≤x.n*k.len:=Int.mul_le_mul_of_nonneg_right hrn.1 (by omega)
  have hm3:x.n≤4611686018427387904:=by rw [Int.mul_one] at hm1;omega
  rw [dn,dif_pos ha,hx,if_pos (.inr h4)]
  have hd2:=(AL hd').2
  obtain ⟨m,hm⟩:∃ m:Nat,x.n=(m:Int)+1:=⟨(x.n - 1).toNat,by omega⟩
  have h1:=Fo.hd_of_one hp
  rw [show (Fo.rep x k r).hd.runs++l=k.hd.runs++((List.replicate m k.runs).flatten++l) by
   rw [h1,←List.append_assoc];simp only [Fo.hd,Fo.runs,List.append_nil]
   rw [show x.n.toNat=m+1 by omega,List.replicate_succ,List.flatten_cons]]
  refine GG k (a+1) _ _ _ hok (by omega) (by omega) (by simp;omega) hd2 ?_
  rw [hm,h1]
  refine Z.rep a S k (r.flat++R) m l (by rw [hx];exact h4) ha hs hok hp (by rw [hm] at hm3;omega) (by omega) hd2 ?_
  have:a+1+k.flat.length=a+(Fo.rep x k r).hd.flat.length:=by
   show _=a+(x::(k.flat++[])).length
   simp;omega
  rw [this];exact hz
theorem aEY {L:List Node} {S:List Place} {n:Nat} {l:List AK} (z:Z L S n l):K4 L n S∧((l=[]∧K3 L n S=([],L.length))∨D L (K3 L n S) l):=by
 induction z with
 | nil n=>exact ⟨trivial,.inl ⟨rfl,rfl⟩⟩
 | seq a S n g R l hk han hal hs hg hgc hgl hd hz ih=>
  by_cases hc:0<g.count
  ·have hct:=Fo.count_tl g hc
   have hfl:=congrArg List.length (Fo.flat_hd g)
   simp only [List.length_append] at hfl
   have hD:D L (dn L n (⟨a,(g.count:Int)⟩::S)) (g.runs++l):=by
    rw [Fo.runs_hd,List.append_assoc]
    refine GG g n _ _ R hg hc hgl (by simp;omega) hd ?_
    have hd2:=hd
    rw [Fo.flat_hd g,List.append_assoc] at hd2
    have:=Z.seq a S (n+g.hd.flat.length) g.tl R l hk (by omega) hal hs (Fo.ok_tl g hg) (by omega) (by have:=Fo.len_tl g hg;omega) (CI hd2) (by rw [Nat.add_assoc,←hfl];exact hz)
    rw [show ((g.tl.count:Int)+1)=g.count by omega] at this
    exact this
   have e:(g.count:Int)+1 - 1=g.count:=by omega
   refine ⟨⟨hal,by simp only;omega,by simp only;omega, ?_⟩,.inr ?_⟩
   ·simp only [e]
    rw [if_pos (by omega),if_neg (by omega)]
    exact ⟨hD.1,by have:=hD.1;have:=hD.2.1;omega⟩
   ·rw [K3]
    simp only [e]
    rw [if_pos (by omega),if_neg (by omega)]
    exact hD
  ·have h0:g=.nil:=Fo.nil_of (by omega)
   subst h0
   simp only [Fo.count,Fo.flat,Fo.runs,List.length_nil,Nat.add_zero,List.nil_append] at hz ih ⊢
   refine ⟨⟨hal,by simp,by simp, ?_⟩, ?_⟩
   ·rw [if_neg (by simp)];exact ih.1
   ·rw [K3,if_neg (by simp)];exact ih.2
 | rep a S k R m l hk hal hs hok hkc hm hkl hd hz ih=>
  cases m with
  | zero=>
   simp only [List.replicate_zero,List.flatten_nil,List.nil_append]
   refine ⟨⟨hal,by simp,by simp, ?_⟩, ?_⟩
   ·rw [if_neg (by simp)];exact ih.1
   ·rw [K3,if_neg (by simp)];exact ih.2
  | succ m=>
   have hD:D L (dn L (a+1) (⟨a,((m+1:Nat):Int)⟩::S)) ((List.replicate (m+1) k.runs).flatten++l):=by
    rw [List.replicate_succ,List.flatten_cons,List.append_assoc]
    have h1:=Fo.hd_of_one hkc
    conv=>arg 3;rw [← h1]
    refine GG k (a+1) _ _ R hok (by omega) hkl (by simp;omega) hd ?_
    rw [h1]
    have:=Z.rep a S k R m l hk hal hs hok hkc (by omega) hkl hd hz
    simpa using this
   have e:((m+1:Nat):Int)+1 - 1=((m+1:Nat):Int):=by omega
   refine ⟨⟨hal,by simp only;omega,by simp only;omega, ?_⟩,.inr ?_⟩
   ·simp only [e]
    rw [if_pos (by omega),if_pos hk]
    exact ⟨hD.1,by have:=hD.1;have:=hD.2.1;omega⟩
   ·rw [K3]
    simp only [e]
    rw [if_pos (by omega),if_pos hk]
    exact hD
structure RS (L:List Node) (c:Cs) (l:List AK):Prop where
 sb:c.S.length≤L.length
 at_:0≤c.at_∧c.at_+Aw l≤4096
 sum:0≤Aw l
 go:(l=[]∧c.leaf=L.length)∨(c.leaf<L.length∧kids (lf L c)=0∧0≤c.gone∧c.gone<(lf L c).n∧(lf L c).n≤4611686018427387904∧∃ l',Z L c.S (c.leaf+1) l'∧l=⟨C2 (lf L c),(lf L c).n - c.gone⟩::l')
theorem RS.nil {L:List Node} {c:Cs} (r:RS L c []):c.leaf=L.length:=by
 rcases r.go with h | ⟨_,_,_,_,_,l',_,h⟩
 ·exact h.2
 ·cases h
theorem D.rem {L:List Node} {q:List Place×Nat} {l:List AK} {a:Int} (d:D L q l) (ha:0≤a∧a+Aw l≤4096) (hp:0≤Aw l):RS L ⟨q.1,q.2,0,a⟩ l:=by
 obtain ⟨h1,h2,h3,hb,l',hz,hl⟩:=d
 have hn:=Ct (x:=nth L q.2) (by omega)
 exact ⟨by simp only;omega,ha,hp,.inr ⟨h1,h3,by simp,by simp only [lf];omega,hb,l',hz,by rw [hl];simp [lf]⟩⟩
theorem Z.sum {L:List Node} {S:List Place} {n:Nat} {l:List AK} (z:Z L S n l):0≤Aw l:=by
 induction z with
 | nil n=>simp [Aw]
 | seq a S n g R l hk han hal hs hg hgc hgl hd hz ih=>rw [B7,Fo.runs_sum g hg];have:=(Fo.len_pos g hg).1;omega
 | rep a S k R m l hk hal hs hok hkc hm hkl hd hz ih=>
  rw [B7,JC,Fo.runs_sum k hok]
  have:0≤(m:Int)*k.len:=Int.mul_nonneg (by omega) (Fo.len_pos k hok).1
  omega
structure aRr (L:List Node) (c:Cs) (r:AK) (l:List AK):Prop where
 lt:c.leaf<L.length
 ok:nD L c
 run:r=⟨C2 (lf L c),(lf L c).n - c.gone⟩
 pos:1≤r.n
 next:RS L (XG L c) l
 tick:RS L (oO L c) (if r.n=1 then l else ⟨r.part,r.n - 1⟩::l)
theorem RS.cons {L:List Node} {c:Cs} {r:AK} {l:List AK} (h:RS L c (r::l)):aRr L c r l:=by
 obtain ⟨hsb,hat,hsum,hgo⟩:=h
 rcases hgo with ⟨h,_⟩ | ⟨h1,h2,h3,h4,hb,l',hz,h5⟩
 ·cases h
 ·obtain ⟨rfl,rfl⟩:=List.cons.inj h5
  have hok:=aEY hz
  have hl0:=hz.sum
  simp only [Aw] at hat hsum
  have step:∀ a:Int,0≤a→a+Aw l≤4096→RS L ⟨(K3 L (c.leaf+1) c.S).1,(K3 L (c.leaf+1) c.S).2,0,a⟩ l:=by
   intro a ha ha2
   rcases hok.2 with ⟨rfl,he⟩ | hd
   ·rw [he];exact ⟨by simp,by simp only [Aw];simp only [Aw] at ha2;omega,by simp [Aw],.inl ⟨rfl,rfl⟩⟩
   ·exact hd.rem ⟨ha,ha2⟩ hl0
  refine ⟨h1,⟨hok.1,⟨h3,h4,hb⟩,by omega⟩,rfl,by simp only;omega,step _ (by omega) (by omega), ?_⟩
  unfold oO
  by_cases hg:c.gone+1=(lf L c).n
  ·rw [if_pos hg,if_pos (by simp only;omega)]
   exact step _ (by omega) (by omega)
  ·rw [if_neg hg,if_neg (by simp only;omega)]
   exact ⟨hsb,by simp only [Aw];omega,by simp only [Aw];omega,.inr ⟨h1,h2,by simp only;omega,by simp only [lf] at hg h4 ⊢;omega,hb,l,hz,by simp only [lf];congr 2;omega⟩⟩
def dS (L:List Node):Cs:=⟨(dn L 0 []).1,(dn L 0 []).2,0,0⟩
theorem RL {f:Fo} (ho:f.ok) (hc:f.count=1) (hl:f.len≤4096):D f.flat (dn f.flat 0 []) f.runs:=by
 have:=GG (L:=f.flat) f 0 [] [] [] ho (by omega) (by omega) (by simp) (by simp) (Z.nil _)
 rw [Fo.hd_of_one hc,List.append_nil] at this
 exact this
theorem Tv {f:Fo} (ho:f.ok) (hc:f.count=1) (hl:f.len≤4096):RS f.flat (dS f.flat) f.runs:=by
 have h:=Fo.runs_sum f ho
 have:=(Fo.len_pos f ho).1
 exact (RL ho hc hl).rem (by omega) (by omega)
end Go.Ab.T
namespace Go.Ab.T
open Go Go.Ab
set_option maxHeartbeats 1000000
theorem Dz.some {h:AH} {id:Nat} {sv:V} {L:List Node} {S:List Place} {p:Place} {lf:Nat} {g a:Int} (k:Dz h id sv L ⟨p::S,lf,g,a⟩):AF sv=false∧id<Ar sv∧Ar sv<h.next:=by
 rcases k.stk with ⟨_,hR⟩ | ⟨i,el,cap,cs,rfl,_,_,_,_,h1,h2,_⟩
 ·simp at hR
 ·exact ⟨rfl,h2,h1⟩
theorem Dz.top {h:AH} {id:Nat} {sv:V} {L:List Node} {S:List Place} {p p':Place} {lf:Nat} {g a:Int} (k:Dz h id sv L ⟨p::S,lf,g,a⟩):Dz (h.put (Ar sv) ⟨2,(A2 h sv).set (Cx sv+S.length) p'.enc⟩) id sv L ⟨p'::S,lf,g,a⟩∧BR h id sv (h.put (Ar sv) ⟨2,(A2 h sv).set (Cx sv+S.length) p'.enc⟩) sv:=by
 obtain ⟨hs,h1,h2⟩:=k.some
 refine ⟨⟨?_, ?_,k.big,k.sbig,k.lo,k.hi⟩,⟨Nat.le_refl _,rfl,fun i _ _ hi=>?_,(BR.refl (h:=h) (id:=id)).own⟩⟩
 ·rw [Ae,Ag (by omega)];exact k.blk
 ·have:=k.stk.setT (h':=h.put (Ar sv) ⟨2,(A2 h sv).set (Cx sv+S.length) p'.enc⟩) (j:=S.length) (x:=p') (by simp) (Nat.le_refl _) (by rw [Ae,Ax rfl])
  simp only [List.reverse_cons] at this ⊢
  rw [List.set_append_right _ _ (by simp)] at this
  simpa using this
 ·rw [Ae,Ag]
  rcases hi with hi | hi
  ·rw [hs] at hi;cases hi
  ·exact hi
theorem Dz.pop {h:AH} {id:Nat} {sv:V} {L:List Node} {S:List Place} {p:Place} {lf:Nat} {g a:Int} (k:Dz h id sv L ⟨p::S,lf,g,a⟩):Dz (h.put id (FV L (B9 sv S.length) ⟨S,lf,g,a⟩)) id (B9 sv S.length) L ⟨S,lf,g,a⟩∧BR h id sv (h.put id (FV L (B9 sv S.length) ⟨S,lf,g,a⟩)) (B9 sv S.length):=by
 obtain ⟨hs,h1,h2⟩:=k.some
 refine ⟨⟨?_, ?_,k.big,by have:=k.sbig;simp at this ⊢;omega,k.lo,k.hi⟩,⟨Nat.le_refl _,rfl,fun i _ hi _=>by rw [Ae,Ag hi],.inr (.inl ⟨hs,Hq⟩)⟩⟩
 ·rw [Ae,Ax rfl]
 ·have:=k.stk.truncd (n:=S.length) (by simp)
  simp only [List.reverse_cons,List.map_append] at this
  rw [List.take_left' (by simp)] at this
  exact Sl.same this (Nat.le_refl _) (fun _=>by rw [Ae,Ag (by rw [Hq];omega)])
theorem mW {p:Place} {S:List Place}:nth (p::S).reverse S.length=p:=by simp [nth,List.getD]
theorem Dz.lim_le {h:AH} {id:Nat} {sv:V} {L:List Node} {c:Cs} (k:Dz h id sv L c):h.lim≤h.next:=by
 have:=k.lo;have:=k.hi;omega
theorem iZ {h : AH} {id : Nat} {sv : V} {L : List Node} {c : Cs} {K : V → AH → Prop} (k : Dz h id sv L c) (hlf : c.leaf < L.length) (hok : K4 L (c.leaf + 1) c.S)
    (kk:∀ sv' h',Dz h' id sv' L ⟨(K3 L (c.leaf+1) c.S).1,(K3 L (c.leaf+1) c.S).2,0,c.at_⟩→BR h id sv h' sv'→K (.tup []) h'):Cq tp LA [.p id 0 0] h K:=by
 have k0:=k
 obtain ⟨kb,ks,kbig,ksb,klo,khi⟩:=k
 simp only [FV] at kb
 refine Ac eP (by simp [JL]) fun wf rp=>?_;unfold JL;simp (disch:=omega)only[go_sem, *]
 refine Ah (fun n e h'=>∃ (S:List Place) (sv':V),n=S.length∧e 0=.p id 0 0∧e 2=.i .i64 ((c.leaf:Int)+1)∧Dz h' id sv' L ⟨S,c.leaf,0,c.at_⟩∧BR h id sv h' sv'∧K4 L (c.leaf+1) S∧K3 L (c.leaf+1) S=K3 L (c.leaf+1) c.S) ?_ _ _ _ ⟨c.S,sv,rfl, ?_⟩
 ·rintro n e h' ⟨S,sv',rfl,e0,e2,k',f',ok,hz⟩ ih
  have k1:=k'
  obtain ⟨kb,ks,kbig,ksb,klo,khi⟩:=k'
  obtain ⟨glen,gbig,glt,glo,gget,gat,grow,gc,gcs⟩:=ks.facts
  have grl:=fun (hj:0<S.length)=>ks.rowlt (j:=S.length - 1) (by simp;omega)
  have spre:∀ {k:IntKind} {j:Int} {cs:List (List V)},0≤j→j≤S.length→GW (some ⟨2,cs⟩) 2 sv' none (some (.i k j)) none=some (B9 sv' j.toNat):=fun h0 h1=>ks.pre h0 (by simp;omega)
  simp only [List.length_reverse] at glen gbig glt gget gat grow grl spre ksb
  simp only [FV] at kb
  rw [Am QN.eq_1]
  simp (disch:=omega)only[go_sem, *]
  refine Aa (fun hc=>?_) (fun hc=>?_)
  ·obtain ⟨p,r,rfl⟩:∃ p r,S=p::r:=by
    match S,hc with
    | [],hc=>simp at hc
    | p::r,_=>exact ⟨p,r,rfl⟩
   simp only [K4] at ok
   obtain ⟨o1,o2,o3,o4⟩:=ok
   rw [K3] at hz
   have tn:=mW (p:=p) (S:=r)
   simp only [List.length_cons,Int.natCast_add,Int.natCast_one] at glen gbig glt gget gat grow grl spre ksb hc
   have z1:((r.length:Int)+1 - 1).toNat=r.length:=by omega
   have grl':=grl (by omega)
   simp only [Nat.add_sub_cancel] at grl'
   have sne:=k1.some
   have kt:=Dz.top (p':=⟨p.at_,p.left - 1⟩) k1
   simp (disch:=omega)only[go_sem, *]
   refine Aa (fun hc2=>?_) (fun hc2=>?_)
   ·rw [if_pos hc2] at o4 hz
    simp (disch:=omega)only[go_sem, *]
    refine Aa (fun hc3=>?_) (fun hc3=>?_)
    ·rw [if_pos hc3] at o4 hz
     simp (disch:=omega)only[go_sem, *]
     refine Lo (a:=p.at_+1) kt.1 o4.1 o4.2 ?_
     intro sv2 h2 c2 f2
     simp (disch:=omega)only[go_sem, *]
     refine kk sv2 _ ?_ (f'.trans (kt.2.trans f2))
     rw [← hz];exact c2
    ·rw [if_neg hc3] at o4 hz
     simp (disch:=omega)only[go_sem, *]
     refine Lo (a:=c.leaf+1) kt.1 o4.1 o4.2 ?_
     intro sv2 h2 c2 f2
     simp (disch:=omega)only[go_sem, *]
     refine kk sv2 _ ?_ (f'.trans (kt.2.trans f2))
     rw [← hz];exact c2
   ·rw [if_neg hc2] at o4 hz
    have kq:=Dz.pop kt.1
    have hct:=Fh (n:=r.length) gcs
    simp (disch:=omega)only[go_sem, *]
    refine ih _ _ _ ?_ ⟨r,B9 sv' r.length,rfl, ?_⟩
    ·simp
    ·simp (disch:=omega)only[go_sem, *]
     exact ⟨kq.1,f'.trans (kt.2.trans kq.2)⟩
  ·have hS:S=[]:=by
    match S,hc with
    | [],hc=>rfl
    | p::r,hc=>simp at hc
   subst hS
   rw [K3] at hz
   simp (disch:=omega)only[go_sem, *]
   refine kk sv' _ ?_ (f'.trans BR.put)
   rw [← hz];exact Dz.put (c':=⟨[],L.length,0,c.at_⟩) k1 rfl
 ·simp (disch:=omega)only[go_sem, *]
  exact ⟨Dz.put (c':=⟨c.S,c.leaf,0,c.at_⟩) k0 rfl,BR.put⟩
end Go.Ab.T
namespace Go.Ab.T
open Go Go.Ab
set_option maxHeartbeats 1000000
theorem Mr {h : AH} {id : Nat} {sv : V} {L : List Node} {c : Cs} {K : V → AH → Prop} (k : Dz h id sv L c) (hl : L.length ≤ c.leaf)
    (kk:∀ h',Aq h h'→K (.tup [.agg (AK.enc ⟨0,0⟩),.b false]) h'):Cq tp Jc [.p id 0 0] h K:=by
 have kb:=k.blk
 have kl:=k.lim_le
 have khi:=k.hi
 simp only [FV] at kb
 refine Ac VY (by simp [Kg]) fun wf rp=>?_;unfold Kg;simp (disch:=omega)only[go_sem, *]
 refine Aa (fun hc=>?_) (fun hc=>by omega)
 simp (disch:=omega)only[go_sem, *]
 exact kk _ (by (repeat (first | exact Aq.refl _ | refine Aq.alloc ?_ _ | (refine Aq.put ?_ _ _ ?_;rotate_left;(first | omega | (simp only [Af,Ai];omega))))))
theorem Dz.put_other {h:AH} {id:Nat} {sv:V} {L:List Node} {c:Cs} (k:Dz h id sv L c) {j:Nat} {b:BA} (h1:id≠j) (h3:AF sv=true∨Ar sv≠j):Dz (h.put j b) id sv L c:=by
 refine ⟨by rw [Ae,Ag h1];exact k.blk, ?_,k.big,k.sbig,k.lo,k.hi⟩
 rcases k.stk with ⟨hv,hR⟩ | ⟨i,el,cap,cs,rfl,hg,q1,q2,q3,q4,q5,q6⟩
 ·exact .inl ⟨hv,hR⟩
 ·refine .inr ⟨i,el,cap,cs,rfl, ?_,q1,q2,q3,q4,q5,q6⟩
  rcases h3 with h3 | h3
  ·cases h3
  ·rw [Ae,Ag (show ¬ i=j from h3)];exact hg
theorem BR.put_new {h h':AH} {id:Nat} {sv sv':V} {i:Nat} {b:BA} (f:BR h id sv h' sv') (hi:h.next≤i):BR h id sv (h'.put i b) sv':=
 ⟨f.next,f.lim,fun j hj hne hs=>by rw [Ae,Ag (by omega)];exact f.get j hj hne hs,f.own⟩
theorem Pk {h : AH} {id : Nat} {sv : V} {L : List Node} {c : Cs} {K : V → AH → Prop} (k : Dz h id sv L c) (hl : c.leaf < L.length) (hok : nD L c)
    (kk:∀ sv' h',Dz h' id sv' L (XG L c)→BR h id sv h' sv'→K (.tup [.agg (AK.enc ⟨C2 (lf L c),(lf L c).n - c.gone⟩),.b true]) h'):Cq tp Jc [.p id 0 0] h K:=by
 have k0:=k
 obtain ⟨o1,o2,o3⟩:=hok
 obtain ⟨kb,ks,kbig,ksb,klo,khi⟩:=k
 simp only [FV] at kb
 unfold lf at o2
 refine Ac VY (by simp [Kg]) fun wf rp=>?_;unfold Kg;simp (disch:=omega)only[go_sem, *]
 refine Aa (fun hc=>by omega) (fun hc=>?_)
 simp (disch:=omega)only[go_sem, *]
 refine Pf.go (hJ) (by simp only [go_sem]) fun _=>?_;simp (disch:=omega)only[go_sem, *]
 refine iZ (c:=⟨c.S,c.leaf,c.gone,c.at_+((nth L c.leaf).n - c.gone)⟩) (L:=L) (id:=id) (sv:=sv) ?_ hl o1 ?_
 ·have x3:Aq h (((h.alloc ⟨2,[[.i .i64 0,.i .i64 0]]⟩).alloc ⟨2,[[.i .i64 0,.i .i64 0]]⟩).put (h.next+1) ⟨2,[[.i .i64 (C2 (nth L c.leaf)),.i .i64 ((nth L c.leaf).n - c.gone)]]⟩):=by (repeat (first | exact Aq.refl _ | refine Aq.alloc ?_ _ | (refine Aq.put ?_ _ _ ?_;rotate_left;(first | omega | (simp only [Af,Ai];omega)))))
  have k3:=Dz.put (c':=⟨c.S,c.leaf,c.gone,c.at_+((nth L c.leaf).n - c.gone)⟩) (k0.ext x3) rfl
  exact k3
 ·intro sv4 h4 c4 f4
  have sne:=k0.sne
  have svlt:AF sv=true∨Ar sv<h.next:=sne.imp (fun x=>x) fun x=>x.2
  have n4:=f4.next
  have l4:=f4.lim
  have y1:=f4.get (h.next+1) (by simp only [Ai,Af];omega) (by omega) (svlt.imp (fun x=>x) (fun x=>by omega))
  have y2:=f4.get h.next (by simp only [Ai,Af];omega) (by omega) (svlt.imp (fun x=>x) (fun x=>by omega))
  simp (disch:=omega)only[go_sem] at y1 y2 n4 l4
  have i4:=c4.hi
  simp (disch:=omega)only[go_sem, *]
  refine kk sv4 _ (c4.put_other (by omega) ?_) ?_
  ·rcases f4.own with h1 | ⟨h0,h1⟩ | h1
   ·exact .inl h1
   ·rcases svlt with h2 | h2
    ·rw [h2] at h0;cases h0
    ·exact .inr (by omega)
   ·simp only [Ai,Af] at h1
    exact .inr (by omega)
  ·refine BR.put_new ⟨by omega,l4,fun i hi hne hs=>?_, ?_⟩ (Nat.le_refl _)
   ·rw [f4.get i (by simp only [Ai,Af];omega) hne hs]
    simp (disch:=omega)only[go_sem]
   ·rcases f4.own with h1 | h1 | h1
    ·exact .inl h1
    ·exact .inr (.inl h1)
    ·simp only [Ai,Af] at h1
     exact .inr (.inr (by omega))
theorem X9 {h : AH} {id : Nat} {sv : V} {f : Fo} {c : Cs} {K : V → AH → Prop} (k : Dz h id sv f.flat c) (ho : f.ok) (hc : f.count = 1) (hl : f.len ≤ 4096)
    (kk:∀ sv' h',Dz h' id sv' f.flat (dS f.flat)→BR h id sv h' sv'→K (.tup []) h'):Cq tp Lz [.p id 0 0] h K:=by
 have kb:=k.blk
 have klo:=k.lo
 have hD:=RL ho hc hl
 simp only [FV] at kb
 have k2:Dz (h.put id (FV f.flat .ns ⟨[],c.leaf,0,0⟩)) id .ns f.flat ⟨[],c.leaf,0,0⟩:=by
  refine ⟨by rw [Ae,Ax rfl],Sl.nil _ _ _,k.big,by simp,k.lo,k.hi⟩
 have f2:BR h id sv (h.put id (FV f.flat .ns ⟨[],c.leaf,0,0⟩)) .ns:=⟨Nat.le_refl _,rfl,fun i hi hne hs=>by rw [Ae,Ag hne],.inl rfl⟩
 refine Ac eM (by simp [JJ]) fun wf rp=>?_;unfold JJ;simp (disch:=omega)only[go_sem, *]
 refine Lo (a:=0) k2 hD.1 (by have:=hD.1;have:=hD.2.1;simp only;omega) ?_
 intro sv3 h3 c3 f3
 simp (disch:=omega)only[go_sem, *]
 exact kk sv3 h3 c3 (f2.trans f3)
structure FR (h h':AH) (L:List Node) (id:Nat) (sv:V) (c:Cs):Prop where
 cur:Dz h' id sv L c
 ext:Aq h h'
 id_:h.next≤id
theorem FR.step {h h1 h2:AH} {L:List Node} {id:Nat} {sv s2:V} {c c2:Cs} (n:FR h h1 L id sv c) (k:Dz h2 id s2 L c2) (f:BR h1 id sv h2 s2):FR h h2 L id s2 c2:=by
 have x:=n.ext
 have:=x.next;have:=f.next
 have i1:=n.id_
 have sne:=n.cur.sne
 refine ⟨k,⟨by omega,f.lim.trans x.lim,fun i hi=>?_⟩,n.id_⟩
 rw [f.get i (by omega) (by omega) (sne.imp (fun x=>x) (fun x=>by omega)),x.get i hi]
theorem FR.grow {h h1 h2:AH} {L:List Node} {id:Nat} {sv:V} {c:Cs} (n:FR h h1 L id sv c) (x:Aq h1 h2):FR h h2 L id sv c:=
 ⟨n.cur.ext x,n.ext.trans x,n.id_⟩
theorem aEu {h:AH} {L:List Node} {K:V→AH→Prop} (kbad:A7 L≠0→K .np h) (kk:A7 L=0→∀ id sv h',FR h h' L id sv (dS L)→K (.p id 0 0) h'):Cq tp Xd [.fl 3 (L.map Node.enc)] h K:=by
 refine Ac aD8 (by simp [OJ]) fun wf rp=>?_;unfold OJ;simp (disch:=omega)only[go_sem, *]
 have hlm:=wf.1
 have hL:=rp.head.len
 refine Pf.go (GN) (by simp only [go_sem]) fun _=>?_;simp (disch:=omega)only[go_sem, *]
 refine Aa (fun hc=>?_) (fun hc=>?_)
 ·simp (disch:=omega)only[go_sem, *]
 ·have hr:A7 L=0:=by omega
  obtain ⟨hl128,f,ho,hc1,rfl,hdp,hln⟩:=(FM L).1 hr
  simp (disch:=omega)only[go_sem, *]
  refine Pf.go (GB) (by simp only [go_sem]) fun _=>?_;simp (disch:=omega)only[go_sem, *]
  have xa:Aq h (h.alloc (FV f.flat .ns ⟨[],0,0,0⟩)):=(Aq.refl h).alloc _
  have k4:Dz (h.alloc (FV f.flat .ns ⟨[],0,0,0⟩)) h.next .ns f.flat ⟨[],0,0,0⟩:=
   ⟨by rw [AV,Ax rfl],Sl.nil _ _ _,by omega,by simp,by rw [A9];omega,by rw [Af];omega⟩
  refine X9 k4 ho hc1 hln ?_
  intro sv5 h5 c5 f5
  simp (disch:=omega)only[go_sem, *]
  have n4:FR h (h.alloc (FV f.flat .ns ⟨[],0,0,0⟩)) f.flat h.next .ns ⟨[],0,0,0⟩:=⟨k4,xa,Nat.le_refl _⟩
  exact kk hr _ _ _ (n4.step c5 f5)
end Go.Ab.T
namespace Go.Ab.T
open Go Go.Ab
def Gf:List AK→Int→Int
 | [],_=>-1
 | r::l,t=>if t<r.n then r.part else Gf l (t - r.n)
theorem Jv {f:Fo} (ho:f.ok) (hc:f.count=1) (hd:f.depth≤16) (hl:f.len≤4096) (hn:f.flat.length≤128):A7 f.flat=0:=(FM _).2 ⟨hn,f,ho,hc,rfl,hd,hl⟩
theorem XJ {α:Type} [Inhabited α] {a:α} {l:List α} {i:Nat}:nth (a::l) (i+1)=nth l i:=by simp [nth]
def A5 (w:List AK):Prop:=∀ r∈w,1≤r.n
theorem A5.nth {w:List AK} (h:A5 w) {i:Nat} (hi:i<w.length):1≤(nth w i).n:=by
 rw [Bz hi];exact h _ (List.getElem_mem _)
theorem Fo.runs_allpos:∀ (f:Fo),f.ok→A5 f.runs
 | .nil,_=>by intro r hr;cases hr
 | .leaf x r,ho=>by
  intro q hq
  rcases List.mem_cons.1 hq with rfl | hq
  ·exact Ct (by rw [ho.1];omega)
  ·exact Fo.runs_allpos r ho.2 q hq
 | .seq x k r,ho=>by
  intro q hq
  rcases List.mem_append.1 hq with hq | hq
  ·exact Fo.runs_allpos k ho.2.2.2.1 q hq
  ·exact Fo.runs_allpos r ho.2.2.2.2 q hq
 | .rep x k r,ho=>by
  intro q hq
  rcases List.mem_append.1 hq with hq | hq
  ·obtain ⟨l,hl,hq⟩:=List.mem_flatten.1 hq
   rw [List.eq_of_mem_replicate hl] at hq
   exact Fo.runs_allpos k ho.2.2.2.1 q hq
  ·exact Fo.runs_allpos r ho.2.2.2.2 q hq
theorem BM:∀ {w:List AK},A5 w→0≤Aw w
 | [],_=>by simp [Aw]
 | r::l,h=>by
  have:=BM (w:=l) (fun q hq=>h q (List.mem_cons_of_mem _ hq))
  have:=h r (List.mem_cons_self ..)
  simp only [Aw];omega
theorem K5:∀ (w:List AK) (i:Nat),i<w.length→Aw (w.take (i+1))=Aw (w.take i)+(nth w i).n
 | [],i,hi=>by simp at hi
 | r::l,0,hi=>by simp [Aw,nth]
 | r::l,i+1,hi=>by
  rw [XJ,List.take_succ_cons,List.take_succ_cons,Aw,Aw,K5 l i (by simpa using hi)];omega
theorem LY (w:List AK) (i:Nat) (h:A5 w):Aw (w.take i)≤Aw w:=by
 have h1:=congrArg Aw (List.take_append_drop i w)
 rw [B7] at h1
 have:=BM (w:=w.drop i) (fun q hq=>h q (List.mem_of_mem_drop hq))
 omega
theorem IB {a b:Int} (ha:0≤a) (hb:0≤b) (h:a+b≤4611686018427387904):Fg a b=a+b:=by unfold Fg;rw [if_neg (by omega)];omega
theorem TD {B:List AK} {q r:AK} {l:List AK} (hr:1≤r.n):Bk (r::l) (B++[q])=if q.part=r.part then Bk l (B++[⟨q.part,Fg q.n r.n⟩]) else Bk l (B++[q]++[r]):=by
 have h1:nth (B++[q]) ((B++[q]).length - 1)=q:=by simp [nth,List.getD]
 rw [Bk,if_neg (by omega),h1]
 by_cases h:q.part=r.part
 ·rw [if_pos ⟨by simp,h⟩,if_pos h,h]
  congr 1
  rw [List.length_append,List.length_singleton,Nat.add_sub_cancel,List.set_append_right _ _ (Nat.le_refl _)]
  simp
 ·rw [if_neg (fun hh=>h hh.2),if_neg h]
theorem YI {r:AK} {l:List AK} (hr:1≤r.n):Bk (r::l) []=Bk l [r]:=by
 rw [Bk,if_neg (by omega),if_neg (by simp)];rfl
def tk (p:Int):List AK→Int
 | []=>0
 | r::l=>(if r.part=p then r.n else 0)+tk p l
theorem Ze (p:Int):∀ (a b:List AK),tk p (a++b)=tk p a+tk p b
 | [],b=>by simp [tk]
 | r::l,b=>by simp only [List.cons_append,tk,Ze p l b];omega
def Sep:List AK→Prop
 | []=>True
 | [_]=>True
 | a::b::l=>a.part≠b.part∧Sep (b::l)
theorem No:∀ {B:List AK} {q r:AK},Sep (B++[q])→q.part≠r.part→Sep (B++[q]++[r])
 | [],q,r,_,h=>⟨h,trivial⟩
 | [a],q,r,h1,h=>⟨h1.1,h,trivial⟩
 | a::b::B,q,r,h1,h=>⟨h1.1,No (B:=b::B) h1.2 h⟩
theorem Nn:∀ {B:List AK} {q r:AK},Sep (B++[q])→q.part=r.part→Sep (B++[r])
 | [],q,r,_,h=>trivial
 | [a],q,r,h1,h=>⟨by rw [← h];exact h1.1,trivial⟩
 | a::b::B,q,r,h1,h=>⟨h1.1,Nn (B:=b::B) h1.2 h⟩
theorem O7 {a b:List AK} (h:A5 (a++b)):A5 a∧A5 b:=⟨fun r hr=>h r (List.mem_append_left _ hr),fun r hr=>h r (List.mem_append_right _ hr)⟩
theorem Kz {a b:List AK} (h1:A5 a) (h2:A5 b):A5 (a++b):=fun r hr=>by
 rcases List.mem_append.1 hr with hr | hr
 ·exact h1 r hr
 ·exact h2 r hr
theorem GQ {p a b:Int} {l:List AK} (ha:0≤a) (hb:0≤b):∀ (B:List AK) (t:Int),Gf (B++⟨p,a+b⟩::l) t=Gf (B++⟨p,a⟩::⟨p,b⟩::l) t
 | [],t=>by
  simp only [List.nil_append,Gf]
  by_cases h1:t<a+b
  ·rw [if_pos h1]
   by_cases h2:t<a
   ·rw [if_pos h2]
   ·rw [if_neg h2,if_pos (by omega)]
  ·rw [if_neg h1,if_neg (by omega),if_neg (by omega)];congr 1;omega
 | r::B,t=>by simp only [List.cons_append,Gf,GQ ha hb B]
structure Uz (L R:List AK):Prop where
 pos:A5 R
 sep:Sep R
 sum:Aw R=Aw L
 tks:∀ p,tk p R=tk p L
 at_:∀ t,Gf R t=Gf L t
 parts:∀ r∈R,∃ q∈L,q.part=r.part
 len:R.length≤L.length
 ne:L≠[]→R≠[]
theorem L4:∀ (l B:List AK) (q:AK),A5 (B++[q])→A5 l→Sep (B++[q])→Aw (B++[q])+Aw l≤4611686018427387904→Uz (B++[q]++l) (Bk l (B++[q]))
 | [],B,q,hp,_,hs,_=>by
  rw [Bk,List.append_nil]
  exact ⟨hp,hs,rfl,fun _=>rfl,fun _=>rfl,fun r hr=>⟨r,hr,rfl⟩,Nat.le_refl _,fun h=>h⟩
 | r::l,B,q,hp,hl,hs,hb=>by
  have hr:=hl r (List.mem_cons_self ..)
  have hl2:A5 l:=fun x hx=>hl x (List.mem_cons_of_mem _ hx)
  have hq:=hp q (by simp)
  have hB:=(O7 hp).1
  have sB:=BM hB
  have sl:=BM hl2
  simp only [Aw,B7] at hb
  rw [TD hr]
  by_cases h:q.part=r.part
  ·rw [if_pos h,IB (by omega) (by omega) (by omega)]
   have ih:=L4 l B ⟨q.part,q.n+r.n⟩ (Kz hB (fun x hx=>by simp at hx;subst hx;simp only;omega)) hl2 (Nn hs rfl) (by simp only [Aw,B7];omega)
   refine ⟨ih.pos,ih.sep,by rw [ih.sum];simp only [Aw,B7];omega,fun p=>?_,fun t=>?_,fun x hx=>?_, ?_,fun _=>ih.ne (by simp)⟩
   ·rw [ih.tks];simp only [tk,Ze,h];split<;>omega
   ·rw [ih.at_]
    have e1:B++[⟨q.part,q.n+r.n⟩]++l=B++⟨q.part,q.n+r.n⟩::l:=by simp
    have e2:B++[q]++r::l=B++⟨q.part,q.n⟩::⟨q.part,r.n⟩::l:=by
     rw [show (⟨q.part,r.n⟩:AK)=r by cases r;simp_all];simp
    rw [e1,e2]
    exact GQ (by omega) (by omega) B t
   ·obtain ⟨y,hy,he⟩:=ih.parts x hx
    rcases List.mem_append.1 hy with hy | hy
    ·rcases List.mem_append.1 hy with hy | hy
     ·exact ⟨y,by simp [hy],he⟩
     ·simp at hy;subst hy;exact ⟨q,by simp,he⟩
    ·exact ⟨y,by simp [hy],he⟩
   ·have:=ih.len;simp at this ⊢;omega
  ·rw [if_neg h]
   have ih:=L4 l (B++[q]) r (Kz hp (fun x hx=>by simp at hx;subst hx;exact hr)) hl2 (No hs h) (by simp only [Aw,B7];omega)
   have e:B++[q]++[r]++l=B++[q]++r::l:=by simp
   rw [e] at ih
   exact ih
theorem L3 {L:List AK} (hp:A5 L) (hs:Aw L≤4611686018427387904):Uz L (Bk L []):=by
 cases L with
 | nil=>exact ⟨hp,trivial,rfl,fun _=>rfl,fun _=>rfl,fun r hr=>⟨r,hr,rfl⟩,Nat.le_refl _,fun h=>h⟩
 | cons r l=>
  rw [YI (hp r (List.mem_cons_self ..))]
  exact L4 l [] r (fun x hx=>by simp at hx;subst hx;exact hp _ (List.mem_cons_self ..)) (fun x hx=>hp x (List.mem_cons_of_mem _ hx)) trivial (by simpa [Aw] using hs)
theorem GL:∀ (L:List AK) (a:Int),A5 L→0≤a→a+Aw L≤4611686018427387904→Cg L a=a+Aw L
 | [],a,_,_,_=>by simp [Cg,Aw]
 | r::l,a,hp,ha,hb=>by
  have hr:=hp r (List.mem_cons_self ..)
  have hl:A5 l:=fun x hx=>hp x (List.mem_cons_of_mem _ hx)
  have:=BM hl
  simp only [Aw] at hb ⊢
  rw [Cg,IB ha (by omega) (by omega),GL l _ hl (by omega) (by omega)];omega
theorem Gl {L:List AK} (hp:A5 L) (hs:Aw L≤4611686018427387904):DT L:=by
 intro i hi
 have h1:=K5 L i hi
 have h2:=LY L (i+1) hp
 have h3:=BM (w:=L.take i) (fun q hq=>hp q (List.mem_of_mem_take hq))
 omega
end Go.Ab.T
namespace Go.Ab.T
open Go Go.Ab
theorem jE {L:List AK} (hok:DT L):Pf tp Xe [.fl 2 (L.map AK.enc)] (.fl 2 ((Bk L []).map AK.enc)):=by
 refine AE aD9 (by simp [OK]) fun rp=>?_;unfold OK;simp (disch:=omega)only[go_sem, *]
 have hL:=rp.head.len
 refine Ah (fun n e h=>∃ (i:Nat) (out:V) (A:List AK),n=L.length - i∧h.lim=0∧e 7=.fl 2 (L.map AK.enc)∧e 8=.i .i64 L.length∧e 9=.i .i64 i∧e 3=out∧i≤L.length∧A.length≤i∧Sl 0 h 2 out (A.map AK.enc)∧DT A∧Bk (L.drop i) A=Bk L []) ?_ _ _ _ ⟨0,.ns,[],rfl, ?_⟩
 ·rintro n e h ⟨i,out,A,rfl,hl,e7,e8,e9,e3,hi,hA,so,okA,hz⟩ ih
  rw [Am Uy.eq_1]
  simp (disch:=omega)only[go_sem, *]
  obtain ⟨olen,obig,olt,olo,oget,oat,orow,ocell,ocells⟩:=so.facts
  refine Aa (fun hc=>?_) (fun hc=>?_)
  ·rw [AI (by omega),Bk] at hz
   have hb:=hok i (by omega)
   simp (disch:=omega)only[go_sem, *]
   have x1:Aq h ((h.alloc ⟨2,[[.i .i64 0,.i .i64 0]]⟩).put h.next ⟨2,[[.i .i64 (nth L i).part,.i .i64 (nth L i).n]]⟩):=by (repeat (first | exact Aq.refl _ | refine Aq.alloc ?_ _ | (refine Aq.put ?_ _ _ ?_;rotate_left;(first | omega | (simp only [Af,Ai];omega)))))
   refine Aa (fun hc2=>?_) (fun hc2=>?_)
   ·rw [if_pos hc2] at hz
    simp (disch:=omega)only[go_sem, *]
    refine ih _ _ _ ?_ ⟨i+1,out,A,rfl, ?_⟩
    ·omega
    ·simp (disch:=omega)only[go_sem, *]
     ((repeat' refine And.intro ?_ ?_)<;>first | omega | assumption | (exact so.ext x1))
   ·rw [if_neg hc2] at hz
    simp (disch:=omega)only[go_sem, *]
    refine Av (fun hc3=>?_) (fun hc3=>?_)
    ·have hk:((A.length:Int) - 1).toNat=A.length - 1:=by omega
     simp (disch:=omega)only[go_sem, *]
     refine Aa (fun hc4=>?_) (fun hc4=>?_)
     ·rw [if_pos ⟨by omega,hc4⟩] at hz
      have hA1:=okA (A.length - 1) (by omega)
      simp (disch:=omega)only[go_sem, *]
      refine Pf.go (O6 hA1 hb) (by simp only [go_sem]) fun _=>?_;simp (disch:=omega)only[go_sem, *]
      refine ih _ _ _ ?_ ⟨i+1,out,A.set (A.length - 1) ⟨(nth A (A.length - 1)).part,Fg (nth A (A.length - 1)).n (nth L i).n⟩,rfl, ?_⟩
      ·omega
      ·simp (disch:=omega)only[go_sem, *]
       ((repeat' refine And.intro ?_ ?_)<;>first | omega | assumption | (simp;omega) | (exact Sl.setT so (by omega) (by simp (disch:=omega)only[go_sem]<;>omega) (by simp (disch:=omega)only[go_sem, *])) | (refine Jx okA ?_;exact Et.2) | (rw [← hz,hc4]))
     ·simp only [hc4,and_false,reduceIte] at hz
      simp (disch:=omega)only[go_sem, *]
      refine AA (R:=A.map AK.enc) ((so.ext x1).alloc _) (by simp only [go_sem, *]) (Nat.zero_le _) (by simp;omega) ?_
      intro w h4 s4 g4
      have hl4:=g4.lim
      simp (disch:=omega)only[go_sem, *]
      refine ih _ _ _ ?_ ⟨i+1,w,A++[nth L i],rfl, ?_⟩
      ·omega
      ·simp (disch:=omega)only[go_sem, *]
       ((repeat' refine And.intro ?_ ?_)<;>first | omega | assumption | (simp;omega) | (simpa [AK.enc] using s4) | (exact Ef okA hb))
    ·have h0:A.length=0:=by omega
     simp only [h0,Nat.lt_irrefl,false_and,reduceIte] at hz
     simp (disch:=omega)only[go_sem, *]
     refine AA (R:=A.map AK.enc) ((so.ext x1).alloc _) (by simp only [go_sem, *]) (Nat.zero_le _) (by simp;omega) ?_
     intro w h4 s4 g4
     have hl4:=g4.lim
     simp (disch:=omega)only[go_sem, *]
     refine ih _ _ _ ?_ ⟨i+1,w,A++[nth L i],rfl, ?_⟩
     ·omega
     ·simp (disch:=omega)only[go_sem, *]
      ((repeat' refine And.intro ?_ ?_)<;>first | omega | assumption | (simp;omega) | (simpa [AK.enc] using s4) | (exact Ef okA hb))
  ·rw [List.drop_eq_nil_of_le (by omega),Bk] at hz
   simp (disch:=omega)only[go_sem, *]
   subst hz
   refine Pf.take [Ar out] Pb (.cons _ _ _ _ _ (so.froze (fun _=>rfl) (by simp) (by omega)) (.nil _)) fun _=>?_
   simp (disch:=omega)only[go_sem, *]
 ·simp (disch:=omega)only[go_sem, *]
  exact ⟨Sl.nil _ _ _,fun i hi=>by simp at hi⟩
def gU (f:Fo):List AK:=Bk f.runs []
open Classical in
noncomputable def EV (L:List Node):Fo:=if h:∃ f:Fo,f.ok∧f.count=1∧L=f.flat∧f.depth≤16∧f.len≤4096 then h.choose else .nil
theorem FE {L:List Node} (h:A7 L=0):L.length≤128∧(EV L).ok∧(EV L).count=1∧L=(EV L).flat∧(EV L).depth≤16∧(EV L).len≤4096:=by
 obtain ⟨h1,h2⟩:=(FM L).1 h
 refine ⟨h1, ?_⟩
 unfold EV
 rw [dif_pos h2]
 exact h2.choose_spec
noncomputable def Fd (L:List Node):List AK×Int:=if A7 L≠0 then ([],A7 L) else if 96<(gU (EV L)).length then ([],3) else (gU (EV L),0)
theorem Io {L:List Node} (hr:A7 L≠0):Fd L=([],A7 L):=if_pos hr
theorem Fm {L:List Node} (hr:A7 L=0):Fd L=if 96<(gU (EV L)).length then ([],3) else (gU (EV L),0):=if_neg (by omega)
theorem Jt {L:List Node}:Pf tp Wp [.fl 3 (L.map Node.enc)] (.tup [.fl 2 ((Fd L).1.map AK.enc),.i .i64 (Fd L).2]):=by
 refine AE aDk (by simp [NL]) fun rp=>?_;unfold NL;simp (disch:=omega)only[go_sem, *]
 refine Pf.go (M8) (by simp only [go_sem]) fun _=>?_;simp (disch:=omega)only[go_sem, *]
 refine Aa (fun hc=>?_) (fun hc=>?_)
 ·have e:=Io hc
  simp (disch:=omega)only[go_sem, *]
 ·have e:=Fm (L:=L) (by omega)
  obtain ⟨_,ho,hc1,hL,hd,hl⟩:=FE (L:=L) (by omega)
  have hap:=Fo.runs_allpos _ ho
  have hsum:=Fo.runs_sum _ ho
  have hlv:=LQ ho hc1 hl
  rw [← hL] at hlv
  clear hL
  simp (disch:=omega)only[go_sem, *]
  refine Pf.go (hlv) (by simp only [go_sem]) fun _=>?_;simp (disch:=omega)only[go_sem, *]
  refine Pf.go (Ql (Gl hap (by omega))) (by simp only [go_sem]) fun _=>?_;simp (disch:=omega)only[go_sem, *]
  unfold gU at e
  refine Aa (fun hc5=>?_) (fun hc5=>?_)
  ·rw [if_pos (by omega)] at e
   simp (disch:=omega)only[go_sem, *]
  ·rw [if_neg (by omega)] at e
   simp (disch:=omega)only[go_sem, *]
end Go.Ab.T
