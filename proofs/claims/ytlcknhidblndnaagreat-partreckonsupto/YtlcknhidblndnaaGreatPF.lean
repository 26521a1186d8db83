/- Part of a proof that a law returns true for every input of the second form's bound (no other condition). -/
import Derived.Test.YtlcknhidblndnaaGreatPE
set_option linter.all false
namespace Go.Ab.T
open Go Go.Ab
structure AS where
 part:Int
 n:Int
 deriving Inhabited,DecidableEq
@[go_sem] def AS.enc (r:AS):List V:=[.i .i64 r.part,.i .i64 r.n]
def GH (a b:Int):Int:=if 9223372036854775807 - max 0 b<max 0 a then 9223372036854775807 else max 0 a+max 0 b
theorem JC {a b:Int}:0≤GH a b∧GH a b≤9223372036854775807:=by unfold GH;split<;>omega
theorem LW {a b:Int} (ha:a≤9223372036854775807) (hb:b≤9223372036854775807):Pf tp Sy [.i .i64 a,.i .i64 b] (.i .i64 (GH a b)):=by
 refine AN lE (by simp [Lx]) fun rp=>?_;unfold Lx;simp (disch:=omega)only[go_sem, *]
 repeat' (first | (refine AD (fun hc=>?_) (fun hc=>?_)<;>simp (disch:=omega)only[go_sem, *]) | (refine Af (fun hc=>?_) (fun hc=>?_)<;>simp (disch:=omega)only[go_sem, *]))
 all_goals (unfold GH;split<;>omega)
def DJ (L:List AS):Prop:=∀ i,i<L.length→(nth L i).n≤9223372036854775807
def BU:List AS→Int→Int
 | [],n=>n
 | r::l,n=>BU l (GH n r.n)
theorem Ip {L:List AS} (hok:DJ L):Pf tp SB [.fl 2 (L.map AS.enc)] (.i .i64 (BU L 0)):=by
 refine AN lH (by simp [LA]) fun rp=>?_;unfold LA;simp (disch:=omega)only[go_sem, *]
 have hL:=rp.head.len
 refine Au (fun n e h=>∃ (i:Nat) (a:Int),n=L.length - i∧h.lim=0∧e 6=.fl 2 (L.map AS.enc)∧e 7=.i .i64 L.length∧e 8=.i .i64 i∧e 3=.i .i64 a∧i≤L.length∧a≤9223372036854775807∧BU (L.drop i) a=BU L 0) ?_ _ _ _ ⟨0,0,rfl, ?_⟩
 ·rintro n e h ⟨i,a,rfl,hl,e6,e7,e8,e3,hi,ha,hz⟩ ih
  rw [AA Zl.eq_1]
  simp (disch:=omega)only[go_sem, *]
  refine Af (fun hc=>?_) (fun hc=>?_)
  ·rw [AX (by omega),BU] at hz
   have hb:=hok i (by omega)
   simp (disch:=omega)only[go_sem, *]
   refine Pf.go (LW ha hb) (by simp only [go_sem]) fun _=>?_;simp (disch:=omega)only[go_sem, *]
   refine ih _ _ _ ?_ ⟨i+1,GH a (nth L i).n,rfl, ?_⟩
   ·omega
   ·simp (disch:=omega)only[go_sem, *]
    ((repeat' refine And.intro ?_ ?_)<;>first | omega | assumption | (exact JC.2))
  ·rw [List.drop_eq_nil_of_le (by omega),BU] at hz
   simp (disch:=omega)only[go_sem, *]
 ·simp (disch:=omega)only[go_sem, *]
def Bv:List AS→List AS→List AS
 | [],out=>out
 | r::l,out=>if r.n<1 then Bv l out else
  if 0<out.length∧(nth out (out.length - 1)).part=r.part then Bv l (out.set (out.length - 1) ⟨(nth out (out.length - 1)).part,GH (nth out (out.length - 1)).n r.n⟩) else Bv l (out++[r])
theorem Gy {A:List AS} {r:AS} (hA:DJ A) (hr:r.n≤9223372036854775807):DJ (A++[r]):=by
 intro i hi
 simp only [List.length_append,List.length_cons,List.length_nil] at hi
 by_cases h:i<A.length
 ·have:=hA i h
  simp only [nth,List.getD] at this ⊢
  rw [List.getElem?_append_left h];exact this
 ·have:i=A.length:=by omega
  subst this
  simpa [nth,List.getD] using hr
theorem MQ {A:List AS} {j:Nat} {r:AS} (hA:DJ A) (hr:r.n≤9223372036854775807):DJ (A.set j r):=by
 intro i hi
 simp only [List.length_set] at hi
 have:=hA i hi
 simp only [nth,List.getD] at this ⊢
 rw [List.getElem?_set]
 split
 ·rename_i h;subst h;simp [hi];exact hr
 ·exact this
end Go.Ab.T
namespace Go.Ab.T
open Go Go.Ab
structure Node where
 kind:Int
 part:Int
 n:Int
 deriving DecidableEq,Inhabited
@[go_sem] def Node.enc (x:Node):List V:=[.i .i64 x.kind,.i .i64 x.part,.i .i64 x.n]
def kids (x:Node):Int:=
 if x.n<1∨(x.kind≠1∧x.part≠0) then -1
 else if (x.kind=1∧0≤x.part∧x.part<6)∨x.kind=2 then 0
 else if x.kind=3∧x.n≤128 then x.n
 else if x.kind=4 then 1 else -1
theorem GO (x:Node): -1≤kids x∧kids x≤128:=by
 unfold kids;repeat' split
 all_goals omega
theorem NK {x:Node}:Pf tp SG [.agg x.enc] (.i .i64 (kids x)):=by
 refine AN lM (by simp [LF]) fun rp=>?_;unfold LF;simp (disch:=omega)only[go_sem, *]
 repeat' (first | (refine AD (fun hc=>?_) (fun hc=>?_)<;>simp (disch:=omega)only[go_sem, *]) | (refine Af (fun hc=>?_) (fun hc=>?_)<;>simp (disch:=omega)only[go_sem, *]))
 all_goals (unfold kids;repeat' split)
 all_goals omega
def DG:List Node→Int→Int→Int
 | [],_,_=>0
 | x::r,left,n=>if kids x<0 then 0 else if left+(kids x - 1)=0 then n+1 else DG r (left+(kids x - 1)) (n+1)
def size (L:List Node) (a:Int):Int:=if a<0∨(L.length:Int)≤a then 0 else DG (L.drop a.toNat) 1 0
theorem Xk {L:List Node} {a:Int}:Pf tp SF [.fl 3 (L.map Node.enc),.i .i64 a] (.i .i64 (size L a)):=by
 refine AN lK (by simp [LD]) fun rp=>?_;unfold LD;simp (disch:=omega)only[go_sem, *]
 have hL:=rp.head.len
 repeat' (first | (refine AD (fun hc=>?_) (fun hc=>?_)<;>simp (disch:=omega)only[go_sem, *]) | (refine Af (fun hc=>?_) (fun hc=>?_)<;>simp (disch:=omega)only[go_sem, *]))
 ·simp [size];omega
 ·simp [size];omega
 ·refine Au (fun n e h=>∃ (i:Nat) (left:Int),n=L.length - i∧h.lim=0∧e 0=.fl 3 (L.map Node.enc)∧e 1=.i .i64 a∧e 5=.i .i64 left∧e 6=.i .i64 i∧a≤i∧i≤L.length∧0<left∧left≤1+128*i∧DG (L.drop i) left (i - a)=size L a) ?_ _ _ _ ⟨a.toNat,1,rfl, ?_⟩
  ·rintro n e h ⟨i,left,rfl,hl,e0,e1,e5,e6,hi1,hi2,hl1,hl2,hz⟩ ih
   rw [AA P8.eq_1]
   simp (disch:=omega)only[go_sem, *]
   have hk:=GO (nth L i)
   refine Af (fun hc=>?_) (fun hc=>?_)
   ·rw [AX (by omega),DG] at hz
    simp (disch:=omega)only[go_sem, *]
    refine Pf.go (NK) (by simp only [go_sem]) fun _=>?_;simp (disch:=omega)only[go_sem, *]
    refine Af (fun hc2=>?_) (fun hc2=>?_)
    ·rw [if_pos hc2] at hz
     simp (disch:=omega)only[go_sem, *]
    ·rw [if_neg hc2] at hz
     simp (disch:=omega)only[go_sem, *]
     refine Af (fun hc3=>?_) (fun hc3=>?_)
     ·rw [if_pos hc3] at hz
      simp (disch:=omega)only[go_sem, *]
      omega
     ·rw [if_neg hc3] at hz
      simp (disch:=omega)only[go_sem, *]
      refine ih _ _ _ ?_ ⟨i+1,left+(kids (nth L i) - 1),rfl, ?_⟩
      ·omega
      ·simp (disch:=omega)only[go_sem, *]
       refine ⟨by omega,by omega,by omega,by omega, ?_⟩
       rw [← hz];congr 1;omega
   ·rw [List.drop_eq_nil_of_le (by omega),DG] at hz
    simp (disch:=omega)only[go_sem, *]
  ·simp (disch:=omega)only[go_sem, *]
   ((repeat' refine And.intro ?_ ?_)<;>first | omega | assumption | ((congr 1;omega)) | ((simp only [size];rw [if_neg (by omega)];congr 1;omega)))
def Dx (L:List Node):Bool:=decide (0<L.length∧size L 0=L.length)
theorem HV {L:List Node}:Pf tp Sv [.fl 3 (L.map Node.enc)] (.b (Dx L)):=by
 refine AN kZ (by simp [Ls]) fun rp=>?_;unfold Ls;simp (disch:=omega)only[go_sem, *]
 refine AD (fun hc=>?_) (fun hc=>?_)
 ·simp (disch:=omega)only[go_sem, *]
  refine Pf.go (Xk) (by simp only [go_sem]) fun _=>?_;simp (disch:=omega)only[go_sem, *]
  simp only [Dx]
  congr 1
  simp;omega
 ·simp (disch:=omega)only[go_sem, *]
  simp only [Dx]
  simp;omega
def Kf (a b:Int):Int:=min 4097 (a+min 4097 b)
def F6 (n t:Int):Int:=min 4097 (min 4097 n*t)
theorem NP {a b:Int} (ha:0≤a∧a≤4097) (hb:0≤b):Pf tp SI [.i .i64 a,.i .i64 b] (.i .i64 (Kf a b)):=by
 refine AN lO (by simp [LH]) fun rp=>?_;unfold LH;simp (disch:=omega)only[go_sem, *]
 rfl
theorem O9 {n t:Int} (hn:0≤n) (ht:0≤t∧t≤4097):Pf tp SH [.i .i64 n,.i .i64 t] (.i .i64 (F6 n t)):=by
 have h1:0≤min 4097 n*t:=Int.mul_nonneg (by omega) ht.1
 have h2:min 4097 n*t≤4097*4097:=Int.mul_le_mul (by omega) ht.2 ht.1 (by omega)
 refine AN lN (by simp [LG]) fun rp=>?_;unfold LG;simp (disch:=omega)only[go_sem, *]
 rfl
end Go.Ab.T
namespace Go.Ab.T
open Go Go.Ab
structure Frame where
 node:Node
 left:Int
 depth:Int
 ticks:Int
 deriving DecidableEq,Inhabited
@[go_sem] def Frame.enc (f:Frame):List V:=[.i .i64 f.node.kind,.i .i64 f.node.part,.i .i64 f.node.n,.i .i64 f.left,.i .i64 f.depth,.i .i64 f.ticks]
def Frame.out (f:Frame):Int:=if f.node.kind=4 then F6 f.node.n f.ticks else f.ticks
def Frame.take (up top:Frame):Frame:=⟨up.node,up.left - 1,max up.depth (top.depth+1),Kf up.ticks top.out⟩
def Dh:List Frame→List Frame
 | []=>[]
 | [t]=>[t]
 | top::up::r=>if top.left=0 then Dh (up.take top::r) else top::up::r
termination_by l=>l.length
def AF (n:Node):Frame:=⟨n,kids n,0,if kids n=0 then min 4097 n.n else 0⟩
def CV:List Node→List Frame→List Frame
 | [],s=>s
 | n::l,s=>CV l (Dh (AF n::s))
def BG (L:List Node):Frame:=nth (CV L [⟨⟨0,0,0⟩,1,0,0⟩]).reverse 0
structure BZ (p:Int) (f:Frame):Prop where
 n0:f.node.kind≠4∨0<f.node.n∨f.left<0
 left : -1 - p≤f.left∧f.left≤128
 depth:0≤f.depth∧f.depth≤p
 ticks:0≤f.ticks∧f.ticks≤4097
theorem BZ.more {p:Int} {f:Frame} (h:BZ p f):BZ (p+1) f:=⟨h.n0,by have:=h.left;omega,by have:=h.depth;omega,h.ticks⟩
theorem WH {a b:Int} (ha:0≤a) (hb:0≤b):0≤Kf a b∧Kf a b≤4097:=by unfold Kf;omega
theorem Iu {a b:Int} (ha:0≤a) (hb:0≤b):0≤F6 a b∧F6 a b≤4097:=by
 unfold F6
 have h1:0≤min 4097 a*b:=Int.mul_nonneg (by omega) hb
 omega
theorem Frame.out_bd {p:Int} {f:Frame} (h:BZ p f) (hl:f.left=0):0≤f.out∧f.out≤4097:=by
 unfold Frame.out
 have:=h.n0;have:=h.ticks
 split
 ·exact Iu (by omega) (by omega)
 ·omega
theorem BZ.took {p:Int} {u t:Frame} (hu:BZ p u) (ht:BZ p t) (hl:t.left=0):BZ (p+1) (u.take t):=by
 have a:=hu.n0;have b:=hu.left;have c:=hu.depth;have d:=hu.ticks
 have e:=ht.depth;have o:=Frame.out_bd ht hl
 refine ⟨?_, ?_, ?_, ?_⟩
 ·simp only [Frame.take];omega
 ·simp only [Frame.take];omega
 ·simp only [Frame.take];omega
 ·simp only [Frame.take];exact WH d.1 o.1
theorem Km {p:Int} {n:Node} (hp:0≤p):BZ p (AF n):=by
 have hk:=GO n
 refine ⟨?_,by simp only [AF];omega,by simp only [AF];omega, ?_⟩
 ·simp only [AF]
  by_cases h:kids n<0
  ·omega
  ·right;left
   unfold kids at h
   (repeat' split at h)<;>omega
 ·simp only [AF]
  split
  ·rename_i h
   have:1≤n.n:=by unfold kids at h;(repeat' split at h)<;>omega
   omega
  ·omega
def Ec (p:Int) (S:List Frame):Prop:=∀ f∈S,BZ p f
theorem Ec.more {p:Int} {S:List Frame} (h:Ec p S):Ec (p+1) S:=fun f hf=>(h f hf).more
end Go.Ab.T
namespace Go.Ab.T
open Go Go.Ab
set_option maxHeartbeats 4000000
theorem Xd {top up:Frame} {r:List Frame}:nth (top::up::r).reverse (r.length+1)=top:=by simp [nth,List.getD]
theorem nM {top up:Frame} {r:List Frame}:nth (top::up::r).reverse r.length=up:=by simp [nth,List.getD]
theorem Kq {top up:Frame} {r:List Frame}:(top::up::r).reverse.take (r.length+1)=(up::r).reverse:=by
 rw [List.reverse_cons,List.take_append_of_le_length (by simp)]
 exact List.take_of_length_le (by simp)
theorem Jj {up u:Frame} {r:List Frame}:(up::r).reverse.set r.length u=(u::r).reverse:=by
 rw [List.reverse_cons,List.reverse_cons,List.set_append_right _ _ (by simp)]
 simp
structure Y7 (v:V) (len i:Nat) (F:List Frame) (p:Nat) (S:List Frame) (st:V) (e:Env) (h:AH):Prop where
 e4:e 4=st
 e12:e 12=v
 e13:e 13=.i .i64 len
 e14:e 14=.i .i64 i
 hl:h.lim=0
 sl:Sl 0 h 6 st (S.reverse.map Frame.enc)
 ok:Ec p S
 cnt:p+S.length=i+2
 pos:1≤S.length
 fin:Dh S=F
theorem Hp {v : V} {len i : Nat} {F : List Frame} {Q : Ex → Env → AH → Prop} (hi : i < 4294967296)
    (hQ:∀ p st e h',Y7 v len i F p F st e h'→Q (.ex 2) e h'):∀ n e h',(∃ p S st,n=S.length∧Y7 v len i F p S st e h')→ZC tp (.loop LP) e h' Q:=by
 refine Au _ ?_
 rintro n e h' ⟨p,S,st,rfl,⟨e4,e12,e13,e14,hl,sl,ok,cnt,pos,fin⟩⟩ ih
 obtain ⟨slen,sbig,slt,slo,sget,sat,srow,sc,scs⟩:=sl.facts
 have srl:=fun j (hj:j<(S.reverse.map Frame.enc).length)=>sl.rowlt hj
 simp only [List.length_reverse,List.length_map] at slen sbig slt slo sget sat srow srl
 rw [AA LP.eq_1]
 simp (disch:=omega)only[go_sem, *]
 refine AD (fun hc=>?_) (fun hc=>?_)
 ·obtain ⟨top,up,r,rfl⟩:∃ top up r,S=top::up::r:=by
   match S,hc with
   | [],hc=>simp at hc
   | [_],hc=>simp at hc
   | a::b::r,_=>exact ⟨a,b,r,rfl⟩
  have hr0:=Xd (top:=top) (up:=up) (r:=r)
  have hr1:=nM (top:=top) (up:=up) (r:=r)
  simp only [List.length_cons,Int.natCast_add,Int.natCast_one] at slen sbig slt slo sget sat srow srl cnt hc
  have k1:((r.length:Int)+1).toNat=r.length+1:=by omega
  have k2:((r.length:Int)+1+1 - 2).toNat=r.length:=by omega
  have srl0:=srl r.length (by omega)
  have spre:∀ {k:IntKind} {j:Int} {cs:List (List V)},0≤j→j≤(r.length:Int)+1+1→FI (some ⟨6,cs⟩) 6 st none (some (.i k j)) none=some (BM st j.toNat):=fun h0 h1=>sl.pre h0 (by simp;omega)
  have okt:=ok top (by simp)
  have oku:=ok up (by simp)
  have bt:=okt.left;have bd:=okt.depth;have bk:=okt.ticks
  have ut:=oku.left;have ud:=oku.depth;have uk:=oku.ticks
  have sct:=Ee (n:=r.length+1) scs
  simp (disch:=omega)only[go_sem, *]
  refine Af (fun hc2=>?_) (fun hc2=>?_)
  ·simp (disch:=omega)only[go_sem, *]
   refine Af (fun hc3=>?_) (fun hc3=>?_)
   ·have:=okt.n0
    simp (disch:=omega)only[go_sem, *]
    have hb:=Iu (a:=top.node.n) (b:=top.ticks) (by omega) (by omega)
    refine Pf.go ((O9 (by omega) (by omega))) (by simp only [go_sem]) fun _=>?_;simp (disch:=omega)only[go_sem, *]
    refine Pf.go ((NP (by omega) hb.1)) (by simp only [go_sem]) fun _=>?_;simp (disch:=omega)only[go_sem, *]
    refine ih _ _ _ ?_ ⟨p+1,up.take top::r,BM st (r.length+1),rfl, ?_, ?_, ?_, ?_, ?_, ?_, ?_, ?_, ?_, ?_⟩
    ·simp
    ·simp (disch:=omega)only[go_sem, *]
    ·simp (disch:=omega)only[go_sem, *]
    ·simp (disch:=omega)only[go_sem, *]
    ·simp (disch:=omega)only[go_sem, *]
    ·simp (disch:=omega)only[go_sem, *]
    ·have st1:=sl.truncd (n:=r.length+1) (by simp)
     rw [← List.map_take,Kq] at st1
     rw [← Jj (up:=up)]
     refine st1.setT (by simp) ?_ ?_
     ·simp (disch:=omega)only[go_sem, *]
      omega
     ·simp (disch:=omega)only[go_sem, *]
      simp only [Frame.take,Frame.out,if_pos hc3]
    ·intro f hf
     rcases List.mem_cons.1 hf with rfl | hf
     ·exact BZ.took oku okt hc2
     ·exact (ok f (by simp [hf])).more
    ·simp only [List.length_cons] at cnt ⊢;omega
    ·simp
    ·rw [← fin];conv=>rhs;rw [Dh,if_pos hc2]
   ·simp (disch:=omega)only[go_sem, *]
    refine Pf.go ((NP (by omega) (by omega))) (by simp only [go_sem]) fun _=>?_;simp (disch:=omega)only[go_sem, *]
    refine ih _ _ _ ?_ ⟨p+1,up.take top::r,BM st (r.length+1),rfl, ?_, ?_, ?_, ?_, ?_, ?_, ?_, ?_, ?_, ?_⟩
    ·simp
    ·simp (disch:=omega)only[go_sem, *]
    ·simp (disch:=omega)only[go_sem, *]
    ·simp (disch:=omega)only[go_sem, *]
    ·simp (disch:=omega)only[go_sem, *]
    ·simp (disch:=omega)only[go_sem, *]
    ·have st1:=sl.truncd (n:=r.length+1) (by simp)
     rw [← List.map_take,Kq] at st1
     rw [← Jj (up:=up)]
     refine st1.setT (by simp) ?_ ?_
     ·simp (disch:=omega)only[go_sem, *]
      omega
     ·simp (disch:=omega)only[go_sem, *]
      simp only [Frame.take,Frame.out,if_neg hc3]
    ·intro f hf
     rcases List.mem_cons.1 hf with rfl | hf
     ·exact BZ.took oku okt hc2
     ·exact (ok f (by simp [hf])).more
    ·simp only [List.length_cons] at cnt ⊢;omega
    ·simp
    ·rw [← fin];conv=>rhs;rw [Dh,if_pos hc2]
  ·simp (disch:=omega)only[go_sem, *]
   have hF:top::up::r=F:=by rw [← fin,Dh,if_neg hc2]
   rw [hF] at fin sl ok pos
   refine hQ p st _ _ ⟨?_, ?_, ?_, ?_,hl,sl,ok, ?_,pos,fin⟩
   ·simp (disch:=omega)only[go_sem, *]
   ·simp (disch:=omega)only[go_sem, *]
   ·simp (disch:=omega)only[go_sem, *]
   ·simp (disch:=omega)only[go_sem, *]
   ·rw [← hF];simpa using cnt
 ·simp (disch:=omega)only[go_sem, *]
  have hF:S=F:=by
   match S,hc,pos with
   | [t],_,_=>rw [← fin,Dh]
   | a::b::r,hc,_=>simp at hc;omega
  rw [hF] at fin sl ok pos cnt
  refine hQ p st _ _ ⟨?_, ?_, ?_, ?_,hl,sl,ok,cnt,pos,fin⟩
  ·simp (disch:=omega)only[go_sem, *]
  ·simp (disch:=omega)only[go_sem, *]
  ·simp (disch:=omega)only[go_sem, *]
  ·simp (disch:=omega)only[go_sem, *]
theorem Hx:∀ (S:List Frame),1≤S.length→1≤(Dh S).length
 | [],h=>by simp at h
 | [t],_=>by rw [Dh];simp
 | t::u::r,_=>by
  rw [Dh]
  split
  ·exact Hx (u.take t::r) (by simp)
  ·simp
termination_by S=>S.length
theorem Hq {L:List Node}:Pf tp SD [.fl 3 (L.map Node.enc)] (.tup [.i .i64 (BG L).depth,.i .i64 (BG L).ticks]):=by
 refine AN lJ (by simp [LC]) fun rp=>?_;unfold LC;simp (disch:=omega)only[go_sem, *]
 have hL:=rp.head.len
 refine Au (fun n e h=>∃ (i:Nat) (st:V) (p:Nat) (S:List Frame),n=L.length - i∧h.lim=0∧e 12=.fl 3 (L.map Node.enc)∧e 13=.i .i64 L.length∧e 14=.i .i64 i∧e 4=st∧i≤L.length∧Sl 0 h 6 st (S.reverse.map Frame.enc)∧Ec p S∧p+S.length=i+1∧1≤S.length∧CV (L.drop i) S=CV L [⟨⟨0,0,0⟩,1,0,0⟩]) ?_ _ _ _ ⟨0,.sl 0 0 1 1,0,[⟨⟨0,0,0⟩,1,0,0⟩],rfl, ?_⟩
 ·rintro n e h ⟨i,st,p,S,rfl,hl,e12,e13,e14,e4,hi,sl,ok,cnt,pos,hz⟩ ih
  rw [AA P7.eq_1]
  simp (disch:=omega)only[go_sem, *]
  refine Af (fun hc=>?_) (fun hc=>?_)
  ·rw [AX (by omega),CV] at hz
   have hkb:=GO (nth L i)
   simp (disch:=omega)only[go_sem, *]
   refine Pf.go (NK) (by simp only [go_sem]) fun _=>?_;simp (disch:=omega)only[go_sem, *]
   have x1:Am h ((h.alloc ⟨3,[[.i .i64 0,.i .i64 0,.i .i64 0]]⟩).put h.next ⟨3,[Node.enc (nth L i)]⟩):=by (repeat (first | exact Am.refl _ | refine Am.alloc ?_ _ | (refine Am.put ?_ _ _ ?_;rotate_left;(first | omega | (simp only [Aa,Ae];omega)))))
   refine AQ (R:=S.reverse.map Frame.enc) ((sl.ext x1).alloc _) (by simp only [go_sem, *]) (Nat.zero_le _) (by simp;omega) ?_
   intro w h4 s4 g4
   have hl4:=g4.lim
   have hn4:=g4.next
   have s5:Sl 0 h4 6 w ((⟨nth L i,kids (nth L i),0,0⟩::S).reverse.map Frame.enc):=by simpa [Frame.enc] using s4
   obtain ⟨slen,sbig,slt,slo,sget,sat,srow,sc,scs⟩:=s5.facts
   simp only [List.length_reverse,List.length_cons,Int.natCast_add,Int.natCast_one] at slen sbig slt slo sget sat srow
   have srl:=s5.rowlt (j:=S.length) (by simp)
   simp only [Aa,Ae,Bn,GP] at hn4 hl4
   have hb4:h4.get h.next=some ⟨3,[Node.enc (nth L i)]⟩:=by
    have hne:AI st=true∨h.next≠Aq st:=by
     refine .inr ?_
     have:=(sl.facts).lt (by simp;omega)
     omega
    rw [g4.get _ (by simp only [Aa,Ae];omega) hne]
    simp (disch:=omega)only[go_sem, *]
   have hrv:nth (⟨nth L i,kids (nth L i),0,0⟩::S).reverse S.length=⟨nth L i,kids (nth L i),0,0⟩:=by simp [nth,List.getD]
   have hnl:(0:Int)≤L.length:=by omega
   simp (disch:=omega)only[Node.enc] at hb4
   rw [hl] at hl4
   simp (disch:=omega)only[go_sem, *]
   refine Af (fun hc2=>?_) (fun hc2=>?_)
   ·have hkn:1≤(nth L i).n:=by unfold kids at hc2;(repeat' split at hc2)<;>omega
    have hrv0:=hrv
    rw [hc2] at hrv0
    simp (disch:=omega)only[go_sem, *]
    refine Hp (v:=.fl 3 (L.map Node.enc)) (len:=L.length) (i:=i) (F:=Dh (AF (nth L i)::S)) (by omega) ?_ _ _ _ ⟨p,AF (nth L i)::S,w,rfl, ?_, ?_, ?_, ?_, ?_, ?_, ?_, ?_, ?_, ?_⟩
    ·intro p' st' e' h' m
     have hpos:=Hx (AF (nth L i)::S) (by simp)
     obtain ⟨m4,m12,m13,m14,ml,ms,mo,mc,mp,mf⟩:=m
     simp (disch:=omega)only[go_sem, *]
     refine ih _ _ _ ?_ ⟨i+1,st',p',Dh (AF (nth L i)::S),rfl, ?_⟩
     ·omega
     ·simp (disch:=omega)only[go_sem, *]
      ((repeat' refine And.intro ?_ ?_)<;>first | omega | assumption | (exact ms))
    ·simp (disch:=omega)only[go_sem, *]
    ·simp (disch:=omega)only[go_sem, *]
    ·simp (disch:=omega)only[go_sem, *]
    ·simp (disch:=omega)only[go_sem, *]
    ·simp (disch:=omega)only[go_sem, *]
    ·(have hpf:AF (nth L i)=⟨nth L i,kids (nth L i),0,min 4097 (nth L i).n⟩:=(by simp only [AF,if_pos hc2]);rw [hpf,←Jj (up:=⟨nth L i,kids (nth L i),0,0⟩)];refine s5.setT (j:=S.length) (by simp) ?_ ?_;all_goals (first | (simp (disch:=omega)only[go_sem, *];done) | (simp (disch:=omega)only[go_sem, *];omega) | omega))
    ·intro f hf
     rcases List.mem_cons.1 hf with rfl | hf
     ·exact Km (by omega)
     ·exact ok f hf
    ·simp only [List.length_cons];omega
    ·simp
    ·rfl
   ·simp (disch:=omega)only[go_sem, *]
    refine Hp (v:=.fl 3 (L.map Node.enc)) (len:=L.length) (i:=i) (F:=Dh (AF (nth L i)::S)) (by omega) ?_ _ _ _ ⟨p,AF (nth L i)::S,w,rfl, ?_, ?_, ?_, ?_, ?_, ?_, ?_, ?_, ?_, ?_⟩
    ·intro p' st' e' h' m
     have hpos:=Hx (AF (nth L i)::S) (by simp)
     obtain ⟨m4,m12,m13,m14,ml,ms,mo,mc,mp,mf⟩:=m
     simp (disch:=omega)only[go_sem, *]
     refine ih _ _ _ ?_ ⟨i+1,st',p',Dh (AF (nth L i)::S),rfl, ?_⟩
     ·omega
     ·simp (disch:=omega)only[go_sem, *]
      ((repeat' refine And.intro ?_ ?_)<;>first | omega | assumption | (exact ms))
    ·simp (disch:=omega)only[go_sem, *]
    ·simp (disch:=omega)only[go_sem, *]
    ·simp (disch:=omega)only[go_sem, *]
    ·simp (disch:=omega)only[go_sem, *]
    ·simp (disch:=omega)only[go_sem, *]
    ·(have hpf:AF (nth L i)=⟨nth L i,kids (nth L i),0,0⟩:=(by simp only [AF,if_neg hc2]);rw [hpf];exact s5)
    ·intro f hf
     rcases List.mem_cons.1 hf with rfl | hf
     ·exact Km (by omega)
     ·exact ok f hf
    ·simp only [List.length_cons];omega
    ·simp
    ·rfl
  ·rw [List.drop_eq_nil_of_le (by omega),CV] at hz
   have hme:BG L=nth S.reverse 0:=by rw [BG,←hz]
   obtain ⟨slen,sbig,slt,slo,sget,sat,srow,_,_⟩:=sl.facts
   simp only [List.length_reverse] at slen sbig slt slo sget sat srow
   have z0:Int.toNat 0=0:=rfl
   have srow0:=srow 0 (by omega)
   rw [Nat.add_zero] at srow0
   have hsl:(0:Int)<S.length:=by omega
   simp (disch:=omega)only[go_sem, *]
 ·simp (disch:=omega)only[go_sem, *]
  refine ⟨?_, ?_⟩
  ·exact .inr ⟨0,0,1,_,rfl,rfl,by simp,by simp [Frame.enc],by simp,by simp [AH.alloc,AH.emp],Nat.le_refl _,by simp⟩
  ·intro f hf
   simp only [List.mem_singleton] at hf
   subst hf
   exact ⟨.inl (by simp),by simp,by simp,by simp⟩
end Go.Ab.T
namespace Go.Ab.T
open Go Go.Ab
def J9 (L:List Node):Bool:=decide (Dx L=true∧(BG L).ticks≤4096)
def Wu (L:List Node):Int:=if J9 L=true then (BG L).ticks else 0
theorem H4 {L:List Node}:Pf tp Su [.fl 3 (L.map Node.enc)] (.tup [.i .i64 (Wu L),.b (J9 L)]):=by
 refine AN kY (by simp [Lr]) fun rp=>?_;unfold Lr;simp (disch:=omega)only[go_sem, *]
 refine Pf.go (HV) (by simp only [go_sem]) fun _=>?_;simp (disch:=omega)only[go_sem, *]
 refine BS (fun hc=>?_) (fun hc=>?_)
 ·simp (disch:=omega)only[go_sem, *]
  simp at hc
  simp [Wu,J9,hc]
 ·simp at hc
  simp (disch:=omega)only[go_sem, *]
  refine Pf.go (Hq) (by simp only [go_sem]) fun _=>?_;simp (disch:=omega)only[go_sem, *]
  refine Af (fun hc2=>?_) (fun hc2=>?_)
  ·simp (disch:=omega)only[go_sem, *]
   simp [Wu,J9,hc,hc2]
  ·simp (disch:=omega)only[go_sem, *]
   simp [Wu,J9,hc,hc2]
def OC (L:List Node):Int:=if Dx L=true then (BG L).depth else 0
theorem Jc {L:List Node}:Pf tp Sw [.fl 3 (L.map Node.enc)] (.i .i64 (OC L)):=by
 refine AN lA (by simp [Lt]) fun rp=>?_;unfold Lt;simp (disch:=omega)only[go_sem, *]
 refine Pf.go (HV) (by simp only [go_sem]) fun _=>?_;simp (disch:=omega)only[go_sem, *]
 refine BS (fun hc=>?_) (fun hc=>?_)
 ·simp (disch:=omega)only[go_sem, *]
  simp at hc
  simp [OC,hc]
 ·simp at hc
  simp (disch:=omega)only[go_sem, *]
  refine Pf.go (Hq) (by simp only [go_sem]) fun _=>?_;simp (disch:=omega)only[go_sem, *]
  simp [OC,hc]
def A9 (L:List Node):Int:=if 128<L.length then 3 else if Dx L=false then 12 else if 16<OC L then 14 else if J9 L=false then 18 else 0
theorem FA {L:List Node}:Pf tp So [.fl 3 (L.map Node.enc)] (.i .i64 (A9 L)):=by
 refine AN kS (by simp [Ll]) fun rp=>?_;unfold Ll;simp (disch:=omega)only[go_sem, *]
 refine Pf.go (H4) (by simp only [go_sem]) fun _=>?_;simp (disch:=omega)only[go_sem, *]
 refine Af (fun hc=>?_) (fun hc=>?_)
 ·simp (disch:=omega)only[go_sem, *]
  simp only [A9];rw [if_pos (by omega)]
 simp (disch:=omega)only[go_sem, *]
 refine Pf.go (HV) (by simp only [go_sem]) fun _=>?_;simp (disch:=omega)only[go_sem, *]
 refine BS (fun hc2=>?_) (fun hc2=>?_)
 ·simp (disch:=omega)only[go_sem, *]
  simp at hc2
  simp only [A9];rw [if_neg (by omega),if_pos hc2]
 simp at hc2
 simp (disch:=omega)only[go_sem, *]
 refine Pf.go (Jc) (by simp only [go_sem]) fun _=>?_;simp (disch:=omega)only[go_sem, *]
 refine Af (fun hc3=>?_) (fun hc3=>?_)
 ·simp (disch:=omega)only[go_sem, *]
  simp only [A9];rw [if_neg (by omega),if_neg (by simp [hc2]),if_pos (by omega)]
 simp (disch:=omega)only[go_sem, *]
 refine BS (fun hc4=>?_) (fun hc4=>?_)
 ·simp (disch:=omega)only[go_sem, *]
  simp at hc4
  simp only [A9];rw [if_neg (by omega),if_neg (by simp [hc2]),if_neg (by omega),if_pos hc4]
 ·simp (disch:=omega)only[go_sem, *]
  simp at hc4
  simp only [A9];rw [if_neg (by omega),if_neg (by simp [hc2]),if_neg (by omega),if_neg (by simp [hc4])]
end Go.Ab.T
namespace Go.Ab.T
open Go Go.Ab
def Eh (x:Node):Int:=if x.kind=2 then -1 else x.part
theorem WX {x:Node}:Pf tp Sx [.agg x.enc] (.i .i64 (Eh x)):=by
 refine AN lC (by simp [Lv]) fun rp=>?_;unfold Lv;simp (disch:=omega)only[go_sem, *]
 repeat' (first | (refine AD (fun hc=>?_) (fun hc=>?_)<;>simp (disch:=omega)only[go_sem, *]) | (refine Af (fun hc=>?_) (fun hc=>?_)<;>simp (disch:=omega)only[go_sem, *]))
 ·simp [Eh, *]
 ·simp [Eh, *]
theorem J6 (x:Node) (h:0≤kids x):(x.kind=3→kids x=x.n)∧(x.kind=4→kids x=1)∧(x.kind≠3→x.kind≠4→kids x=0):=by
 unfold kids at h ⊢
 refine ⟨fun hk=>?_,fun hk=>?_,fun h3 h4=>?_⟩<;>(repeat' split)<;>(repeat' split at h)<;>omega
end Go.Ab.T
namespace Go.Ab.T
open Go Go.Ab
inductive Fo where
 | nil
 | leaf (x:Node) (r:Fo)
 | seq (x:Node) (k r:Fo)
 | rep (x:Node) (k r:Fo)
namespace Fo
def flat:Fo→List Node
 | nil=>[]
 | leaf x r=>x::flat r
 | seq x k r=>x::(flat k++flat r)
 | rep x k r=>x::(flat k++flat r)
def count:Fo→Nat
 | nil=>0
 | leaf _ r=>count r+1
 | seq _ _ r=>count r+1
 | rep _ _ r=>count r+1
def ok:Fo→Prop
 | nil=>True
 | leaf x r=>T.kids x=0∧ok r
 | seq x k r=>x.kind=3∧T.kids x=count k∧0<count k∧ok k∧ok r
 | rep x k r=>x.kind=4∧T.kids x=1∧count k=1∧ok k∧ok r
def depth:Fo→Nat
 | nil=>0
 | leaf _ r=>max 1 (depth r)
 | seq _ k r=>max (depth k+1) (depth r)
 | rep _ k r=>max (depth k+1) (depth r)
def len:Fo→Int
 | nil=>0
 | leaf x r=>x.n+len r
 | seq _ k r=>len k+len r
 | rep x k r=>x.n*len k+len r
theorem split:∀ (f:Fo) (a b:Nat),count f=a+b→ok f→∃ f1 f2,flat f=flat f1++flat f2∧count f1=a∧count f2=b∧ok f1∧ok f2
 | f,0,b,hc,ho=>⟨nil,f,by simp [flat],rfl,by omega,trivial,ho⟩
 | nil,a+1,b,hc,ho=>by simp only [count] at hc;omega
 | leaf x r,a+1,b,hc,ho=>by
  obtain ⟨f1,f2,h1,h2,h3,h4,h5⟩:=split r a b (by simp only [count] at hc;omega) ho.2
  exact ⟨leaf x f1,f2,by simp [flat,h1],by simp [count,h2],h3,⟨ho.1,h4⟩,h5⟩
 | seq x k r,a+1,b,hc,ho=>by
  obtain ⟨f1,f2,h1,h2,h3,h4,h5⟩:=split r a b (by simp only [count] at hc;omega) ho.2.2.2.2
  exact ⟨seq x k f1,f2,by simp [flat,h1],by simp [count,h2],h3,⟨ho.1,ho.2.1,ho.2.2.1,ho.2.2.2.1,h4⟩,h5⟩
 | rep x k r,a+1,b,hc,ho=>by
  obtain ⟨f1,f2,h1,h2,h3,h4,h5⟩:=split r a b (by simp only [count] at hc;omega) ho.2.2.2.2
  exact ⟨rep x k f1,f2,by simp [flat,h1],by simp [count,h2],h3,⟨ho.1,ho.2.1,ho.2.2.1,ho.2.2.2.1,h4⟩,h5⟩
end Fo
theorem Fo.nil_of {f:Fo} (h:f.count=0):f=.nil:=by cases f<;>simp [Fo.count] at h ⊢
theorem EF:∀ (f:Fo) (R:List Node) (left n:Int),f.ok→((f.count:Int)<left→DG (f.flat++R) left n=DG R (left - f.count) (n+f.flat.length))∧(0<f.count→left=f.count→DG (f.flat++R) left n=n+f.flat.length)
 | .nil,R,left,n,ho=>⟨fun _=>by simp [Fo.flat,Fo.count],fun h=>by simp [Fo.count] at h⟩
 | .leaf x r,R,left,n,ho=>by
  obtain ⟨hk,hor⟩:=ho
  have ih:=EF r R (left+(kids x - 1)) (n+1) hor
  simp only [Fo.flat,Fo.count,List.cons_append,DG,List.length_cons]
  rw [if_neg (by omega)]
  refine ⟨fun h=>?_,fun _ h=>?_⟩
  ·rw [if_neg (by omega),ih.1 (by omega)];congr 1<;>omega
  ·by_cases hr:r.count=0
   ·rw [if_pos (by omega),Fo.nil_of hr];simp [Fo.flat]
   ·rw [if_neg (by omega),ih.2 (by omega) (by omega)];omega
 | .seq x k r,R,left,n,ho=>by
  obtain ⟨h3,hk,hp,hok,hor⟩:=ho
  have i1:=EF k (r.flat++R) (left+(kids x - 1)) (n+1) hok
  have i2:=EF r R (left+(kids x - 1) - k.count) (n+1+k.flat.length) hor
  simp only [Fo.flat,Fo.count,List.cons_append,DG,List.length_cons,List.append_assoc,List.length_append]
  rw [if_neg (by omega)]
  refine ⟨fun h=>?_,fun _ h=>?_⟩
  ·rw [if_neg (by omega),i1.1 (by omega),i2.1 (by omega)];congr 1<;>omega
  ·by_cases hr:r.count=0
   ·rw [if_neg (by omega),i1.2 (by omega) (by omega),Fo.nil_of hr];simp [Fo.flat];omega
   ·rw [if_neg (by omega),i1.1 (by omega),i2.2 (by omega) (by omega)];omega
 | .rep x k r,R,left,n,ho=>by
  obtain ⟨h3,hk,hp,hok,hor⟩:=ho
  have i1:=EF k (r.flat++R) (left+(kids x - 1)) (n+1) hok
  have i2:=EF r R (left+(kids x - 1) - k.count) (n+1+k.flat.length) hor
  simp only [Fo.flat,Fo.count,List.cons_append,DG,List.length_cons,List.append_assoc,List.length_append]
  rw [if_neg (by omega)]
  refine ⟨fun h=>?_,fun _ h=>?_⟩
  ·rw [if_neg (by omega),i1.1 (by omega),i2.1 (by omega)];congr 1<;>omega
  ·by_cases hr:r.count=0
   ·rw [if_neg (by omega),i1.2 (by omega) (by omega),Fo.nil_of hr];simp [Fo.flat];omega
   ·rw [if_neg (by omega),i1.1 (by omega),i2.2 (by omega) (by omega)];omega
theorem E2 (x:Node) (h:0≤kids x):(kids x=0∧x.kind≠3∧x.kind≠4)∨(x.kind=3∧0<kids x)∨(x.kind=4∧kids x=1):=by
 have hk:=J6 x h
 by_cases h3:x.kind=3
 ·right;left
  refine ⟨h3, ?_⟩
  have:=hk.1 h3
  unfold kids at h this ⊢
  (repeat' split at h)<;>omega
 ·by_cases h4:x.kind=4
  ·exact .inr (.inr ⟨h4,hk.2.1 h4⟩)
  ·exact .inl ⟨hk.2.2 h3 h4,h3,h4⟩
theorem KA:∀ (L:List Node) (left:Nat) (n:Int),0<left→0≤n→DG L left n≠0→∃ (f:Fo) (R:List Node),f.ok∧f.count=left∧L=f.flat++R∧DG L left n=n+f.flat.length
 | [],left,n,hl,hn,hz=>by simp [DG] at hz
 | x::r,left,n,hl,hn,hz=>by
  by_cases hk:kids x<0
  ·rw [DG,if_pos hk] at hz;exact absurd rfl hz
  ·by_cases h0:(left:Int)+(kids x - 1)=0
   ·have hkx:kids x=0:=by omega
    refine ⟨.leaf x .nil,r,⟨hkx,trivial⟩,by simp only [Fo.count];omega,by simp [Fo.flat], ?_⟩
    rw [DG,if_neg hk,if_pos h0];simp [Fo.flat]
   ·rw [DG,if_neg hk,if_neg h0] at hz
    have e:(left:Int)+(kids x - 1)=((kids x).toNat+(left - 1):Nat):=by omega
    rw [e] at hz
    obtain ⟨f,R,hfo,hfc,hL,hs⟩:=KA r _ (n+1) (by omega) (by omega) hz
    obtain ⟨f1,f2,h1,h2,h3,h4,h5⟩:=Fo.split f _ _ hfc hfo
    rcases E2 x (by omega) with ⟨c1,c2,c3⟩ | ⟨c1,c2⟩ | ⟨c1,c2⟩
    ·refine ⟨.leaf x f,R,⟨c1,hfo⟩,by simp only [Fo.count];omega,by simp [Fo.flat,hL], ?_⟩
     rw [DG,if_neg hk,if_neg h0,e,hs];simp only [Fo.flat,List.length_cons];omega
    ·refine ⟨.seq x f1 f2,R,⟨c1,by omega,by omega,h4,h5⟩,by simp only [Fo.count];omega,by simp [Fo.flat,hL,h1], ?_⟩
     rw [DG,if_neg hk,if_neg h0,e,hs,h1];simp only [Fo.flat,List.length_cons];omega
    ·refine ⟨.rep x f1 f2,R,⟨c1,c2,by omega,h4,h5⟩,by simp only [Fo.count];omega,by simp [Fo.flat,hL,h1], ?_⟩
     rw [DG,if_neg hk,if_neg h0,e,hs,h1];simp only [Fo.flat,List.length_cons];omega
theorem IK (L:List Node):Dx L=true↔∃ f:Fo,f.ok∧f.count=1∧L=f.flat:=by
 simp only [Dx,decide_eq_true_eq]
 constructor
 ·rintro ⟨hp,hs⟩
  unfold size at hs
  rw [if_neg (by omega)] at hs
  simp only [Int.toNat_zero,List.drop_zero] at hs
  obtain ⟨f,R,ho,hc,hL,hz⟩:=KA L 1 0 (by omega) (by omega) (by simp only [Int.natCast_one];omega)
  refine ⟨f,ho,hc, ?_⟩
  simp only [Int.natCast_one] at hz
  rw [hz] at hs
  have:R=[]:=by
   have:=congrArg List.length hL
   simp only [List.length_append] at this
   exact List.length_eq_zero_iff.1 (by omega)
  rw [hL,this,List.append_nil]
 ·rintro ⟨f,ho,hc,rfl⟩
  have hp:0<f.flat.length:=by cases f<;>simp [Fo.flat,Fo.count] at hc ⊢
  refine ⟨hp, ?_⟩
  unfold size
  rw [if_neg (by omega)]
  have:=(EF f [] 1 0 ho).2 (by omega) (by omega)
  rw [List.append_nil] at this
  simp only [Int.toNat_zero,List.drop_zero]
  omega
/-! ### The stack machine on a forest -/
def Bz:Frame→Fo→Frame
 | t,.nil=>t
 | t,.leaf x r=>Bz (t.take (AF x)) r
 | t,.seq x k r=>Bz (t.take (Bz (AF x) k)) r
 | t,.rep x k r=>Bz (t.take (Bz (AF x) k)) r
theorem Dz:∀ (f:Fo) (t:Frame),(Bz t f).left=t.left - f.count
 | .nil,t=>by simp [Bz,Fo.count]
 | .leaf x r,t=>by rw [Bz,Dz r];simp only [Frame.take,Fo.count];omega
 | .seq x k r,t=>by rw [Bz,Dz r];simp only [Frame.take,Fo.count];omega
 | .rep x k r,t=>by rw [Bz,Dz r];simp only [Frame.take,Fo.count];omega
theorem DA:∀ (f:Fo) (t:Frame),(Bz t f).node=t.node
 | .nil,t=>by simp [Bz]
 | .leaf x r,t=>by rw [Bz,DA r];simp only [Frame.take]
 | .seq x k r,t=>by rw [Bz,DA r];simp only [Frame.take]
 | .rep x k r,t=>by rw [Bz,DA r];simp only [Frame.take]
theorem Ga {t u:Frame} {S:List Frame} (h:t.left≠0):Dh (t::u::S)=t::u::S:=by rw [Dh,if_neg h]
theorem Jg {t u:Frame} {S:List Frame} (h:t.left=0):Dh (t::u::S)=Dh (u.take t::S):=by rw [Dh,if_pos h]
theorem Kl {t:Frame}:Dh [t]=[t]:=by rw [Dh]
theorem F9 {t:Frame} {S:List Frame} (h:t.left≠0):Dh (t::S)=t::S:=by
 cases S with
 | nil=>exact Kl
 | cons u S=>exact Ga h
theorem C5:∀ (f:Fo) (R:List Node) (t:Frame) (S:List Frame),f.ok→(f.count:Int)≤t.left→0<f.count→CV (f.flat++R) (t::S)=CV R (Dh (Bz t f::S))
 | .nil,R,t,S,ho,hl,hc=>by simp [Fo.count] at hc
 | .leaf x r,R,t,S,ho,hl,hc=>by
  obtain ⟨hk,hor⟩:=ho
  simp only [Fo.count] at hl
  have hp:(AF x).left=0:=by simp only [AF];exact hk
  have ht:(t.take (AF x)).left=t.left - 1:=rfl
  rw [Fo.flat,List.cons_append,CV,Jg hp,Bz]
  by_cases hr:r.count=0
  ·rw [Fo.nil_of hr,Fo.flat,Bz,List.nil_append]
  ·rw [F9 (by omega),C5 r R _ S hor (by omega) (by omega)]
 | .seq x k r,R,t,S,ho,hl,hc=>by
  obtain ⟨h3,hk,hp,hok,hor⟩:=ho
  simp only [Fo.count] at hl
  have hpl:(AF x).left=k.count:=by simp only [AF];exact hk
  have hak:=Dz k (AF x)
  have ht:(t.take (Bz (AF x) k)).left=t.left - 1:=rfl
  rw [Fo.flat,List.cons_append,List.append_assoc,CV,Ga (by omega),Bz,C5 k _ (AF x) (t::S) hok (by omega) hp,Jg (by omega)]
  by_cases hr:r.count=0
  ·rw [Fo.nil_of hr,Fo.flat,Bz,List.nil_append]
  ·rw [F9 (by omega),C5 r R _ S hor (by omega) (by omega)]
 | .rep x k r,R,t,S,ho,hl,hc=>by
  obtain ⟨h3,hk,hp,hok,hor⟩:=ho
  simp only [Fo.count] at hl
  have hpl:(AF x).left=k.count:=by simp only [AF];omega
  have hak:=Dz k (AF x)
  have ht:(t.take (Bz (AF x) k)).left=t.left - 1:=rfl
  rw [Fo.flat,List.cons_append,List.append_assoc,CV,Ga (by omega),Bz,C5 k _ (AF x) (t::S) hok (by omega) (by omega),Jg (by omega)]
  by_cases hr:r.count=0
  ·rw [Fo.nil_of hr,Fo.flat,Bz,List.nil_append]
  ·rw [F9 (by omega),C5 r R _ S hor (by omega) (by omega)]
theorem De {x:Node} (h:0≤kids x):1≤x.n:=by
 unfold kids at h;(repeat' split at h)<;>omega
theorem Fo.len_pos:∀ (f:Fo),f.ok→0≤f.len∧(0<f.count→1≤f.len)
 | .nil,_=>by simp [Fo.len,Fo.count]
 | .leaf x r,ho=>by
  have:=Fo.len_pos r ho.2;have:=De (x:=x) (by rw [ho.1];omega)
  simp only [Fo.len];omega
 | .seq x k r,ho=>by
  have:=Fo.len_pos r ho.2.2.2.2;have h1:=Fo.len_pos k ho.2.2.2.1;have:=ho.2.2.1
  simp only [Fo.len];omega
 | .rep x k r,ho=>by
  have:=Fo.len_pos r ho.2.2.2.2;have h1:=Fo.len_pos k ho.2.2.2.1;have:=ho.2.2.1
  have h2:=De (x:=x) (by rw [ho.2.1];omega)
  have h3:1*1≤x.n*k.len:=Int.mul_le_mul h2 (by omega) (by omega) (by omega)
  simp only [Fo.len];omega
theorem Cp:∀ (f:Fo) (t:Frame),f.ok→0≤t.depth→(Bz t f).depth=max t.depth f.depth
 | .nil,t,ho,ht=>by simp only [Bz,Fo.depth];omega
 | .leaf x r,t,ho,ht=>by
  rw [Bz,Cp r _ ho.2 (by simp only [Frame.take];omega)];simp only [Frame.take,AF,Fo.depth];omega
 | .seq x k r,t,ho,ht=>by
  have:=Cp k (AF x) ho.2.2.2.1 (by simp [AF])
  simp only [AF] at this
  rw [Bz,Cp r _ ho.2.2.2.2 (by simp only [Frame.take];omega)];simp only [Frame.take,AF,Fo.depth,this];omega
 | .rep x k r,t,ho,ht=>by
  have:=Cp k (AF x) ho.2.2.2.1 (by simp [AF])
  simp only [AF] at this
  rw [Bz,Cp r _ ho.2.2.2.2 (by simp only [Frame.take];omega)];simp only [Frame.take,AF,Fo.depth,this];omega
theorem QW {n l:Int} (hn:1≤n) (hl:1≤l):min 4097 (min 4097 n*min 4097 l)=min 4097 (n*l):=by
 by_cases h1:n≤4097
 ·by_cases h2:l≤4097
  ·rw [Int.min_eq_right h1,Int.min_eq_right h2]
  ·have a:1*l≤n*l:=Int.mul_le_mul_of_nonneg_right hn (by omega)
   have b:1*4097≤n*4097:=Int.mul_le_mul_of_nonneg_right hn (by omega)
   rw [Int.min_eq_right h1,Int.min_eq_left (by omega:4097≤l)];omega
 ·have a:n*1≤n*l:=Int.mul_le_mul_of_nonneg_left hl (by omega)
  have b:4097*1≤4097*min 4097 l:=Int.mul_le_mul_of_nonneg_left (by omega) (by omega)
  rw [Int.min_eq_left (by omega:4097≤n)];omega
theorem Cr:∀ (f:Fo) (t:Frame),f.ok→0≤t.ticks∧t.ticks≤4097→(Bz t f).ticks=min 4097 (t.ticks+f.len)
 | .nil,t,ho,ht=>by simp only [Bz,Fo.len];omega
 | .leaf x r,t,ho,ht=>by
  have h1:=De (x:=x) (by rw [ho.1];omega)
  have h4:x.kind≠4:=by
   have:=E2 x (by rw [ho.1];omega)
   rw [ho.1] at this;omega
  have hl:=(Fo.len_pos r ho.2).1
  have e:(t.take (AF x)).ticks=min 4097 (t.ticks+x.n):=by
   simp only [Frame.take,Frame.out,AF,Kf,if_neg h4,if_pos ho.1];omega
  rw [Bz,Cr r _ ho.2 (by rw [e];omega),e];simp only [Fo.len];omega
 | .seq x k r,t,ho,ht=>by
  have hk:=Cr k (AF x) ho.2.2.2.1 (by
   have:=ho.2.2.1;have:=ho.2.1
   simp only [AF];rw [if_neg (by omega)];omega)
  have hl:=(Fo.len_pos r ho.2.2.2.2).1
  have hlk:=(Fo.len_pos k ho.2.2.2.1).1
  have h0:(AF x).ticks=0:=by
   have:=ho.2.2.1;have:=ho.2.1
   simp only [AF];rw [if_neg (by omega)]
  have e:(t.take (Bz (AF x) k)).ticks=min 4097 (t.ticks+k.len):=by
   simp only [Frame.take,Frame.out,DA,Kf,hk,h0]
   rw [if_neg (by simp only [AF];have:=ho.1;omega)];omega
  rw [Bz,Cr r _ ho.2.2.2.2 (by rw [e];omega),e];simp only [Fo.len];omega
 | .rep x k r,t,ho,ht=>by
  have hk:=Cr k (AF x) ho.2.2.2.1 (by
   have:=ho.2.1
   simp only [AF];rw [if_neg (by omega)];omega)
  have hl:=(Fo.len_pos r ho.2.2.2.2).1
  have hlk:=(Fo.len_pos k ho.2.2.2.1).2 (by have:=ho.2.2.1;omega)
  have h1:=De (x:=x) (by rw [ho.2.1];omega)
  have h0:(AF x).ticks=0:=by
   have:=ho.2.1
   simp only [AF];rw [if_neg (by omega)]
  have hx:1*1≤x.n*k.len:=Int.mul_le_mul h1 hlk (by omega) (by omega)
  have e:(t.take (Bz (AF x) k)).ticks=min 4097 (t.ticks+x.n*k.len):=by
   simp only [Frame.take,Frame.out,DA,Kf,hk,h0,F6]
   rw [if_pos (by simp only [AF];exact ho.1),Int.zero_add,show (AF x).node.n=x.n from rfl,QW h1 hlk];omega
  rw [Bz,Cr r _ ho.2.2.2.2 (by rw [e];omega),e];simp only [Fo.len];omega
theorem CD {f:Fo} (ho:f.ok) (hc:f.count=1):(BG f.flat).depth=f.depth∧(BG f.flat).ticks=min 4097 f.len:=by
 have h:=C5 f [] ⟨⟨0,0,0⟩,1,0,0⟩ [] ho (by simp [hc]) (by omega)
 rw [List.append_nil,CV,Kl] at h
 have e:BG f.flat=Bz ⟨⟨0,0,0⟩,1,0,0⟩ f:=by simp [BG,h,nth]
 rw [e,Cp f _ ho (by simp),Cr f _ ho (by simp)]
 simp
end Go.Ab.T
namespace Go.Ab.T
open Go Go.Ab
set_option maxHeartbeats 1000000
@[go_sem] def E1 (x:Int):List V:=[.i .i64 x]
def nF:Nat→Fo→List Int
 | _,.nil=>[]
 | b,.leaf x r=>(b:Int)::nF (b+1) r
 | b,.seq x k r=>(b:Int)::nF (b+1+k.flat.length) r
 | b,.rep x k r=>(b:Int)::nF (b+1+k.flat.length) r
theorem Fo.count_le:∀ (f:Fo),f.count≤f.flat.length
 | .nil=>by simp [Fo.count]
 | .leaf x r=>by have:=Fo.count_le r;simp [Fo.count,Fo.flat];omega
 | .seq x k r=>by have:=Fo.count_le r;simp [Fo.count,Fo.flat];omega
 | .rep x k r=>by have:=Fo.count_le r;simp [Fo.count,Fo.flat];omega
theorem C4 {α:Type} {L:List α} {b:Nat} {x:α} {r:List α} (h:L.drop b=x::r):b<L.length∧L.drop (b+1)=r:=by
 constructor
 ·have:=congrArg List.length h
  simp only [List.length_drop,List.length_cons] at this;omega
 ·rw [← List.drop_drop,h];rfl
theorem JQ {α:Type} {L:List α} {b:Nat} {p r:List α} (h:L.drop b=p++r):L.drop (b+p.length)=r:=by
 rw [← List.drop_drop,h,List.drop_left]
theorem Ef {α:Type} [Inhabited α] {L:List α} {b:Nat} {x:α} {r:List α} (h:L.drop b=x::r):nth L b=x:=by
 have h1:=C4 h
 rw [AX h1.1] at h
 exact (List.cons.inj h).1
end Go.Ab.T
namespace Go.Ab.T
open Go Go.Ab
set_option maxHeartbeats 1000000
end Go.Ab.T
namespace Go.Ab.T
open Go Go.Ab
set_option maxHeartbeats 1000000
theorem ZH {x:Node} {k r:Fo} (ho:(Fo.rep x k r).ok):1≤x.n∧1≤k.len∧1≤x.n*k.len:=by
 have h1:=De (x:=x) (by rw [ho.2.1];omega)
 have h2:=(Fo.len_pos k ho.2.2.2.1).2 (by have:=ho.2.2.1;omega)
 have h3:1*1≤x.n*k.len:=Int.mul_le_mul h1 h2 (by omega) (by omega)
 omega
end Go.Ab.T
namespace Go.Ab.T
open Go Go.Ab
set_option maxHeartbeats 1000000
def Fo.runs:Fo→List AS
 | .nil=>[]
 | .leaf x r=>⟨Eh x,x.n⟩::runs r
 | .seq x k r=>runs k++runs r
 | .rep x k r=>(List.replicate x.n.toNat (runs k)).flatten++runs r
theorem Fo.runs_len:∀ (f:Fo),f.ok→(f.runs.length:Int)≤f.len
 | .nil,ho=>by simp [Fo.runs,Fo.len]
 | .leaf x r,ho=>by
  have h1:=De (x:=x) (by rw [ho.1];omega)
  have:=Fo.runs_len r ho.2
  simp [Fo.runs,Fo.len];omega
 | .seq x k r,ho=>by
  have:=Fo.runs_len k ho.2.2.2.1;have:=Fo.runs_len r ho.2.2.2.2
  simp [Fo.runs,Fo.len];omega
 | .rep x k r,ho=>by
  have h1:=Fo.runs_len k ho.2.2.2.1;have:=Fo.runs_len r ho.2.2.2.2
  have hn:=De (x:=x) (by rw [ho.2.1];omega)
  have h3:x.n*k.runs.length≤x.n*k.len:=Int.mul_le_mul_of_nonneg_left h1 (by omega)
  have h4:((x.n.toNat*k.runs.length:Nat):Int)=x.n*k.runs.length:=by rw [Int.natCast_mul,Int.toNat_of_nonneg (by omega)]
  simp only [Fo.runs,Fo.len,List.length_append,List.length_flatten,List.map_replicate,List.sum_replicate_nat,Int.natCast_add]
  omega
section
variable {L:List Node} {a:Nat} {x:Node} {k:Fo} {R:List Node} {h:AH} {w:V} {A:List AS} {K:V→AH→Prop}
end
end Go.Ab.T
namespace Go.Ab.T
open Go Go.Ab
set_option maxHeartbeats 1000000
theorem Fo.flat_pos {f:Fo} (hc:f.count=1):0<f.flat.length:=by have:=Fo.count_le f;omega
theorem Fe {f:Fo} (ho:f.ok) (hc:f.count=1):Dx f.flat=true:=(IK _).2 ⟨f,ho,hc,rfl⟩
theorem Ih {f:Fo} (ho:f.ok) (hc:f.count=1):OC f.flat=f.depth:=by
 unfold OC;rw [if_pos (Fe ho hc),(CD ho hc).1]
theorem Io {f:Fo} (ho:f.ok) (hc:f.count=1):J9 f.flat=decide (f.len≤4096):=by
 unfold J9;rw [(CD ho hc).2,Fe ho hc];simp;omega
theorem EB (L:List Node):A9 L=0↔L.length≤128∧∃ f:Fo,f.ok∧f.count=1∧L=f.flat∧f.depth≤16∧f.len≤4096:=by
 constructor
 ·intro h
  by_cases hw:Dx L=true
  ·obtain ⟨f,ho,hc,rfl⟩:=(IK L).1 hw
   unfold A9 at h
   rw [hw,Ih ho hc,Io ho hc] at h
   (repeat' split at h)<;>simp at h
   rename_i h1 h2 h3 h4
   simp at h4
   exact ⟨by omega,f,ho,hc,rfl,by omega,h4⟩
  ·simp at hw
   unfold A9 at h
   rw [hw] at h
   (repeat' split at h)<;>simp at h
   all_goals simp_all
 ·rintro ⟨hl,f,ho,hc,rfl,hd,hn⟩
  unfold A9
  rw [if_neg (by omega),if_neg (by rw [Fe ho hc];simp),if_neg (by rw [Ih ho hc];omega),if_neg (by rw [Io ho hc];simp;omega)]
end Go.Ab.T
namespace Go.Ab.T
open Go Go.Ab
set_option maxHeartbeats 1000000
structure BL where
 entry:Int
 prio:Int
 deriving Inhabited,DecidableEq
@[go_sem] def BL.enc (x:BL):List V:=[.i .i64 x.entry,.i .i64 x.prio]
structure Part where
 name:ByteArray
 budget:Int
 period:Int
 sched:Bool
 stop:Bool
 procs:List BL
 h0:Int
 h1:Int
 h2:Int
 h3:Int
 h4:Int
 deriving Inhabited,DecidableEq
@[go_sem] def Part.enc (x:Part):List V:=[.s x.name,.i .i64 x.budget,.i .i64 x.period,.b x.sched,.b x.stop,.fl 2 (x.procs.map BL.enc),.i .i64 x.h0,.i .i64 x.h1,.i .i64 x.h2,.i .i64 x.h3,.i .i64 x.h4]
structure Bl where
 src:Int
 dst:Int
 queue:Bool
 cap:Int
 top:Int
 late:Int
 deriving Inhabited,DecidableEq
@[go_sem] def Bl.enc (x:Bl):List V:=[.i .i64 x.src,.i .i64 x.dst,.b x.queue,.i .i64 x.cap,.i .u32 x.top,.i .i64 x.late]
@[go_sem] def Tab.enc (x:List Node):List V:=[.fl 3 (x.map Node.enc)]
structure Av where
 parts:List Part
 chans:List Bl
 tables:List (List Node)
 deriving Inhabited,DecidableEq
@[go_sem] def Av.enc (x:Av):List V:=[.fl 11 (x.parts.map Part.enc),.fl 6 (x.chans.map Bl.enc),.fl 1 (x.tables.map Tab.enc)]
theorem L1 {xs:List (List V)}:Pf tp Sz [.fl 2 xs] (.fl 2 xs):=by
 refine AN lF (by simp [Ly]) fun rp=>?_;unfold Ly;simp (disch:=omega)only[go_sem, *]
theorem JK {xs:List (List V)}:Pf tp Np [.fl 2 xs] (.fl 2 xs):=by
 refine AN Rn (by simp [HL]) fun rp=>?_;unfold HL;simp (disch:=omega)only[go_sem, *]
theorem JJ {xs:List (List V)}:Pf tp Nr [.fl 3 xs] (.fl 3 xs):=by
 refine AN Rp (by simp [HN]) fun rp=>?_;unfold HN;simp (disch:=omega)only[go_sem, *]
theorem IW {xs:List (List V)}:Pf tp Nq [.fl 2 xs] (.fl 2 xs):=by
 refine AN Ro (by simp [HM]) fun rp=>?_;unfold HM;simp (disch:=omega)only[go_sem, *]
 have hb:=rp.head.big
 intro t ht
 cases t
 ·simp (disch:=omega)only[go_sem, *]
  refine AQ (R:=[]) (Sl.nil' 0 _ _) (Nat.le_refl _) (Nat.le_refl _) (by simp;omega) ?_
  intro w h4 s4 g4
  simp (disch:=omega)only[go_sem, *]
  exact s4.froze' rp.head.frzr trivial (by simp;omega)
 ·simp (disch:=omega)only[go_sem, *]
  have:xs=[]:=by
   rcases List.eq_nil_or_concat xs with h | ⟨l,a,h⟩
   ·exact h
   ·exact absurd (ht (by rw [h];simp)) (by simp)
  rw [this]
theorem L4 {xs:List (List V)} {h:AH} {K:V→AH→Prop} (hl:h.lim≤h.next) (k:∀ r h',Sl h.next h' 2 r xs→Am h h'→K r h'):Cq tp Nq [.fl 2 xs] h K:=by
 refine Ad Ro (by simp [HM]) fun wf rp=>?_;unfold HM;simp (disch:=omega)only[go_sem, *]
 have hb:=rp.head.big
 intro t ht
 cases t
 ·simp (disch:=omega)only[go_sem, *]
  refine AQ (R:=[]) (Sl.nil' h.next _ _) hl (Nat.le_refl _) (by simp;omega) ?_
  intro w h4 s4 g4
  simp (disch:=omega)only[go_sem, *]
  exact k _ _ s4 ⟨g4.next,g4.lim,g4.low⟩
 ·simp (disch:=omega)only[go_sem, *]
  have:xs=[]:=by
   rcases List.eq_nil_or_concat xs with h | ⟨l,a,h⟩
   ·exact h
   ·exact absurd (ht (by rw [h];simp)) (by simp)
  subst this
  exact k _ _ (Sl.nil _ _ _) (Am.refl h)
theorem L2 {xs:List (List V)} {h:AH} {K:V→AH→Prop} (hl:h.lim≤h.next) (k:∀ r h',Sl h.next h' 6 r xs→Am h h'→K r h'):Cq tp RX [.fl 6 xs] h K:=by
 refine Ad jN (by simp [KT]) fun wf rp=>?_;unfold KT;simp (disch:=omega)only[go_sem, *]
 have hb:=rp.head.big
 intro t ht
 cases t
 ·simp (disch:=omega)only[go_sem, *]
  refine AQ (R:=[]) (Sl.nil' h.next _ _) hl (Nat.le_refl _) (by simp;omega) ?_
  intro w h4 s4 g4
  simp (disch:=omega)only[go_sem, *]
  exact k _ _ s4 ⟨g4.next,g4.lim,g4.low⟩
 ·simp (disch:=omega)only[go_sem, *]
  have:xs=[]:=by
   rcases List.eq_nil_or_concat xs with h | ⟨l,a,h⟩
   ·exact h
   ·exact absurd (ht (by rw [h];simp)) (by simp)
  subst this
  exact k _ _ (Sl.nil _ _ _) (Am.refl h)
theorem Fm {xs:List (List V)}:Pf tp Ns [.fl 3 xs] (.fl 3 xs):=by
 refine AN Rq (by simp [HO]) fun rp=>?_;unfold HO;simp (disch:=omega)only[go_sem, *]
 have hb:=rp.head.big
 intro t ht
 cases t
 ·simp (disch:=omega)only[go_sem, *]
  refine AQ (R:=[]) (Sl.nil' 0 _ _) (Nat.le_refl _) (Nat.le_refl _) (by simp;omega) ?_
  intro w h4 s4 g4
  simp (disch:=omega)only[go_sem, *]
  exact s4.froze' rp.head.frzr trivial (by simp;omega)
 ·simp (disch:=omega)only[go_sem, *]
  have:xs=[]:=by
   rcases List.eq_nil_or_concat xs with h | ⟨l,a,h⟩
   ·exact h
   ·exact absurd (ht (by rw [h];simp)) (by simp)
  rw [this]
theorem L3 {xs:List (List V)} {h:AH} {K:V→AH→Prop} (hl:h.lim≤h.next) (k:∀ r h',Sl h.next h' 3 r xs→Am h h'→K r h'):Cq tp Ns [.fl 3 xs] h K:=by
 refine Ad Rq (by simp [HO]) fun wf rp=>?_;unfold HO;simp (disch:=omega)only[go_sem, *]
 have hb:=rp.head.big
 intro t ht
 cases t
 ·simp (disch:=omega)only[go_sem, *]
  refine AQ (R:=[]) (Sl.nil' h.next _ _) hl (Nat.le_refl _) (by simp;omega) ?_
  intro w h4 s4 g4
  simp (disch:=omega)only[go_sem, *]
  exact k _ _ s4 ⟨g4.next,g4.lim,g4.low⟩
 ·simp (disch:=omega)only[go_sem, *]
  have:xs=[]:=by
   rcases List.eq_nil_or_concat xs with h | ⟨l,a,h⟩
   ·exact h
   ·exact absurd (ht (by rw [h];simp)) (by simp)
  subst this
  exact k _ _ (Sl.nil _ _ _) (Am.refl h)
def Cg {α:Type} (P:α→Bool):List α→Int→Int
 | [],_=>-1
 | a::l,i=>if P a=true then i else Cg P l (i+1)
theorem Wp {L:List Part} {g:Nat} {caps:List V} {P:Part→Bool} {h0:AH} {K:V→AH→Prop} (hp:∀ x,x∈L→∀ K:V→AH→Prop,K (.b (P x)) h0→Cq tp g (.agg x.enc::caps) h0 K) (k:K (.i .i64 (Cg P L 0)) h0):Cq tp Sg [.fl 11 (L.map Part.enc),.f (.func g) [] caps] h0 K:=by
 refine Ad kK (by simp [Le]) fun wf rp=>?_;unfold Le;simp (disch:=omega)only[go_sem, *]
 have hL:=rp.head.len
 refine Au (fun n e h=>∃ (i:Nat),n=L.length - i∧h.lim=h0.lim∧e 6=.fl 11 (L.map Part.enc)∧e 7=.i .i64 L.length∧e 8=.i .i64 i∧e 0=.fl 11 (L.map Part.enc)∧e 1=.f (.func g) [] caps∧i≤L.length∧h=h0∧Cg P (L.drop i) i=Cg P L 0) ?_ _ _ _ ⟨0,rfl, ?_⟩
 ·rintro n e h ⟨i,rfl,hl,e6,e7,e8,e0,e1,hi,rfl,hz⟩ ih
  rw [AA Zg.eq_1]
  simp (disch:=omega)only[go_sem, *]
  refine Af (fun hc=>?_) (fun hc=>?_)
  ·rw [AX (by omega),Cg] at hz
   simp (disch:=omega)only[go_sem, *]
   refine hp (nth L i) (AR (by omega)) _ ?_
   simp (disch:=omega)only[go_sem, *]
   refine BS (fun hc2=>?_) (fun hc2=>?_)
   ·rw [if_pos hc2] at hz
    simp (disch:=omega)only[go_sem, *]
   ·rw [if_neg (by simp [hc2])] at hz
    simp (disch:=omega)only[go_sem, *]
    refine ih _ _ _ ?_ ⟨i+1,rfl, ?_⟩
    ·omega
    ·simp (disch:=omega)only[go_sem, *]
     ((repeat' refine And.intro ?_ ?_)<;>first | omega | assumption | (skip))
  ·rw [List.drop_eq_nil_of_le (by omega),Cg] at hz
   simp (disch:=omega)only[go_sem, *]
 ·simp (disch:=omega)only[go_sem, *]
theorem Il {P:Part→Bool}:∀ (L:List Part) (i:Int),0≤i→(0≤Cg P L i↔L.any P=true)
 | [],i,hi=>by simp [Cg]
 | a::l,i,hi=>by
  rw [Cg]
  split
  ·rename_i h;simp [h,hi]
  ·rename_i h;rw [Il l (i+1) (by omega)];simp [h]
theorem We {L:List Part} {g:Nat} {caps:List V} {P:Part→Bool} {h0:AH} {K:V→AH→Prop} (hp:∀ x,x∈L→∀ K:V→AH→Prop,K (.b (P x)) h0→Cq tp g (.agg x.enc::caps) h0 K) (k:K (.b (L.any P)) h0):Cq tp R7 [.fl 11 (L.map Part.enc),.f (.func g) [] caps] h0 K:=by
 refine Ad kD (by simp [K7]) fun wf rp=>?_;unfold K7;simp (disch:=omega)only[go_sem, *]
 refine Wp hp ?_
 simp (disch:=omega)only[go_sem, *]
 have e:(decide (0≤Cg P L 0))=L.any P:=by rw [Bool.eq_iff_iff];simp only [decide_eq_true_eq];exact Il L 0 (Int.le_refl _)
 rw [e];exact k
theorem mE {L:List AS} {g:Nat} {caps:List V} {P:AS→Bool} {h0:AH} {K:V→AH→Prop} (hp:∀ x,x∈L→∀ K:V→AH→Prop,K (.b (P x)) h0→Cq tp g (.agg x.enc::caps) h0 K) (k:K (.i .i64 (Cg P L 0)) h0):Cq tp Sr [.fl 2 (L.map AS.enc),.f (.func g) [] caps] h0 K:=by
 refine Ad kV (by simp [Lo]) fun wf rp=>?_;unfold Lo;simp (disch:=omega)only[go_sem, *]
 have hL:=rp.head.len
 refine Au (fun n e h=>∃ (i:Nat),n=L.length - i∧h.lim=h0.lim∧e 6=.fl 2 (L.map AS.enc)∧e 7=.i .i64 L.length∧e 8=.i .i64 i∧e 0=.fl 2 (L.map AS.enc)∧e 1=.f (.func g) [] caps∧i≤L.length∧h=h0∧Cg P (L.drop i) i=Cg P L 0) ?_ _ _ _ ⟨0,rfl, ?_⟩
 ·rintro n e h ⟨i,rfl,hl,e6,e7,e8,e0,e1,hi,rfl,hz⟩ ih
  rw [AA Zk.eq_1]
  simp (disch:=omega)only[go_sem, *]
  refine Af (fun hc=>?_) (fun hc=>?_)
  ·rw [AX (by omega),Cg] at hz
   simp (disch:=omega)only[go_sem, *]
   refine hp (nth L i) (AR (by omega)) _ ?_
   simp (disch:=omega)only[go_sem, *]
   refine BS (fun hc2=>?_) (fun hc2=>?_)
   ·rw [if_pos hc2] at hz
    simp (disch:=omega)only[go_sem, *]
   ·rw [if_neg (by simp [hc2])] at hz
    simp (disch:=omega)only[go_sem, *]
    refine ih _ _ _ ?_ ⟨i+1,rfl, ?_⟩
    ·omega
    ·simp (disch:=omega)only[go_sem, *]
     ((repeat' refine And.intro ?_ ?_)<;>first | omega | assumption | (skip))
  ·rw [List.drop_eq_nil_of_le (by omega),Cg] at hz
   simp (disch:=omega)only[go_sem, *]
 ·simp (disch:=omega)only[go_sem, *]
theorem J5 {P:AS→Bool}:∀ (L:List AS) (i:Int),0≤i→(0≤Cg P L i↔L.any P=true)
 | [],i,hi=>by simp [Cg]
 | a::l,i,hi=>by
  rw [Cg]
  split
  ·rename_i h;simp [h,hi]
  ·rename_i h;rw [J5 l (i+1) (by omega)];simp [h]
theorem lT {L:List AS} {g:Nat} {caps:List V} {P:AS→Bool} {h0:AH} {K:V→AH→Prop} (hp:∀ x,x∈L→∀ K:V→AH→Prop,K (.b (P x)) h0→Cq tp g (.agg x.enc::caps) h0 K) (k:K (.b (L.any P)) h0):Cq tp Sk [.fl 2 (L.map AS.enc),.f (.func g) [] caps] h0 K:=by
 refine Ad kO (by simp [Li]) fun wf rp=>?_;unfold Li;simp (disch:=omega)only[go_sem, *]
 refine mE hp ?_
 simp (disch:=omega)only[go_sem, *]
 have e:(decide (0≤Cg P L 0))=L.any P:=by rw [Bool.eq_iff_iff];simp only [decide_eq_true_eq];exact J5 L 0 (Int.le_refl _)
 rw [e];exact k
theorem I1 {α:Type} [Inhabited α] [DecidableEq α] {L M:List α} {i:Nat} (hl:L.length=M.length) (hi:i<L.length) (ht:L.take i=M.take i) (he:nth L i=nth M i):L.take (i+1)=M.take (i+1):=by
 rw [List.take_add_one,List.take_add_one,ht,D0 hi,D0 (by omega),he]
theorem Rf {α:Type} [Inhabited α] {L M:List α} {i:Nat} (hi:i<L.length) (he:¬ nth L i=nth M i):¬ L=M:=by rintro rfl;exact he rfl
theorem Node.eq (a b:Node):a=b↔a.kind=b.kind∧a.part=b.part∧a.n=b.n:=by cases a;cases b;simp
theorem AS.eq (a b:AS):a=b↔a.part=b.part∧a.n=b.n:=by cases a;cases b;simp
theorem BL.eq (a b:BL):a=b↔a.entry=b.entry∧a.prio=b.prio:=by cases a;cases b;simp
theorem Bl.eq (a b:Bl):a=b↔a.src=b.src∧a.dst=b.dst∧a.queue=b.queue∧a.cap=b.cap∧a.top=b.top∧a.late=b.late:=by cases a;cases b;simp
theorem Part.eq (a b:Part):a=b↔a.name=b.name∧a.budget=b.budget∧a.period=b.period∧a.sched=b.sched∧a.stop=b.stop∧a.procs=b.procs∧a.h0=b.h0∧a.h1=b.h1∧a.h2=b.h2∧a.h3=b.h3∧a.h4=b.h4:=by cases a;cases b;simp
end Go.Ab.T
namespace Go.Ab.T
open Go Go.Ab
set_option maxHeartbeats 1000000
@[irreducible] def FO (n m:Int):Bool:=decide (0≤n∧n≤m)
theorem Hb {n m:Int}:Pf tp Ik [.i .i64 n,.i .i64 m] (.b (FO n m)):=by
 refine AN kM (by simp [Lg]) fun rp=>?_;unfold Lg;simp (disch:=omega)only[go_sem, *]
 repeat' (first | (refine AD (fun hc=>?_) (fun hc=>?_)<;>simp (disch:=omega)only[go_sem, *]) | (refine Af (fun hc=>?_) (fun hc=>?_)<;>simp (disch:=omega)only[go_sem, *]) | (refine D6 (fun hc=>?_) (fun hc=>?_)<;>simp (disch:=omega)only[go_sem, *]) | (refine BS (fun hc=>?_) (fun hc=>?_)<;>simp (disch:=omega)only[go_sem, *]))
 all_goals (simp only [FO];grind)
def Gw (x:BL):Bool:=decide (0≤x.entry∧x.entry≤511∧0≤x.prio∧x.prio≤255)
@[irreducible] def Ei (L:List BL):Bool:=L.all Gw&&decide (1≤L.length∧L.length≤3)
theorem hY {α:Type} [Inhabited α] {L:List α} {P:α→Bool} {i:Nat} (hi:i<L.length) (h:P (nth L i)=false):L.all P=false:=by
 rw [List.all_eq_false];exact ⟨_,AR hi,by simp [h]⟩
theorem QG {α:Type} [Inhabited α] {L:List α} {P:α→Bool} {i:Nat} (hi:i<L.length) (h:P (nth L i)=true):(L.drop i).all P=(L.drop (i+1)).all P:=by
 rw [AX hi,List.all_cons,h,Bool.true_and]
theorem Tp {L:List BL}:Pf tp Si [.fl 2 (L.map BL.enc)] (.b (Ei L)):=by
 refine AN kL (by simp [Lf]) fun rp=>?_;unfold Lf;simp (disch:=omega)only[go_sem, *]
 have hL:=rp.head.len
 refine Au (fun n e h=>∃ (i:Nat),n=L.length - i∧h.lim=0∧e 5=.fl 2 (L.map BL.enc)∧e 6=.i .i64 L.length∧e 7=.i .i64 i∧e 0=.fl 2 (L.map BL.enc)∧i≤L.length∧L.all Gw=(L.drop i).all Gw) ?_ _ _ _ ⟨0,rfl, ?_⟩
 ·rintro n e h ⟨i,rfl,hl,e5,e6,e7,e0,hi,hz⟩ ih
  rw [AA Zh.eq_1]
  simp (disch:=omega)only[go_sem, *]
  refine Af (fun hc=>?_) (fun hc=>?_)
  ·simp (disch:=omega)only[go_sem, *]
   repeat' (first | (refine AD (fun hc=>?_) (fun hc=>?_)<;>simp (disch:=omega)only[go_sem, *]) | (refine Af (fun hc=>?_) (fun hc=>?_)<;>simp (disch:=omega)only[go_sem, *]) | (refine D6 (fun hc=>?_) (fun hc=>?_)<;>simp (disch:=omega)only[go_sem, *]) | (refine BS (fun hc=>?_) (fun hc=>?_)<;>simp (disch:=omega)only[go_sem, *]) | (refine Pf.go (Hb) (by simp only [go_sem]) fun _=>?_;simp (disch:=omega)only[go_sem, *]))
   all_goals
    try
     have hn:Gw (nth L i)=false:=by (simp only [Gw,FO] at *;grind)
     have:=hY (by omega) hn
     simp only [Ei,this];rfl
   have hp:Gw (nth L i)=true:=by (simp only [Gw,FO] at *;grind)
   refine ih _ _ _ ?_ ⟨i+1,rfl, ?_⟩
   ·omega
   ·simp (disch:=omega)only[go_sem, *]
    ((repeat' refine And.intro ?_ ?_)<;>first | omega | assumption | (exact QG (by omega) hp))
  ·rw [List.drop_eq_nil_of_le (by omega),List.all_nil] at hz
   simp (disch:=omega)only[go_sem, *]
   repeat' (first | (refine AD (fun hc=>?_) (fun hc=>?_)<;>simp (disch:=omega)only[go_sem, *]) | (refine Af (fun hc=>?_) (fun hc=>?_)<;>simp (disch:=omega)only[go_sem, *]) | (refine D6 (fun hc=>?_) (fun hc=>?_)<;>simp (disch:=omega)only[go_sem, *]) | (refine BS (fun hc=>?_) (fun hc=>?_)<;>simp (disch:=omega)only[go_sem, *]))
   all_goals (simp only [Ei,hz];grind)
 ·simp (disch:=omega)only[go_sem, *]
/-! ### Names -/
def bt (s:ByteArray) (i:Nat):Int:=((s.data.toList.getD i 0).toNat:Int)
def Tc (i:Nat) (c:Int):Bool:=decide ((97≤c∧c≤122)∨(i≠0∧((48≤c∧c≤57)∨c=95)))
@[irreducible] def EO (s:ByteArray):Bool:=decide ((∀ i,i<s.size→Tc i (bt s i)=true)∧1≤s.size∧s.size≤12)
theorem S7 {s:ByteArray} {i:Nat} (hi:i<s.size) (h:Tc i (bt s i)=false):EO s=false:=by
 simp only [EO,decide_eq_false_iff_not]
 intro hh;rw [hh.1 i hi] at h;cases h
theorem O7 {s:ByteArray} (h:∀ j,j<s.size→Tc j (bt s j)=true):EO s=decide (1≤s.size∧s.size≤12):=by
 simp only [EO];congr 1;exact propext ⟨fun hh=>hh.2,fun hh=>⟨h,hh⟩⟩
theorem WL {s:ByteArray} {i:Nat} (h:∀ j,j<i→Tc j (bt s j)=true) (h1:Tc i (bt s i)=true):∀ j,j<i+1→Tc j (bt s j)=true:=fun j hj=>by
 by_cases e:j=i
 ·rw [e];exact h1
 ·exact h j (by omega)
@[go_sem] theorem VQ {s:ByteArray} {i:Nat}:(↑(UInt8.toNat (s.data.toList.getD i 0)):Int)=bt s i:=Ag rfl
theorem QX {s:ByteArray} (hs:s.size<4000000000):Pf tp R5 [.s s] (.b (EO s)):=by
 refine AN kC (by simp [K6]) fun rp=>?_;unfold K6;simp (disch:=omega)only[go_sem, *]
 refine Au (fun n e h=>∃ (i:Nat),n=s.size - i∧h.lim=0∧e 0=.s s∧e 7=.i .i64 s.size∧e 8=.i .i64 i∧i≤s.size∧∀ j,j<i→Tc j (bt s j)=true) ?_ _ _ _ ⟨0,rfl, ?_⟩
 ·rintro n e h ⟨i,rfl,hl,e0,e7,e8,hi,hz⟩ ih
  rw [AA Ze.eq_1]
  simp (disch:=omega)only[go_sem, *]
  refine Af (fun hc=>?_) (fun hc=>?_)
  ·simp (disch:=omega)only[go_sem, *,VQ]
   repeat' (first | (refine AD (fun hc=>?_) (fun hc=>?_)<;>simp (disch:=omega)only[go_sem, *]) | (refine Af (fun hc=>?_) (fun hc=>?_)<;>simp (disch:=omega)only[go_sem, *]) | (refine D6 (fun hc=>?_) (fun hc=>?_)<;>simp (disch:=omega)only[go_sem, *]) | (refine BS (fun hc=>?_) (fun hc=>?_)<;>simp (disch:=omega)only[go_sem, *]))
   all_goals
    try
     have hn:Tc i (bt s i)=false:=by (simp only [Tc] at *;grind)
     exact (S7 (by omega) hn).symm
   all_goals
    have hp:Tc i (bt s i)=true:=by (simp only [Tc] at *;grind)
    refine ih _ _ _ ?_ ⟨i+1,rfl, ?_⟩
    ·omega
    ·simp (disch:=omega)only[go_sem, *]
     ((repeat' refine And.intro ?_ ?_)<;>first | omega | assumption | (exact WL hz hp))
  ·have hy:=O7 (s:=s) (fun j hj=>hz j (by omega))
   clear hz
   simp (disch:=omega)only[go_sem, *]
   repeat' (first | (refine AD (fun hc=>?_) (fun hc=>?_)<;>simp (disch:=omega)only[go_sem, *]) | (refine Af (fun hc=>?_) (fun hc=>?_)<;>simp (disch:=omega)only[go_sem, *]) | (refine D6 (fun hc=>?_) (fun hc=>?_)<;>simp (disch:=omega)only[go_sem, *]) | (refine BS (fun hc=>?_) (fun hc=>?_)<;>simp (disch:=omega)only[go_sem, *]))
   all_goals grind
 ·simp (disch:=omega)only[go_sem, *]
  ((repeat' refine And.intro ?_ ?_)<;>first | omega | assumption | ((intro j hj;omega)))
/-! ### Parts, channels -/
def I6 (x:Part):Bool:=decide (0≤x.h0∧x.h0≤2∧0≤x.h1∧x.h1≤2∧0≤x.h2∧x.h2≤2∧0≤x.h3∧x.h3≤2∧0≤x.h4∧x.h4≤2)
def Ng (b p:Int):Bool:=decide ((b=0∧p=0)∨(1≤b∧b≤4096∧b≤p∧p≤4096))
@[irreducible] def Hu (x:Part):Bool:=Ei x.procs&&I6 x&&Ng x.budget x.period
theorem Q2 {x:Part}:Pf tp R9 [.agg x.enc] (.b (Hu x)):=by
 refine AN kF (by simp [K9]) fun rp=>?_;unfold K9;simp (disch:=omega)only[go_sem, *]
 iterate 6
  all_goals
   try
    refine Br ?_
    rw [AA Zf.eq_1]
    simp (disch:=omega)only[go_sem, *]
    try repeat' (first | (refine AD (fun hc=>?_) (fun hc=>?_)<;>simp (disch:=omega)only[go_sem, *]) | (refine Af (fun hc=>?_) (fun hc=>?_)<;>simp (disch:=omega)only[go_sem, *]) | (refine D6 (fun hc=>?_) (fun hc=>?_)<;>simp (disch:=omega)only[go_sem, *]) | (refine BS (fun hc=>?_) (fun hc=>?_)<;>simp (disch:=omega)only[go_sem, *]))
 all_goals try (simp only [Hu,I6];grind)
 repeat' (first | (refine AD (fun hc=>?_) (fun hc=>?_)<;>simp (disch:=omega)only[go_sem, *]) | (refine Af (fun hc=>?_) (fun hc=>?_)<;>simp (disch:=omega)only[go_sem, *]) | (refine D6 (fun hc=>?_) (fun hc=>?_)<;>simp (disch:=omega)only[go_sem, *]) | (refine BS (fun hc=>?_) (fun hc=>?_)<;>simp (disch:=omega)only[go_sem, *]) | (refine Pf.go (Tp) (by simp only [go_sem]) fun _=>?_;simp (disch:=omega)only[go_sem, *]))
 all_goals (simp only [Hu,I6,Ng];grind)
@[irreducible] def Gk (n:Int) (x:Bl):Bool:=decide (0≤x.src∧x.src<n∧0≤x.dst∧x.dst<n∧x.src≠x.dst∧0≤x.late∧x.late≤4096)&&(if x.queue=true then decide (1≤x.cap∧x.cap≤8) else decide (x.cap=0))
theorem QM {c:Av} {x:Bl}:Pf tp Sa [.agg c.enc,.agg x.enc] (.b (Gk c.parts.length x)):=by
 refine AN kG (by simp [La]) fun rp=>?_;unfold La;simp (disch:=omega)only[go_sem, *]
 have hL:=rp.head.agg.head.len
 repeat' (first | (refine AD (fun hc=>?_) (fun hc=>?_)<;>simp (disch:=omega)only[go_sem, *]) | (refine Af (fun hc=>?_) (fun hc=>?_)<;>simp (disch:=omega)only[go_sem, *]) | (refine D6 (fun hc=>?_) (fun hc=>?_)<;>simp (disch:=omega)only[go_sem, *]) | (refine BS (fun hc=>?_) (fun hc=>?_)<;>simp (disch:=omega)only[go_sem, *]) | (refine Pf.go (Hb) (by simp only [go_sem]) fun _=>?_;simp (disch:=omega)only[go_sem, *]))
 all_goals (simp only [Gk,FO] at *;grind)
end Go.Ab.T
namespace Go.Ab.T
open Go Go.Ab
set_option maxHeartbeats 1000000
theorem Av.eq (a b:Av):a=b↔a.parts=b.parts∧a.chans=b.chans∧a.tables=b.tables:=by cases a;cases b;simp
end Go.Ab.T
namespace Go.Ab.T
open Go Go.Ab
theorem Mj {b:Nat} {h h1 h2:AH} {x v:V} (g:Grown b h1 x v h2) (e:Am h h1) (hb:b≤h.next):Grown b h x v h2:=by
 have e1:=e.next;have g1:=g.next
 refine ⟨by omega,g.lim.trans e.lim,fun i hi=>by rw [g.low i hi,e.get i (by omega)],fun i hi hn=>by rw [g.get i (by omega) hn,e.get i hi], ?_,g.cell,g.cells⟩
 rcases g.own with h | h | h
 ·exact .inl h
 ·exact .inr (.inl h)
 ·exact .inr (.inr (by omega))
theorem Er {b sz:Nat} {h:AH} {v:V} {R:List (List V)} (s:Sl b h sz v R):AI v=true∨Aq v<h.next:=by
 rcases s with ⟨hv,_⟩ | ⟨i,el,cap,cs,rfl,_,_,_,_,h1,_,_⟩
 ·rcases hv with rfl | rfl<;>exact .inl rfl
 ·exact .inr h1
end Go.Ab.T
namespace Go.Ab.T
open Go Go.Ab
structure Place where
 at_:Nat
 left:Int
 deriving DecidableEq,Inhabited
@[go_sem] def Place.enc (p:Place):List V:=[.i .i64 p.at_,.i .i64 p.left]
structure Cs where
 S:List Place
 leaf:Nat
 gone:Int
 at_:Int
def dn (L:List Node) (a:Nat) (S:List Place):List Place×Nat:=
 if h:a<L.length then
  if (nth L a).kind=3∨(nth L a).kind=4 then dn L (a+1) (⟨a,(nth L a).n⟩::S) else (S,a)
 else (S,a)
termination_by L.length - a
def IE (L:List Node) (next:Nat):List Place→List Place×Nat
 | []=>([],L.length)
 | p::r=>if 0<p.left - 1 then dn L (if (nth L p.at_).kind=4 then p.at_+1 else next) (⟨p.at_,p.left - 1⟩::r) else IE L next r
def IG (L:List Node) (next:Nat):List Place→Prop
 | []=>True
 | p::r=>p.at_<L.length∧1≤p.left∧p.left≤9223372036854775807∧(if 0<p.left - 1 then (dn L (if (nth L p.at_).kind=4 then p.at_+1 else next) (⟨p.at_,p.left - 1⟩::r)).2<L.length∧(dn L (if (nth L p.at_).kind=4 then p.at_+1 else next) (⟨p.at_,p.left - 1⟩::r)).1.length≤L.length else IG L next r)
theorem Q5 {L:List Node} {a:Nat} {S:List Place}:S.length≤(dn L a S).1.length:=by
 rw [dn]
 split
 ·split
  ·have:=Q5 (L:=L) (a:=a+1) (S:=⟨a,(nth L a).n⟩::S)
   simp at this;omega
  ·simp
 ·simp
termination_by L.length - a
def lf (L:List Node) (c:Cs):Node:=nth L c.leaf
structure Y5 (L:List Node) (c:Cs):Prop where
 IE:IG L (c.leaf+1) c.S
 gone:0≤c.gone∧c.gone<(lf L c).n∧(lf L c).n≤4611686018427387904
 at_:0≤c.at_∧c.at_≤4611686018427387903
def Ta (L:List Node) (c:Cs):Cs:=⟨(IE L (c.leaf+1) c.S).1,(IE L (c.leaf+1) c.S).2,0,c.at_+((lf L c).n - c.gone)⟩
def ZN (L:List Node) (c:Cs):Cs:=if c.gone+1=(lf L c).n then ⟨(IE L (c.leaf+1) c.S).1,(IE L (c.leaf+1) c.S).2,0,c.at_+1⟩ else ⟨c.S,c.leaf,c.gone+1,c.at_+1⟩
def EJ (L:List Node) (sv:V) (c:Cs):Bo:=⟨5,[[.fl 3 (L.map Node.enc),sv,.i .i64 c.leaf,.i .i64 c.gone,.i .i64 c.at_]]⟩
structure CT (h:AH) (id:Nat) (sv:V) (L:List Node) (c:Cs):Prop where
 blk:h.get id=some (EJ L sv c)
 stk:Sl (id+1) h 2 sv (c.S.reverse.map Place.enc)
 big:L.length<4000000000
 sbig:c.S.length≤L.length
 lo:h.lim≤id
 hi:id<h.next
structure Bw (h:AH) (id:Nat) (sv:V) (h':AH) (sv':V):Prop where
 next:h.next≤h'.next
 lim:h'.lim=h.lim
 get:∀ i,i<h.next→i≠id→(AI sv=true∨i≠Aq sv)→h'.get i=h.get i
 own:AI sv'=true∨(AI sv=false∧Aq sv'=Aq sv)∨h.next≤Aq sv'
theorem Bw.refl {h:AH} {id:Nat} {sv:V}:Bw h id sv h sv:=⟨Nat.le_refl _,rfl,fun _ _ _ _=>rfl,by
 by_cases hs:AI sv=true
 ·exact .inl hs
 ·exact .inr (.inl ⟨by simpa using hs,rfl⟩)⟩
theorem Bw.trans {h h1 h2:AH} {id:Nat} {sv s1 s2:V} (a:Bw h id sv h1 s1) (b:Bw h1 id s1 h2 s2):Bw h id sv h2 s2:=by
 have an:=a.next;have bn:=b.next
 refine ⟨by omega,b.lim.trans a.lim,fun i hi hne hs=>?_, ?_⟩
 ·rw [b.get i (by omega) hne ?_,a.get i hi hne hs]
  rcases a.own with h1 | ⟨hn,h1⟩ | h1
  ·exact .inl h1
  ·rcases hs with hs | hs
   ·rw [hs] at hn;cases hn
   ·exact .inr (by rw [h1];exact hs)
  ·exact .inr (by omega)
 ·rcases b.own with h2 | ⟨hn,h2⟩ | h2
  ·exact .inl h2
  ·rcases a.own with h1 | ⟨hn1,h1⟩ | h1
   ·rw [h1] at hn;cases hn
   ·exact .inr (.inl ⟨hn1,h2.trans h1⟩)
   ·exact .inr (.inr (by omega))
  ·exact .inr (.inr (by omega))
theorem Bw.ext {h h1 h2:AH} {id:Nat} {sv s1:V} (a:Bw h id sv h1 s1) (b:Am h1 h2):Bw h id sv h2 s1:=by
 have an:=a.next;have bn:=b.next
 exact ⟨by omega,b.lim.trans a.lim,fun i hi hne hs=>by rw [b.get i (by omega),a.get i hi hne hs],a.own⟩
theorem CT.ext {h h':AH} {id:Nat} {sv:V} {L:List Node} {c:Cs} (k:CT h id sv L c) (x:Am h h'):CT h' id sv L c:=by
 have:=x.next
 exact ⟨by rw [x.get id k.hi];exact k.blk,k.stk.ext x,k.big,k.sbig,by rw [x.lim];exact k.lo,by have:=k.hi;omega⟩
theorem CT.sne {h:AH} {id:Nat} {sv:V} {L:List Node} {c:Cs} (k:CT h id sv L c):AI sv=true∨(id<Aq sv∧Aq sv<h.next):=by
 rcases k.stk with ⟨hv,_⟩ | ⟨i,el,cap,cs,rfl,_,_,_,_,h1,h2,_⟩
 ·rcases hv with rfl | rfl<;>exact .inl rfl
 ·exact .inr ⟨h2,h1⟩
theorem CT.sne' {h:AH} {id:Nat} {sv:V} {L:List Node} {c:Cs} (k:CT h id sv L c):AI sv=true∨id≠Aq sv:=by
 rcases k.sne with h | h
 ·exact .inl h
 ·exact .inr (by omega)
theorem CT.put {h:AH} {id:Nat} {sv:V} {L:List Node} {c c':Cs} (k:CT h id sv L c) (hS:c'.S=c.S):CT (h.put id (EJ L sv c')) id sv L c':=by
 refine ⟨by rw [Ah,AK rfl], ?_,k.big,by rw [hS];exact k.sbig,k.lo,k.hi⟩
 rw [hS]
 rcases k.stk with ⟨hv,hR⟩ | ⟨i,el,cap,cs,rfl,hg,h1,h2,h3,h4,h5,h6⟩
 ·exact .inl ⟨hv,hR⟩
 ·exact .inr ⟨i,el,cap,cs,rfl,by rw [Ah,An (by omega)];exact hg,h1,h2,h3,h4,h5,h6⟩
theorem Bw.put {h:AH} {id:Nat} {sv:V} {b:Bo}:Bw h id sv (h.put id b) sv:=by
 refine ⟨Nat.le_refl _,rfl,fun i hi hne hs=>by rw [Ah,An hne],(Bw.refl (h:=h) (id:=id)).own⟩
theorem CT.push {h h4:AH} {id:Nat} {sv w:V} {L:List Node} {c c':Cs} {p:Place} (k:CT h id sv L c) (s4:Sl (id+1) h4 2 w (c.S.reverse.map Place.enc++[p.enc])) (a4:Grown (id+1) h sv w h4) (hS:c'.S=p::c.S) (hl:c'.S.length≤L.length):CT (h4.put id (EJ L w c')) id w L c':=by
 have hn:=a4.next;have hi:=k.hi;have:=k.lo
 refine ⟨by rw [Ah,AK rfl], ?_,k.big,hl, ?_, ?_⟩
 ·rw [hS]
  rcases s4 with ⟨hv,hR⟩ | ⟨i,el,cap,cs,hw,hg,h1,h2,h3,q4,h5,h6⟩
  ·simp at hR
  ·refine Sl.same (h:=h4) (.inr ⟨i,el,cap,cs,by simpa using hw,hg,h1,by simpa using h2,by simpa using h3,q4,h5,by simpa using h6⟩) (Nat.le_refl _) (fun _=>?_)
   rw [Ah,An (by rw [hw];simp only [Aq];omega)]
 ·rw [GP,a4.lim];exact k.lo
 ·rw [Ae];omega
theorem Bw.push {h h4:AH} {id:Nat} {sv w:V} {b:Bo} (a4:Grown (id+1) h sv w h4):Bw h id sv (h4.put id b) w:=
 ⟨a4.next,a4.lim,fun i hi hne hs=>by rw [Ah,An hne];exact a4.get i hi hs,a4.own⟩
set_option maxHeartbeats 1000000
theorem I0 {h : AH} {id : Nat} {sv : V} {L : List Node} {c : Cs} {a : Nat} {K : V → AH → Prop} (k : CT h id sv L c) (hd : (dn L a c.S).2 < L.length) (hl : (dn L a c.S).1.length ≤ L.length)
    (kk:∀ sv' h',CT h' id sv' L ⟨(dn L a c.S).1,(dn L a c.S).2,c.gone,c.at_⟩→Bw h id sv h' sv'→K (.tup []) h'):Cq tp J1 [.p id 0 0,.i .i64 a] h K:=by
 refine Ad lL (by simp [LE]) fun wf rp=>?_;unfold LE;simp (disch:=omega)only[go_sem, *]
 refine Au (fun n e h'=>∃ (b:Nat) (S:List Place) (sv':V),n=L.length - b∧e 0=.p id 0 0∧e 1=.i .i64 b∧CT h' id sv' L ⟨S,c.leaf,c.gone,c.at_⟩∧Bw h id sv h' sv'∧dn L b S=dn L a c.S) ?_ _ _ _ ⟨a,c.S,sv,rfl, ?_⟩
 ·rintro n e h' ⟨b,S,sv',rfl,e0,e1,k',f',hz⟩ ih
  have k0:=k'
  obtain ⟨kb,ks,kbig,ksb,klo,khi⟩:=k'
  simp only [EJ] at kb
  have hb:b<L.length:=by
   rw [← hz] at hd
   rw [dn] at hd
   split at hd
   ·assumption
   ·exact hd
  rw [dn,dif_pos hb] at hz
  rw [AA Zn.eq_1]
  have tail:(nth L b).kind=3∨(nth L b).kind=4→dn L (b+1) (⟨b,(nth L b).n⟩::S)=dn L a c.S:=fun hk=>by rw [← hz,if_pos hk]
  have stop:¬ ((nth L b).kind=3∨(nth L b).kind=4)→(S,b)=dn L a c.S:=fun hk=>by rw [← hz,if_neg hk]
  have kl:=Q5 (L:=L) (a:=b+1) (S:=⟨b,(nth L b).n⟩::S)
  simp (disch:=omega)only[go_sem, *]
  refine AD (fun hc=>?_) (fun hc=>?_)
  ·simp (disch:=omega)only[go_sem, *]
   have ht:=tail (.inl hc)
   rw [ht] at kl
   simp only [List.length_cons] at kl
   have nsid:=k0.sne'
   refine AQ (ks.alloc _) (by simp only [Bn];omega) (by simp only [Aa];omega) (by simp;omega) ?_
   intro w h4 s4 a4
   have a4:=Mj a4 ((Am.refl h').alloc _) (by omega)
   have hn4:=a4.next
   have hl4:=a4.lim
   have hc4:=a4.cells
   have hd4:=a4.cell
   have hb4:=a4.get id khi nsid
   rw [kb] at hb4
   simp (disch:=omega)only[go_sem, *]
   refine ih _ _ _ ?_ ⟨b+1,⟨b,(nth L b).n⟩::S,w,rfl, ?_⟩
   ·omega
   ·simp (disch:=omega)only[go_sem, *]
    exact ⟨CT.push (p:=⟨b,(nth L b).n⟩) (c':=⟨⟨b,(nth L b).n⟩::S,c.leaf,c.gone,c.at_⟩) k0 s4 a4 rfl (by simp;omega),f'.trans (Bw.push a4)⟩
  ·simp (disch:=omega)only[go_sem, *]
   refine Af (fun hc2=>?_) (fun hc2=>?_)
   ·simp (disch:=omega)only[go_sem, *]
    have ht:=tail (.inr hc2)
    rw [ht] at kl
    simp only [List.length_cons] at kl
    have nsid:=k0.sne'
    refine AQ (ks.alloc _) (by simp only [Bn];omega) (by simp only [Aa];omega) (by simp;omega) ?_
    intro w h4 s4 a4
    have a4:=Mj a4 ((Am.refl h').alloc _) (by omega)
    have hn4:=a4.next
    have hl4:=a4.lim
    have hc4:=a4.cells
    have hd4:=a4.cell
    have hb4:=a4.get id khi nsid
    rw [kb] at hb4
    simp (disch:=omega)only[go_sem, *]
    refine ih _ _ _ ?_ ⟨b+1,⟨b,(nth L b).n⟩::S,w,rfl, ?_⟩
    ·omega
    ·simp (disch:=omega)only[go_sem, *]
     exact ⟨CT.push (p:=⟨b,(nth L b).n⟩) (c':=⟨⟨b,(nth L b).n⟩::S,c.leaf,c.gone,c.at_⟩) k0 s4 a4 rfl (by simp;omega),f'.trans (Bw.push a4)⟩
   ·have hst:=stop (by omega)
    simp (disch:=omega)only[go_sem, *]
    refine kk sv' _ ?_ (f'.trans Bw.put)
    rw [← hst]
    exact CT.put (c':=⟨S,b,c.gone,c.at_⟩) k0 rfl
 ·simp (disch:=omega)only[go_sem, *]
  exact Bw.refl
end Go.Ab.T
namespace Go.Ab.T
open Go Go.Ab
namespace Fo
def hd:Fo→Fo
 | nil=>nil
 | leaf x _=>leaf x nil
 | seq x k _=>seq x k nil
 | rep x k _=>rep x k nil
def tl:Fo→Fo
 | nil=>nil
 | leaf _ r=>r
 | seq _ _ r=>r
 | rep _ _ r=>r
theorem flat_hd:∀ (f:Fo),f.flat=f.hd.flat++f.tl.flat
 | nil=>rfl
 | leaf _ _=>by simp [flat,hd,tl]
 | seq _ _ _=>by simp [flat,hd,tl]
 | rep _ _ _=>by simp [flat,hd,tl]
theorem runs_hd:∀ (f:Fo),f.runs=f.hd.runs++f.tl.runs
 | nil=>rfl
 | leaf _ _=>by simp [runs,hd,tl]
 | seq _ _ _=>by simp [runs,hd,tl]
 | rep _ _ _=>by simp [runs,hd,tl]
theorem count_tl:∀ (f:Fo),0<f.count→f.tl.count+1=f.count
 | nil,h=>by simp [count] at h
 | leaf _ _,_=>rfl
 | seq _ _ _,_=>rfl
 | rep _ _ _,_=>rfl
theorem ok_tl:∀ (f:Fo),f.ok→f.tl.ok
 | nil,_=>trivial
 | leaf _ _,h=>h.2
 | seq _ _ _,h=>h.2.2.2.2
 | rep _ _ _,h=>h.2.2.2.2
theorem len_tl:∀ (f:Fo),f.ok→f.tl.len≤f.len
 | nil,_=>by simp [tl]
 | leaf x r,ho=>by
  have:=De (x:=x) (by rw [ho.1];omega)
  simp only [tl,len];omega
 | seq x k r,ho=>by
  have:=(len_pos k ho.2.2.2.1).1
  simp only [tl,len];omega
 | rep x k r,ho=>by
  have:=ZH ho
  simp only [tl,len];omega
theorem hd_of_one {f:Fo} (h:f.count=1):f.hd=f:=by
 cases f<;>simp [count] at h<;>simp [hd,nil_of h]
end Fo
def Az:List AS→Int
 | []=>0
 | r::l=>r.n+Az l
theorem BJ:∀ (a b:List AS),Az (a++b)=Az a+Az b
 | [],b=>by simp [Az]
 | r::l,b=>by simp only [List.cons_append,Az,BJ l b];omega
theorem HG (l:List AS):∀ (m:Nat),Az (List.replicate m l).flatten=m*Az l
 | 0=>by simp [Az]
 | m+1=>by rw [List.replicate_succ,List.flatten_cons,BJ,HG l m,Int.natCast_add,Int.add_mul];simp;omega
theorem Fo.runs_sum:∀ (f:Fo),f.ok→Az f.runs=f.len
 | .nil,_=>rfl
 | .leaf x r,ho=>by simp only [Fo.runs,Fo.len,Az,Fo.runs_sum r ho.2]
 | .seq x k r,ho=>by simp only [Fo.runs,Fo.len,BJ,Fo.runs_sum k ho.2.2.2.1,Fo.runs_sum r ho.2.2.2.2]
 | .rep x k r,ho=>by
  have hn:=De (x:=x) (by rw [ho.2.1];omega)
  simp only [Fo.runs,Fo.len,BJ,HG,Fo.runs_sum k ho.2.2.2.1,Fo.runs_sum r ho.2.2.2.2]
  rw [Int.toNat_of_nonneg (by omega)]
inductive Z (L:List Node):List Place→Nat→List AS→Prop where
 | nil (n:Nat):Z L [] n []
 | seq (a:Nat) (S:List Place) (n:Nat) (g:Fo) (R:List Node) (l:List AS):(nth L a).kind=3→a<n→a<L.length→S.length≤a→g.ok→g.count≤128→g.len≤4611686018427387904→L.drop n=g.flat++R→Z L S (n+g.flat.length) l→Z L (⟨a,(g.count:Int)+1⟩::S) n (g.runs++l)
 | rep (a:Nat) (S:List Place) (k:Fo) (R:List Node) (m:Nat) (l:List AS):(nth L a).kind=4→a<L.length→S.length≤a→k.ok→k.count=1→m+1≤4611686018427387904→k.len≤4611686018427387904→L.drop (a+1)=k.flat++R→Z L S (a+1+k.flat.length) l→Z L (⟨a,(m:Int)+1⟩::S) (a+1+k.flat.length) ((List.replicate m k.runs).flatten++l)
def D (L:List Node) (q:List Place×Nat) (l:List AS):Prop:=q.2<L.length∧q.1.length≤q.2∧kids (nth L q.2)=0∧(nth L q.2).n≤4611686018427387904∧∃ l',Z L q.1 (q.2+1) l'∧l=⟨Eh (nth L q.2),(nth L q.2).n⟩::l'
theorem Fs {L:List Node}:∀ (f:Fo) (a:Nat) (S:List Place) (l:List AS) (R:List Node),f.ok→0<f.count→f.len≤4611686018427387904→S.length≤a→L.drop a=f.flat++R→Z L S (a+f.hd.flat.length) l→D L (dn L a S) (f.hd.runs++l)
 | .nil,a,S,l,R,ho,hc,hln,hs,hd,hz=>by simp [Fo.count] at hc
 | .leaf x r,a,S,l,R,ho,hc,hln,hs,hd,hz=>by
  have hd':L.drop a=x::(r.flat++R):=hd
  have hx:=Ef hd'
  have ha:=(C4 hd').1
  have hk:=E2 x (by rw [ho.1];omega)
  rw [ho.1] at hk
  rw [dn,dif_pos ha,hx,if_neg (by omega)]
  have hlr:=(Fo.len_pos r ho.2).1
  simp only [Fo.len] at hln
  refine ⟨ha,hs,by rw [hx];exact ho.1,by rw [hx];omega,l,hz,by rw [hx];rfl⟩
 | .seq x k r,a,S,l,R,ho,hc,hln,hs,hd,hz=>by
  have hd':L.drop a=x::(k.flat++(r.flat++R)):=by rw [hd];simp [Fo.flat]
  have hx:=Ef hd'
  have ha:=(C4 hd').1
  obtain ⟨h3,hk,hp,hok,hor⟩:=ho
  have hlr:=(Fo.len_pos r hor).1
  simp only [Fo.len] at hln
  rw [dn,dif_pos ha,hx,if_pos (.inl h3)]
  have hd2:=(C4 hd').2
  have hct:=Fo.count_tl k hp
  have hkb:=GO x
  have hxn:x.n=(k.tl.count:Int)+1:=by
   have:=(J6 x (by omega)).1 h3;omega
  have hfl:=congrArg List.length (Fo.flat_hd k)
  simp only [List.length_append] at hfl
  rw [show (Fo.seq x k r).hd.runs++l=k.hd.runs++(k.tl.runs++l) by rw [← List.append_assoc,←Fo.runs_hd];simp [Fo.hd,Fo.runs]]
  refine Fs k (a+1) _ _ _ hok hp (by omega) (by simp;omega) hd2 ?_
  rw [hxn]
  refine Z.seq a S _ k.tl (r.flat++R) l (by rw [hx];exact h3) (by omega) ha hs (Fo.ok_tl k hok) (by omega) (by have:=Fo.len_tl k hok;omega) ?_ ?_
  ·rw [Fo.flat_hd k,List.append_assoc] at hd2
   exact JQ hd2
  ·have:a+1+k.hd.flat.length+k.tl.flat.length=a+(Fo.seq x k r).hd.flat.length:=by
    show _=a+(x::(k.flat++[])).length
    simp;omega
   rw [this];exact hz
 | .rep x k r,a,S,l,R,ho,hc,hln,hs,hd,hz=>by
  have hd':L.drop a=x::(k.flat++(r.flat++R)):=by rw [hd];simp [Fo.flat]
  have hx:=Ef hd'
  have ha:=(C4 hd').1
  have hrn:=ZH ho
  obtain ⟨h4,hk,hp,hok,hor⟩:=ho
  have hlr:=(Fo.len_pos r hor).1
  simp only [Fo.len] at hln
  have hm1:x.n*1≤x.n*k.len:=Int.mul_le_mul_of_nonneg_left hrn.2.1 (by omega)
  have hm2:1*k.len≤x.n*k.len:=Int.mul_le_mul_of_nonneg_right hrn.1 (by omega)
  have hm3:x.n≤4611686018427387904:=by rw [Int.mul_one] at hm1;omega
  rw [dn,dif_pos ha,hx,if_pos (.inr h4)]
  have hd2:=(C4 hd').2
  obtain ⟨m,hm⟩:∃ m:Nat,x.n=(m:Int)+1:=⟨(x.n - 1).toNat,by omega⟩
  have h1:=Fo.hd_of_one hp
  rw [show (Fo.rep x k r).hd.runs++l=k.hd.runs++((List.replicate m k.runs).flatten++l) by
   rw [h1,←List.append_assoc];simp only [Fo.hd,Fo.runs,List.append_nil]
   rw [show x.n.toNat=m+1 by omega,List.replicate_succ,List.flatten_cons]]
  refine Fs k (a+1) _ _ _ hok (by omega) (by omega) (by simp;omega) hd2 ?_
  rw [hm,h1]
  refine Z.rep a S k (r.flat++R) m l (by rw [hx];exact h4) ha hs hok hp (by rw [hm] at hm3;omega) (by omega) hd2 ?_
  have:a+1+k.flat.length=a+(Fo.rep x k r).hd.flat.length:=by
   show _=a+(x::(k.flat++[])).length
   simp;omega
  rw [this];exact hz
theorem nP {L:List Node} {S:List Place} {n:Nat} {l:List AS} (z:Z L S n l):IG L n S∧((l=[]∧IE L n S=([],L.length))∨D L (IE L n S) l):=by
 induction z with
 | nil n=>exact ⟨trivial,.inl ⟨rfl,rfl⟩⟩
 | seq a S n g R l hk han hal hs hg hgc hgl hd hz ih=>
  by_cases hc:0<g.count
  ·have hct:=Fo.count_tl g hc
   have hfl:=congrArg List.length (Fo.flat_hd g)
   simp only [List.length_append] at hfl
   have hD:D L (dn L n (⟨a,(g.count:Int)⟩::S)) (g.runs++l):=by
    rw [Fo.runs_hd,List.append_assoc]
    refine Fs g n _ _ R hg hc hgl (by simp;omega) hd ?_
    have hd2:=hd
    rw [Fo.flat_hd g,List.append_assoc] at hd2
    have:=Z.seq a S (n+g.hd.flat.length) g.tl R l hk (by omega) hal hs (Fo.ok_tl g hg) (by omega) (by have:=Fo.len_tl g hg;omega) (JQ hd2) (by rw [Nat.add_assoc,←hfl];exact hz)
    rw [show ((g.tl.count:Int)+1)=g.count by omega] at this
    exact this
   have e:(g.count:Int)+1 - 1=g.count:=by omega
   refine ⟨⟨hal,by simp only;omega,by simp only;omega, ?_⟩,.inr ?_⟩
   ·simp only [e]
    rw [if_pos (by omega),if_neg (by omega)]
    exact ⟨hD.1,by have:=hD.1;have:=hD.2.1;omega⟩
   ·rw [IE]
    simp only [e]
    rw [if_pos (by omega),if_neg (by omega)]
    exact hD
  ·have h0:g=.nil:=Fo.nil_of (by omega)
   subst h0
   simp only [Fo.count,Fo.flat,Fo.runs,List.length_nil,Nat.add_zero,List.nil_append] at hz ih ⊢
   refine ⟨⟨hal,by simp,by simp, ?_⟩, ?_⟩
   ·rw [if_neg (by simp)];exact ih.1
   ·rw [IE,if_neg (by simp)];exact ih.2
 | rep a S k R m l hk hal hs hok hkc hm hkl hd hz ih=>
  cases m with
  | zero=>
   simp only [List.replicate_zero,List.flatten_nil,List.nil_append]
   refine ⟨⟨hal,by simp,by simp, ?_⟩, ?_⟩
   ·rw [if_neg (by simp)];exact ih.1
   ·rw [IE,if_neg (by simp)];exact ih.2
  | succ m=>
   have hD:D L (dn L (a+1) (⟨a,((m+1:Nat):Int)⟩::S)) ((List.replicate (m+1) k.runs).flatten++l):=by
    rw [List.replicate_succ,List.flatten_cons,List.append_assoc]
    have h1:=Fo.hd_of_one hkc
    conv=>arg 3;rw [← h1]
    refine Fs k (a+1) _ _ R hok (by omega) hkl (by simp;omega) hd ?_
    rw [h1]
    have:=Z.rep a S k R m l hk hal hs hok hkc (by omega) hkl hd hz
    simpa using this
   have e:((m+1:Nat):Int)+1 - 1=((m+1:Nat):Int):=by omega
   refine ⟨⟨hal,by simp only;omega,by simp only;omega, ?_⟩,.inr ?_⟩
   ·simp only [e]
    rw [if_pos (by omega),if_pos hk]
    exact ⟨hD.1,by have:=hD.1;have:=hD.2.1;omega⟩
   ·rw [IE]
    simp only [e]
    rw [if_pos (by omega),if_pos hk]
    exact hD
structure N8 (L:List Node) (c:Cs) (l:List AS):Prop where
 sb:c.S.length≤L.length
 at_:0≤c.at_∧c.at_+Az l≤4096
 sum:0≤Az l
 go:(l=[]∧c.leaf=L.length)∨(c.leaf<L.length∧kids (lf L c)=0∧0≤c.gone∧c.gone<(lf L c).n∧(lf L c).n≤4611686018427387904∧∃ l',Z L c.S (c.leaf+1) l'∧l=⟨Eh (lf L c),(lf L c).n - c.gone⟩::l')
theorem N8.nil {L:List Node} {c:Cs} (r:N8 L c []):c.leaf=L.length:=by
 rcases r.go with h | ⟨_,_,_,_,_,l',_,h⟩
 ·exact h.2
 ·cases h
theorem D.rem {L:List Node} {q:List Place×Nat} {l:List AS} {a:Int} (d:D L q l) (ha:0≤a∧a+Az l≤4096) (hp:0≤Az l):N8 L ⟨q.1,q.2,0,a⟩ l:=by
 obtain ⟨h1,h2,h3,hb,l',hz,hl⟩:=d
 have hn:=De (x:=nth L q.2) (by omega)
 exact ⟨by simp only;omega,ha,hp,.inr ⟨h1,h3,by simp,by simp only [lf];omega,hb,l',hz,by rw [hl];simp [lf]⟩⟩
theorem Z.sum {L:List Node} {S:List Place} {n:Nat} {l:List AS} (z:Z L S n l):0≤Az l:=by
 induction z with
 | nil n=>simp [Az]
 | seq a S n g R l hk han hal hs hg hgc hgl hd hz ih=>rw [BJ,Fo.runs_sum g hg];have:=(Fo.len_pos g hg).1;omega
 | rep a S k R m l hk hal hs hok hkc hm hkl hd hz ih=>
  rw [BJ,HG,Fo.runs_sum k hok]
  have:0≤(m:Int)*k.len:=Int.mul_nonneg (by omega) (Fo.len_pos k hok).1
  omega
structure aFN (L:List Node) (c:Cs) (r:AS) (l:List AS):Prop where
 lt:c.leaf<L.length
 ok:Y5 L c
 run:r=⟨Eh (lf L c),(lf L c).n - c.gone⟩
 pos:1≤r.n
 next:N8 L (Ta L c) l
 tick:N8 L (ZN L c) (if r.n=1 then l else ⟨r.part,r.n - 1⟩::l)
theorem N8.cons {L:List Node} {c:Cs} {r:AS} {l:List AS} (h:N8 L c (r::l)):aFN L c r l:=by
 obtain ⟨hsb,hat,hsum,hgo⟩:=h
 rcases hgo with ⟨h,_⟩ | ⟨h1,h2,h3,h4,hb,l',hz,h5⟩
 ·cases h
 ·obtain ⟨rfl,rfl⟩:=List.cons.inj h5
  have hok:=nP hz
  have hl0:=hz.sum
  simp only [Az] at hat hsum
  have step:∀ a:Int,0≤a→a+Az l≤4096→N8 L ⟨(IE L (c.leaf+1) c.S).1,(IE L (c.leaf+1) c.S).2,0,a⟩ l:=by
   intro a ha ha2
   rcases hok.2 with ⟨rfl,he⟩ | hd
   ·rw [he];exact ⟨by simp,by simp only [Az];simp only [Az] at ha2;omega,by simp [Az],.inl ⟨rfl,rfl⟩⟩
   ·exact hd.rem ⟨ha,ha2⟩ hl0
  refine ⟨h1,⟨hok.1,⟨h3,h4,hb⟩,by omega⟩,rfl,by simp only;omega,step _ (by omega) (by omega), ?_⟩
  unfold ZN
  by_cases hg:c.gone+1=(lf L c).n
  ·rw [if_pos hg,if_pos (by simp only;omega)]
   exact step _ (by omega) (by omega)
  ·rw [if_neg hg,if_neg (by simp only;omega)]
   exact ⟨hsb,by simp only [Az];omega,by simp only [Az];omega,.inr ⟨h1,h2,by simp only;omega,by simp only [lf] at hg h4 ⊢;omega,hb,l,hz,by simp only [lf];congr 2;omega⟩⟩
def V0 (L:List Node):Cs:=⟨(dn L 0 []).1,(dn L 0 []).2,0,0⟩
theorem NX {f:Fo} (ho:f.ok) (hc:f.count=1) (hl:f.len≤4096):D f.flat (dn f.flat 0 []) f.runs:=by
 have:=Fs (L:=f.flat) f 0 [] [] [] ho (by omega) (by omega) (by simp) (by simp) (Z.nil _)
 rw [Fo.hd_of_one hc,List.append_nil] at this
 exact this
theorem Pv {f:Fo} (ho:f.ok) (hc:f.count=1) (hl:f.len≤4096):N8 f.flat (V0 f.flat) f.runs:=by
 have h:=Fo.runs_sum f ho
 have:=(Fo.len_pos f ho).1
 exact (NX ho hc hl).rem (by omega) (by omega)
end Go.Ab.T
namespace Go.Ab.T
open Go Go.Ab
set_option maxHeartbeats 1000000
theorem CT.some {h:AH} {id:Nat} {sv:V} {L:List Node} {S:List Place} {p:Place} {lf:Nat} {g a:Int} (k:CT h id sv L ⟨p::S,lf,g,a⟩):AI sv=false∧id<Aq sv∧Aq sv<h.next:=by
 rcases k.stk with ⟨_,hR⟩ | ⟨i,el,cap,cs,rfl,_,_,_,_,h1,h2,_⟩
 ·simp at hR
 ·exact ⟨rfl,h2,h1⟩
theorem CT.top {h:AH} {id:Nat} {sv:V} {L:List Node} {S:List Place} {p p':Place} {lf:Nat} {g a:Int} (k:CT h id sv L ⟨p::S,lf,g,a⟩):CT (h.put (Aq sv) ⟨2,(AU h sv).set (CU sv+S.length) p'.enc⟩) id sv L ⟨p'::S,lf,g,a⟩∧Bw h id sv (h.put (Aq sv) ⟨2,(AU h sv).set (CU sv+S.length) p'.enc⟩) sv:=by
 obtain ⟨hs,h1,h2⟩:=k.some
 refine ⟨⟨?_, ?_,k.big,k.sbig,k.lo,k.hi⟩,⟨Nat.le_refl _,rfl,fun i _ _ hi=>?_,(Bw.refl (h:=h) (id:=id)).own⟩⟩
 ·rw [Ah,An (by omega)];exact k.blk
 ·have:=k.stk.setT (h':=h.put (Aq sv) ⟨2,(AU h sv).set (CU sv+S.length) p'.enc⟩) (j:=S.length) (x:=p') (by simp) (Nat.le_refl _) (by rw [Ah,AK rfl])
  simp only [List.reverse_cons] at this ⊢
  rw [List.set_append_right _ _ (by simp)] at this
  simpa using this
 ·rw [Ah,An]
  rcases hi with hi | hi
  ·rw [hs] at hi;cases hi
  ·exact hi
theorem CT.pop {h:AH} {id:Nat} {sv:V} {L:List Node} {S:List Place} {p:Place} {lf:Nat} {g a:Int} (k:CT h id sv L ⟨p::S,lf,g,a⟩):CT (h.put id (EJ L (BM sv S.length) ⟨S,lf,g,a⟩)) id (BM sv S.length) L ⟨S,lf,g,a⟩∧Bw h id sv (h.put id (EJ L (BM sv S.length) ⟨S,lf,g,a⟩)) (BM sv S.length):=by
 obtain ⟨hs,h1,h2⟩:=k.some
 refine ⟨⟨?_, ?_,k.big,by have:=k.sbig;simp at this ⊢;omega,k.lo,k.hi⟩,⟨Nat.le_refl _,rfl,fun i _ hi _=>by rw [Ah,An hi],.inr (.inl ⟨hs,F1⟩)⟩⟩
 ·rw [Ah,AK rfl]
 ·have:=k.stk.truncd (n:=S.length) (by simp)
  simp only [List.reverse_cons,List.map_append] at this
  rw [List.take_left' (by simp)] at this
  exact Sl.same this (Nat.le_refl _) (fun _=>by rw [Ah,An (by rw [F1];omega)])
theorem YZ {p:Place} {S:List Place}:nth (p::S).reverse S.length=p:=by simp [nth,List.getD]
theorem CT.lim_le {h:AH} {id:Nat} {sv:V} {L:List Node} {c:Cs} (k:CT h id sv L c):h.lim≤h.next:=by
 have:=k.lo;have:=k.hi;omega
theorem Xo {h : AH} {id : Nat} {sv : V} {L : List Node} {c : Cs} {K : V → AH → Prop} (k : CT h id sv L c) (hlf : c.leaf < L.length) (hok : IG L (c.leaf + 1) c.S)
    (kk:∀ sv' h',CT h' id sv' L ⟨(IE L (c.leaf+1) c.S).1,(IE L (c.leaf+1) c.S).2,0,c.at_⟩→Bw h id sv h' sv'→K (.tup []) h'):Cq tp NF [.p id 0 0] h K:=by
 have k0:=k
 obtain ⟨kb,ks,kbig,ksb,klo,khi⟩:=k
 simp only [EJ] at kb
 refine Ad lD (by simp [Lw]) fun wf rp=>?_;unfold Lw;simp (disch:=omega)only[go_sem, *]
 refine Au (fun n e h'=>∃ (S:List Place) (sv':V),n=S.length∧e 0=.p id 0 0∧e 2=.i .i64 ((c.leaf:Int)+1)∧CT h' id sv' L ⟨S,c.leaf,0,c.at_⟩∧Bw h id sv h' sv'∧IG L (c.leaf+1) S∧IE L (c.leaf+1) S=IE L (c.leaf+1) c.S) ?_ _ _ _ ⟨c.S,sv,rfl, ?_⟩
 ·rintro n e h' ⟨S,sv',rfl,e0,e2,k',f',ok,hz⟩ ih
  have k1:=k'
  obtain ⟨kb,ks,kbig,ksb,klo,khi⟩:=k'
  obtain ⟨glen,gbig,glt,glo,gget,gat,grow,gc,gcs⟩:=ks.facts
  have grl:=fun (hj:0<S.length)=>ks.rowlt (j:=S.length - 1) (by simp;omega)
  have spre:∀ {k:IntKind} {j:Int} {cs:List (List V)},0≤j→j≤S.length→FI (some ⟨2,cs⟩) 2 sv' none (some (.i k j)) none=some (BM sv' j.toNat):=fun h0 h1=>ks.pre h0 (by simp;omega)
  simp only [List.length_reverse] at glen gbig glt gget gat grow grl spre ksb
  simp only [EJ] at kb
  rw [AA P5.eq_1]
  simp (disch:=omega)only[go_sem, *]
  refine Af (fun hc=>?_) (fun hc=>?_)
  ·obtain ⟨p,r,rfl⟩:∃ p r,S=p::r:=by
    match S,hc with
    | [],hc=>simp at hc
    | p::r,_=>exact ⟨p,r,rfl⟩
   simp only [IG] at ok
   obtain ⟨o1,o2,o3,o4⟩:=ok
   rw [IE] at hz
   have tn:=YZ (p:=p) (S:=r)
   simp only [List.length_cons,Int.natCast_add,Int.natCast_one] at glen gbig glt gget gat grow grl spre ksb hc
   have z1:((r.length:Int)+1 - 1).toNat=r.length:=by omega
   have grl':=grl (by omega)
   simp only [Nat.add_sub_cancel] at grl'
   have sne:=k1.some
   have kt:=CT.top (p':=⟨p.at_,p.left - 1⟩) k1
   simp (disch:=omega)only[go_sem, *]
   refine Af (fun hc2=>?_) (fun hc2=>?_)
   ·rw [if_pos hc2] at o4 hz
    simp (disch:=omega)only[go_sem, *]
    refine Af (fun hc3=>?_) (fun hc3=>?_)
    ·rw [if_pos hc3] at o4 hz
     simp (disch:=omega)only[go_sem, *]
     refine I0 (a:=p.at_+1) kt.1 o4.1 o4.2 ?_
     intro sv2 h2 c2 f2
     simp (disch:=omega)only[go_sem, *]
     refine kk sv2 _ ?_ (f'.trans (kt.2.trans f2))
     rw [← hz];exact c2
    ·rw [if_neg hc3] at o4 hz
     simp (disch:=omega)only[go_sem, *]
     refine I0 (a:=c.leaf+1) kt.1 o4.1 o4.2 ?_
     intro sv2 h2 c2 f2
     simp (disch:=omega)only[go_sem, *]
     refine kk sv2 _ ?_ (f'.trans (kt.2.trans f2))
     rw [← hz];exact c2
   ·rw [if_neg hc2] at o4 hz
    have kq:=CT.pop kt.1
    have hct:=Ee (n:=r.length) gcs
    simp (disch:=omega)only[go_sem, *]
    refine ih _ _ _ ?_ ⟨r,BM sv' r.length,rfl, ?_⟩
    ·simp
    ·simp (disch:=omega)only[go_sem, *]
     exact ⟨kq.1,f'.trans (kt.2.trans kq.2)⟩
  ·have hS:S=[]:=by
    match S,hc with
    | [],hc=>rfl
    | p::r,hc=>simp at hc
   subst hS
   rw [IE] at hz
   simp (disch:=omega)only[go_sem, *]
   refine kk sv' _ ?_ (f'.trans Bw.put)
   rw [← hz];exact CT.put (c':=⟨[],L.length,0,c.at_⟩) k1 rfl
 ·simp (disch:=omega)only[go_sem, *]
  exact ⟨CT.put (c':=⟨c.S,c.leaf,0,c.at_⟩) k0 rfl,Bw.put⟩
end Go.Ab.T
namespace Go.Ab.T
open Go Go.Ab
set_option maxHeartbeats 1000000
theorem JO {h : AH} {id : Nat} {sv : V} {L : List Node} {c : Cs} {K : V → AH → Prop} (k : CT h id sv L c) (hl : L.length ≤ c.leaf)
    (kk:∀ h',Am h h'→K (.tup [.agg (AS.enc ⟨0,0⟩),.b false]) h'):Cq tp Hk [.p id 0 0] h K:=by
 have kb:=k.blk
 have kl:=k.lim_le
 have khi:=k.hi
 simp only [EJ] at kb
 refine Ad Ru (by simp [HR]) fun wf rp=>?_;unfold HR;simp (disch:=omega)only[go_sem, *]
 refine Af (fun hc=>?_) (fun hc=>by omega)
 simp (disch:=omega)only[go_sem, *]
 exact kk _ (by (repeat (first | exact Am.refl _ | refine Am.alloc ?_ _ | (refine Am.put ?_ _ _ ?_;rotate_left;(first | omega | (simp only [Aa,Ae];omega))))))
theorem CT.put_other {h:AH} {id:Nat} {sv:V} {L:List Node} {c:Cs} (k:CT h id sv L c) {j:Nat} {b:Bo} (h1:id≠j) (h3:AI sv=true∨Aq sv≠j):CT (h.put j b) id sv L c:=by
 refine ⟨by rw [Ah,An h1];exact k.blk, ?_,k.big,k.sbig,k.lo,k.hi⟩
 rcases k.stk with ⟨hv,hR⟩ | ⟨i,el,cap,cs,rfl,hg,q1,q2,q3,q4,q5,q6⟩
 ·exact .inl ⟨hv,hR⟩
 ·refine .inr ⟨i,el,cap,cs,rfl, ?_,q1,q2,q3,q4,q5,q6⟩
  rcases h3 with h3 | h3
  ·cases h3
  ·rw [Ah,An (show ¬ i=j from h3)];exact hg
theorem Bw.put_new {h h':AH} {id:Nat} {sv sv':V} {i:Nat} {b:Bo} (f:Bw h id sv h' sv') (hi:h.next≤i):Bw h id sv (h'.put i b) sv':=
 ⟨f.next,f.lim,fun j hj hne hs=>by rw [Ah,An (by omega)];exact f.get j hj hne hs,f.own⟩
theorem L9 {h : AH} {id : Nat} {sv : V} {L : List Node} {c : Cs} {K : V → AH → Prop} (k : CT h id sv L c) (hl : c.leaf < L.length) (hok : Y5 L c)
    (kk:∀ sv' h',CT h' id sv' L (Ta L c)→Bw h id sv h' sv'→K (.tup [.agg (AS.enc ⟨Eh (lf L c),(lf L c).n - c.gone⟩),.b true]) h'):Cq tp Hk [.p id 0 0] h K:=by
 have k0:=k
 obtain ⟨o1,o2,o3⟩:=hok
 obtain ⟨kb,ks,kbig,ksb,klo,khi⟩:=k
 simp only [EJ] at kb
 unfold lf at o2
 refine Ad Ru (by simp [HR]) fun wf rp=>?_;unfold HR;simp (disch:=omega)only[go_sem, *]
 refine Af (fun hc=>by omega) (fun hc=>?_)
 simp (disch:=omega)only[go_sem, *]
 refine Pf.go (WX) (by simp only [go_sem]) fun _=>?_;simp (disch:=omega)only[go_sem, *]
 refine Xo (c:=⟨c.S,c.leaf,c.gone,c.at_+((nth L c.leaf).n - c.gone)⟩) (L:=L) (id:=id) (sv:=sv) ?_ hl o1 ?_
 ·have x3:Am h (((h.alloc ⟨2,[[.i .i64 0,.i .i64 0]]⟩).alloc ⟨2,[[.i .i64 0,.i .i64 0]]⟩).put (h.next+1) ⟨2,[[.i .i64 (Eh (nth L c.leaf)),.i .i64 ((nth L c.leaf).n - c.gone)]]⟩):=by (repeat (first | exact Am.refl _ | refine Am.alloc ?_ _ | (refine Am.put ?_ _ _ ?_;rotate_left;(first | omega | (simp only [Aa,Ae];omega)))))
  have k3:=CT.put (c':=⟨c.S,c.leaf,c.gone,c.at_+((nth L c.leaf).n - c.gone)⟩) (k0.ext x3) rfl
  exact k3
 ·intro sv4 h4 c4 f4
  have sne:=k0.sne
  have svlt:AI sv=true∨Aq sv<h.next:=sne.imp (fun x=>x) fun x=>x.2
  have n4:=f4.next
  have l4:=f4.lim
  have y1:=f4.get (h.next+1) (by simp only [Ae,Aa];omega) (by omega) (svlt.imp (fun x=>x) (fun x=>by omega))
  have y2:=f4.get h.next (by simp only [Ae,Aa];omega) (by omega) (svlt.imp (fun x=>x) (fun x=>by omega))
  simp (disch:=omega)only[go_sem] at y1 y2 n4 l4
  have i4:=c4.hi
  simp (disch:=omega)only[go_sem, *]
  refine kk sv4 _ (c4.put_other (by omega) ?_) ?_
  ·rcases f4.own with h1 | ⟨h0,h1⟩ | h1
   ·exact .inl h1
   ·rcases svlt with h2 | h2
    ·rw [h2] at h0;cases h0
    ·exact .inr (by omega)
   ·simp only [Ae,Aa] at h1
    exact .inr (by omega)
  ·refine Bw.put_new ⟨by omega,l4,fun i hi hne hs=>?_, ?_⟩ (Nat.le_refl _)
   ·rw [f4.get i (by simp only [Ae,Aa];omega) hne hs]
    simp (disch:=omega)only[go_sem]
   ·rcases f4.own with h1 | h1 | h1
    ·exact .inl h1
    ·exact .inr (.inl h1)
    ·simp only [Ae,Aa] at h1
     exact .inr (.inr (by omega))
theorem Tz {h : AH} {id : Nat} {sv : V} {f : Fo} {c : Cs} {K : V → AH → Prop} (k : CT h id sv f.flat c) (ho : f.ok) (hc : f.count = 1) (hl : f.len ≤ 4096)
    (kk:∀ sv' h',CT h' id sv' f.flat (V0 f.flat)→Bw h id sv h' sv'→K (.tup []) h'):Cq tp NE [.p id 0 0] h K:=by
 have kb:=k.blk
 have klo:=k.lo
 have hD:=NX ho hc hl
 simp only [EJ] at kb
 have k2:CT (h.put id (EJ f.flat .ns ⟨[],c.leaf,0,0⟩)) id .ns f.flat ⟨[],c.leaf,0,0⟩:=by
  refine ⟨by rw [Ah,AK rfl],Sl.nil _ _ _,k.big,by simp,k.lo,k.hi⟩
 have f2:Bw h id sv (h.put id (EJ f.flat .ns ⟨[],c.leaf,0,0⟩)) .ns:=⟨Nat.le_refl _,rfl,fun i hi hne hs=>by rw [Ah,An hne],.inl rfl⟩
 refine Ad lB (by simp [Lu]) fun wf rp=>?_;unfold Lu;simp (disch:=omega)only[go_sem, *]
 refine I0 (a:=0) k2 hD.1 (by have:=hD.1;have:=hD.2.1;simp only;omega) ?_
 intro sv3 h3 c3 f3
 simp (disch:=omega)only[go_sem, *]
 exact kk sv3 h3 c3 (f2.trans f3)
structure EH (h h':AH) (L:List Node) (id:Nat) (sv:V) (c:Cs):Prop where
 cur:CT h' id sv L c
 ext:Am h h'
 id_:h.next≤id
theorem EH.step {h h1 h2:AH} {L:List Node} {id:Nat} {sv s2:V} {c c2:Cs} (n:EH h h1 L id sv c) (k:CT h2 id s2 L c2) (f:Bw h1 id sv h2 s2):EH h h2 L id s2 c2:=by
 have x:=n.ext
 have:=x.next;have:=f.next
 have i1:=n.id_
 have sne:=n.cur.sne
 refine ⟨k,⟨by omega,f.lim.trans x.lim,fun i hi=>?_⟩,n.id_⟩
 rw [f.get i (by omega) (by omega) (sne.imp (fun x=>x) (fun x=>by omega)),x.get i hi]
theorem EH.grow {h h1 h2:AH} {L:List Node} {id:Nat} {sv:V} {c:Cs} (n:EH h h1 L id sv c) (x:Am h1 h2):EH h h2 L id sv c:=
 ⟨n.cur.ext x,n.ext.trans x,n.id_⟩
theorem mM {h:AH} {L:List Node} {K:V→AH→Prop} (kbad:A9 L≠0→K .np h) (kk:A9 L=0→∀ id sv h',EH h h' L id sv (V0 L)→K (.p id 0 0) h'):Cq tp Sp [.fl 3 (L.map Node.enc)] h K:=by
 refine Ad kT (by simp [Lm]) fun wf rp=>?_;unfold Lm;simp (disch:=omega)only[go_sem, *]
 have hlm:=wf.1
 have hL:=rp.head.len
 refine Pf.go (FA) (by simp only [go_sem]) fun _=>?_;simp (disch:=omega)only[go_sem, *]
 refine Af (fun hc=>?_) (fun hc=>?_)
 ·simp (disch:=omega)only[go_sem, *]
 ·have hr:A9 L=0:=by omega
  obtain ⟨hl128,f,ho,hc1,rfl,hdp,hln⟩:=(EB L).1 hr
  simp (disch:=omega)only[go_sem, *]
  refine Pf.go (Fm) (by simp only [go_sem]) fun _=>?_;simp (disch:=omega)only[go_sem, *]
  have xa:Am h (h.alloc (EJ f.flat .ns ⟨[],0,0,0⟩)):=(Am.refl h).alloc _
  have k4:CT (h.alloc (EJ f.flat .ns ⟨[],0,0,0⟩)) h.next .ns f.flat ⟨[],0,0,0⟩:=
   ⟨by rw [A0,AK rfl],Sl.nil _ _ _,by omega,by simp,by rw [Bn];omega,by rw [Aa];omega⟩
  refine Tz k4 ho hc1 hln ?_
  intro sv5 h5 c5 f5
  simp (disch:=omega)only[go_sem, *]
  have n4:EH h (h.alloc (EJ f.flat .ns ⟨[],0,0,0⟩)) f.flat h.next .ns ⟨[],0,0,0⟩:=⟨k4,xa,Nat.le_refl _⟩
  exact kk hr _ _ _ (n4.step c5 f5)
end Go.Ab.T
namespace Go.Ab.T
open Go Go.Ab
def E6:List AS→Int→Int
 | [],_=>-1
 | r::l,t=>if t<r.n then r.part else E6 l (t - r.n)
theorem ML {f:Fo} (ho:f.ok) (hc:f.count=1) (hd:f.depth≤16) (hl:f.len≤4096) (hn:f.flat.length≤128):A9 f.flat=0:=(EB _).2 ⟨hn,f,ho,hc,rfl,hd,hl⟩
theorem Td {α:Type} [Inhabited α] {a:α} {l:List α} {i:Nat}:nth (a::l) (i+1)=nth l i:=by simp [nth]
def A5 (w:List AS):Prop:=∀ r∈w,1≤r.n
theorem A5.nth {w:List AS} (h:A5 w) {i:Nat} (hi:i<w.length):1≤(nth w i).n:=by
 rw [Dv hi];exact h _ (List.getElem_mem _)
theorem Fo.runs_allpos:∀ (f:Fo),f.ok→A5 f.runs
 | .nil,_=>by intro r hr;cases hr
 | .leaf x r,ho=>by
  intro q hq
  rcases List.mem_cons.1 hq with rfl | hq
  ·exact De (by rw [ho.1];omega)
  ·exact Fo.runs_allpos r ho.2 q hq
 | .seq x k r,ho=>by
  intro q hq
  rcases List.mem_append.1 hq with hq | hq
  ·exact Fo.runs_allpos k ho.2.2.2.1 q hq
  ·exact Fo.runs_allpos r ho.2.2.2.2 q hq
 | .rep x k r,ho=>by
  intro q hq
  rcases List.mem_append.1 hq with hq | hq
  ·obtain ⟨l,hl,hq⟩:=List.mem_flatten.1 hq
   rw [List.eq_of_mem_replicate hl] at hq
   exact Fo.runs_allpos k ho.2.2.2.1 q hq
  ·exact Fo.runs_allpos r ho.2.2.2.2 q hq
theorem Cl:∀ {w:List AS},A5 w→0≤Az w
 | [],_=>by simp [Az]
 | r::l,h=>by
  have:=Cl (w:=l) (fun q hq=>h q (List.mem_cons_of_mem _ hq))
  have:=h r (List.mem_cons_self ..)
  simp only [Az];omega
theorem IH:∀ (w:List AS) (i:Nat),i<w.length→Az (w.take (i+1))=Az (w.take i)+(nth w i).n
 | [],i,hi=>by simp at hi
 | r::l,0,hi=>by simp [Az,nth]
 | r::l,i+1,hi=>by
  rw [Td,List.take_succ_cons,List.take_succ_cons,Az,Az,IH l i (by simpa using hi)];omega
theorem Jp (w:List AS) (i:Nat) (h:A5 w):Az (w.take i)≤Az w:=by
 have h1:=congrArg Az (List.take_append_drop i w)
 rw [BJ] at h1
 have:=Cl (w:=w.drop i) (fun q hq=>h q (List.mem_of_mem_drop hq))
 omega
theorem G2 {a b:Int} (ha:0≤a) (hb:0≤b) (h:a+b≤4611686018427387904):GH a b=a+b:=by unfold GH;rw [if_neg (by omega)];omega
theorem Py {B:List AS} {q r:AS} {l:List AS} (hr:1≤r.n):Bv (r::l) (B++[q])=if q.part=r.part then Bv l (B++[⟨q.part,GH q.n r.n⟩]) else Bv l (B++[q]++[r]):=by
 have h1:nth (B++[q]) ((B++[q]).length - 1)=q:=by simp [nth,List.getD]
 rw [Bv,if_neg (by omega),h1]
 by_cases h:q.part=r.part
 ·rw [if_pos ⟨by simp,h⟩,if_pos h,h]
  congr 1
  rw [List.length_append,List.length_singleton,Nat.add_sub_cancel,List.set_append_right _ _ (Nat.le_refl _)]
  simp
 ·rw [if_neg (fun hh=>h hh.2),if_neg h]
theorem T9 {r:AS} {l:List AS} (hr:1≤r.n):Bv (r::l) []=Bv l [r]:=by
 rw [Bv,if_neg (by omega),if_neg (by simp)];rfl
def tk (p:Int):List AS→Int
 | []=>0
 | r::l=>(if r.part=p then r.n else 0)+tk p l
theorem Ud (p:Int):∀ (a b:List AS),tk p (a++b)=tk p a+tk p b
 | [],b=>by simp [tk]
 | r::l,b=>by simp only [List.cons_append,tk,Ud p l b];omega
def fN:List AS→Prop
 | []=>True
 | [_]=>True
 | a::b::l=>a.part≠b.part∧fN (b::l)
theorem Ky:∀ {B:List AS} {q r:AS},fN (B++[q])→q.part≠r.part→fN (B++[q]++[r])
 | [],q,r,_,h=>⟨h,trivial⟩
 | [a],q,r,h1,h=>⟨h1.1,h,trivial⟩
 | a::b::B,q,r,h1,h=>⟨h1.1,Ky (B:=b::B) h1.2 h⟩
theorem Kx:∀ {B:List AS} {q r:AS},fN (B++[q])→q.part=r.part→fN (B++[r])
 | [],q,r,_,h=>trivial
 | [a],q,r,h1,h=>⟨by rw [← h];exact h1.1,trivial⟩
 | a::b::B,q,r,h1,h=>⟨h1.1,Kx (B:=b::B) h1.2 h⟩
theorem LX {a b:List AS} (h:A5 (a++b)):A5 a∧A5 b:=⟨fun r hr=>h r (List.mem_append_left _ hr),fun r hr=>h r (List.mem_append_right _ hr)⟩
theorem Ia {a b:List AS} (h1:A5 a) (h2:A5 b):A5 (a++b):=fun r hr=>by
 rcases List.mem_append.1 hr with hr | hr
 ·exact h1 r hr
 ·exact h2 r hr
theorem FC {p a b:Int} {l:List AS} (ha:0≤a) (hb:0≤b):∀ (B:List AS) (t:Int),E6 (B++⟨p,a+b⟩::l) t=E6 (B++⟨p,a⟩::⟨p,b⟩::l) t
 | [],t=>by
  simp only [List.nil_append,E6]
  by_cases h1:t<a+b
  ·rw [if_pos h1]
   by_cases h2:t<a
   ·rw [if_pos h2]
   ·rw [if_neg h2,if_pos (by omega)]
  ·rw [if_neg h1,if_neg (by omega),if_neg (by omega)];congr 1;omega
 | r::B,t=>by simp only [List.cons_append,E6,FC ha hb B]
structure P9 (L R:List AS):Prop where
 pos:A5 R
 sep:fN R
 sum:Az R=Az L
 tks:∀ p,tk p R=tk p L
 at_:∀ t,E6 R t=E6 L t
 parts:∀ r∈R,∃ q∈L,q.part=r.part
 len:R.length≤L.length
 ne:L≠[]→R≠[]
theorem Js:∀ (l B:List AS) (q:AS),A5 (B++[q])→A5 l→fN (B++[q])→Az (B++[q])+Az l≤4611686018427387904→P9 (B++[q]++l) (Bv l (B++[q]))
 | [],B,q,hp,_,hs,_=>by
  rw [Bv,List.append_nil]
  exact ⟨hp,hs,rfl,fun _=>rfl,fun _=>rfl,fun r hr=>⟨r,hr,rfl⟩,Nat.le_refl _,fun h=>h⟩
 | r::l,B,q,hp,hl,hs,hb=>by
  have hr:=hl r (List.mem_cons_self ..)
  have hl2:A5 l:=fun x hx=>hl x (List.mem_cons_of_mem _ hx)
  have hq:=hp q (by simp)
  have hB:=(LX hp).1
  have sB:=Cl hB
  have sl:=Cl hl2
  simp only [Az,BJ] at hb
  rw [Py hr]
  by_cases h:q.part=r.part
  ·rw [if_pos h,G2 (by omega) (by omega) (by omega)]
   have ih:=Js l B ⟨q.part,q.n+r.n⟩ (Ia hB (fun x hx=>by simp at hx;subst hx;simp only;omega)) hl2 (Kx hs rfl) (by simp only [Az,BJ];omega)
   refine ⟨ih.pos,ih.sep,by rw [ih.sum];simp only [Az,BJ];omega,fun p=>?_,fun t=>?_,fun x hx=>?_, ?_,fun _=>ih.ne (by simp)⟩
   ·rw [ih.tks];simp only [tk,Ud,h];split<;>omega
   ·rw [ih.at_]
    have e1:B++[⟨q.part,q.n+r.n⟩]++l=B++⟨q.part,q.n+r.n⟩::l:=by simp
    have e2:B++[q]++r::l=B++⟨q.part,q.n⟩::⟨q.part,r.n⟩::l:=by
     rw [show (⟨q.part,r.n⟩:AS)=r by cases r;simp_all];simp
    rw [e1,e2]
    exact FC (by omega) (by omega) B t
   ·obtain ⟨y,hy,he⟩:=ih.parts x hx
    rcases List.mem_append.1 hy with hy | hy
    ·rcases List.mem_append.1 hy with hy | hy
     ·exact ⟨y,by simp [hy],he⟩
     ·simp at hy;subst hy;exact ⟨q,by simp,he⟩
    ·exact ⟨y,by simp [hy],he⟩
   ·have:=ih.len;simp at this ⊢;omega
  ·rw [if_neg h]
   have ih:=Js l (B++[q]) r (Ia hp (fun x hx=>by simp at hx;subst hx;exact hr)) hl2 (Ky hs h) (by simp only [Az,BJ];omega)
   have e:B++[q]++[r]++l=B++[q]++r::l:=by simp
   rw [e] at ih
   exact ih
theorem MZ {L:List AS} (hp:A5 L) (hs:Az L≤4611686018427387904):P9 L (Bv L []):=by
 cases L with
 | nil=>exact ⟨hp,trivial,rfl,fun _=>rfl,fun _=>rfl,fun r hr=>⟨r,hr,rfl⟩,Nat.le_refl _,fun h=>h⟩
 | cons r l=>
  rw [T9 (hp r (List.mem_cons_self ..))]
  exact Js l [] r (fun x hx=>by simp at hx;subst hx;exact hp _ (List.mem_cons_self ..)) (fun x hx=>hp x (List.mem_cons_of_mem _ hx)) trivial (by simpa [Az] using hs)
theorem Fy:∀ (L:List AS) (a:Int),A5 L→0≤a→a+Az L≤4611686018427387904→BU L a=a+Az L
 | [],a,_,_,_=>by simp [BU,Az]
 | r::l,a,hp,ha,hb=>by
  have hr:=hp r (List.mem_cons_self ..)
  have hl:A5 l:=fun x hx=>hp x (List.mem_cons_of_mem _ hx)
  have:=Cl hl
  simp only [Az] at hb ⊢
  rw [BU,G2 ha (by omega) (by omega),Fy l _ hl (by omega) (by omega)];omega
theorem HB {L:List AS} (hp:A5 L) (hs:Az L≤4611686018427387904):DJ L:=by
 intro i hi
 have h1:=IH L i hi
 have h2:=Jp L (i+1) hp
 have h3:=Cl (w:=L.take i) (fun q hq=>hp q (List.mem_of_mem_take hq))
 omega
end Go.Ab.T
namespace Go.Ab.T
open Go Go.Ab
theorem Xt {L:List AS} (hok:DJ L):Pf tp Sq [.fl 2 (L.map AS.enc)] (.fl 2 ((Bv L []).map AS.enc)):=by
 refine AN kU (by simp [Ln]) fun rp=>?_;unfold Ln;simp (disch:=omega)only[go_sem, *]
 have hL:=rp.head.len
 refine Au (fun n e h=>∃ (i:Nat) (out:V) (A:List AS),n=L.length - i∧h.lim=0∧e 7=.fl 2 (L.map AS.enc)∧e 8=.i .i64 L.length∧e 9=.i .i64 i∧e 3=out∧i≤L.length∧A.length≤i∧Sl 0 h 2 out (A.map AS.enc)∧DJ A∧Bv (L.drop i) A=Bv L []) ?_ _ _ _ ⟨0,.ns,[],rfl, ?_⟩
 ·rintro n e h ⟨i,out,A,rfl,hl,e7,e8,e9,e3,hi,hA,so,okA,hz⟩ ih
  rw [AA P1.eq_1]
  simp (disch:=omega)only[go_sem, *]
  obtain ⟨olen,obig,olt,olo,oget,oat,orow,ocell,ocells⟩:=so.facts
  refine Af (fun hc=>?_) (fun hc=>?_)
  ·rw [AX (by omega),Bv] at hz
   have hb:=hok i (by omega)
   simp (disch:=omega)only[go_sem, *]
   have x1:Am h ((h.alloc ⟨2,[[.i .i64 0,.i .i64 0]]⟩).put h.next ⟨2,[[.i .i64 (nth L i).part,.i .i64 (nth L i).n]]⟩):=by (repeat (first | exact Am.refl _ | refine Am.alloc ?_ _ | (refine Am.put ?_ _ _ ?_;rotate_left;(first | omega | (simp only [Aa,Ae];omega)))))
   refine Af (fun hc2=>?_) (fun hc2=>?_)
   ·rw [if_pos hc2] at hz
    simp (disch:=omega)only[go_sem, *]
    refine ih _ _ _ ?_ ⟨i+1,out,A,rfl, ?_⟩
    ·omega
    ·simp (disch:=omega)only[go_sem, *]
     ((repeat' refine And.intro ?_ ?_)<;>first | omega | assumption | (exact so.ext x1))
   ·rw [if_neg hc2] at hz
    simp (disch:=omega)only[go_sem, *]
    refine AD (fun hc3=>?_) (fun hc3=>?_)
    ·have hk:((A.length:Int) - 1).toNat=A.length - 1:=by omega
     simp (disch:=omega)only[go_sem, *]
     refine Af (fun hc4=>?_) (fun hc4=>?_)
     ·rw [if_pos ⟨by omega,hc4⟩] at hz
      have hA1:=okA (A.length - 1) (by omega)
      simp (disch:=omega)only[go_sem, *]
      refine Pf.go (LW hA1 hb) (by simp only [go_sem]) fun _=>?_;simp (disch:=omega)only[go_sem, *]
      refine ih _ _ _ ?_ ⟨i+1,out,A.set (A.length - 1) ⟨(nth A (A.length - 1)).part,GH (nth A (A.length - 1)).n (nth L i).n⟩,rfl, ?_⟩
      ·omega
      ·simp (disch:=omega)only[go_sem, *]
       ((repeat' refine And.intro ?_ ?_)<;>first | omega | assumption | (simp;omega) | (exact Sl.setT so (by omega) (by simp (disch:=omega)only[go_sem]<;>omega) (by simp (disch:=omega)only[go_sem, *])) | (refine MQ okA ?_;exact JC.2) | (rw [← hz,hc4]))
     ·simp only [hc4,and_false,reduceIte] at hz
      simp (disch:=omega)only[go_sem, *]
      refine AQ (R:=A.map AS.enc) ((so.ext x1).alloc _) (by simp only [go_sem, *]) (Nat.zero_le _) (by simp;omega) ?_
      intro w h4 s4 g4
      have hl4:=g4.lim
      simp (disch:=omega)only[go_sem, *]
      refine ih _ _ _ ?_ ⟨i+1,w,A++[nth L i],rfl, ?_⟩
      ·omega
      ·simp (disch:=omega)only[go_sem, *]
       ((repeat' refine And.intro ?_ ?_)<;>first | omega | assumption | (simp;omega) | (simpa [AS.enc] using s4) | (exact Gy okA hb))
    ·have h0:A.length=0:=by omega
     simp only [h0,Nat.lt_irrefl,false_and,reduceIte] at hz
     simp (disch:=omega)only[go_sem, *]
     refine AQ (R:=A.map AS.enc) ((so.ext x1).alloc _) (by simp only [go_sem, *]) (Nat.zero_le _) (by simp;omega) ?_
     intro w h4 s4 g4
     have hl4:=g4.lim
     simp (disch:=omega)only[go_sem, *]
     refine ih _ _ _ ?_ ⟨i+1,w,A++[nth L i],rfl, ?_⟩
     ·omega
     ·simp (disch:=omega)only[go_sem, *]
      ((repeat' refine And.intro ?_ ?_)<;>first | omega | assumption | (simp;omega) | (simpa [AS.enc] using s4) | (exact Gy okA hb))
  ·rw [List.drop_eq_nil_of_le (by omega),Bv] at hz
   simp (disch:=omega)only[go_sem, *]
   subst hz
   refine Pf.take [Aq out] L1 (.cons _ _ _ _ _ (so.froze (fun _=>rfl) (by simp) (by omega)) (.nil _)) fun _=>?_
   simp (disch:=omega)only[go_sem, *]
 ·simp (disch:=omega)only[go_sem, *]
  exact ⟨Sl.nil _ _ _,fun i hi=>by simp at hi⟩
def mR (f:Fo):List AS:=Bv f.runs []
open Classical in
noncomputable def EY (L:List Node):Fo:=if h:∃ f:Fo,f.ok∧f.count=1∧L=f.flat∧f.depth≤16∧f.len≤4096 then h.choose else .nil
theorem GN {L:List Node} (h:A9 L=0):L.length≤128∧(EY L).ok∧(EY L).count=1∧L=(EY L).flat∧(EY L).depth≤16∧(EY L).len≤4096:=by
 obtain ⟨h1,h2⟩:=(EB L).1 h
 refine ⟨h1, ?_⟩
 unfold EY
 rw [dif_pos h2]
 exact h2.choose_spec
noncomputable def Jw (L:List Node):List AS×Int:=if A9 L≠0 then ([],A9 L) else if 96<(mR (EY L)).length then ([],3) else (mR (EY L),0)
theorem Jf {L:List Node} (hr:A9 L≠0):Jw L=([],A9 L):=if_pos hr
theorem Hs {L:List Node} (hr:A9 L=0):Jw L=if 96<(mR (EY L)).length then ([],3) else (mR (EY L),0):=if_neg (by omega)
end Go.Ab.T
namespace Go.Ab.T
open Go Go.Ab
set_option maxHeartbeats 1000000
theorem Tb {L:List Node} {c:Cs} {r:AS} (h:r=⟨Eh (lf L c),(lf L c).n - c.gone⟩):(Ta L c).at_=c.at_+r.n:=by rw [h];rfl
theorem WK {h0 h : AH} {L : List Node} {id : Nat} {sv : V} {c : Cs} {r : AS} {l : List AS} {K : V → AH → Prop} (n : EH h0 h L id sv c) (q : N8 L c (r :: l))
    (kk:∀ sv' c' h',EH h0 h' L id sv' c'→Bw h id sv h' sv'→N8 L c' l→c'.at_=c.at_+r.n→K (.tup [.agg r.enc,.b true]) h'):Cq tp Hk [.p id 0 0] h K:=by
 obtain ⟨q1,q2,q3,q4,q5,q6⟩:=q.cons
 refine L9 n.cur q1 q2 ?_
 intro sv3 h3 c3 f3
 rw [← q3]
 exact kk sv3 _ h3 (n.step c3 f3) f3 q5 (Tb q3)
theorem Kg {h0 h : AH} {L : List Node} {id : Nat} {sv : V} {c : Cs} {K : V → AH → Prop} (n : EH h0 h L id sv c) (q : N8 L c [])
    (kk:∀ h',EH h0 h' L id sv c→Am h h'→K (.tup [.agg (AS.enc ⟨0,0⟩),.b false]) h'):Cq tp Hk [.p id 0 0] h K:=
 JO n.cur (by rw [q.nil];omega) fun h3 hx3=>kk h3 (n.grow hx3) hx3
theorem CT.app {h h4:AH} {id b:Nat} {sv o w:V} {L:List Node} {c:Cs} (k:CT h id sv L c) (a:Grown b h o w h4) (ho:AI o=true∨(Aq o≠id∧(AI sv=true∨Aq o≠Aq sv))):CT h4 id sv L c:=by
 have hn:=a.next
 refine ⟨by rw [a.get id k.hi (ho.imp (fun x=>x) (fun x=>x.1.symm))];exact k.blk, ?_,k.big,k.sbig,by rw [a.lim];exact k.lo,by have:=k.hi;omega⟩
 rcases k.stk with ⟨hv,hR⟩ | ⟨i,el,cap,cs,rfl,hg,q1,q2,q3,q4,q5,q6⟩
 ·exact .inl ⟨hv,hR⟩
 ·refine .inr ⟨i,el,cap,cs,rfl, ?_,q1,q2,q3,by omega,q5,q6⟩
  rw [a.get _ q4 ?_];exact hg
  rcases ho with h1 | h1
  ·exact .inl h1
  ·rcases h1.2 with h2 | h2
   ·cases h2
   ·exact .inr (Ne.symm h2)
def ER (h0:AH) (id:Nat) (sv o:V):Prop:=AI o=true∨(h0.next≤Aq o∧Aq o≠id∧(AI sv=true∨Aq o≠Aq sv))
theorem ER.step {h0 h h':AH} {id:Nat} {sv sv' o:V} (b:ER h0 id sv o) (hl:AI o=true∨Aq o<h.next) (f:Bw h id sv h' sv'):ER h0 id sv' o:=by
 rcases hl with hl | hl
 ·exact .inl hl
 rcases b with b | b
 ·exact .inl b
 ·refine .inr ⟨b.1,b.2.1, ?_⟩
  rcases f.own with h1 | ⟨h1,h2⟩ | h1
  ·exact .inl h1
  ·rcases b.2.2 with h3 | h3
   ·rw [h3] at h1;cases h1
   ·exact .inr (by omega)
  ·exact .inr (by omega)
theorem EH.app {h0 h h4:AH} {L:List Node} {id b:Nat} {sv o w:V} {c:Cs} (n:EH h0 h L id sv c) (a:Grown b h o w h4) (bs:ER h0 id sv o):EH h0 h4 L id sv c∧ER h0 id sv w:=by
 have hn:=a.next
 have x:=n.ext
 have:=x.next
 refine ⟨⟨n.cur.app a (bs.imp (fun x=>x) (fun x=>x.2)),⟨by omega,a.lim.trans x.lim,fun i hi=>?_⟩,n.id_⟩, ?_⟩
 ·rw [a.get i (by omega) (bs.imp (fun x=>x) (fun x=>by omega)),x.get i hi]
 ·rcases a.own with h1 | ⟨h1,h2⟩ | h1
  ·exact .inl h1
  ·rcases bs with b | b
   ·rw [b] at h1;cases h1
   ·exact .inr (by rw [h2];exact b)
  ·have h3:=n.cur.hi
   have h5:=n.cur.sne
   exact .inr ⟨by omega,by omega,h5.imp (fun x=>x) (fun x=>by omega)⟩
theorem Xl {b sz:Nat} {h0 h h':AH} {id:Nat} {sv sv' o:V} {R:List (List V)} (s:Sl b h sz o R) (bs:ER h0 id sv o) (f:Bw h id sv h' sv'):Sl b h' sz o R:=by
 rcases s with ⟨hv,hR⟩ | ⟨i,el,cap,cs,rfl,hg,q1,q2,q3,q4,q5,q6⟩
 ·exact .inl ⟨hv,hR⟩
 ·refine .inr ⟨i,el,cap,cs,rfl, ?_,q1,q2,q3, ?_,q5,q6⟩
  ·rcases bs with b | b
   ·cases b
   ·rw [f.get i q4 b.2.1 b.2.2];exact hg
  ·have:=f.next;omega
theorem oQ {L:List Node}:Pf tp Sj [.fl 3 (L.map Node.enc)] (.tup [.fl 2 ((Jw L).1.map AS.enc),.i .i64 (Jw L).2]):=by
 refine AN kN (by simp [Lh]) fun rp=>?_;unfold Lh;simp (disch:=omega)only[go_sem, *]
 refine Pf.go (FA) (by simp only [go_sem]) fun _=>?_;simp (disch:=omega)only[go_sem, *]
 refine Af (fun hc=>?_) (fun hc=>?_)
 ·have e:=Jf hc
  simp (disch:=omega)only[go_sem, *]
 have e:=Hs (L:=L) (by omega)
 obtain ⟨_,ho,hc1,hL,hd,hl⟩:=GN (L:=L) (by omega)
 have hap:=Fo.runs_allpos _ ho
 have hsum:=Fo.runs_sum _ ho
 have hrl:=Fo.runs_len _ ho
 have hst:=Pv ho hc1 hl
 rw [← hL] at hst
 clear hL
 unfold mR at e
 simp (disch:=omega)only[go_sem, *]
 refine mM (fun h=>absurd h (by omega)) ?_
 intro hr0 id sv h3 N3
 simp (disch:=omega)only[go_sem, *]
 refine Au (fun n e h'=>∃ (sv' o:V) (c:Cs) (l A:List AS),n=l.length∧e 5=o∧e 6=.p id 0 0∧EH AH.emp h' L id sv' c∧N8 L c l∧Sl 0 h' 2 o (A.map AS.enc)∧ER AH.emp id sv' o∧A++l=(EY L).runs) ?_ _ _ _ ⟨sv,.ns,V0 L,(EY L).runs,[],rfl, ?_⟩
 ·rintro n e' h' ⟨sv',o,c,l,A,rfl,e5,e6,N,R,so,bo,hz⟩ ih
  have nn:=N.ext.next
  have ll:=N.ext.lim
  simp only [GM] at ll
  have olt:=Er so
  rw [AA Zi.eq_1]
  simp (disch:=omega)only[go_sem, *]
  match l,R,hz,ih with
  | [],R,hz,ih=>
   refine Kg N R ?_
   intro h4 N4 x4
   have l4:=N4.ext.lim
   simp only [GM] at l4
   have xb:Am h4 ((h4.alloc ⟨2,[[.i .i64 0,.i .i64 0]]⟩).put h4.next ⟨2,[[.i .i64 0,.i .i64 0]]⟩):=by (repeat (first | exact Am.refl _ | refine Am.alloc ?_ _ | (refine Am.put ?_ _ _ ?_;rotate_left;(first | omega | (simp only [Aa,Ae];omega)))))
   have so5:=(so.ext x4).ext xb
   obtain rfl:A=(EY L).runs:=by simpa using hz
   clear hz
   simp (disch:=omega)only[go_sem, *]
   have hsz:=so5.facts.big
   have hA4:(EY L).runs.length<4000000000:=by omega
   refine Pf.take [Aq o] (Xt (HB hap (by omega))) (.cons _ _ _ _ _ (so5.froze (fun _=>rfl) (by simp) (by omega)) (.nil _)) fun _=>?_
   simp (disch:=omega)only[go_sem, *]
   refine Af (fun hc5=>?_) (fun hc5=>?_)
   ·rw [if_pos (by omega)] at e
    simp (disch:=omega)only[go_sem, *]
   ·rw [if_neg (by omega)] at e
    simp (disch:=omega)only[go_sem, *]
  | r::l,R,hz,ih=>
   refine WK N R ?_
   intro s4 c4 h4 N4 f4 R4 a4
   clear a4
   have bo4:=bo.step olt f4
   have so4:=Xl so bo f4
   have xb:Am h4 ((h4.alloc ⟨2,[[.i .i64 0,.i .i64 0]]⟩).put h4.next ⟨2,[[.i .i64 r.part,.i .i64 r.n]]⟩):=by (repeat (first | exact Am.refl _ | refine Am.alloc ?_ _ | (refine Am.put ?_ _ _ ?_;rotate_left;(first | omega | (simp only [Aa,Ae];omega)))))
   have N5:=N4.grow xb
   have so5:=so4.ext xb
   have hzl:=congrArg List.length hz
   simp only [List.length_append,List.length_cons] at hzl
   have l5:=N4.ext.lim
   simp only [GM] at l5
   simp (disch:=omega)only[go_sem, *]
   refine AQ (so5.alloc _) (by simp only [go_sem, *]) (Nat.zero_le _) (by simp;omega) ?_
   intro w h6 s6 a6
   have a7:=Mj a6 ((Am.refl _).alloc _) (Nat.zero_le _)
   obtain ⟨N6,b6⟩:=N5.app a7 bo4
   simp (disch:=omega)only[go_sem, *]
   refine ih _ _ _ ?_ ⟨s4,w,c4,l,A++[r],rfl, ?_⟩
   ·simp
   ·simp (disch:=omega)only[go_sem, *]
    exact ⟨by simpa [AS.enc] using s6,by rw [← hz];simp⟩
 ·simp (disch:=omega)only[go_sem, *]
  exact ⟨Sl.nil _ _ _,.inl rfl⟩
end Go.Ab.T
namespace Go.Ab.T
open Go Go.Ab
structure BP where
 s:Int
 e:Int
 deriving DecidableEq,Inhabited
@[go_sem] def BP.enc (x:BP):List V:=[.i .i64 x.s,.i .i64 x.e]
def LN (L:List AS):Prop:=A5 L∧Az L≤4096
theorem LN.nil:LN []:=⟨fun _ h=>(by cases h),by simp [Az]⟩
theorem LN.tail {r:AS} {l:List AS} (h:LN (r::l)):LN l:=⟨fun x hx=>h.1 x (List.mem_cons_of_mem _ hx),by
 have:=h.1 r (List.mem_cons_self ..);have:=h.2;simp only [Az] at this;omega⟩
def AZ (p:Int):Int→List AS→List BP
 | _,[]=>[]
 | a,r::l=>(if r.part=p then [⟨a,a+r.n⟩] else [])++AZ p (a+r.n) l
def Jd (t:Int):List BP→Option Int
 | []=>none
 | s::l=>if t+1<s.e then some (max (t+1) s.s) else Jd t l
def Te (tt:List BP) (t n:Int):Int:=match Jd t tt with | some x=>x | none=>n+(nth tt 0).s
def Gt (tt:List BP) (n:Int):List BP→Int→Int
 | [],w=>w
 | s::l,w=>Gt tt n l (max (max w (Te tt s.s n - s.s)) (Te tt (s.e - 1) n - (s.e - 1)))
def D8 (L:List AS) (f t:Int):Int:=if AZ f 0 L=[] then 0 else if AZ t 0 L=[] then -1 else Gt (AZ t 0 L) (Az L) (AZ f 0 L) 0
def M7:List AS→List Int
 | []=>[]
 | r::l=>List.replicate r.n.toNat r.part++M7 l
theorem N0:∀ {L:List AS},A5 L→((M7 L).length:Int)=Az L
 | [],_=>rfl
 | r::l,h=>by
  have:=N0 (L:=l) (fun x hx=>h x (List.mem_cons_of_mem _ hx))
  have:=h r (List.mem_cons_self ..)
  simp only [M7,Az,List.length_append,List.length_replicate];omega
inductive Cb:Int→List BP→Int→Prop where
 | nil (a n:Int):a≤n→Cb a [] n
 | cons (a n:Int) (x:BP) (l:List BP):a≤x.s→x.s<x.e→Cb x.e l n→Cb a (x::l) n
theorem Cb.lo {a b n:Int} {l:List BP} (h:Cb b l n) (hab:a≤b):Cb a l n:=by
 cases h with
 | nil _ _ h=>exact .nil _ _ (by omega)
 | cons _ _ x l h1 h2 h3=>exact .cons _ _ _ _ (by omega) h2 h3
theorem Cb.le {a n:Int} {l:List BP} (h:Cb a l n):a≤n:=by
 induction h with
 | nil _ _ h=>exact h
 | cons _ _ x l h1 h2 _ ih=>omega
theorem Cb.mem {a n:Int} {l:List BP} (h:Cb a l n) {x:BP} (hx:x∈l):a≤x.s∧x.s<x.e∧x.e≤n:=by
 induction h with
 | nil=>cases hx
 | cons a n y l h1 h2 h3 ih=>
  have:=h3.le
  rcases List.mem_cons.1 hx with rfl | hx
  ·omega
  ·have:=ih hx;omega
theorem B5 {p:Int}:∀ {L:List AS} {a:Int},A5 L→Cb a (AZ p a L) (a+Az L)
 | [],a,_=>.nil _ _ (by simp [Az])
 | r::l,a,h=>by
  have ih:=B5 (p:=p) (L:=l) (a:=a+r.n) (fun x hx=>h x (List.mem_cons_of_mem _ hx))
  have:=h r (List.mem_cons_self ..)
  have e:a+r.n+Az l=a+Az (r::l):=by simp only [Az];omega
  rw [e] at ih
  rw [AZ]
  split
  ·exact .cons _ _ _ _ (by simp only;omega) (by simp only;omega) ih
  ·exact ih.lo (by omega)
def PM (W:List Int) (t:Int):Int:=nth W t.toNat
theorem NS {α:Type} [Inhabited α] {A B:List α} {i:Nat}:nth (A++B) i=if i<A.length then nth A i else nth B (i - A.length):=by
 unfold nth
 split
 ·simp only [List.getD];rw [List.getElem?_append_left (by assumption)]
 ·simp only [List.getD];rw [List.getElem?_append_right (by omega)]
theorem WM {α:Type} [Inhabited α] {a:α} {n i:Nat} (h:i<n):nth (List.replicate n a) i=a:=by simp [nth,List.getD,h]
theorem NZ {p:Int}:∀ {L:List AS} {a t:Int},A5 L→a≤t→t<a+Az L→(PM (M7 L) (t - a)=p↔∃ s∈AZ p a L,s.s≤t∧t<s.e)
 | [],a,t,_,h1,h2=>by simp [Az] at h2;omega
 | r::l,a,t,h,h1,h2=>by
  have hp:=h r (List.mem_cons_self ..)
  have hl:A5 l:=fun x hx=>h x (List.mem_cons_of_mem _ hx)
  have hs:=B5 (p:=p) (L:=l) (a:=a+r.n) hl
  simp only [Az] at h2
  by_cases ht:t<a+r.n
  ·have e:PM (M7 (r::l)) (t - a)=r.part:=by
    unfold PM
    rw [M7,NS,if_pos (by simp;omega),WM (by omega)]
   rw [e,AZ]
   constructor
   ·intro hq
    rw [if_pos hq]
    exact ⟨⟨a,a+r.n⟩,by simp,by simp only;omega,by simp only;omega⟩
   ·rintro ⟨s,hs1,hs2,hs3⟩
    by_cases hq:r.part=p
    ·exact hq
    ·rw [if_neg hq] at hs1
     have:=hs.mem hs1
     omega
  ·have e:PM (M7 (r::l)) (t - a)=PM (M7 l) (t - (a+r.n)):=by
    unfold PM
    rw [M7,NS,if_neg (by simp;omega)]
    congr 1;simp;omega
   rw [e,NZ hl (by omega) (by omega),AZ]
   constructor
   ·rintro ⟨s,a1,a2⟩;exact ⟨s,List.mem_append_right _ a1,a2⟩
   ·rintro ⟨s,a1,a2,a3⟩
    rcases List.mem_append.1 a1 with a1 | a1
    ·split at a1
     ·simp at a1;subst a1;simp only at a3;omega
     ·cases a1
    ·exact ⟨s,a1,a2,a3⟩
def IM (W:List Int) (p t d:Int):Prop:=1≤d∧PM W ((t+d) % W.length)=p∧∀ c,1≤c→c<d→PM W ((t+c) % W.length)≠p
theorem IM.step {W:List Int} {p t d:Int} (x:IM W p t d) (h:1<d):IM W p (t+1) (d - 1):=by
 refine ⟨by omega, ?_,fun c h1 h2=>?_⟩
 ·rw [show t+1+(d - 1)=t+d by omega];exact x.2.1
 ·rw [show t+1+c=t+(c+1) by omega];exact x.2.2 (c+1) (by omega) (by omega)
theorem E4 {t:Int}:∀ {l:List BP} {a n:Int},Cb a l n→(Jd t l=none∧∀ s∈l,s.e≤t+1)∨∃ s∈l,Jd t l=some (max (t+1) s.s)∧t+1<s.e∧∀ q∈l,q.e≤t+1∨s.s≤q.s
 | [],a,n,_=>.inl ⟨rfl,fun s h=>(by cases h)⟩
 | x::l,a,n,.cons _ _ _ _ h1 h2 h3=>by
  rw [Jd]
  by_cases hc:t+1<x.e
  ·rw [if_pos hc]
   refine .inr ⟨x,List.mem_cons_self ..,rfl,hc,fun q hq=>?_⟩
   rcases List.mem_cons.1 hq with rfl | hq
   ·exact .inr (by omega)
   ·have:=h3.mem hq;exact .inr (by omega)
  ·rw [if_neg hc]
   rcases E4 h3 with ⟨a1,a2⟩ | ⟨s,a1,a2,a3,a4⟩
   ·refine .inl ⟨a1,fun s hs=>?_⟩
    rcases List.mem_cons.1 hs with rfl | hs
    ·omega
    ·exact a2 s hs
   ·refine .inr ⟨s,List.mem_cons_of_mem _ a1,a2,a3,fun q hq=>?_⟩
    rcases List.mem_cons.1 hq with rfl | hq
    ·exact .inl (by omega)
    ·exact a4 q hq
theorem NT {L:List AS} {p t:Int} (h:A5 L) (ht0:0≤t) (ht:t<Az L) (hne:AZ p 0 L≠[]):IM (M7 L) p t (Te (AZ p 0 L) t (Az L) - t):=by
 have hl:=N0 h
 have hs:=B5 (p:=p) (a:=0) h
 rw [Int.zero_add] at hs
 have hw:∀ x,0≤x→x<Az L→(PM (M7 L) x=p↔∃ s∈AZ p 0 L,s.s≤x∧x<s.e):=fun x h0 h1=>by
  have:=NZ (p:=p) (a:=0) (t:=x) h h0 (by omega)
  rwa [Int.sub_zero] at this
 unfold Te
 rcases E4 (t:=t) hs with ⟨a1,a2⟩ | ⟨s,a1,a2,a3,a4⟩
 ·rw [a1]
  simp only
  obtain ⟨s0,l0,e0⟩:∃ s0 l0,AZ p 0 L=s0::l0:=by
   match hh:AZ p 0 L,hne with
   | a::b,_=>exact ⟨a,b,rfl⟩
  have m0:s0∈AZ p 0 L:=by rw [e0];exact List.mem_cons_self ..
  have b0:=hs.mem m0
  have n0:nth (AZ p 0 L) 0=s0:=by rw [e0];rfl
  rw [n0]
  refine ⟨by omega, ?_,fun c h1 h2=>?_⟩
  ·rw [show t+(Az L+s0.s - t)=s0.s+((M7 L).length:Int) by omega,Int.add_emod_right,Int.emod_eq_of_lt (by omega) (by omega)]
   exact (hw s0.s (by omega) (by omega)).2 ⟨s0,m0,by omega,by omega⟩
  ·by_cases hc:t+c<Az L
   ·rw [Int.emod_eq_of_lt (by omega) (by omega)]
    intro he
    obtain ⟨s,m1,m2,m3⟩:=(hw (t+c) (by omega) hc).1 he
    have:=a2 s m1;omega
   ·rw [show t+c=(t+c - (M7 L).length)+((M7 L).length:Int) by omega,Int.add_emod_right,Int.emod_eq_of_lt (by omega) (by omega)]
    intro he
    obtain ⟨s,m1,m2,m3⟩:=(hw (t+c - (M7 L).length) (by omega) (by omega)).1 he
    have hs2:=hs
    rw [e0] at hs2 m1
    cases hs2 with
    | cons _ _ _ _ q1 q2 q3=>
     rcases List.mem_cons.1 m1 with rfl | m1
     ·omega
     ·have:=q3.mem m1;omega
 ·rw [a2]
  simp only
  have b:=hs.mem a1
  refine ⟨by omega, ?_,fun c h1 h2=>?_⟩
  ·rw [show t+(max (t+1) s.s - t)=max (t+1) s.s by omega,Int.emod_eq_of_lt (by omega) (by omega)]
   exact (hw _ (by omega) (by omega)).2 ⟨s,a1,by omega,by omega⟩
  ·rw [Int.emod_eq_of_lt (by omega) (by omega)]
   intro he
   obtain ⟨q,m1,m2,m3⟩:=(hw (t+c) (by omega) (by omega)).1 he
   rcases a4 q m1 with h5 | h5<;>omega
end Go.Ab.T
namespace Go.Ab.T
open Go Go.Ab
def Ki (t u:Int):List BP→Int→Int
 | [],n=>n
 | s::l,n=>Ki t u l (n+max 0 (min s.e u - max s.s t))
def O3 (F:Int→Int) (P:Int):Nat→Int→Int→Int
 | 0,_,w=>w
 | k+1,t,w=>O3 F P k (t+P) (min w (F t))
def JI (L:List AS) (p P:Int):Int:=if P<1∨Az L=0∨Az L % P≠0 then -1 else O3 (fun t=>Ki t (t+P) (AZ p 0 L) 0) P (Az L / P).toNat 0 P
def cnt (p t u:Int):Int→List Int→Int
 | _,[]=>0
 | a,x::l=>(if x=p∧t≤a∧a<u then 1 else 0)+cnt p t u (a+1) l
end Go.Ab.T
namespace Go.Ab.T
open Go Go.Ab
theorem LN.ok {L:List AS} (h:LN L):DJ L:=HB h.1 (by have:=h.2;omega)
theorem LN.length {L:List AS} (h:LN L):BU L 0=Az L:=by rw [Fy L 0 h.1 (by omega) (by have:=h.2;omega)];omega
theorem HE {L:List AS} {p:Int} (hf:LN L):Pf tp SA [.fl 2 (L.map AS.enc),.i .i64 p] (.fl 2 ((AZ p 0 L).map BP.enc)):=by
 refine AN lG (by simp [Lz]) fun rp=>?_;unfold Lz;simp (disch:=omega)only[go_sem, *]
 have hL:=rp.head.len
 obtain ⟨hp,hs⟩:=hf
 refine Au (fun n e h=>∃ (i:Nat) (a:Int) (o:V) (A:List BP),n=L.length - i∧h.lim=0∧e 10=.fl 2 (L.map AS.enc)∧e 11=.i .i64 L.length∧e 12=.i .i64 i∧e 1=.i .i64 p∧e 5=o∧e 6=.i .i64 a∧i≤L.length∧0≤a∧a+Az (L.drop i)≤4096∧A.length≤i∧Sl 0 h 2 o (A.map BP.enc)∧A++AZ p a (L.drop i)=AZ p 0 L) ?_ _ _ _ ⟨0,0,.ns,[],rfl, ?_⟩
 ·rintro n e h ⟨i,a,o,A,rfl,hl,e10,e11,e12,e1,e5,e6,hi,ha,has,hA,so,hz⟩ ih
  rw [AA P6.eq_1]
  simp (disch:=omega)only[go_sem, *]
  refine Af (fun hc=>?_) (fun hc=>?_)
  ·have hn:=hp.nth (i:=i) (by omega)
   have hd:=AX (L:=L) (i:=i) (by omega)
   have hsd:=Cl (w:=L.drop (i+1)) (fun q hq=>hp q (List.mem_of_mem_drop hq))
   rw [hd,AZ] at hz
   rw [hd,Az] at has
   clear hd
   simp (disch:=omega)only[go_sem, *]
   have hadd:=G2 (a:=a) (b:=(nth L i).n) (by omega) (by omega) (by omega)
   refine Pf.go (LW (a:=a) (b:=(nth L i).n) (by omega) (by omega)) (by simp only [go_sem]) fun _=>?_;simp (disch:=omega)only[go_sem, *]
   have x1:∀ k,Am h ((h.alloc ⟨2,[[.i .i64 0,.i .i64 0]]⟩).put h.next k):=fun k=>by (repeat (first | exact Am.refl _ | refine Am.alloc ?_ _ | (refine Am.put ?_ _ _ ?_;rotate_left;(first | omega | (simp only [Aa,Ae];omega)))))
   refine AD (fun hc2=>?_) (fun hc2=>?_)
   ·rw [if_pos hc2] at hz
    simp (disch:=omega)only[go_sem, *]
    refine Af (fun hc3=>?_) (fun hc3=>by omega)
    simp (disch:=omega)only[go_sem, *]
    refine AQ (R:=A.map BP.enc) ((so.ext (x1 _)).alloc _) (by simp only [go_sem, *]) (Nat.zero_le _) (by simp;omega) ?_
    intro w h4 s4 g4
    have hl4:=g4.lim
    simp (disch:=omega)only[go_sem, *]
    refine ih _ _ _ ?_ ⟨i+1,a+(nth L i).n,w,A++[⟨a,a+(nth L i).n⟩],rfl, ?_⟩
    ·omega
    ·simp (disch:=omega)only[go_sem, *]
     ((repeat' refine And.intro ?_ ?_)<;>first | omega | assumption | (simp;omega) | (simpa [BP.enc] using s4) | ((rw [← hz];simp)))
   ·rw [if_neg hc2] at hz
    simp (disch:=omega)only[go_sem, *]
    refine ih _ _ _ ?_ ⟨i+1,a+(nth L i).n,o,A,rfl, ?_⟩
    ·omega
    ·simp (disch:=omega)only[go_sem, *]
     ((repeat' refine And.intro ?_ ?_)<;>first | omega | assumption | (exact so.ext (x1 _)) | ((rw [← hz];simp)))
  ·rw [List.drop_eq_nil_of_le (by omega),AZ,List.append_nil] at hz
   simp (disch:=omega)only[go_sem, *]
   subst hz
   exact so.froze (fun _=>rfl) trivial (by omega)
 ·simp (disch:=omega)only[go_sem, *]
  exact ⟨by simp;omega,Sl.nil _ _ _⟩
theorem NR {A:List BP} {t N a:Int} (hs:Cb a A N) (ha:0≤a) (hn:N≤4096) (ht:0≤t∧t≤4096) (hne:A≠[]):Pf tp SC [.fl 2 (A.map BP.enc),.i .i64 t,.i .i64 N] (.i .i64 (Te A t N)):=by
 refine AN lI (by simp [LB]) fun rp=>?_;unfold LB;simp (disch:=omega)only[go_sem, *]
 have hL:=rp.head.len
 have hlen:0<A.length:=List.length_pos_iff.2 hne
 refine Au (fun n e h=>∃ (i:Nat),n=A.length - i∧h.lim=0∧e 9=.fl 2 (A.map BP.enc)∧e 10=.i .i64 A.length∧e 11=.i .i64 i∧e 0=.fl 2 (A.map BP.enc)∧e 1=.i .i64 t∧e 2=.i .i64 N∧i≤A.length∧Jd t (A.drop i)=Jd t A) ?_ _ _ _ ⟨0,rfl, ?_⟩
 ·rintro n e h ⟨i,rfl,hl,e9,e10,e11,e0,e1,e2,hi,hz⟩ ih
  rw [AA Zm.eq_1]
  simp (disch:=omega)only[go_sem, *]
  refine Af (fun hc=>?_) (fun hc=>?_)
  ·have hm:=hs.mem (AR (L:=A) (j:=i) (by omega))
   rw [AX (by omega),Jd] at hz
   simp (disch:=omega)only[go_sem, *]
   refine Af (fun hc2=>?_) (fun hc2=>?_)
   ·rw [if_pos hc2] at hz
    unfold Te
    rw [← hz]
    simp (disch:=omega)only[go_sem, *]
   ·rw [if_neg hc2] at hz
    simp (disch:=omega)only[go_sem, *]
    refine ih _ _ _ ?_ ⟨i+1,rfl, ?_⟩
    ·omega
    ·simp (disch:=omega)only[go_sem, *]
     ((repeat' refine And.intro ?_ ?_)<;>first | omega | assumption)
  ·have hm:=hs.mem (AR (L:=A) (j:=0) (by omega))
   rw [List.drop_eq_nil_of_le (by omega),Jd] at hz
   unfold Te
   rw [← hz]
   have z0:Int.toNat 0=0:=rfl
   have hlen2:(0:Int)<A.length:=by omega
   simp (disch:=omega)only[go_sem, *]
 ·simp (disch:=omega)only[go_sem, *]
end Go.Ab.T
namespace Go.Ab.T
open Go Go.Ab
set_option maxHeartbeats 1000000
theorem Tf {A:List BP} {t n:Int} (hs:Cb 0 A n) (ht:t<n) (hne:A≠[]):Te A t n≤n+n:=by
 have hm:=hs.mem (AR (L:=A) (j:=0) (List.length_pos_iff.2 hne))
 unfold Te
 rcases E4 (t:=t) hs with ⟨h,_⟩ | ⟨s,hs1,h,h2,_⟩
 ·rw [h];simp only;omega
 ·rw [h];simp only
  have:=hs.mem hs1
  omega
theorem Wt {L:List AS} {f t:Int} (hf:LN L):Pf tp Ss [.fl 2 (L.map AS.enc),.i .i64 f,.i .i64 t] (.i .i64 (D8 L f t)):=by
 refine AN kW (by simp [Lp]) fun rp=>?_;unfold Lp;simp (disch:=omega)only[go_sem, *]
 have hss:=B5 (p:=f) (a:=0) hf.1
 have hst:=B5 (p:=t) (a:=0) hf.1
 rw [Int.zero_add] at hss hst
 have hlen:=hf.length
 have hs0:=Cl hf.1
 have hs4:=hf.2
 refine Pf.go (HE (p:=f) hf) (by simp only [go_sem]) fun q1=>?_
 have hq1:=q1.len
 simp (disch:=omega)only[go_sem, *]
 refine Pf.go (HE (p:=t) hf) (by simp only [go_sem]) fun _=>?_;simp (disch:=omega)only[go_sem, *]
 unfold D8
 refine Af (fun hc=>?_) (fun hc=>?_)
 ·have e:AZ f 0 L=[]:=List.length_eq_zero_iff.1 (by omega)
  rw [if_pos e]
  simp (disch:=omega)only[go_sem, *]
 have e:AZ f 0 L≠[]:=fun h=>hc (by rw [h];rfl)
 rw [if_neg e]
 clear e
 simp (disch:=omega)only[go_sem, *]
 refine Af (fun hc=>?_) (fun hc=>?_)
 ·have e:AZ t 0 L=[]:=List.length_eq_zero_iff.1 (by omega)
  rw [if_pos e]
  simp (disch:=omega)only[go_sem, *]
 have hst0:AZ t 0 L≠[]:=fun h=>hc (by rw [h];rfl)
 rw [if_neg hst0]
 simp (disch:=omega)only[go_sem, *]
 refine Pf.go (Ip hf.ok) (by simp only [go_sem]) fun _=>?_;simp (disch:=omega)only[go_sem, *]
 refine Au (fun n e h=>∃ (i:Nat) (w:Int),n=(AZ f 0 L).length - i∧h.lim=0∧e 31=.fl 2 ((AZ f 0 L).map BP.enc)∧e 32=.i .i64 (AZ f 0 L).length∧e 33=.i .i64 i∧e 8=.fl 2 ((AZ t 0 L).map BP.enc)∧e 9=.i .i64 (Az L)∧e 10=.i .i64 w∧i≤(AZ f 0 L).length∧Gt (AZ t 0 L) (Az L) ((AZ f 0 L).drop i) w=Gt (AZ t 0 L) (Az L) (AZ f 0 L) 0) ?_ _ _ _ ⟨0,0,rfl, ?_⟩
 ·rintro n e h ⟨i,w,rfl,hl,e31,e32,e33,e8,e9,e10,hi,hz⟩ ih
  rw [AA P2.eq_1]
  simp (disch:=omega)only[go_sem, *]
  refine Af (fun hc=>?_) (fun hc=>?_)
  ·have hm:=hss.mem (AR (L:=AZ f 0 L) (j:=i) (by omega))
   rw [AX (by omega),Gt] at hz
   simp (disch:=omega)only[go_sem, *]
   refine Br ?_
   rw [AA IR.eq_1]
   simp (disch:=omega)only[go_sem, *]
   try (refine Af (fun hc9=>?_) (fun hc9=>absurd hc9 (by decide));simp (disch:=omega)only[go_sem, *])
   refine Pf.go (NR hst (Int.le_refl 0) hf.2 (by omega) hst0) (by simp only [go_sem]) fun _=>?_;simp (disch:=omega)only[go_sem, *]
   have hnx:=NT hf.1 (t:=(nth (AZ f 0 L) i).s) (by omega) (by omega) hst0
   have hnx1:=hnx.1
   have hnx2:=Tf (t:=(nth (AZ f 0 L) i).s) hst (by omega) hst0
   try simp (disch:=omega)only[go_sem, *]
   refine Br ?_
   rw [AA IR.eq_1]
   simp (disch:=omega)only[go_sem, *]
   try (refine Af (fun hc9=>?_) (fun hc9=>absurd hc9 (by decide));simp (disch:=omega)only[go_sem, *])
   refine Pf.go (NR hst (Int.le_refl 0) hf.2 (by omega) hst0) (by simp only [go_sem]) fun _=>?_;simp (disch:=omega)only[go_sem, *]
   have hnx:=NT hf.1 (t:=(nth (AZ f 0 L) i).e - 1) (by omega) (by omega) hst0
   have hnx1:=hnx.1
   have hnx2:=Tf (t:=(nth (AZ f 0 L) i).e - 1) hst (by omega) hst0
   try simp (disch:=omega)only[go_sem, *]
   refine Br ?_
   rw [AA IR.eq_1]
   simp (disch:=omega)only[go_sem, *]
   try (refine Af (fun hc9=>absurd hc9 (by decide)) (fun hc9=>?_);simp (disch:=omega)only[go_sem, *])
   refine ih _ _ _ ?_ ⟨i+1,(max (max w (Te (AZ t 0 L) (nth (AZ f 0 L) i).s (Az L) - (nth (AZ f 0 L) i).s)) (Te (AZ t 0 L) ((nth (AZ f 0 L) i).e - 1) (Az L) - ((nth (AZ f 0 L) i).e - 1))),rfl, ?_⟩
   ·omega
   ·simp (disch:=omega)only[go_sem, *]
    ((repeat' refine And.intro ?_ ?_)<;>first | omega | assumption)
  ·rw [List.drop_eq_nil_of_le (by omega),Gt] at hz
   simp (disch:=omega)only[go_sem, *]
 ·simp (disch:=omega)only[go_sem, *]
end Go.Ab.T
namespace Go.Ab.T
open Go Go.Ab
set_option maxHeartbeats 1000000
@[go_sem] def iO (x:Int):List V:=[.i .i64 x]
@[go_sem] def DR (z:Int):List V:=[.i .u8 z]
@[go_sem] def Ft (n:Int):List V:=[.i .u32 n]
set_option maxRecDepth 4000 in
def aGb (p:Int):List Int→Bool→Bool
 | [],b=>b
 | x::l,b=>aGb p l (b||decide (x=p))
end Go.Ab.T
namespace Go.Ab.T
open Go Go.Ab
set_option maxHeartbeats 1000000
end Go.Ab.T
namespace Go.Ab.T
open Go Go.Ab
set_option maxHeartbeats 1000000
theorem IV {L:List AS} {p P:Int} (h:P<1∨Az L=0∨Az L % P≠0):JI L p P = -1:=if_pos h
theorem iG {L:List AS} {p P:Int} (h1:¬ P<1) (h2:¬ Az L=0) (h3:¬ Az L % P≠0):JI L p P=O3 (fun t=>Ki t (t+P) (AZ p 0 L) 0) P (Az L / P).toNat 0 P:=if_neg (by simp only [not_or];exact ⟨h1,h2,h3⟩)
theorem Oo {L:List AS} {p P:Int} (hf:LN L):Pf tp St [.fl 2 (L.map AS.enc),.i .i64 p,.i .i64 P] (.i .i64 (JI L p P)):=by
 refine AN kX (by simp [Lq]) fun rp=>?_;unfold Lq;simp (disch:=omega)only[go_sem, *]
 have hL:=rp.head.len
 have hss:=B5 (p:=p) (a:=0) hf.1
 rw [Int.zero_add] at hss
 have hlen:=hf.length
 have hs0:=Cl hf.1
 have hs4:=hf.2
 refine Pf.go (Ip hf.ok) (by simp only [go_sem]) fun _=>?_;simp (disch:=omega)only[go_sem, *]
 refine AD (fun h1=>?_) (fun h1=>?_)
 ·have e:=IV (L:=L) (p:=p) (P:=P) (.inl h1)
  simp (disch:=omega)only[go_sem, *]
 simp (disch:=omega)only[go_sem, *]
 refine AD (fun h2=>?_) (fun h2=>?_)
 ·have e:=IV (L:=L) (p:=p) (P:=P) (.inr (.inl h2))
  simp (disch:=omega)only[go_sem, *]
 have hmod:(Az L).tmod P=Az L % P:=Int.tmod_eq_emod_of_nonneg hs0
 have hP0:¬ P=0:=by omega
 simp (disch:=omega)only[go_sem, *]
 refine Af (fun h3=>?_) (fun h3=>?_)
 ·have e:=IV (L:=L) (p:=p) (P:=P) (.inr (.inr h3))
  simp (disch:=omega)only[go_sem, *]
 have e0:=iG (p:=p) h1 h2 h3
 have hdiv:((Az L / P).toNat:Int)*P=Az L:=by
  rw [Int.toNat_of_nonneg (Int.ediv_nonneg hs0 (by omega))]
  have:=Int.emod_add_mul_ediv (Az L) P
  have h4:Az L % P=0:=by omega
  rw [Int.mul_comm];omega
 have h3':Az L % P=0:=by omega
 have hP:P≤4096:=by
  by_cases hlt:Az L<P
  ·rw [Int.emod_eq_of_lt hs0 hlt] at h3';omega
  ·omega
 clear h3
 simp (disch:=omega)only[go_sem, *]
 refine Pf.go (HE (p:=p) hf) (by simp only [go_sem]) fun q1=>?_
 have hq1:=q1.len
 simp (disch:=omega)only[go_sem, *]
 generalize hm:(Az L / P).toNat=m at hdiv e0
 clear hmod h3' hm
 refine Au (fun n e h=>∃ (k:Nat) (t:Int) (w:Int),n=2*k∧h.lim=0∧e 1=.i .i64 p∧e 2=.i .i64 P∧e 7=.i .i64 (Az L)∧e 8=.fl 2 ((AZ p 0 L).map BP.enc)∧e 9=.i .i64 w∧e 10=.i .i64 t∧0≤t∧t+(k:Int)*P=Az L∧O3 (fun t=>Ki t (t+P) (AZ p 0 L) 0) P k t w=JI L p P) ?_ _ _ _ ⟨m,0,P,rfl, ?_⟩
 ·rintro n e h ⟨k,t,w,rfl,hl,e1,e2,e7,e8,e9,e10,ht,hk,hz⟩ ih
  rw [AA P4.eq_1]
  simp (disch:=omega)only[go_sem, *]
  refine Af (fun hc=>?_) (fun hc=>?_)
  ·obtain ⟨j,rfl⟩:∃ j,k=j+1:=by
    cases k with
    | zero=>simp at hk;omega
    | succ j=>exact ⟨j,rfl⟩
   have hj0:0≤(j:Int)*P:=Int.mul_nonneg (by omega) (by omega)
   rw [Int.natCast_add,Int.natCast_one,Int.add_mul,Int.one_mul] at hk
   rw [O3] at hz
   generalize hjP:(j:Int)*P=jP at hk hj0
   clear e0
   simp (disch:=omega)only[go_sem, *]
   have ih0:=ih
   clear ih
   refine Au (fun n e h=>∃ (i:Nat) (c:Int),n=(AZ p 0 L).length - i∧h.lim=0∧e 38=.fl 2 ((AZ p 0 L).map BP.enc)∧e 39=.i .i64 (AZ p 0 L).length∧e 40=.i .i64 i∧e 1=.i .i64 p∧e 2=.i .i64 P∧e 7=.i .i64 (Az L)∧e 8=.fl 2 ((AZ p 0 L).map BP.enc)∧e 9=.i .i64 w∧e 10=.i .i64 t∧e 11=.i .i64 c∧i≤(AZ p 0 L).length∧0≤c∧c≤4096*i∧Ki t (t+P) ((AZ p 0 L).drop i) c=Ki t (t+P) (AZ p 0 L) 0) ?_ _ _ _ ⟨0,0,rfl, ?_⟩
   ·rintro n e h ⟨i,c,rfl,hl,e38,e39,e40,e1,e2,e7,e8,e9,e10,e11,hi,hc0,hc1,hw⟩ ih
    rw [AA P3.eq_1]
    simp (disch:=omega)only[go_sem, *]
    refine Af (fun hc=>?_) (fun hc=>?_)
    ·have hm:=hss.mem (AR (L:=AZ p 0 L) (j:=i) (by omega))
     rw [AX (by omega),Ki] at hw
     simp (disch:=omega)only[go_sem, *]
     refine ih _ _ _ ?_ ⟨i+1,c+max 0 (min (nth (AZ p 0 L) i).e (t+P) - max (nth (AZ p 0 L) i).s t),rfl, ?_⟩
     ·omega
     ·simp (disch:=omega)only[go_sem, *]
      ((repeat' refine And.intro ?_ ?_)<;>first | omega | assumption)
    ·rw [List.drop_eq_nil_of_le (by omega),Ki] at hw
     simp (disch:=omega)only[go_sem, *]
     refine ih0 _ _ _ ?_ ⟨j,t+P,min w c,rfl, ?_⟩
     ·omega
     ·simp (disch:=omega)only[go_sem, *]
      exact ⟨by omega,by omega⟩
   ·simp (disch:=omega)only[go_sem, *]
    simp
  ·have hk0:k=0:=by
    cases k with
    | zero=>rfl
    | succ j=>
     have hj0:0≤(j:Int)*P:=Int.mul_nonneg (by omega) (by omega)
     rw [Int.natCast_add,Int.natCast_one,Int.add_mul,Int.one_mul] at hk
     omega
   subst hk0
   rw [O3] at hz
   clear e0
   simp (disch:=omega)only[go_sem, *]
 ·simp (disch:=omega)only[go_sem, *]
  omega
end Go.Ab.T
namespace Go.Ab.T
open Go Go.Ab
set_option maxHeartbeats 1000000
theorem Fx {tt:List BP} {n:Int}:∀ (l:List BP) (w:Int),0≤w→0≤Gt tt n l w
 | [],w,h=>h
 | s::l,w,h=>by rw [Gt];exact Fx l _ (by omega)
theorem J7 (L:List AS) (f t:Int):D8 L f t = -1∨0≤D8 L f t:=by
 unfold D8
 split
 ·simp
 ·split
  ·exact .inl rfl
  ·exact .inr (Fx _ _ (by omega))
@[irreducible] def Ds (L:List AS) (x:Bl):Bool:=decide (0<x.late∧(x.late<D8 L x.src x.dst∨D8 L x.src x.dst = -1))
def CH (L:List AS):Nat→List Part→Bool
 | _,[]=>false
 | i,p::l=>decide (0<p.budget∧JI L i p.period<p.budget)||CH L (i+1) l
def DX (C:Av) (L:List AS):Int:=if C.chans.any (Ds L)=true then 19 else if CH L 0 C.parts=true then 20 else 0
theorem Vx {α:Type} [Inhabited α] {L:List α} {P:α→Bool} {i:Nat} (hi:i<L.length) (h:P (nth L i)=true):L.any P=true:=List.any_eq_true.2 ⟨_,AR hi,h⟩
theorem QH {α:Type} [Inhabited α] {L:List α} {P:α→Bool} {i:Nat} (hi:i<L.length) (h:P (nth L i)=false):(L.drop i).any P=(L.drop (i+1)).any P:=by
 rw [AX hi,List.any_cons,h,Bool.false_or]
theorem RA {C:Av} {L:List AS} (hf:LN L):Pf tp Sn [.agg C.enc,.fl 2 (L.map AS.enc)] (.i .i64 (DX C L)):=by
 refine AN kR (by simp [Lk]) fun rp=>?_;unfold Lk;simp (disch:=omega)only[go_sem, *]
 have hcl:=GE.len (rp.head.agg (.fl 6 (C.chans.map Bl.enc)) (by simp [Av.enc]))
 have hpl:=GE.len (rp.head.agg (.fl 11 (C.parts.map Part.enc)) (by simp [Av.enc]))
 refine Au (fun n e h=>∃ (i:Nat),n=C.chans.length - i∧h.lim=0∧e 11=.fl 6 (C.chans.map Bl.enc)∧e 12=.i .i64 C.chans.length∧e 13=.i .i64 i∧e 1=.fl 2 (L.map AS.enc)∧e 2=.p 0 0 0∧i≤C.chans.length∧h.get 0=some ⟨3,[C.enc]⟩∧1≤h.next∧C.chans.any (Ds L)=(C.chans.drop i).any (Ds L)) ?_ _ _ _ ⟨0,rfl, ?_⟩
 ·rintro n e h ⟨i,rfl,hl,e11,e12,e13,e1,e2,hi,hg,hn,hz⟩ ih
  rw [AA Zj.eq_1]
  simp (disch:=omega)only[go_sem, *]
  refine Af (fun hc=>?_) (fun hc=>?_)
  ·have hlc:=J7 L (nth C.chans i).src (nth C.chans i).dst
   simp (disch:=omega)only[go_sem, *]
   refine Pf.go (Wt hf) (by simp only [go_sem]) fun _=>?_;simp (disch:=omega)only[go_sem, *]
   repeat' (first | (refine AD (fun hc=>?_) (fun hc=>?_)<;>simp (disch:=omega)only[go_sem, *]) | (refine Af (fun hc=>?_) (fun hc=>?_)<;>simp (disch:=omega)only[go_sem, *]) | (refine D6 (fun hc=>?_) (fun hc=>?_)<;>simp (disch:=omega)only[go_sem, *]) | (refine BS (fun hc=>?_) (fun hc=>?_)<;>simp (disch:=omega)only[go_sem, *]))
   all_goals
    try
     have hn:Ds L (nth C.chans i)=true:=by (unfold Ds;grind)
     have:=Vx (by omega) hn
     have e:DX C L=19:=if_pos this
     exact e.symm
   all_goals
    have hp:Ds L (nth C.chans i)=false:=by (unfold Ds;grind)
    refine ih _ _ _ ?_ ⟨i+1,rfl, ?_⟩
    ·omega
    ·simp (disch:=omega)only[go_sem, *]
     ((repeat' refine And.intro ?_ ?_)<;>first | omega | assumption | (exact QH (by omega) hp))
  ·rw [List.drop_eq_nil_of_le (by omega),List.any_nil] at hz
   have e:DX C L=if CH L 0 C.parts=true then 20 else 0:=by unfold DX;rw [hz];rfl
   rw [e]
   clear e hz
   simp only [Av.enc] at hg
   simp (disch:=omega)only[go_sem, *]
   refine Au (fun n e h=>∃ (i:Nat),n=C.parts.length - i∧h.lim=0∧e 38=.fl 11 (C.parts.map Part.enc)∧e 39=.i .i64 C.parts.length∧e 40=.i .i64 i∧e 1=.fl 2 (L.map AS.enc)∧i≤C.parts.length∧CH L 0 C.parts=CH L i (C.parts.drop i)) ?_ _ _ _ ⟨0,rfl, ?_⟩
   ·rintro n e h ⟨i,rfl,hl,e38,e39,e40,e1,hi,hz⟩ ih
    rw [AA P0.eq_1]
    simp (disch:=omega)only[go_sem, *]
    refine Af (fun hc=>?_) (fun hc=>?_)
    ·rw [AX (by omega),CH] at hz
     simp (disch:=omega)only[go_sem, *]
     refine AD (fun hc2=>?_) (fun hc2=>?_)
     ·simp (disch:=omega)only[go_sem, *]
      refine Pf.go (Oo hf) (by simp only [go_sem]) fun _=>?_;simp (disch:=omega)only[go_sem, *]
      refine Af (fun hc3=>?_) (fun hc3=>?_)
      ·simp (disch:=omega)only[go_sem, *]
       have hd:decide (0<(nth C.parts i).budget∧JI L i (nth C.parts i).period<(nth C.parts i).budget)=true:=by grind
       rw [hd] at hz
       simp [hz]
      ·simp (disch:=omega)only[go_sem, *]
       have hd:decide (0<(nth C.parts i).budget∧JI L i (nth C.parts i).period<(nth C.parts i).budget)=false:=by grind
       rw [hd,Bool.false_or] at hz
       refine ih _ _ _ ?_ ⟨i+1,rfl, ?_⟩
       ·omega
       ·simp (disch:=omega)only[go_sem, *]
        ((repeat' refine And.intro ?_ ?_)<;>first | omega | assumption)
     ·simp (disch:=omega)only[go_sem, *]
      have hd:decide (0<(nth C.parts i).budget∧JI L i (nth C.parts i).period<(nth C.parts i).budget)=false:=by grind
      rw [hd,Bool.false_or] at hz
      refine ih _ _ _ ?_ ⟨i+1,rfl, ?_⟩
      ·omega
      ·simp (disch:=omega)only[go_sem, *]
       ((repeat' refine And.intro ?_ ?_)<;>first | omega | assumption)
    ·rw [List.drop_eq_nil_of_le (by omega),CH] at hz
     simp (disch:=omega)only[go_sem, *]
     try simp [hz]
   ·simp (disch:=omega)only[go_sem, *]
 ·simp (disch:=omega)only[go_sem, *]
end Go.Ab.T
namespace Go.Ab.T
open Go Go.Ab
set_option maxHeartbeats 1000000
theorem WO {L:List Node}:LN (Jw L).1:=by
 unfold Jw
 split
 ·exact LN.nil
 ·rename_i h
  split
  ·exact LN.nil
  ·obtain ⟨_,ho,hc1,hL,hd,hl⟩:=GN (L:=L) (by omega)
   have hap:=Fo.runs_allpos _ ho
   have hsum:=Fo.runs_sum _ ho
   have ht:=MZ hap (by omega)
   exact ⟨ht.pos,by unfold mR;rw [ht.sum];omega⟩
noncomputable def Dk (C:Av) (T:List Node):Int:=if (Jw T).2≠0 then (Jw T).2 else if (Jw T).1.any (fun r=>decide ((C.parts.length:Int)≤r.part))=true then 16 else DX C (Jw T).1
theorem Xq {C:Av} {x:AS} {h:AH} {id:Nat} {K:V→AH→Prop} (hg:h.get id=some ⟨3,[C.enc]⟩) (hid:id<h.next) (k:K (.b (decide ((C.parts.length:Int)≤x.part))) h):Cq tp Sm [.agg x.enc,.p id 0 0] h K:=by
 simp only [Av.enc] at hg
 refine GL kQ (by simp [Lj]) (k) fun hlm rp=>?_;unfold Lj;simp (disch:=omega)only[go_sem, *]
 (repeat (first | exact Am.refl _ | refine Am.alloc ?_ _ | (refine Am.put ?_ _ _ ?_;rotate_left;(first | omega | (simp only [Aa,Ae];omega)))))
theorem UO {p x:Part} {h:AH} {id:Nat} {K:V→AH→Prop} (hg:h.get id=some ⟨11,[p.enc]⟩) (hid:id<h.next) (k:K (.b (decide (x.name=p.name))) h):Cq tp R8 [.agg x.enc,.p id 0 0] h K:=by
 simp only [Part.enc] at hg
 refine GL kE (by simp [K8]) (k) fun hlm rp=>?_;unfold K8;simp (disch:=omega)only[go_sem, *]
 (repeat (first | exact Am.refl _ | refine Am.alloc ?_ _ | (refine Am.put ?_ _ _ ?_;rotate_left;(first | omega | (simp only [Aa,Ae];omega)))))
theorem T7 {C:Av} {T:List Node}:Pf tp Sb [.agg C.enc,.fl 3 (T.map Node.enc)] (.i .i64 (Dk C T)):=by
 have hf:=WO (L:=T)
 refine AN kH (by simp [Lb]) fun rp=>?_;unfold Lb;simp (disch:=omega)only[go_sem, *]
 refine Pf.go (oQ) (by simp only [go_sem]) fun _=>?_;simp (disch:=omega)only[go_sem, *]
 refine Af (fun hc=>?_) (fun hc=>?_)
 ·have e:Dk C T=(Jw T).2:=if_pos hc
  simp (disch:=omega)only[go_sem, *]
 have e:Dk C T=if (Jw T).1.any (fun r=>decide ((C.parts.length:Int)≤r.part))=true then 16 else DX C (Jw T).1:=if_neg hc
 simp (disch:=omega)only[go_sem, *]
 refine lT (P:=fun r=>decide ((C.parts.length:Int)≤r.part)) (fun x hx K k=>Xq (by simp (disch:=omega)only[go_sem, *]) (by simp (disch:=omega)only[go_sem, *]) k) ?_
 simp (disch:=omega)only[go_sem, *]
 refine BS (fun hc2=>?_) (fun hc2=>?_)
 ·rw [if_pos hc2] at e
  simp (disch:=omega)only[go_sem, *]
 ·rw [if_neg (by simp [hc2])] at e
  simp (disch:=omega)only[go_sem, *]
  refine Pf.go (RA hf) (by simp only [go_sem]) fun _=>?_;simp (disch:=omega)only[go_sem, *]
noncomputable def D4 (C:Av):Nat→List (List Node)→Int×Int
 | _,[]=>(0,-1)
 | i,t::l=>if Dk C t≠0 then (Dk C t,(i:Int)) else D4 C (i+1) l
noncomputable def C2 (C:Av):Nat→List Bl→Int×Int
 | _,[]=>D4 C 0 C.tables
 | i,x::l=>if Gk C.parts.length x=false then (17,(i:Int)) else C2 C (i+1) l
noncomputable def CI (C:Av):Nat→List Part→Int×Int
 | _,[]=>C2 C 0 C.chans
 | i,p::l=>if EO p.name=false∨(C.parts.take i).any (fun q=>decide (q.name=p.name))=true then (15,(i:Int)) else if Hu p=false then (16,(i:Int)) else CI C (i+1) l
noncomputable def CB (C:Av):Int×Int:=if C.parts.length<1∨6<C.parts.length∨8<C.chans.length∨C.tables.length<1∨3<C.tables.length then (3,0) else CI C 0 C.parts
def N7 (C:Av):Prop:=∀ p∈C.parts,p.name.size<4000000000
theorem Uk {C:Av} (hnm:N7 C):Pf tp RR [.agg C.enc] (.tup [.i .i64 (CB C).1,.i .i64 (CB C).2]):=by
 refine AN jL (by simp [KQ]) fun rp=>?_;unfold KQ;simp (disch:=omega)only[go_sem, *]
 have hcl:=GE.len (rp.head.agg (.fl 6 (C.chans.map Bl.enc)) (by simp [Av.enc]))
 have hpl:=GE.len (rp.head.agg (.fl 11 (C.parts.map Part.enc)) (by simp [Av.enc]))
 have htl:=GE.len (rp.head.agg (.fl 1 (C.tables.map Tab.enc)) (by simp [Av.enc]))
 repeat' (first | (refine AD (fun hc=>?_) (fun hc=>?_)<;>simp (disch:=omega)only[go_sem, *]) | (refine Af (fun hc=>?_) (fun hc=>?_)<;>simp (disch:=omega)only[go_sem, *]))
 all_goals try (have e:CB C=(3,0):=if_pos (by omega);rw [e];exact ⟨rfl,rfl⟩)
 have e:CB C=CI C 0 C.parts:=if_neg (by omega)
 rw [e]
 clear e
 refine Au (fun n e h=>∃ (i:Nat),n=C.parts.length - i∧h.lim=0∧e 40=.fl 11 (C.parts.map Part.enc)∧e 41=.i .i64 C.parts.length∧e 42=.i .i64 i∧e 1=.p 0 0 0∧i≤C.parts.length∧h.get 0=some ⟨3,[C.enc]⟩∧1≤h.next∧CI C i (C.parts.drop i)=CI C 0 C.parts) ?_ _ _ _ ⟨0,rfl, ?_⟩
 ·rintro n e h ⟨i,rfl,hl,e40,e41,e42,e1,hi,hg,hn,hz⟩ ih
  rw [AA PX.eq_1]
  simp (disch:=omega)only[go_sem, *]
  have hg1:=hg
  simp only [Av.enc] at hg1
  refine Af (fun hc=>?_) (fun hc=>?_)
  ·rw [AX (by omega),CI] at hz
   have hns:=hnm _ (AR (L:=C.parts) (j:=i) (by omega))
   have eX:List.take i (C.parts.map Part.enc)=(C.parts.take i).map Part.enc:=List.map_take.symm
   simp (disch:=omega)only[go_sem, *]
   refine Pf.go (QX hns) (by simp only [go_sem]) fun _=>?_;simp (disch:=omega)only[go_sem, *]
   refine D6 (fun hc2=>?_) (fun hc2=>?_)
   ·rw [if_pos (.inl (by simpa using hc2))] at hz
    rw [← hz]
    simp (disch:=omega)only[go_sem, *]
   have hc2':EO (nth C.parts i).name=true:=by simpa using hc2
   simp (disch:=omega)only[go_sem, *]
   refine We (P:=fun q=>decide (q.name=(nth C.parts i).name)) (fun x hx K k=>UO (p:=nth C.parts i) (by simp (disch:=omega)only[go_sem, *]) (by simp (disch:=omega)only[go_sem, *];omega) k) ?_
   simp (disch:=omega)only[go_sem, *]
   refine BS (fun hc3=>?_) (fun hc3=>?_)
   ·rw [if_pos (.inr hc3)] at hz
    rw [← hz]
    simp (disch:=omega)only[go_sem, *]
   ·rw [if_neg (by simp [hc2',hc3])] at hz
    simp (disch:=omega)only[go_sem, *]
    refine Pf.go (Q2) (by simp only [go_sem]) fun _=>?_;simp (disch:=omega)only[go_sem, *]
    refine BS (fun hc4=>?_) (fun hc4=>?_)
    ·rw [if_pos (by simpa using hc4)] at hz
     rw [← hz]
     simp (disch:=omega)only[go_sem, *]
    ·rw [if_neg (by simpa using hc4)] at hz
     simp (disch:=omega)only[go_sem, *]
     refine ih _ _ _ ?_ ⟨i+1,rfl, ?_⟩
     ·omega
     ·simp (disch:=omega)only[go_sem, *]
      ((repeat' refine And.intro ?_ ?_)<;>first | omega | assumption)
  ·rw [List.drop_eq_nil_of_le (by omega),CI] at hz
   rw [← hz]
   clear hz
   simp (disch:=omega)only[go_sem, *]
   refine Au (fun n e h=>∃ (i:Nat),n=C.chans.length - i∧h.lim=0∧e 66=.fl 6 (C.chans.map Bl.enc)∧e 67=.i .i64 C.chans.length∧e 68=.i .i64 i∧e 1=.p 0 0 0∧i≤C.chans.length∧h.get 0=some ⟨3,[C.enc]⟩∧1≤h.next∧C2 C i (C.chans.drop i)=C2 C 0 C.chans) ?_ _ _ _ ⟨0,rfl, ?_⟩
   ·rintro n e h ⟨i,rfl,hl,e66,e67,e68,e1,hi,hg,hn,hz⟩ ih
    rw [AA PY.eq_1]
    simp (disch:=omega)only[go_sem, *]
    have hg1:=hg
    simp only [Av.enc] at hg1
    refine Af (fun hc=>?_) (fun hc=>?_)
    ·rw [AX (by omega),C2] at hz
     simp (disch:=omega)only[go_sem, *]
     refine Pf.go (QM (c:=C) (x:=nth C.chans i)) (by simp only [go_sem]) fun _=>?_;simp (disch:=omega)only[go_sem, *]
     refine BS (fun hc4=>?_) (fun hc4=>?_)
     ·rw [if_pos (by simpa using hc4)] at hz
      rw [← hz]
      simp (disch:=omega)only[go_sem, *]
     ·rw [if_neg (by simpa using hc4)] at hz
      simp (disch:=omega)only[go_sem, *]
      refine ih _ _ _ ?_ ⟨i+1,rfl, ?_⟩
      ·omega
      ·simp (disch:=omega)only[go_sem, *]
       ((repeat' refine And.intro ?_ ?_)<;>first | omega | assumption)
    ·rw [List.drop_eq_nil_of_le (by omega),C2] at hz
     rw [← hz]
     clear hz
     simp (disch:=omega)only[go_sem, *]
     refine Au (fun n e h=>∃ (i:Nat),n=C.tables.length - i∧h.lim=0∧e 80=.fl 1 (C.tables.map Tab.enc)∧e 81=.i .i64 C.tables.length∧e 82=.i .i64 i∧e 1=.p 0 0 0∧i≤C.tables.length∧h.get 0=some ⟨3,[C.enc]⟩∧1≤h.next∧D4 C i (C.tables.drop i)=D4 C 0 C.tables) ?_ _ _ _ ⟨0,rfl, ?_⟩
     ·rintro n e h ⟨i,rfl,hl,e80,e81,e82,e1,hi,hg,hn,hz⟩ ih
      rw [AA PZ.eq_1]
      simp (disch:=omega)only[go_sem, *]
      have hg1:=hg
      simp only [Av.enc] at hg1
      refine Af (fun hc=>?_) (fun hc=>?_)
      ·rw [AX (by omega),D4] at hz
       simp (disch:=omega)only[go_sem, *]
       refine Pf.go (T7 (C:=C)) (by simp only [go_sem]) fun _=>?_;simp (disch:=omega)only[go_sem, *]
       refine Af (fun hc4=>?_) (fun hc4=>?_)
       ·rw [if_pos hc4] at hz
        rw [← hz]
        simp (disch:=omega)only[go_sem, *]
       ·rw [if_neg hc4] at hz
        simp (disch:=omega)only[go_sem, *]
        refine ih _ _ _ ?_ ⟨i+1,rfl, ?_⟩
        ·omega
        ·simp (disch:=omega)only[go_sem, *]
         ((repeat' refine And.intro ?_ ?_)<;>first | omega | assumption)
      ·rw [List.drop_eq_nil_of_le (by omega),D4] at hz
       rw [← hz]
       clear hz
       simp (disch:=omega)only[go_sem, *]
     ·simp (disch:=omega)only[go_sem, *]
   ·simp (disch:=omega)only[go_sem, *]
 ·simp (disch:=omega)only[go_sem, *]
end Go.Ab.T
namespace Go.Ab.T
open Go Go.Ab
set_option maxHeartbeats 2000000
theorem Hz {C:Av} (hnm:N7 C):Pf tp RE [.agg C.enc] (.i .i64 (CB C).1):=by
 refine AN iV (by simp [KB]) fun rp=>?_;unfold KB;simp (disch:=omega)only[go_sem, *]
 refine Pf.go (Uk hnm) (by simp only [go_sem]) fun _=>?_;simp (disch:=omega)only[go_sem, *]
end Go.Ab.T
namespace Go.Ab.T
open Go Go.Ab
set_option maxHeartbeats 1000000
@[irreducible] def Gg (n lo hi:Int):Int:=if lo≤n∧n≤hi then n else lo+(if n.tmod (hi - lo+1)<0 then n.tmod (hi - lo+1)+hi - lo+1 else n.tmod (hi - lo+1))
theorem PD {n lo hi:Int} (h:lo≤hi):lo≤Gg n lo hi∧Gg n lo hi≤hi:=by
 unfold Gg
 have h1:0<hi - lo+1:=by omega
 have a:=Int.tmod_lt_of_pos n h1
 have b:=Int.lt_tmod_of_pos n h1
 split
 ·assumption
 ·split<;>omega
theorem PE {n lo hi:Int} (h0:0≤lo) (h1:lo≤hi) (h2:hi≤2000000000):Pf tp lX [.i .i64 n,.i .i64 lo,.i .i64 hi] (.i .i64 (Gg n lo hi)):=by
 have hp:0<hi - lo+1:=by omega
 have a:=Int.tmod_lt_of_pos n hp
 have b:=Int.lt_tmod_of_pos n hp
 refine AN aEm (by simp [T0]) fun rp=>?_;unfold T0;simp (disch:=omega)only[go_sem, *]
 repeat' (first | (refine AD (fun hc=>?_) (fun hc=>?_)<;>simp (disch:=omega)only[go_sem, *]) | (refine Af (fun hc=>?_) (fun hc=>?_)<;>simp (disch:=omega)only[go_sem, *]) | (refine D6 (fun hc=>?_) (fun hc=>?_)<;>simp (disch:=omega)only[go_sem, *]) | (refine BS (fun hc=>?_) (fun hc=>?_)<;>simp (disch:=omega)only[go_sem, *]))
 all_goals (unfold Gg;(repeat' split)<;>omega)
@[go_sem] def ZM (L:List Int) (k:Nat):Bo:=⟨2,[[.fl 1 (L.map iO),.i .i64 k]]⟩
theorem Upd.same {h:AH} {id:Nat} {b:Bo} (hb:h.get id=some b):Upd h id b h:=⟨Nat.le_refl _,rfl,hb,fun _ _ _=>rfl⟩
theorem BI {b sz:Nat} {h:AH} {v:V} {R:List (List V)} (s:Sl b h sz v R):AI v=true∨b≤Aq v:=by
 rcases s with ⟨hv,_⟩ | ⟨i,el,cap,cs,rfl,_,_,_,_,h1,h2,_⟩
 ·rcases hv with rfl | rfl<;>exact .inl rfl
 ·exact .inr h2
end Go.Ab.T
