/- Part of a proof that a law returns true for every input of the second form's bound (no other condition). -/
import Derived.Test.YtlcknhidblndnaaGreatPF
set_option linter.all false
namespace Go.Ab.T
open Go Go.Ab
set_option maxHeartbeats 1000000
/-! Plain laws: when a configuration is right. -/
def Fh (n:Int) (T:List Node):Prop:=∀ x∈T,0≤x.part∧x.part<n
theorem Fh.one {n:Int} {x:Node} (h0:0≤x.part) (h:x.part<n):Fh n [x]:=fun y hy=>by
 rw [List.mem_singleton] at hy;subst hy;exact ⟨h0,h⟩
theorem Fh.app {n:Int} {A B:List Node} (a:Fh n A) (b:Fh n B):Fh n (A++B):=fun y hy=>by
 rcases List.mem_append.1 hy with h | h
 ·exact a y h
 ·exact b y h
theorem Fh.cons {n:Int} {x:Node} {B:List Node} (h0:0≤x.part) (h:x.part<n) (b:Fh n B):Fh n (x::B):=Fh.app (Fh.one h0 h) b
theorem Fo.runs_part {n:Int} (hn:1≤n):∀ (f:Fo),Fh n f.flat→∀ r∈f.runs,r.part<n
 | .nil,h,r,hr=>by simp [Fo.runs] at hr
 | .leaf x f,h,r,hr=>by
  simp only [Fo.runs,List.mem_cons] at hr
  simp only [Fo.flat] at h
  rcases hr with rfl | hr
  ·have:=h x (List.mem_cons_self ..)
   simp only [Eh];split<;>omega
  ·exact Fo.runs_part hn f (fun y hy=>h y (List.mem_cons_of_mem _ hy)) r hr
 | .seq x k f,h,r,hr=>by
  simp only [Fo.runs,List.mem_append] at hr
  simp only [Fo.flat] at h
  rcases hr with hr | hr
  ·exact Fo.runs_part hn k (fun y hy=>h y (List.mem_cons_of_mem _ (List.mem_append_left _ hy))) r hr
  ·exact Fo.runs_part hn f (fun y hy=>h y (List.mem_cons_of_mem _ (List.mem_append_right _ hy))) r hr
 | .rep x k f,h,r,hr=>by
  simp only [Fo.runs,List.mem_append] at hr
  simp only [Fo.flat] at h
  rcases hr with hr | hr
  ·rw [List.mem_flatten] at hr
   obtain ⟨l,hl,hr⟩:=hr
   rw [List.mem_replicate] at hl
   obtain ⟨_,rfl⟩:=hl
   exact Fo.runs_part hn k (fun y hy=>h y (List.mem_cons_of_mem _ (List.mem_append_left _ hy))) r hr
  ·exact Fo.runs_part hn f (fun y hy=>h y (List.mem_cons_of_mem _ (List.mem_append_right _ hy))) r hr
def EM (n:Int) (T:List Node):Prop:=(Jw T).2=0∧∀ r∈(Jw T).1,r.part<n
theorem EM.of {n:Int} (hn:1≤n) {T:List Node} (h:(Jw T).2=0) (hp:Fh n T):EM n T:=by
 refine ⟨h, ?_⟩
 by_cases hr:A9 T=0
 ·rw [Hs hr] at h ⊢
  obtain ⟨_,ho,hc1,hL,hd,hl⟩:=GN hr
  split at h
  ·simp at h
  ·rename_i h96
   rw [if_neg h96]
   intro r hr
   have hap:=Fo.runs_allpos _ ho
   have hsum:=Fo.runs_sum _ ho
   have ht:=MZ hap (by omega)
   obtain ⟨q,hq,e⟩:=ht.parts r hr
   rw [← e]
   exact Fo.runs_part hn _ (by rw [← hL];exact hp) q hq
 ·rw [Jf hr] at h
  exact absurd h hr
theorem EM.right {n:Int} {T:List Node} (h:EM n T):A9 T=0:=by
 by_cases hr:A9 T=0
 ·exact hr
 ·have:=h.1;rw [Jf hr] at this;exact absurd this hr
theorem EM.ne {n:Int} {T:List Node} (h:EM n T):0<T.length:=by
 obtain ⟨_,f,ho,hc,rfl,_⟩:=(EB T).1 h.right
 exact Fo.flat_pos hc
/-! When all is right. -/
theorem HU {C:Av}:∀ (l:List (List Node)) (i:Nat),D4 C i l=(0,-1)↔∀ t∈l,Dk C t=0
 | [],i=>by simp [D4]
 | t::l,i=>by
  rw [D4]
  split
  ·rename_i h;simp [h]
  ·rename_i h;rw [HU l];simp at h;simp [h]
theorem GB {C:Av}:∀ (l:List Bl) (i:Nat),C2 C i l=(0,-1)↔(∀ x∈l,Gk C.parts.length x=true)∧∀ t∈C.tables,Dk C t=0
 | [],i=>by simp [C2,HU]
 | x::l,i=>by
  rw [C2]
  split
  ·rename_i h;simp [h]
  ·rename_i h;rw [GB l];simp at h;simp [h]
def Y6 (P:List Part) (j:Nat):Prop:=EO (nth P j).name=true∧(P.take j).any (fun q=>decide (q.name=(nth P j).name))=false∧Hu (nth P j)=true
theorem GC {C:Av}:∀ (l:List Part) (i:Nat),l=C.parts.drop i→(CI C i l=(0,-1)↔(∀ j,i≤j→j<C.parts.length→Y6 C.parts j)∧(∀ x∈C.chans,Gk C.parts.length x=true)∧∀ t∈C.tables,Dk C t=0)
 | [],i,hl=>by
  have:C.parts.length≤i:=List.drop_eq_nil_iff.1 hl.symm
  rw [CI,GB]
  constructor
  ·intro h;exact ⟨fun j h1 h2=>by omega,h⟩
  ·intro h;exact h.2
 | p::l,i,hl=>by
  have hi:i<C.parts.length:=by
   rcases Nat.lt_or_ge i C.parts.length with h | h
   ·exact h
   ·rw [List.drop_eq_nil_of_le h] at hl;cases hl
  rw [AX hi] at hl
  injection hl with h1 h2
  subst h1
  rw [CI]
  split
  ·rename_i h
   constructor
   ·intro h';simp at h'
   ·intro h'
    have g:=h'.1 i (Nat.le_refl _) hi
    rw [g.1,g.2.1] at h;simp at h
  ·rename_i h
   split
   ·rename_i h3
    constructor
    ·intro h';simp at h'
    ·intro h'
     have g:=h'.1 i (Nat.le_refl _) hi
     rw [g.2.2] at h3;simp at h3
   ·rename_i h3
    rw [GC l (i+1) h2]
    simp only [not_or,Bool.not_eq_false,Bool.not_eq_true] at h h3
    constructor
    ·intro h'
     refine ⟨fun j hj1 hj2=>?_,h'.2⟩
     by_cases e:j=i
     ·subst e;exact ⟨h.1,h.2,h3⟩
     ·exact h'.1 j (by omega) hj2
    ·intro h'
     exact ⟨fun j hj1 hj2=>h'.1 j (by omega) hj2,h'.2⟩
theorem PB {C:Av}:CB C=(0,-1)↔(1≤C.parts.length∧C.parts.length≤6∧C.chans.length≤8∧1≤C.tables.length∧C.tables.length≤3)∧(∀ j,j<C.parts.length→Y6 C.parts j)∧(∀ x∈C.chans,Gk C.parts.length x=true)∧∀ t∈C.tables,Dk C t=0:=by
 unfold CB
 split
 ·rename_i h
  constructor
  ·intro h';simp at h'
  ·intro h';omega
 ·rename_i h
  rw [GC _ 0 (by simp)]
  constructor
  ·intro h';exact ⟨by omega,fun j hj=>h'.1 j (by omega) hj,h'.2⟩
  ·intro h';exact ⟨fun j _ hj=>h'.2.1 j hj,h'.2.2⟩
theorem MY {C:Av} {T:List Node}:Dk C T=0↔EM C.parts.length T∧DX C (Jw T).1=0:=by
 unfold Dk EM
 split
 ·rename_i h;simp [h]
 ·rename_i h
  split
  ·rename_i h2
   rw [List.any_eq_true] at h2
   obtain ⟨r,h3,h4⟩:=h2
   constructor
   ·intro h';simp at h'
   ·intro h'
    have:=h'.1.2 r h3
    simp at h4;omega
  ·rename_i h2
   simp only [List.any_eq_true,not_exists,not_and] at h2
   constructor
   ·intro h';exact ⟨⟨by omega,fun r hr=>by have:=h2 r hr;simp at this;omega⟩,h'⟩
   ·intro h';exact h'.2
theorem Ml {C:Av} {L:List AS}:DX C L=0↔C.chans.any (Ds L)=false∧CH L 0 C.parts=false:=by
 unfold DX
 split
 ·rename_i h;simp [h]
 ·rename_i h;simp only [Bool.not_eq_true] at h
  split
  ·rename_i h2;simp [h2]
  ·rename_i h2;simp only [Bool.not_eq_true] at h2;simp [h,h2]
theorem FE {L:List AS}:∀ (l:List Part) (i:Nat),(∀ p∈l,p.budget=0)→CH L i l=false
 | [],i,h=>rfl
 | p::l,i,h=>by
  rw [CH,FE l (i+1) (fun q hq=>h q (List.mem_cons_of_mem _ hq)),h p (List.mem_cons_self ..)]
  simp
end Go.Ab.T
namespace Go.Ab.T
open Go Go.Ab
set_option maxHeartbeats 2000000
theorem Sl.new {b:Nat} {h:AH} {sz:Nat} {N:List (List V)} (hb:b≤h.next) (hN:N.length<4294967296):Sl b (h.alloc ⟨sz,N⟩) sz (.sl h.next 0 N.length N.length) N:=
 .inr ⟨h.next,0,N.length,N,rfl,by simp [AH.alloc],by simp,by simp,Nat.le_refl _,by simp [AH.alloc],hb,hN⟩
end Go.Ab.T
namespace Go.Ab.T
open Go Go.Ab
set_option maxHeartbeats 2000000
end Go.Ab.T
namespace Go.Ab.T
open Go Go.Ab
set_option maxHeartbeats 2000000
@[go_sem] def RT.enc (r:List AS):List V:=[.fl 2 (r.map AS.enc)]
theorem Sl.sameV {b sz:Nat} {h:AH} {v:V} {R:List (List V)} (s:Sl b h sz v R):Bu v v=true:=by
 rcases s with ⟨hv,_⟩ | ⟨i,el,cap,cs,rfl,_⟩
 ·rcases hv with rfl | rfl<;>rfl
 ·exact Go.Ab.sameVa_sl
structure Ask (b id:Nat) (L:List Int) (vp vc:V) (T:List (List Node)) (h h':AH) (P:List Part) (Ch:List Bl) (j:Nat):Prop where
 next:h.next+2≤h'.next
 lim:h'.lim=h.lim
 tape:h'.get id=some (ZM L j)
 jl:j≤L.length
 box:h'.get h.next=some ⟨3,[[vp,vc,.fl 1 (T.map Tab.enc)]]⟩
 res:h'.get (h.next+1)=some ⟨3,[[.ns,.ns,.ns]]⟩
 low:∀ i,i<b→i≠id→h'.get i=h.get i
 sp:Sl b h' 11 vp (P.map Part.enc)
 sc:Sl b h' 6 vc (Ch.map Bl.enc)
 pl:AI vp=true∨Aq vp<h.next
 cl:AI vc=true∨Aq vc<h.next
 dj:AI vp=true∨AI vc=true∨Aq vp≠Aq vc
theorem CA {b sz:Nat} {h:AH} {v:V} {R:List (List V)} (s:Sl b h sz v R) (i:Nat) (k:Bo) (hi:AI v=true∨i≠Aq v):Sl b (h.put i k) sz v R:=by
 rcases hi with hi | hi
 ·rcases s with ⟨a,c⟩ | ⟨_,_,_,_,rfl,_⟩
  ·exact .inl ⟨a,c⟩
  ·cases hi
 ·exact s.putx _ _ hi
section
variable {b id:Nat} {L:List Int} {vp vc:V} {T:List (List Node)} {h h':AH} {P:List Part} {Ch:List Bl} {j:Nat}
theorem Ask.ext {h2:AH} (a:Ask b id L vp vc T h h' P Ch j) (hb:b≤h.next) (hid:id<b) (x:Am h' h2):Ask b id L vp vc T h h2 P Ch j:=by
 have n1:=a.next;have n2:=x.next
 exact ⟨by omega,x.lim.trans a.lim,(x.get _ (by omega)).trans a.tape,a.jl,(x.get _ (by omega)).trans a.box,(x.get _ (by omega)).trans a.res,fun i hi hn=>(x.get i (by omega)).trans (a.low i hi hn),a.sp.ext x,a.sc.ext x,a.pl,a.cl,a.dj⟩
theorem Ask.part {i:Nat} (x:Part) (a:Ask b id L vp vc T h h' P Ch j) (hid:id<b) (hi:i<P.length):Ask b id L vp vc T h (h'.put (Aq vp) ⟨11,(AU h' vp).set (CU vp+i) x.enc⟩) (P.set i x) Ch j:=by
 obtain ⟨_,_,lt,lo,_⟩:=a.sp.facts
 have hnil:AI vp=false:=by
  rcases a.sp with ⟨_,hR⟩ | ⟨_,_,_,_,rfl,_⟩
  ·have:P=[]:=by simpa using hR
   subst this;simp at hi
  ·rfl
 have l1:=lo (by omega)
 have l2:Aq vp<h.next:=by rcases a.pl with q | q;(rw [q] at hnil;cases hnil);exact q
 have l3:AI vc=true∨Aq vc≠Aq vp:=by
  rcases a.dj with q | q | q
  ·rw [q] at hnil;cases hnil
  ·exact .inl q
  ·exact .inr (Ne.symm q)
 refine ⟨a.next,a.lim,by rw [Ah,An (by omega)];exact a.tape,a.jl,by rw [Ah,An (by omega)];exact a.box,by rw [Ah,An (by omega)];exact a.res,fun i hi hn=>by rw [Ah,An (by omega)];exact a.low i hi hn, ?_,CA a.sc _ _ (l3.imp (fun x=>x) (fun x=>Ne.symm x)),a.pl,a.cl,a.dj⟩
 exact Sl.setT a.sp hi (Nat.le_refl _) (by rw [Ah,AK rfl])
end
end Go.Ab.T
namespace Go.Ab.T
open Go Go.Ab
set_option maxHeartbeats 2000000
section
variable {b id:Nat} {L:List Int} {vp vc w:V} {T:List (List Node)} {R:List (List AS)} {h h':AH} {P:List Part} {Ch:List Bl} {j:Nat}
def Wst (R:List (List AS)) (f t W:Int):Prop:=-1≤W∧W≤4096∧(0≤W→∀ r∈R,0≤D8 r f t∧D8 r f t≤W)
theorem Wst.neg {R:List (List AS)} {f t:Int}:Wst R f t (-1):=⟨by omega,by omega,fun h=>absurd h (by omega)⟩
theorem Wst.step {R:List (List AS)} {r:List AS} {f t W:Int} (h:Wst R f t W) (h0:0≤W) (hl:0≤D8 r f t) (hl2:D8 r f t≤4096):Wst (R++[r]) f t (max W (D8 r f t)):=by
 obtain ⟨a,c,d⟩:=h
 refine ⟨by omega,by omega,fun _ x hx=>?_⟩
 rcases List.mem_append.1 hx with hx | hx
 ·have:=d h0 x hx;omega
 ·rw [List.mem_singleton] at hx;subst hx;omega
theorem DH {α:Type} [Inhabited α] {L:List α} {i:Nat} (hi:i<L.length):L.take (i+1)=L.take i++[nth L i]:=by
 rw [List.take_add_one,D0 hi];rfl
def Zs (x:Bl):Prop:=0≤x.top∧x.top≤4294967295
def CO (n:Int) (R:List (List AS)) (x:Bl):Prop:=Gk n x=true∧(∀ r∈R,Ds r x=false)∧Zs x
theorem CO.late {n:Int} {x:Bl} {W t:Int} (c:CO n R x) (hW:Wst R x.src x.dst W) (h0:0<W) (ht:0≤t):CO n R { x with late:=min (W+t) 4096 }:=by
 obtain ⟨w1,w2,w3⟩:=hW
 refine ⟨?_,fun r hr=>?_,c.2.2⟩
 ·have:=c.1
  unfold Gk at this ⊢
  simp only [Bool.and_eq_true,decide_eq_true_eq] at this ⊢
  exact ⟨by omega,this.2⟩
 ·have:=w3 (by omega) r hr
  unfold Ds
  simp only [decide_eq_false_iff_not]
  omega
end
end Go.Ab.T
namespace Go.Ab.T
open Go Go.Ab
set_option maxHeartbeats 2000000
section
variable {b id:Nat} {L:List Int} {vp vc w:V} {T:List (List Node)} {R:List (List AS)} {h h':AH} {P:List Part} {Ch:List Bl} {j:Nat}
def z0 (p:Part):Part:={ p with budget:=0,period:=0 }
end
end Go.Ab.T
namespace Go.Ab.T
open Go Go.Ab
set_option maxHeartbeats 4000000
noncomputable def rn (t:List Node):List AS:=(Jw t).1
section
variable {b id:Nat} {L:List Int} {vp vc w:V} {T:List (List Node)} {R:List (List AS)} {h h':AH} {P:List Part} {Ch:List Bl} {j:Nat}
theorem Ask.grown {b':Nat} {x v:V} {h2:AH} (a:Ask b id L vp vc T h h' P Ch j) (hb:b≤h.next) (hid:id<b) (g:Grown b' h' x v h2) (hx:AI x=true∨h.next+2≤Aq x):Ask b id L vp vc T h h2 P Ch j:=by
 have n1:=a.next;have n2:=g.next
 have gg:∀ i,i<h.next+2→h2.get i=h'.get i:=fun i hi=>g.get i (by omega) (hx.imp (fun x=>x) (fun x=>by omega))
 refine ⟨by omega,g.lim.trans a.lim,(gg _ (by omega)).trans a.tape,a.jl,(gg _ (by omega)).trans a.box,(gg _ (by omega)).trans a.res,fun i hi hn=>(gg i (by omega)).trans (a.low i hi hn), ?_, ?_,a.pl,a.cl,a.dj⟩
 ·rcases a.pl with q | q
  ·rcases a.sp with ⟨c,d⟩ | ⟨_,_,_,_,rfl,_⟩
   ·exact .inl ⟨c,d⟩
   ·cases q
  ·exact a.sp.same n2 (fun _=>gg _ (by omega))
 ·rcases a.cl with q | q
  ·rcases a.sc with ⟨c,d⟩ | ⟨_,_,_,_,rfl,_⟩
   ·exact .inl ⟨c,d⟩
   ·cases q
  ·exact a.sc.same n2 (fun _=>gg _ (by omega))
end
end Go.Ab.T
namespace Go.Ab.T
open Go Go.Ab
set_option maxHeartbeats 4000000
end Go.Ab.T
namespace Go.Ab.T
open Go Go.Ab
set_option maxHeartbeats 2000000
def Dj (v w:V):Prop:=AI v=true∨AI w=true∨Aq v≠Aq w
structure CS (q id:Nat) (L:List Int) (h h':AH) (vp vc vt:V) (P:List Part) (Ch:List Bl) (T:List (List Node)) (j:Nat):Prop where
 q1:h.next+2≤q
 q2:q≤h'.next
 lim:h'.lim=h.lim
 tape:h'.get id=some (ZM L j)
 jl:j≤L.length
 res:h'.get h.next=some ⟨3,[[.ns,.ns,.ns]]⟩
 box:h'.get (h.next+1)=some ⟨3,[[vp,vc,vt]]⟩
 low:∀ i,i<h.next→i≠id→h'.get i=h.get i
 sp:Sl (h.next+2) h' 11 vp (P.map Part.enc)
 sc:Sl (h.next+2) h' 6 vc (Ch.map Bl.enc)
 st:Sl (h.next+2) h' 1 vt (T.map Tab.enc)
 pl:AI vp=true∨Aq vp<q
 cl:AI vc=true∨Aq vc<q
 tl:AI vt=true∨Aq vt<q
 pc:Dj vp vc
 pt:Dj vp vt
 ct:Dj vc vt
section
variable {q id:Nat} {L:List Int} {h h' h2:AH} {vp vc vt:V} {P:List Part} {Ch:List Bl} {T:List (List Node)} {j:Nat}
theorem GT {b sz q:Nat} {h h2:AH} {v:V} {R:List (List V)} (s:Sl b h sz v R) (hl:AI v=true∨Aq v<q) (hn:h.next≤h2.next) (g:∀ i,i<q→h2.get i=h.get i):Sl b h2 sz v R:=by
 rcases hl with hl | hl
 ·rcases s with ⟨a,c⟩ | ⟨_,_,_,_,rfl,_⟩
  ·exact .inl ⟨a,c⟩
  ·cases hl
 ·exact s.same hn (fun _=>g _ hl)
theorem CS.keep (a:CS q id L h h' vp vc vt P Ch T j) (hid:id<h.next) (hn:h'.next≤h2.next) (hl:h2.lim=h'.lim) (g:∀ i,i<q→h2.get i=h'.get i):CS q id L h h2 vp vc vt P Ch T j:=by
 have q1:=a.q1;have q2:=a.q2
 exact ⟨q1,by omega,hl.trans a.lim,(g _ (by omega)).trans a.tape,a.jl,(g _ (by omega)).trans a.res,(g _ (by omega)).trans a.box,fun i hi hn=>(g i (by omega)).trans (a.low i hi hn),GT a.sp a.pl hn g,GT a.sc a.cl hn g,GT a.st a.tl hn g,a.pl,a.cl,a.tl,a.pc,a.pt,a.ct⟩
theorem CS.ext (a:CS q id L h h' vp vc vt P Ch T j) (hid:id<h.next) (x:Am h' h2):CS q id L h h2 vp vc vt P Ch T j:=
 a.keep hid x.next x.lim (fun i hi=>x.get i (by have:=a.q2;omega))
theorem CS.up {q':Nat} (a:CS q id L h h' vp vc vt P Ch T j) (h1:q≤q') (h2:q'≤h'.next):CS q' id L h h' vp vc vt P Ch T j:=
 ⟨Nat.le_trans a.q1 h1,h2,a.lim,a.tape,a.jl,a.res,a.box,a.low,a.sp,a.sc,a.st,a.pl.imp (fun x=>x) (fun x=>by omega),a.cl.imp (fun x=>x) (fun x=>by omega),a.tl.imp (fun x=>x) (fun x=>by omega),a.pc,a.pt,a.ct⟩
theorem JP {b:Nat} {v w x:V} {h1 h2:AH} (g:Grown b h1 x v h2) (d:Dj x w) (hl:AI w=true∨Aq w<h1.next):Dj v w:=by
 rcases g.own with k | ⟨k1,k2⟩ | k
 ·exact .inl k
 ·rcases d with d | d | d
  ·rw [d] at k1;cases k1
  ·exact .inr (.inl d)
  ·exact .inr (.inr (by rw [k2];exact d))
 ·rcases hl with hl | hl
  ·exact .inr (.inl hl)
  ·exact .inr (.inr (by omega))
theorem Q4 {v w:V} (d:Dj v w):Dj w v:=by
 rcases d with d | d | d
 ·exact .inr (.inl d)
 ·exact .inl d
 ·exact .inr (.inr (Ne.symm d))
theorem TT {b b' sz:Nat} {h1 h2:AH} {x v w:V} {R:List (List V)} (s:Sl b h1 sz w R) (g:Grown b' h1 x v h2) (d:Dj x w):Sl b h2 sz w R:=by
 rcases s with hs | ⟨i,el,cap,cs,rfl,hg,a1,a2,a3,a4,a5,a6⟩
 ·exact .inl hs
 ·refine .inr ⟨i,el,cap,cs,rfl, ?_,a1,a2,a3,Nat.lt_of_lt_of_le a4 g.next,a5,a6⟩
  rw [g.get i a4];exact hg
  rcases d with d | d | d
  ·exact .inl d
  ·cases d
  ·exact .inr (Ne.symm d)
end
end Go.Ab.T
namespace Go.Ab.T
open Go Go.Ab
set_option maxHeartbeats 4000000
section
variable {q id:Nat} {L:List Int} {h h' h2:AH} {vp vc vt:V} {P:List Part} {Ch:List Bl} {T:List (List Node)} {j:Nat}
end
end Go.Ab.T
namespace Go.Ab.T
open Go Go.Ab
set_option maxHeartbeats 4000000
section
variable {q id:Nat} {L:List Int} {h h' h2:AH} {vp vc vt:V} {P:List Part} {Ch:List Bl} {T:List (List Node)} {j:Nat}
end
end Go.Ab.T
namespace Go.Ab.T
open Go Go.Ab
set_option maxHeartbeats 4000000
section
variable {id:Nat} {L:List Int} {h h' h2:AH} {T:List (List Node)} {j:Nat}
end
end Go.Ab.T
namespace Go.Ab.T
open Go Go.Ab
set_option maxHeartbeats 4000000
theorem aGv {f r n:Int} (h0:0≤f) (h1:f<n) (h2:0≤r) (h3:r<n - 1∨r=0) (hn:1<n):0≤(f+1+r).tmod n∧(f+1+r).tmod n<n∧f≠(f+1+r).tmod n:=by
 rw [Int.tmod_eq_emod_of_nonneg (by omega)]
 by_cases h:f+1+r<n
 ·rw [Int.emod_eq_of_lt (by omega) h];omega
 ·have e:(f+1+r) % n=(f+1+r - n) % n:=by rw [Int.sub_emod_right]
  rw [e,Int.emod_eq_of_lt (by omega) (by omega)];omega
section
variable {id:Nat} {L:List Int} {h h' h2:AH} {P:List Part} {j:Nat}
end
end Go.Ab.T
namespace Go.Ab.T
open Go Go.Ab
set_option maxHeartbeats 4000000
theorem Sl.weak {b b' sz:Nat} {h:AH} {v:V} {R:List (List V)} (s:Sl b h sz v R) (hb:b'≤b):Sl b' h sz v R:=by
 rcases s with hs | ⟨i,el,cap,cs,rfl,hg,a1,a2,a3,a4,a5,a6⟩
 ·exact .inl hs
 ·exact .inr ⟨i,el,cap,cs,rfl,hg,a1,a2,a3,a4,by omega,a6⟩
structure Made (C:Av):Prop where
 wh:CB C=(0,-1)
 nm:N7 C
 ch:C.chans.length≤3
 tb:C.tables.length≤2
 pt:C.parts.length≤4
 tops:∀ x∈C.chans,Zs x
section
variable {id:Nat} {L:List Int} {h h' h2:AH} {P:List Part} {Ch:List Bl} {j:Nat}
end
end Go.Ab.T
namespace Go.Ab.T
open Go Go.Ab
set_option maxHeartbeats 2000000
structure B6 (b q:Nat) (h:AH) (l:List (Nat×V×List (List V))):Prop where
 bq:b≤q
 q2:q≤h.next
 sl:∀ (i:Nat) (a:Nat×V×List (List V)),l[i]?=some a→Sl b h a.1 a.2.1 a.2.2
 lt:∀ (i:Nat) (a:Nat×V×List (List V)),l[i]?=some a→AI a.2.1=true∨Aq a.2.1<q
 dj:∀ (i j:Nat) (a c:Nat×V×List (List V)),i≠j→l[i]?=some a→l[j]?=some c→Dj a.2.1 c.2.1
section
variable {b q:Nat} {h h2:AH} {l:List (Nat×V×List (List V))}
theorem B6.keep (o:B6 b q h l) (hn:h.next≤h2.next) (g:∀ i,i<q→h2.get i=h.get i):B6 b q h2 l:=
 ⟨o.bq,Nat.le_trans o.q2 hn,fun i a e=>GT (o.sl i a e) (o.lt i a e) hn g,o.lt,o.dj⟩
theorem B6.ext (o:B6 b q h l) (x:Am h h2):B6 b q h2 l:=o.keep x.next (fun i hi=>x.get i (by have:=o.q2;omega))
theorem B6.up {q':Nat} (o:B6 b q h l) (h1:q≤q') (h2:q'≤h.next):B6 b q' h l:=
 ⟨Nat.le_trans o.bq h1,h2,o.sl,fun i a e=>(o.lt i a e).imp (fun x=>x) (fun x=>by omega),o.dj⟩
theorem B6.put (o:B6 b q h l) (i:Nat) (k:Bo) (hi:i<b∨q≤i):B6 b q (h.put i k) l:=by
 refine ⟨o.bq,o.q2,fun j a e=>CA (o.sl j a e) _ _ ?_,o.lt,o.dj⟩
 have h1:=BI (o.sl j a e)
 have h2:=o.lt j a e
 rcases h1 with h1 | h1
 ·exact .inl h1
 ·rcases h2 with h2 | h2
  ·exact .inl h2
  ·exact .inr (by omega)
theorem B6.low {b' i:Nat} {a:Nat×V×List (List V)} {h1 h3:AH} {v:V} (o:B6 b q h l) (e:l[i]?=some a) (x:Am h h1) (g:Grown b' h1 a.2.1 v h3):∀ k,k<b→h3.get k=h.get k:=fun k hk=>by
 have:=o.bq;have:=o.q2;have:=x.next
 rw [g.get k (by omega) ((BI (o.sl i a e)).imp (fun x=>x) (fun x=>by omega)),x.get k (by omega)]
theorem B6.grow {b' i:Nat} {a:Nat×V×List (List V)} {h1 h3:AH} {v:V} {R:List (List V)} (o:B6 b q h l) (e:l[i]?=some a) (x:Am h h1) (g:Grown b' h1 a.2.1 v h3) (s:Sl b h3 a.1 v R):B6 b h3.next h3 (l.set i (a.1,v,R)):=by
 have n0:=o.bq;have n1:=o.q2;have n2:=x.next;have n3:=g.next
 have hi:i<l.length:=(List.getElem?_eq_some_iff.1 e).1
 have o1:=o.ext x
 refine ⟨by omega,Nat.le_refl _,fun j c ej=>?_,fun j c ej=>?_,fun j k c d hjk ej ek=>?_⟩
 ·by_cases hji:i=j
  ·subst hji
   rw [List.getElem?_set_self hi] at ej
   cases ej;exact s
  ·rw [List.getElem?_set_ne hji] at ej
   exact TT (o1.sl j c ej) g (o.dj i j a c hji e ej)
 ·by_cases hji:i=j
  ·subst hji
   rw [List.getElem?_set_self hi] at ej
   cases ej;exact Er s
  ·rw [List.getElem?_set_ne hji] at ej
   exact (o.lt j c ej).imp (fun x=>x) (fun x=>by omega)
 ·by_cases hji:i=j
  ·subst hji
   rw [List.getElem?_set_self hi] at ej
   rw [List.getElem?_set_ne hjk] at ek
   cases ej
   exact JP g (o.dj i k a d hjk e ek) ((o.lt k d ek).imp (fun x=>x) (fun x=>by omega))
  ·rw [List.getElem?_set_ne hji] at ej
   by_cases hki:i=k
   ·subst hki
    rw [List.getElem?_set_self hi] at ek
    cases ek
    exact Q4 (JP g (o.dj i j a c hji e ej) ((o.lt j c ej).imp (fun x=>x) (fun x=>by omega)))
   ·rw [List.getElem?_set_ne hki] at ek
    exact o.dj j k c d hjk ej ek
theorem B6.set {i n:Nat} {a:Nat×V×List (List V)} {r:List V} (o:B6 b q h l) (e:l[i]?=some a) (hn:n<a.2.2.length):B6 b q (h.put (Aq a.2.1) ⟨a.1,(AU h a.2.1).set (CU a.2.1+n) r⟩) (l.set i (a.1,a.2.1,a.2.2.set n r)):=by
 have hi:i<l.length:=(List.getElem?_eq_some_iff.1 e).1
 have hnil:AI a.2.1=false:=by
  rcases o.sl i a e with ⟨_,hR⟩ | ⟨_,_,_,_,hv,_⟩
  ·rw [hR] at hn;simp at hn
  ·rw [hv];rfl
 refine ⟨o.bq,o.q2,fun j c ej=>?_,fun j c ej=>?_,fun j k c d hjk ej ek=>?_⟩
 ·by_cases hji:i=j
  ·subst hji
   rw [List.getElem?_set_self hi] at ej
   cases ej
   exact Sl.of_get (o.sl i a e) hn (Nat.le_refl _) (by rw [Ah,AK rfl])
  ·rw [List.getElem?_set_ne hji] at ej
   refine CA (o.sl j c ej) _ _ ?_
   rcases o.dj i j a c hji e ej with d | d | d
   ·rw [d] at hnil;cases hnil
   ·exact .inl d
   ·exact .inr d
 ·by_cases hji:i=j
  ·subst hji
   rw [List.getElem?_set_self hi] at ej
   cases ej;exact o.lt i a e
  ·rw [List.getElem?_set_ne hji] at ej
   exact o.lt j c ej
 ·by_cases hji:i=j
  ·subst hji
   rw [List.getElem?_set_self hi] at ej
   rw [List.getElem?_set_ne hjk] at ek
   cases ej
   exact o.dj i k a d hjk e ek
  ·rw [List.getElem?_set_ne hji] at ej
   by_cases hki:i=k
   ·subst hki
    rw [List.getElem?_set_self hi] at ek
    cases ek
    exact o.dj j i c a hjk ej e
   ·rw [List.getElem?_set_ne hki] at ek
    exact o.dj j k c d hjk ej ek
theorem B6.new {i sz:Nat} {v:V} {R:List (List V)} (o:B6 b q h l) (hi:i<l.length) (s:Sl q h sz v R):B6 b h.next h (l.set i (sz,v,R)):=by
 have n0:=o.bq;have n1:=o.q2
 have hv:=BI s
 refine ⟨by omega,Nat.le_refl _,fun j c ej=>?_,fun j c ej=>?_,fun j k c d hjk ej ek=>?_⟩
 ·by_cases hji:i=j
  ·subst hji
   rw [List.getElem?_set_self hi] at ej
   cases ej;exact Sl.weak s n0
  ·rw [List.getElem?_set_ne hji] at ej
   exact o.sl j c ej
 ·by_cases hji:i=j
  ·subst hji
   rw [List.getElem?_set_self hi] at ej
   cases ej;exact Er s
  ·rw [List.getElem?_set_ne hji] at ej
   exact (o.lt j c ej).imp (fun x=>x) (fun x=>by omega)
 ·have ap:∀ (j:Nat) (c:Nat×V×List (List V)),l[j]?=some c→Dj v c.2.1:=fun j c ej=>by
   rcases hv with hv | hv
   ·exact .inl hv
   ·rcases o.lt j c ej with k | k
    ·exact .inr (.inl k)
    ·exact .inr (.inr (by omega))
  by_cases hji:i=j
  ·subst hji
   rw [List.getElem?_set_self hi] at ej
   rw [List.getElem?_set_ne hjk] at ek
   cases ej
   exact ap k d ek
  ·rw [List.getElem?_set_ne hji] at ej
   by_cases hki:i=k
   ·subst hki
    rw [List.getElem?_set_self hi] at ek
    cases ek
    exact Q4 (ap j c ej)
   ·rw [List.getElem?_set_ne hki] at ek
    exact o.dj j k c d hjk ej ek
theorem B6.nil (hb:b≤h.next) (hl:∀ a∈l,a.2.1=.ns∧a.2.2=[]):B6 b h.next h l:=
 ⟨hb,Nat.le_refl _,fun i a e=>by have:=hl a (List.mem_of_getElem? e);rw [this.1,this.2];exact Sl.nil _ _ _,fun i a e=>by have:=hl a (List.mem_of_getElem? e);rw [this.1];exact .inl rfl,fun i j a c _ e _=>by have:=hl a (List.mem_of_getElem? e);rw [this.1];exact .inl rfl⟩
end
end Go.Ab.T
namespace Go.Ab.T
open Go Go.Ab
set_option maxHeartbeats 4000000
theorem Ow {b:Nat} {h:AH} {v:V} {R:List (List V)} {K:V→AH→Prop} (s:Sl b h 2 v R) (k:∀ v',Sl b h 2 v' R→K v' h):Cq tp Np [v] h K:=by
 obtain ⟨len,big,_,_,_,_,_,cell,cells⟩:=Sl.facts (enc:=fun x=>x) (L:=R) (by simpa using s)
 refine Ad Rn (by simp [HL]) fun wf rp=>?_;unfold HL;simp (disch:=omega)only[go_sem, *]
 refine FU s (fun v' s' _=>?_)
 simp (disch:=omega)only[go_sem, *]
theorem Ou {b:Nat} {h:AH} {v:V} {R:List (List V)} {K:V→AH→Prop} (s:Sl b h 6 v R) (k:∀ v',Sl b h 6 v' R→K v' h):Cq tp RU [v] h K:=by
 obtain ⟨len,big,_,_,_,_,_,cell,cells⟩:=Sl.facts (enc:=fun x=>x) (L:=R) (by simpa using s)
 refine Ad jM (by simp [KR]) fun wf rp=>?_;unfold KR;simp (disch:=omega)only[go_sem, *]
 refine FU s (fun v' s' _=>?_)
 simp (disch:=omega)only[go_sem, *]
theorem Ov {b:Nat} {h:AH} {v:V} {R:List (List V)} {K:V→AH→Prop} (s:Sl b h 3 v R) (k:∀ v',Sl b h 3 v' R→K v' h):Cq tp Nr [v] h K:=by
 obtain ⟨len,big,_,_,_,_,_,cell,cells⟩:=Sl.facts (enc:=fun x=>x) (L:=R) (by simpa using s)
 refine Ad Rp (by simp [HN]) fun wf rp=>?_;unfold HN;simp (disch:=omega)only[go_sem, *]
 refine FU s (fun v' s' _=>?_)
 simp (disch:=omega)only[go_sem, *]
@[go_sem] def Part.encO (v:V) (x:Part):List V:=[.s x.name,.i .i64 x.budget,.i .i64 x.period,.b x.sched,.b x.stop,v,.i .i64 x.h0,.i .i64 x.h1,.i .i64 x.h2,.i .i64 x.h3,.i .i64 x.h4]
def Dm (ow:Bool) (v:V):List Part→List (List V)
 | []=>[]
 | p::l=>(if ow=true then p.encO v else p.enc)::l.map Part.enc
def Dn (ow:Bool) (v:V):List (List Node)→List (List V)
 | []=>[]
 | t::l=>[if ow=true then v else .fl 3 (t.map Node.enc)]::l.map Tab.enc
def r1 (ow:Bool):List Part→List (List V)
 | []=>[]
 | p::_=>if ow=true then p.procs.map BL.enc else []
def r2 (ow:Bool):List (List Node)→List (List V)
 | []=>[]
 | t::_=>if ow=true then t.map Node.enc else []
theorem MN {ow:Bool} {v:V} {A:List Part} {p:Part} (h:A≠[]):Dm ow v (A++[p])=Dm ow v A++[p.enc]:=by
 cases A with
 | nil=>exact absurd rfl h
 | cons a l=>simp [Dm]
theorem MO {ow:Bool} {v:V} {A:List (List Node)} {p:List Node} (h:A≠[]):Dn ow v (A++[p])=Dn ow v A++[Tab.enc p]:=by
 cases A with
 | nil=>exact absurd rfl h
 | cons a l=>simp [Dn]
theorem TB {v:V} {A:List Part}:Dm false v A=A.map Part.enc:=by cases A<;>simp [Dm]
theorem TD {v:V} {A:List (List Node)}:Dn false v A=A.map Tab.enc:=by cases A<;>simp [Dn,Tab.enc]
theorem W7 {ow:Bool} {A:List Part} {p:Part} (h:A≠[]):r1 ow (A++[p])=r1 ow A:=by
 cases A with
 | nil=>exact absurd rfl h
 | cons a l=>rfl
theorem W8 {ow:Bool} {A:List (List Node)} {p:List Node} (h:A≠[]):r2 ow (A++[p])=r2 ow A:=by
 cases A with
 | nil=>exact absurd rfl h
 | cons a l=>rfl
def Cn (ow:Bool) (vp vc vt o1 o2:V) (A:List Part) (X:List Bl) (B:List (List Node)):List (Nat×V×List (List V)):=
 [(11,vp,Dm ow o1 A),(6,vc,X.map Bl.enc),(1,vt,Dn ow o2 B),(2,o1,r1 ow A),(3,o2,r2 ow B)]
structure KS (ow:Bool) (C:Av) (h h':AH) (vp vc vt o1 o2:V) (A:List Part) (X:List Bl) (B:List (List Node)):Prop where
 own:B6 (h.next+3) h'.next h' (Cn ow vp vc vt o1 o2 A X B)
 lim:h'.lim=h.lim
 low:∀ i,i<h.next→h'.get i=h.get i
 arg:h'.get h.next=some ⟨3,[C.enc]⟩
 res:h'.get (h.next+1)=some ⟨3,[[.ns,.ns,.ns]]⟩
 box:h'.get (h.next+2)=some ⟨3,[[vp,vc,vt]]⟩
end Go.Ab.T
namespace Go.Ab.T
open Go Go.Ab
set_option maxHeartbeats 4000000
section
variable {ow:Bool} {C:Av} {h h':AH} {vp vc vt o1 o2:V} {A:List Part} {X:List Bl} {B:List (List Node)}
theorem KS.keep {h2:AH} (a:KS ow C h h' vp vc vt o1 o2 A X B) (hn:h'.next≤h2.next) (hl:h2.lim=h'.lim) (g:∀ i,i<h'.next→h2.get i=h'.get i):B6 (h.next+3) h'.next h2 (Cn ow vp vc vt o1 o2 A X B)∧h2.lim=h.lim∧(∀ i,i<h.next→h2.get i=h.get i)∧h2.get h.next=some ⟨3,[C.enc]⟩∧h2.get (h.next+1)=some ⟨3,[[.ns,.ns,.ns]]⟩∧h2.get (h.next+2)=some ⟨3,[[vp,vc,vt]]⟩:=by
 have:=a.own.bq
 exact ⟨a.own.keep hn g,hl.trans a.lim,fun i hi=>(g i (by omega)).trans (a.low i hi),(g _ (by omega)).trans a.arg,(g _ (by omega)).trans a.res,(g _ (by omega)).trans a.box⟩
theorem KS.mk2 {h5 : AH} {q : Nat} {vp' vc' vt' o1' o2' : V} {A' : List Part} {X' : List Bl} {B' : List (List Node)} (o : B6 (h.next + 3) q h5 (Cn ow vp' vc' vt' o1' o2' A' X' B')) (hl : h5.lim = h.lim) (low : ∀ i, i < h.next → h5.get i = h.get i) (arg : h5.get h.next = some ⟨3, [C.enc]⟩) (res : h5.get (h.next + 1) = some ⟨3, [[.ns, .ns, .ns]]⟩) :
    KS ow C h (h5.put (h.next+2) ⟨3,[[vp',vc',vt']]⟩) vp' vc' vt' o1' o2' A' X' B':=by
 have:=o.bq;have:=o.q2
 exact ⟨(o.put _ _ (.inl (by omega))).up (by rw [Ae];omega) (Nat.le_refl _),hl,fun i hi=>by rw [Ah,An (by omega)];exact low i hi,by rw [Ah,An (by omega)];exact arg,by rw [Ah,An (by omega)];exact res,by rw [Ah,AK rfl]⟩
theorem Iy {ow:Bool} {v:V} {A:List Part}:(Dm ow v A).length=A.length:=by cases A<;>simp [Dm]
theorem Iz {ow:Bool} {v:V} {A:List (List Node)}:(Dn ow v A).length=A.length:=by cases A<;>simp [Dn]
theorem Tl {i:Nat} {w:V} {Ps:List Part} (hcase:¬ (ow=true∧i=0)) (hi:i≤Ps.length) (hts:Ps.take (i+1)=Ps.take i++[nth Ps i]) (hc:i<Ps.length):Cn ow w .ns .ns o1 .ns (Ps.take (i+1)) [] []=(Cn ow vp .ns .ns o1 .ns (Ps.take i) [] []).set 0 (11,w,Dm ow o1 (Ps.take i)++[(nth Ps i).enc]):=by
 rw [hts]
 by_cases h0:i=0
 ·have hf:ow=false:=by cases ow with | false=>rfl | true=>exact absurd ⟨rfl,h0⟩ hcase
  subst hf;subst h0
  simp [Cn,Dm,r1]
 ·have hne:Ps.take i≠[]:=by
   intro h;have:(Ps.take i).length=0:=by rw [h];rfl
   rw [List.length_take] at this;omega
  rw [Cn,MN hne,W7 hne];rfl
theorem L7 {K : Ex → Env → AH → Prop} {e : Env} (hlo : h.lim ≤ h.next) (hPl : C.parts.length < 4000000000) (a : KS ow C h h' .ns .ns .ns .ns .ns [] [] [])
    (e1:e 1=.p h.next 0 0) (e2:e 2=.p (h.next+1) 0 0) (e3:e 3=.p (h.next+2) 0 0) (e9:e 9=.fl 11 (C.parts.map Part.enc)) (e10:e 10=.i .i64 C.parts.length) (e11:e 11=.i .i64 0)
    (kk:∀ e' h' vp o1,e' 1=.p h.next 0 0→e' 2=.p (h.next+1) 0 0→e' 3=.p (h.next+2) 0 0→KS ow C h h' vp .ns .ns o1 .ns C.parts [] []→K (.ex 0) e' h'):ZC tp (.loop PU) e h' K:=by
 refine Au (fun n' e hh=>∃ (i:Nat) (vp o1:V),n'=C.parts.length - i∧e 1=.p h.next 0 0∧e 2=.p (h.next+1) 0 0∧e 3=.p (h.next+2) 0 0∧e 9=.fl 11 (C.parts.map Part.enc)∧e 10=.i .i64 C.parts.length∧e 11=.i .i64 i∧i≤C.parts.length∧KS ow C h hh vp .ns .ns o1 .ns (C.parts.take i) [] []) ?_ _ _ _ ⟨0,.ns,.ns,rfl,e1,e2,e3,e9,e10,e11,by omega,a⟩
 clear e1 e2 e3 e9 e10 e11 e a
 rintro n' e hh ⟨i,vp,o1,rfl,e1,e2,e3,e9,e10,e11,hi,a⟩ ih
 have hbq:=a.own.bq
 have hlh:=a.lim
 rw [AA PU.eq_1]
 simp (disch:=omega)only[go_sem, *]
 refine Af (fun hc=>?_) (fun hc=>?_)
 ·have hts:=DH (L:=C.parts) (i:=i) (by omega)
  simp (disch:=omega)only[go_sem, *]
  have x1:Am hh ((hh.alloc ⟨11,[[.s ⟨#[]⟩,.i .i64 0,.i .i64 0,.b false,.b false,.ns,.i .i64 0,.i .i64 0,.i .i64 0,.i .i64 0,.i .i64 0]]⟩).put hh.next ⟨11,[(nth C.parts i).enc]⟩):=by (repeat (first | exact Am.refl _ | refine Am.alloc ?_ _ | (refine Am.put ?_ _ _ ?_;rotate_left;(first | omega | (simp only [Aa,Ae];omega)))))
  have b1:((hh.alloc ⟨11,[[.s ⟨#[]⟩,.i .i64 0,.i .i64 0,.b false,.b false,.ns,.i .i64 0,.i .i64 0,.i .i64 0,.i .i64 0,.i .i64 0]]⟩).put hh.next ⟨11,[(nth C.parts i).enc]⟩).get hh.next=some ⟨11,[(nth C.parts i).enc]⟩:=by rw [Ah,AK rfl]
  have n1:hh.next<((hh.alloc ⟨11,[[.s ⟨#[]⟩,.i .i64 0,.i .i64 0,.b false,.b false,.ns,.i .i64 0,.i .i64 0,.i .i64 0,.i .i64 0,.i .i64 0]]⟩).put hh.next ⟨11,[(nth C.parts i).enc]⟩).next:=Nat.lt_succ_self _
  simp only [Part.enc] at x1 b1 n1
  generalize (hh.alloc ⟨11,[[.s ⟨#[]⟩,.i .i64 0,.i .i64 0,.b false,.b false,.ns,.i .i64 0,.i .i64 0,.i .i64 0,.i .i64 0,.i .i64 0]]⟩).put hh.next ⟨11,[[.s (nth C.parts i).name,.i .i64 (nth C.parts i).budget,.i .i64 (nth C.parts i).period,.b (nth C.parts i).sched,.b (nth C.parts i).stop,.fl 2 ((nth C.parts i).procs.map BL.enc),.i .i64 (nth C.parts i).h0,.i .i64 (nth C.parts i).h1,.i .i64 (nth C.parts i).h2,.i .i64 (nth C.parts i).h3,.i .i64 (nth C.parts i).h4]]⟩=h1 at x1 b1 n1 ⊢
  have hl1:=x1.lim
  by_cases hcase:ow=true∧i=0
  ·obtain ⟨rfl,rfl⟩:=hcase
   refine L4 (by omega) ?_
   intro r h2 s2 x2
   simp (disch:=omega)only[go_sem, *]
   refine Ow s2 ?_
   intro v s3
   have hb2:h2.get hh.next=some ⟨11,[[.s (nth C.parts 0).name,.i .i64 (nth C.parts 0).budget,.i .i64 (nth C.parts 0).period,.b (nth C.parts 0).sched,.b (nth C.parts 0).stop,.fl 2 ((nth C.parts 0).procs.map BL.enc),.i .i64 (nth C.parts 0).h0,.i .i64 (nth C.parts 0).h1,.i .i64 (nth C.parts 0).h2,.i .i64 (nth C.parts 0).h3,.i .i64 (nth C.parts 0).h4]]⟩:=(x2.get _ n1).trans b1
   have n2:=x2.next
   have l2:=x2.lim
   have x3:Am hh (h2.put hh.next ⟨11,[(nth C.parts 0).encO v]⟩):=(x1.trans x2).put _ _ (Nat.le_refl _)
   have b3:(h2.put hh.next ⟨11,[(nth C.parts 0).encO v]⟩).get hh.next=some ⟨11,[(nth C.parts 0).encO v]⟩:=by rw [Ah,AK rfl]
   have s4:Sl hh.next (h2.put hh.next ⟨11,[(nth C.parts 0).encO v]⟩) 2 v ((nth C.parts 0).procs.map BL.enc):=Sl.weak (CA s3 _ _ ((BI s3).imp (fun x=>x) (fun x=>by omega))) (by omega)
   obtain ⟨_,_,_,_,_,_,_,vcell,vcells⟩:=s4.facts
   obtain ⟨o3,lim3,low3,arg3,res3,box3⟩:=a.keep x3.next x3.lim x3.get
   have o3:=o3.new (i:=3) (by simp [Cn]) s4
   have hts2:C.parts.take (0+1)=[nth C.parts 0]:=by rw [hts];simp
   simp only [Part.encO] at x3 b3 o3 lim3 low3 arg3 res3 box3
   simp (disch:=omega)only[go_sem, *]
   clear s2 s3 s4 x1 x2 hl1 b1 n1 hb2
   generalize h2.put hh.next ⟨11,[[.s (nth C.parts 0).name,.i .i64 (nth C.parts 0).budget,.i .i64 (nth C.parts 0).period,.b (nth C.parts 0).sched,.b (nth C.parts 0).stop,v,.i .i64 (nth C.parts 0).h0,.i .i64 (nth C.parts 0).h1,.i .i64 (nth C.parts 0).h2,.i .i64 (nth C.parts 0).h3,.i .i64 (nth C.parts 0).h4]]⟩=h3 at x3 b3 o3 lim3 low3 arg3 res3 box3 ⊢
   have hbq3:=o3.bq
   have hq23:=o3.q2
   refine AQ (N:=[[.s (nth C.parts 0).name,.i .i64 (nth C.parts 0).budget,.i .i64 (nth C.parts 0).period,.b (nth C.parts 0).sched,.b (nth C.parts 0).stop,v,.i .i64 (nth C.parts 0).h0,.i .i64 (nth C.parts 0).h1,.i .i64 (nth C.parts 0).h2,.i .i64 (nth C.parts 0).h3,.i .i64 (nth C.parts 0).h4]]) ((o3.sl 0 _ rfl).alloc _) (by first | omega | (simp (disch:=omega)only[go_sem, *]<;>omega)) (by first | omega | (simp (disch:=omega)only[go_sem, *]<;>omega)) (by have hl:=Iy (ow:=true) (v:=o1) (A:=C.parts.take 0);simp only [List.length_cons,List.length_nil,hl,List.length_take];omega) ?_
   intro w h5 s5 g5
   have x5:=(Am.refl h3).alloc ⟨11,[[.s (nth C.parts 0).name,.i .i64 (nth C.parts 0).budget,.i .i64 (nth C.parts 0).period,.b (nth C.parts 0).sched,.b (nth C.parts 0).stop,v,.i .i64 (nth C.parts 0).h0,.i .i64 (nth C.parts 0).h1,.i .i64 (nth C.parts 0).h2,.i .i64 (nth C.parts 0).h3,.i .i64 (nth C.parts 0).h4]]⟩
   have lo5:=o3.low (i:=0) rfl x5 g5
   have o5:=o3.grow (i:=0) rfl x5 g5 s5
   have hb5:h5.get (h.next+2)=some ⟨3,[[vp,.ns,.ns]]⟩:=(lo5 _ (by omega)).trans box3
   have l5:=g5.lim
   have hc5:=g5.cell
   have hcs5:=g5.cells
   simp only [Bn] at l5
   have k5:KS true C h (h5.put (h.next+2) ⟨3,[[w,.ns,.ns]]⟩) w .ns .ns v .ns (C.parts.take (0+1)) [] []:=KS.mk2 (q:=h5.next) (by
    have e:Cn true w .ns .ns v .ns (C.parts.take (0+1)) [] []=((Cn true vp .ns .ns o1 .ns (C.parts.take 0) [] []).set 3 (2,v,(nth C.parts 0).procs.map BL.enc)).set 0 (11,w,Dm true o1 (C.parts.take 0)++[[.s (nth C.parts 0).name,.i .i64 (nth C.parts 0).budget,.i .i64 (nth C.parts 0).period,.b (nth C.parts 0).sched,.b (nth C.parts 0).stop,v,.i .i64 (nth C.parts 0).h0,.i .i64 (nth C.parts 0).h1,.i .i64 (nth C.parts 0).h2,.i .i64 (nth C.parts 0).h3,.i .i64 (nth C.parts 0).h4]]):=(by rw [hts2];simp [Cn,Dm,r1,Part.encO])
    rw [e];exact o5) (by omega) (fun i hi=>(lo5 i (by omega)).trans (low3 i hi)) ((lo5 _ (by omega)).trans arg3) ((lo5 _ (by omega)).trans res3)
   clear s5 g5 x5 o5 lo5 hts hts2 o3
   simp (disch:=omega)only[go_sem, *]
   refine ih _ _ _ ?_ ⟨0+1,w,v,rfl, ?_⟩
   ·omega
   ·clear ih kk
    simp (disch:=omega)only[go_sem, *]
    ((repeat' refine And.intro ?_ ?_)<;>first | omega | assumption | (exact k5))
  ·obtain ⟨_,_,_,_,_,box1⟩:=a.keep x1.next x1.lim x1.get
   have x3:Am hh (h1.put hh.next ⟨11,[[.s (nth C.parts i).name,.i .i64 (nth C.parts i).budget,.i .i64 (nth C.parts i).period,.b (nth C.parts i).sched,.b (nth C.parts i).stop,.fl 2 ((nth C.parts i).procs.map BL.enc),.i .i64 (nth C.parts i).h0,.i .i64 (nth C.parts i).h1,.i .i64 (nth C.parts i).h2,.i .i64 (nth C.parts i).h3,.i .i64 (nth C.parts i).h4]]⟩):=x1.put _ _ (Nat.le_refl _)
   obtain ⟨o3,lim3,low3,arg3,res3,box3⟩:=a.keep x3.next x3.lim x3.get
   refine Pf.go (IW) (by simp only [go_sem]) fun _=>?_;simp (disch:=omega)only[go_sem, *]
   refine Pf.go (JK) (by simp only [go_sem]) fun _=>?_;simp (disch:=omega)only[go_sem, *]
   clear hl1 b1 box1
   have n3:hh.next<(h1.put hh.next ⟨11,[[.s (nth C.parts i).name,.i .i64 (nth C.parts i).budget,.i .i64 (nth C.parts i).period,.b (nth C.parts i).sched,.b (nth C.parts i).stop,.fl 2 ((nth C.parts i).procs.map BL.enc),.i .i64 (nth C.parts i).h0,.i .i64 (nth C.parts i).h1,.i .i64 (nth C.parts i).h2,.i .i64 (nth C.parts i).h3,.i .i64 (nth C.parts i).h4]]⟩).next:=n1
   generalize h1.put hh.next ⟨11,[[.s (nth C.parts i).name,.i .i64 (nth C.parts i).budget,.i .i64 (nth C.parts i).period,.b (nth C.parts i).sched,.b (nth C.parts i).stop,.fl 2 ((nth C.parts i).procs.map BL.enc),.i .i64 (nth C.parts i).h0,.i .i64 (nth C.parts i).h1,.i .i64 (nth C.parts i).h2,.i .i64 (nth C.parts i).h3,.i .i64 (nth C.parts i).h4]]⟩=h3 at x3 o3 lim3 low3 arg3 res3 box3 n3 ⊢
   clear x1 n1
   have o3:=o3.up (Nat.le_of_lt n3) (Nat.le_refl _)
   have hbq3:=o3.bq
   have hq23:=o3.q2
   refine AQ (N:=[[.s (nth C.parts i).name,.i .i64 (nth C.parts i).budget,.i .i64 (nth C.parts i).period,.b (nth C.parts i).sched,.b (nth C.parts i).stop,.fl 2 ((nth C.parts i).procs.map BL.enc),.i .i64 (nth C.parts i).h0,.i .i64 (nth C.parts i).h1,.i .i64 (nth C.parts i).h2,.i .i64 (nth C.parts i).h3,.i .i64 (nth C.parts i).h4]]) ((o3.sl 0 _ rfl).alloc _) (by first | omega | (simp (disch:=omega)only[go_sem, *]<;>omega)) (by first | omega | (simp (disch:=omega)only[go_sem, *]<;>omega)) (by have hl:=Iy (ow:=ow) (v:=o1) (A:=C.parts.take i);simp only [List.length_cons,List.length_nil,hl,List.length_take];omega) ?_
   intro w h5 s5 g5
   have x5:=(Am.refl h3).alloc ⟨11,[[.s (nth C.parts i).name,.i .i64 (nth C.parts i).budget,.i .i64 (nth C.parts i).period,.b (nth C.parts i).sched,.b (nth C.parts i).stop,.fl 2 ((nth C.parts i).procs.map BL.enc),.i .i64 (nth C.parts i).h0,.i .i64 (nth C.parts i).h1,.i .i64 (nth C.parts i).h2,.i .i64 (nth C.parts i).h3,.i .i64 (nth C.parts i).h4]]⟩
   have lo5:=o3.low (i:=0) rfl x5 g5
   have o5:=o3.grow (i:=0) rfl x5 g5 s5
   have hb5:h5.get (h.next+2)=some ⟨3,[[vp,.ns,.ns]]⟩:=(lo5 _ (by omega)).trans box3
   have l5:=g5.lim
   have hc5:=g5.cell
   have hcs5:=g5.cells
   simp only [Bn] at l5
   have k5:KS ow C h (h5.put (h.next+2) ⟨3,[[w,.ns,.ns]]⟩) w .ns .ns o1 .ns (C.parts.take (i+1)) [] []:=KS.mk2 (q:=h5.next) (by
    have e:Cn ow w .ns .ns o1 .ns (C.parts.take (i+1)) [] []=(Cn ow vp .ns .ns o1 .ns (C.parts.take i) [] []).set 0 (11,w,Dm ow o1 (C.parts.take i)++[[.s (nth C.parts i).name,.i .i64 (nth C.parts i).budget,.i .i64 (nth C.parts i).period,.b (nth C.parts i).sched,.b (nth C.parts i).stop,.fl 2 ((nth C.parts i).procs.map BL.enc),.i .i64 (nth C.parts i).h0,.i .i64 (nth C.parts i).h1,.i .i64 (nth C.parts i).h2,.i .i64 (nth C.parts i).h3,.i .i64 (nth C.parts i).h4]]):=(Tl hcase hi hts (by omega))
    rw [e];exact o5) (by omega) (fun i hi=>(lo5 i (by omega)).trans (low3 i hi)) ((lo5 _ (by omega)).trans arg3) ((lo5 _ (by omega)).trans res3)
   clear s5 g5 x5 o5 lo5 hts o3
   simp (disch:=omega)only[go_sem, *]
   refine ih _ _ _ ?_ ⟨i+1,w,o1,rfl, ?_⟩
   ·omega
   ·clear ih kk
    simp (disch:=omega)only[go_sem, *]
    ((repeat' refine And.intro ?_ ?_)<;>first | omega | assumption | (exact k5))
 ·obtain rfl:i=C.parts.length:=by omega
  rw [List.take_length] at a
  simp (disch:=omega)only[go_sem, *]
  exact kk _ hh vp o1 e1 e2 e3 a
end
end Go.Ab.T
namespace Go.Ab.T
open Go Go.Ab
set_option maxHeartbeats 4000000
section
variable {ow:Bool} {C:Av} {h h':AH} {vp vc vt o1 o2:V} {A:List Part} {X:List Bl} {B:List (List Node)}
theorem Pb {i:Nat} {w:V} {Ts:List (List Node)} (hcase:¬ (ow=true∧i=0)) (hi:i≤Ts.length) (hts:Ts.take (i+1)=Ts.take i++[nth Ts i]) (hc:i<Ts.length):Cn ow vp vc w o1 o2 A X (Ts.take (i+1))=(Cn ow vp vc vt o1 o2 A X (Ts.take i)).set 2 (1,w,Dn ow o2 (Ts.take i)++[Tab.enc (nth Ts i)]):=by
 rw [hts]
 by_cases h0:i=0
 ·have hf:ow=false:=by cases ow with | false=>rfl | true=>exact absurd ⟨rfl,h0⟩ hcase
  subst hf;subst h0
  simp [Cn,Dn,r2,Tab.enc]
 ·have hne:Ts.take i≠[]:=by
   intro h;have:(Ts.take i).length=0:=by rw [h];rfl
   rw [List.length_take] at this;omega
  rw [Cn,MO hne,W8 hne];rfl
theorem OB {K : Ex → Env → AH → Prop} {e : Env} (hlo : h.lim ≤ h.next) (hPl : C.tables.length < 4000000000) (a : KS ow C h h' vp vc .ns o1 .ns A X [])
    (e2:e 2=.p (h.next+1) 0 0) (e3:e 3=.p (h.next+2) 0 0) (e33:e 33=.fl 1 (C.tables.map Tab.enc)) (e34:e 34=.i .i64 C.tables.length) (e35:e 35=.i .i64 0)
    (kk:∀ e' h' vt o2,e' 2=.p (h.next+1) 0 0→e' 3=.p (h.next+2) 0 0→KS ow C h h' vp vc vt o1 o2 A X C.tables→K (.ex 2) e' h'):ZC tp (.loop LO) e h' K:=by
 refine Au (fun n' e hh=>∃ (i:Nat) (vt o2:V),n'=C.tables.length - i∧e 2=.p (h.next+1) 0 0∧e 3=.p (h.next+2) 0 0∧e 33=.fl 1 (C.tables.map Tab.enc)∧e 34=.i .i64 C.tables.length∧e 35=.i .i64 i∧i≤C.tables.length∧KS ow C h hh vp vc vt o1 o2 A X (C.tables.take i)) ?_ _ _ _ ⟨0,.ns,.ns,rfl,e2,e3,e33,e34,e35,by omega,a⟩
 clear e2 e3 e33 e34 e35 e a
 rintro n' e hh ⟨i,vt,o2,rfl,e2,e3,e33,e34,e35,hi,a⟩ ih
 have hbq:=a.own.bq
 have hlq:hh.lim≤h.next:=by rw [a.lim];exact hlo
 have hbx:=a.box
 rw [AA LO.eq_1]
 simp (disch:=omega)only[go_sem, *]
 refine Af (fun hc=>?_) (fun hc=>?_)
 ·have hts:=DH (L:=C.tables) (i:=i) (by omega)
  simp (disch:=omega)only[go_sem, *]
  by_cases hcase:ow=true∧i=0
  ·obtain ⟨rfl,rfl⟩:=hcase
   refine L3 (by rw [Is,Hr];exact Nat.le_refl _) ?_
   intro r h2 s2 x2
   have x3:Am hh (h2.back hh.lim):=⟨x2.next,rfl,x2.get⟩
   have s3:Sl hh.next (h2.back hh.lim) 3 r ((nth C.tables 0).map Node.enc):=s2
   simp (disch:=omega)only[go_sem, *]
   generalize h2.back hh.lim=h3 at x3 s3 ⊢
   clear s2 x2
   have hrb:h3.raise.back hh.lim=h3:=by rw [← x3.lim];exact E7
   refine Ov s3.raise ?_
   intro v s4
   have s4:Sl hh.next h3 3 v ((nth C.tables 0).map Node.enc):=s4
   obtain ⟨_,_,_,_,_,_,_,vcell,vcells⟩:=s4.facts
   obtain ⟨o3,lim3,low3,arg3,res3,box3⟩:=a.keep x3.next x3.lim x3.get
   have o3:=o3.new (i:=4) (by simp [Cn]) s4
   have hts2:C.tables.take (0+1)=[nth C.tables 0]:=by rw [hts];simp
   simp (disch:=omega)only[go_sem, *]
   have hbq3:=o3.bq
   have hq23:=o3.q2
   refine AQ (N:=[[v]]) ((o3.sl 2 _ rfl).alloc _) (by first | omega | (simp (disch:=omega)only[go_sem, *]<;>omega)) (by first | omega | (simp (disch:=omega)only[go_sem, *]<;>omega)) (by have hl:=Iz (ow:=true) (v:=o2) (A:=C.tables.take 0);simp only [List.length_cons,List.length_nil,hl,List.length_take];omega) ?_
   intro w h5 s5 g5
   have x5:=(Am.refl h3).alloc ⟨1,[[v]]⟩
   have lo5:=o3.low (i:=2) rfl x5 g5
   have o5:=o3.grow (i:=2) rfl x5 g5 s5
   have hb5:h5.get (h.next+2)=some ⟨3,[[vp,vc,vt]]⟩:=(lo5 _ (by omega)).trans box3
   have l5:=g5.lim
   have hc5:=g5.cell
   have hcs5:=g5.cells
   simp only [Bn] at l5
   have k5:KS true C h (h5.put (h.next+2) ⟨3,[[vp,vc,w]]⟩) vp vc w o1 v A X (C.tables.take (0+1)):=KS.mk2 (q:=h5.next) (by
    have e:Cn true vp vc w o1 v A X (C.tables.take (0+1))=((Cn true vp vc vt o1 o2 A X (C.tables.take 0)).set 4 (3,v,(nth C.tables 0).map Node.enc)).set 2 (1,w,Dn true o2 (C.tables.take 0)++[[v]]):=(by rw [hts2];simp [Cn,Dn,r2])
    rw [e];exact o5) (by omega) (fun i hi=>(lo5 i (by omega)).trans (low3 i hi)) ((lo5 _ (by omega)).trans arg3) ((lo5 _ (by omega)).trans res3)
   have lq5:h5.lim≤h.next:=by omega
   clear s5 g5 x5 o5 lo5 hts l5 hts2 o3
   simp (disch:=omega)only[go_sem, *]
   refine ih _ _ _ ?_ ⟨0+1,w,v,rfl, ?_⟩
   ·omega
   ·clear ih kk
    simp (disch:=omega)only[go_sem, *]
    ((repeat' refine And.intro ?_ ?_)<;>first | omega | assumption | (exact k5))
  ·refine Pf.go (Fm) (by simp only [go_sem]) fun _=>?_;simp (disch:=omega)only[go_sem, *]
   refine Pf.go (JJ) (by simp only [go_sem]) fun _=>?_;simp (disch:=omega)only[go_sem, *]
   obtain ⟨o3,lim3,low3,arg3,res3,box3⟩:=a.keep (h2:=hh) (Nat.le_refl _) rfl (fun _ _=>rfl)
   generalize hh=h3 at *
   have hbq3:=o3.bq
   have hq23:=o3.q2
   refine AQ (N:=[[.fl 3 ((nth C.tables i).map Node.enc)]]) ((o3.sl 2 _ rfl).alloc _) (by first | omega | (simp (disch:=omega)only[go_sem, *]<;>omega)) (by first | omega | (simp (disch:=omega)only[go_sem, *]<;>omega)) (by have hl:=Iz (ow:=ow) (v:=o2) (A:=C.tables.take i);simp only [List.length_cons,List.length_nil,hl,List.length_take];omega) ?_
   intro w h5 s5 g5
   have x5:=(Am.refl h3).alloc ⟨1,[[.fl 3 ((nth C.tables i).map Node.enc)]]⟩
   have lo5:=o3.low (i:=2) rfl x5 g5
   have o5:=o3.grow (i:=2) rfl x5 g5 s5
   have hb5:h5.get (h.next+2)=some ⟨3,[[vp,vc,vt]]⟩:=(lo5 _ (by omega)).trans box3
   have l5:=g5.lim
   have hc5:=g5.cell
   have hcs5:=g5.cells
   simp only [Bn] at l5
   have k5:KS ow C h (h5.put (h.next+2) ⟨3,[[vp,vc,w]]⟩) vp vc w o1 o2 A X (C.tables.take (i+1)):=KS.mk2 (q:=h5.next) (by
    have e:Cn ow vp vc w o1 o2 A X (C.tables.take (i+1))=(Cn ow vp vc vt o1 o2 A X (C.tables.take i)).set 2 (1,w,Dn ow o2 (C.tables.take i)++[[.fl 3 ((nth C.tables i).map Node.enc)]]):=(Pb hcase hi hts (by omega))
    rw [e];exact o5) (by omega) (fun i hi=>(lo5 i (by omega)).trans (low3 i hi)) ((lo5 _ (by omega)).trans arg3) ((lo5 _ (by omega)).trans res3)
   have lq5:h5.lim≤h.next:=by omega
   clear s5 g5 x5 o5 lo5 hts l5 o3
   simp (disch:=omega)only[go_sem, *]
   refine ih _ _ _ ?_ ⟨i+1,w,o2,rfl, ?_⟩
   ·omega
   ·clear ih kk
    simp (disch:=omega)only[go_sem, *]
    ((repeat' refine And.intro ?_ ?_)<;>first | omega | assumption | (exact k5))
 ·obtain rfl:i=C.tables.length:=by omega
  rw [List.take_length] at a
  simp (disch:=omega)only[go_sem, *]
  exact kk _ hh vt o2 e2 e3 a
end
end Go.Ab.T
namespace Go.Ab.T
open Go Go.Ab
set_option maxHeartbeats 4000000
theorem Jo {b sz:Nat} {h:AH} {v:V} {R:List (List V)} (s:Sl b h sz v R):v.isCell=true∧v.cells=[v]:=by
 rcases s with ⟨hv,_⟩ | ⟨_,_,_,_,rfl,_⟩
 ·rcases hv with rfl | rfl<;>exact ⟨rfl,rfl⟩
 ·exact ⟨rfl,rfl⟩
theorem OA {ow : Bool} {C : Av} {h : AH} {K : V → AH → Prop} (hlo : h.lim ≤ h.next) (hPl : C.parts.length < 4000000000) (hTl : C.tables.length < 4000000000)
    (kk:∀ vp vc vt o1 o2 h2,B6 (h.next+3) h2.next h2 (Cn ow vp vc vt o1 o2 C.parts C.chans C.tables)→h2.lim=h.lim→(∀ i,i<h.next→h2.get i=h.get i)→K (.agg [vp,vc,vt]) h2):
    ZC tp HK.body (DS [.agg C.enc]) h (fun x e h2=>GG HK.res x e h2 K):=by
 unfold HK
 simp (disch:=omega)only[go_sem, *]
 have x0:Am h (((h.alloc ⟨3,[C.enc]⟩).alloc ⟨3,[[.ns,.ns,.ns]]⟩).alloc ⟨3,[[.ns,.ns,.ns]]⟩):=by (repeat (first | exact Am.refl _ | refine Am.alloc ?_ _ | (refine Am.put ?_ _ _ ?_;rotate_left;(first | omega | (simp only [Aa,Ae];omega)))))
 have k0:KS ow C h (((h.alloc ⟨3,[C.enc]⟩).alloc ⟨3,[[.ns,.ns,.ns]]⟩).alloc ⟨3,[[.ns,.ns,.ns]]⟩) .ns .ns .ns .ns .ns [] [] []:=by
  refine ⟨B6.nil (by simp only [Aa];omega) (fun a ha=>?_),rfl,x0.get,by simp (disch:=omega)only[go_sem, *],by simp (disch:=omega)only[go_sem, *],by simp (disch:=omega)only[go_sem, *]⟩
  simp only [Cn,List.mem_cons,List.not_mem_nil,or_false] at ha
  rcases ha with rfl | rfl | rfl | rfl | rfl<;>simp [Dm,Dn,r1,r2]
 simp only [Av.enc] at k0
 refine L7 hlo hPl k0 (by simp (disch:=omega)only[go_sem, *]) (by simp (disch:=omega)only[go_sem, *]) (by simp (disch:=omega)only[go_sem, *]) (by simp (disch:=omega)only[go_sem, *]) (by simp (disch:=omega)only[go_sem, *]) (by simp (disch:=omega)only[go_sem, *]) ?_
 clear k0 x0
 intro e h1 vp o1 e1 e2 e3 a
 have harg:=a.arg
 have hbq:=a.own.bq
 simp only [Av.enc] at harg
 simp (disch:=omega)only[go_sem, *]
 have hl1:=a.lim
 refine L2 (by omega) ?_
 intro r h2 s2 x2
 have hn2:=x2.next
 simp (disch:=omega)only[go_sem, *]
 refine Ou s2 ?_
 intro v s3
 obtain ⟨_,_,_,_,_,_,_,vcell,vcells⟩:=s3.facts
 obtain ⟨o3,lim3,low3,arg3,res3,box3⟩:=a.keep x2.next x2.lim x2.get
 have o3:=o3.new (i:=1) (by simp [Cn]) s3
 have e4:(Cn ow vp .ns .ns o1 .ns C.parts [] []).set 1 (6,v,C.chans.map Bl.enc)=Cn ow vp v .ns o1 .ns C.parts C.chans []:=rfl
 rw [e4] at o3
 have a3:=KS.mk2 (ow:=ow) (C:=C) o3 lim3 low3 arg3 res3
 have harg3:=arg3
 have hl2:=x2.lim
 simp only [Av.enc] at harg3
 clear e4 s2 s3 o3 low3 res3 arg3 harg a
 simp (disch:=omega)only[go_sem, *]
 refine OB hlo hTl a3 (by simp (disch:=omega)only[go_sem, *]) (by simp (disch:=omega)only[go_sem, *]) (by simp (disch:=omega)only[go_sem, *]) (by simp (disch:=omega)only[go_sem, *]) (by simp (disch:=omega)only[go_sem, *]) ?_
 clear e1 e2 e3 a3 harg3 box3 hn2 lim3 hl1 hl2 x2 hbq
 intro e h1 vt o2 e2 e3 a
 have hbox:=a.box
 have hres:=a.res
 have hbq:=a.own.bq
 have hlq:h1.lim≤h.next:=by rw [a.lim];exact hlo
 have f:=kk vp v vt o1 o2 (h1.put (h.next+1) ⟨3,[[vp,v,vt]]⟩) (a.own.put _ _ (.inl (by omega))) a.lim (fun i hi=>by rw [Ah,An (by omega)];exact a.low i hi)
 obtain ⟨c1,c2⟩:=Jo (a.own.sl 0 (11,vp,_) rfl)
 obtain ⟨c3,c4⟩:=Jo (a.own.sl 1 (6,v,_) rfl)
 obtain ⟨c5,c6⟩:=Jo (a.own.sl 2 (1,vt,_) rfl)
 dsimp only at c1 c2 c3 c4 c5 c6
 clear kk
 simp (disch:=omega)only[go_sem, *]
theorem VZ {C:Av}:Pf tp RF [.agg C.enc] (.agg C.enc):=by
 refine AN iW (by simp [HK]) fun rp=>?_
 have hcl:=GE.len (rp.head.agg (.fl 6 (C.chans.map Bl.enc)) (by simp [Av.enc]))
 have hpl:=GE.len (rp.head.agg (.fl 11 (C.parts.map Part.enc)) (by simp [Av.enc]))
 have htl:=GE.len (rp.head.agg (.fl 1 (C.tables.map Tab.enc)) (by simp [Av.enc]))
 refine OA (ow:=false) (Nat.zero_le _) hpl htl ?_
 intro vp vc vt o1 o2 h2 o hl low
 have s0:=o.sl 0 _ rfl
 have s1:=o.sl 1 _ rfl
 have s2:=o.sl 2 _ rfl
 simp only [TB,TD] at s0 s1 s2
 exact .agg _ _ _ (.cons _ _ _ _ _ (s0.froze (fun _=>rfl) trivial hpl) (.cons _ _ _ _ _ (s1.froze (fun _=>rfl) trivial hcl) (.cons _ _ _ _ _ (s2.froze (fun _=>rfl) trivial htl) (.nil _))))
end Go.Ab.T
namespace Go.Ab.T
open Go Go.Ab
set_option maxHeartbeats 4000000
/-! Instructions. -/
structure Fg where
 op:Int
 a:Int
 b:Int
 c:Int
 deriving DecidableEq,Inhabited
@[go_sem] def Fg.enc (x:Fg):List V:=[.i .i64 x.op,.i .i64 x.a,.i .i64 x.b,.i .i64 x.c]
def Cj (op:Int):Bool×Bool×Bool:=if op=1∨op=9∨op=10∨op=13∨op=14∨op=15 then (true,false,false) else if op=2∨op=3∨op=4∨op=5 then (true,true,true) else if op=6∨op=7 then (true,true,false) else if op=11∨op=12 then (false,true,false) else (false,false,false)
theorem SL {op:Int}:Pf tp RY [.i .i64 op] (.tup [.b (Cj op).1,.b (Cj op).2.1,.b (Cj op).2.2]):=by
 refine AN jT (by simp [KY]) fun rp=>?_;unfold KY;simp (disch:=omega)only[go_sem, *]
 repeat' (first | (refine AD (fun hc=>?_) (fun hc=>?_)<;>simp (disch:=omega)only[go_sem, *]) | (refine Af (fun hc=>?_) (fun hc=>?_)<;>simp (disch:=omega)only[go_sem, *]))
 all_goals (unfold Cj;simp [*])
def Cw (n:Int) (r:Bool):Bool:=decide (0≤n∧n≤255)&&(!r||decide (n<8))
theorem F3 {n:Int} {r:Bool}:Pf tp RZ [.i .i64 n,.b r] (.b (Cw n r)):=by
 cases r
 ·refine AN Rr (by simp [HP]) fun rp=>?_;unfold HP;simp (disch:=omega)only[go_sem, *]
  repeat' (first | (refine AD (fun hc=>?_) (fun hc=>?_)<;>simp (disch:=omega)only[go_sem, *]) | (refine Af (fun hc=>?_) (fun hc=>?_)<;>simp (disch:=omega)only[go_sem, *]))
  all_goals (unfold Cw;simp;omega)
 ·refine AN Rr (by simp [HP]) fun rp=>?_;unfold HP;simp (disch:=omega)only[go_sem, *]
  repeat' (first | (refine AD (fun hc=>?_) (fun hc=>?_)<;>simp (disch:=omega)only[go_sem, *]) | (refine Af (fun hc=>?_) (fun hc=>?_)<;>simp (disch:=omega)only[go_sem, *]))
  all_goals (unfold Cw;simp [*];try omega)
def E8 (i:Fg):Bool:=decide (0≤i.op∧i.op≤17)&&(Cw i.a (Cj i.op).1&&(Cw i.b (Cj i.op).2.1&&Cw i.c (Cj i.op).2.2))
theorem OO {i:Fg}:Pf tp RM [.agg i.enc] (.b (E8 i)):=by
 have t1:=SL (op:=i.op)
 have t2:=F3 (n:=i.a) (r:=(Cj i.op).1)
 have t3:=F3 (n:=i.b) (r:=(Cj i.op).2.1)
 have t4:=F3 (n:=i.c) (r:=(Cj i.op).2.2)
 have e:E8 i=(decide (0≤i.op∧i.op≤17)&&(Cw i.a (Cj i.op).1&&(Cw i.b (Cj i.op).2.1&&Cw i.c (Cj i.op).2.2))):=rfl
 simp only [Fg.enc]
 generalize (Cj i.op).1=a at *
 generalize (Cj i.op).2.1=b at *
 generalize (Cj i.op).2.2=c at *
 generalize Cw i.a a=x at *
 generalize Cw i.b b=y at *
 generalize Cw i.c c=z at *
 refine AN jE (by simp [KJ]) fun rp=>?_;unfold KJ;simp (disch:=omega)only[go_sem, *]
 refine Pf.go (t1) (by simp only [go_sem]) fun _=>?_;simp (disch:=omega)only[go_sem, *]
 clear t1
 repeat' (first | (refine AD (fun hc=>?_) (fun hc=>?_)<;>simp (disch:=omega)only[go_sem, *]) | (refine Af (fun hc=>?_) (fun hc=>?_)<;>simp (disch:=omega)only[go_sem, *]) | (refine D6 (fun hc=>?_) (fun hc=>?_)<;>simp (disch:=omega)only[go_sem, *]) | (refine BS (fun hc=>?_) (fun hc=>?_)<;>simp (disch:=omega)only[go_sem, *]) | (refine Pf.go (t2) (by simp only [go_sem]) fun _=>?_;simp (disch:=omega)only[go_sem, *]) | (refine Pf.go (t3) (by simp only [go_sem]) fun _=>?_;simp (disch:=omega)only[go_sem, *]) | (refine Pf.go (t4) (by simp only [go_sem]) fun _=>?_;simp (disch:=omega)only[go_sem, *]))
 all_goals (clear t2 t3 t4;simp_all)
def BC (P:List Int) (pc:Int):Fg×Bool:=if pc<0∨pc.tmod 4≠0∨(P.length:Int) - 4<pc then (⟨0,0,0,0⟩,false) else (⟨nth P pc.toNat,nth P (pc.toNat+1),nth P (pc.toNat+2),nth P (pc.toNat+3)⟩,true)
theorem OM {P:List Int} {pc:Int} (hB:∀ z∈P,0≤z∧z<256):Pf tp RL [.fl 1 (P.map DR),.i .i64 pc] (.tup [.agg (BC P pc).1.enc,.b (BC P pc).2]):=by
 have bad:pc<0∨pc.tmod 4≠0∨(P.length:Int) - 4<pc→BC P pc=(⟨0,0,0,0⟩,false):=fun h=>if_pos h
 refine AN jD (by simp [KI]) fun rp=>?_
 have hL:=rp.head.len
 unfold KI
 simp (disch:=omega)only[go_sem, *]
 refine AD (fun hc=>?_) (fun hc=>?_)
 ·have e:=bad (.inl hc)
  clear bad
  simp (disch:=omega)only[go_sem, *]
 ·simp (disch:=omega)only[go_sem, *]
  refine AD (fun hc2=>?_) (fun hc2=>?_)
  ·have e:=bad (.inr (.inl hc2))
   clear bad
   simp (disch:=omega)only[go_sem, *]
  ·simp (disch:=omega)only[go_sem, *]
   refine Af (fun hc3=>?_) (fun hc3=>?_)
   ·have e:=bad (.inr (.inr hc3))
    clear bad
    simp (disch:=omega)only[go_sem, *]
   ·obtain ⟨k,rfl⟩:∃ k:Nat,pc=k:=⟨pc.toNat,by omega⟩
    have e:BC P k=(⟨nth P k,nth P (k+1),nth P (k+2),nth P (k+3)⟩,true):=by
     unfold BC
     rw [if_neg (by omega)]
     rfl
    clear bad hc2
    have b0:=hB _ (AR (L:=P) (j:=k) (by omega))
    have b1:=hB _ (AR (L:=P) (j:=k+1) (by omega))
    have b2:=hB _ (AR (L:=P) (j:=k+2) (by omega))
    have b3:=hB _ (AR (L:=P) (j:=k+3) (by omega))
    have k1:((k:Int)+1).toNat=k+1:=by omega
    have k2:((k:Int)+2).toNat=k+2:=by omega
    have k3:((k:Int)+3).toNat=k+3:=by omega
    simp (disch:=omega)only[go_sem, *]
def ON (x:Fg):Int:=256*x.b+x.c
def Fg.ok (x:Fg):Prop:=(0≤x.a∧x.a≤255)∧(0≤x.b∧x.b≤255)∧(0≤x.c∧x.c≤255)
theorem w32 {n:Int} (h0:0≤n) (h1:n<4294967296):IntKind.wrap .u32 n=n:=by
 unfold IntKind.wrap;simp [IntKind.bits,IntKind.signed];omega
theorem Mr {x:Fg} (h:x.ok):Pf tp R0 [.agg x.enc] (.i .u32 (ON x)):=by
 obtain ⟨_,⟨b0,b1⟩,⟨c0,c1⟩⟩:=h
 have e1:IntKind.wrap .u32 x.b=x.b:=w32 (by omega) (by omega)
 have e2:IntKind.wrap .u32 x.c=x.c:=w32 (by omega) (by omega)
 have e3:IntKind.wrap .u32 (x.b*256)=x.b*256:=w32 (by omega) (by omega)
 have e4:IntKind.wrap .u32 (x.b*256+x.c)=ON x:=by rw [w32 (by omega) (by omega)];unfold ON;omega
 simp only [Fg.enc]
 refine AN jU (by simp [KZ]) fun rp=>?_;unfold KZ;simp (disch:=omega)only[go_sem, *]
end Go.Ab.T
namespace Go.Ab.T
open Go Go.Ab
set_option maxHeartbeats 4000000
theorem Na {tp : TP} {f : Nat} {args args' : List V} {h h2 : AH} {K : V → AH → Prop} (P : Nat → Prop) (hn : h2.next = h.next) (hl : h2.lim = h.lim)
    (hb:Wf h→∀ i k,h2.get i=some k→i<h2.next∧¬ P i∧∃ cs,h.get i=some ⟨k.sz,cs⟩∧B1 P h h2.next cs k.cs) (hz:BO P h h2.next args args') (z:Cq tp f args' h2 K):Cq tp f args h K:=by
 intro S m hc args1 c p
 have wf:=c.wf
 have st:∀ r R,CW P h h2.next r R→DK h h r P R h2:=fun r R f=>⟨Nat.le_of_eq hn.symm,hl,Nat.le_of_eq hn,hb wf,f⟩
 obtain ⟨q1,q2,_⟩:=(st .u .u (.z _ _ .u)).ok c c (Ea.refl c) (.u _ .u)
 have hz2:=BO.ok c hz p
 refine (z _ m hc args1 q1 hz2).imp ?_
 rintro r1 hc' ⟨r,h',S',m',c',a',q,k⟩
 exact ⟨r,h',S',m',c',q2.trans a',q,k⟩
def kP:Part:=⟨⟨#[97]⟩,0,0,false,false,[⟨0,0⟩],0,0,0,0,0⟩
theorem Ws:EO kP.name=true:=by unfold EO;decide
theorem aEu:EM 1 [⟨1,0,1⟩]:=by
 refine EM.of (by omega) ?_ (Fh.one (by simp) (by simp))
 have e:([⟨1,0,1⟩]:List Node)=(Fo.leaf ⟨1,0,1⟩ .nil).flat:=rfl
 have hr:A9 [⟨1,0,1⟩]=0:=by
  rw [e]
  exact ML ⟨rfl,trivial⟩ rfl (by simp [Fo.depth]) (by simp [Fo.len]) (by simp [Fo.flat])
 rw [Hs hr]
 obtain ⟨_,ho,hc1,hL,hd,hl⟩:=GN hr
 have hap:=Fo.runs_allpos _ ho
 have hsum:=Fo.runs_sum _ ho
 have hrl:=Fo.runs_len _ ho
 have ht:=MZ hap (by omega)
 have:(EY [⟨1,0,1⟩]).len=1:=by
  have m1:=(CD ho hc1).2
  have m2:=(CD (f:=Fo.leaf ⟨1,0,1⟩ .nil) ⟨rfl,trivial⟩ rfl).2
  rw [← hL] at m1
  rw [← e] at m2
  rw [m1] at m2
  have l2:(Fo.leaf ⟨1,0,1⟩ .nil).len=1:=rfl
  rw [l2] at m2
  omega
 rw [if_neg (by unfold mR;have:=ht.len;omega)]
theorem SU:CB ⟨[],[],[]⟩=(3,0):=if_pos (by decide)
theorem A8 {P:Nat→Prop} {h:AH} {n id sz:Nat} {r r':List V} (hP:P id) (hg:h.get id=some ⟨sz,[r]⟩) (q:BO P h 0 r r'):CW P h n (.sl id 0 1 1) (.fl sz [r']):=
 .sl _ _ _ _ _ _ [r] _ hP hg (by simp) (by omega) (by decide) (.cons _ _ _ _ _ q (.nil _))
end Go.Ab.T
namespace Go.Ab.T
open Go Go.Ab
set_option maxHeartbeats 4000000
/-! Processes. -/
structure PR where
 prio:Int
 wake:Int
 ended:Bool
 deriving DecidableEq,Inhabited
@[go_sem] def PR.enc (x:PR):List V:=[.i .i64 x.prio,.i .i64 x.wake,.b x.ended]
@[go_sem] def Dc (n:Nat):List V:=[.i .i64 (n:Int)]
structure Wr (h:AH) (I:Nat→Prop) (h':AH):Prop where
 next:h.next≤h'.next
 lim:h'.lim=h.lim
 get:∀ i,i<h.next→¬ I i→h'.get i=h.get i
section
variable {h h1 h2:AH} {I J:Nat→Prop}
theorem Wr.refl:Wr h I h:=⟨Nat.le_refl _,rfl,fun _ _ _=>rfl⟩
theorem Wr.trans (a:Wr h I h1) (b:Wr h1 J h2) (s:∀ i,i<h.next→J i→I i):Wr h I h2:=
 ⟨Nat.le_trans a.next b.next,b.lim.trans a.lim,fun i hi hn=>(b.get i (Nat.lt_of_lt_of_le hi a.next) (fun q=>hn (s i hi q))).trans (a.get i hi hn)⟩
theorem Wr.put {k:Bo} {j:Nat} (a:Wr h I h1) (hj:h.next≤j∨I j):Wr h I (h1.put j k):=
 ⟨a.next,a.lim,fun i hi hn=>by rw [Ah,An (fun e=>by subst e;exact hj.elim (fun q=>by omega) hn)];exact a.get i hi hn⟩
theorem Wr.alloc {k:Bo} (a:Wr h I h1):Wr h I (h1.alloc k):=
 ⟨Nat.le_succ_of_le a.next,a.lim,fun i hi hn=>by have:=a.next;rw [A0,An (by omega)];exact a.get i hi hn⟩
theorem Wr.ext (a:Wr h I h1) (x:Am h1 h2):Wr h I h2:=⟨Nat.le_trans a.next x.next,x.lim.trans a.lim,fun i hi hn=>by rw [x.get i (Nat.lt_of_lt_of_le hi a.next)];exact a.get i hi hn⟩
theorem Wr.grown {b:Nat} {v w:V} (a:Wr h I h1) (g:Grown b h1 v w h2) (hv:AI v=true∨I (Aq v)∨h.next≤Aq v):Wr h I h2:=
 ⟨Nat.le_trans a.next g.next,g.lim.trans a.lim,fun i hi hn=>by
  rw [g.get i (Nat.lt_of_lt_of_le hi a.next) (hv.imp (fun x=>x) (fun x e=>by subst e;exact x.elim hn (fun q=>by omega)))];exact a.get i hi hn⟩
end
@[go_sem] theorem aER {k:IntKind} {n:Int}:plain (.i k n)=true:=Ag rfl
theorem S8 {a:Int}:Pf tp Mo [.i .i64 a] (.b false):=by
 refine AN Wc (by simp [HJ]) fun rp=>?_;unfold HJ;simp (disch:=omega)only[go_sem, *]
def G7 (a b:Int):Int:=if a<b then -1 else if b<a then 1 else 0
theorem Ha {a b:Int}:Pf tp Mn [.i .i64 a,.i .i64 b] (.i .i64 (G7 a b)):=by
 have e1:a<b→G7 a b = -1:=fun h=>if_pos h
 have e2:¬ a<b→b<a→G7 a b=1:=fun h h2=>by unfold G7;rw [if_neg h,if_pos h2]
 have e3:¬ a<b→¬ b<a→G7 a b=0:=fun h h2=>by unfold G7;rw [if_neg h,if_neg h2]
 refine AN Wa (by simp [HI]) fun rp=>?_;unfold HI;simp (disch:=omega)only[go_sem, *]
 refine Pf.go (S8) (by simp only [go_sem]) fun _=>?_;simp (disch:=omega)only[go_sem, *]
 refine Pf.go (S8) (by simp only [go_sem]) fun _=>?_;simp (disch:=omega)only[go_sem, *]
 refine Af (fun hc=>?_) (fun hc=>?_)
 ·have e:=e1 hc
  simp (disch:=omega)only[go_sem, *]
 ·simp (disch:=omega)only[go_sem, *]
  refine Af (fun hc2=>?_) (fun hc2=>?_)
  ·have e:=e2 hc hc2
   simp (disch:=omega)only[go_sem, *]
  ·have e:=e3 hc hc2
   simp (disch:=omega)only[go_sem, *]
theorem iJ {a b:Int}:Pf tp Mm [.fl 1 ([a,b].map iO)] (.i .i64 (if a=0 then b else a)):=by
 have c2:((2:Nat):Int)=2:=rfl
 refine AN V9 (by simp [HH]) fun rp=>?_;unfold HH;simp (disch:=omega)only[go_sem, *]
 refine Br ?_
 rw [AA IQ.eq_1]
 simp (disch:=omega)only[go_sem, *]
 refine Af (fun hc=>?_) (fun hc=>?_)
 ·have e:(if a=0 then b else a)=a:=if_neg hc
  simp (disch:=omega)only[go_sem, *]
 ·have e:(if a=0 then b else a)=b:=if_pos (Classical.not_not.1 hc)
  clear hc
  simp (disch:=omega)only[go_sem, *]
  refine Br ?_
  rw [AA IQ.eq_1]
  simp (disch:=omega)only[go_sem, *]
  refine Af (fun hc2=>?_) (fun hc2=>?_)
  ·simp (disch:=omega)only[go_sem, *]
  ·have e2:b=0:=Classical.not_not.1 hc2
   clear hc2
   subst e2
   simp (disch:=omega)only[go_sem, *]
   refine Br ?_
   rw [AA IQ.eq_1]
   simp (disch:=omega)only[go_sem, *]
def Ir (P:List PR) (a c:Nat):Bool:=decide ((if G7 (nth P a).prio (nth P c).prio=0 then G7 a c else G7 (nth P a).prio (nth P c).prio)<0)
theorem NM {b b2 rb i j:Nat} {h:AH} {lv w:V} {P:List PR} {R:List Nat} {K:V→AH→Prop} (hr:h.get rb=some ⟨2,[[lv,w]]⟩) (sl:Sl b h 1 lv (R.map Dc)) (sw:Sl b2 h 3 w (P.map PR.enc)) (hi:i<R.length) (hj:j<R.length) (hR:∀ x∈R,x<P.length) (kk:K (.b (Ir P (nth R i) (nth R j))) h):Cq tp NG [.p rb 0 0,.i .i64 i,.i .i64 j] h K:=by
 have ri:=hR _ (AR hi)
 have rj:=hR _ (AR hj)
 obtain ⟨_,_,lt1,_,get1,at1,row1,_,_⟩:=sl.facts
 obtain ⟨_,_,lt2,_,get2,at2,row2,_,_⟩:=sw.facts
 have g1:=get1 (by omega)
 have g2:=get2 (by omega)
 have a1:=at1 .i64 i (AU h lv) (by omega) (by omega)
 have a2:=at1 .i64 j (AU h lv) (by omega) (by omega)
 have a3:=at2 .i64 ((nth R i:Nat):Int) (AU h w) (by omega) (by omega)
 have a4:=at2 .i64 ((nth R j:Nat):Int) (AU h w) (by omega) (by omega)
 have r1:=row1 i hi
 have r2:=row1 j hj
 have r3:=row2 (nth R i) ri
 have r4:=row2 (nth R j) rj
 simp only [Dc,PR.enc] at r1 r2 r3 r4
 simp only [Int.toNat_natCast] at a1 a2 a3 a4
 clear lt1 lt2 get1 get2 at1 at2 row1 row2 sl sw hR
 unfold Ir at kk
 refine GL lP (by simp [LI]) (kk) fun hlm rp=>?_;unfold LI;simp (disch:=omega)only[go_sem, *]
 refine Pf.go (Ha) (by simp only [go_sem]) fun _=>?_;simp (disch:=omega)only[go_sem, *]
 refine Pf.go (Ha) (by simp only [go_sem]) fun _=>?_;simp (disch:=omega)only[go_sem, *]
 clear r1 r2 r3 r4 a1 a2 a3 a4 g1 g2
 generalize G7 (nth P (nth R i)).prio (nth P (nth R j)).prio=x at *
 generalize G7 ((nth R i:Nat):Int) ((nth R j:Nat):Int)=y at *
 refine Pf.look (iJ (a:=x) (b:=y)) (.cons _ _ _ _ _ (Sl.froze (Sl.raise (Sl.new (b:=0) (N:=[x,y].map iO) (Nat.zero_le _) (by simp))) (fun _=>rfl) trivial (by simp)) (.nil _)) rfl fun _=>?_
 simp (disch:=omega)only[go_sem, *]
 (repeat (first | exact Am.refl _ | refine Am.alloc ?_ _ | (refine Am.put ?_ _ _ ?_;rotate_left;(first | omega | (simp only [Aa,Ae];omega)))))
def DF (R:List Nat) (i j:Nat):List Nat:=(R.set i (nth R j)).set j (nth R i)
theorem Fr {h:AH} {v:V} {sz:Nat} {cs:List (List V)}:AU (h.put (Aq v) ⟨sz,cs⟩) v=cs:=by
 unfold AU;rw [Ah,AK rfl]
theorem Jq {b rb i j : Nat} {h : AH} {lv w : V} {R : List Nat} {K : V → AH → Prop} (hr : h.get rb = some ⟨2, [[lv, w]]⟩) (sl : Sl b h 1 lv (R.map Dc)) (hi : i < R.length) (hj : j < R.length) (hb : h.lim ≤ b) (hne : Aq lv ≠ rb)
    (kk:∀ h',Wr h (·=Aq lv) h'→Sl b h' 1 lv ((DF R i j).map Dc)→K (.tup []) h'):Cq tp J4 [.p rb 0 0,.i .i64 i,.i .i64 j] h K:=by
 obtain ⟨_,_,lt1,lo1,get1,at1,row1,_,_⟩:=sl.facts
 have g0:=lt1 (by omega)
 have g1:=get1 (by omega)
 have g2:=lo1 (by omega)
 have s1:=Sl.setT (x:=nth R j) (h':=h.put (Aq lv) ⟨1,(AU h lv).set (CU lv+i) (Dc (nth R j))⟩) sl hi (Nat.le_refl _) (by rw [Ah,AK rfl])
 have s2:=Sl.setT (j:=j) (x:=nth R i) (h':=(h.put (Aq lv) ⟨1,(AU h lv).set (CU lv+i) (Dc (nth R j))⟩).put (Aq lv) ⟨1,((AU h lv).set (CU lv+i) (Dc (nth R j))).set (CU lv+j) (Dc (nth R i))⟩) s1 (by simpa using hj) (Nat.le_refl _) (by rw [Ah,AK rfl,Fr])
 obtain ⟨_,_,_,_,_,at2,row2,_,_⟩:=s1.facts
 have a1:=at1 .i64 i (AU h lv) (by omega) (by omega)
 have a2:=at1 .i64 j (AU h lv) (by omega) (by omega)
 have a3:=at1 .i64 j ((AU h lv).set (CU lv+i) (Dc (nth R j))) (by omega) (by omega)
 have r1:=row1 i hi
 have r2:=row1 j hj
 have r3:=row2 j (by simpa using hj)
 rw [Fr] at r3
 have w0:Wr h (·=Aq lv) ((h.put (Aq lv) ⟨1,(AU h lv).set (CU lv+i) (Dc (nth R j))⟩).put (Aq lv) ⟨1,((AU h lv).set (CU lv+i) (Dc (nth R j))).set (CU lv+j) (Dc (nth R i))⟩):=((Wr.refl (I:=(·=Aq lv))).put (.inr rfl)).put (.inr rfl)
 have f:=kk _ w0 s2
 simp only [Dc] at r1 r2 r3 a3 f
 simp only [Int.toNat_natCast] at a1 a2 a3
 clear lt1 lo1 get1 at1 row1 at2 row2 kk w0 s1 s2
 refine Ad lS (by simp [LL]) fun wf rp=>?_;unfold LL;simp (disch:=omega)only[go_sem, *]
 simpa only [Ji] using f
theorem Jk {b rb:Nat} {h:AH} {lv w:V} {R:List Nat} {K:V→AH→Prop} (hr:h.get rb=some ⟨2,[[lv,w]]⟩) (sl:Sl b h 1 lv (R.map Dc)) (kk:K (.i .i64 R.length) h):Cq tp J0 [.p rb 0 0] h K:=by
 obtain ⟨len,_⟩:=sl.facts
 refine Ad jR (by simp [KW]) fun wf rp=>?_;unfold KW;simp (disch:=omega)only[go_sem, *]
theorem TI {b rb x : Nat} {h : AH} {lv w : V} {R : List Nat} {K : V → AH → Prop} (hr : h.get rb = some ⟨2, [[lv, w]]⟩) (sl : Sl b h 1 lv (R.map Dc)) (hb : h.lim ≤ b) (hbr : b ≤ rb) (hrn : rb < h.next) (hR : R.length < 4) (hne : AI lv = true ∨ Aq lv ≠ rb)
    (kk:∀ h' v,Wr h (fun i=>i=rb∨(AI lv=false∧i=Aq lv)) h'→h'.get rb=some ⟨2,[[v,w]]⟩→Sl b h' 1 v ((R++[x]).map Dc)→Aq v≠rb→K (.tup []) h'):Cq tp J3 [.p rb 0 0,.ifc 3 (.i .i64 x)] h K:=by
 have hsv:=Sl.sameV sl
 refine Ad lR (by simp [LK]) fun wf rp=>?_;unfold LK;simp (disch:=omega)only[go_sem, *]
 refine AQ (N:=[Dc x]) (sl.alloc ⟨1,[Dc x]⟩) ?_ ?_ ?_ ?_
 ·simp (disch:=omega)only[go_sem, *]
 ·simp (disch:=omega)only[go_sem, *]<;>omega
 ·simp;omega
 intro v h4 s4 g4
 have n4:=g4.next
 rw [Aa] at n4
 have hnv:=BI s4
 have s5:Sl b h4 1 v ((R++[x]).map Dc):=by simpa using s4
 have hg:h4.get rb=some ⟨2,[[lv,w]]⟩:=by
  rw [g4.get rb (by rw [Aa];omega) (hne.imp (fun x=>x) (fun x e=>x e.symm)),A0,An (by omega)];exact hr
 have hd:Aq v≠rb:=by
  rcases g4.own with q | ⟨q,e⟩ | q
  ·rcases s5 with ⟨_,z⟩ | ⟨_,_,_,_,rfl,_⟩
   ·simp at z
   ·cases q
  ·rw [e];exact hne.resolve_left (by rw [q];decide)
  ·rw [Aa] at q;omega
 have wr:Wr h (fun i=>i=rb∨(AI lv=false∧i=Aq lv)) h4:=(Wr.refl.alloc).grown g4 (by
  cases hq:AI lv with
  | true=>exact .inl rfl
  | false=>exact .inr (.inl (.inr ⟨rfl,rfl⟩)))
 have f:=kk (h4.put rb ⟨2,[[v,w]]⟩) v (wr.put (.inr (.inl rfl))) (by rw [Ah,AK rfl]) (CA s5 _ _ (.inr (fun e=>hd e.symm))) hd
 have l4:=g4.lim
 have c1:=g4.cell
 have c2:=g4.cells
 rw [Bn] at l4
 clear kk g4 s4 s5 wr
 simp (disch:=omega)only[go_sem, *]
theorem Xf {b rb n : Nat} {h : AH} {lv w : V} {R : List Nat} {K : V → AH → Prop} (hr : h.get rb = some ⟨2, [[lv, w]]⟩) (sl : Sl b h 1 lv (R.map Dc)) (hb : h.lim ≤ rb) (hn : R.length = n + 1)
    (kk:∀ h',Wr h (·=rb) h'→K (.ifc 3 (.i .i64 ((nth R n:Nat):Int))) h'):Cq tp J2 [.p rb 0 0] h K:=by
 obtain ⟨len,_,lt1,_,get1,at1,row1,c1,c2⟩:=sl.facts
 have g1:=get1 (by omega)
 have a1:=at1 .i64 n (AU h lv) (by omega) (by omega)
 have r1:=row1 n (by omega)
 simp only [Dc] at r1
 rw [hn] at len
 have ec:((n+1:Nat):Int) - 1=n:=by omega
 have p1:=Sl.pre sl (k:=.i64) (j:=n) (cs:=AU h lv) (by omega) (by simp;omega)
 have c3:=Ee (n:=n) c2
 simp only [Int.toNat_natCast] at p1
 have f:=fun k=>kk (h.put rb k) ((Wr.refl (I:=(·=rb))).put (.inr rfl))
 clear kk get1 at1 row1 lt1
 refine Ad lQ (by simp [LJ]) fun wf rp=>?_;unfold LJ;simp (disch:=omega)only[go_sem, *]
end Go.Ab.T
namespace Go.Ab.T
open Go Go.Ab
set_option maxHeartbeats 4000000
structure RB (b:Nat) (h:AH) (rb:Nat) (lv w:V) (P:List PR) (R:List Nat):Prop where
 r:h.get rb=some ⟨2,[[lv,w]]⟩
 sl:Sl b h 1 lv (R.map Dc)
 sw:Sl 0 h 3 w (P.map PR.enc)
 lim:h.lim≤b
 br:b≤rb
 rn:rb<h.next
 ne:AI lv=true∨Aq lv≠rb
 nw:AI w=true∨Aq w<b
 hR:∀ x∈R,x<P.length
def Uh (P:List PR) (R:List Nat) (j:Nat):List Nat:=if j=0 then R else if Ir P (nth R j) (nth R 0)=true then DF R 0 j else R
section
variable {b rb:Nat} {h h':AH} {lv w:V} {P:List PR} {R R':List Nat} {K:V→AH→Prop}
theorem RB.own (q:RB b h rb lv w P R) (hl:0<R.length):b≤Aq lv∧Aq lv≠rb:=by
 have hn:AI lv=false:=by
  rcases q.sl with ⟨_,z⟩ | ⟨_,_,_,_,rfl,_⟩
  ·rw [List.map_eq_nil_iff.1 z] at hl;cases hl
  ·rfl
 exact ⟨(BI q.sl).resolve_left (by rw [hn];decide),q.ne.resolve_left (by rw [hn];decide)⟩
theorem RB.re (q:RB b h rb lv w P R) (a:Wr h (·=Aq lv) h') (hl:0<R.length) (s:Sl b h' 1 lv (R'.map Dc)) (hR:∀ x∈R',x<P.length):RB b h' rb lv w P R':=by
 have o:=q.own hl
 refine ⟨(a.get _ q.rn (fun e=>o.2 e.symm)).trans q.r,s, ?_,by rw [a.lim];exact q.lim,q.br,Nat.lt_of_lt_of_le q.rn a.next,.inr o.2,q.nw,hR⟩
 rcases q.nw with z | z
 ·rcases q.sw with x | ⟨_,_,_,_,rfl,_⟩
  ·exact .inl x
  ·cases z
 ·exact q.sw.same a.next (fun hq=>a.get _ hq (by show Aq w≠Aq lv;omega))
theorem FK {i j:Nat} (hi:i<R.length) (hj:j<R.length) {n:Nat} (hR:∀ x∈R,x<n):∀ x∈DF R i j,x<n:=fun x hx=>by
 unfold DF at hx
 rcases List.mem_or_eq_of_mem_set hx with hx | rfl
 ·rcases List.mem_or_eq_of_mem_set hx with hx | rfl
  ·exact hR _ hx
  ·exact hR _ (AR hj)
 ·exact hR _ (AR hi)
theorem lU {j:Nat} (q:RB b h rb lv w P R) (hj:j<R.length) (hj2:j≤2) (kk:∀ h',Wr h (·=Aq lv) h'→RB b h' rb lv w P (Uh P R j)→K (.tup []) h'):Cq tp NC [.ifc 149 (.p rb 0 0),.i .i64 j] h K:=by
 have o:=q.own (by omega)
 by_cases h0:j=0
 ·subst h0
  have e:Uh P R 0=R:=rfl
  rw [e] at kk
  have f:=kk h Wr.refl q
  have d:IntKind.wrap .i64 ((-1:Int).tdiv 2)=0:=by decide
  clear kk q
  refine Ad Rt (by simp [HQ]) fun wf rp=>?_;unfold HQ;simp (disch:=omega)only[go_sem, *]
  refine Br ?_
  rw [AA Nc.eq_1]
  simp (disch:=omega)only[go_sem, *]
 ·have d:IntKind.wrap .i64 (((j:Int) - 1).tdiv 2)=0:=by
   have:j=1∨j=2:=by omega
   rcases this with rfl | rfl<;>decide
  have d2:IntKind.wrap .i64 ((-1:Int).tdiv 2)=0:=by decide
  have hz:(0:Nat)<R.length:=by omega
  have el:Uh P R j=if Ir P (nth R j) (nth R 0)=true then DF R 0 j else R:=if_neg h0
  rw [el] at kk
  clear el
  refine Ad Rt (by simp [HQ]) fun wf rp=>?_;unfold HQ;simp (disch:=omega)only[go_sem, *]
  refine Br ?_
  rw [AA Nc.eq_1]
  simp (disch:=omega)only[go_sem, *]
  refine AD (fun hc=>absurd hc (by omega)) (fun _=>?_)
  simp (disch:=omega)only[go_sem, *]
  refine NM (j:=0) q.r q.sl q.sw hj hz q.hR ?_
  by_cases hq:Ir P (nth R j) (nth R 0)=true
  ·rw [if_pos hq] at kk
   simp (disch:=omega)only[go_sem, *]
   refine Jq (i:=0) q.r q.sl hz hj q.lim o.2 ?_
   intro h1 a s1
   have f:=kk h1 a (q.re a hz s1 (FK hz hj q.hR))
   clear kk
   simp (disch:=omega)only[go_sem, *]
   refine Br ?_
   rw [AA Nc.eq_1]
   simp (disch:=omega)only[go_sem, *]
  ·rw [if_neg hq] at kk
   have f:=kk h Wr.refl q
   clear kk
   simp (disch:=omega)only[go_sem, *]
theorem oD {j:Nat}:(Uh P R j).length=R.length:=by
 unfold Uh DF;split
 ·rfl
 ·split
  ·simp
  ·rfl
theorem RC {x:Nat} (q:RB b h rb lv w P R) (hl:R.length≤2) (hx:x<P.length) (kk:∀ h' v,Wr h (b≤·) h'→RB b h' rb v w P (Uh P (R++[x]) R.length)→K (.tup []) h'):Cq tp Nu [.ifc 149 (.p rb 0 0),.ifc 3 (.i .i64 x)] h K:=by
 have hb:=q.br
 have hn:=q.rn
 refine Ad jQ (by simp [KV]) fun wf rp=>?_;unfold KV;simp (disch:=omega)only[go_sem, *]
 refine TI (x:=x) q.r q.sl q.lim q.br q.rn (by omega) q.ne ?_
 intro h1 v a1 r1 s1 d1
 have q1:RB b h1 rb v w P (R++[x]):=by
  have hown:=BI q.sl
  refine ⟨r1,s1, ?_,by rw [a1.lim];exact q.lim,hb,Nat.lt_of_lt_of_le hn a1.next,.inr d1,q.nw,fun y hy=>?_⟩
  ·rcases q.nw with z | z
   ·rcases q.sw with x | ⟨_,_,_,_,rfl,_⟩
    ·exact .inl x
    ·cases z
   ·exact q.sw.same a1.next (fun hq=>a1.get _ hq (fun e=>by
     rcases e with e | ⟨e1,e2⟩
     ·omega
     ·have:=hown.resolve_left (by rw [e1];decide);omega))
  ·rcases List.mem_append.1 hy with z | z
   ·exact q.hR y z
   ·rw [List.mem_singleton.1 z];exact hx
 have w1:Wr h (b≤·) h1:=⟨a1.next,a1.lim,fun i hi hn=>a1.get i hi (fun e=>by
  rcases e with e | ⟨e1,e2⟩
  ·exact hn (by rw [e];exact hb)
  ·have:=(BI q.sl).resolve_left (by rw [e1];decide);exact hn (by rw [e2];exact this))⟩
 have el:((R++[x]).length:Int) - 1=R.length:=by simp
 have ll:(R++[x]).length=R.length+1:=by simp
 clear s1 r1 a1 d1
 simp (disch:=omega)only[go_sem, *]
 refine Jk q1.r q1.sl ?_
 simp (disch:=omega)only[go_sem, *]
 refine lU (j:=R.length) q1 (by omega) (by omega) ?_
 intro h2 a2 q2
 have o:=q1.own (by omega)
 have f:=kk h2 v (w1.trans a2 (fun i hi e=>by rw [e];exact o.1)) q2
 clear kk
 simp (disch:=omega)only[go_sem, *]
theorem Rz {n:Nat} (q:RB b h rb lv w P R) (hn:n<R.length) (hn2:n≤2) (kk:∀ h' R' (r:Bool),Wr h (·=Aq lv) h'→RB b h' rb lv w P R'→R'.length=R.length→nth R' n=nth R n→K (.b r) h'):Cq tp ND [.ifc 149 (.p rb 0 0),.i .i64 0,.i .i64 n] h K:=by
 have o:=q.own (by omega)
 have hz:(0:Nat)<R.length:=by omega
 have c1:((1:Nat):Int)=1:=rfl
 have c2:((2:Nat):Int)=2:=rfl
 have m0:(2:Int)*0=0:=rfl
 have m1:(2:Int)*1=2:=rfl
 have hnn:n=0∨n=1∨n=2:=by omega
 have f0:=fun r=>kk h R r Wr.refl q rfl rfl
 rcases hnn with rfl | rfl | rfl
 ·clear kk
  refine Ad Mh (by simp [FM]) fun wf rp=>?_;unfold FM;simp (disch:=omega)only[go_sem, *]
  refine Br ?_
  rw [AA GY.eq_1]
  simp (disch:=omega)only[go_sem, *]
 ·clear kk
  refine Ad Mh (by simp [FM]) fun wf rp=>?_;unfold FM;simp (disch:=omega)only[go_sem, *]
  refine Br ?_
  rw [AA GY.eq_1]
  simp (disch:=omega)only[go_sem, *]
 ·have h1:(1:Nat)<R.length:=by omega
  refine Ad Mh (by simp [FM]) fun wf rp=>?_;unfold FM;simp (disch:=omega)only[go_sem, *]
  refine Br ?_
  rw [AA GY.eq_1]
  simp (disch:=omega)only[go_sem, *]
  refine NM (i:=1) (j:=0) q.r q.sl q.sw h1 hz q.hR ?_
  cases Ir P (nth R 1) (nth R 0) with
  | false=>
   clear kk
   simp (disch:=omega)only[go_sem, *]
  | true=>
   simp (disch:=omega)only[go_sem, *]
   refine Jq (i:=0) (j:=1) q.r q.sl hz h1 q.lim o.2 ?_
   intro h2 a s2
   have f:=fun r=>kk h2 (DF R 0 1) r a (q.re a hz s2 (FK hz h1 q.hR)) (by simp [DF]) (by
    unfold DF nth;rw [List.getD_eq_getElem?_getD,List.getElem?_set_ne (by decide),List.getElem?_set_ne (by decide),List.getD_eq_getElem?_getD])
   clear kk
   simp (disch:=omega)only[go_sem, *]
   refine Br ?_
   rw [AA GY.eq_1]
   simp (disch:=omega)only[go_sem, *]
theorem Pw {n:Nat} (hn:R.length=n+1):nth (DF R 0 n) n=nth R 0:=by
 unfold DF
 rw [Dv (by simp;omega),List.getElem_set_self]
theorem Wi {n:Nat} (q:RB b h rb lv w P R) (hn:R.length=n+1) (hn2:n≤2) (kk:∀ h',Wr h (b≤·) h'→K (.ifc 3 (.i .i64 ((nth R 0:Nat):Int))) h'):Cq tp Nv [.ifc 149 (.p rb 0 0)] h K:=by
 have o:=q.own (by omega)
 have ec:((n+1:Nat):Int) - 1=n:=by omega
 have hz:(0:Nat)<R.length:=by omega
 have hb:=q.br
 have hlm:=q.lim
 refine Ad jS (by simp [KX]) fun wf rp=>?_;unfold KX;simp (disch:=omega)only[go_sem, *]
 refine Jk q.r q.sl ?_
 simp (disch:=omega)only[go_sem, *]
 refine Jq (i:=0) (j:=n) q.r q.sl hz (by omega) q.lim o.2 ?_
 intro h1 a1 s1
 have q1:=q.re a1 hz s1 (FK hz (by omega) q.hR)
 have hl1:(DF R 0 n).length=n+1:=by simp [DF,hn]
 have e1:=Pw hn
 clear s1
 simp (disch:=omega)only[go_sem, *]
 refine Rz (n:=n) q1 (by omega) hn2 ?_
 intro h2 R2 r a2 q2 hl2 e2
 have hl3:R2.length=n+1:=hl2.trans hl1
 have l2:h2.lim≤rb:=by rw [a2.lim,a1.lim];omega
 simp (disch:=omega)only[go_sem, *]
 refine Xf (n:=n) q2.r q2.sl l2 hl3 ?_
 intro h3 a3
 have w1:Wr h (b≤·) h1:=⟨a1.next,a1.lim,fun i hi hn=>a1.get i hi (fun e=>hn (by rw [e];exact o.1))⟩
 have w2:=w1.trans a2 (fun i _ e=>by rw [e];exact o.1)
 have f:=kk h3 (w2.trans a3 (fun i _ e=>by rw [e];exact hb))
 rw [← e1,←e2] at f
 clear kk e1 e2
 simp (disch:=omega)only[go_sem, *]
end
def Cy (P:List PR) (now:Int):List PR→Nat→List Nat→List Nat
 | [],_,R=>R
 | x::l,i,R=>Cy P now l (i+1) (if x.ended=false∧x.wake≤now then Uh P (R++[i]) R.length else R)
def FD (P:List PR) (now:Int):Int:=if (Cy P now P 0 []).length=0 then -1 else ((nth (Cy P now P 0 []) 0:Nat):Int)
theorem RB.ext {b rb:Nat} {h h':AH} {lv w:V} {P:List PR} {R:List Nat} (q:RB b h rb lv w P R) (x:Am h h'):RB b h' rb lv w P R:=
 ⟨(x.get _ q.rn).trans q.r,q.sl.ext x,q.sw.ext x,by rw [x.lim];exact q.lim,q.br,Nat.lt_of_lt_of_le q.rn x.next,q.ne,q.nw,q.hR⟩
theorem Rj {h h1 h2:AH} (x:Am h h1) (a:Wr h1 (h.next≤·) h2):Am h h2:=
 ⟨Nat.le_trans x.next a.next,a.lim.trans x.lim,fun i hi=>(a.get i (Nat.lt_of_lt_of_le hi x.next) (by omega)).trans (x.get i hi)⟩
theorem nE {K : Ex → Env → AH → Prop} {e : Env} {h h' : AH} {w lv : V} {P : List PR} {now : Int} (hP : P.length ≤ 3) (x : Am h h') (q : RB h.next h' h.next lv w P []) (e1 : e 1 = .i .i64 now) (e5 : e 5 = .p h.next 0 0) (e17 : e 17 = w) (e18 : e 18 = .i .i64 P.length) (e19 : e 19 = .i .i64 0)
    (kk:∀ (e:Env) (h':AH) (lv:V),Am h h'→RB h.next h' h.next lv w P (Cy P now P 0 [])→(Cy P now P 0 []).length≤3→e 5=.p h.next 0 0→K (.ex 0) e h'):ZC tp (.loop PW) e h' K:=by
 refine Au (fun n' e hh=>∃ (i:Nat) (lv:V) (R:List Nat),n'=P.length - i∧Am h hh∧RB h.next hh h.next lv w P R∧e 1=.i .i64 now∧e 5=.p h.next 0 0∧e 17=w∧e 18=.i .i64 P.length∧e 19=.i .i64 i∧i≤P.length∧R.length≤i∧Cy P now (P.drop i) i R=Cy P now P 0 []) ?_ _ _ _ ⟨0,lv,[],rfl,x,q,e1,e5,e17,e18,e19,by omega,by simp,rfl⟩
 clear x q e1 e5 e17 e18 e19 e h'
 rintro n' e hh ⟨i,lv,R,rfl,x,q,e1,e5,e17,e18,e19,hi,hl,hz⟩ ih
 obtain ⟨_,_,_,_,wget,PM,wrow,_,_⟩:=q.sw.facts
 have hlm:=q.lim
 rw [AA PW.eq_1]
 simp (disch:=omega)only[go_sem, *]
 refine Af (fun hc=>?_) (fun hc=>?_)
 ·have hp:i<P.length:=by omega
  have g1:=wget (by omega)
  have a1:=PM .i64 i (AU hh w) (by omega) (by omega)
  have r1:=wrow i hp
  have hxn:=x.next
  have hll:hh.lim≤hh.next:=by omega
  simp only [PR.enc] at r1
  simp only [Int.toNat_natCast] at a1
  rw [AX hp,Cy] at hz
  clear wget PM wrow
  obtain ⟨en,he⟩:∃ en,(nth P i).ended=en:=⟨_,rfl⟩
  obtain ⟨wk,hw⟩:∃ wk,(nth P i).wake=wk:=⟨_,rfl⟩
  rw [he,hw] at hz r1
  have X1:Am hh ((hh.alloc ⟨3,[[.i .i64 0,.i .i64 0,.b false]]⟩).put hh.next ⟨3,[[.i .i64 (nth P i).prio,.i .i64 wk,.b en]]⟩):=by (repeat (first | exact Am.refl _ | refine Am.alloc ?_ _ | (refine Am.put ?_ _ _ ?_;rotate_left;(first | omega | (simp only [Aa,Ae];omega)))))
  have q1:=q.ext X1
  have x1:=x.trans X1
  clear x q X1 he hw
  cases en with
  | true=>
   rw [if_neg (by simp)] at hz
   simp (disch:=omega)only[go_sem, *]
   refine ih _ _ _ ?_ ⟨i+1,lv,R,rfl,x1,q1, ?_⟩
   ·omega
   ·clear ih kk x1 q1
    simp (disch:=omega)only[go_sem, *]
    ((repeat' refine And.intro ?_ ?_)<;>first | omega | assumption | (exact hz))
  | false=>
   simp (disch:=omega)only[go_sem, *]
   refine Af (fun hc2=>?_) (fun hc2=>?_)
   ·rw [if_pos ⟨rfl,hc2⟩] at hz
    simp (disch:=omega)only[go_sem, *]
    refine RC (x:=i) q1 (by omega) hp ?_
    intro h3 v a3 q3
    have x3:=Rj x1 a3
    clear x1 q1 a3
    simp (disch:=omega)only[go_sem, *]
    refine ih _ _ _ ?_ ⟨i+1,v,Uh P (R++[i]) R.length,rfl,x3,q3, ?_⟩
    ·omega
    ·have hlu:(Uh P (R++[i]) R.length).length≤i+1:=by rw [oD];simp;omega
     clear ih kk x3 q3
     simp (disch:=omega)only[go_sem, *]
     ((repeat' refine And.intro ?_ ?_)<;>first | omega | assumption | (exact hz) | (exact hlu))
   ·rw [if_neg (fun e=>hc2 e.2)] at hz
    simp (disch:=omega)only[go_sem, *]
    refine ih _ _ _ ?_ ⟨i+1,lv,R,rfl,x1,q1, ?_⟩
    ·omega
    ·clear ih kk x1 q1
     simp (disch:=omega)only[go_sem, *]
     ((repeat' refine And.intro ?_ ?_)<;>first | omega | assumption | (exact hz))
 ·obtain rfl:i=P.length:=by omega
  rw [List.drop_length,Cy] at hz
  rw [← hz] at kk
  simp (disch:=omega)only[go_sem, *]
  exact kk _ _ lv x q (by omega) e5
theorem W0 {b tb:Nat} {h:AH} {w:V} {P:List PR} {now:Int} {K:V→AH→Prop} (ht:h.get tb=some ⟨1,[[w]]⟩) (htn:tb<h.next) (sw:Sl b h 3 w (P.map PR.enc)) (hP:P.length≤3) (kk:K (.i .i64 (FD P now)) h):Cq tp RK [.p tb 0 0,.i .i64 now] h K:=by
 obtain ⟨wlen,_,_,_,_,_,_,c1,c2⟩:=sw.facts
 have hsw:=Er sw
 have sw0:Sl 0 h 3 w (P.map PR.enc):=Sl.weak sw (Nat.zero_le _)
 refine GL jC (by simp [KH]) (kk) fun hlm rp=>?_;unfold KH;simp (disch:=omega)only[go_sem, *]
 refine nE (h:=h) (lv:=.ns) (w:=w) (P:=P) (now:=now) hP ?_ ⟨?_,Sl.nil _ _ _,sw0.ext ?_, ?_,Nat.le_refl _, ?_,.inl rfl,hsw,fun x hx=>by cases hx⟩ ?_ ?_ ?_ ?_ ?_ ?_
 any_goals (simp (disch:=omega)only[go_sem, *];done)
 any_goals (repeat (first | exact Am.refl _ | refine Am.alloc ?_ _ | (refine Am.put ?_ _ _ ?_;rotate_left;(first | omega | (simp only [Aa,Ae];omega)))))
 ·exact Nat.lt_succ_self _
 intro e h2 lv x q hl e5
 simp (disch:=omega)only[go_sem, *]
 refine Jk q.r q.sl ?_
 unfold FD
 generalize Cy P now P 0 []=R at *
 simp (disch:=omega)only[go_sem, *]
 refine Af (fun hc=>?_) (fun hc=>?_)
 ·rw [if_pos (by omega)]
  simp (disch:=omega)only[go_sem, *]
 ·rw [if_neg (by omega)]
  simp (disch:=omega)only[go_sem, *]
  refine Wi (n:=R.length - 1) q (by omega) (by omega) ?_
  intro h3 a3
  simp (disch:=omega)only[go_sem, *]
  exact Rj x a3
end Go.Ab.T
namespace Go.Ab.T
open Go Go.Ab
set_option maxHeartbeats 4000000
section
variable {b tb:Nat} {h:AH} {w:V} {P:List PR} {K:V→AH→Prop}
theorem Jt {i:Int} (ht:h.get tb=some ⟨1,[[w]]⟩) (sw:Sl b h 3 w (P.map PR.enc)) (kk:K (.b (decide (0≤i∧i<P.length))) h):Cq tp Sc [.p tb 0 0,.i .i64 i] h K:=by
 obtain ⟨wlen,_⟩:=sw.facts
 refine Ad kI (by simp [Lc]) fun wf rp=>?_;unfold Lc;simp (disch:=omega)only[go_sem, *]
 refine AD (fun hc=>?_) (fun hc=>?_)
 ·have e:decide (0≤i∧i<(P.length:Int))=decide (i<(P.length:Int)):=by simp [hc]
  rw [e] at kk
  simp (disch:=omega)only[go_sem, *]
 ·have e:decide (0≤i∧i<(P.length:Int))=false:=by simp [hc]
  rw [e] at kk
  simp (disch:=omega)only[go_sem, *]
theorem TV {i : Nat} {u : Int} (ht : h.get tb = some ⟨1, [[w]]⟩) (sw : Sl b h 3 w (P.map PR.enc)) (hi : i < P.length) (hb : h.lim ≤ b) (hd : Aq w ≠ tb)
    (kk:∀ h',Wr h (·=Aq w) h'→Sl b h' 3 w ((P.set i { nth P i with wake:=u }).map PR.enc)→K (.b true) h'):Cq tp Ny [.p tb 0 0,.i .i64 i,.i .i64 u] h K:=by
 obtain ⟨_,_,lt1,lo1,get1,at1,row1,_,_⟩:=sw.facts
 have g0:=lt1 (by omega)
 have g1:=get1 (by omega)
 have g2:=lo1 (by omega)
 have s1:=Sl.setT (x:={ nth P i with wake:=u }) (h':=h.put (Aq w) ⟨3,(AU h w).set (CU w+i) (PR.enc { nth P i with wake:=u })⟩) sw hi (Nat.le_refl _) (by rw [Ah,AK rfl])
 have ht1:(h.put (Aq w) ⟨3,(AU h w).set (CU w+i) (PR.enc { nth P i with wake:=u })⟩).get tb=some ⟨1,[[w]]⟩:=by rw [Ah,An (fun e=>hd e.symm)];exact ht
 have f:=kk _ (Wr.put (Wr.refl (I:=(·=Aq w))) (.inr rfl)) s1
 have a1:=at1 .i64 i (AU h w) (by omega) (by omega)
 have r1:=row1 i hi
 have el:decide (0≤(i:Int)∧(i:Int)<P.length)=true:=by simp;omega
 simp only [PR.enc] at r1 f ht1
 simp only [Int.toNat_natCast] at a1
 clear lt1 lo1 get1 at1 row1 kk
 refine Ad jV (by simp [K0]) fun wf rp=>?_;unfold K0;simp (disch:=omega)only[go_sem, *]
 refine Jt ht sw ?_
 rw [el]
 simp (disch:=omega)only[go_sem, *]
 simp only [PR.enc] at s1
 refine Jt (i:=i) ht1 s1 ?_
 rw [List.length_set,el]
 simp (disch:=omega)only[go_sem, *]
theorem WY {i : Nat} (ht : h.get tb = some ⟨1, [[w]]⟩) (sw : Sl b h 3 w (P.map PR.enc)) (hi : i < P.length) (hb : h.lim ≤ b) (hd : Aq w ≠ tb)
    (kk:∀ h',Wr h (·=Aq w) h'→Sl b h' 3 w ((P.set i { nth P i with ended:=true }).map PR.enc)→K (.b true) h'):Cq tp Nz [.p tb 0 0,.i .i64 i] h K:=by
 obtain ⟨_,_,lt1,lo1,get1,at1,row1,_,_⟩:=sw.facts
 have g0:=lt1 (by omega)
 have g1:=get1 (by omega)
 have g2:=lo1 (by omega)
 have s1:=Sl.setT (x:={ nth P i with ended:=true }) (h':=h.put (Aq w) ⟨3,(AU h w).set (CU w+i) (PR.enc { nth P i with ended:=true })⟩) sw hi (Nat.le_refl _) (by rw [Ah,AK rfl])
 have ht1:(h.put (Aq w) ⟨3,(AU h w).set (CU w+i) (PR.enc { nth P i with ended:=true })⟩).get tb=some ⟨1,[[w]]⟩:=by rw [Ah,An (fun e=>hd e.symm)];exact ht
 have f:=kk _ (Wr.put (Wr.refl (I:=(·=Aq w))) (.inr rfl)) s1
 have a1:=at1 .i64 i (AU h w) (by omega) (by omega)
 have r1:=row1 i hi
 have el:decide (0≤(i:Int)∧(i:Int)<P.length)=true:=by simp;omega
 simp only [PR.enc] at r1 f ht1
 simp only [Int.toNat_natCast] at a1
 clear lt1 lo1 get1 at1 row1 kk
 refine Ad jW (by simp [K1]) fun wf rp=>?_;unfold K1;simp (disch:=omega)only[go_sem, *]
 refine Jt ht sw ?_
 rw [el]
 simp (disch:=omega)only[go_sem, *]
 simp only [PR.enc] at s1
 refine Jt (i:=i) ht1 s1 ?_
 rw [List.length_set,el]
 simp (disch:=omega)only[go_sem, *]
def Bt (P:List PR):List PR:=P.map fun x=>⟨x.prio,0,false⟩
theorem MK {i:Nat} (hi:i<P.length):(Bt (P.take i)++P.drop i).set i ⟨(nth (Bt (P.take i)++P.drop i) i).prio,0,false⟩=Bt (P.take (i+1))++P.drop (i+1):=by
 have hl:(Bt (P.take i)).length=i:=by unfold Bt;rw [List.length_map,List.length_take];omega
 rw [AX hi,List.set_append_right _ _ (by omega),hl,Nat.sub_self,List.set_cons_zero]
 have hn:nth (Bt (P.take i)++nth P i::P.drop (i+1)) i=nth P i:=by
  rw [Dv (by simp [hl]),List.getElem_append_right (by omega)]
  simp [hl]
 rw [hn,DH hi]
 unfold Bt
 rw [List.map_append,List.append_assoc]
 rfl
theorem Pz (ht:h.get tb=some ⟨1,[[w]]⟩) (sw:Sl b h 3 w (P.map PR.enc)) (hb:h.lim≤b) (hd:Aq w≠tb)
    (kk:∀ h',Wr h (·=Aq w) h'→Sl b h' 3 w ((Bt P).map PR.enc)→K (.tup []) h'):Cq tp Nt [.p tb 0 0] h K:=by
 obtain ⟨wlen,_,_,_,_,_,_,_,_⟩:=sw.facts
 refine Ad jO (by simp [KU]) fun wf rp=>?_;unfold KU;simp (disch:=omega)only[go_sem, *]
 refine Au (fun n' e hh=>∃ (i:Nat) (Q:List PR),n'=P.length - i∧Wr h (·=Aq w) hh∧hh.get tb=some ⟨1,[[w]]⟩∧Sl b hh 3 w (Q.map PR.enc)∧Q.length=P.length∧Bt (P.take i)++P.drop i=Q∧e 0=.p tb 0 0∧e 7=.i .i64 P.length∧e 8=.i .i64 i∧i≤P.length) ?_ _ _ _ ⟨0,P,rfl,Wr.refl,ht,sw,rfl,by simp [Bt], ?_⟩
 ·rintro n' e hh ⟨i,Q,rfl,wr,ht,sw,hQ,hz,e0,e7,e8,hi⟩ ih
  have hlm:=wr.lim
  rw [AA Zc.eq_1]
  simp (disch:=omega)only[go_sem, *]
  refine Af (fun hc=>?_) (fun hc=>?_)
  ·have hp:i<Q.length:=by omega
   obtain ⟨_,_,lt1,lo1,get1,at1,row1,_,_⟩:=sw.facts
   have g0:=lt1 (by omega)
   have g1:=get1 (by omega)
   have g2:=lo1 (by omega)
   have r1:=row1 i hp
   have a1:=at1 .i64 i (AU hh w) (by omega) (by omega)
   have a2:=at1 .i64 i ((AU hh w).set (CU w+i) (PR.enc { nth Q i with wake:=0 })) (by omega) (by omega)
   have s1:=Sl.setT (x:={ nth Q i with wake:=0 }) (h':=hh.put (Aq w) ⟨3,(AU hh w).set (CU w+i) (PR.enc { nth Q i with wake:=0 })⟩) sw hp (Nat.le_refl _) (by rw [Ah,AK rfl])
   have s2:=Sl.setT (j:=i) (x:=⟨(nth Q i).prio,0,false⟩) (h':=(hh.put (Aq w) ⟨3,(AU hh w).set (CU w+i) (PR.enc { nth Q i with wake:=0 })⟩).put (Aq w) ⟨3,((AU hh w).set (CU w+i) (PR.enc { nth Q i with wake:=0 })).set (CU w+i) (PR.enc ⟨(nth Q i).prio,0,false⟩)⟩) s1 (by simpa using hp) (Nat.le_refl _) (by rw [Ah,AK rfl,Fr])
   have w2:Wr h (·=Aq w) (hh.put (Aq w) ⟨3,((AU hh w).set (CU w+i) (PR.enc { nth Q i with wake:=0 })).set (CU w+i) (PR.enc ⟨(nth Q i).prio,0,false⟩)⟩):=wr.put (.inr rfl)
   have r2:((AU hh w).set (CU w+i) (PR.enc { nth Q i with wake:=0 }))[CU w+i]?=some (PR.enc { nth Q i with wake:=0 }):=by
    have:=(Sl.facts s1).row i (by simpa using hp)
    rw [Fr] at this
    rw [this,Dv (by simpa using hp),List.getElem_set_self]
   have hq:Bt (P.take (i+1))++P.drop (i+1)=Q.set i ⟨(nth Q i).prio,0,false⟩:=by rw [← hz,MK (by omega)]
   have ht2:(hh.put (Aq w) ⟨3,((AU hh w).set (CU w+i) (PR.enc { nth Q i with wake:=0 })).set (CU w+i) (PR.enc ⟨(nth Q i).prio,0,false⟩)⟩).get tb=some ⟨1,[[w]]⟩:=by rw [Ah,An (fun e=>hd e.symm)];exact ht
   simp only [List.set_set,Ji] at s2 w2 ht2
   simp only [PR.enc] at r1 r2 a2 s2 w2 ht2
   simp only [Int.toNat_natCast] at a1 a2
   clear lt1 lo1 get1 at1 row1 s1 sw
   simp (disch:=omega)only[go_sem, *]
   refine ih _ _ _ ?_ ⟨i+1,Q.set i ⟨(nth Q i).prio,0,false⟩,rfl,w2,ht2,s2,by rw [List.length_set];exact hQ,hq, ?_⟩
   ·omega
   ·clear ih kk s2 w2 ht2 hq hz
    simp (disch:=omega)only[go_sem, *]
    omega
  ·obtain rfl:i=P.length:=by omega
   rw [List.take_length,List.drop_length,List.append_nil] at hz
   rw [hz] at kk
   have f:=kk hh wr sw
   simp (disch:=omega)only[go_sem, *]
 ·simp (disch:=omega)only[go_sem, *]
end
theorem F0 {b bx sz:Nat} {hh h1 h4:AH} {w v:V} {R:List (List V)} {x:List V} (x1:Am hh h1) (g:Grown b h1 w v h4) (s:Sl b h4 sz v (R++[x])) (hb:bx<hh.next) (hd:AI w=true∨Aq w≠bx):h4.get bx=hh.get bx∧Aq v≠bx∧hh.next≤h4.next∧h4.lim=hh.lim:=by
 have n1:=x1.next
 have n4:=g.next
 refine ⟨(g.get bx (by omega) (hd.imp (fun x=>x) (fun x e=>x e.symm))).trans (x1.get bx hb), ?_,by omega,g.lim.trans x1.lim⟩
 rcases g.own with q | ⟨q,e⟩ | q
 ·rcases s with ⟨_,z⟩ | ⟨_,_,_,_,rfl,_⟩
  ·simp at z
  ·cases q
 ·rw [e];exact hd.resolve_left (by rw [q];decide)
 ·omega
def DD (L:List BL):List PR:=L.map fun x=>⟨x.prio,0,false⟩
theorem YX {h : AH} {L : List BL} {K : V → AH → Prop} (h1 : 1 ≤ L.length) (h3 : L.length ≤ 3)
    (kk:∀ h' tb w,Am h h'→h.next≤tb→tb<h'.next→h'.get tb=some ⟨1,[[w]]⟩→Sl h.next h' 3 w ((DD L).map PR.enc)→Aq w≠tb→K (.p tb 0 0) h'):Cq tp RJ [.fl 2 (L.map BL.enc)] h K:=by
 refine Ad jA (by simp [KF]) fun wf rp=>?_
 have hlo:=wf.1
 unfold KF
 simp (disch:=omega)only[go_sem, *]
 refine AD (fun hc=>absurd hc (by omega)) (fun _=>?_)
 simp (disch:=omega)only[go_sem, *]
 refine Af (fun hc=>absurd hc (by omega)) (fun _=>?_)
 simp (disch:=omega)only[go_sem, *]
 refine Au (fun n' e hh=>∃ (i:Nat) (w:V),n'=L.length - i∧Am h hh∧h.next<hh.next∧hh.get h.next=some ⟨1,[[w]]⟩∧Sl h.next hh 3 w ((DD (L.take i)).map PR.enc)∧(AI w=true∨Aq w≠h.next)∧e 3=.p h.next 0 0∧e 16=.fl 2 (L.map BL.enc)∧e 17=.i .i64 L.length∧e 18=.i .i64 i∧i≤L.length) ?_ _ _ _ ⟨0,.ns,rfl, ?_⟩
 ·rintro n' e hh ⟨i,w,rfl,x,hn,hg,s,hd,e3,e16,e17,e18,hi⟩ ih
  have hlm:=x.lim
  have hsv:=Sl.sameV s
  rw [AA Y9.eq_1]
  simp (disch:=omega)only[go_sem, *]
  refine Af (fun hc=>?_) (fun hc=>?_)
  ·have hN:DD (L.take (i+1))=DD (L.take i)++[⟨(nth L i).prio,0,false⟩]:=by
    rw [DH (by omega)];unfold DD;rw [List.map_append];rfl
   have hln:(DD (L.take i)).length=i:=by unfold DD;rw [List.length_map,List.length_take];omega
   simp (disch:=omega)only[go_sem, *]
   have X1:Am hh (((hh.alloc ⟨2,[[.i .i64 0,.i .i64 0]]⟩).put hh.next ⟨2,[[.i .i64 (nth L i).entry,.i .i64 (nth L i).prio]]⟩).alloc ⟨3,[PR.enc ⟨(nth L i).prio,0,false⟩]⟩):=by (repeat (first | exact Am.refl _ | refine Am.alloc ?_ _ | (refine Am.put ?_ _ _ ?_;rotate_left;(first | omega | (simp only [Aa,Ae];omega)))))
   refine AQ (N:=[PR.enc ⟨(nth L i).prio,0,false⟩]) (s.ext X1) ?_ ?_ ?_ ?_
   ·simp (disch:=omega)only[go_sem, *]
   ·simp (disch:=omega)only[go_sem, *]<;>omega
   ·simp;omega
   intro v h4 s4 g4
   obtain ⟨k1,k2,k3,k4⟩:=F0 X1 g4 s4 hn hd
   have s5:Sl h.next (h4.put h.next ⟨1,[[v]]⟩) 3 v ((DD (L.take (i+1))).map PR.enc):=by
    rw [hN,List.map_append];exact CA s4 _ _ (.inr (fun e=>k2 e.symm))
   have x5:Am h (h4.put h.next ⟨1,[[v]]⟩):=⟨by show h.next≤h4.next;omega,k4.trans x.lim,fun j hj=>by rw [Ah,An (by omega)];exact (g4.low j hj).trans ((X1.get j (by omega)).trans (x.get j hj))⟩
   have c1:=g4.cell
   have c2:=g4.cells
   clear X1 g4 s4 s x
   simp (disch:=omega)only[go_sem, *]
   refine ih _ _ _ ?_ ⟨i+1,v,rfl,x5,by show h.next<h4.next;omega,by rw [Ah,AK rfl],s5,.inr k2, ?_⟩
   ·omega
   ·clear ih kk s5 x5
    simp (disch:=omega)only[go_sem, *]
    omega
  ·obtain rfl:i=L.length:=by omega
   rw [List.take_length] at s
   have hnn:Aq w≠h.next:=by
    rcases hd with d | d
    ·rcases s with ⟨_,z⟩ | ⟨_,_,_,_,rfl,_⟩
     ·have:=congrArg List.length z
      simp [DD] at this
      rw [this] at h1;cases h1
     ·cases d
    ·exact d
   have f:=kk hh h.next w x (Nat.le_refl _) hn hg s hnn
   clear kk
   simp (disch:=omega)only[go_sem, *]
 ·simp (disch:=omega)only[go_sem, *]
  ((repeat' refine And.intro ?_ ?_)<;>first | omega | assumption | (exact (Am.refl h).alloc _) | (exact Nat.lt_succ_self _) | (exact Sl.nil _ _ _) | (exact .inl rfl))
end Go.Ab.T
namespace Go.Ab.T
open Go Go.Ab
set_option maxHeartbeats 4000000
/-! Faults. -/
structure FT where
 t:Int
 proc:Int
 kind:Int
 deriving DecidableEq,Inhabited
@[go_sem] def FT.enc (x:FT):List V:=[.i .i64 x.t,.i .i64 x.proc,.i .i64 x.kind]
def Dy (x:Int):Int:=if x=0∨x=1 then x else 2
def ET (a b c d e k:Int):Int:=if k=1 then Dy a else if k=2 then Dy b else if k=3 then Dy c else if k=4 then Dy d else if k=5 then Dy e else 2
theorem Wh {h:AH} {a b c d e:Int} {K:V→AH→Prop} (kk:∀ h',Am h h'→h'.next=h.next+2→h'.get (h.next+1)=some ⟨7,[[.i .i64 a,.i .i64 b,.i .i64 c,.i .i64 d,.i .i64 e,.ns,.b false]]⟩→K (.p (h.next+1) 0 0) h'):Cq tp RI [.agg [.i .i64 a,.i .i64 b,.i .i64 c,.i .i64 d,.i .i64 e]] h K:=by
 have f:=kk ((h.alloc ⟨5,[[.i .i64 a,.i .i64 b,.i .i64 c,.i .i64 d,.i .i64 e]]⟩).alloc ⟨7,[[.i .i64 a,.i .i64 b,.i .i64 c,.i .i64 d,.i .i64 e,.ns,.b false]]⟩) (by (repeat (first | exact Am.refl _ | refine Am.alloc ?_ _ | (refine Am.put ?_ _ _ ?_;rotate_left;(first | omega | (simp only [Aa,Ae];omega)))))) rfl (by simp (disch:=omega)only[go_sem, *])
 clear kk
 refine Ad iZ (by simp [KE]) fun wf rp=>?_;unfold KE;simp (disch:=omega)only[go_sem, *]
section
variable {b lg:Nat} {h:AH} {f:V} {F:List FT} {K:V→AH→Prop} {a0 a1 a2 a3 a4:Int} {st:Bool}
theorem JZ (hg:h.get lg=some ⟨7,[[.i .i64 a0,.i .i64 a1,.i .i64 a2,.i .i64 a3,.i .i64 a4,f,.b st]]⟩) (kk:K (.b st) h):Cq tp RN [.p lg 0 0] h K:=by
 refine Ad jG (by simp [KL]) fun wf rp=>?_;unfold KL;simp (disch:=omega)only[go_sem, *]
theorem Mk {k:Int} (hg:h.get lg=some ⟨7,[[.i .i64 a0,.i .i64 a1,.i .i64 a2,.i .i64 a3,.i .i64 a4,f,.b st]]⟩) (kk:K (.i .i64 (ET a0 a1 a2 a3 a4 k)) h):Cq tp Se [.p lg 0 0,.i .i64 k] h K:=by
 have hk:k<1∨5<k∨k=1∨k=2∨k=3∨k=4∨k=5:=by omega
 rcases hk with hk | hk | rfl | rfl | rfl | rfl | rfl
 ·have e:ET a0 a1 a2 a3 a4 k=2:=by unfold ET;simp (disch:=omega)only[if_neg]
  rw [e] at kk
  refine Ad EX (by simp [CQ]) fun wf rp=>?_;unfold CQ;simp (disch:=omega)only[go_sem, *]
  repeat' (first | (refine AD (fun hc=>?_) (fun hc=>?_)<;>simp (disch:=omega)only[go_sem, *]) | (refine Af (fun hc=>?_) (fun hc=>?_)<;>simp (disch:=omega)only[go_sem, *]))
 ·have e:ET a0 a1 a2 a3 a4 k=2:=by unfold ET;simp (disch:=omega)only[if_neg]
  rw [e] at kk
  refine Ad EX (by simp [CQ]) fun wf rp=>?_;unfold CQ;simp (disch:=omega)only[go_sem, *]
  repeat' (first | (refine AD (fun hc=>?_) (fun hc=>?_)<;>simp (disch:=omega)only[go_sem, *]) | (refine Af (fun hc=>?_) (fun hc=>?_)<;>simp (disch:=omega)only[go_sem, *]))
 ·skip
  have e:ET a0 a1 a2 a3 a4 1=Dy a0:=rfl
  rw [e] at kk
  have g1:a0=0∨a0=1→Dy a0=a0:=fun q=>if_pos q
  have g2:¬ (a0=0∨a0=1)→Dy a0=2:=fun q=>if_neg q
  refine Ad EX (by simp [CQ]) fun wf rp=>?_;unfold CQ;simp (disch:=omega)only[go_sem, *]
  refine AD (fun hc=>?_) (fun hc=>?_)
  ·rw [g1 (.inl hc),hc] at kk
   clear g1 g2
   simp (disch:=omega)only[go_sem, *]
  ·simp (disch:=omega)only[go_sem, *]
   refine Af (fun hc2=>?_) (fun hc2=>?_)
   ·rw [g1 (.inr hc2),hc2] at kk
    clear g1 g2
    simp (disch:=omega)only[go_sem, *]
   ·rw [g2 (by omega)] at kk
    clear g1 g2
    simp (disch:=omega)only[go_sem, *]
 ·skip
  have e:ET a0 a1 a2 a3 a4 2=Dy a1:=rfl
  rw [e] at kk
  have g1:a1=0∨a1=1→Dy a1=a1:=fun q=>if_pos q
  have g2:¬ (a1=0∨a1=1)→Dy a1=2:=fun q=>if_neg q
  refine Ad EX (by simp [CQ]) fun wf rp=>?_;unfold CQ;simp (disch:=omega)only[go_sem, *]
  refine AD (fun hc=>?_) (fun hc=>?_)
  ·rw [g1 (.inl hc),hc] at kk
   clear g1 g2
   simp (disch:=omega)only[go_sem, *]
  ·simp (disch:=omega)only[go_sem, *]
   refine Af (fun hc2=>?_) (fun hc2=>?_)
   ·rw [g1 (.inr hc2),hc2] at kk
    clear g1 g2
    simp (disch:=omega)only[go_sem, *]
   ·rw [g2 (by omega)] at kk
    clear g1 g2
    simp (disch:=omega)only[go_sem, *]
 ·skip
  have e:ET a0 a1 a2 a3 a4 3=Dy a2:=rfl
  rw [e] at kk
  have g1:a2=0∨a2=1→Dy a2=a2:=fun q=>if_pos q
  have g2:¬ (a2=0∨a2=1)→Dy a2=2:=fun q=>if_neg q
  refine Ad EX (by simp [CQ]) fun wf rp=>?_;unfold CQ;simp (disch:=omega)only[go_sem, *]
  refine AD (fun hc=>?_) (fun hc=>?_)
  ·rw [g1 (.inl hc),hc] at kk
   clear g1 g2
   simp (disch:=omega)only[go_sem, *]
  ·simp (disch:=omega)only[go_sem, *]
   refine Af (fun hc2=>?_) (fun hc2=>?_)
   ·rw [g1 (.inr hc2),hc2] at kk
    clear g1 g2
    simp (disch:=omega)only[go_sem, *]
   ·rw [g2 (by omega)] at kk
    clear g1 g2
    simp (disch:=omega)only[go_sem, *]
 ·skip
  have e:ET a0 a1 a2 a3 a4 4=Dy a3:=rfl
  rw [e] at kk
  have g1:a3=0∨a3=1→Dy a3=a3:=fun q=>if_pos q
  have g2:¬ (a3=0∨a3=1)→Dy a3=2:=fun q=>if_neg q
  refine Ad EX (by simp [CQ]) fun wf rp=>?_;unfold CQ;simp (disch:=omega)only[go_sem, *]
  refine AD (fun hc=>?_) (fun hc=>?_)
  ·rw [g1 (.inl hc),hc] at kk
   clear g1 g2
   simp (disch:=omega)only[go_sem, *]
  ·simp (disch:=omega)only[go_sem, *]
   refine Af (fun hc2=>?_) (fun hc2=>?_)
   ·rw [g1 (.inr hc2),hc2] at kk
    clear g1 g2
    simp (disch:=omega)only[go_sem, *]
   ·rw [g2 (by omega)] at kk
    clear g1 g2
    simp (disch:=omega)only[go_sem, *]
 ·skip
  have e:ET a0 a1 a2 a3 a4 5=Dy a4:=rfl
  rw [e] at kk
  have g1:a4=0∨a4=1→Dy a4=a4:=fun q=>if_pos q
  have g2:¬ (a4=0∨a4=1)→Dy a4=2:=fun q=>if_neg q
  refine Ad EX (by simp [CQ]) fun wf rp=>?_;unfold CQ;simp (disch:=omega)only[go_sem, *]
  refine AD (fun hc=>?_) (fun hc=>?_)
  ·rw [g1 (.inl hc),hc] at kk
   clear g1 g2
   simp (disch:=omega)only[go_sem, *]
  ·simp (disch:=omega)only[go_sem, *]
   refine Af (fun hc2=>?_) (fun hc2=>?_)
   ·rw [g1 (.inr hc2),hc2] at kk
    clear g1 g2
    simp (disch:=omega)only[go_sem, *]
   ·rw [g2 (by omega)] at kk
    clear g1 g2
    simp (disch:=omega)only[go_sem, *]
theorem RD {t p k : Int} (hg : h.get lg = some ⟨7, [[.i .i64 a0, .i .i64 a1, .i .i64 a2, .i .i64 a3, .i .i64 a4, f, .b false]]⟩) (sf : Sl b h 3 f (F.map FT.enc)) (hb : h.lim ≤ b) (hl : b ≤ lg) (hn : lg < h.next) (hd : AI f = true ∨ Aq f ≠ lg) (hF : F.length < 4000000000)
    (kk:∀ h' f',Wr h (fun i=>i=lg∨(AI f=false∧i=Aq f)) h'→h'.get lg=some ⟨7,[[.i .i64 a0,.i .i64 a1,.i .i64 a2,.i .i64 a3,.i .i64 a4,f',.b (decide (ET a0 a1 a2 a3 a4 k=2))]]⟩→Sl b h' 3 f' ((F++[(⟨t,p,k⟩:FT)]).map FT.enc)→Aq f'≠lg→((AI f=false∧Aq f'=Aq f)∨h.next≤Aq f')→K (.i .i64 (ET a0 a1 a2 a3 a4 k)) h'):Cq tp NB [.p lg 0 0,.i .i64 t,.i .i64 p,.i .i64 k] h K:=by
 have hsv:=Sl.sameV sf
 refine Ad jY (by simp [K3]) fun wf rp=>?_;unfold K3;simp (disch:=omega)only[go_sem, *]
 have X1:Am h (h.alloc ⟨3,[FT.enc ⟨t,p,k⟩]⟩):=by (repeat (first | exact Am.refl _ | refine Am.alloc ?_ _ | (refine Am.put ?_ _ _ ?_;rotate_left;(first | omega | (simp only [Aa,Ae];omega)))))
 refine AQ (N:=[FT.enc ⟨t,p,k⟩]) (sf.ext X1) ?_ ?_ ?_ ?_
 ·simp (disch:=omega)only[go_sem, *]
 ·simp (disch:=omega)only[go_sem, *]<;>omega
 ·simp;omega
 intro v h4 s4 g4
 obtain ⟨k1,k2,k3,k4⟩:=F0 X1 g4 s4 hn hd
 have hg4:=k1.trans hg
 have hw:Wr h (fun i=>i=lg∨(AI f=false∧i=Aq f)) h4:=(Wr.refl.ext X1).grown g4 (by
  cases hq:AI f with
  | true=>exact .inl rfl
  | false=>exact .inr (.inl (.inr ⟨rfl,rfl⟩)))
 have hv:(AI f=false∧Aq v=Aq f)∨h.next≤Aq v:=by
  rcases g4.own with q | q | q
  ·rcases s4 with ⟨_,z⟩ | ⟨_,_,_,_,rfl,_⟩
   ·simp at z
   ·cases q
  ·exact .inl q
  ·rw [Aa] at q;exact .inr (by omega)
 have c1:=g4.cell
 have c2:=g4.cells
 have s5:Sl b h4 3 v ((F++[(⟨t,p,k⟩:FT)]).map FT.enc):=by rw [List.map_append];exact s4
 have l4:=g4.lim
 rw [Bn] at l4
 have ha:(h4.put lg ⟨7,[[.i .i64 a0,.i .i64 a1,.i .i64 a2,.i .i64 a3,.i .i64 a4,v,.b false]]⟩).get lg=some ⟨7,[[.i .i64 a0,.i .i64 a1,.i .i64 a2,.i .i64 a3,.i .i64 a4,v,.b false]]⟩:=by rw [Ah,AK rfl]
 clear X1 g4 s4 sf hsv
 simp (disch:=omega)only[go_sem, *]
 refine Mk (k:=k) ha ?_
 generalize ET a0 a1 a2 a3 a4 k=z at *
 have fin:=kk (h4.put lg ⟨7,[[.i .i64 a0,.i .i64 a1,.i .i64 a2,.i .i64 a3,.i .i64 a4,v,.b (decide (z=2))]]⟩) v (hw.put (.inr (.inl rfl))) (by rw [Ah,AK rfl]) (CA s5 _ _ (.inr (fun e=>k2 e.symm))) k2 hv
 clear kk
 simp (disch:=omega)only[go_sem, *]
end
end Go.Ab.T
namespace Go.Ab.T
open Go Go.Ab
set_option maxHeartbeats 4000000
/-! Partitions. -/
structure ST where
 r:List Int
 pc:Int
 deriving DecidableEq,Inhabited
def ST.enc (x:ST):List V:=x.r.map (V.i .u32)++[.i .i64 x.pc]
section
variable {x:ST} (h:x.r.length=8)
include h
theorem ST.len:(ST.enc x).length=9:=by unfold ST.enc;simp [h]
theorem ST.reg {i:Nat} (hi:i<8):(ST.enc x)[i]?=some (.i .u32 (nth x.r i)):=by
 unfold ST.enc
 rw [List.getElem?_append_left (by simp;omega),List.getElem?_map,D0 (by omega)];rfl
theorem ST.at8:(ST.enc x)[8]?=some (.i .i64 x.pc):=by
 unfold ST.enc
 rw [List.getElem?_append_right (by simp;omega)];simp [h]
theorem ST.setr {i:Nat} {v:Int} (hi:i<8):(ST.enc x).set i (.i .u32 v)=ST.enc ⟨x.r.set i v,x.pc⟩:=by
 unfold ST.enc
 rw [List.set_append_left _ _ (by simp;omega),List.map_set]
theorem ST.setpc {v:Int}:(ST.enc x).set 8 (.i .i64 v)=ST.enc ⟨x.r,v⟩:=by
 unfold ST.enc
 rw [List.set_append_right _ _ (by simp;omega)];simp [h]
end
structure PC where
 c:Av
 p:Nat
 prog:List Int
 ins:List Int
 h0:Int
 h1:Int
 h2:Int
 h3:Int
 h4:Int
def Ar (c:PC) (tb lg:Nat) (a:V) (mem:List Int) (clk:Int):List V:=[.fl 11 (c.c.parts.map Part.enc),.fl 6 (c.c.chans.map Bl.enc),.fl 1 (c.c.tables.map Tab.enc),.i .i64 c.p,.fl 1 (c.prog.map DR),.fl 1 (c.ins.map Ft),.p tb 0 0,a]++(mem.map (V.i .u32)++[.p lg 0 0,.i .i64 clk])
section
variable {c:PC} {tb lg:Nat} {a a':V} {mem:List Int} {clk clk':Int}
theorem Ar.f0:(Ar c tb lg a mem clk)[0]?=some (.fl 11 (c.c.parts.map Part.enc)):=rfl
theorem Ar.f1:(Ar c tb lg a mem clk)[1]?=some (.fl 6 (c.c.chans.map Bl.enc)):=rfl
theorem Ar.f3:(Ar c tb lg a mem clk)[3]?=some (.i .i64 c.p):=rfl
theorem Ar.f4:(Ar c tb lg a mem clk)[4]?=some (.fl 1 (c.prog.map DR)):=rfl
theorem Ar.f5:(Ar c tb lg a mem clk)[5]?=some (.fl 1 (c.ins.map Ft)):=rfl
theorem Ar.f6:(Ar c tb lg a mem clk)[6]?=some (.p tb 0 0):=rfl
theorem Ar.f7:(Ar c tb lg a mem clk)[7]?=some a:=rfl
theorem Ar.s7:(Ar c tb lg a mem clk).set 7 a'=Ar c tb lg a' mem clk:=rfl
section
variable (h:mem.length=16)
include h
theorem Ar.len:(Ar c tb lg a mem clk).length=26:=by unfold Ar;simp [h]
theorem Ar.f24:(Ar c tb lg a mem clk)[24]?=some (.p lg 0 0):=by
 unfold Ar
 rw [List.getElem?_append_right (by simp),List.getElem?_append_right (by simp [h])];simp [h]
theorem Ar.f25:(Ar c tb lg a mem clk)[25]?=some (.i .i64 clk):=by
 unfold Ar
 rw [List.getElem?_append_right (by simp),List.getElem?_append_right (by simp [h])];simp [h]
theorem Ar.s25:(Ar c tb lg a mem clk).set 25 (.i .i64 clk')=Ar c tb lg a mem clk':=by
 unfold Ar
 rw [List.set_append_right _ _ (by simp),List.set_append_right _ _ (by simp [h])];simp [h]
theorem Ar.fm {j:Nat} (hj:j<16):(Ar c tb lg a mem clk)[8+j]?=some (.i .u32 (nth mem j)):=by
 unfold Ar
 rw [List.getElem?_append_right (by simp),List.getElem?_append_left (by simp;omega),List.getElem?_map]
 have e:8+j - 8=j:=by omega
 simp only [List.length_cons,List.length_nil,Nat.zero_add]
 rw [e,D0 (by omega)];rfl
theorem Ar.sm {j:Nat} {v:Int} (hj:j<16):(Ar c tb lg a mem clk).set (8+j) (.i .u32 v)=Ar c tb lg a (mem.set j v) clk:=by
 unfold Ar
 rw [List.set_append_right _ _ (by simp),List.set_append_left _ _ (by simp;omega),List.map_set]
 have e:8+j - 8=j:=by omega
 simp only [List.length_cons,List.length_nil,Nat.zero_add]
 rw [e]
end
end
end Go.Ab.T
namespace Go.Ab.T
open Go Go.Ab
set_option maxHeartbeats 4000000
structure SE (b:Nat) (h:AH) (a:V) (A:List ST) (i:Nat):Prop where
 g:h.get (Aq a)=some ⟨9,AU h a⟩
 r:(AU h a)[CU a+i]?=some (ST.enc (nth A i))
 lt:Aq a<h.next
 lo:b≤Aq a
 at_:∀ cs,I7 (some ⟨9,cs⟩) 9 a (.i .i64 i)=some (.p (Aq a) (CU a+i) 0)
 set:∀ h',Am h h'→∀ x,Sl b (h'.put (Aq a) ⟨9,(AU h a).set (CU a+i) (ST.enc x)⟩) 9 a ((A.set i x).map ST.enc)
theorem Q3 {h h':AH} {v:V} (x:Am h h') (hl:Aq v<h.next):AU h' v=AU h v:=by unfold AU;rw [x.get _ hl]
theorem Dq {b i:Nat} {h:AH} {a:V} {A:List ST} (sa:Sl b h 9 a (A.map ST.enc)) (hi:i<A.length):SE b h a A i:=by
 obtain ⟨_,_,lt,lo,get,at1,row,_,_⟩:=sa.facts
 have l:=lt (by omega)
 refine ⟨get (by omega),row i hi,l,lo (by omega),fun cs=>?_,fun h' x y=>?_⟩
 ·have:=at1 .i64 i cs (by omega) (by omega)
  simpa only [Int.toNat_natCast] using this
 ·refine Sl.setT (sa.ext x) hi (Nat.le_refl _) ?_
  rw [Ah,AK rfl,Q3 x l]
def Fp (ins:List Int) (t:Int) (op:Int) (A B C:Nat) (x:ST):Int:=
 if op=2 then IntKind.wrap .u32 (nth x.r B+nth x.r C) else if op=3 then IntKind.wrap .u32 (nth x.r B - nth x.r C) else if op=4 then IntKind.wrap .u32 (nth x.r B*nth x.r C)
 else if op=5 then IntKind.wrap .u32 ((nth x.r B).tdiv (nth x.r C)) else if op=13 then (if t<ins.length then nth ins t.toNat else 0) else if op=14 then IntKind.wrap .u32 t else 256*B+C
def BB (ins:List Int) (t:Int) (op:Int) (A B C:Nat) (x:ST):Int×Int×ST:=
 if op=5∧nth x.r C=0 then (0,4,x) else (Fp ins t op A B C x,0,⟨x.r.set A (Fp ins t op A B C x),x.pc⟩)
section
variable {b pp tb lg i A B C:Nat} {h:AH} {a:V} {As:List ST} {c:PC} {mem:List Int} {clk t op:Int} {K:V→AH→Prop}
theorem Q0 (hop:op=1∨op=2∨op=3∨op=4∨op=5∨op=13∨op=14) (hA:A<8) (hB:op=2∨op=3∨op=4∨op=5→B<8∧C<8) (hB2:B≤255) (hC2:C≤255) (gp:h.get pp=some ⟨26,[Ar c tb lg a mem clk]⟩) (hm:mem.length=16) (hpn:pp<h.next) (sa:Sl b h 9 a (As.map ST.enc)) (hi:i<As.length) (hb:h.lim≤b) (hr:(nth As i).r.length=8) (ht:0≤t) (hins:c.ins.length<4000000000)
    (kk:∀ h',Wr h (·=Aq a) h'→Sl b h' 9 a ((As.set i (BB c.ins t op A B C (nth As i)).2.2).map ST.enc)→K (.tup [.i .u32 (BB c.ins t op A B C (nth As i)).1,.i .i64 (BB c.ins t op A B C (nth As i)).2.1]) h'):Cq tp Nw [.p pp 0 0,.agg [.i .i64 op,.i .i64 A,.i .i64 B,.i .i64 C],.p (Aq a) (CU a+i) 0,.i .i64 t] h K:=by
 obtain ⟨g,r,lt,lo,_,set⟩:=Dq sa hi
 have X1:Am h (h.alloc ⟨4,[[.i .i64 op,.i .i64 A,.i .i64 B,.i .i64 C]]⟩):=by (repeat (first | exact Am.refl _ | refine Am.alloc ?_ _ | (refine Am.put ?_ _ _ ?_;rotate_left;(first | omega | (simp only [Aa,Ae];omega)))))
 have set:=set _ X1
 have he:=ST.len hr
 have eA:=ST.reg hr hA
 have sA:=fun v=>ST.setr (v:=v) hr hA
 have fin:∀ n,Fp c.ins t op A B C (nth As i)=n→¬ (op=5∧nth (nth As i).r C=0)→K (.tup [.i .u32 n,.i .i64 0]) ((h.alloc ⟨4,[[.i .i64 op,.i .i64 A,.i .i64 B,.i .i64 C]]⟩).put (Aq a) ⟨9,(AU h a).set (CU a+i) (ST.enc ⟨(nth As i).r.set A n,(nth As i).pc⟩)⟩):=fun n hn hq=>by
  have e:BB c.ins t op A B C (nth As i)=(n,0,⟨(nth As i).r.set A n,(nth As i).pc⟩):=by unfold BB;rw [if_neg hq,hn]
  rw [e] at kk
  exact kk _ ((Wr.refl.alloc).put (.inr rfl)) (set _)
 have im:=Mr (x:=⟨op,A,B,C⟩) ⟨by simp;omega,by simp;omega,by simp;omega⟩
 have ei:ON ⟨op,A,B,C⟩=256*B+C:=rfl
 rw [ei] at im
 clear ei
 have hLE:h.lim≤Aq a:=by omega
 have m1:∀ n:Nat,n*1=n:=Nat.mul_one
 have hA8:A+1≤8+1:=by omega
 rcases hop with rfl | rfl | rfl | rfl | rfl | rfl | rfl
 ·have f:=fin (256*B+C) (by unfold Fp;simp) (by simp)
  clear fin kk
  refine Ad DW (by simp [BX]) fun wf rp=>?_;unfold BX;simp (disch:=omega)only[go_sem, *]
  refine Pf.go (im) (by simp only [go_sem]) fun _=>?_;simp (disch:=omega)only[go_sem, *]
 ·obtain ⟨h1,h2⟩:=hB (by simp)
  have eB:=ST.reg hr h1
  have eC:=ST.reg hr h2
  have b8:B≤8:=by omega
  have c8:C≤8:=by omega
  have f:=fin (IntKind.wrap .u32 (nth (nth As i).r B+nth (nth As i).r C)) (by unfold Fp;simp) (by simp)
  clear fin kk
  refine Ad DW (by simp [BX]) fun wf rp=>?_;unfold BX;simp (disch:=omega)only[go_sem, *]
  refine Pf.go (im) (by simp only [go_sem]) fun _=>?_;simp (disch:=omega)only[go_sem, *]
 ·obtain ⟨h1,h2⟩:=hB (by simp)
  have eB:=ST.reg hr h1
  have eC:=ST.reg hr h2
  have b8:B≤8:=by omega
  have c8:C≤8:=by omega
  have f:=fin (IntKind.wrap .u32 (nth (nth As i).r B - nth (nth As i).r C)) (by unfold Fp;simp) (by simp)
  clear fin kk
  refine Ad DW (by simp [BX]) fun wf rp=>?_;unfold BX;simp (disch:=omega)only[go_sem, *]
  refine Pf.go (im) (by simp only [go_sem]) fun _=>?_;simp (disch:=omega)only[go_sem, *]
 ·obtain ⟨h1,h2⟩:=hB (by simp)
  have eB:=ST.reg hr h1
  have eC:=ST.reg hr h2
  have b8:B≤8:=by omega
  have c8:C≤8:=by omega
  have f:=fin (IntKind.wrap .u32 (nth (nth As i).r B*nth (nth As i).r C)) (by unfold Fp;simp) (by simp)
  clear fin kk
  refine Ad DW (by simp [BX]) fun wf rp=>?_;unfold BX;simp (disch:=omega)only[go_sem, *]
  refine Pf.go (im) (by simp only [go_sem]) fun _=>?_;simp (disch:=omega)only[go_sem, *]
 ·obtain ⟨h1,h2⟩:=hB (by simp)
  have eB:=ST.reg hr h1
  have eC:=ST.reg hr h2
  have b8:B≤8:=by omega
  have c8:C≤8:=by omega
  by_cases hz:nth (nth As i).r C=0
  ·have e:BB c.ins t 5 A B C (nth As i)=(0,4,nth As i):=if_pos ⟨rfl,hz⟩
   rw [e] at kk
   have es:As.set i (nth As i)=As:=by rw [Dv hi,List.set_getElem_self]
   have f:=kk (h.alloc ⟨4,[[.i .i64 5,.i .i64 A,.i .i64 B,.i .i64 C]]⟩) (Wr.refl.alloc) (by simp only [es];exact sa.ext X1)
   clear fin kk e es
   refine Ad DW (by simp [BX]) fun wf rp=>?_;unfold BX;simp (disch:=omega)only[go_sem, *]
   refine Pf.go (im) (by simp only [go_sem]) fun _=>?_;simp (disch:=omega)only[go_sem, *]
  ·have f:=fin (IntKind.wrap .u32 ((nth (nth As i).r B).tdiv (nth (nth As i).r C))) (by unfold Fp;simp) (by simp [hz])
   clear fin kk
   refine Ad DW (by simp [BX]) fun wf rp=>?_;unfold BX;simp (disch:=omega)only[go_sem, *]
   refine Pf.go (im) (by simp only [go_sem]) fun _=>?_;simp (disch:=omega)only[go_sem, *]
 ·obtain ⟨k,rfl⟩:∃ k:Nat,t=k:=⟨t.toNat,by omega⟩
  have p1:=Ar.f5 (c:=c) (tb:=tb) (lg:=lg) (a:=a) (mem:=mem) (clk:=clk)
  have p2:=Ar.len (c:=c) (tb:=tb) (lg:=lg) (a:=a) (clk:=clk) hm
  by_cases hk:(k:Int)<c.ins.length
  ·have f:=fin (nth c.ins k) (by unfold Fp;simp [hk]) (by simp)
   clear fin kk
   refine Ad DW (by simp [BX]) fun wf rp=>?_;unfold BX;simp (disch:=omega)only[go_sem, *]
   refine Pf.go (im) (by simp only [go_sem]) fun _=>?_;simp (disch:=omega)only[go_sem, *]
  ·have f:=fin 0 (by unfold Fp;simp [hk]) (by simp)
   clear fin kk
   refine Ad DW (by simp [BX]) fun wf rp=>?_;unfold BX;simp (disch:=omega)only[go_sem, *]
   refine Pf.go (im) (by simp only [go_sem]) fun _=>?_;simp (disch:=omega)only[go_sem, *]
 ·have f:=fin (IntKind.wrap .u32 t) (by unfold Fp;simp) (by simp)
  clear fin kk
  refine Ad DW (by simp [BX]) fun wf rp=>?_;unfold BX;simp (disch:=omega)only[go_sem, *]
  refine Pf.go (im) (by simp only [go_sem]) fun _=>?_;simp (disch:=omega)only[go_sem, *]
end
end Go.Ab.T
namespace Go.Ab.T
open Go Go.Ab
set_option maxHeartbeats 4000000
def BN (mem:List Int) (op:Int) (A B C:Nat) (x:ST):Int×Int×ST×List Int:=
 if 16≤nth x.r B+C then (0,3,x,mem) else if op=6 then (nth mem (nth x.r B+C).toNat,0,⟨x.r.set A (nth mem (nth x.r B+C).toNat),x.pc⟩,mem) else (nth x.r A,0,x,mem.set (nth x.r B+C).toNat (nth x.r A))
theorem oG {n:Int} (h0:0≤n) (h1:n<18446744073709551616):IntKind.wrap .u64 n=n:=by
 unfold IntKind.wrap;simp [IntKind.bits,IntKind.signed];omega
section
variable {b pp tb lg i A B C:Nat} {h:AH} {a:V} {As:List ST} {c:PC} {mem:List Int} {clk t op:Int} {K:V→AH→Prop}
theorem Y1 (hop:op=6∨op=7) (hA:A<8) (hB:B<8) (hC2:C≤255) (gp:h.get pp=some ⟨26,[Ar c tb lg a mem clk]⟩) (hm:mem.length=16) (hpn:pp<h.next) (sa:Sl b h 9 a (As.map ST.enc)) (hi:i<As.length) (hb:h.lim≤b) (hbp:b≤pp) (hne:Aq a≠pp) (hr:(nth As i).r.length=8) (hu:0≤nth (nth As i).r B∧nth (nth As i).r B<4294967296)
    (kk:∀ h',Wr h (fun j=>j=Aq a∨j=pp) h'→h'.get pp=some ⟨26,[Ar c tb lg a (BN mem op A B C (nth As i)).2.2.2 clk]⟩→Sl b h' 9 a ((As.set i (BN mem op A B C (nth As i)).2.2.1).map ST.enc)→K (.tup [.i .u32 (BN mem op A B C (nth As i)).1,.i .i64 (BN mem op A B C (nth As i)).2.1]) h'):Cq tp Nx [.p pp 0 0,.agg [.i .i64 op,.i .i64 A,.i .i64 B,.i .i64 C],.p (Aq a) (CU a+i) 0] h K:=by
 obtain ⟨g,r,lt,lo,_,set⟩:=Dq sa hi
 have X1:Am h (h.alloc ⟨4,[[.i .i64 op,.i .i64 A,.i .i64 B,.i .i64 C]]⟩):=by (repeat (first | exact Am.refl _ | refine Am.alloc ?_ _ | (refine Am.put ?_ _ _ ?_;rotate_left;(first | omega | (simp only [Aa,Ae];omega)))))
 have set:=set _ X1
 have he:=ST.len hr
 have eA:=ST.reg hr hA
 have eB:=ST.reg hr hB
 have sA:=fun v=>ST.setr (v:=v) hr hA
 have hLE:h.lim≤Aq a:=by omega
 have hLP:h.lim≤pp:=by omega
 have m1:∀ n:Nat,n*1=n:=Nat.mul_one
 have hA8:A+1≤8+1:=by omega
 have hB8:B≤8:=by omega
 have p2:=Ar.len (c:=c) (tb:=tb) (lg:=lg) (a:=a) (clk:=clk) hm
 have es:As.set i (nth As i)=As:=by rw [Dv hi,List.set_getElem_self]
 have w1:IntKind.wrap .u64 (nth (nth As i).r B)=nth (nth As i).r B:=oG hu.1 (by omega)
 have w2:IntKind.wrap .u64 (C:Int)=C:=oG (by omega) (by omega)
 have w3:IntKind.wrap .u64 (nth (nth As i).r B+C)=nth (nth As i).r B+C:=oG (by omega) (by omega)
 by_cases hz:16≤nth (nth As i).r B+C
 ·have e:BN mem op A B C (nth As i)=(0,3,nth As i,mem):=if_pos hz
  rw [e] at kk
  have f:=kk _ (Wr.refl.alloc (k:=⟨4,[[.i .i64 op,.i .i64 A,.i .i64 B,.i .i64 C]]⟩)) (by rw [A0,An (by omega)];exact gp) (by simp only [es];exact sa.ext X1)
  clear kk e es
  refine Ad Mg (by simp [FL]) fun wf rp=>?_;unfold FL;simp (disch:=omega)only[go_sem, *]
 ·obtain ⟨j,hj⟩:∃ j:Nat,nth (nth As i).r B+C=j:=⟨(nth (nth As i).r B+C).toNat,by omega⟩
  have hj16:j<16:=by omega
  rw [hj] at w3
  have fm:=Ar.fm (c:=c) (tb:=tb) (lg:=lg) (a:=a) (clk:=clk) hm hj16
  have sm:=fun v=>Ar.sm (c:=c) (tb:=tb) (lg:=lg) (a:=a) (clk:=clk) (v:=v) hm hj16
  have p3:(8:Nat)+j≤25:=by omega
  have jj:8+j+1≤26:=by omega
  rcases hop with rfl | rfl
  ·have e:BN mem 6 A B C (nth As i)=(nth mem j,0,⟨(nth As i).r.set A (nth mem j),(nth As i).pc⟩,mem):=by unfold BN;rw [if_neg hz,if_pos rfl,hj];rfl
   rw [e] at kk
   have f:=kk _ (((Wr.refl (I:=(fun j=>j=Aq a∨j=pp))).alloc (k:=⟨4,[[.i .i64 6,.i .i64 A,.i .i64 B,.i .i64 C]]⟩)).put (j:=Aq a) (.inr (.inl rfl))) (by rw [Ah,An (fun e=>hne e.symm),A0,An (by omega)];exact gp) (set _)
   clear kk e es set X1
   refine Ad Mg (by simp [FL]) fun wf rp=>?_;unfold FL;simp (disch:=omega)only[go_sem, *]
   refine Af (fun hc=>absurd hc (by omega)) (fun _=>?_)
   simp (disch:=omega)only[go_sem, *]
  ·have e:BN mem 7 A B C (nth As i)=(nth (nth As i).r A,0,nth As i,mem.set j (nth (nth As i).r A)):=by unfold BN;rw [if_neg hz,if_neg (by decide),hj];rfl
   rw [e] at kk
   have fm2:=Ar.fm (c:=c) (tb:=tb) (lg:=lg) (a:=a) (mem:=mem.set j (nth (nth As i).r A)) (clk:=clk) (by simpa using hm) hj16
   have en:nth (mem.set j (nth (nth As i).r A)) j=nth (nth As i).r A:=by rw [Dv (by simp;omega),List.getElem_set_self]
   have p4:=Ar.len (c:=c) (tb:=tb) (lg:=lg) (a:=a) (mem:=mem.set j (nth (nth As i).r A)) (clk:=clk) (by simpa using hm)
   rw [en] at fm2
   have f:=kk _ (((Wr.refl (I:=(fun j=>j=Aq a∨j=pp))).alloc (k:=⟨4,[[.i .i64 7,.i .i64 A,.i .i64 B,.i .i64 C]]⟩)).put (j:=pp) (.inr (.inr rfl))) (by rw [Ah,AK rfl]) (by simp only [es];exact CA (sa.ext X1) _ _ (.inr (fun e=>hne e.symm)))
   clear kk e es set X1 en
   refine Ad Mg (by simp [FL]) fun wf rp=>?_;unfold FL;simp (disch:=omega)only[go_sem, *]
   refine Af (fun hc=>absurd hc (by omega)) (fun _=>?_)
   simp (disch:=omega)only[go_sem, *]
end
end Go.Ab.T
namespace Go.Ab.T
open Go Go.Ab
set_option maxHeartbeats 4000000
structure PS where
 procs:List PR
 all:List ST
 mem:List Int
 fl:List FT
 halt:Bool
 clk:Int
 deriving DecidableEq
def HW (l:List Int):Prop:=∀ z∈l,0≤z∧z<4294967296
structure PA (b:Nat) (h:AH) (pp tb lg:Nat) (w a f:V) (c:PC) (s:PS):Prop where
 gp:h.get pp=some ⟨26,[Ar c tb lg a s.mem s.clk]⟩
 gt:h.get tb=some ⟨1,[[w]]⟩
 gl:h.get lg=some ⟨7,[[.i .i64 c.h0,.i .i64 c.h1,.i .i64 c.h2,.i .i64 c.h3,.i .i64 c.h4,f,.b s.halt]]⟩
 sw:Sl b h 3 w (s.procs.map PR.enc)
 sa:Sl b h 9 a (s.all.map ST.enc)
 sf:Sl b h 3 f (s.fl.map FT.enc)
 lim:h.lim≤b
 bp:b≤pp∧b≤tb∧b≤lg
 np:pp<h.next∧tb<h.next∧lg<h.next
 d:pp≠tb∧pp≠lg∧tb≠lg
 dw:Aq w≠pp∧Aq w≠tb∧Aq w≠lg
 da:Aq a≠pp∧Aq a≠tb∧Aq a≠lg∧Aq a≠Aq w
 df:AI f=true∨(Aq f≠pp∧Aq f≠tb∧Aq f≠lg∧Aq f≠Aq w∧Aq f≠Aq a)
 l1:1≤s.procs.length∧s.procs.length≤3
 l2:s.all.length=s.procs.length
 l3:s.mem.length=16
 l4:∀ x∈s.all,x.r.length=8∧HW x.r
 l5:HW s.mem
 l6:s.fl.length≤s.clk∧s.clk<3000000000
section
variable {b pp tb lg:Nat} {h h':AH} {w a f:V} {c:PC} {s:PS} {I:Nat→Prop}
theorem CZ {sz:Nat} {v:V} {R:List (List V)} (s:Sl b h sz v R) (x:Wr h I h') (hI:AI v=true∨¬ I (Aq v)):Sl b h' sz v R:=by
 rcases hI with q | q
 ·rcases s with z | ⟨_,_,_,_,rfl,_⟩
  ·exact .inl z
  ·cases q
 ·exact s.same x.next (fun hq=>x.get _ hq q)
theorem PA.same (p:PA b h pp tb lg w a f c s) (x:Wr h I h') (hI:∀ i,I i→i≠pp∧i≠tb∧i≠lg∧i≠Aq w∧i≠Aq a∧(AI f=true∨i≠Aq f)):PA b h' pp tb lg w a f c s:=
 ⟨(x.get _ p.np.1 (fun e=>(hI _ e).1 rfl)).trans p.gp,(x.get _ p.np.2.1 (fun e=>(hI _ e).2.1 rfl)).trans p.gt,(x.get _ p.np.2.2 (fun e=>(hI _ e).2.2.1 rfl)).trans p.gl,
  CZ p.sw x (.inr fun e=>(hI _ e).2.2.2.1 rfl),CZ p.sa x (.inr fun e=>(hI _ e).2.2.2.2.1 rfl),CZ p.sf x (by
   rcases Bool.eq_false_or_eq_true (AI f) with q | q
   ·exact .inl q
   ·exact .inr fun e=>((hI _ e).2.2.2.2.2.resolve_left (by rw [q];decide)) rfl),
  by rw [x.lim];exact p.lim,p.bp,⟨Nat.lt_of_lt_of_le p.np.1 x.next,Nat.lt_of_lt_of_le p.np.2.1 x.next,Nat.lt_of_lt_of_le p.np.2.2 x.next⟩,p.d,p.dw,p.da,p.df,p.l1,p.l2,p.l3,p.l4,p.l5,p.l6⟩
theorem PA.ext (p:PA b h pp tb lg w a f c s) (x:Am h h'):PA b h' pp tb lg w a f c s:=p.same (I:=fun _=>False) ⟨x.next,x.lim,fun i hi _=>x.get i hi⟩ (fun _ e=>e.elim)
theorem PA.setA {A:List ST} (p:PA b h pp tb lg w a f c s) (x:Wr h (·=Aq a) h') (sa:Sl b h' 9 a (A.map ST.enc)) (hl:A.length=s.all.length) (h4:∀ x∈A,x.r.length=8∧HW x.r):PA b h' pp tb lg w a f c { s with all:=A }:=by
 obtain ⟨q1,q2,q3,q4⟩:=p.da
 exact ⟨(x.get _ p.np.1 (fun e=>q1 e.symm)).trans p.gp,(x.get _ p.np.2.1 (fun e=>q2 e.symm)).trans p.gt,(x.get _ p.np.2.2 (fun e=>q3 e.symm)).trans p.gl,
  CZ p.sw x (.inr fun e=>q4 e.symm),sa,CZ p.sf x (p.df.imp (fun z=>z) (fun z=>z.2.2.2.2)),by rw [x.lim];exact p.lim,p.bp,⟨Nat.lt_of_lt_of_le p.np.1 x.next,Nat.lt_of_lt_of_le p.np.2.1 x.next,Nat.lt_of_lt_of_le p.np.2.2 x.next⟩,p.d,p.dw,p.da,p.df,p.l1,hl.trans p.l2,p.l3,h4,p.l5,p.l6⟩
theorem PA.setM {A:List ST} {m:List Int} (p:PA b h pp tb lg w a f c s) (x:Wr h (fun j=>j=Aq a∨j=pp) h') (gp:h'.get pp=some ⟨26,[Ar c tb lg a m s.clk]⟩) (sa:Sl b h' 9 a (A.map ST.enc)) (hl:A.length=s.all.length) (h4:∀ x∈A,x.r.length=8∧HW x.r) (hm:m.length=16) (h5:HW m):PA b h' pp tb lg w a f c { s with all:=A,mem:=m }:=by
 obtain ⟨q1,q2,q3,q4⟩:=p.da
 obtain ⟨d1,d2,d3⟩:=p.d
 exact ⟨gp,(x.get _ p.np.2.1 (fun e=>e.elim (fun e=>q2 e.symm) (fun e=>d1 e.symm))).trans p.gt,(x.get _ p.np.2.2 (fun e=>e.elim (fun e=>q3 e.symm) (fun e=>d2 e.symm))).trans p.gl,
  CZ p.sw x (.inr fun e=>e.elim (fun e=>q4 e.symm) p.dw.1),sa,CZ p.sf x (p.df.imp (fun z=>z) (fun z e=>e.elim z.2.2.2.2 z.1)),by rw [x.lim];exact p.lim,p.bp,⟨Nat.lt_of_lt_of_le p.np.1 x.next,Nat.lt_of_lt_of_le p.np.2.1 x.next,Nat.lt_of_lt_of_le p.np.2.2 x.next⟩,p.d,p.dw,p.da,p.df,p.l1,hl.trans p.l2,hm,h4,h5,p.l6⟩
theorem PA.setW {P:List PR} (p:PA b h pp tb lg w a f c s) (x:Wr h (·=Aq w) h') (sw:Sl b h' 3 w (P.map PR.enc)) (hl:P.length=s.procs.length):PA b h' pp tb lg w a f c { s with procs:=P }:=by
 obtain ⟨q1,q2,q3⟩:=p.dw
 exact ⟨(x.get _ p.np.1 (fun e=>q1 e.symm)).trans p.gp,(x.get _ p.np.2.1 (fun e=>q2 e.symm)).trans p.gt,(x.get _ p.np.2.2 (fun e=>q3 e.symm)).trans p.gl,
  sw,CZ p.sa x (.inr p.da.2.2.2),CZ p.sf x (p.df.imp (fun z=>z) (fun z=>z.2.2.2.1)),by rw [x.lim];exact p.lim,p.bp,⟨Nat.lt_of_lt_of_le p.np.1 x.next,Nat.lt_of_lt_of_le p.np.2.1 x.next,Nat.lt_of_lt_of_le p.np.2.2 x.next⟩,p.d,p.dw,p.da,p.df,by rw [hl];exact p.l1,p.l2.trans hl.symm,p.l3,p.l4,p.l5,p.l6⟩
end
end Go.Ab.T
namespace Go.Ab.T
open Go Go.Ab
set_option maxHeartbeats 8000000
def FZ (c:PC) (s:PS) (t:Int) (i:Nat) (op:Int) (A B C:Nat):Int×Int×PS:=
 if op=1∨op=2∨op=3∨op=4∨op=5∨op=13∨op=14 then ((BB c.ins t op A B C (nth s.all i)).1,(BB c.ins t op A B C (nth s.all i)).2.1,{ s with all:=s.all.set i (BB c.ins t op A B C (nth s.all i)).2.2 })
 else if op=6∨op=7 then ((BN s.mem op A B C (nth s.all i)).1,(BN s.mem op A B C (nth s.all i)).2.1,{ s with all:=s.all.set i (BN s.mem op A B C (nth s.all i)).2.2.1,mem:=(BN s.mem op A B C (nth s.all i)).2.2.2 })
 else if op=8 then (0,0,{ s with all:=s.all.set i ⟨(nth s.all i).r,256*B+C⟩ })
 else if op=9 then (0,0,if nth (nth s.all i).r A=0 then { s with all:=s.all.set i ⟨(nth s.all i).r,256*B+C⟩ } else s)
 else if op=10 then (0,0,{ s with procs:=s.procs.set i { nth s.procs i with wake:=t+nth (nth s.all i).r A+1 } })
 else if op=17 then (0,0,{ s with procs:=s.procs.set i { nth s.procs i with ended:=true } })
 else if op=11∨op=12 then (0,5,s) else (0,0,s)
theorem I9 {l:List Int} {i:Nat} {v:Int} (h:HW l) (h0:0≤v) (h1:v<4294967296):HW (l.set i v):=fun z hz=>(List.mem_or_eq_of_mem_set hz).elim (h z) (fun e=>by subst e;exact ⟨h0,h1⟩)
theorem DY {l:List Int} {i:Nat} (h:HW l):0≤nth l i∧nth l i<4294967296:=by
 rcases Nat.lt_or_ge i l.length with q | q
 ·exact h _ (AR q)
 ·have:nth l i=0:=by unfold nth;rw [List.getD_eq_getElem?_getD,List.getElem?_eq_none q];rfl
  rw [this];omega
theorem HT (n:Int):0≤IntKind.wrap .u32 n∧IntKind.wrap .u32 n<4294967296:=by
 unfold IntKind.wrap;simp [IntKind.bits,IntKind.signed];omega
theorem aD9 {ins:List Int} {t op:Int} {A B C:Nat} {x:ST} (hi:HW ins) (hB:B≤255) (hC:C≤255):0≤Fp ins t op A B C x∧Fp ins t op A B C x<4294967296:=by
 unfold Fp
 split
 ·exact HT _
 ·split
  ·exact HT _
  ·split
   ·exact HT _
   ·split
    ·exact HT _
    ·split
     ·split
      ·exact DY hi
      ·omega
     ·split
      ·exact HT _
      ·omega
theorem Q1 {ins:List Int} {t op:Int} {A B C:Nat} {x:ST} (hi:HW ins) (hB:B≤255) (hC:C≤255) (hx:x.r.length=8∧HW x.r):(BB ins t op A B C x).2.2.r.length=8∧HW (BB ins t op A B C x).2.2.r:=by
 unfold BB
 split
 ·exact hx
 ·have:=aD9 (t:=t) (op:=op) (A:=A) (x:=x) hi hB hC
  exact ⟨by simp [hx.1],I9 hx.2 this.1 this.2⟩
theorem Y2 {mem:List Int} {op:Int} {A B C:Nat} {x:ST} (hm:mem.length=16∧HW mem) (hx:x.r.length=8∧HW x.r):((BN mem op A B C x).2.2.1.r.length=8∧HW (BN mem op A B C x).2.2.1.r)∧(BN mem op A B C x).2.2.2.length=16∧HW (BN mem op A B C x).2.2.2:=by
 unfold BN
 split
 ·exact ⟨hx,hm⟩
 ·split
  ·exact ⟨⟨by simp [hx.1],I9 hx.2 (DY hm.2).1 (DY hm.2).2⟩,hm⟩
  ·exact ⟨hx,by simp [hm.1],I9 hm.2 (DY hx.2).1 (DY hx.2).2⟩
section
variable {b pp tb lg i A B C:Nat} {h:AH} {w a f kv:V} {c:PC} {s:PS} {t op:Int} {K:V→AH→Prop}
theorem QV {k:Int} {fr:Bool} (gp:h.get pp=some ⟨26,[Ar c tb lg a s.mem s.clk]⟩) (h3:s.mem.length=16) (hch:c.c.chans=[]) (hk:0≤k) (kk:K (.b false) h):Cq tp Sd [.p pp 0 0,.i .i64 k,.b fr] h K:=by
 have f1:=Ar.f1 (c:=c) (tb:=tb) (lg:=lg) (a:=a) (mem:=s.mem) (clk:=s.clk)
 have rl:=Ar.len (c:=c) (tb:=tb) (lg:=lg) (a:=a) (clk:=s.clk) h3
 rw [hch] at f1
 refine Ad kJ (by simp [Ld]) fun wf rp=>?_;unfold Ld;simp (disch:=omega)only[go_sem, *]
theorem LZ (hop : op = 11 ∨ op = 12) (gp : h.get pp = some ⟨26, [Ar c tb lg a s.mem s.clk]⟩) (hpn : pp < h.next) (h3 : s.mem.length = 16) (hch : c.c.chans = []) {sv : V}
    (kk:K (.tup [.i .u32 0,.i .i64 5]) (h.alloc ⟨4,[[.i .i64 op,.i .i64 A,.i .i64 B,.i .i64 C]]⟩)):Cq tp NA [.p pp 0 0,.agg [.i .i64 op,.i .i64 A,.i .i64 B,.i .i64 C],sv,kv] h K:=by
 have g1:(h.alloc ⟨4,[[.i .i64 op,.i .i64 A,.i .i64 B,.i .i64 C]]⟩).get pp=some ⟨26,[Ar c tb lg a s.mem s.clk]⟩:=by rw [A0,An (by omega)];exact gp
 rcases hop with rfl | rfl<;>(
  refine Ad jX (by simp [K2]) fun wf rp=>?_;unfold K2;simp (disch:=omega)only[go_sem, *]
  refine QV g1 h3 hch (by omega) ?_
  simp (disch:=omega)only[go_sem, *])
structure Reg (op:Int) (A B C:Nat):Prop where
 o:0≤op∧op≤17
 m:A≤255∧B≤255∧C≤255
 a:(Cj op).1=true→A<8
 b:(Cj op).2.1=true→B<8
 c:(Cj op).2.2=true→C<8
theorem HD {l:List ST} {i:Nat} {x:ST} (h:∀ y∈l,y.r.length=8∧HW y.r) (hx:x.r.length=8∧HW x.r):∀ y∈l.set i x,y.r.length=8∧HW y.r:=fun y hy=>(List.mem_or_eq_of_mem_set hy).elim (h y) (fun e=>by subst e;exact hx)
theorem aEa (p:PA b h pp tb lg w a f c s) (hi:i<s.all.length) (g:Reg op A B C) (ho:op≠15∧op≠16) (hch:c.c.chans=[]) (hins:HW c.ins) (hil:c.ins.length<4000000000) (ht:0≤t) (ht2:t<3000000000)
    (kk:∀ h',Wr h (fun j=>j=pp∨j=Aq w∨j=Aq a) h'→PA b h' pp tb lg w a f c (FZ c s t i op A B C).2.2→K (.tup [.i .u32 (FZ c s t i op A B C).1,.i .i64 (FZ c s t i op A B C).2.1]) h'):Cq tp Nm [.p pp 0 0,.agg [.i .i64 op,.i .i64 A,.i .i64 B,.i .i64 C],.i .i64 i,.i .i64 t,kv] h K:=by
 obtain ⟨sg,sr,slt,slo,sat,set⟩:=Dq p.sa hi
 have gp:=p.gp
 have hx:=p.l4 _ (AR hi)
 obtain ⟨ga,gb,gc⟩:=g.m
 obtain ⟨np1,np2,np3⟩:=p.np
 obtain ⟨bp1,bp2,bp3⟩:=p.bp
 have hlim:=p.lim
 have at0:=sat (AU h a)
 have f6:=Ar.f6 (c:=c) (tb:=tb) (lg:=lg) (a:=a) (mem:=s.mem) (clk:=s.clk)
 have f7:=Ar.f7 (c:=c) (tb:=tb) (lg:=lg) (a:=a) (mem:=s.mem) (clk:=s.clk)
 have f1:=Ar.f1 (c:=c) (tb:=tb) (lg:=lg) (a:=a) (mem:=s.mem) (clk:=s.clk)
 have rl:=Ar.len (c:=c) (tb:=tb) (lg:=lg) (a:=a) (clk:=s.clk) p.l3
 have X1:Am h (h.alloc ⟨4,[[.i .i64 op,.i .i64 A,.i .i64 B,.i .i64 C]]⟩):=by (repeat (first | exact Am.refl _ | refine Am.alloc ?_ _ | (refine Am.put ?_ _ _ ?_;rotate_left;(first | omega | (simp only [Aa,Ae];omega)))))
 have p1:=p.ext X1
 have wr1:Wr h (fun j=>j=pp∨j=Aq w∨j=Aq a) (h.alloc ⟨4,[[.i .i64 op,.i .i64 A,.i .i64 B,.i .i64 C]]⟩):=Wr.refl.alloc
 have hop:(op=1∨op=2∨op=3∨op=4∨op=5∨op=13∨op=14)∨(op=6∨op=7)∨op=8∨op=9∨op=10∨op=17∨(op=11∨op=12)∨op=0:=by
  have:=g.o;omega
 rcases hop with hop | hop | rfl | rfl | rfl | rfl | hop | rfl
 ·have e:FZ c s t i op A B C=((BB c.ins t op A B C (nth s.all i)).1,(BB c.ins t op A B C (nth s.all i)).2.1,{ s with all:=s.all.set i (BB c.ins t op A B C (nth s.all i)).2.2 }):=if_pos hop
  rw [e] at kk
  have hA:A<8:=g.a (by rcases hop with rfl | rfl | rfl | rfl | rfl | rfl | rfl<;>rfl)
  have hB:op=2∨op=3∨op=4∨op=5→B<8∧C<8:=fun q=>⟨g.b (by rcases q with rfl | rfl | rfl | rfl<;>rfl),g.c (by rcases q with rfl | rfl | rfl | rfl<;>rfl)⟩
  have hcl:=Q1 (t:=t) (op:=op) (A:=A) hins gb gc hx
  clear set sr e
  rcases hop with rfl | rfl | rfl | rfl | rfl | rfl | rfl<;>(
   refine Ad DU (by simp [BW]) fun wf rp=>?_;unfold BW;simp (disch:=omega)only[go_sem, *]
   refine Q0 (t:=t) (by decide) hA hB gb gc p1.gp p.l3 p1.np.1 p1.sa hi p1.lim hx.1 ht hil (fun h' x' s'=>?_)
   have fin:=kk h' (wr1.trans x' (fun j _ e=>.inr (.inr e))) (p1.setA x' s' (by simp) (HD p.l4 hcl))
   clear kk x' s' p1 wr1 p
   simp (disch:=omega)only[go_sem, *])
 ·have e:FZ c s t i op A B C=((BN s.mem op A B C (nth s.all i)).1,(BN s.mem op A B C (nth s.all i)).2.1,{ s with all:=s.all.set i (BN s.mem op A B C (nth s.all i)).2.2.1,mem:=(BN s.mem op A B C (nth s.all i)).2.2.2 }):=by
   unfold FZ;rw [if_neg (by omega),if_pos hop]
  rw [e] at kk
  have hA:A<8:=g.a (by rcases hop with rfl | rfl<;>rfl)
  have hB:B<8:=g.b (by rcases hop with rfl | rfl<;>rfl)
  have hwl:=Y2 (op:=op) (A:=A) (B:=B) (C:=C) ⟨p.l3,p.l5⟩ hx
  clear set sr e
  rcases hop with rfl | rfl<;>(
   refine Ad DU (by simp [BW]) fun wf rp=>?_;unfold BW;simp (disch:=omega)only[go_sem, *]
   refine Y1 (by decide) hA hB gc p1.gp p.l3 p1.np.1 p1.sa hi p1.lim bp1 p.da.1 hx.1 (DY hx.2) (fun h' x' g' s'=>?_)
   have fin:=kk h' (wr1.trans x' (fun j _ e=>e.elim (fun e=>.inr (.inr e)) .inl)) (p1.setM x' g' s' (by simp) (HD p.l4 hwl.1) hwl.2.1 hwl.2.2)
   clear kk x' s' p1 wr1 p g'
   simp (disch:=omega)only[go_sem, *])
 ·have im:=Mr (x:=⟨8,A,B,C⟩) ⟨by simp;omega,by simp;omega,by simp;omega⟩
  have ei:ON ⟨8,A,B,C⟩=256*B+C:=rfl
  rw [ei] at im
  have sp:=fun v=>ST.setpc (v:=v) hx.1
  have he:=ST.len hx.1
  have e8:=ST.at8 hx.1
  have hle:h.lim≤Aq a:=by omega
  clear ei
  have e:FZ c s t i 8 A B C=(0,0,{ s with all:=s.all.set i ⟨(nth s.all i).r,256*B+C⟩ }):=rfl
  rw [e] at kk
  have fin:=kk _ (wr1.put (.inr (.inr (.inr rfl)))) (p1.setA ((Wr.refl (I:=(·=Aq a))).put (.inr rfl)) (set _ X1 ⟨(nth s.all i).r,256*B+C⟩) (by simp) (HD p.l4 ⟨hx.1,hx.2⟩))
  clear kk p1 wr1 p set e X1
  refine Ad DU (by simp [BW]) fun wf rp=>?_;unfold BW;simp (disch:=omega)only[go_sem, *]
  refine Pf.go (im) (by simp only [go_sem]) fun _=>?_;simp (disch:=omega)only[go_sem, *]
 ·have im:=Mr (x:=⟨9,A,B,C⟩) ⟨by simp;omega,by simp;omega,by simp;omega⟩
  have ei:ON ⟨9,A,B,C⟩=256*B+C:=rfl
  rw [ei] at im
  have sp:=fun v=>ST.setpc (v:=v) hx.1
  have he:=ST.len hx.1
  have e8:=ST.at8 hx.1
  have hle:h.lim≤Aq a:=by omega
  clear ei
  have hA:A<8:=g.a rfl
  have eA:=ST.reg hx.1 hA
  have hA8:A≤8:=by omega
  have m1:∀ n:Nat,n*1=n:=Nat.mul_one
  have e:FZ c s t i 9 A B C=(0,0,if nth (nth s.all i).r A=0 then { s with all:=s.all.set i ⟨(nth s.all i).r,256*B+C⟩ } else s):=rfl
  rw [e] at kk
  by_cases hz:nth (nth s.all i).r A=0
  ·rw [if_pos hz] at kk
   have fin:=kk _ (wr1.put (.inr (.inr (.inr rfl)))) (p1.setA ((Wr.refl (I:=(·=Aq a))).put (.inr rfl)) (set _ X1 ⟨(nth s.all i).r,256*B+C⟩) (by simp) (HD p.l4 ⟨hx.1,hx.2⟩))
   clear kk p1 wr1 p set e X1
   refine Ad DU (by simp [BW]) fun wf rp=>?_;unfold BW;simp (disch:=omega)only[go_sem, *]
   refine Pf.go (im) (by simp only [go_sem]) fun _=>?_;simp (disch:=omega)only[go_sem, *]
  ·rw [if_neg hz] at kk
   have fin:=kk _ wr1 p1
   clear kk p1 wr1 p set e X1
   refine Ad DU (by simp [BW]) fun wf rp=>?_;unfold BW;simp (disch:=omega)only[go_sem, *]
 ·have hA:A<8:=g.a rfl
  have eA:=ST.reg hx.1 hA
  have hu:=DY (i:=A) hx.2
  have hA8:A≤8:=by omega
  have m1:∀ n:Nat,n*1=n:=Nat.mul_one
  have he:=ST.len hx.1
  have hip:i<s.procs.length:=by rw [← p.l2];exact hi
  have e:FZ c s t i 10 A B C=(0,0,{ s with procs:=s.procs.set i { nth s.procs i with wake:=t+nth (nth s.all i).r A+1 } }):=rfl
  rw [e] at kk
  clear set e
  refine Ad DU (by simp [BW]) fun wf rp=>?_;unfold BW;simp (disch:=omega)only[go_sem, *]
  refine TV p1.gt p1.sw hip p1.lim p.dw.2.1 ?_
  intro h' x' s'
  have fin:=kk h' (wr1.trans x' (fun j _ e=>.inr (.inl e))) (p1.setW x' s' (by simp))
  clear kk p1 wr1 p x' s'
  simp (disch:=omega)only[go_sem, *]
 ·have hip:i<s.procs.length:=by rw [← p.l2];exact hi
  have e:FZ c s t i 17 A B C=(0,0,{ s with procs:=s.procs.set i { nth s.procs i with ended:=true } }):=rfl
  rw [e] at kk
  clear set e
  refine Ad DU (by simp [BW]) fun wf rp=>?_;unfold BW;simp (disch:=omega)only[go_sem, *]
  refine WY p1.gt p1.sw hip p1.lim p.dw.2.1 ?_
  intro h' x' s'
  have fin:=kk h' (wr1.trans x' (fun j _ e=>.inr (.inl e))) (p1.setW x' s' (by simp))
  clear kk p1 wr1 p x' s'
  simp (disch:=omega)only[go_sem, *]
 ·have e:FZ c s t i op A B C=(0,5,s):=by unfold FZ;rw [if_neg (by omega),if_neg (by omega),if_neg (by omega),if_neg (by omega),if_neg (by omega),if_neg (by omega),if_pos hop]
  rw [e] at kk
  have fin:=fun k=>kk ((h.alloc ⟨4,[[.i .i64 op,.i .i64 A,.i .i64 B,.i .i64 C]]⟩).alloc k) wr1.alloc (p1.ext ((Am.refl _).alloc k))
  have gp1:=p1.gp
  have np:=p1.np.1
  have l3:=p1.l3
  clear kk p1 wr1 p set e X1
  rcases hop with rfl | rfl<;>(
   refine Ad DU (by simp [BW]) fun wf rp=>?_;unfold BW;simp (disch:=omega)only[go_sem, *]
   refine LZ (by decide) gp1 np l3 hch ?_
   simp (disch:=omega)only[go_sem, *])
 ·have e:FZ c s t i 0 A B C=(0,0,s):=rfl
  rw [e] at kk
  have fin:=kk _ wr1 p1
  clear kk p1 wr1 p set e X1
  refine Ad DU (by simp [BW]) fun wf rp=>?_;unfold BW;simp (disch:=omega)only[go_sem, *]
end
end Go.Ab.T
namespace Go.Ab.T
open Go Go.Ab
set_option maxHeartbeats 8000000
def ID (L:List BL):List ST:=L.map fun x=>⟨List.replicate 8 0,x.entry⟩
def QI (c:PC) (s:PS):PS:={ s with procs:=Bt s.procs,all:=ID (nth c.c.parts c.p).procs,mem:=List.replicate 16 0 }
theorem aF7:∀ (m:List Int),m.length=16→((((((((((((((((m.set 0 0).set 1 0).set 2 0).set 3 0).set 4 0).set 5 0).set 6 0).set 7 0).set 8 0).set 9 0).set 10 0).set 11 0).set 12 0).set 13 0).set 14 0).set 15 0)=List.replicate 16 0:=by
 intro m hm
 refine List.ext_getElem (by simp [hm]) fun i h1 h2=>?_
 have:i=0∨i=1∨i=2∨i=3∨i=4∨i=5∨i=6∨i=7∨i=8∨i=9∨i=10∨i=11∨i=12∨i=13∨i=14∨i=15:=by simp [hm] at h1;omega
 rcases this with rfl | rfl | rfl | rfl | rfl | rfl | rfl | rfl | rfl | rfl | rfl | rfl | rfl | rfl | rfl | rfl<;>simp [List.getElem_set]
theorem aGe {c:PC} {tb lg:Nat} {a:V} {m:List Int} {clk:Int} (hm:m.length=16):over (Ar c tb lg a m clk) 8 [.i .u32 0,.i .u32 0,.i .u32 0,.i .u32 0,.i .u32 0,.i .u32 0,.i .u32 0,.i .u32 0,.i .u32 0,.i .u32 0,.i .u32 0,.i .u32 0,.i .u32 0,.i .u32 0,.i .u32 0,.i .u32 0]=Ar c tb lg a (List.replicate 16 0) clk:=by
 have st:∀ (m:List Int) (j:Nat),m.length=16→j<16→(Ar c tb lg a m clk).set (8+j) (.i .u32 0)=Ar c tb lg a (m.set j 0) clk:=fun m j h hj=>Ar.sm h hj
 simp only [over]
 rw [← aF7 m hm]
 rw [st m 0 hm (by decide),st _ 1 (by simp [hm]) (by decide),st _ 2 (by simp [hm]) (by decide),st _ 3 (by simp [hm]) (by decide),st _ 4 (by simp [hm]) (by decide),st _ 5 (by simp [hm]) (by decide),st _ 6 (by simp [hm]) (by decide),st _ 7 (by simp [hm]) (by decide),st _ 8 (by simp [hm]) (by decide),st _ 9 (by simp [hm]) (by decide),st _ 10 (by simp [hm]) (by decide),st _ 11 (by simp [hm]) (by decide),st _ 12 (by simp [hm]) (by decide),st _ 13 (by simp [hm]) (by decide),st _ 14 (by simp [hm]) (by decide),st _ 15 (by simp [hm]) (by decide)]
section
variable {b pp tb lg:Nat} {h:AH} {w a:V} {c:PC} {P:List PR} {L:List BL} {mem:List Int} {clk:Int}
theorem VC {K : Ex → Env → AH → Prop} {e : Env} {h1 : AH} (hL : L.length ≤ 3) (gp : h1.get pp = some ⟨26, [Ar c tb lg .ns mem clk]⟩) (hm : mem.length = 16) (hpn : pp < h1.next) (hlp : h1.lim ≤ pp) (hll : h1.lim ≤ h1.next) (e0 : e 0 = .p pp 0 0) (e23 : e 23 = .fl 2 (L.map BL.enc)) (e24 : e 24 = .i .i64 L.length) (e25 : e 25 = .i .i64 0)
    (kk:∀ (e:Env) (h':AH) (a:V),Wr h1 (·=pp) h'→h'.get pp=some ⟨26,[Ar c tb lg a mem clk]⟩→Sl h1.next h' 9 a ((ID L).map ST.enc)→e 0=.p pp 0 0→K (.ex 0) e h'):ZC tp (.loop PV) e h1 K:=by
 refine Au (fun n' e hh=>∃ (i:Nat) (a:V),n'=L.length - i∧Wr h1 (·=pp) hh∧hh.get pp=some ⟨26,[Ar c tb lg a mem clk]⟩∧Sl h1.next hh 9 a ((ID (L.take i)).map ST.enc)∧e 0=.p pp 0 0∧e 23=.fl 2 (L.map BL.enc)∧e 24=.i .i64 L.length∧e 25=.i .i64 i∧i≤L.length) ?_ _ _ _ ⟨0,.ns,rfl,Wr.refl,gp,Sl.nil _ _ _,e0,e23,e24,e25,by omega⟩
 clear e0 e23 e24 e25 gp e
 rintro n' e hh ⟨i,a,rfl,x,gp,s,e0,e23,e24,e25,hi⟩ ih
 have hlm:=x.lim
 have hnx:=x.next
 have hsv:=Sl.sameV s
 have hown:=BI s
 obtain ⟨_,_,_,_,_,_,_,sc1,sc2⟩:=s.facts
 have f7:=Ar.f7 (c:=c) (tb:=tb) (lg:=lg) (a:=a) (mem:=mem) (clk:=clk)
 have rl:=Ar.len (c:=c) (tb:=tb) (lg:=lg) (a:=a) (clk:=clk) hm
 rw [AA PV.eq_1]
 simp (disch:=omega)only[go_sem, *]
 refine Af (fun hc=>?_) (fun hc=>?_)
 ·have hN:ID (L.take (i+1))=ID (L.take i)++[⟨List.replicate 8 0,(nth L i).entry⟩]:=by
   rw [DH (by omega)];unfold ID;rw [List.map_append];rfl
  have hln:(ID (L.take i)).length=i:=by unfold ID;rw [List.length_map,List.length_take];omega
  have eN:ST.enc ⟨List.replicate 8 0,(nth L i).entry⟩=[.i .u32 0,.i .u32 0,.i .u32 0,.i .u32 0,.i .u32 0,.i .u32 0,.i .u32 0,.i .u32 0,.i .i64 (nth L i).entry]:=rfl
  have X1:Am hh (((hh.alloc ⟨2,[[.i .i64 0,.i .i64 0]]⟩).put hh.next ⟨2,[[.i .i64 (nth L i).entry,.i .i64 (nth L i).prio]]⟩).alloc ⟨9,[[.i .u32 0,.i .u32 0,.i .u32 0,.i .u32 0,.i .u32 0,.i .u32 0,.i .u32 0,.i .u32 0,.i .i64 (nth L i).entry]]⟩):=by (repeat (first | exact Am.refl _ | refine Am.alloc ?_ _ | (refine Am.put ?_ _ _ ?_;rotate_left;(first | omega | (simp only [Aa,Ae];omega)))))
  simp (disch:=omega)only[go_sem, *]
  refine AQ (N:=[[.i .u32 0,.i .u32 0,.i .u32 0,.i .u32 0,.i .u32 0,.i .u32 0,.i .u32 0,.i .u32 0,.i .i64 (nth L i).entry]]) (s.ext X1) ?_ ?_ ?_ ?_
  ·simp (disch:=omega)only[go_sem, *]
  ·simp (disch:=omega)only[go_sem, *]<;>omega
  ·simp;omega
  intro v h4 s4 g4
  rw [← eN] at s4
  obtain ⟨k1,k2,k3,k4⟩:=F0 (bx:=pp) X1 g4 s4 (by omega) (hown.imp (fun z=>z) (fun z=>by omega))
  have gp4:=k1.trans gp
  have s7:=fun v=>Ar.s7 (c:=c) (tb:=tb) (lg:=lg) (a:=a) (mem:=mem) (clk:=clk) (a':=v)
  have s5:Sl h1.next (h4.put pp ⟨26,[Ar c tb lg v mem clk]⟩) 9 v ((ID (L.take (i+1))).map ST.enc):=by
   rw [hN,List.map_append];exact CA s4 _ _ (.inr (fun e=>k2 e.symm))
  have x5:Wr h1 (·=pp) (h4.put pp ⟨26,[Ar c tb lg v mem clk]⟩):=by
   refine Wr.put ?_ (.inr rfl)
   exact ⟨by omega,k4.trans hlm,fun j hj hne=>(g4.low j hj).trans ((X1.get j (by omega)).trans (x.get j hj hne))⟩
  have c1:=g4.cell
  have c2:=g4.cells
  clear X1 g4 s4 s x eN hN k1
  simp (disch:=omega)only[go_sem, *]
  refine ih _ _ _ ?_ ⟨i+1,v,rfl,x5,by rw [Ah,AK rfl],s5, ?_⟩
  ·omega
  ·clear ih kk s5 x5
   simp (disch:=omega)only[go_sem, *]
   omega
 ·obtain rfl:i=L.length:=by omega
  rw [List.take_length] at s
  simp (disch:=omega)only[go_sem, *]
  exact kk _ hh a x gp s e0
theorem JF {K : V → AH → Prop} (gp : h.get pp = some ⟨26, [Ar c tb lg a mem clk]⟩) (hm : mem.length = 16) (gt : h.get tb = some ⟨1, [[w]]⟩) (sw : Sl b h 3 w (P.map PR.enc)) (lim : h.lim ≤ b) (bp : b ≤ pp) (d : pp ≠ tb) (dw : Aq w ≠ tb) (dw2 : Aq w ≠ pp) (np : pp < h.next) (hp : c.p < c.c.parts.length) (hL : (nth c.c.parts c.p).procs.length ≤ 3)
    (kk:∀ h' a',Wr h (fun j=>j=pp∨j=Aq w) h'→h'.get pp=some ⟨26,[Ar c tb lg a' (List.replicate 16 0) clk]⟩→Sl b h' 3 w ((Bt P).map PR.enc)→Sl h.next h' 9 a' ((ID (nth c.c.parts c.p).procs).map ST.enc)→K (.tup []) h'):Cq tp Nl [.p pp 0 0] h K:=by
 have f6:=Ar.f6 (c:=c) (tb:=tb) (lg:=lg) (a:=a) (mem:=mem) (clk:=clk)
 have rl:=fun a=>Ar.len (c:=c) (tb:=tb) (lg:=lg) (a:=a) (clk:=clk) hm
 have s7:=Ar.s7 (c:=c) (tb:=tb) (lg:=lg) (a:=a) (mem:=mem) (clk:=clk) (a':=.ns)
 have f0:=Ar.f0 (c:=c) (tb:=tb) (lg:=lg) (a:=.ns) (mem:=mem) (clk:=clk)
 have f3:=Ar.f3 (c:=c) (tb:=tb) (lg:=lg) (a:=.ns) (mem:=mem) (clk:=clk)
 refine Ad jB (by simp [KG]) fun wf rp=>?_
 have hll:=wf.1
 unfold KG
 simp (disch:=omega)only[go_sem, *]
 refine Pz gt sw lim dw ?_
 intro h1 x1 s1
 have g1:=(x1.get _ np (fun e=>dw2 e.symm)).trans gp
 have l1:=x1.lim
 have n1:=x1.next
 simp (disch:=omega)only[go_sem, *]
 have w1:Wr h (fun j=>j=pp∨j=Aq w) (h1.put pp ⟨26,[Ar c tb lg .ns mem clk]⟩):=Wr.put ⟨x1.next,x1.lim,fun j hj hn=>x1.get j hj (fun e=>hn (.inr e))⟩ (.inr (.inl rfl))
 have s3:=CA s1 pp ⟨26,[Ar c tb lg .ns mem clk]⟩ (.inr (fun e=>dw2 e.symm))
 refine VC (pp:=pp) (c:=c) (tb:=tb) (lg:=lg) (mem:=mem) (clk:=clk) hL ?_ hm ?_ ?_ ?_ ?_ ?_ ?_ ?_ ?_
 ·simp (disch:=omega)only[go_sem, *]
 ·simp (disch:=omega)only[go_sem, *]<;>omega
 ·simp (disch:=omega)only[go_sem, *]<;>omega
 ·simp (disch:=omega)only[go_sem, *]<;>omega
 ·simp (disch:=omega)only[go_sem, *]
 ·simp (disch:=omega)only[go_sem, *]
 ·simp (disch:=omega)only[go_sem, *]
 ·simp (disch:=omega)only[go_sem, *]
 intro e h2 a2 x2 g2 s2 e0
 have l2:=x2.lim
 have w2:=w1.trans x2 (fun j _ e=>.inl e)
 have s4:=CZ s3 x2 (.inr dw2)
 have wp:∀ v,((((((((((((((((Ar c tb lg v mem clk).set 8 (.i .u32 0)).set 9 (.i .u32 0)).set 10 (.i .u32 0)).set 11 (.i .u32 0)).set 12 (.i .u32 0)).set 13 (.i .u32 0)).set 14 (.i .u32 0)).set 15 (.i .u32 0)).set 16 (.i .u32 0)).set 17 (.i .u32 0)).set 18 (.i .u32 0)).set 19 (.i .u32 0)).set 20 (.i .u32 0)).set 21 (.i .u32 0)).set 22 (.i .u32 0)).set 23 (.i .u32 0)=Ar c tb lg v (List.replicate 16 0) clk:=fun v=>aGe hm
 have f:=kk (h2.put pp ⟨26,[Ar c tb lg a2 (List.replicate 16 0) clk]⟩) a2 (w2.put (.inr (.inl rfl))) (by rw [Ah,AK rfl]) (CA s4 _ _ (.inr (fun e=>dw2 e.symm))) (by
  have n2:h.next≤(h1.put pp ⟨26,[Ar c tb lg .ns mem clk]⟩).next:=n1
  exact CA (Sl.weak s2 n2) _ _ ((BI s2).imp (fun z=>z) (fun z=>by have:h.next≤Aq a2:=Nat.le_trans n2 z;omega)))
 rw [GP] at l2
 clear kk w1 w2 s1 s3 s4 x1 x2 s2 sw
 simp (disch:=omega)only[go_sem, *]
 exact f
end
end Go.Ab.T
