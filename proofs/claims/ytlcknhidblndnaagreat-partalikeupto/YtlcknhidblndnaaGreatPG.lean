/- Part of a proof that a law returns true for every input of the second form's bound (no other condition). -/
import Derived.Test.YtlcknhidblndnaaGreatPF
set_option linter.all false
namespace Go.Ab.T
open Go Go.Ab
set_option maxHeartbeats 1000000
theorem XS {L:List Node} {c:Cs} {r:AM} (h:r=⟨C4 (lf L c),(lf L c).n - c.gone⟩):(XR L c).at_=c.at_+r.n:=by rw [h];rfl
theorem hU {h0 h : AH} {L : List Node} {id : Nat} {sv : V} {c : Cs} {r : AM} {l : List AM} {K : V → AH → Prop} (n : FZ h0 h L id sv c) (q : Sa L c (r :: l))
    (kk:∀ sv' c' h',FZ h0 h' L id sv' c'→BT h id sv h' sv'→Sa L c' l→c'.at_=c.at_+r.n→K (.tup [.agg r.enc,.b true]) h'):Cq tp Jg [.p id 0 0] h K:=by
 obtain ⟨q1,q2,q3,q4,q5,q6⟩:=q.cons
 refine Pw n.cur q1 q2 ?_
 intro sv3 h3 c3 f3
 rw [← q3]
 exact kk sv3 _ h3 (n.step c3 f3) f3 q5 (XS q3)
theorem M7 {h0 h : AH} {L : List Node} {id : Nat} {sv : V} {c : Cs} {K : V → AH → Prop} (n : FZ h0 h L id sv c) (q : Sa L c [])
    (kk:∀ h',FZ h0 h' L id sv c→Au h h'→K (.tup [.agg (AM.enc ⟨0,0⟩),.b false]) h'):Cq tp Jg [.p id 0 0] h K:=
 MC n.cur (by rw [q.nil];omega) fun h3 hx3=>kk h3 (n.grow hx3) hx3
theorem DA.app {h h4:AH} {id b:Nat} {sv o w:V} {L:List Node} {c:Cs} (k:DA h id sv L c) (a:Grown b h o w h4) (ho:AD o=true∨(Aq o≠id∧(AD sv=true∨Aq o≠Aq sv))):DA h4 id sv L c:=by
 have hn:=a.next
 refine ⟨by rw [a.get id k.hi (ho.imp (fun x=>x) (fun x=>x.1.symm))];exact k.blk, ?_,k.big,k.sbig,by rw [a.lim];exact k.lo,by have:=k.hi;omega⟩
 rcases k.stk with ⟨hv,hR⟩ | ⟨i,el,cap,cs,rfl,hg,q1,q2,q3,q4,q5,q6⟩
 ·exact .inl ⟨hv,hR⟩
 ·refine .inr ⟨i,el,cap,cs,rfl, ?_,q1,q2,q3,by omega,q5,q6⟩
  rw [a.get _ q4 ?_];exact hg
  rcases ho with h1 | h1
  ·exact .inl h1
  ·rcases h1.2 with h2 | h2
   ·cases h2
   ·exact .inr (Ne.symm h2)
def Ga (h0:AH) (id:Nat) (sv o:V):Prop:=AD o=true∨(h0.next≤Aq o∧Aq o≠id∧(AD sv=true∨Aq o≠Aq sv))
theorem Ga.step {h0 h h':AH} {id:Nat} {sv sv' o:V} (b:Ga h0 id sv o) (hl:AD o=true∨Aq o<h.next) (f:BT h id sv h' sv'):Ga h0 id sv' o:=by
 rcases hl with hl | hl
 ·exact .inl hl
 rcases b with b | b
 ·exact .inl b
 ·refine .inr ⟨b.1,b.2.1, ?_⟩
  rcases f.own with h1 | ⟨h1,h2⟩ | h1
  ·exact .inl h1
  ·rcases b.2.2 with h3 | h3
   ·rw [h3] at h1;cases h1
   ·exact .inr (by omega)
  ·exact .inr (by omega)
theorem FZ.app {h0 h h4:AH} {L:List Node} {id b:Nat} {sv o w:V} {c:Cs} (n:FZ h0 h L id sv c) (a:Grown b h o w h4) (bs:Ga h0 id sv o):FZ h0 h4 L id sv c∧Ga h0 id sv w:=by
 have hn:=a.next
 have x:=n.ext
 have:=x.next
 refine ⟨⟨n.cur.app a (bs.imp (fun x=>x) (fun x=>x.2)),⟨by omega,a.lim.trans x.lim,fun i hi=>?_⟩,n.id_⟩, ?_⟩
 ·rw [a.get i (by omega) (bs.imp (fun x=>x) (fun x=>by omega)),x.get i hi]
 ·rcases a.own with h1 | ⟨h1,h2⟩ | h1
  ·exact .inl h1
  ·rcases bs with b | b
   ·rw [b] at h1;cases h1
   ·exact .inr (by rw [h2];exact b)
  ·have h3:=n.cur.hi
   have h5:=n.cur.sne
   exact .inr ⟨by omega,by omega,h5.imp (fun x=>x) (fun x=>by omega)⟩
theorem jH {b sz:Nat} {h0 h h':AH} {id:Nat} {sv sv' o:V} {R:List (List V)} (s:Sl b h sz o R) (bs:Ga h0 id sv o) (f:BT h id sv h' sv'):Sl b h' sz o R:=by
 rcases s with ⟨hv,hR⟩ | ⟨i,el,cap,cs,rfl,hg,q1,q2,q3,q4,q5,q6⟩
 ·exact .inl ⟨hv,hR⟩
 ·refine .inr ⟨i,el,cap,cs,rfl, ?_,q1,q2,q3, ?_,q5,q6⟩
  ·rcases bs with b | b
   ·cases b
   ·rw [f.get i q4 b.2.1 b.2.2];exact hg
  ·have:=f.next;omega
theorem aF2 {L:List Node}:Pf tp Xj [.fl 3 (L.map Node.enc)] (.tup [.fl 2 ((Fj L).1.map AM.enc),.i .i64 (Fj L).2]):=by
 refine AG aEF (by simp [OK]) fun rp=>?_;unfold OK;simp (disch:=omega)only[go_sem, *]
 refine Pf.go (GT) (by simp only [go_sem]) fun _=>?_;simp (disch:=omega)only[go_sem, *]
 refine Aa (fun hc=>?_) (fun hc=>?_)
 ·have e:=Iu hc
  simp (disch:=omega)only[go_sem, *]
 have e:=Fv (L:=L) (by omega)
 obtain ⟨_,ho,hc1,hL,hd,hl⟩:=FK (L:=L) (by omega)
 have hap:=Fo.runs_allpos _ ho
 have hsum:=Fo.runs_sum _ ho
 have hrl:=Fo.runs_len _ ho
 have hst:=TG ho hc1 hl
 rw [← hL] at hst
 clear hL
 unfold iB at e
 simp (disch:=omega)only[go_sem, *]
 refine aE8 (fun h=>absurd h (by omega)) ?_
 intro hr0 id sv h3 N3
 simp (disch:=omega)only[go_sem, *]
 refine Ah (fun n e h'=>∃ (sv' o:V) (c:Cs) (l A:List AM),n=l.length∧e 5=o∧e 6=.p id 0 0∧FZ AH.emp h' L id sv' c∧Sa L c l∧Sl 0 h' 2 o (A.map AM.enc)∧Ga AH.emp id sv' o∧A++l=(E0 L).runs) ?_ _ _ _ ⟨sv,.ns,eG L,(E0 L).runs,[],rfl, ?_⟩
 ·rintro n e' h' ⟨sv',o,c,l,A,rfl,e5,e6,N,R,so,bo,hz⟩ ih
  have nn:=N.ext.next
  have ll:=N.ext.lim
  simp only [Io] at ll
  have olt:=CY so
  rw [An oI.eq_1]
  simp (disch:=omega)only[go_sem, *]
  match l,R,hz,ih with
  | [],R,hz,ih=>
   refine M7 N R ?_
   intro h4 N4 x4
   have l4:=N4.ext.lim
   simp only [Io] at l4
   have xb:Au h4 ((h4.alloc ⟨2,[[.i .i64 0,.i .i64 0]]⟩).put h4.next ⟨2,[[.i .i64 0,.i .i64 0]]⟩):=by (repeat (first | exact Au.refl _ | refine Au.alloc ?_ _ | (refine Au.put ?_ _ _ ?_;rotate_left;(first | omega | (simp only [Ag,Ai];omega)))))
   have so5:=(so.ext x4).ext xb
   obtain rfl:A=(E0 L).runs:=by simpa using hz
   clear hz
   simp (disch:=omega)only[go_sem, *]
   have hsz:=so5.facts.big
   have hA4:(E0 L).runs.length<4000000000:=by omega
   refine Pf.take [Aq o] (jQ (Gw hap (by omega))) (.cons _ _ _ _ _ (so5.froze (fun _=>rfl) (by simp) (by omega)) (.nil _)) fun _=>?_
   simp (disch:=omega)only[go_sem, *]
   refine Aa (fun hc5=>?_) (fun hc5=>?_)
   ·rw [if_pos (by omega)] at e
    simp (disch:=omega)only[go_sem, *]
   ·rw [if_neg (by omega)] at e
    simp (disch:=omega)only[go_sem, *]
  | r::l,R,hz,ih=>
   refine hU N R ?_
   intro s4 c4 h4 N4 f4 R4 a4
   clear a4
   have bo4:=bo.step olt f4
   have so4:=jH so bo f4
   have xb:Au h4 ((h4.alloc ⟨2,[[.i .i64 0,.i .i64 0]]⟩).put h4.next ⟨2,[[.i .i64 r.part,.i .i64 r.n]]⟩):=by (repeat (first | exact Au.refl _ | refine Au.alloc ?_ _ | (refine Au.put ?_ _ _ ?_;rotate_left;(first | omega | (simp only [Ag,Ai];omega)))))
   have N5:=N4.grow xb
   have so5:=so4.ext xb
   have hzl:=congrArg List.length hz
   simp only [List.length_append,List.length_cons] at hzl
   have l5:=N4.ext.lim
   simp only [Io] at l5
   simp (disch:=omega)only[go_sem, *]
   refine Az (so5.alloc _) (by simp only [go_sem, *]) (Nat.zero_le _) (by simp;omega) ?_
   intro w h6 s6 a6
   have a7:=LH a6 ((Au.refl _).alloc _) (Nat.zero_le _)
   obtain ⟨N6,b6⟩:=N5.app a7 bo4
   simp (disch:=omega)only[go_sem, *]
   refine ih _ _ _ ?_ ⟨s4,w,c4,l,A++[r],rfl, ?_⟩
   ·simp
   ·simp (disch:=omega)only[go_sem, *]
    exact ⟨by simpa [AM.enc] using s6,by rw [← hz];simp⟩
 ·simp (disch:=omega)only[go_sem, *]
  exact ⟨Sl.nil _ _ _,.inl rfl⟩
end Go.Ab.T
namespace Go.Ab.T
open Go Go.Ab
structure B1 where
 s:Int
 e:Int
 deriving DecidableEq,Inhabited
@[go_sem] def B1.enc (x:B1):List V:=[.i .i64 x.s,.i .i64 x.e]
def Hi (L:List AM):Prop:=A5 L∧Ax L≤4096
theorem Hi.nil:Hi []:=⟨fun _ h=>(by cases h),by simp [Ax]⟩
theorem Hi.tail {r:AM} {l:List AM} (h:Hi (r::l)):Hi l:=⟨fun x hx=>h.1 x (List.mem_cons_of_mem _ hx),by
 have:=h.1 r (List.mem_cons_self ..);have:=h.2;simp only [Ax] at this;omega⟩
def AU (p:Int):Int→List AM→List B1
 | _,[]=>[]
 | a,r::l=>(if r.part=p then [⟨a,a+r.n⟩] else [])++AU p (a+r.n) l
def LT (t:Int):List B1→Option Int
 | []=>none
 | s::l=>if t+1<s.e then some (max (t+1) s.s) else LT t l
def Ih (tt:List B1) (t n:Int):Int:=match LT t tt with | some x=>x | none=>n+(nth tt 0).s
def Fe (tt:List B1) (n:Int):List B1→Int→Int
 | [],w=>w
 | s::l,w=>Fe tt n l (max (max w (Ih tt s.s n - s.s)) (Ih tt (s.e - 1) n - (s.e - 1)))
def C3 (L:List AM) (f t:Int):Int:=if AU f 0 L=[] then 0 else if AU t 0 L=[] then -1 else Fe (AU t 0 L) (Ax L) (AU f 0 L) 0
def BD:List AM→List Int
 | []=>[]
 | r::l=>List.replicate r.n.toNat r.part++BD l
theorem El:∀ {L:List AM},A5 L→((BD L).length:Int)=Ax L
 | [],_=>rfl
 | r::l,h=>by
  have:=El (L:=l) (fun x hx=>h x (List.mem_cons_of_mem _ hx))
  have:=h r (List.mem_cons_self ..)
  simp only [BD,Ax,List.length_append,List.length_replicate];omega
theorem Ir {p:Int}:∀ {L:List AM} {a:Int},A5 L→(p∈BD L↔AU p a L≠[])
 | [],a,_=>by simp [BD,AU]
 | r::l,a,h=>by
  have ih:=Ir (p:=p) (L:=l) (a:=a+r.n) (fun x hx=>h x (List.mem_cons_of_mem _ hx))
  have:=h r (List.mem_cons_self ..)
  simp only [BD,AU,List.mem_append,List.mem_replicate,ih]
  by_cases hp:r.part=p
  ·rw [if_pos hp];simp;left;exact ⟨by omega,hp.symm⟩
  ·rw [if_neg hp]
   simp only [List.nil_append]
   constructor
   ·rintro (h | h)
    ·exact absurd h.2.symm hp
    ·exact h
   ·exact .inr
inductive Cb:Int→List B1→Int→Prop where
 | nil (a n:Int):a≤n→Cb a [] n
 | cons (a n:Int) (x:B1) (l:List B1):a≤x.s→x.s<x.e→Cb x.e l n→Cb a (x::l) n
theorem Cb.lo {a b n:Int} {l:List B1} (h:Cb b l n) (hab:a≤b):Cb a l n:=by
 cases h with
 | nil _ _ h=>exact .nil _ _ (by omega)
 | cons _ _ x l h1 h2 h3=>exact .cons _ _ _ _ (by omega) h2 h3
theorem Cb.le {a n:Int} {l:List B1} (h:Cb a l n):a≤n:=by
 induction h with
 | nil _ _ h=>exact h
 | cons _ _ x l h1 h2 _ ih=>omega
theorem Cb.mem {a n:Int} {l:List B1} (h:Cb a l n) {x:B1} (hx:x∈l):a≤x.s∧x.s<x.e∧x.e≤n:=by
 induction h with
 | nil=>cases hx
 | cons a n y l h1 h2 h3 ih=>
  have:=h3.le
  rcases List.mem_cons.1 hx with rfl | hx
  ·omega
  ·have:=ih hx;omega
theorem Bv {p:Int}:∀ {L:List AM} {a:Int},A5 L→Cb a (AU p a L) (a+Ax L)
 | [],a,_=>.nil _ _ (by simp [Ax])
 | r::l,a,h=>by
  have ih:=Bv (p:=p) (L:=l) (a:=a+r.n) (fun x hx=>h x (List.mem_cons_of_mem _ hx))
  have:=h r (List.mem_cons_self ..)
  have e:a+r.n+Ax l=a+Ax (r::l):=by simp only [Ax];omega
  rw [e] at ih
  rw [AU]
  split
  ·exact .cons _ _ _ _ (by simp only;omega) (by simp only;omega) ih
  ·exact ih.lo (by omega)
def Ij (W:List Int) (t:Int):Int:=nth W t.toNat
theorem GU {α:Type} [Inhabited α] {A B:List α} {i:Nat}:nth (A++B) i=if i<A.length then nth A i else nth B (i - A.length):=by
 unfold nth
 split
 ·simp only [List.getD];rw [List.getElem?_append_left (by assumption)]
 ·simp only [List.getD];rw [List.getElem?_append_right (by omega)]
theorem RR {α:Type} [Inhabited α] {a:α} {n i:Nat} (h:i<n):nth (List.replicate n a) i=a:=by simp [nth,List.getD,h]
theorem R7 {p:Int}:∀ {L:List AM} {a t:Int},A5 L→a≤t→t<a+Ax L→(Ij (BD L) (t - a)=p↔∃ s∈AU p a L,s.s≤t∧t<s.e)
 | [],a,t,_,h1,h2=>by simp [Ax] at h2;omega
 | r::l,a,t,h,h1,h2=>by
  have hp:=h r (List.mem_cons_self ..)
  have hl:A5 l:=fun x hx=>h x (List.mem_cons_of_mem _ hx)
  have hs:=Bv (p:=p) (L:=l) (a:=a+r.n) hl
  simp only [Ax] at h2
  by_cases ht:t<a+r.n
  ·have e:Ij (BD (r::l)) (t - a)=r.part:=by
    unfold Ij
    rw [BD,GU,if_pos (by simp;omega),RR (by omega)]
   rw [e,AU]
   constructor
   ·intro hq
    rw [if_pos hq]
    exact ⟨⟨a,a+r.n⟩,by simp,by simp only;omega,by simp only;omega⟩
   ·rintro ⟨s,hs1,hs2,hs3⟩
    by_cases hq:r.part=p
    ·exact hq
    ·rw [if_neg hq] at hs1
     have:=hs.mem hs1
     omega
  ·have e:Ij (BD (r::l)) (t - a)=Ij (BD l) (t - (a+r.n)):=by
    unfold Ij
    rw [BD,GU,if_neg (by simp;omega)]
    congr 1;simp;omega
   rw [e,R7 hl (by omega) (by omega),AU]
   constructor
   ·rintro ⟨s,a1,a2⟩;exact ⟨s,List.mem_append_right _ a1,a2⟩
   ·rintro ⟨s,a1,a2,a3⟩
    rcases List.mem_append.1 a1 with a1 | a1
    ·split at a1
     ·simp at a1;subst a1;simp only at a3;omega
     ·cases a1
    ·exact ⟨s,a1,a2,a3⟩
def EQ (W:List Int) (p t d:Int):Prop:=1≤d∧Ij W ((t+d) % W.length)=p∧∀ c,1≤c→c<d→Ij W ((t+c) % W.length)≠p
theorem EQ.uniq {W:List Int} {p t a b:Int} (x:EQ W p t a) (y:EQ W p t b):a=b:=by
 rcases Int.lt_trichotomy a b with h | h | h
 ·exact absurd x.2.1 (y.2.2 a x.1 h)
 ·exact h
 ·exact absurd y.2.1 (x.2.2 b y.1 h)
theorem EQ.step {W:List Int} {p t d:Int} (x:EQ W p t d) (h:1<d):EQ W p (t+1) (d - 1):=by
 refine ⟨by omega, ?_,fun c h1 h2=>?_⟩
 ·rw [show t+1+(d - 1)=t+d by omega];exact x.2.1
 ·rw [show t+1+c=t+(c+1) by omega];exact x.2.2 (c+1) (by omega) (by omega)
theorem E7 {t:Int}:∀ {l:List B1} {a n:Int},Cb a l n→(LT t l=none∧∀ s∈l,s.e≤t+1)∨∃ s∈l,LT t l=some (max (t+1) s.s)∧t+1<s.e∧∀ q∈l,q.e≤t+1∨s.s≤q.s
 | [],a,n,_=>.inl ⟨rfl,fun s h=>(by cases h)⟩
 | x::l,a,n,.cons _ _ _ _ h1 h2 h3=>by
  rw [LT]
  by_cases hc:t+1<x.e
  ·rw [if_pos hc]
   refine .inr ⟨x,List.mem_cons_self ..,rfl,hc,fun q hq=>?_⟩
   rcases List.mem_cons.1 hq with rfl | hq
   ·exact .inr (by omega)
   ·have:=h3.mem hq;exact .inr (by omega)
  ·rw [if_neg hc]
   rcases E7 h3 with ⟨a1,a2⟩ | ⟨s,a1,a2,a3,a4⟩
   ·refine .inl ⟨a1,fun s hs=>?_⟩
    rcases List.mem_cons.1 hs with rfl | hs
    ·omega
    ·exact a2 s hs
   ·refine .inr ⟨s,List.mem_cons_of_mem _ a1,a2,a3,fun q hq=>?_⟩
    rcases List.mem_cons.1 hq with rfl | hq
    ·exact .inl (by omega)
    ·exact a4 q hq
theorem It {L:List AM} {p t:Int} (h:A5 L) (ht0:0≤t) (ht:t<Ax L) (hne:AU p 0 L≠[]):EQ (BD L) p t (Ih (AU p 0 L) t (Ax L) - t):=by
 have hl:=El h
 have hs:=Bv (p:=p) (a:=0) h
 rw [Int.zero_add] at hs
 have hw:∀ x,0≤x→x<Ax L→(Ij (BD L) x=p↔∃ s∈AU p 0 L,s.s≤x∧x<s.e):=fun x h0 h1=>by
  have:=R7 (p:=p) (a:=0) (t:=x) h h0 (by omega)
  rwa [Int.sub_zero] at this
 unfold Ih
 rcases E7 (t:=t) hs with ⟨a1,a2⟩ | ⟨s,a1,a2,a3,a4⟩
 ·rw [a1]
  simp only
  obtain ⟨s0,l0,e0⟩:∃ s0 l0,AU p 0 L=s0::l0:=by
   match hh:AU p 0 L,hne with
   | a::b,_=>exact ⟨a,b,rfl⟩
  have m0:s0∈AU p 0 L:=by rw [e0];exact List.mem_cons_self ..
  have b0:=hs.mem m0
  have n0:nth (AU p 0 L) 0=s0:=by rw [e0];rfl
  rw [n0]
  refine ⟨by omega, ?_,fun c h1 h2=>?_⟩
  ·rw [show t+(Ax L+s0.s - t)=s0.s+((BD L).length:Int) by omega,Int.add_emod_right,Int.emod_eq_of_lt (by omega) (by omega)]
   exact (hw s0.s (by omega) (by omega)).2 ⟨s0,m0,by omega,by omega⟩
  ·by_cases hc:t+c<Ax L
   ·rw [Int.emod_eq_of_lt (by omega) (by omega)]
    intro he
    obtain ⟨s,m1,m2,m3⟩:=(hw (t+c) (by omega) hc).1 he
    have:=a2 s m1;omega
   ·rw [show t+c=(t+c - (BD L).length)+((BD L).length:Int) by omega,Int.add_emod_right,Int.emod_eq_of_lt (by omega) (by omega)]
    intro he
    obtain ⟨s,m1,m2,m3⟩:=(hw (t+c - (BD L).length) (by omega) (by omega)).1 he
    have hs2:=hs
    rw [e0] at hs2 m1
    cases hs2 with
    | cons _ _ _ _ q1 q2 q3=>
     rcases List.mem_cons.1 m1 with rfl | m1
     ·omega
     ·have:=q3.mem m1;omega
 ·rw [a2]
  simp only
  have b:=hs.mem a1
  refine ⟨by omega, ?_,fun c h1 h2=>?_⟩
  ·rw [show t+(max (t+1) s.s - t)=max (t+1) s.s by omega,Int.emod_eq_of_lt (by omega) (by omega)]
   exact (hw _ (by omega) (by omega)).2 ⟨s,a1,by omega,by omega⟩
  ·rw [Int.emod_eq_of_lt (by omega) (by omega)]
   intro he
   obtain ⟨q,m1,m2,m3⟩:=(hw (t+c) (by omega) (by omega)).1 he
   rcases a4 q m1 with h5 | h5<;>omega
def E4 (W:List Int) (f:Int) (F:Int→Int):List Int→Int→Int→Int
 | [],_,w=>w
 | p::l,t,w=>E4 W f F l (t+1) (if p=f then max w (F t) else w)
theorem M3 {W:List Int} {f:Int} {F:Int→Int}:∀ (A B:List Int) (t w:Int),E4 W f F (A++B) t w=E4 W f F B (t+A.length) (E4 W f F A t w)
 | [],B,t,w=>by simp [E4]
 | p::A,B,t,w=>by
  rw [List.cons_append,E4,E4,M3 A B]
  congr 1;simp;omega
theorem Jq {W:List Int} {f p:Int} {F:Int→Int} (hp:p≠f):∀ (n:Nat) (t w:Int),E4 W f F (List.replicate n p) t w=w
 | 0,t,w=>rfl
 | n+1,t,w=>by rw [List.replicate_succ,E4,if_neg hp,Jq hp n]
theorem M4 {W:List Int} {f:Int} {F:Int→Int} (X:Int):∀ (n:Nat) (t w:Int),X≤w→(∀ i,t≤i→i<t+n→F i≤max X (F (t+n - 1)))→E4 W f F (List.replicate n f) t w=if n=0 then w else max w (F (t+n - 1))
 | 0,t,w,_,_=>rfl
 | n+1,t,w,hX,h=>by
  rw [List.replicate_succ,E4,if_pos rfl,M4 X n (t+1) _ (by omega) (fun i h1 h2=>by
   have:=h i (by omega) (by omega)
   rw [show t+1+(n:Int) - 1=t+((n+1:Nat):Int) - 1 by omega];exact this)]
  have h0:=h t (by omega) (by omega)
  by_cases hn:n=0
  ·subst hn;simp
  ·rw [if_neg hn,if_neg (by omega),show t+1+(n:Int) - 1=t+((n+1:Nat):Int) - 1 by omega];omega
theorem XO {W:List Int} {f:Int} {F:Int→Int} {n:Nat} {t w:Int} (hn:1≤n) (h:∀ i,t≤i→i<t+n→F i≤max (F t) (F (t+n - 1))):E4 W f F (List.replicate n f) t w=max (max w (F t)) (F (t+n - 1)):=by
 obtain ⟨m,rfl⟩:∃ m,n=m+1:=⟨n - 1,by omega⟩
 rw [List.replicate_succ,E4,if_pos rfl,M4 (F t) m (t+1) _ (by omega) (fun i h1 h2=>by
  have:=h i (by omega) (by omega)
  rw [show t+1+(m:Int) - 1=t+((m+1:Nat):Int) - 1 by omega];exact this)]
 by_cases hn:m=0
 ·subst hn;simp
 ·rw [if_neg hn,show t+1+(m:Int) - 1=t+((m+1:Nat):Int) - 1 by omega]
theorem MU {M : List AM} {f p : Int} (hM : A5 M) (hne : AU p 0 M ≠ []) : ∀ (L : List AM) (a w : Int) (A : List Int), A5 L → BD M = A ++ BD L → (A.length : Int) = a →
    E4 (BD M) f (fun t=>Ih (AU p 0 M) t (Ax M) - t) (BD L) a w=Fe (AU p 0 M) (Ax M) (AU f a L) w
 | [],a,w,A,_,_,_=>rfl
 | r::l,a,w,A,h,hA,ha=>by
  have hp:=h r (List.mem_cons_self ..)
  have hl:A5 l:=fun x hx=>h x (List.mem_cons_of_mem _ hx)
  have hwl:=El hM
  have hwl2:=El hl
  have hAl:=congrArg List.length hA
  simp only [BD,List.length_append,List.length_replicate] at hAl
  have hsum:a+r.n+Ax l=Ax M:=by omega
  have hs0:=BN hl
  have hrest:=fun w=>MU (f:=f) hM hne l (a+r.n) w (A++List.replicate r.n.toNat r.part) hl (by rw [hA,BD,List.append_assoc]) (by simp;omega)
  rw [BD,M3,AU]
  rw [show a+((List.replicate r.n.toNat r.part).length:Int)=a+r.n by simp;omega]
  by_cases hq:r.part=f
  ·rw [if_pos hq,hq]
   have hin:∀ i,a≤i→i<a+r.n→Ij (BD M) i=f:=by
    intro i h1 h2
    unfold Ij
    rw [hA,GU,if_neg (by omega),BD,GU,if_pos (by simp;omega),RR (by omega)];exact hq
   have hd:∀ i,a≤i→i<a+r.n→EQ (BD M) p i (Ih (AU p 0 M) i (Ax M) - i):=fun i h1 h2=>It hM (by omega) (by omega) hne
   have key:∀ i,a≤i→i<a+r.n.toNat→(fun t=>Ih (AU p 0 M) t (Ax M) - t) i≤max ((fun t=>Ih (AU p 0 M) t (Ax M) - t) a) ((fun t=>Ih (AU p 0 M) t (Ax M) - t) (a+r.n.toNat - 1)):=by
    intro i h1 h2
    simp only
    by_cases hfp:f=p
    ·by_cases hlast:i=a+r.n.toNat - 1
     ·subst hlast;omega
     ·have d1:EQ (BD M) p i 1:=⟨by omega,by
       rw [Int.emod_eq_of_lt (by omega) (by omega),hin _ (by omega) (by omega)];exact hfp,fun c h3 h4=>by omega⟩
      have e1:=(hd i h1 (by omega)).uniq d1
      have e2:=(hd (a+r.n.toNat - 1) (by omega) (by omega)).1
      omega
    ·have dec:∀ k:Nat,a+k<a+r.n→Ih (AU p 0 M) (a+k) (Ax M) - (a+k)≤Ih (AU p 0 M) a (Ax M) - a:=by
      intro k
      induction k with
      | zero=>intro _;simp
      | succ k ih=>
       intro hk
       have ih:=ih (by omega)
       have d:=hd (a+k) (by omega) (by omega)
       have g:1<Ih (AU p 0 M) (a+k) (Ax M) - (a+k):=by
        have h1:=d.1
        rcases Int.lt_or_eq_of_le h1 with h2 | h2
        ·exact h2
        ·have h3:=d.2.1
         rw [← h2,Int.emod_eq_of_lt (by omega) (by omega),hin _ (by omega) (by omega)] at h3
         exact absurd h3 hfp
       have d2:=d.step g
       have e:=(hd (a+k+1) (by omega) (by omega)).uniq d2
       rw [show a+((k+1:Nat):Int)=a+k+1 by omega]
       omega
     have:=dec (i - a).toNat (by omega)
     rw [show a+((i - a).toNat:Int)=i by omega] at this
     omega
   rw [XO (by omega) key,hrest]
   rw [List.singleton_append,Fe]
   simp only
   rw [show a+(r.n.toNat:Int) - 1=a+r.n - 1 by omega]
  ·rw [if_neg hq,Jq hq,hrest,List.nil_append]
end Go.Ab.T
namespace Go.Ab.T
open Go Go.Ab
def Gm (t u:Int):List B1→Int→Int
 | [],n=>n
 | s::l,n=>Gm t u l (n+max 0 (min s.e u - max s.s t))
def HB (F:Int→Int) (P:Int):Nat→Int→Int→Int
 | 0,_,w=>w
 | k+1,t,w=>HB F P k (t+P) (min w (F t))
def GF (L:List AM) (p P:Int):Int:=if P<1∨Ax L=0∨Ax L % P≠0 then -1 else HB (fun t=>Gm t (t+P) (AU p 0 L) 0) P (Ax L / P).toNat 0 P
def DH (p:Int):List Int→Int→Int
 | [],n=>n
 | x::l,n=>DH p l (if x=p then n+1 else n)
theorem Hp (p:Int):∀ (l:List Int) (n:Int),DH p l n=n+DH p l 0
 | [],n=>by simp [DH]
 | x::l,n=>by rw [DH,DH,Hp p l,Hp p l (if x=p then 0+1 else 0)];split<;>omega
theorem My (p:Int):∀ (l:List Int) (n:Int),DH p l n≤n+l.length
 | [],n=>by simp [DH]
 | x::l,n=>by
  have:=My p l (if x=p then n+1 else n)
  rw [DH];simp only [List.length_cons];split at this<;>split<;>simp_all<;>omega
def cnt (p t u:Int):Int→List Int→Int
 | _,[]=>0
 | a,x::l=>(if x=p∧t≤a∧a<u then 1 else 0)+cnt p t u (a+1) l
theorem Im {p t u:Int}:∀ (A B:List Int) (a:Int),cnt p t u a (A++B)=cnt p t u a A+cnt p t u (a+A.length) B
 | [],B,a=>by simp [cnt]
 | x::A,B,a=>by
  rw [List.cons_append,cnt,cnt,Im A B,show a+1+(A.length:Int)=a+((x::A).length:Int) by simp;omega];omega
theorem Q7 {p q t u:Int}:∀ (n:Nat) (a:Int),cnt p t u a (List.replicate n q)=if q=p then max 0 (min (a+n) u - max a t) else 0
 | 0,a=>by simp [cnt];intro _;omega
 | n+1,a=>by
  rw [List.replicate_succ,cnt,Q7 n]
  by_cases hq:q=p
  ·simp only [hq,true_and,if_true]
   split<;>omega
  ·simp [hq]
theorem Hq {p t u:Int}:∀ (L:List AM) (a w:Int),A5 L→Gm t u (AU p a L) w=w+cnt p t u a (BD L)
 | [],a,w,_=>by simp [AU,Gm,BD,cnt]
 | r::l,a,w,h=>by
  have hp:=h r (List.mem_cons_self ..)
  have hl:A5 l:=fun x hx=>h x (List.mem_cons_of_mem _ hx)
  rw [AU,BD,Im,Q7]
  by_cases hq:r.part=p
  ·rw [if_pos hq,if_pos hq,List.singleton_append,Gm,Hq l _ _ hl]
   simp only [List.length_replicate]
   rw [show a+(r.n.toNat:Int)=a+r.n by omega];omega
  ·rw [if_neg hq,if_neg hq,List.nil_append,Hq l _ _ hl]
   simp only [List.length_replicate]
   rw [show a+(r.n.toNat:Int)=a+r.n by omega];omega
theorem Lu {p t u:Int}:∀ (A:List Int) (a:Int),a+A.length≤t∨u≤a→cnt p t u a A=0
 | [],a,_=>rfl
 | x::A,a,h=>by
  simp only [List.length_cons] at h
  rw [cnt,Lu A (a+1) (by omega),if_neg (by omega)];rfl
theorem VC {p t u:Int}:∀ (A:List Int) (a:Int),t≤a→a+A.length≤u→cnt p t u a A=DH p A 0
 | [],a,_,_=>rfl
 | x::A,a,h1,h2=>by
  simp only [List.length_cons] at h2
  rw [cnt,VC A (a+1) (by omega) (by omega),DH,Hp p A (if x=p then 0+1 else 0)]
  by_cases hx:x=p
  ·rw [if_pos hx,if_pos ⟨hx,h1,by omega⟩];omega
  ·rw [if_neg hx,if_neg (fun h=>hx h.1)]
theorem KK {L:List AM} {p t P:Int} (h:A5 L) (h0:0≤t) (hP:0≤P) (h1:t+P≤Ax L):Gm t (t+P) (AU p 0 L) 0=DH p (((BD L).drop t.toNat).take P.toNat) 0:=by
 have hl:=El h
 rw [Hq L 0 0 h]
 have e:BD L=(BD L).take t.toNat++(((BD L).drop t.toNat).take P.toNat++((BD L).drop t.toNat).drop P.toNat):=by
  rw [List.take_append_drop,List.take_append_drop]
 conv=>lhs;rw [e]
 rw [Im,Im]
 simp only [List.length_take,List.length_drop]
 rw [Lu _ _ (.inl (by simp only [List.length_take];omega)),VC _ _ (by omega) (by simp only [List.length_take,List.length_drop];omega),Lu _ _ (.inr (by omega))]
 omega
theorem gY {F:Int→Int} {P:Int}:∀ (k:Nat) (t w v:Int),(∀ i:Nat,i<k→F (t+i*P)≤v)→v≤w→1≤k→HB F P k t w=HB F P k t v
 | 0,t,w,v,_,_,hk=>by omega
 | k+1,t,w,v,h,hv,_=>by
  have h0:=h 0 (by omega)
  simp only [Int.natCast_zero,Int.zero_mul,Int.add_zero] at h0
  rw [HB,HB]
  congr 1
  omega
end Go.Ab.T
namespace Go.Ab.T
open Go Go.Ab
theorem Hi.ok {L:List AM} (h:Hi L):DW L:=Gw h.1 (by have:=h.2;omega)
theorem Hi.length {L:List AM} (h:Hi L):Cj L 0=Ax L:=by rw [GS L 0 h.1 (by omega) (by have:=h.2;omega)];omega
theorem JG {L:List AM} {p:Int} (hf:Hi L):Pf tp P2 [.fl 2 (L.map AM.enc),.i .i64 p] (.fl 2 ((AU p 0 L).map B1.enc)):=by
 refine AG fE (by simp [JV]) fun rp=>?_;unfold JV;simp (disch:=omega)only[go_sem, *]
 have hL:=rp.head.len
 obtain ⟨hp,hs⟩:=hf
 refine Ah (fun n e h=>∃ (i:Nat) (a:Int) (o:V) (A:List B1),n=L.length - i∧h.lim=0∧e 10=.fl 2 (L.map AM.enc)∧e 11=.i .i64 L.length∧e 12=.i .i64 i∧e 1=.i .i64 p∧e 5=o∧e 6=.i .i64 a∧i≤L.length∧0≤a∧a+Ax (L.drop i)≤4096∧A.length≤i∧Sl 0 h 2 o (A.map B1.enc)∧A++AU p a (L.drop i)=AU p 0 L) ?_ _ _ _ ⟨0,0,.ns,[],rfl, ?_⟩
 ·rintro n e h ⟨i,a,o,A,rfl,hl,e10,e11,e12,e1,e5,e6,hi,ha,has,hA,so,hz⟩ ih
  rw [An QX.eq_1]
  simp (disch:=omega)only[go_sem, *]
  refine Aa (fun hc=>?_) (fun hc=>?_)
  ·have hn:=hp.nth (i:=i) (by omega)
   have hd:=AK (L:=L) (i:=i) (by omega)
   have hsd:=BN (w:=L.drop (i+1)) (fun q hq=>hp q (List.mem_of_mem_drop hq))
   rw [hd,AU] at hz
   rw [hd,Ax] at has
   clear hd
   simp (disch:=omega)only[go_sem, *]
   have hadd:=IJ (a:=a) (b:=(nth L i).n) (by omega) (by omega) (by omega)
   refine Pf.go (Ph (a:=a) (b:=(nth L i).n) (by omega) (by omega)) (by simp only [go_sem]) fun _=>?_;simp (disch:=omega)only[go_sem, *]
   have x1:∀ k,Au h ((h.alloc ⟨2,[[.i .i64 0,.i .i64 0]]⟩).put h.next k):=fun k=>by (repeat (first | exact Au.refl _ | refine Au.alloc ?_ _ | (refine Au.put ?_ _ _ ?_;rotate_left;(first | omega | (simp only [Ag,Ai];omega)))))
   refine Av (fun hc2=>?_) (fun hc2=>?_)
   ·rw [if_pos hc2] at hz
    simp (disch:=omega)only[go_sem, *]
    refine Aa (fun hc3=>?_) (fun hc3=>by omega)
    simp (disch:=omega)only[go_sem, *]
    refine Az (R:=A.map B1.enc) ((so.ext (x1 _)).alloc _) (by simp only [go_sem, *]) (Nat.zero_le _) (by simp;omega) ?_
    intro w h4 s4 g4
    have hl4:=g4.lim
    simp (disch:=omega)only[go_sem, *]
    refine ih _ _ _ ?_ ⟨i+1,a+(nth L i).n,w,A++[⟨a,a+(nth L i).n⟩],rfl, ?_⟩
    ·omega
    ·simp (disch:=omega)only[go_sem, *]
     ((repeat' refine And.intro ?_ ?_)<;>first | omega | assumption | (simp;omega) | (simpa [B1.enc] using s4) | ((rw [← hz];simp)))
   ·rw [if_neg hc2] at hz
    simp (disch:=omega)only[go_sem, *]
    refine ih _ _ _ ?_ ⟨i+1,a+(nth L i).n,o,A,rfl, ?_⟩
    ·omega
    ·simp (disch:=omega)only[go_sem, *]
     ((repeat' refine And.intro ?_ ?_)<;>first | omega | assumption | (exact so.ext (x1 _)) | ((rw [← hz];simp)))
  ·rw [List.drop_eq_nil_of_le (by omega),AU,List.append_nil] at hz
   simp (disch:=omega)only[go_sem, *]
   subst hz
   exact so.froze (fun _=>rfl) trivial (by omega)
 ·simp (disch:=omega)only[go_sem, *]
  exact ⟨by simp;omega,Sl.nil _ _ _⟩
theorem RO {A:List B1} {t N a:Int} (hs:Cb a A N) (ha:0≤a) (hn:N≤4096) (ht:0≤t∧t≤4096) (hne:A≠[]):Pf tp P4 [.fl 2 (A.map B1.enc),.i .i64 t,.i .i64 N] (.i .i64 (Ih A t N)):=by
 refine AG fG (by simp [JX]) fun rp=>?_;unfold JX;simp (disch:=omega)only[go_sem, *]
 have hL:=rp.head.len
 have hlen:0<A.length:=List.length_pos_iff.2 hne
 refine Ah (fun n e h=>∃ (i:Nat),n=A.length - i∧h.lim=0∧e 9=.fl 2 (A.map B1.enc)∧e 10=.i .i64 A.length∧e 11=.i .i64 i∧e 0=.fl 2 (A.map B1.enc)∧e 1=.i .i64 t∧e 2=.i .i64 N∧i≤A.length∧LT t (A.drop i)=LT t A) ?_ _ _ _ ⟨0,rfl, ?_⟩
 ·rintro n e h ⟨i,rfl,hl,e9,e10,e11,e0,e1,e2,hi,hz⟩ ih
  rw [An T9.eq_1]
  simp (disch:=omega)only[go_sem, *]
  refine Aa (fun hc=>?_) (fun hc=>?_)
  ·have hm:=hs.mem (AP (L:=A) (j:=i) (by omega))
   rw [AK (by omega),LT] at hz
   simp (disch:=omega)only[go_sem, *]
   refine Aa (fun hc2=>?_) (fun hc2=>?_)
   ·rw [if_pos hc2] at hz
    unfold Ih
    rw [← hz]
    simp (disch:=omega)only[go_sem, *]
   ·rw [if_neg hc2] at hz
    simp (disch:=omega)only[go_sem, *]
    refine ih _ _ _ ?_ ⟨i+1,rfl, ?_⟩
    ·omega
    ·simp (disch:=omega)only[go_sem, *]
     ((repeat' refine And.intro ?_ ?_)<;>first | omega | assumption)
  ·have hm:=hs.mem (AP (L:=A) (j:=0) (by omega))
   rw [List.drop_eq_nil_of_le (by omega),LT] at hz
   unfold Ih
   rw [← hz]
   have z0:Int.toNat 0=0:=rfl
   have hlen2:(0:Int)<A.length:=by omega
   simp (disch:=omega)only[go_sem, *]
 ·simp (disch:=omega)only[go_sem, *]
end Go.Ab.T
namespace Go.Ab.T
open Go Go.Ab
set_option maxHeartbeats 1000000
theorem Qn {A:List B1} {t n:Int} (hs:Cb 0 A n) (ht:t<n) (hne:A≠[]):Ih A t n≤n+n:=by
 have hm:=hs.mem (AP (L:=A) (j:=0) (List.length_pos_iff.2 hne))
 unfold Ih
 rcases E7 (t:=t) hs with ⟨h,_⟩ | ⟨s,hs1,h,h2,_⟩
 ·rw [h];simp only;omega
 ·rw [h];simp only
  have:=hs.mem hs1
  omega
theorem gN {L:List AM} {f t:Int} (hf:Hi L):Pf tp PP [.fl 2 (L.map AM.enc),.i .i64 f,.i .i64 t] (.i .i64 (C3 L f t)):=by
 refine AG eS (by simp [JK]) fun rp=>?_;unfold JK;simp (disch:=omega)only[go_sem, *]
 have hss:=Bv (p:=f) (a:=0) hf.1
 have hst:=Bv (p:=t) (a:=0) hf.1
 rw [Int.zero_add] at hss hst
 have hlen:=hf.length
 have hs0:=BN hf.1
 have hs4:=hf.2
 refine Pf.go (JG (p:=f) hf) (by simp only [go_sem]) fun q1=>?_
 have hq1:=q1.len
 simp (disch:=omega)only[go_sem, *]
 refine Pf.go (JG (p:=t) hf) (by simp only [go_sem]) fun _=>?_;simp (disch:=omega)only[go_sem, *]
 unfold C3
 refine Aa (fun hc=>?_) (fun hc=>?_)
 ·have e:AU f 0 L=[]:=List.length_eq_zero_iff.1 (by omega)
  rw [if_pos e]
  simp (disch:=omega)only[go_sem, *]
 have e:AU f 0 L≠[]:=fun h=>hc (by rw [h];rfl)
 rw [if_neg e]
 clear e
 simp (disch:=omega)only[go_sem, *]
 refine Aa (fun hc=>?_) (fun hc=>?_)
 ·have e:AU t 0 L=[]:=List.length_eq_zero_iff.1 (by omega)
  rw [if_pos e]
  simp (disch:=omega)only[go_sem, *]
 have hst0:AU t 0 L≠[]:=fun h=>hc (by rw [h];rfl)
 rw [if_neg hst0]
 simp (disch:=omega)only[go_sem, *]
 refine Pf.go (KY hf.ok) (by simp only [go_sem]) fun _=>?_;simp (disch:=omega)only[go_sem, *]
 refine Ah (fun n e h=>∃ (i:Nat) (w:Int),n=(AU f 0 L).length - i∧h.lim=0∧e 31=.fl 2 ((AU f 0 L).map B1.enc)∧e 32=.i .i64 (AU f 0 L).length∧e 33=.i .i64 i∧e 8=.fl 2 ((AU t 0 L).map B1.enc)∧e 9=.i .i64 (Ax L)∧e 10=.i .i64 w∧i≤(AU f 0 L).length∧Fe (AU t 0 L) (Ax L) ((AU f 0 L).drop i) w=Fe (AU t 0 L) (Ax L) (AU f 0 L) 0) ?_ _ _ _ ⟨0,0,rfl, ?_⟩
 ·rintro n e h ⟨i,w,rfl,hl,e31,e32,e33,e8,e9,e10,hi,hz⟩ ih
  rw [An QT.eq_1]
  simp (disch:=omega)only[go_sem, *]
  refine Aa (fun hc=>?_) (fun hc=>?_)
  ·have hm:=hss.mem (AP (L:=AU f 0 L) (j:=i) (by omega))
   rw [AK (by omega),Fe] at hz
   simp (disch:=omega)only[go_sem, *]
   refine BH ?_
   rw [An Il.eq_1]
   simp (disch:=omega)only[go_sem, *]
   try (refine Aa (fun hc9=>?_) (fun hc9=>absurd hc9 (by decide));simp (disch:=omega)only[go_sem, *])
   refine Pf.go (RO hst (Int.le_refl 0) hf.2 (by omega) hst0) (by simp only [go_sem]) fun _=>?_;simp (disch:=omega)only[go_sem, *]
   have hnx:=It hf.1 (t:=(nth (AU f 0 L) i).s) (by omega) (by omega) hst0
   have hnx1:=hnx.1
   have hnx2:=Qn (t:=(nth (AU f 0 L) i).s) hst (by omega) hst0
   try simp (disch:=omega)only[go_sem, *]
   refine BH ?_
   rw [An Il.eq_1]
   simp (disch:=omega)only[go_sem, *]
   try (refine Aa (fun hc9=>?_) (fun hc9=>absurd hc9 (by decide));simp (disch:=omega)only[go_sem, *])
   refine Pf.go (RO hst (Int.le_refl 0) hf.2 (by omega) hst0) (by simp only [go_sem]) fun _=>?_;simp (disch:=omega)only[go_sem, *]
   have hnx:=It hf.1 (t:=(nth (AU f 0 L) i).e - 1) (by omega) (by omega) hst0
   have hnx1:=hnx.1
   have hnx2:=Qn (t:=(nth (AU f 0 L) i).e - 1) hst (by omega) hst0
   try simp (disch:=omega)only[go_sem, *]
   refine BH ?_
   rw [An Il.eq_1]
   simp (disch:=omega)only[go_sem, *]
   try (refine Aa (fun hc9=>absurd hc9 (by decide)) (fun hc9=>?_);simp (disch:=omega)only[go_sem, *])
   refine ih _ _ _ ?_ ⟨i+1,(max (max w (Ih (AU t 0 L) (nth (AU f 0 L) i).s (Ax L) - (nth (AU f 0 L) i).s)) (Ih (AU t 0 L) ((nth (AU f 0 L) i).e - 1) (Ax L) - ((nth (AU f 0 L) i).e - 1))),rfl, ?_⟩
   ·omega
   ·simp (disch:=omega)only[go_sem, *]
    ((repeat' refine And.intro ?_ ?_)<;>first | omega | assumption)
  ·rw [List.drop_eq_nil_of_le (by omega),Fe] at hz
   simp (disch:=omega)only[go_sem, *]
 ·simp (disch:=omega)only[go_sem, *]
end Go.Ab.T
namespace Go.Ab.T
open Go Go.Ab
set_option maxHeartbeats 1000000
@[go_sem] def Eo (x:Int):List V:=[.i .i64 x]
@[go_sem] def EB (z:Int):List V:=[.i .u8 z]
@[go_sem] def Fh (n:Int):List V:=[.i .u32 n]
set_option maxRecDepth 4000 in
theorem OY {L:List AM} (hf:Hi L):Pf tp WX [.fl 2 (L.map AM.enc)] (.fl 1 ((BD L).map Eo)):=by
 refine AG aEn (by simp [Oq]) fun rp=>?_;unfold Oq;simp (disch:=omega)only[go_sem, *]
 have hL:=rp.head.len
 have hwl:=El hf.1
 have hs4:=hf.2
 refine Ah (fun n e h=>∃ (i:Nat) (o:V) (A:List Int),n=L.length - i∧h.lim=0∧e 7=.fl 2 (L.map AM.enc)∧e 8=.i .i64 L.length∧e 9=.i .i64 i∧e 3=o∧i≤L.length∧Sl 0 h 1 o (A.map Eo)∧A++BD (L.drop i)=BD L) ?_ _ _ _ ⟨0,.ns,[],rfl, ?_⟩
 ·rintro n e h ⟨i,o,A,rfl,hl,e7,e8,e9,e3,hi,so,hz⟩ ih
  rw [An Uu.eq_1]
  simp (disch:=omega)only[go_sem, *]
  refine Aa (fun hc=>?_) (fun hc=>?_)
  ·have hn:=hf.1.nth (i:=i) (by omega)
   rw [AK (by omega),BD] at hz
   have hzl:=congrArg List.length hz
   simp only [List.length_append,List.length_replicate] at hzl
   simp (disch:=omega)only[go_sem, *]
   have x1:∀ k,Au h ((h.alloc ⟨2,[[.i .i64 0,.i .i64 0]]⟩).put h.next k):=fun k=>by (repeat (first | exact Au.refl _ | refine Au.alloc ?_ _ | (refine Au.put ?_ _ _ ?_;rotate_left;(first | omega | (simp only [Ag,Ai];omega)))))
   have bx:((h.alloc ⟨2,[[.i .i64 0,.i .i64 0]]⟩).put h.next ⟨2,[[.i .i64 (nth L i).part,.i .i64 (nth L i).n]]⟩).get h.next=some ⟨2,[[.i .i64 (nth L i).part,.i .i64 (nth L i).n]]⟩:=by simp (disch:=omega)only[go_sem, *]
   have so1:=so.ext (x1 ⟨2,[[.i .i64 (nth L i).part,.i .i64 (nth L i).n]]⟩)
   have hl1:((h.alloc ⟨2,[[.i .i64 0,.i .i64 0]]⟩).put h.next ⟨2,[[.i .i64 (nth L i).part,.i .i64 (nth L i).n]]⟩).lim=0:=by simp (disch:=omega)only[go_sem, *]
   have hid:AD o=true∨Aq o≠h.next:=(CY so).imp (fun x=>x) (fun x=>by omega)
   have hlt:h.next<((h.alloc ⟨2,[[.i .i64 0,.i .i64 0]]⟩).put h.next ⟨2,[[.i .i64 (nth L i).part,.i .i64 (nth L i).n]]⟩).next:=by simp (disch:=omega)only[go_sem, *];omega
   generalize ((h.alloc ⟨2,[[.i .i64 0,.i .i64 0]]⟩).put h.next ⟨2,[[.i .i64 (nth L i).part,.i .i64 (nth L i).n]]⟩)=hh at bx so1 hl1 hlt ⊢
   generalize h.next=b at bx hid hlt ⊢
   refine Ah (fun n e h=>∃ (j:Nat) (o:V) (B:List Int),n=(nth L i).n.toNat - j∧h.lim=0∧e 7=.fl 2 (L.map AM.enc)∧e 8=.i .i64 L.length∧e 9=.i .i64 i∧e 3=o∧e 5=.p b 0 0∧e 6=.i .i64 j∧h.get b=some ⟨2,[[.i .i64 (nth L i).part,.i .i64 (nth L i).n]]⟩∧(AD o=true∨Aq o≠b)∧b<h.next∧Sl 0 h 1 o (B.map Eo)∧j≤(nth L i).n.toNat∧A++List.replicate j (nth L i).part=B) ?_ _ _ _ ⟨0,o,A,rfl, ?_⟩
   ·rintro n e h ⟨j,o,B,rfl,hl,e7,e8,e9,e3,e5,e6,bx,hid,hlt,so,hj,hB⟩ ih2
    obtain ⟨olen,obig,olt,olo,oget,oat,orow,ocell,ocells⟩:=so.facts
    have hBl:=congrArg List.length hB
    simp only [List.length_append,List.length_replicate] at hBl
    rw [An oA.eq_1]
    simp (disch:=omega)only[go_sem, *]
    refine Av (fun hc2=>?_) (fun hc2=>?_)
    ·have hB8:((B.length:Int)<8192):=by omega
     simp (disch:=omega)only[go_sem, *]
     refine Az (so.alloc _) (by simp only [go_sem, *]) (Nat.zero_le _) (by simp;omega) ?_
     intro w h4 s4 g4
     have g5:=LH g4 ((Au.refl _).alloc _) (Nat.zero_le _)
     have hl4:=g5.lim
     have hn4:=g5.next
     have hb4:=g5.get b hlt (hid.imp (fun x=>x) (fun x=>x.symm))
     have hid4:AD w=true∨Aq w≠b:=by
      rcases g5.own with h1 | ⟨h1,h2⟩ | h1
      ·exact .inl h1
      ·rcases hid with h3 | h3
       ·rw [h3] at h1;cases h1
       ·exact .inr (by omega)
      ·exact .inr (by omega)
     simp (disch:=omega)only[go_sem, *]
     refine ih2 _ _ _ ?_ ⟨j+1,w,B++[(nth L i).part],rfl, ?_⟩
     ·omega
     ·simp (disch:=omega)only[go_sem, *]
      ((repeat' refine And.intro ?_ ?_)<;>first | omega | assumption | (simpa [Eo] using s4) | ((rw [← hB,List.replicate_succ',List.append_assoc])))
    ·simp (disch:=omega)only[go_sem, *]
     have hj2:j=(nth L i).n.toNat:=by omega
     refine ih _ _ _ ?_ ⟨i+1,o,B,rfl, ?_⟩
     ·omega
     ·simp (disch:=omega)only[go_sem, *]
      ((repeat' refine And.intro ?_ ?_)<;>first | omega | assumption | ((rw [← hB,hj2,List.append_assoc];exact hz)))
   ·simp (disch:=omega)only[go_sem, *]
  ·rw [List.drop_eq_nil_of_le (by omega),BD,List.append_nil] at hz
   simp (disch:=omega)only[go_sem, *]
   subst hz
   exact so.froze (fun _=>rfl) trivial (by omega)
 ·simp (disch:=omega)only[go_sem, *]
  exact Sl.nil _ _ _
def M9 (p:Int):List Int→Bool→Bool
 | [],b=>b
 | x::l,b=>M9 p l (b||decide (x=p))
theorem Js (p:Int):∀ (l:List Int) (b:Bool),M9 p l b=(b||decide (p∈l))
 | [],b=>by simp [M9]
 | x::l,b=>by
  rw [M9,Js p l]
  by_cases h:x=p
  ·subst h;simp
  ·have h2:¬ p=x:=fun q=>h q.symm
   simp [h,h2]
end Go.Ab.T
namespace Go.Ab.T
open Go Go.Ab
set_option maxHeartbeats 1000000
theorem Jy {L:List AM} {f t:Int} (hf:Hi L):Pf tp WG [.fl 2 (L.map AM.enc),.i .i64 f,.i .i64 t] (.i .i64 (C3 L f t)):=by
 refine AG aD2 (by simp [NX]) fun rp=>?_;unfold NX;simp (disch:=omega)only[go_sem, *]
 have hL:=rp.head.len
 have hwl:=El hf.1
 have hs4:=hf.2
 have hs0:=BN hf.1
 refine Pf.go (OY hf) (by simp only [go_sem]) fun _=>?_;simp (disch:=omega)only[go_sem, *]
 have r0:(if f∈BD L then if t∈BD L then E4 (BD L) f (fun x=>Ih (AU t 0 L) x (Ax L) - x) (BD L) 0 0 else -1 else 0)=C3 L f t:=by
  unfold C3
  have m1:=Ir (p:=f) (a:=0) hf.1
  have m2:=Ir (p:=t) (a:=0) hf.1
  by_cases h1:AU f 0 L=[]
  ·rw [if_pos h1,if_neg (by rw [m1];exact fun h=>h h1)]
  ·rw [if_neg h1,if_pos (m1.2 h1)]
   by_cases h2:AU t 0 L=[]
   ·rw [if_pos h2,if_neg (by rw [m2];exact fun h=>h h2)]
   ·rw [if_neg h2,if_pos (m2.2 h2)]
    exact MU hf.1 h2 L 0 0 [] hf.1 rfl rfl
 rw [← r0]
 clear r0
 refine Ah (fun n e h=>∃ (i:Nat) (s:Bool) (y:Bool),n=(BD L).length - i∧h.lim=0∧e 18=.fl 1 ((BD L).map Eo)∧e 19=.i .i64 (BD L).length∧e 20=.i .i64 i∧e 1=.i .i64 f∧e 2=.i .i64 t∧e 7=.fl 1 ((BD L).map Eo)∧e 8=.i .i64 0∧e 9=.b s∧e 10=.b y∧i≤(BD L).length∧M9 t ((BD L).drop i) s=decide (t∈BD L)∧M9 f ((BD L).drop i) y=decide (f∈BD L)) ?_ _ _ _ ⟨0,false,false,rfl, ?_⟩
 ·rintro n e h ⟨i,s,y,rfl,hl,e18,e19,e20,e1,e2,e7,e8,e9,e10,hi,hs,hy⟩ ih
  rw [An nX.eq_1]
  simp (disch:=omega)only[go_sem, *]
  refine Aa (fun hc=>?_) (fun hc=>?_)
  ·rw [AK (by omega),M9] at hs hy
   simp (disch:=omega)only[go_sem, *]
   cases s<;>cases y
   ·skip
    simp (disch:=omega)only[go_sem, *]
    refine ih _ _ _ ?_ ⟨i+1,(false||decide (nth (BD L) i=t)),(false||decide (nth (BD L) i=f)),rfl, ?_⟩
    ·omega
    ·simp only [Bool.false_or,Bool.true_or] at hs hy ⊢
     simp (disch:=omega)only[go_sem, *]
     omega
   ·skip
    simp (disch:=omega)only[go_sem, *]
    refine ih _ _ _ ?_ ⟨i+1,(false||decide (nth (BD L) i=t)),(true||decide (nth (BD L) i=f)),rfl, ?_⟩
    ·omega
    ·simp only [Bool.false_or,Bool.true_or] at hs hy ⊢
     simp (disch:=omega)only[go_sem, *]
     omega
   ·skip
    simp (disch:=omega)only[go_sem, *]
    refine ih _ _ _ ?_ ⟨i+1,(true||decide (nth (BD L) i=t)),(false||decide (nth (BD L) i=f)),rfl, ?_⟩
    ·omega
    ·simp only [Bool.false_or,Bool.true_or] at hs hy ⊢
     simp (disch:=omega)only[go_sem, *]
     omega
   ·skip
    simp (disch:=omega)only[go_sem, *]
    refine ih _ _ _ ?_ ⟨i+1,(true||decide (nth (BD L) i=t)),(true||decide (nth (BD L) i=f)),rfl, ?_⟩
    ·omega
    ·simp only [Bool.false_or,Bool.true_or] at hs hy ⊢
     simp (disch:=omega)only[go_sem, *]
     omega
  ·rw [List.drop_eq_nil_of_le (by omega),M9] at hs hy
   subst hs hy
   simp (disch:=omega)only[go_sem, *]
   refine Aa (fun hm=>?_) (fun hm=>?_)
   ·simp (disch:=omega)only[go_sem, *]
   have hm:f∈BD L:=by simpa using hm
   simp (disch:=omega)only[go_sem, *]
   refine Aa (fun hn=>?_) (fun hn=>?_)
   ·simp (disch:=omega)only[go_sem, *]
   have hn:t∈BD L:=by simpa using hn
   have hne:=(Ir (p:=t) (a:=0) hf.1).1 hn
   simp (disch:=omega)only[go_sem, *]
   refine Ah (fun n e h=>∃ (i:Nat) (w:Int),n=(BD L).length - i∧h.lim=0∧e 41=.fl 1 ((BD L).map Eo)∧e 42=.i .i64 (BD L).length∧e 43=.i .i64 i∧e 1=.i .i64 f∧e 2=.i .i64 t∧e 7=.fl 1 ((BD L).map Eo)∧e 8=.i .i64 w∧i≤(BD L).length∧E4 (BD L) f (fun x=>Ih (AU t 0 L) x (Ax L) - x) ((BD L).drop i) i w=E4 (BD L) f (fun x=>Ih (AU t 0 L) x (Ax L) - x) (BD L) 0 0) ?_ _ _ _ ⟨0,0,rfl, ?_⟩
   ·rintro n e h ⟨i,w,rfl,hl,e41,e42,e43,e1,e2,e7,e8,hi,hz⟩ ih
    rw [An Un.eq_1]
    simp (disch:=omega)only[go_sem, *]
    refine Aa (fun hc=>?_) (fun hc=>?_)
    ·have hd:=It hf.1 (t:=(i:Int)) (p:=t) (by omega) (by omega) hne
     have hb:=Qn (t:=(i:Int)) (by have:=Bv (p:=t) (a:=0) hf.1;rwa [Int.zero_add] at this) (by omega) hne
     rw [AK (by omega),E4] at hz
     simp (disch:=omega)only[go_sem, *]
     refine Aa (fun hc2=>?_) (fun hc2=>?_)
     ·rw [if_neg hc2] at hz
      simp (disch:=omega)only[go_sem, *]
      refine ih _ _ _ ?_ ⟨i+1,w,rfl, ?_⟩
      ·omega
      ·simp (disch:=omega)only[go_sem, *]
       ((repeat' refine And.intro ?_ ?_)<;>first | omega | assumption)
     ·have hc3:nth (BD L) i=f:=by simpa using hc2
      rw [if_pos hc3] at hz
      have hwn:0<Ax L:=by omega
      generalize hD:Ih (AU t 0 L) i (Ax L) - i=D at hz hd
      have hD4:D≤8192:=by omega
      clear hc2
      simp (disch:=omega)only[go_sem, *]
      refine Ah (fun n e h=>∃ (d:Nat),n=D.toNat - d∧h.lim=0∧e 41=.fl 1 ((BD L).map Eo)∧e 42=.i .i64 (Ax L)∧e 43=.i .i64 i∧e 1=.i .i64 f∧e 2=.i .i64 t∧e 7=.fl 1 ((BD L).map Eo)∧e 8=.i .i64 w∧e 13=.i .i64 i∧e 15=.i .i64 d∧1≤d∧(d:Int)≤D) ?_ _ _ _ ⟨1,rfl, ?_⟩
      ·rintro n e h ⟨d,rfl,hl,e41,e42,e43,e1,e2,e7,e8,e13,e15,h1d,hdD⟩ ih2
       have hmod:(((i:Int)+d).tmod (Ax L))=((i:Int)+d) % Ax L:=Int.tmod_eq_emod_of_nonneg (by omega)
       have hm0:0≤((i:Int)+d) % Ax L:=Int.emod_nonneg _ (by omega)
       have hm1:((i:Int)+d) % Ax L<Ax L:=Int.emod_lt_of_pos _ hwn
       have hfar:(d:Int)<D→Ij (BD L) (((i:Int)+d) % Ax L)≠t:=fun h=>by rw [← hwl];exact hd.2.2 d (by omega) h
       have hnear:(d:Int)=D→Ij (BD L) (((i:Int)+d) % Ax L)=t:=fun h=>by rw [h,←hwl];exact hd.2.1
       unfold Ij at hfar hnear
       generalize ((i:Int)+d) % Ax L=m at hmod hm0 hm1 hfar hnear
       rw [An Um.eq_1]
       simp (disch:=omega)only[go_sem, *]
       refine Aa (fun hc4=>?_) (fun hc4=>?_)
       ·have:(d:Int)≠D:=fun h=>hc4 (hnear h)
        simp (disch:=omega)only[go_sem, *]
        refine ih2 _ _ _ ?_ ⟨d+1,rfl, ?_⟩
        ·omega
        ·simp (disch:=omega)only[go_sem, *]
         omega
       ·have hdd:(d:Int)=D:=by
         rcases Int.lt_or_eq_of_le hdD with h | h
         ·exact absurd (by simpa using hc4) (hfar h)
         ·exact h
        simp (disch:=omega)only[go_sem, *]
        refine ih _ _ _ ?_ ⟨i+1,max w D,rfl, ?_⟩
        ·omega
        ·simp (disch:=omega)only[go_sem, *]
         ((repeat' refine And.intro ?_ ?_)<;>first | omega | assumption | ((rw [hD];assumption)))
      ·simp (disch:=omega)only[go_sem, *]
       have:=hd.1
       ((repeat' refine And.intro ?_ ?_)<;>first | omega | assumption)
    ·rw [List.drop_eq_nil_of_le (by omega),E4] at hz
     simp (disch:=omega)only[go_sem, *]
   ·simp (disch:=omega)only[go_sem, *]
 ·simp (disch:=omega)only[go_sem, *]
  exact ⟨by rw [Js];rfl,by rw [Js];rfl⟩
end Go.Ab.T
namespace Go.Ab.T
open Go Go.Ab
set_option maxHeartbeats 1000000
theorem FH {L:List AM} {p P:Int} (h:P<1∨Ax L=0∨Ax L % P≠0):GF L p P = -1:=if_pos h
theorem Vo {L:List AM} {p P:Int} (h1:¬ P<1) (h2:¬ Ax L=0) (h3:¬ Ax L % P≠0):GF L p P=HB (fun t=>Gm t (t+P) (AU p 0 L) 0) P (Ax L / P).toNat 0 P:=if_neg (by simp only [not_or];exact ⟨h1,h2,h3⟩)
theorem Sr {L:List AM} {p P:Int} (hf:Hi L):Pf tp PQ [.fl 2 (L.map AM.enc),.i .i64 p,.i .i64 P] (.i .i64 (GF L p P)):=by
 refine AG eT (by simp [JL]) fun rp=>?_;unfold JL;simp (disch:=omega)only[go_sem, *]
 have hL:=rp.head.len
 have hss:=Bv (p:=p) (a:=0) hf.1
 rw [Int.zero_add] at hss
 have hlen:=hf.length
 have hs0:=BN hf.1
 have hs4:=hf.2
 refine Pf.go (KY hf.ok) (by simp only [go_sem]) fun _=>?_;simp (disch:=omega)only[go_sem, *]
 refine Av (fun h1=>?_) (fun h1=>?_)
 ·have e:=FH (L:=L) (p:=p) (P:=P) (.inl h1)
  simp (disch:=omega)only[go_sem, *]
 simp (disch:=omega)only[go_sem, *]
 refine Av (fun h2=>?_) (fun h2=>?_)
 ·have e:=FH (L:=L) (p:=p) (P:=P) (.inr (.inl h2))
  simp (disch:=omega)only[go_sem, *]
 have hmod:(Ax L).tmod P=Ax L % P:=Int.tmod_eq_emod_of_nonneg hs0
 have hP0:¬ P=0:=by omega
 simp (disch:=omega)only[go_sem, *]
 refine Aa (fun h3=>?_) (fun h3=>?_)
 ·have e:=FH (L:=L) (p:=p) (P:=P) (.inr (.inr h3))
  simp (disch:=omega)only[go_sem, *]
 have e0:=Vo (p:=p) h1 h2 h3
 have hdiv:((Ax L / P).toNat:Int)*P=Ax L:=by
  rw [Int.toNat_of_nonneg (Int.ediv_nonneg hs0 (by omega))]
  have:=Int.emod_add_mul_ediv (Ax L) P
  have h4:Ax L % P=0:=by omega
  rw [Int.mul_comm];omega
 have h3':Ax L % P=0:=by omega
 have hP:P≤4096:=by
  by_cases hlt:Ax L<P
  ·rw [Int.emod_eq_of_lt hs0 hlt] at h3';omega
  ·omega
 clear h3
 simp (disch:=omega)only[go_sem, *]
 refine Pf.go (JG (p:=p) hf) (by simp only [go_sem]) fun q1=>?_
 have hq1:=q1.len
 simp (disch:=omega)only[go_sem, *]
 generalize hm:(Ax L / P).toNat=m at hdiv e0
 clear hmod h3' hm
 refine Ah (fun n e h=>∃ (k:Nat) (t:Int) (w:Int),n=2*k∧h.lim=0∧e 1=.i .i64 p∧e 2=.i .i64 P∧e 7=.i .i64 (Ax L)∧e 8=.fl 2 ((AU p 0 L).map B1.enc)∧e 9=.i .i64 w∧e 10=.i .i64 t∧0≤t∧t+(k:Int)*P=Ax L∧HB (fun t=>Gm t (t+P) (AU p 0 L) 0) P k t w=GF L p P) ?_ _ _ _ ⟨m,0,P,rfl, ?_⟩
 ·rintro n e h ⟨k,t,w,rfl,hl,e1,e2,e7,e8,e9,e10,ht,hk,hz⟩ ih
  rw [An QV.eq_1]
  simp (disch:=omega)only[go_sem, *]
  refine Aa (fun hc=>?_) (fun hc=>?_)
  ·obtain ⟨j,rfl⟩:∃ j,k=j+1:=by
    cases k with
    | zero=>simp at hk;omega
    | succ j=>exact ⟨j,rfl⟩
   have hj0:0≤(j:Int)*P:=Int.mul_nonneg (by omega) (by omega)
   rw [Int.natCast_add,Int.natCast_one,Int.add_mul,Int.one_mul] at hk
   rw [HB] at hz
   generalize hjP:(j:Int)*P=jP at hk hj0
   clear e0
   simp (disch:=omega)only[go_sem, *]
   have ih0:=ih
   clear ih
   refine Ah (fun n e h=>∃ (i:Nat) (c:Int),n=(AU p 0 L).length - i∧h.lim=0∧e 38=.fl 2 ((AU p 0 L).map B1.enc)∧e 39=.i .i64 (AU p 0 L).length∧e 40=.i .i64 i∧e 1=.i .i64 p∧e 2=.i .i64 P∧e 7=.i .i64 (Ax L)∧e 8=.fl 2 ((AU p 0 L).map B1.enc)∧e 9=.i .i64 w∧e 10=.i .i64 t∧e 11=.i .i64 c∧i≤(AU p 0 L).length∧0≤c∧c≤4096*i∧Gm t (t+P) ((AU p 0 L).drop i) c=Gm t (t+P) (AU p 0 L) 0) ?_ _ _ _ ⟨0,0,rfl, ?_⟩
   ·rintro n e h ⟨i,c,rfl,hl,e38,e39,e40,e1,e2,e7,e8,e9,e10,e11,hi,hc0,hc1,hw⟩ ih
    rw [An QU.eq_1]
    simp (disch:=omega)only[go_sem, *]
    refine Aa (fun hc=>?_) (fun hc=>?_)
    ·have hm:=hss.mem (AP (L:=AU p 0 L) (j:=i) (by omega))
     rw [AK (by omega),Gm] at hw
     simp (disch:=omega)only[go_sem, *]
     refine ih _ _ _ ?_ ⟨i+1,c+max 0 (min (nth (AU p 0 L) i).e (t+P) - max (nth (AU p 0 L) i).s t),rfl, ?_⟩
     ·omega
     ·simp (disch:=omega)only[go_sem, *]
      ((repeat' refine And.intro ?_ ?_)<;>first | omega | assumption)
    ·rw [List.drop_eq_nil_of_le (by omega),Gm] at hw
     simp (disch:=omega)only[go_sem, *]
     refine ih0 _ _ _ ?_ ⟨j,t+P,min w c,rfl, ?_⟩
     ·omega
     ·simp (disch:=omega)only[go_sem, *]
      exact ⟨by omega,by omega⟩
   ·simp (disch:=omega)only[go_sem, *]
    simp
  ·have hk0:k=0:=by
    cases k with
    | zero=>rfl
    | succ j=>
     have hj0:0≤(j:Int)*P:=Int.mul_nonneg (by omega) (by omega)
     rw [Int.natCast_add,Int.natCast_one,Int.add_mul,Int.one_mul] at hk
     omega
   subst hk0
   rw [HB] at hz
   clear e0
   simp (disch:=omega)only[go_sem, *]
 ·simp (disch:=omega)only[go_sem, *]
  omega
theorem GZ {L:List AM} {p P:Int} (hf:Hi L):Pf tp WH [.fl 2 (L.map AM.enc),.i .i64 p,.i .i64 P] (.i .i64 (GF L p P)):=by
 refine AG aD3 (by simp [NY]) fun rp=>?_;unfold NY;simp (disch:=omega)only[go_sem, *]
 have hL:=rp.head.len
 have hwl:=El hf.1
 have hs0:=BN hf.1
 have hs4:=hf.2
 refine Pf.go (OY hf) (by simp only [go_sem]) fun _=>?_;simp (disch:=omega)only[go_sem, *]
 refine Av (fun h1=>?_) (fun h1=>?_)
 ·have e:=FH (L:=L) (p:=p) (P:=P) (.inl h1)
  simp (disch:=omega)only[go_sem, *]
 simp (disch:=omega)only[go_sem, *]
 refine Av (fun h2=>?_) (fun h2=>?_)
 ·have e:=FH (L:=L) (p:=p) (P:=P) (.inr (.inl h2))
  simp (disch:=omega)only[go_sem, *]
 have hmod:(Ax L).tmod P=Ax L % P:=Int.tmod_eq_emod_of_nonneg hs0
 have hP0:¬ P=0:=by omega
 simp (disch:=omega)only[go_sem, *]
 refine Aa (fun h3=>?_) (fun h3=>?_)
 ·have e:=FH (L:=L) (p:=p) (P:=P) (.inr (.inr h3))
  simp (disch:=omega)only[go_sem, *]
 have e0:=Vo (p:=p) h1 h2 h3
 have hdiv:((Ax L / P).toNat:Int)*P=Ax L:=by
  rw [Int.toNat_of_nonneg (Int.ediv_nonneg hs0 (by omega))]
  have:=Int.emod_add_mul_ediv (Ax L) P
  have h4:Ax L % P=0:=by omega
  rw [Int.mul_comm];omega
 have h3':Ax L % P=0:=by omega
 have hP:P≤4096:=by
  by_cases hlt:Ax L<P
  ·rw [Int.emod_eq_of_lt hs0 hlt] at h3';omega
  ·omega
 clear h3
 simp (disch:=omega)only[go_sem, *]
 generalize hm:(Ax L / P).toNat=m at hdiv e0
 clear hmod h3' hm
 have hF:∀ i:Nat,i<m→Gm ((0:Int)+i*P) ((0:Int)+i*P+P) (AU p 0 L) 0≤P:=by
  intro i hi
  have h0:0≤(i:Int)*P:=Int.mul_nonneg (by omega) (by omega)
  have h1':((i:Int)+1)*P≤(m:Int)*P:=Int.mul_le_mul_of_nonneg_right (by omega) (by omega)
  rw [Int.add_mul,Int.one_mul] at h1'
  rw [KK hf.1 (by omega) (by omega) (by omega)]
  have:=My p (((BD L).drop ((0:Int)+i*P).toNat).take P.toNat) 0
  simp only [List.length_take] at this
  omega
 have hm1:1≤m:=by
  cases m with
  | zero=>simp at hdiv;omega
  | succ m=>omega
 rw [← gY (F:=fun t=>Gm t (t+P) (AU p 0 L) 0) m 0 (P+1) P hF (by omega) hm1] at e0
 clear hF hm1
 refine Ah (fun n e h=>∃ (k:Nat) (t:Int) (w:Int),n=2*k∧h.lim=0∧e 1=.i .i64 p∧e 2=.i .i64 P∧e 7=.fl 1 ((BD L).map Eo)∧e 8=.i .i64 w∧e 9=.i .i64 t∧0≤t∧t+(k:Int)*P=Ax L∧HB (fun t=>Gm t (t+P) (AU p 0 L) 0) P k t w=GF L p P) ?_ _ _ _ ⟨m,0,P+1,rfl, ?_⟩
 ·rintro n e h ⟨k,t,w,rfl,hl,e1,e2,e7,e8,e9,ht,hk,hz⟩ ih
  rw [An Up.eq_1]
  simp (disch:=omega)only[go_sem, *]
  refine Aa (fun hc=>?_) (fun hc=>?_)
  ·obtain ⟨j,rfl⟩:∃ j,k=j+1:=by
    cases k with
    | zero=>simp at hk;omega
    | succ j=>exact ⟨j,rfl⟩
   have hj0:0≤(j:Int)*P:=Int.mul_nonneg (by omega) (by omega)
   rw [Int.natCast_add,Int.natCast_one,Int.add_mul,Int.one_mul] at hk
   rw [HB] at hz
   generalize hjP:(j:Int)*P=jP at hk hj0
   clear e0
   have hbc:=KK (p:=p) (t:=t) (P:=P) hf.1 (by omega) (by omega) (by omega)
   have eX:(List.take ((t+P).toNat - t.toNat) (List.drop t.toNat ((BD L).map Eo)))=(((BD L).drop t.toNat).take P.toNat).map Eo:=by rw [← List.map_drop,←List.map_take];congr 2;omega
   have hXl:(((BD L).drop t.toNat).take P.toNat).length≤4096:=by simp only [List.length_take,List.length_drop];omega
   simp (disch:=omega)only[go_sem, *]
   clear eX
   generalize ((BD L).drop t.toNat).take P.toNat=X at hbc hXl ⊢
   have ih0:=ih
   clear ih
   refine Ah (fun n e h=>∃ (i:Nat) (c:Int),n=X.length - i∧h.lim=0∧e 43=.fl 1 (X.map Eo)∧e 44=.i .i64 X.length∧e 45=.i .i64 i∧e 1=.i .i64 p∧e 2=.i .i64 P∧e 7=.fl 1 ((BD L).map Eo)∧e 8=.i .i64 w∧e 9=.i .i64 t∧e 10=.i .i64 c∧i≤X.length∧0≤c∧c≤i∧DH p (X.drop i) c=DH p X 0) ?_ _ _ _ ⟨0,0,rfl, ?_⟩
   ·rintro n e h ⟨i,c,rfl,hl,e43,e44,e45,e1,e2,e7,e8,e9,e10,hi,hc0,hc1,hw⟩ ih
    rw [An Uo.eq_1]
    simp (disch:=omega)only[go_sem, *]
    refine Aa (fun hc=>?_) (fun hc=>?_)
    ·rw [AK (by omega),DH] at hw
     simp (disch:=omega)only[go_sem, *]
     refine Aa (fun hc2=>?_) (fun hc2=>?_)
     ·rw [if_pos hc2] at hw
      simp (disch:=omega)only[go_sem, *]
      refine ih _ _ _ ?_ ⟨i+1,c+1,rfl, ?_⟩
      ·omega
      ·simp (disch:=omega)only[go_sem, *]
       ((repeat' refine And.intro ?_ ?_)<;>first | omega | assumption)
     ·rw [if_neg hc2] at hw
      simp (disch:=omega)only[go_sem, *]
      refine ih _ _ _ ?_ ⟨i+1,c,rfl, ?_⟩
      ·omega
      ·simp (disch:=omega)only[go_sem, *]
       ((repeat' refine And.intro ?_ ?_)<;>first | omega | assumption)
    ·rw [List.drop_eq_nil_of_le (by omega),DH] at hw
     rw [hbc] at hz
     simp (disch:=omega)only[go_sem, *]
     refine ih0 _ _ _ ?_ ⟨j,t+P,min w c,rfl, ?_⟩
     ·omega
     ·simp (disch:=omega)only[go_sem, *]
      ((repeat' refine And.intro ?_ ?_)<;>first | omega | assumption)
   ·simp (disch:=omega)only[go_sem, *]
  ·have hk0:k=0:=by
    cases k with
    | zero=>rfl
    | succ j=>
     have hj0:0≤(j:Int)*P:=Int.mul_nonneg (by omega) (by omega)
     rw [Int.natCast_add,Int.natCast_one,Int.add_mul,Int.one_mul] at hk
     omega
   subst hk0
   rw [HB] at hz
   clear e0
   simp (disch:=omega)only[go_sem, *]
 ·simp (disch:=omega)only[go_sem, *]
  omega
end Go.Ab.T
namespace Go.Ab.T
open Go Go.Ab
set_option maxHeartbeats 1000000
theorem GQ {tt:List B1} {n:Int}:∀ (l:List B1) (w:Int),0≤w→0≤Fe tt n l w
 | [],w,h=>h
 | s::l,w,h=>by rw [Fe];exact GQ l _ (by omega)
theorem Fr (L:List AM) (f t:Int):C3 L f t = -1∨0≤C3 L f t:=by
 unfold C3
 split
 ·simp
 ·split
  ·exact .inl rfl
  ·exact .inr (GQ _ _ (by omega))
@[irreducible] def BX (L:List AM) (x:A1):Bool:=decide (0<x.late∧(x.late<C3 L x.src x.dst∨C3 L x.src x.dst = -1))
def BQ (L:List AM):Nat→List Part→Bool
 | _,[]=>false
 | i,p::l=>decide (0<p.budget∧GF L i p.period<p.budget)||BQ L (i+1) l
def CQ (C:Ao) (L:List AM):Int:=if C.chans.any (BX L)=true then 19 else if BQ L 0 C.parts=true then 20 else 0
theorem Lp {α:Type} [Inhabited α] {L:List α} {P:α→Bool} {i:Nat} (hi:i<L.length) (h:P (nth L i)=true):L.any P=true:=List.any_eq_true.2 ⟨_,AP hi,h⟩
theorem IK {α:Type} [Inhabited α] {L:List α} {P:α→Bool} {i:Nat} (hi:i<L.length) (h:P (nth L i)=false):(L.drop i).any P=(L.drop (i+1)).any P:=by
 rw [AK hi,List.any_cons,h,Bool.false_or]
theorem Wi {C:Ao} {L:List AM} (hf:Hi L):Pf tp Xm [.agg C.enc,.fl 2 (L.map AM.enc)] (.i .i64 (CQ C L)):=by
 refine AG aEI (by simp [ON]) fun rp=>?_;unfold ON;simp (disch:=omega)only[go_sem, *]
 have hcl:=F5.len (rp.head.agg (.fl 6 (C.chans.map A1.enc)) (by simp [Ao.enc]))
 have hpl:=F5.len (rp.head.agg (.fl 11 (C.parts.map Part.enc)) (by simp [Ao.enc]))
 refine Ah (fun n e h=>∃ (i:Nat),n=C.chans.length - i∧h.lim=0∧e 11=.fl 6 (C.chans.map A1.enc)∧e 12=.i .i64 C.chans.length∧e 13=.i .i64 i∧e 1=.fl 2 (L.map AM.enc)∧e 2=.p 0 0 0∧i≤C.chans.length∧h.get 0=some ⟨3,[C.enc]⟩∧1≤h.next∧C.chans.any (BX L)=(C.chans.drop i).any (BX L)) ?_ _ _ _ ⟨0,rfl, ?_⟩
 ·rintro n e h ⟨i,rfl,hl,e11,e12,e13,e1,e2,hi,hg,hn,hz⟩ ih
  rw [An oJ.eq_1]
  simp (disch:=omega)only[go_sem, *]
  refine Aa (fun hc=>?_) (fun hc=>?_)
  ·have hlc:=Fr L (nth C.chans i).src (nth C.chans i).dst
   simp (disch:=omega)only[go_sem, *]
   refine Pf.go (gN hf) (by simp only [go_sem]) fun _=>?_;simp (disch:=omega)only[go_sem, *]
   repeat' (first | (refine Av (fun hc=>?_) (fun hc=>?_)<;>simp (disch:=omega)only[go_sem, *]) | (refine Aa (fun hc=>?_) (fun hc=>?_)<;>simp (disch:=omega)only[go_sem, *]) | (refine Cz (fun hc=>?_) (fun hc=>?_)<;>simp (disch:=omega)only[go_sem, *]) | (refine Bi (fun hc=>?_) (fun hc=>?_)<;>simp (disch:=omega)only[go_sem, *]))
   all_goals
    try
     have hn:BX L (nth C.chans i)=true:=by (unfold BX;grind)
     have:=Lp (by omega) hn
     have e:CQ C L=19:=if_pos this
     exact e.symm
   all_goals
    have hp:BX L (nth C.chans i)=false:=by (unfold BX;grind)
    refine ih _ _ _ ?_ ⟨i+1,rfl, ?_⟩
    ·omega
    ·simp (disch:=omega)only[go_sem, *]
     ((repeat' refine And.intro ?_ ?_)<;>first | omega | assumption | (exact IK (by omega) hp))
  ·rw [List.drop_eq_nil_of_le (by omega),List.any_nil] at hz
   have e:CQ C L=if BQ L 0 C.parts=true then 20 else 0:=by unfold CQ;rw [hz];rfl
   rw [e]
   clear e hz
   simp only [Ao.enc] at hg
   simp (disch:=omega)only[go_sem, *]
   refine Ah (fun n e h=>∃ (i:Nat),n=C.parts.length - i∧h.lim=0∧e 38=.fl 11 (C.parts.map Part.enc)∧e 39=.i .i64 C.parts.length∧e 40=.i .i64 i∧e 1=.fl 2 (L.map AM.enc)∧i≤C.parts.length∧BQ L 0 C.parts=BQ L i (C.parts.drop i)) ?_ _ _ _ ⟨0,rfl, ?_⟩
   ·rintro n e h ⟨i,rfl,hl,e38,e39,e40,e1,hi,hz⟩ ih
    rw [An UE.eq_1]
    simp (disch:=omega)only[go_sem, *]
    refine Aa (fun hc=>?_) (fun hc=>?_)
    ·rw [AK (by omega),BQ] at hz
     simp (disch:=omega)only[go_sem, *]
     refine Av (fun hc2=>?_) (fun hc2=>?_)
     ·simp (disch:=omega)only[go_sem, *]
      refine Pf.go (Sr hf) (by simp only [go_sem]) fun _=>?_;simp (disch:=omega)only[go_sem, *]
      refine Aa (fun hc3=>?_) (fun hc3=>?_)
      ·simp (disch:=omega)only[go_sem, *]
       have hd:decide (0<(nth C.parts i).budget∧GF L i (nth C.parts i).period<(nth C.parts i).budget)=true:=by grind
       rw [hd] at hz
       simp [hz]
      ·simp (disch:=omega)only[go_sem, *]
       have hd:decide (0<(nth C.parts i).budget∧GF L i (nth C.parts i).period<(nth C.parts i).budget)=false:=by grind
       rw [hd,Bool.false_or] at hz
       refine ih _ _ _ ?_ ⟨i+1,rfl, ?_⟩
       ·omega
       ·simp (disch:=omega)only[go_sem, *]
        ((repeat' refine And.intro ?_ ?_)<;>first | omega | assumption)
     ·simp (disch:=omega)only[go_sem, *]
      have hd:decide (0<(nth C.parts i).budget∧GF L i (nth C.parts i).period<(nth C.parts i).budget)=false:=by grind
      rw [hd,Bool.false_or] at hz
      refine ih _ _ _ ?_ ⟨i+1,rfl, ?_⟩
      ·omega
      ·simp (disch:=omega)only[go_sem, *]
       ((repeat' refine And.intro ?_ ?_)<;>first | omega | assumption)
    ·rw [List.drop_eq_nil_of_le (by omega),BQ] at hz
     simp (disch:=omega)only[go_sem, *]
     try simp [hz]
   ·simp (disch:=omega)only[go_sem, *]
 ·simp (disch:=omega)only[go_sem, *]
theorem Ni {C:Ao} {L:List AM} (hf:Hi L):Pf tp Xg [.agg C.enc,.fl 2 (L.map AM.enc)] (.i .i64 (CQ C L)):=by
 refine AG aEB (by simp [OG]) fun rp=>?_;unfold OG;simp (disch:=omega)only[go_sem, *]
 have hcl:=F5.len (rp.head.agg (.fl 6 (C.chans.map A1.enc)) (by simp [Ao.enc]))
 have hpl:=F5.len (rp.head.agg (.fl 11 (C.parts.map Part.enc)) (by simp [Ao.enc]))
 refine Ah (fun n e h=>∃ (i:Nat),n=C.chans.length - i∧h.lim=0∧e 11=.fl 6 (C.chans.map A1.enc)∧e 12=.i .i64 C.chans.length∧e 13=.i .i64 i∧e 1=.fl 2 (L.map AM.enc)∧e 2=.p 0 0 0∧i≤C.chans.length∧h.get 0=some ⟨3,[C.enc]⟩∧1≤h.next∧C.chans.any (BX L)=(C.chans.drop i).any (BX L)) ?_ _ _ _ ⟨0,rfl, ?_⟩
 ·rintro n e h ⟨i,rfl,hl,e11,e12,e13,e1,e2,hi,hg,hn,hz⟩ ih
  rw [An oF.eq_1]
  simp (disch:=omega)only[go_sem, *]
  refine Aa (fun hc=>?_) (fun hc=>?_)
  ·have hlc:=Fr L (nth C.chans i).src (nth C.chans i).dst
   simp (disch:=omega)only[go_sem, *]
   refine Pf.go (Jy hf) (by simp only [go_sem]) fun _=>?_;simp (disch:=omega)only[go_sem, *]
   repeat' (first | (refine Av (fun hc=>?_) (fun hc=>?_)<;>simp (disch:=omega)only[go_sem, *]) | (refine Aa (fun hc=>?_) (fun hc=>?_)<;>simp (disch:=omega)only[go_sem, *]) | (refine Cz (fun hc=>?_) (fun hc=>?_)<;>simp (disch:=omega)only[go_sem, *]) | (refine Bi (fun hc=>?_) (fun hc=>?_)<;>simp (disch:=omega)only[go_sem, *]))
   all_goals
    try
     have hn:BX L (nth C.chans i)=true:=by (unfold BX;grind)
     have:=Lp (by omega) hn
     have e:CQ C L=19:=if_pos this
     exact e.symm
   all_goals
    have hp:BX L (nth C.chans i)=false:=by (unfold BX;grind)
    refine ih _ _ _ ?_ ⟨i+1,rfl, ?_⟩
    ·omega
    ·simp (disch:=omega)only[go_sem, *]
     ((repeat' refine And.intro ?_ ?_)<;>first | omega | assumption | (exact IK (by omega) hp))
  ·rw [List.drop_eq_nil_of_le (by omega),List.any_nil] at hz
   have e:CQ C L=if BQ L 0 C.parts=true then 20 else 0:=by unfold CQ;rw [hz];rfl
   rw [e]
   clear e hz
   simp only [Ao.enc] at hg
   simp (disch:=omega)only[go_sem, *]
   refine Ah (fun n e h=>∃ (i:Nat),n=C.parts.length - i∧h.lim=0∧e 38=.fl 11 (C.parts.map Part.enc)∧e 39=.i .i64 C.parts.length∧e 40=.i .i64 i∧e 1=.fl 2 (L.map AM.enc)∧i≤C.parts.length∧BQ L 0 C.parts=BQ L i (C.parts.drop i)) ?_ _ _ _ ⟨0,rfl, ?_⟩
   ·rintro n e h ⟨i,rfl,hl,e38,e39,e40,e1,hi,hz⟩ ih
    rw [An UD.eq_1]
    simp (disch:=omega)only[go_sem, *]
    refine Aa (fun hc=>?_) (fun hc=>?_)
    ·rw [AK (by omega),BQ] at hz
     simp (disch:=omega)only[go_sem, *]
     refine Av (fun hc2=>?_) (fun hc2=>?_)
     ·simp (disch:=omega)only[go_sem, *]
      refine Pf.go (GZ hf) (by simp only [go_sem]) fun _=>?_;simp (disch:=omega)only[go_sem, *]
      refine Aa (fun hc3=>?_) (fun hc3=>?_)
      ·simp (disch:=omega)only[go_sem, *]
       have hd:decide (0<(nth C.parts i).budget∧GF L i (nth C.parts i).period<(nth C.parts i).budget)=true:=by grind
       rw [hd] at hz
       simp [hz]
      ·simp (disch:=omega)only[go_sem, *]
       have hd:decide (0<(nth C.parts i).budget∧GF L i (nth C.parts i).period<(nth C.parts i).budget)=false:=by grind
       rw [hd,Bool.false_or] at hz
       refine ih _ _ _ ?_ ⟨i+1,rfl, ?_⟩
       ·omega
       ·simp (disch:=omega)only[go_sem, *]
        ((repeat' refine And.intro ?_ ?_)<;>first | omega | assumption)
     ·simp (disch:=omega)only[go_sem, *]
      have hd:decide (0<(nth C.parts i).budget∧GF L i (nth C.parts i).period<(nth C.parts i).budget)=false:=by grind
      rw [hd,Bool.false_or] at hz
      refine ih _ _ _ ?_ ⟨i+1,rfl, ?_⟩
      ·omega
      ·simp (disch:=omega)only[go_sem, *]
       ((repeat' refine And.intro ?_ ?_)<;>first | omega | assumption)
    ·rw [List.drop_eq_nil_of_le (by omega),BQ] at hz
     simp (disch:=omega)only[go_sem, *]
     try simp [hz]
   ·simp (disch:=omega)only[go_sem, *]
 ·simp (disch:=omega)only[go_sem, *]
end Go.Ab.T
namespace Go.Ab.T
open Go Go.Ab
set_option maxHeartbeats 1000000
theorem Iv {L:List Node}:Hi (Fj L).1:=by
 unfold Fj
 split
 ·exact Hi.nil
 ·rename_i h
  split
  ·exact Hi.nil
  ·obtain ⟨_,ho,hc1,hL,hd,hl⟩:=FK (L:=L) (by omega)
   have hap:=Fo.runs_allpos _ ho
   have hsum:=Fo.runs_sum _ ho
   have ht:=Me hap (by omega)
   exact ⟨ht.pos,by unfold iB;rw [ht.sum];omega⟩
noncomputable def DD (C:Ao) (T:List Node):Int:=if (Fj T).2≠0 then (Fj T).2 else if (Fj T).1.any (fun r=>decide ((C.parts.length:Int)≤r.part))=true then 16 else CQ C (Fj T).1
theorem jM {C:Ao} {x:AM} {h:AH} {id:Nat} {K:V→AH→Prop} (hg:h.get id=some ⟨3,[C.enc]⟩) (hid:id<h.next) (k:K (.b (decide ((C.parts.length:Int)≤x.part))) h):Cq tp Xl [.agg x.enc,.p id 0 0] h K:=by
 simp only [Ao.enc] at hg
 refine Ik aEH (by simp [OM]) (k) fun hlm rp=>?_;unfold OM;simp (disch:=omega)only[go_sem, *]
 (repeat (first | exact Au.refl _ | refine Au.alloc ?_ _ | (refine Au.put ?_ _ _ ?_;rotate_left;(first | omega | (simp only [Ag,Ai];omega)))))
theorem bE {p x:Part} {h:AH} {id:Nat} {K:V→AH→Prop} (hg:h.get id=some ⟨11,[p.enc]⟩) (hid:id<h.next) (k:K (.b (decide (x.name=p.name))) h):Cq tp W2 [.agg x.enc,.p id 0 0] h K:=by
 simp only [Part.enc] at hg
 refine Ik aEr (by simp [Ow]) (k) fun hlm rp=>?_;unfold Ow;simp (disch:=omega)only[go_sem, *]
 (repeat (first | exact Au.refl _ | refine Au.alloc ?_ _ | (refine Au.put ?_ _ _ ?_;rotate_left;(first | omega | (simp only [Ag,Ai];omega)))))
theorem YP {C:Ao} {T:List Node}:Pf tp W6 [.agg C.enc,.fl 3 (T.map Node.enc)] (.i .i64 (DD C T)):=by
 have hf:=Iv (L:=T)
 refine AG aEu (by simp [Oz]) fun rp=>?_;unfold Oz;simp (disch:=omega)only[go_sem, *]
 refine Pf.go (aF2) (by simp only [go_sem]) fun _=>?_;simp (disch:=omega)only[go_sem, *]
 refine Aa (fun hc=>?_) (fun hc=>?_)
 ·have e:DD C T=(Fj T).2:=if_pos hc
  simp (disch:=omega)only[go_sem, *]
 have e:DD C T=if (Fj T).1.any (fun r=>decide ((C.parts.length:Int)≤r.part))=true then 16 else CQ C (Fj T).1:=if_neg hc
 simp (disch:=omega)only[go_sem, *]
 refine aER (P:=fun r=>decide ((C.parts.length:Int)≤r.part)) (fun x hx K k=>jM (by simp (disch:=omega)only[go_sem, *]) (by simp (disch:=omega)only[go_sem, *]) k) ?_
 simp (disch:=omega)only[go_sem, *]
 refine Bi (fun hc2=>?_) (fun hc2=>?_)
 ·rw [if_pos hc2] at e
  simp (disch:=omega)only[go_sem, *]
 ·rw [if_neg (by simp [hc2])] at e
  simp (disch:=omega)only[go_sem, *]
  refine Pf.go (Wi hf) (by simp only [go_sem]) fun _=>?_;simp (disch:=omega)only[go_sem, *]
noncomputable def Cd (C:Ao):Nat→List (List Node)→Int×Int
 | _,[]=>(0,-1)
 | i,t::l=>if DD C t≠0 then (DD C t,(i:Int)) else Cd C (i+1) l
noncomputable def Bw (C:Ao):Nat→List A1→Int×Int
 | _,[]=>Cd C 0 C.tables
 | i,x::l=>if CJ C.parts.length x=false then (17,(i:Int)) else Bw C (i+1) l
noncomputable def Bn (C:Ao):Nat→List Part→Int×Int
 | _,[]=>Bw C 0 C.chans
 | i,p::l=>if D6 p.name=false∨(C.parts.take i).any (fun q=>decide (q.name=p.name))=true then (15,(i:Int)) else if Ef p=false then (16,(i:Int)) else Bn C (i+1) l
noncomputable def Bh (C:Ao):Int×Int:=if C.parts.length<1∨6<C.parts.length∨8<C.chans.length∨C.tables.length<1∨3<C.tables.length then (3,0) else Bn C 0 C.parts
def IC (C:Ao):Prop:=∀ p∈C.parts,p.name.size<4000000000
theorem Zv {C:Ao} (hnm:IC C):Pf tp WJ [.agg C.enc] (.tup [.i .i64 (Bh C).1,.i .i64 (Bh C).2]):=by
 refine AG aD5 (by simp [N0]) fun rp=>?_;unfold N0;simp (disch:=omega)only[go_sem, *]
 have hcl:=F5.len (rp.head.agg (.fl 6 (C.chans.map A1.enc)) (by simp [Ao.enc]))
 have hpl:=F5.len (rp.head.agg (.fl 11 (C.parts.map Part.enc)) (by simp [Ao.enc]))
 have htl:=F5.len (rp.head.agg (.fl 1 (C.tables.map Tab.enc)) (by simp [Ao.enc]))
 repeat' (first | (refine Av (fun hc=>?_) (fun hc=>?_)<;>simp (disch:=omega)only[go_sem, *]) | (refine Aa (fun hc=>?_) (fun hc=>?_)<;>simp (disch:=omega)only[go_sem, *]))
 all_goals try (have e:Bh C=(3,0):=if_pos (by omega);rw [e];exact ⟨rfl,rfl⟩)
 have e:Bh C=Bn C 0 C.parts:=if_neg (by omega)
 rw [e]
 clear e
 refine Ah (fun n e h=>∃ (i:Nat),n=C.parts.length - i∧h.lim=0∧e 40=.fl 11 (C.parts.map Part.enc)∧e 41=.i .i64 C.parts.length∧e 42=.i .i64 i∧e 1=.p 0 0 0∧i≤C.parts.length∧h.get 0=some ⟨3,[C.enc]⟩∧1≤h.next∧Bn C i (C.parts.drop i)=Bn C 0 C.parts) ?_ _ _ _ ⟨0,rfl, ?_⟩
 ·rintro n e h ⟨i,rfl,hl,e40,e41,e42,e1,hi,hg,hn,hz⟩ ih
  rw [An Uq.eq_1]
  simp (disch:=omega)only[go_sem, *]
  have hg1:=hg
  simp only [Ao.enc] at hg1
  refine Aa (fun hc=>?_) (fun hc=>?_)
  ·rw [AK (by omega),Bn] at hz
   have hns:=hnm _ (AP (L:=C.parts) (j:=i) (by omega))
   have eX:List.take i (C.parts.map Part.enc)=(C.parts.take i).map Part.enc:=List.map_take.symm
   simp (disch:=omega)only[go_sem, *]
   refine Pf.go (VA hns) (by simp only [go_sem]) fun _=>?_;simp (disch:=omega)only[go_sem, *]
   refine Cz (fun hc2=>?_) (fun hc2=>?_)
   ·rw [if_pos (.inl (by simpa using hc2))] at hz
    rw [← hz]
    simp (disch:=omega)only[go_sem, *]
   have hc2':D6 (nth C.parts i).name=true:=by simpa using hc2
   simp (disch:=omega)only[go_sem, *]
   refine gA (P:=fun q=>decide (q.name=(nth C.parts i).name)) (fun x hx K k=>bE (p:=nth C.parts i) (by simp (disch:=omega)only[go_sem, *]) (by simp (disch:=omega)only[go_sem, *];omega) k) ?_
   simp (disch:=omega)only[go_sem, *]
   refine Bi (fun hc3=>?_) (fun hc3=>?_)
   ·rw [if_pos (.inr hc3)] at hz
    rw [← hz]
    simp (disch:=omega)only[go_sem, *]
   ·rw [if_neg (by simp [hc2',hc3])] at hz
    simp (disch:=omega)only[go_sem, *]
    refine Pf.go (VH) (by simp only [go_sem]) fun _=>?_;simp (disch:=omega)only[go_sem, *]
    refine Bi (fun hc4=>?_) (fun hc4=>?_)
    ·rw [if_pos (by simpa using hc4)] at hz
     rw [← hz]
     simp (disch:=omega)only[go_sem, *]
    ·rw [if_neg (by simpa using hc4)] at hz
     simp (disch:=omega)only[go_sem, *]
     refine ih _ _ _ ?_ ⟨i+1,rfl, ?_⟩
     ·omega
     ·simp (disch:=omega)only[go_sem, *]
      ((repeat' refine And.intro ?_ ?_)<;>first | omega | assumption)
  ·rw [List.drop_eq_nil_of_le (by omega),Bn] at hz
   rw [← hz]
   clear hz
   simp (disch:=omega)only[go_sem, *]
   refine Ah (fun n e h=>∃ (i:Nat),n=C.chans.length - i∧h.lim=0∧e 66=.fl 6 (C.chans.map A1.enc)∧e 67=.i .i64 C.chans.length∧e 68=.i .i64 i∧e 1=.p 0 0 0∧i≤C.chans.length∧h.get 0=some ⟨3,[C.enc]⟩∧1≤h.next∧Bw C i (C.chans.drop i)=Bw C 0 C.chans) ?_ _ _ _ ⟨0,rfl, ?_⟩
   ·rintro n e h ⟨i,rfl,hl,e66,e67,e68,e1,hi,hg,hn,hz⟩ ih
    rw [An Ur.eq_1]
    simp (disch:=omega)only[go_sem, *]
    have hg1:=hg
    simp only [Ao.enc] at hg1
    refine Aa (fun hc=>?_) (fun hc=>?_)
    ·rw [AK (by omega),Bw] at hz
     simp (disch:=omega)only[go_sem, *]
     refine Pf.go (Vq (c:=C) (x:=nth C.chans i)) (by simp only [go_sem]) fun _=>?_;simp (disch:=omega)only[go_sem, *]
     refine Bi (fun hc4=>?_) (fun hc4=>?_)
     ·rw [if_pos (by simpa using hc4)] at hz
      rw [← hz]
      simp (disch:=omega)only[go_sem, *]
     ·rw [if_neg (by simpa using hc4)] at hz
      simp (disch:=omega)only[go_sem, *]
      refine ih _ _ _ ?_ ⟨i+1,rfl, ?_⟩
      ·omega
      ·simp (disch:=omega)only[go_sem, *]
       ((repeat' refine And.intro ?_ ?_)<;>first | omega | assumption)
    ·rw [List.drop_eq_nil_of_le (by omega),Bw] at hz
     rw [← hz]
     clear hz
     simp (disch:=omega)only[go_sem, *]
     refine Ah (fun n e h=>∃ (i:Nat),n=C.tables.length - i∧h.lim=0∧e 80=.fl 1 (C.tables.map Tab.enc)∧e 81=.i .i64 C.tables.length∧e 82=.i .i64 i∧e 1=.p 0 0 0∧i≤C.tables.length∧h.get 0=some ⟨3,[C.enc]⟩∧1≤h.next∧Cd C i (C.tables.drop i)=Cd C 0 C.tables) ?_ _ _ _ ⟨0,rfl, ?_⟩
     ·rintro n e h ⟨i,rfl,hl,e80,e81,e82,e1,hi,hg,hn,hz⟩ ih
      rw [An Us.eq_1]
      simp (disch:=omega)only[go_sem, *]
      have hg1:=hg
      simp only [Ao.enc] at hg1
      refine Aa (fun hc=>?_) (fun hc=>?_)
      ·rw [AK (by omega),Cd] at hz
       simp (disch:=omega)only[go_sem, *]
       refine Pf.go (YP (C:=C)) (by simp only [go_sem]) fun _=>?_;simp (disch:=omega)only[go_sem, *]
       refine Aa (fun hc4=>?_) (fun hc4=>?_)
       ·rw [if_pos hc4] at hz
        rw [← hz]
        simp (disch:=omega)only[go_sem, *]
       ·rw [if_neg hc4] at hz
        simp (disch:=omega)only[go_sem, *]
        refine ih _ _ _ ?_ ⟨i+1,rfl, ?_⟩
        ·omega
        ·simp (disch:=omega)only[go_sem, *]
         ((repeat' refine And.intro ?_ ?_)<;>first | omega | assumption)
      ·rw [List.drop_eq_nil_of_le (by omega),Cd] at hz
       rw [← hz]
       clear hz
       simp (disch:=omega)only[go_sem, *]
     ·simp (disch:=omega)only[go_sem, *]
   ·simp (disch:=omega)only[go_sem, *]
 ·simp (disch:=omega)only[go_sem, *]
end Go.Ab.T
namespace Go.Ab.T
open Go Go.Ab
set_option maxHeartbeats 2000000
theorem iA {L:List Node}:(Fj L).1.length≤96:=by
 unfold Fj
 split
 ·simp
 ·split
  ·simp
  ·simp only;omega
theorem HT {α:Type} [Inhabited α] {L:List α} {P:α→Bool} {i:Nat} (h:∀ j,j<i→P (nth L j)=false) (hi:i≤L.length):(L.take i).any P=false:=by
 rw [List.any_eq_false]
 intro x hx
 obtain ⟨j,hj,rfl⟩:=List.mem_iff_getElem.1 hx
 have hj2:j<i:=by simp at hj;omega
 have:=h j hj2
 rw [BO (by omega)] at this
 simp [this]
theorem Lo {α:Type} [Inhabited α] {L:List α} {P:α→Bool} {i j:Nat} (hj:j<i) (hi:i≤L.length) (h:P (nth L j)=true):(L.take i).any P=true:=by
 rw [List.any_eq_true]
 refine ⟨nth L j, ?_,h⟩
 rw [BO (by omega)]
 exact List.mem_take_iff_getElem.2 ⟨j,by omega,rfl⟩
theorem Nk {C:Ao} (hnm:IC C):Pf tp WY [.agg C.enc] (.tup [.i .i64 (Bh C).1,.i .i64 (Bh C).2]):=by
 refine AG aEo (by simp [Ot]) fun rp=>?_;unfold Ot;simp (disch:=omega)only[go_sem, *]
 have hcl:=F5.len (rp.head.agg (.fl 6 (C.chans.map A1.enc)) (by simp [Ao.enc]))
 have hpl:=F5.len (rp.head.agg (.fl 11 (C.parts.map Part.enc)) (by simp [Ao.enc]))
 have htl:=F5.len (rp.head.agg (.fl 1 (C.tables.map Tab.enc)) (by simp [Ao.enc]))
 repeat' (first | (refine Av (fun hc=>?_) (fun hc=>?_)<;>simp (disch:=omega)only[go_sem, *]) | (refine Aa (fun hc=>?_) (fun hc=>?_)<;>simp (disch:=omega)only[go_sem, *]))
 all_goals try (have e:Bh C=(3,0):=if_pos (by omega);rw [e];exact ⟨rfl,rfl⟩)
 have e:Bh C=Bn C 0 C.parts:=if_neg (by omega)
 rw [e]
 clear e
 refine Ah (fun n e h=>∃ (i:Nat),n=C.parts.length - i∧h.lim=0∧e 45=.fl 11 (C.parts.map Part.enc)∧e 46=.i .i64 C.parts.length∧e 47=.i .i64 i∧e 1=.p 0 0 0∧i≤C.parts.length∧h.get 0=some ⟨3,[C.enc]⟩∧1≤h.next∧Bn C i (C.parts.drop i)=Bn C 0 C.parts) ?_ _ _ _ ⟨0,rfl, ?_⟩
 ·rintro n e h ⟨i,rfl,hl,e45,e46,e47,e1,hi,hg,hn,hz⟩ ih
  rw [An Uw.eq_1]
  simp (disch:=omega)only[go_sem, *]
  have hg1:=hg
  simp only [Ao.enc] at hg1
  refine Aa (fun hc=>?_) (fun hc=>?_)
  ·rw [AK (by omega),Bn] at hz
   have hns:=hnm _ (AP (L:=C.parts) (j:=i) (by omega))
   simp (disch:=omega)only[go_sem, *]
   refine Pf.go (Yk hns) (by simp only [go_sem]) fun _=>?_;simp (disch:=omega)only[go_sem, *]
   refine Bi (fun hc2=>?_) (fun hc2=>?_)
   ·rw [if_pos (.inl (by simpa using hc2))] at hz
    rw [← hz]
    simp (disch:=omega)only[go_sem, *]
   have hc2':D6 (nth C.parts i).name=true:=by simpa using hc2
   simp (disch:=omega)only[go_sem, *]
   have ih0:=ih
   clear ih
   have hbx:((h.alloc ⟨11,[[.s ⟨#[]⟩,.i .i64 0,.i .i64 0,.b false,.b false,.ns,.i .i64 0,.i .i64 0,.i .i64 0,.i .i64 0,.i .i64 0]]⟩).put h.next ⟨11,[(nth C.parts i).enc]⟩).get h.next=some ⟨11,[(nth C.parts i).enc]⟩:=by simp (disch:=omega)only[go_sem, *]
   refine Ah (fun n e h=>∃ (j:Nat) (b:Nat),n=i - j∧h.lim=0∧e 1=.p 0 0 0∧e 4=.i .i64 i∧e 5=.p b 0 0∧e 6=.i .i64 j∧e 45=.fl 11 (C.parts.map Part.enc)∧e 46=.i .i64 C.parts.length∧e 47=.i .i64 i∧h.get 0=some ⟨3,[C.enc]⟩∧h.get b=some ⟨11,[(nth C.parts i).enc]⟩∧1≤h.next∧j≤i∧∀ k,k<j→(nth C.parts k).name≠(nth C.parts i).name) ?_ _ _ _ ⟨0,h.next,rfl, ?_⟩
   ·rintro n e h ⟨j,b,rfl,hl,e1,e4,e5,e6,e45,e46,e47,hg,hb,hn,hj,hs⟩ ih
    rw [An Uv.eq_1]
    simp (disch:=omega)only[go_sem, *]
    have hg1:=hg
    simp only [Ao.enc] at hg1
    have hb1:=hb
    simp only [Part.enc] at hb1
    refine Aa (fun hc3=>?_) (fun hc3=>?_)
    ·simp (disch:=omega)only[go_sem, *]
     refine Aa (fun hc4=>?_) (fun hc4=>?_)
     ·rw [if_pos (.inr (Lo (j:=j) (by omega) (by omega) (by simpa using hc4)))] at hz
      rw [← hz]
      simp (disch:=omega)only[go_sem, *]
     ·simp (disch:=omega)only[go_sem, *]
      refine ih _ _ _ ?_ ⟨j+1,b,rfl, ?_⟩
      ·omega
      ·simp (disch:=omega)only[go_sem, *]
       ((repeat' refine And.intro ?_ ?_)<;>first | omega | assumption | ((intro k hk;by_cases e:k=j;(subst e;exact hc4);(exact hs k (by omega)))))
    ·have hno:=HT (L:=C.parts) (i:=i) (P:=fun q=>decide (q.name=(nth C.parts i).name)) (fun k hk=>by have:=hs k (by omega);simp [this]) (by omega)
     rw [if_neg (by simp only [hc2',hno];simp)] at hz
     clear hs hno
     simp (disch:=omega)only[go_sem, *]
     refine Pf.go (Yr) (by simp only [go_sem]) fun _=>?_;simp (disch:=omega)only[go_sem, *]
     refine Bi (fun hc4=>?_) (fun hc4=>?_)
     ·rw [if_pos (by simpa using hc4)] at hz
      rw [← hz]
      simp (disch:=omega)only[go_sem, *]
     ·rw [if_neg (by simpa using hc4)] at hz
      simp (disch:=omega)only[go_sem, *]
      refine ih0 _ _ _ ?_ ⟨i+1,rfl, ?_⟩
      ·omega
      ·simp (disch:=omega)only[go_sem, *]
       ((repeat' refine And.intro ?_ ?_)<;>first | omega | assumption)
   ·simp (disch:=omega)only[go_sem, *]
    simp
  ·rw [List.drop_eq_nil_of_le (by omega),Bn] at hz
   rw [← hz]
   clear hz
   simp (disch:=omega)only[go_sem, *]
   refine Ah (fun n e h=>∃ (i:Nat),n=C.chans.length - i∧h.lim=0∧e 78=.fl 6 (C.chans.map A1.enc)∧e 79=.i .i64 C.chans.length∧e 80=.i .i64 i∧e 1=.p 0 0 0∧i≤C.chans.length∧h.get 0=some ⟨3,[C.enc]⟩∧1≤h.next∧Bw C i (C.chans.drop i)=Bw C 0 C.chans) ?_ _ _ _ ⟨0,rfl, ?_⟩
   ·rintro n e h ⟨i,rfl,hl,e78,e79,e80,e1,hi,hg,hn,hz⟩ ih
    rw [An Ux.eq_1]
    simp (disch:=omega)only[go_sem, *]
    have hg1:=hg
    simp only [Ao.enc] at hg1
    refine Aa (fun hc=>?_) (fun hc=>?_)
    ·rw [AK (by omega),Bw] at hz
     simp (disch:=omega)only[go_sem, *]
     refine Pf.go (Ye (x:=nth C.chans i)) (by simp only [go_sem]) fun _=>?_;simp (disch:=omega)only[go_sem, *]
     refine Bi (fun hc4=>?_) (fun hc4=>?_)
     ·rw [if_pos (by simpa using hc4)] at hz
      rw [← hz]
      simp (disch:=omega)only[go_sem, *]
     ·rw [if_neg (by simpa using hc4)] at hz
      simp (disch:=omega)only[go_sem, *]
      refine ih _ _ _ ?_ ⟨i+1,rfl, ?_⟩
      ·omega
      ·simp (disch:=omega)only[go_sem, *]
       ((repeat' refine And.intro ?_ ?_)<;>first | omega | assumption)
    ·rw [List.drop_eq_nil_of_le (by omega),Bw] at hz
     rw [← hz]
     clear hz
     simp (disch:=omega)only[go_sem, *]
     refine Ah (fun n e h=>∃ (i:Nat),n=C.tables.length - i∧h.lim=0∧e 94=.fl 1 (C.tables.map Tab.enc)∧e 95=.i .i64 C.tables.length∧e 96=.i .i64 i∧e 1=.p 0 0 0∧i≤C.tables.length∧h.get 0=some ⟨3,[C.enc]⟩∧1≤h.next∧Cd C i (C.tables.drop i)=Cd C 0 C.tables) ?_ _ _ _ ⟨0,rfl, ?_⟩
     ·rintro n e h ⟨i,rfl,hl,e94,e95,e96,e1,hi,hg,hn,hz⟩ ih
      rw [An Uz.eq_1]
      simp (disch:=omega)only[go_sem, *]
      have hg1:=hg
      simp only [Ao.enc] at hg1
      refine Aa (fun hc=>?_) (fun hc=>?_)
      ·have hf:=Iv (L:=nth C.tables i)
       have hfl:=iA (L:=nth C.tables i)
       rw [AK (by omega),Cd] at hz
       simp (disch:=omega)only[go_sem, *]
       refine Pf.go (Jz) (by simp only [go_sem]) fun _=>?_;simp (disch:=omega)only[go_sem, *]
       have ht:DD C (nth C.tables i)=if (Fj (nth C.tables i)).2≠0 then (Fj (nth C.tables i)).2 else if (Fj (nth C.tables i)).1.any (fun r=>decide ((C.parts.length:Int)≤r.part))=true then 16 else CQ C (Fj (nth C.tables i)).1:=rfl
       refine Aa (fun hc4=>?_) (fun hc4=>?_)
       ·rw [if_pos hc4] at ht
        rw [if_pos (by rw [ht];exact hc4),ht] at hz
        rw [← hz]
        simp (disch:=omega)only[go_sem, *]
       rw [if_neg hc4] at ht
       simp (disch:=omega)only[go_sem, *]
       have ih0:=ih
       clear ih
       refine Ah (fun n e h=>∃ (j:Nat),n=((Fj (nth C.tables i)).1).length - j∧h.lim=0∧e 110=.fl 2 (((Fj (nth C.tables i)).1).map AM.enc)∧e 111=.i .i64 ((Fj (nth C.tables i)).1).length∧e 112=.i .i64 j∧e 1=.p 0 0 0∧e 9=.i .i64 i∧e 11=.fl 2 ((Fj (nth C.tables i)).1.map AM.enc)∧e 94=.fl 1 (C.tables.map Tab.enc)∧e 95=.i .i64 C.tables.length∧e 96=.i .i64 i∧j≤((Fj (nth C.tables i)).1).length∧h.get 0=some ⟨3,[C.enc]⟩∧1≤h.next∧(Fj (nth C.tables i)).1.any (fun r=>decide ((C.parts.length:Int)≤r.part))=((Fj (nth C.tables i)).1.drop j).any (fun r=>decide ((C.parts.length:Int)≤r.part))) ?_ _ _ _ ⟨0,rfl, ?_⟩
       ·rintro n e h ⟨j,rfl,hl,e110,e111,e112,e1,e9,e11,e94,e95,e96,hi,hg,hn,hs⟩ ih
        rw [An Uy.eq_1]
        simp (disch:=omega)only[go_sem, *]
        have hg1:=hg
        simp only [Ao.enc] at hg1
        refine Aa (fun hc5=>?_) (fun hc5=>?_)
        ·simp (disch:=omega)only[go_sem, *]
         refine Aa (fun hc6=>?_) (fun hc6=>?_)
         ·have hy:=Lp (L:=(Fj (nth C.tables i)).1) (P:=fun r=>decide ((C.parts.length:Int)≤r.part)) (i:=j) (by omega) (by simpa using hc6)
          rw [if_pos hy] at ht
          clear hy hs
          rw [if_pos (by rw [ht];simp),ht] at hz
          rw [← hz]
          simp (disch:=omega)only[go_sem, *]
         ·have hno:=IK (L:=(Fj (nth C.tables i)).1) (P:=fun r=>decide ((C.parts.length:Int)≤r.part)) (i:=j) (by omega) (by simpa using hc6)
          rw [hno] at hs
          clear hno
          simp (disch:=omega)only[go_sem, *]
          refine ih _ _ _ ?_ ⟨j+1,rfl, ?_⟩
          ·omega
          ·simp (disch:=omega)only[go_sem, *]
           ((repeat' refine And.intro ?_ ?_)<;>first | omega | assumption)
        ·rw [List.drop_eq_nil_of_le (by omega),List.any_nil] at hs
         rw [if_neg (by rw [hs];simp)] at ht
         clear hs
         rw [ht] at hz
         simp (disch:=omega)only[go_sem, *]
         refine Pf.go (Ni (C:=C) hf) (by simp only [go_sem]) fun _=>?_;simp (disch:=omega)only[go_sem, *]
         refine Aa (fun hc7=>?_) (fun hc7=>?_)
         ·rw [if_pos hc7] at hz
          rw [← hz]
          simp (disch:=omega)only[go_sem, *]
         ·rw [if_neg hc7] at hz
          simp (disch:=omega)only[go_sem, *]
          refine ih0 _ _ _ ?_ ⟨i+1,rfl, ?_⟩
          ·omega
          ·simp (disch:=omega)only[go_sem, *]
           ((repeat' refine And.intro ?_ ?_)<;>first | omega | assumption)
       ·simp (disch:=omega)only[go_sem, *]
      ·rw [List.drop_eq_nil_of_le (by omega),Cd] at hz
       rw [← hz]
       clear hz
       simp (disch:=omega)only[go_sem, *]
     ·simp (disch:=omega)only[go_sem, *]
   ·simp (disch:=omega)only[go_sem, *]
 ·simp (disch:=omega)only[go_sem, *]
theorem JA {C:Ao} (hnm:IC C):Pf tp Wm [.agg C.enc] (.i .i64 (Bh C).1):=by
 refine AG aDK (by simp [NG]) fun rp=>?_;unfold NG;simp (disch:=omega)only[go_sem, *]
 refine Pf.go (Zv hnm) (by simp only [go_sem]) fun _=>?_;simp (disch:=omega)only[go_sem, *]
theorem KC {C:Ao} (hnm:IC C):Pf tp WI [.agg C.enc] (.i .i64 (Bh C).1):=by
 refine AG aD4 (by simp [NZ]) fun rp=>?_;unfold NZ;simp (disch:=omega)only[go_sem, *]
 refine Pf.go (Nk hnm) (by simp only [go_sem]) fun _=>?_;simp (disch:=omega)only[go_sem, *]
end Go.Ab.T
namespace Go.Ab.T
open Go Go.Ab
set_option maxHeartbeats 1000000
@[irreducible] def Ce (n lo hi:Int):Int:=if lo≤n∧n≤hi then n else lo+(if n.tmod (hi - lo+1)<0 then n.tmod (hi - lo+1)+hi - lo+1 else n.tmod (hi - lo+1))
theorem FX {n lo hi:Int} (h:lo≤hi):lo≤Ce n lo hi∧Ce n lo hi≤hi:=by
 unfold Ce
 have h1:0<hi - lo+1:=by omega
 have a:=Int.tmod_lt_of_pos n h1
 have b:=Int.lt_tmod_of_pos n h1
 split
 ·assumption
 ·split<;>omega
theorem FY {n lo hi:Int} (h0:0≤lo) (h1:lo≤hi) (h2:hi≤2000000000):Pf tp WB [.i .i64 n,.i .i64 lo,.i .i64 hi] (.i .i64 (Ce n lo hi)):=by
 have hp:0<hi - lo+1:=by omega
 have a:=Int.tmod_lt_of_pos n hp
 have b:=Int.lt_tmod_of_pos n hp
 refine AG aQp (by simp [YM]) fun rp=>?_;unfold YM;simp (disch:=omega)only[go_sem, *]
 repeat' (first | (refine Av (fun hc=>?_) (fun hc=>?_)<;>simp (disch:=omega)only[go_sem, *]) | (refine Aa (fun hc=>?_) (fun hc=>?_)<;>simp (disch:=omega)only[go_sem, *]) | (refine Cz (fun hc=>?_) (fun hc=>?_)<;>simp (disch:=omega)only[go_sem, *]) | (refine Bi (fun hc=>?_) (fun hc=>?_)<;>simp (disch:=omega)only[go_sem, *]))
 all_goals (unfold Ce;(repeat' split)<;>omega)
@[go_sem] def Ak (L:List Int) (k:Nat):Bx:=⟨2,[[.fl 1 (L.map Eo),.i .i64 k]]⟩
theorem Fi.same {h:AH} {id:Nat} {b:Bx} (hb:h.get id=some b):Fi h id b h:=⟨Nat.le_refl _,rfl,hb,fun _ _ _=>rfl⟩
theorem R6 {h h1 h2:AH} {id:Nat} {b:Bx} (u:Fi h id b h1) (hid:id<h.next) (x:Au h1 h2):Fi h id b h2:=by
 have a:=u.next;have c:=x.next
 exact ⟨by omega,x.lim.trans u.lim,(x.get id (by omega)).trans u.here,fun i hi hn=>(x.get i (by omega)).trans (u.get i hi hn)⟩
theorem BS {h h1:AH} {id:Nat} {b b':Bx} (u:Fi h id b h1):Fi h id b' (h1.put id b'):=
 ⟨u.next,u.lim,by rw [Ad,Aw rfl],fun i hi hn=>by rw [Ad,Af hn];exact u.get i hi hn⟩
theorem Bb {h h1:AH} {id:Nat} {b k:Bx} (u:Fi h id b h1) (hid:id<h.next):Fi h id b (h1.alloc k):=R6 u hid ((Au.refl _).alloc _)
theorem Ks {h h1:AH} {id j:Nat} {b k:Bx} (u:Fi h id b h1) (hj:h.next≤j) (hid:id<h.next):Fi h id b (h1.put j k):=
 ⟨u.next,u.lim,by rw [Ad,Af (by omega)];exact u.here,fun i hi hn=>by rw [Ad,Af (by omega)];exact u.get i hi hn⟩
theorem Dk {h h1 h2:AH} {id b':Nat} {b:Bx} {x v:V} (u:Fi h id b h1) (hid:id<h.next) (g:Grown b' h1 x v h2) (hx:AD x=true∨h.next≤Aq x):Fi h id b h2:=by
 have a:=u.next;have c:=g.next
 have k:∀ i,i<h.next→(AD x=true∨i≠Aq x):=fun i hi=>hx.imp (fun x=>x) (fun x=>by omega)
 exact ⟨by omega,g.lim.trans u.lim,by rw [g.get id (by omega) (k id hid)];exact u.here,fun i hi hn=>by rw [g.get i (by omega) (k i hi)];exact u.get i hi hn⟩
theorem Ay {b sz:Nat} {h:AH} {v:V} {R:List (List V)} (s:Sl b h sz v R):AD v=true∨b≤Aq v:=by
 rcases s with ⟨hv,_⟩ | ⟨i,el,cap,cs,rfl,_,_,_,_,h1,h2,_⟩
 ·rcases hv with rfl | rfl<;>exact .inl rfl
 ·exact .inr h2
theorem EO {tp : TP} {f : Nat} {args : List V} {h : AH} {K : V → AH → Prop} {id k : Nat} {L : List Int} {tf : TF} (hf : tp.fn f = some tf) (hl : args.length ≤ tf.n) (hg : h.get id = some (Ak L k))
    (z:h.lim≤h.next→id<h.next→F0 args→ZC tp tf.body (EC args) h (fun x e h2=>Hk tf.res x e h2 (fun r h3=>∃ R j,CD (h.next≤·) h3 h.next r R∧Fi h id (Ak L j) h3∧K R (h.put id (Ak L j))))):Cq tp f args h K:=
 nO hf hl fun wf rp=>by
  have hlt:=(wf.2 id _ hg).1
  have key:∀ (e:Env) (h2:AH),(Wo (BC e h2 tf.res) fun r=>∃ R j,CD (h.next≤·) h2 h.next r R∧Fi h id (Ak L j) h2∧K R (h.put id (Ak L j)))→Wo (BC e h2 tf.res) fun r=>∃ P R H,Cp h h2 r P R H∧K R H:=by
   rintro e h2 ⟨v,hv,R,j,fr,u,kk⟩
   exact ⟨v,hv,_,R,_,Cp.upd wf u hlt (.cons _ _ _ _ _ (B0.of_stay rfl) (.nil _)) fr,kk⟩
  exact Es (fun x e h2 q=>by
   cases x with
   | ex _=>exact q
   | nm=>exact key _ _ q
   | rt=>exact key _ _ q) (z wf.1 hlt rp)
theorem AC {h : AH} {id k : Nat} {L : List Int} {n : Int} {K : V → AH → Prop} (hg : h.get id = some (Ak L k)) (hk : k ≤ L.length) (hL : L.length < 4000000000) (hlo : h.lim ≤ id)
    (kk:∀ v j,0≤v→v≤1073741824→(v<n∨v=0)→j≤L.length→K (.i .i64 v) (h.put id (Ak L j))):Cq tp KU [.p id 0 0,.i .i64 n] h K:=by
 refine EO aDG (by simp [NC]) hg fun hlm hid rp=>?_
 unfold NC
 have hg1:=hg
 simp only [Ak] at hg1
 simp (disch:=omega)only[go_sem, *]
 refine Av (fun hc=>?_) (fun hc=>?_)
 ·simp (disch:=omega)only[go_sem, *]
  exact ⟨_,k,.z _ _ (.i _ _),Fi.same hg,kk 0 k (by omega) (by omega) (by omega) hk⟩
 ·simp (disch:=omega)only[go_sem, *]
  refine Aa (fun hc2=>?_) (fun hc2=>?_)
  ·simp (disch:=omega)only[go_sem, *]
   exact ⟨_,k,.z _ _ (.i _ _),Fi.same hg,kk 0 k (by omega) (by omega) (by omega) hk⟩
  ·have hk1:(k:Int)<L.length:=by omega
   have hb:=FX (n:=nth L k) (lo:=0) (hi:=1073741824) (by omega)
   have h1:=Int.tmod_nonneg n hb.1
   have h2:=Int.tmod_lt_of_pos (Ce (nth L k) 0 1073741824) (b:=n) (by omega)
   have h3:(Ce (nth L k) 0 1073741824).tmod n≤Ce (nth L k) 0 1073741824:=by
    rw [Int.tmod_eq_emod_of_nonneg hb.1]
    by_cases hlt:Ce (nth L k) 0 1073741824<n
    ·rw [Int.emod_eq_of_lt hb.1 hlt];omega
    ·have:=Int.emod_lt_of_pos (Ce (nth L k) 0 1073741824) (b:=n) (by omega);omega
   simp (disch:=omega)only[go_sem, *]
   refine Pf.go (FY (n:=nth L k) (lo:=0) (hi:=1073741824) (by omega) (by omega) (by omega)) (by simp only [go_sem]) fun _=>?_;simp (disch:=omega)only[go_sem, *]
   exact ⟨_,k+1,.z _ _ (.i _ _),BS (Fi.same hg),kk _ (k+1) h1 (by omega) (.inl h2) (by omega)⟩
end Go.Ab.T
namespace Go.Ab.T
open Go Go.Ab
set_option maxHeartbeats 1000000
/-! Plain laws: when a configuration is right. -/
def C6 (n:Int) (T:List Node):Prop:=∀ x∈T,0≤x.part∧x.part<n
theorem C6.one {n:Int} {x:Node} (h0:0≤x.part) (h:x.part<n):C6 n [x]:=fun y hy=>by
 rw [List.mem_singleton] at hy;subst hy;exact ⟨h0,h⟩
theorem C6.app {n:Int} {A B:List Node} (a:C6 n A) (b:C6 n B):C6 n (A++B):=fun y hy=>by
 rcases List.mem_append.1 hy with h | h
 ·exact a y h
 ·exact b y h
theorem C6.cons {n:Int} {x:Node} {B:List Node} (h0:0≤x.part) (h:x.part<n) (b:C6 n B):C6 n (x::B):=C6.app (C6.one h0 h) b
theorem Fo.runs_part {n:Int} (hn:1≤n):∀ (f:Fo),C6 n f.flat→∀ r∈f.runs,r.part<n
 | .nil,h,r,hr=>by simp [Fo.runs] at hr
 | .leaf x f,h,r,hr=>by
  simp only [Fo.runs,List.mem_cons] at hr
  simp only [Fo.flat] at h
  rcases hr with rfl | hr
  ·have:=h x (List.mem_cons_self ..)
   simp only [C4];split<;>omega
  ·exact Fo.runs_part hn f (fun y hy=>h y (List.mem_cons_of_mem _ hy)) r hr
 | .seq x k f,h,r,hr=>by
  simp only [Fo.runs,List.mem_append] at hr
  simp only [Fo.flat] at h
  rcases hr with hr | hr
  ·exact Fo.runs_part hn k (fun y hy=>h y (List.mem_cons_of_mem _ (List.mem_append_left _ hy))) r hr
  ·exact Fo.runs_part hn f (fun y hy=>h y (List.mem_cons_of_mem _ (List.mem_append_right _ hy))) r hr
 | .rep x k f,h,r,hr=>by
  simp only [Fo.runs,List.mem_append] at hr
  simp only [Fo.flat] at h
  rcases hr with hr | hr
  ·rw [List.mem_flatten] at hr
   obtain ⟨l,hl,hr⟩:=hr
   rw [List.mem_replicate] at hl
   obtain ⟨_,rfl⟩:=hl
   exact Fo.runs_part hn k (fun y hy=>h y (List.mem_cons_of_mem _ (List.mem_append_left _ hy))) r hr
  ·exact Fo.runs_part hn f (fun y hy=>h y (List.mem_cons_of_mem _ (List.mem_append_right _ hy))) r hr
def C2 (n:Int) (T:List Node):Prop:=(Fj T).2=0∧∀ r∈(Fj T).1,r.part<n
theorem C2.of {n:Int} (hn:1≤n) {T:List Node} (h:(Fj T).2=0) (hp:C6 n T):C2 n T:=by
 refine ⟨h, ?_⟩
 by_cases hr:A7 T=0
 ·rw [Fv hr] at h ⊢
  obtain ⟨_,ho,hc1,hL,hd,hl⟩:=FK hr
  split at h
  ·simp at h
  ·rename_i h96
   rw [if_neg h96]
   intro r hr
   have hap:=Fo.runs_allpos _ ho
   have hsum:=Fo.runs_sum _ ho
   have ht:=Me hap (by omega)
   obtain ⟨q,hq,e⟩:=ht.parts r hr
   rw [← e]
   exact Fo.runs_part hn _ (by rw [← hL];exact hp) q hq
 ·rw [Iu hr] at h
  exact absurd h hr
theorem C2.right {n:Int} {T:List Node} (h:C2 n T):A7 T=0:=by
 by_cases hr:A7 T=0
 ·exact hr
 ·have:=h.1;rw [Iu hr] at this;exact absurd this hr
theorem C2.ne {n:Int} {T:List Node} (h:C2 n T):0<T.length:=by
 obtain ⟨_,f,ho,hc,rfl,_⟩:=(FS T).1 h.right
 exact Fo.flat_pos hc
def Hz (p:Int):List Node:=[⟨3,0,2⟩,⟨1,p,3⟩,⟨2,0,2⟩]
theorem aE4 {n p:Int} (hn:1≤n) (h6:n≤6) (h0:0≤p) (hp:p<n):C2 n (Hz p):=by
 refine C2.of hn ?_ (C6.cons (by simp) (by simp;omega) (C6.cons (by simp;omega) (by simp;omega) (C6.one (by simp) (by simp;omega))))
 have k1:kids ⟨1,p,3⟩=0:=by unfold kids;rw [if_neg (by simp),if_pos (by simp;omega)]
 have e:Hz p=(Fo.seq ⟨3,0,2⟩ (.leaf ⟨1,p,3⟩ (.leaf ⟨2,0,2⟩ .nil)) .nil).flat:=rfl
 have hr:A7 (Hz p)=0:=by
  rw [e]
  refine JB ⟨rfl,rfl,by simp [Fo.count],⟨k1,rfl,trivial⟩,trivial⟩ rfl (by simp [Fo.depth]) (by simp [Fo.len]) (by simp [Fo.flat])
 rw [Fv hr]
 obtain ⟨hl128,ho,hc1,hL,hd,hl⟩:=FK hr
 have hap:=Fo.runs_allpos _ ho
 have hsum:=Fo.runs_sum _ ho
 have ht:=Me hap (by omega)
 have h1:((E0 (Hz p)).runs.length:Int)≤Ax (E0 (Hz p)).runs:=by
  have:∀ {w:List AM},A5 w→(w.length:Int)≤Ax w:=by
   intro w
   induction w with
   | nil=>intro _;simp [Ax]
   | cons a l ih=>
    intro h
    have:=ih (fun r hr=>h r (List.mem_cons_of_mem _ hr))
    have:=h a (List.mem_cons_self ..)
    simp only [Ax,List.length_cons];omega
  exact this hap
 have hlen:(E0 (Hz p)).len=5:=by
  obtain ⟨f,hf,he,hc⟩:∃ f:Fo,f.ok∧f.flat=Hz p∧f.len=(E0 (Hz p)).len:=⟨_,ho,hL.symm,rfl⟩
  have m1:=(BA ho hc1).2
  have m2:=(BA (f:=Fo.seq ⟨3,0,2⟩ (.leaf ⟨1,p,3⟩ (.leaf ⟨2,0,2⟩ .nil)) .nil) ⟨rfl,rfl,by simp [Fo.count],⟨k1,rfl,trivial⟩,trivial⟩ rfl).2
  rw [← hL] at m1
  rw [← e] at m2
  rw [m1] at m2
  have l2:(Fo.seq ⟨3,0,2⟩ (.leaf ⟨1,p,3⟩ (.leaf ⟨2,0,2⟩ .nil)) .nil).len=5:=rfl
  rw [l2] at m2
  omega
 rw [if_neg (by unfold iB;have:=ht.len;omega)]
/-! Lateness is no longer than a frame. -/
theorem XV {tt:List B1} {n t:Int} (hs:Cb 0 tt n) (hne:tt≠[]) (h0:0≤t) (hn:n≤4096):Ih tt t n - t≤4096:=by
 unfold Ih
 rcases E7 (t:=t) hs with ⟨h1,h2⟩ | ⟨s,h1,h2,h3,h4⟩
 ·rw [h1]
  match tt,hne with
  | a::l,_=>
   have:=hs.mem (List.mem_cons_self ..)
   have:=h2 a (List.mem_cons_self ..)
   simp only [nth,List.getD_cons_zero]
   omega
 ·rw [h2]
  have:=hs.mem h1
  simp only;omega
theorem MT {tt:List B1} {n:Int} (hs:Cb 0 tt n) (hne:tt≠[]) (hn:n≤4096):∀ (l:List B1) (w:Int),w≤4096→(∀ s∈l,0≤s.s∧s.s<s.e)→Fe tt n l w≤4096
 | [],w,hw,_=>hw
 | s::l,w,hw,h=>by
  rw [Fe]
  have hh:=h s (List.mem_cons_self ..)
  have a:=XV hs hne (t:=s.s) (by omega) hn
  have b:=XV hs hne (t:=s.e - 1) (by omega) hn
  exact MT hs hne hn l _ (by omega) (fun x hx=>h x (List.mem_cons_of_mem _ hx))
theorem XE {L:List AM} {f t:Int} (hf:Hi L):C3 L f t≤4096:=by
 unfold C3
 split
 ·omega
 ·split
  ·omega
  ·rename_i h2
   have s1:=Bv (p:=t) (a:=0) hf.1
   have s2:=Bv (p:=f) (a:=0) hf.1
   rw [Int.zero_add] at s1 s2
   exact MT s1 h2 hf.2 _ _ (by omega) (fun s hs=>by have:=s2.mem hs;omega)
/-! When all is right. -/
theorem Kt {C:Ao}:∀ (l:List (List Node)) (i:Nat),Cd C i l=(0,-1)↔∀ t∈l,DD C t=0
 | [],i=>by simp [Cd]
 | t::l,i=>by
  rw [Cd]
  split
  ·rename_i h;simp [h]
  ·rename_i h;rw [Kt l];simp at h;simp [h]
theorem H7 {C:Ao}:∀ (l:List A1) (i:Nat),Bw C i l=(0,-1)↔(∀ x∈l,CJ C.parts.length x=true)∧∀ t∈C.tables,DD C t=0
 | [],i=>by simp [Bw,Kt]
 | x::l,i=>by
  rw [Bw]
  split
  ·rename_i h;simp [h]
  ·rename_i h;rw [H7 l];simp at h;simp [h]
def TZ (P:List Part) (j:Nat):Prop:=D6 (nth P j).name=true∧(P.take j).any (fun q=>decide (q.name=(nth P j).name))=false∧Ef (nth P j)=true
theorem H8 {C:Ao}:∀ (l:List Part) (i:Nat),l=C.parts.drop i→(Bn C i l=(0,-1)↔(∀ j,i≤j→j<C.parts.length→TZ C.parts j)∧(∀ x∈C.chans,CJ C.parts.length x=true)∧∀ t∈C.tables,DD C t=0)
 | [],i,hl=>by
  have:C.parts.length≤i:=List.drop_eq_nil_iff.1 hl.symm
  rw [Bn,H7]
  constructor
  ·intro h;exact ⟨fun j h1 h2=>by omega,h⟩
  ·intro h;exact h.2
 | p::l,i,hl=>by
  have hi:i<C.parts.length:=by
   rcases Nat.lt_or_ge i C.parts.length with h | h
   ·exact h
   ·rw [List.drop_eq_nil_of_le h] at hl;cases hl
  rw [AK hi] at hl
  injection hl with h1 h2
  subst h1
  rw [Bn]
  split
  ·rename_i h
   constructor
   ·intro h';simp at h'
   ·intro h'
    have g:=h'.1 i (Nat.le_refl _) hi
    rw [g.1,g.2.1] at h;simp at h
  ·rename_i h
   split
   ·rename_i h3
    constructor
    ·intro h';simp at h'
    ·intro h'
     have g:=h'.1 i (Nat.le_refl _) hi
     rw [g.2.2] at h3;simp at h3
   ·rename_i h3
    rw [H8 l (i+1) h2]
    simp only [not_or,Bool.not_eq_false,Bool.not_eq_true] at h h3
    constructor
    ·intro h'
     refine ⟨fun j hj1 hj2=>?_,h'.2⟩
     by_cases e:j=i
     ·subst e;exact ⟨h.1,h.2,h3⟩
     ·exact h'.1 j (by omega) hj2
    ·intro h'
     exact ⟨fun j hj1 hj2=>h'.1 j (by omega) hj2,h'.2⟩
theorem EL {C:Ao}:Bh C=(0,-1)↔(1≤C.parts.length∧C.parts.length≤6∧C.chans.length≤8∧1≤C.tables.length∧C.tables.length≤3)∧(∀ j,j<C.parts.length→TZ C.parts j)∧(∀ x∈C.chans,CJ C.parts.length x=true)∧∀ t∈C.tables,DD C t=0:=by
 unfold Bh
 split
 ·rename_i h
  constructor
  ·intro h';simp at h'
  ·intro h';omega
 ·rename_i h
  rw [H8 _ 0 (by simp)]
  constructor
  ·intro h';exact ⟨by omega,fun j hj=>h'.1 j (by omega) hj,h'.2⟩
  ·intro h';exact ⟨fun j _ hj=>h'.2.1 j hj,h'.2.2⟩
theorem Kp {C:Ao} {T:List Node}:DD C T=0↔C2 C.parts.length T∧CQ C (Fj T).1=0:=by
 unfold DD C2
 split
 ·rename_i h;simp [h]
 ·rename_i h
  split
  ·rename_i h2
   rw [List.any_eq_true] at h2
   obtain ⟨r,h3,h4⟩:=h2
   constructor
   ·intro h';simp at h'
   ·intro h'
    have:=h'.1.2 r h3
    simp at h4;omega
  ·rename_i h2
   simp only [List.any_eq_true,not_exists,not_and] at h2
   constructor
   ·intro h';exact ⟨⟨by omega,fun r hr=>by have:=h2 r hr;simp at this;omega⟩,h'⟩
   ·intro h';exact h'.2
theorem Ja {C:Ao} {L:List AM}:CQ C L=0↔C.chans.any (BX L)=false∧BQ L 0 C.parts=false:=by
 unfold CQ
 split
 ·rename_i h;simp [h]
 ·rename_i h;simp only [Bool.not_eq_true] at h
  split
  ·rename_i h2;simp [h2]
  ·rename_i h2;simp only [Bool.not_eq_true] at h2;simp [h,h2]
theorem E9 {L:List AM}:∀ (l:List Part) (i:Nat),(∀ p∈l,p.budget=0)→BQ L i l=false
 | [],i,h=>rfl
 | p::l,i,h=>by
  rw [BQ,E9 l (i+1) (fun q hq=>h q (List.mem_cons_of_mem _ hq)),h p (List.mem_cons_self ..)]
  simp
end Go.Ab.T
namespace Go.Ab.T
open Go Go.Ab
set_option maxHeartbeats 2000000
theorem Sl.new {b:Nat} {h:AH} {sz:Nat} {N:List (List V)} (hb:b≤h.next) (hN:N.length<4294967296):Sl b (h.alloc ⟨sz,N⟩) sz (.sl h.next 0 N.length N.length) N:=
 .inr ⟨h.next,0,N.length,N,rfl,by simp [AH.alloc],by simp,by simp,Nat.le_refl _,by simp [AH.alloc],hb,hN⟩
theorem Iw {m nx i:Nat} {h:AH} {x:Node} (hi:i=h.next) (hb:m≤i):CD (m≤·) (h.alloc ⟨3,[x.enc]⟩) nx (.sl i 0 1 1) (.fl 3 ([x].map Node.enc)):=by
 subst hi
 exact Sl.froze (b:=m) (L:=[x]) (Sl.new hb (by simp)) (fun _=>rfl) hb (by simp)
theorem Sl.frzb {α:Type} {enc:α→List V} {b nx:Nat} {h:AH} {sz:Nat} {v:V} {L:List α} (s:Sl b h sz v (L.map enc)) (he:∀ a,(enc a).all Nz=true) (hL:L.length<4000000000):CD (b≤·) h nx v (.fl sz (L.map enc)):=by
 rcases Ay s with hn | hn
 ·rcases s with ⟨hv,hR⟩ | ⟨i,el,cap,cs,rfl,_⟩
  ·rw [hR];rcases hv with rfl | rfl
   ·exact .ns _ _
   ·exact .e0 _ _
  ·cases hn
 ·exact s.froze he hn hL
theorem aSu (d:Nat):1≤5 ^ d:=Nat.pos_of_ne_zero (by simp)
theorem TN {n : Int} {L : List Int} {id : Nat} (hn : 1 ≤ n) (hn2 : n ≤ 1073741824) (hL : L.length < 4000000000) : ∀ (d : Nat), d ≤ 4 → ∀ {h : AH} {k : Nat} {K : V → AH → Prop}, h.get id = some (Ak L k) → k ≤ L.length → h.lim ≤ id →
    (∀ T j,C6 n T→T.length≤5 ^ d→j≤L.length→K (.fl 3 (T.map Node.enc)) (h.put id (Ak L j)))→Cq tp MO [.p id 0 0,.i .i64 n,.i .i64 d] h K:=by
 intro d
 induction d with
 | zero=>
  intro _ h k K hg hk hlo kk
  refine EO V0 (by simp [Kg]) hg fun hlm hid rp=>?_
  unfold Kg
  simp (disch:=omega)only[go_sem, *]
  refine AC hg hk hL hlo ?_
  intro v j h0 h1 h2 hj
  simp (disch:=omega)only[go_sem, *]
  have hg1:(h.put id (Ak L j)).get id=some (Ak L j):=by simp (disch:=omega)only[go_sem, *]
  refine Aa (fun hc=>?_) (fun hc=>?_)
  ·simp (disch:=omega)only[go_sem, *]
   refine AC hg1 hj hL hlo ?_
   intro v2 j2 h20 h21 h22 hj2
   simp (disch:=omega)only[go_sem, *]
   exact ⟨.fl 3 ([(⟨2,0,1+v2⟩:Node)].map Node.enc),j2,Iw (x:=⟨2,0,1+v2⟩) rfl (Nat.le_refl _),Bb (BS (Fi.same hg)) hid,kk _ _ (C6.one (by simp) (by simp;omega)) (by simp) hj2⟩
  ·simp (disch:=omega)only[go_sem, *]
   refine AC hg1 hj hL hlo ?_
   intro v2 j2 h20 h21 h22 hj2
   have hg2:(h.put id (Ak L j2)).get id=some (Ak L j2):=by simp (disch:=omega)only[go_sem, *]
   simp (disch:=omega)only[go_sem, *]
   refine AC hg2 hj2 hL hlo ?_
   intro v3 j3 h30 h31 h32 hj3
   simp (disch:=omega)only[go_sem, *]
   exact ⟨.fl 3 ([(⟨1,v2,1+v3⟩:Node)].map Node.enc),j3,Iw (x:=⟨1,v2,1+v3⟩) rfl (Nat.le_refl _),Bb (BS (Fi.same hg)) hid,kk _ _ (C6.one (by simp;omega) (by simp;omega)) (by simp) hj3⟩
 | succ d ihd=>
  intro hd h k K hg hk hlo kk
  have hp:=aSu d
  have hpe:5 ^ (d+1)=5*5 ^ d:=by rw [Nat.pow_succ];omega
  have hpd:5 ^ d≤125:=Nat.pow_le_pow_right (n:=5) (by omega) (show d≤3 by omega)
  rw [hpe] at kk
  clear hpe
  refine EO V0 (by simp [Kg]) hg fun hlm hid rp=>?_
  unfold Kg
  simp (disch:=omega)only[go_sem, *]
  refine AC hg hk hL hlo ?_
  intro v j h0 h1 h2 hj
  simp (disch:=omega)only[go_sem, *]
  have hg1:(h.put id (Ak L j)).get id=some (Ak L j):=by simp (disch:=omega)only[go_sem, *]
  refine Av (fun hc=>absurd hc (by omega)) (fun hc=>?_)
  simp (disch:=omega)only[go_sem, *]
  refine Aa (fun hc=>?_) (fun hc=>?_)
  ·simp (disch:=omega)only[go_sem, *]
   refine Aa (fun hc2=>?_) (fun hc2=>?_)
   ·simp (disch:=omega)only[go_sem, *]
    refine AC hg1 hj hL hlo ?_
    intro v2 j2 h20 h21 h22 hj2
    simp (disch:=omega)only[go_sem, *]
    exact ⟨.fl 3 ([(⟨2,0,1+v2⟩:Node)].map Node.enc),j2,Iw (x:=⟨2,0,1+v2⟩) rfl (Nat.le_refl _),Bb (BS (Fi.same hg)) hid,kk _ _ (C6.one (by simp) (by simp;omega)) (by simp;omega) hj2⟩
   ·simp (disch:=omega)only[go_sem, *]
    refine AC hg1 hj hL hlo ?_
    intro v2 j2 h20 h21 h22 hj2
    have hg2:(h.put id (Ak L j2)).get id=some (Ak L j2):=by simp (disch:=omega)only[go_sem, *]
    simp (disch:=omega)only[go_sem, *]
    refine AC hg2 hj2 hL hlo ?_
    intro v3 j3 h30 h31 h32 hj3
    simp (disch:=omega)only[go_sem, *]
    exact ⟨.fl 3 ([(⟨1,v2,1+v3⟩:Node)].map Node.enc),j3,Iw (x:=⟨1,v2,1+v3⟩) rfl (Nat.le_refl _),Bb (BS (Fi.same hg)) hid,kk _ _ (C6.one (by simp;omega) (by simp;omega)) (by simp;omega) hj3⟩
  ·simp (disch:=omega)only[go_sem, *]
   refine Aa (fun hc2=>?_) (fun hc2=>?_)
   ·simp (disch:=omega)only[go_sem, *]
    refine AC hg1 hj hL hlo ?_
    intro v2 j2 h20 h21 h22 hj2
    simp (disch:=omega)only[go_sem, *]
    have hu:=Bb (k:=⟨3,[[.i .i64 4,.i .i64 0,.i .i64 (1+v2)]]⟩) (BS (b':=Ak L j2) (Fi.same hg)) hid
    have hun:=hu.next
    refine ihd (by omega) hu.here hj2 (by simp (disch:=omega)only[go_sem, *]) ?_
    intro T j3 hT hTl hj3
    simp (disch:=omega)only[go_sem, *]
    have so:Sl h.next ((h.put id (Ak L j2)).alloc ⟨3,[(⟨4,0,1+v2⟩:Node)].map Node.enc⟩) 3 (.sl h.next 0 1 1) ([(⟨4,0,1+v2⟩:Node)].map Node.enc):=Sl.new (Nat.le_refl _) (by simp)
    refine Az (so.putx id (Ak L j3) (by simp only [Aq];omega)) (by simp (disch:=omega)only[go_sem, *]<;>omega) (by simp (disch:=omega)only[go_sem, *]<;>omega) (by simp;omega) ?_
    intro w h4 s4 g4
    have hu4:=Dk (BS (b':=Ak L j3) hu) hid g4 (.inr (Nat.le_refl _))
    simp (disch:=omega)only[go_sem, *]
    rw [← List.map_append] at s4
    exact ⟨.fl 3 (([(⟨4,0,1+v2⟩:Node)]++T).map Node.enc),j3,Sl.frzb s4 (fun _=>rfl) (by simp;omega),hu4,kk _ _ (C6.app (C6.one (by simp) (by simp;omega)) hT) (by simp;omega) hj3⟩
   ·simp (disch:=omega)only[go_sem, *]
    refine AC hg1 hj hL hlo ?_
    intro v2 j2 h20 h21 h22 hj2
    obtain ⟨m,rfl⟩:∃ m:Nat,v2=m:=⟨v2.toNat,by omega⟩
    simp (disch:=omega)only[go_sem, *]
    have hu:=Bb (k:=⟨3,[(⟨3,0,1+m⟩:Node)].map Node.enc⟩) (BS (b':=Ak L j2) (Fi.same hg)) hid
    have so:Sl h.next ((h.put id (Ak L j2)).alloc ⟨3,[(⟨3,0,1+m⟩:Node)].map Node.enc⟩) 3 (.sl h.next 0 1 1) ([(⟨3,0,1+m⟩:Node)].map Node.enc):=Sl.new (Nat.le_refl _) (by simp)
    have so2:=so
    simp only [List.map_cons,List.map_nil,Node.enc,Ak] at hu so2
    refine Ah (fun n' e h'=>∃ (i j:Nat) (O:List Node) (o:V),n'=m+1 - i∧h'.lim=h.lim∧e 0=.p id 0 0∧e 1=.i .i64 n∧e 2=.i .i64 (d+1)∧e 8=.i .i64 (1+m)∧e 9=o∧e 10=.i .i64 i∧i≤m+1∧j≤L.length∧Fi h id (Ak L j) h'∧Sl h.next h' 3 o (O.map Node.enc)∧C6 n O∧O.length≤1+i*5 ^ d) ?_ _ _ _ ⟨0,j2,[⟨3,0,1+m⟩],.sl h.next 0 1 1,rfl, ?_⟩
    ·rintro n' e h' ⟨i,j,O,o,rfl,hl',e0,e1,e2,e8,e9,e10,hi,hj,hu,so,hO,hOl⟩ ih
     have hun:=hu.next
     have hgu:=hu.here
     have hw:=Ay so
     rw [An Ul.eq_1]
     simp (disch:=omega)only[go_sem, *]
     refine Aa (fun hc=>?_) (fun hc=>?_)
     ·simp (disch:=omega)only[go_sem, *]
      refine ihd (by omega) hu.here hj (by omega) ?_
      intro T j3 hT hTl hj3
      have hi5:i*5 ^ d≤3*5 ^ d:=Nat.mul_le_mul_right _ (by omega)
      have hi6:(i+1)*5 ^ d=i*5 ^ d+5 ^ d:=Nat.succ_mul _ _
      simp (disch:=omega)only[go_sem, *]
      have so3:Sl h.next (h'.put id (Ak L j3)) 3 o (O.map Node.enc):=by
       rcases hw with hw | hw
       ·rcases so with ⟨a,b⟩ | ⟨_,_,_,_,rfl,_⟩
        ·exact .inl ⟨a,b⟩
        ·cases hw
       ·exact so.putx _ _ (by omega)
      refine Az so3 (by simp (disch:=omega)only[go_sem, *]<;>omega) (by simp (disch:=omega)only[go_sem, *]<;>omega) (by simp;omega) ?_
      intro w h4 s4 g4
      have hl4:=g4.lim
      have hu4:=Dk (BS (b':=Ak L j3) hu) hid g4 hw
      simp (disch:=omega)only[go_sem, *]
      refine ih _ _ _ ?_ ⟨i+1,j3,O++T,w,rfl, ?_⟩
      ·omega
      ·simp (disch:=omega)only[go_sem, *]
       ((repeat' refine And.intro ?_ ?_)<;>first | omega | assumption | (simpa using s4) | (exact C6.app hO hT) | ((simp;omega)))
     ·have hi5:i*5 ^ d≤4*5 ^ d:=Nat.mul_le_mul_right _ (by omega)
      simp (disch:=omega)only[go_sem, *]
      exact ⟨.fl 3 (O.map Node.enc),j,Sl.frzb so (fun _=>rfl) (by omega),hu,kk _ _ hO (by omega) hj⟩
    ·simp (disch:=omega)only[go_sem, *]
     ((repeat' refine And.intro ?_ ?_)<;>first | omega | assumption | (exact hu) | (exact so) | (exact C6.one (by simp) (by simp;omega)) | (simp))
end Go.Ab.T
namespace Go.Ab.T
open Go Go.Ab
set_option maxHeartbeats 2000000
def Hc:List AM→Int→Int
 | [],a=>a
 | r::l,a=>Hc l (Fm a r.n)
theorem H4 {L:List AM} (hb:∀ r∈L,r.n≤9223372036854775807):Pf tp WF [.fl 2 (L.map AM.enc)] (.i .i64 (Hc L 0)):=by
 refine AG aD1 (by simp [NW]) fun rp=>?_;unfold NW;simp (disch:=omega)only[go_sem, *]
 have hL:=rp.head.len
 refine Ah (fun n e h=>∃ (i:Nat) (a:Int),n=L.length - i∧h.lim=0∧e 6=.fl 2 (L.map AM.enc)∧e 7=.i .i64 L.length∧e 8=.i .i64 i∧e 3=.i .i64 a∧i≤L.length∧a≤9223372036854775807∧Hc (L.drop i) a=Hc L 0) ?_ _ _ _ ⟨0,0,rfl, ?_⟩
 ·rintro n e h ⟨i,a,rfl,hl,e6,e7,e8,e3,hi,ha,hz⟩ ih
  rw [An nW.eq_1]
  simp (disch:=omega)only[go_sem, *]
  refine Aa (fun hc=>?_) (fun hc=>?_)
  ·rw [AK (by omega),Hc] at hz
   have hx:=hb _ (AP (L:=L) (j:=i) (by omega))
   have ha2:=Ey (a:=a) (b:=(nth L i).n)
   simp (disch:=omega)only[go_sem, *]
   refine Pf.go (YI (a:=a) (b:=(nth L i).n) ha hx) (by simp only [go_sem]) fun _=>?_;simp (disch:=omega)only[go_sem, *]
   refine ih _ _ _ ?_ ⟨i+1,Fm a (nth L i).n,rfl, ?_⟩
   ·omega
   ·simp (disch:=omega)only[go_sem, *]
    ((repeat' refine And.intro ?_ ?_)<;>first | omega | assumption)
  ·rw [List.drop_eq_nil_of_le (by omega),Hc] at hz
   simp (disch:=omega)only[go_sem, *]
 ·simp (disch:=omega)only[go_sem, *]
theorem Ra {L:List AM} (hf:Hi L):∀ r∈L,r.n≤9223372036854775807:=by
 obtain ⟨h1,h2⟩:=hf
 induction L with
 | nil=>intro r hr;cases hr
 | cons a l ih=>
  intro r hr
  have hp:=BN (w:=l) (fun x hx=>h1 x (List.mem_cons_of_mem _ hx))
  have ha:=h1 a (List.mem_cons_self ..)
  simp only [Ax] at h2
  rcases List.mem_cons.1 hr with rfl | hr
  ·omega
  ·exact ih (fun x hx=>h1 x (List.mem_cons_of_mem _ hx)) (by omega) r hr
theorem Wa {n : Int} {L : List Int} {id : Nat} (hn : 1 ≤ n) (hn6 : n ≤ 6) (hL : L.length < 4000000000) {h : AH} {k : Nat} {K : V → AH → Prop} (hg : h.get id = some (Ak L k)) (hk : k ≤ L.length) (hlo : h.lim ≤ id)
    (kk:∀ T j,C2 n T→T.length≤625→j≤L.length→K (.fl 3 (T.map Node.enc)) (h.put id (Ak L j))):Cq tp Rd [.p id 0 0,.i .i64 n] h K:=by
 refine EO aDH (by simp [ND]) hg fun hlm hid rp=>?_
 unfold ND
 simp (disch:=omega)only[go_sem, *]
 refine TN hn (by omega) hL 4 (by omega) hg hk hlo ?_
 intro T j hT hTl hj
 have hg1:(h.put id (Ak L j)).get id=some (Ak L j):=by simp (disch:=omega)only[go_sem, *]
 have hf:=Iv (L:=T)
 have lit:∀ v2 j2 x,0≤v2→v2<n→j2≤L.length→x=h.next→∃ R j3,CD (h.next≤·) ((h.put id (Ak L j2)).alloc ⟨3,[[.i .i64 3,.i .i64 0,.i .i64 2],[.i .i64 1,.i .i64 v2,.i .i64 3],[.i .i64 2,.i .i64 0,.i .i64 2]]⟩) h.next (.sl x 0 3 3) R∧Fi h id (Ak L j3) ((h.put id (Ak L j2)).alloc ⟨3,[[.i .i64 3,.i .i64 0,.i .i64 2],[.i .i64 1,.i .i64 v2,.i .i64 3],[.i .i64 2,.i .i64 0,.i .i64 2]]⟩)∧K R (h.put id (Ak L j3)):=by
  rintro v2 j2 x h0 h1 h2 rfl
  have s0:Sl h.next ((h.put id (Ak L j2)).alloc ⟨3,(Hz v2).map Node.enc⟩) 3 (.sl h.next 0 3 3) ((Hz v2).map Node.enc):=Sl.new (Nat.le_refl _) (by simp [Hz])
  exact ⟨_,j2,Sl.frzb s0 (fun _=>rfl) (by simp [Hz]),Bb (BS (Fi.same hg)) hid,kk _ j2 (aE4 hn hn6 h0 h1) (by simp [Hz]) h2⟩
 simp only [Ak] at lit
 simp (disch:=omega)only[go_sem, *]
 refine Pf.go (Jz) (by simp only [go_sem]) fun _=>?_;simp (disch:=omega)only[go_sem, *]
 repeat' (first | (refine Av (fun hc=>?_) (fun hc=>?_)<;>simp (disch:=omega)only[go_sem, *]) | (refine Aa (fun hc=>?_) (fun hc=>?_)<;>simp (disch:=omega)only[go_sem, *]) | (refine Cz (fun hc=>?_) (fun hc=>?_)<;>simp (disch:=omega)only[go_sem, *]) | (refine Bi (fun hc=>?_) (fun hc=>?_)<;>simp (disch:=omega)only[go_sem, *]) | (refine Pf.go (H4 (Ra hf)) (by simp only [go_sem]) fun _=>?_;simp (disch:=omega)only[go_sem, *]))
 all_goals first
  | (refine AC hg1 hj hL hlo ?_;intro v2 j2 h20 h21 h22 hj2;(have h23:v2<n:=by omega);simp (disch:=omega)only[go_sem, *])
  | (have h0 : (Fj T).2 = 0 := by omega
     exact ⟨_,j,.fl _ _ _,BS (Fi.same hg),kk T j (C2.of hn h0 hT) (by omega) hj⟩)
end Go.Ab.T
namespace Go.Ab.T
open Go Go.Ab
set_option maxHeartbeats 2000000
@[go_sem] def RT.enc (r:List AM):List V:=[.fl 2 (r.map AM.enc)]
theorem Sl.sameV {b sz:Nat} {h:AH} {v:V} {R:List (List V)} (s:Sl b h sz v R):BR v v=true:=by
 rcases s with ⟨hv,_⟩ | ⟨i,el,cap,cs,rfl,_⟩
 ·rcases hv with rfl | rfl<;>rfl
 ·exact Go.Ab.sameVa_sl
structure Ask (b id:Nat) (L:List Int) (vp vc:V) (T:List (List Node)) (h h':AH) (P:List Part) (Ch:List A1) (j:Nat):Prop where
 next:h.next+2≤h'.next
 lim:h'.lim=h.lim
 tape:h'.get id=some (Ak L j)
 jl:j≤L.length
 box:h'.get h.next=some ⟨3,[[vp,vc,.fl 1 (T.map Tab.enc)]]⟩
 res:h'.get (h.next+1)=some ⟨3,[[.ns,.ns,.ns]]⟩
 low:∀ i,i<b→i≠id→h'.get i=h.get i
 sp:Sl b h' 11 vp (P.map Part.enc)
 sc:Sl b h' 6 vc (Ch.map A1.enc)
 pl:AD vp=true∨Aq vp<h.next
 cl:AD vc=true∨Aq vc<h.next
 dj:AD vp=true∨AD vc=true∨Aq vp≠Aq vc
theorem AI {b sz:Nat} {h:AH} {v:V} {R:List (List V)} (s:Sl b h sz v R) (i:Nat) (k:Bx) (hi:AD v=true∨i≠Aq v):Sl b (h.put i k) sz v R:=by
 rcases hi with hi | hi
 ·rcases s with ⟨a,c⟩ | ⟨_,_,_,_,rfl,_⟩
  ·exact .inl ⟨a,c⟩
  ·cases hi
 ·exact s.putx _ _ hi
section
variable {b id:Nat} {L:List Int} {vp vc:V} {T:List (List Node)} {h h':AH} {P:List Part} {Ch:List A1} {j:Nat}
theorem Ask.ext {h2:AH} (a:Ask b id L vp vc T h h' P Ch j) (hb:b≤h.next) (hid:id<b) (x:Au h' h2):Ask b id L vp vc T h h2 P Ch j:=by
 have n1:=a.next;have n2:=x.next
 exact ⟨by omega,x.lim.trans a.lim,(x.get _ (by omega)).trans a.tape,a.jl,(x.get _ (by omega)).trans a.box,(x.get _ (by omega)).trans a.res,fun i hi hn=>(x.get i (by omega)).trans (a.low i hi hn),a.sp.ext x,a.sc.ext x,a.pl,a.cl,a.dj⟩
theorem Ask.tape2 {j2:Nat} (a:Ask b id L vp vc T h h' P Ch j) (hb:b≤h.next) (hid:id<b) (hj:j2≤L.length):Ask b id L vp vc T h (h'.put id (Ak L j2)) P Ch j2:=by
 have n1:=a.next
 refine ⟨n1,a.lim,by rw [Ad,Aw rfl],hj,by rw [Ad,Af (by omega)];exact a.box,by rw [Ad,Af (by omega)];exact a.res,fun i hi hn=>by rw [Ad,Af hn];exact a.low i hi hn,AI a.sp _ _ ?_,AI a.sc _ _ ?_,a.pl,a.cl,a.dj⟩
 ·exact (Ay a.sp).imp (fun x=>x) (fun x=>by omega)
 ·exact (Ay a.sc).imp (fun x=>x) (fun x=>by omega)
theorem Ask.chan {i:Nat} (x:A1) (a:Ask b id L vp vc T h h' P Ch j) (hid:id<b) (hi:i<Ch.length):Ask b id L vp vc T h (h'.put (Aq vc) ⟨6,(A3 h' vc).set (CF vc+i) x.enc⟩) P (Ch.set i x) j:=by
 obtain ⟨_,_,lt,lo,_⟩:=a.sc.facts
 have hnil:AD vc=false:=by
  rcases a.sc with ⟨_,hR⟩ | ⟨_,_,_,_,rfl,_⟩
  ·have:Ch=[]:=by simpa using hR
   subst this;simp at hi
  ·rfl
 have l1:=lo (by omega)
 have l2:Aq vc<h.next:=by rcases a.cl with q | q;(rw [q] at hnil;cases hnil);exact q
 have l3:AD vp=true∨Aq vp≠Aq vc:=by
  rcases a.dj with q | q | q
  ·exact .inl q
  ·rw [q] at hnil;cases hnil
  ·exact .inr q
 refine ⟨a.next,a.lim,by rw [Ad,Af (by omega)];exact a.tape,a.jl,by rw [Ad,Af (by omega)];exact a.box,by rw [Ad,Af (by omega)];exact a.res,fun i hi hn=>by rw [Ad,Af (by omega)];exact a.low i hi hn,AI a.sp _ _ (l3.imp (fun x=>x) (fun x=>Ne.symm x)), ?_,a.pl,a.cl,a.dj⟩
 exact Sl.setT a.sc hi (Nat.le_refl _) (by rw [Ad,Aw rfl])
theorem Ask.part {i:Nat} (x:Part) (a:Ask b id L vp vc T h h' P Ch j) (hid:id<b) (hi:i<P.length):Ask b id L vp vc T h (h'.put (Aq vp) ⟨11,(A3 h' vp).set (CF vp+i) x.enc⟩) (P.set i x) Ch j:=by
 obtain ⟨_,_,lt,lo,_⟩:=a.sp.facts
 have hnil:AD vp=false:=by
  rcases a.sp with ⟨_,hR⟩ | ⟨_,_,_,_,rfl,_⟩
  ·have:P=[]:=by simpa using hR
   subst this;simp at hi
  ·rfl
 have l1:=lo (by omega)
 have l2:Aq vp<h.next:=by rcases a.pl with q | q;(rw [q] at hnil;cases hnil);exact q
 have l3:AD vc=true∨Aq vc≠Aq vp:=by
  rcases a.dj with q | q | q
  ·rw [q] at hnil;cases hnil
  ·exact .inl q
  ·exact .inr (Ne.symm q)
 refine ⟨a.next,a.lim,by rw [Ad,Af (by omega)];exact a.tape,a.jl,by rw [Ad,Af (by omega)];exact a.box,by rw [Ad,Af (by omega)];exact a.res,fun i hi hn=>by rw [Ad,Af (by omega)];exact a.low i hi hn, ?_,AI a.sc _ _ (l3.imp (fun x=>x) (fun x=>Ne.symm x)),a.pl,a.cl,a.dj⟩
 exact Sl.setT a.sp hi (Nat.le_refl _) (by rw [Ad,Aw rfl])
end
theorem aC6 {tp : TP} {c : TC} {K : Ex → Env → AH → Prop} {e : Env} {h : AH} (live : List Nat) (t0 id : Nat) (w : V) (ht : t0 ∈ live) (hw : CD (· = id) h h.next (e t0) w)
    (hv:∀ t,t∈live→t≠t0→CD (·=id) h h.next (e t) (e t)) (z:∀ e2,e2 t0=w→(∀ t,t∈live→t≠t0→e2 t=e t)→ZC tp (.loop c) e2 (h.kill id) K):ZC tp (.loop c) e h K:=by
 refine Q3 (Q1 (h2:=h.kill id) (·=id) live (fun t=>if t=t0 then w else e t) (fun wf=>⟨rfl,rfl,fun i k hk=>?_,fun t hl=>?_⟩)) (z _ ?_ ?_)
 ·rw [BL] at hk
  by_cases hd:i=id
  ·rw [Aw hd] at hk;cases hk
  ·rw [Af hd] at hk
   exact ⟨(wf.2 i k hk).1,hd,k.cs,hk,(wf.2 i k hk).2 _ _⟩
 ·by_cases e0:t=t0
  ·subst e0;simpa [DQ] using hw
  ·simpa [e0,DQ] using hv t hl e0
 ·simp [ht]
 ·intro t hl hn;simp [hl,hn]
theorem pE {tp:TP} {f:Nat} {args args':List V} {h:AH} {K:V→AH→Prop} (id:Nat) (hz:B0 (·=id) h h.next args args') (z:Cq tp f args' (h.kill id) K):Cq tp f args h K:=by
 intro S m hc args1 c p
 have wf:=c.wf
 have st:∀ r R,CD (·=id) h h.next r R→Cp h h r (·=id) R (h.kill id):=fun r R f=>⟨Nat.le_refl _,rfl,Nat.le_refl _,fun i k hk=>by
  rw [BL] at hk
  by_cases hd:i=id
  ·rw [Aw hd] at hk;cases hk
  ·rw [Af hd] at hk
   exact ⟨(wf.2 i k hk).1,hd,k.cs,hk,(wf.2 i k hk).2 _ _⟩,f⟩
 obtain ⟨q1,q2,_⟩:=(st .u .u (.z _ _ .u)).ok c c (EM.refl c) (.u _ .u)
 refine (z _ m hc args1 q1 (B0.ok c hz p)).imp ?_
 rintro r1 hc' ⟨r,h',S',m',c',a',q,k⟩
 exact ⟨r,h',S',m',c',q2.trans a',q,k⟩
end Go.Ab.T
namespace Go.Ab.T
open Go Go.Ab
set_option maxHeartbeats 2000000
section
variable {b id:Nat} {L:List Int} {vp vc w:V} {T:List (List Node)} {R:List (List AM)} {h h':AH} {P:List Part} {Ch:List A1} {j:Nat}
def Wst (R:List (List AM)) (f t W:Int):Prop:=-1≤W∧W≤4096∧(0≤W→∀ r∈R,0≤C3 r f t∧C3 r f t≤W)
theorem Wst.neg {R:List (List AM)} {f t:Int}:Wst R f t (-1):=⟨by omega,by omega,fun h=>absurd h (by omega)⟩
theorem Wst.step {R:List (List AM)} {r:List AM} {f t W:Int} (h:Wst R f t W) (h0:0≤W) (hl:0≤C3 r f t) (hl2:C3 r f t≤4096):Wst (R++[r]) f t (max W (C3 r f t)):=by
 obtain ⟨a,c,d⟩:=h
 refine ⟨by omega,by omega,fun _ x hx=>?_⟩
 rcases List.mem_append.1 hx with hx | hx
 ·have:=d h0 x hx;omega
 ·rw [List.mem_singleton] at hx;subst hx;omega
theorem Di {α:Type} [Inhabited α] {L:List α} {i:Nat} (hi:i<L.length):L.take (i+1)=L.take i++[nth L i]:=by
 rw [List.take_add_one,E6 hi];rfl
theorem So {K : Ex → Env → AH → Prop} {i m : Nat} {e : Env} (a : Ask b id L vp vc T h h' P Ch j) (hi : i < Ch.length) (sl : Sl m h' 1 w (R.map RT.enc)) (hR : ∀ r ∈ R, Hi r)
    (e0:e 0=.p id 0 0) (e3:e 3=.p h.next 0 0) (e4:e 4=.p (h.next+1) 0 0) (e5:e 5=w) (e10:e 10=.i .i64 i) (e11:e 11=.i .i64 0) (e40:e 40=vc) (e41:e 41=.i .i64 Ch.length) (e42:e 42=.i .i64 i) (e45:e 45=w) (e46:e 46=.i .i64 R.length) (e47:e 47=.i .i64 0)
    (kk:∀ e' W,e' 0=.p id 0 0→e' 3=.p h.next 0 0→e' 4=.p (h.next+1) 0 0→e' 5=w→e' 10=.i .i64 i→e' 11=.i .i64 W→e' 40=vc→e' 41=.i .i64 Ch.length→e' 42=.i .i64 i→Wst R (nth Ch i).src (nth Ch i).dst W→K (.ex 4) e' h'):ZC tp (.loop O1) e h' K:=by
 obtain ⟨clen,cbig,clt,EN,cget,cat,crow,ccell,ccells⟩:=a.sc.facts
 obtain ⟨wlen,wbig,wlt,wlo,wget,Ij,wrow,wcell,wcells⟩:=sl.facts
 have hbox:=a.box
 have hsv:=Sl.sameV a.sc
 refine Ah (fun n e hh=>∃ (q:Nat) (W:Int),n=R.length - q∧hh=h'∧e 0=.p id 0 0∧e 3=.p h.next 0 0∧e 4=.p (h.next+1) 0 0∧e 5=w∧e 10=.i .i64 i∧e 11=.i .i64 W∧e 40=vc∧e 41=.i .i64 Ch.length∧e 42=.i .i64 i∧e 45=w∧e 46=.i .i64 R.length∧e 47=.i .i64 q∧q≤R.length∧Wst (R.take q) (nth Ch i).src (nth Ch i).dst W) ?_ _ _ _ ⟨0,0,rfl,rfl,e0,e3,e4,e5,e10,e11,e40,e41,e42,e45,e46,e47,by omega,by omega,by omega,fun _ r hr=>by simp at hr⟩
 clear e0 e3 e4 e5 e10 e11 e40 e41 e42 e45 e46 e47 e
 rintro n e hh ⟨q,W,rfl,rfl,e0,e3,e4,e5,e10,e11,e40,e41,e42,e45,e46,e47,hq,hW⟩ ih
 rw [An O1.eq_1]
 simp (disch:=omega)only[go_sem, *]
 refine Aa (fun hc=>?_) (fun hc=>?_)
 ·have hf:=hR _ (AP (L:=R) (j:=q) (by omega))
  have hl1:=XE (f:=(nth Ch i).src) (t:=(nth Ch i).dst) hf
  have hl2:=Fr (nth R q) (nth Ch i).src (nth Ch i).dst
  have hts:=Di (L:=R) (i:=q) (by omega)
  have hstep:=fun h0 h1=>hW.step (r:=nth R q) h0 h1 hl1
  rw [← hts] at hstep
  clear hts
  simp (disch:=omega)only[go_sem, *]
  refine Pf.go (Jy hf) (by simp only [go_sem]) fun _=>?_;simp (disch:=omega)only[go_sem, *]
  repeat' (first | (refine Av (fun hc=>?_) (fun hc=>?_)<;>simp (disch:=omega)only[go_sem, *]) | (refine Aa (fun hc=>?_) (fun hc=>?_)<;>simp (disch:=omega)only[go_sem, *]))
  ·refine ih _ _ _ ?_ ⟨q+1,-1,rfl, ?_⟩
   ·omega
   ·simp (disch:=omega)only[go_sem, *]
    ((repeat' refine And.intro ?_ ?_)<;>first | omega | assumption | (exact Wst.neg))
  ·refine ih _ _ _ ?_ ⟨q+1,-1,rfl, ?_⟩
   ·omega
   ·simp (disch:=omega)only[go_sem, *]
    ((repeat' refine And.intro ?_ ?_)<;>first | omega | assumption | (exact Wst.neg))
  ·refine ih _ _ _ ?_ ⟨q+1,max W (C3 (nth R q) (nth Ch i).src (nth Ch i).dst),rfl, ?_⟩
   ·omega
   ·simp (disch:=omega)only[go_sem, *]
    ((repeat' refine And.intro ?_ ?_)<;>first | omega | assumption | (exact hstep (by omega) (by omega)))
 ·have eq:q=R.length:=by omega
  subst eq
  rw [List.take_length] at hW
  simp (disch:=omega)only[go_sem, *]
  exact kk _ W e0 e3 e4 e5 e10 e11 e40 e41 e42 hW
def HR (x:A1):Prop:=0≤x.top∧x.top≤4294967295
def CO (n:Int) (R:List (List AM)) (x:A1):Prop:=CJ n x=true∧(∀ r∈R,BX r x=false)∧HR x
theorem CO.late {n:Int} {x:A1} {W t:Int} (c:CO n R x) (hW:Wst R x.src x.dst W) (h0:0<W) (ht:0≤t):CO n R { x with late:=min (W+t) 4096 }:=by
 obtain ⟨w1,w2,w3⟩:=hW
 refine ⟨?_,fun r hr=>?_,c.2.2⟩
 ·have:=c.1
  unfold CJ at this ⊢
  simp only [Bool.and_eq_true,decide_eq_true_eq] at this ⊢
  exact ⟨by omega,this.2⟩
 ·have:=w3 (by omega) r hr
  unfold BX
  simp only [decide_eq_false_iff_not]
  omega
theorem gU {α:Type} {l:List α} {i:Nat} {a:α} {p:α→Prop} (h:∀ x∈l,p x) (ha:p a):∀ x∈l.set i a,p x:=fun x hx=>by
 rcases List.mem_or_eq_of_mem_set hx with h1 | h1
 ·exact h x h1
 ·rw [h1];exact ha
theorem cZ {K : Ex → Env → AH → Prop} {n : Int} {e : Env} (hb : b ≤ h.next) (hid : id < b) (hlo : h.lim ≤ id) (hL : L.length < 4000000000) (hR : ∀ r ∈ R, Hi r) (a : Ask b id L vp vc T h h' P Ch j) (sl : Sl (h.next + 2) h' 1 w (R.map RT.enc)) (hC : ∀ x ∈ Ch, CO n R x)
    (e0:e 0=.p id 0 0) (e3:e 3=.p h.next 0 0) (e4:e 4=.p (h.next+1) 0 0) (e5:e 5=w) (e40:e 40=vc) (e41:e 41=.i .i64 Ch.length) (e42:e 42=.i .i64 0)
    (kk:∀ e' h' Ch' j,e' 0=.p id 0 0→e' 3=.p h.next 0 0→e' 4=.p (h.next+1) 0 0→e' 5=w→Ask b id L vp vc T h h' P Ch' j→Sl (h.next+2) h' 1 w (R.map RT.enc)→(∀ x∈Ch',CO n R x)→Ch'.length=Ch.length→K (.ex 2) e' h'):ZC tp (.loop O2) e h' K:=by
 refine Ah (fun n' e hh=>∃ (q:Nat) (Ch':List A1) (j:Nat),n'=Ch.length - q∧e 0=.p id 0 0∧e 3=.p h.next 0 0∧e 4=.p (h.next+1) 0 0∧e 5=w∧e 40=vc∧e 41=.i .i64 Ch.length∧e 42=.i .i64 q∧q≤Ch.length∧Ch'.length=Ch.length∧Ask b id L vp vc T h hh P Ch' j∧Sl (h.next+2) hh 1 w (R.map RT.enc)∧(∀ x∈Ch',CO n R x)) ?_ _ _ _ ⟨0,Ch,j,rfl,e0,e3,e4,e5,e40,e41,e42,by omega,rfl,a,sl,hC⟩
 clear e0 e3 e4 e5 e40 e41 e42 e a sl hC
 rintro n' e hh ⟨q,Ch',j,rfl,e0,e3,e4,e5,e40,e41,e42,hq,hlen,a,sl,hC⟩ ih
 obtain ⟨clen,cbig,clt,EN,cget,cat,crow,ccell,ccells⟩:=a.sc.facts
 obtain ⟨wlen,wbig,wlt,wlo,wget,Ij,wrow,wcell,wcells⟩:=sl.facts
 have hbox:=a.box
 rw [An O2.eq_1]
 rw [← hlen] at e41
 simp (disch:=omega)only[go_sem, *]
 refine Aa (fun hc=>?_) (fun hc=>?_)
 ·simp (disch:=omega)only[go_sem, *]
  refine So (i:=q) a (by omega) sl hR (by simp (disch:=omega)only[go_sem, *]) (by simp (disch:=omega)only[go_sem, *]) (by simp (disch:=omega)only[go_sem, *]) (by simp (disch:=omega)only[go_sem, *]) (by simp (disch:=omega)only[go_sem, *]) (by simp (disch:=omega)only[go_sem, *]) (by simp (disch:=omega)only[go_sem, *]) (by simp (disch:=omega)only[go_sem, *]) (by simp (disch:=omega)only[go_sem, *]) (by simp (disch:=omega)only[go_sem, *]) (by simp (disch:=omega)only[go_sem, *]) (by simp (disch:=omega)only[go_sem, *]) ?_
  clear e0 e3 e4 e5 e40 e41 e42
  intro e' W e0 e3 e4 e5 e10 e11 e40 e41 e42 hW
  simp (disch:=omega)only[go_sem, *]
  refine Av (fun hw=>?_) (fun hw=>?_)
  ·simp (disch:=omega)only[go_sem, *]
   refine AC a.tape a.jl hL (by have:=a.lim;omega) ?_
   intro v j2 h0 h1 h2 hj2
   have a2:=a.tape2 hb hid hj2
   have sl2:Sl (h.next+2) (hh.put id (Ak L j2)) 1 w (R.map RT.enc):=AI sl _ _ ((Ay sl).imp (fun x=>x) (fun x=>by omega))
   generalize hh.put id (Ak L j2)=h2 at a2 sl2 ⊢
   clear clen cbig clt EN cget cat crow ccell ccells wlen wbig wlt wlo wget Ij wrow wcell wcells hbox sl
   obtain ⟨clen,cbig,clt,EN,cget,cat,crow,ccell,ccells⟩:=a2.sc.facts
   have hbox:=a2.box
   simp (disch:=omega)only[go_sem, *]
   refine Aa (fun hc3=>?_) (fun hc3=>?_)
   ·have hsv:=Sl.sameV a2.sc
    simp (disch:=omega)only[go_sem, *]
    refine AC a2.tape a2.jl hL (by have:=a2.lim;simp (disch:=omega)only[go_sem, *]<;>omega) ?_
    intro v2 j3 h20 h21 h22 hj3
    have a3:=a2.tape2 hb hid hj3
    have sl3:Sl (h.next+2) (h2.put id (Ak L j3)) 1 w (R.map RT.enc):=AI sl2 _ _ ((Ay sl2).imp (fun x=>x) (fun x=>by omega))
    generalize h2.put id (Ak L j3)=h3 at a3 sl3 ⊢
    clear clen cbig clt EN cget cat crow ccell ccells hbox sl2 a2
    obtain ⟨clen,cbig,clt,EN,cget,cat,crow,ccell,ccells⟩:=a3.sc.facts
    have hbox:=a3.box
    have hlm:=a3.lim
    have hW2:W≤4096:=hW.2.1
    have hne:Aq vc≠h.next:=by
     rcases a3.cl with q | q
     ·rcases a3.sc with ⟨_,hR⟩ | ⟨_,_,_,_,rfl,_⟩
      ·have:Ch'=[]:=by simpa using hR
       subst this;simp at hlen;omega
      ·cases q
     ·omega
    have a4:=a3.chan (i:=q) { nth Ch' q with late:=min (W+v2) 4096 } hid (by omega)
    have hC4:=gU (i:=q) hC (CO.late (hC _ (AP (L:=Ch') (j:=q) (by omega))) hW hw h20)
    have sl4:Sl (h.next+2) (h3.put (Aq vc) ⟨6,(A3 h3 vc).set (CF vc+q) ({ nth Ch' q with late:=min (W+v2) 4096 }:A1).enc⟩) 1 w (R.map RT.enc):=AI sl3 _ _ ((Ay sl3).imp (fun x=>x) (fun x=>by have:=a3.cl;rcases this with q | q;(rcases a3.sc with ⟨_,hR⟩ | ⟨_,_,_,_,rfl,_⟩;(have:Ch'=[]:=by simpa using hR);(subst this;simp at hlen;omega);cases q);omega))
    simp only [A1.enc] at a4 sl4
    have hcl:(Ch'.set q { nth Ch' q with late:=min (W+v2) 4096 }).length=Ch.length:=by simp [hlen]
    clear a3 sl3 hC
    simp (disch:=omega)only[go_sem, *]
    refine ih _ _ _ ?_ ⟨q+1,Ch'.set q { nth Ch' q with late:=min (W+v2) 4096 },j3,rfl, ?_⟩
    ·omega
    ·simp (disch:=omega)only[go_sem, *]
     ((repeat' refine And.intro ?_ ?_)<;>first | omega | assumption | (exact a4) | (exact sl4) | (exact hC4))
   ·simp (disch:=omega)only[go_sem, *]
    refine ih _ _ _ ?_ ⟨q+1,Ch',j2,rfl, ?_⟩
    ·omega
    ·simp (disch:=omega)only[go_sem, *]
     ((repeat' refine And.intro ?_ ?_)<;>first | omega | assumption | (exact a2) | (exact sl2) | (exact hC))
  ·simp (disch:=omega)only[go_sem, *]
   refine ih _ _ _ ?_ ⟨q+1,Ch',j,rfl, ?_⟩
   ·omega
   ·simp (disch:=omega)only[go_sem, *]
    ((repeat' refine And.intro ?_ ?_)<;>first | omega | assumption | (exact a) | (exact sl) | (exact hC))
 ·simp (disch:=omega)only[go_sem, *]
  exact kk _ hh Ch' j e0 e3 e4 e5 a sl hC hlen
end
end Go.Ab.T
namespace Go.Ab.T
open Go Go.Ab
set_option maxHeartbeats 2000000
section
variable {b id:Nat} {L:List Int} {vp vc w:V} {T:List (List Node)} {R:List (List AM)} {h h':AH} {P:List Part} {Ch:List A1} {j:Nat}
theorem Vi {K : Ex → Env → AH → Prop} {pr k : Int} {e : Env} (h0 : 0 ≤ pr) (h1 : pr ≤ 9223372036854775807) (hk : k ≤ 5) (e0 : e 0 = .p id 0 0) (e3 : e 3 = .p h.next 0 0) (e4 : e 4 = .p (h.next + 1) 0 0) (e5 : e 5 = w) (e15 : e 15 = .i .i64 pr) (e16 : e 16 = .i .i64 k)
    (kk:∀ e' pr,e' 0=.p id 0 0→e' 3=.p h.next 0 0→e' 4=.p (h.next+1) 0 0→e' 5=w→e' 15=.i .i64 pr→K (.ex 6) e' h'):ZC tp (.loop O3) e h' K:=by
 refine Ah (fun n e hh=>∃ (k:Int),n=k.toNat∧hh=h'∧e 0=.p id 0 0∧e 3=.p h.next 0 0∧e 4=.p (h.next+1) 0 0∧e 5=w∧e 15=.i .i64 pr∧e 16=.i .i64 k∧k≤5) ?_ _ _ _ ⟨k,rfl,rfl,e0,e3,e4,e5,e15,e16,hk⟩
 clear e0 e3 e4 e5 e15 e16 e hk
 rintro n e hh ⟨k,rfl,rfl,e0,e3,e4,e5,e15,e16,hk⟩ ih
 rw [An O3.eq_1]
 simp (disch:=omega)only[go_sem, *]
 refine Aa (fun hc=>?_) (fun hc=>?_)
 ·simp (disch:=omega)only[go_sem, *]
  refine Aa (fun hc2=>?_) (fun hc2=>?_)
  ·simp (disch:=omega)only[go_sem, *]
   exact kk _ (IntKind.i64.wrap (pr.tdiv k)) (by simp (disch:=omega)only[go_sem, *]) (by simp (disch:=omega)only[go_sem, *]) (by simp (disch:=omega)only[go_sem, *]) (by simp (disch:=omega)only[go_sem, *]) (by simp (disch:=omega)only[go_sem, *])
  ·simp (disch:=omega)only[go_sem, *]
   refine ih _ _ _ ?_ ⟨k - 1,rfl, ?_⟩
   ·omega
   ·simp (disch:=omega)only[go_sem, *]
    ((repeat' refine And.intro ?_ ?_)<;>first | omega | assumption | (skip))
 ·simp (disch:=omega)only[go_sem, *]
  exact kk _ pr e0 e3 e4 e5 e15
theorem cY {K : Ex → Env → AH → Prop} {i m : Nat} {pr N : Int} {e : Env} (sl : Sl m h' 1 w (R.map RT.enc)) (hR : ∀ r ∈ R, Hi r)
    (e0:e 0=.p id 0 0) (e3:e 3=.p h.next 0 0) (e4:e 4=.p (h.next+1) 0 0) (e5:e 5=w) (e15:e 15=.i .i64 pr) (e17:e 17=.i .i64 i) (e18:e 18=.i .i64 4096) (e113:e 113=.i .i64 N) (e114:e 114=.i .i64 i) (e117:e 117=w) (e118:e 118=.i .i64 R.length) (e119:e 119=.i .i64 0)
    (kk:∀ e' W,W≤4096→e' 0=.p id 0 0→e' 3=.p h.next 0 0→e' 4=.p (h.next+1) 0 0→e' 5=w→e' 15=.i .i64 pr→e' 17=.i .i64 i→e' 18=.i .i64 W→e' 113=.i .i64 N→e' 114=.i .i64 i→K (.ex 10) e' h'):ZC tp (.loop O4) e h' K:=by
 obtain ⟨wlen,wbig,wlt,wlo,wget,Ij,wrow,wcell,wcells⟩:=sl.facts
 refine Ah (fun n e hh=>∃ (q:Nat) (W:Int),n=R.length - q∧hh=h'∧W≤4096∧e 0=.p id 0 0∧e 3=.p h.next 0 0∧e 4=.p (h.next+1) 0 0∧e 5=w∧e 15=.i .i64 pr∧e 17=.i .i64 i∧e 18=.i .i64 W∧e 113=.i .i64 N∧e 114=.i .i64 i∧e 117=w∧e 118=.i .i64 R.length∧e 119=.i .i64 q∧q≤R.length) ?_ _ _ _ ⟨0,4096,rfl,rfl,by omega,e0,e3,e4,e5,e15,e17,e18,e113,e114,e117,e118,e119,by omega⟩
 clear e0 e3 e4 e5 e15 e17 e18 e113 e114 e117 e118 e119 e
 rintro n e hh ⟨q,W,rfl,rfl,hW,e0,e3,e4,e5,e15,e17,e18,e113,e114,e117,e118,e119,hq⟩ ih
 rw [An O4.eq_1]
 simp (disch:=omega)only[go_sem, *]
 refine Aa (fun hc=>?_) (fun hc=>?_)
 ·have hf:=hR _ (AP (L:=R) (j:=q) (by omega))
  simp (disch:=omega)only[go_sem, *]
  refine Pf.go (GZ (p:=i) (P:=pr) hf) (by simp only [go_sem]) fun _=>?_;simp (disch:=omega)only[go_sem, *]
  refine ih _ _ _ ?_ ⟨q+1,min W (GF (nth R q) i pr),rfl, ?_⟩
  ·omega
  ·simp (disch:=omega)only[go_sem, *]
   ((repeat' refine And.intro ?_ ?_)<;>first | omega | assumption | (skip))
 ·simp (disch:=omega)only[go_sem, *]
  exact kk _ W hW e0 e3 e4 e5 e15 e17 e18 e113 e114
def z0 (p:Part):Part:={ p with budget:=0,period:=0 }
theorem Zx {A B:List Part} {i:Nat} {x:Part} (h:A.map z0=B.map z0) (hi:i<A.length) (hx:z0 x=z0 (nth A i)):(A.set i x).map z0=B.map z0:=by
 rw [List.map_set,hx,←h]
 apply List.ext_getElem
 ·simp
 ·intro k h1 h2
  simp only [List.length_map] at h2
  by_cases e:i=k
  ·subst e;simp [BO hi]
  ·rw [List.getElem_set_ne e]
theorem aFU {A:List Part} {q:Nat} (hq:q<A.length) (h:∀ k,k<q→nth A k=z0 (nth A k)):∀ k,k<q+1→nth (A.set q (z0 (nth A q))) k=z0 (nth (A.set q (z0 (nth A q))) k):=by
 intro k hk
 rw [BO (by simp;omega),List.getElem_set]
 split
 ·rfl
 ·have:=h k (by omega)
  rw [BO (by omega)] at this
  exact this
theorem dB {K : Ex → Env → AH → Prop} {pr : Int} {e : Env} (hb : b ≤ h.next) (hid : id < b) (hlo : h.lim ≤ id) (hL : L.length < 4000000000) (hR : ∀ r ∈ R, Hi r) (a : Ask b id L vp vc T h h' P Ch j) (sl : Sl (h.next + 2) h' 1 w (R.map RT.enc))
    (e0:e 0=.p id 0 0) (e3:e 3=.p h.next 0 0) (e4:e 4=.p (h.next+1) 0 0) (e5:e 5=w) (e15:e 15=.i .i64 pr) (e113:e 113=.i .i64 P.length) (e114:e 114=.i .i64 0)
    (kk:∀ e' h' P' j,e' 0=.p id 0 0→e' 3=.p h.next 0 0→e' 4=.p (h.next+1) 0 0→Ask b id L vp vc T h h' P' Ch j→P'.map z0=P.map z0→K (.ex 8) e' h'):ZC tp (.loop O5) e h' K:=by
 refine Ah (fun n' e hh=>∃ (q:Nat) (P':List Part) (j:Nat),n'=P.length - q∧e 0=.p id 0 0∧e 3=.p h.next 0 0∧e 4=.p (h.next+1) 0 0∧e 5=w∧e 15=.i .i64 pr∧e 113=.i .i64 P.length∧e 114=.i .i64 q∧q≤P.length∧Ask b id L vp vc T h hh P' Ch j∧Sl (h.next+2) hh 1 w (R.map RT.enc)∧P'.map z0=P.map z0) ?_ _ _ _ ⟨0,P,j,rfl,e0,e3,e4,e5,e15,e113,e114,by omega,a,sl,rfl⟩
 clear e0 e3 e4 e5 e15 e113 e114 e a sl
 rintro n' e hh ⟨q,P',j,rfl,e0,e3,e4,e5,e15,e113,e114,hq,a,sl,hz⟩ ih
 have hlen:=congrArg List.length hz
 simp only [List.length_map] at hlen
 obtain ⟨plen,pbig,plt,plo,pget,pat,prow,pcell,pcells⟩:=a.sp.facts
 obtain ⟨wlen,wbig,wlt,wlo,wget,Ij,wrow,wcell,wcells⟩:=sl.facts
 have hbox:=a.box
 rw [An O5.eq_1]
 rw [← hlen] at e113
 simp (disch:=omega)only[go_sem, *]
 refine Aa (fun hc=>?_) (fun hc=>?_)
 ·simp (disch:=omega)only[go_sem, *]
  refine cY (h:=h) (id:=id) (i:=q) (pr:=pr) (N:=P'.length) sl hR (by simp (disch:=omega)only[go_sem, *]) (by simp (disch:=omega)only[go_sem, *]) (by simp (disch:=omega)only[go_sem, *]) (by simp (disch:=omega)only[go_sem, *]) (by simp (disch:=omega)only[go_sem, *]) (by simp (disch:=omega)only[go_sem, *]) (by simp (disch:=omega)only[go_sem, *]) (by simp (disch:=omega)only[go_sem, *]) (by simp (disch:=omega)only[go_sem, *]) (by simp (disch:=omega)only[go_sem, *]) (by simp (disch:=omega)only[go_sem, *]) (by simp (disch:=omega)only[go_sem, *]) ?_
  clear e0 e3 e4 e5 e15 e113 e114
  intro e' W hW e0 e3 e4 e5 e15 e17 e18 e113 e114
  simp (disch:=omega)only[go_sem, *]
  refine Av (fun hw=>?_) (fun hw=>?_)
  ·simp (disch:=omega)only[go_sem, *]
   refine AC a.tape a.jl hL (by have:=a.lim;omega) ?_
   intro v j2 h0 h1 h2 hj2
   have a2:=a.tape2 hb hid hj2
   have sl2:Sl (h.next+2) (hh.put id (Ak L j2)) 1 w (R.map RT.enc):=AI sl _ _ ((Ay sl).imp (fun x=>x) (fun x=>by omega))
   generalize hh.put id (Ak L j2)=h2 at a2 sl2 ⊢
   clear plen pbig plt plo pget pat prow pcell pcells wlen wbig wlt wlo wget Ij wrow wcell wcells hbox sl
   obtain ⟨plen,pbig,plt,plo,pget,pat,prow,pcell,pcells⟩:=a2.sp.facts
   have hbox:=a2.box
   simp (disch:=omega)only[go_sem, *]
   refine Aa (fun hc3=>?_) (fun hc3=>?_)
   ·have hsv:=Sl.sameV a2.sp
    simp (disch:=omega)only[go_sem, *]
    refine AC a2.tape a2.jl hL (by have:=a2.lim;simp (disch:=omega)only[go_sem, *]<;>omega) ?_
    intro v2 j3 h20 h21 h22 hj3
    have a3:=a2.tape2 hb hid hj3
    have sl3:Sl (h.next+2) (h2.put id (Ak L j3)) 1 w (R.map RT.enc):=AI sl2 _ _ ((Ay sl2).imp (fun x=>x) (fun x=>by omega))
    generalize h2.put id (Ak L j3)=h3 at a3 sl3 ⊢
    clear plen pbig plt plo pget pat prow pcell pcells hbox sl2 a2
    obtain ⟨plen,pbig,plt,plo,pget,pat,prow,pcell,pcells⟩:=a3.sp.facts
    have hbox:=a3.box
    have hlm:=a3.lim
    have hne:Aq vp<h.next:=by
     rcases a3.pl with q | q
     ·rcases a3.sp with ⟨_,hR⟩ | ⟨_,_,_,_,rfl,_⟩
      ·have:P'=[]:=by simpa using hR
       subst this;simp at hlen;omega
      ·cases q
     ·exact q
    have hrl:=a3.sp.rowlt (j:=q) (by simp;omega)
    have a4:=a3.part (i:=q) { nth P' q with budget:=max (W - v2) 1,period:=pr } hid (by omega)
    have hz4:=Zx (i:=q) (x:={ nth P' q with budget:=max (W - v2) 1,period:=pr }) hz (by omega) rfl
    have sl4:Sl (h.next+2) (h3.put (Aq vp) ⟨11,(A3 h3 vp).set (CF vp+q) ({ nth P' q with budget:=max (W - v2) 1,period:=pr }:Part).enc⟩) 1 w (R.map RT.enc):=AI sl3 _ _ ((Ay sl3).imp (fun x=>x) (fun x=>by omega))
    simp only [Part.enc] at a4 sl4
    clear a3 sl3 hz
    simp (disch:=omega)only[go_sem, *]
    refine ih _ _ _ ?_ ⟨q+1,P'.set q { nth P' q with budget:=max (W - v2) 1,period:=pr },j3,rfl, ?_⟩
    ·omega
    ·simp (disch:=omega)only[go_sem, *]
     ((repeat' refine And.intro ?_ ?_)<;>first | omega | assumption | (exact a4) | (exact sl4) | (exact hz4))
   ·simp (disch:=omega)only[go_sem, *]
    refine ih _ _ _ ?_ ⟨q+1,P',j2,rfl, ?_⟩
    ·omega
    ·simp (disch:=omega)only[go_sem, *]
     ((repeat' refine And.intro ?_ ?_)<;>first | omega | assumption | (exact a2) | (exact sl2) | (exact hz))
  ·simp (disch:=omega)only[go_sem, *]
   refine ih _ _ _ ?_ ⟨q+1,P',j,rfl, ?_⟩
   ·omega
   ·simp (disch:=omega)only[go_sem, *]
    ((repeat' refine And.intro ?_ ?_)<;>first | omega | assumption | (exact a) | (exact sl) | (exact hz))
 ·simp (disch:=omega)only[go_sem, *]
  exact kk _ hh P' j e0 e3 e4 a hz
theorem aDo {K : Ex → Env → AH → Prop} {e : Env} (hb : b ≤ h.next) (hid : id < b) (hlo : h.lim ≤ id) (a : Ask b id L vp vc T h h' P Ch j)
    (e0:e 0=.p id 0 0) (e3:e 3=.p h.next 0 0) (e4:e 4=.p (h.next+1) 0 0) (e159:e 159=.i .i64 P.length) (e160:e 160=.i .i64 0)
    (kk:∀ e' h',e' 0=.p id 0 0→e' 3=.p h.next 0 0→e' 4=.p (h.next+1) 0 0→Ask b id L vp vc T h h' (P.map z0) Ch j→K (.ex 12) e' h'):ZC tp (.loop O6) e h' K:=by
 refine Ah (fun n' e hh=>∃ (q:Nat) (P':List Part),n'=P.length - q∧e 0=.p id 0 0∧e 3=.p h.next 0 0∧e 4=.p (h.next+1) 0 0∧e 159=.i .i64 P.length∧e 160=.i .i64 q∧q≤P.length∧Ask b id L vp vc T h hh P' Ch j∧P'.map z0=P.map z0∧∀ k,k<q→nth P' k=z0 (nth P' k)) ?_ _ _ _ ⟨0,P,rfl,e0,e3,e4,e159,e160,by omega,a,rfl,fun k hk=>by omega⟩
 clear e0 e3 e4 e159 e160 e a
 rintro n' e hh ⟨q,P',rfl,e0,e3,e4,e159,e160,hq,a,hz,hq0⟩ ih
 have hlen:=congrArg List.length hz
 simp only [List.length_map] at hlen
 obtain ⟨plen,pbig,plt,plo,pget,pat,prow,pcell,pcells⟩:=a.sp.facts
 have hbox:=a.box
 have hlm:=a.lim
 have hsv:=Sl.sameV a.sp
 rw [An O6.eq_1]
 rw [← hlen] at e159
 have hq1:=hq0
 clear hq0
 simp (disch:=omega)only[go_sem, *]
 refine Aa (fun hc=>?_) (fun hc=>?_)
 ·have hne:Aq vp<h.next:=by
   rcases a.pl with q | q
   ·rcases a.sp with ⟨_,hR⟩ | ⟨_,_,_,_,rfl,_⟩
    ·have:P'=[]:=by simpa using hR
     subst this;simp at hlen;omega
    ·cases q
   ·exact q
  have hrl:=a.sp.rowlt (j:=q) (by simp;omega)
  have a4:=a.part (i:=q) (z0 (nth P' q)) hid (by omega)
  have hz4:=Zx (i:=q) (x:=z0 (nth P' q)) hz (by omega) rfl
  simp only [Part.enc,z0] at a4
  simp (disch:=omega)only[go_sem, *]
  refine ih _ _ _ ?_ ⟨q+1,P'.set q (z0 (nth P' q)),rfl, ?_⟩
  ·omega
  ·simp (disch:=omega)only[go_sem, *]
   ((repeat' refine And.intro ?_ ?_)<;>first | omega | assumption | (exact a4) | (exact hz4) | (exact aFU (by omega) hq1))
 ·have e:P'=P.map z0:=by
   rw [← hz]
   apply List.ext_getElem
   ·simp
   ·intro k h1 h2
    have:=hq1 k (by omega)
    rw [BO h1] at this
    simp only [List.getElem_map]
    exact this
  subst e
  simp (disch:=omega)only[go_sem, *]
  exact kk _ hh e0 e3 e4 a
end
end Go.Ab.T
namespace Go.Ab.T
open Go Go.Ab
set_option maxHeartbeats 4000000
theorem H9 {C:Ao}:∀ (l:List (List Node)) (i:Nat),(Cd C i l).1=0→Cd C i l=(0,-1)
 | [],i,_=>rfl
 | t::l,i,h=>by
  rw [Cd] at h ⊢
  split at h
  ·rename_i h2;exact absurd h h2
  ·rename_i h2;rw [if_neg h2];exact H9 l _ h
theorem Hd {C:Ao}:∀ (l:List A1) (i:Nat),(Bw C i l).1=0→Bw C i l=(0,-1)
 | [],i,h=>by rw [Bw] at h ⊢;exact H9 _ _ h
 | t::l,i,h=>by
  rw [Bw] at h ⊢
  split at h
  ·simp at h
  ·rename_i h2;rw [if_neg h2];exact Hd l _ h
theorem He {C:Ao}:∀ (l:List Part) (i:Nat),(Bn C i l).1=0→Bn C i l=(0,-1)
 | [],i,h=>by rw [Bn] at h ⊢;exact Hd _ _ h
 | t::l,i,h=>by
  rw [Bn] at h ⊢
  split at h
  ·simp at h
  ·rename_i h2;rw [if_neg h2]
   split at h
   ·simp at h
   ·rename_i h3;rw [if_neg h3];exact He l _ h
theorem QP {C:Ao} (h:(Bh C).1=0):Bh C=(0,-1):=by
 unfold Bh at h ⊢
 split at h
 ·simp at h
 ·rename_i h2;rw [if_neg h2];exact He _ _ h
noncomputable def rn (t:List Node):List AM:=(Fj t).1
section
variable {b id:Nat} {L:List Int} {vp vc w:V} {T:List (List Node)} {R:List (List AM)} {h h':AH} {P:List Part} {Ch:List A1} {j:Nat}
theorem Ask.grown {b':Nat} {x v:V} {h2:AH} (a:Ask b id L vp vc T h h' P Ch j) (hb:b≤h.next) (hid:id<b) (g:Grown b' h' x v h2) (hx:AD x=true∨h.next+2≤Aq x):Ask b id L vp vc T h h2 P Ch j:=by
 have n1:=a.next;have n2:=g.next
 have gg:∀ i,i<h.next+2→h2.get i=h'.get i:=fun i hi=>g.get i (by omega) (hx.imp (fun x=>x) (fun x=>by omega))
 refine ⟨by omega,g.lim.trans a.lim,(gg _ (by omega)).trans a.tape,a.jl,(gg _ (by omega)).trans a.box,(gg _ (by omega)).trans a.res,fun i hi hn=>(gg i (by omega)).trans (a.low i hi hn), ?_, ?_,a.pl,a.cl,a.dj⟩
 ·rcases a.pl with q | q
  ·rcases a.sp with ⟨c,d⟩ | ⟨_,_,_,_,rfl,_⟩
   ·exact .inl ⟨c,d⟩
   ·cases q
  ·exact a.sp.same n2 (fun _=>gg _ (by omega))
 ·rcases a.cl with q | q
  ·rcases a.sc with ⟨c,d⟩ | ⟨_,_,_,_,rfl,_⟩
   ·exact .inl ⟨c,d⟩
   ·cases q
  ·exact a.sc.same n2 (fun _=>gg _ (by omega))
theorem aDn {K : Ex → Env → AH → Prop} {e : Env} (hb : b ≤ h.next) (hid : id < b) (hlo : h.lim ≤ id) (hT : T.length ≤ 3) (a : Ask b id L vp vc T h h' P Ch j)
    (e0:e 0=.p id 0 0) (e3:e 3=.p h.next 0 0) (e4:e 4=.p (h.next+1) 0 0) (e5:e 5=.ns) (e23:e 23=.fl 1 (T.map Tab.enc)) (e24:e 24=.i .i64 T.length) (e25:e 25=.i .i64 0)
    (kk:∀ e' h' w,e' 0=.p id 0 0→e' 3=.p h.next 0 0→e' 4=.p (h.next+1) 0 0→e' 5=w→Ask b id L vp vc T h h' P Ch j→Sl (h.next+2) h' 1 w ((T.map rn).map RT.enc)→K (.ex 0) e' h'):ZC tp (.loop Ub) e h' K:=by
 refine Ah (fun n' e hh=>∃ (q:Nat) (w:V),n'=T.length - q∧e 0=.p id 0 0∧e 3=.p h.next 0 0∧e 4=.p (h.next+1) 0 0∧e 5=w∧e 23=.fl 1 (T.map Tab.enc)∧e 24=.i .i64 T.length∧e 25=.i .i64 q∧q≤T.length∧Ask b id L vp vc T h hh P Ch j∧Sl (h.next+2) hh 1 w (((T.take q).map rn).map RT.enc)) ?_ _ _ _ ⟨0,.ns,rfl,e0,e3,e4,e5,e23,e24,e25,by omega,a,Sl.nil _ _ _⟩
 clear e0 e3 e4 e5 e23 e24 e25 e a
 rintro n' e hh ⟨q,w,rfl,e0,e3,e4,e5,e23,e24,e25,hq,a,sl⟩ ih
 have hlm:=a.lim
 have hnx:=a.next
 have hwl:=Ay sl
 rw [An Ub.eq_1]
 simp (disch:=omega)only[go_sem, *]
 refine Aa (fun hc=>?_) (fun hc=>?_)
 ·have hts:=Di (L:=T) (i:=q) (by omega)
  simp (disch:=omega)only[go_sem, *]
  refine Pf.go (Jz) (by simp only [go_sem]) fun _=>?_;simp (disch:=omega)only[go_sem, *]
  refine Az (sl.alloc _) (by simp (disch:=omega)only[go_sem, *]<;>omega) (by simp (disch:=omega)only[go_sem, *]<;>omega) (by simp;omega) ?_
  intro w2 h4 s4 g4
  have a4:=(a.ext hb hid ((Au.refl _).alloc _)).grown hb hid g4 hwl
  have s5:Sl (h.next+2) h4 1 w2 (((T.take (q+1)).map rn).map RT.enc):=by rw [hts];simpa [RT.enc,rn] using s4
  clear hts s4
  simp (disch:=omega)only[go_sem, *]
  refine ih _ _ _ ?_ ⟨q+1,w2,rfl, ?_⟩
  ·omega
  ·simp (disch:=omega)only[go_sem, *]
   ((repeat' refine And.intro ?_ ?_)<;>first | omega | assumption | (exact a4) | (exact s5))
 ·have eq:q=T.length:=by omega
  subst eq
  rw [List.take_length] at sl
  simp (disch:=omega)only[go_sem, *]
  exact kk _ hh w e0 e3 e4 e5 a sl
end
end Go.Ab.T
namespace Go.Ab.T
open Go Go.Ab
set_option maxHeartbeats 4000000
theorem XM {P P':List Part} (h:P'.map z0=P.map z0) {p:Part} (hp:p∈P'):∃ q∈P,q.name=p.name:=by
 have:z0 p∈P.map z0:=by rw [← h];exact List.mem_map_of_mem hp
 obtain ⟨q,hq,e⟩:=List.mem_map.1 this
 exact ⟨q,hq,by have:=congrArg Part.name e;exact this⟩
structure ZK (P:List Part) (Ch:List A1) (T:List (List Node)):Prop where
 z:P.map z0=P
 p1:1≤P.length
 p2:P.length≤6
 c:Ch.length≤8
 t1:1≤T.length
 t2:T.length≤3
 parts:∀ i,i<P.length→TZ P i
 chans:∀ x∈Ch,CJ P.length x=true∧x.late=0∧HR x
 tabs:∀ t∈T,C2 P.length t
 nm:∀ p∈P,p.name.size<4000000000
theorem ZK.where_ {P:List Part} {Ch Ch':List A1} {T:List (List Node)} (g:ZK P Ch T) (hl:Ch'.length=Ch.length) (hc:∀ x∈Ch',CO P.length (T.map rn) x):Bh ⟨P,Ch',T⟩=(0,-1):=by
 rw [EL]
 refine ⟨⟨g.p1,g.p2,by rw [hl];exact g.c,g.t1,g.t2⟩,g.parts,fun x hx=>(hc x hx).1,fun t ht=>?_⟩
 rw [Kp]
 refine ⟨g.tabs t ht, ?_⟩
 rw [Ja]
 refine ⟨?_,E9 _ _ fun p hp=>?_⟩
 ·rw [List.any_eq_false]
  intro x hx
  change ¬ BX (rn t) x=true
  rw [(hc x hx).2.1 _ (List.mem_map_of_mem ht)]
  simp
 ·have:p∈P.map z0:=by rw [g.z];exact hp
  obtain ⟨q,_,rfl⟩:=List.mem_map.1 this
  rfl
theorem Kq:∀ (L:List AM) (a:Int),0≤a→a≤9223372036854775807→0≤Hc L a∧Hc L a≤9223372036854775807
 | [],a,h0,h1=>⟨h0,h1⟩
 | r::l,a,h0,h1=>Kq l _ (Ey).1 (Ey).2
theorem dA {b id k : Nat} {L : List Int} {vp vc : V} {T : List (List Node)} {h : AH} {P : List Part} {Ch : List A1} {K : V → AH → Prop} (g : ZK P Ch T) (hL : L.length < 4000000000) (hk : k ≤ L.length) (hb : b ≤ h.next) (hid : id < b) (hlo : h.lim ≤ id) (hg : h.get id = some (Ak L k))
    (sp:Sl b h 11 vp (P.map Part.enc)) (sc:Sl b h 6 vc (Ch.map A1.enc)) (dj:AD vp=true∨AD vc=true∨Aq vp≠Aq vc)
    (kk:∀ P' Ch' h' j,j≤L.length→(∀ x∈Ch',HR x)→Bh ⟨P',Ch',T⟩=(0,-1)→IC ⟨P',Ch',T⟩→P'.length=P.length→Ch'.length=Ch.length→h.next≤h'.next→h'.lim=h.lim→h'.get id=some (Ak L j)→(∀ i,i<b→i≠id→h'.get i=h.get i)→Sl b h' 11 vp (P'.map Part.enc)→Sl b h' 6 vc (Ch'.map A1.enc)→K (.agg [vp,vc,.fl 1 (T.map Tab.enc)]) h'):
    Cq tp Re [.p id 0 0,.agg [vp,vc,.fl 1 (T.map Tab.enc)]] h K:=by
 have pl:=CY sp
 have cl:=CY sc
 obtain ⟨plen,pbig,plt,plo,pget,pat,prow,pcell,pcells⟩:=sp.facts
 obtain ⟨clen,cbig,clt,EN,cget,cat,crow,ccell,ccells⟩:=sc.facts
 have ht2:=g.t2
 have ht1:=g.t1
 have hp2:=g.p2
 have hc2:=g.c
 have hRf:∀ r∈T.map rn,Hi r:=fun r hr=>by obtain ⟨t,_,rfl⟩:=List.mem_map.1 hr;exact Iv
 have hC0:∀ x∈Ch,CO P.length (T.map rn) x:=fun x hx=>⟨(g.chans x hx).1,fun r _=>by unfold BX;rw [(g.chans x hx).2.1];simp,(g.chans x hx).2.2⟩
 refine Ac aDI (by simp [NE]) fun wf rp=>?_
 unfold NE
 simp (disch:=omega)only[go_sem, *]
 have x0:Au h ((h.alloc ⟨3,[[vp,vc,.fl 1 (T.map Tab.enc)]]⟩).alloc ⟨3,[[.ns,.ns,.ns]]⟩):=by (repeat (first | exact Au.refl _ | refine Au.alloc ?_ _ | (refine Au.put ?_ _ _ ?_;rotate_left;(first | omega | (simp only [Ag,Ai];omega)))))
 have a0:Ask b id L vp vc T h ((h.alloc ⟨3,[[vp,vc,.fl 1 (T.map Tab.enc)]]⟩).alloc ⟨3,[[.ns,.ns,.ns]]⟩) P Ch k:=⟨by simp (disch:=omega)only[go_sem, *],rfl,(x0.get _ (by omega)).trans hg,hk,by simp (disch:=omega)only[go_sem, *],by simp (disch:=omega)only[go_sem, *],fun i hi _=>x0.get i (by omega),sp.ext x0,sc.ext x0,pl,cl,dj⟩
 clear plen pbig plt plo pget pat prow pcell pcells clen cbig clt EN cget cat crow ccell ccells sp sc x0
 refine aDn hb hid hlo g.t2 a0 (by simp (disch:=omega)only[go_sem, *]) (by simp (disch:=omega)only[go_sem, *]) (by simp (disch:=omega)only[go_sem, *]) (by simp (disch:=omega)only[go_sem, *]) (by simp (disch:=omega)only[go_sem, *]) (by simp (disch:=omega)only[go_sem, *]) (by simp (disch:=omega)only[go_sem, *]) ?_
 clear a0
 intro e h1 w e0 e3 e4 e5 a sl
 have hbox:=a.box
 obtain ⟨clen,cbig,clt,EN,cget,cat,crow,ccell,ccells⟩:=a.sc.facts
 simp (disch:=omega)only[go_sem, *]
 refine cZ hb hid hlo hL hRf a sl hC0 (by simp (disch:=omega)only[go_sem, *]) (by simp (disch:=omega)only[go_sem, *]) (by simp (disch:=omega)only[go_sem, *]) (by simp (disch:=omega)only[go_sem, *]) (by simp (disch:=omega)only[go_sem, *]) (by simp (disch:=omega)only[go_sem, *]) (by simp (disch:=omega)only[go_sem, *]) ?_
 clear e0 e3 e4 e5 a sl hbox clen cbig clt EN cget cat crow ccell ccells e h1 hC0
 intro e h2 Ch' j e0 e3 e4 e5 a sl hC hCl
 obtain ⟨wlen,wbig,wlt,wlo,wget,Ij,wrow,wcell,wcells⟩:=sl.facts
 have hr0:=Ra (hRf _ (AP (L:=T.map rn) (j:=0) (by simp;omega)))
 have hw0:(A3 h2 w)[CF w]?=some (RT.enc (nth (T.map rn) 0)):=by have:=wrow 0 (by simp;omega);simpa using this
 have hml:(T.map rn).length=T.length:=List.length_map ..
 simp (disch:=omega)only[go_sem, *]
 refine Pf.go (H4 hr0) (by simp only [go_sem]) fun _=>?_;simp (disch:=omega)only[go_sem, *]
 refine AC a.tape a.jl hL (by have:=a.lim;omega) ?_
 intro v j2 v0 v1 v2 hj2
 have a2:=a.tape2 hb hid hj2
 have sl2:Sl (h.next+2) (h2.put id (Ak L j2)) 1 w ((T.map rn).map RT.enc):=AI sl _ _ ((Ay sl).imp (fun x=>x) (fun x=>by omega))
 generalize h2.put id (Ak L j2)=h3 at a2 sl2 ⊢
 clear wlen wbig wlt wlo wget Ij wrow wcell wcells sl a
 simp (disch:=omega)only[go_sem, *]
 refine Vi (h:=h) (id:=id) (w:=w) (pr:=Hc (nth (T.map rn) 0) 0) (k:=2+v) (Kq _ _ (by omega) (by omega)).1 (Kq _ _ (by omega) (by omega)).2 (by omega) (by simp (disch:=omega)only[go_sem, *]) (by simp (disch:=omega)only[go_sem, *]) (by simp (disch:=omega)only[go_sem, *]) (by simp (disch:=omega)only[go_sem, *]) (by simp (disch:=omega)only[go_sem, *]) (by simp (disch:=omega)only[go_sem, *]) ?_
 clear e0 e3 e4 e5 e
 intro e pr e0 e3 e4 e5 e15
 have hbox:=a2.box
 obtain ⟨plen,pbig,plt,plo,pget,pat,prow,pcell,pcells⟩:=a2.sp.facts
 simp (disch:=omega)only[go_sem, *]
 refine dB (pr:=pr) hb hid hlo hL hRf a2 sl2 (by simp (disch:=omega)only[go_sem, *]) (by simp (disch:=omega)only[go_sem, *]) (by simp (disch:=omega)only[go_sem, *]) (by simp (disch:=omega)only[go_sem, *]) (by simp (disch:=omega)only[go_sem, *]) (by simp (disch:=omega)only[go_sem, *]) (by simp (disch:=omega)only[go_sem, *]) ?_
 clear e0 e3 e4 e5 e15 plen pbig plt plo pget pat prow pcell pcells hbox a2 sl2 e
 intro e h4 P' j4 e0 e3 e4 a hz
 have hnm:IC ⟨P',Ch',T⟩:=fun p hp=>by obtain ⟨q,hq,e⟩:=XM hz hp;rw [← e];exact g.nm q hq
 have hlen:=congrArg List.length hz
 simp only [List.length_map] at hlen
 have hbox:=a.box
 obtain ⟨plen,pbig,plt,plo,pget,pat,prow,pcell,pcells⟩:=a.sp.facts
 obtain ⟨clen,cbig,clt,EN,cget,cat,crow,ccell,ccells⟩:=a.sc.facts
 simp (disch:=omega)only[go_sem, *]
 refine Pf.look (KC hnm) (.cons _ _ _ _ _ (.agg _ _ _ (.cons _ _ _ _ _ (a.sp.froze (fun _=>rfl) trivial (by omega)) (.cons _ _ _ _ _ (a.sc.froze (fun _=>rfl) trivial (by omega)) (.cons _ _ _ _ _ (.fl _ _ _) (.nil _))))) (.nil _)) rfl fun _=>?_
 have fin:∀ (P':List Part) h5,Ask b id L vp vc T h h5 P' Ch' j4→Bh ⟨P',Ch',T⟩=(0,-1)→P'.map z0=P.map z0→K (.agg [vp,vc,.fl 1 (T.map Tab.enc)]) (h5.put (h.next+1) ⟨3,[[vp,vc,.fl 1 (T.map Tab.enc)]]⟩):=by
  intro P' h5 a hw hz
  have n5:=a.next
  have hlen:=congrArg List.length hz
  simp only [List.length_map] at hlen
  have hnm:IC ⟨P',Ch',T⟩:=fun p hp=>by obtain ⟨q,hq,e⟩:=XM hz hp;rw [← e];exact g.nm q hq
  refine kk P' Ch' _ j4 a.jl (fun x hx=>(hC x hx).2.2) hw hnm hlen hCl (by rw [Ai];omega) a.lim (by rw [Ad,Af (by omega)];exact a.tape) (fun i hi hn=>by rw [Ad,Af (by omega)];exact a.low i hi hn) (AI a.sp _ _ (a.pl.imp (fun x=>x) (fun x=>by omega))) (AI a.sc _ _ (a.cl.imp (fun x=>x) (fun x=>by omega)))
 have hres:=a.res
 have hlm:=a.lim
 simp (disch:=omega)only[go_sem, *]
 refine Aa (fun hc=>?_) (fun hc=>?_)
 ·simp (disch:=omega)only[go_sem, *]
  refine aDo hb hid hlo a (by simp (disch:=omega)only[go_sem, *]) (by simp (disch:=omega)only[go_sem, *]) (by simp (disch:=omega)only[go_sem, *]) (by simp (disch:=omega)only[go_sem, *]) (by simp (disch:=omega)only[go_sem, *]) ?_
  clear e0 e3 e4 plen pbig plt plo pget pat prow pcell pcells clen cbig clt EN cget cat crow ccell ccells hbox hres hlm e
  intro e h5 e0 e3 e4 a
  rw [hz,g.z] at a
  have hbox:=a.box
  have hres:=a.res
  have hlm:=a.lim
  obtain ⟨plen,pbig,plt,plo,pget,pat,prow,pcell,pcells⟩:=a.sp.facts
  obtain ⟨clen,cbig,clt,EN,cget,cat,crow,ccell,ccells⟩:=a.sc.facts
  have f:=fin P h5 a (g.where_ hCl hC) rfl
  clear fin
  simp (disch:=omega)only[go_sem, *]
 ·have f:=fin P' h4 a (QP (by omega)) hz
  clear fin
  simp (disch:=omega)only[go_sem, *]
end Go.Ab.T
