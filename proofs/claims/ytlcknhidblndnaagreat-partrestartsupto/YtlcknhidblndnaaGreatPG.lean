/- Part of a proof that a law returns true for every input of the second form's bound (no other condition). -/
import Derived.Test.YtlcknhidblndnaaGreatPF
set_option linter.all false
namespace Go.Ab.T
open Go Go.Ab
set_option maxHeartbeats 1000000
theorem XH {L:List Node} {c:Cs} {r:AK} (h:r=⟨C2 (lf L c),(lf L c).n - c.gone⟩):(XG L c).at_=c.at_+r.n:=by rw [h];rfl
theorem gP {h0 h : AH} {L : List Node} {id : Nat} {sv : V} {c : Cs} {r : AK} {l : List AK} {K : V → AH → Prop} (n : FR h0 h L id sv c) (q : RS L c (r :: l))
    (kk:∀ sv' c' h',FR h0 h' L id sv' c'→BR h id sv h' sv'→RS L c' l→c'.at_=c.at_+r.n→K (.tup [.agg r.enc,.b true]) h'):Cq tp Jc [.p id 0 0] h K:=by
 obtain ⟨q1,q2,q3,q4,q5,q6⟩:=q.cons
 refine Pk n.cur q1 q2 ?_
 intro sv3 h3 c3 f3
 rw [← q3]
 exact kk sv3 _ h3 (n.step c3 f3) f3 q5 (XH q3)
theorem MT {h0 h : AH} {L : List Node} {id : Nat} {sv : V} {c : Cs} {K : V → AH → Prop} (n : FR h0 h L id sv c) (q : RS L c [])
    (kk:∀ h',FR h0 h' L id sv c→Aq h h'→K (.tup [.agg (AK.enc ⟨0,0⟩),.b false]) h'):Cq tp Jc [.p id 0 0] h K:=
 Mr n.cur (by rw [q.nil];omega) fun h3 hx3=>kk h3 (n.grow hx3) hx3
theorem Dz.app {h h4:AH} {id b:Nat} {sv o w:V} {L:List Node} {c:Cs} (k:Dz h id sv L c) (a:Grown b h o w h4) (ho:AF o=true∨(Ar o≠id∧(AF sv=true∨Ar o≠Ar sv))):Dz h4 id sv L c:=by
 have hn:=a.next
 refine ⟨by rw [a.get id k.hi (ho.imp (fun x=>x) (fun x=>x.1.symm))];exact k.blk, ?_,k.big,k.sbig,by rw [a.lim];exact k.lo,by have:=k.hi;omega⟩
 rcases k.stk with ⟨hv,hR⟩ | ⟨i,el,cap,cs,rfl,hg,q1,q2,q3,q4,q5,q6⟩
 ·exact .inl ⟨hv,hR⟩
 ·refine .inr ⟨i,el,cap,cs,rfl, ?_,q1,q2,q3,by omega,q5,q6⟩
  rw [a.get _ q4 ?_];exact hg
  rcases ho with h1 | h1
  ·exact .inl h1
  ·rcases h1.2 with h2 | h2
   ·cases h2
   ·exact .inr (Ne.symm h2)
def F2 (h0:AH) (id:Nat) (sv o:V):Prop:=AF o=true∨(h0.next≤Ar o∧Ar o≠id∧(AF sv=true∨Ar o≠Ar sv))
theorem F2.step {h0 h h':AH} {id:Nat} {sv sv' o:V} (b:F2 h0 id sv o) (hl:AF o=true∨Ar o<h.next) (f:BR h id sv h' sv'):F2 h0 id sv' o:=by
 rcases hl with hl | hl
 ·exact .inl hl
 rcases b with b | b
 ·exact .inl b
 ·refine .inr ⟨b.1,b.2.1, ?_⟩
  rcases f.own with h1 | ⟨h1,h2⟩ | h1
  ·exact .inl h1
  ·rcases b.2.2 with h3 | h3
   ·rw [h3] at h1;cases h1
   ·exact .inr (by omega)
  ·exact .inr (by omega)
theorem FR.app {h0 h h4:AH} {L:List Node} {id b:Nat} {sv o w:V} {c:Cs} (n:FR h0 h L id sv c) (a:Grown b h o w h4) (bs:F2 h0 id sv o):FR h0 h4 L id sv c∧F2 h0 id sv w:=by
 have hn:=a.next
 have x:=n.ext
 have:=x.next
 refine ⟨⟨n.cur.app a (bs.imp (fun x=>x) (fun x=>x.2)),⟨by omega,a.lim.trans x.lim,fun i hi=>?_⟩,n.id_⟩, ?_⟩
 ·rw [a.get i (by omega) (bs.imp (fun x=>x) (fun x=>by omega)),x.get i hi]
 ·rcases a.own with h1 | ⟨h1,h2⟩ | h1
  ·exact .inl h1
  ·rcases bs with b | b
   ·rw [b] at h1;cases h1
   ·exact .inr (by rw [h2];exact b)
  ·have h3:=n.cur.hi
   have h5:=n.cur.sne
   exact .inr ⟨by omega,by omega,h5.imp (fun x=>x) (fun x=>by omega)⟩
theorem iW {b sz:Nat} {h0 h h':AH} {id:Nat} {sv sv' o:V} {R:List (List V)} (s:Sl b h sz o R) (bs:F2 h0 id sv o) (f:BR h id sv h' sv'):Sl b h' sz o R:=by
 rcases s with ⟨hv,hR⟩ | ⟨i,el,cap,cs,rfl,hg,q1,q2,q3,q4,q5,q6⟩
 ·exact .inl ⟨hv,hR⟩
 ·refine .inr ⟨i,el,cap,cs,rfl, ?_,q1,q2,q3, ?_,q5,q6⟩
  ·rcases bs with b | b
   ·cases b
   ·rw [f.get i q4 b.2.1 b.2.2];exact hg
  ·have:=f.next;omega
theorem aFp {L:List Node}:Pf tp W7 [.fl 3 (L.map Node.enc)] (.tup [.fl 2 ((Fd L).1.map AK.enc),.i .i64 (Fd L).2]):=by
 refine AE aDZ (by simp [OA]) fun rp=>?_;unfold OA;simp (disch:=omega)only[go_sem, *]
 refine Pf.go (GN) (by simp only [go_sem]) fun _=>?_;simp (disch:=omega)only[go_sem, *]
 refine Aa (fun hc=>?_) (fun hc=>?_)
 ·have e:=Io hc
  simp (disch:=omega)only[go_sem, *]
 have e:=Fm (L:=L) (by omega)
 obtain ⟨_,ho,hc1,hL,hd,hl⟩:=FE (L:=L) (by omega)
 have hap:=Fo.runs_allpos _ ho
 have hsum:=Fo.runs_sum _ ho
 have hrl:=Fo.runs_len _ ho
 have hst:=Tv ho hc1 hl
 rw [← hL] at hst
 clear hL
 unfold gU at e
 simp (disch:=omega)only[go_sem, *]
 refine aEu (fun h=>absurd h (by omega)) ?_
 intro hr0 id sv h3 N3
 simp (disch:=omega)only[go_sem, *]
 refine Ah (fun n e h'=>∃ (sv' o:V) (c:Cs) (l A:List AK),n=l.length∧e 5=o∧e 6=.p id 0 0∧FR AH.emp h' L id sv' c∧RS L c l∧Sl 0 h' 2 o (A.map AK.enc)∧F2 AH.emp id sv' o∧A++l=(EV L).runs) ?_ _ _ _ ⟨sv,.ns,dS L,(EV L).runs,[],rfl, ?_⟩
 ·rintro n e' h' ⟨sv',o,c,l,A,rfl,e5,e6,N,R,so,bo,hz⟩ ih
  have nn:=N.ext.next
  have ll:=N.ext.lim
  simp only [Ii] at ll
  have olt:=CW so
  rw [Am nV.eq_1]
  simp (disch:=omega)only[go_sem, *]
  match l,R,hz,ih with
  | [],R,hz,ih=>
   refine MT N R ?_
   intro h4 N4 x4
   have l4:=N4.ext.lim
   simp only [Ii] at l4
   have xb:Aq h4 ((h4.alloc ⟨2,[[.i .i64 0,.i .i64 0]]⟩).put h4.next ⟨2,[[.i .i64 0,.i .i64 0]]⟩):=by (repeat (first | exact Aq.refl _ | refine Aq.alloc ?_ _ | (refine Aq.put ?_ _ _ ?_;rotate_left;(first | omega | (simp only [Af,Ai];omega)))))
   have so5:=(so.ext x4).ext xb
   obtain rfl:A=(EV L).runs:=by simpa using hz
   clear hz
   simp (disch:=omega)only[go_sem, *]
   have hsz:=so5.facts.big
   have hA4:(EV L).runs.length<4000000000:=by omega
   refine Pf.take [Ar o] (jE (Gl hap (by omega))) (.cons _ _ _ _ _ (so5.froze (fun _=>rfl) (by simp) (by omega)) (.nil _)) fun _=>?_
   simp (disch:=omega)only[go_sem, *]
   refine Aa (fun hc5=>?_) (fun hc5=>?_)
   ·rw [if_pos (by omega)] at e
    simp (disch:=omega)only[go_sem, *]
   ·rw [if_neg (by omega)] at e
    simp (disch:=omega)only[go_sem, *]
  | r::l,R,hz,ih=>
   refine gP N R ?_
   intro s4 c4 h4 N4 f4 R4 a4
   clear a4
   have bo4:=bo.step olt f4
   have so4:=iW so bo f4
   have xb:Aq h4 ((h4.alloc ⟨2,[[.i .i64 0,.i .i64 0]]⟩).put h4.next ⟨2,[[.i .i64 r.part,.i .i64 r.n]]⟩):=by (repeat (first | exact Aq.refl _ | refine Aq.alloc ?_ _ | (refine Aq.put ?_ _ _ ?_;rotate_left;(first | omega | (simp only [Af,Ai];omega)))))
   have N5:=N4.grow xb
   have so5:=so4.ext xb
   have hzl:=congrArg List.length hz
   simp only [List.length_append,List.length_cons] at hzl
   have l5:=N4.ext.lim
   simp only [Ii] at l5
   simp (disch:=omega)only[go_sem, *]
   refine AA (so5.alloc _) (by simp only [go_sem, *]) (Nat.zero_le _) (by simp;omega) ?_
   intro w h6 s6 a6
   have a7:=Ly a6 ((Aq.refl _).alloc _) (Nat.zero_le _)
   obtain ⟨N6,b6⟩:=N5.app a7 bo4
   simp (disch:=omega)only[go_sem, *]
   refine ih _ _ _ ?_ ⟨s4,w,c4,l,A++[r],rfl, ?_⟩
   ·simp
   ·simp (disch:=omega)only[go_sem, *]
    exact ⟨by simpa [AK.enc] using s6,by rw [← hz];simp⟩
 ·simp (disch:=omega)only[go_sem, *]
  exact ⟨Sl.nil _ _ _,.inl rfl⟩
end Go.Ab.T
namespace Go.Ab.T
open Go Go.Ab
structure BZ where
 s:Int
 e:Int
 deriving DecidableEq,Inhabited
@[go_sem] def BZ.enc (x:BZ):List V:=[.i .i64 x.s,.i .i64 x.e]
def Hb (L:List AK):Prop:=A5 L∧Aw L≤4096
theorem Hb.nil:Hb []:=⟨fun _ h=>(by cases h),by simp [Aw]⟩
theorem Hb.tail {r:AK} {l:List AK} (h:Hb (r::l)):Hb l:=⟨fun x hx=>h.1 x (List.mem_cons_of_mem _ hx),by
 have:=h.1 r (List.mem_cons_self ..);have:=h.2;simp only [Aw] at this;omega⟩
def AS (p:Int):Int→List AK→List BZ
 | _,[]=>[]
 | a,r::l=>(if r.part=p then [⟨a,a+r.n⟩] else [])++AS p (a+r.n) l
def LK (t:Int):List BZ→Option Int
 | []=>none
 | s::l=>if t+1<s.e then some (max (t+1) s.s) else LK t l
def Ib (tt:List BZ) (t n:Int):Int:=match LK t tt with | some x=>x | none=>n+(nth tt 0).s
def Fa (tt:List BZ) (n:Int):List BZ→Int→Int
 | [],w=>w
 | s::l,w=>Fa tt n l (max (max w (Ib tt s.s n - s.s)) (Ib tt (s.e - 1) n - (s.e - 1)))
def C1 (L:List AK) (f t:Int):Int:=if AS f 0 L=[] then 0 else if AS t 0 L=[] then -1 else Fa (AS t 0 L) (Aw L) (AS f 0 L) 0
def BD:List AK→List Int
 | []=>[]
 | r::l=>List.replicate r.n.toNat r.part++BD l
theorem Eh:∀ {L:List AK},A5 L→((BD L).length:Int)=Aw L
 | [],_=>rfl
 | r::l,h=>by
  have:=Eh (L:=l) (fun x hx=>h x (List.mem_cons_of_mem _ hx))
  have:=h r (List.mem_cons_self ..)
  simp only [BD,Aw,List.length_append,List.length_replicate];omega
theorem Il {p:Int}:∀ {L:List AK} {a:Int},A5 L→(p∈BD L↔AS p a L≠[])
 | [],a,_=>by simp [BD,AS]
 | r::l,a,h=>by
  have ih:=Il (p:=p) (L:=l) (a:=a+r.n) (fun x hx=>h x (List.mem_cons_of_mem _ hx))
  have:=h r (List.mem_cons_self ..)
  simp only [BD,AS,List.mem_append,List.mem_replicate,ih]
  by_cases hp:r.part=p
  ·rw [if_pos hp];simp;left;exact ⟨by omega,hp.symm⟩
  ·rw [if_neg hp]
   simp only [List.nil_append]
   constructor
   ·rintro (h | h)
    ·exact absurd h.2.symm hp
    ·exact h
   ·exact .inr
inductive Ca:Int→List BZ→Int→Prop where
 | nil (a n:Int):a≤n→Ca a [] n
 | cons (a n:Int) (x:BZ) (l:List BZ):a≤x.s→x.s<x.e→Ca x.e l n→Ca a (x::l) n
theorem Ca.lo {a b n:Int} {l:List BZ} (h:Ca b l n) (hab:a≤b):Ca a l n:=by
 cases h with
 | nil _ _ h=>exact .nil _ _ (by omega)
 | cons _ _ x l h1 h2 h3=>exact .cons _ _ _ _ (by omega) h2 h3
theorem Ca.le {a n:Int} {l:List BZ} (h:Ca a l n):a≤n:=by
 induction h with
 | nil _ _ h=>exact h
 | cons _ _ x l h1 h2 _ ih=>omega
theorem Ca.mem {a n:Int} {l:List BZ} (h:Ca a l n) {x:BZ} (hx:x∈l):a≤x.s∧x.s<x.e∧x.e≤n:=by
 induction h with
 | nil=>cases hx
 | cons a n y l h1 h2 h3 ih=>
  have:=h3.le
  rcases List.mem_cons.1 hx with rfl | hx
  ·omega
  ·have:=ih hx;omega
theorem Bu {p:Int}:∀ {L:List AK} {a:Int},A5 L→Ca a (AS p a L) (a+Aw L)
 | [],a,_=>.nil _ _ (by simp [Aw])
 | r::l,a,h=>by
  have ih:=Bu (p:=p) (L:=l) (a:=a+r.n) (fun x hx=>h x (List.mem_cons_of_mem _ hx))
  have:=h r (List.mem_cons_self ..)
  have e:a+r.n+Aw l=a+Aw (r::l):=by simp only [Aw];omega
  rw [e] at ih
  rw [AS]
  split
  ·exact .cons _ _ _ _ (by simp only;omega) (by simp only;omega) ih
  ·exact ih.lo (by omega)
def Id (W:List Int) (t:Int):Int:=nth W t.toNat
theorem GO {α:Type} [Inhabited α] {A B:List α} {i:Nat}:nth (A++B) i=if i<A.length then nth A i else nth B (i - A.length):=by
 unfold nth
 split
 ·simp only [List.getD];rw [List.getElem?_append_left (by assumption)]
 ·simp only [List.getD];rw [List.getElem?_append_right (by omega)]
theorem RF {α:Type} [Inhabited α] {a:α} {n i:Nat} (h:i<n):nth (List.replicate n a) i=a:=by simp [nth,List.getD,h]
theorem RO {p:Int}:∀ {L:List AK} {a t:Int},A5 L→a≤t→t<a+Aw L→(Id (BD L) (t - a)=p↔∃ s∈AS p a L,s.s≤t∧t<s.e)
 | [],a,t,_,h1,h2=>by simp [Aw] at h2;omega
 | r::l,a,t,h,h1,h2=>by
  have hp:=h r (List.mem_cons_self ..)
  have hl:A5 l:=fun x hx=>h x (List.mem_cons_of_mem _ hx)
  have hs:=Bu (p:=p) (L:=l) (a:=a+r.n) hl
  simp only [Aw] at h2
  by_cases ht:t<a+r.n
  ·have e:Id (BD (r::l)) (t - a)=r.part:=by
    unfold Id
    rw [BD,GO,if_pos (by simp;omega),RF (by omega)]
   rw [e,AS]
   constructor
   ·intro hq
    rw [if_pos hq]
    exact ⟨⟨a,a+r.n⟩,by simp,by simp only;omega,by simp only;omega⟩
   ·rintro ⟨s,hs1,hs2,hs3⟩
    by_cases hq:r.part=p
    ·exact hq
    ·rw [if_neg hq] at hs1
     have:=hs.mem hs1
     omega
  ·have e:Id (BD (r::l)) (t - a)=Id (BD l) (t - (a+r.n)):=by
    unfold Id
    rw [BD,GO,if_neg (by simp;omega)]
    congr 1;simp;omega
   rw [e,RO hl (by omega) (by omega),AS]
   constructor
   ·rintro ⟨s,a1,a2⟩;exact ⟨s,List.mem_append_right _ a1,a2⟩
   ·rintro ⟨s,a1,a2,a3⟩
    rcases List.mem_append.1 a1 with a1 | a1
    ·split at a1
     ·simp at a1;subst a1;simp only at a3;omega
     ·cases a1
    ·exact ⟨s,a1,a2,a3⟩
def EJ (W:List Int) (p t d:Int):Prop:=1≤d∧Id W ((t+d) % W.length)=p∧∀ c,1≤c→c<d→Id W ((t+c) % W.length)≠p
theorem EJ.uniq {W:List Int} {p t a b:Int} (x:EJ W p t a) (y:EJ W p t b):a=b:=by
 rcases Int.lt_trichotomy a b with h | h | h
 ·exact absurd x.2.1 (y.2.2 a x.1 h)
 ·exact h
 ·exact absurd y.2.1 (x.2.2 b y.1 h)
theorem EJ.step {W:List Int} {p t d:Int} (x:EJ W p t d) (h:1<d):EJ W p (t+1) (d - 1):=by
 refine ⟨by omega, ?_,fun c h1 h2=>?_⟩
 ·rw [show t+1+(d - 1)=t+d by omega];exact x.2.1
 ·rw [show t+1+c=t+(c+1) by omega];exact x.2.2 (c+1) (by omega) (by omega)
theorem E2 {t:Int}:∀ {l:List BZ} {a n:Int},Ca a l n→(LK t l=none∧∀ s∈l,s.e≤t+1)∨∃ s∈l,LK t l=some (max (t+1) s.s)∧t+1<s.e∧∀ q∈l,q.e≤t+1∨s.s≤q.s
 | [],a,n,_=>.inl ⟨rfl,fun s h=>(by cases h)⟩
 | x::l,a,n,.cons _ _ _ _ h1 h2 h3=>by
  rw [LK]
  by_cases hc:t+1<x.e
  ·rw [if_pos hc]
   refine .inr ⟨x,List.mem_cons_self ..,rfl,hc,fun q hq=>?_⟩
   rcases List.mem_cons.1 hq with rfl | hq
   ·exact .inr (by omega)
   ·have:=h3.mem hq;exact .inr (by omega)
  ·rw [if_neg hc]
   rcases E2 h3 with ⟨a1,a2⟩ | ⟨s,a1,a2,a3,a4⟩
   ·refine .inl ⟨a1,fun s hs=>?_⟩
    rcases List.mem_cons.1 hs with rfl | hs
    ·omega
    ·exact a2 s hs
   ·refine .inr ⟨s,List.mem_cons_of_mem _ a1,a2,a3,fun q hq=>?_⟩
    rcases List.mem_cons.1 hq with rfl | hq
    ·exact .inl (by omega)
    ·exact a4 q hq
theorem Im {L:List AK} {p t:Int} (h:A5 L) (ht0:0≤t) (ht:t<Aw L) (hne:AS p 0 L≠[]):EJ (BD L) p t (Ib (AS p 0 L) t (Aw L) - t):=by
 have hl:=Eh h
 have hs:=Bu (p:=p) (a:=0) h
 rw [Int.zero_add] at hs
 have hw:∀ x,0≤x→x<Aw L→(Id (BD L) x=p↔∃ s∈AS p 0 L,s.s≤x∧x<s.e):=fun x h0 h1=>by
  have:=RO (p:=p) (a:=0) (t:=x) h h0 (by omega)
  rwa [Int.sub_zero] at this
 unfold Ib
 rcases E2 (t:=t) hs with ⟨a1,a2⟩ | ⟨s,a1,a2,a3,a4⟩
 ·rw [a1]
  simp only
  obtain ⟨s0,l0,e0⟩:∃ s0 l0,AS p 0 L=s0::l0:=by
   match hh:AS p 0 L,hne with
   | a::b,_=>exact ⟨a,b,rfl⟩
  have m0:s0∈AS p 0 L:=by rw [e0];exact List.mem_cons_self ..
  have b0:=hs.mem m0
  have n0:nth (AS p 0 L) 0=s0:=by rw [e0];rfl
  rw [n0]
  refine ⟨by omega, ?_,fun c h1 h2=>?_⟩
  ·rw [show t+(Aw L+s0.s - t)=s0.s+((BD L).length:Int) by omega,Int.add_emod_right,Int.emod_eq_of_lt (by omega) (by omega)]
   exact (hw s0.s (by omega) (by omega)).2 ⟨s0,m0,by omega,by omega⟩
  ·by_cases hc:t+c<Aw L
   ·rw [Int.emod_eq_of_lt (by omega) (by omega)]
    intro he
    obtain ⟨s,m1,m2,m3⟩:=(hw (t+c) (by omega) hc).1 he
    have:=a2 s m1;omega
   ·rw [show t+c=(t+c - (BD L).length)+((BD L).length:Int) by omega,Int.add_emod_right,Int.emod_eq_of_lt (by omega) (by omega)]
    intro he
    obtain ⟨s,m1,m2,m3⟩:=(hw (t+c - (BD L).length) (by omega) (by omega)).1 he
    have hs2:=hs
    rw [e0] at hs2 m1
    cases hs2 with
    | cons _ _ _ _ q1 q2 q3=>
     rcases List.mem_cons.1 m1 with rfl | m1
     ·omega
     ·have:=q3.mem m1;omega
 ·rw [a2]
  simp only
  have b:=hs.mem a1
  refine ⟨by omega, ?_,fun c h1 h2=>?_⟩
  ·rw [show t+(max (t+1) s.s - t)=max (t+1) s.s by omega,Int.emod_eq_of_lt (by omega) (by omega)]
   exact (hw _ (by omega) (by omega)).2 ⟨s,a1,by omega,by omega⟩
  ·rw [Int.emod_eq_of_lt (by omega) (by omega)]
   intro he
   obtain ⟨q,m1,m2,m3⟩:=(hw (t+c) (by omega) (by omega)).1 he
   rcases a4 q m1 with h5 | h5<;>omega
def EZ (W:List Int) (f:Int) (F:Int→Int):List Int→Int→Int→Int
 | [],_,w=>w
 | p::l,t,w=>EZ W f F l (t+1) (if p=f then max w (F t) else w)
theorem MP {W:List Int} {f:Int} {F:Int→Int}:∀ (A B:List Int) (t w:Int),EZ W f F (A++B) t w=EZ W f F B (t+A.length) (EZ W f F A t w)
 | [],B,t,w=>by simp [EZ]
 | p::A,B,t,w=>by
  rw [List.cons_append,EZ,EZ,MP A B]
  congr 1;simp;omega
theorem Jl {W:List Int} {f p:Int} {F:Int→Int} (hp:p≠f):∀ (n:Nat) (t w:Int),EZ W f F (List.replicate n p) t w=w
 | 0,t,w=>rfl
 | n+1,t,w=>by rw [List.replicate_succ,EZ,if_neg hp,Jl hp n]
theorem MQ {W:List Int} {f:Int} {F:Int→Int} (X:Int):∀ (n:Nat) (t w:Int),X≤w→(∀ i,t≤i→i<t+n→F i≤max X (F (t+n - 1)))→EZ W f F (List.replicate n f) t w=if n=0 then w else max w (F (t+n - 1))
 | 0,t,w,_,_=>rfl
 | n+1,t,w,hX,h=>by
  rw [List.replicate_succ,EZ,if_pos rfl,MQ X n (t+1) _ (by omega) (fun i h1 h2=>by
   have:=h i (by omega) (by omega)
   rw [show t+1+(n:Int) - 1=t+((n+1:Nat):Int) - 1 by omega];exact this)]
  have h0:=h t (by omega) (by omega)
  by_cases hn:n=0
  ·subst hn;simp
  ·rw [if_neg hn,if_neg (by omega),show t+1+(n:Int) - 1=t+((n+1:Nat):Int) - 1 by omega];omega
theorem XD {W:List Int} {f:Int} {F:Int→Int} {n:Nat} {t w:Int} (hn:1≤n) (h:∀ i,t≤i→i<t+n→F i≤max (F t) (F (t+n - 1))):EZ W f F (List.replicate n f) t w=max (max w (F t)) (F (t+n - 1)):=by
 obtain ⟨m,rfl⟩:∃ m,n=m+1:=⟨n - 1,by omega⟩
 rw [List.replicate_succ,EZ,if_pos rfl,MQ (F t) m (t+1) _ (by omega) (fun i h1 h2=>by
  have:=h i (by omega) (by omega)
  rw [show t+1+(m:Int) - 1=t+((m+1:Nat):Int) - 1 by omega];exact this)]
 by_cases hn:m=0
 ·subst hn;simp
 ·rw [if_neg hn,show t+1+(m:Int) - 1=t+((m+1:Nat):Int) - 1 by omega]
theorem MH {M : List AK} {f p : Int} (hM : A5 M) (hne : AS p 0 M ≠ []) : ∀ (L : List AK) (a w : Int) (A : List Int), A5 L → BD M = A ++ BD L → (A.length : Int) = a →
    EZ (BD M) f (fun t=>Ib (AS p 0 M) t (Aw M) - t) (BD L) a w=Fa (AS p 0 M) (Aw M) (AS f a L) w
 | [],a,w,A,_,_,_=>rfl
 | r::l,a,w,A,h,hA,ha=>by
  have hp:=h r (List.mem_cons_self ..)
  have hl:A5 l:=fun x hx=>h x (List.mem_cons_of_mem _ hx)
  have hwl:=Eh hM
  have hwl2:=Eh hl
  have hAl:=congrArg List.length hA
  simp only [BD,List.length_append,List.length_replicate] at hAl
  have hsum:a+r.n+Aw l=Aw M:=by omega
  have hs0:=BM hl
  have hrest:=fun w=>MH (f:=f) hM hne l (a+r.n) w (A++List.replicate r.n.toNat r.part) hl (by rw [hA,BD,List.append_assoc]) (by simp;omega)
  rw [BD,MP,AS]
  rw [show a+((List.replicate r.n.toNat r.part).length:Int)=a+r.n by simp;omega]
  by_cases hq:r.part=f
  ·rw [if_pos hq,hq]
   have hin:∀ i,a≤i→i<a+r.n→Id (BD M) i=f:=by
    intro i h1 h2
    unfold Id
    rw [hA,GO,if_neg (by omega),BD,GO,if_pos (by simp;omega),RF (by omega)];exact hq
   have hd:∀ i,a≤i→i<a+r.n→EJ (BD M) p i (Ib (AS p 0 M) i (Aw M) - i):=fun i h1 h2=>Im hM (by omega) (by omega) hne
   have key:∀ i,a≤i→i<a+r.n.toNat→(fun t=>Ib (AS p 0 M) t (Aw M) - t) i≤max ((fun t=>Ib (AS p 0 M) t (Aw M) - t) a) ((fun t=>Ib (AS p 0 M) t (Aw M) - t) (a+r.n.toNat - 1)):=by
    intro i h1 h2
    simp only
    by_cases hfp:f=p
    ·by_cases hlast:i=a+r.n.toNat - 1
     ·subst hlast;omega
     ·have d1:EJ (BD M) p i 1:=⟨by omega,by
       rw [Int.emod_eq_of_lt (by omega) (by omega),hin _ (by omega) (by omega)];exact hfp,fun c h3 h4=>by omega⟩
      have e1:=(hd i h1 (by omega)).uniq d1
      have e2:=(hd (a+r.n.toNat - 1) (by omega) (by omega)).1
      omega
    ·have dec:∀ k:Nat,a+k<a+r.n→Ib (AS p 0 M) (a+k) (Aw M) - (a+k)≤Ib (AS p 0 M) a (Aw M) - a:=by
      intro k
      induction k with
      | zero=>intro _;simp
      | succ k ih=>
       intro hk
       have ih:=ih (by omega)
       have d:=hd (a+k) (by omega) (by omega)
       have g:1<Ib (AS p 0 M) (a+k) (Aw M) - (a+k):=by
        have h1:=d.1
        rcases Int.lt_or_eq_of_le h1 with h2 | h2
        ·exact h2
        ·have h3:=d.2.1
         rw [← h2,Int.emod_eq_of_lt (by omega) (by omega),hin _ (by omega) (by omega)] at h3
         exact absurd h3 hfp
       have d2:=d.step g
       have e:=(hd (a+k+1) (by omega) (by omega)).uniq d2
       rw [show a+((k+1:Nat):Int)=a+k+1 by omega]
       omega
     have:=dec (i - a).toNat (by omega)
     rw [show a+((i - a).toNat:Int)=i by omega] at this
     omega
   rw [XD (by omega) key,hrest]
   rw [List.singleton_append,Fa]
   simp only
   rw [show a+(r.n.toNat:Int) - 1=a+r.n - 1 by omega]
  ·rw [if_neg hq,Jl hq,hrest,List.nil_append]
end Go.Ab.T
namespace Go.Ab.T
open Go Go.Ab
def Gd (t u:Int):List BZ→Int→Int
 | [],n=>n
 | s::l,n=>Gd t u l (n+max 0 (min s.e u - max s.s t))
def Hw (F:Int→Int) (P:Int):Nat→Int→Int→Int
 | 0,_,w=>w
 | k+1,t,w=>Hw F P k (t+P) (min w (F t))
def Gy (L:List AK) (p P:Int):Int:=if P<1∨Aw L=0∨Aw L % P≠0 then -1 else Hw (fun t=>Gd t (t+P) (AS p 0 L) 0) P (Aw L / P).toNat 0 P
def DG (p:Int):List Int→Int→Int
 | [],n=>n
 | x::l,n=>DG p l (if x=p then n+1 else n)
theorem Hk (p:Int):∀ (l:List Int) (n:Int),DG p l n=n+DG p l 0
 | [],n=>by simp [DG]
 | x::l,n=>by rw [DG,DG,Hk p l,Hk p l (if x=p then 0+1 else 0)];split<;>omega
theorem Mm (p:Int):∀ (l:List Int) (n:Int),DG p l n≤n+l.length
 | [],n=>by simp [DG]
 | x::l,n=>by
  have:=Mm p l (if x=p then n+1 else n)
  rw [DG];simp only [List.length_cons];split at this<;>split<;>simp_all<;>omega
def cnt (p t u:Int):Int→List Int→Int
 | _,[]=>0
 | a,x::l=>(if x=p∧t≤a∧a<u then 1 else 0)+cnt p t u (a+1) l
theorem Ih {p t u:Int}:∀ (A B:List Int) (a:Int),cnt p t u a (A++B)=cnt p t u a A+cnt p t u (a+A.length) B
 | [],B,a=>by simp [cnt]
 | x::A,B,a=>by
  rw [List.cons_append,cnt,cnt,Ih A B,show a+1+(A.length:Int)=a+((x::A).length:Int) by simp;omega];omega
theorem QW {p q t u:Int}:∀ (n:Nat) (a:Int),cnt p t u a (List.replicate n q)=if q=p then max 0 (min (a+n) u - max a t) else 0
 | 0,a=>by simp [cnt];intro _;omega
 | n+1,a=>by
  rw [List.replicate_succ,cnt,QW n]
  by_cases hq:q=p
  ·simp only [hq,true_and,if_true]
   split<;>omega
  ·simp [hq]
theorem Hl {p t u:Int}:∀ (L:List AK) (a w:Int),A5 L→Gd t u (AS p a L) w=w+cnt p t u a (BD L)
 | [],a,w,_=>by simp [AS,Gd,BD,cnt]
 | r::l,a,w,h=>by
  have hp:=h r (List.mem_cons_self ..)
  have hl:A5 l:=fun x hx=>h x (List.mem_cons_of_mem _ hx)
  rw [AS,BD,Ih,QW]
  by_cases hq:r.part=p
  ·rw [if_pos hq,if_pos hq,List.singleton_append,Gd,Hl l _ _ hl]
   simp only [List.length_replicate]
   rw [show a+(r.n.toNat:Int)=a+r.n by omega];omega
  ·rw [if_neg hq,if_neg hq,List.nil_append,Hl l _ _ hl]
   simp only [List.length_replicate]
   rw [show a+(r.n.toNat:Int)=a+r.n by omega];omega
theorem Lk {p t u:Int}:∀ (A:List Int) (a:Int),a+A.length≤t∨u≤a→cnt p t u a A=0
 | [],a,_=>rfl
 | x::A,a,h=>by
  simp only [List.length_cons] at h
  rw [cnt,Lk A (a+1) (by omega),if_neg (by omega)];rfl
theorem Vq {p t u:Int}:∀ (A:List Int) (a:Int),t≤a→a+A.length≤u→cnt p t u a A=DG p A 0
 | [],a,_,_=>rfl
 | x::A,a,h1,h2=>by
  simp only [List.length_cons] at h2
  rw [cnt,Vq A (a+1) (by omega) (by omega),DG,Hk p A (if x=p then 0+1 else 0)]
  by_cases hx:x=p
  ·rw [if_pos hx,if_pos ⟨hx,h1,by omega⟩];omega
  ·rw [if_neg hx,if_neg (fun h=>hx h.1)]
theorem KB {L:List AK} {p t P:Int} (h:A5 L) (h0:0≤t) (hP:0≤P) (h1:t+P≤Aw L):Gd t (t+P) (AS p 0 L) 0=DG p (((BD L).drop t.toNat).take P.toNat) 0:=by
 have hl:=Eh h
 rw [Hl L 0 0 h]
 have e:BD L=(BD L).take t.toNat++(((BD L).drop t.toNat).take P.toNat++((BD L).drop t.toNat).drop P.toNat):=by
  rw [List.take_append_drop,List.take_append_drop]
 conv=>lhs;rw [e]
 rw [Ih,Ih]
 simp only [List.length_take,List.length_drop]
 rw [Lk _ _ (.inl (by simp only [List.length_take];omega)),Vq _ _ (by omega) (by simp only [List.length_take,List.length_drop];omega),Lk _ _ (.inr (by omega))]
 omega
theorem gL {F:Int→Int} {P:Int}:∀ (k:Nat) (t w v:Int),(∀ i:Nat,i<k→F (t+i*P)≤v)→v≤w→1≤k→Hw F P k t w=Hw F P k t v
 | 0,t,w,v,_,_,hk=>by omega
 | k+1,t,w,v,h,hv,_=>by
  have h0:=h 0 (by omega)
  simp only [Int.natCast_zero,Int.zero_mul,Int.add_zero] at h0
  rw [Hw,Hw]
  congr 1
  omega
end Go.Ab.T
namespace Go.Ab.T
open Go Go.Ab
theorem Hb.ok {L:List AK} (h:Hb L):DT L:=Gl h.1 (by have:=h.2;omega)
theorem Hb.length {L:List AK} (h:Hb L):Cg L 0=Aw L:=by rw [GL L 0 h.1 (by omega) (by have:=h.2;omega)];omega
theorem JA {L:List AK} {p:Int} (hf:Hb L):Pf tp PL [.fl 2 (L.map AK.enc),.i .i64 p] (.fl 2 ((AS p 0 L).map BZ.enc)):=by
 refine AE eS (by simp [JO]) fun rp=>?_;unfold JO;simp (disch:=omega)only[go_sem, *]
 have hL:=rp.head.len
 obtain ⟨hp,hs⟩:=hf
 refine Ah (fun n e h=>∃ (i:Nat) (a:Int) (o:V) (A:List BZ),n=L.length - i∧h.lim=0∧e 10=.fl 2 (L.map AK.enc)∧e 11=.i .i64 L.length∧e 12=.i .i64 i∧e 1=.i .i64 p∧e 5=o∧e 6=.i .i64 a∧i≤L.length∧0≤a∧a+Aw (L.drop i)≤4096∧A.length≤i∧Sl 0 h 2 o (A.map BZ.enc)∧A++AS p a (L.drop i)=AS p 0 L) ?_ _ _ _ ⟨0,0,.ns,[],rfl, ?_⟩
 ·rintro n e h ⟨i,a,o,A,rfl,hl,e10,e11,e12,e1,e5,e6,hi,ha,has,hA,so,hz⟩ ih
  rw [Am QO.eq_1]
  simp (disch:=omega)only[go_sem, *]
  refine Aa (fun hc=>?_) (fun hc=>?_)
  ·have hn:=hp.nth (i:=i) (by omega)
   have hd:=AI (L:=L) (i:=i) (by omega)
   have hsd:=BM (w:=L.drop (i+1)) (fun q hq=>hp q (List.mem_of_mem_drop hq))
   rw [hd,AS] at hz
   rw [hd,Aw] at has
   clear hd
   simp (disch:=omega)only[go_sem, *]
   have hadd:=IB (a:=a) (b:=(nth L i).n) (by omega) (by omega) (by omega)
   refine Pf.go (O6 (a:=a) (b:=(nth L i).n) (by omega) (by omega)) (by simp only [go_sem]) fun _=>?_;simp (disch:=omega)only[go_sem, *]
   have x1:∀ k,Aq h ((h.alloc ⟨2,[[.i .i64 0,.i .i64 0]]⟩).put h.next k):=fun k=>by (repeat (first | exact Aq.refl _ | refine Aq.alloc ?_ _ | (refine Aq.put ?_ _ _ ?_;rotate_left;(first | omega | (simp only [Af,Ai];omega)))))
   refine Av (fun hc2=>?_) (fun hc2=>?_)
   ·rw [if_pos hc2] at hz
    simp (disch:=omega)only[go_sem, *]
    refine Aa (fun hc3=>?_) (fun hc3=>by omega)
    simp (disch:=omega)only[go_sem, *]
    refine AA (R:=A.map BZ.enc) ((so.ext (x1 _)).alloc _) (by simp only [go_sem, *]) (Nat.zero_le _) (by simp;omega) ?_
    intro w h4 s4 g4
    have hl4:=g4.lim
    simp (disch:=omega)only[go_sem, *]
    refine ih _ _ _ ?_ ⟨i+1,a+(nth L i).n,w,A++[⟨a,a+(nth L i).n⟩],rfl, ?_⟩
    ·omega
    ·simp (disch:=omega)only[go_sem, *]
     ((repeat' refine And.intro ?_ ?_)<;>first | omega | assumption | (simp;omega) | (simpa [BZ.enc] using s4) | ((rw [← hz];simp)))
   ·rw [if_neg hc2] at hz
    simp (disch:=omega)only[go_sem, *]
    refine ih _ _ _ ?_ ⟨i+1,a+(nth L i).n,o,A,rfl, ?_⟩
    ·omega
    ·simp (disch:=omega)only[go_sem, *]
     ((repeat' refine And.intro ?_ ?_)<;>first | omega | assumption | (exact so.ext (x1 _)) | ((rw [← hz];simp)))
  ·rw [List.drop_eq_nil_of_le (by omega),AS,List.append_nil] at hz
   simp (disch:=omega)only[go_sem, *]
   subst hz
   exact so.froze (fun _=>rfl) trivial (by omega)
 ·simp (disch:=omega)only[go_sem, *]
  exact ⟨by simp;omega,Sl.nil _ _ _⟩
theorem RC {A:List BZ} {t N a:Int} (hs:Ca a A N) (ha:0≤a) (hn:N≤4096) (ht:0≤t∧t≤4096) (hne:A≠[]):Pf tp PP [.fl 2 (A.map BZ.enc),.i .i64 t,.i .i64 N] (.i .i64 (Ib A t N)):=by
 refine AE eU (by simp [JQ]) fun rp=>?_;unfold JQ;simp (disch:=omega)only[go_sem, *]
 have hL:=rp.head.len
 have hlen:0<A.length:=List.length_pos_iff.2 hne
 refine Ah (fun n e h=>∃ (i:Nat),n=A.length - i∧h.lim=0∧e 9=.fl 2 (A.map BZ.enc)∧e 10=.i .i64 A.length∧e 11=.i .i64 i∧e 0=.fl 2 (A.map BZ.enc)∧e 1=.i .i64 t∧e 2=.i .i64 N∧i≤A.length∧LK t (A.drop i)=LK t A) ?_ _ _ _ ⟨0,rfl, ?_⟩
 ·rintro n e h ⟨i,rfl,hl,e9,e10,e11,e0,e1,e2,hi,hz⟩ ih
  rw [Am T0.eq_1]
  simp (disch:=omega)only[go_sem, *]
  refine Aa (fun hc=>?_) (fun hc=>?_)
  ·have hm:=hs.mem (AP (L:=A) (j:=i) (by omega))
   rw [AI (by omega),LK] at hz
   simp (disch:=omega)only[go_sem, *]
   refine Aa (fun hc2=>?_) (fun hc2=>?_)
   ·rw [if_pos hc2] at hz
    unfold Ib
    rw [← hz]
    simp (disch:=omega)only[go_sem, *]
   ·rw [if_neg hc2] at hz
    simp (disch:=omega)only[go_sem, *]
    refine ih _ _ _ ?_ ⟨i+1,rfl, ?_⟩
    ·omega
    ·simp (disch:=omega)only[go_sem, *]
     ((repeat' refine And.intro ?_ ?_)<;>first | omega | assumption)
  ·have hm:=hs.mem (AP (L:=A) (j:=0) (by omega))
   rw [List.drop_eq_nil_of_le (by omega),LK] at hz
   unfold Ib
   rw [← hz]
   have z0:Int.toNat 0=0:=rfl
   have hlen2:(0:Int)<A.length:=by omega
   simp (disch:=omega)only[go_sem, *]
 ·simp (disch:=omega)only[go_sem, *]
end Go.Ab.T
namespace Go.Ab.T
open Go Go.Ab
set_option maxHeartbeats 1000000
theorem Qd {A:List BZ} {t n:Int} (hs:Ca 0 A n) (ht:t<n) (hne:A≠[]):Ib A t n≤n+n:=by
 have hm:=hs.mem (AP (L:=A) (j:=0) (List.length_pos_iff.2 hne))
 unfold Ib
 rcases E2 (t:=t) hs with ⟨h,_⟩ | ⟨s,hs1,h,h2,_⟩
 ·rw [h];simp only;omega
 ·rw [h];simp only
  have:=hs.mem hs1
  omega
theorem gB {L:List AK} {f t:Int} (hf:Hb L):Pf tp Pz [.fl 2 (L.map AK.enc),.i .i64 f,.i .i64 t] (.i .i64 (C1 L f t)):=by
 refine AE eF (by simp [JD]) fun rp=>?_;unfold JD;simp (disch:=omega)only[go_sem, *]
 have hss:=Bu (p:=f) (a:=0) hf.1
 have hst:=Bu (p:=t) (a:=0) hf.1
 rw [Int.zero_add] at hss hst
 have hlen:=hf.length
 have hs0:=BM hf.1
 have hs4:=hf.2
 refine Pf.go (JA (p:=f) hf) (by simp only [go_sem]) fun q1=>?_
 have hq1:=q1.len
 simp (disch:=omega)only[go_sem, *]
 refine Pf.go (JA (p:=t) hf) (by simp only [go_sem]) fun _=>?_;simp (disch:=omega)only[go_sem, *]
 unfold C1
 refine Aa (fun hc=>?_) (fun hc=>?_)
 ·have e:AS f 0 L=[]:=List.length_eq_zero_iff.1 (by omega)
  rw [if_pos e]
  simp (disch:=omega)only[go_sem, *]
 have e:AS f 0 L≠[]:=fun h=>hc (by rw [h];rfl)
 rw [if_neg e]
 clear e
 simp (disch:=omega)only[go_sem, *]
 refine Aa (fun hc=>?_) (fun hc=>?_)
 ·have e:AS t 0 L=[]:=List.length_eq_zero_iff.1 (by omega)
  rw [if_pos e]
  simp (disch:=omega)only[go_sem, *]
 have hst0:AS t 0 L≠[]:=fun h=>hc (by rw [h];rfl)
 rw [if_neg hst0]
 simp (disch:=omega)only[go_sem, *]
 refine Pf.go (KL hf.ok) (by simp only [go_sem]) fun _=>?_;simp (disch:=omega)only[go_sem, *]
 refine Ah (fun n e h=>∃ (i:Nat) (w:Int),n=(AS f 0 L).length - i∧h.lim=0∧e 31=.fl 2 ((AS f 0 L).map BZ.enc)∧e 32=.i .i64 (AS f 0 L).length∧e 33=.i .i64 i∧e 8=.fl 2 ((AS t 0 L).map BZ.enc)∧e 9=.i .i64 (Aw L)∧e 10=.i .i64 w∧i≤(AS f 0 L).length∧Fa (AS t 0 L) (Aw L) ((AS f 0 L).drop i) w=Fa (AS t 0 L) (Aw L) (AS f 0 L) 0) ?_ _ _ _ ⟨0,0,rfl, ?_⟩
 ·rintro n e h ⟨i,w,rfl,hl,e31,e32,e33,e8,e9,e10,hi,hz⟩ ih
  rw [Am QK.eq_1]
  simp (disch:=omega)only[go_sem, *]
  refine Aa (fun hc=>?_) (fun hc=>?_)
  ·have hm:=hss.mem (AP (L:=AS f 0 L) (j:=i) (by omega))
   rw [AI (by omega),Fa] at hz
   simp (disch:=omega)only[go_sem, *]
   refine BH ?_
   rw [Am Ig.eq_1]
   simp (disch:=omega)only[go_sem, *]
   try (refine Aa (fun hc9=>?_) (fun hc9=>absurd hc9 (by decide));simp (disch:=omega)only[go_sem, *])
   refine Pf.go (RC hst (Int.le_refl 0) hf.2 (by omega) hst0) (by simp only [go_sem]) fun _=>?_;simp (disch:=omega)only[go_sem, *]
   have hnx:=Im hf.1 (t:=(nth (AS f 0 L) i).s) (by omega) (by omega) hst0
   have hnx1:=hnx.1
   have hnx2:=Qd (t:=(nth (AS f 0 L) i).s) hst (by omega) hst0
   try simp (disch:=omega)only[go_sem, *]
   refine BH ?_
   rw [Am Ig.eq_1]
   simp (disch:=omega)only[go_sem, *]
   try (refine Aa (fun hc9=>?_) (fun hc9=>absurd hc9 (by decide));simp (disch:=omega)only[go_sem, *])
   refine Pf.go (RC hst (Int.le_refl 0) hf.2 (by omega) hst0) (by simp only [go_sem]) fun _=>?_;simp (disch:=omega)only[go_sem, *]
   have hnx:=Im hf.1 (t:=(nth (AS f 0 L) i).e - 1) (by omega) (by omega) hst0
   have hnx1:=hnx.1
   have hnx2:=Qd (t:=(nth (AS f 0 L) i).e - 1) hst (by omega) hst0
   try simp (disch:=omega)only[go_sem, *]
   refine BH ?_
   rw [Am Ig.eq_1]
   simp (disch:=omega)only[go_sem, *]
   try (refine Aa (fun hc9=>absurd hc9 (by decide)) (fun hc9=>?_);simp (disch:=omega)only[go_sem, *])
   refine ih _ _ _ ?_ ⟨i+1,(max (max w (Ib (AS t 0 L) (nth (AS f 0 L) i).s (Aw L) - (nth (AS f 0 L) i).s)) (Ib (AS t 0 L) ((nth (AS f 0 L) i).e - 1) (Aw L) - ((nth (AS f 0 L) i).e - 1))),rfl, ?_⟩
   ·omega
   ·simp (disch:=omega)only[go_sem, *]
    ((repeat' refine And.intro ?_ ?_)<;>first | omega | assumption)
  ·rw [List.drop_eq_nil_of_le (by omega),Fa] at hz
   simp (disch:=omega)only[go_sem, *]
 ·simp (disch:=omega)only[go_sem, *]
end Go.Ab.T
namespace Go.Ab.T
open Go Go.Ab
set_option maxHeartbeats 1000000
@[go_sem] def Ek (x:Int):List V:=[.i .i64 x]
@[go_sem] def FW (z:Int):List V:=[.i .u8 z]
@[go_sem] def Lp (n:Int):List V:=[.i .u32 n]
set_option maxRecDepth 4000 in
theorem ON {L:List AK} (hf:Hb L):Pf tp WK [.fl 2 (L.map AK.enc)] (.fl 1 ((BD L).map Ek)):=by
 refine AE aDH (by simp [Oc]) fun rp=>?_;unfold Oc;simp (disch:=omega)only[go_sem, *]
 have hL:=rp.head.len
 have hwl:=Eh hf.1
 have hs4:=hf.2
 refine Ah (fun n e h=>∃ (i:Nat) (o:V) (A:List Int),n=L.length - i∧h.lim=0∧e 7=.fl 2 (L.map AK.enc)∧e 8=.i .i64 L.length∧e 9=.i .i64 i∧e 3=o∧i≤L.length∧Sl 0 h 1 o (A.map Ek)∧A++BD (L.drop i)=BD L) ?_ _ _ _ ⟨0,.ns,[],rfl, ?_⟩
 ·rintro n e h ⟨i,o,A,rfl,hl,e7,e8,e9,e3,hi,so,hz⟩ ih
  rw [Am Um.eq_1]
  simp (disch:=omega)only[go_sem, *]
  refine Aa (fun hc=>?_) (fun hc=>?_)
  ·have hn:=hf.1.nth (i:=i) (by omega)
   rw [AI (by omega),BD] at hz
   have hzl:=congrArg List.length hz
   simp only [List.length_append,List.length_replicate] at hzl
   simp (disch:=omega)only[go_sem, *]
   have x1:∀ k,Aq h ((h.alloc ⟨2,[[.i .i64 0,.i .i64 0]]⟩).put h.next k):=fun k=>by (repeat (first | exact Aq.refl _ | refine Aq.alloc ?_ _ | (refine Aq.put ?_ _ _ ?_;rotate_left;(first | omega | (simp only [Af,Ai];omega)))))
   have bx:((h.alloc ⟨2,[[.i .i64 0,.i .i64 0]]⟩).put h.next ⟨2,[[.i .i64 (nth L i).part,.i .i64 (nth L i).n]]⟩).get h.next=some ⟨2,[[.i .i64 (nth L i).part,.i .i64 (nth L i).n]]⟩:=by simp (disch:=omega)only[go_sem, *]
   have so1:=so.ext (x1 ⟨2,[[.i .i64 (nth L i).part,.i .i64 (nth L i).n]]⟩)
   have hl1:((h.alloc ⟨2,[[.i .i64 0,.i .i64 0]]⟩).put h.next ⟨2,[[.i .i64 (nth L i).part,.i .i64 (nth L i).n]]⟩).lim=0:=by simp (disch:=omega)only[go_sem, *]
   have hid:AF o=true∨Ar o≠h.next:=(CW so).imp (fun x=>x) (fun x=>by omega)
   have hlt:h.next<((h.alloc ⟨2,[[.i .i64 0,.i .i64 0]]⟩).put h.next ⟨2,[[.i .i64 (nth L i).part,.i .i64 (nth L i).n]]⟩).next:=by simp (disch:=omega)only[go_sem, *];omega
   generalize ((h.alloc ⟨2,[[.i .i64 0,.i .i64 0]]⟩).put h.next ⟨2,[[.i .i64 (nth L i).part,.i .i64 (nth L i).n]]⟩)=hh at bx so1 hl1 hlt ⊢
   generalize h.next=b at bx hid hlt ⊢
   refine Ah (fun n e h=>∃ (j:Nat) (o:V) (B:List Int),n=(nth L i).n.toNat - j∧h.lim=0∧e 7=.fl 2 (L.map AK.enc)∧e 8=.i .i64 L.length∧e 9=.i .i64 i∧e 3=o∧e 5=.p b 0 0∧e 6=.i .i64 j∧h.get b=some ⟨2,[[.i .i64 (nth L i).part,.i .i64 (nth L i).n]]⟩∧(AF o=true∨Ar o≠b)∧b<h.next∧Sl 0 h 1 o (B.map Ek)∧j≤(nth L i).n.toNat∧A++List.replicate j (nth L i).part=B) ?_ _ _ _ ⟨0,o,A,rfl, ?_⟩
   ·rintro n e h ⟨j,o,B,rfl,hl,e7,e8,e9,e3,e5,e6,bx,hid,hlt,so,hj,hB⟩ ih2
    obtain ⟨olen,obig,olt,olo,oget,oat,orow,ocell,ocells⟩:=so.facts
    have hBl:=congrArg List.length hB
    simp only [List.length_append,List.length_replicate] at hBl
    rw [Am nN.eq_1]
    simp (disch:=omega)only[go_sem, *]
    refine Av (fun hc2=>?_) (fun hc2=>?_)
    ·have hB8:((B.length:Int)<8192):=by omega
     simp (disch:=omega)only[go_sem, *]
     refine AA (so.alloc _) (by simp only [go_sem, *]) (Nat.zero_le _) (by simp;omega) ?_
     intro w h4 s4 g4
     have g5:=Ly g4 ((Aq.refl _).alloc _) (Nat.zero_le _)
     have hl4:=g5.lim
     have hn4:=g5.next
     have hb4:=g5.get b hlt (hid.imp (fun x=>x) (fun x=>x.symm))
     have hid4:AF w=true∨Ar w≠b:=by
      rcases g5.own with h1 | ⟨h1,h2⟩ | h1
      ·exact .inl h1
      ·rcases hid with h3 | h3
       ·rw [h3] at h1;cases h1
       ·exact .inr (by omega)
      ·exact .inr (by omega)
     simp (disch:=omega)only[go_sem, *]
     refine ih2 _ _ _ ?_ ⟨j+1,w,B++[(nth L i).part],rfl, ?_⟩
     ·omega
     ·simp (disch:=omega)only[go_sem, *]
      ((repeat' refine And.intro ?_ ?_)<;>first | omega | assumption | (simpa [Ek] using s4) | ((rw [← hB,List.replicate_succ',List.append_assoc])))
    ·simp (disch:=omega)only[go_sem, *]
     have hj2:j=(nth L i).n.toNat:=by omega
     refine ih _ _ _ ?_ ⟨i+1,o,B,rfl, ?_⟩
     ·omega
     ·simp (disch:=omega)only[go_sem, *]
      ((repeat' refine And.intro ?_ ?_)<;>first | omega | assumption | ((rw [← hB,hj2,List.append_assoc];exact hz)))
   ·simp (disch:=omega)only[go_sem, *]
  ·rw [List.drop_eq_nil_of_le (by omega),BD,List.append_nil] at hz
   simp (disch:=omega)only[go_sem, *]
   subst hz
   exact so.froze (fun _=>rfl) trivial (by omega)
 ·simp (disch:=omega)only[go_sem, *]
  exact Sl.nil _ _ _
def MW (p:Int):List Int→Bool→Bool
 | [],b=>b
 | x::l,b=>MW p l (b||decide (x=p))
theorem Jn (p:Int):∀ (l:List Int) (b:Bool),MW p l b=(b||decide (p∈l))
 | [],b=>by simp [MW]
 | x::l,b=>by
  rw [MW,Jn p l]
  by_cases h:x=p
  ·subst h;simp
  ·have h2:¬ p=x:=fun q=>h q.symm
   simp [h,h2]
end Go.Ab.T
namespace Go.Ab.T
open Go Go.Ab
set_option maxHeartbeats 1000000
theorem Js {L:List AK} {f t:Int} (hf:Hb L):Pf tp Ws [.fl 2 (L.map AK.enc),.i .i64 f,.i .i64 t] (.i .i64 (C1 L f t)):=by
 refine AE aDm (by simp [NN]) fun rp=>?_;unfold NN;simp (disch:=omega)only[go_sem, *]
 have hL:=rp.head.len
 have hwl:=Eh hf.1
 have hs4:=hf.2
 have hs0:=BM hf.1
 refine Pf.go (ON hf) (by simp only [go_sem]) fun _=>?_;simp (disch:=omega)only[go_sem, *]
 have r0:(if f∈BD L then if t∈BD L then EZ (BD L) f (fun x=>Ib (AS t 0 L) x (Aw L) - x) (BD L) 0 0 else -1 else 0)=C1 L f t:=by
  unfold C1
  have m1:=Il (p:=f) (a:=0) hf.1
  have m2:=Il (p:=t) (a:=0) hf.1
  by_cases h1:AS f 0 L=[]
  ·rw [if_pos h1,if_neg (by rw [m1];exact fun h=>h h1)]
  ·rw [if_neg h1,if_pos (m1.2 h1)]
   by_cases h2:AS t 0 L=[]
   ·rw [if_pos h2,if_neg (by rw [m2];exact fun h=>h h2)]
   ·rw [if_neg h2,if_pos (m2.2 h2)]
    exact MH hf.1 h2 L 0 0 [] hf.1 rfl rfl
 rw [← r0]
 clear r0
 refine Ah (fun n e h=>∃ (i:Nat) (s:Bool) (y:Bool),n=(BD L).length - i∧h.lim=0∧e 18=.fl 1 ((BD L).map Ek)∧e 19=.i .i64 (BD L).length∧e 20=.i .i64 i∧e 1=.i .i64 f∧e 2=.i .i64 t∧e 7=.fl 1 ((BD L).map Ek)∧e 8=.i .i64 0∧e 9=.b s∧e 10=.b y∧i≤(BD L).length∧MW t ((BD L).drop i) s=decide (t∈BD L)∧MW f ((BD L).drop i) y=decide (f∈BD L)) ?_ _ _ _ ⟨0,false,false,rfl, ?_⟩
 ·rintro n e h ⟨i,s,y,rfl,hl,e18,e19,e20,e1,e2,e7,e8,e9,e10,hi,hs,hy⟩ ih
  rw [Am nK.eq_1]
  simp (disch:=omega)only[go_sem, *]
  refine Aa (fun hc=>?_) (fun hc=>?_)
  ·rw [AI (by omega),MW] at hs hy
   simp (disch:=omega)only[go_sem, *]
   cases s<;>cases y
   ·skip
    simp (disch:=omega)only[go_sem, *]
    refine ih _ _ _ ?_ ⟨i+1,(false||decide (nth (BD L) i=t)),(false||decide (nth (BD L) i=f)),rfl, ?_⟩
    ·omega
    ·simp only [Bool.false_or,Bool.true_or] at hs hy ⊢
     simp (disch:=omega)only[go_sem, *]
     omega
   ·skip
    simp (disch:=omega)only[go_sem, *]
    refine ih _ _ _ ?_ ⟨i+1,(false||decide (nth (BD L) i=t)),(true||decide (nth (BD L) i=f)),rfl, ?_⟩
    ·omega
    ·simp only [Bool.false_or,Bool.true_or] at hs hy ⊢
     simp (disch:=omega)only[go_sem, *]
     omega
   ·skip
    simp (disch:=omega)only[go_sem, *]
    refine ih _ _ _ ?_ ⟨i+1,(true||decide (nth (BD L) i=t)),(false||decide (nth (BD L) i=f)),rfl, ?_⟩
    ·omega
    ·simp only [Bool.false_or,Bool.true_or] at hs hy ⊢
     simp (disch:=omega)only[go_sem, *]
     omega
   ·skip
    simp (disch:=omega)only[go_sem, *]
    refine ih _ _ _ ?_ ⟨i+1,(true||decide (nth (BD L) i=t)),(true||decide (nth (BD L) i=f)),rfl, ?_⟩
    ·omega
    ·simp only [Bool.false_or,Bool.true_or] at hs hy ⊢
     simp (disch:=omega)only[go_sem, *]
     omega
  ·rw [List.drop_eq_nil_of_le (by omega),MW] at hs hy
   subst hs hy
   simp (disch:=omega)only[go_sem, *]
   refine Aa (fun hm=>?_) (fun hm=>?_)
   ·simp (disch:=omega)only[go_sem, *]
   have hm:f∈BD L:=by simpa using hm
   simp (disch:=omega)only[go_sem, *]
   refine Aa (fun hn=>?_) (fun hn=>?_)
   ·simp (disch:=omega)only[go_sem, *]
   have hn:t∈BD L:=by simpa using hn
   have hne:=(Il (p:=t) (a:=0) hf.1).1 hn
   simp (disch:=omega)only[go_sem, *]
   refine Ah (fun n e h=>∃ (i:Nat) (w:Int),n=(BD L).length - i∧h.lim=0∧e 41=.fl 1 ((BD L).map Ek)∧e 42=.i .i64 (BD L).length∧e 43=.i .i64 i∧e 1=.i .i64 f∧e 2=.i .i64 t∧e 7=.fl 1 ((BD L).map Ek)∧e 8=.i .i64 w∧i≤(BD L).length∧EZ (BD L) f (fun x=>Ib (AS t 0 L) x (Aw L) - x) ((BD L).drop i) i w=EZ (BD L) f (fun x=>Ib (AS t 0 L) x (Aw L) - x) (BD L) 0 0) ?_ _ _ _ ⟨0,0,rfl, ?_⟩
   ·rintro n e h ⟨i,w,rfl,hl,e41,e42,e43,e1,e2,e7,e8,hi,hz⟩ ih
    rw [Am Uf.eq_1]
    simp (disch:=omega)only[go_sem, *]
    refine Aa (fun hc=>?_) (fun hc=>?_)
    ·have hd:=Im hf.1 (t:=(i:Int)) (p:=t) (by omega) (by omega) hne
     have hb:=Qd (t:=(i:Int)) (by have:=Bu (p:=t) (a:=0) hf.1;rwa [Int.zero_add] at this) (by omega) hne
     rw [AI (by omega),EZ] at hz
     simp (disch:=omega)only[go_sem, *]
     refine Aa (fun hc2=>?_) (fun hc2=>?_)
     ·rw [if_neg hc2] at hz
      simp (disch:=omega)only[go_sem, *]
      refine ih _ _ _ ?_ ⟨i+1,w,rfl, ?_⟩
      ·omega
      ·simp (disch:=omega)only[go_sem, *]
       ((repeat' refine And.intro ?_ ?_)<;>first | omega | assumption)
     ·have hc3:nth (BD L) i=f:=by simpa using hc2
      rw [if_pos hc3] at hz
      have hwn:0<Aw L:=by omega
      generalize hD:Ib (AS t 0 L) i (Aw L) - i=D at hz hd
      have hD4:D≤8192:=by omega
      clear hc2
      simp (disch:=omega)only[go_sem, *]
      refine Ah (fun n e h=>∃ (d:Nat),n=D.toNat - d∧h.lim=0∧e 41=.fl 1 ((BD L).map Ek)∧e 42=.i .i64 (Aw L)∧e 43=.i .i64 i∧e 1=.i .i64 f∧e 2=.i .i64 t∧e 7=.fl 1 ((BD L).map Ek)∧e 8=.i .i64 w∧e 13=.i .i64 i∧e 15=.i .i64 d∧1≤d∧(d:Int)≤D) ?_ _ _ _ ⟨1,rfl, ?_⟩
      ·rintro n e h ⟨d,rfl,hl,e41,e42,e43,e1,e2,e7,e8,e13,e15,h1d,hdD⟩ ih2
       have hmod:(((i:Int)+d).tmod (Aw L))=((i:Int)+d) % Aw L:=Int.tmod_eq_emod_of_nonneg (by omega)
       have hm0:0≤((i:Int)+d) % Aw L:=Int.emod_nonneg _ (by omega)
       have hm1:((i:Int)+d) % Aw L<Aw L:=Int.emod_lt_of_pos _ hwn
       have hfar:(d:Int)<D→Id (BD L) (((i:Int)+d) % Aw L)≠t:=fun h=>by rw [← hwl];exact hd.2.2 d (by omega) h
       have hnear:(d:Int)=D→Id (BD L) (((i:Int)+d) % Aw L)=t:=fun h=>by rw [h,←hwl];exact hd.2.1
       unfold Id at hfar hnear
       generalize ((i:Int)+d) % Aw L=m at hmod hm0 hm1 hfar hnear
       rw [Am Ue.eq_1]
       simp (disch:=omega)only[go_sem, *]
       refine Aa (fun hc4=>?_) (fun hc4=>?_)
       ·have:(d:Int)≠D:=fun h=>hc4 (hnear h)
        simp (disch:=omega)only[go_sem, *]
        refine ih2 _ _ _ ?_ ⟨d+1,rfl, ?_⟩
        ·omega
        ·simp (disch:=omega)only[go_sem, *]
         omega
       ·have hdd:(d:Int)=D:=by
         rcases Int.lt_or_eq_of_le hdD with h | h
         ·exact absurd (by simpa using hc4) (hfar h)
         ·exact h
        simp (disch:=omega)only[go_sem, *]
        refine ih _ _ _ ?_ ⟨i+1,max w D,rfl, ?_⟩
        ·omega
        ·simp (disch:=omega)only[go_sem, *]
         ((repeat' refine And.intro ?_ ?_)<;>first | omega | assumption | ((rw [hD];assumption)))
      ·simp (disch:=omega)only[go_sem, *]
       have:=hd.1
       ((repeat' refine And.intro ?_ ?_)<;>first | omega | assumption)
    ·rw [List.drop_eq_nil_of_le (by omega),EZ] at hz
     simp (disch:=omega)only[go_sem, *]
   ·simp (disch:=omega)only[go_sem, *]
 ·simp (disch:=omega)only[go_sem, *]
  exact ⟨by rw [Jn];rfl,by rw [Jn];rfl⟩
end Go.Ab.T
namespace Go.Ab.T
open Go Go.Ab
set_option maxHeartbeats 1000000
theorem FB {L:List AK} {p P:Int} (h:P<1∨Aw L=0∨Aw L % P≠0):Gy L p P = -1:=if_pos h
theorem Vd {L:List AK} {p P:Int} (h1:¬ P<1) (h2:¬ Aw L=0) (h3:¬ Aw L % P≠0):Gy L p P=Hw (fun t=>Gd t (t+P) (AS p 0 L) 0) P (Aw L / P).toNat 0 P:=if_neg (by simp only [not_or];exact ⟨h1,h2,h3⟩)
theorem Se {L:List AK} {p P:Int} (hf:Hb L):Pf tp PB [.fl 2 (L.map AK.enc),.i .i64 p,.i .i64 P] (.i .i64 (Gy L p P)):=by
 refine AE eG (by simp [JE]) fun rp=>?_;unfold JE;simp (disch:=omega)only[go_sem, *]
 have hL:=rp.head.len
 have hss:=Bu (p:=p) (a:=0) hf.1
 rw [Int.zero_add] at hss
 have hlen:=hf.length
 have hs0:=BM hf.1
 have hs4:=hf.2
 refine Pf.go (KL hf.ok) (by simp only [go_sem]) fun _=>?_;simp (disch:=omega)only[go_sem, *]
 refine Av (fun h1=>?_) (fun h1=>?_)
 ·have e:=FB (L:=L) (p:=p) (P:=P) (.inl h1)
  simp (disch:=omega)only[go_sem, *]
 simp (disch:=omega)only[go_sem, *]
 refine Av (fun h2=>?_) (fun h2=>?_)
 ·have e:=FB (L:=L) (p:=p) (P:=P) (.inr (.inl h2))
  simp (disch:=omega)only[go_sem, *]
 have hmod:(Aw L).tmod P=Aw L % P:=Int.tmod_eq_emod_of_nonneg hs0
 have hP0:¬ P=0:=by omega
 simp (disch:=omega)only[go_sem, *]
 refine Aa (fun h3=>?_) (fun h3=>?_)
 ·have e:=FB (L:=L) (p:=p) (P:=P) (.inr (.inr h3))
  simp (disch:=omega)only[go_sem, *]
 have e0:=Vd (p:=p) h1 h2 h3
 have hdiv:((Aw L / P).toNat:Int)*P=Aw L:=by
  rw [Int.toNat_of_nonneg (Int.ediv_nonneg hs0 (by omega))]
  have:=Int.emod_add_mul_ediv (Aw L) P
  have h4:Aw L % P=0:=by omega
  rw [Int.mul_comm];omega
 have h3':Aw L % P=0:=by omega
 have hP:P≤4096:=by
  by_cases hlt:Aw L<P
  ·rw [Int.emod_eq_of_lt hs0 hlt] at h3';omega
  ·omega
 clear h3
 simp (disch:=omega)only[go_sem, *]
 refine Pf.go (JA (p:=p) hf) (by simp only [go_sem]) fun q1=>?_
 have hq1:=q1.len
 simp (disch:=omega)only[go_sem, *]
 generalize hm:(Aw L / P).toNat=m at hdiv e0
 clear hmod h3' hm
 refine Ah (fun n e h=>∃ (k:Nat) (t:Int) (w:Int),n=2*k∧h.lim=0∧e 1=.i .i64 p∧e 2=.i .i64 P∧e 7=.i .i64 (Aw L)∧e 8=.fl 2 ((AS p 0 L).map BZ.enc)∧e 9=.i .i64 w∧e 10=.i .i64 t∧0≤t∧t+(k:Int)*P=Aw L∧Hw (fun t=>Gd t (t+P) (AS p 0 L) 0) P k t w=Gy L p P) ?_ _ _ _ ⟨m,0,P,rfl, ?_⟩
 ·rintro n e h ⟨k,t,w,rfl,hl,e1,e2,e7,e8,e9,e10,ht,hk,hz⟩ ih
  rw [Am QM.eq_1]
  simp (disch:=omega)only[go_sem, *]
  refine Aa (fun hc=>?_) (fun hc=>?_)
  ·obtain ⟨j,rfl⟩:∃ j,k=j+1:=by
    cases k with
    | zero=>simp at hk;omega
    | succ j=>exact ⟨j,rfl⟩
   have hj0:0≤(j:Int)*P:=Int.mul_nonneg (by omega) (by omega)
   rw [Int.natCast_add,Int.natCast_one,Int.add_mul,Int.one_mul] at hk
   rw [Hw] at hz
   generalize hjP:(j:Int)*P=jP at hk hj0
   clear e0
   simp (disch:=omega)only[go_sem, *]
   have ih0:=ih
   clear ih
   refine Ah (fun n e h=>∃ (i:Nat) (c:Int),n=(AS p 0 L).length - i∧h.lim=0∧e 38=.fl 2 ((AS p 0 L).map BZ.enc)∧e 39=.i .i64 (AS p 0 L).length∧e 40=.i .i64 i∧e 1=.i .i64 p∧e 2=.i .i64 P∧e 7=.i .i64 (Aw L)∧e 8=.fl 2 ((AS p 0 L).map BZ.enc)∧e 9=.i .i64 w∧e 10=.i .i64 t∧e 11=.i .i64 c∧i≤(AS p 0 L).length∧0≤c∧c≤4096*i∧Gd t (t+P) ((AS p 0 L).drop i) c=Gd t (t+P) (AS p 0 L) 0) ?_ _ _ _ ⟨0,0,rfl, ?_⟩
   ·rintro n e h ⟨i,c,rfl,hl,e38,e39,e40,e1,e2,e7,e8,e9,e10,e11,hi,hc0,hc1,hw⟩ ih
    rw [Am QL.eq_1]
    simp (disch:=omega)only[go_sem, *]
    refine Aa (fun hc=>?_) (fun hc=>?_)
    ·have hm:=hss.mem (AP (L:=AS p 0 L) (j:=i) (by omega))
     rw [AI (by omega),Gd] at hw
     simp (disch:=omega)only[go_sem, *]
     refine ih _ _ _ ?_ ⟨i+1,c+max 0 (min (nth (AS p 0 L) i).e (t+P) - max (nth (AS p 0 L) i).s t),rfl, ?_⟩
     ·omega
     ·simp (disch:=omega)only[go_sem, *]
      ((repeat' refine And.intro ?_ ?_)<;>first | omega | assumption)
    ·rw [List.drop_eq_nil_of_le (by omega),Gd] at hw
     simp (disch:=omega)only[go_sem, *]
     refine ih0 _ _ _ ?_ ⟨j,t+P,min w c,rfl, ?_⟩
     ·omega
     ·simp (disch:=omega)only[go_sem, *]
      exact ⟨by omega,by omega⟩
   ·simp (disch:=omega)only[go_sem, *]
    simp
  ·have hk0:k=0:=by
    cases k with
    | zero=>rfl
    | succ j=>
     have hj0:0≤(j:Int)*P:=Int.mul_nonneg (by omega) (by omega)
     rw [Int.natCast_add,Int.natCast_one,Int.add_mul,Int.one_mul] at hk
     omega
   subst hk0
   rw [Hw] at hz
   clear e0
   simp (disch:=omega)only[go_sem, *]
 ·simp (disch:=omega)only[go_sem, *]
  omega
theorem GS {L:List AK} {p P:Int} (hf:Hb L):Pf tp Wt [.fl 2 (L.map AK.enc),.i .i64 p,.i .i64 P] (.i .i64 (Gy L p P)):=by
 refine AE aDn (by simp [NO]) fun rp=>?_;unfold NO;simp (disch:=omega)only[go_sem, *]
 have hL:=rp.head.len
 have hwl:=Eh hf.1
 have hs0:=BM hf.1
 have hs4:=hf.2
 refine Pf.go (ON hf) (by simp only [go_sem]) fun _=>?_;simp (disch:=omega)only[go_sem, *]
 refine Av (fun h1=>?_) (fun h1=>?_)
 ·have e:=FB (L:=L) (p:=p) (P:=P) (.inl h1)
  simp (disch:=omega)only[go_sem, *]
 simp (disch:=omega)only[go_sem, *]
 refine Av (fun h2=>?_) (fun h2=>?_)
 ·have e:=FB (L:=L) (p:=p) (P:=P) (.inr (.inl h2))
  simp (disch:=omega)only[go_sem, *]
 have hmod:(Aw L).tmod P=Aw L % P:=Int.tmod_eq_emod_of_nonneg hs0
 have hP0:¬ P=0:=by omega
 simp (disch:=omega)only[go_sem, *]
 refine Aa (fun h3=>?_) (fun h3=>?_)
 ·have e:=FB (L:=L) (p:=p) (P:=P) (.inr (.inr h3))
  simp (disch:=omega)only[go_sem, *]
 have e0:=Vd (p:=p) h1 h2 h3
 have hdiv:((Aw L / P).toNat:Int)*P=Aw L:=by
  rw [Int.toNat_of_nonneg (Int.ediv_nonneg hs0 (by omega))]
  have:=Int.emod_add_mul_ediv (Aw L) P
  have h4:Aw L % P=0:=by omega
  rw [Int.mul_comm];omega
 have h3':Aw L % P=0:=by omega
 have hP:P≤4096:=by
  by_cases hlt:Aw L<P
  ·rw [Int.emod_eq_of_lt hs0 hlt] at h3';omega
  ·omega
 clear h3
 simp (disch:=omega)only[go_sem, *]
 generalize hm:(Aw L / P).toNat=m at hdiv e0
 clear hmod h3' hm
 have hF:∀ i:Nat,i<m→Gd ((0:Int)+i*P) ((0:Int)+i*P+P) (AS p 0 L) 0≤P:=by
  intro i hi
  have h0:0≤(i:Int)*P:=Int.mul_nonneg (by omega) (by omega)
  have h1':((i:Int)+1)*P≤(m:Int)*P:=Int.mul_le_mul_of_nonneg_right (by omega) (by omega)
  rw [Int.add_mul,Int.one_mul] at h1'
  rw [KB hf.1 (by omega) (by omega) (by omega)]
  have:=Mm p (((BD L).drop ((0:Int)+i*P).toNat).take P.toNat) 0
  simp only [List.length_take] at this
  omega
 have hm1:1≤m:=by
  cases m with
  | zero=>simp at hdiv;omega
  | succ m=>omega
 rw [← gL (F:=fun t=>Gd t (t+P) (AS p 0 L) 0) m 0 (P+1) P hF (by omega) hm1] at e0
 clear hF hm1
 refine Ah (fun n e h=>∃ (k:Nat) (t:Int) (w:Int),n=2*k∧h.lim=0∧e 1=.i .i64 p∧e 2=.i .i64 P∧e 7=.fl 1 ((BD L).map Ek)∧e 8=.i .i64 w∧e 9=.i .i64 t∧0≤t∧t+(k:Int)*P=Aw L∧Hw (fun t=>Gd t (t+P) (AS p 0 L) 0) P k t w=Gy L p P) ?_ _ _ _ ⟨m,0,P+1,rfl, ?_⟩
 ·rintro n e h ⟨k,t,w,rfl,hl,e1,e2,e7,e8,e9,ht,hk,hz⟩ ih
  rw [Am Uh.eq_1]
  simp (disch:=omega)only[go_sem, *]
  refine Aa (fun hc=>?_) (fun hc=>?_)
  ·obtain ⟨j,rfl⟩:∃ j,k=j+1:=by
    cases k with
    | zero=>simp at hk;omega
    | succ j=>exact ⟨j,rfl⟩
   have hj0:0≤(j:Int)*P:=Int.mul_nonneg (by omega) (by omega)
   rw [Int.natCast_add,Int.natCast_one,Int.add_mul,Int.one_mul] at hk
   rw [Hw] at hz
   generalize hjP:(j:Int)*P=jP at hk hj0
   clear e0
   have hbc:=KB (p:=p) (t:=t) (P:=P) hf.1 (by omega) (by omega) (by omega)
   have eX:(List.take ((t+P).toNat - t.toNat) (List.drop t.toNat ((BD L).map Ek)))=(((BD L).drop t.toNat).take P.toNat).map Ek:=by rw [← List.map_drop,←List.map_take];congr 2;omega
   have hXl:(((BD L).drop t.toNat).take P.toNat).length≤4096:=by simp only [List.length_take,List.length_drop];omega
   simp (disch:=omega)only[go_sem, *]
   clear eX
   generalize ((BD L).drop t.toNat).take P.toNat=X at hbc hXl ⊢
   have ih0:=ih
   clear ih
   refine Ah (fun n e h=>∃ (i:Nat) (c:Int),n=X.length - i∧h.lim=0∧e 43=.fl 1 (X.map Ek)∧e 44=.i .i64 X.length∧e 45=.i .i64 i∧e 1=.i .i64 p∧e 2=.i .i64 P∧e 7=.fl 1 ((BD L).map Ek)∧e 8=.i .i64 w∧e 9=.i .i64 t∧e 10=.i .i64 c∧i≤X.length∧0≤c∧c≤i∧DG p (X.drop i) c=DG p X 0) ?_ _ _ _ ⟨0,0,rfl, ?_⟩
   ·rintro n e h ⟨i,c,rfl,hl,e43,e44,e45,e1,e2,e7,e8,e9,e10,hi,hc0,hc1,hw⟩ ih
    rw [Am Ug.eq_1]
    simp (disch:=omega)only[go_sem, *]
    refine Aa (fun hc=>?_) (fun hc=>?_)
    ·rw [AI (by omega),DG] at hw
     simp (disch:=omega)only[go_sem, *]
     refine Aa (fun hc2=>?_) (fun hc2=>?_)
     ·rw [if_pos hc2] at hw
      simp (disch:=omega)only[go_sem, *]
      refine ih _ _ _ ?_ ⟨i+1,c+1,rfl, ?_⟩
      ·omega
      ·simp (disch:=omega)only[go_sem, *]
       ((repeat' refine And.intro ?_ ?_)<;>first | omega | assumption)
     ·rw [if_neg hc2] at hw
      simp (disch:=omega)only[go_sem, *]
      refine ih _ _ _ ?_ ⟨i+1,c,rfl, ?_⟩
      ·omega
      ·simp (disch:=omega)only[go_sem, *]
       ((repeat' refine And.intro ?_ ?_)<;>first | omega | assumption)
    ·rw [List.drop_eq_nil_of_le (by omega),DG] at hw
     rw [hbc] at hz
     simp (disch:=omega)only[go_sem, *]
     refine ih0 _ _ _ ?_ ⟨j,t+P,min w c,rfl, ?_⟩
     ·omega
     ·simp (disch:=omega)only[go_sem, *]
      ((repeat' refine And.intro ?_ ?_)<;>first | omega | assumption)
   ·simp (disch:=omega)only[go_sem, *]
  ·have hk0:k=0:=by
    cases k with
    | zero=>rfl
    | succ j=>
     have hj0:0≤(j:Int)*P:=Int.mul_nonneg (by omega) (by omega)
     rw [Int.natCast_add,Int.natCast_one,Int.add_mul,Int.one_mul] at hk
     omega
   subst hk0
   rw [Hw] at hz
   clear e0
   simp (disch:=omega)only[go_sem, *]
 ·simp (disch:=omega)only[go_sem, *]
  omega
end Go.Ab.T
namespace Go.Ab.T
open Go Go.Ab
set_option maxHeartbeats 1000000
theorem GJ {tt:List BZ} {n:Int}:∀ (l:List BZ) (w:Int),0≤w→0≤Fa tt n l w
 | [],w,h=>h
 | s::l,w,h=>by rw [Fa];exact GJ l _ (by omega)
theorem Fj (L:List AK) (f t:Int):C1 L f t = -1∨0≤C1 L f t:=by
 unfold C1
 split
 ·simp
 ·split
  ·exact .inl rfl
  ·exact .inr (GJ _ _ (by omega))
@[irreducible] def BV (L:List AK) (x:A1):Bool:=decide (0<x.late∧(x.late<C1 L x.src x.dst∨C1 L x.src x.dst = -1))
def BP (L:List AK):Nat→List Part→Bool
 | _,[]=>false
 | i,p::l=>decide (0<p.budget∧Gy L i p.period<p.budget)||BP L (i+1) l
def CN (C:An) (L:List AK):Int:=if C.chans.any (BV L)=true then 19 else if BP L 0 C.parts=true then 20 else 0
theorem Lf {α:Type} [Inhabited α] {L:List α} {P:α→Bool} {i:Nat} (hi:i<L.length) (h:P (nth L i)=true):L.any P=true:=List.any_eq_true.2 ⟨_,AP hi,h⟩
theorem IC {α:Type} [Inhabited α] {L:List α} {P:α→Bool} {i:Nat} (hi:i<L.length) (h:P (nth L i)=false):(L.drop i).any P=(L.drop (i+1)).any P:=by
 rw [AI hi,List.any_cons,h,Bool.false_or]
theorem V5 {C:An} {L:List AK} (hf:Hb L):Pf tp Xa [.agg C.enc,.fl 2 (L.map AK.enc)] (.i .i64 (CN C L)):=by
 refine AE aD2 (by simp [OD]) fun rp=>?_;unfold OD;simp (disch:=omega)only[go_sem, *]
 have hcl:=FZ.len (rp.head.agg (.fl 6 (C.chans.map A1.enc)) (by simp [An.enc]))
 have hpl:=FZ.len (rp.head.agg (.fl 11 (C.parts.map Part.enc)) (by simp [An.enc]))
 refine Ah (fun n e h=>∃ (i:Nat),n=C.chans.length - i∧h.lim=0∧e 11=.fl 6 (C.chans.map A1.enc)∧e 12=.i .i64 C.chans.length∧e 13=.i .i64 i∧e 1=.fl 2 (L.map AK.enc)∧e 2=.p 0 0 0∧i≤C.chans.length∧h.get 0=some ⟨3,[C.enc]⟩∧1≤h.next∧C.chans.any (BV L)=(C.chans.drop i).any (BV L)) ?_ _ _ _ ⟨0,rfl, ?_⟩
 ·rintro n e h ⟨i,rfl,hl,e11,e12,e13,e1,e2,hi,hg,hn,hz⟩ ih
  rw [Am nW.eq_1]
  simp (disch:=omega)only[go_sem, *]
  refine Aa (fun hc=>?_) (fun hc=>?_)
  ·have hlc:=Fj L (nth C.chans i).src (nth C.chans i).dst
   simp (disch:=omega)only[go_sem, *]
   refine Pf.go (gB hf) (by simp only [go_sem]) fun _=>?_;simp (disch:=omega)only[go_sem, *]
   repeat' (first | (refine Av (fun hc=>?_) (fun hc=>?_)<;>simp (disch:=omega)only[go_sem, *]) | (refine Aa (fun hc=>?_) (fun hc=>?_)<;>simp (disch:=omega)only[go_sem, *]) | (refine Cw (fun hc=>?_) (fun hc=>?_)<;>simp (disch:=omega)only[go_sem, *]) | (refine Bh (fun hc=>?_) (fun hc=>?_)<;>simp (disch:=omega)only[go_sem, *]))
   all_goals
    try
     have hn:BV L (nth C.chans i)=true:=by (unfold BV;grind)
     have:=Lf (by omega) hn
     have e:CN C L=19:=if_pos this
     exact e.symm
   all_goals
    have hp:BV L (nth C.chans i)=false:=by (unfold BV;grind)
    refine ih _ _ _ ?_ ⟨i+1,rfl, ?_⟩
    ·omega
    ·simp (disch:=omega)only[go_sem, *]
     ((repeat' refine And.intro ?_ ?_)<;>first | omega | assumption | (exact IC (by omega) hp))
  ·rw [List.drop_eq_nil_of_le (by omega),List.any_nil] at hz
   have e:CN C L=if BP L 0 C.parts=true then 20 else 0:=by unfold CN;rw [hz];rfl
   rw [e]
   clear e hz
   simp only [An.enc] at hg
   simp (disch:=omega)only[go_sem, *]
   refine Ah (fun n e h=>∃ (i:Nat),n=C.parts.length - i∧h.lim=0∧e 38=.fl 11 (C.parts.map Part.enc)∧e 39=.i .i64 C.parts.length∧e 40=.i .i64 i∧e 1=.fl 2 (L.map AK.enc)∧i≤C.parts.length∧BP L 0 C.parts=BP L i (C.parts.drop i)) ?_ _ _ _ ⟨0,rfl, ?_⟩
   ·rintro n e h ⟨i,rfl,hl,e38,e39,e40,e1,hi,hz⟩ ih
    rw [Am Uw.eq_1]
    simp (disch:=omega)only[go_sem, *]
    refine Aa (fun hc=>?_) (fun hc=>?_)
    ·rw [AI (by omega),BP] at hz
     simp (disch:=omega)only[go_sem, *]
     refine Av (fun hc2=>?_) (fun hc2=>?_)
     ·simp (disch:=omega)only[go_sem, *]
      refine Pf.go (Se hf) (by simp only [go_sem]) fun _=>?_;simp (disch:=omega)only[go_sem, *]
      refine Aa (fun hc3=>?_) (fun hc3=>?_)
      ·simp (disch:=omega)only[go_sem, *]
       have hd:decide (0<(nth C.parts i).budget∧Gy L i (nth C.parts i).period<(nth C.parts i).budget)=true:=by grind
       rw [hd] at hz
       simp [hz]
      ·simp (disch:=omega)only[go_sem, *]
       have hd:decide (0<(nth C.parts i).budget∧Gy L i (nth C.parts i).period<(nth C.parts i).budget)=false:=by grind
       rw [hd,Bool.false_or] at hz
       refine ih _ _ _ ?_ ⟨i+1,rfl, ?_⟩
       ·omega
       ·simp (disch:=omega)only[go_sem, *]
        ((repeat' refine And.intro ?_ ?_)<;>first | omega | assumption)
     ·simp (disch:=omega)only[go_sem, *]
      have hd:decide (0<(nth C.parts i).budget∧Gy L i (nth C.parts i).period<(nth C.parts i).budget)=false:=by grind
      rw [hd,Bool.false_or] at hz
      refine ih _ _ _ ?_ ⟨i+1,rfl, ?_⟩
      ·omega
      ·simp (disch:=omega)only[go_sem, *]
       ((repeat' refine And.intro ?_ ?_)<;>first | omega | assumption)
    ·rw [List.drop_eq_nil_of_le (by omega),BP] at hz
     simp (disch:=omega)only[go_sem, *]
     try simp [hz]
   ·simp (disch:=omega)only[go_sem, *]
 ·simp (disch:=omega)only[go_sem, *]
theorem M7 {C:An} {L:List AK} (hf:Hb L):Pf tp W4 [.agg C.enc,.fl 2 (L.map AK.enc)] (.i .i64 (CN C L)):=by
 refine AE aDV (by simp [Ow]) fun rp=>?_;unfold Ow;simp (disch:=omega)only[go_sem, *]
 have hcl:=FZ.len (rp.head.agg (.fl 6 (C.chans.map A1.enc)) (by simp [An.enc]))
 have hpl:=FZ.len (rp.head.agg (.fl 11 (C.parts.map Part.enc)) (by simp [An.enc]))
 refine Ah (fun n e h=>∃ (i:Nat),n=C.chans.length - i∧h.lim=0∧e 11=.fl 6 (C.chans.map A1.enc)∧e 12=.i .i64 C.chans.length∧e 13=.i .i64 i∧e 1=.fl 2 (L.map AK.enc)∧e 2=.p 0 0 0∧i≤C.chans.length∧h.get 0=some ⟨3,[C.enc]⟩∧1≤h.next∧C.chans.any (BV L)=(C.chans.drop i).any (BV L)) ?_ _ _ _ ⟨0,rfl, ?_⟩
 ·rintro n e h ⟨i,rfl,hl,e11,e12,e13,e1,e2,hi,hg,hn,hz⟩ ih
  rw [Am nS.eq_1]
  simp (disch:=omega)only[go_sem, *]
  refine Aa (fun hc=>?_) (fun hc=>?_)
  ·have hlc:=Fj L (nth C.chans i).src (nth C.chans i).dst
   simp (disch:=omega)only[go_sem, *]
   refine Pf.go (Js hf) (by simp only [go_sem]) fun _=>?_;simp (disch:=omega)only[go_sem, *]
   repeat' (first | (refine Av (fun hc=>?_) (fun hc=>?_)<;>simp (disch:=omega)only[go_sem, *]) | (refine Aa (fun hc=>?_) (fun hc=>?_)<;>simp (disch:=omega)only[go_sem, *]) | (refine Cw (fun hc=>?_) (fun hc=>?_)<;>simp (disch:=omega)only[go_sem, *]) | (refine Bh (fun hc=>?_) (fun hc=>?_)<;>simp (disch:=omega)only[go_sem, *]))
   all_goals
    try
     have hn:BV L (nth C.chans i)=true:=by (unfold BV;grind)
     have:=Lf (by omega) hn
     have e:CN C L=19:=if_pos this
     exact e.symm
   all_goals
    have hp:BV L (nth C.chans i)=false:=by (unfold BV;grind)
    refine ih _ _ _ ?_ ⟨i+1,rfl, ?_⟩
    ·omega
    ·simp (disch:=omega)only[go_sem, *]
     ((repeat' refine And.intro ?_ ?_)<;>first | omega | assumption | (exact IC (by omega) hp))
  ·rw [List.drop_eq_nil_of_le (by omega),List.any_nil] at hz
   have e:CN C L=if BP L 0 C.parts=true then 20 else 0:=by unfold CN;rw [hz];rfl
   rw [e]
   clear e hz
   simp only [An.enc] at hg
   simp (disch:=omega)only[go_sem, *]
   refine Ah (fun n e h=>∃ (i:Nat),n=C.parts.length - i∧h.lim=0∧e 38=.fl 11 (C.parts.map Part.enc)∧e 39=.i .i64 C.parts.length∧e 40=.i .i64 i∧e 1=.fl 2 (L.map AK.enc)∧i≤C.parts.length∧BP L 0 C.parts=BP L i (C.parts.drop i)) ?_ _ _ _ ⟨0,rfl, ?_⟩
   ·rintro n e h ⟨i,rfl,hl,e38,e39,e40,e1,hi,hz⟩ ih
    rw [Am Uv.eq_1]
    simp (disch:=omega)only[go_sem, *]
    refine Aa (fun hc=>?_) (fun hc=>?_)
    ·rw [AI (by omega),BP] at hz
     simp (disch:=omega)only[go_sem, *]
     refine Av (fun hc2=>?_) (fun hc2=>?_)
     ·simp (disch:=omega)only[go_sem, *]
      refine Pf.go (GS hf) (by simp only [go_sem]) fun _=>?_;simp (disch:=omega)only[go_sem, *]
      refine Aa (fun hc3=>?_) (fun hc3=>?_)
      ·simp (disch:=omega)only[go_sem, *]
       have hd:decide (0<(nth C.parts i).budget∧Gy L i (nth C.parts i).period<(nth C.parts i).budget)=true:=by grind
       rw [hd] at hz
       simp [hz]
      ·simp (disch:=omega)only[go_sem, *]
       have hd:decide (0<(nth C.parts i).budget∧Gy L i (nth C.parts i).period<(nth C.parts i).budget)=false:=by grind
       rw [hd,Bool.false_or] at hz
       refine ih _ _ _ ?_ ⟨i+1,rfl, ?_⟩
       ·omega
       ·simp (disch:=omega)only[go_sem, *]
        ((repeat' refine And.intro ?_ ?_)<;>first | omega | assumption)
     ·simp (disch:=omega)only[go_sem, *]
      have hd:decide (0<(nth C.parts i).budget∧Gy L i (nth C.parts i).period<(nth C.parts i).budget)=false:=by grind
      rw [hd,Bool.false_or] at hz
      refine ih _ _ _ ?_ ⟨i+1,rfl, ?_⟩
      ·omega
      ·simp (disch:=omega)only[go_sem, *]
       ((repeat' refine And.intro ?_ ?_)<;>first | omega | assumption)
    ·rw [List.drop_eq_nil_of_le (by omega),BP] at hz
     simp (disch:=omega)only[go_sem, *]
     try simp [hz]
   ·simp (disch:=omega)only[go_sem, *]
 ·simp (disch:=omega)only[go_sem, *]
end Go.Ab.T
namespace Go.Ab.T
open Go Go.Ab
set_option maxHeartbeats 1000000
theorem Ip {L:List Node}:Hb (Fd L).1:=by
 unfold Fd
 split
 ·exact Hb.nil
 ·rename_i h
  split
  ·exact Hb.nil
  ·obtain ⟨_,ho,hc1,hL,hd,hl⟩:=FE (L:=L) (by omega)
   have hap:=Fo.runs_allpos _ ho
   have hsum:=Fo.runs_sum _ ho
   have ht:=L3 hap (by omega)
   exact ⟨ht.pos,by unfold gU;rw [ht.sum];omega⟩
noncomputable def DC (C:An) (T:List Node):Int:=if (Fd T).2≠0 then (Fd T).2 else if (Fd T).1.any (fun r=>decide ((C.parts.length:Int)≤r.part))=true then 16 else CN C (Fd T).1
theorem jB {C:An} {x:AK} {h:AH} {id:Nat} {K:V→AH→Prop} (hg:h.get id=some ⟨3,[C.enc]⟩) (hid:id<h.next) (k:K (.b (decide ((C.parts.length:Int)≤x.part))) h):Cq tp W9 [.agg x.enc,.p id 0 0] h K:=by
 simp only [An.enc] at hg
 refine Ie aD1 (by simp [OC]) (k) fun hlm rp=>?_;unfold OC;simp (disch:=omega)only[go_sem, *]
 (repeat (first | exact Aq.refl _ | refine Aq.alloc ?_ _ | (refine Aq.put ?_ _ _ ?_;rotate_left;(first | omega | (simp only [Af,Ai];omega)))))
theorem aR {p x:Part} {h:AH} {id:Nat} {K:V→AH→Prop} (hg:h.get id=some ⟨11,[p.enc]⟩) (hid:id<h.next) (k:K (.b (decide (x.name=p.name))) h):Cq tp WO [.agg x.enc,.p id 0 0] h K:=by
 simp only [Part.enc] at hg
 refine Ie aDL (by simp [Oh]) (k) fun hlm rp=>?_;unfold Oh;simp (disch:=omega)only[go_sem, *]
 (repeat (first | exact Aq.refl _ | refine Aq.alloc ?_ _ | (refine Aq.put ?_ _ _ ?_;rotate_left;(first | omega | (simp only [Af,Ai];omega)))))
theorem YF {C:An} {T:List Node}:Pf tp WT [.agg C.enc,.fl 3 (T.map Node.enc)] (.i .i64 (DC C T)):=by
 have hf:=Ip (L:=T)
 refine AE aDO (by simp [Ol]) fun rp=>?_;unfold Ol;simp (disch:=omega)only[go_sem, *]
 refine Pf.go (aFp) (by simp only [go_sem]) fun _=>?_;simp (disch:=omega)only[go_sem, *]
 refine Aa (fun hc=>?_) (fun hc=>?_)
 ·have e:DC C T=(Fd T).2:=if_pos hc
  simp (disch:=omega)only[go_sem, *]
 have e:DC C T=if (Fd T).1.any (fun r=>decide ((C.parts.length:Int)≤r.part))=true then 16 else CN C (Fd T).1:=if_neg hc
 simp (disch:=omega)only[go_sem, *]
 refine aEb (P:=fun r=>decide ((C.parts.length:Int)≤r.part)) (fun x hx K k=>jB (by simp (disch:=omega)only[go_sem, *]) (by simp (disch:=omega)only[go_sem, *]) k) ?_
 simp (disch:=omega)only[go_sem, *]
 refine Bh (fun hc2=>?_) (fun hc2=>?_)
 ·rw [if_pos hc2] at e
  simp (disch:=omega)only[go_sem, *]
 ·rw [if_neg (by simp [hc2])] at e
  simp (disch:=omega)only[go_sem, *]
  refine Pf.go (V5 hf) (by simp only [go_sem]) fun _=>?_;simp (disch:=omega)only[go_sem, *]
noncomputable def Cd (C:An):Nat→List (List Node)→Int×Int
 | _,[]=>(0,-1)
 | i,t::l=>if DC C t≠0 then (DC C t,(i:Int)) else Cd C (i+1) l
noncomputable def Bv (C:An):Nat→List A1→Int×Int
 | _,[]=>Cd C 0 C.tables
 | i,x::l=>if CG C.parts.length x=false then (17,(i:Int)) else Bv C (i+1) l
noncomputable def Bl (C:An):Nat→List Part→Int×Int
 | _,[]=>Bv C 0 C.chans
 | i,p::l=>if D3 p.name=false∨(C.parts.take i).any (fun q=>decide (q.name=p.name))=true then (15,(i:Int)) else if Dt p=false then (16,(i:Int)) else Bl C (i+1) l
noncomputable def Bb (C:An):Int×Int:=if C.parts.length<1∨6<C.parts.length∨8<C.chans.length∨C.tables.length<1∨3<C.tables.length then (3,0) else Bl C 0 C.parts
def Hc (C:An):Prop:=∀ p∈C.parts,p.name.size<4000000000
theorem Zk {C:An} (hnm:Hc C):Pf tp Ww [.agg C.enc] (.tup [.i .i64 (Bb C).1,.i .i64 (Bb C).2]):=by
 refine AE aDp (by simp [NQ]) fun rp=>?_;unfold NQ;simp (disch:=omega)only[go_sem, *]
 have hcl:=FZ.len (rp.head.agg (.fl 6 (C.chans.map A1.enc)) (by simp [An.enc]))
 have hpl:=FZ.len (rp.head.agg (.fl 11 (C.parts.map Part.enc)) (by simp [An.enc]))
 have htl:=FZ.len (rp.head.agg (.fl 1 (C.tables.map Tab.enc)) (by simp [An.enc]))
 repeat' (first | (refine Av (fun hc=>?_) (fun hc=>?_)<;>simp (disch:=omega)only[go_sem, *]) | (refine Aa (fun hc=>?_) (fun hc=>?_)<;>simp (disch:=omega)only[go_sem, *]))
 all_goals try (have e:Bb C=(3,0):=if_pos (by omega);rw [e];exact ⟨rfl,rfl⟩)
 have e:Bb C=Bl C 0 C.parts:=if_neg (by omega)
 rw [e]
 clear e
 refine Ah (fun n e h=>∃ (i:Nat),n=C.parts.length - i∧h.lim=0∧e 40=.fl 11 (C.parts.map Part.enc)∧e 41=.i .i64 C.parts.length∧e 42=.i .i64 i∧e 1=.p 0 0 0∧i≤C.parts.length∧h.get 0=some ⟨3,[C.enc]⟩∧1≤h.next∧Bl C i (C.parts.drop i)=Bl C 0 C.parts) ?_ _ _ _ ⟨0,rfl, ?_⟩
 ·rintro n e h ⟨i,rfl,hl,e40,e41,e42,e1,hi,hg,hn,hz⟩ ih
  rw [Am Ui.eq_1]
  simp (disch:=omega)only[go_sem, *]
  have hg1:=hg
  simp only [An.enc] at hg1
  refine Aa (fun hc=>?_) (fun hc=>?_)
  ·rw [AI (by omega),Bl] at hz
   have hns:=hnm _ (AP (L:=C.parts) (j:=i) (by omega))
   have eX:List.take i (C.parts.map Part.enc)=(C.parts.take i).map Part.enc:=List.map_take.symm
   simp (disch:=omega)only[go_sem, *]
   refine Pf.go (Vp hns) (by simp only [go_sem]) fun _=>?_;simp (disch:=omega)only[go_sem, *]
   refine Cw (fun hc2=>?_) (fun hc2=>?_)
   ·rw [if_pos (.inl (by simpa using hc2))] at hz
    rw [← hz]
    simp (disch:=omega)only[go_sem, *]
   have hc2':D3 (nth C.parts i).name=true:=by simpa using hc2
   simp (disch:=omega)only[go_sem, *]
   refine fP (P:=fun q=>decide (q.name=(nth C.parts i).name)) (fun x hx K k=>aR (p:=nth C.parts i) (by simp (disch:=omega)only[go_sem, *]) (by simp (disch:=omega)only[go_sem, *];omega) k) ?_
   simp (disch:=omega)only[go_sem, *]
   refine Bh (fun hc3=>?_) (fun hc3=>?_)
   ·rw [if_pos (.inr hc3)] at hz
    rw [← hz]
    simp (disch:=omega)only[go_sem, *]
   ·rw [if_neg (by simp [hc2',hc3])] at hz
    simp (disch:=omega)only[go_sem, *]
    refine Pf.go (Vv) (by simp only [go_sem]) fun _=>?_;simp (disch:=omega)only[go_sem, *]
    refine Bh (fun hc4=>?_) (fun hc4=>?_)
    ·rw [if_pos (by simpa using hc4)] at hz
     rw [← hz]
     simp (disch:=omega)only[go_sem, *]
    ·rw [if_neg (by simpa using hc4)] at hz
     simp (disch:=omega)only[go_sem, *]
     refine ih _ _ _ ?_ ⟨i+1,rfl, ?_⟩
     ·omega
     ·simp (disch:=omega)only[go_sem, *]
      ((repeat' refine And.intro ?_ ?_)<;>first | omega | assumption)
  ·rw [List.drop_eq_nil_of_le (by omega),Bl] at hz
   rw [← hz]
   clear hz
   simp (disch:=omega)only[go_sem, *]
   refine Ah (fun n e h=>∃ (i:Nat),n=C.chans.length - i∧h.lim=0∧e 66=.fl 6 (C.chans.map A1.enc)∧e 67=.i .i64 C.chans.length∧e 68=.i .i64 i∧e 1=.p 0 0 0∧i≤C.chans.length∧h.get 0=some ⟨3,[C.enc]⟩∧1≤h.next∧Bv C i (C.chans.drop i)=Bv C 0 C.chans) ?_ _ _ _ ⟨0,rfl, ?_⟩
   ·rintro n e h ⟨i,rfl,hl,e66,e67,e68,e1,hi,hg,hn,hz⟩ ih
    rw [Am Uj.eq_1]
    simp (disch:=omega)only[go_sem, *]
    have hg1:=hg
    simp only [An.enc] at hg1
    refine Aa (fun hc=>?_) (fun hc=>?_)
    ·rw [AI (by omega),Bv] at hz
     simp (disch:=omega)only[go_sem, *]
     refine Pf.go (Vf (c:=C) (x:=nth C.chans i)) (by simp only [go_sem]) fun _=>?_;simp (disch:=omega)only[go_sem, *]
     refine Bh (fun hc4=>?_) (fun hc4=>?_)
     ·rw [if_pos (by simpa using hc4)] at hz
      rw [← hz]
      simp (disch:=omega)only[go_sem, *]
     ·rw [if_neg (by simpa using hc4)] at hz
      simp (disch:=omega)only[go_sem, *]
      refine ih _ _ _ ?_ ⟨i+1,rfl, ?_⟩
      ·omega
      ·simp (disch:=omega)only[go_sem, *]
       ((repeat' refine And.intro ?_ ?_)<;>first | omega | assumption)
    ·rw [List.drop_eq_nil_of_le (by omega),Bv] at hz
     rw [← hz]
     clear hz
     simp (disch:=omega)only[go_sem, *]
     refine Ah (fun n e h=>∃ (i:Nat),n=C.tables.length - i∧h.lim=0∧e 80=.fl 1 (C.tables.map Tab.enc)∧e 81=.i .i64 C.tables.length∧e 82=.i .i64 i∧e 1=.p 0 0 0∧i≤C.tables.length∧h.get 0=some ⟨3,[C.enc]⟩∧1≤h.next∧Cd C i (C.tables.drop i)=Cd C 0 C.tables) ?_ _ _ _ ⟨0,rfl, ?_⟩
     ·rintro n e h ⟨i,rfl,hl,e80,e81,e82,e1,hi,hg,hn,hz⟩ ih
      rw [Am Uk.eq_1]
      simp (disch:=omega)only[go_sem, *]
      have hg1:=hg
      simp only [An.enc] at hg1
      refine Aa (fun hc=>?_) (fun hc=>?_)
      ·rw [AI (by omega),Cd] at hz
       simp (disch:=omega)only[go_sem, *]
       refine Pf.go (YF (C:=C)) (by simp only [go_sem]) fun _=>?_;simp (disch:=omega)only[go_sem, *]
       refine Aa (fun hc4=>?_) (fun hc4=>?_)
       ·rw [if_pos hc4] at hz
        rw [← hz]
        simp (disch:=omega)only[go_sem, *]
       ·rw [if_neg hc4] at hz
        simp (disch:=omega)only[go_sem, *]
        refine ih _ _ _ ?_ ⟨i+1,rfl, ?_⟩
        ·omega
        ·simp (disch:=omega)only[go_sem, *]
         ((repeat' refine And.intro ?_ ?_)<;>first | omega | assumption)
      ·rw [List.drop_eq_nil_of_le (by omega),Cd] at hz
       rw [← hz]
       clear hz
       simp (disch:=omega)only[go_sem, *]
     ·simp (disch:=omega)only[go_sem, *]
   ·simp (disch:=omega)only[go_sem, *]
 ·simp (disch:=omega)only[go_sem, *]
end Go.Ab.T
namespace Go.Ab.T
open Go Go.Ab
set_option maxHeartbeats 2000000
theorem gT {L:List Node}:(Fd L).1.length≤96:=by
 unfold Fd
 split
 ·simp
 ·split
  ·simp
  ·simp only;omega
theorem HL {α:Type} [Inhabited α] {L:List α} {P:α→Bool} {i:Nat} (h:∀ j,j<i→P (nth L j)=false) (hi:i≤L.length):(L.take i).any P=false:=by
 rw [List.any_eq_false]
 intro x hx
 obtain ⟨j,hj,rfl⟩:=List.mem_iff_getElem.1 hx
 have hj2:j<i:=by simp at hj;omega
 have:=h j hj2
 rw [Bz (by omega)] at this
 simp [this]
theorem Le {α:Type} [Inhabited α] {L:List α} {P:α→Bool} {i j:Nat} (hj:j<i) (hi:i≤L.length) (h:P (nth L j)=true):(L.take i).any P=true:=by
 rw [List.any_eq_true]
 refine ⟨nth L j, ?_,h⟩
 rw [Bz (by omega)]
 exact List.mem_take_iff_getElem.2 ⟨j,by omega,rfl⟩
theorem M9 {C:An} (hnm:Hc C):Pf tp WL [.agg C.enc] (.tup [.i .i64 (Bb C).1,.i .i64 (Bb C).2]):=by
 refine AE aDI (by simp [Od]) fun rp=>?_;unfold Od;simp (disch:=omega)only[go_sem, *]
 have hcl:=FZ.len (rp.head.agg (.fl 6 (C.chans.map A1.enc)) (by simp [An.enc]))
 have hpl:=FZ.len (rp.head.agg (.fl 11 (C.parts.map Part.enc)) (by simp [An.enc]))
 have htl:=FZ.len (rp.head.agg (.fl 1 (C.tables.map Tab.enc)) (by simp [An.enc]))
 repeat' (first | (refine Av (fun hc=>?_) (fun hc=>?_)<;>simp (disch:=omega)only[go_sem, *]) | (refine Aa (fun hc=>?_) (fun hc=>?_)<;>simp (disch:=omega)only[go_sem, *]))
 all_goals try (have e:Bb C=(3,0):=if_pos (by omega);rw [e];exact ⟨rfl,rfl⟩)
 have e:Bb C=Bl C 0 C.parts:=if_neg (by omega)
 rw [e]
 clear e
 refine Ah (fun n e h=>∃ (i:Nat),n=C.parts.length - i∧h.lim=0∧e 45=.fl 11 (C.parts.map Part.enc)∧e 46=.i .i64 C.parts.length∧e 47=.i .i64 i∧e 1=.p 0 0 0∧i≤C.parts.length∧h.get 0=some ⟨3,[C.enc]⟩∧1≤h.next∧Bl C i (C.parts.drop i)=Bl C 0 C.parts) ?_ _ _ _ ⟨0,rfl, ?_⟩
 ·rintro n e h ⟨i,rfl,hl,e45,e46,e47,e1,hi,hg,hn,hz⟩ ih
  rw [Am Uo.eq_1]
  simp (disch:=omega)only[go_sem, *]
  have hg1:=hg
  simp only [An.enc] at hg1
  refine Aa (fun hc=>?_) (fun hc=>?_)
  ·rw [AI (by omega),Bl] at hz
   have hns:=hnm _ (AP (L:=C.parts) (j:=i) (by omega))
   simp (disch:=omega)only[go_sem, *]
   refine Pf.go (Ya hns) (by simp only [go_sem]) fun _=>?_;simp (disch:=omega)only[go_sem, *]
   refine Bh (fun hc2=>?_) (fun hc2=>?_)
   ·rw [if_pos (.inl (by simpa using hc2))] at hz
    rw [← hz]
    simp (disch:=omega)only[go_sem, *]
   have hc2':D3 (nth C.parts i).name=true:=by simpa using hc2
   simp (disch:=omega)only[go_sem, *]
   have ih0:=ih
   clear ih
   have hbx:((h.alloc ⟨11,[[.s ⟨#[]⟩,.i .i64 0,.i .i64 0,.b false,.b false,.ns,.i .i64 0,.i .i64 0,.i .i64 0,.i .i64 0,.i .i64 0]]⟩).put h.next ⟨11,[(nth C.parts i).enc]⟩).get h.next=some ⟨11,[(nth C.parts i).enc]⟩:=by simp (disch:=omega)only[go_sem, *]
   refine Ah (fun n e h=>∃ (j:Nat) (b:Nat),n=i - j∧h.lim=0∧e 1=.p 0 0 0∧e 4=.i .i64 i∧e 5=.p b 0 0∧e 6=.i .i64 j∧e 45=.fl 11 (C.parts.map Part.enc)∧e 46=.i .i64 C.parts.length∧e 47=.i .i64 i∧h.get 0=some ⟨3,[C.enc]⟩∧h.get b=some ⟨11,[(nth C.parts i).enc]⟩∧1≤h.next∧j≤i∧∀ k,k<j→(nth C.parts k).name≠(nth C.parts i).name) ?_ _ _ _ ⟨0,h.next,rfl, ?_⟩
   ·rintro n e h ⟨j,b,rfl,hl,e1,e4,e5,e6,e45,e46,e47,hg,hb,hn,hj,hs⟩ ih
    rw [Am Un.eq_1]
    simp (disch:=omega)only[go_sem, *]
    have hg1:=hg
    simp only [An.enc] at hg1
    have hb1:=hb
    simp only [Part.enc] at hb1
    refine Aa (fun hc3=>?_) (fun hc3=>?_)
    ·simp (disch:=omega)only[go_sem, *]
     refine Aa (fun hc4=>?_) (fun hc4=>?_)
     ·rw [if_pos (.inr (Le (j:=j) (by omega) (by omega) (by simpa using hc4)))] at hz
      rw [← hz]
      simp (disch:=omega)only[go_sem, *]
     ·simp (disch:=omega)only[go_sem, *]
      refine ih _ _ _ ?_ ⟨j+1,b,rfl, ?_⟩
      ·omega
      ·simp (disch:=omega)only[go_sem, *]
       ((repeat' refine And.intro ?_ ?_)<;>first | omega | assumption | ((intro k hk;by_cases e:k=j;(subst e;exact hc4);(exact hs k (by omega)))))
    ·have hno:=HL (L:=C.parts) (i:=i) (P:=fun q=>decide (q.name=(nth C.parts i).name)) (fun k hk=>by have:=hs k (by omega);simp [this]) (by omega)
     rw [if_neg (by simp only [hc2',hno];simp)] at hz
     clear hs hno
     simp (disch:=omega)only[go_sem, *]
     refine Pf.go (Yh) (by simp only [go_sem]) fun _=>?_;simp (disch:=omega)only[go_sem, *]
     refine Bh (fun hc4=>?_) (fun hc4=>?_)
     ·rw [if_pos (by simpa using hc4)] at hz
      rw [← hz]
      simp (disch:=omega)only[go_sem, *]
     ·rw [if_neg (by simpa using hc4)] at hz
      simp (disch:=omega)only[go_sem, *]
      refine ih0 _ _ _ ?_ ⟨i+1,rfl, ?_⟩
      ·omega
      ·simp (disch:=omega)only[go_sem, *]
       ((repeat' refine And.intro ?_ ?_)<;>first | omega | assumption)
   ·simp (disch:=omega)only[go_sem, *]
    simp
  ·rw [List.drop_eq_nil_of_le (by omega),Bl] at hz
   rw [← hz]
   clear hz
   simp (disch:=omega)only[go_sem, *]
   refine Ah (fun n e h=>∃ (i:Nat),n=C.chans.length - i∧h.lim=0∧e 78=.fl 6 (C.chans.map A1.enc)∧e 79=.i .i64 C.chans.length∧e 80=.i .i64 i∧e 1=.p 0 0 0∧i≤C.chans.length∧h.get 0=some ⟨3,[C.enc]⟩∧1≤h.next∧Bv C i (C.chans.drop i)=Bv C 0 C.chans) ?_ _ _ _ ⟨0,rfl, ?_⟩
   ·rintro n e h ⟨i,rfl,hl,e78,e79,e80,e1,hi,hg,hn,hz⟩ ih
    rw [Am Up.eq_1]
    simp (disch:=omega)only[go_sem, *]
    have hg1:=hg
    simp only [An.enc] at hg1
    refine Aa (fun hc=>?_) (fun hc=>?_)
    ·rw [AI (by omega),Bv] at hz
     simp (disch:=omega)only[go_sem, *]
     refine Pf.go (X4 (x:=nth C.chans i)) (by simp only [go_sem]) fun _=>?_;simp (disch:=omega)only[go_sem, *]
     refine Bh (fun hc4=>?_) (fun hc4=>?_)
     ·rw [if_pos (by simpa using hc4)] at hz
      rw [← hz]
      simp (disch:=omega)only[go_sem, *]
     ·rw [if_neg (by simpa using hc4)] at hz
      simp (disch:=omega)only[go_sem, *]
      refine ih _ _ _ ?_ ⟨i+1,rfl, ?_⟩
      ·omega
      ·simp (disch:=omega)only[go_sem, *]
       ((repeat' refine And.intro ?_ ?_)<;>first | omega | assumption)
    ·rw [List.drop_eq_nil_of_le (by omega),Bv] at hz
     rw [← hz]
     clear hz
     simp (disch:=omega)only[go_sem, *]
     refine Ah (fun n e h=>∃ (i:Nat),n=C.tables.length - i∧h.lim=0∧e 94=.fl 1 (C.tables.map Tab.enc)∧e 95=.i .i64 C.tables.length∧e 96=.i .i64 i∧e 1=.p 0 0 0∧i≤C.tables.length∧h.get 0=some ⟨3,[C.enc]⟩∧1≤h.next∧Cd C i (C.tables.drop i)=Cd C 0 C.tables) ?_ _ _ _ ⟨0,rfl, ?_⟩
     ·rintro n e h ⟨i,rfl,hl,e94,e95,e96,e1,hi,hg,hn,hz⟩ ih
      rw [Am Ur.eq_1]
      simp (disch:=omega)only[go_sem, *]
      have hg1:=hg
      simp only [An.enc] at hg1
      refine Aa (fun hc=>?_) (fun hc=>?_)
      ·have hf:=Ip (L:=nth C.tables i)
       have hfl:=gT (L:=nth C.tables i)
       rw [AI (by omega),Cd] at hz
       simp (disch:=omega)only[go_sem, *]
       refine Pf.go (Jt) (by simp only [go_sem]) fun _=>?_;simp (disch:=omega)only[go_sem, *]
       have ht:DC C (nth C.tables i)=if (Fd (nth C.tables i)).2≠0 then (Fd (nth C.tables i)).2 else if (Fd (nth C.tables i)).1.any (fun r=>decide ((C.parts.length:Int)≤r.part))=true then 16 else CN C (Fd (nth C.tables i)).1:=rfl
       refine Aa (fun hc4=>?_) (fun hc4=>?_)
       ·rw [if_pos hc4] at ht
        rw [if_pos (by rw [ht];exact hc4),ht] at hz
        rw [← hz]
        simp (disch:=omega)only[go_sem, *]
       rw [if_neg hc4] at ht
       simp (disch:=omega)only[go_sem, *]
       have ih0:=ih
       clear ih
       refine Ah (fun n e h=>∃ (j:Nat),n=((Fd (nth C.tables i)).1).length - j∧h.lim=0∧e 110=.fl 2 (((Fd (nth C.tables i)).1).map AK.enc)∧e 111=.i .i64 ((Fd (nth C.tables i)).1).length∧e 112=.i .i64 j∧e 1=.p 0 0 0∧e 9=.i .i64 i∧e 11=.fl 2 ((Fd (nth C.tables i)).1.map AK.enc)∧e 94=.fl 1 (C.tables.map Tab.enc)∧e 95=.i .i64 C.tables.length∧e 96=.i .i64 i∧j≤((Fd (nth C.tables i)).1).length∧h.get 0=some ⟨3,[C.enc]⟩∧1≤h.next∧(Fd (nth C.tables i)).1.any (fun r=>decide ((C.parts.length:Int)≤r.part))=((Fd (nth C.tables i)).1.drop j).any (fun r=>decide ((C.parts.length:Int)≤r.part))) ?_ _ _ _ ⟨0,rfl, ?_⟩
       ·rintro n e h ⟨j,rfl,hl,e110,e111,e112,e1,e9,e11,e94,e95,e96,hi,hg,hn,hs⟩ ih
        rw [Am Uq.eq_1]
        simp (disch:=omega)only[go_sem, *]
        have hg1:=hg
        simp only [An.enc] at hg1
        refine Aa (fun hc5=>?_) (fun hc5=>?_)
        ·simp (disch:=omega)only[go_sem, *]
         refine Aa (fun hc6=>?_) (fun hc6=>?_)
         ·have hy:=Lf (L:=(Fd (nth C.tables i)).1) (P:=fun r=>decide ((C.parts.length:Int)≤r.part)) (i:=j) (by omega) (by simpa using hc6)
          rw [if_pos hy] at ht
          clear hy hs
          rw [if_pos (by rw [ht];simp),ht] at hz
          rw [← hz]
          simp (disch:=omega)only[go_sem, *]
         ·have hno:=IC (L:=(Fd (nth C.tables i)).1) (P:=fun r=>decide ((C.parts.length:Int)≤r.part)) (i:=j) (by omega) (by simpa using hc6)
          rw [hno] at hs
          clear hno
          simp (disch:=omega)only[go_sem, *]
          refine ih _ _ _ ?_ ⟨j+1,rfl, ?_⟩
          ·omega
          ·simp (disch:=omega)only[go_sem, *]
           ((repeat' refine And.intro ?_ ?_)<;>first | omega | assumption)
        ·rw [List.drop_eq_nil_of_le (by omega),List.any_nil] at hs
         rw [if_neg (by rw [hs];simp)] at ht
         clear hs
         rw [ht] at hz
         simp (disch:=omega)only[go_sem, *]
         refine Pf.go (M7 (C:=C) hf) (by simp only [go_sem]) fun _=>?_;simp (disch:=omega)only[go_sem, *]
         refine Aa (fun hc7=>?_) (fun hc7=>?_)
         ·rw [if_pos hc7] at hz
          rw [← hz]
          simp (disch:=omega)only[go_sem, *]
         ·rw [if_neg hc7] at hz
          simp (disch:=omega)only[go_sem, *]
          refine ih0 _ _ _ ?_ ⟨i+1,rfl, ?_⟩
          ·omega
          ·simp (disch:=omega)only[go_sem, *]
           ((repeat' refine And.intro ?_ ?_)<;>first | omega | assumption)
       ·simp (disch:=omega)only[go_sem, *]
      ·rw [List.drop_eq_nil_of_le (by omega),Cd] at hz
       rw [← hz]
       clear hz
       simp (disch:=omega)only[go_sem, *]
     ·simp (disch:=omega)only[go_sem, *]
   ·simp (disch:=omega)only[go_sem, *]
 ·simp (disch:=omega)only[go_sem, *]
theorem Ju {C:An} (hnm:Hc C):Pf tp V8 [.agg C.enc] (.i .i64 (Bb C).1):=by
 refine AE aC4 (by simp [Nw]) fun rp=>?_;unfold Nw;simp (disch:=omega)only[go_sem, *]
 refine Pf.go (Zk hnm) (by simp only [go_sem]) fun _=>?_;simp (disch:=omega)only[go_sem, *]
theorem Ku {C:An} (hnm:Hc C):Pf tp Wu [.agg C.enc] (.i .i64 (Bb C).1):=by
 refine AE aDo (by simp [NP]) fun rp=>?_;unfold NP;simp (disch:=omega)only[go_sem, *]
 refine Pf.go (M9 hnm) (by simp only [go_sem]) fun _=>?_;simp (disch:=omega)only[go_sem, *]
end Go.Ab.T
namespace Go.Ab.T
open Go Go.Ab
set_option maxHeartbeats 1000000
@[irreducible] def En (n lo hi:Int):Int:=if lo≤n∧n≤hi then n else lo+(if n.tmod (hi - lo+1)<0 then n.tmod (hi - lo+1)+hi - lo+1 else n.tmod (hi - lo+1))
theorem TH {n lo hi:Int} (h:lo≤hi):lo≤En n lo hi∧En n lo hi≤hi:=by
 unfold En
 have h1:0<hi - lo+1:=by omega
 have a:=Int.tmod_lt_of_pos n h1
 have b:=Int.lt_tmod_of_pos n h1
 split
 ·assumption
 ·split<;>omega
theorem TI {n lo hi:Int} (h0:0≤lo) (h1:lo≤hi) (h2:hi≤2000000000):Pf tp aEf [.i .i64 n,.i .i64 lo,.i .i64 hi] (.i .i64 (En n lo hi)):=by
 have hp:0<hi - lo+1:=by omega
 have a:=Int.tmod_lt_of_pos n hp
 have b:=Int.lt_tmod_of_pos n hp
 refine AE aPM (by simp [YB]) fun rp=>?_;unfold YB;simp (disch:=omega)only[go_sem, *]
 repeat' (first | (refine Av (fun hc=>?_) (fun hc=>?_)<;>simp (disch:=omega)only[go_sem, *]) | (refine Aa (fun hc=>?_) (fun hc=>?_)<;>simp (disch:=omega)only[go_sem, *]) | (refine Cw (fun hc=>?_) (fun hc=>?_)<;>simp (disch:=omega)only[go_sem, *]) | (refine Bh (fun hc=>?_) (fun hc=>?_)<;>simp (disch:=omega)only[go_sem, *]))
 all_goals (unfold En;(repeat' split)<;>omega)
@[go_sem] def Ap (L:List Int) (k:Nat):BA:=⟨2,[[.fl 1 (L.map Ek),.i .i64 k]]⟩
theorem He.same {h:AH} {id:Nat} {b:BA} (hb:h.get id=some b):He h id b h:=⟨Nat.le_refl _,rfl,hb,fun _ _ _=>rfl⟩
theorem RN {h h1 h2:AH} {id:Nat} {b:BA} (u:He h id b h1) (hid:id<h.next) (x:Aq h1 h2):He h id b h2:=by
 have a:=u.next;have c:=x.next
 exact ⟨by omega,x.lim.trans u.lim,(x.get id (by omega)).trans u.here,fun i hi hn=>(x.get i (by omega)).trans (u.get i hi hn)⟩
theorem Cm {h h1:AH} {id:Nat} {b b':BA} (u:He h id b h1):He h id b' (h1.put id b'):=
 ⟨u.next,u.lim,by rw [Ae,Ax rfl],fun i hi hn=>by rw [Ae,Ag hn];exact u.get i hi hn⟩
theorem Dh {h h1:AH} {id:Nat} {b k:BA} (u:He h id b h1) (hid:id<h.next):He h id b (h1.alloc k):=RN u hid ((Aq.refl _).alloc _)
theorem K8 {h h1 h2:AH} {id b':Nat} {b:BA} {x v:V} (u:He h id b h1) (hid:id<h.next) (g:Grown b' h1 x v h2) (hx:AF x=true∨h.next≤Ar x):He h id b h2:=by
 have a:=u.next;have c:=g.next
 have k:∀ i,i<h.next→(AF x=true∨i≠Ar x):=fun i hi=>hx.imp (fun x=>x) (fun x=>by omega)
 exact ⟨by omega,g.lim.trans u.lim,by rw [g.get id (by omega) (k id hid)];exact u.here,fun i hi hn=>by rw [g.get i (by omega) (k i hi)];exact u.get i hi hn⟩
theorem AD {b sz:Nat} {h:AH} {v:V} {R:List (List V)} (s:Sl b h sz v R):AF v=true∨b≤Ar v:=by
 rcases s with ⟨hv,_⟩ | ⟨i,el,cap,cs,rfl,_,_,_,_,h1,h2,_⟩
 ·rcases hv with rfl | rfl<;>exact .inl rfl
 ·exact .inr h2
theorem Gv {tp : TP} {f : Nat} {args : List V} {h : AH} {K : V → AH → Prop} {id k : Nat} {L : List Int} {tf : TF} (hf : tp.fn f = some tf) (hl : args.length ≤ tf.n) (hg : h.get id = some (Ap L k))
    (z:h.lim≤h.next→id<h.next→FS args→ZC tp tf.body (Ey args) h (fun x e h2=>Hf tf.res x e h2 (fun r h3=>∃ R j,CY (h.next≤·) h3 h.next r R∧He h id (Ap L j) h3∧K R (h.put id (Ap L j))))):Cq tp f args h K:=
 nC hf hl fun wf rp=>by
  have hlt:=(wf.2 id _ hg).1
  have key:∀ (e:Env) (h2:AH),(Wo (BC e h2 tf.res) fun r=>∃ R j,CY (h.next≤·) h2 h.next r R∧He h id (Ap L j) h2∧K R (h.put id (Ap L j)))→Wo (BC e h2 tf.res) fun r=>∃ P R H,Cn h h2 r P R H∧K R H:=by
   rintro e h2 ⟨v,hv,R,j,fr,u,kk⟩
   exact ⟨v,hv,_,R,_,Cn.upd wf u hlt (.cons _ _ _ _ _ (BX.of_stay rfl) (.nil _)) fr,kk⟩
  exact Eo (fun x e h2 q=>by
   cases x with
   | ex _=>exact q
   | nm=>exact key _ _ q
   | rt=>exact key _ _ q) (z wf.1 hlt rp)
theorem AO {h : AH} {id k : Nat} {L : List Int} {n : Int} {K : V → AH → Prop} (hg : h.get id = some (Ap L k)) (hk : k ≤ L.length) (hL : L.length < 4000000000) (hlo : h.lim ≤ id)
    (kk:∀ v j,0≤v→v≤1073741824→(v<n∨v=0)→j≤L.length→K (.i .i64 v) (h.put id (Ap L j))):Cq tp MA [.p id 0 0,.i .i64 n] h K:=by
 refine Gv aC1 (by simp [Nt]) hg fun hlm hid rp=>?_
 unfold Nt
 have hg1:=hg
 simp only [Ap] at hg1
 simp (disch:=omega)only[go_sem, *]
 refine Av (fun hc=>?_) (fun hc=>?_)
 ·simp (disch:=omega)only[go_sem, *]
  exact ⟨_,k,.z _ _ (.i _ _),He.same hg,kk 0 k (by omega) (by omega) (by omega) hk⟩
 ·simp (disch:=omega)only[go_sem, *]
  refine Aa (fun hc2=>?_) (fun hc2=>?_)
  ·simp (disch:=omega)only[go_sem, *]
   exact ⟨_,k,.z _ _ (.i _ _),He.same hg,kk 0 k (by omega) (by omega) (by omega) hk⟩
  ·have hk1:(k:Int)<L.length:=by omega
   have hb:=TH (n:=nth L k) (lo:=0) (hi:=1073741824) (by omega)
   have h1:=Int.tmod_nonneg n hb.1
   have h2:=Int.tmod_lt_of_pos (En (nth L k) 0 1073741824) (b:=n) (by omega)
   have h3:(En (nth L k) 0 1073741824).tmod n≤En (nth L k) 0 1073741824:=by
    rw [Int.tmod_eq_emod_of_nonneg hb.1]
    by_cases hlt:En (nth L k) 0 1073741824<n
    ·rw [Int.emod_eq_of_lt hb.1 hlt];omega
    ·have:=Int.emod_lt_of_pos (En (nth L k) 0 1073741824) (b:=n) (by omega);omega
   simp (disch:=omega)only[go_sem, *]
   refine Pf.go (TI (n:=nth L k) (lo:=0) (hi:=1073741824) (by omega) (by omega) (by omega)) (by simp only [go_sem]) fun _=>?_;simp (disch:=omega)only[go_sem, *]
   exact ⟨_,k+1,.z _ _ (.i _ _),Cm (He.same hg),kk _ (k+1) h1 (by omega) (.inl h2) (by omega)⟩
end Go.Ab.T
namespace Go.Ab.T
open Go Go.Ab
set_option maxHeartbeats 1000000
/-! Plain laws: when a configuration is right. -/
def C5 (n:Int) (T:List Node):Prop:=∀ x∈T,0≤x.part∧x.part<n
theorem C5.one {n:Int} {x:Node} (h0:0≤x.part) (h:x.part<n):C5 n [x]:=fun y hy=>by
 rw [List.mem_singleton] at hy;subst hy;exact ⟨h0,h⟩
theorem C5.app {n:Int} {A B:List Node} (a:C5 n A) (b:C5 n B):C5 n (A++B):=fun y hy=>by
 rcases List.mem_append.1 hy with h | h
 ·exact a y h
 ·exact b y h
theorem C5.cons {n:Int} {x:Node} {B:List Node} (h0:0≤x.part) (h:x.part<n) (b:C5 n B):C5 n (x::B):=C5.app (C5.one h0 h) b
theorem Fo.runs_part {n:Int} (hn:1≤n):∀ (f:Fo),C5 n f.flat→∀ r∈f.runs,r.part<n
 | .nil,h,r,hr=>by simp [Fo.runs] at hr
 | .leaf x f,h,r,hr=>by
  simp only [Fo.runs,List.mem_cons] at hr
  simp only [Fo.flat] at h
  rcases hr with rfl | hr
  ·have:=h x (List.mem_cons_self ..)
   simp only [C2];split<;>omega
  ·exact Fo.runs_part hn f (fun y hy=>h y (List.mem_cons_of_mem _ hy)) r hr
 | .seq x k f,h,r,hr=>by
  simp only [Fo.runs,List.mem_append] at hr
  simp only [Fo.flat] at h
  rcases hr with hr | hr
  ·exact Fo.runs_part hn k (fun y hy=>h y (List.mem_cons_of_mem _ (List.mem_append_left _ hy))) r hr
  ·exact Fo.runs_part hn f (fun y hy=>h y (List.mem_cons_of_mem _ (List.mem_append_right _ hy))) r hr
 | .rep x k f,h,r,hr=>by
  simp only [Fo.runs,List.mem_append] at hr
  simp only [Fo.flat] at h
  rcases hr with hr | hr
  ·rw [List.mem_flatten] at hr
   obtain ⟨l,hl,hr⟩:=hr
   rw [List.mem_replicate] at hl
   obtain ⟨_,rfl⟩:=hl
   exact Fo.runs_part hn k (fun y hy=>h y (List.mem_cons_of_mem _ (List.mem_append_left _ hy))) r hr
  ·exact Fo.runs_part hn f (fun y hy=>h y (List.mem_cons_of_mem _ (List.mem_append_right _ hy))) r hr
def C0 (n:Int) (T:List Node):Prop:=(Fd T).2=0∧∀ r∈(Fd T).1,r.part<n
theorem C0.of {n:Int} (hn:1≤n) {T:List Node} (h:(Fd T).2=0) (hp:C5 n T):C0 n T:=by
 refine ⟨h, ?_⟩
 by_cases hr:A7 T=0
 ·rw [Fm hr] at h ⊢
  obtain ⟨_,ho,hc1,hL,hd,hl⟩:=FE hr
  split at h
  ·simp at h
  ·rename_i h96
   rw [if_neg h96]
   intro r hr
   have hap:=Fo.runs_allpos _ ho
   have hsum:=Fo.runs_sum _ ho
   have ht:=L3 hap (by omega)
   obtain ⟨q,hq,e⟩:=ht.parts r hr
   rw [← e]
   exact Fo.runs_part hn _ (by rw [← hL];exact hp) q hq
 ·rw [Io hr] at h
  exact absurd h hr
theorem C0.right {n:Int} {T:List Node} (h:C0 n T):A7 T=0:=by
 by_cases hr:A7 T=0
 ·exact hr
 ·have:=h.1;rw [Io hr] at this;exact absurd this hr
theorem C0.ne {n:Int} {T:List Node} (h:C0 n T):0<T.length:=by
 obtain ⟨_,f,ho,hc,rfl,_⟩:=(FM T).1 h.right
 exact Fo.flat_pos hc
def Hu (p:Int):List Node:=[⟨3,0,2⟩,⟨1,p,3⟩,⟨2,0,2⟩]
theorem aEq {n p:Int} (hn:1≤n) (h6:n≤6) (h0:0≤p) (hp:p<n):C0 n (Hu p):=by
 refine C0.of hn ?_ (C5.cons (by simp) (by simp;omega) (C5.cons (by simp;omega) (by simp;omega) (C5.one (by simp) (by simp;omega))))
 have k1:kids ⟨1,p,3⟩=0:=by unfold kids;rw [if_neg (by simp),if_pos (by simp;omega)]
 have e:Hu p=(Fo.seq ⟨3,0,2⟩ (.leaf ⟨1,p,3⟩ (.leaf ⟨2,0,2⟩ .nil)) .nil).flat:=rfl
 have hr:A7 (Hu p)=0:=by
  rw [e]
  refine Jv ⟨rfl,rfl,by simp [Fo.count],⟨k1,rfl,trivial⟩,trivial⟩ rfl (by simp [Fo.depth]) (by simp [Fo.len]) (by simp [Fo.flat])
 rw [Fm hr]
 obtain ⟨hl128,ho,hc1,hL,hd,hl⟩:=FE hr
 have hap:=Fo.runs_allpos _ ho
 have hsum:=Fo.runs_sum _ ho
 have ht:=L3 hap (by omega)
 have h1:((EV (Hu p)).runs.length:Int)≤Aw (EV (Hu p)).runs:=by
  have:∀ {w:List AK},A5 w→(w.length:Int)≤Aw w:=by
   intro w
   induction w with
   | nil=>intro _;simp [Aw]
   | cons a l ih=>
    intro h
    have:=ih (fun r hr=>h r (List.mem_cons_of_mem _ hr))
    have:=h a (List.mem_cons_self ..)
    simp only [Aw,List.length_cons];omega
  exact this hap
 have hlen:(EV (Hu p)).len=5:=by
  obtain ⟨f,hf,he,hc⟩:∃ f:Fo,f.ok∧f.flat=Hu p∧f.len=(EV (Hu p)).len:=⟨_,ho,hL.symm,rfl⟩
  have m1:=(Bx ho hc1).2
  have m2:=(Bx (f:=Fo.seq ⟨3,0,2⟩ (.leaf ⟨1,p,3⟩ (.leaf ⟨2,0,2⟩ .nil)) .nil) ⟨rfl,rfl,by simp [Fo.count],⟨k1,rfl,trivial⟩,trivial⟩ rfl).2
  rw [← hL] at m1
  rw [← e] at m2
  rw [m1] at m2
  have l2:(Fo.seq ⟨3,0,2⟩ (.leaf ⟨1,p,3⟩ (.leaf ⟨2,0,2⟩ .nil)) .nil).len=5:=rfl
  rw [l2] at m2
  omega
 rw [if_neg (by unfold gU;have:=ht.len;omega)]
/-! Lateness is no longer than a frame. -/
theorem XK {tt:List BZ} {n t:Int} (hs:Ca 0 tt n) (hne:tt≠[]) (h0:0≤t) (hn:n≤4096):Ib tt t n - t≤4096:=by
 unfold Ib
 rcases E2 (t:=t) hs with ⟨h1,h2⟩ | ⟨s,h1,h2,h3,h4⟩
 ·rw [h1]
  match tt,hne with
  | a::l,_=>
   have:=hs.mem (List.mem_cons_self ..)
   have:=h2 a (List.mem_cons_self ..)
   simp only [nth,List.getD_cons_zero]
   omega
 ·rw [h2]
  have:=hs.mem h1
  simp only;omega
theorem MG {tt:List BZ} {n:Int} (hs:Ca 0 tt n) (hne:tt≠[]) (hn:n≤4096):∀ (l:List BZ) (w:Int),w≤4096→(∀ s∈l,0≤s.s∧s.s<s.e)→Fa tt n l w≤4096
 | [],w,hw,_=>hw
 | s::l,w,hw,h=>by
  rw [Fa]
  have hh:=h s (List.mem_cons_self ..)
  have a:=XK hs hne (t:=s.s) (by omega) hn
  have b:=XK hs hne (t:=s.e - 1) (by omega) hn
  exact MG hs hne hn l _ (by omega) (fun x hx=>h x (List.mem_cons_of_mem _ hx))
theorem Xt {L:List AK} {f t:Int} (hf:Hb L):C1 L f t≤4096:=by
 unfold C1
 split
 ·omega
 ·split
  ·omega
  ·rename_i h2
   have s1:=Bu (p:=t) (a:=0) hf.1
   have s2:=Bu (p:=f) (a:=0) hf.1
   rw [Int.zero_add] at s1 s2
   exact MG s1 h2 hf.2 _ _ (by omega) (fun s hs=>by have:=s2.mem hs;omega)
/-! When all is right. -/
theorem Kk {C:An}:∀ (l:List (List Node)) (i:Nat),Cd C i l=(0,-1)↔∀ t∈l,DC C t=0
 | [],i=>by simp [Cd]
 | t::l,i=>by
  rw [Cd]
  split
  ·rename_i h;simp [h]
  ·rename_i h;rw [Kk l];simp at h;simp [h]
theorem HZ {C:An}:∀ (l:List A1) (i:Nat),Bv C i l=(0,-1)↔(∀ x∈l,CG C.parts.length x=true)∧∀ t∈C.tables,DC C t=0
 | [],i=>by simp [Bv,Kk]
 | x::l,i=>by
  rw [Bv]
  split
  ·rename_i h;simp [h]
  ·rename_i h;rw [HZ l];simp at h;simp [h]
def TU (P:List Part) (j:Nat):Prop:=D3 (nth P j).name=true∧(P.take j).any (fun q=>decide (q.name=(nth P j).name))=false∧Dt (nth P j)=true
theorem H2 {C:An}:∀ (l:List Part) (i:Nat),l=C.parts.drop i→(Bl C i l=(0,-1)↔(∀ j,i≤j→j<C.parts.length→TU C.parts j)∧(∀ x∈C.chans,CG C.parts.length x=true)∧∀ t∈C.tables,DC C t=0)
 | [],i,hl=>by
  have:C.parts.length≤i:=List.drop_eq_nil_iff.1 hl.symm
  rw [Bl,HZ]
  constructor
  ·intro h;exact ⟨fun j h1 h2=>by omega,h⟩
  ·intro h;exact h.2
 | p::l,i,hl=>by
  have hi:i<C.parts.length:=by
   rcases Nat.lt_or_ge i C.parts.length with h | h
   ·exact h
   ·rw [List.drop_eq_nil_of_le h] at hl;cases hl
  rw [AI hi] at hl
  injection hl with h1 h2
  subst h1
  rw [Bl]
  split
  ·rename_i h
   constructor
   ·intro h';simp at h'
   ·intro h'
    have g:=h'.1 i (Nat.le_refl _) hi
    rw [g.1,g.2.1] at h;simp at h
  ·rename_i h
   split
   ·rename_i h3
    constructor
    ·intro h';simp at h'
    ·intro h'
     have g:=h'.1 i (Nat.le_refl _) hi
     rw [g.2.2] at h3;simp at h3
   ·rename_i h3
    rw [H2 l (i+1) h2]
    simp only [not_or,Bool.not_eq_false,Bool.not_eq_true] at h h3
    constructor
    ·intro h'
     refine ⟨fun j hj1 hj2=>?_,h'.2⟩
     by_cases e:j=i
     ·subst e;exact ⟨h.1,h.2,h3⟩
     ·exact h'.1 j (by omega) hj2
    ·intro h'
     exact ⟨fun j hj1 hj2=>h'.1 j (by omega) hj2,h'.2⟩
theorem EG {C:An}:Bb C=(0,-1)↔(1≤C.parts.length∧C.parts.length≤6∧C.chans.length≤8∧1≤C.tables.length∧C.tables.length≤3)∧(∀ j,j<C.parts.length→TU C.parts j)∧(∀ x∈C.chans,CG C.parts.length x=true)∧∀ t∈C.tables,DC C t=0:=by
 unfold Bb
 split
 ·rename_i h
  constructor
  ·intro h';simp at h'
  ·intro h';omega
 ·rename_i h
  rw [H2 _ 0 (by simp)]
  constructor
  ·intro h';exact ⟨by omega,fun j hj=>h'.1 j (by omega) hj,h'.2⟩
  ·intro h';exact ⟨fun j _ hj=>h'.2.1 j hj,h'.2.2⟩
theorem Gs {C:An} {T:List Node}:DC C T=0↔C0 C.parts.length T∧CN C (Fd T).1=0:=by
 unfold DC C0
 split
 ·rename_i h;simp [h]
 ·rename_i h
  split
  ·rename_i h2
   rw [List.any_eq_true] at h2
   obtain ⟨r,h3,h4⟩:=h2
   constructor
   ·intro h';simp at h'
   ·intro h'
    have:=h'.1.2 r h3
    simp at h4;omega
  ·rename_i h2
   simp only [List.any_eq_true,not_exists,not_and] at h2
   constructor
   ·intro h';exact ⟨⟨by omega,fun r hr=>by have:=h2 r hr;simp at this;omega⟩,h'⟩
   ·intro h';exact h'.2
theorem I6 {C:An} {L:List AK}:CN C L=0↔C.chans.any (BV L)=false∧BP L 0 C.parts=false:=by
 unfold CN
 split
 ·rename_i h;simp [h]
 ·rename_i h;simp only [Bool.not_eq_true] at h
  split
  ·rename_i h2;simp [h2]
  ·rename_i h2;simp only [Bool.not_eq_true] at h2;simp [h,h2]
theorem E4 {L:List AK}:∀ (l:List Part) (i:Nat),(∀ p∈l,p.budget=0)→BP L i l=false
 | [],i,h=>rfl
 | p::l,i,h=>by
  rw [BP,E4 l (i+1) (fun q hq=>h q (List.mem_cons_of_mem _ hq)),h p (List.mem_cons_self ..)]
  simp
end Go.Ab.T
namespace Go.Ab.T
open Go Go.Ab
set_option maxHeartbeats 2000000
theorem Sl.new {b:Nat} {h:AH} {sz:Nat} {N:List (List V)} (hb:b≤h.next) (hN:N.length<4294967296):Sl b (h.alloc ⟨sz,N⟩) sz (.sl h.next 0 N.length N.length) N:=
 .inr ⟨h.next,0,N.length,N,rfl,by simp [AH.alloc],by simp,by simp,Nat.le_refl _,by simp [AH.alloc],hb,hN⟩
theorem Iq {m nx i:Nat} {h:AH} {x:Node} (hi:i=h.next) (hb:m≤i):CY (m≤·) (h.alloc ⟨3,[x.enc]⟩) nx (.sl i 0 1 1) (.fl 3 ([x].map Node.enc)):=by
 subst hi
 exact Sl.froze (b:=m) (L:=[x]) (Sl.new hb (by simp)) (fun _=>rfl) hb (by simp)
theorem Sl.frzb {α:Type} {enc:α→List V} {b nx:Nat} {h:AH} {sz:Nat} {v:V} {L:List α} (s:Sl b h sz v (L.map enc)) (he:∀ a,(enc a).all Nq=true) (hL:L.length<4000000000):CY (b≤·) h nx v (.fl sz (L.map enc)):=by
 rcases AD s with hn | hn
 ·rcases s with ⟨hv,hR⟩ | ⟨i,el,cap,cs,rfl,_⟩
  ·rw [hR];rcases hv with rfl | rfl
   ·exact .ns _ _
   ·exact .e0 _ _
  ·cases hn
 ·exact s.froze he hn hL
theorem aRK (d:Nat):1≤5 ^ d:=Nat.pos_of_ne_zero (by simp)
theorem TG {n : Int} {L : List Int} {id : Nat} (hn : 1 ≤ n) (hn2 : n ≤ 1073741824) (hL : L.length < 4000000000) : ∀ (d : Nat), d ≤ 4 → ∀ {h : AH} {k : Nat} {K : V → AH → Prop}, h.get id = some (Ap L k) → k ≤ L.length → h.lim ≤ id →
    (∀ T j,C5 n T→T.length≤5 ^ d→j≤L.length→K (.fl 3 (T.map Node.enc)) (h.put id (Ap L j)))→Cq tp MB [.p id 0 0,.i .i64 n,.i .i64 d] h K:=by
 intro d
 induction d with
 | zero=>
  intro _ h k K hg hk hlo kk
  refine Gv VQ (by simp [J9]) hg fun hlm hid rp=>?_
  unfold J9
  simp (disch:=omega)only[go_sem, *]
  refine AO hg hk hL hlo ?_
  intro v j h0 h1 h2 hj
  simp (disch:=omega)only[go_sem, *]
  have hg1:(h.put id (Ap L j)).get id=some (Ap L j):=by simp (disch:=omega)only[go_sem, *]
  refine Aa (fun hc=>?_) (fun hc=>?_)
  ·simp (disch:=omega)only[go_sem, *]
   refine AO hg1 hj hL hlo ?_
   intro v2 j2 h20 h21 h22 hj2
   simp (disch:=omega)only[go_sem, *]
   exact ⟨.fl 3 ([(⟨2,0,1+v2⟩:Node)].map Node.enc),j2,Iq (x:=⟨2,0,1+v2⟩) rfl (Nat.le_refl _),Dh (Cm (He.same hg)) hid,kk _ _ (C5.one (by simp) (by simp;omega)) (by simp) hj2⟩
  ·simp (disch:=omega)only[go_sem, *]
   refine AO hg1 hj hL hlo ?_
   intro v2 j2 h20 h21 h22 hj2
   have hg2:(h.put id (Ap L j2)).get id=some (Ap L j2):=by simp (disch:=omega)only[go_sem, *]
   simp (disch:=omega)only[go_sem, *]
   refine AO hg2 hj2 hL hlo ?_
   intro v3 j3 h30 h31 h32 hj3
   simp (disch:=omega)only[go_sem, *]
   exact ⟨.fl 3 ([(⟨1,v2,1+v3⟩:Node)].map Node.enc),j3,Iq (x:=⟨1,v2,1+v3⟩) rfl (Nat.le_refl _),Dh (Cm (He.same hg)) hid,kk _ _ (C5.one (by simp;omega) (by simp;omega)) (by simp) hj3⟩
 | succ d ihd=>
  intro hd h k K hg hk hlo kk
  have hp:=aRK d
  have hpe:5 ^ (d+1)=5*5 ^ d:=by rw [Nat.pow_succ];omega
  have hpd:5 ^ d≤125:=Nat.pow_le_pow_right (n:=5) (by omega) (show d≤3 by omega)
  rw [hpe] at kk
  clear hpe
  refine Gv VQ (by simp [J9]) hg fun hlm hid rp=>?_
  unfold J9
  simp (disch:=omega)only[go_sem, *]
  refine AO hg hk hL hlo ?_
  intro v j h0 h1 h2 hj
  simp (disch:=omega)only[go_sem, *]
  have hg1:(h.put id (Ap L j)).get id=some (Ap L j):=by simp (disch:=omega)only[go_sem, *]
  refine Av (fun hc=>absurd hc (by omega)) (fun hc=>?_)
  simp (disch:=omega)only[go_sem, *]
  refine Aa (fun hc=>?_) (fun hc=>?_)
  ·simp (disch:=omega)only[go_sem, *]
   refine Aa (fun hc2=>?_) (fun hc2=>?_)
   ·simp (disch:=omega)only[go_sem, *]
    refine AO hg1 hj hL hlo ?_
    intro v2 j2 h20 h21 h22 hj2
    simp (disch:=omega)only[go_sem, *]
    exact ⟨.fl 3 ([(⟨2,0,1+v2⟩:Node)].map Node.enc),j2,Iq (x:=⟨2,0,1+v2⟩) rfl (Nat.le_refl _),Dh (Cm (He.same hg)) hid,kk _ _ (C5.one (by simp) (by simp;omega)) (by simp;omega) hj2⟩
   ·simp (disch:=omega)only[go_sem, *]
    refine AO hg1 hj hL hlo ?_
    intro v2 j2 h20 h21 h22 hj2
    have hg2:(h.put id (Ap L j2)).get id=some (Ap L j2):=by simp (disch:=omega)only[go_sem, *]
    simp (disch:=omega)only[go_sem, *]
    refine AO hg2 hj2 hL hlo ?_
    intro v3 j3 h30 h31 h32 hj3
    simp (disch:=omega)only[go_sem, *]
    exact ⟨.fl 3 ([(⟨1,v2,1+v3⟩:Node)].map Node.enc),j3,Iq (x:=⟨1,v2,1+v3⟩) rfl (Nat.le_refl _),Dh (Cm (He.same hg)) hid,kk _ _ (C5.one (by simp;omega) (by simp;omega)) (by simp;omega) hj3⟩
  ·simp (disch:=omega)only[go_sem, *]
   refine Aa (fun hc2=>?_) (fun hc2=>?_)
   ·simp (disch:=omega)only[go_sem, *]
    refine AO hg1 hj hL hlo ?_
    intro v2 j2 h20 h21 h22 hj2
    simp (disch:=omega)only[go_sem, *]
    have hu:=Dh (k:=⟨3,[[.i .i64 4,.i .i64 0,.i .i64 (1+v2)]]⟩) (Cm (b':=Ap L j2) (He.same hg)) hid
    have hun:=hu.next
    refine ihd (by omega) hu.here hj2 (by simp (disch:=omega)only[go_sem, *]) ?_
    intro T j3 hT hTl hj3
    simp (disch:=omega)only[go_sem, *]
    have so:Sl h.next ((h.put id (Ap L j2)).alloc ⟨3,[(⟨4,0,1+v2⟩:Node)].map Node.enc⟩) 3 (.sl h.next 0 1 1) ([(⟨4,0,1+v2⟩:Node)].map Node.enc):=Sl.new (Nat.le_refl _) (by simp)
    refine AA (so.putx id (Ap L j3) (by simp only [Ar];omega)) (by simp (disch:=omega)only[go_sem, *]<;>omega) (by simp (disch:=omega)only[go_sem, *]<;>omega) (by simp;omega) ?_
    intro w h4 s4 g4
    have hu4:=K8 (Cm (b':=Ap L j3) hu) hid g4 (.inr (Nat.le_refl _))
    simp (disch:=omega)only[go_sem, *]
    rw [← List.map_append] at s4
    exact ⟨.fl 3 (([(⟨4,0,1+v2⟩:Node)]++T).map Node.enc),j3,Sl.frzb s4 (fun _=>rfl) (by simp;omega),hu4,kk _ _ (C5.app (C5.one (by simp) (by simp;omega)) hT) (by simp;omega) hj3⟩
   ·simp (disch:=omega)only[go_sem, *]
    refine AO hg1 hj hL hlo ?_
    intro v2 j2 h20 h21 h22 hj2
    obtain ⟨m,rfl⟩:∃ m:Nat,v2=m:=⟨v2.toNat,by omega⟩
    simp (disch:=omega)only[go_sem, *]
    have hu:=Dh (k:=⟨3,[(⟨3,0,1+m⟩:Node)].map Node.enc⟩) (Cm (b':=Ap L j2) (He.same hg)) hid
    have so:Sl h.next ((h.put id (Ap L j2)).alloc ⟨3,[(⟨3,0,1+m⟩:Node)].map Node.enc⟩) 3 (.sl h.next 0 1 1) ([(⟨3,0,1+m⟩:Node)].map Node.enc):=Sl.new (Nat.le_refl _) (by simp)
    have so2:=so
    simp only [List.map_cons,List.map_nil,Node.enc,Ap] at hu so2
    refine Ah (fun n' e h'=>∃ (i j:Nat) (O:List Node) (o:V),n'=m+1 - i∧h'.lim=h.lim∧e 0=.p id 0 0∧e 1=.i .i64 n∧e 2=.i .i64 (d+1)∧e 8=.i .i64 (1+m)∧e 9=o∧e 10=.i .i64 i∧i≤m+1∧j≤L.length∧He h id (Ap L j) h'∧Sl h.next h' 3 o (O.map Node.enc)∧C5 n O∧O.length≤1+i*5 ^ d) ?_ _ _ _ ⟨0,j2,[⟨3,0,1+m⟩],.sl h.next 0 1 1,rfl, ?_⟩
    ·rintro n' e h' ⟨i,j,O,o,rfl,hl',e0,e1,e2,e8,e9,e10,hi,hj,hu,so,hO,hOl⟩ ih
     have hun:=hu.next
     have hgu:=hu.here
     have hw:=AD so
     rw [Am Ud.eq_1]
     simp (disch:=omega)only[go_sem, *]
     refine Aa (fun hc=>?_) (fun hc=>?_)
     ·simp (disch:=omega)only[go_sem, *]
      refine ihd (by omega) hu.here hj (by omega) ?_
      intro T j3 hT hTl hj3
      have hi5:i*5 ^ d≤3*5 ^ d:=Nat.mul_le_mul_right _ (by omega)
      have hi6:(i+1)*5 ^ d=i*5 ^ d+5 ^ d:=Nat.succ_mul _ _
      simp (disch:=omega)only[go_sem, *]
      have so3:Sl h.next (h'.put id (Ap L j3)) 3 o (O.map Node.enc):=by
       rcases hw with hw | hw
       ·rcases so with ⟨a,b⟩ | ⟨_,_,_,_,rfl,_⟩
        ·exact .inl ⟨a,b⟩
        ·cases hw
       ·exact so.putx _ _ (by omega)
      refine AA so3 (by simp (disch:=omega)only[go_sem, *]<;>omega) (by simp (disch:=omega)only[go_sem, *]<;>omega) (by simp;omega) ?_
      intro w h4 s4 g4
      have hl4:=g4.lim
      have hu4:=K8 (Cm (b':=Ap L j3) hu) hid g4 hw
      simp (disch:=omega)only[go_sem, *]
      refine ih _ _ _ ?_ ⟨i+1,j3,O++T,w,rfl, ?_⟩
      ·omega
      ·simp (disch:=omega)only[go_sem, *]
       ((repeat' refine And.intro ?_ ?_)<;>first | omega | assumption | (simpa using s4) | (exact C5.app hO hT) | ((simp;omega)))
     ·have hi5:i*5 ^ d≤4*5 ^ d:=Nat.mul_le_mul_right _ (by omega)
      simp (disch:=omega)only[go_sem, *]
      exact ⟨.fl 3 (O.map Node.enc),j,Sl.frzb so (fun _=>rfl) (by omega),hu,kk _ _ hO (by omega) hj⟩
    ·simp (disch:=omega)only[go_sem, *]
     ((repeat' refine And.intro ?_ ?_)<;>first | omega | assumption | (exact hu) | (exact so) | (exact C5.one (by simp) (by simp;omega)) | (simp))
end Go.Ab.T
namespace Go.Ab.T
open Go Go.Ab
set_option maxHeartbeats 2000000
def G5:List AK→Int→Int
 | [],a=>a
 | r::l,a=>G5 l (Fg a r.n)
theorem HV {L:List AK} (hb:∀ r∈L,r.n≤9223372036854775807):Pf tp Wq [.fl 2 (L.map AK.enc)] (.i .i64 (G5 L 0)):=by
 refine AE aDl (by simp [NM]) fun rp=>?_;unfold NM;simp (disch:=omega)only[go_sem, *]
 have hL:=rp.head.len
 refine Ah (fun n e h=>∃ (i:Nat) (a:Int),n=L.length - i∧h.lim=0∧e 6=.fl 2 (L.map AK.enc)∧e 7=.i .i64 L.length∧e 8=.i .i64 i∧e 3=.i .i64 a∧i≤L.length∧a≤9223372036854775807∧G5 (L.drop i) a=G5 L 0) ?_ _ _ _ ⟨0,0,rfl, ?_⟩
 ·rintro n e h ⟨i,a,rfl,hl,e6,e7,e8,e3,hi,ha,hz⟩ ih
  rw [Am nJ.eq_1]
  simp (disch:=omega)only[go_sem, *]
  refine Aa (fun hc=>?_) (fun hc=>?_)
  ·rw [AI (by omega),G5] at hz
   have hx:=hb _ (AP (L:=L) (j:=i) (by omega))
   have ha2:=Et (a:=a) (b:=(nth L i).n)
   simp (disch:=omega)only[go_sem, *]
   refine Pf.go (Yy (a:=a) (b:=(nth L i).n) ha hx) (by simp only [go_sem]) fun _=>?_;simp (disch:=omega)only[go_sem, *]
   refine ih _ _ _ ?_ ⟨i+1,Fg a (nth L i).n,rfl, ?_⟩
   ·omega
   ·simp (disch:=omega)only[go_sem, *]
    ((repeat' refine And.intro ?_ ?_)<;>first | omega | assumption)
  ·rw [List.drop_eq_nil_of_le (by omega),G5] at hz
   simp (disch:=omega)only[go_sem, *]
 ·simp (disch:=omega)only[go_sem, *]
theorem QZ {L:List AK} (hf:Hb L):∀ r∈L,r.n≤9223372036854775807:=by
 obtain ⟨h1,h2⟩:=hf
 induction L with
 | nil=>intro r hr;cases hr
 | cons a l ih=>
  intro r hr
  have hp:=BM (w:=l) (fun x hx=>h1 x (List.mem_cons_of_mem _ hx))
  have ha:=h1 a (List.mem_cons_self ..)
  simp only [Aw] at h2
  rcases List.mem_cons.1 hr with rfl | hr
  ·omega
  ·exact ih (fun x hx=>h1 x (List.mem_cons_of_mem _ hx)) (by omega) r hr
theorem V0 {n : Int} {L : List Int} {id : Nat} (hn : 1 ≤ n) (hn6 : n ≤ 6) (hL : L.length < 4000000000) {h : AH} {k : Nat} {K : V → AH → Prop} (hg : h.get id = some (Ap L k)) (hk : k ≤ L.length) (hlo : h.lim ≤ id)
    (kk:∀ T j,C0 n T→T.length≤625→j≤L.length→K (.fl 3 (T.map Node.enc)) (h.put id (Ap L j))):Cq tp Q2 [.p id 0 0,.i .i64 n] h K:=by
 refine Gv aC2 (by simp [Nu]) hg fun hlm hid rp=>?_
 unfold Nu
 simp (disch:=omega)only[go_sem, *]
 refine TG hn (by omega) hL 4 (by omega) hg hk hlo ?_
 intro T j hT hTl hj
 have hg1:(h.put id (Ap L j)).get id=some (Ap L j):=by simp (disch:=omega)only[go_sem, *]
 have hf:=Ip (L:=T)
 have lit:∀ v2 j2 x,0≤v2→v2<n→j2≤L.length→x=h.next→∃ R j3,CY (h.next≤·) ((h.put id (Ap L j2)).alloc ⟨3,[[.i .i64 3,.i .i64 0,.i .i64 2],[.i .i64 1,.i .i64 v2,.i .i64 3],[.i .i64 2,.i .i64 0,.i .i64 2]]⟩) h.next (.sl x 0 3 3) R∧He h id (Ap L j3) ((h.put id (Ap L j2)).alloc ⟨3,[[.i .i64 3,.i .i64 0,.i .i64 2],[.i .i64 1,.i .i64 v2,.i .i64 3],[.i .i64 2,.i .i64 0,.i .i64 2]]⟩)∧K R (h.put id (Ap L j3)):=by
  rintro v2 j2 x h0 h1 h2 rfl
  have s0:Sl h.next ((h.put id (Ap L j2)).alloc ⟨3,(Hu v2).map Node.enc⟩) 3 (.sl h.next 0 3 3) ((Hu v2).map Node.enc):=Sl.new (Nat.le_refl _) (by simp [Hu])
  exact ⟨_,j2,Sl.frzb s0 (fun _=>rfl) (by simp [Hu]),Dh (Cm (He.same hg)) hid,kk _ j2 (aEq hn hn6 h0 h1) (by simp [Hu]) h2⟩
 simp only [Ap] at lit
 simp (disch:=omega)only[go_sem, *]
 refine Pf.go (Jt) (by simp only [go_sem]) fun _=>?_;simp (disch:=omega)only[go_sem, *]
 repeat' (first | (refine Av (fun hc=>?_) (fun hc=>?_)<;>simp (disch:=omega)only[go_sem, *]) | (refine Aa (fun hc=>?_) (fun hc=>?_)<;>simp (disch:=omega)only[go_sem, *]) | (refine Cw (fun hc=>?_) (fun hc=>?_)<;>simp (disch:=omega)only[go_sem, *]) | (refine Bh (fun hc=>?_) (fun hc=>?_)<;>simp (disch:=omega)only[go_sem, *]) | (refine Pf.go (HV (QZ hf)) (by simp only [go_sem]) fun _=>?_;simp (disch:=omega)only[go_sem, *]))
 all_goals first
  | (refine AO hg1 hj hL hlo ?_;intro v2 j2 h20 h21 h22 hj2;(have h23:v2<n:=by omega);simp (disch:=omega)only[go_sem, *])
  | (have h0 : (Fd T).2 = 0 := by omega
     exact ⟨_,j,.fl _ _ _,Cm (He.same hg),kk T j (C0.of hn h0 hT) (by omega) hj⟩)
end Go.Ab.T
namespace Go.Ab.T
open Go Go.Ab
set_option maxHeartbeats 2000000
@[go_sem] def RT.enc (r:List AK):List V:=[.fl 2 (r.map AK.enc)]
theorem Sl.sameV {b sz:Nat} {h:AH} {v:V} {R:List (List V)} (s:Sl b h sz v R):BQ v v=true:=by
 rcases s with ⟨hv,_⟩ | ⟨i,el,cap,cs,rfl,_⟩
 ·rcases hv with rfl | rfl<;>rfl
 ·exact Go.Ab.sameVa_sl
structure Ask (b id:Nat) (L:List Int) (vp vc:V) (T:List (List Node)) (h h':AH) (P:List Part) (Ch:List A1) (j:Nat):Prop where
 next:h.next+2≤h'.next
 lim:h'.lim=h.lim
 tape:h'.get id=some (Ap L j)
 jl:j≤L.length
 box:h'.get h.next=some ⟨3,[[vp,vc,.fl 1 (T.map Tab.enc)]]⟩
 res:h'.get (h.next+1)=some ⟨3,[[.ns,.ns,.ns]]⟩
 low:∀ i,i<b→i≠id→h'.get i=h.get i
 sp:Sl b h' 11 vp (P.map Part.enc)
 sc:Sl b h' 6 vc (Ch.map A1.enc)
 pl:AF vp=true∨Ar vp<h.next
 cl:AF vc=true∨Ar vc<h.next
 dj:AF vp=true∨AF vc=true∨Ar vp≠Ar vc
theorem AR {b sz:Nat} {h:AH} {v:V} {R:List (List V)} (s:Sl b h sz v R) (i:Nat) (k:BA) (hi:AF v=true∨i≠Ar v):Sl b (h.put i k) sz v R:=by
 rcases hi with hi | hi
 ·rcases s with ⟨a,c⟩ | ⟨_,_,_,_,rfl,_⟩
  ·exact .inl ⟨a,c⟩
  ·cases hi
 ·exact s.putx _ _ hi
section
variable {b id:Nat} {L:List Int} {vp vc:V} {T:List (List Node)} {h h':AH} {P:List Part} {Ch:List A1} {j:Nat}
theorem Ask.ext {h2:AH} (a:Ask b id L vp vc T h h' P Ch j) (hb:b≤h.next) (hid:id<b) (x:Aq h' h2):Ask b id L vp vc T h h2 P Ch j:=by
 have n1:=a.next;have n2:=x.next
 exact ⟨by omega,x.lim.trans a.lim,(x.get _ (by omega)).trans a.tape,a.jl,(x.get _ (by omega)).trans a.box,(x.get _ (by omega)).trans a.res,fun i hi hn=>(x.get i (by omega)).trans (a.low i hi hn),a.sp.ext x,a.sc.ext x,a.pl,a.cl,a.dj⟩
theorem Ask.tape2 {j2:Nat} (a:Ask b id L vp vc T h h' P Ch j) (hb:b≤h.next) (hid:id<b) (hj:j2≤L.length):Ask b id L vp vc T h (h'.put id (Ap L j2)) P Ch j2:=by
 have n1:=a.next
 refine ⟨n1,a.lim,by rw [Ae,Ax rfl],hj,by rw [Ae,Ag (by omega)];exact a.box,by rw [Ae,Ag (by omega)];exact a.res,fun i hi hn=>by rw [Ae,Ag hn];exact a.low i hi hn,AR a.sp _ _ ?_,AR a.sc _ _ ?_,a.pl,a.cl,a.dj⟩
 ·exact (AD a.sp).imp (fun x=>x) (fun x=>by omega)
 ·exact (AD a.sc).imp (fun x=>x) (fun x=>by omega)
theorem Ask.chan {i:Nat} (x:A1) (a:Ask b id L vp vc T h h' P Ch j) (hid:id<b) (hi:i<Ch.length):Ask b id L vp vc T h (h'.put (Ar vc) ⟨6,(A2 h' vc).set (Cx vc+i) x.enc⟩) P (Ch.set i x) j:=by
 obtain ⟨_,_,lt,lo,_⟩:=a.sc.facts
 have hnil:AF vc=false:=by
  rcases a.sc with ⟨_,hR⟩ | ⟨_,_,_,_,rfl,_⟩
  ·have:Ch=[]:=by simpa using hR
   subst this;simp at hi
  ·rfl
 have l1:=lo (by omega)
 have l2:Ar vc<h.next:=by rcases a.cl with q | q;(rw [q] at hnil;cases hnil);exact q
 have l3:AF vp=true∨Ar vp≠Ar vc:=by
  rcases a.dj with q | q | q
  ·exact .inl q
  ·rw [q] at hnil;cases hnil
  ·exact .inr q
 refine ⟨a.next,a.lim,by rw [Ae,Ag (by omega)];exact a.tape,a.jl,by rw [Ae,Ag (by omega)];exact a.box,by rw [Ae,Ag (by omega)];exact a.res,fun i hi hn=>by rw [Ae,Ag (by omega)];exact a.low i hi hn,AR a.sp _ _ (l3.imp (fun x=>x) (fun x=>Ne.symm x)), ?_,a.pl,a.cl,a.dj⟩
 exact Sl.setT a.sc hi (Nat.le_refl _) (by rw [Ae,Ax rfl])
theorem Ask.part {i:Nat} (x:Part) (a:Ask b id L vp vc T h h' P Ch j) (hid:id<b) (hi:i<P.length):Ask b id L vp vc T h (h'.put (Ar vp) ⟨11,(A2 h' vp).set (Cx vp+i) x.enc⟩) (P.set i x) Ch j:=by
 obtain ⟨_,_,lt,lo,_⟩:=a.sp.facts
 have hnil:AF vp=false:=by
  rcases a.sp with ⟨_,hR⟩ | ⟨_,_,_,_,rfl,_⟩
  ·have:P=[]:=by simpa using hR
   subst this;simp at hi
  ·rfl
 have l1:=lo (by omega)
 have l2:Ar vp<h.next:=by rcases a.pl with q | q;(rw [q] at hnil;cases hnil);exact q
 have l3:AF vc=true∨Ar vc≠Ar vp:=by
  rcases a.dj with q | q | q
  ·rw [q] at hnil;cases hnil
  ·exact .inl q
  ·exact .inr (Ne.symm q)
 refine ⟨a.next,a.lim,by rw [Ae,Ag (by omega)];exact a.tape,a.jl,by rw [Ae,Ag (by omega)];exact a.box,by rw [Ae,Ag (by omega)];exact a.res,fun i hi hn=>by rw [Ae,Ag (by omega)];exact a.low i hi hn, ?_,AR a.sc _ _ (l3.imp (fun x=>x) (fun x=>Ne.symm x)),a.pl,a.cl,a.dj⟩
 exact Sl.setT a.sp hi (Nat.le_refl _) (by rw [Ae,Ax rfl])
end
theorem oS {tp:TP} {f:Nat} {args args':List V} {h:AH} {K:V→AH→Prop} (id:Nat) (hz:BX (·=id) h h.next args args') (z:Cq tp f args' (h.kill id) K):Cq tp f args h K:=by
 intro S m hc args1 c p
 have wf:=c.wf
 have st:∀ r R,CY (·=id) h h.next r R→Cn h h r (·=id) R (h.kill id):=fun r R f=>⟨Nat.le_refl _,rfl,Nat.le_refl _,fun i k hk=>by
  rw [B4] at hk
  by_cases hd:i=id
  ·rw [Ax hd] at hk;cases hk
  ·rw [Ag hd] at hk
   exact ⟨(wf.2 i k hk).1,hd,k.cs,hk,(wf.2 i k hk).2 _ _⟩,f⟩
 obtain ⟨q1,q2,_⟩:=(st .u .u (.z _ _ .u)).ok c c (EH.refl c) (.u _ .u)
 refine (z _ m hc args1 q1 (BX.ok c hz p)).imp ?_
 rintro r1 hc' ⟨r,h',S',m',c',a',q,k⟩
 exact ⟨r,h',S',m',c',q2.trans a',q,k⟩
end Go.Ab.T
namespace Go.Ab.T
open Go Go.Ab
set_option maxHeartbeats 2000000
section
variable {b id:Nat} {L:List Int} {vp vc w:V} {T:List (List Node)} {R:List (List AK)} {h h':AH} {P:List Part} {Ch:List A1} {j:Nat}
def Wst (R:List (List AK)) (f t W:Int):Prop:=-1≤W∧W≤4096∧(0≤W→∀ r∈R,0≤C1 r f t∧C1 r f t≤W)
theorem Wst.neg {R:List (List AK)} {f t:Int}:Wst R f t (-1):=⟨by omega,by omega,fun h=>absurd h (by omega)⟩
theorem Wst.step {R:List (List AK)} {r:List AK} {f t W:Int} (h:Wst R f t W) (h0:0≤W) (hl:0≤C1 r f t) (hl2:C1 r f t≤4096):Wst (R++[r]) f t (max W (C1 r f t)):=by
 obtain ⟨a,c,d⟩:=h
 refine ⟨by omega,by omega,fun _ x hx=>?_⟩
 rcases List.mem_append.1 hx with hx | hx
 ·have:=d h0 x hx;omega
 ·rw [List.mem_singleton] at hx;subst hx;omega
theorem Dg {α:Type} [Inhabited α] {L:List α} {i:Nat} (hi:i<L.length):L.take (i+1)=L.take i++[nth L i]:=by
 rw [List.take_add_one,E0 hi];rfl
theorem Sb {K : Ex → Env → AH → Prop} {i m : Nat} {e : Env} (a : Ask b id L vp vc T h h' P Ch j) (hi : i < Ch.length) (sl : Sl m h' 1 w (R.map RT.enc)) (hR : ∀ r ∈ R, Hb r)
    (e0:e 0=.p id 0 0) (e3:e 3=.p h.next 0 0) (e4:e 4=.p (h.next+1) 0 0) (e5:e 5=w) (e10:e 10=.i .i64 i) (e11:e 11=.i .i64 0) (e40:e 40=vc) (e41:e 41=.i .i64 Ch.length) (e42:e 42=.i .i64 i) (e45:e 45=w) (e46:e 46=.i .i64 R.length) (e47:e 47=.i .i64 0)
    (kk:∀ e' W,e' 0=.p id 0 0→e' 3=.p h.next 0 0→e' 4=.p (h.next+1) 0 0→e' 5=w→e' 10=.i .i64 i→e' 11=.i .i64 W→e' 40=vc→e' 41=.i .i64 Ch.length→e' 42=.i .i64 i→Wst R (nth Ch i).src (nth Ch i).dst W→K (.ex 4) e' h'):ZC tp (.loop OS) e h' K:=by
 obtain ⟨clen,cbig,clt,EI,cget,cat,crow,ccell,ccells⟩:=a.sc.facts
 obtain ⟨wlen,wbig,wlt,wlo,wget,Id,wrow,wcell,wcells⟩:=sl.facts
 have hbox:=a.box
 have hsv:=Sl.sameV a.sc
 refine Ah (fun n e hh=>∃ (q:Nat) (W:Int),n=R.length - q∧hh=h'∧e 0=.p id 0 0∧e 3=.p h.next 0 0∧e 4=.p (h.next+1) 0 0∧e 5=w∧e 10=.i .i64 i∧e 11=.i .i64 W∧e 40=vc∧e 41=.i .i64 Ch.length∧e 42=.i .i64 i∧e 45=w∧e 46=.i .i64 R.length∧e 47=.i .i64 q∧q≤R.length∧Wst (R.take q) (nth Ch i).src (nth Ch i).dst W) ?_ _ _ _ ⟨0,0,rfl,rfl,e0,e3,e4,e5,e10,e11,e40,e41,e42,e45,e46,e47,by omega,by omega,by omega,fun _ r hr=>by simp at hr⟩
 clear e0 e3 e4 e5 e10 e11 e40 e41 e42 e45 e46 e47 e
 rintro n e hh ⟨q,W,rfl,rfl,e0,e3,e4,e5,e10,e11,e40,e41,e42,e45,e46,e47,hq,hW⟩ ih
 rw [Am OS.eq_1]
 simp (disch:=omega)only[go_sem, *]
 refine Aa (fun hc=>?_) (fun hc=>?_)
 ·have hf:=hR _ (AP (L:=R) (j:=q) (by omega))
  have hl1:=Xt (f:=(nth Ch i).src) (t:=(nth Ch i).dst) hf
  have hl2:=Fj (nth R q) (nth Ch i).src (nth Ch i).dst
  have hts:=Dg (L:=R) (i:=q) (by omega)
  have hstep:=fun h0 h1=>hW.step (r:=nth R q) h0 h1 hl1
  rw [← hts] at hstep
  clear hts
  simp (disch:=omega)only[go_sem, *]
  refine Pf.go (Js hf) (by simp only [go_sem]) fun _=>?_;simp (disch:=omega)only[go_sem, *]
  repeat' (first | (refine Av (fun hc=>?_) (fun hc=>?_)<;>simp (disch:=omega)only[go_sem, *]) | (refine Aa (fun hc=>?_) (fun hc=>?_)<;>simp (disch:=omega)only[go_sem, *]))
  ·refine ih _ _ _ ?_ ⟨q+1,-1,rfl, ?_⟩
   ·omega
   ·simp (disch:=omega)only[go_sem, *]
    ((repeat' refine And.intro ?_ ?_)<;>first | omega | assumption | (exact Wst.neg))
  ·refine ih _ _ _ ?_ ⟨q+1,-1,rfl, ?_⟩
   ·omega
   ·simp (disch:=omega)only[go_sem, *]
    ((repeat' refine And.intro ?_ ?_)<;>first | omega | assumption | (exact Wst.neg))
  ·refine ih _ _ _ ?_ ⟨q+1,max W (C1 (nth R q) (nth Ch i).src (nth Ch i).dst),rfl, ?_⟩
   ·omega
   ·simp (disch:=omega)only[go_sem, *]
    ((repeat' refine And.intro ?_ ?_)<;>first | omega | assumption | (exact hstep (by omega) (by omega)))
 ·have eq:q=R.length:=by omega
  subst eq
  rw [List.take_length] at hW
  simp (disch:=omega)only[go_sem, *]
  exact kk _ W e0 e3 e4 e5 e10 e11 e40 e41 e42 hW
def HJ (x:A1):Prop:=0≤x.top∧x.top≤4294967295
def CO (n:Int) (R:List (List AK)) (x:A1):Prop:=CG n x=true∧(∀ r∈R,BV r x=false)∧HJ x
theorem CO.late {n:Int} {x:A1} {W t:Int} (c:CO n R x) (hW:Wst R x.src x.dst W) (h0:0<W) (ht:0≤t):CO n R { x with late:=min (W+t) 4096 }:=by
 obtain ⟨w1,w2,w3⟩:=hW
 refine ⟨?_,fun r hr=>?_,c.2.2⟩
 ·have:=c.1
  unfold CG at this ⊢
  simp only [Bool.and_eq_true,decide_eq_true_eq] at this ⊢
  exact ⟨by omega,this.2⟩
 ·have:=w3 (by omega) r hr
  unfold BV
  simp only [decide_eq_false_iff_not]
  omega
theorem gH {α:Type} {l:List α} {i:Nat} {a:α} {p:α→Prop} (h:∀ x∈l,p x) (ha:p a):∀ x∈l.set i a,p x:=fun x hx=>by
 rcases List.mem_or_eq_of_mem_set hx with h1 | h1
 ·exact h x h1
 ·rw [h1];exact ha
theorem cP {K : Ex → Env → AH → Prop} {n : Int} {e : Env} (hb : b ≤ h.next) (hid : id < b) (hlo : h.lim ≤ id) (hL : L.length < 4000000000) (hR : ∀ r ∈ R, Hb r) (a : Ask b id L vp vc T h h' P Ch j) (sl : Sl (h.next + 2) h' 1 w (R.map RT.enc)) (hC : ∀ x ∈ Ch, CO n R x)
    (e0:e 0=.p id 0 0) (e3:e 3=.p h.next 0 0) (e4:e 4=.p (h.next+1) 0 0) (e5:e 5=w) (e40:e 40=vc) (e41:e 41=.i .i64 Ch.length) (e42:e 42=.i .i64 0)
    (kk:∀ e' h' Ch' j,e' 0=.p id 0 0→e' 3=.p h.next 0 0→e' 4=.p (h.next+1) 0 0→e' 5=w→Ask b id L vp vc T h h' P Ch' j→Sl (h.next+2) h' 1 w (R.map RT.enc)→(∀ x∈Ch',CO n R x)→Ch'.length=Ch.length→K (.ex 2) e' h'):ZC tp (.loop OT) e h' K:=by
 refine Ah (fun n' e hh=>∃ (q:Nat) (Ch':List A1) (j:Nat),n'=Ch.length - q∧e 0=.p id 0 0∧e 3=.p h.next 0 0∧e 4=.p (h.next+1) 0 0∧e 5=w∧e 40=vc∧e 41=.i .i64 Ch.length∧e 42=.i .i64 q∧q≤Ch.length∧Ch'.length=Ch.length∧Ask b id L vp vc T h hh P Ch' j∧Sl (h.next+2) hh 1 w (R.map RT.enc)∧(∀ x∈Ch',CO n R x)) ?_ _ _ _ ⟨0,Ch,j,rfl,e0,e3,e4,e5,e40,e41,e42,by omega,rfl,a,sl,hC⟩
 clear e0 e3 e4 e5 e40 e41 e42 e a sl hC
 rintro n' e hh ⟨q,Ch',j,rfl,e0,e3,e4,e5,e40,e41,e42,hq,hlen,a,sl,hC⟩ ih
 obtain ⟨clen,cbig,clt,EI,cget,cat,crow,ccell,ccells⟩:=a.sc.facts
 obtain ⟨wlen,wbig,wlt,wlo,wget,Id,wrow,wcell,wcells⟩:=sl.facts
 have hbox:=a.box
 rw [Am OT.eq_1]
 rw [← hlen] at e41
 simp (disch:=omega)only[go_sem, *]
 refine Aa (fun hc=>?_) (fun hc=>?_)
 ·simp (disch:=omega)only[go_sem, *]
  refine Sb (i:=q) a (by omega) sl hR (by simp (disch:=omega)only[go_sem, *]) (by simp (disch:=omega)only[go_sem, *]) (by simp (disch:=omega)only[go_sem, *]) (by simp (disch:=omega)only[go_sem, *]) (by simp (disch:=omega)only[go_sem, *]) (by simp (disch:=omega)only[go_sem, *]) (by simp (disch:=omega)only[go_sem, *]) (by simp (disch:=omega)only[go_sem, *]) (by simp (disch:=omega)only[go_sem, *]) (by simp (disch:=omega)only[go_sem, *]) (by simp (disch:=omega)only[go_sem, *]) (by simp (disch:=omega)only[go_sem, *]) ?_
  clear e0 e3 e4 e5 e40 e41 e42
  intro e' W e0 e3 e4 e5 e10 e11 e40 e41 e42 hW
  simp (disch:=omega)only[go_sem, *]
  refine Av (fun hw=>?_) (fun hw=>?_)
  ·simp (disch:=omega)only[go_sem, *]
   refine AO a.tape a.jl hL (by have:=a.lim;omega) ?_
   intro v j2 h0 h1 h2 hj2
   have a2:=a.tape2 hb hid hj2
   have sl2:Sl (h.next+2) (hh.put id (Ap L j2)) 1 w (R.map RT.enc):=AR sl _ _ ((AD sl).imp (fun x=>x) (fun x=>by omega))
   generalize hh.put id (Ap L j2)=h2 at a2 sl2 ⊢
   clear clen cbig clt EI cget cat crow ccell ccells wlen wbig wlt wlo wget Id wrow wcell wcells hbox sl
   obtain ⟨clen,cbig,clt,EI,cget,cat,crow,ccell,ccells⟩:=a2.sc.facts
   have hbox:=a2.box
   simp (disch:=omega)only[go_sem, *]
   refine Aa (fun hc3=>?_) (fun hc3=>?_)
   ·have hsv:=Sl.sameV a2.sc
    simp (disch:=omega)only[go_sem, *]
    refine AO a2.tape a2.jl hL (by have:=a2.lim;simp (disch:=omega)only[go_sem, *]<;>omega) ?_
    intro v2 j3 h20 h21 h22 hj3
    have a3:=a2.tape2 hb hid hj3
    have sl3:Sl (h.next+2) (h2.put id (Ap L j3)) 1 w (R.map RT.enc):=AR sl2 _ _ ((AD sl2).imp (fun x=>x) (fun x=>by omega))
    generalize h2.put id (Ap L j3)=h3 at a3 sl3 ⊢
    clear clen cbig clt EI cget cat crow ccell ccells hbox sl2 a2
    obtain ⟨clen,cbig,clt,EI,cget,cat,crow,ccell,ccells⟩:=a3.sc.facts
    have hbox:=a3.box
    have hlm:=a3.lim
    have hW2:W≤4096:=hW.2.1
    have hne:Ar vc≠h.next:=by
     rcases a3.cl with q | q
     ·rcases a3.sc with ⟨_,hR⟩ | ⟨_,_,_,_,rfl,_⟩
      ·have:Ch'=[]:=by simpa using hR
       subst this;simp at hlen;omega
      ·cases q
     ·omega
    have a4:=a3.chan (i:=q) { nth Ch' q with late:=min (W+v2) 4096 } hid (by omega)
    have hC4:=gH (i:=q) hC (CO.late (hC _ (AP (L:=Ch') (j:=q) (by omega))) hW hw h20)
    have sl4:Sl (h.next+2) (h3.put (Ar vc) ⟨6,(A2 h3 vc).set (Cx vc+q) ({ nth Ch' q with late:=min (W+v2) 4096 }:A1).enc⟩) 1 w (R.map RT.enc):=AR sl3 _ _ ((AD sl3).imp (fun x=>x) (fun x=>by have:=a3.cl;rcases this with q | q;(rcases a3.sc with ⟨_,hR⟩ | ⟨_,_,_,_,rfl,_⟩;(have:Ch'=[]:=by simpa using hR);(subst this;simp at hlen;omega);cases q);omega))
    simp only [A1.enc] at a4 sl4
    have hcl:(Ch'.set q { nth Ch' q with late:=min (W+v2) 4096 }).length=Ch.length:=by simp [hlen]
    clear a3 sl3 hC
    simp (disch:=omega)only[go_sem, *]
    refine ih _ _ _ ?_ ⟨q+1,Ch'.set q { nth Ch' q with late:=min (W+v2) 4096 },j3,rfl, ?_⟩
    ·omega
    ·simp (disch:=omega)only[go_sem, *]
     ((repeat' refine And.intro ?_ ?_)<;>first | omega | assumption | (exact a4) | (exact sl4) | (exact hC4))
   ·simp (disch:=omega)only[go_sem, *]
    refine ih _ _ _ ?_ ⟨q+1,Ch',j2,rfl, ?_⟩
    ·omega
    ·simp (disch:=omega)only[go_sem, *]
     ((repeat' refine And.intro ?_ ?_)<;>first | omega | assumption | (exact a2) | (exact sl2) | (exact hC))
  ·simp (disch:=omega)only[go_sem, *]
   refine ih _ _ _ ?_ ⟨q+1,Ch',j,rfl, ?_⟩
   ·omega
   ·simp (disch:=omega)only[go_sem, *]
    ((repeat' refine And.intro ?_ ?_)<;>first | omega | assumption | (exact a) | (exact sl) | (exact hC))
 ·simp (disch:=omega)only[go_sem, *]
  exact kk _ hh Ch' j e0 e3 e4 e5 a sl hC hlen
end
end Go.Ab.T
namespace Go.Ab.T
open Go Go.Ab
set_option maxHeartbeats 2000000
section
variable {b id:Nat} {L:List Int} {vp vc w:V} {T:List (List Node)} {R:List (List AK)} {h h':AH} {P:List Part} {Ch:List A1} {j:Nat}
theorem U7 {K : Ex → Env → AH → Prop} {pr k : Int} {e : Env} (h0 : 0 ≤ pr) (h1 : pr ≤ 9223372036854775807) (hk : k ≤ 5) (e0 : e 0 = .p id 0 0) (e3 : e 3 = .p h.next 0 0) (e4 : e 4 = .p (h.next + 1) 0 0) (e5 : e 5 = w) (e15 : e 15 = .i .i64 pr) (e16 : e 16 = .i .i64 k)
    (kk:∀ e' pr,e' 0=.p id 0 0→e' 3=.p h.next 0 0→e' 4=.p (h.next+1) 0 0→e' 5=w→e' 15=.i .i64 pr→K (.ex 6) e' h'):ZC tp (.loop OU) e h' K:=by
 refine Ah (fun n e hh=>∃ (k:Int),n=k.toNat∧hh=h'∧e 0=.p id 0 0∧e 3=.p h.next 0 0∧e 4=.p (h.next+1) 0 0∧e 5=w∧e 15=.i .i64 pr∧e 16=.i .i64 k∧k≤5) ?_ _ _ _ ⟨k,rfl,rfl,e0,e3,e4,e5,e15,e16,hk⟩
 clear e0 e3 e4 e5 e15 e16 e hk
 rintro n e hh ⟨k,rfl,rfl,e0,e3,e4,e5,e15,e16,hk⟩ ih
 rw [Am OU.eq_1]
 simp (disch:=omega)only[go_sem, *]
 refine Aa (fun hc=>?_) (fun hc=>?_)
 ·simp (disch:=omega)only[go_sem, *]
  refine Aa (fun hc2=>?_) (fun hc2=>?_)
  ·simp (disch:=omega)only[go_sem, *]
   exact kk _ (IntKind.i64.wrap (pr.tdiv k)) (by simp (disch:=omega)only[go_sem, *]) (by simp (disch:=omega)only[go_sem, *]) (by simp (disch:=omega)only[go_sem, *]) (by simp (disch:=omega)only[go_sem, *]) (by simp (disch:=omega)only[go_sem, *])
  ·simp (disch:=omega)only[go_sem, *]
   refine ih _ _ _ ?_ ⟨k - 1,rfl, ?_⟩
   ·omega
   ·simp (disch:=omega)only[go_sem, *]
    ((repeat' refine And.intro ?_ ?_)<;>first | omega | assumption | (skip))
 ·simp (disch:=omega)only[go_sem, *]
  exact kk _ pr e0 e3 e4 e5 e15
theorem cO {K : Ex → Env → AH → Prop} {i m : Nat} {pr N : Int} {e : Env} (sl : Sl m h' 1 w (R.map RT.enc)) (hR : ∀ r ∈ R, Hb r)
    (e0:e 0=.p id 0 0) (e3:e 3=.p h.next 0 0) (e4:e 4=.p (h.next+1) 0 0) (e5:e 5=w) (e15:e 15=.i .i64 pr) (e17:e 17=.i .i64 i) (e18:e 18=.i .i64 4096) (e113:e 113=.i .i64 N) (e114:e 114=.i .i64 i) (e117:e 117=w) (e118:e 118=.i .i64 R.length) (e119:e 119=.i .i64 0)
    (kk:∀ e' W,W≤4096→e' 0=.p id 0 0→e' 3=.p h.next 0 0→e' 4=.p (h.next+1) 0 0→e' 5=w→e' 15=.i .i64 pr→e' 17=.i .i64 i→e' 18=.i .i64 W→e' 113=.i .i64 N→e' 114=.i .i64 i→K (.ex 10) e' h'):ZC tp (.loop OV) e h' K:=by
 obtain ⟨wlen,wbig,wlt,wlo,wget,Id,wrow,wcell,wcells⟩:=sl.facts
 refine Ah (fun n e hh=>∃ (q:Nat) (W:Int),n=R.length - q∧hh=h'∧W≤4096∧e 0=.p id 0 0∧e 3=.p h.next 0 0∧e 4=.p (h.next+1) 0 0∧e 5=w∧e 15=.i .i64 pr∧e 17=.i .i64 i∧e 18=.i .i64 W∧e 113=.i .i64 N∧e 114=.i .i64 i∧e 117=w∧e 118=.i .i64 R.length∧e 119=.i .i64 q∧q≤R.length) ?_ _ _ _ ⟨0,4096,rfl,rfl,by omega,e0,e3,e4,e5,e15,e17,e18,e113,e114,e117,e118,e119,by omega⟩
 clear e0 e3 e4 e5 e15 e17 e18 e113 e114 e117 e118 e119 e
 rintro n e hh ⟨q,W,rfl,rfl,hW,e0,e3,e4,e5,e15,e17,e18,e113,e114,e117,e118,e119,hq⟩ ih
 rw [Am OV.eq_1]
 simp (disch:=omega)only[go_sem, *]
 refine Aa (fun hc=>?_) (fun hc=>?_)
 ·have hf:=hR _ (AP (L:=R) (j:=q) (by omega))
  simp (disch:=omega)only[go_sem, *]
  refine Pf.go (GS (p:=i) (P:=pr) hf) (by simp only [go_sem]) fun _=>?_;simp (disch:=omega)only[go_sem, *]
  refine ih _ _ _ ?_ ⟨q+1,min W (Gy (nth R q) i pr),rfl, ?_⟩
  ·omega
  ·simp (disch:=omega)only[go_sem, *]
   ((repeat' refine And.intro ?_ ?_)<;>first | omega | assumption | (skip))
 ·simp (disch:=omega)only[go_sem, *]
  exact kk _ W hW e0 e3 e4 e5 e15 e17 e18 e113 e114
def z0 (p:Part):Part:={ p with budget:=0,period:=0 }
theorem Zm {A B:List Part} {i:Nat} {x:Part} (h:A.map z0=B.map z0) (hi:i<A.length) (hx:z0 x=z0 (nth A i)):(A.set i x).map z0=B.map z0:=by
 rw [List.map_set,hx,←h]
 apply List.ext_getElem
 ·simp
 ·intro k h1 h2
  simp only [List.length_map] at h2
  by_cases e:i=k
  ·subst e;simp [Bz hi]
  ·rw [List.getElem_set_ne e]
theorem aFh {A:List Part} {q:Nat} (hq:q<A.length) (h:∀ k,k<q→nth A k=z0 (nth A k)):∀ k,k<q+1→nth (A.set q (z0 (nth A q))) k=z0 (nth (A.set q (z0 (nth A q))) k):=by
 intro k hk
 rw [Bz (by simp;omega),List.getElem_set]
 split
 ·rfl
 ·have:=h k (by omega)
  rw [Bz (by omega)] at this
  exact this
theorem cR {K : Ex → Env → AH → Prop} {pr : Int} {e : Env} (hb : b ≤ h.next) (hid : id < b) (hlo : h.lim ≤ id) (hL : L.length < 4000000000) (hR : ∀ r ∈ R, Hb r) (a : Ask b id L vp vc T h h' P Ch j) (sl : Sl (h.next + 2) h' 1 w (R.map RT.enc))
    (e0:e 0=.p id 0 0) (e3:e 3=.p h.next 0 0) (e4:e 4=.p (h.next+1) 0 0) (e5:e 5=w) (e15:e 15=.i .i64 pr) (e113:e 113=.i .i64 P.length) (e114:e 114=.i .i64 0)
    (kk:∀ e' h' P' j,e' 0=.p id 0 0→e' 3=.p h.next 0 0→e' 4=.p (h.next+1) 0 0→Ask b id L vp vc T h h' P' Ch j→P'.map z0=P.map z0→K (.ex 8) e' h'):ZC tp (.loop OW) e h' K:=by
 refine Ah (fun n' e hh=>∃ (q:Nat) (P':List Part) (j:Nat),n'=P.length - q∧e 0=.p id 0 0∧e 3=.p h.next 0 0∧e 4=.p (h.next+1) 0 0∧e 5=w∧e 15=.i .i64 pr∧e 113=.i .i64 P.length∧e 114=.i .i64 q∧q≤P.length∧Ask b id L vp vc T h hh P' Ch j∧Sl (h.next+2) hh 1 w (R.map RT.enc)∧P'.map z0=P.map z0) ?_ _ _ _ ⟨0,P,j,rfl,e0,e3,e4,e5,e15,e113,e114,by omega,a,sl,rfl⟩
 clear e0 e3 e4 e5 e15 e113 e114 e a sl
 rintro n' e hh ⟨q,P',j,rfl,e0,e3,e4,e5,e15,e113,e114,hq,a,sl,hz⟩ ih
 have hlen:=congrArg List.length hz
 simp only [List.length_map] at hlen
 obtain ⟨plen,pbig,plt,plo,pget,pat,prow,pcell,pcells⟩:=a.sp.facts
 obtain ⟨wlen,wbig,wlt,wlo,wget,Id,wrow,wcell,wcells⟩:=sl.facts
 have hbox:=a.box
 rw [Am OW.eq_1]
 rw [← hlen] at e113
 simp (disch:=omega)only[go_sem, *]
 refine Aa (fun hc=>?_) (fun hc=>?_)
 ·simp (disch:=omega)only[go_sem, *]
  refine cO (h:=h) (id:=id) (i:=q) (pr:=pr) (N:=P'.length) sl hR (by simp (disch:=omega)only[go_sem, *]) (by simp (disch:=omega)only[go_sem, *]) (by simp (disch:=omega)only[go_sem, *]) (by simp (disch:=omega)only[go_sem, *]) (by simp (disch:=omega)only[go_sem, *]) (by simp (disch:=omega)only[go_sem, *]) (by simp (disch:=omega)only[go_sem, *]) (by simp (disch:=omega)only[go_sem, *]) (by simp (disch:=omega)only[go_sem, *]) (by simp (disch:=omega)only[go_sem, *]) (by simp (disch:=omega)only[go_sem, *]) (by simp (disch:=omega)only[go_sem, *]) ?_
  clear e0 e3 e4 e5 e15 e113 e114
  intro e' W hW e0 e3 e4 e5 e15 e17 e18 e113 e114
  simp (disch:=omega)only[go_sem, *]
  refine Av (fun hw=>?_) (fun hw=>?_)
  ·simp (disch:=omega)only[go_sem, *]
   refine AO a.tape a.jl hL (by have:=a.lim;omega) ?_
   intro v j2 h0 h1 h2 hj2
   have a2:=a.tape2 hb hid hj2
   have sl2:Sl (h.next+2) (hh.put id (Ap L j2)) 1 w (R.map RT.enc):=AR sl _ _ ((AD sl).imp (fun x=>x) (fun x=>by omega))
   generalize hh.put id (Ap L j2)=h2 at a2 sl2 ⊢
   clear plen pbig plt plo pget pat prow pcell pcells wlen wbig wlt wlo wget Id wrow wcell wcells hbox sl
   obtain ⟨plen,pbig,plt,plo,pget,pat,prow,pcell,pcells⟩:=a2.sp.facts
   have hbox:=a2.box
   simp (disch:=omega)only[go_sem, *]
   refine Aa (fun hc3=>?_) (fun hc3=>?_)
   ·have hsv:=Sl.sameV a2.sp
    simp (disch:=omega)only[go_sem, *]
    refine AO a2.tape a2.jl hL (by have:=a2.lim;simp (disch:=omega)only[go_sem, *]<;>omega) ?_
    intro v2 j3 h20 h21 h22 hj3
    have a3:=a2.tape2 hb hid hj3
    have sl3:Sl (h.next+2) (h2.put id (Ap L j3)) 1 w (R.map RT.enc):=AR sl2 _ _ ((AD sl2).imp (fun x=>x) (fun x=>by omega))
    generalize h2.put id (Ap L j3)=h3 at a3 sl3 ⊢
    clear plen pbig plt plo pget pat prow pcell pcells hbox sl2 a2
    obtain ⟨plen,pbig,plt,plo,pget,pat,prow,pcell,pcells⟩:=a3.sp.facts
    have hbox:=a3.box
    have hlm:=a3.lim
    have hne:Ar vp<h.next:=by
     rcases a3.pl with q | q
     ·rcases a3.sp with ⟨_,hR⟩ | ⟨_,_,_,_,rfl,_⟩
      ·have:P'=[]:=by simpa using hR
       subst this;simp at hlen;omega
      ·cases q
     ·exact q
    have hrl:=a3.sp.rowlt (j:=q) (by simp;omega)
    have a4:=a3.part (i:=q) { nth P' q with budget:=max (W - v2) 1,period:=pr } hid (by omega)
    have hz4:=Zm (i:=q) (x:={ nth P' q with budget:=max (W - v2) 1,period:=pr }) hz (by omega) rfl
    have sl4:Sl (h.next+2) (h3.put (Ar vp) ⟨11,(A2 h3 vp).set (Cx vp+q) ({ nth P' q with budget:=max (W - v2) 1,period:=pr }:Part).enc⟩) 1 w (R.map RT.enc):=AR sl3 _ _ ((AD sl3).imp (fun x=>x) (fun x=>by omega))
    simp only [Part.enc] at a4 sl4
    clear a3 sl3 hz
    simp (disch:=omega)only[go_sem, *]
    refine ih _ _ _ ?_ ⟨q+1,P'.set q { nth P' q with budget:=max (W - v2) 1,period:=pr },j3,rfl, ?_⟩
    ·omega
    ·simp (disch:=omega)only[go_sem, *]
     ((repeat' refine And.intro ?_ ?_)<;>first | omega | assumption | (exact a4) | (exact sl4) | (exact hz4))
   ·simp (disch:=omega)only[go_sem, *]
    refine ih _ _ _ ?_ ⟨q+1,P',j2,rfl, ?_⟩
    ·omega
    ·simp (disch:=omega)only[go_sem, *]
     ((repeat' refine And.intro ?_ ?_)<;>first | omega | assumption | (exact a2) | (exact sl2) | (exact hz))
  ·simp (disch:=omega)only[go_sem, *]
   refine ih _ _ _ ?_ ⟨q+1,P',j,rfl, ?_⟩
   ·omega
   ·simp (disch:=omega)only[go_sem, *]
    ((repeat' refine And.intro ?_ ?_)<;>first | omega | assumption | (exact a) | (exact sl) | (exact hz))
 ·simp (disch:=omega)only[go_sem, *]
  exact kk _ hh P' j e0 e3 e4 a hz
theorem aCJ {K : Ex → Env → AH → Prop} {e : Env} (hb : b ≤ h.next) (hid : id < b) (hlo : h.lim ≤ id) (a : Ask b id L vp vc T h h' P Ch j)
    (e0:e 0=.p id 0 0) (e3:e 3=.p h.next 0 0) (e4:e 4=.p (h.next+1) 0 0) (e159:e 159=.i .i64 P.length) (e160:e 160=.i .i64 0)
    (kk:∀ e' h',e' 0=.p id 0 0→e' 3=.p h.next 0 0→e' 4=.p (h.next+1) 0 0→Ask b id L vp vc T h h' (P.map z0) Ch j→K (.ex 12) e' h'):ZC tp (.loop OX) e h' K:=by
 refine Ah (fun n' e hh=>∃ (q:Nat) (P':List Part),n'=P.length - q∧e 0=.p id 0 0∧e 3=.p h.next 0 0∧e 4=.p (h.next+1) 0 0∧e 159=.i .i64 P.length∧e 160=.i .i64 q∧q≤P.length∧Ask b id L vp vc T h hh P' Ch j∧P'.map z0=P.map z0∧∀ k,k<q→nth P' k=z0 (nth P' k)) ?_ _ _ _ ⟨0,P,rfl,e0,e3,e4,e159,e160,by omega,a,rfl,fun k hk=>by omega⟩
 clear e0 e3 e4 e159 e160 e a
 rintro n' e hh ⟨q,P',rfl,e0,e3,e4,e159,e160,hq,a,hz,hq0⟩ ih
 have hlen:=congrArg List.length hz
 simp only [List.length_map] at hlen
 obtain ⟨plen,pbig,plt,plo,pget,pat,prow,pcell,pcells⟩:=a.sp.facts
 have hbox:=a.box
 have hlm:=a.lim
 have hsv:=Sl.sameV a.sp
 rw [Am OX.eq_1]
 rw [← hlen] at e159
 have hq1:=hq0
 clear hq0
 simp (disch:=omega)only[go_sem, *]
 refine Aa (fun hc=>?_) (fun hc=>?_)
 ·have hne:Ar vp<h.next:=by
   rcases a.pl with q | q
   ·rcases a.sp with ⟨_,hR⟩ | ⟨_,_,_,_,rfl,_⟩
    ·have:P'=[]:=by simpa using hR
     subst this;simp at hlen;omega
    ·cases q
   ·exact q
  have hrl:=a.sp.rowlt (j:=q) (by simp;omega)
  have a4:=a.part (i:=q) (z0 (nth P' q)) hid (by omega)
  have hz4:=Zm (i:=q) (x:=z0 (nth P' q)) hz (by omega) rfl
  simp only [Part.enc,z0] at a4
  simp (disch:=omega)only[go_sem, *]
  refine ih _ _ _ ?_ ⟨q+1,P'.set q (z0 (nth P' q)),rfl, ?_⟩
  ·omega
  ·simp (disch:=omega)only[go_sem, *]
   ((repeat' refine And.intro ?_ ?_)<;>first | omega | assumption | (exact a4) | (exact hz4) | (exact aFh (by omega) hq1))
 ·have e:P'=P.map z0:=by
   rw [← hz]
   apply List.ext_getElem
   ·simp
   ·intro k h1 h2
    have:=hq1 k (by omega)
    rw [Bz h1] at this
    simp only [List.getElem_map]
    exact this
  subst e
  simp (disch:=omega)only[go_sem, *]
  exact kk _ hh e0 e3 e4 a
end
end Go.Ab.T
namespace Go.Ab.T
open Go Go.Ab
set_option maxHeartbeats 4000000
theorem H3 {C:An}:∀ (l:List (List Node)) (i:Nat),(Cd C i l).1=0→Cd C i l=(0,-1)
 | [],i,_=>rfl
 | t::l,i,h=>by
  rw [Cd] at h ⊢
  split at h
  ·rename_i h2;exact absurd h h2
  ·rename_i h2;rw [if_neg h2];exact H3 l _ h
theorem G6 {C:An}:∀ (l:List A1) (i:Nat),(Bv C i l).1=0→Bv C i l=(0,-1)
 | [],i,h=>by rw [Bv] at h ⊢;exact H3 _ _ h
 | t::l,i,h=>by
  rw [Bv] at h ⊢
  split at h
  ·simp at h
  ·rename_i h2;rw [if_neg h2];exact G6 l _ h
theorem G7 {C:An}:∀ (l:List Part) (i:Nat),(Bl C i l).1=0→Bl C i l=(0,-1)
 | [],i,h=>by rw [Bl] at h ⊢;exact G6 _ _ h
 | t::l,i,h=>by
  rw [Bl] at h ⊢
  split at h
  ·simp at h
  ·rename_i h2;rw [if_neg h2]
   split at h
   ·simp at h
   ·rename_i h3;rw [if_neg h3];exact G7 l _ h
theorem QE {C:An} (h:(Bb C).1=0):Bb C=(0,-1):=by
 unfold Bb at h ⊢
 split at h
 ·simp at h
 ·rename_i h2;rw [if_neg h2];exact G7 _ _ h
noncomputable def rn (t:List Node):List AK:=(Fd t).1
section
variable {b id:Nat} {L:List Int} {vp vc w:V} {T:List (List Node)} {R:List (List AK)} {h h':AH} {P:List Part} {Ch:List A1} {j:Nat}
theorem Ask.grown {b':Nat} {x v:V} {h2:AH} (a:Ask b id L vp vc T h h' P Ch j) (hb:b≤h.next) (hid:id<b) (g:Grown b' h' x v h2) (hx:AF x=true∨h.next+2≤Ar x):Ask b id L vp vc T h h2 P Ch j:=by
 have n1:=a.next;have n2:=g.next
 have gg:∀ i,i<h.next+2→h2.get i=h'.get i:=fun i hi=>g.get i (by omega) (hx.imp (fun x=>x) (fun x=>by omega))
 refine ⟨by omega,g.lim.trans a.lim,(gg _ (by omega)).trans a.tape,a.jl,(gg _ (by omega)).trans a.box,(gg _ (by omega)).trans a.res,fun i hi hn=>(gg i (by omega)).trans (a.low i hi hn), ?_, ?_,a.pl,a.cl,a.dj⟩
 ·rcases a.pl with q | q
  ·rcases a.sp with ⟨c,d⟩ | ⟨_,_,_,_,rfl,_⟩
   ·exact .inl ⟨c,d⟩
   ·cases q
  ·exact a.sp.same n2 (fun _=>gg _ (by omega))
 ·rcases a.cl with q | q
  ·rcases a.sc with ⟨c,d⟩ | ⟨_,_,_,_,rfl,_⟩
   ·exact .inl ⟨c,d⟩
   ·cases q
  ·exact a.sc.same n2 (fun _=>gg _ (by omega))
theorem aCI {K : Ex → Env → AH → Prop} {e : Env} (hb : b ≤ h.next) (hid : id < b) (hlo : h.lim ≤ id) (hT : T.length ≤ 3) (a : Ask b id L vp vc T h h' P Ch j)
    (e0:e 0=.p id 0 0) (e3:e 3=.p h.next 0 0) (e4:e 4=.p (h.next+1) 0 0) (e5:e 5=.ns) (e23:e 23=.fl 1 (T.map Tab.enc)) (e24:e 24=.i .i64 T.length) (e25:e 25=.i .i64 0)
    (kk:∀ e' h' w,e' 0=.p id 0 0→e' 3=.p h.next 0 0→e' 4=.p (h.next+1) 0 0→e' 5=w→Ask b id L vp vc T h h' P Ch j→Sl (h.next+2) h' 1 w ((T.map rn).map RT.enc)→K (.ex 0) e' h'):ZC tp (.loop T4) e h' K:=by
 refine Ah (fun n' e hh=>∃ (q:Nat) (w:V),n'=T.length - q∧e 0=.p id 0 0∧e 3=.p h.next 0 0∧e 4=.p (h.next+1) 0 0∧e 5=w∧e 23=.fl 1 (T.map Tab.enc)∧e 24=.i .i64 T.length∧e 25=.i .i64 q∧q≤T.length∧Ask b id L vp vc T h hh P Ch j∧Sl (h.next+2) hh 1 w (((T.take q).map rn).map RT.enc)) ?_ _ _ _ ⟨0,.ns,rfl,e0,e3,e4,e5,e23,e24,e25,by omega,a,Sl.nil _ _ _⟩
 clear e0 e3 e4 e5 e23 e24 e25 e a
 rintro n' e hh ⟨q,w,rfl,e0,e3,e4,e5,e23,e24,e25,hq,a,sl⟩ ih
 have hlm:=a.lim
 have hnx:=a.next
 have hwl:=AD sl
 rw [Am T4.eq_1]
 simp (disch:=omega)only[go_sem, *]
 refine Aa (fun hc=>?_) (fun hc=>?_)
 ·have hts:=Dg (L:=T) (i:=q) (by omega)
  simp (disch:=omega)only[go_sem, *]
  refine Pf.go (Jt) (by simp only [go_sem]) fun _=>?_;simp (disch:=omega)only[go_sem, *]
  refine AA (sl.alloc _) (by simp (disch:=omega)only[go_sem, *]<;>omega) (by simp (disch:=omega)only[go_sem, *]<;>omega) (by simp;omega) ?_
  intro w2 h4 s4 g4
  have a4:=(a.ext hb hid ((Aq.refl _).alloc _)).grown hb hid g4 hwl
  have s5:Sl (h.next+2) h4 1 w2 (((T.take (q+1)).map rn).map RT.enc):=by rw [hts];simpa [RT.enc,rn] using s4
  clear hts s4
  simp (disch:=omega)only[go_sem, *]
  refine ih _ _ _ ?_ ⟨q+1,w2,rfl, ?_⟩
  ·omega
  ·simp (disch:=omega)only[go_sem, *]
   ((repeat' refine And.intro ?_ ?_)<;>first | omega | assumption | (exact a4) | (exact s5))
 ·have eq:q=T.length:=by omega
  subst eq
  rw [List.take_length] at sl
  simp (disch:=omega)only[go_sem, *]
  exact kk _ hh w e0 e3 e4 e5 a sl
end
end Go.Ab.T
namespace Go.Ab.T
open Go Go.Ab
set_option maxHeartbeats 4000000
theorem XB {P P':List Part} (h:P'.map z0=P.map z0) {p:Part} (hp:p∈P'):∃ q∈P,q.name=p.name:=by
 have:z0 p∈P.map z0:=by rw [← h];exact List.mem_map_of_mem hp
 obtain ⟨q,hq,e⟩:=List.mem_map.1 this
 exact ⟨q,hq,by have:=congrArg Part.name e;exact this⟩
structure Zy (P:List Part) (Ch:List A1) (T:List (List Node)):Prop where
 z:P.map z0=P
 p1:1≤P.length
 p2:P.length≤6
 c:Ch.length≤8
 t1:1≤T.length
 t2:T.length≤3
 parts:∀ i,i<P.length→TU P i
 chans:∀ x∈Ch,CG P.length x=true∧x.late=0∧HJ x
 tabs:∀ t∈T,C0 P.length t
 nm:∀ p∈P,p.name.size<4000000000
theorem Zy.where_ {P:List Part} {Ch Ch':List A1} {T:List (List Node)} (g:Zy P Ch T) (hl:Ch'.length=Ch.length) (hc:∀ x∈Ch',CO P.length (T.map rn) x):Bb ⟨P,Ch',T⟩=(0,-1):=by
 rw [EG]
 refine ⟨⟨g.p1,g.p2,by rw [hl];exact g.c,g.t1,g.t2⟩,g.parts,fun x hx=>(hc x hx).1,fun t ht=>?_⟩
 rw [Gs]
 refine ⟨g.tabs t ht, ?_⟩
 rw [I6]
 refine ⟨?_,E4 _ _ fun p hp=>?_⟩
 ·rw [List.any_eq_false]
  intro x hx
  change ¬ BV (rn t) x=true
  rw [(hc x hx).2.1 _ (List.mem_map_of_mem ht)]
  simp
 ·have:p∈P.map z0:=by rw [g.z];exact hp
  obtain ⟨q,_,rfl⟩:=List.mem_map.1 this
  rfl
theorem Kh:∀ (L:List AK) (a:Int),0≤a→a≤9223372036854775807→0≤G5 L a∧G5 L a≤9223372036854775807
 | [],a,h0,h1=>⟨h0,h1⟩
 | r::l,a,h0,h1=>Kh l _ (Et).1 (Et).2
theorem cQ {b id k : Nat} {L : List Int} {vp vc : V} {T : List (List Node)} {h : AH} {P : List Part} {Ch : List A1} {K : V → AH → Prop} (g : Zy P Ch T) (hL : L.length < 4000000000) (hk : k ≤ L.length) (hb : b ≤ h.next) (hid : id < b) (hlo : h.lim ≤ id) (hg : h.get id = some (Ap L k))
    (sp:Sl b h 11 vp (P.map Part.enc)) (sc:Sl b h 6 vc (Ch.map A1.enc)) (dj:AF vp=true∨AF vc=true∨Ar vp≠Ar vc)
    (kk:∀ P' Ch' h' j,j≤L.length→(∀ x∈Ch',HJ x)→Bb ⟨P',Ch',T⟩=(0,-1)→Hc ⟨P',Ch',T⟩→P'.length=P.length→Ch'.length=Ch.length→h.next≤h'.next→h'.lim=h.lim→h'.get id=some (Ap L j)→(∀ i,i<b→i≠id→h'.get i=h.get i)→Sl b h' 11 vp (P'.map Part.enc)→Sl b h' 6 vc (Ch'.map A1.enc)→K (.agg [vp,vc,.fl 1 (T.map Tab.enc)]) h'):
    Cq tp Q3 [.p id 0 0,.agg [vp,vc,.fl 1 (T.map Tab.enc)]] h K:=by
 have pl:=CW sp
 have cl:=CW sc
 obtain ⟨plen,pbig,plt,plo,pget,pat,prow,pcell,pcells⟩:=sp.facts
 obtain ⟨clen,cbig,clt,EI,cget,cat,crow,ccell,ccells⟩:=sc.facts
 have ht2:=g.t2
 have ht1:=g.t1
 have hp2:=g.p2
 have hc2:=g.c
 have hRf:∀ r∈T.map rn,Hb r:=fun r hr=>by obtain ⟨t,_,rfl⟩:=List.mem_map.1 hr;exact Ip
 have hC0:∀ x∈Ch,CO P.length (T.map rn) x:=fun x hx=>⟨(g.chans x hx).1,fun r _=>by unfold BV;rw [(g.chans x hx).2.1];simp,(g.chans x hx).2.2⟩
 refine Ac aC3 (by simp [Nv]) fun wf rp=>?_
 unfold Nv
 simp (disch:=omega)only[go_sem, *]
 have x0:Aq h ((h.alloc ⟨3,[[vp,vc,.fl 1 (T.map Tab.enc)]]⟩).alloc ⟨3,[[.ns,.ns,.ns]]⟩):=by (repeat (first | exact Aq.refl _ | refine Aq.alloc ?_ _ | (refine Aq.put ?_ _ _ ?_;rotate_left;(first | omega | (simp only [Af,Ai];omega)))))
 have a0:Ask b id L vp vc T h ((h.alloc ⟨3,[[vp,vc,.fl 1 (T.map Tab.enc)]]⟩).alloc ⟨3,[[.ns,.ns,.ns]]⟩) P Ch k:=⟨by simp (disch:=omega)only[go_sem, *],rfl,(x0.get _ (by omega)).trans hg,hk,by simp (disch:=omega)only[go_sem, *],by simp (disch:=omega)only[go_sem, *],fun i hi _=>x0.get i (by omega),sp.ext x0,sc.ext x0,pl,cl,dj⟩
 clear plen pbig plt plo pget pat prow pcell pcells clen cbig clt EI cget cat crow ccell ccells sp sc x0
 refine aCI hb hid hlo g.t2 a0 (by simp (disch:=omega)only[go_sem, *]) (by simp (disch:=omega)only[go_sem, *]) (by simp (disch:=omega)only[go_sem, *]) (by simp (disch:=omega)only[go_sem, *]) (by simp (disch:=omega)only[go_sem, *]) (by simp (disch:=omega)only[go_sem, *]) (by simp (disch:=omega)only[go_sem, *]) ?_
 clear a0
 intro e h1 w e0 e3 e4 e5 a sl
 have hbox:=a.box
 obtain ⟨clen,cbig,clt,EI,cget,cat,crow,ccell,ccells⟩:=a.sc.facts
 simp (disch:=omega)only[go_sem, *]
 refine cP hb hid hlo hL hRf a sl hC0 (by simp (disch:=omega)only[go_sem, *]) (by simp (disch:=omega)only[go_sem, *]) (by simp (disch:=omega)only[go_sem, *]) (by simp (disch:=omega)only[go_sem, *]) (by simp (disch:=omega)only[go_sem, *]) (by simp (disch:=omega)only[go_sem, *]) (by simp (disch:=omega)only[go_sem, *]) ?_
 clear e0 e3 e4 e5 a sl hbox clen cbig clt EI cget cat crow ccell ccells e h1 hC0
 intro e h2 Ch' j e0 e3 e4 e5 a sl hC hCl
 obtain ⟨wlen,wbig,wlt,wlo,wget,Id,wrow,wcell,wcells⟩:=sl.facts
 have hr0:=QZ (hRf _ (AP (L:=T.map rn) (j:=0) (by simp;omega)))
 have hw0:(A2 h2 w)[Cx w]?=some (RT.enc (nth (T.map rn) 0)):=by have:=wrow 0 (by simp;omega);simpa using this
 have hml:(T.map rn).length=T.length:=List.length_map ..
 simp (disch:=omega)only[go_sem, *]
 refine Pf.go (HV hr0) (by simp only [go_sem]) fun _=>?_;simp (disch:=omega)only[go_sem, *]
 refine AO a.tape a.jl hL (by have:=a.lim;omega) ?_
 intro v j2 v0 v1 v2 hj2
 have a2:=a.tape2 hb hid hj2
 have sl2:Sl (h.next+2) (h2.put id (Ap L j2)) 1 w ((T.map rn).map RT.enc):=AR sl _ _ ((AD sl).imp (fun x=>x) (fun x=>by omega))
 generalize h2.put id (Ap L j2)=h3 at a2 sl2 ⊢
 clear wlen wbig wlt wlo wget Id wrow wcell wcells sl a
 simp (disch:=omega)only[go_sem, *]
 refine U7 (h:=h) (id:=id) (w:=w) (pr:=G5 (nth (T.map rn) 0) 0) (k:=2+v) (Kh _ _ (by omega) (by omega)).1 (Kh _ _ (by omega) (by omega)).2 (by omega) (by simp (disch:=omega)only[go_sem, *]) (by simp (disch:=omega)only[go_sem, *]) (by simp (disch:=omega)only[go_sem, *]) (by simp (disch:=omega)only[go_sem, *]) (by simp (disch:=omega)only[go_sem, *]) (by simp (disch:=omega)only[go_sem, *]) ?_
 clear e0 e3 e4 e5 e
 intro e pr e0 e3 e4 e5 e15
 have hbox:=a2.box
 obtain ⟨plen,pbig,plt,plo,pget,pat,prow,pcell,pcells⟩:=a2.sp.facts
 simp (disch:=omega)only[go_sem, *]
 refine cR (pr:=pr) hb hid hlo hL hRf a2 sl2 (by simp (disch:=omega)only[go_sem, *]) (by simp (disch:=omega)only[go_sem, *]) (by simp (disch:=omega)only[go_sem, *]) (by simp (disch:=omega)only[go_sem, *]) (by simp (disch:=omega)only[go_sem, *]) (by simp (disch:=omega)only[go_sem, *]) (by simp (disch:=omega)only[go_sem, *]) ?_
 clear e0 e3 e4 e5 e15 plen pbig plt plo pget pat prow pcell pcells hbox a2 sl2 e
 intro e h4 P' j4 e0 e3 e4 a hz
 have hnm:Hc ⟨P',Ch',T⟩:=fun p hp=>by obtain ⟨q,hq,e⟩:=XB hz hp;rw [← e];exact g.nm q hq
 have hlen:=congrArg List.length hz
 simp only [List.length_map] at hlen
 have hbox:=a.box
 obtain ⟨plen,pbig,plt,plo,pget,pat,prow,pcell,pcells⟩:=a.sp.facts
 obtain ⟨clen,cbig,clt,EI,cget,cat,crow,ccell,ccells⟩:=a.sc.facts
 simp (disch:=omega)only[go_sem, *]
 refine Pf.look (Ku hnm) (.cons _ _ _ _ _ (.agg _ _ _ (.cons _ _ _ _ _ (a.sp.froze (fun _=>rfl) trivial (by omega)) (.cons _ _ _ _ _ (a.sc.froze (fun _=>rfl) trivial (by omega)) (.cons _ _ _ _ _ (.fl _ _ _) (.nil _))))) (.nil _)) rfl fun _=>?_
 have fin:∀ (P':List Part) h5,Ask b id L vp vc T h h5 P' Ch' j4→Bb ⟨P',Ch',T⟩=(0,-1)→P'.map z0=P.map z0→K (.agg [vp,vc,.fl 1 (T.map Tab.enc)]) (h5.put (h.next+1) ⟨3,[[vp,vc,.fl 1 (T.map Tab.enc)]]⟩):=by
  intro P' h5 a hw hz
  have n5:=a.next
  have hlen:=congrArg List.length hz
  simp only [List.length_map] at hlen
  have hnm:Hc ⟨P',Ch',T⟩:=fun p hp=>by obtain ⟨q,hq,e⟩:=XB hz hp;rw [← e];exact g.nm q hq
  refine kk P' Ch' _ j4 a.jl (fun x hx=>(hC x hx).2.2) hw hnm hlen hCl (by rw [Ai];omega) a.lim (by rw [Ae,Ag (by omega)];exact a.tape) (fun i hi hn=>by rw [Ae,Ag (by omega)];exact a.low i hi hn) (AR a.sp _ _ (a.pl.imp (fun x=>x) (fun x=>by omega))) (AR a.sc _ _ (a.cl.imp (fun x=>x) (fun x=>by omega)))
 have hres:=a.res
 have hlm:=a.lim
 simp (disch:=omega)only[go_sem, *]
 refine Aa (fun hc=>?_) (fun hc=>?_)
 ·simp (disch:=omega)only[go_sem, *]
  refine aCJ hb hid hlo a (by simp (disch:=omega)only[go_sem, *]) (by simp (disch:=omega)only[go_sem, *]) (by simp (disch:=omega)only[go_sem, *]) (by simp (disch:=omega)only[go_sem, *]) (by simp (disch:=omega)only[go_sem, *]) ?_
  clear e0 e3 e4 plen pbig plt plo pget pat prow pcell pcells clen cbig clt EI cget cat crow ccell ccells hbox hres hlm e
  intro e h5 e0 e3 e4 a
  rw [hz,g.z] at a
  have hbox:=a.box
  have hres:=a.res
  have hlm:=a.lim
  obtain ⟨plen,pbig,plt,plo,pget,pat,prow,pcell,pcells⟩:=a.sp.facts
  obtain ⟨clen,cbig,clt,EI,cget,cat,crow,ccell,ccells⟩:=a.sc.facts
  have f:=fin P h5 a (g.where_ hCl hC) rfl
  clear fin
  simp (disch:=omega)only[go_sem, *]
 ·have f:=fin P' h4 a (QE (by omega)) hz
  clear fin
  simp (disch:=omega)only[go_sem, *]
end Go.Ab.T
