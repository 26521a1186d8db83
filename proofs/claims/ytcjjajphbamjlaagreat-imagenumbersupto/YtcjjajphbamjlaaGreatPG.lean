/- Part of a proof that a law returns true for every input of the second form's bound (no other condition). -/
import Derived.Test.YtcjjajphbamjlaaGreatPF
set_option linter.all false
namespace Go.Ab.T
open Go Go.Ab
theorem lW {L:List AI} (hok:EN L):Pf tp X4 [.fl 2 (L.map AI.enc)] (.fl 2 ((Bu L []).map AI.enc)):=by
 refine AD aFV (by simp [OW]) fun rp=>?_;unfold OW;simp (disch:=omega)only[go_sem, *]
 have hL:=rp.head.len
 refine Ae (fun n e h=>∃ (i:Nat) (out:V) (A:List AI),n=L.length - i∧h.lim=0∧e 7=.fl 2 (L.map AI.enc)∧e 8=.i .i64 L.length∧e 9=.i .i64 i∧e 3=out∧i≤L.length∧A.length≤i∧Sl 0 h 2 out (A.map AI.enc)∧EN A∧Bu (L.drop i) A=Bu L []) ?_ _ _ _ ⟨0,.ns,[],rfl, ?_⟩
 ·rintro n e h ⟨i,out,A,rfl,hl,e7,e8,e9,e3,hi,hA,so,okA,hz⟩ ih
  rw [Ai Vq.eq_1]
  simp (disch:=omega)only[go_sem, *]
  obtain ⟨olen,obig,olt,olo,oget,oat,orow,ocell,ocells⟩:=so.facts
  refine Aa (fun hc=>?_) (fun hc=>?_)
  ·rw [Ax (by omega),Bu] at hz
   have hb:=hok i (by omega)
   simp (disch:=omega)only[go_sem, *]
   have x1:AK h ((h.alloc ⟨2,[[.i .i64 0,.i .i64 0]]⟩).put h.next ⟨2,[[.i .i64 (nth L i).part,.i .i64 (nth L i).n]]⟩):=by (repeat (first | exact AK.refl _ | refine AK.alloc ?_ _ | (refine AK.put ?_ _ _ ?_;rotate_left;(first | omega | (simp only [Ag,AB];omega)))))
   refine Aa (fun hc2=>?_) (fun hc2=>?_)
   ·rw [if_pos hc2] at hz
    simp (disch:=omega)only[go_sem, *]
    refine ih _ _ _ ?_ ⟨i+1,out,A,rfl, ?_⟩
    ·omega
    ·simp (disch:=omega)only[go_sem, *]
     ((repeat' refine And.intro ?_ ?_)<;>first | omega | assumption | (exact so.ext x1))
   ·rw [if_neg hc2] at hz
    simp (disch:=omega)only[go_sem, *]
    refine Aq (fun hc3=>?_) (fun hc3=>?_)
    ·have hk:((A.length:Int) - 1).toNat=A.length - 1:=by omega
     simp (disch:=omega)only[go_sem, *]
     refine Aa (fun hc4=>?_) (fun hc4=>?_)
     ·rw [if_pos ⟨by omega,hc4⟩] at hz
      have hA1:=okA (A.length - 1) (by omega)
      simp (disch:=omega)only[go_sem, *]
      refine Pf.go (QB hA1 hb) (by simp only [go_sem]) fun _=>?_;simp (disch:=omega)only[go_sem, *]
      refine ih _ _ _ ?_ ⟨i+1,out,A.set (A.length - 1) ⟨(nth A (A.length - 1)).part,Ga (nth A (A.length - 1)).n (nth L i).n⟩,rfl, ?_⟩
      ·omega
      ·simp (disch:=omega)only[go_sem, *]
       ((repeat' refine And.intro ?_ ?_)<;>first | omega | assumption | (simp;omega) | (exact Sl.setT so (by omega) (by simp (disch:=omega)only[go_sem]<;>omega) (by simp (disch:=omega)only[go_sem, *])) | (refine Kk okA ?_;exact Fl.2) | (rw [← hz,hc4]))
     ·simp only [hc4,and_false,reduceIte] at hz
      simp (disch:=omega)only[go_sem, *]
      refine Ao (R:=A.map AI.enc) ((so.ext x1).alloc _) (by simp only [go_sem, *]) (Nat.zero_le _) (by simp;omega) ?_
      intro w h4 s4 g4
      have hl4:=g4.lim
      simp (disch:=omega)only[go_sem, *]
      refine ih _ _ _ ?_ ⟨i+1,w,A++[nth L i],rfl, ?_⟩
      ·omega
      ·simp (disch:=omega)only[go_sem, *]
       ((repeat' refine And.intro ?_ ?_)<;>first | omega | assumption | (simp;omega) | (simpa [AI.enc] using s4) | (exact Fb okA hb))
    ·have h0:A.length=0:=by omega
     simp only [h0,Nat.lt_irrefl,false_and,reduceIte] at hz
     simp (disch:=omega)only[go_sem, *]
     refine Ao (R:=A.map AI.enc) ((so.ext x1).alloc _) (by simp only [go_sem, *]) (Nat.zero_le _) (by simp;omega) ?_
     intro w h4 s4 g4
     have hl4:=g4.lim
     simp (disch:=omega)only[go_sem, *]
     refine ih _ _ _ ?_ ⟨i+1,w,A++[nth L i],rfl, ?_⟩
     ·omega
     ·simp (disch:=omega)only[go_sem, *]
      ((repeat' refine And.intro ?_ ?_)<;>first | omega | assumption | (simp;omega) | (simpa [AI.enc] using s4) | (exact Fb okA hb))
  ·rw [List.drop_eq_nil_of_le (by omega),Bu] at hz
   simp (disch:=omega)only[go_sem, *]
   subst hz
   refine Pf.take [AW out] QI (.cons _ _ _ _ _ (so.froze (fun _=>rfl) (by simp) (by omega)) (.nil _)) fun _=>?_
   simp (disch:=omega)only[go_sem, *]
 ·simp (disch:=omega)only[go_sem, *]
  exact ⟨Sl.nil _ _ _,fun i hi=>by simp at hi⟩
def rM (f:Fo):List AI:=Bu f.runs []
open Classical in
noncomputable def Fs (L:List Node):Fo:=if h:∃ f:Fo,f.ok∧f.count=1∧L=f.flat∧f.depth≤16∧f.len≤4096 then h.choose else .nil
theorem FU {L:List Node} (h:Bj L=0):L.length≤128∧(Fs L).ok∧(Fs L).count=1∧L=(Fs L).flat∧(Fs L).depth≤16∧(Fs L).len≤4096:=by
 obtain ⟨h1,h2⟩:=(FB L).1 h
 refine ⟨h1, ?_⟩
 unfold Fs
 rw [dif_pos h2]
 exact h2.choose_spec
noncomputable def Ez (L:List Node):List AI×Int:=if Bj L≠0 then ([],Bj L) else if 96<(rM (Fs L)).length then ([],3) else (rM (Fs L),0)
theorem Jp {L:List Node} (hr:Bj L≠0):Ez L=([],Bj L):=if_pos hr
theorem Gl {L:List Node} (hr:Bj L=0):Ez L=if 96<(rM (Fs L)).length then ([],3) else (rM (Fs L),0):=if_neg (by omega)
theorem Ki {L:List Node}:Pf tp aGO [.fl 3 (L.map Node.enc)] (.tup [.fl 2 ((Ez L).1.map AI.enc),.i .i64 (Ez L).2]):=by
 refine AD aUa (by simp [aA]) fun rp=>?_;unfold aA;simp (disch:=omega)only[go_sem, *]
 refine Pf.go (NQ) (by simp only [go_sem]) fun _=>?_;simp (disch:=omega)only[go_sem, *]
 refine Aa (fun hc=>?_) (fun hc=>?_)
 ·have e:=Jp hc
  simp (disch:=omega)only[go_sem, *]
 ·have e:=Gl (L:=L) (by omega)
  obtain ⟨_,ho,hc1,hL,hd,hl⟩:=FU (L:=L) (by omega)
  have hap:=Fo.runs_allpos _ ho
  have hsum:=Fo.runs_sum _ ho
  have hlv:=MA ho hc1 hl
  rw [← hL] at hlv
  clear hL
  simp (disch:=omega)only[go_sem, *]
  refine Pf.go (hlv) (by simp only [go_sem]) fun _=>?_;simp (disch:=omega)only[go_sem, *]
  refine Pf.go (RF (Ho hap (by omega))) (by simp only [go_sem]) fun _=>?_;simp (disch:=omega)only[go_sem, *]
  unfold rM at e
  refine Aa (fun hc5=>?_) (fun hc5=>?_)
  ·rw [if_pos (by omega)] at e
   simp (disch:=omega)only[go_sem, *]
  ·rw [if_neg (by omega)] at e
   simp (disch:=omega)only[go_sem, *]
end Go.Ab.T
namespace Go.Ab.T
open Go Go.Ab
set_option maxHeartbeats 1000000
theorem Y2 {L:List Node} {c:Cs} {r:AI} (h:r=⟨DN (lf L c),(lf L c).n - c.gone⟩):(Y1 L c).at_=c.at_+r.n:=by rw [h];rfl
theorem jW {h0 h : AH} {L : List Node} {id : Nat} {sv : V} {c : Cs} {r : AI} {l : List AI} {K : V → AH → Prop} (n : GS h0 h L id sv c) (q : Tg L c (r :: l))
    (kk:∀ sv' c' h',GS h0 h' L id sv' c'→CA h id sv h' sv'→Tg L c' l→c'.at_=c.at_+r.n→K (.tup [.agg r.enc,.b true]) h'):Cq tp J0 [.p id 0 0] h K:=by
 obtain ⟨q1,q2,q3,q4,q5,q6⟩:=q.cons
 refine QM n.cur q1 q2 ?_
 intro sv3 h3 c3 f3
 rw [← q3]
 exact kk sv3 _ h3 (n.step c3 f3) f3 q5 (Y2 q3)
theorem NA {h0 h : AH} {L : List Node} {id : Nat} {sv : V} {c : Cs} {K : V → AH → Prop} (n : GS h0 h L id sv c) (q : Tg L c [])
    (kk:∀ h',GS h0 h' L id sv c→AK h h'→K (.tup [.agg (AI.enc ⟨0,0⟩),.b false]) h'):Cq tp J0 [.p id 0 0] h K:=
 M5 n.cur (by rw [q.nil];omega) fun h3 hx3=>kk h3 (n.grow hx3) hx3
theorem Ej.app {h h4:AH} {id b:Nat} {sv o w:V} {L:List Node} {c:Cs} (k:Ej h id sv L c) (a:Grown b h o w h4) (ho:Ba o=true∨(AW o≠id∧(Ba sv=true∨AW o≠AW sv))):Ej h4 id sv L c:=by
 have hn:=a.next
 refine ⟨by rw [a.get id k.hi (ho.imp (fun x=>x) (fun x=>x.1.symm))];exact k.blk, ?_,k.big,k.sbig,by rw [a.lim];exact k.lo,by have:=k.hi;omega⟩
 rcases k.stk with ⟨hv,hR⟩ | ⟨i,el,cap,cs,rfl,hg,q1,q2,q3,q4,q5,q6⟩
 ·exact .inl ⟨hv,hR⟩
 ·refine .inr ⟨i,el,cap,cs,rfl, ?_,q1,q2,q3,by omega,q5,q6⟩
  rw [a.get _ q4 ?_];exact hg
  rcases ho with h1 | h1
  ·exact .inl h1
  ·rcases h1.2 with h2 | h2
   ·cases h2
   ·exact .inr (Ne.symm h2)
def G4 (h0:AH) (id:Nat) (sv o:V):Prop:=Ba o=true∨(h0.next≤AW o∧AW o≠id∧(Ba sv=true∨AW o≠AW sv))
theorem G4.step {h0 h h':AH} {id:Nat} {sv sv' o:V} (b:G4 h0 id sv o) (hl:Ba o=true∨AW o<h.next) (f:CA h id sv h' sv'):G4 h0 id sv' o:=by
 rcases hl with hl | hl
 ·exact .inl hl
 rcases b with b | b
 ·exact .inl b
 ·refine .inr ⟨b.1,b.2.1, ?_⟩
  rcases f.own with h1 | ⟨h1,h2⟩ | h1
  ·exact .inl h1
  ·rcases b.2.2 with h3 | h3
   ·rw [h3] at h1;cases h1
   ·exact .inr (by omega)
  ·exact .inr (by omega)
theorem GS.app {h0 h h4:AH} {L:List Node} {id b:Nat} {sv o w:V} {c:Cs} (n:GS h0 h L id sv c) (a:Grown b h o w h4) (bs:G4 h0 id sv o):GS h0 h4 L id sv c∧G4 h0 id sv w:=by
 have hn:=a.next
 have x:=n.ext
 have:=x.next
 refine ⟨⟨n.cur.app a (bs.imp (fun x=>x) (fun x=>x.2)),⟨by omega,a.lim.trans x.lim,fun i hi=>?_⟩,n.id_⟩, ?_⟩
 ·rw [a.get i (by omega) (bs.imp (fun x=>x) (fun x=>by omega)),x.get i hi]
 ·rcases a.own with h1 | ⟨h1,h2⟩ | h1
  ·exact .inl h1
  ·rcases bs with b | b
   ·rw [b] at h1;cases h1
   ·exact .inr (by rw [h2];exact b)
  ·have h3:=n.cur.hi
   have h5:=n.cur.sne
   exact .inr ⟨by omega,by omega,h5.imp (fun x=>x) (fun x=>by omega)⟩
theorem lL {b sz:Nat} {h0 h h':AH} {id:Nat} {sv sv' o:V} {R:List (List V)} (s:Sl b h sz o R) (bs:G4 h0 id sv o) (f:CA h id sv h' sv'):Sl b h' sz o R:=by
 rcases s with ⟨hv,hR⟩ | ⟨i,el,cap,cs,rfl,hg,q1,q2,q3,q4,q5,q6⟩
 ·exact .inl ⟨hv,hR⟩
 ·refine .inr ⟨i,el,cap,cs,rfl, ?_,q1,q2,q3, ?_,q5,q6⟩
  ·rcases bs with b | b
   ·cases b
   ·rw [f.get i q4 b.2.1 b.2.2];exact hg
  ·have:=f.next;omega
theorem aH6 {L:List Node}:Pf tp XI [.fl 3 (L.map Node.enc)] (.tup [.fl 2 ((Ez L).1.map AI.enc),.i .i64 (Ez L).2]):=by
 refine AD aFw (by simp [Ov]) fun rp=>?_;unfold Ov;simp (disch:=omega)only[go_sem, *]
 refine Pf.go (HS) (by simp only [go_sem]) fun _=>?_;simp (disch:=omega)only[go_sem, *]
 refine Aa (fun hc=>?_) (fun hc=>?_)
 ·have e:=Jp hc
  simp (disch:=omega)only[go_sem, *]
 have e:=Gl (L:=L) (by omega)
 obtain ⟨_,ho,hc1,hL,hd,hl⟩:=FU (L:=L) (by omega)
 have hap:=Fo.runs_allpos _ ho
 have hsum:=Fo.runs_sum _ ho
 have hrl:=Fo.runs_len _ ho
 have hst:=UL ho hc1 hl
 rw [← hL] at hst
 clear hL
 unfold rM at e
 simp (disch:=omega)only[go_sem, *]
 refine aG5 (fun h=>absurd h (by omega)) ?_
 intro hr0 id sv h3 N3
 simp (disch:=omega)only[go_sem, *]
 refine Ae (fun n e h'=>∃ (sv' o:V) (c:Cs) (l A:List AI),n=l.length∧e 5=o∧e 6=.p id 0 0∧GS AH.emp h' L id sv' c∧Tg L c l∧Sl 0 h' 2 o (A.map AI.enc)∧G4 AH.emp id sv' o∧A++l=(Fs L).runs) ?_ _ _ _ ⟨sv,.ns,gP L,(Fs L).runs,[],rfl, ?_⟩
 ·rintro n e' h' ⟨sv',o,c,l,A,rfl,e5,e6,N,R,so,bo,hz⟩ ih
  have nn:=N.ext.next
  have ll:=N.ext.lim
  simp only [Jl] at ll
  have olt:=DG so
  rw [Ai qA.eq_1]
  simp (disch:=omega)only[go_sem, *]
  match l,R,hz,ih with
  | [],R,hz,ih=>
   refine NA N R ?_
   intro h4 N4 x4
   have l4:=N4.ext.lim
   simp only [Jl] at l4
   have xb:AK h4 ((h4.alloc ⟨2,[[.i .i64 0,.i .i64 0]]⟩).put h4.next ⟨2,[[.i .i64 0,.i .i64 0]]⟩):=by (repeat (first | exact AK.refl _ | refine AK.alloc ?_ _ | (refine AK.put ?_ _ _ ?_;rotate_left;(first | omega | (simp only [Ag,AB];omega)))))
   have so5:=(so.ext x4).ext xb
   obtain rfl:A=(Fs L).runs:=by simpa using hz
   clear hz
   simp (disch:=omega)only[go_sem, *]
   have hsz:=so5.facts.big
   have hA4:(Fs L).runs.length<4000000000:=by omega
   refine Pf.take [AW o] (lW (Ho hap (by omega))) (.cons _ _ _ _ _ (so5.froze (fun _=>rfl) (by simp) (by omega)) (.nil _)) fun _=>?_
   simp (disch:=omega)only[go_sem, *]
   refine Aa (fun hc5=>?_) (fun hc5=>?_)
   ·rw [if_pos (by omega)] at e
    simp (disch:=omega)only[go_sem, *]
   ·rw [if_neg (by omega)] at e
    simp (disch:=omega)only[go_sem, *]
  | r::l,R,hz,ih=>
   refine jW N R ?_
   intro s4 c4 h4 N4 f4 R4 a4
   clear a4
   have bo4:=bo.step olt f4
   have so4:=lL so bo f4
   have xb:AK h4 ((h4.alloc ⟨2,[[.i .i64 0,.i .i64 0]]⟩).put h4.next ⟨2,[[.i .i64 r.part,.i .i64 r.n]]⟩):=by (repeat (first | exact AK.refl _ | refine AK.alloc ?_ _ | (refine AK.put ?_ _ _ ?_;rotate_left;(first | omega | (simp only [Ag,AB];omega)))))
   have N5:=N4.grow xb
   have so5:=so4.ext xb
   have hzl:=congrArg List.length hz
   simp only [List.length_append,List.length_cons] at hzl
   have l5:=N4.ext.lim
   simp only [Jl] at l5
   simp (disch:=omega)only[go_sem, *]
   refine Ao (so5.alloc _) (by simp only [go_sem, *]) (Nat.zero_le _) (by simp;omega) ?_
   intro w h6 s6 a6
   have a7:=Mo a6 ((AK.refl _).alloc _) (Nat.zero_le _)
   obtain ⟨N6,b6⟩:=N5.app a7 bo4
   simp (disch:=omega)only[go_sem, *]
   refine ih _ _ _ ?_ ⟨s4,w,c4,l,A++[r],rfl, ?_⟩
   ·simp
   ·simp (disch:=omega)only[go_sem, *]
    exact ⟨by simpa [AI.enc] using s6,by rw [← hz];simp⟩
 ·simp (disch:=omega)only[go_sem, *]
  exact ⟨Sl.nil _ _ _,.inl rfl⟩
end Go.Ab.T
namespace Go.Ab.T
open Go Go.Ab
structure CI where
 s:Int
 e:Int
 deriving DecidableEq,Inhabited
@[go_sem] def CI.enc (x:CI):List V:=[.i .i64 x.s,.i .i64 x.e]
def Hy (L:List AI):Prop:=Bd L∧Ay L≤4096
theorem Hy.nil:Hy []:=⟨fun _ h=>(by cases h),by simp [Ay]⟩
theorem Hy.tail {r:AI} {l:List AI} (h:Hy (r::l)):Hy l:=⟨fun x hx=>h.1 x (List.mem_cons_of_mem _ hx),by
 have:=h.1 r (List.mem_cons_self ..);have:=h.2;simp only [Ay] at this;omega⟩
def AZ (p:Int):Int→List AI→List CI
 | _,[]=>[]
 | a,r::l=>(if r.part=p then [⟨a,a+r.n⟩] else [])++AZ p (a+r.n) l
def Mw (t:Int):List CI→Option Int
 | []=>none
 | s::l=>if t+1<s.e then some (max (t+1) s.s) else Mw t l
def Jg (tt:List CI) (t n:Int):Int:=match Mw t tt with | some x=>x | none=>n+(nth tt 0).s
def F5 (tt:List CI) (n:Int):List CI→Int→Int
 | [],w=>w
 | s::l,w=>F5 tt n l (max (max w (Jg tt s.s n - s.s)) (Jg tt (s.e - 1) n - (s.e - 1)))
def DL (L:List AI) (f t:Int):Int:=if AZ f 0 L=[] then 0 else if AZ t 0 L=[] then -1 else F5 (AZ t 0 L) (Ay L) (AZ f 0 L) 0
def Cd:List AI→List Int
 | []=>[]
 | r::l=>List.replicate r.n.toNat r.part++Cd l
theorem Fd:∀ {L:List AI},Bd L→((Cd L).length:Int)=Ay L
 | [],_=>rfl
 | r::l,h=>by
  have:=Fd (L:=l) (fun x hx=>h x (List.mem_cons_of_mem _ hx))
  have:=h r (List.mem_cons_self ..)
  simp only [Cd,Ay,List.length_append,List.length_replicate];omega
theorem Jn {p:Int}:∀ {L:List AI} {a:Int},Bd L→(p∈Cd L↔AZ p a L≠[])
 | [],a,_=>by simp [Cd,AZ]
 | r::l,a,h=>by
  have ih:=Jn (p:=p) (L:=l) (a:=a+r.n) (fun x hx=>h x (List.mem_cons_of_mem _ hx))
  have:=h r (List.mem_cons_self ..)
  simp only [Cd,AZ,List.mem_append,List.mem_replicate,ih]
  by_cases hp:r.part=p
  ·rw [if_pos hp];simp;left;exact ⟨by omega,hp.symm⟩
  ·rw [if_neg hp]
   simp only [List.nil_append]
   constructor
   ·rintro (h | h)
    ·exact absurd h.2.symm hp
    ·exact h
   ·exact .inr
inductive CX:Int→List CI→Int→Prop where
 | nil (a n:Int):a≤n→CX a [] n
 | cons (a n:Int) (x:CI) (l:List CI):a≤x.s→x.s<x.e→CX x.e l n→CX a (x::l) n
theorem CX.lo {a b n:Int} {l:List CI} (h:CX b l n) (hab:a≤b):CX a l n:=by
 cases h with
 | nil _ _ h=>exact .nil _ _ (by omega)
 | cons _ _ x l h1 h2 h3=>exact .cons _ _ _ _ (by omega) h2 h3
theorem CX.le {a n:Int} {l:List CI} (h:CX a l n):a≤n:=by
 induction h with
 | nil _ _ h=>exact h
 | cons _ _ x l h1 h2 _ ih=>omega
theorem CX.mem {a n:Int} {l:List CI} (h:CX a l n) {x:CI} (hx:x∈l):a≤x.s∧x.s<x.e∧x.e≤n:=by
 induction h with
 | nil=>cases hx
 | cons a n y l h1 h2 h3 ih=>
  have:=h3.le
  rcases List.mem_cons.1 hx with rfl | hx
  ·omega
  ·have:=ih hx;omega
theorem B8 {p:Int}:∀ {L:List AI} {a:Int},Bd L→CX a (AZ p a L) (a+Ay L)
 | [],a,_=>.nil _ _ (by simp [Ay])
 | r::l,a,h=>by
  have ih:=B8 (p:=p) (L:=l) (a:=a+r.n) (fun x hx=>h x (List.mem_cons_of_mem _ hx))
  have:=h r (List.mem_cons_self ..)
  have e:a+r.n+Ay l=a+Ay (r::l):=by simp only [Ay];omega
  rw [e] at ih
  rw [AZ]
  split
  ·exact .cons _ _ _ _ (by simp only;omega) (by simp only;omega) ih
  ·exact ih.lo (by omega)
def FF (W:List Int) (t:Int):Int:=nth W t.toNat
theorem FZ {α:Type} [Inhabited α] {A B:List α} {i:Nat}:nth (A++B) i=if i<A.length then nth A i else nth B (i - A.length):=by
 unfold nth
 split
 ·simp only [List.getD];rw [List.getElem?_append_left (by assumption)]
 ·simp only [List.getD];rw [List.getElem?_append_right (by omega)]
theorem SV {α:Type} [Inhabited α] {a:α} {n i:Nat} (h:i<n):nth (List.replicate n a) i=a:=by simp [nth,List.getD,h]
theorem Tc {p:Int}:∀ {L:List AI} {a t:Int},Bd L→a≤t→t<a+Ay L→(FF (Cd L) (t - a)=p↔∃ s∈AZ p a L,s.s≤t∧t<s.e)
 | [],a,t,_,h1,h2=>by simp [Ay] at h2;omega
 | r::l,a,t,h,h1,h2=>by
  have hp:=h r (List.mem_cons_self ..)
  have hl:Bd l:=fun x hx=>h x (List.mem_cons_of_mem _ hx)
  have hs:=B8 (p:=p) (L:=l) (a:=a+r.n) hl
  simp only [Ay] at h2
  by_cases ht:t<a+r.n
  ·have e:FF (Cd (r::l)) (t - a)=r.part:=by
    unfold FF
    rw [Cd,FZ,if_pos (by simp;omega),SV (by omega)]
   rw [e,AZ]
   constructor
   ·intro hq
    rw [if_pos hq]
    exact ⟨⟨a,a+r.n⟩,by simp,by simp only;omega,by simp only;omega⟩
   ·rintro ⟨s,hs1,hs2,hs3⟩
    by_cases hq:r.part=p
    ·exact hq
    ·rw [if_neg hq] at hs1
     have:=hs.mem hs1
     omega
  ·have e:FF (Cd (r::l)) (t - a)=FF (Cd l) (t - (a+r.n)):=by
    unfold FF
    rw [Cd,FZ,if_neg (by simp;omega)]
    congr 1;simp;omega
   rw [e,Tc hl (by omega) (by omega),AZ]
   constructor
   ·rintro ⟨s,a1,a2⟩;exact ⟨s,List.mem_append_right _ a1,a2⟩
   ·rintro ⟨s,a1,a2,a3⟩
    rcases List.mem_append.1 a1 with a1 | a1
    ·split at a1
     ·simp at a1;subst a1;simp only at a3;omega
     ·cases a1
    ·exact ⟨s,a1,a2,a3⟩
def FK (W:List Int) (p t d:Int):Prop:=1≤d∧FF W ((t+d) % W.length)=p∧∀ c,1≤c→c<d→FF W ((t+c) % W.length)≠p
theorem FK.uniq {W:List Int} {p t a b:Int} (x:FK W p t a) (y:FK W p t b):a=b:=by
 rcases Int.lt_trichotomy a b with h | h | h
 ·exact absurd x.2.1 (y.2.2 a x.1 h)
 ·exact h
 ·exact absurd y.2.1 (x.2.2 b y.1 h)
theorem FK.step {W:List Int} {p t d:Int} (x:FK W p t d) (h:1<d):FK W p (t+1) (d - 1):=by
 refine ⟨by omega, ?_,fun c h1 h2=>?_⟩
 ·rw [show t+1+(d - 1)=t+d by omega];exact x.2.1
 ·rw [show t+1+c=t+(c+1) by omega];exact x.2.2 (c+1) (by omega) (by omega)
theorem F0 {t:Int}:∀ {l:List CI} {a n:Int},CX a l n→(Mw t l=none∧∀ s∈l,s.e≤t+1)∨∃ s∈l,Mw t l=some (max (t+1) s.s)∧t+1<s.e∧∀ q∈l,q.e≤t+1∨s.s≤q.s
 | [],a,n,_=>.inl ⟨rfl,fun s h=>(by cases h)⟩
 | x::l,a,n,.cons _ _ _ _ h1 h2 h3=>by
  rw [Mw]
  by_cases hc:t+1<x.e
  ·rw [if_pos hc]
   refine .inr ⟨x,List.mem_cons_self ..,rfl,hc,fun q hq=>?_⟩
   rcases List.mem_cons.1 hq with rfl | hq
   ·exact .inr (by omega)
   ·have:=h3.mem hq;exact .inr (by omega)
  ·rw [if_neg hc]
   rcases F0 h3 with ⟨a1,a2⟩ | ⟨s,a1,a2,a3,a4⟩
   ·refine .inl ⟨a1,fun s hs=>?_⟩
    rcases List.mem_cons.1 hs with rfl | hs
    ·omega
    ·exact a2 s hs
   ·refine .inr ⟨s,List.mem_cons_of_mem _ a1,a2,a3,fun q hq=>?_⟩
    rcases List.mem_cons.1 hq with rfl | hq
    ·exact .inl (by omega)
    ·exact a4 q hq
theorem Jo {L:List AI} {p t:Int} (h:Bd L) (ht0:0≤t) (ht:t<Ay L) (hne:AZ p 0 L≠[]):FK (Cd L) p t (Jg (AZ p 0 L) t (Ay L) - t):=by
 have hl:=Fd h
 have hs:=B8 (p:=p) (a:=0) h
 rw [Int.zero_add] at hs
 have hw:∀ x,0≤x→x<Ay L→(FF (Cd L) x=p↔∃ s∈AZ p 0 L,s.s≤x∧x<s.e):=fun x h0 h1=>by
  have:=Tc (p:=p) (a:=0) (t:=x) h h0 (by omega)
  rwa [Int.sub_zero] at this
 unfold Jg
 rcases F0 (t:=t) hs with ⟨a1,a2⟩ | ⟨s,a1,a2,a3,a4⟩
 ·rw [a1]
  simp only
  obtain ⟨s0,l0,e0⟩:∃ s0 l0,AZ p 0 L=s0::l0:=by
   match hh:AZ p 0 L,hne with
   | a::b,_=>exact ⟨a,b,rfl⟩
  have m0:s0∈AZ p 0 L:=by rw [e0];exact List.mem_cons_self ..
  have b0:=hs.mem m0
  have n0:nth (AZ p 0 L) 0=s0:=by rw [e0];rfl
  rw [n0]
  refine ⟨by omega, ?_,fun c h1 h2=>?_⟩
  ·rw [show t+(Ay L+s0.s - t)=s0.s+((Cd L).length:Int) by omega,Int.add_emod_right,Int.emod_eq_of_lt (by omega) (by omega)]
   exact (hw s0.s (by omega) (by omega)).2 ⟨s0,m0,by omega,by omega⟩
  ·by_cases hc:t+c<Ay L
   ·rw [Int.emod_eq_of_lt (by omega) (by omega)]
    intro he
    obtain ⟨s,m1,m2,m3⟩:=(hw (t+c) (by omega) hc).1 he
    have:=a2 s m1;omega
   ·rw [show t+c=(t+c - (Cd L).length)+((Cd L).length:Int) by omega,Int.add_emod_right,Int.emod_eq_of_lt (by omega) (by omega)]
    intro he
    obtain ⟨s,m1,m2,m3⟩:=(hw (t+c - (Cd L).length) (by omega) (by omega)).1 he
    have hs2:=hs
    rw [e0] at hs2 m1
    cases hs2 with
    | cons _ _ _ _ q1 q2 q3=>
     rcases List.mem_cons.1 m1 with rfl | m1
     ·omega
     ·have:=q3.mem m1;omega
 ·rw [a2]
  simp only
  have b:=hs.mem a1
  refine ⟨by omega, ?_,fun c h1 h2=>?_⟩
  ·rw [show t+(max (t+1) s.s - t)=max (t+1) s.s by omega,Int.emod_eq_of_lt (by omega) (by omega)]
   exact (hw _ (by omega) (by omega)).2 ⟨s,a1,by omega,by omega⟩
  ·rw [Int.emod_eq_of_lt (by omega) (by omega)]
   intro he
   obtain ⟨q,m1,m2,m3⟩:=(hw (t+c) (by omega) (by omega)).1 he
   rcases a4 q m1 with h5 | h5<;>omega
def FY (W:List Int) (f:Int) (F:Int→Int):List Int→Int→Int→Int
 | [],_,w=>w
 | p::l,t,w=>FY W f F l (t+1) (if p=f then max w (F t) else w)
theorem Nw {W:List Int} {f:Int} {F:Int→Int}:∀ (A B:List Int) (t w:Int),FY W f F (A++B) t w=FY W f F B (t+A.length) (FY W f F A t w)
 | [],B,t,w=>by simp [FY]
 | p::A,B,t,w=>by
  rw [List.cons_append,FY,FY,Nw A B]
  congr 1;simp;omega
theorem J8 {W:List Int} {f p:Int} {F:Int→Int} (hp:p≠f):∀ (n:Nat) (t w:Int),FY W f F (List.replicate n p) t w=w
 | 0,t,w=>rfl
 | n+1,t,w=>by rw [List.replicate_succ,FY,if_neg hp,J8 hp n]
theorem Nx {W:List Int} {f:Int} {F:Int→Int} (X:Int):∀ (n:Nat) (t w:Int),X≤w→(∀ i,t≤i→i<t+n→F i≤max X (F (t+n - 1)))→FY W f F (List.replicate n f) t w=if n=0 then w else max w (F (t+n - 1))
 | 0,t,w,_,_=>rfl
 | n+1,t,w,hX,h=>by
  rw [List.replicate_succ,FY,if_pos rfl,Nx X n (t+1) _ (by omega) (fun i h1 h2=>by
   have:=h i (by omega) (by omega)
   rw [show t+1+(n:Int) - 1=t+((n+1:Nat):Int) - 1 by omega];exact this)]
  have h0:=h t (by omega) (by omega)
  by_cases hn:n=0
  ·subst hn;simp
  ·rw [if_neg hn,if_neg (by omega),show t+1+(n:Int) - 1=t+((n+1:Nat):Int) - 1 by omega];omega
theorem YY {W:List Int} {f:Int} {F:Int→Int} {n:Nat} {t w:Int} (hn:1≤n) (h:∀ i,t≤i→i<t+n→F i≤max (F t) (F (t+n - 1))):FY W f F (List.replicate n f) t w=max (max w (F t)) (F (t+n - 1)):=by
 obtain ⟨m,rfl⟩:∃ m,n=m+1:=⟨n - 1,by omega⟩
 rw [List.replicate_succ,FY,if_pos rfl,Nx (F t) m (t+1) _ (by omega) (fun i h1 h2=>by
  have:=h i (by omega) (by omega)
  rw [show t+1+(m:Int) - 1=t+((m+1:Nat):Int) - 1 by omega];exact this)]
 by_cases hn:m=0
 ·subst hn;simp
 ·rw [if_neg hn,show t+1+(m:Int) - 1=t+((m+1:Nat):Int) - 1 by omega]
theorem Np {M : List AI} {f p : Int} (hM : Bd M) (hne : AZ p 0 M ≠ []) : ∀ (L : List AI) (a w : Int) (A : List Int), Bd L → Cd M = A ++ Cd L → (A.length : Int) = a →
    FY (Cd M) f (fun t=>Jg (AZ p 0 M) t (Ay M) - t) (Cd L) a w=F5 (AZ p 0 M) (Ay M) (AZ f a L) w
 | [],a,w,A,_,_,_=>rfl
 | r::l,a,w,A,h,hA,ha=>by
  have hp:=h r (List.mem_cons_self ..)
  have hl:Bd l:=fun x hx=>h x (List.mem_cons_of_mem _ hx)
  have hwl:=Fd hM
  have hwl2:=Fd hl
  have hAl:=congrArg List.length hA
  simp only [Cd,List.length_append,List.length_replicate] at hAl
  have hsum:a+r.n+Ay l=Ay M:=by omega
  have hs0:=Cn hl
  have hrest:=fun w=>Np (f:=f) hM hne l (a+r.n) w (A++List.replicate r.n.toNat r.part) hl (by rw [hA,Cd,List.append_assoc]) (by simp;omega)
  rw [Cd,Nw,AZ]
  rw [show a+((List.replicate r.n.toNat r.part).length:Int)=a+r.n by simp;omega]
  by_cases hq:r.part=f
  ·rw [if_pos hq,hq]
   have hin:∀ i,a≤i→i<a+r.n→FF (Cd M) i=f:=by
    intro i h1 h2
    unfold FF
    rw [hA,FZ,if_neg (by omega),Cd,FZ,if_pos (by simp;omega),SV (by omega)];exact hq
   have hd:∀ i,a≤i→i<a+r.n→FK (Cd M) p i (Jg (AZ p 0 M) i (Ay M) - i):=fun i h1 h2=>Jo hM (by omega) (by omega) hne
   have key:∀ i,a≤i→i<a+r.n.toNat→(fun t=>Jg (AZ p 0 M) t (Ay M) - t) i≤max ((fun t=>Jg (AZ p 0 M) t (Ay M) - t) a) ((fun t=>Jg (AZ p 0 M) t (Ay M) - t) (a+r.n.toNat - 1)):=by
    intro i h1 h2
    simp only
    by_cases hfp:f=p
    ·by_cases hlast:i=a+r.n.toNat - 1
     ·subst hlast;omega
     ·have d1:FK (Cd M) p i 1:=⟨by omega,by
       rw [Int.emod_eq_of_lt (by omega) (by omega),hin _ (by omega) (by omega)];exact hfp,fun c h3 h4=>by omega⟩
      have e1:=(hd i h1 (by omega)).uniq d1
      have e2:=(hd (a+r.n.toNat - 1) (by omega) (by omega)).1
      omega
    ·have dec:∀ k:Nat,a+k<a+r.n→Jg (AZ p 0 M) (a+k) (Ay M) - (a+k)≤Jg (AZ p 0 M) a (Ay M) - a:=by
      intro k
      induction k with
      | zero=>intro _;simp
      | succ k ih=>
       intro hk
       have ih:=ih (by omega)
       have d:=hd (a+k) (by omega) (by omega)
       have g:1<Jg (AZ p 0 M) (a+k) (Ay M) - (a+k):=by
        have h1:=d.1
        rcases Int.lt_or_eq_of_le h1 with h2 | h2
        ·exact h2
        ·have h3:=d.2.1
         rw [← h2,Int.emod_eq_of_lt (by omega) (by omega),hin _ (by omega) (by omega)] at h3
         exact absurd h3 hfp
       have d2:=d.step g
       have e:=(hd (a+k+1) (by omega) (by omega)).uniq d2
       rw [show a+((k+1:Nat):Int)=a+k+1 by omega]
       omega
     have:=dec (i - a).toNat (by omega)
     rw [show a+((i - a).toNat:Int)=i by omega] at this
     omega
   rw [YY (by omega) key,hrest]
   rw [List.singleton_append,F5]
   simp only
   rw [show a+(r.n.toNat:Int) - 1=a+r.n - 1 by omega]
  ·rw [if_neg hq,J8 hq,hrest,List.nil_append]
end Go.Ab.T
namespace Go.Ab.T
open Go Go.Ab
def Hh (t u:Int):List CI→Int→Int
 | [],n=>n
 | s::l,n=>Hh t u l (n+max 0 (min s.e u - max s.s t))
def Iv (F:Int→Int) (P:Int):Nat→Int→Int→Int
 | 0,_,w=>w
 | k+1,t,w=>Iv F P k (t+P) (min w (F t))
def HC (L:List AI) (p P:Int):Int:=if P<1∨Ay L=0∨Ay L % P≠0 then -1 else Iv (fun t=>Hh t (t+P) (AZ p 0 L) 0) P (Ay L / P).toNat 0 P
def Eu (p:Int):List Int→Int→Int
 | [],n=>n
 | x::l,n=>Eu p l (if x=p then n+1 else n)
theorem Ih (p:Int):∀ (l:List Int) (n:Int),Eu p l n=n+Eu p l 0
 | [],n=>by simp [Eu]
 | x::l,n=>by rw [Eu,Eu,Ih p l,Ih p l (if x=p then 0+1 else 0)];split<;>omega
theorem MY (p:Int):∀ (l:List Int) (n:Int),Eu p l n≤n+l.length
 | [],n=>by simp [Eu]
 | x::l,n=>by
  have:=MY p l (if x=p then n+1 else n)
  rw [Eu];simp only [List.length_cons];split at this<;>split<;>simp_all<;>omega
def cnt (p t u:Int):Int→List Int→Int
 | _,[]=>0
 | a,x::l=>(if x=p∧t≤a∧a<u then 1 else 0)+cnt p t u (a+1) l
theorem Jj {p t u:Int}:∀ (A B:List Int) (a:Int),cnt p t u a (A++B)=cnt p t u a A+cnt p t u (a+A.length) B
 | [],B,a=>by simp [cnt]
 | x::A,B,a=>by
  rw [List.cons_append,cnt,cnt,Jj A B,show a+1+(A.length:Int)=a+((x::A).length:Int) by simp;omega];omega
theorem Sj {p q t u:Int}:∀ (n:Nat) (a:Int),cnt p t u a (List.replicate n q)=if q=p then max 0 (min (a+n) u - max a t) else 0
 | 0,a=>by simp [cnt];intro _;omega
 | n+1,a=>by
  rw [List.replicate_succ,cnt,Sj n]
  by_cases hq:q=p
  ·simp only [hq,true_and,if_true]
   split<;>omega
  ·simp [hq]
theorem Ii {p t u:Int}:∀ (L:List AI) (a w:Int),Bd L→Hh t u (AZ p a L) w=w+cnt p t u a (Cd L)
 | [],a,w,_=>by simp [AZ,Hh,Cd,cnt]
 | r::l,a,w,h=>by
  have hp:=h r (List.mem_cons_self ..)
  have hl:Bd l:=fun x hx=>h x (List.mem_cons_of_mem _ hx)
  rw [AZ,Cd,Jj,Sj]
  by_cases hq:r.part=p
  ·rw [if_pos hq,if_pos hq,List.singleton_append,Hh,Ii l _ _ hl]
   simp only [List.length_replicate]
   rw [show a+(r.n.toNat:Int)=a+r.n by omega];omega
  ·rw [if_neg hq,if_neg hq,List.nil_append,Ii l _ _ hl]
   simp only [List.length_replicate]
   rw [show a+(r.n.toNat:Int)=a+r.n by omega];omega
theorem Mc {p t u:Int}:∀ (A:List Int) (a:Int),a+A.length≤t∨u≤a→cnt p t u a A=0
 | [],a,_=>rfl
 | x::A,a,h=>by
  simp only [List.length_cons] at h
  rw [cnt,Mc A (a+1) (by omega),if_neg (by omega)];rfl
theorem WW {p t u:Int}:∀ (A:List Int) (a:Int),t≤a→a+A.length≤u→cnt p t u a A=Eu p A 0
 | [],a,_,_=>rfl
 | x::A,a,h1,h2=>by
  simp only [List.length_cons] at h2
  rw [cnt,WW A (a+1) (by omega) (by omega),Eu,Ih p A (if x=p then 0+1 else 0)]
  by_cases hx:x=p
  ·rw [if_pos hx,if_pos ⟨hx,h1,by omega⟩];omega
  ·rw [if_neg hx,if_neg (fun h=>hx h.1)]
theorem Lg {L:List AI} {p t P:Int} (h:Bd L) (h0:0≤t) (hP:0≤P) (h1:t+P≤Ay L):Hh t (t+P) (AZ p 0 L) 0=Eu p (((Cd L).drop t.toNat).take P.toNat) 0:=by
 have hl:=Fd h
 rw [Ii L 0 0 h]
 have e:Cd L=(Cd L).take t.toNat++(((Cd L).drop t.toNat).take P.toNat++((Cd L).drop t.toNat).drop P.toNat):=by
  rw [List.take_append_drop,List.take_append_drop]
 conv=>lhs;rw [e]
 rw [Jj,Jj]
 simp only [List.length_take,List.length_drop]
 rw [Mc _ _ (.inl (by simp only [List.length_take];omega)),WW _ _ (by omega) (by simp only [List.length_take,List.length_drop];omega),Mc _ _ (.inr (by omega))]
 omega
theorem jT {F:Int→Int} {P:Int}:∀ (k:Nat) (t w v:Int),(∀ i:Nat,i<k→F (t+i*P)≤v)→v≤w→1≤k→Iv F P k t w=Iv F P k t v
 | 0,t,w,v,_,_,hk=>by omega
 | k+1,t,w,v,h,hv,_=>by
  have h0:=h 0 (by omega)
  simp only [Int.natCast_zero,Int.zero_mul,Int.add_zero] at h0
  rw [Iv,Iv]
  congr 1
  omega
end Go.Ab.T
namespace Go.Ab.T
open Go Go.Ab
theorem Hy.ok {L:List AI} (h:Hy L):EN L:=Ho h.1 (by have:=h.2;omega)
theorem Hy.length {L:List AI} (h:Hy L):C4 L 0=Ay L:=by rw [HP L 0 h.1 (by omega) (by have:=h.2;omega)];omega
theorem Km {L:List AI} {p:Int} (hf:Hy L):Pf tp Yt [.fl 2 (L.map AI.enc),.i .i64 p] (.fl 2 ((AZ p 0 L).map CI.enc)):=by
 refine AD aGu (by simp [Px]) fun rp=>?_;unfold Px;simp (disch:=omega)only[go_sem, *]
 have hL:=rp.head.len
 obtain ⟨hp,hs⟩:=hf
 refine Ae (fun n e h=>∃ (i:Nat) (a:Int) (o:V) (A:List CI),n=L.length - i∧h.lim=0∧e 10=.fl 2 (L.map AI.enc)∧e 11=.i .i64 L.length∧e 12=.i .i64 i∧e 1=.i .i64 p∧e 5=o∧e 6=.i .i64 a∧i≤L.length∧0≤a∧a+Ay (L.drop i)≤4096∧A.length≤i∧Sl 0 h 2 o (A.map CI.enc)∧A++AZ p a (L.drop i)=AZ p 0 L) ?_ _ _ _ ⟨0,0,.ns,[],rfl, ?_⟩
 ·rintro n e h ⟨i,a,o,A,rfl,hl,e10,e11,e12,e1,e5,e6,hi,ha,has,hA,so,hz⟩ ih
  rw [Ai VI.eq_1]
  simp (disch:=omega)only[go_sem, *]
  refine Aa (fun hc=>?_) (fun hc=>?_)
  ·have hn:=hp.nth (i:=i) (by omega)
   have hd:=Ax (L:=L) (i:=i) (by omega)
   have hsd:=Cn (w:=L.drop (i+1)) (fun q hq=>hp q (List.mem_of_mem_drop hq))
   rw [hd,AZ] at hz
   rw [hd,Ay] at has
   clear hd
   simp (disch:=omega)only[go_sem, *]
   have hadd:=JE (a:=a) (b:=(nth L i).n) (by omega) (by omega) (by omega)
   refine Pf.go (QB (a:=a) (b:=(nth L i).n) (by omega) (by omega)) (by simp only [go_sem]) fun _=>?_;simp (disch:=omega)only[go_sem, *]
   have x1:∀ k,AK h ((h.alloc ⟨2,[[.i .i64 0,.i .i64 0]]⟩).put h.next k):=fun k=>by (repeat (first | exact AK.refl _ | refine AK.alloc ?_ _ | (refine AK.put ?_ _ _ ?_;rotate_left;(first | omega | (simp only [Ag,AB];omega)))))
   refine Aq (fun hc2=>?_) (fun hc2=>?_)
   ·rw [if_pos hc2] at hz
    simp (disch:=omega)only[go_sem, *]
    refine Aa (fun hc3=>?_) (fun hc3=>by omega)
    simp (disch:=omega)only[go_sem, *]
    refine Ao (R:=A.map CI.enc) ((so.ext (x1 _)).alloc _) (by simp only [go_sem, *]) (Nat.zero_le _) (by simp;omega) ?_
    intro w h4 s4 g4
    have hl4:=g4.lim
    simp (disch:=omega)only[go_sem, *]
    refine ih _ _ _ ?_ ⟨i+1,a+(nth L i).n,w,A++[⟨a,a+(nth L i).n⟩],rfl, ?_⟩
    ·omega
    ·simp (disch:=omega)only[go_sem, *]
     ((repeat' refine And.intro ?_ ?_)<;>first | omega | assumption | (simp;omega) | (simpa [CI.enc] using s4) | ((rw [← hz];simp)))
   ·rw [if_neg hc2] at hz
    simp (disch:=omega)only[go_sem, *]
    refine ih _ _ _ ?_ ⟨i+1,a+(nth L i).n,o,A,rfl, ?_⟩
    ·omega
    ·simp (disch:=omega)only[go_sem, *]
     ((repeat' refine And.intro ?_ ?_)<;>first | omega | assumption | (exact so.ext (x1 _)) | ((rw [← hz];simp)))
  ·rw [List.drop_eq_nil_of_le (by omega),AZ,List.append_nil] at hz
   simp (disch:=omega)only[go_sem, *]
   subst hz
   exact so.froze (fun _=>rfl) trivial (by omega)
 ·simp (disch:=omega)only[go_sem, *]
  exact ⟨by simp;omega,Sl.nil _ _ _⟩
theorem SS {A:List CI} {t N a:Int} (hs:CX a A N) (ha:0≤a) (hn:N≤4096) (ht:0≤t∧t≤4096) (hne:A≠[]):Pf tp Yv [.fl 2 (A.map CI.enc),.i .i64 t,.i .i64 N] (.i .i64 (Jg A t N)):=by
 refine AD aGw (by simp [Pz]) fun rp=>?_;unfold Pz;simp (disch:=omega)only[go_sem, *]
 have hL:=rp.head.len
 have hlen:0<A.length:=List.length_pos_iff.2 hne
 refine Ae (fun n e h=>∃ (i:Nat),n=A.length - i∧h.lim=0∧e 9=.fl 2 (A.map CI.enc)∧e 10=.i .i64 A.length∧e 11=.i .i64 i∧e 0=.fl 2 (A.map CI.enc)∧e 1=.i .i64 t∧e 2=.i .i64 N∧i≤A.length∧Mw t (A.drop i)=Mw t A) ?_ _ _ _ ⟨0,rfl, ?_⟩
 ·rintro n e h ⟨i,rfl,hl,e9,e10,e11,e0,e1,e2,hi,hz⟩ ih
  rw [Ai qP.eq_1]
  simp (disch:=omega)only[go_sem, *]
  refine Aa (fun hc=>?_) (fun hc=>?_)
  ·have hm:=hs.mem (Bl (L:=A) (j:=i) (by omega))
   rw [Ax (by omega),Mw] at hz
   simp (disch:=omega)only[go_sem, *]
   refine Aa (fun hc2=>?_) (fun hc2=>?_)
   ·rw [if_pos hc2] at hz
    unfold Jg
    rw [← hz]
    simp (disch:=omega)only[go_sem, *]
   ·rw [if_neg hc2] at hz
    simp (disch:=omega)only[go_sem, *]
    refine ih _ _ _ ?_ ⟨i+1,rfl, ?_⟩
    ·omega
    ·simp (disch:=omega)only[go_sem, *]
     ((repeat' refine And.intro ?_ ?_)<;>first | omega | assumption)
  ·have hm:=hs.mem (Bl (L:=A) (j:=0) (by omega))
   rw [List.drop_eq_nil_of_le (by omega),Mw] at hz
   unfold Jg
   rw [← hz]
   have z0:Int.toNat 0=0:=rfl
   have hlen2:(0:Int)<A.length:=by omega
   simp (disch:=omega)only[go_sem, *]
 ·simp (disch:=omega)only[go_sem, *]
end Go.Ab.T
namespace Go.Ab.T
open Go Go.Ab
set_option maxHeartbeats 1000000
theorem Ru {A:List CI} {t n:Int} (hs:CX 0 A n) (ht:t<n) (hne:A≠[]):Jg A t n≤n+n:=by
 have hm:=hs.mem (Bl (L:=A) (j:=0) (List.length_pos_iff.2 hne))
 unfold Jg
 rcases F0 (t:=t) hs with ⟨h,_⟩ | ⟨s,hs1,h,h2,_⟩
 ·rw [h];simp only;omega
 ·rw [h];simp only
  have:=hs.mem hs1
  omega
theorem jJ {L:List AI} {f t:Int} (hf:Hy L):Pf tp X5 [.fl 2 (L.map AI.enc),.i .i64 f,.i .i64 t] (.i .i64 (DL L f t)):=by
 refine AD aFW (by simp [OX]) fun rp=>?_;unfold OX;simp (disch:=omega)only[go_sem, *]
 have hss:=B8 (p:=f) (a:=0) hf.1
 have hst:=B8 (p:=t) (a:=0) hf.1
 rw [Int.zero_add] at hss hst
 have hlen:=hf.length
 have hs0:=Cn hf.1
 have hs4:=hf.2
 refine Pf.go (Km (p:=f) hf) (by simp only [go_sem]) fun q1=>?_
 have hq1:=q1.len
 simp (disch:=omega)only[go_sem, *]
 refine Pf.go (Km (p:=t) hf) (by simp only [go_sem]) fun _=>?_;simp (disch:=omega)only[go_sem, *]
 unfold DL
 refine Aa (fun hc=>?_) (fun hc=>?_)
 ·have e:AZ f 0 L=[]:=List.length_eq_zero_iff.1 (by omega)
  rw [if_pos e]
  simp (disch:=omega)only[go_sem, *]
 have e:AZ f 0 L≠[]:=fun h=>hc (by rw [h];rfl)
 rw [if_neg e]
 clear e
 simp (disch:=omega)only[go_sem, *]
 refine Aa (fun hc=>?_) (fun hc=>?_)
 ·have e:AZ t 0 L=[]:=List.length_eq_zero_iff.1 (by omega)
  rw [if_pos e]
  simp (disch:=omega)only[go_sem, *]
 have hst0:AZ t 0 L≠[]:=fun h=>hc (by rw [h];rfl)
 rw [if_neg hst0]
 simp (disch:=omega)only[go_sem, *]
 refine Pf.go (Ly hf.ok) (by simp only [go_sem]) fun _=>?_;simp (disch:=omega)only[go_sem, *]
 refine Ae (fun n e h=>∃ (i:Nat) (w:Int),n=(AZ f 0 L).length - i∧h.lim=0∧e 31=.fl 2 ((AZ f 0 L).map CI.enc)∧e 32=.i .i64 (AZ f 0 L).length∧e 33=.i .i64 i∧e 8=.fl 2 ((AZ t 0 L).map CI.enc)∧e 9=.i .i64 (Ay L)∧e 10=.i .i64 w∧i≤(AZ f 0 L).length∧F5 (AZ t 0 L) (Ay L) ((AZ f 0 L).drop i) w=F5 (AZ t 0 L) (Ay L) (AZ f 0 L) 0) ?_ _ _ _ ⟨0,0,rfl, ?_⟩
 ·rintro n e h ⟨i,w,rfl,hl,e31,e32,e33,e8,e9,e10,hi,hz⟩ ih
  rw [Ai Vr.eq_1]
  simp (disch:=omega)only[go_sem, *]
  refine Aa (fun hc=>?_) (fun hc=>?_)
  ·have hm:=hss.mem (Bl (L:=AZ f 0 L) (j:=i) (by omega))
   rw [Ax (by omega),F5] at hz
   simp (disch:=omega)only[go_sem, *]
   refine Bb ?_
   rw [Ai L3.eq_1]
   simp (disch:=omega)only[go_sem, *]
   try (refine Aa (fun hc9=>?_) (fun hc9=>absurd hc9 (by decide));simp (disch:=omega)only[go_sem, *])
   refine Pf.go (SS hst (Int.le_refl 0) hf.2 (by omega) hst0) (by simp only [go_sem]) fun _=>?_;simp (disch:=omega)only[go_sem, *]
   have hnx:=Jo hf.1 (t:=(nth (AZ f 0 L) i).s) (by omega) (by omega) hst0
   have hnx1:=hnx.1
   have hnx2:=Ru (t:=(nth (AZ f 0 L) i).s) hst (by omega) hst0
   try simp (disch:=omega)only[go_sem, *]
   refine Bb ?_
   rw [Ai L3.eq_1]
   simp (disch:=omega)only[go_sem, *]
   try (refine Aa (fun hc9=>?_) (fun hc9=>absurd hc9 (by decide));simp (disch:=omega)only[go_sem, *])
   refine Pf.go (SS hst (Int.le_refl 0) hf.2 (by omega) hst0) (by simp only [go_sem]) fun _=>?_;simp (disch:=omega)only[go_sem, *]
   have hnx:=Jo hf.1 (t:=(nth (AZ f 0 L) i).e - 1) (by omega) (by omega) hst0
   have hnx1:=hnx.1
   have hnx2:=Ru (t:=(nth (AZ f 0 L) i).e - 1) hst (by omega) hst0
   try simp (disch:=omega)only[go_sem, *]
   refine Bb ?_
   rw [Ai L3.eq_1]
   simp (disch:=omega)only[go_sem, *]
   try (refine Aa (fun hc9=>absurd hc9 (by decide)) (fun hc9=>?_);simp (disch:=omega)only[go_sem, *])
   refine ih _ _ _ ?_ ⟨i+1,(max (max w (Jg (AZ t 0 L) (nth (AZ f 0 L) i).s (Ay L) - (nth (AZ f 0 L) i).s)) (Jg (AZ t 0 L) ((nth (AZ f 0 L) i).e - 1) (Ay L) - ((nth (AZ f 0 L) i).e - 1))),rfl, ?_⟩
   ·omega
   ·simp (disch:=omega)only[go_sem, *]
    ((repeat' refine And.intro ?_ ?_)<;>first | omega | assumption)
  ·rw [List.drop_eq_nil_of_le (by omega),F5] at hz
   simp (disch:=omega)only[go_sem, *]
 ·simp (disch:=omega)only[go_sem, *]
end Go.Ab.T
namespace Go.Ab.T
open Go Go.Ab
set_option maxHeartbeats 1000000
@[go_sem] def D9 (x:Int):List V:=[.i .i64 x]
set_option maxRecDepth 4000 in
theorem PU {L:List AI} (hf:Hy L):Pf tp Yc [.fl 2 (L.map AI.enc)] (.fl 1 ((Cd L).map D9)):=by
 refine AD aF3 (by simp [O4]) fun rp=>?_;unfold O4;simp (disch:=omega)only[go_sem, *]
 have hL:=rp.head.len
 have hwl:=Fd hf.1
 have hs4:=hf.2
 refine Ae (fun n e h=>∃ (i:Nat) (o:V) (A:List Int),n=L.length - i∧h.lim=0∧e 7=.fl 2 (L.map AI.enc)∧e 8=.i .i64 L.length∧e 9=.i .i64 i∧e 3=o∧i≤L.length∧Sl 0 h 1 o (A.map D9)∧A++Cd (L.drop i)=Cd L) ?_ _ _ _ ⟨0,.ns,[],rfl, ?_⟩
 ·rintro n e h ⟨i,o,A,rfl,hl,e7,e8,e9,e3,hi,so,hz⟩ ih
  rw [Ai Vw.eq_1]
  simp (disch:=omega)only[go_sem, *]
  refine Aa (fun hc=>?_) (fun hc=>?_)
  ·have hn:=hf.1.nth (i:=i) (by omega)
   rw [Ax (by omega),Cd] at hz
   have hzl:=congrArg List.length hz
   simp only [List.length_append,List.length_replicate] at hzl
   simp (disch:=omega)only[go_sem, *]
   have x1:∀ k,AK h ((h.alloc ⟨2,[[.i .i64 0,.i .i64 0]]⟩).put h.next k):=fun k=>by (repeat (first | exact AK.refl _ | refine AK.alloc ?_ _ | (refine AK.put ?_ _ _ ?_;rotate_left;(first | omega | (simp only [Ag,AB];omega)))))
   have bx:((h.alloc ⟨2,[[.i .i64 0,.i .i64 0]]⟩).put h.next ⟨2,[[.i .i64 (nth L i).part,.i .i64 (nth L i).n]]⟩).get h.next=some ⟨2,[[.i .i64 (nth L i).part,.i .i64 (nth L i).n]]⟩:=by simp (disch:=omega)only[go_sem, *]
   have so1:=so.ext (x1 ⟨2,[[.i .i64 (nth L i).part,.i .i64 (nth L i).n]]⟩)
   have hl1:((h.alloc ⟨2,[[.i .i64 0,.i .i64 0]]⟩).put h.next ⟨2,[[.i .i64 (nth L i).part,.i .i64 (nth L i).n]]⟩).lim=0:=by simp (disch:=omega)only[go_sem, *]
   have hid:Ba o=true∨AW o≠h.next:=(DG so).imp (fun x=>x) (fun x=>by omega)
   have hlt:h.next<((h.alloc ⟨2,[[.i .i64 0,.i .i64 0]]⟩).put h.next ⟨2,[[.i .i64 (nth L i).part,.i .i64 (nth L i).n]]⟩).next:=by simp (disch:=omega)only[go_sem, *];omega
   generalize ((h.alloc ⟨2,[[.i .i64 0,.i .i64 0]]⟩).put h.next ⟨2,[[.i .i64 (nth L i).part,.i .i64 (nth L i).n]]⟩)=hh at bx so1 hl1 hlt ⊢
   generalize h.next=b at bx hid hlt ⊢
   refine Ae (fun n e h=>∃ (j:Nat) (o:V) (B:List Int),n=(nth L i).n.toNat - j∧h.lim=0∧e 7=.fl 2 (L.map AI.enc)∧e 8=.i .i64 L.length∧e 9=.i .i64 i∧e 3=o∧e 5=.p b 0 0∧e 6=.i .i64 j∧h.get b=some ⟨2,[[.i .i64 (nth L i).part,.i .i64 (nth L i).n]]⟩∧(Ba o=true∨AW o≠b)∧b<h.next∧Sl 0 h 1 o (B.map D9)∧j≤(nth L i).n.toNat∧A++List.replicate j (nth L i).part=B) ?_ _ _ _ ⟨0,o,A,rfl, ?_⟩
   ·rintro n e h ⟨j,o,B,rfl,hl,e7,e8,e9,e3,e5,e6,bx,hid,hlt,so,hj,hB⟩ ih2
    obtain ⟨olen,obig,olt,olo,oget,oat,orow,ocell,ocells⟩:=so.facts
    have hBl:=congrArg List.length hB
    simp only [List.length_append,List.length_replicate] at hBl
    rw [Ai qH.eq_1]
    simp (disch:=omega)only[go_sem, *]
    refine Aq (fun hc2=>?_) (fun hc2=>?_)
    ·have hB8:((B.length:Int)<8192):=by omega
     simp (disch:=omega)only[go_sem, *]
     refine Ao (so.alloc _) (by simp only [go_sem, *]) (Nat.zero_le _) (by simp;omega) ?_
     intro w h4 s4 g4
     have g5:=Mo g4 ((AK.refl _).alloc _) (Nat.zero_le _)
     have hl4:=g5.lim
     have hn4:=g5.next
     have hb4:=g5.get b hlt (hid.imp (fun x=>x) (fun x=>x.symm))
     have hid4:Ba w=true∨AW w≠b:=by
      rcases g5.own with h1 | ⟨h1,h2⟩ | h1
      ·exact .inl h1
      ·rcases hid with h3 | h3
       ·rw [h3] at h1;cases h1
       ·exact .inr (by omega)
      ·exact .inr (by omega)
     simp (disch:=omega)only[go_sem, *]
     refine ih2 _ _ _ ?_ ⟨j+1,w,B++[(nth L i).part],rfl, ?_⟩
     ·omega
     ·simp (disch:=omega)only[go_sem, *]
      ((repeat' refine And.intro ?_ ?_)<;>first | omega | assumption | (simpa [D9] using s4) | ((rw [← hB,List.replicate_succ',List.append_assoc])))
    ·simp (disch:=omega)only[go_sem, *]
     have hj2:j=(nth L i).n.toNat:=by omega
     refine ih _ _ _ ?_ ⟨i+1,o,B,rfl, ?_⟩
     ·omega
     ·simp (disch:=omega)only[go_sem, *]
      ((repeat' refine And.intro ?_ ?_)<;>first | omega | assumption | ((rw [← hB,hj2,List.append_assoc];exact hz)))
   ·simp (disch:=omega)only[go_sem, *]
  ·rw [List.drop_eq_nil_of_le (by omega),Cd,List.append_nil] at hz
   simp (disch:=omega)only[go_sem, *]
   subst hz
   exact so.froze (fun _=>rfl) trivial (by omega)
 ·simp (disch:=omega)only[go_sem, *]
  exact Sl.nil _ _ _
def NE (p:Int):List Int→Bool→Bool
 | [],b=>b
 | x::l,b=>NE p l (b||decide (x=p))
theorem Kd (p:Int):∀ (l:List Int) (b:Bool),NE p l b=(b||decide (p∈l))
 | [],b=>by simp [NE]
 | x::l,b=>by
  rw [NE,Kd p l]
  by_cases h:x=p
  ·subst h;simp
  ·have h2:¬ p=x:=fun q=>h q.symm
   simp [h,h2]
end Go.Ab.T
namespace Go.Ab.T
open Go Go.Ab
set_option maxHeartbeats 1000000
theorem Kh {L:List AI} {f t:Int} (hf:Hy L):Pf tp XQ [.fl 2 (L.map AI.enc),.i .i64 f,.i .i64 t] (.i .i64 (DL L f t)):=by
 refine AD aFE (by simp [OE]) fun rp=>?_;unfold OE;simp (disch:=omega)only[go_sem, *]
 have hL:=rp.head.len
 have hwl:=Fd hf.1
 have hs4:=hf.2
 have hs0:=Cn hf.1
 refine Pf.go (PU hf) (by simp only [go_sem]) fun _=>?_;simp (disch:=omega)only[go_sem, *]
 have r0:(if f∈Cd L then if t∈Cd L then FY (Cd L) f (fun x=>Jg (AZ t 0 L) x (Ay L) - x) (Cd L) 0 0 else -1 else 0)=DL L f t:=by
  unfold DL
  have m1:=Jn (p:=f) (a:=0) hf.1
  have m2:=Jn (p:=t) (a:=0) hf.1
  by_cases h1:AZ f 0 L=[]
  ·rw [if_pos h1,if_neg (by rw [m1];exact fun h=>h h1)]
  ·rw [if_neg h1,if_pos (m1.2 h1)]
   by_cases h2:AZ t 0 L=[]
   ·rw [if_pos h2,if_neg (by rw [m2];exact fun h=>h h2)]
   ·rw [if_neg h2,if_pos (m2.2 h2)]
    exact Np hf.1 h2 L 0 0 [] hf.1 rfl rfl
 rw [← r0]
 clear r0
 refine Ae (fun n e h=>∃ (i:Nat) (s:Bool) (y:Bool),n=(Cd L).length - i∧h.lim=0∧e 18=.fl 1 ((Cd L).map D9)∧e 19=.i .i64 (Cd L).length∧e 20=.i .i64 i∧e 1=.i .i64 f∧e 2=.i .i64 t∧e 7=.fl 1 ((Cd L).map D9)∧e 8=.i .i64 0∧e 9=.b s∧e 10=.b y∧i≤(Cd L).length∧NE t ((Cd L).drop i) s=decide (t∈Cd L)∧NE f ((Cd L).drop i) y=decide (f∈Cd L)) ?_ _ _ _ ⟨0,false,false,rfl, ?_⟩
 ·rintro n e h ⟨i,s,y,rfl,hl,e18,e19,e20,e1,e2,e7,e8,e9,e10,hi,hs,hy⟩ ih
  rw [Ai qC.eq_1]
  simp (disch:=omega)only[go_sem, *]
  refine Aa (fun hc=>?_) (fun hc=>?_)
  ·rw [Ax (by omega),NE] at hs hy
   simp (disch:=omega)only[go_sem, *]
   cases s<;>cases y
   ·skip
    simp (disch:=omega)only[go_sem, *]
    refine ih _ _ _ ?_ ⟨i+1,(false||decide (nth (Cd L) i=t)),(false||decide (nth (Cd L) i=f)),rfl, ?_⟩
    ·omega
    ·simp only [Bool.false_or,Bool.true_or] at hs hy ⊢
     simp (disch:=omega)only[go_sem, *]
     omega
   ·skip
    simp (disch:=omega)only[go_sem, *]
    refine ih _ _ _ ?_ ⟨i+1,(false||decide (nth (Cd L) i=t)),(true||decide (nth (Cd L) i=f)),rfl, ?_⟩
    ·omega
    ·simp only [Bool.false_or,Bool.true_or] at hs hy ⊢
     simp (disch:=omega)only[go_sem, *]
     omega
   ·skip
    simp (disch:=omega)only[go_sem, *]
    refine ih _ _ _ ?_ ⟨i+1,(true||decide (nth (Cd L) i=t)),(false||decide (nth (Cd L) i=f)),rfl, ?_⟩
    ·omega
    ·simp only [Bool.false_or,Bool.true_or] at hs hy ⊢
     simp (disch:=omega)only[go_sem, *]
     omega
   ·skip
    simp (disch:=omega)only[go_sem, *]
    refine ih _ _ _ ?_ ⟨i+1,(true||decide (nth (Cd L) i=t)),(true||decide (nth (Cd L) i=f)),rfl, ?_⟩
    ·omega
    ·simp only [Bool.false_or,Bool.true_or] at hs hy ⊢
     simp (disch:=omega)only[go_sem, *]
     omega
  ·rw [List.drop_eq_nil_of_le (by omega),NE] at hs hy
   subst hs hy
   simp (disch:=omega)only[go_sem, *]
   refine Aa (fun hm=>?_) (fun hm=>?_)
   ·simp (disch:=omega)only[go_sem, *]
   have hm:f∈Cd L:=by simpa using hm
   simp (disch:=omega)only[go_sem, *]
   refine Aa (fun hn=>?_) (fun hn=>?_)
   ·simp (disch:=omega)only[go_sem, *]
   have hn:t∈Cd L:=by simpa using hn
   have hne:=(Jn (p:=t) (a:=0) hf.1).1 hn
   simp (disch:=omega)only[go_sem, *]
   refine Ae (fun n e h=>∃ (i:Nat) (w:Int),n=(Cd L).length - i∧h.lim=0∧e 41=.fl 1 ((Cd L).map D9)∧e 42=.i .i64 (Cd L).length∧e 43=.i .i64 i∧e 1=.i .i64 f∧e 2=.i .i64 t∧e 7=.fl 1 ((Cd L).map D9)∧e 8=.i .i64 w∧i≤(Cd L).length∧FY (Cd L) f (fun x=>Jg (AZ t 0 L) x (Ay L) - x) ((Cd L).drop i) i w=FY (Cd L) f (fun x=>Jg (AZ t 0 L) x (Ay L) - x) (Cd L) 0 0) ?_ _ _ _ ⟨0,0,rfl, ?_⟩
   ·rintro n e h ⟨i,w,rfl,hl,e41,e42,e43,e1,e2,e7,e8,hi,hz⟩ ih
    rw [Ai Vk.eq_1]
    simp (disch:=omega)only[go_sem, *]
    refine Aa (fun hc=>?_) (fun hc=>?_)
    ·have hd:=Jo hf.1 (t:=(i:Int)) (p:=t) (by omega) (by omega) hne
     have hb:=Ru (t:=(i:Int)) (by have:=B8 (p:=t) (a:=0) hf.1;rwa [Int.zero_add] at this) (by omega) hne
     rw [Ax (by omega),FY] at hz
     simp (disch:=omega)only[go_sem, *]
     refine Aa (fun hc2=>?_) (fun hc2=>?_)
     ·rw [if_neg hc2] at hz
      simp (disch:=omega)only[go_sem, *]
      refine ih _ _ _ ?_ ⟨i+1,w,rfl, ?_⟩
      ·omega
      ·simp (disch:=omega)only[go_sem, *]
       ((repeat' refine And.intro ?_ ?_)<;>first | omega | assumption)
     ·have hc3:nth (Cd L) i=f:=by simpa using hc2
      rw [if_pos hc3] at hz
      have hwn:0<Ay L:=by omega
      generalize hD:Jg (AZ t 0 L) i (Ay L) - i=D at hz hd
      have hD4:D≤8192:=by omega
      clear hc2
      simp (disch:=omega)only[go_sem, *]
      refine Ae (fun n e h=>∃ (d:Nat),n=D.toNat - d∧h.lim=0∧e 41=.fl 1 ((Cd L).map D9)∧e 42=.i .i64 (Ay L)∧e 43=.i .i64 i∧e 1=.i .i64 f∧e 2=.i .i64 t∧e 7=.fl 1 ((Cd L).map D9)∧e 8=.i .i64 w∧e 13=.i .i64 i∧e 15=.i .i64 d∧1≤d∧(d:Int)≤D) ?_ _ _ _ ⟨1,rfl, ?_⟩
      ·rintro n e h ⟨d,rfl,hl,e41,e42,e43,e1,e2,e7,e8,e13,e15,h1d,hdD⟩ ih2
       have hmod:(((i:Int)+d).tmod (Ay L))=((i:Int)+d) % Ay L:=Int.tmod_eq_emod_of_nonneg (by omega)
       have hm0:0≤((i:Int)+d) % Ay L:=Int.emod_nonneg _ (by omega)
       have hm1:((i:Int)+d) % Ay L<Ay L:=Int.emod_lt_of_pos _ hwn
       have hfar:(d:Int)<D→FF (Cd L) (((i:Int)+d) % Ay L)≠t:=fun h=>by rw [← hwl];exact hd.2.2 d (by omega) h
       have hnear:(d:Int)=D→FF (Cd L) (((i:Int)+d) % Ay L)=t:=fun h=>by rw [h,←hwl];exact hd.2.1
       unfold FF at hfar hnear
       generalize ((i:Int)+d) % Ay L=m at hmod hm0 hm1 hfar hnear
       rw [Ai Vj.eq_1]
       simp (disch:=omega)only[go_sem, *]
       refine Aa (fun hc4=>?_) (fun hc4=>?_)
       ·have:(d:Int)≠D:=fun h=>hc4 (hnear h)
        simp (disch:=omega)only[go_sem, *]
        refine ih2 _ _ _ ?_ ⟨d+1,rfl, ?_⟩
        ·omega
        ·simp (disch:=omega)only[go_sem, *]
         omega
       ·have hdd:(d:Int)=D:=by
         rcases Int.lt_or_eq_of_le hdD with h | h
         ·exact absurd (by simpa using hc4) (hfar h)
         ·exact h
        simp (disch:=omega)only[go_sem, *]
        refine ih _ _ _ ?_ ⟨i+1,max w D,rfl, ?_⟩
        ·omega
        ·simp (disch:=omega)only[go_sem, *]
         ((repeat' refine And.intro ?_ ?_)<;>first | omega | assumption | ((rw [hD];assumption)))
      ·simp (disch:=omega)only[go_sem, *]
       have:=hd.1
       ((repeat' refine And.intro ?_ ?_)<;>first | omega | assumption)
    ·rw [List.drop_eq_nil_of_le (by omega),FY] at hz
     simp (disch:=omega)only[go_sem, *]
   ·simp (disch:=omega)only[go_sem, *]
 ·simp (disch:=omega)only[go_sem, *]
  exact ⟨by rw [Kd];rfl,by rw [Kd];rfl⟩
end Go.Ab.T
namespace Go.Ab.T
open Go Go.Ab
set_option maxHeartbeats 1000000
theorem Gv {L:List AI} {p P:Int} (h:P<1∨Ay L=0∨Ay L % P≠0):HC L p P = -1:=if_pos h
theorem WH {L:List AI} {p P:Int} (h1:¬ P<1) (h2:¬ Ay L=0) (h3:¬ Ay L % P≠0):HC L p P=Iv (fun t=>Hh t (t+P) (AZ p 0 L) 0) P (Ay L / P).toNat 0 P:=if_neg (by simp only [not_or];exact ⟨h1,h2,h3⟩)
theorem Tw {L:List AI} {p P:Int} (hf:Hy L):Pf tp X6 [.fl 2 (L.map AI.enc),.i .i64 p,.i .i64 P] (.i .i64 (HC L p P)):=by
 refine AD aFX (by simp [OY]) fun rp=>?_;unfold OY;simp (disch:=omega)only[go_sem, *]
 have hL:=rp.head.len
 have hss:=B8 (p:=p) (a:=0) hf.1
 rw [Int.zero_add] at hss
 have hlen:=hf.length
 have hs0:=Cn hf.1
 have hs4:=hf.2
 refine Pf.go (Ly hf.ok) (by simp only [go_sem]) fun _=>?_;simp (disch:=omega)only[go_sem, *]
 refine Aq (fun h1=>?_) (fun h1=>?_)
 ·have e:=Gv (L:=L) (p:=p) (P:=P) (.inl h1)
  simp (disch:=omega)only[go_sem, *]
 simp (disch:=omega)only[go_sem, *]
 refine Aq (fun h2=>?_) (fun h2=>?_)
 ·have e:=Gv (L:=L) (p:=p) (P:=P) (.inr (.inl h2))
  simp (disch:=omega)only[go_sem, *]
 have hmod:(Ay L).tmod P=Ay L % P:=Int.tmod_eq_emod_of_nonneg hs0
 have hP0:¬ P=0:=by omega
 simp (disch:=omega)only[go_sem, *]
 refine Aa (fun h3=>?_) (fun h3=>?_)
 ·have e:=Gv (L:=L) (p:=p) (P:=P) (.inr (.inr h3))
  simp (disch:=omega)only[go_sem, *]
 have e0:=WH (p:=p) h1 h2 h3
 have hdiv:((Ay L / P).toNat:Int)*P=Ay L:=by
  rw [Int.toNat_of_nonneg (Int.ediv_nonneg hs0 (by omega))]
  have:=Int.emod_add_mul_ediv (Ay L) P
  have h4:Ay L % P=0:=by omega
  rw [Int.mul_comm];omega
 have h3':Ay L % P=0:=by omega
 have hP:P≤4096:=by
  by_cases hlt:Ay L<P
  ·rw [Int.emod_eq_of_lt hs0 hlt] at h3';omega
  ·omega
 clear h3
 simp (disch:=omega)only[go_sem, *]
 refine Pf.go (Km (p:=p) hf) (by simp only [go_sem]) fun q1=>?_
 have hq1:=q1.len
 simp (disch:=omega)only[go_sem, *]
 generalize hm:(Ay L / P).toNat=m at hdiv e0
 clear hmod h3' hm
 refine Ae (fun n e h=>∃ (k:Nat) (t:Int) (w:Int),n=2*k∧h.lim=0∧e 1=.i .i64 p∧e 2=.i .i64 P∧e 7=.i .i64 (Ay L)∧e 8=.fl 2 ((AZ p 0 L).map CI.enc)∧e 9=.i .i64 w∧e 10=.i .i64 t∧0≤t∧t+(k:Int)*P=Ay L∧Iv (fun t=>Hh t (t+P) (AZ p 0 L) 0) P k t w=HC L p P) ?_ _ _ _ ⟨m,0,P,rfl, ?_⟩
 ·rintro n e h ⟨k,t,w,rfl,hl,e1,e2,e7,e8,e9,e10,ht,hk,hz⟩ ih
  rw [Ai Vt.eq_1]
  simp (disch:=omega)only[go_sem, *]
  refine Aa (fun hc=>?_) (fun hc=>?_)
  ·obtain ⟨j,rfl⟩:∃ j,k=j+1:=by
    cases k with
    | zero=>simp at hk;omega
    | succ j=>exact ⟨j,rfl⟩
   have hj0:0≤(j:Int)*P:=Int.mul_nonneg (by omega) (by omega)
   rw [Int.natCast_add,Int.natCast_one,Int.add_mul,Int.one_mul] at hk
   rw [Iv] at hz
   generalize hjP:(j:Int)*P=jP at hk hj0
   clear e0
   simp (disch:=omega)only[go_sem, *]
   have ih0:=ih
   clear ih
   refine Ae (fun n e h=>∃ (i:Nat) (c:Int),n=(AZ p 0 L).length - i∧h.lim=0∧e 38=.fl 2 ((AZ p 0 L).map CI.enc)∧e 39=.i .i64 (AZ p 0 L).length∧e 40=.i .i64 i∧e 1=.i .i64 p∧e 2=.i .i64 P∧e 7=.i .i64 (Ay L)∧e 8=.fl 2 ((AZ p 0 L).map CI.enc)∧e 9=.i .i64 w∧e 10=.i .i64 t∧e 11=.i .i64 c∧i≤(AZ p 0 L).length∧0≤c∧c≤4096*i∧Hh t (t+P) ((AZ p 0 L).drop i) c=Hh t (t+P) (AZ p 0 L) 0) ?_ _ _ _ ⟨0,0,rfl, ?_⟩
   ·rintro n e h ⟨i,c,rfl,hl,e38,e39,e40,e1,e2,e7,e8,e9,e10,e11,hi,hc0,hc1,hw⟩ ih
    rw [Ai Vs.eq_1]
    simp (disch:=omega)only[go_sem, *]
    refine Aa (fun hc=>?_) (fun hc=>?_)
    ·have hm:=hss.mem (Bl (L:=AZ p 0 L) (j:=i) (by omega))
     rw [Ax (by omega),Hh] at hw
     simp (disch:=omega)only[go_sem, *]
     refine ih _ _ _ ?_ ⟨i+1,c+max 0 (min (nth (AZ p 0 L) i).e (t+P) - max (nth (AZ p 0 L) i).s t),rfl, ?_⟩
     ·omega
     ·simp (disch:=omega)only[go_sem, *]
      ((repeat' refine And.intro ?_ ?_)<;>first | omega | assumption)
    ·rw [List.drop_eq_nil_of_le (by omega),Hh] at hw
     simp (disch:=omega)only[go_sem, *]
     refine ih0 _ _ _ ?_ ⟨j,t+P,min w c,rfl, ?_⟩
     ·omega
     ·simp (disch:=omega)only[go_sem, *]
      exact ⟨by omega,by omega⟩
   ·simp (disch:=omega)only[go_sem, *]
    simp
  ·have hk0:k=0:=by
    cases k with
    | zero=>rfl
    | succ j=>
     have hj0:0≤(j:Int)*P:=Int.mul_nonneg (by omega) (by omega)
     rw [Int.natCast_add,Int.natCast_one,Int.add_mul,Int.one_mul] at hk
     omega
   subst hk0
   rw [Iv] at hz
   clear e0
   simp (disch:=omega)only[go_sem, *]
 ·simp (disch:=omega)only[go_sem, *]
  omega
theorem HY {L:List AI} {p P:Int} (hf:Hy L):Pf tp XR [.fl 2 (L.map AI.enc),.i .i64 p,.i .i64 P] (.i .i64 (HC L p P)):=by
 refine AD aFF (by simp [OF]) fun rp=>?_;unfold OF;simp (disch:=omega)only[go_sem, *]
 have hL:=rp.head.len
 have hwl:=Fd hf.1
 have hs0:=Cn hf.1
 have hs4:=hf.2
 refine Pf.go (PU hf) (by simp only [go_sem]) fun _=>?_;simp (disch:=omega)only[go_sem, *]
 refine Aq (fun h1=>?_) (fun h1=>?_)
 ·have e:=Gv (L:=L) (p:=p) (P:=P) (.inl h1)
  simp (disch:=omega)only[go_sem, *]
 simp (disch:=omega)only[go_sem, *]
 refine Aq (fun h2=>?_) (fun h2=>?_)
 ·have e:=Gv (L:=L) (p:=p) (P:=P) (.inr (.inl h2))
  simp (disch:=omega)only[go_sem, *]
 have hmod:(Ay L).tmod P=Ay L % P:=Int.tmod_eq_emod_of_nonneg hs0
 have hP0:¬ P=0:=by omega
 simp (disch:=omega)only[go_sem, *]
 refine Aa (fun h3=>?_) (fun h3=>?_)
 ·have e:=Gv (L:=L) (p:=p) (P:=P) (.inr (.inr h3))
  simp (disch:=omega)only[go_sem, *]
 have e0:=WH (p:=p) h1 h2 h3
 have hdiv:((Ay L / P).toNat:Int)*P=Ay L:=by
  rw [Int.toNat_of_nonneg (Int.ediv_nonneg hs0 (by omega))]
  have:=Int.emod_add_mul_ediv (Ay L) P
  have h4:Ay L % P=0:=by omega
  rw [Int.mul_comm];omega
 have h3':Ay L % P=0:=by omega
 have hP:P≤4096:=by
  by_cases hlt:Ay L<P
  ·rw [Int.emod_eq_of_lt hs0 hlt] at h3';omega
  ·omega
 clear h3
 simp (disch:=omega)only[go_sem, *]
 generalize hm:(Ay L / P).toNat=m at hdiv e0
 clear hmod h3' hm
 have hF:∀ i:Nat,i<m→Hh ((0:Int)+i*P) ((0:Int)+i*P+P) (AZ p 0 L) 0≤P:=by
  intro i hi
  have h0:0≤(i:Int)*P:=Int.mul_nonneg (by omega) (by omega)
  have h1':((i:Int)+1)*P≤(m:Int)*P:=Int.mul_le_mul_of_nonneg_right (by omega) (by omega)
  rw [Int.add_mul,Int.one_mul] at h1'
  rw [Lg hf.1 (by omega) (by omega) (by omega)]
  have:=MY p (((Cd L).drop ((0:Int)+i*P).toNat).take P.toNat) 0
  simp only [List.length_take] at this
  omega
 have hm1:1≤m:=by
  cases m with
  | zero=>simp at hdiv;omega
  | succ m=>omega
 rw [← jT (F:=fun t=>Hh t (t+P) (AZ p 0 L) 0) m 0 (P+1) P hF (by omega) hm1] at e0
 clear hF hm1
 refine Ae (fun n e h=>∃ (k:Nat) (t:Int) (w:Int),n=2*k∧h.lim=0∧e 1=.i .i64 p∧e 2=.i .i64 P∧e 7=.fl 1 ((Cd L).map D9)∧e 8=.i .i64 w∧e 9=.i .i64 t∧0≤t∧t+(k:Int)*P=Ay L∧Iv (fun t=>Hh t (t+P) (AZ p 0 L) 0) P k t w=HC L p P) ?_ _ _ _ ⟨m,0,P+1,rfl, ?_⟩
 ·rintro n e h ⟨k,t,w,rfl,hl,e1,e2,e7,e8,e9,ht,hk,hz⟩ ih
  rw [Ai Vm.eq_1]
  simp (disch:=omega)only[go_sem, *]
  refine Aa (fun hc=>?_) (fun hc=>?_)
  ·obtain ⟨j,rfl⟩:∃ j,k=j+1:=by
    cases k with
    | zero=>simp at hk;omega
    | succ j=>exact ⟨j,rfl⟩
   have hj0:0≤(j:Int)*P:=Int.mul_nonneg (by omega) (by omega)
   rw [Int.natCast_add,Int.natCast_one,Int.add_mul,Int.one_mul] at hk
   rw [Iv] at hz
   generalize hjP:(j:Int)*P=jP at hk hj0
   clear e0
   have hbc:=Lg (p:=p) (t:=t) (P:=P) hf.1 (by omega) (by omega) (by omega)
   have eX:(List.take ((t+P).toNat - t.toNat) (List.drop t.toNat ((Cd L).map D9)))=(((Cd L).drop t.toNat).take P.toNat).map D9:=by rw [← List.map_drop,←List.map_take];congr 2;omega
   have hXl:(((Cd L).drop t.toNat).take P.toNat).length≤4096:=by simp only [List.length_take,List.length_drop];omega
   simp (disch:=omega)only[go_sem, *]
   clear eX
   generalize ((Cd L).drop t.toNat).take P.toNat=X at hbc hXl ⊢
   have ih0:=ih
   clear ih
   refine Ae (fun n e h=>∃ (i:Nat) (c:Int),n=X.length - i∧h.lim=0∧e 43=.fl 1 (X.map D9)∧e 44=.i .i64 X.length∧e 45=.i .i64 i∧e 1=.i .i64 p∧e 2=.i .i64 P∧e 7=.fl 1 ((Cd L).map D9)∧e 8=.i .i64 w∧e 9=.i .i64 t∧e 10=.i .i64 c∧i≤X.length∧0≤c∧c≤i∧Eu p (X.drop i) c=Eu p X 0) ?_ _ _ _ ⟨0,0,rfl, ?_⟩
   ·rintro n e h ⟨i,c,rfl,hl,e43,e44,e45,e1,e2,e7,e8,e9,e10,hi,hc0,hc1,hw⟩ ih
    rw [Ai Vl.eq_1]
    simp (disch:=omega)only[go_sem, *]
    refine Aa (fun hc=>?_) (fun hc=>?_)
    ·rw [Ax (by omega),Eu] at hw
     simp (disch:=omega)only[go_sem, *]
     refine Aa (fun hc2=>?_) (fun hc2=>?_)
     ·rw [if_pos hc2] at hw
      simp (disch:=omega)only[go_sem, *]
      refine ih _ _ _ ?_ ⟨i+1,c+1,rfl, ?_⟩
      ·omega
      ·simp (disch:=omega)only[go_sem, *]
       ((repeat' refine And.intro ?_ ?_)<;>first | omega | assumption)
     ·rw [if_neg hc2] at hw
      simp (disch:=omega)only[go_sem, *]
      refine ih _ _ _ ?_ ⟨i+1,c,rfl, ?_⟩
      ·omega
      ·simp (disch:=omega)only[go_sem, *]
       ((repeat' refine And.intro ?_ ?_)<;>first | omega | assumption)
    ·rw [List.drop_eq_nil_of_le (by omega),Eu] at hw
     rw [hbc] at hz
     simp (disch:=omega)only[go_sem, *]
     refine ih0 _ _ _ ?_ ⟨j,t+P,min w c,rfl, ?_⟩
     ·omega
     ·simp (disch:=omega)only[go_sem, *]
      ((repeat' refine And.intro ?_ ?_)<;>first | omega | assumption)
   ·simp (disch:=omega)only[go_sem, *]
  ·have hk0:k=0:=by
    cases k with
    | zero=>rfl
    | succ j=>
     have hj0:0≤(j:Int)*P:=Int.mul_nonneg (by omega) (by omega)
     rw [Int.natCast_add,Int.natCast_one,Int.add_mul,Int.one_mul] at hk
     omega
   subst hk0
   rw [Iv] at hz
   clear e0
   simp (disch:=omega)only[go_sem, *]
 ·simp (disch:=omega)only[go_sem, *]
  omega
end Go.Ab.T
namespace Go.Ab.T
open Go Go.Ab
set_option maxHeartbeats 1000000
theorem HM {tt:List CI} {n:Int}:∀ (l:List CI) (w:Int),0≤w→0≤F5 tt n l w
 | [],w,h=>h
 | s::l,w,h=>by rw [F5];exact HM l _ (by omega)
theorem Gi (L:List AI) (f t:Int):DL L f t = -1∨0≤DL L f t:=by
 unfold DL
 split
 ·simp
 ·split
  ·exact .inl rfl
  ·exact .inr (HM _ _ (by omega))
@[irreducible] def CF (L:List AI) (x:Ar):Bool:=decide (0<x.late∧(x.late<DL L x.src x.dst∨DL L x.src x.dst = -1))
def Cw (L:List AI):Nat→List Part→Bool
 | _,[]=>false
 | i,p::l=>decide (0<p.budget∧HC L i p.period<p.budget)||Cw L (i+1) l
def Cr (C:Ah) (L:List AI):Int:=if C.chans.any (CF L)=true then 19 else if Cw L 0 C.parts=true then 20 else 0
theorem L8 {α:Type} [Inhabited α] {L:List α} {P:α→Bool} {i:Nat} (hi:i<L.length) (h:P (nth L i)=true):L.any P=true:=List.any_eq_true.2 ⟨_,Bl hi,h⟩
theorem JF {α:Type} [Inhabited α] {L:List α} {P:α→Bool} {i:Nat} (hi:i<L.length) (h:P (nth L i)=false):(L.drop i).any P=(L.drop (i+1)).any P:=by
 rw [Ax hi,List.any_cons,h,Bool.false_or]
theorem XA {C:Ah} {L:List AI} (hf:Hy L):Pf tp XJ [.agg C.enc,.fl 2 (L.map AI.enc)] (.i .i64 (Cr C L)):=by
 refine AD aFx (by simp [Ow]) fun rp=>?_;unfold Ow;simp (disch:=omega)only[go_sem, *]
 have hcl:=G7.len (rp.head.agg (.fl 6 (C.chans.map Ar.enc)) (by simp [Ah.enc]))
 have hpl:=G7.len (rp.head.agg (.fl 11 (C.parts.map Part.enc)) (by simp [Ah.enc]))
 refine Ae (fun n e h=>∃ (i:Nat),n=C.chans.length - i∧h.lim=0∧e 11=.fl 6 (C.chans.map Ar.enc)∧e 12=.i .i64 C.chans.length∧e 13=.i .i64 i∧e 1=.fl 2 (L.map AI.enc)∧e 2=.p 0 0 0∧i≤C.chans.length∧h.get 0=some ⟨3,[C.enc]⟩∧1≤h.next∧C.chans.any (CF L)=(C.chans.drop i).any (CF L)) ?_ _ _ _ ⟨0,rfl, ?_⟩
 ·rintro n e h ⟨i,rfl,hl,e11,e12,e13,e1,e2,hi,hg,hn,hz⟩ ih
  rw [Ai qB.eq_1]
  simp (disch:=omega)only[go_sem, *]
  refine Aa (fun hc=>?_) (fun hc=>?_)
  ·have hlc:=Gi L (nth C.chans i).src (nth C.chans i).dst
   simp (disch:=omega)only[go_sem, *]
   refine Pf.go (jJ hf) (by simp only [go_sem]) fun _=>?_;simp (disch:=omega)only[go_sem, *]
   repeat' (first | (refine Aq (fun hc=>?_) (fun hc=>?_)<;>simp (disch:=omega)only[go_sem, *]) | (refine Aa (fun hc=>?_) (fun hc=>?_)<;>simp (disch:=omega)only[go_sem, *]) | (refine Bk (fun hc=>?_) (fun hc=>?_)<;>simp (disch:=omega)only[go_sem, *]) | (refine AX (fun hc=>?_) (fun hc=>?_)<;>simp (disch:=omega)only[go_sem, *]))
   all_goals
    try
     have hn:CF L (nth C.chans i)=true:=by (unfold CF;grind)
     have:=L8 (by omega) hn
     have e:Cr C L=19:=if_pos this
     exact e.symm
   all_goals
    have hp:CF L (nth C.chans i)=false:=by (unfold CF;grind)
    refine ih _ _ _ ?_ ⟨i+1,rfl, ?_⟩
    ·omega
    ·simp (disch:=omega)only[go_sem, *]
     ((repeat' refine And.intro ?_ ?_)<;>first | omega | assumption | (exact JF (by omega) hp))
  ·rw [List.drop_eq_nil_of_le (by omega),List.any_nil] at hz
   have e:Cr C L=if Cw L 0 C.parts=true then 20 else 0:=by unfold Cr;rw [hz];rfl
   rw [e]
   clear e hz
   simp only [Ah.enc] at hg
   simp (disch:=omega)only[go_sem, *]
   refine Ae (fun n e h=>∃ (i:Nat),n=C.parts.length - i∧h.lim=0∧e 38=.fl 11 (C.parts.map Part.enc)∧e 39=.i .i64 C.parts.length∧e 40=.i .i64 i∧e 1=.fl 2 (L.map AI.enc)∧i≤C.parts.length∧Cw L 0 C.parts=Cw L i (C.parts.drop i)) ?_ _ _ _ ⟨0,rfl, ?_⟩
   ·rintro n e h ⟨i,rfl,hl,e38,e39,e40,e1,hi,hz⟩ ih
    rw [Ai Vh.eq_1]
    simp (disch:=omega)only[go_sem, *]
    refine Aa (fun hc=>?_) (fun hc=>?_)
    ·rw [Ax (by omega),Cw] at hz
     simp (disch:=omega)only[go_sem, *]
     refine Aq (fun hc2=>?_) (fun hc2=>?_)
     ·simp (disch:=omega)only[go_sem, *]
      refine Pf.go (Tw hf) (by simp only [go_sem]) fun _=>?_;simp (disch:=omega)only[go_sem, *]
      refine Aa (fun hc3=>?_) (fun hc3=>?_)
      ·simp (disch:=omega)only[go_sem, *]
       have hd:decide (0<(nth C.parts i).budget∧HC L i (nth C.parts i).period<(nth C.parts i).budget)=true:=by grind
       rw [hd] at hz
       simp [hz]
      ·simp (disch:=omega)only[go_sem, *]
       have hd:decide (0<(nth C.parts i).budget∧HC L i (nth C.parts i).period<(nth C.parts i).budget)=false:=by grind
       rw [hd,Bool.false_or] at hz
       refine ih _ _ _ ?_ ⟨i+1,rfl, ?_⟩
       ·omega
       ·simp (disch:=omega)only[go_sem, *]
        ((repeat' refine And.intro ?_ ?_)<;>first | omega | assumption)
     ·simp (disch:=omega)only[go_sem, *]
      have hd:decide (0<(nth C.parts i).budget∧HC L i (nth C.parts i).period<(nth C.parts i).budget)=false:=by grind
      rw [hd,Bool.false_or] at hz
      refine ih _ _ _ ?_ ⟨i+1,rfl, ?_⟩
      ·omega
      ·simp (disch:=omega)only[go_sem, *]
       ((repeat' refine And.intro ?_ ?_)<;>first | omega | assumption)
    ·rw [List.drop_eq_nil_of_le (by omega),Cw] at hz
     simp (disch:=omega)only[go_sem, *]
     try simp [hz]
   ·simp (disch:=omega)only[go_sem, *]
 ·simp (disch:=omega)only[go_sem, *]
theorem NO {C:Ah} {L:List AI} (hf:Hy L):Pf tp aGQ [.agg C.enc,.fl 2 (L.map AI.enc)] (.i .i64 (Cr C L)):=by
 refine AD aUc (by simp [aC]) fun rp=>?_;unfold aC;simp (disch:=omega)only[go_sem, *]
 have hcl:=G7.len (rp.head.agg (.fl 6 (C.chans.map Ar.enc)) (by simp [Ah.enc]))
 have hpl:=G7.len (rp.head.agg (.fl 11 (C.parts.map Part.enc)) (by simp [Ah.enc]))
 refine Ae (fun n e h=>∃ (i:Nat),n=C.chans.length - i∧h.lim=0∧e 11=.fl 6 (C.chans.map Ar.enc)∧e 12=.i .i64 C.chans.length∧e 13=.i .i64 i∧e 1=.fl 2 (L.map AI.enc)∧e 2=.p 0 0 0∧i≤C.chans.length∧h.get 0=some ⟨3,[C.enc]⟩∧1≤h.next∧C.chans.any (CF L)=(C.chans.drop i).any (CF L)) ?_ _ _ _ ⟨0,rfl, ?_⟩
 ·rintro n e h ⟨i,rfl,hl,e11,e12,e13,e1,e2,hi,hg,hn,hz⟩ ih
  rw [Ai aNc.eq_1]
  simp (disch:=omega)only[go_sem, *]
  refine Aa (fun hc=>?_) (fun hc=>?_)
  ·have hlc:=Gi L (nth C.chans i).src (nth C.chans i).dst
   simp (disch:=omega)only[go_sem, *]
   refine Pf.go (Kh hf) (by simp only [go_sem]) fun _=>?_;simp (disch:=omega)only[go_sem, *]
   repeat' (first | (refine Aq (fun hc=>?_) (fun hc=>?_)<;>simp (disch:=omega)only[go_sem, *]) | (refine Aa (fun hc=>?_) (fun hc=>?_)<;>simp (disch:=omega)only[go_sem, *]) | (refine Bk (fun hc=>?_) (fun hc=>?_)<;>simp (disch:=omega)only[go_sem, *]) | (refine AX (fun hc=>?_) (fun hc=>?_)<;>simp (disch:=omega)only[go_sem, *]))
   all_goals
    try
     have hn:CF L (nth C.chans i)=true:=by (unfold CF;grind)
     have:=L8 (by omega) hn
     have e:Cr C L=19:=if_pos this
     exact e.symm
   all_goals
    have hp:CF L (nth C.chans i)=false:=by (unfold CF;grind)
    refine ih _ _ _ ?_ ⟨i+1,rfl, ?_⟩
    ·omega
    ·simp (disch:=omega)only[go_sem, *]
     ((repeat' refine And.intro ?_ ?_)<;>first | omega | assumption | (exact JF (by omega) hp))
  ·rw [List.drop_eq_nil_of_le (by omega),List.any_nil] at hz
   have e:Cr C L=if Cw L 0 C.parts=true then 20 else 0:=by unfold Cr;rw [hz];rfl
   rw [e]
   clear e hz
   simp only [Ah.enc] at hg
   simp (disch:=omega)only[go_sem, *]
   refine Ae (fun n e h=>∃ (i:Nat),n=C.parts.length - i∧h.lim=0∧e 38=.fl 11 (C.parts.map Part.enc)∧e 39=.i .i64 C.parts.length∧e 40=.i .i64 i∧e 1=.fl 2 (L.map AI.enc)∧i≤C.parts.length∧Cw L 0 C.parts=Cw L i (C.parts.drop i)) ?_ _ _ _ ⟨0,rfl, ?_⟩
   ·rintro n e h ⟨i,rfl,hl,e38,e39,e40,e1,hi,hz⟩ ih
    rw [Ai qG.eq_1]
    simp (disch:=omega)only[go_sem, *]
    refine Aa (fun hc=>?_) (fun hc=>?_)
    ·rw [Ax (by omega),Cw] at hz
     simp (disch:=omega)only[go_sem, *]
     refine Aq (fun hc2=>?_) (fun hc2=>?_)
     ·simp (disch:=omega)only[go_sem, *]
      refine Pf.go (HY hf) (by simp only [go_sem]) fun _=>?_;simp (disch:=omega)only[go_sem, *]
      refine Aa (fun hc3=>?_) (fun hc3=>?_)
      ·simp (disch:=omega)only[go_sem, *]
       have hd:decide (0<(nth C.parts i).budget∧HC L i (nth C.parts i).period<(nth C.parts i).budget)=true:=by grind
       rw [hd] at hz
       simp [hz]
      ·simp (disch:=omega)only[go_sem, *]
       have hd:decide (0<(nth C.parts i).budget∧HC L i (nth C.parts i).period<(nth C.parts i).budget)=false:=by grind
       rw [hd,Bool.false_or] at hz
       refine ih _ _ _ ?_ ⟨i+1,rfl, ?_⟩
       ·omega
       ·simp (disch:=omega)only[go_sem, *]
        ((repeat' refine And.intro ?_ ?_)<;>first | omega | assumption)
     ·simp (disch:=omega)only[go_sem, *]
      have hd:decide (0<(nth C.parts i).budget∧HC L i (nth C.parts i).period<(nth C.parts i).budget)=false:=by grind
      rw [hd,Bool.false_or] at hz
      refine ih _ _ _ ?_ ⟨i+1,rfl, ?_⟩
      ·omega
      ·simp (disch:=omega)only[go_sem, *]
       ((repeat' refine And.intro ?_ ?_)<;>first | omega | assumption)
    ·rw [List.drop_eq_nil_of_le (by omega),Cw] at hz
     simp (disch:=omega)only[go_sem, *]
     try simp [hz]
   ·simp (disch:=omega)only[go_sem, *]
 ·simp (disch:=omega)only[go_sem, *]
end Go.Ab.T
namespace Go.Ab.T
open Go Go.Ab
set_option maxHeartbeats 1000000
theorem Jq {L:List Node}:Hy (Ez L).1:=by
 unfold Ez
 split
 ·exact Hy.nil
 ·rename_i h
  split
  ·exact Hy.nil
  ·obtain ⟨_,ho,hc1,hL,hd,hl⟩:=FU (L:=L) (by omega)
   have hap:=Fo.runs_allpos _ ho
   have hsum:=Fo.runs_sum _ ho
   have ht:=RX hap (by omega)
   exact ⟨ht.pos,by unfold rM;rw [ht.sum];omega⟩
noncomputable def DZ (C:Ah) (T:List Node):Int:=if (Ez T).2≠0 then (Ez T).2 else if (Ez T).1.any (fun r=>decide ((C.parts.length:Int)≤r.part))=true then 16 else Cr C (Ez T).1
theorem lS {C:Ah} {x:AI} {h:AH} {id:Nat} {K:V→AH→Prop} (hg:h.get id=some ⟨3,[C.enc]⟩) (hid:id<h.next) (k:K (.b (decide ((C.parts.length:Int)≤x.part))) h):Cq tp Rb [.agg x.enc,.p id 0 0] h K:=by
 simp only [Ah.enc] at hg
 refine LX iV (by simp [KL]) (k) fun hlm rp=>?_;unfold KL;simp (disch:=omega)only[go_sem, *]
 (repeat (first | exact AK.refl _ | refine AK.alloc ?_ _ | (refine AK.put ?_ _ _ ?_;rotate_left;(first | omega | (simp only [Ag,AB];omega)))))
theorem dC {p x:Part} {h:AH} {id:Nat} {K:V→AH→Prop} (hg:h.get id=some ⟨11,[p.enc]⟩) (hid:id<h.next) (k:K (.b (decide (x.name=p.name))) h):Cq tp QV [.agg x.enc,.p id 0 0] h K:=by
 simp only [Part.enc] at hg
 refine LX hZ (by simp [Kr]) (k) fun hlm rp=>?_;unfold Kr;simp (disch:=omega)only[go_sem, *]
 (repeat (first | exact AK.refl _ | refine AK.alloc ?_ _ | (refine AK.put ?_ _ _ ?_;rotate_left;(first | omega | (simp only [Ag,AB];omega)))))
theorem aG {C:Ah} {T:List Node}:Pf tp QY [.agg C.enc,.fl 3 (T.map Node.enc)] (.i .i64 (DZ C T)):=by
 have hf:=Jq (L:=T)
 refine AD iC (by simp [Ku]) fun rp=>?_;unfold Ku;simp (disch:=omega)only[go_sem, *]
 refine Pf.go (aH6) (by simp only [go_sem]) fun _=>?_;simp (disch:=omega)only[go_sem, *]
 refine Aa (fun hc=>?_) (fun hc=>?_)
 ·have e:DZ C T=(Ez T).2:=if_pos hc
  simp (disch:=omega)only[go_sem, *]
 have e:DZ C T=if (Ez T).1.any (fun r=>decide ((C.parts.length:Int)≤r.part))=true then 16 else Cr C (Ez T).1:=if_neg hc
 simp (disch:=omega)only[go_sem, *]
 refine aGL (P:=fun r=>decide ((C.parts.length:Int)≤r.part)) (fun x hx K k=>lS (by simp (disch:=omega)only[go_sem, *]) (by simp (disch:=omega)only[go_sem, *]) k) ?_
 simp (disch:=omega)only[go_sem, *]
 refine AX (fun hc2=>?_) (fun hc2=>?_)
 ·rw [if_pos hc2] at e
  simp (disch:=omega)only[go_sem, *]
 ·rw [if_neg (by simp [hc2])] at e
  simp (disch:=omega)only[go_sem, *]
  refine Pf.go (XA hf) (by simp only [go_sem]) fun _=>?_;simp (disch:=omega)only[go_sem, *]
noncomputable def Cy (C:Ah):Nat→List (List Node)→Int×Int
 | _,[]=>(0,-1)
 | i,t::l=>if DZ C t≠0 then (DZ C t,(i:Int)) else Cy C (i+1) l
noncomputable def BE (C:Ah):Nat→List Ar→Int×Int
 | _,[]=>Cy C 0 C.tables
 | i,x::l=>if C0 C.parts.length x=false then (17,(i:Int)) else BE C (i+1) l
noncomputable def Bv (C:Ah):Nat→List Part→Int×Int
 | _,[]=>BE C 0 C.chans
 | i,p::l=>if Ew p.name=false∨(C.parts.take i).any (fun q=>decide (q.name=p.name))=true then (15,(i:Int)) else if EX p=false then (16,(i:Int)) else Bv C (i+1) l
noncomputable def A1 (C:Ah):Int×Int:=if C.parts.length<1∨6<C.parts.length∨8<C.chans.length∨C.tables.length<1∨3<C.tables.length then (3,0) else Bv C 0 C.parts
def GT (C:Ah):Prop:=∀ p∈C.parts,p.name.size<4000000000
theorem bQ {C:Ah} (hnm:GT C):Pf tp Yi [.agg C.enc] (.tup [.i .i64 (A1 C).1,.i .i64 (A1 C).2]):=by
 refine AD aGc (by simp [Pd]) fun rp=>?_;unfold Pd;simp (disch:=omega)only[go_sem, *]
 have hcl:=G7.len (rp.head.agg (.fl 6 (C.chans.map Ar.enc)) (by simp [Ah.enc]))
 have hpl:=G7.len (rp.head.agg (.fl 11 (C.parts.map Part.enc)) (by simp [Ah.enc]))
 have htl:=G7.len (rp.head.agg (.fl 1 (C.tables.map Tab.enc)) (by simp [Ah.enc]))
 repeat' (first | (refine Aq (fun hc=>?_) (fun hc=>?_)<;>simp (disch:=omega)only[go_sem, *]) | (refine Aa (fun hc=>?_) (fun hc=>?_)<;>simp (disch:=omega)only[go_sem, *]))
 all_goals try (have e:A1 C=(3,0):=if_pos (by omega);rw [e];exact ⟨rfl,rfl⟩)
 have e:A1 C=Bv C 0 C.parts:=if_neg (by omega)
 rw [e]
 clear e
 refine Ae (fun n e h=>∃ (i:Nat),n=C.parts.length - i∧h.lim=0∧e 40=.fl 11 (C.parts.map Part.enc)∧e 41=.i .i64 C.parts.length∧e 42=.i .i64 i∧e 1=.p 0 0 0∧i≤C.parts.length∧h.get 0=some ⟨3,[C.enc]⟩∧1≤h.next∧Bv C i (C.parts.drop i)=Bv C 0 C.parts) ?_ _ _ _ ⟨0,rfl, ?_⟩
 ·rintro n e h ⟨i,rfl,hl,e40,e41,e42,e1,hi,hg,hn,hz⟩ ih
  rw [Ai VD.eq_1]
  simp (disch:=omega)only[go_sem, *]
  have hg1:=hg
  simp only [Ah.enc] at hg1
  refine Aa (fun hc=>?_) (fun hc=>?_)
  ·rw [Ax (by omega),Bv] at hz
   have hns:=hnm _ (Bl (L:=C.parts) (j:=i) (by omega))
   have eX:List.take i (C.parts.map Part.enc)=(C.parts.take i).map Part.enc:=List.map_take.symm
   simp (disch:=omega)only[go_sem, *]
   refine Pf.go (WV hns) (by simp only [go_sem]) fun _=>?_;simp (disch:=omega)only[go_sem, *]
   refine Bk (fun hc2=>?_) (fun hc2=>?_)
   ·rw [if_pos (.inl (by simpa using hc2))] at hz
    rw [← hz]
    simp (disch:=omega)only[go_sem, *]
   have hc2':Ew (nth C.parts i).name=true:=by simpa using hc2
   simp (disch:=omega)only[go_sem, *]
   refine iZ (P:=fun q=>decide (q.name=(nth C.parts i).name)) (fun x hx K k=>dC (p:=nth C.parts i) (by simp (disch:=omega)only[go_sem, *]) (by simp (disch:=omega)only[go_sem, *];omega) k) ?_
   simp (disch:=omega)only[go_sem, *]
   refine AX (fun hc3=>?_) (fun hc3=>?_)
   ·rw [if_pos (.inr hc3)] at hz
    rw [← hz]
    simp (disch:=omega)only[go_sem, *]
   ·rw [if_neg (by simp [hc2',hc3])] at hz
    simp (disch:=omega)only[go_sem, *]
    refine Pf.go (W0) (by simp only [go_sem]) fun _=>?_;simp (disch:=omega)only[go_sem, *]
    refine AX (fun hc4=>?_) (fun hc4=>?_)
    ·rw [if_pos (by simpa using hc4)] at hz
     rw [← hz]
     simp (disch:=omega)only[go_sem, *]
    ·rw [if_neg (by simpa using hc4)] at hz
     simp (disch:=omega)only[go_sem, *]
     refine ih _ _ _ ?_ ⟨i+1,rfl, ?_⟩
     ·omega
     ·simp (disch:=omega)only[go_sem, *]
      ((repeat' refine And.intro ?_ ?_)<;>first | omega | assumption)
  ·rw [List.drop_eq_nil_of_le (by omega),Bv] at hz
   rw [← hz]
   clear hz
   simp (disch:=omega)only[go_sem, *]
   refine Ae (fun n e h=>∃ (i:Nat),n=C.chans.length - i∧h.lim=0∧e 66=.fl 6 (C.chans.map Ar.enc)∧e 67=.i .i64 C.chans.length∧e 68=.i .i64 i∧e 1=.p 0 0 0∧i≤C.chans.length∧h.get 0=some ⟨3,[C.enc]⟩∧1≤h.next∧BE C i (C.chans.drop i)=BE C 0 C.chans) ?_ _ _ _ ⟨0,rfl, ?_⟩
   ·rintro n e h ⟨i,rfl,hl,e66,e67,e68,e1,hi,hg,hn,hz⟩ ih
    rw [Ai VE.eq_1]
    simp (disch:=omega)only[go_sem, *]
    have hg1:=hg
    simp only [Ah.enc] at hg1
    refine Aa (fun hc=>?_) (fun hc=>?_)
    ·rw [Ax (by omega),BE] at hz
     simp (disch:=omega)only[go_sem, *]
     refine Pf.go (WI (c:=C) (x:=nth C.chans i)) (by simp only [go_sem]) fun _=>?_;simp (disch:=omega)only[go_sem, *]
     refine AX (fun hc4=>?_) (fun hc4=>?_)
     ·rw [if_pos (by simpa using hc4)] at hz
      rw [← hz]
      simp (disch:=omega)only[go_sem, *]
     ·rw [if_neg (by simpa using hc4)] at hz
      simp (disch:=omega)only[go_sem, *]
      refine ih _ _ _ ?_ ⟨i+1,rfl, ?_⟩
      ·omega
      ·simp (disch:=omega)only[go_sem, *]
       ((repeat' refine And.intro ?_ ?_)<;>first | omega | assumption)
    ·rw [List.drop_eq_nil_of_le (by omega),BE] at hz
     rw [← hz]
     clear hz
     simp (disch:=omega)only[go_sem, *]
     refine Ae (fun n e h=>∃ (i:Nat),n=C.tables.length - i∧h.lim=0∧e 80=.fl 1 (C.tables.map Tab.enc)∧e 81=.i .i64 C.tables.length∧e 82=.i .i64 i∧e 1=.p 0 0 0∧i≤C.tables.length∧h.get 0=some ⟨3,[C.enc]⟩∧1≤h.next∧Cy C i (C.tables.drop i)=Cy C 0 C.tables) ?_ _ _ _ ⟨0,rfl, ?_⟩
     ·rintro n e h ⟨i,rfl,hl,e80,e81,e82,e1,hi,hg,hn,hz⟩ ih
      rw [Ai VF.eq_1]
      simp (disch:=omega)only[go_sem, *]
      have hg1:=hg
      simp only [Ah.enc] at hg1
      refine Aa (fun hc=>?_) (fun hc=>?_)
      ·rw [Ax (by omega),Cy] at hz
       simp (disch:=omega)only[go_sem, *]
       refine Pf.go (aG (C:=C)) (by simp only [go_sem]) fun _=>?_;simp (disch:=omega)only[go_sem, *]
       refine Aa (fun hc4=>?_) (fun hc4=>?_)
       ·rw [if_pos hc4] at hz
        rw [← hz]
        simp (disch:=omega)only[go_sem, *]
       ·rw [if_neg hc4] at hz
        simp (disch:=omega)only[go_sem, *]
        refine ih _ _ _ ?_ ⟨i+1,rfl, ?_⟩
        ·omega
        ·simp (disch:=omega)only[go_sem, *]
         ((repeat' refine And.intro ?_ ?_)<;>first | omega | assumption)
      ·rw [List.drop_eq_nil_of_le (by omega),Cy] at hz
       rw [← hz]
       clear hz
       simp (disch:=omega)only[go_sem, *]
     ·simp (disch:=omega)only[go_sem, *]
   ·simp (disch:=omega)only[go_sem, *]
 ·simp (disch:=omega)only[go_sem, *]
end Go.Ab.T
namespace Go.Ab.T
open Go Go.Ab
set_option maxHeartbeats 2000000
theorem kC {L:List Node}:(Ez L).1.length≤96:=by
 unfold Ez
 split
 ·simp
 ·split
  ·simp
  ·simp only;omega
theorem IQ {α:Type} [Inhabited α] {L:List α} {P:α→Bool} {i:Nat} (h:∀ j,j<i→P (nth L j)=false) (hi:i≤L.length):(L.take i).any P=false:=by
 rw [List.any_eq_false]
 intro x hx
 obtain ⟨j,hj,rfl⟩:=List.mem_iff_getElem.1 hx
 have hj2:j<i:=by simp at hj;omega
 have:=h j hj2
 rw [BX (by omega)] at this
 simp [this]
theorem L7 {α:Type} [Inhabited α] {L:List α} {P:α→Bool} {i j:Nat} (hj:j<i) (hi:i≤L.length) (h:P (nth L j)=true):(L.take i).any P=true:=by
 rw [List.any_eq_true]
 refine ⟨nth L j, ?_,h⟩
 rw [BX (by omega)]
 exact List.mem_take_iff_getElem.2 ⟨j,by omega,rfl⟩
theorem NR {C:Ah} (hnm:GT C):Pf tp Yd [.agg C.enc] (.tup [.i .i64 (A1 C).1,.i .i64 (A1 C).2]):=by
 refine AD aF4 (by simp [O5]) fun rp=>?_;unfold O5;simp (disch:=omega)only[go_sem, *]
 have hcl:=G7.len (rp.head.agg (.fl 6 (C.chans.map Ar.enc)) (by simp [Ah.enc]))
 have hpl:=G7.len (rp.head.agg (.fl 11 (C.parts.map Part.enc)) (by simp [Ah.enc]))
 have htl:=G7.len (rp.head.agg (.fl 1 (C.tables.map Tab.enc)) (by simp [Ah.enc]))
 repeat' (first | (refine Aq (fun hc=>?_) (fun hc=>?_)<;>simp (disch:=omega)only[go_sem, *]) | (refine Aa (fun hc=>?_) (fun hc=>?_)<;>simp (disch:=omega)only[go_sem, *]))
 all_goals try (have e:A1 C=(3,0):=if_pos (by omega);rw [e];exact ⟨rfl,rfl⟩)
 have e:A1 C=Bv C 0 C.parts:=if_neg (by omega)
 rw [e]
 clear e
 refine Ae (fun n e h=>∃ (i:Nat),n=C.parts.length - i∧h.lim=0∧e 45=.fl 11 (C.parts.map Part.enc)∧e 46=.i .i64 C.parts.length∧e 47=.i .i64 i∧e 1=.p 0 0 0∧i≤C.parts.length∧h.get 0=some ⟨3,[C.enc]⟩∧1≤h.next∧Bv C i (C.parts.drop i)=Bv C 0 C.parts) ?_ _ _ _ ⟨0,rfl, ?_⟩
 ·rintro n e h ⟨i,rfl,hl,e45,e46,e47,e1,hi,hg,hn,hz⟩ ih
  rw [Ai Vy.eq_1]
  simp (disch:=omega)only[go_sem, *]
  have hg1:=hg
  simp only [Ah.enc] at hg1
  refine Aa (fun hc=>?_) (fun hc=>?_)
  ·rw [Ax (by omega),Bv] at hz
   have hns:=hnm _ (Bl (L:=C.parts) (j:=i) (by omega))
   simp (disch:=omega)only[go_sem, *]
   refine Pf.go (Zy hns) (by simp only [go_sem]) fun _=>?_;simp (disch:=omega)only[go_sem, *]
   refine AX (fun hc2=>?_) (fun hc2=>?_)
   ·rw [if_pos (.inl (by simpa using hc2))] at hz
    rw [← hz]
    simp (disch:=omega)only[go_sem, *]
   have hc2':Ew (nth C.parts i).name=true:=by simpa using hc2
   simp (disch:=omega)only[go_sem, *]
   have ih0:=ih
   clear ih
   have hbx:((h.alloc ⟨11,[[.s ⟨#[]⟩,.i .i64 0,.i .i64 0,.b false,.b false,.ns,.i .i64 0,.i .i64 0,.i .i64 0,.i .i64 0,.i .i64 0]]⟩).put h.next ⟨11,[(nth C.parts i).enc]⟩).get h.next=some ⟨11,[(nth C.parts i).enc]⟩:=by simp (disch:=omega)only[go_sem, *]
   refine Ae (fun n e h=>∃ (j:Nat) (b:Nat),n=i - j∧h.lim=0∧e 1=.p 0 0 0∧e 4=.i .i64 i∧e 5=.p b 0 0∧e 6=.i .i64 j∧e 45=.fl 11 (C.parts.map Part.enc)∧e 46=.i .i64 C.parts.length∧e 47=.i .i64 i∧h.get 0=some ⟨3,[C.enc]⟩∧h.get b=some ⟨11,[(nth C.parts i).enc]⟩∧1≤h.next∧j≤i∧∀ k,k<j→(nth C.parts k).name≠(nth C.parts i).name) ?_ _ _ _ ⟨0,h.next,rfl, ?_⟩
   ·rintro n e h ⟨j,b,rfl,hl,e1,e4,e5,e6,e45,e46,e47,hg,hb,hn,hj,hs⟩ ih
    rw [Ai Vx.eq_1]
    simp (disch:=omega)only[go_sem, *]
    have hg1:=hg
    simp only [Ah.enc] at hg1
    have hb1:=hb
    simp only [Part.enc] at hb1
    refine Aa (fun hc3=>?_) (fun hc3=>?_)
    ·simp (disch:=omega)only[go_sem, *]
     refine Aa (fun hc4=>?_) (fun hc4=>?_)
     ·rw [if_pos (.inr (L7 (j:=j) (by omega) (by omega) (by simpa using hc4)))] at hz
      rw [← hz]
      simp (disch:=omega)only[go_sem, *]
     ·simp (disch:=omega)only[go_sem, *]
      refine ih _ _ _ ?_ ⟨j+1,b,rfl, ?_⟩
      ·omega
      ·simp (disch:=omega)only[go_sem, *]
       ((repeat' refine And.intro ?_ ?_)<;>first | omega | assumption | ((intro k hk;by_cases e:k=j;(subst e;exact hc4);(exact hs k (by omega)))))
    ·have hno:=IQ (L:=C.parts) (i:=i) (P:=fun q=>decide (q.name=(nth C.parts i).name)) (fun k hk=>by have:=hs k (by omega);simp [this]) (by omega)
     rw [if_neg (by simp only [hc2',hno];simp)] at hz
     clear hs hno
     simp (disch:=omega)only[go_sem, *]
     refine Pf.go (ZF) (by simp only [go_sem]) fun _=>?_;simp (disch:=omega)only[go_sem, *]
     refine AX (fun hc4=>?_) (fun hc4=>?_)
     ·rw [if_pos (by simpa using hc4)] at hz
      rw [← hz]
      simp (disch:=omega)only[go_sem, *]
     ·rw [if_neg (by simpa using hc4)] at hz
      simp (disch:=omega)only[go_sem, *]
      refine ih0 _ _ _ ?_ ⟨i+1,rfl, ?_⟩
      ·omega
      ·simp (disch:=omega)only[go_sem, *]
       ((repeat' refine And.intro ?_ ?_)<;>first | omega | assumption)
   ·simp (disch:=omega)only[go_sem, *]
    simp
  ·rw [List.drop_eq_nil_of_le (by omega),Bv] at hz
   rw [← hz]
   clear hz
   simp (disch:=omega)only[go_sem, *]
   refine Ae (fun n e h=>∃ (i:Nat),n=C.chans.length - i∧h.lim=0∧e 78=.fl 6 (C.chans.map Ar.enc)∧e 79=.i .i64 C.chans.length∧e 80=.i .i64 i∧e 1=.p 0 0 0∧i≤C.chans.length∧h.get 0=some ⟨3,[C.enc]⟩∧1≤h.next∧BE C i (C.chans.drop i)=BE C 0 C.chans) ?_ _ _ _ ⟨0,rfl, ?_⟩
   ·rintro n e h ⟨i,rfl,hl,e78,e79,e80,e1,hi,hg,hn,hz⟩ ih
    rw [Ai Vz.eq_1]
    simp (disch:=omega)only[go_sem, *]
    have hg1:=hg
    simp only [Ah.enc] at hg1
    refine Aa (fun hc=>?_) (fun hc=>?_)
    ·rw [Ax (by omega),BE] at hz
     simp (disch:=omega)only[go_sem, *]
     refine Pf.go (Zq (x:=nth C.chans i)) (by simp only [go_sem]) fun _=>?_;simp (disch:=omega)only[go_sem, *]
     refine AX (fun hc4=>?_) (fun hc4=>?_)
     ·rw [if_pos (by simpa using hc4)] at hz
      rw [← hz]
      simp (disch:=omega)only[go_sem, *]
     ·rw [if_neg (by simpa using hc4)] at hz
      simp (disch:=omega)only[go_sem, *]
      refine ih _ _ _ ?_ ⟨i+1,rfl, ?_⟩
      ·omega
      ·simp (disch:=omega)only[go_sem, *]
       ((repeat' refine And.intro ?_ ?_)<;>first | omega | assumption)
    ·rw [List.drop_eq_nil_of_le (by omega),BE] at hz
     rw [← hz]
     clear hz
     simp (disch:=omega)only[go_sem, *]
     refine Ae (fun n e h=>∃ (i:Nat),n=C.tables.length - i∧h.lim=0∧e 94=.fl 1 (C.tables.map Tab.enc)∧e 95=.i .i64 C.tables.length∧e 96=.i .i64 i∧e 1=.p 0 0 0∧i≤C.tables.length∧h.get 0=some ⟨3,[C.enc]⟩∧1≤h.next∧Cy C i (C.tables.drop i)=Cy C 0 C.tables) ?_ _ _ _ ⟨0,rfl, ?_⟩
     ·rintro n e h ⟨i,rfl,hl,e94,e95,e96,e1,hi,hg,hn,hz⟩ ih
      rw [Ai VC.eq_1]
      simp (disch:=omega)only[go_sem, *]
      have hg1:=hg
      simp only [Ah.enc] at hg1
      refine Aa (fun hc=>?_) (fun hc=>?_)
      ·have hf:=Jq (L:=nth C.tables i)
       have hfl:=kC (L:=nth C.tables i)
       rw [Ax (by omega),Cy] at hz
       simp (disch:=omega)only[go_sem, *]
       refine Pf.go (Ki) (by simp only [go_sem]) fun _=>?_;simp (disch:=omega)only[go_sem, *]
       have ht:DZ C (nth C.tables i)=if (Ez (nth C.tables i)).2≠0 then (Ez (nth C.tables i)).2 else if (Ez (nth C.tables i)).1.any (fun r=>decide ((C.parts.length:Int)≤r.part))=true then 16 else Cr C (Ez (nth C.tables i)).1:=rfl
       refine Aa (fun hc4=>?_) (fun hc4=>?_)
       ·rw [if_pos hc4] at ht
        rw [if_pos (by rw [ht];exact hc4),ht] at hz
        rw [← hz]
        simp (disch:=omega)only[go_sem, *]
       rw [if_neg hc4] at ht
       simp (disch:=omega)only[go_sem, *]
       have ih0:=ih
       clear ih
       refine Ae (fun n e h=>∃ (j:Nat),n=((Ez (nth C.tables i)).1).length - j∧h.lim=0∧e 110=.fl 2 (((Ez (nth C.tables i)).1).map AI.enc)∧e 111=.i .i64 ((Ez (nth C.tables i)).1).length∧e 112=.i .i64 j∧e 1=.p 0 0 0∧e 9=.i .i64 i∧e 11=.fl 2 ((Ez (nth C.tables i)).1.map AI.enc)∧e 94=.fl 1 (C.tables.map Tab.enc)∧e 95=.i .i64 C.tables.length∧e 96=.i .i64 i∧j≤((Ez (nth C.tables i)).1).length∧h.get 0=some ⟨3,[C.enc]⟩∧1≤h.next∧(Ez (nth C.tables i)).1.any (fun r=>decide ((C.parts.length:Int)≤r.part))=((Ez (nth C.tables i)).1.drop j).any (fun r=>decide ((C.parts.length:Int)≤r.part))) ?_ _ _ _ ⟨0,rfl, ?_⟩
       ·rintro n e h ⟨j,rfl,hl,e110,e111,e112,e1,e9,e11,e94,e95,e96,hi,hg,hn,hs⟩ ih
        rw [Ai VA.eq_1]
        simp (disch:=omega)only[go_sem, *]
        have hg1:=hg
        simp only [Ah.enc] at hg1
        refine Aa (fun hc5=>?_) (fun hc5=>?_)
        ·simp (disch:=omega)only[go_sem, *]
         refine Aa (fun hc6=>?_) (fun hc6=>?_)
         ·have hy:=L8 (L:=(Ez (nth C.tables i)).1) (P:=fun r=>decide ((C.parts.length:Int)≤r.part)) (i:=j) (by omega) (by simpa using hc6)
          rw [if_pos hy] at ht
          clear hy hs
          rw [if_pos (by rw [ht];simp),ht] at hz
          rw [← hz]
          simp (disch:=omega)only[go_sem, *]
         ·have hno:=JF (L:=(Ez (nth C.tables i)).1) (P:=fun r=>decide ((C.parts.length:Int)≤r.part)) (i:=j) (by omega) (by simpa using hc6)
          rw [hno] at hs
          clear hno
          simp (disch:=omega)only[go_sem, *]
          refine ih _ _ _ ?_ ⟨j+1,rfl, ?_⟩
          ·omega
          ·simp (disch:=omega)only[go_sem, *]
           ((repeat' refine And.intro ?_ ?_)<;>first | omega | assumption)
        ·rw [List.drop_eq_nil_of_le (by omega),List.any_nil] at hs
         rw [if_neg (by rw [hs];simp)] at ht
         clear hs
         rw [ht] at hz
         simp (disch:=omega)only[go_sem, *]
         refine Pf.go (NO (C:=C) hf) (by simp only [go_sem]) fun _=>?_;simp (disch:=omega)only[go_sem, *]
         refine Aa (fun hc7=>?_) (fun hc7=>?_)
         ·rw [if_pos hc7] at hz
          rw [← hz]
          simp (disch:=omega)only[go_sem, *]
         ·rw [if_neg hc7] at hz
          simp (disch:=omega)only[go_sem, *]
          refine ih0 _ _ _ ?_ ⟨i+1,rfl, ?_⟩
          ·omega
          ·simp (disch:=omega)only[go_sem, *]
           ((repeat' refine And.intro ?_ ?_)<;>first | omega | assumption)
       ·simp (disch:=omega)only[go_sem, *]
      ·rw [List.drop_eq_nil_of_le (by omega),Cy] at hz
       rw [← hz]
       clear hz
       simp (disch:=omega)only[go_sem, *]
     ·simp (disch:=omega)only[go_sem, *]
   ·simp (disch:=omega)only[go_sem, *]
 ·simp (disch:=omega)only[go_sem, *]
theorem Zx {C:Ah} (hnm:GT C):Pf tp XX [.agg C.enc] (.i .i64 (A1 C).1):=by
 refine AD aFM (by simp [OM]) fun rp=>?_;unfold OM;simp (disch:=omega)only[go_sem, *]
 refine Pf.go (bQ hnm) (by simp only [go_sem]) fun _=>?_;simp (disch:=omega)only[go_sem, *]
theorem Fg {C:Ah} (hnm:GT C):Pf tp XS [.agg C.enc] (.i .i64 (A1 C).1):=by
 refine AD aFG (by simp [OG]) fun rp=>?_;unfold OG;simp (disch:=omega)only[go_sem, *]
 refine Pf.go (NR hnm) (by simp only [go_sem]) fun _=>?_;simp (disch:=omega)only[go_sem, *]
end Go.Ab.T
namespace Go.Ab.T
open Go Go.Ab
set_option maxHeartbeats 1000000
@[irreducible] def Er (n lo hi:Int):Int:=if lo≤n∧n≤hi then n else lo+(if n.tmod (hi - lo+1)<0 then n.tmod (hi - lo+1)+hi - lo+1 else n.tmod (hi - lo+1))
theorem GR {n lo hi:Int} (h:lo≤hi):lo≤Er n lo hi∧Er n lo hi≤hi:=by
 unfold Er
 have h1:0<hi - lo+1:=by omega
 have a:=Int.tmod_lt_of_pos n h1
 have b:=Int.lt_tmod_of_pos n h1
 split
 ·assumption
 ·split<;>omega
theorem IK {n lo hi:Int} (h0:0≤lo) (h1:lo≤hi) (h2:hi≤2000000000):Pf tp Nh [.i .i64 n,.i .i64 lo,.i .i64 hi] (.i .i64 (Er n lo hi)):=by
 have hp:0<hi - lo+1:=by omega
 have a:=Int.tmod_lt_of_pos n hp
 have b:=Int.lt_tmod_of_pos n hp
 refine AD aFo (by simp [Oj]) fun rp=>?_;unfold Oj;simp (disch:=omega)only[go_sem, *]
 repeat' (first | (refine Aq (fun hc=>?_) (fun hc=>?_)<;>simp (disch:=omega)only[go_sem, *]) | (refine Aa (fun hc=>?_) (fun hc=>?_)<;>simp (disch:=omega)only[go_sem, *]) | (refine Bk (fun hc=>?_) (fun hc=>?_)<;>simp (disch:=omega)only[go_sem, *]) | (refine AX (fun hc=>?_) (fun hc=>?_)<;>simp (disch:=omega)only[go_sem, *]))
 all_goals (unfold Er;(repeat' split)<;>omega)
@[go_sem] def Av (L:List Int) (k:Nat):BV:=⟨2,[[.fl 1 (L.map D9),.i .i64 k]]⟩
theorem EB.same {h:AH} {id:Nat} {b:BV} (hb:h.get id=some b):EB h id b h:=⟨Nat.le_refl _,rfl,hb,fun _ _ _=>rfl⟩
theorem pP {h h1 h2:AH} {id:Nat} {b:BV} (u:EB h id b h1) (hid:id<h.next) (x:AK h1 h2):EB h id b h2:=by
 have a:=u.next;have c:=x.next
 exact ⟨by omega,x.lim.trans u.lim,(x.get id (by omega)).trans u.here,fun i hi hn=>(x.get i (by omega)).trans (u.get i hi hn)⟩
theorem Bc {h h1:AH} {id:Nat} {b b':BV} (u:EB h id b h1):EB h id b' (h1.put id b'):=
 ⟨u.next,u.lim,by rw [Ad,AC rfl],fun i hi hn=>by rw [Ad,Ac hn];exact u.get i hi hn⟩
theorem D1 {h h1:AH} {id:Nat} {b k:BV} (u:EB h id b h1) (hid:id<h.next):EB h id b (h1.alloc k):=pP u hid ((AK.refl _).alloc _)
theorem LW {h h1 h2:AH} {id b':Nat} {b:BV} {x v:V} (u:EB h id b h1) (hid:id<h.next) (g:Grown b' h1 x v h2) (hx:Ba x=true∨h.next≤AW x):EB h id b h2:=by
 have a:=u.next;have c:=g.next
 have k:∀ i,i<h.next→(Ba x=true∨i≠AW x):=fun i hi=>hx.imp (fun x=>x) (fun x=>by omega)
 exact ⟨by omega,g.lim.trans u.lim,by rw [g.get id (by omega) (k id hid)];exact u.here,fun i hi hn=>by rw [g.get i (by omega) (k i hi)];exact u.get i hi hn⟩
theorem As {b sz:Nat} {h:AH} {v:V} {R:List (List V)} (s:Sl b h sz v R):Ba v=true∨b≤AW v:=by
 rcases s with ⟨hv,_⟩ | ⟨i,el,cap,cs,rfl,_,_,_,_,h1,h2,_⟩
 ·rcases hv with rfl | rfl<;>exact .inl rfl
 ·exact .inr h2
theorem Hx {tp : TP} {f : Nat} {args : List V} {h : AH} {K : V → AH → Prop} {id k : Nat} {L : List Int} {tf : TF} (hf : tp.fn f = some tf) (hl : args.length ≤ tf.n) (hg : h.get id = some (Av L k))
    (z:h.lim≤h.next→id<h.next→FL args→ZC tp tf.body (E4 args) h (fun x e h2=>GV tf.res x e h2 (fun r h3=>∃ R j,Cz (h.next≤·) h3 h.next r R∧EB h id (Av L j) h3∧K R (h.put id (Av L j))))):Cq tp f args h K:=
 R8 hf hl fun wf rp=>by
  have hlt:=(wf.2 id _ hg).1
  have key:∀ (e:Env) (h2:AH),(Wo (BP e h2 tf.res) fun r=>∃ R j,Cz (h.next≤·) h2 h.next r R∧EB h id (Av L j) h2∧K R (h.put id (Av L j)))→Wo (BP e h2 tf.res) fun r=>∃ P R H,BT h h2 r P R H∧K R H:=by
   rintro e h2 ⟨v,hv,R,j,fr,u,kk⟩
   exact ⟨v,hv,_,R,_,BT.upd wf u hlt (.cons _ _ _ _ _ (BS.of_stay rfl) (.nil _)) fr,kk⟩
  exact E0 (fun x e h2 q=>by
   cases x with
   | ex _=>exact q
   | nm=>exact key _ _ q
   | rt=>exact key _ _ q) (z wf.1 hlt rp)
theorem AU {h : AH} {id k : Nat} {L : List Int} {n : Int} {K : V → AH → Prop} (hg : h.get id = some (Av L k)) (hk : k ≤ L.length) (hL : L.length < 4000000000) (hlo : h.lim ≤ id)
    (kk:∀ v j,0≤v→v≤1073741824→(v<n∨v=0)→j≤L.length→K (.i .i64 v) (h.put id (Av L j))):Cq tp Ni [.p id 0 0,.i .i64 n] h K:=by
 refine Hx aFt (by simp [Oq]) hg fun hlm hid rp=>?_
 unfold Oq
 have hg1:=hg
 simp only [Av] at hg1
 simp (disch:=omega)only[go_sem, *]
 refine Aq (fun hc=>?_) (fun hc=>?_)
 ·simp (disch:=omega)only[go_sem, *]
  exact ⟨_,k,.z _ _ (.i _ _),EB.same hg,kk 0 k (by omega) (by omega) (by omega) hk⟩
 ·simp (disch:=omega)only[go_sem, *]
  refine Aa (fun hc2=>?_) (fun hc2=>?_)
  ·simp (disch:=omega)only[go_sem, *]
   exact ⟨_,k,.z _ _ (.i _ _),EB.same hg,kk 0 k (by omega) (by omega) (by omega) hk⟩
  ·have hk1:(k:Int)<L.length:=by omega
   have hb:=GR (n:=nth L k) (lo:=0) (hi:=1073741824) (by omega)
   have h1:=Int.tmod_nonneg n hb.1
   have h2:=Int.tmod_lt_of_pos (Er (nth L k) 0 1073741824) (b:=n) (by omega)
   have h3:(Er (nth L k) 0 1073741824).tmod n≤Er (nth L k) 0 1073741824:=by
    rw [Int.tmod_eq_emod_of_nonneg hb.1]
    by_cases hlt:Er (nth L k) 0 1073741824<n
    ·rw [Int.emod_eq_of_lt hb.1 hlt];omega
    ·have:=Int.emod_lt_of_pos (Er (nth L k) 0 1073741824) (b:=n) (by omega);omega
   simp (disch:=omega)only[go_sem, *]
   refine Pf.go (IK (n:=nth L k) (lo:=0) (hi:=1073741824) (by omega) (by omega) (by omega)) (by simp only [go_sem]) fun _=>?_;simp (disch:=omega)only[go_sem, *]
   exact ⟨_,k+1,.z _ _ (.i _ _),Bc (EB.same hg),kk _ (k+1) h1 (by omega) (.inl h2) (by omega)⟩
end Go.Ab.T
namespace Go.Ab.T
open Go Go.Ab
set_option maxHeartbeats 1000000
/-! Plain laws: when a configuration is right. -/
def D6 (n:Int) (T:List Node):Prop:=∀ x∈T,0≤x.part∧x.part<n
theorem D6.one {n:Int} {x:Node} (h0:0≤x.part) (h:x.part<n):D6 n [x]:=fun y hy=>by
 rw [List.mem_singleton] at hy;subst hy;exact ⟨h0,h⟩
theorem D6.app {n:Int} {A B:List Node} (a:D6 n A) (b:D6 n B):D6 n (A++B):=fun y hy=>by
 rcases List.mem_append.1 hy with h | h
 ·exact a y h
 ·exact b y h
theorem D6.cons {n:Int} {x:Node} {B:List Node} (h0:0≤x.part) (h:x.part<n) (b:D6 n B):D6 n (x::B):=D6.app (D6.one h0 h) b
theorem Fo.runs_part {n:Int} (hn:1≤n):∀ (f:Fo),D6 n f.flat→∀ r∈f.runs,r.part<n
 | .nil,h,r,hr=>by simp [Fo.runs] at hr
 | .leaf x f,h,r,hr=>by
  simp only [Fo.runs,List.mem_cons] at hr
  simp only [Fo.flat] at h
  rcases hr with rfl | hr
  ·have:=h x (List.mem_cons_self ..)
   simp only [DN];split<;>omega
  ·exact Fo.runs_part hn f (fun y hy=>h y (List.mem_cons_of_mem _ hy)) r hr
 | .seq x k f,h,r,hr=>by
  simp only [Fo.runs,List.mem_append] at hr
  simp only [Fo.flat] at h
  rcases hr with hr | hr
  ·exact Fo.runs_part hn k (fun y hy=>h y (List.mem_cons_of_mem _ (List.mem_append_left _ hy))) r hr
  ·exact Fo.runs_part hn f (fun y hy=>h y (List.mem_cons_of_mem _ (List.mem_append_right _ hy))) r hr
 | .rep x k f,h,r,hr=>by
  simp only [Fo.runs,List.mem_append] at hr
  simp only [Fo.flat] at h
  rcases hr with hr | hr
  ·rw [List.mem_flatten] at hr
   obtain ⟨l,hl,hr⟩:=hr
   rw [List.mem_replicate] at hl
   obtain ⟨_,rfl⟩:=hl
   exact Fo.runs_part hn k (fun y hy=>h y (List.mem_cons_of_mem _ (List.mem_append_left _ hy))) r hr
  ·exact Fo.runs_part hn f (fun y hy=>h y (List.mem_cons_of_mem _ (List.mem_append_right _ hy))) r hr
def Es (n:Int) (T:List Node):Prop:=(Ez T).2=0∧∀ r∈(Ez T).1,r.part<n
theorem Es.of {n:Int} (hn:1≤n) {T:List Node} (h:(Ez T).2=0) (hp:D6 n T):Es n T:=by
 refine ⟨h, ?_⟩
 by_cases hr:Bj T=0
 ·rw [Gl hr] at h ⊢
  obtain ⟨_,ho,hc1,hL,hd,hl⟩:=FU hr
  split at h
  ·simp at h
  ·rename_i h96
   rw [if_neg h96]
   intro r hr
   have hap:=Fo.runs_allpos _ ho
   have hsum:=Fo.runs_sum _ ho
   have ht:=RX hap (by omega)
   obtain ⟨q,hq,e⟩:=ht.parts r hr
   rw [← e]
   exact Fo.runs_part hn _ (by rw [← hL];exact hp) q hq
 ·rw [Jp hr] at h
  exact absurd h hr
theorem Es.right {n:Int} {T:List Node} (h:Es n T):Bj T=0:=by
 by_cases hr:Bj T=0
 ·exact hr
 ·have:=h.1;rw [Jp hr] at this;exact absurd this hr
theorem Es.ne {n:Int} {T:List Node} (h:Es n T):0<T.length:=by
 obtain ⟨_,f,ho,hc,rfl,_⟩:=(FB T).1 h.right
 exact Fo.flat_pos hc
def It (p:Int):List Node:=[⟨3,0,2⟩,⟨1,p,3⟩,⟨2,0,2⟩]
theorem aG1 {n p:Int} (hn:1≤n) (h6:n≤6) (h0:0≤p) (hp:p<n):Es n (It p):=by
 refine Es.of hn ?_ (D6.cons (by simp) (by simp;omega) (D6.cons (by simp;omega) (by simp;omega) (D6.one (by simp) (by simp;omega))))
 have k1:kids ⟨1,p,3⟩=0:=by unfold kids;rw [if_neg (by simp),if_pos (by simp;omega)]
 have e:It p=(Fo.seq ⟨3,0,2⟩ (.leaf ⟨1,p,3⟩ (.leaf ⟨2,0,2⟩ .nil)) .nil).flat:=rfl
 have hr:Bj (It p)=0:=by
  rw [e]
  refine Hm ⟨rfl,rfl,by simp [Fo.count],⟨k1,rfl,trivial⟩,trivial⟩ rfl (by simp [Fo.depth]) (by simp [Fo.len]) (by simp [Fo.flat])
 rw [Gl hr]
 obtain ⟨hl128,ho,hc1,hL,hd,hl⟩:=FU hr
 have hap:=Fo.runs_allpos _ ho
 have hsum:=Fo.runs_sum _ ho
 have ht:=RX hap (by omega)
 have h1:((Fs (It p)).runs.length:Int)≤Ay (Fs (It p)).runs:=by
  have:∀ {w:List AI},Bd w→(w.length:Int)≤Ay w:=by
   intro w
   induction w with
   | nil=>intro _;simp [Ay]
   | cons a l ih=>
    intro h
    have:=ih (fun r hr=>h r (List.mem_cons_of_mem _ hr))
    have:=h a (List.mem_cons_self ..)
    simp only [Ay,List.length_cons];omega
  exact this hap
 have hlen:(Fs (It p)).len=5:=by
  obtain ⟨f,hf,he,hc⟩:∃ f:Fo,f.ok∧f.flat=It p∧f.len=(Fs (It p)).len:=⟨_,ho,hL.symm,rfl⟩
  have m1:=(C5 ho hc1).2
  have m2:=(C5 (f:=Fo.seq ⟨3,0,2⟩ (.leaf ⟨1,p,3⟩ (.leaf ⟨2,0,2⟩ .nil)) .nil) ⟨rfl,rfl,by simp [Fo.count],⟨k1,rfl,trivial⟩,trivial⟩ rfl).2
  rw [← hL] at m1
  rw [← e] at m2
  rw [m1] at m2
  have l2:(Fo.seq ⟨3,0,2⟩ (.leaf ⟨1,p,3⟩ (.leaf ⟨2,0,2⟩ .nil)) .nil).len=5:=rfl
  rw [l2] at m2
  omega
 rw [if_neg (by unfold rM;have:=ht.len;omega)]
/-! Lateness is no longer than a frame. -/
theorem Y4 {tt:List CI} {n t:Int} (hs:CX 0 tt n) (hne:tt≠[]) (h0:0≤t) (hn:n≤4096):Jg tt t n - t≤4096:=by
 unfold Jg
 rcases F0 (t:=t) hs with ⟨h1,h2⟩ | ⟨s,h1,h2,h3,h4⟩
 ·rw [h1]
  match tt,hne with
  | a::l,_=>
   have:=hs.mem (List.mem_cons_self ..)
   have:=h2 a (List.mem_cons_self ..)
   simp only [nth,List.getD_cons_zero]
   omega
 ·rw [h2]
  have:=hs.mem h1
  simp only;omega
theorem No {tt:List CI} {n:Int} (hs:CX 0 tt n) (hne:tt≠[]) (hn:n≤4096):∀ (l:List CI) (w:Int),w≤4096→(∀ s∈l,0≤s.s∧s.s<s.e)→F5 tt n l w≤4096
 | [],w,hw,_=>hw
 | s::l,w,hw,h=>by
  rw [F5]
  have hh:=h s (List.mem_cons_self ..)
  have a:=Y4 hs hne (t:=s.s) (by omega) hn
  have b:=Y4 hs hne (t:=s.e - 1) (by omega) hn
  exact No hs hne hn l _ (by omega) (fun x hx=>h x (List.mem_cons_of_mem _ hx))
theorem YQ {L:List AI} {f t:Int} (hf:Hy L):DL L f t≤4096:=by
 unfold DL
 split
 ·omega
 ·split
  ·omega
  ·rename_i h2
   have s1:=B8 (p:=t) (a:=0) hf.1
   have s2:=B8 (p:=f) (a:=0) hf.1
   rw [Int.zero_add] at s1 s2
   exact No s1 h2 hf.2 _ _ (by omega) (fun s hs=>by have:=s2.mem hs;omega)
/-! When all is right. -/
theorem KT {C:Ah}:∀ (l:List (List Node)) (i:Nat),Cy C i l=(0,-1)↔∀ t∈l,DZ C t=0
 | [],i=>by simp [Cy]
 | t::l,i=>by
  rw [Cy]
  split
  ·rename_i h;simp [h]
  ·rename_i h;rw [KT l];simp at h;simp [h]
theorem I6 {C:Ah}:∀ (l:List Ar) (i:Nat),BE C i l=(0,-1)↔(∀ x∈l,C0 C.parts.length x=true)∧∀ t∈C.tables,DZ C t=0
 | [],i=>by simp [BE,KT]
 | x::l,i=>by
  rw [BE]
  split
  ·rename_i h;simp [h]
  ·rename_i h;rw [I6 l];simp at h;simp [h]
def UY (P:List Part) (j:Nat):Prop:=Ew (nth P j).name=true∧(P.take j).any (fun q=>decide (q.name=(nth P j).name))=false∧EX (nth P j)=true
theorem I7 {C:Ah}:∀ (l:List Part) (i:Nat),l=C.parts.drop i→(Bv C i l=(0,-1)↔(∀ j,i≤j→j<C.parts.length→UY C.parts j)∧(∀ x∈C.chans,C0 C.parts.length x=true)∧∀ t∈C.tables,DZ C t=0)
 | [],i,hl=>by
  have:C.parts.length≤i:=List.drop_eq_nil_iff.1 hl.symm
  rw [Bv,I6]
  constructor
  ·intro h;exact ⟨fun j h1 h2=>by omega,h⟩
  ·intro h;exact h.2
 | p::l,i,hl=>by
  have hi:i<C.parts.length:=by
   rcases Nat.lt_or_ge i C.parts.length with h | h
   ·exact h
   ·rw [List.drop_eq_nil_of_le h] at hl;cases hl
  rw [Ax hi] at hl
  injection hl with h1 h2
  subst h1
  rw [Bv]
  split
  ·rename_i h
   constructor
   ·intro h';simp at h'
   ·intro h'
    have g:=h'.1 i (Nat.le_refl _) hi
    rw [g.1,g.2.1] at h;simp at h
  ·rename_i h
   split
   ·rename_i h3
    constructor
    ·intro h';simp at h'
    ·intro h'
     have g:=h'.1 i (Nat.le_refl _) hi
     rw [g.2.2] at h3;simp at h3
   ·rename_i h3
    rw [I7 l (i+1) h2]
    simp only [not_or,Bool.not_eq_false,Bool.not_eq_true] at h h3
    constructor
    ·intro h'
     refine ⟨fun j hj1 hj2=>?_,h'.2⟩
     by_cases e:j=i
     ·subst e;exact ⟨h.1,h.2,h3⟩
     ·exact h'.1 j (by omega) hj2
    ·intro h'
     exact ⟨fun j hj1 hj2=>h'.1 j (by omega) hj2,h'.2⟩
theorem Dl {C:Ah}:A1 C=(0,-1)↔(1≤C.parts.length∧C.parts.length≤6∧C.chans.length≤8∧1≤C.tables.length∧C.tables.length≤3)∧(∀ j,j<C.parts.length→UY C.parts j)∧(∀ x∈C.chans,C0 C.parts.length x=true)∧∀ t∈C.tables,DZ C t=0:=by
 unfold A1
 split
 ·rename_i h
  constructor
  ·intro h';simp at h'
  ·intro h';omega
 ·rename_i h
  rw [I7 _ 0 (by simp)]
  constructor
  ·intro h';exact ⟨by omega,fun j hj=>h'.1 j (by omega) hj,h'.2⟩
  ·intro h';exact ⟨fun j _ hj=>h'.2.1 j hj,h'.2.2⟩
theorem D0 {C:Ah} {T:List Node}:DZ C T=0↔Es C.parts.length T∧Cr C (Ez T).1=0:=by
 unfold DZ Es
 split
 ·rename_i h;simp [h]
 ·rename_i h
  split
  ·rename_i h2
   rw [List.any_eq_true] at h2
   obtain ⟨r,h3,h4⟩:=h2
   constructor
   ·intro h';simp at h'
   ·intro h'
    have:=h'.1.2 r h3
    simp at h4;omega
  ·rename_i h2
   simp only [List.any_eq_true,not_exists,not_and] at h2
   constructor
   ·intro h';exact ⟨⟨by omega,fun r hr=>by have:=h2 r hr;simp at this;omega⟩,h'⟩
   ·intro h';exact h'.2
theorem QT {C:Ah} {L:List AI}:Cr C L=0↔C.chans.any (CF L)=false∧Cw L 0 C.parts=false:=by
 unfold Cr
 split
 ·rename_i h;simp [h]
 ·rename_i h;simp only [Bool.not_eq_true] at h
  split
  ·rename_i h2;simp [h2]
  ·rename_i h2;simp only [Bool.not_eq_true] at h2;simp [h,h2]
theorem HX {L:List AI}:∀ (l:List Part) (i:Nat),(∀ p∈l,p.budget=0)→Cw L i l=false
 | [],i,h=>rfl
 | p::l,i,h=>by
  rw [Cw,HX l (i+1) (fun q hq=>h q (List.mem_cons_of_mem _ hq)),h p (List.mem_cons_self ..)]
  simp
end Go.Ab.T
namespace Go.Ab.T
open Go Go.Ab
set_option maxHeartbeats 2000000
theorem Sl.new {b:Nat} {h:AH} {sz:Nat} {N:List (List V)} (hb:b≤h.next) (hN:N.length<4294967296):Sl b (h.alloc ⟨sz,N⟩) sz (.sl h.next 0 N.length N.length) N:=
 .inr ⟨h.next,0,N.length,N,rfl,by simp [AH.alloc],by simp,by simp,Nat.le_refl _,by simp [AH.alloc],hb,hN⟩
theorem Jr {m nx i:Nat} {h:AH} {x:Node} (hi:i=h.next) (hb:m≤i):Cz (m≤·) (h.alloc ⟨3,[x.enc]⟩) nx (.sl i 0 1 1) (.fl 3 ([x].map Node.enc)):=by
 subst hi
 exact Sl.froze (b:=m) (L:=[x]) (Sl.new hb (by simp)) (fun _=>rfl) hb (by simp)
theorem Sl.frzb {α:Type} {enc:α→List V} {b nx:Nat} {h:AH} {sz:Nat} {v:V} {L:List α} (s:Sl b h sz v (L.map enc)) (he:∀ a,(enc a).all UM=true) (hL:L.length<4000000000):Cz (b≤·) h nx v (.fl sz (L.map enc)):=by
 rcases As s with hn | hn
 ·rcases s with ⟨hv,hR⟩ | ⟨i,el,cap,cs,rfl,_⟩
  ·rw [hR];rcases hv with rfl | rfl
   ·exact .ns _ _
   ·exact .e0 _ _
  ·cases hn
 ·exact s.froze he hn hL
theorem aWA (d:Nat):1≤5 ^ d:=Nat.pos_of_ne_zero (by simp)
theorem UR {n : Int} {L : List Int} {id : Nat} (hn : 1 ≤ n) (hn2 : n ≤ 1073741824) (hL : L.length < 4000000000) : ∀ (d : Nat), d ≤ 4 → ∀ {h : AH} {k : Nat} {K : V → AH → Prop}, h.get id = some (Av L k) → k ≤ L.length → h.lim ≤ id →
    (∀ T j,D6 n T→T.length≤5 ^ d→j≤L.length→K (.fl 3 (T.map Node.enc)) (h.put id (Av L j)))→Cq tp Yf [.p id 0 0,.i .i64 n,.i .i64 d] h K:=by
 intro d
 induction d with
 | zero=>
  intro _ h k K hg hk hlo kk
  refine Hx rF (by simp [RR]) hg fun hlm hid rp=>?_
  unfold RR
  simp (disch:=omega)only[go_sem, *]
  refine AU hg hk hL hlo ?_
  intro v j h0 h1 h2 hj
  simp (disch:=omega)only[go_sem, *]
  have hg1:(h.put id (Av L j)).get id=some (Av L j):=by simp (disch:=omega)only[go_sem, *]
  refine Aa (fun hc=>?_) (fun hc=>?_)
  ·simp (disch:=omega)only[go_sem, *]
   refine AU hg1 hj hL hlo ?_
   intro v2 j2 h20 h21 h22 hj2
   simp (disch:=omega)only[go_sem, *]
   exact ⟨.fl 3 ([(⟨2,0,1+v2⟩:Node)].map Node.enc),j2,Jr (x:=⟨2,0,1+v2⟩) rfl (Nat.le_refl _),D1 (Bc (EB.same hg)) hid,kk _ _ (D6.one (by simp) (by simp;omega)) (by simp) hj2⟩
  ·simp (disch:=omega)only[go_sem, *]
   refine AU hg1 hj hL hlo ?_
   intro v2 j2 h20 h21 h22 hj2
   have hg2:(h.put id (Av L j2)).get id=some (Av L j2):=by simp (disch:=omega)only[go_sem, *]
   simp (disch:=omega)only[go_sem, *]
   refine AU hg2 hj2 hL hlo ?_
   intro v3 j3 h30 h31 h32 hj3
   simp (disch:=omega)only[go_sem, *]
   exact ⟨.fl 3 ([(⟨1,v2,1+v3⟩:Node)].map Node.enc),j3,Jr (x:=⟨1,v2,1+v3⟩) rfl (Nat.le_refl _),D1 (Bc (EB.same hg)) hid,kk _ _ (D6.one (by simp;omega) (by simp;omega)) (by simp) hj3⟩
 | succ d ihd=>
  intro hd h k K hg hk hlo kk
  have hp:=aWA d
  have hpe:5 ^ (d+1)=5*5 ^ d:=by rw [Nat.pow_succ];omega
  have hpd:5 ^ d≤125:=Nat.pow_le_pow_right (n:=5) (by omega) (show d≤3 by omega)
  rw [hpe] at kk
  clear hpe
  refine Hx rF (by simp [RR]) hg fun hlm hid rp=>?_
  unfold RR
  simp (disch:=omega)only[go_sem, *]
  refine AU hg hk hL hlo ?_
  intro v j h0 h1 h2 hj
  simp (disch:=omega)only[go_sem, *]
  have hg1:(h.put id (Av L j)).get id=some (Av L j):=by simp (disch:=omega)only[go_sem, *]
  refine Aq (fun hc=>absurd hc (by omega)) (fun hc=>?_)
  simp (disch:=omega)only[go_sem, *]
  refine Aa (fun hc=>?_) (fun hc=>?_)
  ·simp (disch:=omega)only[go_sem, *]
   refine Aa (fun hc2=>?_) (fun hc2=>?_)
   ·simp (disch:=omega)only[go_sem, *]
    refine AU hg1 hj hL hlo ?_
    intro v2 j2 h20 h21 h22 hj2
    simp (disch:=omega)only[go_sem, *]
    exact ⟨.fl 3 ([(⟨2,0,1+v2⟩:Node)].map Node.enc),j2,Jr (x:=⟨2,0,1+v2⟩) rfl (Nat.le_refl _),D1 (Bc (EB.same hg)) hid,kk _ _ (D6.one (by simp) (by simp;omega)) (by simp;omega) hj2⟩
   ·simp (disch:=omega)only[go_sem, *]
    refine AU hg1 hj hL hlo ?_
    intro v2 j2 h20 h21 h22 hj2
    have hg2:(h.put id (Av L j2)).get id=some (Av L j2):=by simp (disch:=omega)only[go_sem, *]
    simp (disch:=omega)only[go_sem, *]
    refine AU hg2 hj2 hL hlo ?_
    intro v3 j3 h30 h31 h32 hj3
    simp (disch:=omega)only[go_sem, *]
    exact ⟨.fl 3 ([(⟨1,v2,1+v3⟩:Node)].map Node.enc),j3,Jr (x:=⟨1,v2,1+v3⟩) rfl (Nat.le_refl _),D1 (Bc (EB.same hg)) hid,kk _ _ (D6.one (by simp;omega) (by simp;omega)) (by simp;omega) hj3⟩
  ·simp (disch:=omega)only[go_sem, *]
   refine Aa (fun hc2=>?_) (fun hc2=>?_)
   ·simp (disch:=omega)only[go_sem, *]
    refine AU hg1 hj hL hlo ?_
    intro v2 j2 h20 h21 h22 hj2
    simp (disch:=omega)only[go_sem, *]
    have hu:=D1 (k:=⟨3,[[.i .i64 4,.i .i64 0,.i .i64 (1+v2)]]⟩) (Bc (b':=Av L j2) (EB.same hg)) hid
    have hun:=hu.next
    refine ihd (by omega) hu.here hj2 (by simp (disch:=omega)only[go_sem, *]) ?_
    intro T j3 hT hTl hj3
    simp (disch:=omega)only[go_sem, *]
    have so:Sl h.next ((h.put id (Av L j2)).alloc ⟨3,[(⟨4,0,1+v2⟩:Node)].map Node.enc⟩) 3 (.sl h.next 0 1 1) ([(⟨4,0,1+v2⟩:Node)].map Node.enc):=Sl.new (Nat.le_refl _) (by simp)
    refine Ao (so.putx id (Av L j3) (by simp only [AW];omega)) (by simp (disch:=omega)only[go_sem, *]<;>omega) (by simp (disch:=omega)only[go_sem, *]<;>omega) (by simp;omega) ?_
    intro w h4 s4 g4
    have hu4:=LW (Bc (b':=Av L j3) hu) hid g4 (.inr (Nat.le_refl _))
    simp (disch:=omega)only[go_sem, *]
    rw [← List.map_append] at s4
    exact ⟨.fl 3 (([(⟨4,0,1+v2⟩:Node)]++T).map Node.enc),j3,Sl.frzb s4 (fun _=>rfl) (by simp;omega),hu4,kk _ _ (D6.app (D6.one (by simp) (by simp;omega)) hT) (by simp;omega) hj3⟩
   ·simp (disch:=omega)only[go_sem, *]
    refine AU hg1 hj hL hlo ?_
    intro v2 j2 h20 h21 h22 hj2
    obtain ⟨m,rfl⟩:∃ m:Nat,v2=m:=⟨v2.toNat,by omega⟩
    simp (disch:=omega)only[go_sem, *]
    have hu:=D1 (k:=⟨3,[(⟨3,0,1+m⟩:Node)].map Node.enc⟩) (Bc (b':=Av L j2) (EB.same hg)) hid
    have so:Sl h.next ((h.put id (Av L j2)).alloc ⟨3,[(⟨3,0,1+m⟩:Node)].map Node.enc⟩) 3 (.sl h.next 0 1 1) ([(⟨3,0,1+m⟩:Node)].map Node.enc):=Sl.new (Nat.le_refl _) (by simp)
    have so2:=so
    simp only [List.map_cons,List.map_nil,Node.enc,Av] at hu so2
    refine Ae (fun n' e h'=>∃ (i j:Nat) (O:List Node) (o:V),n'=m+1 - i∧h'.lim=h.lim∧e 0=.p id 0 0∧e 1=.i .i64 n∧e 2=.i .i64 (d+1)∧e 8=.i .i64 (1+m)∧e 9=o∧e 10=.i .i64 i∧i≤m+1∧j≤L.length∧EB h id (Av L j) h'∧Sl h.next h' 3 o (O.map Node.enc)∧D6 n O∧O.length≤1+i*5 ^ d) ?_ _ _ _ ⟨0,j2,[⟨3,0,1+m⟩],.sl h.next 0 1 1,rfl, ?_⟩
    ·rintro n' e h' ⟨i,j,O,o,rfl,hl',e0,e1,e2,e8,e9,e10,hi,hj,hu,so,hO,hOl⟩ ih
     have hun:=hu.next
     have hgu:=hu.here
     have hw:=As so
     rw [Ai qL.eq_1]
     simp (disch:=omega)only[go_sem, *]
     refine Aa (fun hc=>?_) (fun hc=>?_)
     ·simp (disch:=omega)only[go_sem, *]
      refine ihd (by omega) hu.here hj (by omega) ?_
      intro T j3 hT hTl hj3
      have hi5:i*5 ^ d≤3*5 ^ d:=Nat.mul_le_mul_right _ (by omega)
      have hi6:(i+1)*5 ^ d=i*5 ^ d+5 ^ d:=Nat.succ_mul _ _
      simp (disch:=omega)only[go_sem, *]
      have so3:Sl h.next (h'.put id (Av L j3)) 3 o (O.map Node.enc):=by
       rcases hw with hw | hw
       ·rcases so with ⟨a,b⟩ | ⟨_,_,_,_,rfl,_⟩
        ·exact .inl ⟨a,b⟩
        ·cases hw
       ·exact so.putx _ _ (by omega)
      refine Ao so3 (by simp (disch:=omega)only[go_sem, *]<;>omega) (by simp (disch:=omega)only[go_sem, *]<;>omega) (by simp;omega) ?_
      intro w h4 s4 g4
      have hl4:=g4.lim
      have hu4:=LW (Bc (b':=Av L j3) hu) hid g4 hw
      simp (disch:=omega)only[go_sem, *]
      refine ih _ _ _ ?_ ⟨i+1,j3,O++T,w,rfl, ?_⟩
      ·omega
      ·simp (disch:=omega)only[go_sem, *]
       ((repeat' refine And.intro ?_ ?_)<;>first | omega | assumption | (simpa using s4) | (exact D6.app hO hT) | ((simp;omega)))
     ·have hi5:i*5 ^ d≤4*5 ^ d:=Nat.mul_le_mul_right _ (by omega)
      simp (disch:=omega)only[go_sem, *]
      exact ⟨.fl 3 (O.map Node.enc),j,Sl.frzb so (fun _=>rfl) (by omega),hu,kk _ _ hO (by omega) hj⟩
    ·simp (disch:=omega)only[go_sem, *]
     ((repeat' refine And.intro ?_ ?_)<;>first | omega | assumption | (exact hu) | (exact so) | (exact D6.one (by simp) (by simp;omega)) | (simp))
end Go.Ab.T
namespace Go.Ab.T
open Go Go.Ab
set_option maxHeartbeats 2000000
def H6:List AI→Int→Int
 | [],a=>a
 | r::l,a=>H6 l (Ga a r.n)
theorem I4 {L:List AI} (hb:∀ r∈L,r.n≤9223372036854775807):Pf tp aGP [.fl 2 (L.map AI.enc)] (.i .i64 (H6 L 0)):=by
 refine AD aUb (by simp [aB]) fun rp=>?_;unfold aB;simp (disch:=omega)only[go_sem, *]
 have hL:=rp.head.len
 refine Ae (fun n e h=>∃ (i:Nat) (a:Int),n=L.length - i∧h.lim=0∧e 6=.fl 2 (L.map AI.enc)∧e 7=.i .i64 L.length∧e 8=.i .i64 i∧e 3=.i .i64 a∧i≤L.length∧a≤9223372036854775807∧H6 (L.drop i) a=H6 L 0) ?_ _ _ _ ⟨0,0,rfl, ?_⟩
 ·rintro n e h ⟨i,a,rfl,hl,e6,e7,e8,e3,hi,ha,hz⟩ ih
  rw [Ai aLQ.eq_1]
  simp (disch:=omega)only[go_sem, *]
  refine Aa (fun hc=>?_) (fun hc=>?_)
  ·rw [Ax (by omega),H6] at hz
   have hx:=hb _ (Bl (L:=L) (j:=i) (by omega))
   have ha2:=Fl (a:=a) (b:=(nth L i).n)
   simp (disch:=omega)only[go_sem, *]
   refine Pf.go (Z6 (a:=a) (b:=(nth L i).n) ha hx) (by simp only [go_sem]) fun _=>?_;simp (disch:=omega)only[go_sem, *]
   refine ih _ _ _ ?_ ⟨i+1,Ga a (nth L i).n,rfl, ?_⟩
   ·omega
   ·simp (disch:=omega)only[go_sem, *]
    ((repeat' refine And.intro ?_ ?_)<;>first | omega | assumption)
  ·rw [List.drop_eq_nil_of_le (by omega),H6] at hz
   simp (disch:=omega)only[go_sem, *]
 ·simp (disch:=omega)only[go_sem, *]
theorem So {L:List AI} (hf:Hy L):∀ r∈L,r.n≤9223372036854775807:=by
 obtain ⟨h1,h2⟩:=hf
 induction L with
 | nil=>intro r hr;cases hr
 | cons a l ih=>
  intro r hr
  have hp:=Cn (w:=l) (fun x hx=>h1 x (List.mem_cons_of_mem _ hx))
  have ha:=h1 a (List.mem_cons_self ..)
  simp only [Ay] at h2
  rcases List.mem_cons.1 hr with rfl | hr
  ·omega
  ·exact ih (fun x hx=>h1 x (List.mem_cons_of_mem _ hx)) (by omega) r hr
theorem Xt {n : Int} {L : List Int} {id : Nat} (hn : 1 ≤ n) (hn6 : n ≤ 6) (hL : L.length < 4000000000) {h : AH} {k : Nat} {K : V → AH → Prop} (hg : h.get id = some (Av L k)) (hk : k ≤ L.length) (hlo : h.lim ≤ id)
    (kk:∀ T j,Es n T→T.length≤625→j≤L.length→K (.fl 3 (T.map Node.enc)) (h.put id (Av L j))):Cq tp Su [.p id 0 0,.i .i64 n] h K:=by
 refine Hx aFu (by simp [Ot]) hg fun hlm hid rp=>?_
 unfold Ot
 simp (disch:=omega)only[go_sem, *]
 refine UR hn (by omega) hL 4 (by omega) hg hk hlo ?_
 intro T j hT hTl hj
 have hg1:(h.put id (Av L j)).get id=some (Av L j):=by simp (disch:=omega)only[go_sem, *]
 have hf:=Jq (L:=T)
 have lit:∀ v2 j2 x,0≤v2→v2<n→j2≤L.length→x=h.next→∃ R j3,Cz (h.next≤·) ((h.put id (Av L j2)).alloc ⟨3,[[.i .i64 3,.i .i64 0,.i .i64 2],[.i .i64 1,.i .i64 v2,.i .i64 3],[.i .i64 2,.i .i64 0,.i .i64 2]]⟩) h.next (.sl x 0 3 3) R∧EB h id (Av L j3) ((h.put id (Av L j2)).alloc ⟨3,[[.i .i64 3,.i .i64 0,.i .i64 2],[.i .i64 1,.i .i64 v2,.i .i64 3],[.i .i64 2,.i .i64 0,.i .i64 2]]⟩)∧K R (h.put id (Av L j3)):=by
  rintro v2 j2 x h0 h1 h2 rfl
  have s0:Sl h.next ((h.put id (Av L j2)).alloc ⟨3,(It v2).map Node.enc⟩) 3 (.sl h.next 0 3 3) ((It v2).map Node.enc):=Sl.new (Nat.le_refl _) (by simp [It])
  exact ⟨_,j2,Sl.frzb s0 (fun _=>rfl) (by simp [It]),D1 (Bc (EB.same hg)) hid,kk _ j2 (aG1 hn hn6 h0 h1) (by simp [It]) h2⟩
 simp only [Av] at lit
 simp (disch:=omega)only[go_sem, *]
 refine Pf.go (Ki) (by simp only [go_sem]) fun _=>?_;simp (disch:=omega)only[go_sem, *]
 repeat' (first | (refine Aq (fun hc=>?_) (fun hc=>?_)<;>simp (disch:=omega)only[go_sem, *]) | (refine Aa (fun hc=>?_) (fun hc=>?_)<;>simp (disch:=omega)only[go_sem, *]) | (refine Bk (fun hc=>?_) (fun hc=>?_)<;>simp (disch:=omega)only[go_sem, *]) | (refine AX (fun hc=>?_) (fun hc=>?_)<;>simp (disch:=omega)only[go_sem, *]) | (refine Pf.go (I4 (So hf)) (by simp only [go_sem]) fun _=>?_;simp (disch:=omega)only[go_sem, *]))
 all_goals first
  | (refine AU hg1 hj hL hlo ?_;intro v2 j2 h20 h21 h22 hj2;(have h23:v2<n:=by omega);simp (disch:=omega)only[go_sem, *])
  | (have h0 : (Ez T).2 = 0 := by omega
     exact ⟨_,j,.fl _ _ _,Bc (EB.same hg),kk T j (Es.of hn h0 hT) (by omega) hj⟩)
end Go.Ab.T
namespace Go.Ab.T
open Go Go.Ab
set_option maxHeartbeats 2000000
@[go_sem] def RT.enc (r:List AI):List V:=[.fl 2 (r.map AI.enc)]
theorem Sl.sameV {b sz:Nat} {h:AH} {v:V} {R:List (List V)} (s:Sl b h sz v R):Cx v v=true:=by
 rcases s with ⟨hv,_⟩ | ⟨i,el,cap,cs,rfl,_⟩
 ·rcases hv with rfl | rfl<;>rfl
 ·exact Go.Ab.sameVa_sl
structure Ask (b id:Nat) (L:List Int) (vp vc:V) (T:List (List Node)) (h h':AH) (P:List Part) (Ch:List Ar) (j:Nat):Prop where
 next:h.next+2≤h'.next
 lim:h'.lim=h.lim
 tape:h'.get id=some (Av L j)
 jl:j≤L.length
 box:h'.get h.next=some ⟨3,[[vp,vc,.fl 1 (T.map Tab.enc)]]⟩
 res:h'.get (h.next+1)=some ⟨3,[[.ns,.ns,.ns]]⟩
 low:∀ i,i<b→i≠id→h'.get i=h.get i
 sp:Sl b h' 11 vp (P.map Part.enc)
 sc:Sl b h' 6 vc (Ch.map Ar.enc)
 pl:Ba vp=true∨AW vp<h.next
 cl:Ba vc=true∨AW vc<h.next
 dj:Ba vp=true∨Ba vc=true∨AW vp≠AW vc
theorem AA {b sz:Nat} {h:AH} {v:V} {R:List (List V)} (s:Sl b h sz v R) (i:Nat) (k:BV) (hi:Ba v=true∨i≠AW v):Sl b (h.put i k) sz v R:=by
 rcases hi with hi | hi
 ·rcases s with ⟨a,c⟩ | ⟨_,_,_,_,rfl,_⟩
  ·exact .inl ⟨a,c⟩
  ·cases hi
 ·exact s.putx _ _ hi
section
variable {b id:Nat} {L:List Int} {vp vc:V} {T:List (List Node)} {h h':AH} {P:List Part} {Ch:List Ar} {j:Nat}
theorem Ask.ext {h2:AH} (a:Ask b id L vp vc T h h' P Ch j) (hb:b≤h.next) (hid:id<b) (x:AK h' h2):Ask b id L vp vc T h h2 P Ch j:=by
 have n1:=a.next;have n2:=x.next
 exact ⟨by omega,x.lim.trans a.lim,(x.get _ (by omega)).trans a.tape,a.jl,(x.get _ (by omega)).trans a.box,(x.get _ (by omega)).trans a.res,fun i hi hn=>(x.get i (by omega)).trans (a.low i hi hn),a.sp.ext x,a.sc.ext x,a.pl,a.cl,a.dj⟩
theorem Ask.tape2 {j2:Nat} (a:Ask b id L vp vc T h h' P Ch j) (hb:b≤h.next) (hid:id<b) (hj:j2≤L.length):Ask b id L vp vc T h (h'.put id (Av L j2)) P Ch j2:=by
 have n1:=a.next
 refine ⟨n1,a.lim,by rw [Ad,AC rfl],hj,by rw [Ad,Ac (by omega)];exact a.box,by rw [Ad,Ac (by omega)];exact a.res,fun i hi hn=>by rw [Ad,Ac hn];exact a.low i hi hn,AA a.sp _ _ ?_,AA a.sc _ _ ?_,a.pl,a.cl,a.dj⟩
 ·exact (As a.sp).imp (fun x=>x) (fun x=>by omega)
 ·exact (As a.sc).imp (fun x=>x) (fun x=>by omega)
theorem Ask.chan {i:Nat} (x:Ar) (a:Ask b id L vp vc T h h' P Ch j) (hid:id<b) (hi:i<Ch.length):Ask b id L vp vc T h (h'.put (AW vc) ⟨6,(Bm h' vc).set (E2 vc+i) x.enc⟩) P (Ch.set i x) j:=by
 obtain ⟨_,_,lt,lo,_⟩:=a.sc.facts
 have hnil:Ba vc=false:=by
  rcases a.sc with ⟨_,hR⟩ | ⟨_,_,_,_,rfl,_⟩
  ·have:Ch=[]:=by simpa using hR
   subst this;simp at hi
  ·rfl
 have l1:=lo (by omega)
 have l2:AW vc<h.next:=by rcases a.cl with q | q;(rw [q] at hnil;cases hnil);exact q
 have l3:Ba vp=true∨AW vp≠AW vc:=by
  rcases a.dj with q | q | q
  ·exact .inl q
  ·rw [q] at hnil;cases hnil
  ·exact .inr q
 refine ⟨a.next,a.lim,by rw [Ad,Ac (by omega)];exact a.tape,a.jl,by rw [Ad,Ac (by omega)];exact a.box,by rw [Ad,Ac (by omega)];exact a.res,fun i hi hn=>by rw [Ad,Ac (by omega)];exact a.low i hi hn,AA a.sp _ _ (l3.imp (fun x=>x) (fun x=>Ne.symm x)), ?_,a.pl,a.cl,a.dj⟩
 exact Sl.setT a.sc hi (Nat.le_refl _) (by rw [Ad,AC rfl])
theorem Ask.part {i:Nat} (x:Part) (a:Ask b id L vp vc T h h' P Ch j) (hid:id<b) (hi:i<P.length):Ask b id L vp vc T h (h'.put (AW vp) ⟨11,(Bm h' vp).set (E2 vp+i) x.enc⟩) (P.set i x) Ch j:=by
 obtain ⟨_,_,lt,lo,_⟩:=a.sp.facts
 have hnil:Ba vp=false:=by
  rcases a.sp with ⟨_,hR⟩ | ⟨_,_,_,_,rfl,_⟩
  ·have:P=[]:=by simpa using hR
   subst this;simp at hi
  ·rfl
 have l1:=lo (by omega)
 have l2:AW vp<h.next:=by rcases a.pl with q | q;(rw [q] at hnil;cases hnil);exact q
 have l3:Ba vc=true∨AW vc≠AW vp:=by
  rcases a.dj with q | q | q
  ·rw [q] at hnil;cases hnil
  ·exact .inl q
  ·exact .inr (Ne.symm q)
 refine ⟨a.next,a.lim,by rw [Ad,Ac (by omega)];exact a.tape,a.jl,by rw [Ad,Ac (by omega)];exact a.box,by rw [Ad,Ac (by omega)];exact a.res,fun i hi hn=>by rw [Ad,Ac (by omega)];exact a.low i hi hn, ?_,AA a.sc _ _ (l3.imp (fun x=>x) (fun x=>Ne.symm x)),a.pl,a.cl,a.dj⟩
 exact Sl.setT a.sp hi (Nat.le_refl _) (by rw [Ad,AC rfl])
end
theorem rX {tp:TP} {f:Nat} {args args':List V} {h:AH} {K:V→AH→Prop} (id:Nat) (hz:BS (·=id) h h.next args args') (z:Cq tp f args' (h.kill id) K):Cq tp f args h K:=by
 intro S m hc args1 c p
 have wf:=c.wf
 have st:∀ r R,Cz (·=id) h h.next r R→BT h h r (·=id) R (h.kill id):=fun r R f=>⟨Nat.le_refl _,rfl,Nat.le_refl _,fun i k hk=>by
  rw [Cl] at hk
  by_cases hd:i=id
  ·rw [AC hd] at hk;cases hk
  ·rw [Ac hd] at hk
   exact ⟨(wf.2 i k hk).1,hd,k.cs,hk,(wf.2 i k hk).2 _ _⟩,f⟩
 obtain ⟨q1,q2,_⟩:=(st .u .u (.z _ _ .u)).ok c c (FH.refl c) (.u _ .u)
 refine (z _ m hc args1 q1 (BS.ok c hz p)).imp ?_
 rintro r1 hc' ⟨r,h',S',m',c',a',q,k⟩
 exact ⟨r,h',S',m',c',q2.trans a',q,k⟩
end Go.Ab.T
namespace Go.Ab.T
open Go Go.Ab
set_option maxHeartbeats 2000000
section
variable {b id:Nat} {L:List Int} {vp vc w:V} {T:List (List Node)} {R:List (List AI)} {h h':AH} {P:List Part} {Ch:List Ar} {j:Nat}
def Wst (R:List (List AI)) (f t W:Int):Prop:=-1≤W∧W≤4096∧(0≤W→∀ r∈R,0≤DL r f t∧DL r f t≤W)
theorem Wst.neg {R:List (List AI)} {f t:Int}:Wst R f t (-1):=⟨by omega,by omega,fun h=>absurd h (by omega)⟩
theorem Wst.step {R:List (List AI)} {r:List AI} {f t W:Int} (h:Wst R f t W) (h0:0≤W) (hl:0≤DL r f t) (hl2:DL r f t≤4096):Wst (R++[r]) f t (max W (DL r f t)):=by
 obtain ⟨a,c,d⟩:=h
 refine ⟨by omega,by omega,fun _ x hx=>?_⟩
 rcases List.mem_append.1 hx with hx | hx
 ·have:=d h0 x hx;omega
 ·rw [List.mem_singleton] at hx;subst hx;omega
theorem LU {α:Type} [Inhabited α] {L:List α} {i:Nat} (hi:i<L.length):L.take (i+1)=L.take i++[nth L i]:=by
 rw [List.take_add_one,E8 hi];rfl
theorem Tt {K : Ex → Env → AH → Prop} {i m : Nat} {e : Env} (a : Ask b id L vp vc T h h' P Ch j) (hi : i < Ch.length) (sl : Sl m h' 1 w (R.map RT.enc)) (hR : ∀ r ∈ R, Hy r)
    (e0:e 0=.p id 0 0) (e3:e 3=.p h.next 0 0) (e4:e 4=.p (h.next+1) 0 0) (e5:e 5=w) (e10:e 10=.i .i64 i) (e11:e 11=.i .i64 0) (e40:e 40=vc) (e41:e 41=.i .i64 Ch.length) (e42:e 42=.i .i64 i) (e45:e 45=w) (e46:e 46=.i .i64 R.length) (e47:e 47=.i .i64 0)
    (kk:∀ e' W,e' 0=.p id 0 0→e' 3=.p h.next 0 0→e' 4=.p (h.next+1) 0 0→e' 5=w→e' 10=.i .i64 i→e' 11=.i .i64 W→e' 40=vc→e' 41=.i .i64 Ch.length→e' 42=.i .i64 i→Wst R (nth Ch i).src (nth Ch i).dst W→K (.ex 4) e' h'):ZC tp (.loop Qb) e h' K:=by
 obtain ⟨clen,cbig,clt,FI,cget,cat,crow,ccell,ccells⟩:=a.sc.facts
 obtain ⟨wlen,wbig,wlt,wlo,wget,FF,wrow,wcell,wcells⟩:=sl.facts
 have hbox:=a.box
 have hsv:=Sl.sameV a.sc
 refine Ae (fun n e hh=>∃ (q:Nat) (W:Int),n=R.length - q∧hh=h'∧e 0=.p id 0 0∧e 3=.p h.next 0 0∧e 4=.p (h.next+1) 0 0∧e 5=w∧e 10=.i .i64 i∧e 11=.i .i64 W∧e 40=vc∧e 41=.i .i64 Ch.length∧e 42=.i .i64 i∧e 45=w∧e 46=.i .i64 R.length∧e 47=.i .i64 q∧q≤R.length∧Wst (R.take q) (nth Ch i).src (nth Ch i).dst W) ?_ _ _ _ ⟨0,0,rfl,rfl,e0,e3,e4,e5,e10,e11,e40,e41,e42,e45,e46,e47,by omega,by omega,by omega,fun _ r hr=>by simp at hr⟩
 clear e0 e3 e4 e5 e10 e11 e40 e41 e42 e45 e46 e47 e
 rintro n e hh ⟨q,W,rfl,rfl,e0,e3,e4,e5,e10,e11,e40,e41,e42,e45,e46,e47,hq,hW⟩ ih
 rw [Ai Qb.eq_1]
 simp (disch:=omega)only[go_sem, *]
 refine Aa (fun hc=>?_) (fun hc=>?_)
 ·have hf:=hR _ (Bl (L:=R) (j:=q) (by omega))
  have hl1:=YQ (f:=(nth Ch i).src) (t:=(nth Ch i).dst) hf
  have hl2:=Gi (nth R q) (nth Ch i).src (nth Ch i).dst
  have hts:=LU (L:=R) (i:=q) (by omega)
  have hstep:=fun h0 h1=>hW.step (r:=nth R q) h0 h1 hl1
  rw [← hts] at hstep
  clear hts
  simp (disch:=omega)only[go_sem, *]
  refine Pf.go (Kh hf) (by simp only [go_sem]) fun _=>?_;simp (disch:=omega)only[go_sem, *]
  repeat' (first | (refine Aq (fun hc=>?_) (fun hc=>?_)<;>simp (disch:=omega)only[go_sem, *]) | (refine Aa (fun hc=>?_) (fun hc=>?_)<;>simp (disch:=omega)only[go_sem, *]))
  ·refine ih _ _ _ ?_ ⟨q+1,-1,rfl, ?_⟩
   ·omega
   ·simp (disch:=omega)only[go_sem, *]
    ((repeat' refine And.intro ?_ ?_)<;>first | omega | assumption | (exact Wst.neg))
  ·refine ih _ _ _ ?_ ⟨q+1,-1,rfl, ?_⟩
   ·omega
   ·simp (disch:=omega)only[go_sem, *]
    ((repeat' refine And.intro ?_ ?_)<;>first | omega | assumption | (exact Wst.neg))
  ·refine ih _ _ _ ?_ ⟨q+1,max W (DL (nth R q) (nth Ch i).src (nth Ch i).dst),rfl, ?_⟩
   ·omega
   ·simp (disch:=omega)only[go_sem, *]
    ((repeat' refine And.intro ?_ ?_)<;>first | omega | assumption | (exact hstep (by omega) (by omega)))
 ·have eq:q=R.length:=by omega
  subst eq
  rw [List.take_length] at hW
  simp (disch:=omega)only[go_sem, *]
  exact kk _ W e0 e3 e4 e5 e10 e11 e40 e41 e42 hW
def Fi (x:Ar):Prop:=0≤x.top∧x.top≤4294967295
def CO (n:Int) (R:List (List AI)) (x:Ar):Prop:=C0 n x=true∧(∀ r∈R,CF r x=false)∧Fi x
theorem CO.late {n:Int} {x:Ar} {W t:Int} (c:CO n R x) (hW:Wst R x.src x.dst W) (h0:0<W) (ht:0≤t):CO n R { x with late:=min (W+t) 4096 }:=by
 obtain ⟨w1,w2,w3⟩:=hW
 refine ⟨?_,fun r hr=>?_,c.2.2⟩
 ·have:=c.1
  unfold C0 at this ⊢
  simp only [Bool.and_eq_true,decide_eq_true_eq] at this ⊢
  exact ⟨by omega,this.2⟩
 ·have:=w3 (by omega) r hr
  unfold CF
  simp only [decide_eq_false_iff_not]
  omega
theorem jR {α:Type} {l:List α} {i:Nat} {a:α} {p:α→Prop} (h:∀ x∈l,p x) (ha:p a):∀ x∈l.set i a,p x:=fun x hx=>by
 rcases List.mem_or_eq_of_mem_set hx with h1 | h1
 ·exact h x h1
 ·rw [h1];exact ha
theorem fC {K : Ex → Env → AH → Prop} {n : Int} {e : Env} (hb : b ≤ h.next) (hid : id < b) (hlo : h.lim ≤ id) (hL : L.length < 4000000000) (hR : ∀ r ∈ R, Hy r) (a : Ask b id L vp vc T h h' P Ch j) (sl : Sl (h.next + 2) h' 1 w (R.map RT.enc)) (hC : ∀ x ∈ Ch, CO n R x)
    (e0:e 0=.p id 0 0) (e3:e 3=.p h.next 0 0) (e4:e 4=.p (h.next+1) 0 0) (e5:e 5=w) (e40:e 40=vc) (e41:e 41=.i .i64 Ch.length) (e42:e 42=.i .i64 0)
    (kk:∀ e' h' Ch' j,e' 0=.p id 0 0→e' 3=.p h.next 0 0→e' 4=.p (h.next+1) 0 0→e' 5=w→Ask b id L vp vc T h h' P Ch' j→Sl (h.next+2) h' 1 w (R.map RT.enc)→(∀ x∈Ch',CO n R x)→Ch'.length=Ch.length→K (.ex 2) e' h'):ZC tp (.loop Qc) e h' K:=by
 refine Ae (fun n' e hh=>∃ (q:Nat) (Ch':List Ar) (j:Nat),n'=Ch.length - q∧e 0=.p id 0 0∧e 3=.p h.next 0 0∧e 4=.p (h.next+1) 0 0∧e 5=w∧e 40=vc∧e 41=.i .i64 Ch.length∧e 42=.i .i64 q∧q≤Ch.length∧Ch'.length=Ch.length∧Ask b id L vp vc T h hh P Ch' j∧Sl (h.next+2) hh 1 w (R.map RT.enc)∧(∀ x∈Ch',CO n R x)) ?_ _ _ _ ⟨0,Ch,j,rfl,e0,e3,e4,e5,e40,e41,e42,by omega,rfl,a,sl,hC⟩
 clear e0 e3 e4 e5 e40 e41 e42 e a sl hC
 rintro n' e hh ⟨q,Ch',j,rfl,e0,e3,e4,e5,e40,e41,e42,hq,hlen,a,sl,hC⟩ ih
 obtain ⟨clen,cbig,clt,FI,cget,cat,crow,ccell,ccells⟩:=a.sc.facts
 obtain ⟨wlen,wbig,wlt,wlo,wget,FF,wrow,wcell,wcells⟩:=sl.facts
 have hbox:=a.box
 rw [Ai Qc.eq_1]
 rw [← hlen] at e41
 simp (disch:=omega)only[go_sem, *]
 refine Aa (fun hc=>?_) (fun hc=>?_)
 ·simp (disch:=omega)only[go_sem, *]
  refine Tt (i:=q) a (by omega) sl hR (by simp (disch:=omega)only[go_sem, *]) (by simp (disch:=omega)only[go_sem, *]) (by simp (disch:=omega)only[go_sem, *]) (by simp (disch:=omega)only[go_sem, *]) (by simp (disch:=omega)only[go_sem, *]) (by simp (disch:=omega)only[go_sem, *]) (by simp (disch:=omega)only[go_sem, *]) (by simp (disch:=omega)only[go_sem, *]) (by simp (disch:=omega)only[go_sem, *]) (by simp (disch:=omega)only[go_sem, *]) (by simp (disch:=omega)only[go_sem, *]) (by simp (disch:=omega)only[go_sem, *]) ?_
  clear e0 e3 e4 e5 e40 e41 e42
  intro e' W e0 e3 e4 e5 e10 e11 e40 e41 e42 hW
  simp (disch:=omega)only[go_sem, *]
  refine Aq (fun hw=>?_) (fun hw=>?_)
  ·simp (disch:=omega)only[go_sem, *]
   refine AU a.tape a.jl hL (by have:=a.lim;omega) ?_
   intro v j2 h0 h1 h2 hj2
   have a2:=a.tape2 hb hid hj2
   have sl2:Sl (h.next+2) (hh.put id (Av L j2)) 1 w (R.map RT.enc):=AA sl _ _ ((As sl).imp (fun x=>x) (fun x=>by omega))
   generalize hh.put id (Av L j2)=h2 at a2 sl2 ⊢
   clear clen cbig clt FI cget cat crow ccell ccells wlen wbig wlt wlo wget FF wrow wcell wcells hbox sl
   obtain ⟨clen,cbig,clt,FI,cget,cat,crow,ccell,ccells⟩:=a2.sc.facts
   have hbox:=a2.box
   simp (disch:=omega)only[go_sem, *]
   refine Aa (fun hc3=>?_) (fun hc3=>?_)
   ·have hsv:=Sl.sameV a2.sc
    simp (disch:=omega)only[go_sem, *]
    refine AU a2.tape a2.jl hL (by have:=a2.lim;simp (disch:=omega)only[go_sem, *]<;>omega) ?_
    intro v2 j3 h20 h21 h22 hj3
    have a3:=a2.tape2 hb hid hj3
    have sl3:Sl (h.next+2) (h2.put id (Av L j3)) 1 w (R.map RT.enc):=AA sl2 _ _ ((As sl2).imp (fun x=>x) (fun x=>by omega))
    generalize h2.put id (Av L j3)=h3 at a3 sl3 ⊢
    clear clen cbig clt FI cget cat crow ccell ccells hbox sl2 a2
    obtain ⟨clen,cbig,clt,FI,cget,cat,crow,ccell,ccells⟩:=a3.sc.facts
    have hbox:=a3.box
    have hlm:=a3.lim
    have hW2:W≤4096:=hW.2.1
    have hne:AW vc≠h.next:=by
     rcases a3.cl with q | q
     ·rcases a3.sc with ⟨_,hR⟩ | ⟨_,_,_,_,rfl,_⟩
      ·have:Ch'=[]:=by simpa using hR
       subst this;simp at hlen;omega
      ·cases q
     ·omega
    have a4:=a3.chan (i:=q) { nth Ch' q with late:=min (W+v2) 4096 } hid (by omega)
    have hC4:=jR (i:=q) hC (CO.late (hC _ (Bl (L:=Ch') (j:=q) (by omega))) hW hw h20)
    have sl4:Sl (h.next+2) (h3.put (AW vc) ⟨6,(Bm h3 vc).set (E2 vc+q) ({ nth Ch' q with late:=min (W+v2) 4096 }:Ar).enc⟩) 1 w (R.map RT.enc):=AA sl3 _ _ ((As sl3).imp (fun x=>x) (fun x=>by have:=a3.cl;rcases this with q | q;(rcases a3.sc with ⟨_,hR⟩ | ⟨_,_,_,_,rfl,_⟩;(have:Ch'=[]:=by simpa using hR);(subst this;simp at hlen;omega);cases q);omega))
    simp only [Ar.enc] at a4 sl4
    have hcl:(Ch'.set q { nth Ch' q with late:=min (W+v2) 4096 }).length=Ch.length:=by simp [hlen]
    clear a3 sl3 hC
    simp (disch:=omega)only[go_sem, *]
    refine ih _ _ _ ?_ ⟨q+1,Ch'.set q { nth Ch' q with late:=min (W+v2) 4096 },j3,rfl, ?_⟩
    ·omega
    ·simp (disch:=omega)only[go_sem, *]
     ((repeat' refine And.intro ?_ ?_)<;>first | omega | assumption | (exact a4) | (exact sl4) | (exact hC4))
   ·simp (disch:=omega)only[go_sem, *]
    refine ih _ _ _ ?_ ⟨q+1,Ch',j2,rfl, ?_⟩
    ·omega
    ·simp (disch:=omega)only[go_sem, *]
     ((repeat' refine And.intro ?_ ?_)<;>first | omega | assumption | (exact a2) | (exact sl2) | (exact hC))
  ·simp (disch:=omega)only[go_sem, *]
   refine ih _ _ _ ?_ ⟨q+1,Ch',j,rfl, ?_⟩
   ·omega
   ·simp (disch:=omega)only[go_sem, *]
    ((repeat' refine And.intro ?_ ?_)<;>first | omega | assumption | (exact a) | (exact sl) | (exact hC))
 ·simp (disch:=omega)only[go_sem, *]
  exact kk _ hh Ch' j e0 e3 e4 e5 a sl hC hlen
end
end Go.Ab.T
namespace Go.Ab.T
open Go Go.Ab
set_option maxHeartbeats 2000000
section
variable {b id:Nat} {L:List Int} {vp vc w:V} {T:List (List Node)} {R:List (List AI)} {h h':AH} {P:List Part} {Ch:List Ar} {j:Nat}
theorem Wy {K : Ex → Env → AH → Prop} {pr k : Int} {e : Env} (h0 : 0 ≤ pr) (h1 : pr ≤ 9223372036854775807) (hk : k ≤ 5) (e0 : e 0 = .p id 0 0) (e3 : e 3 = .p h.next 0 0) (e4 : e 4 = .p (h.next + 1) 0 0) (e5 : e 5 = w) (e15 : e 15 = .i .i64 pr) (e16 : e 16 = .i .i64 k)
    (kk:∀ e' pr,e' 0=.p id 0 0→e' 3=.p h.next 0 0→e' 4=.p (h.next+1) 0 0→e' 5=w→e' 15=.i .i64 pr→K (.ex 6) e' h'):ZC tp (.loop Qd) e h' K:=by
 refine Ae (fun n e hh=>∃ (k:Int),n=k.toNat∧hh=h'∧e 0=.p id 0 0∧e 3=.p h.next 0 0∧e 4=.p (h.next+1) 0 0∧e 5=w∧e 15=.i .i64 pr∧e 16=.i .i64 k∧k≤5) ?_ _ _ _ ⟨k,rfl,rfl,e0,e3,e4,e5,e15,e16,hk⟩
 clear e0 e3 e4 e5 e15 e16 e hk
 rintro n e hh ⟨k,rfl,rfl,e0,e3,e4,e5,e15,e16,hk⟩ ih
 rw [Ai Qd.eq_1]
 simp (disch:=omega)only[go_sem, *]
 refine Aa (fun hc=>?_) (fun hc=>?_)
 ·simp (disch:=omega)only[go_sem, *]
  refine Aa (fun hc2=>?_) (fun hc2=>?_)
  ·simp (disch:=omega)only[go_sem, *]
   exact kk _ (IntKind.i64.wrap (pr.tdiv k)) (by simp (disch:=omega)only[go_sem, *]) (by simp (disch:=omega)only[go_sem, *]) (by simp (disch:=omega)only[go_sem, *]) (by simp (disch:=omega)only[go_sem, *]) (by simp (disch:=omega)only[go_sem, *])
  ·simp (disch:=omega)only[go_sem, *]
   refine ih _ _ _ ?_ ⟨k - 1,rfl, ?_⟩
   ·omega
   ·simp (disch:=omega)only[go_sem, *]
    ((repeat' refine And.intro ?_ ?_)<;>first | omega | assumption | (skip))
 ·simp (disch:=omega)only[go_sem, *]
  exact kk _ pr e0 e3 e4 e5 e15
theorem fB {K : Ex → Env → AH → Prop} {i m : Nat} {pr N : Int} {e : Env} (sl : Sl m h' 1 w (R.map RT.enc)) (hR : ∀ r ∈ R, Hy r)
    (e0:e 0=.p id 0 0) (e3:e 3=.p h.next 0 0) (e4:e 4=.p (h.next+1) 0 0) (e5:e 5=w) (e15:e 15=.i .i64 pr) (e17:e 17=.i .i64 i) (e18:e 18=.i .i64 4096) (e113:e 113=.i .i64 N) (e114:e 114=.i .i64 i) (e117:e 117=w) (e118:e 118=.i .i64 R.length) (e119:e 119=.i .i64 0)
    (kk:∀ e' W,W≤4096→e' 0=.p id 0 0→e' 3=.p h.next 0 0→e' 4=.p (h.next+1) 0 0→e' 5=w→e' 15=.i .i64 pr→e' 17=.i .i64 i→e' 18=.i .i64 W→e' 113=.i .i64 N→e' 114=.i .i64 i→K (.ex 10) e' h'):ZC tp (.loop Qe) e h' K:=by
 obtain ⟨wlen,wbig,wlt,wlo,wget,FF,wrow,wcell,wcells⟩:=sl.facts
 refine Ae (fun n e hh=>∃ (q:Nat) (W:Int),n=R.length - q∧hh=h'∧W≤4096∧e 0=.p id 0 0∧e 3=.p h.next 0 0∧e 4=.p (h.next+1) 0 0∧e 5=w∧e 15=.i .i64 pr∧e 17=.i .i64 i∧e 18=.i .i64 W∧e 113=.i .i64 N∧e 114=.i .i64 i∧e 117=w∧e 118=.i .i64 R.length∧e 119=.i .i64 q∧q≤R.length) ?_ _ _ _ ⟨0,4096,rfl,rfl,by omega,e0,e3,e4,e5,e15,e17,e18,e113,e114,e117,e118,e119,by omega⟩
 clear e0 e3 e4 e5 e15 e17 e18 e113 e114 e117 e118 e119 e
 rintro n e hh ⟨q,W,rfl,rfl,hW,e0,e3,e4,e5,e15,e17,e18,e113,e114,e117,e118,e119,hq⟩ ih
 rw [Ai Qe.eq_1]
 simp (disch:=omega)only[go_sem, *]
 refine Aa (fun hc=>?_) (fun hc=>?_)
 ·have hf:=hR _ (Bl (L:=R) (j:=q) (by omega))
  simp (disch:=omega)only[go_sem, *]
  refine Pf.go (HY (p:=i) (P:=pr) hf) (by simp only [go_sem]) fun _=>?_;simp (disch:=omega)only[go_sem, *]
  refine ih _ _ _ ?_ ⟨q+1,min W (HC (nth R q) i pr),rfl, ?_⟩
  ·omega
  ·simp (disch:=omega)only[go_sem, *]
   ((repeat' refine And.intro ?_ ?_)<;>first | omega | assumption | (skip))
 ·simp (disch:=omega)only[go_sem, *]
  exact kk _ W hW e0 e3 e4 e5 e15 e17 e18 e113 e114
def z0 (p:Part):Part:={ p with budget:=0,period:=0 }
theorem bT {A B:List Part} {i:Nat} {x:Part} (h:A.map z0=B.map z0) (hi:i<A.length) (hx:z0 x=z0 (nth A i)):(A.set i x).map z0=B.map z0:=by
 rw [List.map_set,hx,←h]
 apply List.ext_getElem
 ·simp
 ·intro k h1 h2
  simp only [List.length_map] at h2
  by_cases e:i=k
  ·subst e;simp [BX hi]
  ·rw [List.getElem_set_ne e]
theorem aHZ {A:List Part} {q:Nat} (hq:q<A.length) (h:∀ k,k<q→nth A k=z0 (nth A k)):∀ k,k<q+1→nth (A.set q (z0 (nth A q))) k=z0 (nth (A.set q (z0 (nth A q))) k):=by
 intro k hk
 rw [BX (by simp;omega),List.getElem_set]
 split
 ·rfl
 ·have:=h k (by omega)
  rw [BX (by omega)] at this
  exact this
theorem fE {K : Ex → Env → AH → Prop} {pr : Int} {e : Env} (hb : b ≤ h.next) (hid : id < b) (hlo : h.lim ≤ id) (hL : L.length < 4000000000) (hR : ∀ r ∈ R, Hy r) (a : Ask b id L vp vc T h h' P Ch j) (sl : Sl (h.next + 2) h' 1 w (R.map RT.enc))
    (e0:e 0=.p id 0 0) (e3:e 3=.p h.next 0 0) (e4:e 4=.p (h.next+1) 0 0) (e5:e 5=w) (e15:e 15=.i .i64 pr) (e113:e 113=.i .i64 P.length) (e114:e 114=.i .i64 0)
    (kk:∀ e' h' P' j,e' 0=.p id 0 0→e' 3=.p h.next 0 0→e' 4=.p (h.next+1) 0 0→Ask b id L vp vc T h h' P' Ch j→P'.map z0=P.map z0→K (.ex 8) e' h'):ZC tp (.loop Qf) e h' K:=by
 refine Ae (fun n' e hh=>∃ (q:Nat) (P':List Part) (j:Nat),n'=P.length - q∧e 0=.p id 0 0∧e 3=.p h.next 0 0∧e 4=.p (h.next+1) 0 0∧e 5=w∧e 15=.i .i64 pr∧e 113=.i .i64 P.length∧e 114=.i .i64 q∧q≤P.length∧Ask b id L vp vc T h hh P' Ch j∧Sl (h.next+2) hh 1 w (R.map RT.enc)∧P'.map z0=P.map z0) ?_ _ _ _ ⟨0,P,j,rfl,e0,e3,e4,e5,e15,e113,e114,by omega,a,sl,rfl⟩
 clear e0 e3 e4 e5 e15 e113 e114 e a sl
 rintro n' e hh ⟨q,P',j,rfl,e0,e3,e4,e5,e15,e113,e114,hq,a,sl,hz⟩ ih
 have hlen:=congrArg List.length hz
 simp only [List.length_map] at hlen
 obtain ⟨plen,pbig,plt,plo,pget,pat,prow,pcell,pcells⟩:=a.sp.facts
 obtain ⟨wlen,wbig,wlt,wlo,wget,FF,wrow,wcell,wcells⟩:=sl.facts
 have hbox:=a.box
 rw [Ai Qf.eq_1]
 rw [← hlen] at e113
 simp (disch:=omega)only[go_sem, *]
 refine Aa (fun hc=>?_) (fun hc=>?_)
 ·simp (disch:=omega)only[go_sem, *]
  refine fB (h:=h) (id:=id) (i:=q) (pr:=pr) (N:=P'.length) sl hR (by simp (disch:=omega)only[go_sem, *]) (by simp (disch:=omega)only[go_sem, *]) (by simp (disch:=omega)only[go_sem, *]) (by simp (disch:=omega)only[go_sem, *]) (by simp (disch:=omega)only[go_sem, *]) (by simp (disch:=omega)only[go_sem, *]) (by simp (disch:=omega)only[go_sem, *]) (by simp (disch:=omega)only[go_sem, *]) (by simp (disch:=omega)only[go_sem, *]) (by simp (disch:=omega)only[go_sem, *]) (by simp (disch:=omega)only[go_sem, *]) (by simp (disch:=omega)only[go_sem, *]) ?_
  clear e0 e3 e4 e5 e15 e113 e114
  intro e' W hW e0 e3 e4 e5 e15 e17 e18 e113 e114
  simp (disch:=omega)only[go_sem, *]
  refine Aq (fun hw=>?_) (fun hw=>?_)
  ·simp (disch:=omega)only[go_sem, *]
   refine AU a.tape a.jl hL (by have:=a.lim;omega) ?_
   intro v j2 h0 h1 h2 hj2
   have a2:=a.tape2 hb hid hj2
   have sl2:Sl (h.next+2) (hh.put id (Av L j2)) 1 w (R.map RT.enc):=AA sl _ _ ((As sl).imp (fun x=>x) (fun x=>by omega))
   generalize hh.put id (Av L j2)=h2 at a2 sl2 ⊢
   clear plen pbig plt plo pget pat prow pcell pcells wlen wbig wlt wlo wget FF wrow wcell wcells hbox sl
   obtain ⟨plen,pbig,plt,plo,pget,pat,prow,pcell,pcells⟩:=a2.sp.facts
   have hbox:=a2.box
   simp (disch:=omega)only[go_sem, *]
   refine Aa (fun hc3=>?_) (fun hc3=>?_)
   ·have hsv:=Sl.sameV a2.sp
    simp (disch:=omega)only[go_sem, *]
    refine AU a2.tape a2.jl hL (by have:=a2.lim;simp (disch:=omega)only[go_sem, *]<;>omega) ?_
    intro v2 j3 h20 h21 h22 hj3
    have a3:=a2.tape2 hb hid hj3
    have sl3:Sl (h.next+2) (h2.put id (Av L j3)) 1 w (R.map RT.enc):=AA sl2 _ _ ((As sl2).imp (fun x=>x) (fun x=>by omega))
    generalize h2.put id (Av L j3)=h3 at a3 sl3 ⊢
    clear plen pbig plt plo pget pat prow pcell pcells hbox sl2 a2
    obtain ⟨plen,pbig,plt,plo,pget,pat,prow,pcell,pcells⟩:=a3.sp.facts
    have hbox:=a3.box
    have hlm:=a3.lim
    have hne:AW vp<h.next:=by
     rcases a3.pl with q | q
     ·rcases a3.sp with ⟨_,hR⟩ | ⟨_,_,_,_,rfl,_⟩
      ·have:P'=[]:=by simpa using hR
       subst this;simp at hlen;omega
      ·cases q
     ·exact q
    have hrl:=a3.sp.rowlt (j:=q) (by simp;omega)
    have a4:=a3.part (i:=q) { nth P' q with budget:=max (W - v2) 1,period:=pr } hid (by omega)
    have hz4:=bT (i:=q) (x:={ nth P' q with budget:=max (W - v2) 1,period:=pr }) hz (by omega) rfl
    have sl4:Sl (h.next+2) (h3.put (AW vp) ⟨11,(Bm h3 vp).set (E2 vp+q) ({ nth P' q with budget:=max (W - v2) 1,period:=pr }:Part).enc⟩) 1 w (R.map RT.enc):=AA sl3 _ _ ((As sl3).imp (fun x=>x) (fun x=>by omega))
    simp only [Part.enc] at a4 sl4
    clear a3 sl3 hz
    simp (disch:=omega)only[go_sem, *]
    refine ih _ _ _ ?_ ⟨q+1,P'.set q { nth P' q with budget:=max (W - v2) 1,period:=pr },j3,rfl, ?_⟩
    ·omega
    ·simp (disch:=omega)only[go_sem, *]
     ((repeat' refine And.intro ?_ ?_)<;>first | omega | assumption | (exact a4) | (exact sl4) | (exact hz4))
   ·simp (disch:=omega)only[go_sem, *]
    refine ih _ _ _ ?_ ⟨q+1,P',j2,rfl, ?_⟩
    ·omega
    ·simp (disch:=omega)only[go_sem, *]
     ((repeat' refine And.intro ?_ ?_)<;>first | omega | assumption | (exact a2) | (exact sl2) | (exact hz))
  ·simp (disch:=omega)only[go_sem, *]
   refine ih _ _ _ ?_ ⟨q+1,P',j,rfl, ?_⟩
   ·omega
   ·simp (disch:=omega)only[go_sem, *]
    ((repeat' refine And.intro ?_ ?_)<;>first | omega | assumption | (exact a) | (exact sl) | (exact hz))
 ·simp (disch:=omega)only[go_sem, *]
  exact kk _ hh P' j e0 e3 e4 a hz
theorem aEU {K : Ex → Env → AH → Prop} {e : Env} (hb : b ≤ h.next) (hid : id < b) (hlo : h.lim ≤ id) (a : Ask b id L vp vc T h h' P Ch j)
    (e0:e 0=.p id 0 0) (e3:e 3=.p h.next 0 0) (e4:e 4=.p (h.next+1) 0 0) (e159:e 159=.i .i64 P.length) (e160:e 160=.i .i64 0)
    (kk:∀ e' h',e' 0=.p id 0 0→e' 3=.p h.next 0 0→e' 4=.p (h.next+1) 0 0→Ask b id L vp vc T h h' (P.map z0) Ch j→K (.ex 12) e' h'):ZC tp (.loop Qg) e h' K:=by
 refine Ae (fun n' e hh=>∃ (q:Nat) (P':List Part),n'=P.length - q∧e 0=.p id 0 0∧e 3=.p h.next 0 0∧e 4=.p (h.next+1) 0 0∧e 159=.i .i64 P.length∧e 160=.i .i64 q∧q≤P.length∧Ask b id L vp vc T h hh P' Ch j∧P'.map z0=P.map z0∧∀ k,k<q→nth P' k=z0 (nth P' k)) ?_ _ _ _ ⟨0,P,rfl,e0,e3,e4,e159,e160,by omega,a,rfl,fun k hk=>by omega⟩
 clear e0 e3 e4 e159 e160 e a
 rintro n' e hh ⟨q,P',rfl,e0,e3,e4,e159,e160,hq,a,hz,hq0⟩ ih
 have hlen:=congrArg List.length hz
 simp only [List.length_map] at hlen
 obtain ⟨plen,pbig,plt,plo,pget,pat,prow,pcell,pcells⟩:=a.sp.facts
 have hbox:=a.box
 have hlm:=a.lim
 have hsv:=Sl.sameV a.sp
 rw [Ai Qg.eq_1]
 rw [← hlen] at e159
 have hq1:=hq0
 clear hq0
 simp (disch:=omega)only[go_sem, *]
 refine Aa (fun hc=>?_) (fun hc=>?_)
 ·have hne:AW vp<h.next:=by
   rcases a.pl with q | q
   ·rcases a.sp with ⟨_,hR⟩ | ⟨_,_,_,_,rfl,_⟩
    ·have:P'=[]:=by simpa using hR
     subst this;simp at hlen;omega
    ·cases q
   ·exact q
  have hrl:=a.sp.rowlt (j:=q) (by simp;omega)
  have a4:=a.part (i:=q) (z0 (nth P' q)) hid (by omega)
  have hz4:=bT (i:=q) (x:=z0 (nth P' q)) hz (by omega) rfl
  simp only [Part.enc,z0] at a4
  simp (disch:=omega)only[go_sem, *]
  refine ih _ _ _ ?_ ⟨q+1,P'.set q (z0 (nth P' q)),rfl, ?_⟩
  ·omega
  ·simp (disch:=omega)only[go_sem, *]
   ((repeat' refine And.intro ?_ ?_)<;>first | omega | assumption | (exact a4) | (exact hz4) | (exact aHZ (by omega) hq1))
 ·have e:P'=P.map z0:=by
   rw [← hz]
   apply List.ext_getElem
   ·simp
   ·intro k h1 h2
    have:=hq1 k (by omega)
    rw [BX h1] at this
    simp only [List.getElem_map]
    exact this
  subst e
  simp (disch:=omega)only[go_sem, *]
  exact kk _ hh e0 e3 e4 a
end
end Go.Ab.T
namespace Go.Ab.T
open Go Go.Ab
set_option maxHeartbeats 4000000
theorem I8 {C:Ah}:∀ (l:List (List Node)) (i:Nat),(Cy C i l).1=0→Cy C i l=(0,-1)
 | [],i,_=>rfl
 | t::l,i,h=>by
  rw [Cy] at h ⊢
  split at h
  ·rename_i h2;exact absurd h h2
  ·rename_i h2;rw [if_neg h2];exact I8 l _ h
theorem H7 {C:Ah}:∀ (l:List Ar) (i:Nat),(BE C i l).1=0→BE C i l=(0,-1)
 | [],i,h=>by rw [BE] at h ⊢;exact I8 _ _ h
 | t::l,i,h=>by
  rw [BE] at h ⊢
  split at h
  ·simp at h
  ·rename_i h2;rw [if_neg h2];exact H7 l _ h
theorem H8 {C:Ah}:∀ (l:List Part) (i:Nat),(Bv C i l).1=0→Bv C i l=(0,-1)
 | [],i,h=>by rw [Bv] at h ⊢;exact H7 _ _ h
 | t::l,i,h=>by
  rw [Bv] at h ⊢
  split at h
  ·simp at h
  ·rename_i h2;rw [if_neg h2]
   split at h
   ·simp at h
   ·rename_i h3;rw [if_neg h3];exact H8 l _ h
theorem R1 {C:Ah} (h:(A1 C).1=0):A1 C=(0,-1):=by
 unfold A1 at h ⊢
 split at h
 ·simp at h
 ·rename_i h2;rw [if_neg h2];exact H8 _ _ h
noncomputable def rn (t:List Node):List AI:=(Ez t).1
section
variable {b id:Nat} {L:List Int} {vp vc w:V} {T:List (List Node)} {R:List (List AI)} {h h':AH} {P:List Part} {Ch:List Ar} {j:Nat}
theorem Ask.grown {b':Nat} {x v:V} {h2:AH} (a:Ask b id L vp vc T h h' P Ch j) (hb:b≤h.next) (hid:id<b) (g:Grown b' h' x v h2) (hx:Ba x=true∨h.next+2≤AW x):Ask b id L vp vc T h h2 P Ch j:=by
 have n1:=a.next;have n2:=g.next
 have gg:∀ i,i<h.next+2→h2.get i=h'.get i:=fun i hi=>g.get i (by omega) (hx.imp (fun x=>x) (fun x=>by omega))
 refine ⟨by omega,g.lim.trans a.lim,(gg _ (by omega)).trans a.tape,a.jl,(gg _ (by omega)).trans a.box,(gg _ (by omega)).trans a.res,fun i hi hn=>(gg i (by omega)).trans (a.low i hi hn), ?_, ?_,a.pl,a.cl,a.dj⟩
 ·rcases a.pl with q | q
  ·rcases a.sp with ⟨c,d⟩ | ⟨_,_,_,_,rfl,_⟩
   ·exact .inl ⟨c,d⟩
   ·cases q
  ·exact a.sp.same n2 (fun _=>gg _ (by omega))
 ·rcases a.cl with q | q
  ·rcases a.sc with ⟨c,d⟩ | ⟨_,_,_,_,rfl,_⟩
   ·exact .inl ⟨c,d⟩
   ·cases q
  ·exact a.sc.same n2 (fun _=>gg _ (by omega))
theorem aET {K : Ex → Env → AH → Prop} {e : Env} (hb : b ≤ h.next) (hid : id < b) (hlo : h.lim ≤ id) (hT : T.length ≤ 3) (a : Ask b id L vp vc T h h' P Ch j)
    (e0:e 0=.p id 0 0) (e3:e 3=.p h.next 0 0) (e4:e 4=.p (h.next+1) 0 0) (e5:e 5=.ns) (e23:e 23=.fl 1 (T.map Tab.enc)) (e24:e 24=.i .i64 T.length) (e25:e 25=.i .i64 0)
    (kk:∀ e' h' w,e' 0=.p id 0 0→e' 3=.p h.next 0 0→e' 4=.p (h.next+1) 0 0→e' 5=w→Ask b id L vp vc T h h' P Ch j→Sl (h.next+2) h' 1 w ((T.map rn).map RT.enc)→K (.ex 0) e' h'):ZC tp (.loop Vg) e h' K:=by
 refine Ae (fun n' e hh=>∃ (q:Nat) (w:V),n'=T.length - q∧e 0=.p id 0 0∧e 3=.p h.next 0 0∧e 4=.p (h.next+1) 0 0∧e 5=w∧e 23=.fl 1 (T.map Tab.enc)∧e 24=.i .i64 T.length∧e 25=.i .i64 q∧q≤T.length∧Ask b id L vp vc T h hh P Ch j∧Sl (h.next+2) hh 1 w (((T.take q).map rn).map RT.enc)) ?_ _ _ _ ⟨0,.ns,rfl,e0,e3,e4,e5,e23,e24,e25,by omega,a,Sl.nil _ _ _⟩
 clear e0 e3 e4 e5 e23 e24 e25 e a
 rintro n' e hh ⟨q,w,rfl,e0,e3,e4,e5,e23,e24,e25,hq,a,sl⟩ ih
 have hlm:=a.lim
 have hnx:=a.next
 have hwl:=As sl
 rw [Ai Vg.eq_1]
 simp (disch:=omega)only[go_sem, *]
 refine Aa (fun hc=>?_) (fun hc=>?_)
 ·have hts:=LU (L:=T) (i:=q) (by omega)
  simp (disch:=omega)only[go_sem, *]
  refine Pf.go (Ki) (by simp only [go_sem]) fun _=>?_;simp (disch:=omega)only[go_sem, *]
  refine Ao (sl.alloc _) (by simp (disch:=omega)only[go_sem, *]<;>omega) (by simp (disch:=omega)only[go_sem, *]<;>omega) (by simp;omega) ?_
  intro w2 h4 s4 g4
  have a4:=(a.ext hb hid ((AK.refl _).alloc _)).grown hb hid g4 hwl
  have s5:Sl (h.next+2) h4 1 w2 (((T.take (q+1)).map rn).map RT.enc):=by rw [hts];simpa [RT.enc,rn] using s4
  clear hts s4
  simp (disch:=omega)only[go_sem, *]
  refine ih _ _ _ ?_ ⟨q+1,w2,rfl, ?_⟩
  ·omega
  ·simp (disch:=omega)only[go_sem, *]
   ((repeat' refine And.intro ?_ ?_)<;>first | omega | assumption | (exact a4) | (exact s5))
 ·have eq:q=T.length:=by omega
  subst eq
  rw [List.take_length] at sl
  simp (disch:=omega)only[go_sem, *]
  exact kk _ hh w e0 e3 e4 e5 a sl
end
end Go.Ab.T
