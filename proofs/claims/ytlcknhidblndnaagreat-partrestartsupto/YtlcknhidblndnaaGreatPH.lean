/- Part of a proof that a law returns true for every input of the second form's bound (no other condition). -/
import Derived.Test.YtlcknhidblndnaaGreatPG
set_option linter.all false
namespace Go.Ab.T
open Go Go.Ab
set_option maxHeartbeats 2000000
def Dj (v w:V):Prop:=AF v=true∨AF w=true∨Ar v≠Ar w
structure CS (q id:Nat) (L:List Int) (h h':AH) (vp vc vt:V) (P:List Part) (Ch:List A1) (T:List (List Node)) (j:Nat):Prop where
 q1:h.next+2≤q
 q2:q≤h'.next
 lim:h'.lim=h.lim
 tape:h'.get id=some (Ap L j)
 jl:j≤L.length
 res:h'.get h.next=some ⟨3,[[.ns,.ns,.ns]]⟩
 box:h'.get (h.next+1)=some ⟨3,[[vp,vc,vt]]⟩
 low:∀ i,i<h.next→i≠id→h'.get i=h.get i
 sp:Sl (h.next+2) h' 11 vp (P.map Part.enc)
 sc:Sl (h.next+2) h' 6 vc (Ch.map A1.enc)
 st:Sl (h.next+2) h' 1 vt (T.map Tab.enc)
 pl:AF vp=true∨Ar vp<q
 cl:AF vc=true∨Ar vc<q
 tl:AF vt=true∨Ar vt<q
 pc:Dj vp vc
 pt:Dj vp vt
 ct:Dj vc vt
section
variable {q id:Nat} {L:List Int} {h h' h2:AH} {vp vc vt:V} {P:List Part} {Ch:List A1} {T:List (List Node)} {j:Nat}
theorem Ir {b sz q:Nat} {h h2:AH} {v:V} {R:List (List V)} (s:Sl b h sz v R) (hl:AF v=true∨Ar v<q) (hn:h.next≤h2.next) (g:∀ i,i<q→h2.get i=h.get i):Sl b h2 sz v R:=by
 rcases hl with hl | hl
 ·rcases s with ⟨a,c⟩ | ⟨_,_,_,_,rfl,_⟩
  ·exact .inl ⟨a,c⟩
  ·cases hl
 ·exact s.same hn (fun _=>g _ hl)
theorem CS.keep (a:CS q id L h h' vp vc vt P Ch T j) (hid:id<h.next) (hn:h'.next≤h2.next) (hl:h2.lim=h'.lim) (g:∀ i,i<q→h2.get i=h'.get i):CS q id L h h2 vp vc vt P Ch T j:=by
 have q1:=a.q1;have q2:=a.q2
 exact ⟨q1,by omega,hl.trans a.lim,(g _ (by omega)).trans a.tape,a.jl,(g _ (by omega)).trans a.res,(g _ (by omega)).trans a.box,fun i hi hn=>(g i (by omega)).trans (a.low i hi hn),Ir a.sp a.pl hn g,Ir a.sc a.cl hn g,Ir a.st a.tl hn g,a.pl,a.cl,a.tl,a.pc,a.pt,a.ct⟩
theorem CS.ext (a:CS q id L h h' vp vc vt P Ch T j) (hid:id<h.next) (x:Aq h' h2):CS q id L h h2 vp vc vt P Ch T j:=
 a.keep hid x.next x.lim (fun i hi=>x.get i (by have:=a.q2;omega))
theorem CS.up {q':Nat} (a:CS q id L h h' vp vc vt P Ch T j) (h1:q≤q') (h2:q'≤h'.next):CS q' id L h h' vp vc vt P Ch T j:=
 ⟨Nat.le_trans a.q1 h1,h2,a.lim,a.tape,a.jl,a.res,a.box,a.low,a.sp,a.sc,a.st,a.pl.imp (fun x=>x) (fun x=>by omega),a.cl.imp (fun x=>x) (fun x=>by omega),a.tl.imp (fun x=>x) (fun x=>by omega),a.pc,a.pt,a.ct⟩
theorem CS.tape2 {j2:Nat} (a:CS q id L h h' vp vc vt P Ch T j) (hid:id<h.next) (hj:j2≤L.length):CS q id L h (h'.put id (Ap L j2)) vp vc vt P Ch T j2:=by
 have q1:=a.q1;have q2:=a.q2
 exact ⟨q1,q2,a.lim,by rw [Ae,Ax rfl],hj,by rw [Ae,Ag (by omega)];exact a.res,by rw [Ae,Ag (by omega)];exact a.box,fun i hi hn=>by rw [Ae,Ag hn];exact a.low i hi hn,
  AR a.sp _ _ ((AD a.sp).imp (fun x=>x) (fun x=>by omega)),AR a.sc _ _ ((AD a.sc).imp (fun x=>x) (fun x=>by omega)),AR a.st _ _ ((AD a.st).imp (fun x=>x) (fun x=>by omega)),a.pl,a.cl,a.tl,a.pc,a.pt,a.ct⟩
theorem Dq {b:Nat} {v w x:V} {h1 h2:AH} (g:Grown b h1 x v h2) (d:Dj x w) (hl:AF w=true∨Ar w<h1.next):Dj v w:=by
 rcases g.own with k | ⟨k1,k2⟩ | k
 ·exact .inl k
 ·rcases d with d | d | d
  ·rw [d] at k1;cases k1
  ·exact .inr (.inl d)
  ·exact .inr (.inr (by rw [k2];exact d))
 ·rcases hl with hl | hl
  ·exact .inr (.inl hl)
  ·exact .inr (.inr (by omega))
theorem DY {v w:V} (d:Dj v w):Dj w v:=by
 rcases d with d | d | d
 ·exact .inr (.inl d)
 ·exact .inl d
 ·exact .inr (.inr (Ne.symm d))
theorem D8 {b b' sz:Nat} {h1 h2:AH} {x v w:V} {R:List (List V)} (s:Sl b h1 sz w R) (g:Grown b' h1 x v h2) (d:Dj x w):Sl b h2 sz w R:=by
 rcases s with hs | ⟨i,el,cap,cs,rfl,hg,a1,a2,a3,a4,a5,a6⟩
 ·exact .inl hs
 ·refine .inr ⟨i,el,cap,cs,rfl, ?_,a1,a2,a3,Nat.lt_of_lt_of_le a4 g.next,a5,a6⟩
  rw [g.get i a4];exact hg
  rcases d with d | d | d
  ·exact .inl d
  ·cases d
  ·exact .inr (Ne.symm d)
theorem Cy {b:Nat} {h1 h2:AH} {x v:V} (g:Grown b h1 x v h2) (hx:AF x=true∨b≤Ar x) (hb:b≤h1.next):∀ i,i<b→h2.get i=h1.get i:=fun i hi=>g.get i (by omega) (hx.imp (fun x=>x) (fun x=>by omega))
theorem CS.grow_p {h1 h3 : AH} {v : V} {x : Part} (a : CS q id L h h' vp vc vt P Ch T j) (hid : id < h.next) (e : Aq h' h1) (s : Sl (h.next + 2) h3 11 v (P.map Part.enc ++ [x.enc])) (g : Grown (h.next + 2) h1 vp v h3) :
    CS h3.next id L h (h3.put (h.next+1) ⟨3,[[v,vc,vt]]⟩) v vc vt (P++[x]) Ch T j:=by
 have q1:=a.q1;have q2:=a.q2;have n1:=e.next;have n2:=g.next
 have gl:=Cy g (AD a.sp) (by omega)
 have a1:=a.ext hid e
 have m:=CW s
 refine ⟨by omega,Nat.le_refl _,g.lim.trans a1.lim,by rw [Ae,Ag (by omega)];exact (gl _ (by omega)).trans a1.tape,a.jl,by rw [Ae,Ag (by omega)];exact (gl _ (by omega)).trans a1.res,by rw [Ae,Ax rfl],fun i hi hn=>by rw [Ae,Ag (by omega)];exact (gl i (by omega)).trans (a1.low i hi hn), ?_, ?_, ?_,m,a.cl.imp (fun x=>x) (fun x=>by omega),a.tl.imp (fun x=>x) (fun x=>by omega),Dq g a.pc (a.cl.imp (fun x=>x) (fun x=>by omega)),Dq g a.pt (a.tl.imp (fun x=>x) (fun x=>by omega)),a.ct⟩
 ·refine AR ?_ _ _ ((AD s).imp (fun x=>x) (fun x=>by omega));simpa using s
 ·exact AR (D8 a1.sc g a.pc) _ _ ((AD a.sc).imp (fun x=>x) (fun x=>by omega))
 ·exact AR (D8 a1.st g a.pt) _ _ ((AD a.st).imp (fun x=>x) (fun x=>by omega))
theorem CS.grow_c {h1 h3 : AH} {v : V} {x : A1} (a : CS q id L h h' vp vc vt P Ch T j) (hid : id < h.next) (e : Aq h' h1) (s : Sl (h.next + 2) h3 6 v (Ch.map A1.enc ++ [x.enc])) (g : Grown (h.next + 2) h1 vc v h3) :
    CS h3.next id L h (h3.put (h.next+1) ⟨3,[[vp,v,vt]]⟩) vp v vt P (Ch++[x]) T j:=by
 have q1:=a.q1;have q2:=a.q2;have n1:=e.next;have n2:=g.next
 have gl:=Cy g (AD a.sc) (by omega)
 have a1:=a.ext hid e
 have m:=CW s
 refine ⟨by omega,Nat.le_refl _,g.lim.trans a1.lim,by rw [Ae,Ag (by omega)];exact (gl _ (by omega)).trans a1.tape,a.jl,by rw [Ae,Ag (by omega)];exact (gl _ (by omega)).trans a1.res,by rw [Ae,Ax rfl],fun i hi hn=>by rw [Ae,Ag (by omega)];exact (gl i (by omega)).trans (a1.low i hi hn), ?_, ?_, ?_,a.pl.imp (fun x=>x) (fun x=>by omega),m,a.tl.imp (fun x=>x) (fun x=>by omega),DY (Dq g (DY a.pc) (a.pl.imp (fun x=>x) (fun x=>by omega))),a.pt,Dq g a.ct (a.tl.imp (fun x=>x) (fun x=>by omega))⟩
 ·exact AR (D8 a1.sp g (DY a.pc)) _ _ ((AD a.sp).imp (fun x=>x) (fun x=>by omega))
 ·refine AR ?_ _ _ ((AD s).imp (fun x=>x) (fun x=>by omega));simpa using s
 ·exact AR (D8 a1.st g a.ct) _ _ ((AD a.st).imp (fun x=>x) (fun x=>by omega))
theorem CS.grow_t {h1 h3 : AH} {v : V} {x : List Node} (a : CS q id L h h' vp vc vt P Ch T j) (hid : id < h.next) (e : Aq h' h1) (s : Sl (h.next + 2) h3 1 v (T.map Tab.enc ++ [Tab.enc x])) (g : Grown (h.next + 2) h1 vt v h3) :
    CS h3.next id L h (h3.put (h.next+1) ⟨3,[[vp,vc,v]]⟩) vp vc v P Ch (T++[x]) j:=by
 have q1:=a.q1;have q2:=a.q2;have n1:=e.next;have n2:=g.next
 have gl:=Cy g (AD a.st) (by omega)
 have a1:=a.ext hid e
 have m:=CW s
 refine ⟨by omega,Nat.le_refl _,g.lim.trans a1.lim,by rw [Ae,Ag (by omega)];exact (gl _ (by omega)).trans a1.tape,a.jl,by rw [Ae,Ag (by omega)];exact (gl _ (by omega)).trans a1.res,by rw [Ae,Ax rfl],fun i hi hn=>by rw [Ae,Ag (by omega)];exact (gl i (by omega)).trans (a1.low i hi hn), ?_, ?_, ?_,a.pl.imp (fun x=>x) (fun x=>by omega),a.cl.imp (fun x=>x) (fun x=>by omega),m,a.pc,DY (Dq g (DY a.pt) (a.pl.imp (fun x=>x) (fun x=>by omega))),DY (Dq g (DY a.ct) (a.cl.imp (fun x=>x) (fun x=>by omega)))⟩
 ·exact AR (D8 a1.sp g (DY a.pt)) _ _ ((AD a.sp).imp (fun x=>x) (fun x=>by omega))
 ·exact AR (D8 a1.sc g (DY a.ct)) _ _ ((AD a.sc).imp (fun x=>x) (fun x=>by omega))
 ·refine AR ?_ _ _ ((AD s).imp (fun x=>x) (fun x=>by omega));simpa using s
end
end Go.Ab.T
namespace Go.Ab.T
open Go Go.Ab
set_option maxHeartbeats 4000000
section
variable {q id:Nat} {L:List Int} {h h' h2:AH} {vp vc vt:V} {P:List Part} {Ch:List A1} {T:List (List Node)} {j:Nat}
theorem Sm {K : Ex → Env → AH → Prop} {e : Env} {k n : Int} {i : Nat} {nm : ByteArray} {sc st : Bool} (hid : id < h.next) (hlo : h.lim ≤ id) (hL : L.length < 4000000000) (hk0 : 0 ≤ k) (hk1 : k ≤ 1) (a : CS q id L h h' vp vc vt P Ch T j) (hq : q < h'.next)
    (hb:h'.get q=some ⟨11,[[.s nm,.i .i64 0,.i .i64 0,.b sc,.b st,.ns,.i .i64 0,.i .i64 0,.i .i64 0,.i .i64 0,.i .i64 0]]⟩)
    (e0:e 0=.p id 0 0) (e2:e 2=.p h.next 0 0) (e3:e 3=.p (h.next+1) 0 0) (e4:e 4=.i .i64 n) (e5:e 5=.i .i64 i) (e6:e 6=.p q 0 0) (e7:e 7=.i .i64 k)
    (kk:∀ e' h' j vr pr,e' 0=.p id 0 0→e' 2=.p h.next 0 0→e' 3=.p (h.next+1) 0 0→e' 4=.i .i64 n→e' 5=.i .i64 i→e' 6=.p q 0 0→CS q id L h h' vp vc vt P Ch T j→q<h'.next→h'.get q=some ⟨11,[[.s nm,.i .i64 0,.i .i64 0,.b sc,.b st,vr,.i .i64 0,.i .i64 0,.i .i64 0,.i .i64 0,.i .i64 0]]⟩→Sl (q+1) h' 2 vr (pr.map Bd.enc)→BO pr=true→pr.length≤2→K (.ex 2) e' h'):ZC tp (.loop T6) e h' K:=by
 refine Ah (fun n' e hh=>∃ (k':Int) (vr:V) (pr:List Bd) (j:Nat),n'=(k'+1).toNat∧e 0=.p id 0 0∧e 2=.p h.next 0 0∧e 3=.p (h.next+1) 0 0∧e 4=.i .i64 n∧e 5=.i .i64 i∧e 6=.p q 0 0∧e 7=.i .i64 k'∧-1≤k'∧CS q id L h hh vp vc vt P Ch T j∧q<hh.next∧hh.get q=some ⟨11,[[.s nm,.i .i64 0,.i .i64 0,.b sc,.b st,vr,.i .i64 0,.i .i64 0,.i .i64 0,.i .i64 0,.i .i64 0]]⟩∧Sl (q+1) hh 2 vr (pr.map Bd.enc)∧(∀ x∈pr,Dv x=true)∧(pr.length:Int)+k'=k) ?_ _ _ _ ⟨k,.ns,[],j,rfl,e0,e2,e3,e4,e5,e6,e7,by omega,a,hq,hb,Sl.nil _ _ _,(fun x hx=>by cases hx),by simp⟩
 clear e0 e2 e3 e4 e5 e6 e7 e a hq hb
 rintro n' e hh ⟨k',vr,pr,j,rfl,e0,e2,e3,e4,e5,e6,e7,hk',a,hq,hb,sr,hpr,hlen⟩ ih
 have q1:=a.q1
 have hlm:=a.lim
 have hro:=AD sr
 obtain ⟨rlen,rbig,rlt,rlo,rget,rat,rrow,rcell,rcells⟩:=sr.facts
 have hsv:=Sl.sameV sr
 clear rlt rlo rget rat rrow rlen rbig
 rw [Am T6.eq_1]
 simp (disch:=omega)only[go_sem, *]
 refine Aa (fun hc=>?_) (fun hc=>?_)
 ·simp (disch:=omega)only[go_sem, *]
  refine AO a.tape a.jl hL (by omega) ?_
  intro v j2 v0 v1 v2 hj2
  have a2:=a.tape2 hid hj2
  have sr2:=AR sr id (Ap L j2) (hro.imp (fun x=>x) (fun x=>by omega))
  have hb2:(hh.put id (Ap L j2)).get q=some ⟨11,[[.s nm,.i .i64 0,.i .i64 0,.b sc,.b st,vr,.i .i64 0,.i .i64 0,.i .i64 0,.i .i64 0,.i .i64 0]]⟩:=by rw [Ae,Ag (by omega)];exact hb
  have hq2:q<(hh.put id (Ap L j2)).next:=hq
  generalize hh.put id (Ap L j2)=h2 at a2 sr2 hb2 hq2 ⊢
  clear a sr hb hq hlm
  have hlm:=a2.lim
  simp (disch:=omega)only[go_sem, *]
  refine AO a2.tape a2.jl hL (by omega) ?_
  intro v' j3 v0' v1' v2' hj3
  have a3:=a2.tape2 hid hj3
  have sr3:=AR sr2 id (Ap L j3) (hro.imp (fun x=>x) (fun x=>by omega))
  have hb3:(h2.put id (Ap L j3)).get q=some ⟨11,[[.s nm,.i .i64 0,.i .i64 0,.b sc,.b st,vr,.i .i64 0,.i .i64 0,.i .i64 0,.i .i64 0,.i .i64 0]]⟩:=by rw [Ae,Ag (by omega)];exact hb2
  have hq3:q<(h2.put id (Ap L j3)).next:=hq2
  generalize h2.put id (Ap L j3)=h3 at a3 sr3 hb3 hq3 ⊢
  clear a2 sr2 hb2 hq2 hlm
  have hlm:=a3.lim
  simp (disch:=omega)only[go_sem, *]
  refine AA (sr3.alloc _) (by simp (disch:=omega)only[go_sem, *]<;>omega) (by simp (disch:=omega)only[go_sem, *]<;>omega) (by simp;omega) ?_
  intro w h4 s4 g4
  have l4:=g4.lim
  have n4:=g4.next
  have gl:=Cy g4 hro (by simp (disch:=omega)only[go_sem, *]<;>omega)
  have c4:=g4.cell
  have c4s:=g4.cells
  have x3:Aq h3 (h3.alloc ⟨2,[(⟨4*v,v'⟩:Bd).enc]⟩):=(Aq.refl _).alloc _
  simp only [Bd.enc,Af,A9] at l4 n4 x3 gl
  have hb4:h4.get q=some ⟨11,[[.s nm,.i .i64 0,.i .i64 0,.b sc,.b st,vr,.i .i64 0,.i .i64 0,.i .i64 0,.i .i64 0,.i .i64 0]]⟩:=(gl q (by omega)).trans ((x3.get q (by omega)).trans hb3)
  have hsw:=Sl.sameV s4
  have a5:CS q id L h (h4.put q ⟨11,[[.s nm,.i .i64 0,.i .i64 0,.b sc,.b st,w,.i .i64 0,.i .i64 0,.i .i64 0,.i .i64 0,.i .i64 0]]⟩) vp vc vt P Ch T j3:=a3.keep hid (by rw [Ai];omega) (by rw [Eb];omega) (fun i hi=>by rw [Ae,Ag (by omega),gl i (by omega)];exact x3.get i (by omega))
  have s5:Sl (q+1) (h4.put q ⟨11,[[.s nm,.i .i64 0,.i .i64 0,.b sc,.b st,w,.i .i64 0,.i .i64 0,.i .i64 0,.i .i64 0,.i .i64 0]]⟩) 2 w ((pr++[(⟨4*v,v'⟩:Bd)]).map Bd.enc):=AR (by simpa [Bd.enc] using s4) _ _ ((AD s4).imp (fun x=>x) (fun x=>by omega))
  have hpr5:∀ x∈pr++[(⟨4*v,v'⟩:Bd)],Dv x=true:=fun x hx=>by
   rcases List.mem_append.1 hx with hx | hx
   ·exact hpr x hx
   ·rw [List.mem_singleton] at hx;subst hx;simp only [Dv];simp;omega
  clear hpr s4
  simp (disch:=omega)only[go_sem, *]
  refine ih _ _ _ ?_ ⟨k' - 1,w,pr++[⟨4*v,v'⟩],j3,rfl, ?_⟩
  ·omega
  ·simp (disch:=omega)only[go_sem, *]
   ((repeat' refine And.intro ?_ ?_)<;>first | omega | assumption | (exact a5) | (exact s5) | (exact hpr5) | ((simp only [List.length_append,List.length_cons,List.length_nil];omega)))
 ·simp (disch:=omega)only[go_sem, *]
  have hpl:BO pr=true:=by
   unfold BO
   simp only [Bool.and_eq_true,List.all_eq_true,decide_eq_true_eq]
   exact ⟨hpr,by omega⟩
  exact kk _ hh j vr pr e0 e2 e3 e4 e5 e6 a hq hb sr hpl (by omega)
end
end Go.Ab.T
namespace Go.Ab.T
open Go Go.Ab
set_option maxHeartbeats 4000000
theorem aRM {v:Int} (h0:0≤v) (h5:v<5):∃ z:Int,0≤z∧z≤2∧[[V.i .i64 0],[.i .i64 1],[.i .i64 0],[.i .i64 2],[.i .i64 1]][v.toNat]?=some [.i .i64 z]:=by
 have:v=0∨v=1∨v=2∨v=3∨v=4:=by omega
 rcases this with rfl | rfl | rfl | rfl | rfl
 ·exact ⟨0,by omega,by omega,rfl⟩
 ·exact ⟨1,by omega,by omega,rfl⟩
 ·exact ⟨0,by omega,by omega,rfl⟩
 ·exact ⟨2,by omega,by omega,rfl⟩
 ·exact ⟨1,by omega,by omega,rfl⟩
section
variable {q id:Nat} {L:List Int} {h h' h2:AH} {vp vc vt:V} {P:List Part} {Ch:List A1} {T:List (List Node)} {j:Nat}
theorem Pa {K : Ex → Env → AH → Prop} {e : Env} {n : Int} {i : Nat} {nm : ByteArray} {sc st : Bool} {vr : V} {pr : List Bd} (hid : id < h.next) (hlo : h.lim ≤ id) (hL : L.length < 4000000000) (a : CS q id L h h' vp vc vt P Ch T j) (hq : q < h'.next)
    (hb:h'.get q=some ⟨11,[[.s nm,.i .i64 0,.i .i64 0,.b sc,.b st,vr,.i .i64 0,.i .i64 0,.i .i64 0,.i .i64 0,.i .i64 0]]⟩) (sr:Sl (q+1) h' 2 vr (pr.map Bd.enc)) (hpr:BO pr=true) (hpl:pr.length≤2)
    (e0:e 0=.p id 0 0) (e2:e 2=.p h.next 0 0) (e3:e 3=.p (h.next+1) 0 0) (e4:e 4=.i .i64 n) (e5:e 5=.i .i64 i) (e6:e 6=.p q 0 0) (e50:e 50=.i .i64 0)
    (kk:∀ e' h' j (hs:Nat→Int),(∀ i,0≤hs i∧hs i≤2)→e' 0=.p id 0 0→e' 2=.p h.next 0 0→e' 3=.p (h.next+1) 0 0→e' 4=.i .i64 n→e' 5=.i .i64 i→e' 6=.p q 0 0→CS q id L h h' vp vc vt P Ch T j→q<h'.next→h'.get q=some ⟨11,[(⟨nm,0,0,sc,st,pr,hs 0,hs 1,hs 2,hs 3,hs 4⟩:Part).enc]⟩→K (.ex 4) e' h'):ZC tp (.loop T7) e h' K:=by
 have q1:=a.q1;have q2:=a.q2
 have hp1:0<pr.length:=by
  unfold BO at hpr
  simp only [Bool.and_eq_true,decide_eq_true_eq] at hpr
  omega
 obtain ⟨rlen,rbig,rlt,rlo,rget,rat,rrow,rcell,rcells⟩:=sr.facts
 have l1:=rlt hp1
 have l2:=rlo hp1
 refine aCr [0,2,3,4,5,6,50] q (Ar vr) 11 _ [.s nm,.i .i64 0,.i .i64 0,.b sc,.b st,.fl 2 (pr.map Bd.enc),.i .i64 0,.i .i64 0,.i .i64 0,.i .i64 0,.i .i64 0] (by omega) hb ?_ ?_ ?_
 ·exact .cons _ _ _ _ _ (.cons _ _ _ _ _ (.z _ _ (.s _)) (.cons _ _ _ _ _ (.z _ _ (.i _ _)) (.cons _ _ _ _ _ (.z _ _ (.i _ _)) (.cons _ _ _ _ _ (.z _ _ (.b _)) (.cons _ _ _ _ _ (.z _ _ (.b _)) (.cons _ _ _ _ _ (sr.froze (fun _=>rfl) rfl (by omega)) (.cons _ _ _ _ _ (.z _ _ (.i _ _)) (.cons _ _ _ _ _ (.z _ _ (.i _ _)) (.cons _ _ _ _ _ (.z _ _ (.i _ _)) (.cons _ _ _ _ _ (.z _ _ (.i _ _)) (.cons _ _ _ _ _ (.z _ _ (.i _ _)) (.nil _)))))))))))) (.nil _)
 ·intro t ht
  simp only [List.mem_cons,List.not_mem_nil,or_false] at ht
  rcases ht with rfl | rfl | rfl | rfl | rfl | rfl | rfl
  ·rw [e0];exact .p _ _ _ _ (by omega)
  ·rw [e2];exact .p _ _ _ _ (by omega)
  ·rw [e3];exact .p _ _ _ _ (by omega)
  ·rw [e4];exact .z _ _ (.i _ _)
  ·rw [e5];exact .z _ _ (.i _ _)
  ·rw [e6];exact .p _ _ _ _ (by omega)
  ·rw [e50];exact .z _ _ (.i _ _)
 intro e' he'
 rw [← he' 0 (by simp)] at e0
 rw [← he' 2 (by simp)] at e2
 rw [← he' 3 (by simp)] at e3
 rw [← he' 4 (by simp)] at e4
 rw [← he' 5 (by simp)] at e5
 rw [← he' 6 (by simp)] at e6
 rw [← he' 50 (by simp)] at e50
 have hb1:((h'.kill (Ar vr)).put q ⟨11,[[.s nm,.i .i64 0,.i .i64 0,.b sc,.b st,.fl 2 (pr.map Bd.enc),.i .i64 0,.i .i64 0,.i .i64 0,.i .i64 0,.i .i64 0]]⟩).get q=some ⟨11,[(⟨nm,0,0,sc,st,pr,0,0,0,0,0⟩:Part).enc]⟩:=by rw [Ae,Ax rfl];rfl
 have a1:CS q id L h ((h'.kill (Ar vr)).put q ⟨11,[[.s nm,.i .i64 0,.i .i64 0,.b sc,.b st,.fl 2 (pr.map Bd.enc),.i .i64 0,.i .i64 0,.i .i64 0,.i .i64 0,.i .i64 0]]⟩) vp vc vt P Ch T j:=a.keep hid (Nat.le_refl _) rfl (fun i hi=>by rw [Ae,Ag (by omega),B4,Ag (by omega)])
 have hq1:q<((h'.kill (Ar vr)).put q ⟨11,[[.s nm,.i .i64 0,.i .i64 0,.b sc,.b st,.fl 2 (pr.map Bd.enc),.i .i64 0,.i .i64 0,.i .i64 0,.i .i64 0,.i .i64 0]]⟩).next:=hq
 generalize (h'.kill (Ar vr)).put q ⟨11,[[.s nm,.i .i64 0,.i .i64 0,.b sc,.b st,.fl 2 (pr.map Bd.enc),.i .i64 0,.i .i64 0,.i .i64 0,.i .i64 0,.i .i64 0]]⟩=h1 at a1 hb1 hq1 ⊢
 clear rlen rbig rlt rlo rget rat rrow rcell rcells l1 l2 sr hb a hq q2 he'
 refine Ah (fun n' e hh=>∃ (k j:Nat) (hs:Nat→Int),n'=5 - k∧e 0=.p id 0 0∧e 2=.p h.next 0 0∧e 3=.p (h.next+1) 0 0∧e 4=.i .i64 n∧e 5=.i .i64 i∧e 6=.p q 0 0∧e 50=.i .i64 k∧k≤5∧CS q id L h hh vp vc vt P Ch T j∧q<hh.next∧hh.get q=some ⟨11,[(⟨nm,0,0,sc,st,pr,hs 0,hs 1,hs 2,hs 3,hs 4⟩:Part).enc]⟩∧∀ i,0≤hs i∧hs i≤2) ?_ _ _ _ ⟨0,j,fun _=>0,rfl,e0,e2,e3,e4,e5,e6,e50,by omega,a1,hq1,hb1,fun _=>⟨by simp,by simp⟩⟩
 clear e0 e2 e3 e4 e5 e6 e50 a1 hq1 hb1
 rintro n' e hh ⟨k,j,hs,rfl,e0,e2,e3,e4,e5,e6,e50,hk,a,hq,hb,hhs⟩ ih
 have q2:=a.q2
 have hlm:=a.lim
 rw [Am T7.eq_1]
 simp (disch:=omega)only[go_sem, *]
 refine Aa (fun hc=>?_) (fun hc=>?_)
 ·simp (disch:=omega)only[go_sem, *]
  have x1:Aq hh (hh.alloc ⟨1,[[V.i .i64 0],[.i .i64 1],[.i .i64 0],[.i .i64 2],[.i .i64 1]]⟩):=(Aq.refl _).alloc _
  have a1:=a.ext hid x1
  refine AO a1.tape a1.jl hL (by rw [A9];omega) ?_
  intro v j2 v0 v1 v2 hj2
  obtain ⟨z,z0,z2,hz⟩:=aRM v0 (by omega)
  have a2:=a1.tape2 hid hj2
  have hb2:((hh.alloc ⟨1,[[V.i .i64 0],[.i .i64 1],[.i .i64 0],[.i .i64 2],[.i .i64 1]]⟩).put id (Ap L j2)).get q=some ⟨11,[(⟨nm,0,0,sc,st,pr,hs 0,hs 1,hs 2,hs 3,hs 4⟩:Part).enc]⟩:=by rw [Ae,Ag (by omega),AV,Ag (by omega)];exact hb
  have hl2:((hh.alloc ⟨1,[[V.i .i64 0],[.i .i64 1],[.i .i64 0],[.i .i64 2],[.i .i64 1]]⟩).put id (Ap L j2)).get hh.next=some ⟨1,[[V.i .i64 0],[.i .i64 1],[.i .i64 0],[.i .i64 2],[.i .i64 1]]⟩:=by rw [Ae,Ag (by omega),AV,Ax rfl]
  have hn2:((hh.alloc ⟨1,[[V.i .i64 0],[.i .i64 1],[.i .i64 0],[.i .i64 2],[.i .i64 1]]⟩).put id (Ap L j2)).next=hh.next+1:=rfl
  generalize (hh.alloc ⟨1,[[V.i .i64 0],[.i .i64 1],[.i .i64 0],[.i .i64 2],[.i .i64 1]]⟩).put id (Ap L j2)=h3 at a2 hb2 hl2 hn2 ⊢
  clear x1 a1 a hb hlm q2
  have hlm:=a2.lim
  simp only [Part.enc] at hb2
  have h15:k=0∨k=1∨k=2∨k=3∨k=4:=by omega
  have fin:∀ hs':Nat→Int,(∀ i,hs' i=hs i∨hs' i=z)→CS q id L h (h3.put q ⟨11,[(⟨nm,0,0,sc,st,pr,hs' 0,hs' 1,hs' 2,hs' 3,hs' 4⟩:Part).enc]⟩) vp vc vt P Ch T j2∧∀ i,0≤hs' i∧hs' i≤2:=fun hs' hh'=>⟨a2.keep hid (Nat.le_refl _) rfl (fun i hi=>by rw [Ae,Ag (by omega)]),fun i=>by have:=hh' i;have:=hhs i;omega⟩
  have hs1:=fun k=>fin (fun i=>if i=k then z else hs i) (fun i=>by by_cases e:i=k<;>simp [e])
  clear fin a2
  simp only [Part.enc] at hs1
  rcases h15 with rfl | rfl | rfl | rfl | rfl
  ·have hs2:=hs1 0
   clear hs1
   simp (disch:=omega)only[go_sem, *]
   refine ih _ _ _ ?_ ⟨1,j2,fun i=>if i=0 then z else hs i,rfl, ?_⟩
   ·omega
   ·simp only [Nat.reduceEqDiff,reduceIte] at hs2
    simp (disch:=omega)only[go_sem, *]
    ((repeat' refine And.intro ?_ ?_)<;>first | omega | assumption | (exact hs2.1) | (exact hs2.2) | (exact fun _=>trivial) | (rfl))
  ·have hs2:=hs1 1
   clear hs1
   simp (disch:=omega)only[go_sem, *]
   refine ih _ _ _ ?_ ⟨2,j2,fun i=>if i=1 then z else hs i,rfl, ?_⟩
   ·omega
   ·simp only [Nat.reduceEqDiff,reduceIte] at hs2
    simp (disch:=omega)only[go_sem, *]
    ((repeat' refine And.intro ?_ ?_)<;>first | omega | assumption | (exact hs2.1) | (exact hs2.2) | (exact fun _=>trivial) | (rfl))
  ·have hs2:=hs1 2
   clear hs1
   simp (disch:=omega)only[go_sem, *]
   refine ih _ _ _ ?_ ⟨3,j2,fun i=>if i=2 then z else hs i,rfl, ?_⟩
   ·omega
   ·simp only [Nat.reduceEqDiff,reduceIte] at hs2
    simp (disch:=omega)only[go_sem, *]
    ((repeat' refine And.intro ?_ ?_)<;>first | omega | assumption | (exact hs2.1) | (exact hs2.2) | (exact fun _=>trivial) | (rfl))
  ·have hs2:=hs1 3
   clear hs1
   simp (disch:=omega)only[go_sem, *]
   refine ih _ _ _ ?_ ⟨4,j2,fun i=>if i=3 then z else hs i,rfl, ?_⟩
   ·omega
   ·simp only [Nat.reduceEqDiff,reduceIte] at hs2
    simp (disch:=omega)only[go_sem, *]
    ((repeat' refine And.intro ?_ ?_)<;>first | omega | assumption | (exact hs2.1) | (exact hs2.2) | (exact fun _=>trivial) | (rfl))
  ·have hs2:=hs1 4
   clear hs1
   simp (disch:=omega)only[go_sem, *]
   refine ih _ _ _ ?_ ⟨5,j2,fun i=>if i=4 then z else hs i,rfl, ?_⟩
   ·omega
   ·simp only [Nat.reduceEqDiff,reduceIte] at hs2
    simp (disch:=omega)only[go_sem, *]
    ((repeat' refine And.intro ?_ ?_)<;>first | omega | assumption | (exact hs2.1) | (exact hs2.2) | (exact fun _=>trivial) | (rfl))
 ·simp (disch:=omega)only[go_sem, *]
  exact kk _ hh j hs hhs e0 e2 e3 e4 e5 e6 a hq hb
end
end Go.Ab.T
namespace Go.Ab.T
open Go Go.Ab
set_option maxHeartbeats 4000000
@[irreducible] def EC (i:Nat):ByteArray:=⟨#[112]⟩++Utf8.encode (97+(i:Int))
theorem XI {i:Nat} (h:i<4):BE .add (.s ⟨#[112]⟩) (.s (Utf8.encode (97+(i:Int))))=some (.s (EC i)):=by
 unfold EC
 refine U9 ?_
 match i,h with
 | 0,_=>decide
 | 1,_=>decide
 | 2,_=>decide
 | 3,_=>decide
theorem RD {i:Nat} (h:i<4):D3 (EC i)=true:=by
 unfold D3 EC
 match i,h with
 | 0,_=>decide
 | 1,_=>decide
 | 2,_=>decide
 | 3,_=>decide
theorem gQ {i j:Nat} (hi:i<4) (hj:j<4) (h:i≠j):EC i≠EC j:=by
 unfold EC
 match i,j,hi,hj,h with
 | 0,0,_,_,h | 1,1,_,_,h | 2,2,_,_,h | 3,3,_,_,h=>exact absurd rfl h
 | 0,1,_,_,_ | 0,2,_,_,_ | 0,3,_,_,_ | 1,0,_,_,_ | 1,2,_,_,_ | 1,3,_,_,_ | 2,0,_,_,_ | 2,1,_,_,_ | 2,3,_,_,_ | 3,0,_,_,_ | 3,1,_,_,_ | 3,2,_,_,_=>decide
def PO (p:Part) (k:Nat):Prop:=p.name=EC k∧Dt p=true∧z0 p=p
section
variable {id:Nat} {L:List Int} {h h' h2:AH} {T:List (List Node)} {j:Nat}
theorem Sk {K : Ex → Env → AH → Prop} {e : Env} {n : Nat} (hid : id < h.next) (hlo : h.lim ≤ id) (hL : L.length < 4000000000) (hn : n ≤ 4) (a : CS h'.next id L h h' .ns .ns .ns [] [] [] j)
    (e0:e 0=.p id 0 0) (e2:e 2=.p h.next 0 0) (e3:e 3=.p (h.next+1) 0 0) (e4:e 4=.i .i64 n) (e5:e 5=.i .i64 0)
    (kk:∀ e' h' j vp P,e' 0=.p id 0 0→e' 2=.p h.next 0 0→e' 3=.p (h.next+1) 0 0→e' 4=.i .i64 n→CS h'.next id L h h' vp .ns .ns P [] [] j→P.length=n→(∀ k,k<n→PO (nth P k) k)→K (.ex 0) e' h'):ZC tp (.loop T8) e h' K:=by
 refine Ah (fun n' e hh=>∃ (i j:Nat) (vp:V) (P:List Part),n'=n - i∧e 0=.p id 0 0∧e 2=.p h.next 0 0∧e 3=.p (h.next+1) 0 0∧e 4=.i .i64 n∧e 5=.i .i64 i∧i≤n∧CS hh.next id L h hh vp .ns .ns P [] [] j∧P.length=i∧∀ k,k<i→PO (nth P k) k) ?_ _ _ _ ⟨0,j,.ns,[],rfl,e0,e2,e3,e4,e5,by omega,a,rfl,fun k hk=>by omega⟩
 clear e0 e2 e3 e4 e5 e a
 rintro n' e hh ⟨i,j,vp,P,rfl,e0,e2,e3,e4,e5,hi,a,hlen,hP⟩ ih
 have hlm:=a.lim
 have q1:=a.q1
 rw [Am T8.eq_1]
 simp (disch:=omega)only[go_sem, *]
 refine Aa (fun hc=>?_) (fun hc=>?_)
 ·have hnm:=XI (i:=i) (by omega)
  have hw32:IntKind.wrap .i32 (97+(i:Int))=97+i:=by rw [IntKind.wrap_i32];omega
  simp (disch:=omega)only[go_sem, *]
  refine AO a.tape a.jl hL (by omega) ?_
  intro v j1 v0 v1 v2 hj1
  have a1:=a.tape2 hid hj1
  have n1:(hh.put id (Ap L j1)).next=hh.next:=rfl
  rw [← n1] at a1 q1
  clear n1
  generalize hh.put id (Ap L j1)=h1 at a1 q1 ⊢
  clear a hlm
  have hlm:=a1.lim
  simp (disch:=omega)only[go_sem, *]
  refine AO a1.tape a1.jl hL (by omega) ?_
  intro w j2 w0 w1 w2 hj2
  have a2:=a1.tape2 hid hj2
  have n2:(h1.put id (Ap L j2)).next=h1.next:=rfl
  rw [← n2] at a2 q1
  clear n2
  generalize h1.put id (Ap L j2)=h2 at a2 q1 ⊢
  clear a1 hlm
  have hlm:=a2.lim
  simp (disch:=omega)only[go_sem, *]
  have x3:Aq h2 ((h2.alloc ⟨11,[[.s ⟨#[]⟩,.i .i64 0,.i .i64 0,.b false,.b false,.ns,.i .i64 0,.i .i64 0,.i .i64 0,.i .i64 0,.i .i64 0]]⟩).put h2.next ⟨11,[[.s (EC i),.i .i64 0,.i .i64 0,.b (decide (v=0)),.b (decide (w=0)),.ns,.i .i64 0,.i .i64 0,.i .i64 0,.i .i64 0,.i .i64 0]]⟩):=by (repeat (first | exact Aq.refl _ | refine Aq.alloc ?_ _ | (refine Aq.put ?_ _ _ ?_;rotate_left;(first | omega | (simp only [Af,Ai];omega)))))
  have a3:=a2.ext hid x3
  have b3:((h2.alloc ⟨11,[[.s ⟨#[]⟩,.i .i64 0,.i .i64 0,.b false,.b false,.ns,.i .i64 0,.i .i64 0,.i .i64 0,.i .i64 0,.i .i64 0]]⟩).put h2.next ⟨11,[[.s (EC i),.i .i64 0,.i .i64 0,.b (decide (v=0)),.b (decide (w=0)),.ns,.i .i64 0,.i .i64 0,.i .i64 0,.i .i64 0,.i .i64 0]]⟩).get h2.next=some ⟨11,[[.s (EC i),.i .i64 0,.i .i64 0,.b (decide (v=0)),.b (decide (w=0)),.ns,.i .i64 0,.i .i64 0,.i .i64 0,.i .i64 0,.i .i64 0]]⟩:=by rw [Ae,Ax rfl]
  have n3:h2.next<((h2.alloc ⟨11,[[.s ⟨#[]⟩,.i .i64 0,.i .i64 0,.b false,.b false,.ns,.i .i64 0,.i .i64 0,.i .i64 0,.i .i64 0,.i .i64 0]]⟩).put h2.next ⟨11,[[.s (EC i),.i .i64 0,.i .i64 0,.b (decide (v=0)),.b (decide (w=0)),.ns,.i .i64 0,.i .i64 0,.i .i64 0,.i .i64 0,.i .i64 0]]⟩).next:=Nat.lt_succ_self _
  generalize (h2.alloc ⟨11,[[.s ⟨#[]⟩,.i .i64 0,.i .i64 0,.b false,.b false,.ns,.i .i64 0,.i .i64 0,.i .i64 0,.i .i64 0,.i .i64 0]]⟩).put h2.next ⟨11,[[.s (EC i),.i .i64 0,.i .i64 0,.b (decide (v=0)),.b (decide (w=0)),.ns,.i .i64 0,.i .i64 0,.i .i64 0,.i .i64 0,.i .i64 0]]⟩=h3 at a3 b3 n3 ⊢
  clear x3 a2 hlm
  have hlm:=a3.lim
  refine AO a3.tape a3.jl hL (by omega) ?_
  intro k j4 k0 k1 k2 hj4
  have a4:=a3.tape2 hid hj4
  have b4:(h3.put id (Ap L j4)).get h2.next=some ⟨11,[[.s (EC i),.i .i64 0,.i .i64 0,.b (decide (v=0)),.b (decide (w=0)),.ns,.i .i64 0,.i .i64 0,.i .i64 0,.i .i64 0,.i .i64 0]]⟩:=by rw [Ae,Ag (by omega)];exact b3
  have n4:h2.next<(h3.put id (Ap L j4)).next:=n3
  generalize h3.put id (Ap L j4)=h4 at a4 b4 n4 ⊢
  clear a3 b3 n3 hlm
  simp (disch:=omega)only[go_sem, *]
  refine Sm (k:=k) (n:=n) (i:=i) hid hlo hL k0 (by omega) a4 n4 b4 (by simp (disch:=omega)only[go_sem, *]) (by simp (disch:=omega)only[go_sem, *]) (by simp (disch:=omega)only[go_sem, *]) (by simp (disch:=omega)only[go_sem, *]) (by simp (disch:=omega)only[go_sem, *]) (by simp (disch:=omega)only[go_sem, *]) (by simp (disch:=omega)only[go_sem, *]) ?_
  clear a4 n4 b4 e0 e2 e3 e4 e5 e
  intro e h5 j5 vr pr e0 e2 e3 e4 e5 e6 a5 n5 b5 s5 hpr hpl
  simp (disch:=omega)only[go_sem, *]
  refine Pa (n:=n) (i:=i) hid hlo hL a5 n5 b5 s5 hpr hpl (by simp (disch:=omega)only[go_sem, *]) (by simp (disch:=omega)only[go_sem, *]) (by simp (disch:=omega)only[go_sem, *]) (by simp (disch:=omega)only[go_sem, *]) (by simp (disch:=omega)only[go_sem, *]) (by simp (disch:=omega)only[go_sem, *]) (by simp (disch:=omega)only[go_sem, *]) ?_
  clear a5 n5 b5 s5 e0 e2 e3 e4 e5 e6 e h5 j5 vr
  intro e h5 j5 hs hhs e0 e2 e3 e4 e5 e6 a5 n5 b5
  have hbox:=a5.box
  have hlm:=a5.lim
  have b6:=b5
  simp only [Part.enc] at b6
  have hpo:PO ⟨EC i,0,0,decide (v=0),decide (w=0),pr,hs 0,hs 1,hs 2,hs 3,hs 4⟩ i:=by
   refine ⟨rfl, ?_,rfl⟩
   unfold Dt
   have t0:=hhs 0;have t1:=hhs 1;have t2:=hhs 2;have t3:=hhs 3;have t4:=hhs 4
   have e1:EW ⟨EC i,0,0,decide (v=0),decide (w=0),pr,hs 0,hs 1,hs 2,hs 3,hs 4⟩=true:=by unfold EW;rw [decide_eq_true_eq];exact ⟨t0.1,t0.2,t1.1,t1.2,t2.1,t2.2,t3.1,t3.2,t4.1,t4.2⟩
   rw [e1];simp only [hpr];rfl
  simp (disch:=omega)only[go_sem, *]
  refine AA (N:=[(⟨EC i,0,0,decide (v=0),decide (w=0),pr,hs 0,hs 1,hs 2,hs 3,hs 4⟩:Part).enc]) (a5.sp.alloc _) (by simp (disch:=omega)only[go_sem, *]<;>omega) (by simp (disch:=omega)only[go_sem, *]<;>omega) (by simp;omega) ?_
  intro vp' h6 s6 g6
  have x6:Aq h5 (h5.alloc ⟨11,[(⟨EC i,0,0,decide (v=0),decide (w=0),pr,hs 0,hs 1,hs 2,hs 3,hs 4⟩:Part).enc]⟩):=(Aq.refl _).alloc _
  have a6:=a5.grow_p (x:=⟨EC i,0,0,decide (v=0),decide (w=0),pr,hs 0,hs 1,hs 2,hs 3,hs 4⟩) hid x6 s6 g6
  have hb6:h6.get (h.next+1)=some ⟨3,[[vp,.ns,.ns]]⟩:=by
   rw [Cy g6 (AD a5.sp) (by rw [Af];omega) _ (by omega),AV,Ag (by omega)];exact hbox
  have l6:=g6.lim
  have hc6:=g6.cell
  have hcs6:=g6.cells
  clear s6 g6 x6
  simp only [A9] at l6
  simp (disch:=omega)only[go_sem, *]
  refine ih _ _ _ ?_ ⟨i+1,j5,vp',P++[⟨EC i,0,0,decide (v=0),decide (w=0),pr,hs 0,hs 1,hs 2,hs 3,hs 4⟩],rfl, ?_⟩
  ·omega
  ·simp (disch:=omega)only[go_sem, *]
   refine ⟨by omega,by rw [List.length_append,hlen];rfl,fun k hk=>?_⟩
   rw [GO]
   split
   ·exact hP k (by omega)
   ·obtain rfl:k=i:=by omega
    rw [show k - P.length=0 by omega,Dd]
    exact hpo
 ·simp (disch:=omega)only[go_sem, *]
  obtain rfl:i=n:=by omega
  exact kk _ hh j vp P e0 e2 e3 e4 a hlen hP
end
end Go.Ab.T
namespace Go.Ab.T
open Go Go.Ab
set_option maxHeartbeats 4000000
theorem aRL {v:Int} (h0:0≤v) (h5:v<3):∃ z:Int,[[V.i .u32 4294967295],[.i .u32 200],[.i .u32 3]][v.toNat]?=some [.i .u32 z]∧0≤z∧z≤4294967295:=by
 have:v=0∨v=1∨v=2:=by omega
 rcases this with rfl | rfl | rfl
 ·exact ⟨4294967295,rfl,by omega,by omega⟩
 ·exact ⟨200,rfl,by omega,by omega⟩
 ·exact ⟨3,rfl,by omega,by omega⟩
theorem aP1 {f r n:Int} (h0:0≤f) (h1:f<n) (h2:0≤r) (h3:r<n - 1∨r=0) (hn:1<n):0≤(f+1+r).tmod n∧(f+1+r).tmod n<n∧f≠(f+1+r).tmod n:=by
 rw [Int.tmod_eq_emod_of_nonneg (by omega)]
 by_cases h:f+1+r<n
 ·rw [Int.emod_eq_of_lt (by omega) h];omega
 ·have e:(f+1+r) % n=(f+1+r - n) % n:=by rw [Int.sub_emod_right]
  rw [e,Int.emod_eq_of_lt (by omega) (by omega)];omega
section
variable {id:Nat} {L:List Int} {h h' h2:AH} {P:List Part} {j:Nat}
theorem Sj {K : Ex → Env → AH → Prop} {e : Env} {n k : Int} {vp : V} (hid : id < h.next) (hlo : h.lim ≤ id) (hL : L.length < 4000000000) (hn : n ≤ 4) (hk : k ≤ 3) (hk0 : 0 ≤ k) (a : CS h'.next id L h h' vp .ns .ns P [] [] j)
    (e0:e 0=.p id 0 0) (e2:e 2=.p h.next 0 0) (e3:e 3=.p (h.next+1) 0 0) (e4:e 4=.i .i64 n) (e9:e 9=.i .i64 k)
    (kk:∀ e' h' j vc Ch,e' 0=.p id 0 0→e' 2=.p h.next 0 0→e' 3=.p (h.next+1) 0 0→e' 4=.i .i64 n→CS h'.next id L h h' vp vc .ns P Ch [] j→Ch.length≤3→(∀ x∈Ch,CG n x=true∧x.late=0∧HJ x)→K (.ex 6) e' h'):ZC tp (.loop T9) e h' K:=by
 refine Ah (fun n' e hh=>∃ (k:Int) (j:Nat) (vc:V) (Ch:List A1),n'=k.toNat∧e 0=.p id 0 0∧e 2=.p h.next 0 0∧e 3=.p (h.next+1) 0 0∧e 4=.i .i64 n∧e 9=.i .i64 k∧CS hh.next id L h hh vp vc .ns P Ch [] j∧Ch.length+k≤3∧0≤k∧∀ x∈Ch,CG n x=true∧x.late=0∧HJ x) ?_ _ _ _ ⟨k,j,.ns,[],rfl,e0,e2,e3,e4,e9,a,by simp;omega,hk0,(fun x hx=>by cases hx)⟩
 clear e0 e2 e3 e4 e9 e a hk hk0
 rintro n' e hh ⟨k,j,vc,Ch,rfl,e0,e2,e3,e4,e9,a,hk,hk0,hC⟩ ih
 have hlm:=a.lim
 have q1:=a.q1
 rw [Am T9.eq_1]
 simp (disch:=omega)only[go_sem, *]
 refine Av (fun hc=>?_) (fun hc=>?_)
 rotate_left
 ·simp (disch:=omega)only[go_sem, *]
  exact kk _ hh j vc Ch e0 e2 e3 e4 a (by omega) hC
 simp (disch:=omega)only[go_sem, *]
 refine Aa (fun hc2=>?_) (fun hc2=>?_)
 rotate_left
 ·simp (disch:=omega)only[go_sem, *]
  exact kk _ hh j vc Ch e0 e2 e3 e4 a (by omega) hC
 simp (disch:=omega)only[go_sem, *]
 refine AO a.tape a.jl hL (by omega) ?_
 intro f j1 f0 f1 f2 hj1
 have a1:=a.tape2 hid hj1
 have n1:(hh.put id (Ap L j1)).next=hh.next:=rfl
 rw [← n1] at a1 q1
 clear n1
 generalize hh.put id (Ap L j1)=h1 at a1 q1 ⊢
 clear a hlm
 have hlm:=a1.lim
 simp (disch:=omega)only[go_sem, *]
 have x2:Aq h1 ((h1.alloc ⟨1,[[V.i .u32 4294967295],[.i .u32 200],[.i .u32 3]]⟩).alloc ⟨6,[[.i .i64 0,.i .i64 0,.b false,.i .i64 0,.i .u32 0,.i .i64 0]]⟩):=((Aq.refl _).alloc _).alloc _
 have a2:=a1.ext hid x2
 have g2:((h1.alloc ⟨1,[[V.i .u32 4294967295],[.i .u32 200],[.i .u32 3]]⟩).alloc ⟨6,[[.i .i64 0,.i .i64 0,.b false,.i .i64 0,.i .u32 0,.i .i64 0]]⟩).get h1.next=some ⟨1,[[V.i .u32 4294967295],[.i .u32 200],[.i .u32 3]]⟩:=by rw [AV,Ag (by rw [Af];omega),AV,Ax rfl]
 have m2:((h1.alloc ⟨1,[[V.i .u32 4294967295],[.i .u32 200],[.i .u32 3]]⟩).alloc ⟨6,[[.i .i64 0,.i .i64 0,.b false,.i .i64 0,.i .u32 0,.i .i64 0]]⟩).get (h1.next+1)=some ⟨6,[[.i .i64 0,.i .i64 0,.b false,.i .i64 0,.i .u32 0,.i .i64 0]]⟩:=by rw [AV,Af,Ax rfl]
 have n2:h1.next+2≤((h1.alloc ⟨1,[[V.i .u32 4294967295],[.i .u32 200],[.i .u32 3]]⟩).alloc ⟨6,[[.i .i64 0,.i .i64 0,.b false,.i .i64 0,.i .u32 0,.i .i64 0]]⟩).next:=Nat.le_refl _
 generalize ((h1.alloc ⟨1,[[V.i .u32 4294967295],[.i .u32 200],[.i .u32 3]]⟩).alloc ⟨6,[[.i .i64 0,.i .i64 0,.b false,.i .i64 0,.i .u32 0,.i .i64 0]]⟩)=h2 at a2 g2 m2 n2 ⊢
 clear x2 a1 hlm
 have hlm:=a2.lim
 refine AO a2.tape a2.jl hL (by omega) ?_
 intro r j2 r0 r1 r2 hj2
 have a3:=a2.tape2 hid hj2
 have g3:(h2.put id (Ap L j2)).get h1.next=some ⟨1,[[V.i .u32 4294967295],[.i .u32 200],[.i .u32 3]]⟩:=by rw [Ae,Ag (by omega)];exact g2
 have m3:(h2.put id (Ap L j2)).get (h1.next+1)=some ⟨6,[[.i .i64 0,.i .i64 0,.b false,.i .i64 0,.i .u32 0,.i .i64 0]]⟩:=by rw [Ae,Ag (by omega)];exact m2
 have n3:h1.next+2≤(h2.put id (Ap L j2)).next:=n2
 generalize h2.put id (Ap L j2)=h3 at a3 g3 m3 n3 ⊢
 clear a2 g2 m2 n2 hlm
 have hlm:=a3.lim
 obtain ⟨d0,d1,d2⟩:=aP1 f0 (show f<n by omega) r0 r2 hc2
 generalize hd:(f+1+r).tmod n=d at d0 d1 d2
 simp (disch:=omega)only[go_sem, *]
 refine AO a3.tape a3.jl hL (by omega) ?_
 intro b j3 b0 b1 b2 hj3
 have a4:=a3.tape2 hid hj3
 have g4:(h3.put id (Ap L j3)).get h1.next=some ⟨1,[[V.i .u32 4294967295],[.i .u32 200],[.i .u32 3]]⟩:=by rw [Ae,Ag (by omega)];exact g3
 have m4:(h3.put id (Ap L j3)).get (h1.next+1)=some ⟨6,[[.i .i64 0,.i .i64 0,.b false,.i .i64 0,.i .u32 0,.i .i64 0]]⟩:=by rw [Ae,Ag (by omega)];exact m3
 have n4:h1.next+2≤(h3.put id (Ap L j3)).next:=n3
 generalize h3.put id (Ap L j3)=h4 at a4 g4 m4 n4 ⊢
 clear a3 g3 m3 n3 hlm
 have hlm:=a4.lim
 simp (disch:=omega)only[go_sem, *]
 refine AO a4.tape a4.jl hL (by omega) ?_
 intro u j4 u0 u1 u2 hj4
 have a5:=a4.tape2 hid hj4
 have g5:(h4.put id (Ap L j4)).get h1.next=some ⟨1,[[V.i .u32 4294967295],[.i .u32 200],[.i .u32 3]]⟩:=by rw [Ae,Ag (by omega)];exact g4
 have m5:(h4.put id (Ap L j4)).get (h1.next+1)=some ⟨6,[[.i .i64 0,.i .i64 0,.b false,.i .i64 0,.i .u32 0,.i .i64 0]]⟩:=by rw [Ae,Ag (by omega)];exact m4
 have n5:h1.next+2≤(h4.put id (Ap L j4)).next:=n4
 generalize h4.put id (Ap L j4)=h5 at a5 g5 m5 n5 ⊢
 clear a4 g4 m4 n4 hlm
 have hlm:=a5.lim
 obtain ⟨z,hz,hzt⟩:=aRL u0 (by omega)
 simp (disch:=omega)only[go_sem, *]
 have a6:CS h1.next id L h (h5.put (h1.next+1) ⟨6,[[.i .i64 f,.i .i64 d,.b (decide (b=0)),.i .i64 0,.i .u32 z,.i .i64 0]]⟩) vp vc .ns P Ch [] j4:=a5.keep hid (Nat.le_refl _) rfl (fun i hi=>by rw [Ae,Ag (by omega)])
 have m6:(h5.put (h1.next+1) ⟨6,[[.i .i64 f,.i .i64 d,.b (decide (b=0)),.i .i64 0,.i .u32 z,.i .i64 0]]⟩).get (h1.next+1)=some ⟨6,[[.i .i64 f,.i .i64 d,.b (decide (b=0)),.i .i64 0,.i .u32 z,.i .i64 0]]⟩:=by rw [Ae,Ax rfl]
 have n6:h1.next+2≤(h5.put (h1.next+1) ⟨6,[[.i .i64 f,.i .i64 d,.b (decide (b=0)),.i .i64 0,.i .u32 z,.i .i64 0]]⟩).next:=n5
 generalize h5.put (h1.next+1) ⟨6,[[.i .i64 f,.i .i64 d,.b (decide (b=0)),.i .i64 0,.i .u32 z,.i .i64 0]]⟩=h6 at a6 m6 n6 ⊢
 clear a5 g5 m5 n5 hlm hz
 have hlm:=a6.lim
 refine Aa (fun hb=>?_) (fun hb=>?_)
 ·have hbt:decide (b=0)=true:=decide_eq_true hb
  rw [hbt] at m6
  clear hbt
  simp (disch:=omega)only[go_sem, *]
  refine AO a6.tape a6.jl hL (by omega) ?_
  intro c j5 c0 c1 c2 hj5
  have a7:=a6.tape2 hid hj5
  have m7:(h6.put id (Ap L j5)).get (h1.next+1)=some ⟨6,[[.i .i64 f,.i .i64 d,.b true,.i .i64 0,.i .u32 z,.i .i64 0]]⟩:=by rw [Ae,Ag (by omega)];exact m6
  have n7:h1.next+2≤(h6.put id (Ap L j5)).next:=n6
  generalize h6.put id (Ap L j5)=h7 at a7 m7 n7 ⊢
  clear a6 m6 n6 hlm
  have hlm:=a7.lim
  have a8:CS h1.next id L h (h7.put (h1.next+1) ⟨6,[(⟨f,d,true,1+c,z,0⟩:A1).enc]⟩) vp vc .ns P Ch [] j5:=a7.keep hid (Nat.le_refl _) rfl (fun i hi=>by rw [Ae,Ag (by omega)])
  have m8:(h7.put (h1.next+1) ⟨6,[(⟨f,d,true,1+c,z,0⟩:A1).enc]⟩).get (h1.next+1)=some ⟨6,[(⟨f,d,true,1+c,z,0⟩:A1).enc]⟩:=by rw [Ae,Ax rfl]
  have n8:h1.next+2≤(h7.put (h1.next+1) ⟨6,[(⟨f,d,true,1+c,z,0⟩:A1).enc]⟩).next:=n7
  have hx:CG n ⟨f,d,true,1+c,z,0⟩=true:=by
   unfold CG
   simp only [Bool.and_eq_true,decide_eq_true_eq,reduceIte]
   omega
  have hbox:=a7.box
  have nn:=a7.q2
  simp (disch:=omega)only[go_sem, *]
  refine AA (N:=[(⟨f,d,true,(1+c),z,0⟩:A1).enc]) (a8.sc.alloc _) (by first | omega | (simp (disch:=omega)only[go_sem, *]<;>omega)) (by first | omega | (simp (disch:=omega)only[go_sem, *]<;>omega)) (by simp;omega) ?_
  intro vc' h9 s9 g9
  have x9:=(Aq.refl (h7.put (h1.next+1) ⟨6,[(⟨f,d,true,1+c,z,0⟩:A1).enc]⟩)).alloc ⟨6,[(⟨f,d,true,(1+c),z,0⟩:A1).enc]⟩
  have a9:=a8.grow_c (x:=⟨f,d,true,(1+c),z,0⟩) hid x9 s9 g9
  have hb9:h9.get (h.next+1)=some ⟨3,[[vp,vc,.ns]]⟩:=by
   rw [Cy g9 (AD a8.sc) (by first | omega | (simp (disch:=omega)only[go_sem, *]<;>omega)) _ (by omega),AV,Ag (by first | omega | (simp (disch:=omega)only[go_sem, *]<;>omega))];exact a8.box
  have l9:=g9.lim
  have hc9:=g9.cell
  have hcs9:=g9.cells
  clear s9 g9 x9 hbox
  simp only [A9,Eb] at l9
  simp (disch:=omega)only[go_sem, *]
  refine ih _ _ _ ?_ ⟨k - 1,j5,vc',Ch++[⟨f,d,true,(1+c),z,0⟩],rfl, ?_⟩
  ·omega
  ·have hCC:∀ x∈Ch++[(⟨f,d,true,(1+c),z,0⟩:A1)],CG n x=true∧x.late=0∧HJ x:=fun x hx2=>by
    rcases List.mem_append.1 hx2 with h1 | h1
    ·exact hC x h1
    ·rw [List.mem_singleton] at h1;subst h1;exact ⟨hx,rfl,hzt⟩
   have hLL:((Ch++[(⟨f,d,true,(1+c),z,0⟩:A1)]).length:Int)+(k - 1)≤3:=by rw [List.length_append];simp only [List.length_cons,List.length_nil];omega
   clear ih kk
   simp (disch:=omega)only[go_sem, *]
   ((repeat' refine And.intro ?_ ?_)<;>first | omega | assumption | (exact a9) | (exact hCC) | (exact hLL))
 ·have hbf:decide (b=0)=false:=decide_eq_false hb
  rw [hbf] at m6
  clear hbf
  have hx:CG n ⟨f,d,false,0,z,0⟩=true:=by
   unfold CG
   simp
   omega
  have hbox:=a6.box
  have nn:=a6.q2
  simp (disch:=omega)only[go_sem, *]
  refine AA (N:=[(⟨f,d,false,0,z,0⟩:A1).enc]) (a6.sc.alloc _) (by first | omega | (simp (disch:=omega)only[go_sem, *]<;>omega)) (by first | omega | (simp (disch:=omega)only[go_sem, *]<;>omega)) (by simp;omega) ?_
  intro vc' h9 s9 g9
  have x9:=(Aq.refl (h6)).alloc ⟨6,[(⟨f,d,false,0,z,0⟩:A1).enc]⟩
  have a9:=a6.grow_c (x:=⟨f,d,false,0,z,0⟩) hid x9 s9 g9
  have hb9:h9.get (h.next+1)=some ⟨3,[[vp,vc,.ns]]⟩:=by
   rw [Cy g9 (AD a6.sc) (by first | omega | (simp (disch:=omega)only[go_sem, *]<;>omega)) _ (by omega),AV,Ag (by first | omega | (simp (disch:=omega)only[go_sem, *]<;>omega))];exact a6.box
  have l9:=g9.lim
  have hc9:=g9.cell
  have hcs9:=g9.cells
  clear s9 g9 x9 hbox
  simp only [A9,Eb] at l9
  simp (disch:=omega)only[go_sem, *]
  refine ih _ _ _ ?_ ⟨k - 1,j4,vc',Ch++[⟨f,d,false,0,z,0⟩],rfl, ?_⟩
  ·omega
  ·have hCC:∀ x∈Ch++[(⟨f,d,false,0,z,0⟩:A1)],CG n x=true∧x.late=0∧HJ x:=fun x hx2=>by
    rcases List.mem_append.1 hx2 with h1 | h1
    ·exact hC x h1
    ·rw [List.mem_singleton] at h1;subst h1;exact ⟨hx,rfl,hzt⟩
   have hLL:((Ch++[(⟨f,d,false,0,z,0⟩:A1)]).length:Int)+(k - 1)≤3:=by rw [List.length_append];simp only [List.length_cons,List.length_nil];omega
   clear ih kk
   simp (disch:=omega)only[go_sem, *]
   ((repeat' refine And.intro ?_ ?_)<;>first | omega | assumption | (exact a9) | (exact hCC) | (exact hLL))
end
end Go.Ab.T
namespace Go.Ab.T
open Go Go.Ab
set_option maxHeartbeats 4000000
theorem Sl.weak {b b' sz:Nat} {h:AH} {v:V} {R:List (List V)} (s:Sl b h sz v R) (hb:b'≤b):Sl b' h sz v R:=by
 rcases s with hs | ⟨i,el,cap,cs,rfl,hg,a1,a2,a3,a4,a5,a6⟩
 ·exact .inl hs
 ·exact .inr ⟨i,el,cap,cs,rfl,hg,a1,a2,a3,a4,by omega,a6⟩
theorem Sl.frzs {b sz:Nat} {h:AH} {v:V} {R:List (List V)} {P:Nat→Prop} (s:Sl b h sz v R):CY P h h.next v v:=by
 rcases s with ⟨hv,_⟩ | ⟨i,el,cap,cs,rfl,hg,a1,a2,a3,a4,a5,a6⟩
 ·rcases hv with rfl | rfl
  ·exact .z _ _ .ns
  ·exact .z _ _ .e0
 ·exact .so _ _ _ _ _ a4
theorem RJ {b sz i:Nat} {h:AH} {v:V} {R:List (List V)} (s:Sl b h sz v R) (d:AF v=true∨Ar v≠i):Sl b (h.kill i) sz v R:=by
 rcases d with d | d
 ·rcases s with hs | ⟨_,_,_,_,rfl,_⟩
  ·exact .inl hs
  ·cases d
 ·exact s.same (Nat.le_refl _) (fun _=>by rw [B4,Ag d])
structure Made (C:An):Prop where
 wh:Bb C=(0,-1)
 nm:Hc C
 ch:C.chans.length≤3
 tb:C.tables.length≤2
 pt:C.parts.length≤4
 tops:∀ x∈C.chans,HJ x
section
variable {id:Nat} {L:List Int} {h h' h2:AH} {P:List Part} {Ch:List A1} {j:Nat}
theorem Vo {K : Ex → Env → AH → Prop} {e : Env} {n k : Int} {vp vc : V} (hid : id < h.next) (hlo : h.lim ≤ id) (hL : L.length < 4000000000) (hn1 : 1 ≤ n) (hn : n ≤ 4) (hk : k ≤ 1) (hk0 : 0 ≤ k) (a : CS h'.next id L h h' vp vc .ns P Ch [] j)
    (e0:e 0=.p id 0 0) (e2:e 2=.p h.next 0 0) (e3:e 3=.p (h.next+1) 0 0) (e4:e 4=.i .i64 n) (e12:e 12=.i .i64 k)
    (kk:∀ e' h' j vt T,e' 0=.p id 0 0→e' 2=.p h.next 0 0→e' 3=.p (h.next+1) 0 0→CS h'.next id L h h' vp vc vt P Ch T j→1≤T.length→T.length≤2→(∀ x∈T,C0 n x)→K (.ex 8) e' h'):ZC tp (.loop Ua) e h' K:=by
 refine Ah (fun n' e hh=>∃ (q:Int) (j:Nat) (vt:V) (T:List (List Node)),n'=(q+1).toNat∧e 0=.p id 0 0∧e 2=.p h.next 0 0∧e 3=.p (h.next+1) 0 0∧e 4=.i .i64 n∧e 12=.i .i64 q∧CS hh.next id L h hh vp vc vt P Ch T j∧T.length+q=k∧-1≤q∧∀ x∈T,C0 n x) ?_ _ _ _ ⟨k,j,.ns,[],rfl,e0,e2,e3,e4,e12,a,by simp,by omega,(fun x hx=>by cases hx)⟩
 clear e0 e2 e3 e4 e12 e a
 rintro n' e hh ⟨q,j,vt,T,rfl,e0,e2,e3,e4,e12,a,hq,hq0,hT⟩ ih
 have hlm:=a.lim
 have q1:=a.q1
 have hbox:=a.box
 have hsv:=Sl.sameV a.st
 obtain ⟨_,_,_,_,_,_,_,tcell,tcells⟩:=a.st.facts
 rw [Am Ua.eq_1]
 simp (disch:=omega)only[go_sem, *]
 refine Aa (fun hc=>?_) (fun hc=>?_)
 ·simp (disch:=omega)only[go_sem, *]
  refine V0 hn1 (by omega) hL a.tape a.jl (by omega) ?_
  intro x j1 hx hxl hj1
  have a1:=a.tape2 hid hj1
  have n1:(hh.put id (Ap L j1)).next=hh.next:=rfl
  rw [← n1] at a1 q1
  clear n1
  generalize hh.put id (Ap L j1)=h1 at a1 q1 ⊢
  clear a hlm hbox
  have hlm:=a1.lim
  have hbox:=a1.box
  simp (disch:=omega)only[go_sem, *]
  refine AA (N:=[Tab.enc x]) (a1.st.alloc _) (by first | omega | (simp (disch:=omega)only[go_sem, *]<;>omega)) (by first | omega | (simp (disch:=omega)only[go_sem, *]<;>omega)) (by simp;omega) ?_
  intro vt' h9 s9 g9
  have x9:=(Aq.refl h1).alloc ⟨1,[Tab.enc x]⟩
  have a9:=a1.grow_t (x:=x) hid x9 s9 g9
  have hb9:h9.get (h.next+1)=some ⟨3,[[vp,vc,vt]]⟩:=by
   rw [Cy g9 (AD a1.st) (by first | omega | (simp (disch:=omega)only[go_sem, *]<;>omega)) _ (by omega),AV,Ag (by first | omega | (simp (disch:=omega)only[go_sem, *]<;>omega))];exact a1.box
  have l9:=g9.lim
  have hc9:=g9.cell
  have hcs9:=g9.cells
  clear s9 g9 x9 hbox
  simp only [A9,Eb] at l9
  simp (disch:=omega)only[go_sem, *]
  refine ih _ _ _ ?_ ⟨q - 1,j1,vt',T++[x],rfl, ?_⟩
  ·omega
  ·have hTT:∀ y∈T++[x],C0 n y:=fun y hy=>by
    rcases List.mem_append.1 hy with h1 | h1
    ·exact hT y h1
    ·rw [List.mem_singleton] at h1;subst h1;exact hx
   have hLL:((T++[x]).length:Int)+(q - 1)=k:=by rw [List.length_append];simp only [List.length_cons,List.length_nil];omega
   clear ih kk
   simp (disch:=omega)only[go_sem, *]
   ((repeat' refine And.intro ?_ ?_)<;>first | omega | assumption | (exact a9) | (exact hTT) | (exact hLL))
 ·simp (disch:=omega)only[go_sem, *]
  exact kk _ hh j vt T e0 e2 e3 a (by omega) (by omega) hT
end
theorem Ss {h : AH} {id k : Nat} {L : List Int} {K : V → AH → Prop} (hg : h.get id = some (Ap L k)) (hk : k ≤ L.length) (hL : L.length < 4000000000) (hlo : h.lim ≤ id)
    (kk:∀ C j,j≤L.length→Made C→K (.agg C.enc) (h.put id (Ap L j))):Cq tp fS [.p id 0 0] h K:=by
 refine Gv aPL (by simp [YA]) hg fun hlm hid rp=>?_
 unfold YA
 simp (disch:=omega)only[go_sem, *]
 have x0:Aq h ((h.alloc ⟨3,[[.ns,.ns,.ns]]⟩).alloc ⟨3,[[.ns,.ns,.ns]]⟩):=by (repeat (first | exact Aq.refl _ | refine Aq.alloc ?_ _ | (refine Aq.put ?_ _ _ ?_;rotate_left;(first | omega | (simp only [Af,Ai];omega)))))
 have a0:CS ((h.alloc ⟨3,[[.ns,.ns,.ns]]⟩).alloc ⟨3,[[.ns,.ns,.ns]]⟩).next id L h ((h.alloc ⟨3,[[.ns,.ns,.ns]]⟩).alloc ⟨3,[[.ns,.ns,.ns]]⟩) .ns .ns .ns [] [] [] k:=⟨Nat.le_refl _,Nat.le_refl _,rfl,(x0.get _ (by omega)).trans hg,hk,by simp (disch:=omega)only[go_sem, *],by simp (disch:=omega)only[go_sem, *],fun i hi _=>x0.get i hi,Sl.nil _ _ _,Sl.nil _ _ _,Sl.nil _ _ _,.inl rfl,.inl rfl,.inl rfl,.inl rfl,.inl rfl,.inl rfl⟩
 have n0:((h.alloc ⟨3,[[.ns,.ns,.ns]]⟩).alloc ⟨3,[[.ns,.ns,.ns]]⟩).next=h.next+2:=rfl
 generalize (h.alloc ⟨3,[[.ns,.ns,.ns]]⟩).alloc ⟨3,[[.ns,.ns,.ns]]⟩=h1 at a0 n0 ⊢
 clear x0 n0
 refine AO a0.tape a0.jl hL (by have:=a0.lim;omega) ?_
 intro v j1 v0 v1 v2 hj1
 have a1:=a0.tape2 hid hj1
 have n1:(h1.put id (Ap L j1)).next=h1.next:=rfl
 rw [← n1] at a1
 clear n1
 generalize h1.put id (Ap L j1)=h2 at a1 ⊢
 clear a0
 obtain ⟨m,hm⟩:∃ m:Nat,1+v=m:=⟨(1+v).toNat,by omega⟩
 simp (disch:=omega)only[go_sem, *]
 refine Sk (n:=m) hid hlo hL (by omega) a1 (by simp (disch:=omega)only[go_sem, *]) (by simp (disch:=omega)only[go_sem, *]) (by simp (disch:=omega)only[go_sem, *]) (by simp (disch:=omega)only[go_sem, *]) (by simp (disch:=omega)only[go_sem, *]) ?_
 clear a1
 intro e h3 j3 vp P e0 e2 e3 e4 a3 hPl hP
 have hlm3:=a3.lim
 simp (disch:=omega)only[go_sem, *]
 refine AO a3.tape a3.jl hL (by omega) ?_
 intro c j4 c0 c1 c2 hj4
 have a4:=a3.tape2 hid hj4
 have n4:(h3.put id (Ap L j4)).next=h3.next:=rfl
 rw [← n4] at a4
 clear n4
 generalize h3.put id (Ap L j4)=h4 at a4 ⊢
 clear a3 hlm3
 simp (disch:=omega)only[go_sem, *]
 refine Sj (k:=c) (n:=m) hid hlo hL (by omega) (by omega) c0 a4 (by simp (disch:=omega)only[go_sem, *]) (by simp (disch:=omega)only[go_sem, *]) (by simp (disch:=omega)only[go_sem, *]) (by simp (disch:=omega)only[go_sem, *]) (by simp (disch:=omega)only[go_sem, *]) ?_
 clear a4 e0 e2 e3 e4 e
 intro e h5 j5 vc Ch e0 e2 e3 e4 a5 hCl hC
 have hlm5:=a5.lim
 simp (disch:=omega)only[go_sem, *]
 refine AO a5.tape a5.jl hL (by omega) ?_
 intro t j6 t0 t1 t2 hj6
 have a6:=a5.tape2 hid hj6
 have n6:(h5.put id (Ap L j6)).next=h5.next:=rfl
 rw [← n6] at a6
 clear n6
 generalize h5.put id (Ap L j6)=h6 at a6 ⊢
 clear a5 hlm5
 simp (disch:=omega)only[go_sem, *]
 refine Vo (k:=t) (n:=m) hid hlo hL (by omega) (by omega) (by omega) t0 a6 (by simp (disch:=omega)only[go_sem, *]) (by simp (disch:=omega)only[go_sem, *]) (by simp (disch:=omega)only[go_sem, *]) (by simp (disch:=omega)only[go_sem, *]) (by simp (disch:=omega)only[go_sem, *]) ?_
 clear a6 e0 e2 e3 e4 e
 intro e h7 j7 vt T e0 e2 e3 a hT1 hT2 hT
 have hbox:=a.box
 have q1:=a.q1
 obtain ⟨_,_,_,_,_,_,_,pcell,pcells⟩:=a.sp.facts
 obtain ⟨_,_,_,_,_,_,_,ccell,ccells⟩:=a.sc.facts
 obtain ⟨_,_,tlt,tlo,_,_,_,tcell,tcells⟩:=a.st.facts
 have tlt:=tlt (by omega)
 have tlo:=tlo (by omega)
 have hbare:Zy P Ch T:=by
  refine ⟨?_,by omega,by omega,by omega,hT1,by omega,fun i hi=>?_,fun x hx=>by rw [hPl];exact hC x hx,fun x hx=>by rw [hPl];exact hT x hx,fun p hp=>?_⟩
  ·apply List.ext_getElem
   ·simp
   ·intro i h1 h2
    have:=(hP i (by omega)).2.2
    rw [Bz h2] at this
    simpa using this
  ·have hi4:=hP i (by omega)
   refine ⟨by rw [hi4.1];exact RD (by omega), ?_,hi4.2.1⟩
   refine HL (fun q hq=>?_) (by omega)
   rw [decide_eq_false_iff_not,hi4.1,(hP q (by omega)).1]
   exact gQ (by omega) (by omega) (by omega)
  ·obtain ⟨i,hi,rfl⟩:=List.mem_iff_getElem.1 hp
   have hi4:=(hP i (by omega)).1
   have hok:=RD (i:=i) (by omega)
   rw [Bz hi] at hi4
   rw [hi4]
   unfold D3 at hok
   simp only [decide_eq_true_eq] at hok
   omega
 have hnt:AF vt=false:=by
  rcases a.st with ⟨_,hR⟩ | ⟨_,_,_,_,rfl,_⟩
  ·have:T=[]:=by simpa using hR
   subst this;simp at hT1
  ·rfl
 have dpt:AF vp=true∨Ar vp≠Ar vt:=by rcases a.pt with d | d | d;exact .inl d;(rw [hnt] at d;cases d);exact .inr d
 have dct:AF vc=true∨Ar vc≠Ar vt:=by rcases a.ct with d | d | d;exact .inl d;(rw [hnt] at d;cases d);exact .inr d
 simp (disch:=omega)only[go_sem, *]
 refine oS (Ar vt) (args':=[.p id 0 0,.agg [vp,vc,.fl 1 (T.map Tab.enc)]]) (.cons _ _ _ _ _ (.p _ _ _ _ (by omega)) (.cons _ _ _ _ _ (.agg _ _ _ (.cons _ _ _ _ _ (Sl.frzs a.sp) (.cons _ _ _ _ _ (Sl.frzs a.sc) (.cons _ _ _ _ _ (a.st.froze (fun _=>rfl) rfl (by omega)) (.nil _))))) (.nil _))) ?_
 refine cQ (b:=h.next+2) hbare hL a.jl q1 (by omega) (by have:=a.lim;show h7.lim≤id;omega) (by rw [B4,Ag (by omega)];exact a.tape) (RJ a.sp dpt) (RJ a.sc dct) a.pc ?_
 intro P' Ch' h8 j8 hj8 htp hw hnm hPl' hCl' hn8 hl8 hg8 hlow hsp hsc
 have hres:h8.get h.next=some ⟨3,[[.ns,.ns,.ns]]⟩:=by rw [hlow _ (by omega) (by omega),B4,Ag (by omega)];exact a.res
 have hl8':h8.lim=h.lim:=hl8.trans a.lim
 have hn8':h7.next≤h8.next:=hn8
 have hres7:=a.res
 clear hbox hl8 hn8
 simp (disch:=omega)only[go_sem, *]
 refine ⟨.agg (An.enc ⟨P',Ch',T⟩),j8, ?_,⟨by rw [Ai];omega,hl8',by rw [Ae,Ag (by omega)];exact hg8,fun i hi hn=>?_⟩,kk ⟨P',Ch',T⟩ j8 hj8 ⟨hw,hnm,by simp only;omega,hT2,by simp only;omega,htp⟩⟩
 ·refine .agg _ _ _ (.cons _ _ _ _ _ (Sl.frzb (Sl.weak (AR hsp _ _ ((AD hsp).imp (fun x=>x) (fun x=>by omega))) (by omega)) (fun _=>rfl) (by simp only;omega)) (.cons _ _ _ _ _ (Sl.frzb (Sl.weak (AR hsc _ _ ((AD hsc).imp (fun x=>x) (fun x=>by omega))) (by omega)) (fun _=>rfl) (by simp only;omega)) (.cons _ _ _ _ _ (.fl _ _ _) (.nil _))))
 ·rw [Ae,Ag (by omega),hlow _ (by omega) hn,B4,Ag (by omega)]
  exact a.low i hi hn
end Go.Ab.T
namespace Go.Ab.T
open Go Go.Ab
set_option maxHeartbeats 2000000
structure CA (b q:Nat) (h:AH) (l:List (Nat×V×List (List V))):Prop where
 bq:b≤q
 q2:q≤h.next
 sl:∀ (i:Nat) (a:Nat×V×List (List V)),l[i]?=some a→Sl b h a.1 a.2.1 a.2.2
 lt:∀ (i:Nat) (a:Nat×V×List (List V)),l[i]?=some a→AF a.2.1=true∨Ar a.2.1<q
 dj:∀ (i j:Nat) (a c:Nat×V×List (List V)),i≠j→l[i]?=some a→l[j]?=some c→Dj a.2.1 c.2.1
section
variable {b q:Nat} {h h2:AH} {l:List (Nat×V×List (List V))}
theorem CA.keep (o:CA b q h l) (hn:h.next≤h2.next) (g:∀ i,i<q→h2.get i=h.get i):CA b q h2 l:=
 ⟨o.bq,Nat.le_trans o.q2 hn,fun i a e=>Ir (o.sl i a e) (o.lt i a e) hn g,o.lt,o.dj⟩
theorem CA.ext (o:CA b q h l) (x:Aq h h2):CA b q h2 l:=o.keep x.next (fun i hi=>x.get i (by have:=o.q2;omega))
theorem CA.up {q':Nat} (o:CA b q h l) (h1:q≤q') (h2:q'≤h.next):CA b q' h l:=
 ⟨Nat.le_trans o.bq h1,h2,o.sl,fun i a e=>(o.lt i a e).imp (fun x=>x) (fun x=>by omega),o.dj⟩
theorem CA.put (o:CA b q h l) (i:Nat) (k:BA) (hi:i<b∨q≤i):CA b q (h.put i k) l:=by
 refine ⟨o.bq,o.q2,fun j a e=>AR (o.sl j a e) _ _ ?_,o.lt,o.dj⟩
 have h1:=AD (o.sl j a e)
 have h2:=o.lt j a e
 rcases h1 with h1 | h1
 ·exact .inl h1
 ·rcases h2 with h2 | h2
  ·exact .inl h2
  ·exact .inr (by omega)
theorem CA.low {b' i:Nat} {a:Nat×V×List (List V)} {h1 h3:AH} {v:V} (o:CA b q h l) (e:l[i]?=some a) (x:Aq h h1) (g:Grown b' h1 a.2.1 v h3):∀ k,k<b→h3.get k=h.get k:=fun k hk=>by
 have:=o.bq;have:=o.q2;have:=x.next
 rw [g.get k (by omega) ((AD (o.sl i a e)).imp (fun x=>x) (fun x=>by omega)),x.get k (by omega)]
theorem CA.grow {b' i:Nat} {a:Nat×V×List (List V)} {h1 h3:AH} {v:V} {R:List (List V)} (o:CA b q h l) (e:l[i]?=some a) (x:Aq h h1) (g:Grown b' h1 a.2.1 v h3) (s:Sl b h3 a.1 v R):CA b h3.next h3 (l.set i (a.1,v,R)):=by
 have n0:=o.bq;have n1:=o.q2;have n2:=x.next;have n3:=g.next
 have hi:i<l.length:=(List.getElem?_eq_some_iff.1 e).1
 have o1:=o.ext x
 refine ⟨by omega,Nat.le_refl _,fun j c ej=>?_,fun j c ej=>?_,fun j k c d hjk ej ek=>?_⟩
 ·by_cases hji:i=j
  ·subst hji
   rw [List.getElem?_set_self hi] at ej
   cases ej;exact s
  ·rw [List.getElem?_set_ne hji] at ej
   exact D8 (o1.sl j c ej) g (o.dj i j a c hji e ej)
 ·by_cases hji:i=j
  ·subst hji
   rw [List.getElem?_set_self hi] at ej
   cases ej;exact CW s
  ·rw [List.getElem?_set_ne hji] at ej
   exact (o.lt j c ej).imp (fun x=>x) (fun x=>by omega)
 ·by_cases hji:i=j
  ·subst hji
   rw [List.getElem?_set_self hi] at ej
   rw [List.getElem?_set_ne hjk] at ek
   cases ej
   exact Dq g (o.dj i k a d hjk e ek) ((o.lt k d ek).imp (fun x=>x) (fun x=>by omega))
  ·rw [List.getElem?_set_ne hji] at ej
   by_cases hki:i=k
   ·subst hki
    rw [List.getElem?_set_self hi] at ek
    cases ek
    exact DY (Dq g (o.dj i j a c hji e ej) ((o.lt j c ej).imp (fun x=>x) (fun x=>by omega)))
   ·rw [List.getElem?_set_ne hki] at ek
    exact o.dj j k c d hjk ej ek
theorem CA.set {i n:Nat} {a:Nat×V×List (List V)} {r:List V} (o:CA b q h l) (e:l[i]?=some a) (hn:n<a.2.2.length):CA b q (h.put (Ar a.2.1) ⟨a.1,(A2 h a.2.1).set (Cx a.2.1+n) r⟩) (l.set i (a.1,a.2.1,a.2.2.set n r)):=by
 have hi:i<l.length:=(List.getElem?_eq_some_iff.1 e).1
 have hnil:AF a.2.1=false:=by
  rcases o.sl i a e with ⟨_,hR⟩ | ⟨_,_,_,_,hv,_⟩
  ·rw [hR] at hn;simp at hn
  ·rw [hv];rfl
 refine ⟨o.bq,o.q2,fun j c ej=>?_,fun j c ej=>?_,fun j k c d hjk ej ek=>?_⟩
 ·by_cases hji:i=j
  ·subst hji
   rw [List.getElem?_set_self hi] at ej
   cases ej
   exact Sl.of_get (o.sl i a e) hn (Nat.le_refl _) (by rw [Ae,Ax rfl])
  ·rw [List.getElem?_set_ne hji] at ej
   refine AR (o.sl j c ej) _ _ ?_
   rcases o.dj i j a c hji e ej with d | d | d
   ·rw [d] at hnil;cases hnil
   ·exact .inl d
   ·exact .inr d
 ·by_cases hji:i=j
  ·subst hji
   rw [List.getElem?_set_self hi] at ej
   cases ej;exact o.lt i a e
  ·rw [List.getElem?_set_ne hji] at ej
   exact o.lt j c ej
 ·by_cases hji:i=j
  ·subst hji
   rw [List.getElem?_set_self hi] at ej
   rw [List.getElem?_set_ne hjk] at ek
   cases ej
   exact o.dj i k a d hjk e ek
  ·rw [List.getElem?_set_ne hji] at ej
   by_cases hki:i=k
   ·subst hki
    rw [List.getElem?_set_self hi] at ek
    cases ek
    exact o.dj j i c a hjk ej e
   ·rw [List.getElem?_set_ne hki] at ek
    exact o.dj j k c d hjk ej ek
theorem CA.new {i sz:Nat} {v:V} {R:List (List V)} (o:CA b q h l) (hi:i<l.length) (s:Sl q h sz v R):CA b h.next h (l.set i (sz,v,R)):=by
 have n0:=o.bq;have n1:=o.q2
 have hv:=AD s
 refine ⟨by omega,Nat.le_refl _,fun j c ej=>?_,fun j c ej=>?_,fun j k c d hjk ej ek=>?_⟩
 ·by_cases hji:i=j
  ·subst hji
   rw [List.getElem?_set_self hi] at ej
   cases ej;exact Sl.weak s n0
  ·rw [List.getElem?_set_ne hji] at ej
   exact o.sl j c ej
 ·by_cases hji:i=j
  ·subst hji
   rw [List.getElem?_set_self hi] at ej
   cases ej;exact CW s
  ·rw [List.getElem?_set_ne hji] at ej
   exact (o.lt j c ej).imp (fun x=>x) (fun x=>by omega)
 ·have ap:∀ (j:Nat) (c:Nat×V×List (List V)),l[j]?=some c→Dj v c.2.1:=fun j c ej=>by
   rcases hv with hv | hv
   ·exact .inl hv
   ·rcases o.lt j c ej with k | k
    ·exact .inr (.inl k)
    ·exact .inr (.inr (by omega))
  by_cases hji:i=j
  ·subst hji
   rw [List.getElem?_set_self hi] at ej
   rw [List.getElem?_set_ne hjk] at ek
   cases ej
   exact ap k d ek
  ·rw [List.getElem?_set_ne hji] at ej
   by_cases hki:i=k
   ·subst hki
    rw [List.getElem?_set_self hi] at ek
    cases ek
    exact DY (ap j c ej)
   ·rw [List.getElem?_set_ne hki] at ek
    exact o.dj j k c d hjk ej ek
theorem CA.nil (hb:b≤h.next) (hl:∀ a∈l,a.2.1=.ns∧a.2.2=[]):CA b h.next h l:=
 ⟨hb,Nat.le_refl _,fun i a e=>by have:=hl a (List.mem_of_getElem? e);rw [this.1,this.2];exact Sl.nil _ _ _,fun i a e=>by have:=hl a (List.mem_of_getElem? e);rw [this.1];exact .inl rfl,fun i j a c _ e _=>by have:=hl a (List.mem_of_getElem? e);rw [this.1];exact .inl rfl⟩
end
end Go.Ab.T
namespace Go.Ab.T
open Go Go.Ab
set_option maxHeartbeats 4000000
theorem Sp {b:Nat} {h:AH} {v:V} {R:List (List V)} {K:V→AH→Prop} (s:Sl b h 2 v R) (k:∀ v',Sl b h 2 v' R→K v' h):Cq tp Q8 [v] h K:=by
 obtain ⟨len,big,_,_,_,_,_,cell,cells⟩:=Sl.facts (enc:=fun x=>x) (L:=R) (by simpa using s)
 refine Ac VS (by simp [Ka]) fun wf rp=>?_;unfold Ka;simp (disch:=omega)only[go_sem, *]
 refine Hi s (fun v' s' _=>?_)
 simp (disch:=omega)only[go_sem, *]
theorem Sn {b:Nat} {h:AH} {v:V} {R:List (List V)} {K:V→AH→Prop} (s:Sl b h 6 v R) (k:∀ v',Sl b h 6 v' R→K v' h):Cq tp Wx [v] h K:=by
 obtain ⟨len,big,_,_,_,_,_,cell,cells⟩:=Sl.facts (enc:=fun x=>x) (L:=R) (by simpa using s)
 refine Ac aDq (by simp [NR]) fun wf rp=>?_;unfold NR;simp (disch:=omega)only[go_sem, *]
 refine Hi s (fun v' s' _=>?_)
 simp (disch:=omega)only[go_sem, *]
theorem So {b:Nat} {h:AH} {v:V} {R:List (List V)} {K:V→AH→Prop} (s:Sl b h 3 v R) (k:∀ v',Sl b h 3 v' R→K v' h):Cq tp Ra [v] h K:=by
 obtain ⟨len,big,_,_,_,_,_,cell,cells⟩:=Sl.facts (enc:=fun x=>x) (L:=R) (by simpa using s)
 refine Ac VU (by simp [Kc]) fun wf rp=>?_;unfold Kc;simp (disch:=omega)only[go_sem, *]
 refine Hi s (fun v' s' _=>?_)
 simp (disch:=omega)only[go_sem, *]
@[go_sem] def Part.encO (v:V) (x:Part):List V:=[.s x.name,.i .i64 x.budget,.i .i64 x.period,.b x.sched,.b x.stop,v,.i .i64 x.h0,.i .i64 x.h1,.i .i64 x.h2,.i .i64 x.h3,.i .i64 x.h4]
def Ec (ow:Bool) (v:V):List Part→List (List V)
 | []=>[]
 | p::l=>(if ow=true then p.encO v else p.enc)::l.map Part.enc
def Ed (ow:Bool) (v:V):List (List Node)→List (List V)
 | []=>[]
 | t::l=>[if ow=true then v else .fl 3 (t.map Node.enc)]::l.map Tab.enc
def r1 (ow:Bool):List Part→List (List V)
 | []=>[]
 | p::_=>if ow=true then p.procs.map Bd.enc else []
def r2 (ow:Bool):List (List Node)→List (List V)
 | []=>[]
 | t::_=>if ow=true then t.map Node.enc else []
theorem Qr {ow:Bool} {v:V} {A:List Part} {p:Part} (h:A≠[]):Ec ow v (A++[p])=Ec ow v A++[p.enc]:=by
 cases A with
 | nil=>exact absurd rfl h
 | cons a l=>simp [Ec]
theorem Qs {ow:Bool} {v:V} {A:List (List Node)} {p:List Node} (h:A≠[]):Ed ow v (A++[p])=Ed ow v A++[Tab.enc p]:=by
 cases A with
 | nil=>exact absurd rfl h
 | cons a l=>simp [Ed]
theorem Yc {v:V} {A:List Part}:Ec false v A=A.map Part.enc:=by cases A<;>simp [Ec]
theorem Yd {v:V} {A:List (List Node)}:Ed false v A=A.map Tab.enc:=by cases A<;>simp [Ed,Tab.enc]
theorem iH {ow:Bool} {A:List Part} {p:Part} (h:A≠[]):r1 ow (A++[p])=r1 ow A:=by
 cases A with
 | nil=>exact absurd rfl h
 | cons a l=>rfl
theorem iI {ow:Bool} {A:List (List Node)} {p:List Node} (h:A≠[]):r2 ow (A++[p])=r2 ow A:=by
 cases A with
 | nil=>exact absurd rfl h
 | cons a l=>rfl
def CZ (ow:Bool) (vp vc vt o1 o2:V) (A:List Part) (X:List A1) (B:List (List Node)):List (Nat×V×List (List V)):=
 [(11,vp,Ec ow o1 A),(6,vc,X.map A1.enc),(1,vt,Ed ow o2 B),(2,o1,r1 ow A),(3,o2,r2 ow B)]
structure KS (ow:Bool) (C:An) (h h':AH) (vp vc vt o1 o2:V) (A:List Part) (X:List A1) (B:List (List Node)):Prop where
 own:CA (h.next+3) h'.next h' (CZ ow vp vc vt o1 o2 A X B)
 lim:h'.lim=h.lim
 low:∀ i,i<h.next→h'.get i=h.get i
 arg:h'.get h.next=some ⟨3,[C.enc]⟩
 res:h'.get (h.next+1)=some ⟨3,[[.ns,.ns,.ns]]⟩
 box:h'.get (h.next+2)=some ⟨3,[[vp,vc,vt]]⟩
end Go.Ab.T
namespace Go.Ab.T
open Go Go.Ab
set_option maxHeartbeats 4000000
section
variable {ow:Bool} {C:An} {h h':AH} {vp vc vt o1 o2:V} {A:List Part} {X:List A1} {B:List (List Node)}
theorem KS.keep {h2:AH} (a:KS ow C h h' vp vc vt o1 o2 A X B) (hn:h'.next≤h2.next) (hl:h2.lim=h'.lim) (g:∀ i,i<h'.next→h2.get i=h'.get i):CA (h.next+3) h'.next h2 (CZ ow vp vc vt o1 o2 A X B)∧h2.lim=h.lim∧(∀ i,i<h.next→h2.get i=h.get i)∧h2.get h.next=some ⟨3,[C.enc]⟩∧h2.get (h.next+1)=some ⟨3,[[.ns,.ns,.ns]]⟩∧h2.get (h.next+2)=some ⟨3,[[vp,vc,vt]]⟩:=by
 have:=a.own.bq
 exact ⟨a.own.keep hn g,hl.trans a.lim,fun i hi=>(g i (by omega)).trans (a.low i hi),(g _ (by omega)).trans a.arg,(g _ (by omega)).trans a.res,(g _ (by omega)).trans a.box⟩
theorem KS.mk2 {h5 : AH} {q : Nat} {vp' vc' vt' o1' o2' : V} {A' : List Part} {X' : List A1} {B' : List (List Node)} (o : CA (h.next + 3) q h5 (CZ ow vp' vc' vt' o1' o2' A' X' B')) (hl : h5.lim = h.lim) (low : ∀ i, i < h.next → h5.get i = h.get i) (arg : h5.get h.next = some ⟨3, [C.enc]⟩) (res : h5.get (h.next + 1) = some ⟨3, [[.ns, .ns, .ns]]⟩) :
    KS ow C h (h5.put (h.next+2) ⟨3,[[vp',vc',vt']]⟩) vp' vc' vt' o1' o2' A' X' B':=by
 have:=o.bq;have:=o.q2
 exact ⟨(o.put _ _ (.inl (by omega))).up (by rw [Ai];omega) (Nat.le_refl _),hl,fun i hi=>by rw [Ae,Ag (by omega)];exact low i hi,by rw [Ae,Ag (by omega)];exact arg,by rw [Ae,Ag (by omega)];exact res,by rw [Ae,Ax rfl]⟩
theorem KY {ow:Bool} {v:V} {A:List Part}:(Ec ow v A).length=A.length:=by cases A<;>simp [Ec]
theorem KZ {ow:Bool} {v:V} {A:List (List Node)}:(Ed ow v A).length=A.length:=by cases A<;>simp [Ed]
theorem XQ {i:Nat} {w:V} {Ps:List Part} (hcase:¬ (ow=true∧i=0)) (hi:i≤Ps.length) (hts:Ps.take (i+1)=Ps.take i++[nth Ps i]) (hc:i<Ps.length):CZ ow w .ns .ns o1 .ns (Ps.take (i+1)) [] []=(CZ ow vp .ns .ns o1 .ns (Ps.take i) [] []).set 0 (11,w,Ec ow o1 (Ps.take i)++[(nth Ps i).enc]):=by
 rw [hts]
 by_cases h0:i=0
 ·have hf:ow=false:=by cases ow with | false=>rfl | true=>exact absurd ⟨rfl,h0⟩ hcase
  subst hf;subst h0
  simp [CZ,Ec,r1]
 ·have hne:Ps.take i≠[]:=by
   intro h;have:(Ps.take i).length=0:=by rw [h];rfl
   rw [List.length_take] at this;omega
  rw [CZ,Qr hne,iH hne];rfl
theorem Pi {K : Ex → Env → AH → Prop} {e : Env} (hlo : h.lim ≤ h.next) (hPl : C.parts.length < 4000000000) (a : KS ow C h h' .ns .ns .ns .ns .ns [] [] [])
    (e1:e 1=.p h.next 0 0) (e2:e 2=.p (h.next+1) 0 0) (e3:e 3=.p (h.next+2) 0 0) (e9:e 9=.fl 11 (C.parts.map Part.enc)) (e10:e 10=.i .i64 C.parts.length) (e11:e 11=.i .i64 0)
    (kk:∀ e' h' vp o1,e' 1=.p h.next 0 0→e' 2=.p (h.next+1) 0 0→e' 3=.p (h.next+2) 0 0→KS ow C h h' vp .ns .ns o1 .ns C.parts [] []→K (.ex 0) e' h'):ZC tp (.loop T5) e h' K:=by
 refine Ah (fun n' e hh=>∃ (i:Nat) (vp o1:V),n'=C.parts.length - i∧e 1=.p h.next 0 0∧e 2=.p (h.next+1) 0 0∧e 3=.p (h.next+2) 0 0∧e 9=.fl 11 (C.parts.map Part.enc)∧e 10=.i .i64 C.parts.length∧e 11=.i .i64 i∧i≤C.parts.length∧KS ow C h hh vp .ns .ns o1 .ns (C.parts.take i) [] []) ?_ _ _ _ ⟨0,.ns,.ns,rfl,e1,e2,e3,e9,e10,e11,by omega,a⟩
 clear e1 e2 e3 e9 e10 e11 e a
 rintro n' e hh ⟨i,vp,o1,rfl,e1,e2,e3,e9,e10,e11,hi,a⟩ ih
 have hbq:=a.own.bq
 have hlh:=a.lim
 rw [Am T5.eq_1]
 simp (disch:=omega)only[go_sem, *]
 refine Aa (fun hc=>?_) (fun hc=>?_)
 ·have hts:=Dg (L:=C.parts) (i:=i) (by omega)
  simp (disch:=omega)only[go_sem, *]
  have x1:Aq hh ((hh.alloc ⟨11,[[.s ⟨#[]⟩,.i .i64 0,.i .i64 0,.b false,.b false,.ns,.i .i64 0,.i .i64 0,.i .i64 0,.i .i64 0,.i .i64 0]]⟩).put hh.next ⟨11,[(nth C.parts i).enc]⟩):=by (repeat (first | exact Aq.refl _ | refine Aq.alloc ?_ _ | (refine Aq.put ?_ _ _ ?_;rotate_left;(first | omega | (simp only [Af,Ai];omega)))))
  have b1:((hh.alloc ⟨11,[[.s ⟨#[]⟩,.i .i64 0,.i .i64 0,.b false,.b false,.ns,.i .i64 0,.i .i64 0,.i .i64 0,.i .i64 0,.i .i64 0]]⟩).put hh.next ⟨11,[(nth C.parts i).enc]⟩).get hh.next=some ⟨11,[(nth C.parts i).enc]⟩:=by rw [Ae,Ax rfl]
  have n1:hh.next<((hh.alloc ⟨11,[[.s ⟨#[]⟩,.i .i64 0,.i .i64 0,.b false,.b false,.ns,.i .i64 0,.i .i64 0,.i .i64 0,.i .i64 0,.i .i64 0]]⟩).put hh.next ⟨11,[(nth C.parts i).enc]⟩).next:=Nat.lt_succ_self _
  simp only [Part.enc] at x1 b1 n1
  generalize (hh.alloc ⟨11,[[.s ⟨#[]⟩,.i .i64 0,.i .i64 0,.b false,.b false,.ns,.i .i64 0,.i .i64 0,.i .i64 0,.i .i64 0,.i .i64 0]]⟩).put hh.next ⟨11,[[.s (nth C.parts i).name,.i .i64 (nth C.parts i).budget,.i .i64 (nth C.parts i).period,.b (nth C.parts i).sched,.b (nth C.parts i).stop,.fl 2 ((nth C.parts i).procs.map Bd.enc),.i .i64 (nth C.parts i).h0,.i .i64 (nth C.parts i).h1,.i .i64 (nth C.parts i).h2,.i .i64 (nth C.parts i).h3,.i .i64 (nth C.parts i).h4]]⟩=h1 at x1 b1 n1 ⊢
  have hl1:=x1.lim
  by_cases hcase:ow=true∧i=0
  ·obtain ⟨rfl,rfl⟩:=hcase
   refine Pe (by omega) ?_
   intro r h2 s2 x2
   simp (disch:=omega)only[go_sem, *]
   refine Sp s2 ?_
   intro v s3
   have hb2:h2.get hh.next=some ⟨11,[[.s (nth C.parts 0).name,.i .i64 (nth C.parts 0).budget,.i .i64 (nth C.parts 0).period,.b (nth C.parts 0).sched,.b (nth C.parts 0).stop,.fl 2 ((nth C.parts 0).procs.map Bd.enc),.i .i64 (nth C.parts 0).h0,.i .i64 (nth C.parts 0).h1,.i .i64 (nth C.parts 0).h2,.i .i64 (nth C.parts 0).h3,.i .i64 (nth C.parts 0).h4]]⟩:=(x2.get _ n1).trans b1
   have n2:=x2.next
   have l2:=x2.lim
   have x3:Aq hh (h2.put hh.next ⟨11,[(nth C.parts 0).encO v]⟩):=(x1.trans x2).put _ _ (Nat.le_refl _)
   have b3:(h2.put hh.next ⟨11,[(nth C.parts 0).encO v]⟩).get hh.next=some ⟨11,[(nth C.parts 0).encO v]⟩:=by rw [Ae,Ax rfl]
   have s4:Sl hh.next (h2.put hh.next ⟨11,[(nth C.parts 0).encO v]⟩) 2 v ((nth C.parts 0).procs.map Bd.enc):=Sl.weak (AR s3 _ _ ((AD s3).imp (fun x=>x) (fun x=>by omega))) (by omega)
   obtain ⟨_,_,_,_,_,_,_,vcell,vcells⟩:=s4.facts
   obtain ⟨o3,lim3,low3,arg3,res3,box3⟩:=a.keep x3.next x3.lim x3.get
   have o3:=o3.new (i:=3) (by simp [CZ]) s4
   have hts2:C.parts.take (0+1)=[nth C.parts 0]:=by rw [hts];simp
   simp only [Part.encO] at x3 b3 o3 lim3 low3 arg3 res3 box3
   simp (disch:=omega)only[go_sem, *]
   clear s2 s3 s4 x1 x2 hl1 b1 n1 hb2
   generalize h2.put hh.next ⟨11,[[.s (nth C.parts 0).name,.i .i64 (nth C.parts 0).budget,.i .i64 (nth C.parts 0).period,.b (nth C.parts 0).sched,.b (nth C.parts 0).stop,v,.i .i64 (nth C.parts 0).h0,.i .i64 (nth C.parts 0).h1,.i .i64 (nth C.parts 0).h2,.i .i64 (nth C.parts 0).h3,.i .i64 (nth C.parts 0).h4]]⟩=h3 at x3 b3 o3 lim3 low3 arg3 res3 box3 ⊢
   have hbq3:=o3.bq
   have hq23:=o3.q2
   refine AA (N:=[[.s (nth C.parts 0).name,.i .i64 (nth C.parts 0).budget,.i .i64 (nth C.parts 0).period,.b (nth C.parts 0).sched,.b (nth C.parts 0).stop,v,.i .i64 (nth C.parts 0).h0,.i .i64 (nth C.parts 0).h1,.i .i64 (nth C.parts 0).h2,.i .i64 (nth C.parts 0).h3,.i .i64 (nth C.parts 0).h4]]) ((o3.sl 0 _ rfl).alloc _) (by first | omega | (simp (disch:=omega)only[go_sem, *]<;>omega)) (by first | omega | (simp (disch:=omega)only[go_sem, *]<;>omega)) (by have hl:=KY (ow:=true) (v:=o1) (A:=C.parts.take 0);simp only [List.length_cons,List.length_nil,hl,List.length_take];omega) ?_
   intro w h5 s5 g5
   have x5:=(Aq.refl h3).alloc ⟨11,[[.s (nth C.parts 0).name,.i .i64 (nth C.parts 0).budget,.i .i64 (nth C.parts 0).period,.b (nth C.parts 0).sched,.b (nth C.parts 0).stop,v,.i .i64 (nth C.parts 0).h0,.i .i64 (nth C.parts 0).h1,.i .i64 (nth C.parts 0).h2,.i .i64 (nth C.parts 0).h3,.i .i64 (nth C.parts 0).h4]]⟩
   have lo5:=o3.low (i:=0) rfl x5 g5
   have o5:=o3.grow (i:=0) rfl x5 g5 s5
   have hb5:h5.get (h.next+2)=some ⟨3,[[vp,.ns,.ns]]⟩:=(lo5 _ (by omega)).trans box3
   have l5:=g5.lim
   have hc5:=g5.cell
   have hcs5:=g5.cells
   simp only [A9] at l5
   have k5:KS true C h (h5.put (h.next+2) ⟨3,[[w,.ns,.ns]]⟩) w .ns .ns v .ns (C.parts.take (0+1)) [] []:=KS.mk2 (q:=h5.next) (by
    have e:CZ true w .ns .ns v .ns (C.parts.take (0+1)) [] []=((CZ true vp .ns .ns o1 .ns (C.parts.take 0) [] []).set 3 (2,v,(nth C.parts 0).procs.map Bd.enc)).set 0 (11,w,Ec true o1 (C.parts.take 0)++[[.s (nth C.parts 0).name,.i .i64 (nth C.parts 0).budget,.i .i64 (nth C.parts 0).period,.b (nth C.parts 0).sched,.b (nth C.parts 0).stop,v,.i .i64 (nth C.parts 0).h0,.i .i64 (nth C.parts 0).h1,.i .i64 (nth C.parts 0).h2,.i .i64 (nth C.parts 0).h3,.i .i64 (nth C.parts 0).h4]]):=(by rw [hts2];simp [CZ,Ec,r1,Part.encO])
    rw [e];exact o5) (by omega) (fun i hi=>(lo5 i (by omega)).trans (low3 i hi)) ((lo5 _ (by omega)).trans arg3) ((lo5 _ (by omega)).trans res3)
   clear s5 g5 x5 o5 lo5 hts hts2 o3
   simp (disch:=omega)only[go_sem, *]
   refine ih _ _ _ ?_ ⟨0+1,w,v,rfl, ?_⟩
   ·omega
   ·clear ih kk
    simp (disch:=omega)only[go_sem, *]
    ((repeat' refine And.intro ?_ ?_)<;>first | omega | assumption | (exact k5))
  ·obtain ⟨_,_,_,_,_,box1⟩:=a.keep x1.next x1.lim x1.get
   have x3:Aq hh (h1.put hh.next ⟨11,[[.s (nth C.parts i).name,.i .i64 (nth C.parts i).budget,.i .i64 (nth C.parts i).period,.b (nth C.parts i).sched,.b (nth C.parts i).stop,.fl 2 ((nth C.parts i).procs.map Bd.enc),.i .i64 (nth C.parts i).h0,.i .i64 (nth C.parts i).h1,.i .i64 (nth C.parts i).h2,.i .i64 (nth C.parts i).h3,.i .i64 (nth C.parts i).h4]]⟩):=x1.put _ _ (Nat.le_refl _)
   obtain ⟨o3,lim3,low3,arg3,res3,box3⟩:=a.keep x3.next x3.lim x3.get
   refine Pf.go (Lj) (by simp only [go_sem]) fun _=>?_;simp (disch:=omega)only[go_sem, *]
   refine Pf.go (Mk) (by simp only [go_sem]) fun _=>?_;simp (disch:=omega)only[go_sem, *]
   clear hl1 b1 box1
   have n3:hh.next<(h1.put hh.next ⟨11,[[.s (nth C.parts i).name,.i .i64 (nth C.parts i).budget,.i .i64 (nth C.parts i).period,.b (nth C.parts i).sched,.b (nth C.parts i).stop,.fl 2 ((nth C.parts i).procs.map Bd.enc),.i .i64 (nth C.parts i).h0,.i .i64 (nth C.parts i).h1,.i .i64 (nth C.parts i).h2,.i .i64 (nth C.parts i).h3,.i .i64 (nth C.parts i).h4]]⟩).next:=n1
   generalize h1.put hh.next ⟨11,[[.s (nth C.parts i).name,.i .i64 (nth C.parts i).budget,.i .i64 (nth C.parts i).period,.b (nth C.parts i).sched,.b (nth C.parts i).stop,.fl 2 ((nth C.parts i).procs.map Bd.enc),.i .i64 (nth C.parts i).h0,.i .i64 (nth C.parts i).h1,.i .i64 (nth C.parts i).h2,.i .i64 (nth C.parts i).h3,.i .i64 (nth C.parts i).h4]]⟩=h3 at x3 o3 lim3 low3 arg3 res3 box3 n3 ⊢
   clear x1 n1
   have o3:=o3.up (Nat.le_of_lt n3) (Nat.le_refl _)
   have hbq3:=o3.bq
   have hq23:=o3.q2
   refine AA (N:=[[.s (nth C.parts i).name,.i .i64 (nth C.parts i).budget,.i .i64 (nth C.parts i).period,.b (nth C.parts i).sched,.b (nth C.parts i).stop,.fl 2 ((nth C.parts i).procs.map Bd.enc),.i .i64 (nth C.parts i).h0,.i .i64 (nth C.parts i).h1,.i .i64 (nth C.parts i).h2,.i .i64 (nth C.parts i).h3,.i .i64 (nth C.parts i).h4]]) ((o3.sl 0 _ rfl).alloc _) (by first | omega | (simp (disch:=omega)only[go_sem, *]<;>omega)) (by first | omega | (simp (disch:=omega)only[go_sem, *]<;>omega)) (by have hl:=KY (ow:=ow) (v:=o1) (A:=C.parts.take i);simp only [List.length_cons,List.length_nil,hl,List.length_take];omega) ?_
   intro w h5 s5 g5
   have x5:=(Aq.refl h3).alloc ⟨11,[[.s (nth C.parts i).name,.i .i64 (nth C.parts i).budget,.i .i64 (nth C.parts i).period,.b (nth C.parts i).sched,.b (nth C.parts i).stop,.fl 2 ((nth C.parts i).procs.map Bd.enc),.i .i64 (nth C.parts i).h0,.i .i64 (nth C.parts i).h1,.i .i64 (nth C.parts i).h2,.i .i64 (nth C.parts i).h3,.i .i64 (nth C.parts i).h4]]⟩
   have lo5:=o3.low (i:=0) rfl x5 g5
   have o5:=o3.grow (i:=0) rfl x5 g5 s5
   have hb5:h5.get (h.next+2)=some ⟨3,[[vp,.ns,.ns]]⟩:=(lo5 _ (by omega)).trans box3
   have l5:=g5.lim
   have hc5:=g5.cell
   have hcs5:=g5.cells
   simp only [A9] at l5
   have k5:KS ow C h (h5.put (h.next+2) ⟨3,[[w,.ns,.ns]]⟩) w .ns .ns o1 .ns (C.parts.take (i+1)) [] []:=KS.mk2 (q:=h5.next) (by
    have e:CZ ow w .ns .ns o1 .ns (C.parts.take (i+1)) [] []=(CZ ow vp .ns .ns o1 .ns (C.parts.take i) [] []).set 0 (11,w,Ec ow o1 (C.parts.take i)++[[.s (nth C.parts i).name,.i .i64 (nth C.parts i).budget,.i .i64 (nth C.parts i).period,.b (nth C.parts i).sched,.b (nth C.parts i).stop,.fl 2 ((nth C.parts i).procs.map Bd.enc),.i .i64 (nth C.parts i).h0,.i .i64 (nth C.parts i).h1,.i .i64 (nth C.parts i).h2,.i .i64 (nth C.parts i).h3,.i .i64 (nth C.parts i).h4]]):=(XQ hcase hi hts (by omega))
    rw [e];exact o5) (by omega) (fun i hi=>(lo5 i (by omega)).trans (low3 i hi)) ((lo5 _ (by omega)).trans arg3) ((lo5 _ (by omega)).trans res3)
   clear s5 g5 x5 o5 lo5 hts o3
   simp (disch:=omega)only[go_sem, *]
   refine ih _ _ _ ?_ ⟨i+1,w,o1,rfl, ?_⟩
   ·omega
   ·clear ih kk
    simp (disch:=omega)only[go_sem, *]
    ((repeat' refine And.intro ?_ ?_)<;>first | omega | assumption | (exact k5))
 ·obtain rfl:i=C.parts.length:=by omega
  rw [List.take_length] at a
  simp (disch:=omega)only[go_sem, *]
  exact kk _ hh vp o1 e1 e2 e3 a
end
end Go.Ab.T
namespace Go.Ab.T
open Go Go.Ab
set_option maxHeartbeats 4000000
section
variable {ow:Bool} {C:An} {h h':AH} {vp vc vt o1 o2:V} {A:List Part} {X:List A1} {B:List (List Node)}
theorem Tc {i:Nat} {w:V} {Ts:List (List Node)} (hcase:¬ (ow=true∧i=0)) (hi:i≤Ts.length) (hts:Ts.take (i+1)=Ts.take i++[nth Ts i]) (hc:i<Ts.length):CZ ow vp vc w o1 o2 A X (Ts.take (i+1))=(CZ ow vp vc vt o1 o2 A X (Ts.take i)).set 2 (1,w,Ed ow o2 (Ts.take i)++[Tab.enc (nth Ts i)]):=by
 rw [hts]
 by_cases h0:i=0
 ·have hf:ow=false:=by cases ow with | false=>rfl | true=>exact absurd ⟨rfl,h0⟩ hcase
  subst hf;subst h0
  simp [CZ,Ed,r2,Tab.enc]
 ·have hne:Ts.take i≠[]:=by
   intro h;have:(Ts.take i).length=0:=by rw [h];rfl
   rw [List.length_take] at this;omega
  rw [CZ,Qs hne,iI hne];rfl
theorem Sv {K : Ex → Env → AH → Prop} {e : Env} (hlo : h.lim ≤ h.next) (hPl : C.tables.length < 4000000000) (a : KS ow C h h' vp vc .ns o1 .ns A X [])
    (e2:e 2=.p (h.next+1) 0 0) (e3:e 3=.p (h.next+2) 0 0) (e33:e 33=.fl 1 (C.tables.map Tab.enc)) (e34:e 34=.i .i64 C.tables.length) (e35:e 35=.i .i64 0)
    (kk:∀ e' h' vt o2,e' 2=.p (h.next+1) 0 0→e' 3=.p (h.next+2) 0 0→KS ow C h h' vp vc vt o1 o2 A X C.tables→K (.ex 2) e' h'):ZC tp (.loop OY) e h' K:=by
 refine Ah (fun n' e hh=>∃ (i:Nat) (vt o2:V),n'=C.tables.length - i∧e 2=.p (h.next+1) 0 0∧e 3=.p (h.next+2) 0 0∧e 33=.fl 1 (C.tables.map Tab.enc)∧e 34=.i .i64 C.tables.length∧e 35=.i .i64 i∧i≤C.tables.length∧KS ow C h hh vp vc vt o1 o2 A X (C.tables.take i)) ?_ _ _ _ ⟨0,.ns,.ns,rfl,e2,e3,e33,e34,e35,by omega,a⟩
 clear e2 e3 e33 e34 e35 e a
 rintro n' e hh ⟨i,vt,o2,rfl,e2,e3,e33,e34,e35,hi,a⟩ ih
 have hbq:=a.own.bq
 have hlq:hh.lim≤h.next:=by rw [a.lim];exact hlo
 have hbx:=a.box
 rw [Am OY.eq_1]
 simp (disch:=omega)only[go_sem, *]
 refine Aa (fun hc=>?_) (fun hc=>?_)
 ·have hts:=Dg (L:=C.tables) (i:=i) (by omega)
  simp (disch:=omega)only[go_sem, *]
  by_cases hcase:ow=true∧i=0
  ·obtain ⟨rfl,rfl⟩:=hcase
   refine Pd (by rw [KO,Jm];exact Nat.le_refl _) ?_
   intro r h2 s2 x2
   have x3:Aq hh (h2.back hh.lim):=⟨x2.next,rfl,x2.get⟩
   have s3:Sl hh.next (h2.back hh.lim) 3 r ((nth C.tables 0).map Node.enc):=s2
   simp (disch:=omega)only[go_sem, *]
   generalize h2.back hh.lim=h3 at x3 s3 ⊢
   clear s2 x2
   have hrb:h3.raise.back hh.lim=h3:=by rw [← x3.lim];exact Gg
   refine So s3.raise ?_
   intro v s4
   have s4:Sl hh.next h3 3 v ((nth C.tables 0).map Node.enc):=s4
   obtain ⟨_,_,_,_,_,_,_,vcell,vcells⟩:=s4.facts
   obtain ⟨o3,lim3,low3,arg3,res3,box3⟩:=a.keep x3.next x3.lim x3.get
   have o3:=o3.new (i:=4) (by simp [CZ]) s4
   have hts2:C.tables.take (0+1)=[nth C.tables 0]:=by rw [hts];simp
   simp (disch:=omega)only[go_sem, *]
   have hbq3:=o3.bq
   have hq23:=o3.q2
   refine AA (N:=[[v]]) ((o3.sl 2 _ rfl).alloc _) (by first | omega | (simp (disch:=omega)only[go_sem, *]<;>omega)) (by first | omega | (simp (disch:=omega)only[go_sem, *]<;>omega)) (by have hl:=KZ (ow:=true) (v:=o2) (A:=C.tables.take 0);simp only [List.length_cons,List.length_nil,hl,List.length_take];omega) ?_
   intro w h5 s5 g5
   have x5:=(Aq.refl h3).alloc ⟨1,[[v]]⟩
   have lo5:=o3.low (i:=2) rfl x5 g5
   have o5:=o3.grow (i:=2) rfl x5 g5 s5
   have hb5:h5.get (h.next+2)=some ⟨3,[[vp,vc,vt]]⟩:=(lo5 _ (by omega)).trans box3
   have l5:=g5.lim
   have hc5:=g5.cell
   have hcs5:=g5.cells
   simp only [A9] at l5
   have k5:KS true C h (h5.put (h.next+2) ⟨3,[[vp,vc,w]]⟩) vp vc w o1 v A X (C.tables.take (0+1)):=KS.mk2 (q:=h5.next) (by
    have e:CZ true vp vc w o1 v A X (C.tables.take (0+1))=((CZ true vp vc vt o1 o2 A X (C.tables.take 0)).set 4 (3,v,(nth C.tables 0).map Node.enc)).set 2 (1,w,Ed true o2 (C.tables.take 0)++[[v]]):=(by rw [hts2];simp [CZ,Ed,r2])
    rw [e];exact o5) (by omega) (fun i hi=>(lo5 i (by omega)).trans (low3 i hi)) ((lo5 _ (by omega)).trans arg3) ((lo5 _ (by omega)).trans res3)
   have lq5:h5.lim≤h.next:=by omega
   clear s5 g5 x5 o5 lo5 hts l5 hts2 o3
   simp (disch:=omega)only[go_sem, *]
   refine ih _ _ _ ?_ ⟨0+1,w,v,rfl, ?_⟩
   ·omega
   ·clear ih kk
    simp (disch:=omega)only[go_sem, *]
    ((repeat' refine And.intro ?_ ?_)<;>first | omega | assumption | (exact k5))
  ·refine Pf.go (GB) (by simp only [go_sem]) fun _=>?_;simp (disch:=omega)only[go_sem, *]
   refine Pf.go (Mj) (by simp only [go_sem]) fun _=>?_;simp (disch:=omega)only[go_sem, *]
   obtain ⟨o3,lim3,low3,arg3,res3,box3⟩:=a.keep (h2:=hh) (Nat.le_refl _) rfl (fun _ _=>rfl)
   generalize hh=h3 at *
   have hbq3:=o3.bq
   have hq23:=o3.q2
   refine AA (N:=[[.fl 3 ((nth C.tables i).map Node.enc)]]) ((o3.sl 2 _ rfl).alloc _) (by first | omega | (simp (disch:=omega)only[go_sem, *]<;>omega)) (by first | omega | (simp (disch:=omega)only[go_sem, *]<;>omega)) (by have hl:=KZ (ow:=ow) (v:=o2) (A:=C.tables.take i);simp only [List.length_cons,List.length_nil,hl,List.length_take];omega) ?_
   intro w h5 s5 g5
   have x5:=(Aq.refl h3).alloc ⟨1,[[.fl 3 ((nth C.tables i).map Node.enc)]]⟩
   have lo5:=o3.low (i:=2) rfl x5 g5
   have o5:=o3.grow (i:=2) rfl x5 g5 s5
   have hb5:h5.get (h.next+2)=some ⟨3,[[vp,vc,vt]]⟩:=(lo5 _ (by omega)).trans box3
   have l5:=g5.lim
   have hc5:=g5.cell
   have hcs5:=g5.cells
   simp only [A9] at l5
   have k5:KS ow C h (h5.put (h.next+2) ⟨3,[[vp,vc,w]]⟩) vp vc w o1 o2 A X (C.tables.take (i+1)):=KS.mk2 (q:=h5.next) (by
    have e:CZ ow vp vc w o1 o2 A X (C.tables.take (i+1))=(CZ ow vp vc vt o1 o2 A X (C.tables.take i)).set 2 (1,w,Ed ow o2 (C.tables.take i)++[[.fl 3 ((nth C.tables i).map Node.enc)]]):=(Tc hcase hi hts (by omega))
    rw [e];exact o5) (by omega) (fun i hi=>(lo5 i (by omega)).trans (low3 i hi)) ((lo5 _ (by omega)).trans arg3) ((lo5 _ (by omega)).trans res3)
   have lq5:h5.lim≤h.next:=by omega
   clear s5 g5 x5 o5 lo5 hts l5 o3
   simp (disch:=omega)only[go_sem, *]
   refine ih _ _ _ ?_ ⟨i+1,w,o2,rfl, ?_⟩
   ·omega
   ·clear ih kk
    simp (disch:=omega)only[go_sem, *]
    ((repeat' refine And.intro ?_ ?_)<;>first | omega | assumption | (exact k5))
 ·obtain rfl:i=C.tables.length:=by omega
  rw [List.take_length] at a
  simp (disch:=omega)only[go_sem, *]
  exact kk _ hh vt o2 e2 e3 a
end
end Go.Ab.T
namespace Go.Ab.T
open Go Go.Ab
set_option maxHeartbeats 4000000
theorem LX {b sz:Nat} {h:AH} {v:V} {R:List (List V)} (s:Sl b h sz v R):v.isCell=true∧v.cells=[v]:=by
 rcases s with ⟨hv,_⟩ | ⟨_,_,_,_,rfl,_⟩
 ·rcases hv with rfl | rfl<;>exact ⟨rfl,rfl⟩
 ·exact ⟨rfl,rfl⟩
theorem Su {ow : Bool} {C : An} {h : AH} {K : V → AH → Prop} (hlo : h.lim ≤ h.next) (hPl : C.parts.length < 4000000000) (hTl : C.tables.length < 4000000000)
    (kk:∀ vp vc vt o1 o2 h2,CA (h.next+3) h2.next h2 (CZ ow vp vc vt o1 o2 C.parts C.chans C.tables)→h2.lim=h.lim→(∀ i,i<h.next→h2.get i=h.get i)→K (.agg [vp,vc,vt]) h2):
    ZC tp J8.body (Ey [.agg C.enc]) h (fun x e h2=>Hf J8.res x e h2 K):=by
 unfold J8
 simp (disch:=omega)only[go_sem, *]
 have x0:Aq h (((h.alloc ⟨3,[C.enc]⟩).alloc ⟨3,[[.ns,.ns,.ns]]⟩).alloc ⟨3,[[.ns,.ns,.ns]]⟩):=by (repeat (first | exact Aq.refl _ | refine Aq.alloc ?_ _ | (refine Aq.put ?_ _ _ ?_;rotate_left;(first | omega | (simp only [Af,Ai];omega)))))
 have k0:KS ow C h (((h.alloc ⟨3,[C.enc]⟩).alloc ⟨3,[[.ns,.ns,.ns]]⟩).alloc ⟨3,[[.ns,.ns,.ns]]⟩) .ns .ns .ns .ns .ns [] [] []:=by
  refine ⟨CA.nil (by simp only [Af];omega) (fun a ha=>?_),rfl,x0.get,by simp (disch:=omega)only[go_sem, *],by simp (disch:=omega)only[go_sem, *],by simp (disch:=omega)only[go_sem, *]⟩
  simp only [CZ,List.mem_cons,List.not_mem_nil,or_false] at ha
  rcases ha with rfl | rfl | rfl | rfl | rfl<;>simp [Ec,Ed,r1,r2]
 simp only [An.enc] at k0
 refine Pi hlo hPl k0 (by simp (disch:=omega)only[go_sem, *]) (by simp (disch:=omega)only[go_sem, *]) (by simp (disch:=omega)only[go_sem, *]) (by simp (disch:=omega)only[go_sem, *]) (by simp (disch:=omega)only[go_sem, *]) (by simp (disch:=omega)only[go_sem, *]) ?_
 clear k0 x0
 intro e h1 vp o1 e1 e2 e3 a
 have harg:=a.arg
 have hbq:=a.own.bq
 simp only [An.enc] at harg
 simp (disch:=omega)only[go_sem, *]
 have hl1:=a.lim
 refine Pc (by omega) ?_
 intro r h2 s2 x2
 have hn2:=x2.next
 simp (disch:=omega)only[go_sem, *]
 refine Sn s2 ?_
 intro v s3
 obtain ⟨_,_,_,_,_,_,_,vcell,vcells⟩:=s3.facts
 obtain ⟨o3,lim3,low3,arg3,res3,box3⟩:=a.keep x2.next x2.lim x2.get
 have o3:=o3.new (i:=1) (by simp [CZ]) s3
 have e4:(CZ ow vp .ns .ns o1 .ns C.parts [] []).set 1 (6,v,C.chans.map A1.enc)=CZ ow vp v .ns o1 .ns C.parts C.chans []:=rfl
 rw [e4] at o3
 have a3:=KS.mk2 (ow:=ow) (C:=C) o3 lim3 low3 arg3 res3
 have harg3:=arg3
 have hl2:=x2.lim
 simp only [An.enc] at harg3
 clear e4 s2 s3 o3 low3 res3 arg3 harg a
 simp (disch:=omega)only[go_sem, *]
 refine Sv hlo hTl a3 (by simp (disch:=omega)only[go_sem, *]) (by simp (disch:=omega)only[go_sem, *]) (by simp (disch:=omega)only[go_sem, *]) (by simp (disch:=omega)only[go_sem, *]) (by simp (disch:=omega)only[go_sem, *]) ?_
 clear e1 e2 e3 a3 harg3 box3 hn2 lim3 hl1 hl2 x2 hbq
 intro e h1 vt o2 e2 e3 a
 have hbox:=a.box
 have hres:=a.res
 have hbq:=a.own.bq
 have hlq:h1.lim≤h.next:=by rw [a.lim];exact hlo
 have f:=kk vp v vt o1 o2 (h1.put (h.next+1) ⟨3,[[vp,v,vt]]⟩) (a.own.put _ _ (.inl (by omega))) a.lim (fun i hi=>by rw [Ae,Ag (by omega)];exact a.low i hi)
 obtain ⟨c1,c2⟩:=LX (a.own.sl 0 (11,vp,_) rfl)
 obtain ⟨c3,c4⟩:=LX (a.own.sl 1 (6,v,_) rfl)
 obtain ⟨c5,c6⟩:=LX (a.own.sl 2 (1,vt,_) rfl)
 dsimp only at c1 c2 c3 c4 c5 c6
 clear kk
 simp (disch:=omega)only[go_sem, *]
theorem dR {C:An}:Pf tp V9 [.agg C.enc] (.agg C.enc):=by
 refine AE aC5 (by simp [J8]) fun rp=>?_
 have hcl:=FZ.len (rp.head.agg (.fl 6 (C.chans.map A1.enc)) (by simp [An.enc]))
 have hpl:=FZ.len (rp.head.agg (.fl 11 (C.parts.map Part.enc)) (by simp [An.enc]))
 have htl:=FZ.len (rp.head.agg (.fl 1 (C.tables.map Tab.enc)) (by simp [An.enc]))
 refine Su (ow:=false) (Nat.zero_le _) hpl htl ?_
 intro vp vc vt o1 o2 h2 o hl low
 have s0:=o.sl 0 _ rfl
 have s1:=o.sl 1 _ rfl
 have s2:=o.sl 2 _ rfl
 simp only [Yc,Yd] at s0 s1 s2
 exact .agg _ _ _ (.cons _ _ _ _ _ (s0.froze (fun _=>rfl) trivial hpl) (.cons _ _ _ _ _ (s1.froze (fun _=>rfl) trivial hcl) (.cons _ _ _ _ _ (s2.froze (fun _=>rfl) trivial htl) (.nil _))))
end Go.Ab.T
namespace Go.Ab.T
open Go Go.Ab
set_option maxHeartbeats 4000000
/-! Instructions. -/
structure F3 where
 op:Int
 a:Int
 b:Int
 c:Int
 deriving DecidableEq,Inhabited
@[go_sem] def F3.enc (x:F3):List V:=[.i .i64 x.op,.i .i64 x.a,.i .i64 x.b,.i .i64 x.c]
def CR (op:Int):Bool×Bool×Bool:=if op=1∨op=9∨op=10∨op=13∨op=14∨op=15 then (true,false,false) else if op=2∨op=3∨op=4∨op=5 then (true,true,true) else if op=6∨op=7 then (true,true,false) else if op=11∨op=12 then (false,true,false) else (false,false,false)
theorem Xi {op:Int}:Pf tp Wz [.i .i64 op] (.tup [.b (CR op).1,.b (CR op).2.1,.b (CR op).2.2]):=by
 refine AE aDw (by simp [NX]) fun rp=>?_;unfold NX;simp (disch:=omega)only[go_sem, *]
 repeat' (first | (refine Av (fun hc=>?_) (fun hc=>?_)<;>simp (disch:=omega)only[go_sem, *]) | (refine Aa (fun hc=>?_) (fun hc=>?_)<;>simp (disch:=omega)only[go_sem, *]))
 all_goals (unfold CR;simp [*])
def Db (n:Int) (r:Bool):Bool:=decide (0≤n∧n≤255)&&(!r||decide (n<8))
theorem Hs {n:Int} {r:Bool}:Pf tp WA [.i .i64 n,.b r] (.b (Db n r)):=by
 cases r
 ·refine AE VW (by simp [Ke]) fun rp=>?_;unfold Ke;simp (disch:=omega)only[go_sem, *]
  repeat' (first | (refine Av (fun hc=>?_) (fun hc=>?_)<;>simp (disch:=omega)only[go_sem, *]) | (refine Aa (fun hc=>?_) (fun hc=>?_)<;>simp (disch:=omega)only[go_sem, *]))
  all_goals (unfold Db;simp;omega)
 ·refine AE VW (by simp [Ke]) fun rp=>?_;unfold Ke;simp (disch:=omega)only[go_sem, *]
  repeat' (first | (refine Av (fun hc=>?_) (fun hc=>?_)<;>simp (disch:=omega)only[go_sem, *]) | (refine Aa (fun hc=>?_) (fun hc=>?_)<;>simp (disch:=omega)only[go_sem, *]))
  all_goals (unfold Db;simp [*];try omega)
def Gj (i:F3):Bool:=decide (0≤i.op∧i.op≤17)&&(Db i.a (CR i.op).1&&(Db i.b (CR i.op).2.1&&Db i.c (CR i.op).2.2))
theorem SM {i:F3}:Pf tp Wj [.agg i.enc] (.b (Gj i)):=by
 have t1:=Xi (op:=i.op)
 have t2:=Hs (n:=i.a) (r:=(CR i.op).1)
 have t3:=Hs (n:=i.b) (r:=(CR i.op).2.1)
 have t4:=Hs (n:=i.c) (r:=(CR i.op).2.2)
 have e:Gj i=(decide (0≤i.op∧i.op≤17)&&(Db i.a (CR i.op).1&&(Db i.b (CR i.op).2.1&&Db i.c (CR i.op).2.2))):=rfl
 simp only [F3.enc]
 generalize (CR i.op).1=a at *
 generalize (CR i.op).2.1=b at *
 generalize (CR i.op).2.2=c at *
 generalize Db i.a a=x at *
 generalize Db i.b b=y at *
 generalize Db i.c c=z at *
 refine AE aDd (by simp [NE]) fun rp=>?_;unfold NE;simp (disch:=omega)only[go_sem, *]
 refine Pf.go (t1) (by simp only [go_sem]) fun _=>?_;simp (disch:=omega)only[go_sem, *]
 clear t1
 repeat' (first | (refine Av (fun hc=>?_) (fun hc=>?_)<;>simp (disch:=omega)only[go_sem, *]) | (refine Aa (fun hc=>?_) (fun hc=>?_)<;>simp (disch:=omega)only[go_sem, *]) | (refine Cw (fun hc=>?_) (fun hc=>?_)<;>simp (disch:=omega)only[go_sem, *]) | (refine Bh (fun hc=>?_) (fun hc=>?_)<;>simp (disch:=omega)only[go_sem, *]) | (refine Pf.go (t2) (by simp only [go_sem]) fun _=>?_;simp (disch:=omega)only[go_sem, *]) | (refine Pf.go (t3) (by simp only [go_sem]) fun _=>?_;simp (disch:=omega)only[go_sem, *]) | (refine Pf.go (t4) (by simp only [go_sem]) fun _=>?_;simp (disch:=omega)only[go_sem, *]))
 all_goals (clear t2 t3 t4;simp_all)
def CL (P:List Int) (pc:Int):F3×Bool:=if pc<0∨pc.tmod 4≠0∨(P.length:Int) - 4<pc then (⟨0,0,0,0⟩,false) else (⟨nth P pc.toNat,nth P (pc.toNat+1),nth P (pc.toNat+2),nth P (pc.toNat+3)⟩,true)
theorem SK {P:List Int} {pc:Int} (hB:∀ z∈P,0≤z∧z<256):Pf tp Wi [.fl 1 (P.map FW),.i .i64 pc] (.tup [.agg (CL P pc).1.enc,.b (CL P pc).2]):=by
 have bad:pc<0∨pc.tmod 4≠0∨(P.length:Int) - 4<pc→CL P pc=(⟨0,0,0,0⟩,false):=fun h=>if_pos h
 refine AE aDc (by simp [ND]) fun rp=>?_
 have hL:=rp.head.len
 unfold ND
 simp (disch:=omega)only[go_sem, *]
 refine Av (fun hc=>?_) (fun hc=>?_)
 ·have e:=bad (.inl hc)
  clear bad
  simp (disch:=omega)only[go_sem, *]
 ·simp (disch:=omega)only[go_sem, *]
  refine Av (fun hc2=>?_) (fun hc2=>?_)
  ·have e:=bad (.inr (.inl hc2))
   clear bad
   simp (disch:=omega)only[go_sem, *]
  ·simp (disch:=omega)only[go_sem, *]
   refine Aa (fun hc3=>?_) (fun hc3=>?_)
   ·have e:=bad (.inr (.inr hc3))
    clear bad
    simp (disch:=omega)only[go_sem, *]
   ·obtain ⟨k,rfl⟩:∃ k:Nat,pc=k:=⟨pc.toNat,by omega⟩
    have e:CL P k=(⟨nth P k,nth P (k+1),nth P (k+2),nth P (k+3)⟩,true):=by
     unfold CL
     rw [if_neg (by omega)]
     rfl
    clear bad hc2
    have b0:=hB _ (AP (L:=P) (j:=k) (by omega))
    have b1:=hB _ (AP (L:=P) (j:=k+1) (by omega))
    have b2:=hB _ (AP (L:=P) (j:=k+2) (by omega))
    have b3:=hB _ (AP (L:=P) (j:=k+3) (by omega))
    have k1:((k:Int)+1).toNat=k+1:=by omega
    have k2:((k:Int)+2).toNat=k+2:=by omega
    have k3:((k:Int)+3).toNat=k+3:=by omega
    simp (disch:=omega)only[go_sem, *]
def SL (x:F3):Int:=256*x.b+x.c
def F3.ok (x:F3):Prop:=(0≤x.a∧x.a≤255)∧(0≤x.b∧x.b≤255)∧(0≤x.c∧x.c≤255)
theorem w32 {n:Int} (h0:0≤n) (h1:n<4294967296):IntKind.wrap .u32 n=n:=by
 unfold IntKind.wrap;simp [IntKind.bits,IntKind.signed];omega
theorem P7 {x:F3} (h:x.ok):Pf tp WB [.agg x.enc] (.i .u32 (SL x)):=by
 obtain ⟨_,⟨b0,b1⟩,⟨c0,c1⟩⟩:=h
 have e1:IntKind.wrap .u32 x.b=x.b:=w32 (by omega) (by omega)
 have e2:IntKind.wrap .u32 x.c=x.c:=w32 (by omega) (by omega)
 have e3:IntKind.wrap .u32 (x.b*256)=x.b*256:=w32 (by omega) (by omega)
 have e4:IntKind.wrap .u32 (x.b*256+x.c)=SL x:=by rw [w32 (by omega) (by omega)];unfold SL;omega
 simp only [F3.enc]
 refine AE aDx (by simp [NY]) fun rp=>?_;unfold NY;simp (disch:=omega)only[go_sem, *]
end Go.Ab.T
namespace Go.Ab.T
open Go Go.Ab
set_option maxHeartbeats 16000000
set_option maxRecDepth 4000
def IsY (l:List Int):Prop:=∀ z∈l,0≤z∧z<256
section
variable {h:AH} {id k:Nat} {L:List Int} {C:An} {K:V→AH→Prop}
end
end Go.Ab.T
namespace Go.Ab.T
open Go Go.Ab
set_option maxHeartbeats 4000000
theorem QI {tp : TP} {f : Nat} {args args' : List V} {h h2 : AH} {K : V → AH → Prop} (P : Nat → Prop) (hn : h2.next = h.next) (hl : h2.lim = h.lim)
    (hb:Wf h→∀ i k,h2.get i=some k→i<h2.next∧¬ P i∧∃ cs,h.get i=some ⟨k.sz,cs⟩∧DI P h h2.next cs k.cs) (hz:BX P h h2.next args args') (z:Cq tp f args' h2 K):Cq tp f args h K:=by
 intro S m hc args1 c p
 have wf:=c.wf
 have st:∀ r R,CY P h h2.next r R→Cn h h r P R h2:=fun r R f=>⟨Nat.le_of_eq hn.symm,hl,Nat.le_of_eq hn,hb wf,f⟩
 obtain ⟨q1,q2,_⟩:=(st .u .u (.z _ _ .u)).ok c c (EH.refl c) (.u _ .u)
 have hz2:=BX.ok c hz p
 refine (z _ m hc args1 q1 hz2).imp ?_
 rintro r1 hc' ⟨r,h',S',m',c',a',q,k⟩
 exact ⟨r,h',S',m',c',q2.trans a',q,k⟩
def kP:Part:=⟨⟨#[97]⟩,0,0,false,false,[⟨0,0⟩],0,0,0,0,0⟩
theorem gA:D3 kP.name=true:=by unfold D3;decide
theorem aPT:C0 1 [⟨1,0,1⟩]:=by
 refine C0.of (by omega) ?_ (C5.one (by simp) (by simp))
 have e:([⟨1,0,1⟩]:List Node)=(Fo.leaf ⟨1,0,1⟩ .nil).flat:=rfl
 have hr:A7 [⟨1,0,1⟩]=0:=by
  rw [e]
  exact Jv ⟨rfl,trivial⟩ rfl (by simp [Fo.depth]) (by simp [Fo.len]) (by simp [Fo.flat])
 rw [Fm hr]
 obtain ⟨_,ho,hc1,hL,hd,hl⟩:=FE hr
 have hap:=Fo.runs_allpos _ ho
 have hsum:=Fo.runs_sum _ ho
 have hrl:=Fo.runs_len _ ho
 have ht:=L3 hap (by omega)
 have:(EV [⟨1,0,1⟩]).len=1:=by
  have m1:=(Bx ho hc1).2
  have m2:=(Bx (f:=Fo.leaf ⟨1,0,1⟩ .nil) ⟨rfl,trivial⟩ rfl).2
  rw [← hL] at m1
  rw [← e] at m2
  rw [m1] at m2
  have l2:(Fo.leaf ⟨1,0,1⟩ .nil).len=1:=rfl
  rw [l2] at m2
  omega
 rw [if_neg (by unfold gU;have:=ht.len;omega)]
theorem Xp:Bb ⟨[],[],[]⟩=(3,0):=if_pos (by decide)
theorem Lw {P:Nat→Prop} {h:AH} {n id sz:Nat} {r r':List V} (hP:P id) (hg:h.get id=some ⟨sz,[r]⟩) (q:BX P h 0 r r'):CY P h n (.sl id 0 1 1) (.fl sz [r']):=
 .sl _ _ _ _ _ _ [r] _ hP hg (by simp) (by omega) (by decide) (.cons _ _ _ _ _ q (.nil _))
end Go.Ab.T
namespace Go.Ab.T
open Go Go.Ab
set_option maxHeartbeats 4000000
/-! Processes. -/
structure PR where
 prio:Int
 wake:Int
 ended:Bool
 deriving DecidableEq,Inhabited
@[go_sem] def PR.enc (x:PR):List V:=[.i .i64 x.prio,.i .i64 x.wake,.b x.ended]
@[go_sem] def DZ (n:Nat):List V:=[.i .i64 (n:Int)]
structure Wr (h:AH) (I:Nat→Prop) (h':AH):Prop where
 next:h.next≤h'.next
 lim:h'.lim=h.lim
 get:∀ i,i<h.next→¬ I i→h'.get i=h.get i
section
variable {h h1 h2:AH} {I J:Nat→Prop}
theorem Wr.refl:Wr h I h:=⟨Nat.le_refl _,rfl,fun _ _ _=>rfl⟩
theorem Wr.trans (a:Wr h I h1) (b:Wr h1 J h2) (s:∀ i,i<h.next→J i→I i):Wr h I h2:=
 ⟨Nat.le_trans a.next b.next,b.lim.trans a.lim,fun i hi hn=>(b.get i (Nat.lt_of_lt_of_le hi a.next) (fun q=>hn (s i hi q))).trans (a.get i hi hn)⟩
theorem Wr.put {k:BA} {j:Nat} (a:Wr h I h1) (hj:h.next≤j∨I j):Wr h I (h1.put j k):=
 ⟨a.next,a.lim,fun i hi hn=>by rw [Ae,Ag (fun e=>by subst e;exact hj.elim (fun q=>by omega) hn)];exact a.get i hi hn⟩
theorem Wr.alloc {k:BA} (a:Wr h I h1):Wr h I (h1.alloc k):=
 ⟨Nat.le_succ_of_le a.next,a.lim,fun i hi hn=>by have:=a.next;rw [AV,Ag (by omega)];exact a.get i hi hn⟩
theorem Wr.ext (a:Wr h I h1) (x:Aq h1 h2):Wr h I h2:=⟨Nat.le_trans a.next x.next,x.lim.trans a.lim,fun i hi hn=>by rw [x.get i (Nat.lt_of_lt_of_le hi a.next)];exact a.get i hi hn⟩
theorem Wr.grown {b:Nat} {v w:V} (a:Wr h I h1) (g:Grown b h1 v w h2) (hv:AF v=true∨I (Ar v)∨h.next≤Ar v):Wr h I h2:=
 ⟨Nat.le_trans a.next g.next,g.lim.trans a.lim,fun i hi hn=>by
  rw [g.get i (Nat.lt_of_lt_of_le hi a.next) (hv.imp (fun x=>x) (fun x e=>by subst e;exact x.elim hn (fun q=>by omega)))];exact a.get i hi hn⟩
end
@[go_sem] theorem aQn {k:IntKind} {n:Int}:plain (.i k n)=true:=Ak rfl
theorem XE {a:Int}:Pf tp P6 [.i .i64 a] (.b false):=by
 refine AE fM (by simp [J7]) fun rp=>?_;unfold J7;simp (disch:=omega)only[go_sem, *]
def IJ (a b:Int):Int:=if a<b then -1 else if b<a then 1 else 0
theorem IM {a b:Int}:Pf tp P5 [.i .i64 a,.i .i64 b] (.i .i64 (IJ a b)):=by
 have e1:a<b→IJ a b = -1:=fun h=>if_pos h
 have e2:¬ a<b→b<a→IJ a b=1:=fun h h2=>by unfold IJ;rw [if_neg h,if_pos h2]
 have e3:¬ a<b→¬ b<a→IJ a b=0:=fun h h2=>by unfold IJ;rw [if_neg h,if_neg h2]
 refine AE fL (by simp [J6]) fun rp=>?_;unfold J6;simp (disch:=omega)only[go_sem, *]
 refine Pf.go (XE) (by simp only [go_sem]) fun _=>?_;simp (disch:=omega)only[go_sem, *]
 refine Pf.go (XE) (by simp only [go_sem]) fun _=>?_;simp (disch:=omega)only[go_sem, *]
 refine Aa (fun hc=>?_) (fun hc=>?_)
 ·have e:=e1 hc
  simp (disch:=omega)only[go_sem, *]
 ·simp (disch:=omega)only[go_sem, *]
  refine Aa (fun hc2=>?_) (fun hc2=>?_)
  ·have e:=e2 hc hc2
   simp (disch:=omega)only[go_sem, *]
  ·have e:=e3 hc hc2
   simp (disch:=omega)only[go_sem, *]
theorem aCQ {a b:Int}:Pf tp P4 [.fl 1 ([a,b].map Ek)] (.i .i64 (if a=0 then b else a)):=by
 have c2:((2:Nat):Int)=2:=rfl
 refine AE fK (by simp [J5]) fun rp=>?_;unfold J5;simp (disch:=omega)only[go_sem, *]
 refine BH ?_
 rw [Am Lb.eq_1]
 simp (disch:=omega)only[go_sem, *]
 refine Aa (fun hc=>?_) (fun hc=>?_)
 ·have e:(if a=0 then b else a)=a:=if_neg hc
  simp (disch:=omega)only[go_sem, *]
 ·have e:(if a=0 then b else a)=b:=if_pos (Classical.not_not.1 hc)
  clear hc
  simp (disch:=omega)only[go_sem, *]
  refine BH ?_
  rw [Am Lb.eq_1]
  simp (disch:=omega)only[go_sem, *]
  refine Aa (fun hc2=>?_) (fun hc2=>?_)
  ·simp (disch:=omega)only[go_sem, *]
  ·have e2:b=0:=Classical.not_not.1 hc2
   clear hc2
   subst e2
   simp (disch:=omega)only[go_sem, *]
   refine BH ?_
   rw [Am Lb.eq_1]
   simp (disch:=omega)only[go_sem, *]
def KN (P:List PR) (a c:Nat):Bool:=decide ((if IJ (nth P a).prio (nth P c).prio=0 then IJ a c else IJ (nth P a).prio (nth P c).prio)<0)
theorem Rv {b b2 rb i j:Nat} {h:AH} {lv w:V} {P:List PR} {R:List Nat} {K:V→AH→Prop} (hr:h.get rb=some ⟨2,[[lv,w]]⟩) (sl:Sl b h 1 lv (R.map DZ)) (sw:Sl b2 h 3 w (P.map PR.enc)) (hi:i<R.length) (hj:j<R.length) (hR:∀ x∈R,x<P.length) (kk:K (.b (KN P (nth R i) (nth R j))) h):Cq tp LB [.p rb 0 0,.i .i64 i,.i .i64 j] h K:=by
 have ri:=hR _ (AP hi)
 have rj:=hR _ (AP hj)
 obtain ⟨_,_,lt1,_,get1,at1,row1,_,_⟩:=sl.facts
 obtain ⟨_,_,lt2,_,get2,at2,row2,_,_⟩:=sw.facts
 have g1:=get1 (by omega)
 have g2:=get2 (by omega)
 have a1:=at1 .i64 i (A2 h lv) (by omega) (by omega)
 have a2:=at1 .i64 j (A2 h lv) (by omega) (by omega)
 have a3:=at2 .i64 ((nth R i:Nat):Int) (A2 h w) (by omega) (by omega)
 have a4:=at2 .i64 ((nth R j:Nat):Int) (A2 h w) (by omega) (by omega)
 have r1:=row1 i hi
 have r2:=row1 j hj
 have r3:=row2 (nth R i) ri
 have r4:=row2 (nth R j) rj
 simp only [DZ,PR.enc] at r1 r2 r3 r4
 simp only [Int.toNat_natCast] at a1 a2 a3 a4
 clear lt1 lt2 get1 get2 at1 at2 row1 row2 sl sw hR
 unfold KN at kk
 refine Ie fG (by simp [J1]) (kk) fun hlm rp=>?_;unfold J1;simp (disch:=omega)only[go_sem, *]
 refine Pf.go (IM) (by simp only [go_sem]) fun _=>?_;simp (disch:=omega)only[go_sem, *]
 refine Pf.go (IM) (by simp only [go_sem]) fun _=>?_;simp (disch:=omega)only[go_sem, *]
 clear r1 r2 r3 r4 a1 a2 a3 a4 g1 g2
 generalize IJ (nth P (nth R i)).prio (nth P (nth R j)).prio=x at *
 generalize IJ ((nth R i:Nat):Int) ((nth R j:Nat):Int)=y at *
 refine Pf.look (aCQ (a:=x) (b:=y)) (.cons _ _ _ _ _ (Sl.froze (Sl.raise (Sl.new (b:=0) (N:=[x,y].map Ek) (Nat.zero_le _) (by simp))) (fun _=>rfl) trivial (by simp)) (.nil _)) rfl fun _=>?_
 simp (disch:=omega)only[go_sem, *]
 (repeat (first | exact Aq.refl _ | refine Aq.alloc ?_ _ | (refine Aq.put ?_ _ _ ?_;rotate_left;(first | omega | (simp only [Af,Ai];omega)))))
def EE (R:List Nat) (i j:Nat):List Nat:=(R.set i (nth R j)).set j (nth R i)
theorem GE {h:AH} {v:V} {sz:Nat} {cs:List (List V)}:A2 (h.put (Ar v) ⟨sz,cs⟩) v=cs:=by
 unfold A2;rw [Ae,Ax rfl]
theorem LZ {b rb i j : Nat} {h : AH} {lv w : V} {R : List Nat} {K : V → AH → Prop} (hr : h.get rb = some ⟨2, [[lv, w]]⟩) (sl : Sl b h 1 lv (R.map DZ)) (hi : i < R.length) (hj : j < R.length) (hb : h.lim ≤ b) (hne : Ar lv ≠ rb)
    (kk:∀ h',Wr h (·=Ar lv) h'→Sl b h' 1 lv ((EE R i j).map DZ)→K (.tup []) h'):Cq tp Ja [.p rb 0 0,.i .i64 i,.i .i64 j] h K:=by
 obtain ⟨_,_,lt1,lo1,get1,at1,row1,_,_⟩:=sl.facts
 have g0:=lt1 (by omega)
 have g1:=get1 (by omega)
 have g2:=lo1 (by omega)
 have s1:=Sl.setT (x:=nth R j) (h':=h.put (Ar lv) ⟨1,(A2 h lv).set (Cx lv+i) (DZ (nth R j))⟩) sl hi (Nat.le_refl _) (by rw [Ae,Ax rfl])
 have s2:=Sl.setT (j:=j) (x:=nth R i) (h':=(h.put (Ar lv) ⟨1,(A2 h lv).set (Cx lv+i) (DZ (nth R j))⟩).put (Ar lv) ⟨1,((A2 h lv).set (Cx lv+i) (DZ (nth R j))).set (Cx lv+j) (DZ (nth R i))⟩) s1 (by simpa using hj) (Nat.le_refl _) (by rw [Ae,Ax rfl,GE])
 obtain ⟨_,_,_,_,_,at2,row2,_,_⟩:=s1.facts
 have a1:=at1 .i64 i (A2 h lv) (by omega) (by omega)
 have a2:=at1 .i64 j (A2 h lv) (by omega) (by omega)
 have a3:=at1 .i64 j ((A2 h lv).set (Cx lv+i) (DZ (nth R j))) (by omega) (by omega)
 have r1:=row1 i hi
 have r2:=row1 j hj
 have r3:=row2 j (by simpa using hj)
 rw [GE] at r3
 have w0:Wr h (·=Ar lv) ((h.put (Ar lv) ⟨1,(A2 h lv).set (Cx lv+i) (DZ (nth R j))⟩).put (Ar lv) ⟨1,((A2 h lv).set (Cx lv+i) (DZ (nth R j))).set (Cx lv+j) (DZ (nth R i))⟩):=((Wr.refl (I:=(·=Ar lv))).put (.inr rfl)).put (.inr rfl)
 have f:=kk _ w0 s2
 simp only [DZ] at r1 r2 r3 a3 f
 simp only [Int.toNat_natCast] at a1 a2 a3
 clear lt1 lo1 get1 at1 row1 at2 row2 kk w0 s1 s2
 refine Ac fJ (by simp [J4]) fun wf rp=>?_;unfold J4;simp (disch:=omega)only[go_sem, *]
 simpa only [LP] using f
theorem LT {b rb:Nat} {h:AH} {lv w:V} {R:List Nat} {K:V→AH→Prop} (hr:h.get rb=some ⟨2,[[lv,w]]⟩) (sl:Sl b h 1 lv (R.map DZ)) (kk:K (.i .i64 R.length) h):Cq tp MC [.p rb 0 0] h K:=by
 obtain ⟨len,_⟩:=sl.facts
 refine Ac aDu (by simp [NV]) fun wf rp=>?_;unfold NV;simp (disch:=omega)only[go_sem, *]
theorem Yi {b rb x : Nat} {h : AH} {lv w : V} {R : List Nat} {K : V → AH → Prop} (hr : h.get rb = some ⟨2, [[lv, w]]⟩) (sl : Sl b h 1 lv (R.map DZ)) (hb : h.lim ≤ b) (hbr : b ≤ rb) (hrn : rb < h.next) (hR : R.length < 4) (hne : AF lv = true ∨ Ar lv ≠ rb)
    (kk:∀ h' v,Wr h (fun i=>i=rb∨(AF lv=false∧i=Ar lv)) h'→h'.get rb=some ⟨2,[[v,w]]⟩→Sl b h' 1 v ((R++[x]).map DZ)→Ar v≠rb→K (.tup []) h'):Cq tp I9 [.p rb 0 0,.ifc 3 (.i .i64 x)] h K:=by
 have hsv:=Sl.sameV sl
 refine Ac fI (by simp [J3]) fun wf rp=>?_;unfold J3;simp (disch:=omega)only[go_sem, *]
 refine AA (N:=[DZ x]) (sl.alloc ⟨1,[DZ x]⟩) ?_ ?_ ?_ ?_
 ·simp (disch:=omega)only[go_sem, *]
 ·simp (disch:=omega)only[go_sem, *]<;>omega
 ·simp;omega
 intro v h4 s4 g4
 have n4:=g4.next
 rw [Af] at n4
 have hnv:=AD s4
 have s5:Sl b h4 1 v ((R++[x]).map DZ):=by simpa using s4
 have hg:h4.get rb=some ⟨2,[[lv,w]]⟩:=by
  rw [g4.get rb (by rw [Af];omega) (hne.imp (fun x=>x) (fun x e=>x e.symm)),AV,Ag (by omega)];exact hr
 have hd:Ar v≠rb:=by
  rcases g4.own with q | ⟨q,e⟩ | q
  ·rcases s5 with ⟨_,z⟩ | ⟨_,_,_,_,rfl,_⟩
   ·simp at z
   ·cases q
  ·rw [e];exact hne.resolve_left (by rw [q];decide)
  ·rw [Af] at q;omega
 have wr:Wr h (fun i=>i=rb∨(AF lv=false∧i=Ar lv)) h4:=(Wr.refl.alloc).grown g4 (by
  cases hq:AF lv with
  | true=>exact .inl rfl
  | false=>exact .inr (.inl (.inr ⟨rfl,rfl⟩)))
 have f:=kk (h4.put rb ⟨2,[[v,w]]⟩) v (wr.put (.inr (.inl rfl))) (by rw [Ae,Ax rfl]) (AR s5 _ _ (.inr (fun e=>hd e.symm))) hd
 have l4:=g4.lim
 have c1:=g4.cell
 have c2:=g4.cells
 rw [A9] at l4
 clear kk g4 s4 s5 wr
 simp (disch:=omega)only[go_sem, *]
theorem iP {b rb n : Nat} {h : AH} {lv w : V} {R : List Nat} {K : V → AH → Prop} (hr : h.get rb = some ⟨2, [[lv, w]]⟩) (sl : Sl b h 1 lv (R.map DZ)) (hb : h.lim ≤ rb) (hn : R.length = n + 1)
    (kk:∀ h',Wr h (·=rb) h'→K (.ifc 3 (.i .i64 ((nth R n:Nat):Int))) h'):Cq tp I8 [.p rb 0 0] h K:=by
 obtain ⟨len,_,lt1,_,get1,at1,row1,c1,c2⟩:=sl.facts
 have g1:=get1 (by omega)
 have a1:=at1 .i64 n (A2 h lv) (by omega) (by omega)
 have r1:=row1 n (by omega)
 simp only [DZ] at r1
 rw [hn] at len
 have ec:((n+1:Nat):Int) - 1=n:=by omega
 have p1:=Sl.pre sl (k:=.i64) (j:=n) (cs:=A2 h lv) (by omega) (by simp;omega)
 have c3:=Fh (n:=n) c2
 simp only [Int.toNat_natCast] at p1
 have f:=fun k=>kk (h.put rb k) ((Wr.refl (I:=(·=rb))).put (.inr rfl))
 clear kk get1 at1 row1 lt1
 refine Ac fH (by simp [J2]) fun wf rp=>?_;unfold J2;simp (disch:=omega)only[go_sem, *]
end Go.Ab.T
namespace Go.Ab.T
open Go Go.Ab
set_option maxHeartbeats 4000000
structure RB (b:Nat) (h:AH) (rb:Nat) (lv w:V) (P:List PR) (R:List Nat):Prop where
 r:h.get rb=some ⟨2,[[lv,w]]⟩
 sl:Sl b h 1 lv (R.map DZ)
 sw:Sl 0 h 3 w (P.map PR.enc)
 lim:h.lim≤b
 br:b≤rb
 rn:rb<h.next
 ne:AF lv=true∨Ar lv≠rb
 nw:AF w=true∨Ar w<b
 hR:∀ x∈R,x<P.length
def Zi (P:List PR) (R:List Nat) (j:Nat):List Nat:=if j=0 then R else if KN P (nth R j) (nth R 0)=true then EE R 0 j else R
section
variable {b rb:Nat} {h h':AH} {lv w:V} {P:List PR} {R R':List Nat} {K:V→AH→Prop}
theorem RB.own (q:RB b h rb lv w P R) (hl:0<R.length):b≤Ar lv∧Ar lv≠rb:=by
 have hn:AF lv=false:=by
  rcases q.sl with ⟨_,z⟩ | ⟨_,_,_,_,rfl,_⟩
  ·rw [List.map_eq_nil_iff.1 z] at hl;cases hl
  ·rfl
 exact ⟨(AD q.sl).resolve_left (by rw [hn];decide),q.ne.resolve_left (by rw [hn];decide)⟩
theorem RB.re (q:RB b h rb lv w P R) (a:Wr h (·=Ar lv) h') (hl:0<R.length) (s:Sl b h' 1 lv (R'.map DZ)) (hR:∀ x∈R',x<P.length):RB b h' rb lv w P R':=by
 have o:=q.own hl
 refine ⟨(a.get _ q.rn (fun e=>o.2 e.symm)).trans q.r,s, ?_,by rw [a.lim];exact q.lim,q.br,Nat.lt_of_lt_of_le q.rn a.next,.inr o.2,q.nw,hR⟩
 rcases q.nw with z | z
 ·rcases q.sw with x | ⟨_,_,_,_,rfl,_⟩
  ·exact .inl x
  ·cases z
 ·exact q.sw.same a.next (fun hq=>a.get _ hq (by show Ar w≠Ar lv;omega))
theorem GY {i j:Nat} (hi:i<R.length) (hj:j<R.length) {n:Nat} (hR:∀ x∈R,x<n):∀ x∈EE R i j,x<n:=fun x hx=>by
 unfold EE at hx
 rcases List.mem_or_eq_of_mem_set hx with hx | rfl
 ·rcases List.mem_or_eq_of_mem_set hx with hx | rfl
  ·exact hR _ hx
  ·exact hR _ (AP hj)
 ·exact hR _ (AP hi)
theorem aEc {j:Nat} (q:RB b h rb lv w P R) (hj:j<R.length) (hj2:j≤2) (kk:∀ h',Wr h (·=Ar lv) h'→RB b h' rb lv w P (Zi P R j)→K (.tup []) h'):Cq tp Rm [.ifc 149 (.p rb 0 0),.i .i64 j] h K:=by
 have o:=q.own (by omega)
 by_cases h0:j=0
 ·subst h0
  have e:Zi P R 0=R:=rfl
  rw [e] at kk
  have f:=kk h Wr.refl q
  have d:IntKind.wrap .i64 ((-1:Int).tdiv 2)=0:=by decide
  clear kk q
  refine Ac VX (by simp [Kf]) fun wf rp=>?_;unfold Kf;simp (disch:=omega)only[go_sem, *]
  refine BH ?_
  rw [Am QR.eq_1]
  simp (disch:=omega)only[go_sem, *]
 ·have d:IntKind.wrap .i64 (((j:Int) - 1).tdiv 2)=0:=by
   have:j=1∨j=2:=by omega
   rcases this with rfl | rfl<;>decide
  have d2:IntKind.wrap .i64 ((-1:Int).tdiv 2)=0:=by decide
  have hz:(0:Nat)<R.length:=by omega
  have el:Zi P R j=if KN P (nth R j) (nth R 0)=true then EE R 0 j else R:=if_neg h0
  rw [el] at kk
  clear el
  refine Ac VX (by simp [Kf]) fun wf rp=>?_;unfold Kf;simp (disch:=omega)only[go_sem, *]
  refine BH ?_
  rw [Am QR.eq_1]
  simp (disch:=omega)only[go_sem, *]
  refine Av (fun hc=>absurd hc (by omega)) (fun _=>?_)
  simp (disch:=omega)only[go_sem, *]
  refine Rv (j:=0) q.r q.sl q.sw hj hz q.hR ?_
  by_cases hq:KN P (nth R j) (nth R 0)=true
  ·rw [if_pos hq] at kk
   simp (disch:=omega)only[go_sem, *]
   refine LZ (i:=0) q.r q.sl hz hj q.lim o.2 ?_
   intro h1 a s1
   have f:=kk h1 a (q.re a hz s1 (GY hz hj q.hR))
   clear kk
   simp (disch:=omega)only[go_sem, *]
   refine BH ?_
   rw [Am QR.eq_1]
   simp (disch:=omega)only[go_sem, *]
  ·rw [if_neg hq] at kk
   have f:=kk h Wr.refl q
   clear kk
   simp (disch:=omega)only[go_sem, *]
theorem aFc {j:Nat}:(Zi P R j).length=R.length:=by
 unfold Zi EE;split
 ·rfl
 ·split
  ·simp
  ·rfl
theorem V6 {x:Nat} (q:RB b h rb lv w P R) (hl:R.length≤2) (hx:x<P.length) (kk:∀ h' v,Wr h (b≤·) h'→RB b h' rb v w P (Zi P (R++[x]) R.length)→K (.tup []) h'):Cq tp Re [.ifc 149 (.p rb 0 0),.ifc 3 (.i .i64 x)] h K:=by
 have hb:=q.br
 have hn:=q.rn
 refine Ac aDt (by simp [NU]) fun wf rp=>?_;unfold NU;simp (disch:=omega)only[go_sem, *]
 refine Yi (x:=x) q.r q.sl q.lim q.br q.rn (by omega) q.ne ?_
 intro h1 v a1 r1 s1 d1
 have q1:RB b h1 rb v w P (R++[x]):=by
  have hown:=AD q.sl
  refine ⟨r1,s1, ?_,by rw [a1.lim];exact q.lim,hb,Nat.lt_of_lt_of_le hn a1.next,.inr d1,q.nw,fun y hy=>?_⟩
  ·rcases q.nw with z | z
   ·rcases q.sw with x | ⟨_,_,_,_,rfl,_⟩
    ·exact .inl x
    ·cases z
   ·exact q.sw.same a1.next (fun hq=>a1.get _ hq (fun e=>by
     rcases e with e | ⟨e1,e2⟩
     ·omega
     ·have:=hown.resolve_left (by rw [e1];decide);omega))
  ·rcases List.mem_append.1 hy with z | z
   ·exact q.hR y z
   ·rw [List.mem_singleton.1 z];exact hx
 have w1:Wr h (b≤·) h1:=⟨a1.next,a1.lim,fun i hi hn=>a1.get i hi (fun e=>by
  rcases e with e | ⟨e1,e2⟩
  ·exact hn (by rw [e];exact hb)
  ·have:=(AD q.sl).resolve_left (by rw [e1];decide);exact hn (by rw [e2];exact this))⟩
 have el:((R++[x]).length:Int) - 1=R.length:=by simp
 have ll:(R++[x]).length=R.length+1:=by simp
 clear s1 r1 a1 d1
 simp (disch:=omega)only[go_sem, *]
 refine LT q1.r q1.sl ?_
 simp (disch:=omega)only[go_sem, *]
 refine aEc (j:=R.length) q1 (by omega) (by omega) ?_
 intro h2 a2 q2
 have o:=q1.own (by omega)
 have f:=kk h2 v (w1.trans a2 (fun i hi e=>by rw [e];exact o.1)) q2
 clear kk
 simp (disch:=omega)only[go_sem, *]
theorem V4 {n:Nat} (q:RB b h rb lv w P R) (hn:n<R.length) (hn2:n≤2) (kk:∀ h' R' (r:Bool),Wr h (·=Ar lv) h'→RB b h' rb lv w P R'→R'.length=R.length→nth R' n=nth R n→K (.b r) h'):Cq tp Rn [.ifc 149 (.p rb 0 0),.i .i64 0,.i .i64 n] h K:=by
 have o:=q.own (by omega)
 have hz:(0:Nat)<R.length:=by omega
 have c1:((1:Nat):Int)=1:=rfl
 have c2:((2:Nat):Int)=2:=rfl
 have m0:(2:Int)*0=0:=rfl
 have m1:(2:Int)*1=2:=rfl
 have hnn:n=0∨n=1∨n=2:=by omega
 have f0:=fun r=>kk h R r Wr.refl q rfl rfl
 rcases hnn with rfl | rfl | rfl
 ·clear kk
  refine Ac Pv (by simp [G2]) fun wf rp=>?_;unfold G2;simp (disch:=omega)only[go_sem, *]
  refine BH ?_
  rw [Am Ix.eq_1]
  simp (disch:=omega)only[go_sem, *]
 ·clear kk
  refine Ac Pv (by simp [G2]) fun wf rp=>?_;unfold G2;simp (disch:=omega)only[go_sem, *]
  refine BH ?_
  rw [Am Ix.eq_1]
  simp (disch:=omega)only[go_sem, *]
 ·have h1:(1:Nat)<R.length:=by omega
  refine Ac Pv (by simp [G2]) fun wf rp=>?_;unfold G2;simp (disch:=omega)only[go_sem, *]
  refine BH ?_
  rw [Am Ix.eq_1]
  simp (disch:=omega)only[go_sem, *]
  refine Rv (i:=1) (j:=0) q.r q.sl q.sw h1 hz q.hR ?_
  cases KN P (nth R 1) (nth R 0) with
  | false=>
   clear kk
   simp (disch:=omega)only[go_sem, *]
  | true=>
   simp (disch:=omega)only[go_sem, *]
   refine LZ (i:=0) (j:=1) q.r q.sl hz h1 q.lim o.2 ?_
   intro h2 a s2
   have f:=fun r=>kk h2 (EE R 0 1) r a (q.re a hz s2 (GY hz h1 q.hR)) (by simp [EE]) (by
    unfold EE nth;rw [List.getD_eq_getElem?_getD,List.getElem?_set_ne (by decide),List.getElem?_set_ne (by decide),List.getD_eq_getElem?_getD])
   clear kk
   simp (disch:=omega)only[go_sem, *]
   refine BH ?_
   rw [Am Ix.eq_1]
   simp (disch:=omega)only[go_sem, *]
theorem Tx {n:Nat} (hn:R.length=n+1):nth (EE R 0 n) n=nth R 0:=by
 unfold EE
 rw [Bz (by simp;omega),List.getElem_set_self]
theorem fR {n:Nat} (q:RB b h rb lv w P R) (hn:R.length=n+1) (hn2:n≤2) (kk:∀ h',Wr h (b≤·) h'→K (.ifc 3 (.i .i64 ((nth R 0:Nat):Int))) h'):Cq tp Rf [.ifc 149 (.p rb 0 0)] h K:=by
 have o:=q.own (by omega)
 have ec:((n+1:Nat):Int) - 1=n:=by omega
 have hz:(0:Nat)<R.length:=by omega
 have hb:=q.br
 have hlm:=q.lim
 refine Ac aDv (by simp [NW]) fun wf rp=>?_;unfold NW;simp (disch:=omega)only[go_sem, *]
 refine LT q.r q.sl ?_
 simp (disch:=omega)only[go_sem, *]
 refine LZ (i:=0) (j:=n) q.r q.sl hz (by omega) q.lim o.2 ?_
 intro h1 a1 s1
 have q1:=q.re a1 hz s1 (GY hz (by omega) q.hR)
 have hl1:(EE R 0 n).length=n+1:=by simp [EE,hn]
 have e1:=Tx hn
 clear s1
 simp (disch:=omega)only[go_sem, *]
 refine V4 (n:=n) q1 (by omega) hn2 ?_
 intro h2 R2 r a2 q2 hl2 e2
 have hl3:R2.length=n+1:=hl2.trans hl1
 have l2:h2.lim≤rb:=by rw [a2.lim,a1.lim];omega
 simp (disch:=omega)only[go_sem, *]
 refine iP (n:=n) q2.r q2.sl l2 hl3 ?_
 intro h3 a3
 have w1:Wr h (b≤·) h1:=⟨a1.next,a1.lim,fun i hi hn=>a1.get i hi (fun e=>hn (by rw [e];exact o.1))⟩
 have w2:=w1.trans a2 (fun i _ e=>by rw [e];exact o.1)
 have f:=kk h3 (w2.trans a3 (fun i _ e=>by rw [e];exact hb))
 rw [← e1,←e2] at f
 clear kk e1 e2
 simp (disch:=omega)only[go_sem, *]
end
def De (P:List PR) (now:Int):List PR→Nat→List Nat→List Nat
 | [],_,R=>R
 | x::l,i,R=>De P now l (i+1) (if x.ended=false∧x.wake≤now then Zi P (R++[i]) R.length else R)
def Bt (P:List PR) (now:Int):Int:=if (De P now P 0 []).length=0 then -1 else ((nth (De P now P 0 []) 0:Nat):Int)
theorem RB.ext {b rb:Nat} {h h':AH} {lv w:V} {P:List PR} {R:List Nat} (q:RB b h rb lv w P R) (x:Aq h h'):RB b h' rb lv w P R:=
 ⟨(x.get _ q.rn).trans q.r,q.sl.ext x,q.sw.ext x,by rw [x.lim];exact q.lim,q.br,Nat.lt_of_lt_of_le q.rn x.next,q.ne,q.nw,q.hR⟩
theorem VM {h h1 h2:AH} (x:Aq h h1) (a:Wr h1 (h.next≤·) h2):Aq h h2:=
 ⟨Nat.le_trans x.next a.next,a.lim.trans x.lim,fun i hi=>(a.get i (Nat.lt_of_lt_of_le hi x.next) (by omega)).trans (x.get i hi)⟩
theorem aEM {K : Ex → Env → AH → Prop} {e : Env} {h h' : AH} {w lv : V} {P : List PR} {now : Int} (hP : P.length ≤ 3) (x : Aq h h') (q : RB h.next h' h.next lv w P []) (e1 : e 1 = .i .i64 now) (e5 : e 5 = .p h.next 0 0) (e17 : e 17 = w) (e18 : e 18 = .i .i64 P.length) (e19 : e 19 = .i .i64 0)
    (kk:∀ (e:Env) (h':AH) (lv:V),Aq h h'→RB h.next h' h.next lv w P (De P now P 0 [])→(De P now P 0 []).length≤3→e 5=.p h.next 0 0→K (.ex 0) e h'):ZC tp (.loop Uc) e h' K:=by
 refine Ah (fun n' e hh=>∃ (i:Nat) (lv:V) (R:List Nat),n'=P.length - i∧Aq h hh∧RB h.next hh h.next lv w P R∧e 1=.i .i64 now∧e 5=.p h.next 0 0∧e 17=w∧e 18=.i .i64 P.length∧e 19=.i .i64 i∧i≤P.length∧R.length≤i∧De P now (P.drop i) i R=De P now P 0 []) ?_ _ _ _ ⟨0,lv,[],rfl,x,q,e1,e5,e17,e18,e19,by omega,by simp,rfl⟩
 clear x q e1 e5 e17 e18 e19 e h'
 rintro n' e hh ⟨i,lv,R,rfl,x,q,e1,e5,e17,e18,e19,hi,hl,hz⟩ ih
 obtain ⟨_,_,_,_,wget,Id,wrow,_,_⟩:=q.sw.facts
 have hlm:=q.lim
 rw [Am Uc.eq_1]
 simp (disch:=omega)only[go_sem, *]
 refine Aa (fun hc=>?_) (fun hc=>?_)
 ·have hp:i<P.length:=by omega
  have g1:=wget (by omega)
  have a1:=Id .i64 i (A2 hh w) (by omega) (by omega)
  have r1:=wrow i hp
  have hxn:=x.next
  have hll:hh.lim≤hh.next:=by omega
  simp only [PR.enc] at r1
  simp only [Int.toNat_natCast] at a1
  rw [AI hp,De] at hz
  clear wget Id wrow
  obtain ⟨en,he⟩:∃ en,(nth P i).ended=en:=⟨_,rfl⟩
  obtain ⟨wk,hw⟩:∃ wk,(nth P i).wake=wk:=⟨_,rfl⟩
  rw [he,hw] at hz r1
  have X1:Aq hh ((hh.alloc ⟨3,[[.i .i64 0,.i .i64 0,.b false]]⟩).put hh.next ⟨3,[[.i .i64 (nth P i).prio,.i .i64 wk,.b en]]⟩):=by (repeat (first | exact Aq.refl _ | refine Aq.alloc ?_ _ | (refine Aq.put ?_ _ _ ?_;rotate_left;(first | omega | (simp only [Af,Ai];omega)))))
  have q1:=q.ext X1
  have x1:=x.trans X1
  clear x q X1 he hw
  cases en with
  | true=>
   rw [if_neg (by simp)] at hz
   simp (disch:=omega)only[go_sem, *]
   refine ih _ _ _ ?_ ⟨i+1,lv,R,rfl,x1,q1, ?_⟩
   ·omega
   ·clear ih kk x1 q1
    simp (disch:=omega)only[go_sem, *]
    ((repeat' refine And.intro ?_ ?_)<;>first | omega | assumption | (exact hz))
  | false=>
   simp (disch:=omega)only[go_sem, *]
   refine Aa (fun hc2=>?_) (fun hc2=>?_)
   ·rw [if_pos ⟨rfl,hc2⟩] at hz
    simp (disch:=omega)only[go_sem, *]
    refine V6 (x:=i) q1 (by omega) hp ?_
    intro h3 v a3 q3
    have x3:=VM x1 a3
    clear x1 q1 a3
    simp (disch:=omega)only[go_sem, *]
    refine ih _ _ _ ?_ ⟨i+1,v,Zi P (R++[i]) R.length,rfl,x3,q3, ?_⟩
    ·omega
    ·have hlu:(Zi P (R++[i]) R.length).length≤i+1:=by rw [aFc];simp;omega
     clear ih kk x3 q3
     simp (disch:=omega)only[go_sem, *]
     ((repeat' refine And.intro ?_ ?_)<;>first | omega | assumption | (exact hz) | (exact hlu))
   ·rw [if_neg (fun e=>hc2 e.2)] at hz
    simp (disch:=omega)only[go_sem, *]
    refine ih _ _ _ ?_ ⟨i+1,lv,R,rfl,x1,q1, ?_⟩
    ·omega
    ·clear ih kk x1 q1
     simp (disch:=omega)only[go_sem, *]
     ((repeat' refine And.intro ?_ ?_)<;>first | omega | assumption | (exact hz))
 ·obtain rfl:i=P.length:=by omega
  rw [List.drop_length,De] at hz
  rw [← hz] at kk
  simp (disch:=omega)only[go_sem, *]
  exact kk _ _ lv x q (by omega) e5
theorem hZ {b tb:Nat} {h:AH} {w:V} {P:List PR} {now:Int} {K:V→AH→Prop} (ht:h.get tb=some ⟨1,[[w]]⟩) (htn:tb<h.next) (sw:Sl b h 3 w (P.map PR.enc)) (hP:P.length≤3) (kk:K (.i .i64 (Bt P now)) h):Cq tp Wh [.p tb 0 0,.i .i64 now] h K:=by
 obtain ⟨wlen,_,_,_,_,_,_,c1,c2⟩:=sw.facts
 have hsw:=CW sw
 have sw0:Sl 0 h 3 w (P.map PR.enc):=Sl.weak sw (Nat.zero_le _)
 refine Ie aDb (by simp [NC]) (kk) fun hlm rp=>?_;unfold NC;simp (disch:=omega)only[go_sem, *]
 refine aEM (h:=h) (lv:=.ns) (w:=w) (P:=P) (now:=now) hP ?_ ⟨?_,Sl.nil _ _ _,sw0.ext ?_, ?_,Nat.le_refl _, ?_,.inl rfl,hsw,fun x hx=>by cases hx⟩ ?_ ?_ ?_ ?_ ?_ ?_
 any_goals (simp (disch:=omega)only[go_sem, *];done)
 any_goals (repeat (first | exact Aq.refl _ | refine Aq.alloc ?_ _ | (refine Aq.put ?_ _ _ ?_;rotate_left;(first | omega | (simp only [Af,Ai];omega)))))
 ·exact Nat.lt_succ_self _
 intro e h2 lv x q hl e5
 simp (disch:=omega)only[go_sem, *]
 refine LT q.r q.sl ?_
 unfold Bt
 generalize De P now P 0 []=R at *
 simp (disch:=omega)only[go_sem, *]
 refine Aa (fun hc=>?_) (fun hc=>?_)
 ·rw [if_pos (by omega)]
  simp (disch:=omega)only[go_sem, *]
 ·rw [if_neg (by omega)]
  simp (disch:=omega)only[go_sem, *]
  refine fR (n:=R.length - 1) q (by omega) (by omega) ?_
  intro h3 a3
  simp (disch:=omega)only[go_sem, *]
  exact VM x a3
end Go.Ab.T
namespace Go.Ab.T
open Go Go.Ab
set_option maxHeartbeats 4000000
section
variable {b tb:Nat} {h:AH} {w:V} {P:List PR} {K:V→AH→Prop}
theorem L5 {i:Int} (ht:h.get tb=some ⟨1,[[w]]⟩) (sw:Sl b h 3 w (P.map PR.enc)) (kk:K (.b (decide (0≤i∧i<P.length))) h):Cq tp WU [.p tb 0 0,.i .i64 i] h K:=by
 obtain ⟨wlen,_⟩:=sw.facts
 refine Ac aDP (by simp [Om]) fun wf rp=>?_;unfold Om;simp (disch:=omega)only[go_sem, *]
 refine Av (fun hc=>?_) (fun hc=>?_)
 ·have e:decide (0≤i∧i<(P.length:Int))=decide (i<(P.length:Int)):=by simp [hc]
  rw [e] at kk
  simp (disch:=omega)only[go_sem, *]
 ·have e:decide (0≤i∧i<(P.length:Int))=false:=by simp [hc]
  rw [e] at kk
  simp (disch:=omega)only[go_sem, *]
theorem Yt {i : Nat} {u : Int} (ht : h.get tb = some ⟨1, [[w]]⟩) (sw : Sl b h 3 w (P.map PR.enc)) (hi : i < P.length) (hb : h.lim ≤ b) (hd : Ar w ≠ tb)
    (kk:∀ h',Wr h (·=Ar w) h'→Sl b h' 3 w ((P.set i { nth P i with wake:=u }).map PR.enc)→K (.b true) h'):Cq tp Ri [.p tb 0 0,.i .i64 i,.i .i64 u] h K:=by
 obtain ⟨_,_,lt1,lo1,get1,at1,row1,_,_⟩:=sw.facts
 have g0:=lt1 (by omega)
 have g1:=get1 (by omega)
 have g2:=lo1 (by omega)
 have s1:=Sl.setT (x:={ nth P i with wake:=u }) (h':=h.put (Ar w) ⟨3,(A2 h w).set (Cx w+i) (PR.enc { nth P i with wake:=u })⟩) sw hi (Nat.le_refl _) (by rw [Ae,Ax rfl])
 have ht1:(h.put (Ar w) ⟨3,(A2 h w).set (Cx w+i) (PR.enc { nth P i with wake:=u })⟩).get tb=some ⟨1,[[w]]⟩:=by rw [Ae,Ag (fun e=>hd e.symm)];exact ht
 have f:=kk _ (Wr.put (Wr.refl (I:=(·=Ar w))) (.inr rfl)) s1
 have a1:=at1 .i64 i (A2 h w) (by omega) (by omega)
 have r1:=row1 i hi
 have el:decide (0≤(i:Int)∧(i:Int)<P.length)=true:=by simp;omega
 simp only [PR.enc] at r1 f ht1
 simp only [Int.toNat_natCast] at a1
 clear lt1 lo1 get1 at1 row1 kk
 refine Ac aDy (by simp [NZ]) fun wf rp=>?_;unfold NZ;simp (disch:=omega)only[go_sem, *]
 refine L5 ht sw ?_
 rw [el]
 simp (disch:=omega)only[go_sem, *]
 simp only [PR.enc] at s1
 refine L5 (i:=i) ht1 s1 ?_
 rw [List.length_set,el]
 simp (disch:=omega)only[go_sem, *]
theorem hU {i : Nat} (ht : h.get tb = some ⟨1, [[w]]⟩) (sw : Sl b h 3 w (P.map PR.enc)) (hi : i < P.length) (hb : h.lim ≤ b) (hd : Ar w ≠ tb)
    (kk:∀ h',Wr h (·=Ar w) h'→Sl b h' 3 w ((P.set i { nth P i with ended:=true }).map PR.enc)→K (.b true) h'):Cq tp Rj [.p tb 0 0,.i .i64 i] h K:=by
 obtain ⟨_,_,lt1,lo1,get1,at1,row1,_,_⟩:=sw.facts
 have g0:=lt1 (by omega)
 have g1:=get1 (by omega)
 have g2:=lo1 (by omega)
 have s1:=Sl.setT (x:={ nth P i with ended:=true }) (h':=h.put (Ar w) ⟨3,(A2 h w).set (Cx w+i) (PR.enc { nth P i with ended:=true })⟩) sw hi (Nat.le_refl _) (by rw [Ae,Ax rfl])
 have ht1:(h.put (Ar w) ⟨3,(A2 h w).set (Cx w+i) (PR.enc { nth P i with ended:=true })⟩).get tb=some ⟨1,[[w]]⟩:=by rw [Ae,Ag (fun e=>hd e.symm)];exact ht
 have f:=kk _ (Wr.put (Wr.refl (I:=(·=Ar w))) (.inr rfl)) s1
 have a1:=at1 .i64 i (A2 h w) (by omega) (by omega)
 have r1:=row1 i hi
 have el:decide (0≤(i:Int)∧(i:Int)<P.length)=true:=by simp;omega
 simp only [PR.enc] at r1 f ht1
 simp only [Int.toNat_natCast] at a1
 clear lt1 lo1 get1 at1 row1 kk
 refine Ac aDz (by simp [N0]) fun wf rp=>?_;unfold N0;simp (disch:=omega)only[go_sem, *]
 refine L5 ht sw ?_
 rw [el]
 simp (disch:=omega)only[go_sem, *]
 simp only [PR.enc] at s1
 refine L5 (i:=i) ht1 s1 ?_
 rw [List.length_set,el]
 simp (disch:=omega)only[go_sem, *]
def BL (P:List PR):List PR:=P.map fun x=>⟨x.prio,0,false⟩
theorem Qp {i:Nat} (hi:i<P.length):(BL (P.take i)++P.drop i).set i ⟨(nth (BL (P.take i)++P.drop i) i).prio,0,false⟩=BL (P.take (i+1))++P.drop (i+1):=by
 have hl:(BL (P.take i)).length=i:=by unfold BL;rw [List.length_map,List.length_take];omega
 rw [AI hi,List.set_append_right _ _ (by omega),hl,Nat.sub_self,List.set_cons_zero]
 have hn:nth (BL (P.take i)++nth P i::P.drop (i+1)) i=nth P i:=by
  rw [Bz (by simp [hl]),List.getElem_append_right (by omega)]
  simp [hl]
 rw [hn,Dg hi]
 unfold BL
 rw [List.map_append,List.append_assoc]
 rfl
theorem TE (ht:h.get tb=some ⟨1,[[w]]⟩) (sw:Sl b h 3 w (P.map PR.enc)) (hb:h.lim≤b) (hd:Ar w≠tb)
    (kk:∀ h',Wr h (·=Ar w) h'→Sl b h' 3 w ((BL P).map PR.enc)→K (.tup []) h'):Cq tp Rd [.p tb 0 0] h K:=by
 obtain ⟨wlen,_,_,_,_,_,_,_,_⟩:=sw.facts
 refine Ac aDs (by simp [NT]) fun wf rp=>?_;unfold NT;simp (disch:=omega)only[go_sem, *]
 refine Ah (fun n' e hh=>∃ (i:Nat) (Q:List PR),n'=P.length - i∧Wr h (·=Ar w) hh∧hh.get tb=some ⟨1,[[w]]⟩∧Sl b hh 3 w (Q.map PR.enc)∧Q.length=P.length∧BL (P.take i)++P.drop i=Q∧e 0=.p tb 0 0∧e 7=.i .i64 P.length∧e 8=.i .i64 i∧i≤P.length) ?_ _ _ _ ⟨0,P,rfl,Wr.refl,ht,sw,rfl,by simp [BL], ?_⟩
 ·rintro n' e hh ⟨i,Q,rfl,wr,ht,sw,hQ,hz,e0,e7,e8,hi⟩ ih
  have hlm:=wr.lim
  rw [Am nL.eq_1]
  simp (disch:=omega)only[go_sem, *]
  refine Aa (fun hc=>?_) (fun hc=>?_)
  ·have hp:i<Q.length:=by omega
   obtain ⟨_,_,lt1,lo1,get1,at1,row1,_,_⟩:=sw.facts
   have g0:=lt1 (by omega)
   have g1:=get1 (by omega)
   have g2:=lo1 (by omega)
   have r1:=row1 i hp
   have a1:=at1 .i64 i (A2 hh w) (by omega) (by omega)
   have a2:=at1 .i64 i ((A2 hh w).set (Cx w+i) (PR.enc { nth Q i with wake:=0 })) (by omega) (by omega)
   have s1:=Sl.setT (x:={ nth Q i with wake:=0 }) (h':=hh.put (Ar w) ⟨3,(A2 hh w).set (Cx w+i) (PR.enc { nth Q i with wake:=0 })⟩) sw hp (Nat.le_refl _) (by rw [Ae,Ax rfl])
   have s2:=Sl.setT (j:=i) (x:=⟨(nth Q i).prio,0,false⟩) (h':=(hh.put (Ar w) ⟨3,(A2 hh w).set (Cx w+i) (PR.enc { nth Q i with wake:=0 })⟩).put (Ar w) ⟨3,((A2 hh w).set (Cx w+i) (PR.enc { nth Q i with wake:=0 })).set (Cx w+i) (PR.enc ⟨(nth Q i).prio,0,false⟩)⟩) s1 (by simpa using hp) (Nat.le_refl _) (by rw [Ae,Ax rfl,GE])
   have w2:Wr h (·=Ar w) (hh.put (Ar w) ⟨3,((A2 hh w).set (Cx w+i) (PR.enc { nth Q i with wake:=0 })).set (Cx w+i) (PR.enc ⟨(nth Q i).prio,0,false⟩)⟩):=wr.put (.inr rfl)
   have r2:((A2 hh w).set (Cx w+i) (PR.enc { nth Q i with wake:=0 }))[Cx w+i]?=some (PR.enc { nth Q i with wake:=0 }):=by
    have:=(Sl.facts s1).row i (by simpa using hp)
    rw [GE] at this
    rw [this,Bz (by simpa using hp),List.getElem_set_self]
   have hq:BL (P.take (i+1))++P.drop (i+1)=Q.set i ⟨(nth Q i).prio,0,false⟩:=by rw [← hz,Qp (by omega)]
   have ht2:(hh.put (Ar w) ⟨3,((A2 hh w).set (Cx w+i) (PR.enc { nth Q i with wake:=0 })).set (Cx w+i) (PR.enc ⟨(nth Q i).prio,0,false⟩)⟩).get tb=some ⟨1,[[w]]⟩:=by rw [Ae,Ag (fun e=>hd e.symm)];exact ht
   simp only [List.set_set,LP] at s2 w2 ht2
   simp only [PR.enc] at r1 r2 a2 s2 w2 ht2
   simp only [Int.toNat_natCast] at a1 a2
   clear lt1 lo1 get1 at1 row1 s1 sw
   simp (disch:=omega)only[go_sem, *]
   refine ih _ _ _ ?_ ⟨i+1,Q.set i ⟨(nth Q i).prio,0,false⟩,rfl,w2,ht2,s2,by rw [List.length_set];exact hQ,hq, ?_⟩
   ·omega
   ·clear ih kk s2 w2 ht2 hq hz
    simp (disch:=omega)only[go_sem, *]
    omega
  ·obtain rfl:i=P.length:=by omega
   rw [List.take_length,List.drop_length,List.append_nil] at hz
   rw [hz] at kk
   have f:=kk hh wr sw
   simp (disch:=omega)only[go_sem, *]
 ·simp (disch:=omega)only[go_sem, *]
end
theorem Hp {b bx sz:Nat} {hh h1 h4:AH} {w v:V} {R:List (List V)} {x:List V} (x1:Aq hh h1) (g:Grown b h1 w v h4) (s:Sl b h4 sz v (R++[x])) (hb:bx<hh.next) (hd:AF w=true∨Ar w≠bx):h4.get bx=hh.get bx∧Ar v≠bx∧hh.next≤h4.next∧h4.lim=hh.lim:=by
 have n1:=x1.next
 have n4:=g.next
 refine ⟨(g.get bx (by omega) (hd.imp (fun x=>x) (fun x e=>x e.symm))).trans (x1.get bx hb), ?_,by omega,g.lim.trans x1.lim⟩
 rcases g.own with q | ⟨q,e⟩ | q
 ·rcases s with ⟨_,z⟩ | ⟨_,_,_,_,rfl,_⟩
  ·simp at z
  ·cases q
 ·rw [e];exact hd.resolve_left (by rw [q];decide)
 ·omega
def El (L:List Bd):List PR:=L.map fun x=>⟨x.prio,0,false⟩
theorem mU {h : AH} {L : List Bd} {K : V → AH → Prop} (h1 : 1 ≤ L.length) (h3 : L.length ≤ 3)
    (kk:∀ h' tb w,Aq h h'→h.next≤tb→tb<h'.next→h'.get tb=some ⟨1,[[w]]⟩→Sl h.next h' 3 w ((El L).map PR.enc)→Ar w≠tb→K (.p tb 0 0) h'):Cq tp We [.fl 2 (L.map Bd.enc)] h K:=by
 refine Ac aC9 (by simp [NA]) fun wf rp=>?_
 have hlo:=wf.1
 unfold NA
 simp (disch:=omega)only[go_sem, *]
 refine Av (fun hc=>absurd hc (by omega)) (fun _=>?_)
 simp (disch:=omega)only[go_sem, *]
 refine Aa (fun hc=>absurd hc (by omega)) (fun _=>?_)
 simp (disch:=omega)only[go_sem, *]
 refine Ah (fun n' e hh=>∃ (i:Nat) (w:V),n'=L.length - i∧Aq h hh∧h.next<hh.next∧hh.get h.next=some ⟨1,[[w]]⟩∧Sl h.next hh 3 w ((El (L.take i)).map PR.enc)∧(AF w=true∨Ar w≠h.next)∧e 3=.p h.next 0 0∧e 16=.fl 2 (L.map Bd.enc)∧e 17=.i .i64 L.length∧e 18=.i .i64 i∧i≤L.length) ?_ _ _ _ ⟨0,.ns,rfl, ?_⟩
 ·rintro n' e hh ⟨i,w,rfl,x,hn,hg,s,hd,e3,e16,e17,e18,hi⟩ ih
  have hlm:=x.lim
  have hsv:=Sl.sameV s
  rw [Am nG.eq_1]
  simp (disch:=omega)only[go_sem, *]
  refine Aa (fun hc=>?_) (fun hc=>?_)
  ·have hN:El (L.take (i+1))=El (L.take i)++[⟨(nth L i).prio,0,false⟩]:=by
    rw [Dg (by omega)];unfold El;rw [List.map_append];rfl
   have hln:(El (L.take i)).length=i:=by unfold El;rw [List.length_map,List.length_take];omega
   simp (disch:=omega)only[go_sem, *]
   have X1:Aq hh (((hh.alloc ⟨2,[[.i .i64 0,.i .i64 0]]⟩).put hh.next ⟨2,[[.i .i64 (nth L i).entry,.i .i64 (nth L i).prio]]⟩).alloc ⟨3,[PR.enc ⟨(nth L i).prio,0,false⟩]⟩):=by (repeat (first | exact Aq.refl _ | refine Aq.alloc ?_ _ | (refine Aq.put ?_ _ _ ?_;rotate_left;(first | omega | (simp only [Af,Ai];omega)))))
   refine AA (N:=[PR.enc ⟨(nth L i).prio,0,false⟩]) (s.ext X1) ?_ ?_ ?_ ?_
   ·simp (disch:=omega)only[go_sem, *]
   ·simp (disch:=omega)only[go_sem, *]<;>omega
   ·simp;omega
   intro v h4 s4 g4
   obtain ⟨k1,k2,k3,k4⟩:=Hp X1 g4 s4 hn hd
   have s5:Sl h.next (h4.put h.next ⟨1,[[v]]⟩) 3 v ((El (L.take (i+1))).map PR.enc):=by
    rw [hN,List.map_append];exact AR s4 _ _ (.inr (fun e=>k2 e.symm))
   have x5:Aq h (h4.put h.next ⟨1,[[v]]⟩):=⟨by show h.next≤h4.next;omega,k4.trans x.lim,fun j hj=>by rw [Ae,Ag (by omega)];exact (g4.low j hj).trans ((X1.get j (by omega)).trans (x.get j hj))⟩
   have c1:=g4.cell
   have c2:=g4.cells
   clear X1 g4 s4 s x
   simp (disch:=omega)only[go_sem, *]
   refine ih _ _ _ ?_ ⟨i+1,v,rfl,x5,by show h.next<h4.next;omega,by rw [Ae,Ax rfl],s5,.inr k2, ?_⟩
   ·omega
   ·clear ih kk s5 x5
    simp (disch:=omega)only[go_sem, *]
    omega
  ·obtain rfl:i=L.length:=by omega
   rw [List.take_length] at s
   have hnn:Ar w≠h.next:=by
    rcases hd with d | d
    ·rcases s with ⟨_,z⟩ | ⟨_,_,_,_,rfl,_⟩
     ·have:=congrArg List.length z
      simp [El] at this
      rw [this] at h1;cases h1
     ·cases d
    ·exact d
   have f:=kk hh h.next w x (Nat.le_refl _) hn hg s hnn
   clear kk
   simp (disch:=omega)only[go_sem, *]
 ·simp (disch:=omega)only[go_sem, *]
  ((repeat' refine And.intro ?_ ?_)<;>first | omega | assumption | (exact (Aq.refl h).alloc _) | (exact Nat.lt_succ_self _) | (exact Sl.nil _ _ _) | (exact .inl rfl))
end Go.Ab.T
namespace Go.Ab.T
open Go Go.Ab
set_option maxHeartbeats 4000000
/-! Faults. -/
structure FT where
 t:Int
 proc:Int
 kind:Int
 deriving DecidableEq,Inhabited
@[go_sem] def FT.enc (x:FT):List V:=[.i .i64 x.t,.i .i64 x.proc,.i .i64 x.kind]
def Ep (x:Int):Int:=if x=0∨x=1 then x else 2
def F4 (a b c d e k:Int):Int:=if k=1 then Ep a else if k=2 then Ep b else if k=3 then Ep c else if k=4 then Ep d else if k=5 then Ep e else 2
theorem fQ {h:AH} {a b c d e:Int} {K:V→AH→Prop} (kk:∀ h',Aq h h'→h'.next=h.next+2→h'.get (h.next+1)=some ⟨7,[[.i .i64 a,.i .i64 b,.i .i64 c,.i .i64 d,.i .i64 e,.ns,.b false]]⟩→K (.p (h.next+1) 0 0) h'):Cq tp Wd [.agg [.i .i64 a,.i .i64 b,.i .i64 c,.i .i64 d,.i .i64 e]] h K:=by
 have f:=kk ((h.alloc ⟨5,[[.i .i64 a,.i .i64 b,.i .i64 c,.i .i64 d,.i .i64 e]]⟩).alloc ⟨7,[[.i .i64 a,.i .i64 b,.i .i64 c,.i .i64 d,.i .i64 e,.ns,.b false]]⟩) (by (repeat (first | exact Aq.refl _ | refine Aq.alloc ?_ _ | (refine Aq.put ?_ _ _ ?_;rotate_left;(first | omega | (simp only [Af,Ai];omega)))))) rfl (by simp (disch:=omega)only[go_sem, *])
 clear kk
 refine Ac aC8 (by simp [Nz]) fun wf rp=>?_;unfold Nz;simp (disch:=omega)only[go_sem, *]
section
variable {b lg:Nat} {h:AH} {f:V} {F:List FT} {K:V→AH→Prop} {a0 a1 a2 a3 a4:Int} {st:Bool}
theorem Mz (hg:h.get lg=some ⟨7,[[.i .i64 a0,.i .i64 a1,.i .i64 a2,.i .i64 a3,.i .i64 a4,f,.b st]]⟩) (kk:K (.b st) h):Cq tp Wk [.p lg 0 0] h K:=by
 refine Ac aDf (by simp [NG]) fun wf rp=>?_;unfold NG;simp (disch:=omega)only[go_sem, *]
theorem Py {k:Int} (hg:h.get lg=some ⟨7,[[.i .i64 a0,.i .i64 a1,.i .i64 a2,.i .i64 a3,.i .i64 a4,f,.b st]]⟩) (kk:K (.i .i64 (F4 a0 a1 a2 a3 a4 k)) h):Cq tp WW [.p lg 0 0,.i .i64 k] h K:=by
 have hk:k<1∨5<k∨k=1∨k=2∨k=3∨k=4∨k=5:=by omega
 rcases hk with hk | hk | rfl | rfl | rfl | rfl | rfl
 ·have e:F4 a0 a1 a2 a3 a4 k=2:=by unfold F4;simp (disch:=omega)only[if_neg]
  rw [e] at kk
  refine Ac F9 (by simp [Dx]) fun wf rp=>?_;unfold Dx;simp (disch:=omega)only[go_sem, *]
  repeat' (first | (refine Av (fun hc=>?_) (fun hc=>?_)<;>simp (disch:=omega)only[go_sem, *]) | (refine Aa (fun hc=>?_) (fun hc=>?_)<;>simp (disch:=omega)only[go_sem, *]))
 ·have e:F4 a0 a1 a2 a3 a4 k=2:=by unfold F4;simp (disch:=omega)only[if_neg]
  rw [e] at kk
  refine Ac F9 (by simp [Dx]) fun wf rp=>?_;unfold Dx;simp (disch:=omega)only[go_sem, *]
  repeat' (first | (refine Av (fun hc=>?_) (fun hc=>?_)<;>simp (disch:=omega)only[go_sem, *]) | (refine Aa (fun hc=>?_) (fun hc=>?_)<;>simp (disch:=omega)only[go_sem, *]))
 ·skip
  have e:F4 a0 a1 a2 a3 a4 1=Ep a0:=rfl
  rw [e] at kk
  have g1:a0=0∨a0=1→Ep a0=a0:=fun q=>if_pos q
  have g2:¬ (a0=0∨a0=1)→Ep a0=2:=fun q=>if_neg q
  refine Ac F9 (by simp [Dx]) fun wf rp=>?_;unfold Dx;simp (disch:=omega)only[go_sem, *]
  refine Av (fun hc=>?_) (fun hc=>?_)
  ·rw [g1 (.inl hc),hc] at kk
   clear g1 g2
   simp (disch:=omega)only[go_sem, *]
  ·simp (disch:=omega)only[go_sem, *]
   refine Aa (fun hc2=>?_) (fun hc2=>?_)
   ·rw [g1 (.inr hc2),hc2] at kk
    clear g1 g2
    simp (disch:=omega)only[go_sem, *]
   ·rw [g2 (by omega)] at kk
    clear g1 g2
    simp (disch:=omega)only[go_sem, *]
 ·skip
  have e:F4 a0 a1 a2 a3 a4 2=Ep a1:=rfl
  rw [e] at kk
  have g1:a1=0∨a1=1→Ep a1=a1:=fun q=>if_pos q
  have g2:¬ (a1=0∨a1=1)→Ep a1=2:=fun q=>if_neg q
  refine Ac F9 (by simp [Dx]) fun wf rp=>?_;unfold Dx;simp (disch:=omega)only[go_sem, *]
  refine Av (fun hc=>?_) (fun hc=>?_)
  ·rw [g1 (.inl hc),hc] at kk
   clear g1 g2
   simp (disch:=omega)only[go_sem, *]
  ·simp (disch:=omega)only[go_sem, *]
   refine Aa (fun hc2=>?_) (fun hc2=>?_)
   ·rw [g1 (.inr hc2),hc2] at kk
    clear g1 g2
    simp (disch:=omega)only[go_sem, *]
   ·rw [g2 (by omega)] at kk
    clear g1 g2
    simp (disch:=omega)only[go_sem, *]
 ·skip
  have e:F4 a0 a1 a2 a3 a4 3=Ep a2:=rfl
  rw [e] at kk
  have g1:a2=0∨a2=1→Ep a2=a2:=fun q=>if_pos q
  have g2:¬ (a2=0∨a2=1)→Ep a2=2:=fun q=>if_neg q
  refine Ac F9 (by simp [Dx]) fun wf rp=>?_;unfold Dx;simp (disch:=omega)only[go_sem, *]
  refine Av (fun hc=>?_) (fun hc=>?_)
  ·rw [g1 (.inl hc),hc] at kk
   clear g1 g2
   simp (disch:=omega)only[go_sem, *]
  ·simp (disch:=omega)only[go_sem, *]
   refine Aa (fun hc2=>?_) (fun hc2=>?_)
   ·rw [g1 (.inr hc2),hc2] at kk
    clear g1 g2
    simp (disch:=omega)only[go_sem, *]
   ·rw [g2 (by omega)] at kk
    clear g1 g2
    simp (disch:=omega)only[go_sem, *]
 ·skip
  have e:F4 a0 a1 a2 a3 a4 4=Ep a3:=rfl
  rw [e] at kk
  have g1:a3=0∨a3=1→Ep a3=a3:=fun q=>if_pos q
  have g2:¬ (a3=0∨a3=1)→Ep a3=2:=fun q=>if_neg q
  refine Ac F9 (by simp [Dx]) fun wf rp=>?_;unfold Dx;simp (disch:=omega)only[go_sem, *]
  refine Av (fun hc=>?_) (fun hc=>?_)
  ·rw [g1 (.inl hc),hc] at kk
   clear g1 g2
   simp (disch:=omega)only[go_sem, *]
  ·simp (disch:=omega)only[go_sem, *]
   refine Aa (fun hc2=>?_) (fun hc2=>?_)
   ·rw [g1 (.inr hc2),hc2] at kk
    clear g1 g2
    simp (disch:=omega)only[go_sem, *]
   ·rw [g2 (by omega)] at kk
    clear g1 g2
    simp (disch:=omega)only[go_sem, *]
 ·skip
  have e:F4 a0 a1 a2 a3 a4 5=Ep a4:=rfl
  rw [e] at kk
  have g1:a4=0∨a4=1→Ep a4=a4:=fun q=>if_pos q
  have g2:¬ (a4=0∨a4=1)→Ep a4=2:=fun q=>if_neg q
  refine Ac F9 (by simp [Dx]) fun wf rp=>?_;unfold Dx;simp (disch:=omega)only[go_sem, *]
  refine Av (fun hc=>?_) (fun hc=>?_)
  ·rw [g1 (.inl hc),hc] at kk
   clear g1 g2
   simp (disch:=omega)only[go_sem, *]
  ·simp (disch:=omega)only[go_sem, *]
   refine Aa (fun hc2=>?_) (fun hc2=>?_)
   ·rw [g1 (.inr hc2),hc2] at kk
    clear g1 g2
    simp (disch:=omega)only[go_sem, *]
   ·rw [g2 (by omega)] at kk
    clear g1 g2
    simp (disch:=omega)only[go_sem, *]
theorem V7 {t p k : Int} (hg : h.get lg = some ⟨7, [[.i .i64 a0, .i .i64 a1, .i .i64 a2, .i .i64 a3, .i .i64 a4, f, .b false]]⟩) (sf : Sl b h 3 f (F.map FT.enc)) (hb : h.lim ≤ b) (hl : b ≤ lg) (hn : lg < h.next) (hd : AF f = true ∨ Ar f ≠ lg) (hF : F.length < 4000000000)
    (kk:∀ h' f',Wr h (fun i=>i=lg∨(AF f=false∧i=Ar f)) h'→h'.get lg=some ⟨7,[[.i .i64 a0,.i .i64 a1,.i .i64 a2,.i .i64 a3,.i .i64 a4,f',.b (decide (F4 a0 a1 a2 a3 a4 k=2))]]⟩→Sl b h' 3 f' ((F++[(⟨t,p,k⟩:FT)]).map FT.enc)→Ar f'≠lg→((AF f=false∧Ar f'=Ar f)∨h.next≤Ar f')→K (.i .i64 (F4 a0 a1 a2 a3 a4 k)) h'):Cq tp Rl [.p lg 0 0,.i .i64 t,.i .i64 p,.i .i64 k] h K:=by
 have hsv:=Sl.sameV sf
 refine Ac aDA (by simp [N1]) fun wf rp=>?_;unfold N1;simp (disch:=omega)only[go_sem, *]
 have X1:Aq h (h.alloc ⟨3,[FT.enc ⟨t,p,k⟩]⟩):=by (repeat (first | exact Aq.refl _ | refine Aq.alloc ?_ _ | (refine Aq.put ?_ _ _ ?_;rotate_left;(first | omega | (simp only [Af,Ai];omega)))))
 refine AA (N:=[FT.enc ⟨t,p,k⟩]) (sf.ext X1) ?_ ?_ ?_ ?_
 ·simp (disch:=omega)only[go_sem, *]
 ·simp (disch:=omega)only[go_sem, *]<;>omega
 ·simp;omega
 intro v h4 s4 g4
 obtain ⟨k1,k2,k3,k4⟩:=Hp X1 g4 s4 hn hd
 have hg4:=k1.trans hg
 have hw:Wr h (fun i=>i=lg∨(AF f=false∧i=Ar f)) h4:=(Wr.refl.ext X1).grown g4 (by
  cases hq:AF f with
  | true=>exact .inl rfl
  | false=>exact .inr (.inl (.inr ⟨rfl,rfl⟩)))
 have hv:(AF f=false∧Ar v=Ar f)∨h.next≤Ar v:=by
  rcases g4.own with q | q | q
  ·rcases s4 with ⟨_,z⟩ | ⟨_,_,_,_,rfl,_⟩
   ·simp at z
   ·cases q
  ·exact .inl q
  ·rw [Af] at q;exact .inr (by omega)
 have c1:=g4.cell
 have c2:=g4.cells
 have s5:Sl b h4 3 v ((F++[(⟨t,p,k⟩:FT)]).map FT.enc):=by rw [List.map_append];exact s4
 have l4:=g4.lim
 rw [A9] at l4
 have ha:(h4.put lg ⟨7,[[.i .i64 a0,.i .i64 a1,.i .i64 a2,.i .i64 a3,.i .i64 a4,v,.b false]]⟩).get lg=some ⟨7,[[.i .i64 a0,.i .i64 a1,.i .i64 a2,.i .i64 a3,.i .i64 a4,v,.b false]]⟩:=by rw [Ae,Ax rfl]
 clear X1 g4 s4 sf hsv
 simp (disch:=omega)only[go_sem, *]
 refine Py (k:=k) ha ?_
 generalize F4 a0 a1 a2 a3 a4 k=z at *
 have fin:=kk (h4.put lg ⟨7,[[.i .i64 a0,.i .i64 a1,.i .i64 a2,.i .i64 a3,.i .i64 a4,v,.b (decide (z=2))]]⟩) v (hw.put (.inr (.inl rfl))) (by rw [Ae,Ax rfl]) (AR s5 _ _ (.inr (fun e=>k2 e.symm))) k2 hv
 clear kk
 simp (disch:=omega)only[go_sem, *]
end
end Go.Ab.T
namespace Go.Ab.T
open Go Go.Ab
set_option maxHeartbeats 4000000
/-! Partitions. -/
structure ST where
 r:List Int
 pc:Int
 deriving DecidableEq,Inhabited
def ST.enc (x:ST):List V:=x.r.map (V.i .u32)++[.i .i64 x.pc]
section
variable {x:ST} (h:x.r.length=8)
include h
theorem ST.len:(ST.enc x).length=9:=by unfold ST.enc;simp [h]
theorem ST.reg {i:Nat} (hi:i<8):(ST.enc x)[i]?=some (.i .u32 (nth x.r i)):=by
 unfold ST.enc
 rw [List.getElem?_append_left (by simp;omega),List.getElem?_map,E0 (by omega)];rfl
theorem ST.at8:(ST.enc x)[8]?=some (.i .i64 x.pc):=by
 unfold ST.enc
 rw [List.getElem?_append_right (by simp;omega)];simp [h]
theorem ST.setr {i:Nat} {v:Int} (hi:i<8):(ST.enc x).set i (.i .u32 v)=ST.enc ⟨x.r.set i v,x.pc⟩:=by
 unfold ST.enc
 rw [List.set_append_left _ _ (by simp;omega),List.map_set]
theorem ST.setpc {v:Int}:(ST.enc x).set 8 (.i .i64 v)=ST.enc ⟨x.r,v⟩:=by
 unfold ST.enc
 rw [List.set_append_right _ _ (by simp;omega)];simp [h]
end
structure PC where
 c:An
 p:Nat
 prog:List Int
 ins:List Int
 h0:Int
 h1:Int
 h2:Int
 h3:Int
 h4:Int
def AB (c:PC) (tb lg:Nat) (a:V) (mem:List Int) (clk:Int):List V:=[.fl 11 (c.c.parts.map Part.enc),.fl 6 (c.c.chans.map A1.enc),.fl 1 (c.c.tables.map Tab.enc),.i .i64 c.p,.fl 1 (c.prog.map FW),.fl 1 (c.ins.map Lp),.p tb 0 0,a]++(mem.map (V.i .u32)++[.p lg 0 0,.i .i64 clk])
section
variable {c:PC} {tb lg:Nat} {a a':V} {mem:List Int} {clk clk':Int}
theorem AB.f0:(AB c tb lg a mem clk)[0]?=some (.fl 11 (c.c.parts.map Part.enc)):=rfl
theorem AB.f1:(AB c tb lg a mem clk)[1]?=some (.fl 6 (c.c.chans.map A1.enc)):=rfl
theorem AB.f3:(AB c tb lg a mem clk)[3]?=some (.i .i64 c.p):=rfl
theorem AB.f4:(AB c tb lg a mem clk)[4]?=some (.fl 1 (c.prog.map FW)):=rfl
theorem AB.f5:(AB c tb lg a mem clk)[5]?=some (.fl 1 (c.ins.map Lp)):=rfl
theorem AB.f6:(AB c tb lg a mem clk)[6]?=some (.p tb 0 0):=rfl
theorem AB.f7:(AB c tb lg a mem clk)[7]?=some a:=rfl
theorem AB.s7:(AB c tb lg a mem clk).set 7 a'=AB c tb lg a' mem clk:=rfl
section
variable (h:mem.length=16)
include h
theorem AB.len:(AB c tb lg a mem clk).length=26:=by unfold AB;simp [h]
theorem AB.f24:(AB c tb lg a mem clk)[24]?=some (.p lg 0 0):=by
 unfold AB
 rw [List.getElem?_append_right (by simp),List.getElem?_append_right (by simp [h])];simp [h]
theorem AB.f25:(AB c tb lg a mem clk)[25]?=some (.i .i64 clk):=by
 unfold AB
 rw [List.getElem?_append_right (by simp),List.getElem?_append_right (by simp [h])];simp [h]
theorem AB.s25:(AB c tb lg a mem clk).set 25 (.i .i64 clk')=AB c tb lg a mem clk':=by
 unfold AB
 rw [List.set_append_right _ _ (by simp),List.set_append_right _ _ (by simp [h])];simp [h]
theorem AB.fm {j:Nat} (hj:j<16):(AB c tb lg a mem clk)[8+j]?=some (.i .u32 (nth mem j)):=by
 unfold AB
 rw [List.getElem?_append_right (by simp),List.getElem?_append_left (by simp;omega),List.getElem?_map]
 have e:8+j - 8=j:=by omega
 simp only [List.length_cons,List.length_nil,Nat.zero_add]
 rw [e,E0 (by omega)];rfl
theorem AB.sm {j:Nat} {v:Int} (hj:j<16):(AB c tb lg a mem clk).set (8+j) (.i .u32 v)=AB c tb lg a (mem.set j v) clk:=by
 unfold AB
 rw [List.set_append_right _ _ (by simp),List.set_append_left _ _ (by simp;omega),List.map_set]
 have e:8+j - 8=j:=by omega
 simp only [List.length_cons,List.length_nil,Nat.zero_add]
 rw [e]
end
end
end Go.Ab.T
namespace Go.Ab.T
open Go Go.Ab
set_option maxHeartbeats 4000000
structure SE (b:Nat) (h:AH) (a:V) (A:List ST) (i:Nat):Prop where
 g:h.get (Ar a)=some ⟨9,A2 h a⟩
 r:(A2 h a)[Cx a+i]?=some (ST.enc (nth A i))
 lt:Ar a<h.next
 lo:b≤Ar a
 at_:∀ cs,LC (some ⟨9,cs⟩) 9 a (.i .i64 i)=some (.p (Ar a) (Cx a+i) 0)
 set:∀ h',Aq h h'→∀ x,Sl b (h'.put (Ar a) ⟨9,(A2 h a).set (Cx a+i) (ST.enc x)⟩) 9 a ((A.set i x).map ST.enc)
theorem Vw {h h':AH} {v:V} (x:Aq h h') (hl:Ar v<h.next):A2 h' v=A2 h v:=by unfold A2;rw [x.get _ hl]
theorem CV {b i:Nat} {h:AH} {a:V} {A:List ST} (sa:Sl b h 9 a (A.map ST.enc)) (hi:i<A.length):SE b h a A i:=by
 obtain ⟨_,_,lt,lo,get,at1,row,_,_⟩:=sa.facts
 have l:=lt (by omega)
 refine ⟨get (by omega),row i hi,l,lo (by omega),fun cs=>?_,fun h' x y=>?_⟩
 ·have:=at1 .i64 i cs (by omega) (by omega)
  simpa only [Int.toNat_natCast] using this
 ·refine Sl.setT (sa.ext x) hi (Nat.le_refl _) ?_
  rw [Ae,Ax rfl,Vw x l]
def GC (ins:List Int) (t:Int) (op:Int) (A B C:Nat) (x:ST):Int:=
 if op=2 then IntKind.wrap .u32 (nth x.r B+nth x.r C) else if op=3 then IntKind.wrap .u32 (nth x.r B - nth x.r C) else if op=4 then IntKind.wrap .u32 (nth x.r B*nth x.r C)
 else if op=5 then IntKind.wrap .u32 ((nth x.r B).tdiv (nth x.r C)) else if op=13 then (if t<ins.length then nth ins t.toNat else 0) else if op=14 then IntKind.wrap .u32 t else 256*B+C
def Cc (ins:List Int) (t:Int) (op:Int) (A B C:Nat) (x:ST):Int×Int×ST:=
 if op=5∧nth x.r C=0 then (0,4,x) else (GC ins t op A B C x,0,⟨x.r.set A (GC ins t op A B C x),x.pc⟩)
section
variable {b pp tb lg i A B C:Nat} {h:AH} {a:V} {As:List ST} {c:PC} {mem:List Int} {clk t op:Int} {K:V→AH→Prop}
theorem Vt (hop:op=1∨op=2∨op=3∨op=4∨op=5∨op=13∨op=14) (hA:A<8) (hB:op=2∨op=3∨op=4∨op=5→B<8∧C<8) (hB2:B≤255) (hC2:C≤255) (gp:h.get pp=some ⟨26,[AB c tb lg a mem clk]⟩) (hm:mem.length=16) (hpn:pp<h.next) (sa:Sl b h 9 a (As.map ST.enc)) (hi:i<As.length) (hb:h.lim≤b) (hr:(nth As i).r.length=8) (ht:0≤t) (hins:c.ins.length<4000000000)
    (kk:∀ h',Wr h (·=Ar a) h'→Sl b h' 9 a ((As.set i (Cc c.ins t op A B C (nth As i)).2.2).map ST.enc)→K (.tup [.i .u32 (Cc c.ins t op A B C (nth As i)).1,.i .i64 (Cc c.ins t op A B C (nth As i)).2.1]) h'):Cq tp Rg [.p pp 0 0,.agg [.i .i64 op,.i .i64 A,.i .i64 B,.i .i64 C],.p (Ar a) (Cx a+i) 0,.i .i64 t] h K:=by
 obtain ⟨g,r,lt,lo,_,set⟩:=CV sa hi
 have X1:Aq h (h.alloc ⟨4,[[.i .i64 op,.i .i64 A,.i .i64 B,.i .i64 C]]⟩):=by (repeat (first | exact Aq.refl _ | refine Aq.alloc ?_ _ | (refine Aq.put ?_ _ _ ?_;rotate_left;(first | omega | (simp only [Af,Ai];omega)))))
 have set:=set _ X1
 have he:=ST.len hr
 have eA:=ST.reg hr hA
 have sA:=fun v=>ST.setr (v:=v) hr hA
 have fin:∀ n,GC c.ins t op A B C (nth As i)=n→¬ (op=5∧nth (nth As i).r C=0)→K (.tup [.i .u32 n,.i .i64 0]) ((h.alloc ⟨4,[[.i .i64 op,.i .i64 A,.i .i64 B,.i .i64 C]]⟩).put (Ar a) ⟨9,(A2 h a).set (Cx a+i) (ST.enc ⟨(nth As i).r.set A n,(nth As i).pc⟩)⟩):=fun n hn hq=>by
  have e:Cc c.ins t op A B C (nth As i)=(n,0,⟨(nth As i).r.set A n,(nth As i).pc⟩):=by unfold Cc;rw [if_neg hq,hn]
  rw [e] at kk
  exact kk _ ((Wr.refl.alloc).put (.inr rfl)) (set _)
 have im:=P7 (x:=⟨op,A,B,C⟩) ⟨by simp;omega,by simp;omega,by simp;omega⟩
 have ei:SL ⟨op,A,B,C⟩=256*B+C:=rfl
 rw [ei] at im
 clear ei
 have hLE:h.lim≤Ar a:=by omega
 have m1:∀ n:Nat,n*1=n:=Nat.mul_one
 have hA8:A+1≤8+1:=by omega
 rcases hop with rfl | rfl | rfl | rfl | rfl | rfl | rfl
 ·have f:=fin (256*B+C) (by unfold GC;simp) (by simp)
  clear fin kk
  refine Ac EU (by simp [Cj]) fun wf rp=>?_;unfold Cj;simp (disch:=omega)only[go_sem, *]
  refine Pf.go (im) (by simp only [go_sem]) fun _=>?_;simp (disch:=omega)only[go_sem, *]
 ·obtain ⟨h1,h2⟩:=hB (by simp)
  have eB:=ST.reg hr h1
  have eC:=ST.reg hr h2
  have b8:B≤8:=by omega
  have c8:C≤8:=by omega
  have f:=fin (IntKind.wrap .u32 (nth (nth As i).r B+nth (nth As i).r C)) (by unfold GC;simp) (by simp)
  clear fin kk
  refine Ac EU (by simp [Cj]) fun wf rp=>?_;unfold Cj;simp (disch:=omega)only[go_sem, *]
  refine Pf.go (im) (by simp only [go_sem]) fun _=>?_;simp (disch:=omega)only[go_sem, *]
 ·obtain ⟨h1,h2⟩:=hB (by simp)
  have eB:=ST.reg hr h1
  have eC:=ST.reg hr h2
  have b8:B≤8:=by omega
  have c8:C≤8:=by omega
  have f:=fin (IntKind.wrap .u32 (nth (nth As i).r B - nth (nth As i).r C)) (by unfold GC;simp) (by simp)
  clear fin kk
  refine Ac EU (by simp [Cj]) fun wf rp=>?_;unfold Cj;simp (disch:=omega)only[go_sem, *]
  refine Pf.go (im) (by simp only [go_sem]) fun _=>?_;simp (disch:=omega)only[go_sem, *]
 ·obtain ⟨h1,h2⟩:=hB (by simp)
  have eB:=ST.reg hr h1
  have eC:=ST.reg hr h2
  have b8:B≤8:=by omega
  have c8:C≤8:=by omega
  have f:=fin (IntKind.wrap .u32 (nth (nth As i).r B*nth (nth As i).r C)) (by unfold GC;simp) (by simp)
  clear fin kk
  refine Ac EU (by simp [Cj]) fun wf rp=>?_;unfold Cj;simp (disch:=omega)only[go_sem, *]
  refine Pf.go (im) (by simp only [go_sem]) fun _=>?_;simp (disch:=omega)only[go_sem, *]
 ·obtain ⟨h1,h2⟩:=hB (by simp)
  have eB:=ST.reg hr h1
  have eC:=ST.reg hr h2
  have b8:B≤8:=by omega
  have c8:C≤8:=by omega
  by_cases hz:nth (nth As i).r C=0
  ·have e:Cc c.ins t 5 A B C (nth As i)=(0,4,nth As i):=if_pos ⟨rfl,hz⟩
   rw [e] at kk
   have es:As.set i (nth As i)=As:=by rw [Bz hi,List.set_getElem_self]
   have f:=kk (h.alloc ⟨4,[[.i .i64 5,.i .i64 A,.i .i64 B,.i .i64 C]]⟩) (Wr.refl.alloc) (by simp only [es];exact sa.ext X1)
   clear fin kk e es
   refine Ac EU (by simp [Cj]) fun wf rp=>?_;unfold Cj;simp (disch:=omega)only[go_sem, *]
   refine Pf.go (im) (by simp only [go_sem]) fun _=>?_;simp (disch:=omega)only[go_sem, *]
  ·have f:=fin (IntKind.wrap .u32 ((nth (nth As i).r B).tdiv (nth (nth As i).r C))) (by unfold GC;simp) (by simp [hz])
   clear fin kk
   refine Ac EU (by simp [Cj]) fun wf rp=>?_;unfold Cj;simp (disch:=omega)only[go_sem, *]
   refine Pf.go (im) (by simp only [go_sem]) fun _=>?_;simp (disch:=omega)only[go_sem, *]
 ·obtain ⟨k,rfl⟩:∃ k:Nat,t=k:=⟨t.toNat,by omega⟩
  have p1:=AB.f5 (c:=c) (tb:=tb) (lg:=lg) (a:=a) (mem:=mem) (clk:=clk)
  have p2:=AB.len (c:=c) (tb:=tb) (lg:=lg) (a:=a) (clk:=clk) hm
  by_cases hk:(k:Int)<c.ins.length
  ·have f:=fin (nth c.ins k) (by unfold GC;simp [hk]) (by simp)
   clear fin kk
   refine Ac EU (by simp [Cj]) fun wf rp=>?_;unfold Cj;simp (disch:=omega)only[go_sem, *]
   refine Pf.go (im) (by simp only [go_sem]) fun _=>?_;simp (disch:=omega)only[go_sem, *]
  ·have f:=fin 0 (by unfold GC;simp [hk]) (by simp)
   clear fin kk
   refine Ac EU (by simp [Cj]) fun wf rp=>?_;unfold Cj;simp (disch:=omega)only[go_sem, *]
   refine Pf.go (im) (by simp only [go_sem]) fun _=>?_;simp (disch:=omega)only[go_sem, *]
 ·have f:=fin (IntKind.wrap .u32 t) (by unfold GC;simp) (by simp)
  clear fin kk
  refine Ac EU (by simp [Cj]) fun wf rp=>?_;unfold Cj;simp (disch:=omega)only[go_sem, *]
  refine Pf.go (im) (by simp only [go_sem]) fun _=>?_;simp (disch:=omega)only[go_sem, *]
end
end Go.Ab.T
namespace Go.Ab.T
open Go Go.Ab
set_option maxHeartbeats 4000000
def B8 (mem:List Int) (op:Int) (A B C:Nat) (x:ST):Int×Int×ST×List Int:=
 if 16≤nth x.r B+C then (0,3,x,mem) else if op=6 then (nth mem (nth x.r B+C).toNat,0,⟨x.r.set A (nth mem (nth x.r B+C).toNat),x.pc⟩,mem) else (nth x.r A,0,x,mem.set (nth x.r B+C).toNat (nth x.r A))
theorem aFe {n:Int} (h0:0≤n) (h1:n<18446744073709551616):IntKind.wrap .u64 n=n:=by
 unfold IntKind.wrap;simp [IntKind.bits,IntKind.signed];omega
section
variable {b pp tb lg i A B C:Nat} {h:AH} {a:V} {As:List ST} {c:PC} {mem:List Int} {clk t op:Int} {K:V→AH→Prop}
theorem mY (hop:op=6∨op=7) (hA:A<8) (hB:B<8) (hC2:C≤255) (gp:h.get pp=some ⟨26,[AB c tb lg a mem clk]⟩) (hm:mem.length=16) (hpn:pp<h.next) (sa:Sl b h 9 a (As.map ST.enc)) (hi:i<As.length) (hb:h.lim≤b) (hbp:b≤pp) (hne:Ar a≠pp) (hr:(nth As i).r.length=8) (hu:0≤nth (nth As i).r B∧nth (nth As i).r B<4294967296)
    (kk:∀ h',Wr h (fun j=>j=Ar a∨j=pp) h'→h'.get pp=some ⟨26,[AB c tb lg a (B8 mem op A B C (nth As i)).2.2.2 clk]⟩→Sl b h' 9 a ((As.set i (B8 mem op A B C (nth As i)).2.2.1).map ST.enc)→K (.tup [.i .u32 (B8 mem op A B C (nth As i)).1,.i .i64 (B8 mem op A B C (nth As i)).2.1]) h'):Cq tp Rh [.p pp 0 0,.agg [.i .i64 op,.i .i64 A,.i .i64 B,.i .i64 C],.p (Ar a) (Cx a+i) 0] h K:=by
 obtain ⟨g,r,lt,lo,_,set⟩:=CV sa hi
 have X1:Aq h (h.alloc ⟨4,[[.i .i64 op,.i .i64 A,.i .i64 B,.i .i64 C]]⟩):=by (repeat (first | exact Aq.refl _ | refine Aq.alloc ?_ _ | (refine Aq.put ?_ _ _ ?_;rotate_left;(first | omega | (simp only [Af,Ai];omega)))))
 have set:=set _ X1
 have he:=ST.len hr
 have eA:=ST.reg hr hA
 have eB:=ST.reg hr hB
 have sA:=fun v=>ST.setr (v:=v) hr hA
 have hLE:h.lim≤Ar a:=by omega
 have hLP:h.lim≤pp:=by omega
 have m1:∀ n:Nat,n*1=n:=Nat.mul_one
 have hA8:A+1≤8+1:=by omega
 have hB8:B≤8:=by omega
 have p2:=AB.len (c:=c) (tb:=tb) (lg:=lg) (a:=a) (clk:=clk) hm
 have es:As.set i (nth As i)=As:=by rw [Bz hi,List.set_getElem_self]
 have w1:IntKind.wrap .u64 (nth (nth As i).r B)=nth (nth As i).r B:=aFe hu.1 (by omega)
 have w2:IntKind.wrap .u64 (C:Int)=C:=aFe (by omega) (by omega)
 have w3:IntKind.wrap .u64 (nth (nth As i).r B+C)=nth (nth As i).r B+C:=aFe (by omega) (by omega)
 by_cases hz:16≤nth (nth As i).r B+C
 ·have e:B8 mem op A B C (nth As i)=(0,3,nth As i,mem):=if_pos hz
  rw [e] at kk
  have f:=kk _ (Wr.refl.alloc (k:=⟨4,[[.i .i64 op,.i .i64 A,.i .i64 B,.i .i64 C]]⟩)) (by rw [AV,Ag (by omega)];exact gp) (by simp only [es];exact sa.ext X1)
  clear kk e es
  refine Ac Pu (by simp [GZ]) fun wf rp=>?_;unfold GZ;simp (disch:=omega)only[go_sem, *]
 ·obtain ⟨j,hj⟩:∃ j:Nat,nth (nth As i).r B+C=j:=⟨(nth (nth As i).r B+C).toNat,by omega⟩
  have hj16:j<16:=by omega
  rw [hj] at w3
  have fm:=AB.fm (c:=c) (tb:=tb) (lg:=lg) (a:=a) (clk:=clk) hm hj16
  have sm:=fun v=>AB.sm (c:=c) (tb:=tb) (lg:=lg) (a:=a) (clk:=clk) (v:=v) hm hj16
  have p3:(8:Nat)+j≤25:=by omega
  have jj:8+j+1≤26:=by omega
  rcases hop with rfl | rfl
  ·have e:B8 mem 6 A B C (nth As i)=(nth mem j,0,⟨(nth As i).r.set A (nth mem j),(nth As i).pc⟩,mem):=by unfold B8;rw [if_neg hz,if_pos rfl,hj];rfl
   rw [e] at kk
   have f:=kk _ (((Wr.refl (I:=(fun j=>j=Ar a∨j=pp))).alloc (k:=⟨4,[[.i .i64 6,.i .i64 A,.i .i64 B,.i .i64 C]]⟩)).put (j:=Ar a) (.inr (.inl rfl))) (by rw [Ae,Ag (fun e=>hne e.symm),AV,Ag (by omega)];exact gp) (set _)
   clear kk e es set X1
   refine Ac Pu (by simp [GZ]) fun wf rp=>?_;unfold GZ;simp (disch:=omega)only[go_sem, *]
   refine Aa (fun hc=>absurd hc (by omega)) (fun _=>?_)
   simp (disch:=omega)only[go_sem, *]
  ·have e:B8 mem 7 A B C (nth As i)=(nth (nth As i).r A,0,nth As i,mem.set j (nth (nth As i).r A)):=by unfold B8;rw [if_neg hz,if_neg (by decide),hj];rfl
   rw [e] at kk
   have fm2:=AB.fm (c:=c) (tb:=tb) (lg:=lg) (a:=a) (mem:=mem.set j (nth (nth As i).r A)) (clk:=clk) (by simpa using hm) hj16
   have en:nth (mem.set j (nth (nth As i).r A)) j=nth (nth As i).r A:=by rw [Bz (by simp;omega),List.getElem_set_self]
   have p4:=AB.len (c:=c) (tb:=tb) (lg:=lg) (a:=a) (mem:=mem.set j (nth (nth As i).r A)) (clk:=clk) (by simpa using hm)
   rw [en] at fm2
   have f:=kk _ (((Wr.refl (I:=(fun j=>j=Ar a∨j=pp))).alloc (k:=⟨4,[[.i .i64 7,.i .i64 A,.i .i64 B,.i .i64 C]]⟩)).put (j:=pp) (.inr (.inr rfl))) (by rw [Ae,Ax rfl]) (by simp only [es];exact AR (sa.ext X1) _ _ (.inr (fun e=>hne e.symm)))
   clear kk e es set X1 en
   refine Ac Pu (by simp [GZ]) fun wf rp=>?_;unfold GZ;simp (disch:=omega)only[go_sem, *]
   refine Aa (fun hc=>absurd hc (by omega)) (fun _=>?_)
   simp (disch:=omega)only[go_sem, *]
end
end Go.Ab.T
