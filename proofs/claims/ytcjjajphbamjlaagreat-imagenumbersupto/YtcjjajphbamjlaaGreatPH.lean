/- Part of a proof that a law returns true for every input of the second form's bound (no other condition). -/
import Derived.Test.YtcjjajphbamjlaaGreatPG
set_option linter.all false
namespace Go.Ab.T
open Go Go.Ab
set_option maxHeartbeats 4000000
theorem YX {P P':List Part} (h:P'.map z0=P.map z0) {p:Part} (hp:p∈P'):∃ q∈P,q.name=p.name:=by
 have:z0 p∈P.map z0:=by rw [← h];exact List.mem_map_of_mem hp
 obtain ⟨q,hq,e⟩:=List.mem_map.1 this
 exact ⟨q,hq,by have:=congrArg Part.name e;exact this⟩
structure cC (P:List Part) (Ch:List Ar) (T:List (List Node)):Prop where
 z:P.map z0=P
 p1:1≤P.length
 p2:P.length≤6
 c:Ch.length≤8
 t1:1≤T.length
 t2:T.length≤3
 parts:∀ i,i<P.length→UY P i
 chans:∀ x∈Ch,C0 P.length x=true∧x.late=0∧Fi x
 tabs:∀ t∈T,Es P.length t
 nm:∀ p∈P,p.name.size<4000000000
theorem cC.where_ {P:List Part} {Ch Ch':List Ar} {T:List (List Node)} (g:cC P Ch T) (hl:Ch'.length=Ch.length) (hc:∀ x∈Ch',CO P.length (T.map rn) x):A1 ⟨P,Ch',T⟩=(0,-1):=by
 rw [Dl]
 refine ⟨⟨g.p1,g.p2,by rw [hl];exact g.c,g.t1,g.t2⟩,g.parts,fun x hx=>(hc x hx).1,fun t ht=>?_⟩
 rw [D0]
 refine ⟨g.tabs t ht, ?_⟩
 rw [QT]
 refine ⟨?_,HX _ _ fun p hp=>?_⟩
 ·rw [List.any_eq_false]
  intro x hx
  change ¬ CF (rn t) x=true
  rw [(hc x hx).2.1 _ (List.mem_map_of_mem ht)]
  simp
 ·have:p∈P.map z0:=by rw [g.z];exact hp
  obtain ⟨q,_,rfl⟩:=List.mem_map.1 this
  rfl
theorem KQ:∀ (L:List AI) (a:Int),0≤a→a≤9223372036854775807→0≤H6 L a∧H6 L a≤9223372036854775807
 | [],a,h0,h1=>⟨h0,h1⟩
 | r::l,a,h0,h1=>KQ l _ (Fl).1 (Fl).2
theorem fD {b id k : Nat} {L : List Int} {vp vc : V} {T : List (List Node)} {h : AH} {P : List Part} {Ch : List Ar} {K : V → AH → Prop} (g : cC P Ch T) (hL : L.length < 4000000000) (hk : k ≤ L.length) (hb : b ≤ h.next) (hid : id < b) (hlo : h.lim ≤ id) (hg : h.get id = some (Av L k))
    (sp:Sl b h 11 vp (P.map Part.enc)) (sc:Sl b h 6 vc (Ch.map Ar.enc)) (dj:Ba vp=true∨Ba vc=true∨AW vp≠AW vc)
    (kk:∀ P' Ch' h' j,j≤L.length→(∀ x∈Ch',Fi x)→A1 ⟨P',Ch',T⟩=(0,-1)→GT ⟨P',Ch',T⟩→P'.length=P.length→Ch'.length=Ch.length→h.next≤h'.next→h'.lim=h.lim→h'.get id=some (Av L j)→(∀ i,i<b→i≠id→h'.get i=h.get i)→Sl b h' 11 vp (P'.map Part.enc)→Sl b h' 6 vc (Ch'.map Ar.enc)→K (.agg [vp,vc,.fl 1 (T.map Tab.enc)]) h'):
    Cq tp Sv [.p id 0 0,.agg [vp,vc,.fl 1 (T.map Tab.enc)]] h K:=by
 have pl:=DG sp
 have cl:=DG sc
 obtain ⟨plen,pbig,plt,plo,pget,pat,prow,pcell,pcells⟩:=sp.facts
 obtain ⟨clen,cbig,clt,FI,cget,cat,crow,ccell,ccells⟩:=sc.facts
 have ht2:=g.t2
 have ht1:=g.t1
 have hp2:=g.p2
 have hc2:=g.c
 have hRf:∀ r∈T.map rn,Hy r:=fun r hr=>by obtain ⟨t,_,rfl⟩:=List.mem_map.1 hr;exact Jq
 have hC0:∀ x∈Ch,CO P.length (T.map rn) x:=fun x hx=>⟨(g.chans x hx).1,fun r _=>by unfold CF;rw [(g.chans x hx).2.1];simp,(g.chans x hx).2.2⟩
 refine A8 aFv (by simp [Ou]) fun wf rp=>?_
 unfold Ou
 simp (disch:=omega)only[go_sem, *]
 have x0:AK h ((h.alloc ⟨3,[[vp,vc,.fl 1 (T.map Tab.enc)]]⟩).alloc ⟨3,[[.ns,.ns,.ns]]⟩):=by (repeat (first | exact AK.refl _ | refine AK.alloc ?_ _ | (refine AK.put ?_ _ _ ?_;rotate_left;(first | omega | (simp only [Ag,AB];omega)))))
 have a0:Ask b id L vp vc T h ((h.alloc ⟨3,[[vp,vc,.fl 1 (T.map Tab.enc)]]⟩).alloc ⟨3,[[.ns,.ns,.ns]]⟩) P Ch k:=⟨by simp (disch:=omega)only[go_sem, *],rfl,(x0.get _ (by omega)).trans hg,hk,by simp (disch:=omega)only[go_sem, *],by simp (disch:=omega)only[go_sem, *],fun i hi _=>x0.get i (by omega),sp.ext x0,sc.ext x0,pl,cl,dj⟩
 clear plen pbig plt plo pget pat prow pcell pcells clen cbig clt FI cget cat crow ccell ccells sp sc x0
 refine aET hb hid hlo g.t2 a0 (by simp (disch:=omega)only[go_sem, *]) (by simp (disch:=omega)only[go_sem, *]) (by simp (disch:=omega)only[go_sem, *]) (by simp (disch:=omega)only[go_sem, *]) (by simp (disch:=omega)only[go_sem, *]) (by simp (disch:=omega)only[go_sem, *]) (by simp (disch:=omega)only[go_sem, *]) ?_
 clear a0
 intro e h1 w e0 e3 e4 e5 a sl
 have hbox:=a.box
 obtain ⟨clen,cbig,clt,FI,cget,cat,crow,ccell,ccells⟩:=a.sc.facts
 simp (disch:=omega)only[go_sem, *]
 refine fC hb hid hlo hL hRf a sl hC0 (by simp (disch:=omega)only[go_sem, *]) (by simp (disch:=omega)only[go_sem, *]) (by simp (disch:=omega)only[go_sem, *]) (by simp (disch:=omega)only[go_sem, *]) (by simp (disch:=omega)only[go_sem, *]) (by simp (disch:=omega)only[go_sem, *]) (by simp (disch:=omega)only[go_sem, *]) ?_
 clear e0 e3 e4 e5 a sl hbox clen cbig clt FI cget cat crow ccell ccells e h1 hC0
 intro e h2 Ch' j e0 e3 e4 e5 a sl hC hCl
 obtain ⟨wlen,wbig,wlt,wlo,wget,FF,wrow,wcell,wcells⟩:=sl.facts
 have hr0:=So (hRf _ (Bl (L:=T.map rn) (j:=0) (by simp;omega)))
 have hw0:(Bm h2 w)[E2 w]?=some (RT.enc (nth (T.map rn) 0)):=by have:=wrow 0 (by simp;omega);simpa using this
 have hml:(T.map rn).length=T.length:=List.length_map ..
 simp (disch:=omega)only[go_sem, *]
 refine Pf.go (I4 hr0) (by simp only [go_sem]) fun _=>?_;simp (disch:=omega)only[go_sem, *]
 refine AU a.tape a.jl hL (by have:=a.lim;omega) ?_
 intro v j2 v0 v1 v2 hj2
 have a2:=a.tape2 hb hid hj2
 have sl2:Sl (h.next+2) (h2.put id (Av L j2)) 1 w ((T.map rn).map RT.enc):=AA sl _ _ ((As sl).imp (fun x=>x) (fun x=>by omega))
 generalize h2.put id (Av L j2)=h3 at a2 sl2 ⊢
 clear wlen wbig wlt wlo wget FF wrow wcell wcells sl a
 simp (disch:=omega)only[go_sem, *]
 refine Wy (h:=h) (id:=id) (w:=w) (pr:=H6 (nth (T.map rn) 0) 0) (k:=2+v) (KQ _ _ (by omega) (by omega)).1 (KQ _ _ (by omega) (by omega)).2 (by omega) (by simp (disch:=omega)only[go_sem, *]) (by simp (disch:=omega)only[go_sem, *]) (by simp (disch:=omega)only[go_sem, *]) (by simp (disch:=omega)only[go_sem, *]) (by simp (disch:=omega)only[go_sem, *]) (by simp (disch:=omega)only[go_sem, *]) ?_
 clear e0 e3 e4 e5 e
 intro e pr e0 e3 e4 e5 e15
 have hbox:=a2.box
 obtain ⟨plen,pbig,plt,plo,pget,pat,prow,pcell,pcells⟩:=a2.sp.facts
 simp (disch:=omega)only[go_sem, *]
 refine fE (pr:=pr) hb hid hlo hL hRf a2 sl2 (by simp (disch:=omega)only[go_sem, *]) (by simp (disch:=omega)only[go_sem, *]) (by simp (disch:=omega)only[go_sem, *]) (by simp (disch:=omega)only[go_sem, *]) (by simp (disch:=omega)only[go_sem, *]) (by simp (disch:=omega)only[go_sem, *]) (by simp (disch:=omega)only[go_sem, *]) ?_
 clear e0 e3 e4 e5 e15 plen pbig plt plo pget pat prow pcell pcells hbox a2 sl2 e
 intro e h4 P' j4 e0 e3 e4 a hz
 have hnm:GT ⟨P',Ch',T⟩:=fun p hp=>by obtain ⟨q,hq,e⟩:=YX hz hp;rw [← e];exact g.nm q hq
 have hlen:=congrArg List.length hz
 simp only [List.length_map] at hlen
 have hbox:=a.box
 obtain ⟨plen,pbig,plt,plo,pget,pat,prow,pcell,pcells⟩:=a.sp.facts
 obtain ⟨clen,cbig,clt,FI,cget,cat,crow,ccell,ccells⟩:=a.sc.facts
 simp (disch:=omega)only[go_sem, *]
 refine Pf.look (Fg hnm) (.cons _ _ _ _ _ (.agg _ _ _ (.cons _ _ _ _ _ (a.sp.froze (fun _=>rfl) trivial (by omega)) (.cons _ _ _ _ _ (a.sc.froze (fun _=>rfl) trivial (by omega)) (.cons _ _ _ _ _ (.fl _ _ _) (.nil _))))) (.nil _)) rfl fun _=>?_
 have fin:∀ (P':List Part) h5,Ask b id L vp vc T h h5 P' Ch' j4→A1 ⟨P',Ch',T⟩=(0,-1)→P'.map z0=P.map z0→K (.agg [vp,vc,.fl 1 (T.map Tab.enc)]) (h5.put (h.next+1) ⟨3,[[vp,vc,.fl 1 (T.map Tab.enc)]]⟩):=by
  intro P' h5 a hw hz
  have n5:=a.next
  have hlen:=congrArg List.length hz
  simp only [List.length_map] at hlen
  have hnm:GT ⟨P',Ch',T⟩:=fun p hp=>by obtain ⟨q,hq,e⟩:=YX hz hp;rw [← e];exact g.nm q hq
  refine kk P' Ch' _ j4 a.jl (fun x hx=>(hC x hx).2.2) hw hnm hlen hCl (by rw [AB];omega) a.lim (by rw [Ad,Ac (by omega)];exact a.tape) (fun i hi hn=>by rw [Ad,Ac (by omega)];exact a.low i hi hn) (AA a.sp _ _ (a.pl.imp (fun x=>x) (fun x=>by omega))) (AA a.sc _ _ (a.cl.imp (fun x=>x) (fun x=>by omega)))
 have hres:=a.res
 have hlm:=a.lim
 simp (disch:=omega)only[go_sem, *]
 refine Aa (fun hc=>?_) (fun hc=>?_)
 ·simp (disch:=omega)only[go_sem, *]
  refine aEU hb hid hlo a (by simp (disch:=omega)only[go_sem, *]) (by simp (disch:=omega)only[go_sem, *]) (by simp (disch:=omega)only[go_sem, *]) (by simp (disch:=omega)only[go_sem, *]) (by simp (disch:=omega)only[go_sem, *]) ?_
  clear e0 e3 e4 plen pbig plt plo pget pat prow pcell pcells clen cbig clt FI cget cat crow ccell ccells hbox hres hlm e
  intro e h5 e0 e3 e4 a
  rw [hz,g.z] at a
  have hbox:=a.box
  have hres:=a.res
  have hlm:=a.lim
  obtain ⟨plen,pbig,plt,plo,pget,pat,prow,pcell,pcells⟩:=a.sp.facts
  obtain ⟨clen,cbig,clt,FI,cget,cat,crow,ccell,ccells⟩:=a.sc.facts
  have f:=fin P h5 a (g.where_ hCl hC) rfl
  clear fin
  simp (disch:=omega)only[go_sem, *]
 ·have f:=fin P' h4 a (R1 (by omega)) hz
  clear fin
  simp (disch:=omega)only[go_sem, *]
end Go.Ab.T
namespace Go.Ab.T
open Go Go.Ab
set_option maxHeartbeats 2000000
def Dj (v w:V):Prop:=Ba v=true∨Ba w=true∨AW v≠AW w
structure CS (q id:Nat) (L:List Int) (h h':AH) (vp vc vt:V) (P:List Part) (Ch:List Ar) (T:List (List Node)) (j:Nat):Prop where
 q1:h.next+2≤q
 q2:q≤h'.next
 lim:h'.lim=h.lim
 tape:h'.get id=some (Av L j)
 jl:j≤L.length
 res:h'.get h.next=some ⟨3,[[.ns,.ns,.ns]]⟩
 box:h'.get (h.next+1)=some ⟨3,[[vp,vc,vt]]⟩
 low:∀ i,i<h.next→i≠id→h'.get i=h.get i
 sp:Sl (h.next+2) h' 11 vp (P.map Part.enc)
 sc:Sl (h.next+2) h' 6 vc (Ch.map Ar.enc)
 st:Sl (h.next+2) h' 1 vt (T.map Tab.enc)
 pl:Ba vp=true∨AW vp<q
 cl:Ba vc=true∨AW vc<q
 tl:Ba vt=true∨AW vt<q
 pc:Dj vp vc
 pt:Dj vp vt
 ct:Dj vc vt
section
variable {q id:Nat} {L:List Int} {h h' h2:AH} {vp vc vt:V} {P:List Part} {Ch:List Ar} {T:List (List Node)} {j:Nat}
theorem Ju {b sz q:Nat} {h h2:AH} {v:V} {R:List (List V)} (s:Sl b h sz v R) (hl:Ba v=true∨AW v<q) (hn:h.next≤h2.next) (g:∀ i,i<q→h2.get i=h.get i):Sl b h2 sz v R:=by
 rcases hl with hl | hl
 ·rcases s with ⟨a,c⟩ | ⟨_,_,_,_,rfl,_⟩
  ·exact .inl ⟨a,c⟩
  ·cases hl
 ·exact s.same hn (fun _=>g _ hl)
theorem CS.keep (a:CS q id L h h' vp vc vt P Ch T j) (hid:id<h.next) (hn:h'.next≤h2.next) (hl:h2.lim=h'.lim) (g:∀ i,i<q→h2.get i=h'.get i):CS q id L h h2 vp vc vt P Ch T j:=by
 have q1:=a.q1;have q2:=a.q2
 exact ⟨q1,by omega,hl.trans a.lim,(g _ (by omega)).trans a.tape,a.jl,(g _ (by omega)).trans a.res,(g _ (by omega)).trans a.box,fun i hi hn=>(g i (by omega)).trans (a.low i hi hn),Ju a.sp a.pl hn g,Ju a.sc a.cl hn g,Ju a.st a.tl hn g,a.pl,a.cl,a.tl,a.pc,a.pt,a.ct⟩
theorem CS.ext (a:CS q id L h h' vp vc vt P Ch T j) (hid:id<h.next) (x:AK h' h2):CS q id L h h2 vp vc vt P Ch T j:=
 a.keep hid x.next x.lim (fun i hi=>x.get i (by have:=a.q2;omega))
theorem CS.up {q':Nat} (a:CS q id L h h' vp vc vt P Ch T j) (h1:q≤q') (h2:q'≤h'.next):CS q' id L h h' vp vc vt P Ch T j:=
 ⟨Nat.le_trans a.q1 h1,h2,a.lim,a.tape,a.jl,a.res,a.box,a.low,a.sp,a.sc,a.st,a.pl.imp (fun x=>x) (fun x=>by omega),a.cl.imp (fun x=>x) (fun x=>by omega),a.tl.imp (fun x=>x) (fun x=>by omega),a.pc,a.pt,a.ct⟩
theorem CS.tape2 {j2:Nat} (a:CS q id L h h' vp vc vt P Ch T j) (hid:id<h.next) (hj:j2≤L.length):CS q id L h (h'.put id (Av L j2)) vp vc vt P Ch T j2:=by
 have q1:=a.q1;have q2:=a.q2
 exact ⟨q1,q2,a.lim,by rw [Ad,AC rfl],hj,by rw [Ad,Ac (by omega)];exact a.res,by rw [Ad,Ac (by omega)];exact a.box,fun i hi hn=>by rw [Ad,Ac hn];exact a.low i hi hn,
  AA a.sp _ _ ((As a.sp).imp (fun x=>x) (fun x=>by omega)),AA a.sc _ _ ((As a.sc).imp (fun x=>x) (fun x=>by omega)),AA a.st _ _ ((As a.st).imp (fun x=>x) (fun x=>by omega)),a.pl,a.cl,a.tl,a.pc,a.pt,a.ct⟩
theorem C2 {b:Nat} {v w x:V} {h1 h2:AH} (g:Grown b h1 x v h2) (d:Dj x w) (hl:Ba w=true∨AW w<h1.next):Dj v w:=by
 rcases g.own with k | ⟨k1,k2⟩ | k
 ·exact .inl k
 ·rcases d with d | d | d
  ·rw [d] at k1;cases k1
  ·exact .inr (.inl d)
  ·exact .inr (.inr (by rw [k2];exact d))
 ·rcases hl with hl | hl
  ·exact .inr (.inl hl)
  ·exact .inr (.inr (by omega))
theorem ES {v w:V} (d:Dj v w):Dj w v:=by
 rcases d with d | d | d
 ·exact .inr (.inl d)
 ·exact .inl d
 ·exact .inr (.inr (Ne.symm d))
theorem DF {b b' sz:Nat} {h1 h2:AH} {x v w:V} {R:List (List V)} (s:Sl b h1 sz w R) (g:Grown b' h1 x v h2) (d:Dj x w):Sl b h2 sz w R:=by
 rcases s with hs | ⟨i,el,cap,cs,rfl,hg,a1,a2,a3,a4,a5,a6⟩
 ·exact .inl hs
 ·refine .inr ⟨i,el,cap,cs,rfl, ?_,a1,a2,a3,Nat.lt_of_lt_of_le a4 g.next,a5,a6⟩
  rw [g.get i a4];exact hg
  rcases d with d | d | d
  ·exact .inl d
  ·cases d
  ·exact .inr (Ne.symm d)
theorem Dh {b:Nat} {h1 h2:AH} {x v:V} (g:Grown b h1 x v h2) (hx:Ba x=true∨b≤AW x) (hb:b≤h1.next):∀ i,i<b→h2.get i=h1.get i:=fun i hi=>g.get i (by omega) (hx.imp (fun x=>x) (fun x=>by omega))
theorem CS.grow_p {h1 h3 : AH} {v : V} {x : Part} (a : CS q id L h h' vp vc vt P Ch T j) (hid : id < h.next) (e : AK h' h1) (s : Sl (h.next + 2) h3 11 v (P.map Part.enc ++ [x.enc])) (g : Grown (h.next + 2) h1 vp v h3) :
    CS h3.next id L h (h3.put (h.next+1) ⟨3,[[v,vc,vt]]⟩) v vc vt (P++[x]) Ch T j:=by
 have q1:=a.q1;have q2:=a.q2;have n1:=e.next;have n2:=g.next
 have gl:=Dh g (As a.sp) (by omega)
 have a1:=a.ext hid e
 have m:=DG s
 refine ⟨by omega,Nat.le_refl _,g.lim.trans a1.lim,by rw [Ad,Ac (by omega)];exact (gl _ (by omega)).trans a1.tape,a.jl,by rw [Ad,Ac (by omega)];exact (gl _ (by omega)).trans a1.res,by rw [Ad,AC rfl],fun i hi hn=>by rw [Ad,Ac (by omega)];exact (gl i (by omega)).trans (a1.low i hi hn), ?_, ?_, ?_,m,a.cl.imp (fun x=>x) (fun x=>by omega),a.tl.imp (fun x=>x) (fun x=>by omega),C2 g a.pc (a.cl.imp (fun x=>x) (fun x=>by omega)),C2 g a.pt (a.tl.imp (fun x=>x) (fun x=>by omega)),a.ct⟩
 ·refine AA ?_ _ _ ((As s).imp (fun x=>x) (fun x=>by omega));simpa using s
 ·exact AA (DF a1.sc g a.pc) _ _ ((As a.sc).imp (fun x=>x) (fun x=>by omega))
 ·exact AA (DF a1.st g a.pt) _ _ ((As a.st).imp (fun x=>x) (fun x=>by omega))
theorem CS.grow_c {h1 h3 : AH} {v : V} {x : Ar} (a : CS q id L h h' vp vc vt P Ch T j) (hid : id < h.next) (e : AK h' h1) (s : Sl (h.next + 2) h3 6 v (Ch.map Ar.enc ++ [x.enc])) (g : Grown (h.next + 2) h1 vc v h3) :
    CS h3.next id L h (h3.put (h.next+1) ⟨3,[[vp,v,vt]]⟩) vp v vt P (Ch++[x]) T j:=by
 have q1:=a.q1;have q2:=a.q2;have n1:=e.next;have n2:=g.next
 have gl:=Dh g (As a.sc) (by omega)
 have a1:=a.ext hid e
 have m:=DG s
 refine ⟨by omega,Nat.le_refl _,g.lim.trans a1.lim,by rw [Ad,Ac (by omega)];exact (gl _ (by omega)).trans a1.tape,a.jl,by rw [Ad,Ac (by omega)];exact (gl _ (by omega)).trans a1.res,by rw [Ad,AC rfl],fun i hi hn=>by rw [Ad,Ac (by omega)];exact (gl i (by omega)).trans (a1.low i hi hn), ?_, ?_, ?_,a.pl.imp (fun x=>x) (fun x=>by omega),m,a.tl.imp (fun x=>x) (fun x=>by omega),ES (C2 g (ES a.pc) (a.pl.imp (fun x=>x) (fun x=>by omega))),a.pt,C2 g a.ct (a.tl.imp (fun x=>x) (fun x=>by omega))⟩
 ·exact AA (DF a1.sp g (ES a.pc)) _ _ ((As a.sp).imp (fun x=>x) (fun x=>by omega))
 ·refine AA ?_ _ _ ((As s).imp (fun x=>x) (fun x=>by omega));simpa using s
 ·exact AA (DF a1.st g a.ct) _ _ ((As a.st).imp (fun x=>x) (fun x=>by omega))
theorem CS.grow_t {h1 h3 : AH} {v : V} {x : List Node} (a : CS q id L h h' vp vc vt P Ch T j) (hid : id < h.next) (e : AK h' h1) (s : Sl (h.next + 2) h3 1 v (T.map Tab.enc ++ [Tab.enc x])) (g : Grown (h.next + 2) h1 vt v h3) :
    CS h3.next id L h (h3.put (h.next+1) ⟨3,[[vp,vc,v]]⟩) vp vc v P Ch (T++[x]) j:=by
 have q1:=a.q1;have q2:=a.q2;have n1:=e.next;have n2:=g.next
 have gl:=Dh g (As a.st) (by omega)
 have a1:=a.ext hid e
 have m:=DG s
 refine ⟨by omega,Nat.le_refl _,g.lim.trans a1.lim,by rw [Ad,Ac (by omega)];exact (gl _ (by omega)).trans a1.tape,a.jl,by rw [Ad,Ac (by omega)];exact (gl _ (by omega)).trans a1.res,by rw [Ad,AC rfl],fun i hi hn=>by rw [Ad,Ac (by omega)];exact (gl i (by omega)).trans (a1.low i hi hn), ?_, ?_, ?_,a.pl.imp (fun x=>x) (fun x=>by omega),a.cl.imp (fun x=>x) (fun x=>by omega),m,a.pc,ES (C2 g (ES a.pt) (a.pl.imp (fun x=>x) (fun x=>by omega))),ES (C2 g (ES a.ct) (a.cl.imp (fun x=>x) (fun x=>by omega)))⟩
 ·exact AA (DF a1.sp g (ES a.pt)) _ _ ((As a.sp).imp (fun x=>x) (fun x=>by omega))
 ·exact AA (DF a1.sc g (ES a.ct)) _ _ ((As a.sc).imp (fun x=>x) (fun x=>by omega))
 ·refine AA ?_ _ _ ((As s).imp (fun x=>x) (fun x=>by omega));simpa using s
end
end Go.Ab.T
namespace Go.Ab.T
open Go Go.Ab
set_option maxHeartbeats 4000000
section
variable {q id:Nat} {L:List Int} {h h' h2:AH} {vp vc vt:V} {P:List Part} {Ch:List Ar} {T:List (List Node)} {j:Nat}
theorem TD {K : Ex → Env → AH → Prop} {e : Env} {k n : Int} {i : Nat} {nm : ByteArray} {sc st : Bool} (hid : id < h.next) (hlo : h.lim ≤ id) (hL : L.length < 4000000000) (hk0 : 0 ≤ k) (hk1 : k ≤ 1) (a : CS q id L h h' vp vc vt P Ch T j) (hq : q < h'.next)
    (hb:h'.get q=some ⟨11,[[.s nm,.i .i64 0,.i .i64 0,.b sc,.b st,.ns,.i .i64 0,.i .i64 0,.i .i64 0,.i .i64 0,.i .i64 0]]⟩)
    (e0:e 0=.p id 0 0) (e2:e 2=.p h.next 0 0) (e3:e 3=.p (h.next+1) 0 0) (e4:e 4=.i .i64 n) (e5:e 5=.i .i64 i) (e6:e 6=.p q 0 0) (e7:e 7=.i .i64 k)
    (kk:∀ e' h' j vr pr,e' 0=.p id 0 0→e' 2=.p h.next 0 0→e' 3=.p (h.next+1) 0 0→e' 4=.i .i64 n→e' 5=.i .i64 i→e' 6=.p q 0 0→CS q id L h h' vp vc vt P Ch T j→q<h'.next→h'.get q=some ⟨11,[[.s nm,.i .i64 0,.i .i64 0,.b sc,.b st,vr,.i .i64 0,.i .i64 0,.i .i64 0,.i .i64 0,.i .i64 0]]⟩→Sl (q+1) h' 2 vr (pr.map AO.enc)→CG pr=true→pr.length≤2→K (.ex 2) e' h'):ZC tp (.loop Vb) e h' K:=by
 refine Ae (fun n' e hh=>∃ (k':Int) (vr:V) (pr:List AO) (j:Nat),n'=(k'+1).toNat∧e 0=.p id 0 0∧e 2=.p h.next 0 0∧e 3=.p (h.next+1) 0 0∧e 4=.i .i64 n∧e 5=.i .i64 i∧e 6=.p q 0 0∧e 7=.i .i64 k'∧-1≤k'∧CS q id L h hh vp vc vt P Ch T j∧q<hh.next∧hh.get q=some ⟨11,[[.s nm,.i .i64 0,.i .i64 0,.b sc,.b st,vr,.i .i64 0,.i .i64 0,.i .i64 0,.i .i64 0,.i .i64 0]]⟩∧Sl (q+1) hh 2 vr (pr.map AO.enc)∧(∀ x∈pr,Ee x=true)∧(pr.length:Int)+k'=k) ?_ _ _ _ ⟨k,.ns,[],j,rfl,e0,e2,e3,e4,e5,e6,e7,by omega,a,hq,hb,Sl.nil _ _ _,(fun x hx=>by cases hx),by simp⟩
 clear e0 e2 e3 e4 e5 e6 e7 e a hq hb
 rintro n' e hh ⟨k',vr,pr,j,rfl,e0,e2,e3,e4,e5,e6,e7,hk',a,hq,hb,sr,hpr,hlen⟩ ih
 have q1:=a.q1
 have hlm:=a.lim
 have hro:=As sr
 obtain ⟨rlen,rbig,rlt,rlo,rget,rat,rrow,rcell,rcells⟩:=sr.facts
 have hsv:=Sl.sameV sr
 clear rlt rlo rget rat rrow rlen rbig
 rw [Ai Vb.eq_1]
 simp (disch:=omega)only[go_sem, *]
 refine Aa (fun hc=>?_) (fun hc=>?_)
 ·simp (disch:=omega)only[go_sem, *]
  refine AU a.tape a.jl hL (by omega) ?_
  intro v j2 v0 v1 v2 hj2
  have a2:=a.tape2 hid hj2
  have sr2:=AA sr id (Av L j2) (hro.imp (fun x=>x) (fun x=>by omega))
  have hb2:(hh.put id (Av L j2)).get q=some ⟨11,[[.s nm,.i .i64 0,.i .i64 0,.b sc,.b st,vr,.i .i64 0,.i .i64 0,.i .i64 0,.i .i64 0,.i .i64 0]]⟩:=by rw [Ad,Ac (by omega)];exact hb
  have hq2:q<(hh.put id (Av L j2)).next:=hq
  generalize hh.put id (Av L j2)=h2 at a2 sr2 hb2 hq2 ⊢
  clear a sr hb hq hlm
  have hlm:=a2.lim
  simp (disch:=omega)only[go_sem, *]
  refine AU a2.tape a2.jl hL (by omega) ?_
  intro v' j3 v0' v1' v2' hj3
  have a3:=a2.tape2 hid hj3
  have sr3:=AA sr2 id (Av L j3) (hro.imp (fun x=>x) (fun x=>by omega))
  have hb3:(h2.put id (Av L j3)).get q=some ⟨11,[[.s nm,.i .i64 0,.i .i64 0,.b sc,.b st,vr,.i .i64 0,.i .i64 0,.i .i64 0,.i .i64 0,.i .i64 0]]⟩:=by rw [Ad,Ac (by omega)];exact hb2
  have hq3:q<(h2.put id (Av L j3)).next:=hq2
  generalize h2.put id (Av L j3)=h3 at a3 sr3 hb3 hq3 ⊢
  clear a2 sr2 hb2 hq2 hlm
  have hlm:=a3.lim
  simp (disch:=omega)only[go_sem, *]
  refine Ao (sr3.alloc _) (by simp (disch:=omega)only[go_sem, *]<;>omega) (by simp (disch:=omega)only[go_sem, *]<;>omega) (by simp;omega) ?_
  intro w h4 s4 g4
  have l4:=g4.lim
  have n4:=g4.next
  have gl:=Dh g4 hro (by simp (disch:=omega)only[go_sem, *]<;>omega)
  have c4:=g4.cell
  have c4s:=g4.cells
  have x3:AK h3 (h3.alloc ⟨2,[(⟨4*v,v'⟩:AO).enc]⟩):=(AK.refl _).alloc _
  simp only [AO.enc,Ag,AG] at l4 n4 x3 gl
  have hb4:h4.get q=some ⟨11,[[.s nm,.i .i64 0,.i .i64 0,.b sc,.b st,vr,.i .i64 0,.i .i64 0,.i .i64 0,.i .i64 0,.i .i64 0]]⟩:=(gl q (by omega)).trans ((x3.get q (by omega)).trans hb3)
  have hsw:=Sl.sameV s4
  have a5:CS q id L h (h4.put q ⟨11,[[.s nm,.i .i64 0,.i .i64 0,.b sc,.b st,w,.i .i64 0,.i .i64 0,.i .i64 0,.i .i64 0,.i .i64 0]]⟩) vp vc vt P Ch T j3:=a3.keep hid (by rw [AB];omega) (by rw [CU];omega) (fun i hi=>by rw [Ad,Ac (by omega),gl i (by omega)];exact x3.get i (by omega))
  have s5:Sl (q+1) (h4.put q ⟨11,[[.s nm,.i .i64 0,.i .i64 0,.b sc,.b st,w,.i .i64 0,.i .i64 0,.i .i64 0,.i .i64 0,.i .i64 0]]⟩) 2 w ((pr++[(⟨4*v,v'⟩:AO)]).map AO.enc):=AA (by simpa [AO.enc] using s4) _ _ ((As s4).imp (fun x=>x) (fun x=>by omega))
  have hpr5:∀ x∈pr++[(⟨4*v,v'⟩:AO)],Ee x=true:=fun x hx=>by
   rcases List.mem_append.1 hx with hx | hx
   ·exact hpr x hx
   ·rw [List.mem_singleton] at hx;subst hx;simp only [Ee];simp;omega
  clear hpr s4
  simp (disch:=omega)only[go_sem, *]
  refine ih _ _ _ ?_ ⟨k' - 1,w,pr++[⟨4*v,v'⟩],j3,rfl, ?_⟩
  ·omega
  ·simp (disch:=omega)only[go_sem, *]
   ((repeat' refine And.intro ?_ ?_)<;>first | omega | assumption | (exact a5) | (exact s5) | (exact hpr5) | ((simp only [List.length_append,List.length_cons,List.length_nil];omega)))
 ·simp (disch:=omega)only[go_sem, *]
  have hpl:CG pr=true:=by
   unfold CG
   simp only [Bool.and_eq_true,List.all_eq_true,decide_eq_true_eq]
   exact ⟨hpr,by omega⟩
  exact kk _ hh j vr pr e0 e2 e3 e4 e5 e6 a hq hb sr hpl (by omega)
end
end Go.Ab.T
namespace Go.Ab.T
open Go Go.Ab
set_option maxHeartbeats 4000000
theorem aWF {v:Int} (h0:0≤v) (h5:v<5):∃ z:Int,0≤z∧z≤2∧[[V.i .i64 0],[.i .i64 1],[.i .i64 0],[.i .i64 2],[.i .i64 1]][v.toNat]?=some [.i .i64 z]:=by
 have:v=0∨v=1∨v=2∨v=3∨v=4:=by omega
 rcases this with rfl | rfl | rfl | rfl | rfl
 ·exact ⟨0,by omega,by omega,rfl⟩
 ·exact ⟨1,by omega,by omega,rfl⟩
 ·exact ⟨0,by omega,by omega,rfl⟩
 ·exact ⟨2,by omega,by omega,rfl⟩
 ·exact ⟨1,by omega,by omega,rfl⟩
section
variable {q id:Nat} {L:List Int} {h h' h2:AH} {vp vc vt:V} {P:List Part} {Ch:List Ar} {T:List (List Node)} {j:Nat}
theorem QH {K : Ex → Env → AH → Prop} {e : Env} {n : Int} {i : Nat} {nm : ByteArray} {sc st : Bool} {vr : V} {pr : List AO} (hid : id < h.next) (hlo : h.lim ≤ id) (hL : L.length < 4000000000) (a : CS q id L h h' vp vc vt P Ch T j) (hq : q < h'.next)
    (hb:h'.get q=some ⟨11,[[.s nm,.i .i64 0,.i .i64 0,.b sc,.b st,vr,.i .i64 0,.i .i64 0,.i .i64 0,.i .i64 0,.i .i64 0]]⟩) (sr:Sl (q+1) h' 2 vr (pr.map AO.enc)) (hpr:CG pr=true) (hpl:pr.length≤2)
    (e0:e 0=.p id 0 0) (e2:e 2=.p h.next 0 0) (e3:e 3=.p (h.next+1) 0 0) (e4:e 4=.i .i64 n) (e5:e 5=.i .i64 i) (e6:e 6=.p q 0 0) (e50:e 50=.i .i64 0)
    (kk:∀ e' h' j (hs:Nat→Int),(∀ i,0≤hs i∧hs i≤2)→e' 0=.p id 0 0→e' 2=.p h.next 0 0→e' 3=.p (h.next+1) 0 0→e' 4=.i .i64 n→e' 5=.i .i64 i→e' 6=.p q 0 0→CS q id L h h' vp vc vt P Ch T j→q<h'.next→h'.get q=some ⟨11,[(⟨nm,0,0,sc,st,pr,hs 0,hs 1,hs 2,hs 3,hs 4⟩:Part).enc]⟩→K (.ex 4) e' h'):ZC tp (.loop Vc) e h' K:=by
 have q1:=a.q1;have q2:=a.q2
 have hp1:0<pr.length:=by
  unfold CG at hpr
  simp only [Bool.and_eq_true,decide_eq_true_eq] at hpr
  omega
 obtain ⟨rlen,rbig,rlt,rlo,rget,rat,rrow,rcell,rcells⟩:=sr.facts
 have l1:=rlt hp1
 have l2:=rlo hp1
 refine aEC [0,2,3,4,5,6,50] q (AW vr) 11 _ [.s nm,.i .i64 0,.i .i64 0,.b sc,.b st,.fl 2 (pr.map AO.enc),.i .i64 0,.i .i64 0,.i .i64 0,.i .i64 0,.i .i64 0] (by omega) hb ?_ ?_ ?_
 ·exact .cons _ _ _ _ _ (.cons _ _ _ _ _ (.z _ _ (.s _)) (.cons _ _ _ _ _ (.z _ _ (.i _ _)) (.cons _ _ _ _ _ (.z _ _ (.i _ _)) (.cons _ _ _ _ _ (.z _ _ (.b _)) (.cons _ _ _ _ _ (.z _ _ (.b _)) (.cons _ _ _ _ _ (sr.froze (fun _=>rfl) rfl (by omega)) (.cons _ _ _ _ _ (.z _ _ (.i _ _)) (.cons _ _ _ _ _ (.z _ _ (.i _ _)) (.cons _ _ _ _ _ (.z _ _ (.i _ _)) (.cons _ _ _ _ _ (.z _ _ (.i _ _)) (.cons _ _ _ _ _ (.z _ _ (.i _ _)) (.nil _)))))))))))) (.nil _)
 ·intro t ht
  simp only [List.mem_cons,List.not_mem_nil,or_false] at ht
  rcases ht with rfl | rfl | rfl | rfl | rfl | rfl | rfl
  ·rw [e0];exact .p _ _ _ _ (by omega)
  ·rw [e2];exact .p _ _ _ _ (by omega)
  ·rw [e3];exact .p _ _ _ _ (by omega)
  ·rw [e4];exact .z _ _ (.i _ _)
  ·rw [e5];exact .z _ _ (.i _ _)
  ·rw [e6];exact .p _ _ _ _ (by omega)
  ·rw [e50];exact .z _ _ (.i _ _)
 intro e' he'
 rw [← he' 0 (by simp)] at e0
 rw [← he' 2 (by simp)] at e2
 rw [← he' 3 (by simp)] at e3
 rw [← he' 4 (by simp)] at e4
 rw [← he' 5 (by simp)] at e5
 rw [← he' 6 (by simp)] at e6
 rw [← he' 50 (by simp)] at e50
 have hb1:((h'.kill (AW vr)).put q ⟨11,[[.s nm,.i .i64 0,.i .i64 0,.b sc,.b st,.fl 2 (pr.map AO.enc),.i .i64 0,.i .i64 0,.i .i64 0,.i .i64 0,.i .i64 0]]⟩).get q=some ⟨11,[(⟨nm,0,0,sc,st,pr,0,0,0,0,0⟩:Part).enc]⟩:=by rw [Ad,AC rfl];rfl
 have a1:CS q id L h ((h'.kill (AW vr)).put q ⟨11,[[.s nm,.i .i64 0,.i .i64 0,.b sc,.b st,.fl 2 (pr.map AO.enc),.i .i64 0,.i .i64 0,.i .i64 0,.i .i64 0,.i .i64 0]]⟩) vp vc vt P Ch T j:=a.keep hid (Nat.le_refl _) rfl (fun i hi=>by rw [Ad,Ac (by omega),Cl,Ac (by omega)])
 have hq1:q<((h'.kill (AW vr)).put q ⟨11,[[.s nm,.i .i64 0,.i .i64 0,.b sc,.b st,.fl 2 (pr.map AO.enc),.i .i64 0,.i .i64 0,.i .i64 0,.i .i64 0,.i .i64 0]]⟩).next:=hq
 generalize (h'.kill (AW vr)).put q ⟨11,[[.s nm,.i .i64 0,.i .i64 0,.b sc,.b st,.fl 2 (pr.map AO.enc),.i .i64 0,.i .i64 0,.i .i64 0,.i .i64 0,.i .i64 0]]⟩=h1 at a1 hb1 hq1 ⊢
 clear rlen rbig rlt rlo rget rat rrow rcell rcells l1 l2 sr hb a hq q2 he'
 refine Ae (fun n' e hh=>∃ (k j:Nat) (hs:Nat→Int),n'=5 - k∧e 0=.p id 0 0∧e 2=.p h.next 0 0∧e 3=.p (h.next+1) 0 0∧e 4=.i .i64 n∧e 5=.i .i64 i∧e 6=.p q 0 0∧e 50=.i .i64 k∧k≤5∧CS q id L h hh vp vc vt P Ch T j∧q<hh.next∧hh.get q=some ⟨11,[(⟨nm,0,0,sc,st,pr,hs 0,hs 1,hs 2,hs 3,hs 4⟩:Part).enc]⟩∧∀ i,0≤hs i∧hs i≤2) ?_ _ _ _ ⟨0,j,fun _=>0,rfl,e0,e2,e3,e4,e5,e6,e50,by omega,a1,hq1,hb1,fun _=>⟨by simp,by simp⟩⟩
 clear e0 e2 e3 e4 e5 e6 e50 a1 hq1 hb1
 rintro n' e hh ⟨k,j,hs,rfl,e0,e2,e3,e4,e5,e6,e50,hk,a,hq,hb,hhs⟩ ih
 have q2:=a.q2
 have hlm:=a.lim
 rw [Ai Vc.eq_1]
 simp (disch:=omega)only[go_sem, *]
 refine Aa (fun hc=>?_) (fun hc=>?_)
 ·simp (disch:=omega)only[go_sem, *]
  have x1:AK hh (hh.alloc ⟨1,[[V.i .i64 0],[.i .i64 1],[.i .i64 0],[.i .i64 2],[.i .i64 1]]⟩):=(AK.refl _).alloc _
  have a1:=a.ext hid x1
  refine AU a1.tape a1.jl hL (by rw [AG];omega) ?_
  intro v j2 v0 v1 v2 hj2
  obtain ⟨z,z0,z2,hz⟩:=aWF v0 (by omega)
  have a2:=a1.tape2 hid hj2
  have hb2:((hh.alloc ⟨1,[[V.i .i64 0],[.i .i64 1],[.i .i64 0],[.i .i64 2],[.i .i64 1]]⟩).put id (Av L j2)).get q=some ⟨11,[(⟨nm,0,0,sc,st,pr,hs 0,hs 1,hs 2,hs 3,hs 4⟩:Part).enc]⟩:=by rw [Ad,Ac (by omega),AL,Ac (by omega)];exact hb
  have hl2:((hh.alloc ⟨1,[[V.i .i64 0],[.i .i64 1],[.i .i64 0],[.i .i64 2],[.i .i64 1]]⟩).put id (Av L j2)).get hh.next=some ⟨1,[[V.i .i64 0],[.i .i64 1],[.i .i64 0],[.i .i64 2],[.i .i64 1]]⟩:=by rw [Ad,Ac (by omega),AL,AC rfl]
  have hn2:((hh.alloc ⟨1,[[V.i .i64 0],[.i .i64 1],[.i .i64 0],[.i .i64 2],[.i .i64 1]]⟩).put id (Av L j2)).next=hh.next+1:=rfl
  generalize (hh.alloc ⟨1,[[V.i .i64 0],[.i .i64 1],[.i .i64 0],[.i .i64 2],[.i .i64 1]]⟩).put id (Av L j2)=h3 at a2 hb2 hl2 hn2 ⊢
  clear x1 a1 a hb hlm q2
  have hlm:=a2.lim
  simp only [Part.enc] at hb2
  have h15:k=0∨k=1∨k=2∨k=3∨k=4:=by omega
  have fin:∀ hs':Nat→Int,(∀ i,hs' i=hs i∨hs' i=z)→CS q id L h (h3.put q ⟨11,[(⟨nm,0,0,sc,st,pr,hs' 0,hs' 1,hs' 2,hs' 3,hs' 4⟩:Part).enc]⟩) vp vc vt P Ch T j2∧∀ i,0≤hs' i∧hs' i≤2:=fun hs' hh'=>⟨a2.keep hid (Nat.le_refl _) rfl (fun i hi=>by rw [Ad,Ac (by omega)]),fun i=>by have:=hh' i;have:=hhs i;omega⟩
  have hs1:=fun k=>fin (fun i=>if i=k then z else hs i) (fun i=>by by_cases e:i=k<;>simp [e])
  clear fin a2
  simp only [Part.enc] at hs1
  rcases h15 with rfl | rfl | rfl | rfl | rfl
  ·have hs2:=hs1 0
   clear hs1
   simp (disch:=omega)only[go_sem, *]
   refine ih _ _ _ ?_ ⟨1,j2,fun i=>if i=0 then z else hs i,rfl, ?_⟩
   ·omega
   ·simp only [Nat.reduceEqDiff,reduceIte] at hs2
    simp (disch:=omega)only[go_sem, *]
    ((repeat' refine And.intro ?_ ?_)<;>first | omega | assumption | (exact hs2.1) | (exact hs2.2) | (exact fun _=>trivial) | (rfl))
  ·have hs2:=hs1 1
   clear hs1
   simp (disch:=omega)only[go_sem, *]
   refine ih _ _ _ ?_ ⟨2,j2,fun i=>if i=1 then z else hs i,rfl, ?_⟩
   ·omega
   ·simp only [Nat.reduceEqDiff,reduceIte] at hs2
    simp (disch:=omega)only[go_sem, *]
    ((repeat' refine And.intro ?_ ?_)<;>first | omega | assumption | (exact hs2.1) | (exact hs2.2) | (exact fun _=>trivial) | (rfl))
  ·have hs2:=hs1 2
   clear hs1
   simp (disch:=omega)only[go_sem, *]
   refine ih _ _ _ ?_ ⟨3,j2,fun i=>if i=2 then z else hs i,rfl, ?_⟩
   ·omega
   ·simp only [Nat.reduceEqDiff,reduceIte] at hs2
    simp (disch:=omega)only[go_sem, *]
    ((repeat' refine And.intro ?_ ?_)<;>first | omega | assumption | (exact hs2.1) | (exact hs2.2) | (exact fun _=>trivial) | (rfl))
  ·have hs2:=hs1 3
   clear hs1
   simp (disch:=omega)only[go_sem, *]
   refine ih _ _ _ ?_ ⟨4,j2,fun i=>if i=3 then z else hs i,rfl, ?_⟩
   ·omega
   ·simp only [Nat.reduceEqDiff,reduceIte] at hs2
    simp (disch:=omega)only[go_sem, *]
    ((repeat' refine And.intro ?_ ?_)<;>first | omega | assumption | (exact hs2.1) | (exact hs2.2) | (exact fun _=>trivial) | (rfl))
  ·have hs2:=hs1 4
   clear hs1
   simp (disch:=omega)only[go_sem, *]
   refine ih _ _ _ ?_ ⟨5,j2,fun i=>if i=4 then z else hs i,rfl, ?_⟩
   ·omega
   ·simp only [Nat.reduceEqDiff,reduceIte] at hs2
    simp (disch:=omega)only[go_sem, *]
    ((repeat' refine And.intro ?_ ?_)<;>first | omega | assumption | (exact hs2.1) | (exact hs2.2) | (exact fun _=>trivial) | (rfl))
 ·simp (disch:=omega)only[go_sem, *]
  exact kk _ hh j hs hhs e0 e2 e3 e4 e5 e6 a hq hb
end
end Go.Ab.T
namespace Go.Ab.T
open Go Go.Ab
set_option maxHeartbeats 4000000
@[irreducible] def Fw (i:Nat):ByteArray:=⟨#[112]⟩++Utf8.encode (97+(i:Int))
theorem Y3 {i:Nat} (h:i<4):Bs .add (.s ⟨#[112]⟩) (.s (Utf8.encode (97+(i:Int))))=some (.s (Fw i)):=by
 unfold Fw
 refine WA ?_
 match i,h with
 | 0,_=>decide
 | 1,_=>decide
 | 2,_=>decide
 | 3,_=>decide
theorem ST {i:Nat} (h:i<4):Ew (Fw i)=true:=by
 unfold Ew Fw
 match i,h with
 | 0,_=>decide
 | 1,_=>decide
 | 2,_=>decide
 | 3,_=>decide
theorem jX {i j:Nat} (hi:i<4) (hj:j<4) (h:i≠j):Fw i≠Fw j:=by
 unfold Fw
 match i,j,hi,hj,h with
 | 0,0,_,_,h | 1,1,_,_,h | 2,2,_,_,h | 3,3,_,_,h=>exact absurd rfl h
 | 0,1,_,_,_ | 0,2,_,_,_ | 0,3,_,_,_ | 1,0,_,_,_ | 1,2,_,_,_ | 1,3,_,_,_ | 2,0,_,_,_ | 2,1,_,_,_ | 2,3,_,_,_ | 3,0,_,_,_ | 3,1,_,_,_ | 3,2,_,_,_=>decide
def PO (p:Part) (k:Nat):Prop:=p.name=Fw k∧EX p=true∧z0 p=p
section
variable {id:Nat} {L:List Int} {h h' h2:AH} {T:List (List Node)} {j:Nat}
theorem TB {K : Ex → Env → AH → Prop} {e : Env} {n : Nat} (hid : id < h.next) (hlo : h.lim ≤ id) (hL : L.length < 4000000000) (hn : n ≤ 4) (a : CS h'.next id L h h' .ns .ns .ns [] [] [] j)
    (e0:e 0=.p id 0 0) (e2:e 2=.p h.next 0 0) (e3:e 3=.p (h.next+1) 0 0) (e4:e 4=.i .i64 n) (e5:e 5=.i .i64 0)
    (kk:∀ e' h' j vp P,e' 0=.p id 0 0→e' 2=.p h.next 0 0→e' 3=.p (h.next+1) 0 0→e' 4=.i .i64 n→CS h'.next id L h h' vp .ns .ns P [] [] j→P.length=n→(∀ k,k<n→PO (nth P k) k)→K (.ex 0) e' h'):ZC tp (.loop Vd) e h' K:=by
 refine Ae (fun n' e hh=>∃ (i j:Nat) (vp:V) (P:List Part),n'=n - i∧e 0=.p id 0 0∧e 2=.p h.next 0 0∧e 3=.p (h.next+1) 0 0∧e 4=.i .i64 n∧e 5=.i .i64 i∧i≤n∧CS hh.next id L h hh vp .ns .ns P [] [] j∧P.length=i∧∀ k,k<i→PO (nth P k) k) ?_ _ _ _ ⟨0,j,.ns,[],rfl,e0,e2,e3,e4,e5,by omega,a,rfl,fun k hk=>by omega⟩
 clear e0 e2 e3 e4 e5 e a
 rintro n' e hh ⟨i,j,vp,P,rfl,e0,e2,e3,e4,e5,hi,a,hlen,hP⟩ ih
 have hlm:=a.lim
 have q1:=a.q1
 rw [Ai Vd.eq_1]
 simp (disch:=omega)only[go_sem, *]
 refine Aa (fun hc=>?_) (fun hc=>?_)
 ·have hnm:=Y3 (i:=i) (by omega)
  have hw32:IntKind.wrap .i32 (97+(i:Int))=97+i:=by rw [IntKind.wrap_i32];omega
  simp (disch:=omega)only[go_sem, *]
  refine AU a.tape a.jl hL (by omega) ?_
  intro v j1 v0 v1 v2 hj1
  have a1:=a.tape2 hid hj1
  have n1:(hh.put id (Av L j1)).next=hh.next:=rfl
  rw [← n1] at a1 q1
  clear n1
  generalize hh.put id (Av L j1)=h1 at a1 q1 ⊢
  clear a hlm
  have hlm:=a1.lim
  simp (disch:=omega)only[go_sem, *]
  refine AU a1.tape a1.jl hL (by omega) ?_
  intro w j2 w0 w1 w2 hj2
  have a2:=a1.tape2 hid hj2
  have n2:(h1.put id (Av L j2)).next=h1.next:=rfl
  rw [← n2] at a2 q1
  clear n2
  generalize h1.put id (Av L j2)=h2 at a2 q1 ⊢
  clear a1 hlm
  have hlm:=a2.lim
  simp (disch:=omega)only[go_sem, *]
  have x3:AK h2 ((h2.alloc ⟨11,[[.s ⟨#[]⟩,.i .i64 0,.i .i64 0,.b false,.b false,.ns,.i .i64 0,.i .i64 0,.i .i64 0,.i .i64 0,.i .i64 0]]⟩).put h2.next ⟨11,[[.s (Fw i),.i .i64 0,.i .i64 0,.b (decide (v=0)),.b (decide (w=0)),.ns,.i .i64 0,.i .i64 0,.i .i64 0,.i .i64 0,.i .i64 0]]⟩):=by (repeat (first | exact AK.refl _ | refine AK.alloc ?_ _ | (refine AK.put ?_ _ _ ?_;rotate_left;(first | omega | (simp only [Ag,AB];omega)))))
  have a3:=a2.ext hid x3
  have b3:((h2.alloc ⟨11,[[.s ⟨#[]⟩,.i .i64 0,.i .i64 0,.b false,.b false,.ns,.i .i64 0,.i .i64 0,.i .i64 0,.i .i64 0,.i .i64 0]]⟩).put h2.next ⟨11,[[.s (Fw i),.i .i64 0,.i .i64 0,.b (decide (v=0)),.b (decide (w=0)),.ns,.i .i64 0,.i .i64 0,.i .i64 0,.i .i64 0,.i .i64 0]]⟩).get h2.next=some ⟨11,[[.s (Fw i),.i .i64 0,.i .i64 0,.b (decide (v=0)),.b (decide (w=0)),.ns,.i .i64 0,.i .i64 0,.i .i64 0,.i .i64 0,.i .i64 0]]⟩:=by rw [Ad,AC rfl]
  have n3:h2.next<((h2.alloc ⟨11,[[.s ⟨#[]⟩,.i .i64 0,.i .i64 0,.b false,.b false,.ns,.i .i64 0,.i .i64 0,.i .i64 0,.i .i64 0,.i .i64 0]]⟩).put h2.next ⟨11,[[.s (Fw i),.i .i64 0,.i .i64 0,.b (decide (v=0)),.b (decide (w=0)),.ns,.i .i64 0,.i .i64 0,.i .i64 0,.i .i64 0,.i .i64 0]]⟩).next:=Nat.lt_succ_self _
  generalize (h2.alloc ⟨11,[[.s ⟨#[]⟩,.i .i64 0,.i .i64 0,.b false,.b false,.ns,.i .i64 0,.i .i64 0,.i .i64 0,.i .i64 0,.i .i64 0]]⟩).put h2.next ⟨11,[[.s (Fw i),.i .i64 0,.i .i64 0,.b (decide (v=0)),.b (decide (w=0)),.ns,.i .i64 0,.i .i64 0,.i .i64 0,.i .i64 0,.i .i64 0]]⟩=h3 at a3 b3 n3 ⊢
  clear x3 a2 hlm
  have hlm:=a3.lim
  refine AU a3.tape a3.jl hL (by omega) ?_
  intro k j4 k0 k1 k2 hj4
  have a4:=a3.tape2 hid hj4
  have b4:(h3.put id (Av L j4)).get h2.next=some ⟨11,[[.s (Fw i),.i .i64 0,.i .i64 0,.b (decide (v=0)),.b (decide (w=0)),.ns,.i .i64 0,.i .i64 0,.i .i64 0,.i .i64 0,.i .i64 0]]⟩:=by rw [Ad,Ac (by omega)];exact b3
  have n4:h2.next<(h3.put id (Av L j4)).next:=n3
  generalize h3.put id (Av L j4)=h4 at a4 b4 n4 ⊢
  clear a3 b3 n3 hlm
  simp (disch:=omega)only[go_sem, *]
  refine TD (k:=k) (n:=n) (i:=i) hid hlo hL k0 (by omega) a4 n4 b4 (by simp (disch:=omega)only[go_sem, *]) (by simp (disch:=omega)only[go_sem, *]) (by simp (disch:=omega)only[go_sem, *]) (by simp (disch:=omega)only[go_sem, *]) (by simp (disch:=omega)only[go_sem, *]) (by simp (disch:=omega)only[go_sem, *]) (by simp (disch:=omega)only[go_sem, *]) ?_
  clear a4 n4 b4 e0 e2 e3 e4 e5 e
  intro e h5 j5 vr pr e0 e2 e3 e4 e5 e6 a5 n5 b5 s5 hpr hpl
  simp (disch:=omega)only[go_sem, *]
  refine QH (n:=n) (i:=i) hid hlo hL a5 n5 b5 s5 hpr hpl (by simp (disch:=omega)only[go_sem, *]) (by simp (disch:=omega)only[go_sem, *]) (by simp (disch:=omega)only[go_sem, *]) (by simp (disch:=omega)only[go_sem, *]) (by simp (disch:=omega)only[go_sem, *]) (by simp (disch:=omega)only[go_sem, *]) (by simp (disch:=omega)only[go_sem, *]) ?_
  clear a5 n5 b5 s5 e0 e2 e3 e4 e5 e6 e h5 j5 vr
  intro e h5 j5 hs hhs e0 e2 e3 e4 e5 e6 a5 n5 b5
  have hbox:=a5.box
  have hlm:=a5.lim
  have b6:=b5
  simp only [Part.enc] at b6
  have hpo:PO ⟨Fw i,0,0,decide (v=0),decide (w=0),pr,hs 0,hs 1,hs 2,hs 3,hs 4⟩ i:=by
   refine ⟨rfl, ?_,rfl⟩
   unfold EX
   have t0:=hhs 0;have t1:=hhs 1;have t2:=hhs 2;have t3:=hhs 3;have t4:=hhs 4
   have e1:FV ⟨Fw i,0,0,decide (v=0),decide (w=0),pr,hs 0,hs 1,hs 2,hs 3,hs 4⟩=true:=by unfold FV;rw [decide_eq_true_eq];exact ⟨t0.1,t0.2,t1.1,t1.2,t2.1,t2.2,t3.1,t3.2,t4.1,t4.2⟩
   rw [e1];simp only [hpr];rfl
  simp (disch:=omega)only[go_sem, *]
  refine Ao (N:=[(⟨Fw i,0,0,decide (v=0),decide (w=0),pr,hs 0,hs 1,hs 2,hs 3,hs 4⟩:Part).enc]) (a5.sp.alloc _) (by simp (disch:=omega)only[go_sem, *]<;>omega) (by simp (disch:=omega)only[go_sem, *]<;>omega) (by simp;omega) ?_
  intro vp' h6 s6 g6
  have x6:AK h5 (h5.alloc ⟨11,[(⟨Fw i,0,0,decide (v=0),decide (w=0),pr,hs 0,hs 1,hs 2,hs 3,hs 4⟩:Part).enc]⟩):=(AK.refl _).alloc _
  have a6:=a5.grow_p (x:=⟨Fw i,0,0,decide (v=0),decide (w=0),pr,hs 0,hs 1,hs 2,hs 3,hs 4⟩) hid x6 s6 g6
  have hb6:h6.get (h.next+1)=some ⟨3,[[vp,.ns,.ns]]⟩:=by
   rw [Dh g6 (As a5.sp) (by rw [Ag];omega) _ (by omega),AL,Ac (by omega)];exact hbox
  have l6:=g6.lim
  have hc6:=g6.cell
  have hcs6:=g6.cells
  clear s6 g6 x6
  simp only [AG] at l6
  simp (disch:=omega)only[go_sem, *]
  refine ih _ _ _ ?_ ⟨i+1,j5,vp',P++[⟨Fw i,0,0,decide (v=0),decide (w=0),pr,hs 0,hs 1,hs 2,hs 3,hs 4⟩],rfl, ?_⟩
  ·omega
  ·simp (disch:=omega)only[go_sem, *]
   refine ⟨by omega,by rw [List.length_append,hlen];rfl,fun k hk=>?_⟩
   rw [FZ]
   split
   ·exact hP k (by omega)
   ·obtain rfl:k=i:=by omega
    rw [show k - P.length=0 by omega,Cm]
    exact hpo
 ·simp (disch:=omega)only[go_sem, *]
  obtain rfl:i=n:=by omega
  exact kk _ hh j vp P e0 e2 e3 e4 a hlen hP
end
end Go.Ab.T
namespace Go.Ab.T
open Go Go.Ab
set_option maxHeartbeats 4000000
theorem aWE {v:Int} (h0:0≤v) (h5:v<3):∃ z:Int,[[V.i .u32 4294967295],[.i .u32 200],[.i .u32 3]][v.toNat]?=some [.i .u32 z]∧0≤z∧z≤4294967295:=by
 have:v=0∨v=1∨v=2:=by omega
 rcases this with rfl | rfl | rfl
 ·exact ⟨4294967295,rfl,by omega,by omega⟩
 ·exact ⟨200,rfl,by omega,by omega⟩
 ·exact ⟨3,rfl,by omega,by omega⟩
theorem aUs {f r n:Int} (h0:0≤f) (h1:f<n) (h2:0≤r) (h3:r<n - 1∨r=0) (hn:1<n):0≤(f+1+r).tmod n∧(f+1+r).tmod n<n∧f≠(f+1+r).tmod n:=by
 rw [Int.tmod_eq_emod_of_nonneg (by omega)]
 by_cases h:f+1+r<n
 ·rw [Int.emod_eq_of_lt (by omega) h];omega
 ·have e:(f+1+r) % n=(f+1+r - n) % n:=by rw [Int.sub_emod_right]
  rw [e,Int.emod_eq_of_lt (by omega) (by omega)];omega
section
variable {id:Nat} {L:List Int} {h h' h2:AH} {P:List Part} {j:Nat}
theorem TA {K : Ex → Env → AH → Prop} {e : Env} {n k : Int} {vp : V} (hid : id < h.next) (hlo : h.lim ≤ id) (hL : L.length < 4000000000) (hn : n ≤ 4) (hk : k ≤ 3) (hk0 : 0 ≤ k) (a : CS h'.next id L h h' vp .ns .ns P [] [] j)
    (e0:e 0=.p id 0 0) (e2:e 2=.p h.next 0 0) (e3:e 3=.p (h.next+1) 0 0) (e4:e 4=.i .i64 n) (e9:e 9=.i .i64 k)
    (kk:∀ e' h' j vc Ch,e' 0=.p id 0 0→e' 2=.p h.next 0 0→e' 3=.p (h.next+1) 0 0→e' 4=.i .i64 n→CS h'.next id L h h' vp vc .ns P Ch [] j→Ch.length≤3→(∀ x∈Ch,C0 n x=true∧x.late=0∧Fi x)→K (.ex 6) e' h'):ZC tp (.loop Ve) e h' K:=by
 refine Ae (fun n' e hh=>∃ (k:Int) (j:Nat) (vc:V) (Ch:List Ar),n'=k.toNat∧e 0=.p id 0 0∧e 2=.p h.next 0 0∧e 3=.p (h.next+1) 0 0∧e 4=.i .i64 n∧e 9=.i .i64 k∧CS hh.next id L h hh vp vc .ns P Ch [] j∧Ch.length+k≤3∧0≤k∧∀ x∈Ch,C0 n x=true∧x.late=0∧Fi x) ?_ _ _ _ ⟨k,j,.ns,[],rfl,e0,e2,e3,e4,e9,a,by simp;omega,hk0,(fun x hx=>by cases hx)⟩
 clear e0 e2 e3 e4 e9 e a hk hk0
 rintro n' e hh ⟨k,j,vc,Ch,rfl,e0,e2,e3,e4,e9,a,hk,hk0,hC⟩ ih
 have hlm:=a.lim
 have q1:=a.q1
 rw [Ai Ve.eq_1]
 simp (disch:=omega)only[go_sem, *]
 refine Aq (fun hc=>?_) (fun hc=>?_)
 rotate_left
 ·simp (disch:=omega)only[go_sem, *]
  exact kk _ hh j vc Ch e0 e2 e3 e4 a (by omega) hC
 simp (disch:=omega)only[go_sem, *]
 refine Aa (fun hc2=>?_) (fun hc2=>?_)
 rotate_left
 ·simp (disch:=omega)only[go_sem, *]
  exact kk _ hh j vc Ch e0 e2 e3 e4 a (by omega) hC
 simp (disch:=omega)only[go_sem, *]
 refine AU a.tape a.jl hL (by omega) ?_
 intro f j1 f0 f1 f2 hj1
 have a1:=a.tape2 hid hj1
 have n1:(hh.put id (Av L j1)).next=hh.next:=rfl
 rw [← n1] at a1 q1
 clear n1
 generalize hh.put id (Av L j1)=h1 at a1 q1 ⊢
 clear a hlm
 have hlm:=a1.lim
 simp (disch:=omega)only[go_sem, *]
 have x2:AK h1 ((h1.alloc ⟨1,[[V.i .u32 4294967295],[.i .u32 200],[.i .u32 3]]⟩).alloc ⟨6,[[.i .i64 0,.i .i64 0,.b false,.i .i64 0,.i .u32 0,.i .i64 0]]⟩):=((AK.refl _).alloc _).alloc _
 have a2:=a1.ext hid x2
 have g2:((h1.alloc ⟨1,[[V.i .u32 4294967295],[.i .u32 200],[.i .u32 3]]⟩).alloc ⟨6,[[.i .i64 0,.i .i64 0,.b false,.i .i64 0,.i .u32 0,.i .i64 0]]⟩).get h1.next=some ⟨1,[[V.i .u32 4294967295],[.i .u32 200],[.i .u32 3]]⟩:=by rw [AL,Ac (by rw [Ag];omega),AL,AC rfl]
 have m2:((h1.alloc ⟨1,[[V.i .u32 4294967295],[.i .u32 200],[.i .u32 3]]⟩).alloc ⟨6,[[.i .i64 0,.i .i64 0,.b false,.i .i64 0,.i .u32 0,.i .i64 0]]⟩).get (h1.next+1)=some ⟨6,[[.i .i64 0,.i .i64 0,.b false,.i .i64 0,.i .u32 0,.i .i64 0]]⟩:=by rw [AL,Ag,AC rfl]
 have n2:h1.next+2≤((h1.alloc ⟨1,[[V.i .u32 4294967295],[.i .u32 200],[.i .u32 3]]⟩).alloc ⟨6,[[.i .i64 0,.i .i64 0,.b false,.i .i64 0,.i .u32 0,.i .i64 0]]⟩).next:=Nat.le_refl _
 generalize ((h1.alloc ⟨1,[[V.i .u32 4294967295],[.i .u32 200],[.i .u32 3]]⟩).alloc ⟨6,[[.i .i64 0,.i .i64 0,.b false,.i .i64 0,.i .u32 0,.i .i64 0]]⟩)=h2 at a2 g2 m2 n2 ⊢
 clear x2 a1 hlm
 have hlm:=a2.lim
 refine AU a2.tape a2.jl hL (by omega) ?_
 intro r j2 r0 r1 r2 hj2
 have a3:=a2.tape2 hid hj2
 have g3:(h2.put id (Av L j2)).get h1.next=some ⟨1,[[V.i .u32 4294967295],[.i .u32 200],[.i .u32 3]]⟩:=by rw [Ad,Ac (by omega)];exact g2
 have m3:(h2.put id (Av L j2)).get (h1.next+1)=some ⟨6,[[.i .i64 0,.i .i64 0,.b false,.i .i64 0,.i .u32 0,.i .i64 0]]⟩:=by rw [Ad,Ac (by omega)];exact m2
 have n3:h1.next+2≤(h2.put id (Av L j2)).next:=n2
 generalize h2.put id (Av L j2)=h3 at a3 g3 m3 n3 ⊢
 clear a2 g2 m2 n2 hlm
 have hlm:=a3.lim
 obtain ⟨d0,d1,d2⟩:=aUs f0 (show f<n by omega) r0 r2 hc2
 generalize hd:(f+1+r).tmod n=d at d0 d1 d2
 simp (disch:=omega)only[go_sem, *]
 refine AU a3.tape a3.jl hL (by omega) ?_
 intro b j3 b0 b1 b2 hj3
 have a4:=a3.tape2 hid hj3
 have g4:(h3.put id (Av L j3)).get h1.next=some ⟨1,[[V.i .u32 4294967295],[.i .u32 200],[.i .u32 3]]⟩:=by rw [Ad,Ac (by omega)];exact g3
 have m4:(h3.put id (Av L j3)).get (h1.next+1)=some ⟨6,[[.i .i64 0,.i .i64 0,.b false,.i .i64 0,.i .u32 0,.i .i64 0]]⟩:=by rw [Ad,Ac (by omega)];exact m3
 have n4:h1.next+2≤(h3.put id (Av L j3)).next:=n3
 generalize h3.put id (Av L j3)=h4 at a4 g4 m4 n4 ⊢
 clear a3 g3 m3 n3 hlm
 have hlm:=a4.lim
 simp (disch:=omega)only[go_sem, *]
 refine AU a4.tape a4.jl hL (by omega) ?_
 intro u j4 u0 u1 u2 hj4
 have a5:=a4.tape2 hid hj4
 have g5:(h4.put id (Av L j4)).get h1.next=some ⟨1,[[V.i .u32 4294967295],[.i .u32 200],[.i .u32 3]]⟩:=by rw [Ad,Ac (by omega)];exact g4
 have m5:(h4.put id (Av L j4)).get (h1.next+1)=some ⟨6,[[.i .i64 0,.i .i64 0,.b false,.i .i64 0,.i .u32 0,.i .i64 0]]⟩:=by rw [Ad,Ac (by omega)];exact m4
 have n5:h1.next+2≤(h4.put id (Av L j4)).next:=n4
 generalize h4.put id (Av L j4)=h5 at a5 g5 m5 n5 ⊢
 clear a4 g4 m4 n4 hlm
 have hlm:=a5.lim
 obtain ⟨z,hz,hzt⟩:=aWE u0 (by omega)
 simp (disch:=omega)only[go_sem, *]
 have a6:CS h1.next id L h (h5.put (h1.next+1) ⟨6,[[.i .i64 f,.i .i64 d,.b (decide (b=0)),.i .i64 0,.i .u32 z,.i .i64 0]]⟩) vp vc .ns P Ch [] j4:=a5.keep hid (Nat.le_refl _) rfl (fun i hi=>by rw [Ad,Ac (by omega)])
 have m6:(h5.put (h1.next+1) ⟨6,[[.i .i64 f,.i .i64 d,.b (decide (b=0)),.i .i64 0,.i .u32 z,.i .i64 0]]⟩).get (h1.next+1)=some ⟨6,[[.i .i64 f,.i .i64 d,.b (decide (b=0)),.i .i64 0,.i .u32 z,.i .i64 0]]⟩:=by rw [Ad,AC rfl]
 have n6:h1.next+2≤(h5.put (h1.next+1) ⟨6,[[.i .i64 f,.i .i64 d,.b (decide (b=0)),.i .i64 0,.i .u32 z,.i .i64 0]]⟩).next:=n5
 generalize h5.put (h1.next+1) ⟨6,[[.i .i64 f,.i .i64 d,.b (decide (b=0)),.i .i64 0,.i .u32 z,.i .i64 0]]⟩=h6 at a6 m6 n6 ⊢
 clear a5 g5 m5 n5 hlm hz
 have hlm:=a6.lim
 refine Aa (fun hb=>?_) (fun hb=>?_)
 ·have hbt:decide (b=0)=true:=decide_eq_true hb
  rw [hbt] at m6
  clear hbt
  simp (disch:=omega)only[go_sem, *]
  refine AU a6.tape a6.jl hL (by omega) ?_
  intro c j5 c0 c1 c2 hj5
  have a7:=a6.tape2 hid hj5
  have m7:(h6.put id (Av L j5)).get (h1.next+1)=some ⟨6,[[.i .i64 f,.i .i64 d,.b true,.i .i64 0,.i .u32 z,.i .i64 0]]⟩:=by rw [Ad,Ac (by omega)];exact m6
  have n7:h1.next+2≤(h6.put id (Av L j5)).next:=n6
  generalize h6.put id (Av L j5)=h7 at a7 m7 n7 ⊢
  clear a6 m6 n6 hlm
  have hlm:=a7.lim
  have a8:CS h1.next id L h (h7.put (h1.next+1) ⟨6,[(⟨f,d,true,1+c,z,0⟩:Ar).enc]⟩) vp vc .ns P Ch [] j5:=a7.keep hid (Nat.le_refl _) rfl (fun i hi=>by rw [Ad,Ac (by omega)])
  have m8:(h7.put (h1.next+1) ⟨6,[(⟨f,d,true,1+c,z,0⟩:Ar).enc]⟩).get (h1.next+1)=some ⟨6,[(⟨f,d,true,1+c,z,0⟩:Ar).enc]⟩:=by rw [Ad,AC rfl]
  have n8:h1.next+2≤(h7.put (h1.next+1) ⟨6,[(⟨f,d,true,1+c,z,0⟩:Ar).enc]⟩).next:=n7
  have hx:C0 n ⟨f,d,true,1+c,z,0⟩=true:=by
   unfold C0
   simp only [Bool.and_eq_true,decide_eq_true_eq,reduceIte]
   omega
  have hbox:=a7.box
  have nn:=a7.q2
  simp (disch:=omega)only[go_sem, *]
  refine Ao (N:=[(⟨f,d,true,(1+c),z,0⟩:Ar).enc]) (a8.sc.alloc _) (by first | omega | (simp (disch:=omega)only[go_sem, *]<;>omega)) (by first | omega | (simp (disch:=omega)only[go_sem, *]<;>omega)) (by simp;omega) ?_
  intro vc' h9 s9 g9
  have x9:=(AK.refl (h7.put (h1.next+1) ⟨6,[(⟨f,d,true,1+c,z,0⟩:Ar).enc]⟩)).alloc ⟨6,[(⟨f,d,true,(1+c),z,0⟩:Ar).enc]⟩
  have a9:=a8.grow_c (x:=⟨f,d,true,(1+c),z,0⟩) hid x9 s9 g9
  have hb9:h9.get (h.next+1)=some ⟨3,[[vp,vc,.ns]]⟩:=by
   rw [Dh g9 (As a8.sc) (by first | omega | (simp (disch:=omega)only[go_sem, *]<;>omega)) _ (by omega),AL,Ac (by first | omega | (simp (disch:=omega)only[go_sem, *]<;>omega))];exact a8.box
  have l9:=g9.lim
  have hc9:=g9.cell
  have hcs9:=g9.cells
  clear s9 g9 x9 hbox
  simp only [AG,CU] at l9
  simp (disch:=omega)only[go_sem, *]
  refine ih _ _ _ ?_ ⟨k - 1,j5,vc',Ch++[⟨f,d,true,(1+c),z,0⟩],rfl, ?_⟩
  ·omega
  ·have hCC:∀ x∈Ch++[(⟨f,d,true,(1+c),z,0⟩:Ar)],C0 n x=true∧x.late=0∧Fi x:=fun x hx2=>by
    rcases List.mem_append.1 hx2 with h1 | h1
    ·exact hC x h1
    ·rw [List.mem_singleton] at h1;subst h1;exact ⟨hx,rfl,hzt⟩
   have hLL:((Ch++[(⟨f,d,true,(1+c),z,0⟩:Ar)]).length:Int)+(k - 1)≤3:=by rw [List.length_append];simp only [List.length_cons,List.length_nil];omega
   clear ih kk
   simp (disch:=omega)only[go_sem, *]
   ((repeat' refine And.intro ?_ ?_)<;>first | omega | assumption | (exact a9) | (exact hCC) | (exact hLL))
 ·have hbf:decide (b=0)=false:=decide_eq_false hb
  rw [hbf] at m6
  clear hbf
  have hx:C0 n ⟨f,d,false,0,z,0⟩=true:=by
   unfold C0
   simp
   omega
  have hbox:=a6.box
  have nn:=a6.q2
  simp (disch:=omega)only[go_sem, *]
  refine Ao (N:=[(⟨f,d,false,0,z,0⟩:Ar).enc]) (a6.sc.alloc _) (by first | omega | (simp (disch:=omega)only[go_sem, *]<;>omega)) (by first | omega | (simp (disch:=omega)only[go_sem, *]<;>omega)) (by simp;omega) ?_
  intro vc' h9 s9 g9
  have x9:=(AK.refl (h6)).alloc ⟨6,[(⟨f,d,false,0,z,0⟩:Ar).enc]⟩
  have a9:=a6.grow_c (x:=⟨f,d,false,0,z,0⟩) hid x9 s9 g9
  have hb9:h9.get (h.next+1)=some ⟨3,[[vp,vc,.ns]]⟩:=by
   rw [Dh g9 (As a6.sc) (by first | omega | (simp (disch:=omega)only[go_sem, *]<;>omega)) _ (by omega),AL,Ac (by first | omega | (simp (disch:=omega)only[go_sem, *]<;>omega))];exact a6.box
  have l9:=g9.lim
  have hc9:=g9.cell
  have hcs9:=g9.cells
  clear s9 g9 x9 hbox
  simp only [AG,CU] at l9
  simp (disch:=omega)only[go_sem, *]
  refine ih _ _ _ ?_ ⟨k - 1,j4,vc',Ch++[⟨f,d,false,0,z,0⟩],rfl, ?_⟩
  ·omega
  ·have hCC:∀ x∈Ch++[(⟨f,d,false,0,z,0⟩:Ar)],C0 n x=true∧x.late=0∧Fi x:=fun x hx2=>by
    rcases List.mem_append.1 hx2 with h1 | h1
    ·exact hC x h1
    ·rw [List.mem_singleton] at h1;subst h1;exact ⟨hx,rfl,hzt⟩
   have hLL:((Ch++[(⟨f,d,false,0,z,0⟩:Ar)]).length:Int)+(k - 1)≤3:=by rw [List.length_append];simp only [List.length_cons,List.length_nil];omega
   clear ih kk
   simp (disch:=omega)only[go_sem, *]
   ((repeat' refine And.intro ?_ ?_)<;>first | omega | assumption | (exact a9) | (exact hCC) | (exact hLL))
end
end Go.Ab.T
namespace Go.Ab.T
open Go Go.Ab
set_option maxHeartbeats 4000000
theorem Sl.weak {b b' sz:Nat} {h:AH} {v:V} {R:List (List V)} (s:Sl b h sz v R) (hb:b'≤b):Sl b' h sz v R:=by
 rcases s with hs | ⟨i,el,cap,cs,rfl,hg,a1,a2,a3,a4,a5,a6⟩
 ·exact .inl hs
 ·exact .inr ⟨i,el,cap,cs,rfl,hg,a1,a2,a3,a4,by omega,a6⟩
theorem Sl.frzs {b sz:Nat} {h:AH} {v:V} {R:List (List V)} {P:Nat→Prop} (s:Sl b h sz v R):Cz P h h.next v v:=by
 rcases s with ⟨hv,_⟩ | ⟨i,el,cap,cs,rfl,hg,a1,a2,a3,a4,a5,a6⟩
 ·rcases hv with rfl | rfl
  ·exact .z _ _ .ns
  ·exact .z _ _ .e0
 ·exact .so _ _ _ _ _ a4
theorem S7 {b sz i:Nat} {h:AH} {v:V} {R:List (List V)} (s:Sl b h sz v R) (d:Ba v=true∨AW v≠i):Sl b (h.kill i) sz v R:=by
 rcases d with d | d
 ·rcases s with hs | ⟨_,_,_,_,rfl,_⟩
  ·exact .inl hs
  ·cases d
 ·exact s.same (Nat.le_refl _) (fun _=>by rw [Cl,Ac d])
structure Made (C:Ah):Prop where
 wh:A1 C=(0,-1)
 nm:GT C
 ch:C.chans.length≤3
 tb:C.tables.length≤2
 pt:C.parts.length≤4
 tops:∀ x∈C.chans,Fi x
section
variable {id:Nat} {L:List Int} {h h' h2:AH} {P:List Part} {Ch:List Ar} {j:Nat}
theorem WU {K : Ex → Env → AH → Prop} {e : Env} {n k : Int} {vp vc : V} (hid : id < h.next) (hlo : h.lim ≤ id) (hL : L.length < 4000000000) (hn1 : 1 ≤ n) (hn : n ≤ 4) (hk : k ≤ 1) (hk0 : 0 ≤ k) (a : CS h'.next id L h h' vp vc .ns P Ch [] j)
    (e0:e 0=.p id 0 0) (e2:e 2=.p h.next 0 0) (e3:e 3=.p (h.next+1) 0 0) (e4:e 4=.i .i64 n) (e12:e 12=.i .i64 k)
    (kk:∀ e' h' j vt T,e' 0=.p id 0 0→e' 2=.p h.next 0 0→e' 3=.p (h.next+1) 0 0→CS h'.next id L h h' vp vc vt P Ch T j→1≤T.length→T.length≤2→(∀ x∈T,Es n x)→K (.ex 8) e' h'):ZC tp (.loop Vf) e h' K:=by
 refine Ae (fun n' e hh=>∃ (q:Int) (j:Nat) (vt:V) (T:List (List Node)),n'=(q+1).toNat∧e 0=.p id 0 0∧e 2=.p h.next 0 0∧e 3=.p (h.next+1) 0 0∧e 4=.i .i64 n∧e 12=.i .i64 q∧CS hh.next id L h hh vp vc vt P Ch T j∧T.length+q=k∧-1≤q∧∀ x∈T,Es n x) ?_ _ _ _ ⟨k,j,.ns,[],rfl,e0,e2,e3,e4,e12,a,by simp,by omega,(fun x hx=>by cases hx)⟩
 clear e0 e2 e3 e4 e12 e a
 rintro n' e hh ⟨q,j,vt,T,rfl,e0,e2,e3,e4,e12,a,hq,hq0,hT⟩ ih
 have hlm:=a.lim
 have q1:=a.q1
 have hbox:=a.box
 have hsv:=Sl.sameV a.st
 obtain ⟨_,_,_,_,_,_,_,tcell,tcells⟩:=a.st.facts
 rw [Ai Vf.eq_1]
 simp (disch:=omega)only[go_sem, *]
 refine Aa (fun hc=>?_) (fun hc=>?_)
 ·simp (disch:=omega)only[go_sem, *]
  refine Xt hn1 (by omega) hL a.tape a.jl (by omega) ?_
  intro x j1 hx hxl hj1
  have a1:=a.tape2 hid hj1
  have n1:(hh.put id (Av L j1)).next=hh.next:=rfl
  rw [← n1] at a1 q1
  clear n1
  generalize hh.put id (Av L j1)=h1 at a1 q1 ⊢
  clear a hlm hbox
  have hlm:=a1.lim
  have hbox:=a1.box
  simp (disch:=omega)only[go_sem, *]
  refine Ao (N:=[Tab.enc x]) (a1.st.alloc _) (by first | omega | (simp (disch:=omega)only[go_sem, *]<;>omega)) (by first | omega | (simp (disch:=omega)only[go_sem, *]<;>omega)) (by simp;omega) ?_
  intro vt' h9 s9 g9
  have x9:=(AK.refl h1).alloc ⟨1,[Tab.enc x]⟩
  have a9:=a1.grow_t (x:=x) hid x9 s9 g9
  have hb9:h9.get (h.next+1)=some ⟨3,[[vp,vc,vt]]⟩:=by
   rw [Dh g9 (As a1.st) (by first | omega | (simp (disch:=omega)only[go_sem, *]<;>omega)) _ (by omega),AL,Ac (by first | omega | (simp (disch:=omega)only[go_sem, *]<;>omega))];exact a1.box
  have l9:=g9.lim
  have hc9:=g9.cell
  have hcs9:=g9.cells
  clear s9 g9 x9 hbox
  simp only [AG,CU] at l9
  simp (disch:=omega)only[go_sem, *]
  refine ih _ _ _ ?_ ⟨q - 1,j1,vt',T++[x],rfl, ?_⟩
  ·omega
  ·have hTT:∀ y∈T++[x],Es n y:=fun y hy=>by
    rcases List.mem_append.1 hy with h1 | h1
    ·exact hT y h1
    ·rw [List.mem_singleton] at h1;subst h1;exact hx
   have hLL:((T++[x]).length:Int)+(q - 1)=k:=by rw [List.length_append];simp only [List.length_cons,List.length_nil];omega
   clear ih kk
   simp (disch:=omega)only[go_sem, *]
   ((repeat' refine And.intro ?_ ?_)<;>first | omega | assumption | (exact a9) | (exact hTT) | (exact hLL))
 ·simp (disch:=omega)only[go_sem, *]
  exact kk _ hh j vt T e0 e2 e3 a (by omega) (by omega) hT
end
theorem TH {h : AH} {id k : Nat} {L : List Int} {K : V → AH → Prop} (hg : h.get id = some (Av L k)) (hk : k ≤ L.length) (hL : L.length < 4000000000) (hlo : h.lim ≤ id)
    (kk:∀ C j,j≤L.length→Made C→K (.agg C.enc) (h.put id (Av L j))):Cq tp jA [.p id 0 0] h K:=by
 refine Hx aT9 (by simp [Z9]) hg fun hlm hid rp=>?_
 unfold Z9
 simp (disch:=omega)only[go_sem, *]
 have x0:AK h ((h.alloc ⟨3,[[.ns,.ns,.ns]]⟩).alloc ⟨3,[[.ns,.ns,.ns]]⟩):=by (repeat (first | exact AK.refl _ | refine AK.alloc ?_ _ | (refine AK.put ?_ _ _ ?_;rotate_left;(first | omega | (simp only [Ag,AB];omega)))))
 have a0:CS ((h.alloc ⟨3,[[.ns,.ns,.ns]]⟩).alloc ⟨3,[[.ns,.ns,.ns]]⟩).next id L h ((h.alloc ⟨3,[[.ns,.ns,.ns]]⟩).alloc ⟨3,[[.ns,.ns,.ns]]⟩) .ns .ns .ns [] [] [] k:=⟨Nat.le_refl _,Nat.le_refl _,rfl,(x0.get _ (by omega)).trans hg,hk,by simp (disch:=omega)only[go_sem, *],by simp (disch:=omega)only[go_sem, *],fun i hi _=>x0.get i hi,Sl.nil _ _ _,Sl.nil _ _ _,Sl.nil _ _ _,.inl rfl,.inl rfl,.inl rfl,.inl rfl,.inl rfl,.inl rfl⟩
 have n0:((h.alloc ⟨3,[[.ns,.ns,.ns]]⟩).alloc ⟨3,[[.ns,.ns,.ns]]⟩).next=h.next+2:=rfl
 generalize (h.alloc ⟨3,[[.ns,.ns,.ns]]⟩).alloc ⟨3,[[.ns,.ns,.ns]]⟩=h1 at a0 n0 ⊢
 clear x0 n0
 refine AU a0.tape a0.jl hL (by have:=a0.lim;omega) ?_
 intro v j1 v0 v1 v2 hj1
 have a1:=a0.tape2 hid hj1
 have n1:(h1.put id (Av L j1)).next=h1.next:=rfl
 rw [← n1] at a1
 clear n1
 generalize h1.put id (Av L j1)=h2 at a1 ⊢
 clear a0
 obtain ⟨m,hm⟩:∃ m:Nat,1+v=m:=⟨(1+v).toNat,by omega⟩
 simp (disch:=omega)only[go_sem, *]
 refine TB (n:=m) hid hlo hL (by omega) a1 (by simp (disch:=omega)only[go_sem, *]) (by simp (disch:=omega)only[go_sem, *]) (by simp (disch:=omega)only[go_sem, *]) (by simp (disch:=omega)only[go_sem, *]) (by simp (disch:=omega)only[go_sem, *]) ?_
 clear a1
 intro e h3 j3 vp P e0 e2 e3 e4 a3 hPl hP
 have hlm3:=a3.lim
 simp (disch:=omega)only[go_sem, *]
 refine AU a3.tape a3.jl hL (by omega) ?_
 intro c j4 c0 c1 c2 hj4
 have a4:=a3.tape2 hid hj4
 have n4:(h3.put id (Av L j4)).next=h3.next:=rfl
 rw [← n4] at a4
 clear n4
 generalize h3.put id (Av L j4)=h4 at a4 ⊢
 clear a3 hlm3
 simp (disch:=omega)only[go_sem, *]
 refine TA (k:=c) (n:=m) hid hlo hL (by omega) (by omega) c0 a4 (by simp (disch:=omega)only[go_sem, *]) (by simp (disch:=omega)only[go_sem, *]) (by simp (disch:=omega)only[go_sem, *]) (by simp (disch:=omega)only[go_sem, *]) (by simp (disch:=omega)only[go_sem, *]) ?_
 clear a4 e0 e2 e3 e4 e
 intro e h5 j5 vc Ch e0 e2 e3 e4 a5 hCl hC
 have hlm5:=a5.lim
 simp (disch:=omega)only[go_sem, *]
 refine AU a5.tape a5.jl hL (by omega) ?_
 intro t j6 t0 t1 t2 hj6
 have a6:=a5.tape2 hid hj6
 have n6:(h5.put id (Av L j6)).next=h5.next:=rfl
 rw [← n6] at a6
 clear n6
 generalize h5.put id (Av L j6)=h6 at a6 ⊢
 clear a5 hlm5
 simp (disch:=omega)only[go_sem, *]
 refine WU (k:=t) (n:=m) hid hlo hL (by omega) (by omega) (by omega) t0 a6 (by simp (disch:=omega)only[go_sem, *]) (by simp (disch:=omega)only[go_sem, *]) (by simp (disch:=omega)only[go_sem, *]) (by simp (disch:=omega)only[go_sem, *]) (by simp (disch:=omega)only[go_sem, *]) ?_
 clear a6 e0 e2 e3 e4 e
 intro e h7 j7 vt T e0 e2 e3 a hT1 hT2 hT
 have hbox:=a.box
 have q1:=a.q1
 obtain ⟨_,_,_,_,_,_,_,pcell,pcells⟩:=a.sp.facts
 obtain ⟨_,_,_,_,_,_,_,ccell,ccells⟩:=a.sc.facts
 obtain ⟨_,_,tlt,tlo,_,_,_,tcell,tcells⟩:=a.st.facts
 have tlt:=tlt (by omega)
 have tlo:=tlo (by omega)
 have hbare:cC P Ch T:=by
  refine ⟨?_,by omega,by omega,by omega,hT1,by omega,fun i hi=>?_,fun x hx=>by rw [hPl];exact hC x hx,fun x hx=>by rw [hPl];exact hT x hx,fun p hp=>?_⟩
  ·apply List.ext_getElem
   ·simp
   ·intro i h1 h2
    have:=(hP i (by omega)).2.2
    rw [BX h2] at this
    simpa using this
  ·have hi4:=hP i (by omega)
   refine ⟨by rw [hi4.1];exact ST (by omega), ?_,hi4.2.1⟩
   refine IQ (fun q hq=>?_) (by omega)
   rw [decide_eq_false_iff_not,hi4.1,(hP q (by omega)).1]
   exact jX (by omega) (by omega) (by omega)
  ·obtain ⟨i,hi,rfl⟩:=List.mem_iff_getElem.1 hp
   have hi4:=(hP i (by omega)).1
   have hok:=ST (i:=i) (by omega)
   rw [BX hi] at hi4
   rw [hi4]
   unfold Ew at hok
   simp only [decide_eq_true_eq] at hok
   omega
 have hnt:Ba vt=false:=by
  rcases a.st with ⟨_,hR⟩ | ⟨_,_,_,_,rfl,_⟩
  ·have:T=[]:=by simpa using hR
   subst this;simp at hT1
  ·rfl
 have dpt:Ba vp=true∨AW vp≠AW vt:=by rcases a.pt with d | d | d;exact .inl d;(rw [hnt] at d;cases d);exact .inr d
 have dct:Ba vc=true∨AW vc≠AW vt:=by rcases a.ct with d | d | d;exact .inl d;(rw [hnt] at d;cases d);exact .inr d
 simp (disch:=omega)only[go_sem, *]
 refine rX (AW vt) (args':=[.p id 0 0,.agg [vp,vc,.fl 1 (T.map Tab.enc)]]) (.cons _ _ _ _ _ (.p _ _ _ _ (by omega)) (.cons _ _ _ _ _ (.agg _ _ _ (.cons _ _ _ _ _ (Sl.frzs a.sp) (.cons _ _ _ _ _ (Sl.frzs a.sc) (.cons _ _ _ _ _ (a.st.froze (fun _=>rfl) rfl (by omega)) (.nil _))))) (.nil _))) ?_
 refine fD (b:=h.next+2) hbare hL a.jl q1 (by omega) (by have:=a.lim;show h7.lim≤id;omega) (by rw [Cl,Ac (by omega)];exact a.tape) (S7 a.sp dpt) (S7 a.sc dct) a.pc ?_
 intro P' Ch' h8 j8 hj8 htp hw hnm hPl' hCl' hn8 hl8 hg8 hlow hsp hsc
 have hres:h8.get h.next=some ⟨3,[[.ns,.ns,.ns]]⟩:=by rw [hlow _ (by omega) (by omega),Cl,Ac (by omega)];exact a.res
 have hl8':h8.lim=h.lim:=hl8.trans a.lim
 have hn8':h7.next≤h8.next:=hn8
 have hres7:=a.res
 clear hbox hl8 hn8
 simp (disch:=omega)only[go_sem, *]
 refine ⟨.agg (Ah.enc ⟨P',Ch',T⟩),j8, ?_,⟨by rw [AB];omega,hl8',by rw [Ad,Ac (by omega)];exact hg8,fun i hi hn=>?_⟩,kk ⟨P',Ch',T⟩ j8 hj8 ⟨hw,hnm,by simp only;omega,hT2,by simp only;omega,htp⟩⟩
 ·refine .agg _ _ _ (.cons _ _ _ _ _ (Sl.frzb (Sl.weak (AA hsp _ _ ((As hsp).imp (fun x=>x) (fun x=>by omega))) (by omega)) (fun _=>rfl) (by simp only;omega)) (.cons _ _ _ _ _ (Sl.frzb (Sl.weak (AA hsc _ _ ((As hsc).imp (fun x=>x) (fun x=>by omega))) (by omega)) (fun _=>rfl) (by simp only;omega)) (.cons _ _ _ _ _ (.fl _ _ _) (.nil _))))
 ·rw [Ad,Ac (by omega),hlow _ (by omega) hn,Cl,Ac (by omega)]
  exact a.low i hi hn
end Go.Ab.T
namespace Go.Ab.T
open Go Go.Ab
set_option maxHeartbeats 2000000
structure Cg (b q:Nat) (h:AH) (l:List (Nat×V×List (List V))):Prop where
 bq:b≤q
 q2:q≤h.next
 sl:∀ (i:Nat) (a:Nat×V×List (List V)),l[i]?=some a→Sl b h a.1 a.2.1 a.2.2
 lt:∀ (i:Nat) (a:Nat×V×List (List V)),l[i]?=some a→Ba a.2.1=true∨AW a.2.1<q
 dj:∀ (i j:Nat) (a c:Nat×V×List (List V)),i≠j→l[i]?=some a→l[j]?=some c→Dj a.2.1 c.2.1
section
variable {b q:Nat} {h h2:AH} {l:List (Nat×V×List (List V))}
theorem Cg.keep (o:Cg b q h l) (hn:h.next≤h2.next) (g:∀ i,i<q→h2.get i=h.get i):Cg b q h2 l:=
 ⟨o.bq,Nat.le_trans o.q2 hn,fun i a e=>Ju (o.sl i a e) (o.lt i a e) hn g,o.lt,o.dj⟩
theorem Cg.ext (o:Cg b q h l) (x:AK h h2):Cg b q h2 l:=o.keep x.next (fun i hi=>x.get i (by have:=o.q2;omega))
theorem Cg.up {q':Nat} (o:Cg b q h l) (h1:q≤q') (h2:q'≤h.next):Cg b q' h l:=
 ⟨Nat.le_trans o.bq h1,h2,o.sl,fun i a e=>(o.lt i a e).imp (fun x=>x) (fun x=>by omega),o.dj⟩
theorem Cg.put (o:Cg b q h l) (i:Nat) (k:BV) (hi:i<b∨q≤i):Cg b q (h.put i k) l:=by
 refine ⟨o.bq,o.q2,fun j a e=>AA (o.sl j a e) _ _ ?_,o.lt,o.dj⟩
 have h1:=As (o.sl j a e)
 have h2:=o.lt j a e
 rcases h1 with h1 | h1
 ·exact .inl h1
 ·rcases h2 with h2 | h2
  ·exact .inl h2
  ·exact .inr (by omega)
theorem Cg.low {b' i:Nat} {a:Nat×V×List (List V)} {h1 h3:AH} {v:V} (o:Cg b q h l) (e:l[i]?=some a) (x:AK h h1) (g:Grown b' h1 a.2.1 v h3):∀ k,k<b→h3.get k=h.get k:=fun k hk=>by
 have:=o.bq;have:=o.q2;have:=x.next
 rw [g.get k (by omega) ((As (o.sl i a e)).imp (fun x=>x) (fun x=>by omega)),x.get k (by omega)]
theorem Cg.grow {b' i:Nat} {a:Nat×V×List (List V)} {h1 h3:AH} {v:V} {R:List (List V)} (o:Cg b q h l) (e:l[i]?=some a) (x:AK h h1) (g:Grown b' h1 a.2.1 v h3) (s:Sl b h3 a.1 v R):Cg b h3.next h3 (l.set i (a.1,v,R)):=by
 have n0:=o.bq;have n1:=o.q2;have n2:=x.next;have n3:=g.next
 have hi:i<l.length:=(List.getElem?_eq_some_iff.1 e).1
 have o1:=o.ext x
 refine ⟨by omega,Nat.le_refl _,fun j c ej=>?_,fun j c ej=>?_,fun j k c d hjk ej ek=>?_⟩
 ·by_cases hji:i=j
  ·subst hji
   rw [List.getElem?_set_self hi] at ej
   cases ej;exact s
  ·rw [List.getElem?_set_ne hji] at ej
   exact DF (o1.sl j c ej) g (o.dj i j a c hji e ej)
 ·by_cases hji:i=j
  ·subst hji
   rw [List.getElem?_set_self hi] at ej
   cases ej;exact DG s
  ·rw [List.getElem?_set_ne hji] at ej
   exact (o.lt j c ej).imp (fun x=>x) (fun x=>by omega)
 ·by_cases hji:i=j
  ·subst hji
   rw [List.getElem?_set_self hi] at ej
   rw [List.getElem?_set_ne hjk] at ek
   cases ej
   exact C2 g (o.dj i k a d hjk e ek) ((o.lt k d ek).imp (fun x=>x) (fun x=>by omega))
  ·rw [List.getElem?_set_ne hji] at ej
   by_cases hki:i=k
   ·subst hki
    rw [List.getElem?_set_self hi] at ek
    cases ek
    exact ES (C2 g (o.dj i j a c hji e ej) ((o.lt j c ej).imp (fun x=>x) (fun x=>by omega)))
   ·rw [List.getElem?_set_ne hki] at ek
    exact o.dj j k c d hjk ej ek
theorem Cg.set {i n:Nat} {a:Nat×V×List (List V)} {r:List V} (o:Cg b q h l) (e:l[i]?=some a) (hn:n<a.2.2.length):Cg b q (h.put (AW a.2.1) ⟨a.1,(Bm h a.2.1).set (E2 a.2.1+n) r⟩) (l.set i (a.1,a.2.1,a.2.2.set n r)):=by
 have hi:i<l.length:=(List.getElem?_eq_some_iff.1 e).1
 have hnil:Ba a.2.1=false:=by
  rcases o.sl i a e with ⟨_,hR⟩ | ⟨_,_,_,_,hv,_⟩
  ·rw [hR] at hn;simp at hn
  ·rw [hv];rfl
 refine ⟨o.bq,o.q2,fun j c ej=>?_,fun j c ej=>?_,fun j k c d hjk ej ek=>?_⟩
 ·by_cases hji:i=j
  ·subst hji
   rw [List.getElem?_set_self hi] at ej
   cases ej
   exact Sl.of_get (o.sl i a e) hn (Nat.le_refl _) (by rw [Ad,AC rfl])
  ·rw [List.getElem?_set_ne hji] at ej
   refine AA (o.sl j c ej) _ _ ?_
   rcases o.dj i j a c hji e ej with d | d | d
   ·rw [d] at hnil;cases hnil
   ·exact .inl d
   ·exact .inr d
 ·by_cases hji:i=j
  ·subst hji
   rw [List.getElem?_set_self hi] at ej
   cases ej;exact o.lt i a e
  ·rw [List.getElem?_set_ne hji] at ej
   exact o.lt j c ej
 ·by_cases hji:i=j
  ·subst hji
   rw [List.getElem?_set_self hi] at ej
   rw [List.getElem?_set_ne hjk] at ek
   cases ej
   exact o.dj i k a d hjk e ek
  ·rw [List.getElem?_set_ne hji] at ej
   by_cases hki:i=k
   ·subst hki
    rw [List.getElem?_set_self hi] at ek
    cases ek
    exact o.dj j i c a hjk ej e
   ·rw [List.getElem?_set_ne hki] at ek
    exact o.dj j k c d hjk ej ek
theorem Cg.new {i sz:Nat} {v:V} {R:List (List V)} (o:Cg b q h l) (hi:i<l.length) (s:Sl q h sz v R):Cg b h.next h (l.set i (sz,v,R)):=by
 have n0:=o.bq;have n1:=o.q2
 have hv:=As s
 refine ⟨by omega,Nat.le_refl _,fun j c ej=>?_,fun j c ej=>?_,fun j k c d hjk ej ek=>?_⟩
 ·by_cases hji:i=j
  ·subst hji
   rw [List.getElem?_set_self hi] at ej
   cases ej;exact Sl.weak s n0
  ·rw [List.getElem?_set_ne hji] at ej
   exact o.sl j c ej
 ·by_cases hji:i=j
  ·subst hji
   rw [List.getElem?_set_self hi] at ej
   cases ej;exact DG s
  ·rw [List.getElem?_set_ne hji] at ej
   exact (o.lt j c ej).imp (fun x=>x) (fun x=>by omega)
 ·have ap:∀ (j:Nat) (c:Nat×V×List (List V)),l[j]?=some c→Dj v c.2.1:=fun j c ej=>by
   rcases hv with hv | hv
   ·exact .inl hv
   ·rcases o.lt j c ej with k | k
    ·exact .inr (.inl k)
    ·exact .inr (.inr (by omega))
  by_cases hji:i=j
  ·subst hji
   rw [List.getElem?_set_self hi] at ej
   rw [List.getElem?_set_ne hjk] at ek
   cases ej
   exact ap k d ek
  ·rw [List.getElem?_set_ne hji] at ej
   by_cases hki:i=k
   ·subst hki
    rw [List.getElem?_set_self hi] at ek
    cases ek
    exact ES (ap j c ej)
   ·rw [List.getElem?_set_ne hki] at ek
    exact o.dj j k c d hjk ej ek
theorem Cg.nil (hb:b≤h.next) (hl:∀ a∈l,a.2.1=.ns∧a.2.2=[]):Cg b h.next h l:=
 ⟨hb,Nat.le_refl _,fun i a e=>by have:=hl a (List.mem_of_getElem? e);rw [this.1,this.2];exact Sl.nil _ _ _,fun i a e=>by have:=hl a (List.mem_of_getElem? e);rw [this.1];exact .inl rfl,fun i j a c _ e _=>by have:=hl a (List.mem_of_getElem? e);rw [this.1];exact .inl rfl⟩
end
end Go.Ab.T
namespace Go.Ab.T
open Go Go.Ab
set_option maxHeartbeats 4000000
@[go_sem] def Part.encO (v:V) (x:Part):List V:=[.s x.name,.i .i64 x.budget,.i .i64 x.period,.b x.sched,.b x.stop,v,.i .i64 x.h0,.i .i64 x.h1,.i .i64 x.h2,.i .i64 x.h3,.i .i64 x.h4]
def aUA (ow:Bool) (v:V):List Part→List (List V)
 | []=>[]
 | p::l=>(if ow=true then p.encO v else p.enc)::l.map Part.enc
def aUB (ow:Bool) (v:V):List (List Node)→List (List V)
 | []=>[]
 | t::l=>[if ow=true then v else .fl 3 (t.map Node.enc)]::l.map Tab.enc
def r1 (ow:Bool):List Part→List (List V)
 | []=>[]
 | p::_=>if ow=true then p.procs.map AO.enc else []
def r2 (ow:Bool):List (List Node)→List (List V)
 | []=>[]
 | t::_=>if ow=true then t.map Node.enc else []
def aHn (ow:Bool) (vp vc vt o1 o2:V) (A:List Part) (X:List Ar) (B:List (List Node)):List (Nat×V×List (List V)):=
 [(11,vp,aUA ow o1 A),(6,vc,X.map Ar.enc),(1,vt,aUB ow o2 B),(2,o1,r1 ow A),(3,o2,r2 ow B)]
structure KS (ow:Bool) (C:Ah) (h h':AH) (vp vc vt o1 o2:V) (A:List Part) (X:List Ar) (B:List (List Node)):Prop where
 own:Cg (h.next+3) h'.next h' (aHn ow vp vc vt o1 o2 A X B)
 lim:h'.lim=h.lim
 low:∀ i,i<h.next→h'.get i=h.get i
 arg:h'.get h.next=some ⟨3,[C.enc]⟩
 res:h'.get (h.next+1)=some ⟨3,[[.ns,.ns,.ns]]⟩
 box:h'.get (h.next+2)=some ⟨3,[[vp,vc,vt]]⟩
end Go.Ab.T
namespace Go.Ab.T
open Go Go.Ab
set_option maxHeartbeats 4000000
section
variable {ow:Bool} {C:Ah} {h h':AH} {vp vc vt o1 o2:V} {A:List Part} {X:List Ar} {B:List (List Node)}
theorem KS.keep {h2:AH} (a:KS ow C h h' vp vc vt o1 o2 A X B) (hn:h'.next≤h2.next) (hl:h2.lim=h'.lim) (g:∀ i,i<h'.next→h2.get i=h'.get i):Cg (h.next+3) h'.next h2 (aHn ow vp vc vt o1 o2 A X B)∧h2.lim=h.lim∧(∀ i,i<h.next→h2.get i=h.get i)∧h2.get h.next=some ⟨3,[C.enc]⟩∧h2.get (h.next+1)=some ⟨3,[[.ns,.ns,.ns]]⟩∧h2.get (h.next+2)=some ⟨3,[[vp,vc,vt]]⟩:=by
 have:=a.own.bq
 exact ⟨a.own.keep hn g,hl.trans a.lim,fun i hi=>(g i (by omega)).trans (a.low i hi),(g _ (by omega)).trans a.arg,(g _ (by omega)).trans a.res,(g _ (by omega)).trans a.box⟩
theorem KS.mk2 {h5 : AH} {q : Nat} {vp' vc' vt' o1' o2' : V} {A' : List Part} {X' : List Ar} {B' : List (List Node)} (o : Cg (h.next + 3) q h5 (aHn ow vp' vc' vt' o1' o2' A' X' B')) (hl : h5.lim = h.lim) (low : ∀ i, i < h.next → h5.get i = h.get i) (arg : h5.get h.next = some ⟨3, [C.enc]⟩) (res : h5.get (h.next + 1) = some ⟨3, [[.ns, .ns, .ns]]⟩) :
    KS ow C h (h5.put (h.next+2) ⟨3,[[vp',vc',vt']]⟩) vp' vc' vt' o1' o2' A' X' B':=by
 have:=o.bq;have:=o.q2
 exact ⟨(o.put _ _ (.inl (by omega))).up (by rw [AB];omega) (Nat.le_refl _),hl,fun i hi=>by rw [Ad,Ac (by omega)];exact low i hi,by rw [Ad,Ac (by omega)];exact arg,by rw [Ad,Ac (by omega)];exact res,by rw [Ad,AC rfl]⟩
end
end Go.Ab.T
namespace Go.Ab.T
open Go Go.Ab
set_option maxHeartbeats 4000000
section
variable {ow:Bool} {C:Ah} {h h':AH} {vp vc vt o1 o2:V} {A:List Part} {X:List Ar} {B:List (List Node)}
end
end Go.Ab.T
namespace Go.Ab.T
open Go Go.Ab
set_option maxHeartbeats 4000000
theorem Jt {b sz:Nat} {h:AH} {v:V} {R:List (List V)} (s:Sl b h sz v R):v.isCell=true∧v.cells=[v]:=by
 rcases s with ⟨hv,_⟩ | ⟨_,_,_,_,rfl,_⟩
 ·rcases hv with rfl | rfl<;>exact ⟨rfl,rfl⟩
 ·exact ⟨rfl,rfl⟩
end Go.Ab.T
namespace Go.Ab.T
open Go Go.Ab
set_option maxHeartbeats 4000000
end Go.Ab.T
namespace Go.Ab.T
open Go Go.Ab
set_option maxHeartbeats 4000000
theorem Sl.frzg {b nx sz m:Nat} {h:AH} {v:V} {R R':List (List V)} (s:Sl b h sz v R) (hm:m≤b) (hr:BF (m≤·) h 0 R R') (hL:R.length<4000000000):Cz (m≤·) h nx v (.fl sz R'):=by
 rcases s with ⟨hv,rfl⟩ | ⟨i,el,cap,cs,rfl,hg,a1,a2,a3,a4,a5,a6⟩
 ·cases hr
  rcases hv with rfl | rfl
  ·exact .ns _ _
  ·exact .e0 _ _
 ·exact .sl _ _ _ _ _ _ cs _ (Nat.le_trans hm a5) hg (by omega) a3 (by simpa [Dz] using hL) (by rw [a2];exact hr)
theorem BF.app {P:Nat→Prop} {h:AH} {n:Nat}:∀ {a a' b b':List (List V)},BF P h n a a'→BF P h n b b'→BF P h n (a++b) (a'++b')
 | _,_,_,_,.nil _,q=>q
 | _,_,_,_,.cons _ _ _ _ _ p r,q=>.cons _ _ _ _ _ p (BF.app r q)
theorem Cg.nilE {b:Nat} {h:AH} {l:List (Nat×V×List (List V))} (hb:b≤h.next) (hl:∀ a∈l,a.2.1=.e0∧a.2.2=[]):Cg b h.next h l:=
 ⟨hb,Nat.le_refl _,fun i a e=>by have:=hl a (List.mem_of_getElem? e);rw [this.1,this.2];exact Sl.nil' _ _ _,fun i a e=>by have:=hl a (List.mem_of_getElem? e);rw [this.1];exact .inl rfl,fun i j a c _ e _=>by have:=hl a (List.mem_of_getElem? e);rw [this.1];exact .inl rfl⟩
structure Cb (k:Nat) (C:Ah):Prop where
 p0:0<C.parts.length
 p1:C.parts.length≤6
 c:C.chans.length≤k
 t:C.tables.length≤k
 n:∀ t∈C.tables,t.length≤700+k
 pr:∀ p∈C.parts,p.procs.length≤k
 nm:GT C
def DX (vp vc vt vr:V) (A:List Part) (p:Part) (X:List Ar) (B:List (List Node)):List (Nat×V×List (List V)):=
 [(11,vp,A.map Part.enc++[p.encO vr]),(6,vc,X.map Ar.enc),(1,vt,B.map Tab.enc),(2,vr,p.procs.map AO.enc)]
structure OD (h h':AH) (vp vc vt vr:V) (A:List Part) (p:Part) (X:List Ar) (B:List (List Node)):Prop where
 own:Cg (h.next+2) h'.next h' (DX vp vc vt vr A p X B)
 lim:h'.lim=h.lim
 low:∀ i,i<h.next→h'.get i=h.get i
 box:h'.get h.next=some ⟨3,[[vp,vc,vt]]⟩
 res:h'.get (h.next+1)=some ⟨3,[[.ns,.ns,.ns]]⟩
section
variable {h h':AH} {vp vc vt vr:V} {A:List Part} {p:Part} {X:List Ar} {B:List (List Node)}
theorem aT6 {K:V→AH→Prop} {h3:AH} {C:Ah} (wf:Wf h) (x:AK h h3) (fp:Cz (h.next≤·) h3 h.next vp (.fl 11 (C.parts.map Part.enc))) (fc:Cz (h.next≤·) h3 h.next vc (.fl 6 (C.chans.map Ar.enc))) (ft:Cz (h.next≤·) h3 h.next vt (.fl 1 (C.tables.map Tab.enc))) (k:K (.agg C.enc) h):∃ P R H,BT h h3 (.agg [vp,vc,vt]) P R H∧K R H:=
 ⟨_,_,_,BT.ext wf x (.agg _ _ _ (.cons _ _ _ _ _ fp (.cons _ _ _ _ _ fc (.cons _ _ _ _ _ ft (.nil _))))),k⟩
theorem M9 {P:Nat→Prop} {h:AH} {n:Nat} (hv:Cz P h n vr (.fl 2 (p.procs.map AO.enc))):BS P h n (p.encO vr) p.enc:=
 .cons _ _ _ _ _ (.z _ _ (.s _)) (.cons _ _ _ _ _ (.z _ _ (.i _ _)) (.cons _ _ _ _ _ (.z _ _ (.i _ _)) (.cons _ _ _ _ _ (.z _ _ (.b _)) (.cons _ _ _ _ _ (.z _ _ (.b _)) (.cons _ _ _ _ _ hv (.cons _ _ _ _ _ (.z _ _ (.i _ _)) (.cons _ _ _ _ _ (.z _ _ (.i _ _)) (.cons _ _ _ _ _ (.z _ _ (.i _ _)) (.cons _ _ _ _ _ (.z _ _ (.i _ _)) (.cons _ _ _ _ _ (.z _ _ (.i _ _)) (.nil _)))))))))))
theorem aHp {q:Nat} {h3:AH} (o:Cg (h.next+2) q h3 (DX vp vc vt vr A p X B)) (hA:A.length≤6) (hp:p.procs.length≤1000):Cz (h.next≤·) h3 h.next vp (.fl 11 ((A++[p]).map Part.enc)):=by
 have s0:=o.sl 0 _ rfl
 have s3:=o.sl 3 _ rfl
 refine Sl.frzg s0 (by omega) ?_ (by simp;omega)
 rw [List.map_append]
 exact BF.app (BF.of_map (fun _=>rfl) A) (.cons _ _ _ _ _ (M9 (Sl.frzb (Sl.weak s3 (by omega)) (fun _=>rfl) (by omega))) (.nil _))
theorem aHo {q:Nat} {h3:AH} (o:Cg (h.next+2) q h3 (DX vp vc vt vr A p X B)) (hX:X.length≤1000):Cz (h.next≤·) h3 h.next vc (.fl 6 (X.map Ar.enc)):=Sl.frzb (Sl.weak (o.sl 1 _ rfl) (by omega)) (fun _=>rfl) (by omega)
theorem aHq {q:Nat} {h3:AH} (o:Cg (h.next+2) q h3 (DX vp vc vt vr A p X B)) (hB:B.length≤1000):Cz (h.next≤·) h3 h.next vt (.fl 1 (B.map Tab.enc)):=Sl.frzb (Sl.weak (o.sl 2 _ rfl) (by omega)) (fun _=>rfl) (by omega)
theorem OD.done {K : V → AH → Prop} (wf : Wf h) (a : OD h h' vp vc vt vr A p X B) (hA : A.length ≤ 6) (hp : p.procs.length ≤ 1000) (hX : X.length ≤ 1000) (hB : B.length ≤ 1000) (k : K (.agg (Ah.enc ⟨A ++ [p], X, B⟩)) h) :
    ∃ P R H,BT h (h'.put (h.next+1) ⟨3,[[vp,vc,vt]]⟩) (.agg [vp,vc,vt]) P R H∧K R H:=by
 have o:=a.own.put (h.next+1) ⟨3,[[vp,vc,vt]]⟩ (.inl (by omega))
 have hb:=a.own.bq
 exact aT6 wf ⟨by rw [AB];omega,a.lim,fun i hi=>by rw [Ad,Ac (by omega)];exact a.low i hi⟩ (aHp o hA hp) (aHo o hX) (aHq o hB) k
theorem OD.mk2 {q : Nat} {h5 : AH} {vp' vc' vt' vr' : V} {A' : List Part} {p' : Part} {X' : List Ar} {B' : List (List Node)} (o : Cg (h.next + 2) q h5 (DX vp' vc' vt' vr' A' p' X' B')) (hl : h5.lim = h.lim) (low : ∀ i, i < h.next → h5.get i = h.get i) (res : h5.get (h.next + 1) = some ⟨3, [[.ns, .ns, .ns]]⟩) :
    OD h (h5.put h.next ⟨3,[[vp',vc',vt']]⟩) vp' vc' vt' vr' A' p' X' B':=by
 have:=o.bq;have:=o.q2
 exact ⟨(o.put _ _ (.inl (by omega))).up (by rw [AB];omega) (Nat.le_refl _),hl,fun i hi=>by rw [Ad,Ac (by omega)];exact low i hi,by rw [Ad,AC rfl],by rw [Ad,Ac (by omega)];exact res⟩
theorem OD.keep {h2:AH} (a:OD h h' vp vc vt vr A p X B) (hn:h'.next≤h2.next) (hl:h2.lim=h'.lim) (g:∀ i,i<h'.next→h2.get i=h'.get i):Cg (h.next+2) h'.next h2 (DX vp vc vt vr A p X B)∧h2.lim=h.lim∧(∀ i,i<h.next→h2.get i=h.get i)∧h2.get h.next=some ⟨3,[[vp,vc,vt]]⟩∧h2.get (h.next+1)=some ⟨3,[[.ns,.ns,.ns]]⟩:=by
 have:=a.own.bq
 exact ⟨a.own.keep hn g,hl.trans a.lim,fun i hi=>(g i (by omega)).trans (a.low i hi),(g _ (by omega)).trans a.box,(g _ (by omega)).trans a.res⟩
theorem OD.part (a:OD h h' vp vc vt vr A p X B) (p':Part) (hp:p'.procs=p.procs):OD h (h'.put (AW vp) ⟨11,(Bm h' vp).set (E2 vp+A.length) (p'.encO vr)⟩) vp vc vt vr A p' X B:=by
 have o:=a.own.set (i:=0) (n:=A.length) (r:=p'.encO vr) rfl (by simp)
 have hl:=As (a.own.sl 0 (11,vp,_) rfl)
 have hnil:Ba vp=false:=by
  rcases a.own.sl 0 (11,vp,A.map Part.enc++[p.encO vr]) rfl with ⟨_,hR⟩ | ⟨_,_,_,_,hv,_⟩
  ·simp at hR
  ·dsimp only at hv;rw [hv];rfl
 have hl:h.next+2≤AW vp:=by
  rcases hl with q | q
  ·dsimp only at q;rw [hnil] at q;cases q
  ·exact q
 refine ⟨?_,a.lim,fun i hi=>by rw [Ad,Ac (by omega)];exact a.low i hi,by rw [Ad,Ac (by omega)];exact a.box,by rw [Ad,Ac (by omega)];exact a.res⟩
 have e:DX vp vc vt vr A p' X B=(DX vp vc vt vr A p X B).set 0 (11,vp,(A.map Part.enc++[p.encO vr]).set A.length (p'.encO vr)):=by
  simp [DX,hp]
 rw [e]
 exact o
structure ODF (h h':AH) (vp vc vt vr:V) (A:List Part) (p:Part):Prop where
 len:HO vp=some (.i .i64 ((A.length+1:Nat):Int))
 get:h'.get (AW vp)=some ⟨11,Bm h' vp⟩
 at_:∀ (k:IntKind) (j:Int) (cs:List (List V)),0≤j→j<((A.length+1:Nat):Int)→Jd (some ⟨11,cs⟩) 11 vp (.i k j)=some (.p (AW vp) (E2 vp+j.toNat) 0)
 row:(Bm h' vp)[E2 vp+A.length]?=some (p.encO vr)
 lo:h.next+2≤AW vp
 lt:AW vp<h'.next
 rl:E2 vp+A.length<(Bm h' vp).length
 c0:vp.isCell=true
 c1:vp.cells=[vp]
 c2:vc.isCell=true
 c3:vc.cells=[vc]
 c4:vt.isCell=true
 c5:vt.cells=[vt]
 c6:vr.isCell=true
 c7:vr.cells=[vr]
theorem OD.facts (a:OD h h' vp vc vt vr A p X B):ODF h h' vp vc vt vr A p:=by
 have s0:=a.own.sl 0 (11,vp,A.map Part.enc++[p.encO vr]) rfl
 dsimp only at s0
 have f:SlF (fun x=>x) (h.next+2) h' 11 vp (A.map Part.enc++[p.encO vr]):=Sl.facts (enc:=fun x=>x) (by rw [List.map_id'];exact s0)
 have hl:(A.map Part.enc++[p.encO vr]).length=A.length+1:=by simp
 obtain ⟨len,_,lt,lo,get,at_,row,_,_⟩:=f
 rw [hl] at len lt lo get at_ row
 have hr:=row A.length (by omega)
 have hn:nth (A.map Part.enc++[p.encO vr]) A.length=p.encO vr:=by
  rw [FZ,if_neg (by simp),List.length_map,Nat.sub_self,Cm]
 rw [hn] at hr
 obtain ⟨c0,c1⟩:=Jt s0
 obtain ⟨c2,c3⟩:=Jt (a.own.sl 1 (6,vc,_) rfl)
 obtain ⟨c4,c5⟩:=Jt (a.own.sl 2 (1,vt,_) rfl)
 obtain ⟨c6,c7⟩:=Jt (a.own.sl 3 (2,vr,_) rfl)
 exact ⟨len,get (by omega),at_,hr,lo (by omega),lt (by omega),Sl.rowlt s0 (by simp),c0,c1,c2,c3,c4,c5,c6,c7⟩
theorem OD.chan {h1 h5:AH} {w:V} {c:Ar} (a:OD h h' vp vc vt vr A p X B) (x:AK h' h1) (s:Sl (h.next+2) h5 6 w (X.map Ar.enc++[c.enc])) (g:Grown (h.next+2) h1 vc w h5):OD h (h5.put h.next ⟨3,[[vp,w,vt]]⟩) vp w vt vr A p (X++[c]) B:=by
 have lo:=a.own.low (i:=1) rfl x g
 have o:=a.own.grow (i:=1) rfl x g s
 have hb:=a.own.bq
 have e:DX vp w vt vr A p (X++[c]) B=(DX vp vc vt vr A p X B).set 1 (6,w,X.map Ar.enc++[c.enc]):=by simp [DX]
 exact OD.mk2 (q:=h5.next) (by rw [e];exact o) (g.lim.trans (x.lim.trans a.lim)) (fun i hi=>(lo i (by omega)).trans (a.low i hi)) ((lo _ (by omega)).trans a.res)
theorem OD.tab {h1 h5:AH} {w:V} {c:List Node} (a:OD h h' vp vc vt vr A p X B) (x:AK h' h1) (s:Sl (h.next+2) h5 1 w (B.map Tab.enc++[Tab.enc c])) (g:Grown (h.next+2) h1 vt w h5):OD h (h5.put h.next ⟨3,[[vp,vc,w]]⟩) vp vc w vr A p X (B++[c]):=by
 have lo:=a.own.low (i:=2) rfl x g
 have o:=a.own.grow (i:=2) rfl x g s
 have hb:=a.own.bq
 have e:DX vp vc w vr A p X (B++[c])=(DX vp vc vt vr A p X B).set 2 (1,w,B.map Tab.enc++[Tab.enc c]):=by simp [DX]
 exact OD.mk2 (q:=h5.next) (by rw [e];exact o) (g.lim.trans (x.lim.trans a.lim)) (fun i hi=>(lo i (by omega)).trans (a.low i hi)) ((lo _ (by omega)).trans a.res)
theorem OD.exts {h1:AH} (a:OD h h' vp vc vt vr A p X B) (x:AK h' h1):OD h h1 vp vc vt vr A p X B:=by
 obtain ⟨o,l,lw,bx,rs⟩:=a.keep x.next x.lim x.get
 exact ⟨o.up x.next (Nat.le_refl _),l,lw,bx,rs⟩
theorem OD.procs {h5 : AH} {q : Nat} {v : V} {L : List AO} (a : OD h h' vp vc vt vr A p X B) (hq : h'.next ≤ q) (o : Cg (h.next + 2) q h5 ((DX vp vc vt vr A p X B).set 3 (2, v, L.map AO.enc))) (hl : h5.lim = h'.lim) (g : ∀ i, i < h.next + 2 → h5.get i = h'.get i) (hcs : Bm h5 vp = Bm h' vp) :
    OD h (h5.put (AW vp) ⟨11,(Bm h' vp).set (E2 vp+A.length) ({ p with procs:=L }.encO v)⟩) vp vc vt v A { p with procs:=L } X B:=by
 have f:=a.facts
 have f1:=f.lo
 have q2:=o.q2
 have os:=o.set (i:=0) (a:=(11,vp,A.map Part.enc++[p.encO vr])) (n:=A.length) (r:={ p with procs:=L }.encO v) rfl (by simp)
 dsimp only at os
 rw [hcs] at os
 have e:DX vp vc vt v A { p with procs:=L } X B=((DX vp vc vt vr A p X B).set 3 (2,v,L.map AO.enc)).set 0 (11,vp,(A.map Part.enc++[p.encO vr]).set A.length ({ p with procs:=L }.encO v)):=by simp [DX]
 refine ⟨by rw [e];exact os.up q2 (Nat.le_refl _),hl.trans a.lim,fun i hi=>by rw [Ad,Ac (by omega),g i (by omega)];exact a.low i hi,by rw [Ad,Ac (by omega),g _ (by omega)];exact a.box,by rw [Ad,Ac (by omega),g _ (by omega)];exact a.res⟩
theorem OD.proc0 (a:OD h h' vp vc vt vr A p X B) (h0:0<p.procs.length) (x:AO):OD h (h'.put (AW vr) ⟨2,(Bm h' vr).set (E2 vr) x.enc⟩) vp vc vt vr A { p with procs:=p.procs.set 0 x } X B:=by
 have o:=a.own.set (i:=3) (a:=(2,vr,p.procs.map AO.enc)) (n:=0) (r:=x.enc) rfl (by simpa using h0)
 dsimp only at o
 rw [Nat.add_zero] at o
 have f:=Sl.facts (enc:=AO.enc) (L:=p.procs) (a.own.sl 3 (2,vr,_) rfl)
 have lo:=f.lo h0
 dsimp only at lo
 have e:DX vp vc vt vr A { p with procs:=p.procs.set 0 x } X B=(DX vp vc vt vr A p X B).set 3 (2,vr,(p.procs.map AO.enc).set 0 x.enc):=by simp [DX,Part.encO,List.map_set]
 refine ⟨by rw [e];exact o,a.lim,fun i hi=>by rw [Ad,Ac (by omega)];exact a.low i hi,by rw [Ad,Ac (by omega)];exact a.box,by rw [Ad,Ac (by omega)];exact a.res⟩
theorem aWG {v:Int} (h0:0≤v) (h6:v≤6):∃ s:ByteArray,s.size<100∧[[V.s ⟨#[]⟩],[.s ⟨#[49,97]⟩],[.s ⟨#[112,97]⟩],[.s ⟨#[111,107,95,49]⟩],[.s ⟨#[116,104,105,114,116,101,101,110,108,111,110,103,95]⟩],[.s ⟨#[65]⟩],[.s ⟨#[116,119,101,108,118,101,95,108,111,110,103,95]⟩]][v.toNat]?=some [.s s]:=by
 have:v=0∨v=1∨v=2∨v=3∨v=4∨v=5∨v=6:=by omega
 rcases this with rfl | rfl | rfl | rfl | rfl | rfl | rfl
 all_goals exact ⟨_,by decide,rfl⟩
theorem OD.done3 {K : V → AH → Prop} {q : Nat} {h5 : AH} {t x : List Node} {B2 : List (List Node)} {v : V} (wf : Wf h) (o : Cg (h.next + 2) q h5 ((DX vp vc vt vr A p X (t :: B2)).set 2 (1, vt, (Tab.enc t :: B2.map Tab.enc).set 0 [v]))) (fv : Cz (h.next ≤ ·) (h5.put (h.next + 1) ⟨3, [[vp, vc, vt]]⟩) 0 v (.fl 3 (x.map Node.enc))) (hl : h5.lim = h.lim) (low : ∀ i, i < h.next → h5.get i = h.get i)
    (hA:A.length≤6) (hp:p.procs.length≤1000) (hX:X.length≤1000) (hB:B2.length≤1000) (k:K (.agg (Ah.enc ⟨A++[p],X,x::B2⟩)) h):
    ∃ P R H,BT h (h5.put (h.next+1) ⟨3,[[vp,vc,vt]]⟩) (.agg [vp,vc,vt]) P R H∧K R H:=by
 have o2:=o.put (h.next+1) ⟨3,[[vp,vc,vt]]⟩ (.inl (by omega))
 have hb:=o.bq
 have q2:=o.q2
 have s0:Sl (h.next+2) (h5.put (h.next+1) ⟨3,[[vp,vc,vt]]⟩) 11 vp (A.map Part.enc++[p.encO vr]):=o2.sl 0 _ rfl
 have s1:Sl (h.next+2) (h5.put (h.next+1) ⟨3,[[vp,vc,vt]]⟩) 6 vc (X.map Ar.enc):=o2.sl 1 _ rfl
 have s2:Sl (h.next+2) (h5.put (h.next+1) ⟨3,[[vp,vc,vt]]⟩) 1 vt ([v]::B2.map Tab.enc):=o2.sl 2 _ rfl
 have s3:Sl (h.next+2) (h5.put (h.next+1) ⟨3,[[vp,vc,vt]]⟩) 2 vr (p.procs.map AO.enc):=o2.sl 3 _ rfl
 refine aT6 wf ⟨by rw [AB];omega,hl,fun i hi=>by rw [Ad,Ac (by omega)];exact low i hi⟩ ?_ (Sl.frzb (Sl.weak s1 (by omega)) (fun _=>rfl) (by simp only;omega)) ?_ k
 ·refine Sl.frzg s0 (by omega) ?_ (by simp;omega)
  simp only [List.map_append]
  exact BF.app (BF.of_map (fun _=>rfl) A) (.cons _ _ _ _ _ (M9 (Sl.frzb (Sl.weak s3 (by omega)) (fun _=>rfl) (by omega))) (.nil _))
 ·exact Sl.frzg s2 (by omega) (.cons _ _ _ _ _ (.cons _ _ _ _ _ fv (.nil _)) (BF.of_map (fun _=>rfl) B2)) (by simp;omega)
theorem Cb.mk' {k:Nat} {p':Part} {X':List Ar} {B':List (List Node)} (sm:Cb k ⟨A++[p],X,B⟩) (h1:p'.procs.length≤k+10) (h2:p'.name.size<4000000000) (hX:X'.length≤k+10) (hB:B'.length≤k+10) (hn:∀ t∈B',t.length≤710+k):Cb (k+10) ⟨A++[p'],X',B'⟩:=by
 refine ⟨by simp,by have:=sm.p1;simpa using this,hX,hB,fun t ht=>by have:=hn t ht;omega,fun q hq=>?_,fun q hq=>?_⟩
 ·rcases List.mem_append.1 hq with hq | hq
  ·have:=sm.pr q (List.mem_append_left _ hq);omega
  ·rw [List.mem_singleton] at hq;subst hq;exact h1
 ·rcases List.mem_append.1 hq with hq | hq
  ·exact sm.nm q (List.mem_append_left _ hq)
  ·rw [List.mem_singleton] at hq;subst hq;exact h2
theorem Cb.nt {k:Nat} (sm:Cb k ⟨A++[p],X,B⟩):∀ t∈B,t.length≤710+k:=fun t ht=>by have:=sm.n t ht;omega
theorem Cb.np {k:Nat} (sm:Cb k ⟨A++[p],X,B⟩):p.name.size<4000000000:=sm.nm p (by simp)
theorem Wx {n c:Int} (h0:0≤c) (h1:c<2147483648):0≤IntKind.wrap .i64 ((BitVec.ofInt 64 n &&& BitVec.ofInt 64 c).toNat:Int)∧IntKind.wrap .i64 ((BitVec.ofInt 64 n &&& BitVec.ofInt 64 c).toNat:Int)≤c:=by
 have h:(BitVec.ofInt 64 n &&& BitVec.ofInt 64 c).toNat≤c.toNat:=by
  rw [BitVec.toNat_and]
  refine Nat.le_trans Nat.and_le_right ?_
  rw [BitVec.toNat_ofInt]
  omega
 rw [w64 (by omega) (by omega)]
 omega
theorem Pf.goE {tp:TP} {f:Nat} {args:List V} {R:V} {h:AH} {ops:List TO} {env:Env} {d:Option Nat} {K2:Env→AH→Prop} (pf:Pf tp f args R) (hp:Gb args=true) (k:∀ e:Env,(∀ t,e t=env t)→K0 tp ops (e.set d R) h K2):Cq tp f args h (fun v h=>K0 tp ops (env.set d v) h K2):=
 Pf.go pf hp fun _=>k env fun _=>rfl
end
end Go.Ab.T
namespace Go.Ab.T
open Go Go.Ab
set_option maxHeartbeats 4000000
attribute [-go_sem] FO
section
variable {h h':AH} {vp vc vt vr:V} {A:List Part} {p:Part} {X:List Ar} {B:List (List Node)}
theorem aHa {K : Ex → Env → AH → Prop} {e : Env} {n q : Int} (hand : Bs .and (.i .i64 n) (.i .i64 1) = some (.i .i64 q)) (hq0 : 0 ≤ q) (hq1 : q ≤ 1) (hlo : h.lim ≤ h.next) (hA : A.length ≤ 6) (hL : p.procs.length ≤ 1000) (a : OD h h' vp vc vt vr A p X B)
    (e2:e 2=.i .i64 n) (e3:e 3=.p h.next 0 0) (e6:e 6=.p (h.next+1) 0 0) (e7:e 7=.p (AW vp) (E2 vp+A.length) 0)
    (kk:∀ e' h' vr L,e' 3=.p h.next 0 0→e' 6=.p (h.next+1) 0 0→OD h h' vp vc vt vr A { p with procs:=L } X B→L.length≤max p.procs.length 4→K (.ex 3) e' h'):ZC tp (.loop VN) e h' K:=by
 refine Ae (fun n' e hh=>∃ (vr:V) (L:List AO),n'=(5 - L.length)∧e 2=.i .i64 n∧e 3=.p h.next 0 0∧e 6=.p (h.next+1) 0 0∧e 7=.p (AW vp) (E2 vp+A.length) 0∧L.length≤max p.procs.length 4∧OD h hh vp vc vt vr A { p with procs:=L } X B) ?_ _ _ _ ⟨vr,p.procs,rfl,e2,e3,e6,e7,by omega,a⟩
 clear e2 e3 e6 e7 e a
 rintro n' e hh ⟨vr,L,rfl,e2,e3,e6,e7,hl,a⟩ ih
 obtain ⟨plen2,pget2,pat2,prow2,plo2,plt2,prl2,c0,c1,c2,c3,c4,c5,c6,c7⟩:=a.facts
 obtain ⟨rlen,_,rlt,rlo,rget,rat,rrow,_,_⟩:=Sl.facts (enc:=AO.enc) (L:=L) (a.own.sl 3 (2,vr,_) rfl)
 dsimp only at rlen rlt rlo rget rat rrow
 simp only [Part.encO] at prow2
 have bq:=a.own.bq
 have lq:hh.lim≤h.next:=by rw [a.lim];exact hlo
 rw [Ai VN.eq_1]
 simp (disch:=omega)only[go_sem, *]
 refine Aa (fun hc=>?_) (fun hc=>?_)
 ·simp (disch:=omega)only[go_sem, *]
  refine Ao (N:=[(⟨0,0⟩:AO).enc]) ((a.own.sl 3 (2,vr,_) rfl).alloc _) (by first | omega | (simp (disch:=omega)only[go_sem, *]<;>omega)) (by first | omega | (simp (disch:=omega)only[go_sem, *]<;>omega)) (by simp;omega) ?_
  intro w h5 s5 g5
  have g5:Grown (h.next+2) (hh.alloc ⟨2,[(⟨0,0⟩:AO).enc]⟩) vr w h5:=g5
  have x5:=(AK.refl hh).alloc ⟨2,[(⟨0,0⟩:AO).enc]⟩
  have lo5:=a.own.low (i:=3) rfl x5 g5
  have o5:=a.own.grow (i:=3) rfl x5 g5 s5
  have gp:h5.get (AW vp)=hh.get (AW vp):=by
   refine (g5.get (AW vp) (by have:=x5.next;omega) ?_).trans (x5.get _ plt2)
   rcases a.own.dj 3 0 (2,vr,L.map AO.enc) (11,vp,A.map Part.enc++[({ p with procs:=L }:Part).encO vr]) (by decide) rfl rfl with d | d | d
   ·exact .inl d
   ·rcases a.own.sl 0 (11,vp,A.map Part.enc++[({ p with procs:=L }:Part).encO vr]) rfl with ⟨_,hR⟩ | ⟨_,_,_,_,hv,_⟩
    ·simp at hR
    ·dsimp only at hv d;rw [hv] at d;cases d
   ·exact .inr (Ne.symm d)
  have csp:Bm h5 vp=Bm hh vp:=by unfold Bm;rw [gp]
  have e5:L.map AO.enc++[(⟨0,0⟩:AO).enc]=(L++[(⟨0,0⟩:AO)]).map AO.enc:=by simp
  dsimp only at o5
  rw [e5] at o5
  have a5:=OD.procs (L:=L++[⟨0,0⟩]) a (by have:=x5.next;have:=g5.next;omega) o5 (g5.lim.trans x5.lim) lo5 csp
  have pg5:h5.get (AW vp)=some ⟨11,Bm hh vp⟩:=gp.trans pget2
  have lq5:h5.lim≤h.next:=by have:=g5.lim;have:=x5.lim;omega
  have w1:=g5.cell
  have w2:=g5.cells
  simp only [Part.encO] at a5
  clear s5 g5 x5 lo5 o5 gp csp e5 a
  simp (disch:=omega)only[go_sem, *]
  refine ih _ _ _ ?_ ⟨w,L++[⟨0,0⟩],rfl, ?_⟩
  ·simp<;>omega
  ·have hl5:(L++[(⟨0,0⟩:AO)]).length≤max p.procs.length 4:=by simp;omega
   clear ih kk
   simp (disch:=omega)only[go_sem, *]
   all_goals ((repeat' refine And.intro ?_ ?_)<;>first | omega | assumption | (exact a5) | (exact hl5))
 ·simp (disch:=omega)only[go_sem, *]
  exact kk _ hh vr L e3 e6 a hl
theorem kB {K : Ex → Env → AH → Prop} {e : Env} {n q : Int} (hand : Bs .and (.i .i64 n) (.i .i64 1) = some (.i .i64 q)) (hq0 : 0 ≤ q) (hq1 : q ≤ 1) (hlo : h.lim ≤ h.next) (hA : A.length ≤ 6) (hL : X.length ≤ 1000) (a : OD h h' vp vc vt vr A p X B)
    (e2:e 2=.i .i64 n) (e3:e 3=.p h.next 0 0) (e6:e 6=.p (h.next+1) 0 0)
    (kk:∀ e' h' vc X',e' 3=.p h.next 0 0→e' 6=.p (h.next+1) 0 0→OD h h' vp vc vt vr A p X' B→X'.length≤max X.length 9→K (.ex 1) e' h'):ZC tp (.loop VP) e h' K:=by
 obtain ⟨plen2,pget2,pat2,prow2,plo2,plt2,prl2,c0,c1,c2,c3,c4,c5,c6,c7⟩:=a.facts
 refine Ae (fun n' e hh=>∃ (vc:V) (X':List Ar),n'=(10 - X'.length)∧e 2=.i .i64 n∧e 3=.p h.next 0 0∧e 6=.p (h.next+1) 0 0∧X'.length≤max X.length 9∧OD h hh vp vc vt vr A p X' B) ?_ _ _ _ ⟨vc,X,rfl,e2,e3,e6,by omega,a⟩
 clear e2 e3 e6 e a plen2 pget2 pat2 prow2 plo2 plt2 prl2 c0 c1 c2 c3 c4 c5 c6 c7
 rintro n' e hh ⟨vc,X',rfl,e2,e3,e6,hl,a⟩ ih
 obtain ⟨plen2,pget2,pat2,prow2,plo2,plt2,prl2,c0,c1,c2,c3,c4,c5,c6,c7⟩:=a.facts
 obtain ⟨clen,_,_,_,_,_,_,_,_⟩:=Sl.facts (enc:=Ar.enc) (L:=X') (a.own.sl 1 (6,vc,_) rfl)
 dsimp only at clen
 have bq:=a.own.bq
 have bx:=a.box
 have lq:hh.lim≤h.next:=by rw [a.lim];exact hlo
 rw [Ai VP.eq_1]
 simp (disch:=omega)only[go_sem, *]
 refine Aa (fun hc=>?_) (fun hc=>?_)
 ·simp (disch:=omega)only[go_sem, *]
  refine Ao (N:=[(⟨0,A.length,false,0,0,0⟩:Ar).enc]) ((a.own.sl 1 (6,vc,_) rfl).alloc _) (by first | omega | (simp (disch:=omega)only[go_sem, *]<;>omega)) (by first | omega | (simp (disch:=omega)only[go_sem, *]<;>omega)) (by simp;omega) ?_
  intro w h5 s5 g5
  have g5:Grown (h.next+2) (hh.alloc ⟨6,[(⟨0,A.length,false,0,0,0⟩:Ar).enc]⟩) vc w h5:=g5
  have x5:=(AK.refl hh).alloc ⟨6,[(⟨0,A.length,false,0,0,0⟩:Ar).enc]⟩
  have lo5:=a.own.low (i:=1) rfl x5 g5
  have a5:=a.chan x5 s5 g5
  have bx5:=(lo5 h.next (by omega)).trans bx
  have lq5:h5.lim≤h.next:=by have:=g5.lim;have:=x5.lim;omega
  have w1:=g5.cell
  have w2:=g5.cells
  clear s5 g5 x5 lo5 a bx
  simp (disch:=omega)only[go_sem, *]
  refine ih _ _ _ ?_ ⟨w,X'++[⟨0,A.length,false,0,0,0⟩],rfl, ?_⟩
  ·simp<;>omega
  ·have hl5:(X'++[(⟨0,A.length,false,0,0,0⟩:Ar)]).length≤max X.length 9:=by simp;omega
   clear ih kk
   simp (disch:=omega)only[go_sem, *]
   all_goals ((repeat' refine And.intro ?_ ?_)<;>first | omega | assumption | (exact a5) | (exact hl5))
 ·simp (disch:=omega)only[go_sem, *]
  exact kk _ hh vc X' e3 e6 a hl
theorem kA {K : Ex → Env → AH → Prop} {e : Env} {n q : Int} (hand : Bs .and (.i .i64 n) (.i .i64 1) = some (.i .i64 q)) (hq0 : 0 ≤ q) (hq1 : q ≤ 1) (hlo : h.lim ≤ h.next) (hA : A.length ≤ 6) (hL : B.length ≤ 1000) (hB : 0 < B.length) (a : OD h h' vp vc vt vr A p X B)
    (e2:e 2=.i .i64 n) (e3:e 3=.p h.next 0 0) (e6:e 6=.p (h.next+1) 0 0)
    (kk:∀ e' h' vt B',e' 3=.p h.next 0 0→e' 6=.p (h.next+1) 0 0→OD h h' vp vc vt vr A p X B'→B'.length≤max B.length 4→(∀ t∈B',t∈B)→K (.ex 5) e' h'):ZC tp (.loop VO) e h' K:=by
 refine Ae (fun n' e hh=>∃ (vt:V) (B':List (List Node)),n'=(5 - B'.length)∧e 2=.i .i64 n∧e 3=.p h.next 0 0∧e 6=.p (h.next+1) 0 0∧B'.length≤max B.length 4∧0<B'.length∧(∀ t∈B',t∈B)∧OD h hh vp vc vt vr A p X B') ?_ _ _ _ ⟨vt,B,rfl,e2,e3,e6,by omega,hB,(fun t ht=>ht),a⟩
 clear e2 e3 e6 e a
 rintro n' e hh ⟨vt,B',rfl,e2,e3,e6,hl,hp,hm,a⟩ ih
 obtain ⟨plen2,pget2,pat2,prow2,plo2,plt2,prl2,c0,c1,c2,c3,c4,c5,c6,c7⟩:=a.facts
 obtain ⟨tlen,_,tlt,tlo,tget,tat,trow,_,_⟩:=Sl.facts (enc:=Tab.enc) (L:=B') (a.own.sl 2 (1,vt,_) rfl)
 dsimp only at tlen tlt tlo tget tat trow
 have tr0:=trow 0 hp
 have t0m:=hm _ (Bl (L:=B') hp)
 simp only [Tab.enc,Nat.add_zero] at tr0
 clear trow
 have bq:=a.own.bq
 have q2:=a.own.q2
 have bx:=a.box
 have lq:hh.lim≤h.next:=by rw [a.lim];exact hlo
 rw [Ai VO.eq_1]
 simp (disch:=omega)only[go_sem, *]
 refine Aa (fun hc=>?_) (fun hc=>?_)
 ·simp (disch:=omega)only[go_sem, *]
  refine Ao (N:=[Tab.enc (nth B' 0)]) ((a.own.sl 2 (1,vt,_) rfl).alloc _) (by first | omega | (simp (disch:=omega)only[go_sem, *]<;>omega)) (by first | omega | (simp (disch:=omega)only[go_sem, *]<;>omega)) (by simp;omega) ?_
  intro w h5 s5 g5
  have g5:Grown (h.next+2) (hh.alloc ⟨1,[Tab.enc (nth B' 0)]⟩) vt w h5:=g5
  have x5:=(AK.refl hh).alloc ⟨1,[Tab.enc (nth B' 0)]⟩
  have lo5:=a.own.low (i:=2) rfl x5 g5
  have a5:=a.tab x5 s5 g5
  have bx5:=(lo5 h.next (by omega)).trans bx
  have lq5:h5.lim≤h.next:=by have:=g5.lim;have:=x5.lim;omega
  have w1:=g5.cell
  have w2:=g5.cells
  clear s5 g5 x5 lo5 a bx
  simp (disch:=omega)only[go_sem, *]
  refine ih _ _ _ ?_ ⟨w,B'++[nth B' 0],rfl, ?_⟩
  ·simp<;>omega
  ·have hl5:(B'++[nth B' 0]).length≤max B.length 4:=by simp;omega
   have hp5:0<(B'++[nth B' 0]).length:=by simp
   have hm5:∀ t∈B'++[nth B' 0],t∈B:=fun t ht=>by
    rcases List.mem_append.1 ht with h1 | h1
    ·exact hm t h1
    ·rw [List.mem_singleton] at h1;rw [h1];exact t0m
   clear ih kk hm
   simp (disch:=omega)only[go_sem, *]
   all_goals ((repeat' refine And.intro ?_ ?_)<;>first | omega | assumption | (exact a5) | (exact hl5) | (exact hp5) | (exact hm5))
 ·simp (disch:=omega)only[go_sem, *]
  exact kk _ hh vt B' e3 e6 a hl hm
end
end Go.Ab.T
namespace Go.Ab.T
open Go Go.Ab
set_option maxHeartbeats 8000000
theorem lO {α:Type} {L:List α} (h:0<L.length):∃ A p,L=A++[p]:=by
 rcases List.eq_nil_or_concat L with h1 | ⟨A,p,h1⟩
 ·rw [h1] at h;simp at h
 ·exact ⟨A,p,by rw [h1,List.concat_eq_append]⟩
attribute [-go_sem] FO
theorem FN (n:Int) {c:Int} (h0:0≤c) (h1:c<2147483648):∃ q:Int,0≤q∧q≤c∧Bs .and (.i .i64 n) (.i .i64 c)=some (.i .i64 q):=by
 rw [FO];exact ⟨_,(Wx (n:=n) h0 h1).1,(Wx (n:=n) h0 h1).2,rfl⟩
theorem pQ (q:Int):∃ v:Int,0≤v∧v≤6∧Pf tp Nh [.i .i64 q,.i .i64 0,.i .i64 6] (.i .i64 v):=
 ⟨Er q 0 6,(GR (by omega)).1,(GR (by omega)).2,IK (by omega) (by omega) (by omega)⟩
theorem aG9 {k:Nat} {C:Ah} {what n:Int} {h:AH} {K:V→AH→Prop} (sm:Cb k C) (hk:k≤100) (kk:∀ C',Cb (k+10) C'→K (.agg C'.enc) h):Cq tp aGU [.agg C.enc,.i .i64 what,.i .i64 n] h K:=by
 obtain ⟨Ps,X,B⟩:=C
 obtain ⟨A,p,hPs⟩:=lO sm.p0
 dsimp only at hPs
 subst hPs
 refine pU aUf (by simp [aF]) fun wf rp=>?_
 unfold aF
 have hlo:=wf.1
 have hAl:A.length≤5:=by have:=sm.p1;simp at this;omega
 have hXl:=sm.c
 have hBl:=sm.t
 dsimp only at hXl hBl
 simp (disch:=omega)only[go_sem, *]
 have x0:AK h ((h.alloc ⟨3,[[.fl 11 ((A++[p]).map Part.enc),.fl 6 (X.map Ar.enc),.fl 1 (B.map Tab.enc)]]⟩).alloc ⟨3,[[.ns,.ns,.ns]]⟩):=by (repeat (first | exact AK.refl _ | refine AK.alloc ?_ _ | (refine AK.put ?_ _ _ ?_;rotate_left;(first | omega | (simp only [Ag,AB];omega)))))
 have o0:Cg (h.next+2) ((h.alloc ⟨3,[[.fl 11 ((A++[p]).map Part.enc),.fl 6 (X.map Ar.enc),.fl 1 (B.map Tab.enc)]]⟩).alloc ⟨3,[[.ns,.ns,.ns]]⟩).next ((h.alloc ⟨3,[[.fl 11 ((A++[p]).map Part.enc),.fl 6 (X.map Ar.enc),.fl 1 (B.map Tab.enc)]]⟩).alloc ⟨3,[[.ns,.ns,.ns]]⟩) [(11,.e0,[]),(6,.e0,[]),(1,.e0,[]),(2,.e0,[])]:=Cg.nilE (Nat.le_refl _) (fun a ha=>by
  simp only [List.mem_cons,List.not_mem_nil,or_false] at ha
  rcases ha with rfl | rfl | rfl | rfl<;>exact ⟨rfl,rfl⟩)
 have bx0:((h.alloc ⟨3,[[.fl 11 ((A++[p]).map Part.enc),.fl 6 (X.map Ar.enc),.fl 1 (B.map Tab.enc)]]⟩).alloc ⟨3,[[.ns,.ns,.ns]]⟩).get h.next=some ⟨3,[[.fl 11 ((A++[p]).map Part.enc),.fl 6 (X.map Ar.enc),.fl 1 (B.map Tab.enc)]]⟩:=by simp (disch:=omega)only[go_sem, *]
 have rs0:((h.alloc ⟨3,[[.fl 11 ((A++[p]).map Part.enc),.fl 6 (X.map Ar.enc),.fl 1 (B.map Tab.enc)]]⟩).alloc ⟨3,[[.ns,.ns,.ns]]⟩).get (h.next+1)=some ⟨3,[[.ns,.ns,.ns]]⟩:=by simp (disch:=omega)only[go_sem, *]
 have lw0:=x0.get
 have lm0:((h.alloc ⟨3,[[.fl 11 ((A++[p]).map Part.enc),.fl 6 (X.map Ar.enc),.fl 1 (B.map Tab.enc)]]⟩).alloc ⟨3,[[.ns,.ns,.ns]]⟩).lim≤h.lim∧h.lim≤((h.alloc ⟨3,[[.fl 11 ((A++[p]).map Part.enc),.fl 6 (X.map Ar.enc),.fl 1 (B.map Tab.enc)]]⟩).alloc ⟨3,[[.ns,.ns,.ns]]⟩).lim:=⟨Nat.le_refl _,Nat.le_refl _⟩
 clear x0
 generalize (h.alloc ⟨3,[[.fl 11 ((A++[p]).map Part.enc),.fl 6 (X.map Ar.enc),.fl 1 (B.map Tab.enc)]]⟩).alloc ⟨3,[[.ns,.ns,.ns]]⟩=hc at *
 have oc:=o0;have bxc:=bx0;have rsc:=rs0;have lwc:=lw0;have lmc:=lm0
 clear o0 bx0 rs0 lw0 lm0
 have bqc:=oc.bq
 have q2c:=oc.q2
 refine Ao (oc.sl 0 _ rfl) (by omega) (by omega) (by simp;omega) ?_
 intro vp hx sx gx
 have lwx:=oc.low (i:=0) rfl (AK.refl _) gx
 have ox:=oc.grow (i:=0) rfl (AK.refl _) gx sx
 have bxx:=(lwx h.next (by omega)).trans bxc
 have rsx:=(lwx (h.next+1) (by omega)).trans rsc
 have lwy:∀ i,i<h.next→hx.get i=h.get i:=fun i hi=>(lwx i (by omega)).trans (lwc i hi)
 have lmx:hx.lim≤h.lim∧h.lim≤hx.lim:=by have:=gx.lim;omega
 have cex:=gx.cell
 have cexs:=gx.cells
 have vpc:=gx.cell
 have vpcs:=gx.cells
 clear lwx oc lwc bxc rsc gx sx lmc bqc q2c
 have bqx:=ox.bq
 simp (disch:=omega)only[go_sem, *]
 have oc:=ox.put h.next ⟨3,[[vp,.fl 6 (X.map Ar.enc),.fl 1 (B.map Tab.enc)]]⟩ (.inl (by omega))
 have bxc:(hx.put h.next ⟨3,[[vp,.fl 6 (X.map Ar.enc),.fl 1 (B.map Tab.enc)]]⟩).get h.next=some ⟨3,[[vp,.fl 6 (X.map Ar.enc),.fl 1 (B.map Tab.enc)]]⟩:=by rw [Ad,AC rfl]
 have rsc:(hx.put h.next ⟨3,[[vp,.fl 6 (X.map Ar.enc),.fl 1 (B.map Tab.enc)]]⟩).get (h.next+1)=some ⟨3,[[.ns,.ns,.ns]]⟩:=by rw [Ad,Ac (by omega)];exact rsx
 have lwc:∀ i,i<h.next→(hx.put h.next ⟨3,[[vp,.fl 6 (X.map Ar.enc),.fl 1 (B.map Tab.enc)]]⟩).get i=h.get i:=fun i hi=>by rw [Ad,Ac (by omega)];exact lwy i hi
 have lmc:(hx.put h.next ⟨3,[[vp,.fl 6 (X.map Ar.enc),.fl 1 (B.map Tab.enc)]]⟩).lim≤h.lim∧h.lim≤(hx.put h.next ⟨3,[[vp,.fl 6 (X.map Ar.enc),.fl 1 (B.map Tab.enc)]]⟩).lim:=lmx
 have bqc:=ox.bq
 have q2c:hx.next≤(hx.put h.next ⟨3,[[vp,.fl 6 (X.map Ar.enc),.fl 1 (B.map Tab.enc)]]⟩).next:=Nat.le_refl _
 clear ox bxx rsx lwy lmx cex cexs bqx
 generalize hx.put h.next ⟨3,[[vp,.fl 6 (X.map Ar.enc),.fl 1 (B.map Tab.enc)]]⟩=hc at *
 refine Ao (oc.sl 1 _ rfl) (by omega) (by omega) (by simp;omega) ?_
 intro vc hx sx gx
 have lwx:=oc.low (i:=1) rfl (AK.refl _) gx
 have ox:=oc.grow (i:=1) rfl (AK.refl _) gx sx
 have bxx:=(lwx h.next (by omega)).trans bxc
 have rsx:=(lwx (h.next+1) (by omega)).trans rsc
 have lwy:∀ i,i<h.next→hx.get i=h.get i:=fun i hi=>(lwx i (by omega)).trans (lwc i hi)
 have lmx:hx.lim≤h.lim∧h.lim≤hx.lim:=by have:=gx.lim;omega
 have cex:=gx.cell
 have cexs:=gx.cells
 have vcc:=gx.cell
 have vccs:=gx.cells
 clear lwx oc lwc bxc rsc gx sx lmc bqc q2c
 have bqx:=ox.bq
 simp (disch:=omega)only[go_sem, *]
 have oc:=ox.put h.next ⟨3,[[vp,vc,.fl 1 (B.map Tab.enc)]]⟩ (.inl (by omega))
 have bxc:(hx.put h.next ⟨3,[[vp,vc,.fl 1 (B.map Tab.enc)]]⟩).get h.next=some ⟨3,[[vp,vc,.fl 1 (B.map Tab.enc)]]⟩:=by rw [Ad,AC rfl]
 have rsc:(hx.put h.next ⟨3,[[vp,vc,.fl 1 (B.map Tab.enc)]]⟩).get (h.next+1)=some ⟨3,[[.ns,.ns,.ns]]⟩:=by rw [Ad,Ac (by omega)];exact rsx
 have lwc:∀ i,i<h.next→(hx.put h.next ⟨3,[[vp,vc,.fl 1 (B.map Tab.enc)]]⟩).get i=h.get i:=fun i hi=>by rw [Ad,Ac (by omega)];exact lwy i hi
 have lmc:(hx.put h.next ⟨3,[[vp,vc,.fl 1 (B.map Tab.enc)]]⟩).lim≤h.lim∧h.lim≤(hx.put h.next ⟨3,[[vp,vc,.fl 1 (B.map Tab.enc)]]⟩).lim:=lmx
 have bqc:=ox.bq
 have q2c:hx.next≤(hx.put h.next ⟨3,[[vp,vc,.fl 1 (B.map Tab.enc)]]⟩).next:=Nat.le_refl _
 clear ox bxx rsx lwy lmx cex cexs bqx
 generalize hx.put h.next ⟨3,[[vp,vc,.fl 1 (B.map Tab.enc)]]⟩=hc at *
 refine Ao (oc.sl 2 _ rfl) (by omega) (by omega) (by simp;omega) ?_
 intro vt hx sx gx
 have lwx:=oc.low (i:=2) rfl (AK.refl _) gx
 have ox:=oc.grow (i:=2) rfl (AK.refl _) gx sx
 have bxx:=(lwx h.next (by omega)).trans bxc
 have rsx:=(lwx (h.next+1) (by omega)).trans rsc
 have lwy:∀ i,i<h.next→hx.get i=h.get i:=fun i hi=>(lwx i (by omega)).trans (lwc i hi)
 have lmx:hx.lim≤h.lim∧h.lim≤hx.lim:=by have:=gx.lim;omega
 have cex:=gx.cell
 have cexs:=gx.cells
 have vtc:=gx.cell
 have vtcs:=gx.cells
 clear lwx oc lwc bxc rsc gx sx lmc bqc q2c
 have bqx:=ox.bq
 simp (disch:=omega)only[go_sem, *]
 have oc:=ox.put h.next ⟨3,[[vp,vc,vt]]⟩ (.inl (by omega))
 have bxc:(hx.put h.next ⟨3,[[vp,vc,vt]]⟩).get h.next=some ⟨3,[[vp,vc,vt]]⟩:=by rw [Ad,AC rfl]
 have rsc:(hx.put h.next ⟨3,[[vp,vc,vt]]⟩).get (h.next+1)=some ⟨3,[[.ns,.ns,.ns]]⟩:=by rw [Ad,Ac (by omega)];exact rsx
 have lwc:∀ i,i<h.next→(hx.put h.next ⟨3,[[vp,vc,vt]]⟩).get i=h.get i:=fun i hi=>by rw [Ad,Ac (by omega)];exact lwy i hi
 have lmc:(hx.put h.next ⟨3,[[vp,vc,vt]]⟩).lim≤h.lim∧h.lim≤(hx.put h.next ⟨3,[[vp,vc,vt]]⟩).lim:=lmx
 have bqc:=ox.bq
 have q2c:hx.next≤(hx.put h.next ⟨3,[[vp,vc,vt]]⟩).next:=Nat.le_refl _
 clear ox bxx rsx lwy lmx cex cexs bqx
 generalize hx.put h.next ⟨3,[[vp,vc,vt]]⟩=hc at *
 have ol:Cg (h.next+2) hx.next hc [(11,vp,(A++[p]).map Part.enc),(6,vc,X.map Ar.enc),(1,vt,B.map Tab.enc),(2,.e0,[])]:=oc
 clear oc
 obtain ⟨plen,pbig,plt,plo,pget,pat,prow,_,_⟩:=Sl.facts (enc:=Part.enc) (L:=A++[p]) (ol.sl 0 _ rfl)
 have hnl:(A++[p]).length=A.length+1:=by simp
 have hnth:nth (A++[p]) A.length=p:=by rw [FZ,if_neg (by omega),Nat.sub_self,Cm]
 dsimp only at plen plt plo pget pat prow
 simp only [hnl] at plen plt plo pget pat prow
 have prowA:=prow A.length (by omega)
 rw [hnth] at prowA
 have plt:=plt (by omega)
 have plo:=plo (by omega)
 have pget:=pget (by omega)
 have hlx:hc.lim≤h.next:=by omega
 clear prow hnl hnth pbig
 simp only [Part.enc] at prowA
 simp (disch:=omega)only[go_sem, *]
 have hpl:=sm.pr p (by simp)
 refine Ao (ol.sl 3 _ rfl) (by omega) (by omega) (by simp;omega) ?_
 intro vr hy sy gy
 have lwy:=ol.low (i:=3) rfl (AK.refl _) gy
 have oy:=ol.grow (i:=3) rfl (AK.refl _) gy sy
 have gyn:=gy.get (AW vp) plt (.inl rfl)
 have pgety:hy.get (AW vp)=some ⟨11,Bm hc vp⟩:=gyn.trans pget
 have csy:Bm hy vp=Bm hc vp:=by unfold Bm;rw [gyn]
 have vrc:=gy.cell
 have vrcs:=gy.cells
 have lmy:=gy.lim
 have od:OD h (hy.put (AW vp) ⟨11,(Bm hc vp).set (E2 vp+A.length) (p.encO vr)⟩) vp vc vt vr A p X B:=by
  have os:=oy.set (i:=0) (n:=A.length) (r:=p.encO vr) rfl (by simp)
  have e:DX vp vc vt vr A p X B=([(11,vp,(A++[p]).map Part.enc),(6,vc,X.map Ar.enc),(1,vt,B.map Tab.enc),(2,V.e0,[])].set 3 (2,vr,[]++p.procs.map AO.enc)).set 0 (11,vp,((A++[p]).map Part.enc).set A.length (p.encO vr)):=by simp [DX]
  dsimp only at os
  rw [csy] at os
  refine ⟨by rw [e];exact os.up (Nat.le_refl _) (Nat.le_refl _),by rw [CU];omega,fun i hi=>by rw [Ad,Ac (by omega),lwy i (by omega)];exact lwc i hi,by rw [Ad,Ac (by omega),lwy _ (by omega)];exact bxc,by rw [Ad,Ac (by omega),lwy _ (by omega)];exact rsc⟩
 simp only [Part.encO] at od
 have hlz:hy.lim≤h.next:=by omega
 have hrl:E2 vp+A.length<(Bm hc vp).length:=Sl.rowlt (ol.sl 0 _ rfl) (by simp)
 clear lwy oy gyn csy gy sy lmy lwc lmc ol bxc rsc bqc q2c hlx
 simp (disch:=omega)only[go_sem, *]
 simp only [← Part.encO.eq_1] at od
 generalize hz:hy.put (AW vp) ⟨11,(Bm hc vp).set (E2 vp+A.length) [.s p.name,.i .i64 p.budget,.i .i64 p.period,.b p.sched,.b p.stop,vr,.i .i64 p.h0,.i .i64 p.h1,.i .i64 p.h2,.i .i64 p.h3,.i .i64 p.h4]⟩=hd
 have od2:OD h hd vp vc vt vr A p X B:=by rw [← hz];exact od
 clear od hz hlz pgety prowA
 refine Pf.goE (IK (n:=what) (lo:=0) (hi:=15) (by omega) (by omega) (by omega)) (by simp only [go_sem]) ?_
 have wb:=GR (n:=what) (lo:=0) (hi:=15) (by omega)
 generalize Er what 0 15=w at wb ⊢
 intro e he
 have e2:e 2=.i .i64 n:=(he 2).trans (by simp (disch:=omega)only[go_sem, *])
 have e3:e 3=.p h.next 0 0:=(he 3).trans (by simp (disch:=omega)only[go_sem, *])
 have e6:e 6=.p (h.next+1) 0 0:=(he 6).trans (by simp (disch:=omega)only[go_sem, *])
 have e7:e 7=.p (AW vp) (E2 vp+A.length) 0:=(he 7).trans (by simp (disch:=omega)only[go_sem, *])
 clear he
 obtain ⟨plen2,pget2,pat2,prow2,plo2,plt2,prl2,c0,c1,c2,c3,c4,c5,c6,c7⟩:=od2.facts
 have bx:=od2.box
 have rs:=od2.res
 have lq:hd.lim≤h.next:=by rw [od2.lim];exact hlo
 simp only [Part.encO] at prow2
 obtain ⟨rlen,_,rlt,rlo,rget,rat,rrow,_,_⟩:=Sl.facts (enc:=AO.enc) (L:=p.procs) (od2.own.sl 3 (2,vr,_) rfl)
 obtain ⟨clen,_,_,_,_,_,_,_,_⟩:=Sl.facts (enc:=Ar.enc) (L:=X) (od2.own.sl 1 (6,vc,_) rfl)
 obtain ⟨tlen,_,tlt,tlo,tget,tat,trow,_,_⟩:=Sl.facts (enc:=Tab.enc) (L:=B) (od2.own.sl 2 (1,vt,_) rfl)
 have qq:=od2.own.q2
 have bq:=od2.own.bq
 dsimp only at rlen rlt rlo rget rat rrow clen tlen tlt tlo tget tat trow
 clear plen pat hrl vpc vpcs vcc vccs vtc vtcs vrc vrcs
 have done0:∃ P R H,BT h (hd.put (h.next+1) ⟨3,[[vp,vc,vt]]⟩) (.agg [vp,vc,vt]) P R H∧K R H:=OD.done wf od2 (by omega) (by omega) (by omega) (by omega) (kk _ (Cb.mk' sm (by omega) sm.np (by omega) (by omega) sm.nt))
 have hw16:w=0∨w=1∨w=2∨w=3∨w=4∨w=5∨w=6∨w=7∨w=8∨w=9∨w=10∨w=11∨w=12∨w=13∨w=14∨w=15:=by omega
 clear wb
 rcases hw16 with rfl | rfl | rfl | rfl | rfl | rfl | rfl | rfl | rfl | rfl | rfl | rfl | rfl | rfl | rfl | rfl
 ·-- name
  have hcs:Bm (hd.alloc ⟨1,[[V.s ⟨#[]⟩],[.s ⟨#[49,97]⟩],[.s ⟨#[112,97]⟩],[.s ⟨#[111,107,95,49]⟩],[.s ⟨#[116,104,105,114,116,101,101,110,108,111,110,103,95]⟩],[.s ⟨#[65]⟩],[.s ⟨#[116,119,101,108,118,101,95,108,111,110,103,95]⟩]]⟩) vp=Bm hd vp:=by unfold Bm;rw [AL,Ac (by omega)]
  have fin:=fun (s:ByteArray) (hs:s.size<100)=>OD.done (K:=K) wf ((od2.exts ((AK.refl hd).alloc ⟨1,[[V.s ⟨#[]⟩],[.s ⟨#[49,97]⟩],[.s ⟨#[112,97]⟩],[.s ⟨#[111,107,95,49]⟩],[.s ⟨#[116,104,105,114,116,101,101,110,108,111,110,103,95]⟩],[.s ⟨#[65]⟩],[.s ⟨#[116,119,101,108,118,101,95,108,111,110,103,95]⟩]]⟩)).part { p with name:=s } rfl) (by omega) (by simp only;omega) (by omega) (by omega) (kk _ (Cb.mk' sm (by simp only;omega) (by simp only;omega) (by omega) (by omega) sm.nt))
  rw [hcs] at fin
  simp only [Part.encO] at fin
  clear kk od2 done0 hcs
  obtain ⟨q,q0,q15,hand⟩:=FN n (c:=15) (by omega) (by omega)
  obtain ⟨v,v0,v6,pv⟩:=pQ q
  simp (disch:=omega)only[go_sem, *]
  repeat' (first | (refine Aq (fun hc=>?_) (fun hc=>?_)<;>simp (disch:=omega)only[go_sem, *]) | (refine Aa (fun hc=>?_) (fun hc=>?_)<;>simp (disch:=omega)only[go_sem, *]) | (refine Bk (fun hc=>?_) (fun hc=>?_)<;>simp (disch:=omega)only[go_sem, *]) | (refine AX (fun hc=>?_) (fun hc=>?_)<;>simp (disch:=omega)only[go_sem, *]))
  all_goals
   refine Pf.go pv (by simp only [go_sem]) fun _=>?_
   obtain ⟨s,hs,hrow⟩:=aWG v0 v6
   have fs:=fin s hs
   clear fin
   simp (disch:=omega)only[go_sem, *]
 ·-- budget
  have fin:=OD.done (K:=K) wf (od2.part { p with budget:=n } rfl) (by omega) (by simp only;omega) (by omega) (by omega) (kk _ (Cb.mk' sm (by simp only;omega) sm.np (by omega) (by omega) sm.nt))
  simp only [Part.encO] at fin
  clear kk od2
  simp (disch:=omega)only[go_sem, *]
  repeat' (first | (refine Aq (fun hc=>?_) (fun hc=>?_)<;>simp (disch:=omega)only[go_sem, *]) | (refine Aa (fun hc=>?_) (fun hc=>?_)<;>simp (disch:=omega)only[go_sem, *]) | (refine Bk (fun hc=>?_) (fun hc=>?_)<;>simp (disch:=omega)only[go_sem, *]) | (refine AX (fun hc=>?_) (fun hc=>?_)<;>simp (disch:=omega)only[go_sem, *]))
 ·-- period
  have fin:=OD.done (K:=K) wf (od2.part { p with period:=n } rfl) (by omega) (by simp only;omega) (by omega) (by omega) (kk _ (Cb.mk' sm (by simp only;omega) sm.np (by omega) (by omega) sm.nt))
  simp only [Part.encO] at fin
  clear kk od2
  simp (disch:=omega)only[go_sem, *]
  repeat' (first | (refine Aq (fun hc=>?_) (fun hc=>?_)<;>simp (disch:=omega)only[go_sem, *]) | (refine Aa (fun hc=>?_) (fun hc=>?_)<;>simp (disch:=omega)only[go_sem, *]) | (refine Bk (fun hc=>?_) (fun hc=>?_)<;>simp (disch:=omega)only[go_sem, *]) | (refine AX (fun hc=>?_) (fun hc=>?_)<;>simp (disch:=omega)only[go_sem, *]))
 ·-- health
  obtain ⟨q,hq0,hq,hand⟩:=FN n (c:=3) (by omega) (by omega)
  have fin:=fun (p':Part) (h1:p'.procs=p.procs) (h2:p'.name=p.name)=>OD.done (K:=K) wf (od2.part p' h1) (by omega) (by rw [h1];omega) (by omega) (by omega) (kk _ (Cb.mk' sm (by rw [h1];omega) (by rw [h2];exact sm.np) (by omega) (by omega) sm.nt))
  have f0:=fin { p with h0:=n } rfl rfl
  have f1:=fin { p with h1:=n } rfl rfl
  have f2:=fin { p with h2:=n } rfl rfl
  have f3:=fin { p with h3:=n } rfl rfl
  simp only [Part.encO] at f0 f1 f2 f3
  clear fin kk od2 done0
  have hq4:q=0∨q=1∨q=2∨q=3:=by omega
  clear hq hq0
  rcases hq4 with rfl | rfl | rfl | rfl
  ·clear f1 f2 f3
   simp (disch:=omega)only[go_sem, *]
   repeat' (first | (refine Aq (fun hc=>?_) (fun hc=>?_)<;>simp (disch:=omega)only[go_sem, *]) | (refine Aa (fun hc=>?_) (fun hc=>?_)<;>simp (disch:=omega)only[go_sem, *]) | (refine Bk (fun hc=>?_) (fun hc=>?_)<;>simp (disch:=omega)only[go_sem, *]) | (refine AX (fun hc=>?_) (fun hc=>?_)<;>simp (disch:=omega)only[go_sem, *]))
  ·clear f0 f2 f3
   simp (disch:=omega)only[go_sem, *]
   repeat' (first | (refine Aq (fun hc=>?_) (fun hc=>?_)<;>simp (disch:=omega)only[go_sem, *]) | (refine Aa (fun hc=>?_) (fun hc=>?_)<;>simp (disch:=omega)only[go_sem, *]) | (refine Bk (fun hc=>?_) (fun hc=>?_)<;>simp (disch:=omega)only[go_sem, *]) | (refine AX (fun hc=>?_) (fun hc=>?_)<;>simp (disch:=omega)only[go_sem, *]))
  ·clear f0 f1 f3
   simp (disch:=omega)only[go_sem, *]
   repeat' (first | (refine Aq (fun hc=>?_) (fun hc=>?_)<;>simp (disch:=omega)only[go_sem, *]) | (refine Aa (fun hc=>?_) (fun hc=>?_)<;>simp (disch:=omega)only[go_sem, *]) | (refine Bk (fun hc=>?_) (fun hc=>?_)<;>simp (disch:=omega)only[go_sem, *]) | (refine AX (fun hc=>?_) (fun hc=>?_)<;>simp (disch:=omega)only[go_sem, *]))
  ·clear f0 f1 f2
   simp (disch:=omega)only[go_sem, *]
   repeat' (first | (refine Aq (fun hc=>?_) (fun hc=>?_)<;>simp (disch:=omega)only[go_sem, *]) | (refine Aa (fun hc=>?_) (fun hc=>?_)<;>simp (disch:=omega)only[go_sem, *]) | (refine Bk (fun hc=>?_) (fun hc=>?_)<;>simp (disch:=omega)only[go_sem, *]) | (refine AX (fun hc=>?_) (fun hc=>?_)<;>simp (disch:=omega)only[go_sem, *]))
 ·-- entry
  by_cases hp0:p.procs.length=0
  ·clear kk od2
   simp (disch:=omega)only[go_sem, *]
  ·have rr0:=rrow 0 (by omega)
   have fin:=OD.done (K:=K) wf (od2.proc0 (by omega) { nth p.procs 0 with entry:=n }) (by omega) (by simp only [List.length_set];omega) (by omega) (by omega) (kk _ (Cb.mk' sm (by simp only [List.length_set];omega) sm.np (by omega) (by omega) sm.nt))
   simp only [AO.enc,Nat.add_zero] at fin rr0
   clear kk od2 rrow
   simp (disch:=omega)only[go_sem, *]
   repeat' (first | (refine Aq (fun hc=>?_) (fun hc=>?_)<;>simp (disch:=omega)only[go_sem, *]) | (refine Aa (fun hc=>?_) (fun hc=>?_)<;>simp (disch:=omega)only[go_sem, *]) | (refine Bk (fun hc=>?_) (fun hc=>?_)<;>simp (disch:=omega)only[go_sem, *]) | (refine AX (fun hc=>?_) (fun hc=>?_)<;>simp (disch:=omega)only[go_sem, *]))
 ·-- prio
  by_cases hp0:p.procs.length=0
  ·clear kk od2
   simp (disch:=omega)only[go_sem, *]
  ·have rr0:=rrow 0 (by omega)
   have fin:=OD.done (K:=K) wf (od2.proc0 (by omega) { nth p.procs 0 with prio:=n }) (by omega) (by simp only [List.length_set];omega) (by omega) (by omega) (kk _ (Cb.mk' sm (by simp only [List.length_set];omega) sm.np (by omega) (by omega) sm.nt))
   simp only [AO.enc,Nat.add_zero] at fin rr0
   clear kk od2 rrow
   simp (disch:=omega)only[go_sem, *]
   repeat' (first | (refine Aq (fun hc=>?_) (fun hc=>?_)<;>simp (disch:=omega)only[go_sem, *]) | (refine Aa (fun hc=>?_) (fun hc=>?_)<;>simp (disch:=omega)only[go_sem, *]) | (refine Bk (fun hc=>?_) (fun hc=>?_)<;>simp (disch:=omega)only[go_sem, *]) | (refine AX (fun hc=>?_) (fun hc=>?_)<;>simp (disch:=omega)only[go_sem, *]))
 ·-- no processes
  have o6:=od2.own.new (i:=3) (sz:=2) (R:=[]) (by simp [DX]) (Sl.nil _ _ _)
  have fin:=OD.done (K:=K) wf (OD.procs (L:=[]) od2 (Nat.le_refl _) o6 rfl (fun _ _=>rfl) rfl) (by omega) (by simp) (by omega) (by omega) (kk _ (Cb.mk' sm (by simp) sm.np (by omega) (by omega) sm.nt))
  simp only [Part.encO,List.map_nil] at fin
  clear kk od2 o6
  simp (disch:=omega)only[go_sem, *]
  repeat' (first | (refine Aq (fun hc=>?_) (fun hc=>?_)<;>simp (disch:=omega)only[go_sem, *]) | (refine Aa (fun hc=>?_) (fun hc=>?_)<;>simp (disch:=omega)only[go_sem, *]) | (refine Bk (fun hc=>?_) (fun hc=>?_)<;>simp (disch:=omega)only[go_sem, *]) | (refine AX (fun hc=>?_) (fun hc=>?_)<;>simp (disch:=omega)only[go_sem, *]))
 ·-- more processes
  obtain ⟨q,q0,q1,hand⟩:=FN n (c:=1) (by omega) (by omega)
  clear done0
  simp (disch:=omega)only[go_sem, *]
  repeat' (first | (refine Aq (fun hc=>?_) (fun hc=>?_)<;>simp (disch:=omega)only[go_sem, *]) | (refine Aa (fun hc=>?_) (fun hc=>?_)<;>simp (disch:=omega)only[go_sem, *]) | (refine Bk (fun hc=>?_) (fun hc=>?_)<;>simp (disch:=omega)only[go_sem, *]) | (refine AX (fun hc=>?_) (fun hc=>?_)<;>simp (disch:=omega)only[go_sem, *]))
  all_goals
   refine aHa hand q0 q1 hlo (by omega) (by omega) od2 (by simp (disch:=omega)only[go_sem, *]) (by simp (disch:=omega)only[go_sem, *]) (by simp (disch:=omega)only[go_sem, *]) (by simp (disch:=omega)only[go_sem, *]) ?_
   clear e2 e3 e6 e7
   intro e' h' vr' L e3 e6 a hl
   have fin:=OD.done (K:=K) wf a (by omega) (by simp only;omega) (by omega) (by omega) (kk _ (Cb.mk' sm (by simp only;omega) sm.np (by omega) (by omega) sm.nt))
   have bx':=a.box
   have rs':=a.res
   have lq':h'.lim≤h.next:=by rw [a.lim];exact hlo
   clear kk od2 a bx rs lq
   simp (disch:=omega)only[go_sem, *]
 ·-- a channel
  obtain ⟨q,q0,q1,hand⟩:=FN n (c:=1) (by omega) (by omega)
  clear done0
  simp (disch:=omega)only[go_sem, *]
  repeat' (first | (refine Aq (fun hc=>?_) (fun hc=>?_)<;>simp (disch:=omega)only[go_sem, *]) | (refine Aa (fun hc=>?_) (fun hc=>?_)<;>simp (disch:=omega)only[go_sem, *]) | (refine Bk (fun hc=>?_) (fun hc=>?_)<;>simp (disch:=omega)only[go_sem, *]) | (refine AX (fun hc=>?_) (fun hc=>?_)<;>simp (disch:=omega)only[go_sem, *]))
  all_goals
   refine Ao (N:=[(⟨n,0,decide (q=0),1 - q,0,0⟩:Ar).enc]) ((od2.own.sl 1 (6,vc,_) rfl).alloc _) (by first | omega | (simp (disch:=omega)only[go_sem, *]<;>omega)) (by first | omega | (simp (disch:=omega)only[go_sem, *]<;>omega)) (by simp;omega) ?_
   intro w h5 s5 g5
   have g5:Grown (h.next+2) (hd.alloc ⟨6,[(⟨n,0,decide (q=0),1 - q,0,0⟩:Ar).enc]⟩) vc w h5:=g5
   have x5:=(AK.refl hd).alloc ⟨6,[(⟨n,0,decide (q=0),1 - q,0,0⟩:Ar).enc]⟩
   have lo5:=od2.own.low (i:=1) rfl x5 g5
   have a5:=od2.chan x5 s5 g5
   have bx5:=(lo5 h.next (by omega)).trans bx
   have rs5:=(lo5 (h.next+1) (by omega)).trans rs
   have lq5:h5.lim≤h.next:=by have:=g5.lim;have:=x5.lim;omega
   have w1:=g5.cell
   have w2:=g5.cells
   have fin:=OD.done (K:=K) wf a5 (by omega) (by omega) (by simp;omega) (by omega) (kk _ (Cb.mk' sm (by omega) sm.np (by simp;omega) (by omega) sm.nt))
   clear kk od2 a5 s5 g5 x5 lo5 bx rs
   simp (disch:=omega)only[go_sem, *]
 ·-- another
  obtain ⟨q,q0,q1,hand⟩:=FN n (c:=1) (by omega) (by omega)
  clear done0
  simp (disch:=omega)only[go_sem, *]
  repeat' (first | (refine Aq (fun hc=>?_) (fun hc=>?_)<;>simp (disch:=omega)only[go_sem, *]) | (refine Aa (fun hc=>?_) (fun hc=>?_)<;>simp (disch:=omega)only[go_sem, *]) | (refine Bk (fun hc=>?_) (fun hc=>?_)<;>simp (disch:=omega)only[go_sem, *]) | (refine AX (fun hc=>?_) (fun hc=>?_)<;>simp (disch:=omega)only[go_sem, *]))
  all_goals
   refine Ao (N:=[(⟨0,A.length,decide (q=0),n,0,0⟩:Ar).enc]) ((od2.own.sl 1 (6,vc,_) rfl).alloc _) (by first | omega | (simp (disch:=omega)only[go_sem, *]<;>omega)) (by first | omega | (simp (disch:=omega)only[go_sem, *]<;>omega)) (by simp;omega) ?_
   intro w h5 s5 g5
   have g5:Grown (h.next+2) (hd.alloc ⟨6,[(⟨0,A.length,decide (q=0),n,0,0⟩:Ar).enc]⟩) vc w h5:=g5
   have x5:=(AK.refl hd).alloc ⟨6,[(⟨0,A.length,decide (q=0),n,0,0⟩:Ar).enc]⟩
   have lo5:=od2.own.low (i:=1) rfl x5 g5
   have a5:=od2.chan x5 s5 g5
   have bx5:=(lo5 h.next (by omega)).trans bx
   have rs5:=(lo5 (h.next+1) (by omega)).trans rs
   have lq5:h5.lim≤h.next:=by have:=g5.lim;have:=x5.lim;omega
   have w1:=g5.cell
   have w2:=g5.cells
   have fin:=OD.done (K:=K) wf a5 (by omega) (by omega) (by simp;omega) (by omega) (kk _ (Cb.mk' sm (by omega) sm.np (by simp;omega) (by omega) sm.nt))
   clear kk od2 a5 s5 g5 x5 lo5 bx rs
   simp (disch:=omega)only[go_sem, *]
 ·-- a third
  clear done0
  simp (disch:=omega)only[go_sem, *]
  repeat' (first | (refine Aq (fun hc=>?_) (fun hc=>?_)<;>simp (disch:=omega)only[go_sem, *]) | (refine Aa (fun hc=>?_) (fun hc=>?_)<;>simp (disch:=omega)only[go_sem, *]) | (refine Bk (fun hc=>?_) (fun hc=>?_)<;>simp (disch:=omega)only[go_sem, *]) | (refine AX (fun hc=>?_) (fun hc=>?_)<;>simp (disch:=omega)only[go_sem, *]))
  all_goals
   refine Ao (N:=[(⟨A.length,0,false,0,0,n⟩:Ar).enc]) ((od2.own.sl 1 (6,vc,_) rfl).alloc _) (by first | omega | (simp (disch:=omega)only[go_sem, *]<;>omega)) (by first | omega | (simp (disch:=omega)only[go_sem, *]<;>omega)) (by simp;omega) ?_
   intro w h5 s5 g5
   have g5:Grown (h.next+2) (hd.alloc ⟨6,[(⟨A.length,0,false,0,0,n⟩:Ar).enc]⟩) vc w h5:=g5
   have x5:=(AK.refl hd).alloc ⟨6,[(⟨A.length,0,false,0,0,n⟩:Ar).enc]⟩
   have lo5:=od2.own.low (i:=1) rfl x5 g5
   have a5:=od2.chan x5 s5 g5
   have bx5:=(lo5 h.next (by omega)).trans bx
   have rs5:=(lo5 (h.next+1) (by omega)).trans rs
   have lq5:h5.lim≤h.next:=by have:=g5.lim;have:=x5.lim;omega
   have w1:=g5.cell
   have w2:=g5.cells
   have fin:=OD.done (K:=K) wf a5 (by omega) (by omega) (by simp;omega) (by omega) (kk _ (Cb.mk' sm (by omega) sm.np (by simp;omega) (by omega) sm.nt))
   clear kk od2 a5 s5 g5 x5 lo5 bx rs
   simp (disch:=omega)only[go_sem, *]
 ·-- one more node
  cases B with
  | nil=>
   simp only [List.length_nil] at tlen
   clear kk od2
   simp (disch:=omega)only[go_sem, *]
   repeat' (first | (refine Aq (fun hc=>?_) (fun hc=>?_)<;>simp (disch:=omega)only[go_sem, *]) | (refine Aa (fun hc=>?_) (fun hc=>?_)<;>simp (disch:=omega)only[go_sem, *]) | (refine Bk (fun hc=>?_) (fun hc=>?_)<;>simp (disch:=omega)only[go_sem, *]) | (refine AX (fun hc=>?_) (fun hc=>?_)<;>simp (disch:=omega)only[go_sem, *]))
  | cons t B2=>
   have tr0:=trow 0 (by simp)
   have hlt:=tlt (by simp)
   have htl:=sm.n t (by simp)
   have hsv:=Sl.sameV (od2.own.sl 2 (1,vt,_) rfl)
   have hB2:B2.length+1≤k:=by simpa using hBl
   simp only [Cm,Tab.enc,Nat.add_zero,List.length_cons] at tr0 tlen tlt tlo tget tat
   clear trow rrow
   simp (disch:=omega)only[go_sem, *]
   repeat' (first | (refine Aq (fun hc=>?_) (fun hc=>?_)<;>simp (disch:=omega)only[go_sem, *]) | (refine Aa (fun hc=>?_) (fun hc=>?_)<;>simp (disch:=omega)only[go_sem, *]) | (refine Bk (fun hc=>?_) (fun hc=>?_)<;>simp (disch:=omega)only[go_sem, *]) | (refine AX (fun hc=>?_) (fun hc=>?_)<;>simp (disch:=omega)only[go_sem, *]))
   all_goals
    refine Ao (b:=hd.next) (R:=[]) (Sl.nil' _ _ _) (by rw [Bh];exact Nat.le_refl _) (by rw [A9];exact Nat.le_refl _) (by simp;omega) ?_
    intro w h5 s5 g5
    have x6:AK hd (h5.back hd.lim):=⟨g5.next,rfl,g5.low⟩
    have s6:Sl hd.next (h5.back hd.lim) 3 w (t.map Node.enc):=s5
    have w1:=g5.cell
    have w2:=g5.cells
    clear s5 g5
    simp (disch:=omega)only[go_sem, *]
    generalize h5.back hd.lim=h6 at x6 s6 ⊢
    have n6:=x6.next
    have l6:=x6.lim
    refine Ao (N:=[(⟨2,0,n⟩:Node).enc]) (s6.alloc _) (by rw [AG];omega) (by rw [Ag];omega) (by simp;omega) ?_
    intro w' h7 s7 g7
    have x7:AK hd h7:=⟨by have:=g7.next;rw [Ag] at this;omega,by rw [g7.lim,AG];exact l6,fun i hi=>by rw [g7.low i hi,AL,Ac (by omega)];exact x6.get i hi⟩
    have bx7:=(x7.get _ (by omega)).trans bx
    have rs7:=(x7.get _ (by omega)).trans rs
    have tg7:h7.get (AW vt)=some ⟨1,Bm hd vt⟩:=(x7.get _ hlt).trans (tget (by omega))
    have cs7:Bm h7 vt=Bm hd vt:=by unfold Bm;rw [x7.get _ hlt]
    have l7:h7.lim≤h.next:=by rw [x7.lim];exact lq
    have lo2:=tlo (by omega)
    have w3:=g7.cell
    have w4:=g7.cells
    have rl7:=(od2.own.sl 2 (1,vt,(t::B2).map Tab.enc) rfl).rowlt (j:=0) (by simp)
    have o7:=(od2.own.keep x7.next x7.get).set (i:=2) (a:=(1,vt,(t::B2).map Tab.enc)) (n:=0) (r:=[w']) rfl (by simp)
    dsimp only at o7 rl7
    rw [cs7,Nat.add_zero] at o7
    rw [Nat.add_zero] at rl7
    have s8:Sl hd.next h7 3 w' ((t++[(⟨2,0,n⟩:Node)]).map Node.enc):=by simpa using s7
    have fin:=OD.done3 (K:=K) (x:=t++[⟨2,0,n⟩]) wf o7 (Sl.frzb (Sl.weak (AA (AA s8 (AW vt) ⟨1,(Bm hd vt).set (E2 vt) [w']⟩ ((As s8).imp (fun x=>x) (fun x=>by omega))) (h.next+1) ⟨3,[[vp,vc,vt]]⟩ ((As s8).imp (fun x=>x) (fun x=>by omega))) (by omega)) (fun _=>rfl) (by simp;omega)) (x7.lim.trans od2.lim) (fun i hi=>by rw [Ad,Ac (by omega),x7.get i (by omega)];exact od2.low i hi) (by omega) (by omega) (by omega) (by omega) (kk _ (Cb.mk' sm (by omega) sm.np (by omega) (by simp only [List.length_cons];omega) (fun t' ht'=>by
     rcases List.mem_cons.1 ht' with rfl | h1
     ·simp;omega
     ·exact sm.nt t' (List.mem_cons_of_mem _ h1))))
    simp only [Nat.add_zero] at fin
    clear kk od2 o7 s7 g7 s8 x7 x6 s6 cs7 bx rs lq l6 n6
    simp (disch:=omega)only[go_sem, *]
 ·-- a window
  obtain ⟨q,q0,q1,hand⟩:=FN n (c:=7) (by omega) (by omega)
  obtain ⟨q',q0',q1',hand'⟩:=FN n (c:=63) (by omega) (by omega)
  cases B with
  | nil=>
   simp only [List.length_nil] at tlen
   clear kk od2
   simp (disch:=omega)only[go_sem, *]
   repeat' (first | (refine Aq (fun hc=>?_) (fun hc=>?_)<;>simp (disch:=omega)only[go_sem, *]) | (refine Aa (fun hc=>?_) (fun hc=>?_)<;>simp (disch:=omega)only[go_sem, *]) | (refine Bk (fun hc=>?_) (fun hc=>?_)<;>simp (disch:=omega)only[go_sem, *]) | (refine AX (fun hc=>?_) (fun hc=>?_)<;>simp (disch:=omega)only[go_sem, *]))
  | cons t B2=>
   have tr0:=trow 0 (by simp)
   have hlt:=tlt (by simp)
   have hB2:B2.length+1≤k:=by simpa using hBl
   simp only [Cm,Tab.enc,Nat.add_zero,List.length_cons] at tr0 tlen tlt tlo tget tat
   have lo2:=tlo (by omega)
   have x7:AK hd (hd.alloc ⟨3,[(⟨1,q,1+q'⟩:Node).enc]⟩):=(AK.refl hd).alloc _
   have cs7:Bm (hd.alloc ⟨3,[(⟨1,q,1+q'⟩:Node).enc]⟩) vt=Bm hd vt:=by unfold Bm;rw [x7.get _ hlt]
   have rl7:=(od2.own.sl 2 (1,vt,(t::B2).map Tab.enc) rfl).rowlt (j:=0) (by simp)
   have o7:=(od2.own.keep x7.next x7.get).set (i:=2) (a:=(1,vt,(t::B2).map Tab.enc)) (n:=0) (r:=[.sl hd.next 0 1 1]) rfl (by simp)
   dsimp only at o7 rl7
   rw [cs7,Nat.add_zero] at o7
   rw [Nat.add_zero] at rl7
   have s8:Sl hd.next (hd.alloc ⟨3,[(⟨1,q,1+q'⟩:Node).enc]⟩) 3 (.sl hd.next 0 1 1) ([(⟨1,q,1+q'⟩:Node)].map Node.enc):=Sl.new (Nat.le_refl _) (by simp)
   have fin:=OD.done3 (K:=K) (x:=[⟨1,q,1+q'⟩]) wf o7 (Sl.frzb (Sl.weak (AA (AA s8 (AW vt) ⟨1,(Bm hd vt).set (E2 vt) [.sl hd.next 0 1 1]⟩ ((As s8).imp (fun x=>x) (fun x=>by omega))) (h.next+1) ⟨3,[[vp,vc,vt]]⟩ ((As s8).imp (fun x=>x) (fun x=>by omega))) (by omega)) (fun _=>rfl) (by simp)) (x7.lim.trans od2.lim) (fun i hi=>by rw [Ad,Ac (by omega),x7.get i (by omega)];exact od2.low i hi) (by omega) (by omega) (by omega) (by omega) (kk _ (Cb.mk' sm (by omega) sm.np (by omega) (by simp only [List.length_cons];omega) (fun t' ht'=>by
    rcases List.mem_cons.1 ht' with rfl | h1
    ·simp only [List.length_cons,List.length_nil];omega
    ·exact sm.nt t' (List.mem_cons_of_mem _ h1))))
   simp only [Node.enc,Nat.add_zero] at fin
   clear kk od2 o7 s8 x7 cs7 trow rrow
   simp (disch:=omega)only[go_sem, *]
   repeat' (first | (refine Aq (fun hc=>?_) (fun hc=>?_)<;>simp (disch:=omega)only[go_sem, *]) | (refine Aa (fun hc=>?_) (fun hc=>?_)<;>simp (disch:=omega)only[go_sem, *]) | (refine Bk (fun hc=>?_) (fun hc=>?_)<;>simp (disch:=omega)only[go_sem, *]) | (refine AX (fun hc=>?_) (fun hc=>?_)<;>simp (disch:=omega)only[go_sem, *]))
 ·-- no tables
  have o6:=od2.own.new (i:=2) (sz:=1) (R:=[]) (by simp [DX]) (Sl.nil _ _ _)
  have a6:OD h (hd.put h.next ⟨3,[[vp,vc,.ns]]⟩) vp vc .ns vr A p X []:=OD.mk2 o6 od2.lim od2.low od2.res
  have fin:=OD.done (K:=K) wf a6 (by omega) (by omega) (by omega) (by simp) (kk _ (Cb.mk' sm (by omega) sm.np (by omega) (by simp) (fun t ht=>by cases ht)))
  clear kk od2 o6 a6
  simp (disch:=omega)only[go_sem, *]
  repeat' (first | (refine Aq (fun hc=>?_) (fun hc=>?_)<;>simp (disch:=omega)only[go_sem, *]) | (refine Aa (fun hc=>?_) (fun hc=>?_)<;>simp (disch:=omega)only[go_sem, *]) | (refine Bk (fun hc=>?_) (fun hc=>?_)<;>simp (disch:=omega)only[go_sem, *]) | (refine AX (fun hc=>?_) (fun hc=>?_)<;>simp (disch:=omega)only[go_sem, *]))
 ·-- more tables
  obtain ⟨q,q0,q1,hand⟩:=FN n (c:=1) (by omega) (by omega)
  by_cases hB0:B.length=0
  ·clear kk od2
   simp (disch:=omega)only[go_sem, *]
   repeat' (first | (refine Aq (fun hc=>?_) (fun hc=>?_)<;>simp (disch:=omega)only[go_sem, *]) | (refine Aa (fun hc=>?_) (fun hc=>?_)<;>simp (disch:=omega)only[go_sem, *]) | (refine Bk (fun hc=>?_) (fun hc=>?_)<;>simp (disch:=omega)only[go_sem, *]) | (refine AX (fun hc=>?_) (fun hc=>?_)<;>simp (disch:=omega)only[go_sem, *]))
  ·simp (disch:=omega)only[go_sem, *]
   repeat' (first | (refine Aq (fun hc=>?_) (fun hc=>?_)<;>simp (disch:=omega)only[go_sem, *]) | (refine Aa (fun hc=>?_) (fun hc=>?_)<;>simp (disch:=omega)only[go_sem, *]) | (refine Bk (fun hc=>?_) (fun hc=>?_)<;>simp (disch:=omega)only[go_sem, *]) | (refine AX (fun hc=>?_) (fun hc=>?_)<;>simp (disch:=omega)only[go_sem, *]))
   all_goals
    refine kA hand q0 q1 hlo (by omega) (by omega) (by omega) od2 (by simp (disch:=omega)only[go_sem, *]) (by simp (disch:=omega)only[go_sem, *]) (by simp (disch:=omega)only[go_sem, *]) ?_
    clear e2 e3 e6 e7
    intro e' h' vt' B' e3 e6 a hl hm
    have fin:=OD.done (K:=K) wf a (by omega) (by omega) (by omega) (by omega) (kk _ (Cb.mk' sm (by omega) sm.np (by omega) (by omega) (fun t ht=>sm.nt t (hm t ht))))
    have bx':=a.box
    have rs':=a.res
    have lq':h'.lim≤h.next:=by rw [a.lim];exact hlo
    have c4':=a.facts.c4
    have c5':=a.facts.c5
    clear kk od2 a bx rs lq hm done0
    simp (disch:=omega)only[go_sem, *]
 ·-- more channels
  obtain ⟨q,q0,q1,hand⟩:=FN n (c:=1) (by omega) (by omega)
  clear done0
  simp (disch:=omega)only[go_sem, *]
  repeat' (first | (refine Aq (fun hc=>?_) (fun hc=>?_)<;>simp (disch:=omega)only[go_sem, *]) | (refine Aa (fun hc=>?_) (fun hc=>?_)<;>simp (disch:=omega)only[go_sem, *]) | (refine Bk (fun hc=>?_) (fun hc=>?_)<;>simp (disch:=omega)only[go_sem, *]) | (refine AX (fun hc=>?_) (fun hc=>?_)<;>simp (disch:=omega)only[go_sem, *]))
  all_goals
   refine kB hand q0 q1 hlo (by omega) (by omega) od2 (by simp (disch:=omega)only[go_sem, *]) (by simp (disch:=omega)only[go_sem, *]) (by simp (disch:=omega)only[go_sem, *]) ?_
   clear e2 e3 e6 e7
   intro e' h' vc' X' e3 e6 a hl
   have fin:=OD.done (K:=K) wf a (by omega) (by omega) (by omega) (by omega) (kk _ (Cb.mk' sm (by omega) sm.np (by omega) (by omega) sm.nt))
   have bx':=a.box
   have rs':=a.res
   have lq':h'.lim≤h.next:=by rw [a.lim];exact hlo
   have c4':=a.facts.c2
   have c5':=a.facts.c3
   clear kk od2 a bx rs lq
   simp (disch:=omega)only[go_sem, *]
end Go.Ab.T
namespace Go.Ab.T
open Go Go.Ab
set_option maxHeartbeats 4000000
/-! Chapter 1's bytes, as the code reckons them. -/
@[go_sem] def Aj (z:Int):List V:=[.i .u8 z]
def u0 (n:Int):Int:=if n<0 then IntKind.wrap .u64 (0 - IntKind.wrap .u64 n) else IntKind.wrap .u64 n
def Di:Nat→Int→List Int→List Int
 | 0,_,x=>x
 | f+1,u,x=>if 0<u then Di f (u.fdiv 256) (IntKind.wrap .u8 u::x) else x
def Ca (n:Int):List Int:=Di 8 (u0 n) []
def Am (B:List Int) (n:Int):List Int:=B++[IntKind.wrap .u8 ((if n<0 then 128 else 0)+IntKind.wrap .u8 ((Ca n).length:Int))]++Ca n
theorem aHT (x:Int):0≤IntKind.wrap .u64 x∧IntKind.wrap .u64 x<18446744073709551616:=by
 have e:IntKind.wrap .u64 x=x % 18446744073709551616:=by unfold IntKind.wrap;simp [IntKind.bits,IntKind.signed]
 rw [e];omega
theorem bL (n:Int):0≤u0 n∧u0 n<18446744073709551616:=by unfold u0;split<;>exact aHT _
theorem Fy:∀ (f:Nat) (u:Int) (x:List Int),(Di f u x).length≤x.length+f
 | 0,u,x=>by simp [Di]
 | f+1,u,x=>by
  rw [Di];split
  ·have:=Fy f (u.fdiv 256) (IntKind.wrap .u8 u::x)
   simp at this;omega
  ·omega
theorem Ak (B:List Int) (n:Int):(Am B n).length≤B.length+9:=by
 have:=Fy 8 (u0 n) []
 simp only [Am,Ca,List.length_append,List.length_cons,List.length_nil] at this ⊢;omega
theorem aUC (u:Int):Bs .shr (.i .u64 u) (.i .u64 8)=some (.i .u64 (u.fdiv 256)):=rfl
theorem rQ {K : Ex → Env → AH → Prop} {e : Env} {h h' : AH} {b : V} {kb u : Int} (hlo : h.lim ≤ h.next) (hu0 : 0 ≤ u) (hu1 : u < 18446744073709551616) (x0 : AK h h') (e0 : e 0 = b) (e5 : e 5 = .i .u64 u) (e6 : e 6 = .i .u8 kb) (e7 : e 7 = .ns)
    (kk:∀ e' h2 v,e' 0=b→e' 6=.i .u8 kb→e' 7=v→AK h h2→Sl h.next h2 1 v ((Di 8 u []).map Aj)→K (.ex 0) e' h2):ZC tp (.loop Vn) e h' K:=by
 have hs:=aUC
 refine Ae (fun n' e hh=>∃ (f:Nat) (w:Int) (v:V) (x:List Int),n'=f∧AK h hh∧e 0=b∧e 5=.i .u64 w∧e 6=.i .u8 kb∧e 7=v∧0≤w∧w<256 ^ f∧x.length+f≤8∧Sl h.next hh 1 v (x.map Aj)∧Di f w x=Di 8 u []) ?_ _ _ _ ⟨8,u,.ns,[],rfl,x0,e0,e5,e6,e7,hu0,by omega,by simp,Sl.nil _ _ _,rfl⟩
 clear e0 e5 e6 e7 e x0
 rintro n' e hh ⟨f,w,v,x,hf,xx,e0,e5,e6,e7,hw0,hw1,hl,s,hz⟩ ih
 subst hf
 have hlm:=xx.lim
 have hnx:=xx.next
 rw [Ai Vn.eq_1]
 simp (disch:=omega)only[go_sem, *]
 refine Aa (fun hc=>?_) (fun hc=>?_)
 ·cases n' with
  | zero=>simp at hw1;omega
  | succ f=>
   have hz2:Di f (w.fdiv 256) (IntKind.wrap .u8 w::x)=Di 8 u []:=by rw [← hz,Di,if_pos hc]
   have hd:w.fdiv 256=w / 256:=Int.fdiv_eq_ediv_of_nonneg _ (by omega)
   have hp:(256:Int) ^ (f+1)=256 ^ f*256:=Int.pow_succ ..
   have hd1:0≤w.fdiv 256:=by rw [hd];omega
   have hd2:w.fdiv 256<256 ^ f:=by rw [hd];omega
   have hv:Ef 1 (hh.alloc ⟨1,[Aj (IntKind.wrap .u8 w)]⟩) v=some (x.map Aj):=(s.alloc _).rows
   have s0:Sl h.next (hh.alloc ⟨1,[Aj (IntKind.wrap .u8 w)]⟩) 1 (.sl hh.next 0 1 1) [Aj (IntKind.wrap .u8 w)]:=Sl.new hnx (by simp)
   clear hz hd hp
   simp only [Aj] at hv
   simp (disch:=omega)only[go_sem, *]
   refine Ao s0 (by first | omega | (simp (disch:=omega)only[go_sem, *]<;>omega)) (by first | omega | (simp (disch:=omega)only[go_sem, *]<;>omega)) (by simp;omega) ?_
   intro r h4 s4 g4
   have g4:Grown h.next (hh.alloc ⟨1,[Aj (IntKind.wrap .u8 w)]⟩) (.sl hh.next 0 1 1) r h4:=g4
   have x4:AK h h4:=⟨by have:=g4.next;rw [Ag] at this;omega,by rw [g4.lim,AG];exact hlm,fun j hj=>by rw [g4.low j hj,AL,Ac (by omega)];exact xx.get j hj⟩
   have s5:Sl h.next h4 1 r ((IntKind.wrap .u8 w::x).map Aj):=by simpa using s4
   clear s4 g4 hv s0
   simp (disch:=omega)only[go_sem, *]
   refine ih _ _ _ ?_ ⟨f,w.fdiv 256,r,IntKind.wrap .u8 w::x,rfl, ?_⟩
   ·omega
   ·have hl5:(IntKind.wrap .u8 w::x).length+f≤8:=by simp only [List.length_cons];omega
    clear ih kk
    simp (disch:=omega)only[go_sem, *]
    all_goals ((repeat' refine And.intro ?_ ?_)<;>first | omega | assumption | (exact x4) | (exact s5) | (exact hl5) | (exact hz2))
 ·have hx:Di n' w x=x:=by cases n' with
   | zero=>rfl
   | succ f=>rw [Di,if_neg hc]
  rw [hx] at hz
  clear hx
  simp (disch:=omega)only[go_sem, *]
  exact kk _ hh v e0 e6 e7 xx (by rw [← hz];exact s)
theorem Bw {m : Nat} {h : AH} {b : V} {B : List Int} {n : Int} {K : V → AH → Prop} (hlo : h.lim ≤ h.next) (s : Sl m h 1 b (B.map Aj)) (hB : B.length < 1000000)
    (kk:∀ r h',Sl h.next h' 1 r ((Am B n).map Aj)→AK h h'→K r h'):Cq tp Nj [b,.i .i64 n] h K:=by
 refine A8 aFH (by simp [OH]) fun wf rp=>?_
 unfold OH
 have hu:=bL n
 have hkr:∀ r h',Sl h.next h' 1 r ((B++[IntKind.wrap .u8 ((if n<0 then 128 else 0)+IntKind.wrap .u8 ((Ca n).length:Int))]++Ca n).map Aj)→AK h h'→K r h':=kk
 simp (disch:=omega)only[go_sem, *]
 refine Aa (fun hc=>?_) (fun hc=>?_)
 ·have hu0:u0 n=IntKind.wrap .u64 (0 - IntKind.wrap .u64 n):=if_pos hc
  rw [if_pos hc] at hkr
  simp (disch:=omega)only[go_sem, *]
  refine rQ (b:=b) (u:=u0 n) (kb:=128) hlo hu.1 hu.2 (AK.refl h) (by simp (disch:=omega)only[go_sem, *]) (by simp (disch:=omega)only[go_sem, *]) (by simp (disch:=omega)only[go_sem, *]) (by simp (disch:=omega)only[go_sem, *]) ?_
  clear hu0
  intro e' h2 v f0 f6 f7 x2 s2
  have hlm:=x2.lim
  have hnx:=x2.next
  have hv:Ef 1 h2 b=some (B.map Aj):=(s.ext x2).rows
  simp (disch:=omega)only[go_sem, *]
  refine Ao (b:=h.next) (R:=[]) (Sl.nil' _ _ _) (by omega) (by omega) (by simp;omega) ?_
  intro r1 h3 s3 g3
  have x3:AK h2 h3:=⟨g3.next,g3.lim,fun i hi=>g3.get i hi (.inl rfl)⟩
  have s2':=s2.ext x3
  have vl:=(s2'.facts).len
  have hpl:=Fy 8 (u0 n) []
  simp only [List.length_nil,Nat.zero_add] at hpl
  have hn3:=x3.next
  have hl3:=x3.lim
  have dj:Dj r1 v:=by
   rcases g3.own with q | ⟨q,_⟩ | q
   ·exact .inl q
   ·cases q
   ·rcases DG s2 with q2 | q2
    ·exact .inr (.inl q2)
    ·exact .inr (.inr (by omega))
  have ho3:=As s3
  clear g3 hv
  simp (disch:=omega)only[go_sem, *]
  refine Ao (N:=[Aj ?z128]) (s3.alloc ⟨1,[Aj ?z128]⟩) ?_ ?_ ?_ ?_
  ·rw [AG];omega
  ·rw [Ag];omega
  ·simp;omega
  intro r2 h4 s4 g4
  have x4:AK h3 (h3.alloc ⟨1,[Aj ?z128]⟩):=(AK.refl _).alloc _
  have s24:=DF (s2'.ext x4) g4 dj
  have dj2:Dj r2 v:=C2 g4 dj ((DG s2').imp (fun x=>x) (fun x=>by rw [Ag];omega))
  have hv4:=s24.rows
  have hn4:=g4.next
  have hl4:=g4.lim
  have lw4:∀ i,i<h.next→h4.get i=h.get i:=fun i hi=>by rw [g4.low i hi,AL,Ac (by omega),x3.get i (by omega)];exact x2.get i hi
  rw [Ag] at hn4
  rw [AG] at hl4
  clear g4 x4
  simp (disch:=omega)only[go_sem, *]
  refine Ao s4 (by omega) (by omega) (by simp;omega) ?_
  intro r3 h5 s5 g5
  have x5:AK h h5:=⟨by have:=g5.next;omega,by rw [g5.lim];omega,fun i hi=>by rw [g5.low i hi];exact lw4 i hi⟩
  have w1:=g5.cell
  have f:=hkr r3 h5 (by simpa [Ca,Aj] using s5) x5
  clear s5 g5 hkr kk
  simp (disch:=omega)only[go_sem, *]
 ·have hu0:u0 n=IntKind.wrap .u64 n:=if_neg hc
  rw [if_neg hc] at hkr
  simp (disch:=omega)only[go_sem, *]
  refine rQ (b:=b) (u:=u0 n) (kb:=0) hlo hu.1 hu.2 (AK.refl h) (by simp (disch:=omega)only[go_sem, *]) (by simp (disch:=omega)only[go_sem, *]) (by simp (disch:=omega)only[go_sem, *]) (by simp (disch:=omega)only[go_sem, *]) ?_
  clear hu0
  intro e' h2 v f0 f6 f7 x2 s2
  have hlm:=x2.lim
  have hnx:=x2.next
  have hv:Ef 1 h2 b=some (B.map Aj):=(s.ext x2).rows
  simp (disch:=omega)only[go_sem, *]
  refine Ao (b:=h.next) (R:=[]) (Sl.nil' _ _ _) (by omega) (by omega) (by simp;omega) ?_
  intro r1 h3 s3 g3
  have x3:AK h2 h3:=⟨g3.next,g3.lim,fun i hi=>g3.get i hi (.inl rfl)⟩
  have s2':=s2.ext x3
  have vl:=(s2'.facts).len
  have hpl:=Fy 8 (u0 n) []
  simp only [List.length_nil,Nat.zero_add] at hpl
  have hn3:=x3.next
  have hl3:=x3.lim
  have dj:Dj r1 v:=by
   rcases g3.own with q | ⟨q,_⟩ | q
   ·exact .inl q
   ·cases q
   ·rcases DG s2 with q2 | q2
    ·exact .inr (.inl q2)
    ·exact .inr (.inr (by omega))
  have ho3:=As s3
  clear g3 hv
  simp (disch:=omega)only[go_sem, *]
  refine Ao (N:=[Aj ?z0]) (s3.alloc ⟨1,[Aj ?z0]⟩) ?_ ?_ ?_ ?_
  ·rw [AG];omega
  ·rw [Ag];omega
  ·simp;omega
  intro r2 h4 s4 g4
  have x4:AK h3 (h3.alloc ⟨1,[Aj ?z0]⟩):=(AK.refl _).alloc _
  have s24:=DF (s2'.ext x4) g4 dj
  have dj2:Dj r2 v:=C2 g4 dj ((DG s2').imp (fun x=>x) (fun x=>by rw [Ag];omega))
  have hv4:=s24.rows
  have hn4:=g4.next
  have hl4:=g4.lim
  have lw4:∀ i,i<h.next→h4.get i=h.get i:=fun i hi=>by rw [g4.low i hi,AL,Ac (by omega),x3.get i (by omega)];exact x2.get i hi
  rw [Ag] at hn4
  rw [AG] at hl4
  clear g4 x4
  simp (disch:=omega)only[go_sem, *]
  refine Ao s4 (by omega) (by omega) (by simp;omega) ?_
  intro r3 h5 s5 g5
  have x5:AK h h5:=⟨by have:=g5.next;omega,by rw [g5.lim];omega,fun i hi=>by rw [g5.low i hi];exact lw4 i hi⟩
  have w1:=g5.cell
  have f:=hkr r3 h5 (by simpa [Ca,Aj] using s5) x5
  clear s5 g5 hkr kk
  simp (disch:=omega)only[go_sem, *]
end Go.Ab.T
namespace Go.Ab.T
open Go Go.Ab
set_option maxHeartbeats 4000000
def sB (s:ByteArray):List Int:=s.data.toList.map fun c=>(c.toNat:Int)
theorem Lj (s:ByteArray):Ci s=(sB s).map Aj:=by simp [Ci,sB,Aj]
theorem IG (s:ByteArray):(sB s).length=s.size:=by simp only [sB,List.length_map,Array.length_toList];rfl
theorem Mj {m : Nat} {h : AH} {b : V} {B : List Int} {f : Bool} {K : V → AH → Prop} (hlo : h.lim ≤ h.next) (s : Sl m h 1 b (B.map Aj)) (hB : B.length < 1000000)
    (kk:∀ r h',Sl h.next h' 1 r ((Am B (if f=true then 1 else 0)).map Aj)→AK h h'→K r h'):Cq tp XU [b,.b f] h K:=by
 refine A8 aFJ (by simp [OJ]) fun wf rp=>?_;unfold OJ;simp (disch:=omega)only[go_sem, *]
 cases f
 ·simp (disch:=omega)only[go_sem, *]
  refine Bw hlo s hB (fun r h' s' x=>?_)
  have f:=kk r h' s' x
  clear kk
  simp (disch:=omega)only[go_sem, *]
 ·simp (disch:=omega)only[go_sem, *]
  refine Bw hlo s hB (fun r h' s' x=>?_)
  have f:=kk r h' s' x
  clear kk
  simp (disch:=omega)only[go_sem, *]
theorem lU {m : Nat} {h : AH} {b : V} {B : List Int} {s : ByteArray} {K : V → AH → Prop} (hlo : h.lim ≤ h.next) (sb : Sl m h 1 b (B.map Aj)) (hB : B.length < 1000000) (hs : s.size < 1000)
    (kk:∀ r h',Sl h.next h' 1 r ((Am B s.size++sB s).map Aj)→AK h h'→K r h'):Cq tp XT [b,.s s] h K:=by
 refine A8 aFI (by simp [OI]) fun wf rp=>?_;unfold OI;simp (disch:=omega)only[go_sem, *]
 refine Bw hlo sb hB (fun r h' s' x=>?_)
 have hl:=Ak B s.size
 have hsl:=IG s
 have hbv:=Lj s
 have hx:=x.lim
 have hn:=x.next
 simp (disch:=omega)only[go_sem, *]
 refine Ao s' (by omega) (by omega) (by simp;omega) ?_
 intro r2 h4 s4 g4
 have x4:AK h h4:=⟨by have:=g4.next;omega,by rw [g4.lim];exact hx,fun i hi=>by rw [g4.low i hi];exact x.get i hi⟩
 have f:=kk r2 h4 (by rw [List.map_append];exact s4) x4
 clear kk s4 g4 hsl hbv
 simp (disch:=omega)only[go_sem, *]
def xr (a b:Int):Int:=IntKind.wrap .u32 ((BitVec.ofInt 32 a ^^^ BitVec.ofInt 32 b).toNat:Int)
def UK (c:Int):Int:=IntKind.wrap .u32 (c*2)
def Eo (c:Int):Int:=if c.fdiv 2147483648=1 then xr (UK c) 79764919 else UK c
def Iy:Nat→Int→Int
 | 0,c=>c
 | n+1,c=>Iy n (Eo c)
def DM (c b:Int):Int:=Iy 8 (xr c (IntKind.wrap .u32 (IntKind.wrap .u32 b*16777216)))
theorem Zd (a b:Int):Bs .xor (.i .u32 a) (.i .u32 b)=some (.i .u32 (xr a b)):=rfl
theorem Za (a:Int):Bs .shl (.i .u32 a) (.i .u64 1)=some (.i .u32 (UK a)):=rfl
theorem SZ (a:Int):Bs .shl (.i .u32 a) (.i .u64 24)=some (.i .u32 (IntKind.wrap .u32 (a*16777216))):=rfl
theorem Y9 (a:Int):Bs .shr (.i .u32 a) (.i .u64 31)=some (.i .u32 (a.fdiv 2147483648)):=rfl
theorem Y8 (a:Int):Bs .shr (.i .u32 a) (.i .u64 24)=some (.i .u32 (a.fdiv 16777216)):=rfl
theorem Y7 (a:Int):Bs .shr (.i .u32 a) (.i .u64 16)=some (.i .u32 (a.fdiv 65536)):=rfl
theorem rN (a:Int):Bs .shr (.i .u32 a) (.i .u64 8)=some (.i .u32 (a.fdiv 256)):=rfl
theorem Y0 {c b:Int}:Pf tp Yh [.i .u32 c,.i .u8 b] (.i .u32 (DM c b)):=by
 have h1:=Zd;have h2:=Za;have h3:=SZ;have h4:=Y9
 refine AD aGb (by simp [Pc]) fun rp=>?_;unfold Pc;simp (disch:=omega)only[go_sem, *]
 refine Ae (fun n' e hh=>∃ (i:Nat) (w:Int),n'=8 - i∧hh.lim=0∧e 0=.i .u32 w∧e 5=.i .i64 i∧i≤8∧Iy (8 - i) w=DM c b) ?_ _ _ _ ⟨0,xr c (IntKind.wrap .u32 (IntKind.wrap .u32 b*16777216)),rfl, ?_⟩
 ·rintro n' e hh ⟨i,w,rfl,hlm,e0,e5,hi,hz⟩ ih
  rw [Ai qI.eq_1]
  have hz1:=hz
  clear hz
  simp (disch:=omega)only[go_sem, *]
  refine Aa (fun hc=>?_) (fun hc=>?_)
  ·have e8:8 - i=(8 - (i+1))+1:=by omega
   have hz2:Iy (8 - (i+1)) (Eo w)=DM c b:=by rw [← hz1,e8];rfl
   clear hz1 e8
   unfold Eo at hz2
   simp (disch:=omega)only[go_sem, *]
   refine Aa (fun hc2=>?_) (fun hc2=>?_)
   ·rw [if_pos hc2] at hz2
    simp (disch:=omega)only[go_sem, *]
    refine ih _ _ _ ?_ ⟨i+1,xr (UK w) 79764919,rfl, ?_⟩
    ·omega
    ·have hz3:=hz2
     clear hz2 ih
     simp (disch:=omega)only[go_sem, *]
     all_goals ((repeat' refine And.intro ?_ ?_)<;>first | omega | assumption | (exact hz3))
   ·rw [if_neg hc2] at hz2
    simp (disch:=omega)only[go_sem, *]
    refine ih _ _ _ ?_ ⟨i+1,UK w,rfl, ?_⟩
    ·omega
    ·have hz3:=hz2
     clear hz2 ih
     simp (disch:=omega)only[go_sem, *]
     all_goals ((repeat' refine And.intro ?_ ?_)<;>first | omega | assumption | (exact hz3))
  ·obtain rfl:i=8:=by omega
   have hz2:w=DM c b:=hz1
   clear hz1
   simp (disch:=omega)only[go_sem, *]
 ·simp (disch:=omega)only[go_sem, *]
  all_goals ((repeat' refine And.intro ?_ ?_)<;>first | omega | assumption | (rfl))
def ux (a:Int):Int:=IntKind.wrap .u32 ((BitVec.ofInt 32 4294967295 ^^^ BitVec.ofInt 32 a).toNat:Int)
theorem rO (a:Int):pN .xor (.i .u32 a)=some (.i .u32 (ux a)):=rfl
def CC:List Int→Int→Int
 | [],c=>c
 | b::l,c=>CC l (DM c b)
def Dp (B:List Int):Int:=ux (CC B 4294967295)
theorem lR {B:List Int}:Pf tp XW [.fl 1 (B.map Aj)] (.i .u32 (Dp B)):=by
 have h1:=rO
 refine AD aFL (by simp [OL]) fun rp=>?_;unfold OL;simp (disch:=omega)only[go_sem, *]
 have hL:=rp.head.len
 refine Ae (fun n e h=>∃ (i:Nat) (w:Int),n=B.length - i∧h.lim=0∧e 0=.fl 1 (B.map Aj)∧e 3=.i .u32 w∧e 4=.i .i64 i∧i≤B.length∧CC (B.drop i) w=CC B 4294967295) ?_ _ _ _ ⟨0,4294967295,rfl, ?_⟩
 ·rintro n e h ⟨i,w,rfl,hl,e0,e3,e4,hi,hz⟩ ih
  rw [Ai qD.eq_1]
  simp (disch:=omega)only[go_sem, *]
  refine Aa (fun hc=>?_) (fun hc=>?_)
  ·rw [Ax (by omega),CC] at hz
   simp (disch:=omega)only[go_sem, *]
   refine Pf.go (Y0 (c:=w) (b:=nth B i)) (by simp only [go_sem]) fun _=>?_;simp (disch:=omega)only[go_sem, *]
   refine ih _ _ _ ?_ ⟨i+1,DM w (nth B i),rfl, ?_⟩
   ·omega
   ·simp (disch:=omega)only[go_sem, *]
    all_goals ((repeat' refine And.intro ?_ ?_)<;>first | omega | assumption | (exact hz))
  ·rw [List.drop_eq_nil_of_le (by omega),CC] at hz
   unfold Dp
   simp (disch:=omega)only[go_sem, *]
 ·simp (disch:=omega)only[go_sem, *]
def BL (B:List Int):List Int:=B++[IntKind.wrap .u8 ((Dp B).fdiv 16777216),IntKind.wrap .u8 ((Dp B).fdiv 65536),IntKind.wrap .u8 ((Dp B).fdiv 256),IntKind.wrap .u8 (Dp B)]
theorem GP {B:List Int} (hB:B.length<3000000):Pf tp XD [.fl 1 (B.map Aj)] (.fl 1 ((BL B).map Aj)):=by
 have h1:=Y8;have h2:=Y7;have h3:=rN
 refine AD aFm (by simp [Oh]) fun rp=>?_;unfold Oh;simp (disch:=omega)only[go_sem, *]
 refine Pf.go (lR) (by simp only [go_sem]) fun _=>?_;simp (disch:=omega)only[go_sem, *]
 refine Ao (b:=0) (R:=[]) (Sl.nil' _ _ _) (by simp (disch:=omega)only[go_sem, *]) (by simp (disch:=omega)only[go_sem, *]) (by simp;omega) ?_
 intro r1 hx s3 g3
 have hl3:=g3.lim
 clear g3
 simp (disch:=omega)only[go_sem] at hl3
 simp (disch:=omega)only[go_sem, *]
 refine Ao (N:=[Aj (IntKind.wrap .u8 ((Dp B).fdiv 16777216)),Aj (IntKind.wrap .u8 ((Dp B).fdiv 65536)),Aj (IntKind.wrap .u8 ((Dp B).fdiv 256)),Aj (IntKind.wrap .u8 (Dp B))]) (s3.alloc ⟨1,[Aj (IntKind.wrap .u8 ((Dp B).fdiv 16777216)),Aj (IntKind.wrap .u8 ((Dp B).fdiv 65536)),Aj (IntKind.wrap .u8 ((Dp B).fdiv 256)),Aj (IntKind.wrap .u8 (Dp B))]⟩) ?_ ?_ ?_ ?_
 ·rw [AG];omega
 ·rw [Ag];omega
 ·simp;omega
 intro r2 h4 s4 g4
 have f:Sl 0 h4 1 r2 ((BL B).map Aj):=by simpa [BL,Aj] using s4
 clear s4 g4
 simp (disch:=omega)only[go_sem, *]
 exact f.froze (fun _=>rfl) trivial (by simp [BL];omega)
theorem CD (B:List Int):(BL B).length=B.length+4:=by simp [BL]
end Go.Ab.T
