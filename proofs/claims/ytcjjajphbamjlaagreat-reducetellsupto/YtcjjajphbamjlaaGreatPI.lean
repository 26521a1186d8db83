/- Part of a proof that a law returns true for every input of the second form's bound (no other condition). -/
import Derived.Test.YtcjjajphbamjlaaGreatPH
set_option linter.all false
namespace Go.Ab.T
open Go Go.Ab
set_option maxHeartbeats 4000000
theorem mem_z0 {P P':List Part} (h:P'.map z0=P.map z0) {p:Part} (hp:p∈P'):∃ q∈P,q.name=p.name:=by
  have:z0 p∈P.map z0:=by rw [← h];exact List.mem_map_of_mem hp
  obtain ⟨q,hq,e⟩:=List.mem_map.1 this
  exact ⟨q,hq,by have:=congrArg Part.name e;exact this⟩
structure Bare (P:List Part) (Ch:List Chan) (T:List (List Node)):Prop where
  z:P.map z0=P
  p1:1≤P.length
  p2:P.length≤6
  c:Ch.length≤8
  t1:1≤T.length
  t2:T.length≤3
  parts:∀ i,i<P.length→GoodP P i
  chans:∀ x∈Ch,chanB P.length x=true∧x.late=0
  tabs:∀ t∈T,TabOk P.length t
  nm:∀ p∈P,p.name.size<4000000000
theorem Bare.where_ {P:List Part} {Ch Ch':List Chan} {T:List (List Node)} (g:Bare P Ch T) (hl:Ch'.length=Ch.length) (hc:∀ x∈Ch',CO P.length (T.map rn) x):whereR ⟨P,Ch',T⟩=(0,-1):=by
  rw [where_iff]
  refine ⟨⟨g.p1,g.p2,by rw [hl];exact g.c,g.t1,g.t2⟩,g.parts,fun x hx=>(hc x hx).1,fun t ht=>?_⟩
  rw [tableR_iff]
  refine ⟨g.tabs t ht, ?_⟩
  rw [holdsR_iff]
  refine ⟨?_,ptShort_zero _ _ fun p hp=>?_⟩
  · rw [List.any_eq_false]
    intro x hx
    change ¬ chLate (rn t) x=true
    rw [(hc x hx).2 _ (List.mem_map_of_mem ht)]
    simp
  · have:p∈P.map z0:=by rw [g.z];exact hp
    obtain ⟨q,_,rfl⟩:=List.mem_map.1 this
    rfl
theorem totGo_bd:∀ (L:List Run) (a:Int),0≤a→a≤9223372036854775807→0≤totGo L a∧totGo L a≤9223372036854775807
  | [],a,h0,h1=>⟨h0,h1⟩
  | r::l,a,h0,h1=>totGo_bd l _ (addR_big).1 (addR_big).2
theorem asks_ev {b id k : Nat} {L : List Int} {vp vc : V} {T : List (List Node)} {h : AH} {P : List Part} {Ch : List Chan} {K : V → AH → Prop} (g : Bare P Ch T) (hL : L.length < 4000000000) (hk : k ≤ L.length) (hb : b ≤ h.next) (hid : id < b) (hlo : h.lim ≤ id) (hg : h.get id = some (tapeB L k))
    (sp:Sl b h 11 vp (P.map Part.enc)) (sc:Sl b h 6 vc (Ch.map Chan.enc)) (dj:nilV vp=true∨nilV vc=true∨idV vp≠idV vc)
    (kk:∀ P' Ch' h' j,j≤L.length→whereR ⟨P',Ch',T⟩=(0,-1)→NmOk ⟨P',Ch',T⟩→P'.length=P.length→Ch'.length=Ch.length→h.next≤h'.next→h'.lim=h.lim→h'.get id=some (tapeB L j)→(∀ i,i<b→i≠id→h'.get i=h.get i)→Sl b h' 11 vp (P'.map Part.enc)→Sl b h' 6 vc (Ch'.map Chan.enc)→K (.agg [vp,vc,.fl 1 (T.map Tab.enc)]) h'):
    Cq tp i_Q24 [.p id 0 0,.agg [vp,vc,.fl 1 (T.map Tab.enc)]] h K:=by
  have pl:=sl_low sp
  have cl:=sl_low sc
  obtain ⟨plen,pbig,plt,plo,pget,pat,prow,pcell,pcells⟩:=sp.facts
  obtain ⟨clen,cbig,clt,clo,cget,cat,crow,ccell,ccells⟩:=sc.facts
  have ht2:=g.t2
  have ht1:=g.t1
  have hp2:=g.p2
  have hc2:=g.c
  have hRf:∀ r∈T.map rn,Frm r:=fun r hr=>by obtain ⟨t,_,rfl⟩:=List.mem_map.1 hr;exact ofR_frm
  have hC0:∀ x∈Ch,CO P.length (T.map rn) x:=fun x hx=>⟨(g.chans x hx).1,fun r _=>by unfold chLate;rw [(g.chans x hx).2];simp⟩
  refine Cq_raw_go fn_Q24 (by simp [t_Q24]) fun wf rp=>?_
  unfold t_Q24
  simp (disch:=omega)only[go_sem, *]
  have x0:Ext h ((h.alloc ⟨3,[[vp,vc,.fl 1 (T.map Tab.enc)]]⟩).alloc ⟨3,[[.ns,.ns,.ns]]⟩):=by (repeat (first | exact Ext.refl _ | refine Ext.alloc ?_ _ | (refine Ext.put ?_ _ _ ?_;rotate_left;(first | omega | (simp only [next_alloc,next_put];omega)))))
  have a0:Ask b id L vp vc T h ((h.alloc ⟨3,[[vp,vc,.fl 1 (T.map Tab.enc)]]⟩).alloc ⟨3,[[.ns,.ns,.ns]]⟩) P Ch k:=⟨by simp (disch:=omega)only[go_sem, *],rfl,(x0.get _ (by omega)).trans hg,hk,by simp (disch:=omega)only[go_sem, *],by simp (disch:=omega)only[go_sem, *],fun i hi _=>x0.get i (by omega),sp.ext x0,sc.ext x0,pl,cl,dj⟩
  clear plen pbig plt plo pget pat prow pcell pcells clen cbig clt clo cget cat crow ccell ccells sp sc x0
  refine asks_l hb hid hlo g.t2 a0 (by simp (disch:=omega)only[go_sem, *]) (by simp (disch:=omega)only[go_sem, *]) (by simp (disch:=omega)only[go_sem, *]) (by simp (disch:=omega)only[go_sem, *]) (by simp (disch:=omega)only[go_sem, *]) (by simp (disch:=omega)only[go_sem, *]) (by simp (disch:=omega)only[go_sem, *]) ?_
  clear a0
  intro e h1 w e0 e3 e4 e5 a sl
  have hbox:=a.box
  obtain ⟨clen,cbig,clt,clo,cget,cat,crow,ccell,ccells⟩:=a.sc.facts
  simp (disch:=omega)only[go_sem, *]
  refine asks_ch hb hid hlo hL hRf a sl hC0 (by simp (disch:=omega)only[go_sem, *]) (by simp (disch:=omega)only[go_sem, *]) (by simp (disch:=omega)only[go_sem, *]) (by simp (disch:=omega)only[go_sem, *]) (by simp (disch:=omega)only[go_sem, *]) (by simp (disch:=omega)only[go_sem, *]) (by simp (disch:=omega)only[go_sem, *]) ?_
  clear e0 e3 e4 e5 a sl hbox clen cbig clt clo cget cat crow ccell ccells e h1 hC0
  intro e h2 Ch' j e0 e3 e4 e5 a sl hC hCl
  obtain ⟨wlen,wbig,wlt,wlo,wget,wat,wrow,wcell,wcells⟩:=sl.facts
  have hr0:=frm_big (hRf _ (nth_mem (L:=T.map rn) (j:=0) (by simp;omega)))
  have hw0:(csOf h2 w)[elV w]?=some (RT.enc (nth (T.map rn) 0)):=by have:=wrow 0 (by simp;omega);simpa using this
  have hml:(T.map rn).length=T.length:=List.length_map ..
  simp (disch:=omega)only[go_sem, *]
  refine Pf.go (reftotal_ev hr0) (by simp only [go_sem]) fun _=>?_;simp (disch:=omega)only[go_sem, *]
  refine tnext_ev a.tape a.jl hL (by have:=a.lim;omega) ?_
  intro v j2 v0 v1 v2 hj2
  have a2:=a.tape2 hb hid hj2
  have sl2:Sl (h.next+2) (h2.put id (tapeB L j2)) 1 w ((T.map rn).map RT.enc):=sl_put sl _ _ ((sl_own sl).imp (fun x=>x) (fun x=>by omega))
  generalize h2.put id (tapeB L j2)=h3 at a2 sl2 ⊢
  clear wlen wbig wlt wlo wget wat wrow wcell wcells sl a
  simp (disch:=omega)only[go_sem, *]
  refine asks_per (h:=h) (id:=id) (w:=w) (pr:=totGo (nth (T.map rn) 0) 0) (k:=2+v) (totGo_bd _ _ (by omega) (by omega)).1 (totGo_bd _ _ (by omega) (by omega)).2 (by omega) (by simp (disch:=omega)only[go_sem, *]) (by simp (disch:=omega)only[go_sem, *]) (by simp (disch:=omega)only[go_sem, *]) (by simp (disch:=omega)only[go_sem, *]) (by simp (disch:=omega)only[go_sem, *]) (by simp (disch:=omega)only[go_sem, *]) ?_
  clear e0 e3 e4 e5 e
  intro e pr e0 e3 e4 e5 e15
  have hbox:=a2.box
  obtain ⟨plen,pbig,plt,plo,pget,pat,prow,pcell,pcells⟩:=a2.sp.facts
  simp (disch:=omega)only[go_sem, *]
  refine asks_pt (pr:=pr) hb hid hlo hL hRf a2 sl2 (by simp (disch:=omega)only[go_sem, *]) (by simp (disch:=omega)only[go_sem, *]) (by simp (disch:=omega)only[go_sem, *]) (by simp (disch:=omega)only[go_sem, *]) (by simp (disch:=omega)only[go_sem, *]) (by simp (disch:=omega)only[go_sem, *]) (by simp (disch:=omega)only[go_sem, *]) ?_
  clear e0 e3 e4 e5 e15 plen pbig plt plo pget pat prow pcell pcells hbox a2 sl2 e
  intro e h4 P' j4 e0 e3 e4 a hz
  have hnm:NmOk ⟨P',Ch',T⟩:=fun p hp=>by obtain ⟨q,hq,e⟩:=mem_z0 hz hp;rw [← e];exact g.nm q hq
  have hlen:=congrArg List.length hz
  simp only [List.length_map] at hlen
  have hbox:=a.box
  obtain ⟨plen,pbig,plt,plo,pget,pat,prow,pcell,pcells⟩:=a.sp.facts
  obtain ⟨clen,cbig,clt,clo,cget,cat,crow,ccell,ccells⟩:=a.sc.facts
  simp (disch:=omega)only[go_sem, *]
  refine Pf.look (refRight12_ev hnm) (.cons _ _ _ _ _ (.agg _ _ _ (.cons _ _ _ _ _ (a.sp.froze (fun _=>rfl) trivial (by omega)) (.cons _ _ _ _ _ (a.sc.froze (fun _=>rfl) trivial (by omega)) (.cons _ _ _ _ _ (.fl _ _ _) (.nil _))))) (.nil _)) rfl fun _=>?_
  have fin:∀ (P':List Part) h5,Ask b id L vp vc T h h5 P' Ch' j4→whereR ⟨P',Ch',T⟩=(0,-1)→P'.map z0=P.map z0→K (.agg [vp,vc,.fl 1 (T.map Tab.enc)]) (h5.put (h.next+1) ⟨3,[[vp,vc,.fl 1 (T.map Tab.enc)]]⟩):=by
    intro P' h5 a hw hz
    have n5:=a.next
    have hlen:=congrArg List.length hz
    simp only [List.length_map] at hlen
    have hnm:NmOk ⟨P',Ch',T⟩:=fun p hp=>by obtain ⟨q,hq,e⟩:=mem_z0 hz hp;rw [← e];exact g.nm q hq
    refine kk P' Ch' _ j4 a.jl hw hnm hlen hCl (by rw [next_put];omega) a.lim (by rw [get_put,gsel_ne (by omega)];exact a.tape) (fun i hi hn=>by rw [get_put,gsel_ne (by omega)];exact a.low i hi hn) (sl_put a.sp _ _ (a.pl.imp (fun x=>x) (fun x=>by omega))) (sl_put a.sc _ _ (a.cl.imp (fun x=>x) (fun x=>by omega)))
  have hres:=a.res
  have hlm:=a.lim
  simp (disch:=omega)only[go_sem, *]
  refine Wb_dec (fun hc=>?_) (fun hc=>?_)
  · simp (disch:=omega)only[go_sem, *]
    refine asks_z hb hid hlo a (by simp (disch:=omega)only[go_sem, *]) (by simp (disch:=omega)only[go_sem, *]) (by simp (disch:=omega)only[go_sem, *]) (by simp (disch:=omega)only[go_sem, *]) (by simp (disch:=omega)only[go_sem, *]) ?_
    clear e0 e3 e4 plen pbig plt plo pget pat prow pcell pcells clen cbig clt clo cget cat crow ccell ccells hbox hres hlm e
    intro e h5 e0 e3 e4 a
    rw [hz,g.z] at a
    have hbox:=a.box
    have hres:=a.res
    have hlm:=a.lim
    obtain ⟨plen,pbig,plt,plo,pget,pat,prow,pcell,pcells⟩:=a.sp.facts
    obtain ⟨clen,cbig,clt,clo,cget,cat,crow,ccell,ccells⟩:=a.sc.facts
    have f:=fin P h5 a (g.where_ hCl hC) rfl
    clear fin
    simp (disch:=omega)only[go_sem, *]
  · have f:=fin P' h4 a (where_zero (by omega)) hz
    clear fin
    simp (disch:=omega)only[go_sem, *]
end Go.Ab.T
namespace Go.Ab.T
open Go Go.Ab
set_option maxHeartbeats 2000000
def Dj (v w:V):Prop:=nilV v=true∨nilV w=true∨idV v≠idV w
structure CS (q id:Nat) (L:List Int) (h h':AH) (vp vc vt:V) (P:List Part) (Ch:List Chan) (T:List (List Node)) (j:Nat):Prop where
  q1:h.next+2≤q
  q2:q≤h'.next
  lim:h'.lim=h.lim
  tape:h'.get id=some (tapeB L j)
  jl:j≤L.length
  res:h'.get h.next=some ⟨3,[[.ns,.ns,.ns]]⟩
  box:h'.get (h.next+1)=some ⟨3,[[vp,vc,vt]]⟩
  low:∀ i,i<h.next→i≠id→h'.get i=h.get i
  sp:Sl (h.next+2) h' 11 vp (P.map Part.enc)
  sc:Sl (h.next+2) h' 6 vc (Ch.map Chan.enc)
  st:Sl (h.next+2) h' 1 vt (T.map Tab.enc)
  pl:nilV vp=true∨idV vp<q
  cl:nilV vc=true∨idV vc<q
  tl:nilV vt=true∨idV vt<q
  pc:Dj vp vc
  pt:Dj vp vt
  ct:Dj vc vt
section
variable {q id:Nat} {L:List Int} {h h' h2:AH} {vp vc vt:V} {P:List Part} {Ch:List Chan} {T:List (List Node)} {j:Nat}
theorem sl_keep {b sz q:Nat} {h h2:AH} {v:V} {R:List (List V)} (s:Sl b h sz v R) (hl:nilV v=true∨idV v<q) (hn:h.next≤h2.next) (g:∀ i,i<q→h2.get i=h.get i):Sl b h2 sz v R:=by
  rcases hl with hl | hl
  · rcases s with ⟨a,c⟩ | ⟨_,_,_,_,rfl,_⟩
    · exact .inl ⟨a,c⟩
    · cases hl
  · exact s.same hn (fun _=>g _ hl)
theorem CS.keep (a:CS q id L h h' vp vc vt P Ch T j) (hid:id<h.next) (hn:h'.next≤h2.next) (hl:h2.lim=h'.lim) (g:∀ i,i<q→h2.get i=h'.get i):CS q id L h h2 vp vc vt P Ch T j:=by
  have q1:=a.q1;have q2:=a.q2
  exact ⟨q1,by omega,hl.trans a.lim,(g _ (by omega)).trans a.tape,a.jl,(g _ (by omega)).trans a.res,(g _ (by omega)).trans a.box,fun i hi hn=>(g i (by omega)).trans (a.low i hi hn),sl_keep a.sp a.pl hn g,sl_keep a.sc a.cl hn g,sl_keep a.st a.tl hn g,a.pl,a.cl,a.tl,a.pc,a.pt,a.ct⟩
theorem CS.ext (a:CS q id L h h' vp vc vt P Ch T j) (hid:id<h.next) (x:Ext h' h2):CS q id L h h2 vp vc vt P Ch T j:=
  a.keep hid x.next x.lim (fun i hi=>x.get i (by have:=a.q2;omega))
theorem CS.up {q':Nat} (a:CS q id L h h' vp vc vt P Ch T j) (h1:q≤q') (h2:q'≤h'.next):CS q' id L h h' vp vc vt P Ch T j:=
  ⟨Nat.le_trans a.q1 h1,h2,a.lim,a.tape,a.jl,a.res,a.box,a.low,a.sp,a.sc,a.st,a.pl.imp (fun x=>x) (fun x=>by omega),a.cl.imp (fun x=>x) (fun x=>by omega),a.tl.imp (fun x=>x) (fun x=>by omega),a.pc,a.pt,a.ct⟩
theorem CS.tape2 {j2:Nat} (a:CS q id L h h' vp vc vt P Ch T j) (hid:id<h.next) (hj:j2≤L.length):CS q id L h (h'.put id (tapeB L j2)) vp vc vt P Ch T j2:=by
  have q1:=a.q1;have q2:=a.q2
  exact ⟨q1,q2,a.lim,by rw [get_put,gsel_eq rfl],hj,by rw [get_put,gsel_ne (by omega)];exact a.res,by rw [get_put,gsel_ne (by omega)];exact a.box,fun i hi hn=>by rw [get_put,gsel_ne hn];exact a.low i hi hn,
    sl_put a.sp _ _ ((sl_own a.sp).imp (fun x=>x) (fun x=>by omega)),sl_put a.sc _ _ ((sl_own a.sc).imp (fun x=>x) (fun x=>by omega)),sl_put a.st _ _ ((sl_own a.st).imp (fun x=>x) (fun x=>by omega)),a.pl,a.cl,a.tl,a.pc,a.pt,a.ct⟩
theorem dj_grown {b:Nat} {v w x:V} {h1 h2:AH} (g:Grown b h1 x v h2) (d:Dj x w) (hl:nilV w=true∨idV w<h1.next):Dj v w:=by
  rcases g.own with k | ⟨k1,k2⟩ | k
  · exact .inl k
  · rcases d with d | d | d
    · rw [d] at k1;cases k1
    · exact .inr (.inl d)
    · exact .inr (.inr (by rw [k2];exact d))
  · rcases hl with hl | hl
    · exact .inr (.inl hl)
    · exact .inr (.inr (by omega))
theorem dj_sym {v w:V} (d:Dj v w):Dj w v:=by
  rcases d with d | d | d
  · exact .inr (.inl d)
  · exact .inl d
  · exact .inr (.inr (Ne.symm d))
theorem sl_grown {b b' sz:Nat} {h1 h2:AH} {x v w:V} {R:List (List V)} (s:Sl b h1 sz w R) (g:Grown b' h1 x v h2) (d:Dj x w):Sl b h2 sz w R:=by
  rcases s with hs | ⟨i,el,cap,cs,rfl,hg,a1,a2,a3,a4,a5,a6⟩
  · exact .inl hs
  · refine .inr ⟨i,el,cap,cs,rfl, ?_,a1,a2,a3,Nat.lt_of_lt_of_le a4 g.next,a5,a6⟩
    rw [g.get i a4];exact hg
    rcases d with d | d | d
    · exact .inl d
    · cases d
    · exact .inr (Ne.symm d)
theorem grown_low {b:Nat} {h1 h2:AH} {x v:V} (g:Grown b h1 x v h2) (hx:nilV x=true∨b≤idV x) (hb:b≤h1.next):∀ i,i<b→h2.get i=h1.get i:=fun i hi=>g.get i (by omega) (hx.imp (fun x=>x) (fun x=>by omega))
theorem CS.grow_p {h1 h3 : AH} {v : V} {x : Part} (a : CS q id L h h' vp vc vt P Ch T j) (hid : id < h.next) (e : Ext h' h1) (s : Sl (h.next + 2) h3 11 v (P.map Part.enc ++ [x.enc])) (g : Grown (h.next + 2) h1 vp v h3) :
    CS h3.next id L h (h3.put (h.next+1) ⟨3,[[v,vc,vt]]⟩) v vc vt (P++[x]) Ch T j:=by
  have q1:=a.q1;have q2:=a.q2;have n1:=e.next;have n2:=g.next
  have gl:=grown_low g (sl_own a.sp) (by omega)
  have a1:=a.ext hid e
  have m:=sl_low s
  refine ⟨by omega,Nat.le_refl _,g.lim.trans a1.lim,by rw [get_put,gsel_ne (by omega)];exact (gl _ (by omega)).trans a1.tape,a.jl,by rw [get_put,gsel_ne (by omega)];exact (gl _ (by omega)).trans a1.res,by rw [get_put,gsel_eq rfl],fun i hi hn=>by rw [get_put,gsel_ne (by omega)];exact (gl i (by omega)).trans (a1.low i hi hn), ?_, ?_, ?_,m,a.cl.imp (fun x=>x) (fun x=>by omega),a.tl.imp (fun x=>x) (fun x=>by omega),dj_grown g a.pc (a.cl.imp (fun x=>x) (fun x=>by omega)),dj_grown g a.pt (a.tl.imp (fun x=>x) (fun x=>by omega)),a.ct⟩
  · refine sl_put ?_ _ _ ((sl_own s).imp (fun x=>x) (fun x=>by omega));simpa using s
  · exact sl_put (sl_grown a1.sc g a.pc) _ _ ((sl_own a.sc).imp (fun x=>x) (fun x=>by omega))
  · exact sl_put (sl_grown a1.st g a.pt) _ _ ((sl_own a.st).imp (fun x=>x) (fun x=>by omega))
theorem CS.grow_c {h1 h3 : AH} {v : V} {x : Chan} (a : CS q id L h h' vp vc vt P Ch T j) (hid : id < h.next) (e : Ext h' h1) (s : Sl (h.next + 2) h3 6 v (Ch.map Chan.enc ++ [x.enc])) (g : Grown (h.next + 2) h1 vc v h3) :
    CS h3.next id L h (h3.put (h.next+1) ⟨3,[[vp,v,vt]]⟩) vp v vt P (Ch++[x]) T j:=by
  have q1:=a.q1;have q2:=a.q2;have n1:=e.next;have n2:=g.next
  have gl:=grown_low g (sl_own a.sc) (by omega)
  have a1:=a.ext hid e
  have m:=sl_low s
  refine ⟨by omega,Nat.le_refl _,g.lim.trans a1.lim,by rw [get_put,gsel_ne (by omega)];exact (gl _ (by omega)).trans a1.tape,a.jl,by rw [get_put,gsel_ne (by omega)];exact (gl _ (by omega)).trans a1.res,by rw [get_put,gsel_eq rfl],fun i hi hn=>by rw [get_put,gsel_ne (by omega)];exact (gl i (by omega)).trans (a1.low i hi hn), ?_, ?_, ?_,a.pl.imp (fun x=>x) (fun x=>by omega),m,a.tl.imp (fun x=>x) (fun x=>by omega),dj_sym (dj_grown g (dj_sym a.pc) (a.pl.imp (fun x=>x) (fun x=>by omega))),a.pt,dj_grown g a.ct (a.tl.imp (fun x=>x) (fun x=>by omega))⟩
  · exact sl_put (sl_grown a1.sp g (dj_sym a.pc)) _ _ ((sl_own a.sp).imp (fun x=>x) (fun x=>by omega))
  · refine sl_put ?_ _ _ ((sl_own s).imp (fun x=>x) (fun x=>by omega));simpa using s
  · exact sl_put (sl_grown a1.st g a.ct) _ _ ((sl_own a.st).imp (fun x=>x) (fun x=>by omega))
theorem CS.grow_t {h1 h3 : AH} {v : V} {x : List Node} (a : CS q id L h h' vp vc vt P Ch T j) (hid : id < h.next) (e : Ext h' h1) (s : Sl (h.next + 2) h3 1 v (T.map Tab.enc ++ [Tab.enc x])) (g : Grown (h.next + 2) h1 vt v h3) :
    CS h3.next id L h (h3.put (h.next+1) ⟨3,[[vp,vc,v]]⟩) vp vc v P Ch (T++[x]) j:=by
  have q1:=a.q1;have q2:=a.q2;have n1:=e.next;have n2:=g.next
  have gl:=grown_low g (sl_own a.st) (by omega)
  have a1:=a.ext hid e
  have m:=sl_low s
  refine ⟨by omega,Nat.le_refl _,g.lim.trans a1.lim,by rw [get_put,gsel_ne (by omega)];exact (gl _ (by omega)).trans a1.tape,a.jl,by rw [get_put,gsel_ne (by omega)];exact (gl _ (by omega)).trans a1.res,by rw [get_put,gsel_eq rfl],fun i hi hn=>by rw [get_put,gsel_ne (by omega)];exact (gl i (by omega)).trans (a1.low i hi hn), ?_, ?_, ?_,a.pl.imp (fun x=>x) (fun x=>by omega),a.cl.imp (fun x=>x) (fun x=>by omega),m,a.pc,dj_sym (dj_grown g (dj_sym a.pt) (a.pl.imp (fun x=>x) (fun x=>by omega))),dj_sym (dj_grown g (dj_sym a.ct) (a.cl.imp (fun x=>x) (fun x=>by omega)))⟩
  · exact sl_put (sl_grown a1.sp g (dj_sym a.pt)) _ _ ((sl_own a.sp).imp (fun x=>x) (fun x=>by omega))
  · exact sl_put (sl_grown a1.sc g (dj_sym a.ct)) _ _ ((sl_own a.sc).imp (fun x=>x) (fun x=>by omega))
  · refine sl_put ?_ _ _ ((sl_own s).imp (fun x=>x) (fun x=>by omega));simpa using s
end
end Go.Ab.T
namespace Go.Ab.T
open Go Go.Ab
set_option maxHeartbeats 4000000
section
variable {q id:Nat} {L:List Int} {h h' h2:AH} {vp vc vt:V} {P:List Part} {Ch:List Chan} {T:List (List Node)} {j:Nat}
theorem cfg_procs {K : Ex → Env → AH → Prop} {e : Env} {k n : Int} {i : Nat} {nm : ByteArray} {sc st : Bool} (hid : id < h.next) (hlo : h.lim ≤ id) (hL : L.length < 4000000000) (hk0 : 0 ≤ k) (hk1 : k ≤ 1) (a : CS q id L h h' vp vc vt P Ch T j) (hq : q < h'.next)
    (hb:h'.get q=some ⟨11,[[.s nm,.i .i64 0,.i .i64 0,.b sc,.b st,.ns,.i .i64 0,.i .i64 0,.i .i64 0,.i .i64 0,.i .i64 0]]⟩)
    (e0:e 0=.p id 0 0) (e2:e 2=.p h.next 0 0) (e3:e 3=.p (h.next+1) 0 0) (e4:e 4=.i .i64 n) (e5:e 5=.i .i64 i) (e6:e 6=.p q 0 0) (e7:e 7=.i .i64 k)
    (kk:∀ e' h' j vr pr,e' 0=.p id 0 0→e' 2=.p h.next 0 0→e' 3=.p (h.next+1) 0 0→e' 4=.i .i64 n→e' 5=.i .i64 i→e' 6=.p q 0 0→CS q id L h h' vp vc vt P Ch T j→q<h'.next→h'.get q=some ⟨11,[[.s nm,.i .i64 0,.i .i64 0,.b sc,.b st,vr,.i .i64 0,.i .i64 0,.i .i64 0,.i .i64 0,.i .i64 0]]⟩→Sl (q+1) h' 2 vr (pr.map Proc.enc)→procsB pr=true→pr.length≤2→K (.ex 2) e' h'):ZC tp (.loop Q1_10) e h' K:=by
  refine ZC_loop_n (fun n' e hh=>∃ (k':Int) (vr:V) (pr:List Proc) (j:Nat),n'=(k'+1).toNat∧e 0=.p id 0 0∧e 2=.p h.next 0 0∧e 3=.p (h.next+1) 0 0∧e 4=.i .i64 n∧e 5=.i .i64 i∧e 6=.p q 0 0∧e 7=.i .i64 k'∧-1≤k'∧CS q id L h hh vp vc vt P Ch T j∧q<hh.next∧hh.get q=some ⟨11,[[.s nm,.i .i64 0,.i .i64 0,.b sc,.b st,vr,.i .i64 0,.i .i64 0,.i .i64 0,.i .i64 0,.i .i64 0]]⟩∧Sl (q+1) hh 2 vr (pr.map Proc.enc)∧(∀ x∈pr,procB x=true)∧(pr.length:Int)+k'=k) ?_ _ _ _ ⟨k,.ns,[],j,rfl,e0,e2,e3,e4,e5,e6,e7,by omega,a,hq,hb,Sl.nil _ _ _,(fun x hx=>by cases hx),by simp⟩
  clear e0 e2 e3 e4 e5 e6 e7 e a hq hb
  rintro n' e hh ⟨k',vr,pr,j,rfl,e0,e2,e3,e4,e5,e6,e7,hk',a,hq,hb,sr,hpr,hlen⟩ ih
  have q1:=a.q1
  have hlm:=a.lim
  have hro:=sl_own sr
  obtain ⟨rlen,rbig,rlt,rlo,rget,rat,rrow,rcell,rcells⟩:=sr.facts
  have hsv:=Sl.sameV sr
  clear rlt rlo rget rat rrow rlen rbig
  rw [ZC_unf Q1_10.eq_1]
  simp (disch:=omega)only[go_sem, *]
  refine Wb_dec (fun hc=>?_) (fun hc=>?_)
  · simp (disch:=omega)only[go_sem, *]
    refine tnext_ev a.tape a.jl hL (by omega) ?_
    intro v j2 v0 v1 v2 hj2
    have a2:=a.tape2 hid hj2
    have sr2:=sl_put sr id (tapeB L j2) (hro.imp (fun x=>x) (fun x=>by omega))
    have hb2:(hh.put id (tapeB L j2)).get q=some ⟨11,[[.s nm,.i .i64 0,.i .i64 0,.b sc,.b st,vr,.i .i64 0,.i .i64 0,.i .i64 0,.i .i64 0,.i .i64 0]]⟩:=by rw [get_put,gsel_ne (by omega)];exact hb
    have hq2:q<(hh.put id (tapeB L j2)).next:=hq
    generalize hh.put id (tapeB L j2)=h2 at a2 sr2 hb2 hq2 ⊢
    clear a sr hb hq hlm
    have hlm:=a2.lim
    simp (disch:=omega)only[go_sem, *]
    refine tnext_ev a2.tape a2.jl hL (by omega) ?_
    intro v' j3 v0' v1' v2' hj3
    have a3:=a2.tape2 hid hj3
    have sr3:=sl_put sr2 id (tapeB L j3) (hro.imp (fun x=>x) (fun x=>by omega))
    have hb3:(h2.put id (tapeB L j3)).get q=some ⟨11,[[.s nm,.i .i64 0,.i .i64 0,.b sc,.b st,vr,.i .i64 0,.i .i64 0,.i .i64 0,.i .i64 0,.i .i64 0]]⟩:=by rw [get_put,gsel_ne (by omega)];exact hb2
    have hq3:q<(h2.put id (tapeB L j3)).next:=hq2
    generalize h2.put id (tapeB L j3)=h3 at a3 sr3 hb3 hq3 ⊢
    clear a2 sr2 hb2 hq2 hlm
    have hlm:=a3.lim
    simp (disch:=omega)only[go_sem, *]
    refine app_rule (sr3.alloc _) (by simp (disch:=omega)only[go_sem, *]<;>omega) (by simp (disch:=omega)only[go_sem, *]<;>omega) (by simp;omega) ?_
    intro w h4 s4 g4
    have l4:=g4.lim
    have n4:=g4.next
    have gl:=grown_low g4 hro (by simp (disch:=omega)only[go_sem, *]<;>omega)
    have c4:=g4.cell
    have c4s:=g4.cells
    have x3:Ext h3 (h3.alloc ⟨2,[(⟨4*v,v'⟩:Proc).enc]⟩):=(Ext.refl _).alloc _
    simp only [Proc.enc,next_alloc,lim_alloc] at l4 n4 x3 gl
    have hb4:h4.get q=some ⟨11,[[.s nm,.i .i64 0,.i .i64 0,.b sc,.b st,vr,.i .i64 0,.i .i64 0,.i .i64 0,.i .i64 0,.i .i64 0]]⟩:=(gl q (by omega)).trans ((x3.get q (by omega)).trans hb3)
    have hsw:=Sl.sameV s4
    have a5:CS q id L h (h4.put q ⟨11,[[.s nm,.i .i64 0,.i .i64 0,.b sc,.b st,w,.i .i64 0,.i .i64 0,.i .i64 0,.i .i64 0,.i .i64 0]]⟩) vp vc vt P Ch T j3:=a3.keep hid (by rw [next_put];omega) (by rw [lim_put];omega) (fun i hi=>by rw [get_put,gsel_ne (by omega),gl i (by omega)];exact x3.get i (by omega))
    have s5:Sl (q+1) (h4.put q ⟨11,[[.s nm,.i .i64 0,.i .i64 0,.b sc,.b st,w,.i .i64 0,.i .i64 0,.i .i64 0,.i .i64 0,.i .i64 0]]⟩) 2 w ((pr++[(⟨4*v,v'⟩:Proc)]).map Proc.enc):=sl_put (by simpa [Proc.enc] using s4) _ _ ((sl_own s4).imp (fun x=>x) (fun x=>by omega))
    have hpr5:∀ x∈pr++[(⟨4*v,v'⟩:Proc)],procB x=true:=fun x hx=>by
      rcases List.mem_append.1 hx with hx | hx
      · exact hpr x hx
      · rw [List.mem_singleton] at hx;subst hx;simp only [procB];simp;omega
    clear hpr s4
    simp (disch:=omega)only[go_sem, *]
    refine ih _ _ _ ?_ ⟨k' - 1,w,pr++[⟨4*v,v'⟩],j3,rfl, ?_⟩
    · omega
    · simp (disch:=omega)only[go_sem, *]
      ((repeat' refine And.intro ?_ ?_)<;>first | omega | assumption | (exact a5) | (exact s5) | (exact hpr5) | ((simp only [List.length_append,List.length_cons,List.length_nil];omega)))
  · simp (disch:=omega)only[go_sem, *]
    have hpl:procsB pr=true:=by
      unfold procsB
      simp only [Bool.and_eq_true,List.all_eq_true,decide_eq_true_eq]
      exact ⟨hpr,by omega⟩
    exact kk _ hh j vr pr e0 e2 e3 e4 e5 e6 a hq hb sr hpl (by omega)
end
end Go.Ab.T
namespace Go.Ab.T
open Go Go.Ab
set_option maxHeartbeats 4000000
theorem tab5 {v:Int} (h0:0≤v) (h5:v<5):∃ z:Int,0≤z∧z≤2∧[[V.i .i64 0],[.i .i64 1],[.i .i64 0],[.i .i64 2],[.i .i64 1]][v.toNat]?=some [.i .i64 z]:=by
  have:v=0∨v=1∨v=2∨v=3∨v=4:=by omega
  rcases this with rfl | rfl | rfl | rfl | rfl
  · exact ⟨0,by omega,by omega,rfl⟩
  · exact ⟨1,by omega,by omega,rfl⟩
  · exact ⟨0,by omega,by omega,rfl⟩
  · exact ⟨2,by omega,by omega,rfl⟩
  · exact ⟨1,by omega,by omega,rfl⟩
section
variable {q id:Nat} {L:List Int} {h h' h2:AH} {vp vc vt:V} {P:List Part} {Ch:List Chan} {T:List (List Node)} {j:Nat}
theorem cfg_health {K : Ex → Env → AH → Prop} {e : Env} {n : Int} {i : Nat} {nm : ByteArray} {sc st : Bool} {vr : V} {pr : List Proc} (hid : id < h.next) (hlo : h.lim ≤ id) (hL : L.length < 4000000000) (a : CS q id L h h' vp vc vt P Ch T j) (hq : q < h'.next)
    (hb:h'.get q=some ⟨11,[[.s nm,.i .i64 0,.i .i64 0,.b sc,.b st,vr,.i .i64 0,.i .i64 0,.i .i64 0,.i .i64 0,.i .i64 0]]⟩) (sr:Sl (q+1) h' 2 vr (pr.map Proc.enc)) (hpr:procsB pr=true) (hpl:pr.length≤2)
    (e0:e 0=.p id 0 0) (e2:e 2=.p h.next 0 0) (e3:e 3=.p (h.next+1) 0 0) (e4:e 4=.i .i64 n) (e5:e 5=.i .i64 i) (e6:e 6=.p q 0 0) (e50:e 50=.i .i64 0)
    (kk:∀ e' h' j (hs:Nat→Int),(∀ i,0≤hs i∧hs i≤2)→e' 0=.p id 0 0→e' 2=.p h.next 0 0→e' 3=.p (h.next+1) 0 0→e' 4=.i .i64 n→e' 5=.i .i64 i→e' 6=.p q 0 0→CS q id L h h' vp vc vt P Ch T j→q<h'.next→h'.get q=some ⟨11,[(⟨nm,0,0,sc,st,pr,hs 0,hs 1,hs 2,hs 3,hs 4⟩:Part).enc]⟩→K (.ex 4) e' h'):ZC tp (.loop Q1_16) e h' K:=by
  have q1:=a.q1;have q2:=a.q2
  have hp1:0<pr.length:=by
    unfold procsB at hpr
    simp only [Bool.and_eq_true,decide_eq_true_eq] at hpr
    omega
  obtain ⟨rlen,rbig,rlt,rlo,rget,rat,rrow,rcell,rcells⟩:=sr.facts
  have l1:=rlt hp1
  have l2:=rlo hp1
  refine ZC_fix [0,2,3,4,5,6,50] q (idV vr) 11 _ [.s nm,.i .i64 0,.i .i64 0,.b sc,.b st,.fl 2 (pr.map Proc.enc),.i .i64 0,.i .i64 0,.i .i64 0,.i .i64 0,.i .i64 0] (by omega) hb ?_ ?_ ?_
  · exact .cons _ _ _ _ _ (.cons _ _ _ _ _ (.z _ _ (.s _)) (.cons _ _ _ _ _ (.z _ _ (.i _ _)) (.cons _ _ _ _ _ (.z _ _ (.i _ _)) (.cons _ _ _ _ _ (.z _ _ (.b _)) (.cons _ _ _ _ _ (.z _ _ (.b _)) (.cons _ _ _ _ _ (sr.froze (fun _=>rfl) rfl (by omega)) (.cons _ _ _ _ _ (.z _ _ (.i _ _)) (.cons _ _ _ _ _ (.z _ _ (.i _ _)) (.cons _ _ _ _ _ (.z _ _ (.i _ _)) (.cons _ _ _ _ _ (.z _ _ (.i _ _)) (.cons _ _ _ _ _ (.z _ _ (.i _ _)) (.nil _)))))))))))) (.nil _)
  · intro t ht
    simp only [List.mem_cons,List.not_mem_nil,or_false] at ht
    rcases ht with rfl | rfl | rfl | rfl | rfl | rfl | rfl
    · rw [e0];exact .p _ _ _ _ (by omega)
    · rw [e2];exact .p _ _ _ _ (by omega)
    · rw [e3];exact .p _ _ _ _ (by omega)
    · rw [e4];exact .z _ _ (.i _ _)
    · rw [e5];exact .z _ _ (.i _ _)
    · rw [e6];exact .p _ _ _ _ (by omega)
    · rw [e50];exact .z _ _ (.i _ _)
  intro e' he'
  rw [← he' 0 (by simp)] at e0
  rw [← he' 2 (by simp)] at e2
  rw [← he' 3 (by simp)] at e3
  rw [← he' 4 (by simp)] at e4
  rw [← he' 5 (by simp)] at e5
  rw [← he' 6 (by simp)] at e6
  rw [← he' 50 (by simp)] at e50
  have hb1:((h'.kill (idV vr)).put q ⟨11,[[.s nm,.i .i64 0,.i .i64 0,.b sc,.b st,.fl 2 (pr.map Proc.enc),.i .i64 0,.i .i64 0,.i .i64 0,.i .i64 0,.i .i64 0]]⟩).get q=some ⟨11,[(⟨nm,0,0,sc,st,pr,0,0,0,0,0⟩:Part).enc]⟩:=by rw [get_put,gsel_eq rfl];rfl
  have a1:CS q id L h ((h'.kill (idV vr)).put q ⟨11,[[.s nm,.i .i64 0,.i .i64 0,.b sc,.b st,.fl 2 (pr.map Proc.enc),.i .i64 0,.i .i64 0,.i .i64 0,.i .i64 0,.i .i64 0]]⟩) vp vc vt P Ch T j:=a.keep hid (Nat.le_refl _) rfl (fun i hi=>by rw [get_put,gsel_ne (by omega),get_kill,gsel_ne (by omega)])
  have hq1:q<((h'.kill (idV vr)).put q ⟨11,[[.s nm,.i .i64 0,.i .i64 0,.b sc,.b st,.fl 2 (pr.map Proc.enc),.i .i64 0,.i .i64 0,.i .i64 0,.i .i64 0,.i .i64 0]]⟩).next:=hq
  generalize (h'.kill (idV vr)).put q ⟨11,[[.s nm,.i .i64 0,.i .i64 0,.b sc,.b st,.fl 2 (pr.map Proc.enc),.i .i64 0,.i .i64 0,.i .i64 0,.i .i64 0,.i .i64 0]]⟩=h1 at a1 hb1 hq1 ⊢
  clear rlen rbig rlt rlo rget rat rrow rcell rcells l1 l2 sr hb a hq q2 he'
  refine ZC_loop_n (fun n' e hh=>∃ (k j:Nat) (hs:Nat→Int),n'=5 - k∧e 0=.p id 0 0∧e 2=.p h.next 0 0∧e 3=.p (h.next+1) 0 0∧e 4=.i .i64 n∧e 5=.i .i64 i∧e 6=.p q 0 0∧e 50=.i .i64 k∧k≤5∧CS q id L h hh vp vc vt P Ch T j∧q<hh.next∧hh.get q=some ⟨11,[(⟨nm,0,0,sc,st,pr,hs 0,hs 1,hs 2,hs 3,hs 4⟩:Part).enc]⟩∧∀ i,0≤hs i∧hs i≤2) ?_ _ _ _ ⟨0,j,fun _=>0,rfl,e0,e2,e3,e4,e5,e6,e50,by omega,a1,hq1,hb1,fun _=>⟨by simp,by simp⟩⟩
  clear e0 e2 e3 e4 e5 e6 e50 a1 hq1 hb1
  rintro n' e hh ⟨k,j,hs,rfl,e0,e2,e3,e4,e5,e6,e50,hk,a,hq,hb,hhs⟩ ih
  have q2:=a.q2
  have hlm:=a.lim
  rw [ZC_unf Q1_16.eq_1]
  simp (disch:=omega)only[go_sem, *]
  refine Wb_dec (fun hc=>?_) (fun hc=>?_)
  · simp (disch:=omega)only[go_sem, *]
    have x1:Ext hh (hh.alloc ⟨1,[[V.i .i64 0],[.i .i64 1],[.i .i64 0],[.i .i64 2],[.i .i64 1]]⟩):=(Ext.refl _).alloc _
    have a1:=a.ext hid x1
    refine tnext_ev a1.tape a1.jl hL (by rw [lim_alloc];omega) ?_
    intro v j2 v0 v1 v2 hj2
    obtain ⟨z,z0,z2,hz⟩:=tab5 v0 (by omega)
    have a2:=a1.tape2 hid hj2
    have hb2:((hh.alloc ⟨1,[[V.i .i64 0],[.i .i64 1],[.i .i64 0],[.i .i64 2],[.i .i64 1]]⟩).put id (tapeB L j2)).get q=some ⟨11,[(⟨nm,0,0,sc,st,pr,hs 0,hs 1,hs 2,hs 3,hs 4⟩:Part).enc]⟩:=by rw [get_put,gsel_ne (by omega),get_alloc,gsel_ne (by omega)];exact hb
    have hl2:((hh.alloc ⟨1,[[V.i .i64 0],[.i .i64 1],[.i .i64 0],[.i .i64 2],[.i .i64 1]]⟩).put id (tapeB L j2)).get hh.next=some ⟨1,[[V.i .i64 0],[.i .i64 1],[.i .i64 0],[.i .i64 2],[.i .i64 1]]⟩:=by rw [get_put,gsel_ne (by omega),get_alloc,gsel_eq rfl]
    have hn2:((hh.alloc ⟨1,[[V.i .i64 0],[.i .i64 1],[.i .i64 0],[.i .i64 2],[.i .i64 1]]⟩).put id (tapeB L j2)).next=hh.next+1:=rfl
    generalize (hh.alloc ⟨1,[[V.i .i64 0],[.i .i64 1],[.i .i64 0],[.i .i64 2],[.i .i64 1]]⟩).put id (tapeB L j2)=h3 at a2 hb2 hl2 hn2 ⊢
    clear x1 a1 a hb hlm q2
    have hlm:=a2.lim
    simp only [Part.enc] at hb2
    have h15:k=0∨k=1∨k=2∨k=3∨k=4:=by omega
    have fin:∀ hs':Nat→Int,(∀ i,hs' i=hs i∨hs' i=z)→CS q id L h (h3.put q ⟨11,[(⟨nm,0,0,sc,st,pr,hs' 0,hs' 1,hs' 2,hs' 3,hs' 4⟩:Part).enc]⟩) vp vc vt P Ch T j2∧∀ i,0≤hs' i∧hs' i≤2:=fun hs' hh'=>⟨a2.keep hid (Nat.le_refl _) rfl (fun i hi=>by rw [get_put,gsel_ne (by omega)]),fun i=>by have:=hh' i;have:=hhs i;omega⟩
    have hs1:=fun k=>fin (fun i=>if i=k then z else hs i) (fun i=>by by_cases e:i=k<;>simp [e])
    clear fin a2
    simp only [Part.enc] at hs1
    rcases h15 with rfl | rfl | rfl | rfl | rfl
    · have hs2:=hs1 0
      clear hs1
      simp (disch:=omega)only[go_sem, *]
      refine ih _ _ _ ?_ ⟨1,j2,fun i=>if i=0 then z else hs i,rfl, ?_⟩
      · omega
      · simp only [Nat.reduceEqDiff,reduceIte] at hs2
        simp (disch:=omega)only[go_sem, *]
        ((repeat' refine And.intro ?_ ?_)<;>first | omega | assumption | (exact hs2.1) | (exact hs2.2) | (exact fun _=>trivial) | (rfl))
    · have hs2:=hs1 1
      clear hs1
      simp (disch:=omega)only[go_sem, *]
      refine ih _ _ _ ?_ ⟨2,j2,fun i=>if i=1 then z else hs i,rfl, ?_⟩
      · omega
      · simp only [Nat.reduceEqDiff,reduceIte] at hs2
        simp (disch:=omega)only[go_sem, *]
        ((repeat' refine And.intro ?_ ?_)<;>first | omega | assumption | (exact hs2.1) | (exact hs2.2) | (exact fun _=>trivial) | (rfl))
    · have hs2:=hs1 2
      clear hs1
      simp (disch:=omega)only[go_sem, *]
      refine ih _ _ _ ?_ ⟨3,j2,fun i=>if i=2 then z else hs i,rfl, ?_⟩
      · omega
      · simp only [Nat.reduceEqDiff,reduceIte] at hs2
        simp (disch:=omega)only[go_sem, *]
        ((repeat' refine And.intro ?_ ?_)<;>first | omega | assumption | (exact hs2.1) | (exact hs2.2) | (exact fun _=>trivial) | (rfl))
    · have hs2:=hs1 3
      clear hs1
      simp (disch:=omega)only[go_sem, *]
      refine ih _ _ _ ?_ ⟨4,j2,fun i=>if i=3 then z else hs i,rfl, ?_⟩
      · omega
      · simp only [Nat.reduceEqDiff,reduceIte] at hs2
        simp (disch:=omega)only[go_sem, *]
        ((repeat' refine And.intro ?_ ?_)<;>first | omega | assumption | (exact hs2.1) | (exact hs2.2) | (exact fun _=>trivial) | (rfl))
    · have hs2:=hs1 4
      clear hs1
      simp (disch:=omega)only[go_sem, *]
      refine ih _ _ _ ?_ ⟨5,j2,fun i=>if i=4 then z else hs i,rfl, ?_⟩
      · omega
      · simp only [Nat.reduceEqDiff,reduceIte] at hs2
        simp (disch:=omega)only[go_sem, *]
        ((repeat' refine And.intro ?_ ?_)<;>first | omega | assumption | (exact hs2.1) | (exact hs2.2) | (exact fun _=>trivial) | (rfl))
  · simp (disch:=omega)only[go_sem, *]
    exact kk _ hh j hs hhs e0 e2 e3 e4 e5 e6 a hq hb
end
end Go.Ab.T
namespace Go.Ab.T
open Go Go.Ab
set_option maxHeartbeats 4000000
@[irreducible] def nmOf (i:Nat):ByteArray:=⟨#[112]⟩++Utf8.encode (97+(i:Int))
theorem nmOf_val {i:Nat} (h:i<4):binV .add (.s ⟨#[112]⟩) (.s (Utf8.encode (97+(i:Int))))=some (.s (nmOf i)):=by
  unfold nmOf
  refine binS_add ?_
  match i,h with
  | 0,_=>decide
  | 1,_=>decide
  | 2,_=>decide
  | 3,_=>decide
theorem nmOf_ok {i:Nat} (h:i<4):nameB (nmOf i)=true:=by
  unfold nameB nmOf
  match i,h with
  | 0,_=>decide
  | 1,_=>decide
  | 2,_=>decide
  | 3,_=>decide
theorem nmOf_ne {i j:Nat} (hi:i<4) (hj:j<4) (h:i≠j):nmOf i≠nmOf j:=by
  unfold nmOf
  match i,j,hi,hj,h with
  | 0,0,_,_,h | 1,1,_,_,h | 2,2,_,_,h | 3,3,_,_,h=>exact absurd rfl h
  | 0,1,_,_,_ | 0,2,_,_,_ | 0,3,_,_,_ | 1,0,_,_,_ | 1,2,_,_,_ | 1,3,_,_,_ | 2,0,_,_,_ | 2,1,_,_,_ | 2,3,_,_,_ | 3,0,_,_,_ | 3,1,_,_,_ | 3,2,_,_,_=>decide
def PO (p:Part) (k:Nat):Prop:=p.name=nmOf k∧partB p=true∧z0 p=p
section
variable {id:Nat} {L:List Int} {h h' h2:AH} {T:List (List Node)} {j:Nat}
theorem cfg_parts {K : Ex → Env → AH → Prop} {e : Env} {n : Nat} (hid : id < h.next) (hlo : h.lim ≤ id) (hL : L.length < 4000000000) (hn : n ≤ 4) (a : CS h'.next id L h h' .ns .ns .ns [] [] [] j)
    (e0:e 0=.p id 0 0) (e2:e 2=.p h.next 0 0) (e3:e 3=.p (h.next+1) 0 0) (e4:e 4=.i .i64 n) (e5:e 5=.i .i64 0)
    (kk:∀ e' h' j vp P,e' 0=.p id 0 0→e' 2=.p h.next 0 0→e' 3=.p (h.next+1) 0 0→e' 4=.i .i64 n→CS h'.next id L h h' vp .ns .ns P [] [] j→P.length=n→(∀ k,k<n→PO (nth P k) k)→K (.ex 0) e' h'):ZC tp (.loop Q1_19) e h' K:=by
  refine ZC_loop_n (fun n' e hh=>∃ (i j:Nat) (vp:V) (P:List Part),n'=n - i∧e 0=.p id 0 0∧e 2=.p h.next 0 0∧e 3=.p (h.next+1) 0 0∧e 4=.i .i64 n∧e 5=.i .i64 i∧i≤n∧CS hh.next id L h hh vp .ns .ns P [] [] j∧P.length=i∧∀ k,k<i→PO (nth P k) k) ?_ _ _ _ ⟨0,j,.ns,[],rfl,e0,e2,e3,e4,e5,by omega,a,rfl,fun k hk=>by omega⟩
  clear e0 e2 e3 e4 e5 e a
  rintro n' e hh ⟨i,j,vp,P,rfl,e0,e2,e3,e4,e5,hi,a,hlen,hP⟩ ih
  have hlm:=a.lim
  have q1:=a.q1
  rw [ZC_unf Q1_19.eq_1]
  simp (disch:=omega)only[go_sem, *]
  refine Wb_dec (fun hc=>?_) (fun hc=>?_)
  · have hnm:=nmOf_val (i:=i) (by omega)
    have hw32:IntKind.wrap .i32 (97+(i:Int))=97+i:=by rw [IntKind.wrap_i32];omega
    simp (disch:=omega)only[go_sem, *]
    refine tnext_ev a.tape a.jl hL (by omega) ?_
    intro v j1 v0 v1 v2 hj1
    have a1:=a.tape2 hid hj1
    have n1:(hh.put id (tapeB L j1)).next=hh.next:=rfl
    rw [← n1] at a1 q1
    clear n1
    generalize hh.put id (tapeB L j1)=h1 at a1 q1 ⊢
    clear a hlm
    have hlm:=a1.lim
    simp (disch:=omega)only[go_sem, *]
    refine tnext_ev a1.tape a1.jl hL (by omega) ?_
    intro w j2 w0 w1 w2 hj2
    have a2:=a1.tape2 hid hj2
    have n2:(h1.put id (tapeB L j2)).next=h1.next:=rfl
    rw [← n2] at a2 q1
    clear n2
    generalize h1.put id (tapeB L j2)=h2 at a2 q1 ⊢
    clear a1 hlm
    have hlm:=a2.lim
    simp (disch:=omega)only[go_sem, *]
    have x3:Ext h2 ((h2.alloc ⟨11,[[.s ⟨#[]⟩,.i .i64 0,.i .i64 0,.b false,.b false,.ns,.i .i64 0,.i .i64 0,.i .i64 0,.i .i64 0,.i .i64 0]]⟩).put h2.next ⟨11,[[.s (nmOf i),.i .i64 0,.i .i64 0,.b (decide (v=0)),.b (decide (w=0)),.ns,.i .i64 0,.i .i64 0,.i .i64 0,.i .i64 0,.i .i64 0]]⟩):=by (repeat (first | exact Ext.refl _ | refine Ext.alloc ?_ _ | (refine Ext.put ?_ _ _ ?_;rotate_left;(first | omega | (simp only [next_alloc,next_put];omega)))))
    have a3:=a2.ext hid x3
    have b3:((h2.alloc ⟨11,[[.s ⟨#[]⟩,.i .i64 0,.i .i64 0,.b false,.b false,.ns,.i .i64 0,.i .i64 0,.i .i64 0,.i .i64 0,.i .i64 0]]⟩).put h2.next ⟨11,[[.s (nmOf i),.i .i64 0,.i .i64 0,.b (decide (v=0)),.b (decide (w=0)),.ns,.i .i64 0,.i .i64 0,.i .i64 0,.i .i64 0,.i .i64 0]]⟩).get h2.next=some ⟨11,[[.s (nmOf i),.i .i64 0,.i .i64 0,.b (decide (v=0)),.b (decide (w=0)),.ns,.i .i64 0,.i .i64 0,.i .i64 0,.i .i64 0,.i .i64 0]]⟩:=by rw [get_put,gsel_eq rfl]
    have n3:h2.next<((h2.alloc ⟨11,[[.s ⟨#[]⟩,.i .i64 0,.i .i64 0,.b false,.b false,.ns,.i .i64 0,.i .i64 0,.i .i64 0,.i .i64 0,.i .i64 0]]⟩).put h2.next ⟨11,[[.s (nmOf i),.i .i64 0,.i .i64 0,.b (decide (v=0)),.b (decide (w=0)),.ns,.i .i64 0,.i .i64 0,.i .i64 0,.i .i64 0,.i .i64 0]]⟩).next:=Nat.lt_succ_self _
    generalize (h2.alloc ⟨11,[[.s ⟨#[]⟩,.i .i64 0,.i .i64 0,.b false,.b false,.ns,.i .i64 0,.i .i64 0,.i .i64 0,.i .i64 0,.i .i64 0]]⟩).put h2.next ⟨11,[[.s (nmOf i),.i .i64 0,.i .i64 0,.b (decide (v=0)),.b (decide (w=0)),.ns,.i .i64 0,.i .i64 0,.i .i64 0,.i .i64 0,.i .i64 0]]⟩=h3 at a3 b3 n3 ⊢
    clear x3 a2 hlm
    have hlm:=a3.lim
    refine tnext_ev a3.tape a3.jl hL (by omega) ?_
    intro k j4 k0 k1 k2 hj4
    have a4:=a3.tape2 hid hj4
    have b4:(h3.put id (tapeB L j4)).get h2.next=some ⟨11,[[.s (nmOf i),.i .i64 0,.i .i64 0,.b (decide (v=0)),.b (decide (w=0)),.ns,.i .i64 0,.i .i64 0,.i .i64 0,.i .i64 0,.i .i64 0]]⟩:=by rw [get_put,gsel_ne (by omega)];exact b3
    have n4:h2.next<(h3.put id (tapeB L j4)).next:=n3
    generalize h3.put id (tapeB L j4)=h4 at a4 b4 n4 ⊢
    clear a3 b3 n3 hlm
    simp (disch:=omega)only[go_sem, *]
    refine cfg_procs (k:=k) (n:=n) (i:=i) hid hlo hL k0 (by omega) a4 n4 b4 (by simp (disch:=omega)only[go_sem, *]) (by simp (disch:=omega)only[go_sem, *]) (by simp (disch:=omega)only[go_sem, *]) (by simp (disch:=omega)only[go_sem, *]) (by simp (disch:=omega)only[go_sem, *]) (by simp (disch:=omega)only[go_sem, *]) (by simp (disch:=omega)only[go_sem, *]) ?_
    clear a4 n4 b4 e0 e2 e3 e4 e5 e
    intro e h5 j5 vr pr e0 e2 e3 e4 e5 e6 a5 n5 b5 s5 hpr hpl
    simp (disch:=omega)only[go_sem, *]
    refine cfg_health (n:=n) (i:=i) hid hlo hL a5 n5 b5 s5 hpr hpl (by simp (disch:=omega)only[go_sem, *]) (by simp (disch:=omega)only[go_sem, *]) (by simp (disch:=omega)only[go_sem, *]) (by simp (disch:=omega)only[go_sem, *]) (by simp (disch:=omega)only[go_sem, *]) (by simp (disch:=omega)only[go_sem, *]) (by simp (disch:=omega)only[go_sem, *]) ?_
    clear a5 n5 b5 s5 e0 e2 e3 e4 e5 e6 e h5 j5 vr
    intro e h5 j5 hs hhs e0 e2 e3 e4 e5 e6 a5 n5 b5
    have hbox:=a5.box
    have hlm:=a5.lim
    have b6:=b5
    simp only [Part.enc] at b6
    have hpo:PO ⟨nmOf i,0,0,decide (v=0),decide (w=0),pr,hs 0,hs 1,hs 2,hs 3,hs 4⟩ i:=by
      refine ⟨rfl, ?_,rfl⟩
      unfold partB
      have t0:=hhs 0;have t1:=hhs 1;have t2:=hhs 2;have t3:=hhs 3;have t4:=hhs 4
      have e1:healthB ⟨nmOf i,0,0,decide (v=0),decide (w=0),pr,hs 0,hs 1,hs 2,hs 3,hs 4⟩=true:=by unfold healthB;rw [decide_eq_true_eq];exact ⟨t0.1,t0.2,t1.1,t1.2,t2.1,t2.2,t3.1,t3.2,t4.1,t4.2⟩
      rw [e1];simp only [hpr];rfl
    simp (disch:=omega)only[go_sem, *]
    refine app_rule (N:=[(⟨nmOf i,0,0,decide (v=0),decide (w=0),pr,hs 0,hs 1,hs 2,hs 3,hs 4⟩:Part).enc]) (a5.sp.alloc _) (by simp (disch:=omega)only[go_sem, *]<;>omega) (by simp (disch:=omega)only[go_sem, *]<;>omega) (by simp;omega) ?_
    intro vp' h6 s6 g6
    have x6:Ext h5 (h5.alloc ⟨11,[(⟨nmOf i,0,0,decide (v=0),decide (w=0),pr,hs 0,hs 1,hs 2,hs 3,hs 4⟩:Part).enc]⟩):=(Ext.refl _).alloc _
    have a6:=a5.grow_p (x:=⟨nmOf i,0,0,decide (v=0),decide (w=0),pr,hs 0,hs 1,hs 2,hs 3,hs 4⟩) hid x6 s6 g6
    have hb6:h6.get (h.next+1)=some ⟨3,[[vp,.ns,.ns]]⟩:=by
      rw [grown_low g6 (sl_own a5.sp) (by rw [next_alloc];omega) _ (by omega),get_alloc,gsel_ne (by omega)];exact hbox
    have l6:=g6.lim
    have hc6:=g6.cell
    have hcs6:=g6.cells
    clear s6 g6 x6
    simp only [lim_alloc] at l6
    simp (disch:=omega)only[go_sem, *]
    refine ih _ _ _ ?_ ⟨i+1,j5,vp',P++[⟨nmOf i,0,0,decide (v=0),decide (w=0),pr,hs 0,hs 1,hs 2,hs 3,hs 4⟩],rfl, ?_⟩
    · omega
    · simp (disch:=omega)only[go_sem, *]
      refine ⟨by omega,by rw [List.length_append,hlen];rfl,fun k hk=>?_⟩
      rw [nth_app]
      split
      · exact hP k (by omega)
      · obtain rfl:k=i:=by omega
        rw [show k - P.length=0 by omega,nth_cons0]
        exact hpo
  · simp (disch:=omega)only[go_sem, *]
    obtain rfl:i=n:=by omega
    exact kk _ hh j vp P e0 e2 e3 e4 a hlen hP
end
end Go.Ab.T
namespace Go.Ab.T
open Go Go.Ab
set_option maxHeartbeats 4000000
theorem tab3 {v:Int} (h0:0≤v) (h5:v<3):∃ z:Int,[[V.i .u32 4294967295],[.i .u32 200],[.i .u32 3]][v.toNat]?=some [.i .u32 z]:=by
  have:v=0∨v=1∨v=2:=by omega
  rcases this with rfl | rfl | rfl
  · exact ⟨4294967295,rfl⟩
  · exact ⟨200,rfl⟩
  · exact ⟨3,rfl⟩
theorem other {f r n:Int} (h0:0≤f) (h1:f<n) (h2:0≤r) (h3:r<n - 1∨r=0) (hn:1<n):0≤(f+1+r).tmod n∧(f+1+r).tmod n<n∧f≠(f+1+r).tmod n:=by
  rw [Int.tmod_eq_emod_of_nonneg (by omega)]
  by_cases h:f+1+r<n
  · rw [Int.emod_eq_of_lt (by omega) h];omega
  · have e:(f+1+r) % n=(f+1+r - n) % n:=by rw [Int.sub_emod_right]
    rw [e,Int.emod_eq_of_lt (by omega) (by omega)];omega
section
variable {id:Nat} {L:List Int} {h h' h2:AH} {P:List Part} {j:Nat}
theorem cfg_chans {K : Ex → Env → AH → Prop} {e : Env} {n k : Int} {vp : V} (hid : id < h.next) (hlo : h.lim ≤ id) (hL : L.length < 4000000000) (hn : n ≤ 4) (hk : k ≤ 3) (hk0 : 0 ≤ k) (a : CS h'.next id L h h' vp .ns .ns P [] [] j)
    (e0:e 0=.p id 0 0) (e2:e 2=.p h.next 0 0) (e3:e 3=.p (h.next+1) 0 0) (e4:e 4=.i .i64 n) (e9:e 9=.i .i64 k)
    (kk:∀ e' h' j vc Ch,e' 0=.p id 0 0→e' 2=.p h.next 0 0→e' 3=.p (h.next+1) 0 0→e' 4=.i .i64 n→CS h'.next id L h h' vp vc .ns P Ch [] j→Ch.length≤3→(∀ x∈Ch,chanB n x=true∧x.late=0)→K (.ex 6) e' h'):ZC tp (.loop Q1_28) e h' K:=by
  refine ZC_loop_n (fun n' e hh=>∃ (k:Int) (j:Nat) (vc:V) (Ch:List Chan),n'=k.toNat∧e 0=.p id 0 0∧e 2=.p h.next 0 0∧e 3=.p (h.next+1) 0 0∧e 4=.i .i64 n∧e 9=.i .i64 k∧CS hh.next id L h hh vp vc .ns P Ch [] j∧Ch.length+k≤3∧0≤k∧∀ x∈Ch,chanB n x=true∧x.late=0) ?_ _ _ _ ⟨k,j,.ns,[],rfl,e0,e2,e3,e4,e9,a,by simp;omega,hk0,(fun x hx=>by cases hx)⟩
  clear e0 e2 e3 e4 e9 e a hk hk0
  rintro n' e hh ⟨k,j,vc,Ch,rfl,e0,e2,e3,e4,e9,a,hk,hk0,hC⟩ ih
  have hlm:=a.lim
  have q1:=a.q1
  rw [ZC_unf Q1_28.eq_1]
  simp (disch:=omega)only[go_sem, *]
  refine Wg_dec (fun hc=>?_) (fun hc=>?_)
  rotate_left
  · simp (disch:=omega)only[go_sem, *]
    exact kk _ hh j vc Ch e0 e2 e3 e4 a (by omega) hC
  simp (disch:=omega)only[go_sem, *]
  refine Wb_dec (fun hc2=>?_) (fun hc2=>?_)
  rotate_left
  · simp (disch:=omega)only[go_sem, *]
    exact kk _ hh j vc Ch e0 e2 e3 e4 a (by omega) hC
  simp (disch:=omega)only[go_sem, *]
  refine tnext_ev a.tape a.jl hL (by omega) ?_
  intro f j1 f0 f1 f2 hj1
  have a1:=a.tape2 hid hj1
  have n1:(hh.put id (tapeB L j1)).next=hh.next:=rfl
  rw [← n1] at a1 q1
  clear n1
  generalize hh.put id (tapeB L j1)=h1 at a1 q1 ⊢
  clear a hlm
  have hlm:=a1.lim
  simp (disch:=omega)only[go_sem, *]
  have x2:Ext h1 ((h1.alloc ⟨1,[[V.i .u32 4294967295],[.i .u32 200],[.i .u32 3]]⟩).alloc ⟨6,[[.i .i64 0,.i .i64 0,.b false,.i .i64 0,.i .u32 0,.i .i64 0]]⟩):=((Ext.refl _).alloc _).alloc _
  have a2:=a1.ext hid x2
  have g2:((h1.alloc ⟨1,[[V.i .u32 4294967295],[.i .u32 200],[.i .u32 3]]⟩).alloc ⟨6,[[.i .i64 0,.i .i64 0,.b false,.i .i64 0,.i .u32 0,.i .i64 0]]⟩).get h1.next=some ⟨1,[[V.i .u32 4294967295],[.i .u32 200],[.i .u32 3]]⟩:=by rw [get_alloc,gsel_ne (by rw [next_alloc];omega),get_alloc,gsel_eq rfl]
  have m2:((h1.alloc ⟨1,[[V.i .u32 4294967295],[.i .u32 200],[.i .u32 3]]⟩).alloc ⟨6,[[.i .i64 0,.i .i64 0,.b false,.i .i64 0,.i .u32 0,.i .i64 0]]⟩).get (h1.next+1)=some ⟨6,[[.i .i64 0,.i .i64 0,.b false,.i .i64 0,.i .u32 0,.i .i64 0]]⟩:=by rw [get_alloc,next_alloc,gsel_eq rfl]
  have n2:h1.next+2≤((h1.alloc ⟨1,[[V.i .u32 4294967295],[.i .u32 200],[.i .u32 3]]⟩).alloc ⟨6,[[.i .i64 0,.i .i64 0,.b false,.i .i64 0,.i .u32 0,.i .i64 0]]⟩).next:=Nat.le_refl _
  generalize ((h1.alloc ⟨1,[[V.i .u32 4294967295],[.i .u32 200],[.i .u32 3]]⟩).alloc ⟨6,[[.i .i64 0,.i .i64 0,.b false,.i .i64 0,.i .u32 0,.i .i64 0]]⟩)=h2 at a2 g2 m2 n2 ⊢
  clear x2 a1 hlm
  have hlm:=a2.lim
  refine tnext_ev a2.tape a2.jl hL (by omega) ?_
  intro r j2 r0 r1 r2 hj2
  have a3:=a2.tape2 hid hj2
  have g3:(h2.put id (tapeB L j2)).get h1.next=some ⟨1,[[V.i .u32 4294967295],[.i .u32 200],[.i .u32 3]]⟩:=by rw [get_put,gsel_ne (by omega)];exact g2
  have m3:(h2.put id (tapeB L j2)).get (h1.next+1)=some ⟨6,[[.i .i64 0,.i .i64 0,.b false,.i .i64 0,.i .u32 0,.i .i64 0]]⟩:=by rw [get_put,gsel_ne (by omega)];exact m2
  have n3:h1.next+2≤(h2.put id (tapeB L j2)).next:=n2
  generalize h2.put id (tapeB L j2)=h3 at a3 g3 m3 n3 ⊢
  clear a2 g2 m2 n2 hlm
  have hlm:=a3.lim
  obtain ⟨d0,d1,d2⟩:=other f0 (show f<n by omega) r0 r2 hc2
  generalize hd:(f+1+r).tmod n=d at d0 d1 d2
  simp (disch:=omega)only[go_sem, *]
  refine tnext_ev a3.tape a3.jl hL (by omega) ?_
  intro b j3 b0 b1 b2 hj3
  have a4:=a3.tape2 hid hj3
  have g4:(h3.put id (tapeB L j3)).get h1.next=some ⟨1,[[V.i .u32 4294967295],[.i .u32 200],[.i .u32 3]]⟩:=by rw [get_put,gsel_ne (by omega)];exact g3
  have m4:(h3.put id (tapeB L j3)).get (h1.next+1)=some ⟨6,[[.i .i64 0,.i .i64 0,.b false,.i .i64 0,.i .u32 0,.i .i64 0]]⟩:=by rw [get_put,gsel_ne (by omega)];exact m3
  have n4:h1.next+2≤(h3.put id (tapeB L j3)).next:=n3
  generalize h3.put id (tapeB L j3)=h4 at a4 g4 m4 n4 ⊢
  clear a3 g3 m3 n3 hlm
  have hlm:=a4.lim
  simp (disch:=omega)only[go_sem, *]
  refine tnext_ev a4.tape a4.jl hL (by omega) ?_
  intro u j4 u0 u1 u2 hj4
  have a5:=a4.tape2 hid hj4
  have g5:(h4.put id (tapeB L j4)).get h1.next=some ⟨1,[[V.i .u32 4294967295],[.i .u32 200],[.i .u32 3]]⟩:=by rw [get_put,gsel_ne (by omega)];exact g4
  have m5:(h4.put id (tapeB L j4)).get (h1.next+1)=some ⟨6,[[.i .i64 0,.i .i64 0,.b false,.i .i64 0,.i .u32 0,.i .i64 0]]⟩:=by rw [get_put,gsel_ne (by omega)];exact m4
  have n5:h1.next+2≤(h4.put id (tapeB L j4)).next:=n4
  generalize h4.put id (tapeB L j4)=h5 at a5 g5 m5 n5 ⊢
  clear a4 g4 m4 n4 hlm
  have hlm:=a5.lim
  obtain ⟨z,hz⟩:=tab3 u0 (by omega)
  simp (disch:=omega)only[go_sem, *]
  have a6:CS h1.next id L h (h5.put (h1.next+1) ⟨6,[[.i .i64 f,.i .i64 d,.b (decide (b=0)),.i .i64 0,.i .u32 z,.i .i64 0]]⟩) vp vc .ns P Ch [] j4:=a5.keep hid (Nat.le_refl _) rfl (fun i hi=>by rw [get_put,gsel_ne (by omega)])
  have m6:(h5.put (h1.next+1) ⟨6,[[.i .i64 f,.i .i64 d,.b (decide (b=0)),.i .i64 0,.i .u32 z,.i .i64 0]]⟩).get (h1.next+1)=some ⟨6,[[.i .i64 f,.i .i64 d,.b (decide (b=0)),.i .i64 0,.i .u32 z,.i .i64 0]]⟩:=by rw [get_put,gsel_eq rfl]
  have n6:h1.next+2≤(h5.put (h1.next+1) ⟨6,[[.i .i64 f,.i .i64 d,.b (decide (b=0)),.i .i64 0,.i .u32 z,.i .i64 0]]⟩).next:=n5
  generalize h5.put (h1.next+1) ⟨6,[[.i .i64 f,.i .i64 d,.b (decide (b=0)),.i .i64 0,.i .u32 z,.i .i64 0]]⟩=h6 at a6 m6 n6 ⊢
  clear a5 g5 m5 n5 hlm hz
  have hlm:=a6.lim
  refine Wb_dec (fun hb=>?_) (fun hb=>?_)
  · have hbt:decide (b=0)=true:=decide_eq_true hb
    rw [hbt] at m6
    clear hbt
    simp (disch:=omega)only[go_sem, *]
    refine tnext_ev a6.tape a6.jl hL (by omega) ?_
    intro c j5 c0 c1 c2 hj5
    have a7:=a6.tape2 hid hj5
    have m7:(h6.put id (tapeB L j5)).get (h1.next+1)=some ⟨6,[[.i .i64 f,.i .i64 d,.b true,.i .i64 0,.i .u32 z,.i .i64 0]]⟩:=by rw [get_put,gsel_ne (by omega)];exact m6
    have n7:h1.next+2≤(h6.put id (tapeB L j5)).next:=n6
    generalize h6.put id (tapeB L j5)=h7 at a7 m7 n7 ⊢
    clear a6 m6 n6 hlm
    have hlm:=a7.lim
    have a8:CS h1.next id L h (h7.put (h1.next+1) ⟨6,[(⟨f,d,true,1+c,z,0⟩:Chan).enc]⟩) vp vc .ns P Ch [] j5:=a7.keep hid (Nat.le_refl _) rfl (fun i hi=>by rw [get_put,gsel_ne (by omega)])
    have m8:(h7.put (h1.next+1) ⟨6,[(⟨f,d,true,1+c,z,0⟩:Chan).enc]⟩).get (h1.next+1)=some ⟨6,[(⟨f,d,true,1+c,z,0⟩:Chan).enc]⟩:=by rw [get_put,gsel_eq rfl]
    have n8:h1.next+2≤(h7.put (h1.next+1) ⟨6,[(⟨f,d,true,1+c,z,0⟩:Chan).enc]⟩).next:=n7
    have hx:chanB n ⟨f,d,true,1+c,z,0⟩=true:=by
      unfold chanB
      simp only [Bool.and_eq_true,decide_eq_true_eq,reduceIte]
      omega
    have hbox:=a7.box
    have nn:=a7.q2
    simp (disch:=omega)only[go_sem, *]
    refine app_rule (N:=[(⟨f,d,true,(1+c),z,0⟩:Chan).enc]) (a8.sc.alloc _) (by first | omega | (simp (disch:=omega)only[go_sem, *]<;>omega)) (by first | omega | (simp (disch:=omega)only[go_sem, *]<;>omega)) (by simp;omega) ?_
    intro vc' h9 s9 g9
    have x9:=(Ext.refl (h7.put (h1.next+1) ⟨6,[(⟨f,d,true,1+c,z,0⟩:Chan).enc]⟩)).alloc ⟨6,[(⟨f,d,true,(1+c),z,0⟩:Chan).enc]⟩
    have a9:=a8.grow_c (x:=⟨f,d,true,(1+c),z,0⟩) hid x9 s9 g9
    have hb9:h9.get (h.next+1)=some ⟨3,[[vp,vc,.ns]]⟩:=by
      rw [grown_low g9 (sl_own a8.sc) (by first | omega | (simp (disch:=omega)only[go_sem, *]<;>omega)) _ (by omega),get_alloc,gsel_ne (by first | omega | (simp (disch:=omega)only[go_sem, *]<;>omega))];exact a8.box
    have l9:=g9.lim
    have hc9:=g9.cell
    have hcs9:=g9.cells
    clear s9 g9 x9 hbox
    simp only [lim_alloc,lim_put] at l9
    simp (disch:=omega)only[go_sem, *]
    refine ih _ _ _ ?_ ⟨k - 1,j5,vc',Ch++[⟨f,d,true,(1+c),z,0⟩],rfl, ?_⟩
    · omega
    · have hCC:∀ x∈Ch++[(⟨f,d,true,(1+c),z,0⟩:Chan)],chanB n x=true∧x.late=0:=fun x hx2=>by
        rcases List.mem_append.1 hx2 with h1 | h1
        · exact hC x h1
        · rw [List.mem_singleton] at h1;subst h1;exact ⟨hx,rfl⟩
      have hLL:((Ch++[(⟨f,d,true,(1+c),z,0⟩:Chan)]).length:Int)+(k - 1)≤3:=by rw [List.length_append];simp only [List.length_cons,List.length_nil];omega
      clear ih kk
      simp (disch:=omega)only[go_sem, *]
      ((repeat' refine And.intro ?_ ?_)<;>first | omega | assumption | (exact a9) | (exact hCC) | (exact hLL))
  · have hbf:decide (b=0)=false:=decide_eq_false hb
    rw [hbf] at m6
    clear hbf
    have hx:chanB n ⟨f,d,false,0,z,0⟩=true:=by
      unfold chanB
      simp
      omega
    have hbox:=a6.box
    have nn:=a6.q2
    simp (disch:=omega)only[go_sem, *]
    refine app_rule (N:=[(⟨f,d,false,0,z,0⟩:Chan).enc]) (a6.sc.alloc _) (by first | omega | (simp (disch:=omega)only[go_sem, *]<;>omega)) (by first | omega | (simp (disch:=omega)only[go_sem, *]<;>omega)) (by simp;omega) ?_
    intro vc' h9 s9 g9
    have x9:=(Ext.refl (h6)).alloc ⟨6,[(⟨f,d,false,0,z,0⟩:Chan).enc]⟩
    have a9:=a6.grow_c (x:=⟨f,d,false,0,z,0⟩) hid x9 s9 g9
    have hb9:h9.get (h.next+1)=some ⟨3,[[vp,vc,.ns]]⟩:=by
      rw [grown_low g9 (sl_own a6.sc) (by first | omega | (simp (disch:=omega)only[go_sem, *]<;>omega)) _ (by omega),get_alloc,gsel_ne (by first | omega | (simp (disch:=omega)only[go_sem, *]<;>omega))];exact a6.box
    have l9:=g9.lim
    have hc9:=g9.cell
    have hcs9:=g9.cells
    clear s9 g9 x9 hbox
    simp only [lim_alloc,lim_put] at l9
    simp (disch:=omega)only[go_sem, *]
    refine ih _ _ _ ?_ ⟨k - 1,j4,vc',Ch++[⟨f,d,false,0,z,0⟩],rfl, ?_⟩
    · omega
    · have hCC:∀ x∈Ch++[(⟨f,d,false,0,z,0⟩:Chan)],chanB n x=true∧x.late=0:=fun x hx2=>by
        rcases List.mem_append.1 hx2 with h1 | h1
        · exact hC x h1
        · rw [List.mem_singleton] at h1;subst h1;exact ⟨hx,rfl⟩
      have hLL:((Ch++[(⟨f,d,false,0,z,0⟩:Chan)]).length:Int)+(k - 1)≤3:=by rw [List.length_append];simp only [List.length_cons,List.length_nil];omega
      clear ih kk
      simp (disch:=omega)only[go_sem, *]
      ((repeat' refine And.intro ?_ ?_)<;>first | omega | assumption | (exact a9) | (exact hCC) | (exact hLL))
end
end Go.Ab.T
namespace Go.Ab.T
open Go Go.Ab
set_option maxHeartbeats 4000000
theorem Sl.weak {b b' sz:Nat} {h:AH} {v:V} {R:List (List V)} (s:Sl b h sz v R) (hb:b'≤b):Sl b' h sz v R:=by
  rcases s with hs | ⟨i,el,cap,cs,rfl,hg,a1,a2,a3,a4,a5,a6⟩
  · exact .inl hs
  · exact .inr ⟨i,el,cap,cs,rfl,hg,a1,a2,a3,a4,by omega,a6⟩
theorem Sl.frzs {b sz:Nat} {h:AH} {v:V} {R:List (List V)} {P:Nat→Prop} (s:Sl b h sz v R):Frz P h h.next v v:=by
  rcases s with ⟨hv,_⟩ | ⟨i,el,cap,cs,rfl,hg,a1,a2,a3,a4,a5,a6⟩
  · rcases hv with rfl | rfl
    · exact .z _ _ .ns
    · exact .z _ _ .e0
  · exact .so _ _ _ _ _ a4
theorem sl_kill {b sz i:Nat} {h:AH} {v:V} {R:List (List V)} (s:Sl b h sz v R) (d:nilV v=true∨idV v≠i):Sl b (h.kill i) sz v R:=by
  rcases d with d | d
  · rcases s with hs | ⟨_,_,_,_,rfl,_⟩
    · exact .inl hs
    · cases d
  · exact s.same (Nat.le_refl _) (fun _=>by rw [get_kill,gsel_ne d])
structure Made (C:Config):Prop where
  wh:whereR C=(0,-1)
  nm:NmOk C
  ch:C.chans.length≤3
  tb:C.tables.length≤2
  pt:C.parts.length≤4
section
variable {id:Nat} {L:List Int} {h h' h2:AH} {P:List Part} {Ch:List Chan} {j:Nat}
theorem cfg_tabs {K : Ex → Env → AH → Prop} {e : Env} {n k : Int} {vp vc : V} (hid : id < h.next) (hlo : h.lim ≤ id) (hL : L.length < 4000000000) (hn1 : 1 ≤ n) (hn : n ≤ 4) (hk : k ≤ 1) (hk0 : 0 ≤ k) (a : CS h'.next id L h h' vp vc .ns P Ch [] j)
    (e0:e 0=.p id 0 0) (e2:e 2=.p h.next 0 0) (e3:e 3=.p (h.next+1) 0 0) (e4:e 4=.i .i64 n) (e12:e 12=.i .i64 k)
    (kk:∀ e' h' j vt T,e' 0=.p id 0 0→e' 2=.p h.next 0 0→e' 3=.p (h.next+1) 0 0→CS h'.next id L h h' vp vc vt P Ch T j→1≤T.length→T.length≤2→(∀ x∈T,TabOk n x)→K (.ex 8) e' h'):ZC tp (.loop Q1_33) e h' K:=by
  refine ZC_loop_n (fun n' e hh=>∃ (q:Int) (j:Nat) (vt:V) (T:List (List Node)),n'=(q+1).toNat∧e 0=.p id 0 0∧e 2=.p h.next 0 0∧e 3=.p (h.next+1) 0 0∧e 4=.i .i64 n∧e 12=.i .i64 q∧CS hh.next id L h hh vp vc vt P Ch T j∧T.length+q=k∧-1≤q∧∀ x∈T,TabOk n x) ?_ _ _ _ ⟨k,j,.ns,[],rfl,e0,e2,e3,e4,e12,a,by simp,by omega,(fun x hx=>by cases hx)⟩
  clear e0 e2 e3 e4 e12 e a
  rintro n' e hh ⟨q,j,vt,T,rfl,e0,e2,e3,e4,e12,a,hq,hq0,hT⟩ ih
  have hlm:=a.lim
  have q1:=a.q1
  have hbox:=a.box
  have hsv:=Sl.sameV a.st
  obtain ⟨_,_,_,_,_,_,_,tcell,tcells⟩:=a.st.facts
  rw [ZC_unf Q1_33.eq_1]
  simp (disch:=omega)only[go_sem, *]
  refine Wb_dec (fun hc=>?_) (fun hc=>?_)
  · simp (disch:=omega)only[go_sem, *]
    refine frame_ev hn1 (by omega) hL a.tape a.jl (by omega) ?_
    intro x j1 hx hxl hj1
    have a1:=a.tape2 hid hj1
    have n1:(hh.put id (tapeB L j1)).next=hh.next:=rfl
    rw [← n1] at a1 q1
    clear n1
    generalize hh.put id (tapeB L j1)=h1 at a1 q1 ⊢
    clear a hlm hbox
    have hlm:=a1.lim
    have hbox:=a1.box
    simp (disch:=omega)only[go_sem, *]
    refine app_rule (N:=[Tab.enc x]) (a1.st.alloc _) (by first | omega | (simp (disch:=omega)only[go_sem, *]<;>omega)) (by first | omega | (simp (disch:=omega)only[go_sem, *]<;>omega)) (by simp;omega) ?_
    intro vt' h9 s9 g9
    have x9:=(Ext.refl h1).alloc ⟨1,[Tab.enc x]⟩
    have a9:=a1.grow_t (x:=x) hid x9 s9 g9
    have hb9:h9.get (h.next+1)=some ⟨3,[[vp,vc,vt]]⟩:=by
      rw [grown_low g9 (sl_own a1.st) (by first | omega | (simp (disch:=omega)only[go_sem, *]<;>omega)) _ (by omega),get_alloc,gsel_ne (by first | omega | (simp (disch:=omega)only[go_sem, *]<;>omega))];exact a1.box
    have l9:=g9.lim
    have hc9:=g9.cell
    have hcs9:=g9.cells
    clear s9 g9 x9 hbox
    simp only [lim_alloc,lim_put] at l9
    simp (disch:=omega)only[go_sem, *]
    refine ih _ _ _ ?_ ⟨q - 1,j1,vt',T++[x],rfl, ?_⟩
    · omega
    · have hTT:∀ y∈T++[x],TabOk n y:=fun y hy=>by
        rcases List.mem_append.1 hy with h1 | h1
        · exact hT y h1
        · rw [List.mem_singleton] at h1;subst h1;exact hx
      have hLL:((T++[x]).length:Int)+(q - 1)=k:=by rw [List.length_append];simp only [List.length_cons,List.length_nil];omega
      clear ih kk
      simp (disch:=omega)only[go_sem, *]
      ((repeat' refine And.intro ?_ ?_)<;>first | omega | assumption | (exact a9) | (exact hTT) | (exact hLL))
  · simp (disch:=omega)only[go_sem, *]
    exact kk _ hh j vt T e0 e2 e3 a (by omega) (by omega) hT
end
theorem config_ev {h : AH} {id k : Nat} {L : List Int} {K : V → AH → Prop} (hg : h.get id = some (tapeB L k)) (hk : k ≤ L.length) (hL : L.length < 4000000000) (hlo : h.lim ≤ id)
    (kk:∀ C j,j≤L.length→Made C→K (.agg C.enc) (h.put id (tapeB L j))):Cq tp i_Q1 [.p id 0 0] h K:=by
  refine Cq_tape fn_Q1 (by simp [t_Q1]) hg fun hlm hid rp=>?_
  unfold t_Q1
  simp (disch:=omega)only[go_sem, *]
  have x0:Ext h ((h.alloc ⟨3,[[.ns,.ns,.ns]]⟩).alloc ⟨3,[[.ns,.ns,.ns]]⟩):=by (repeat (first | exact Ext.refl _ | refine Ext.alloc ?_ _ | (refine Ext.put ?_ _ _ ?_;rotate_left;(first | omega | (simp only [next_alloc,next_put];omega)))))
  have a0:CS ((h.alloc ⟨3,[[.ns,.ns,.ns]]⟩).alloc ⟨3,[[.ns,.ns,.ns]]⟩).next id L h ((h.alloc ⟨3,[[.ns,.ns,.ns]]⟩).alloc ⟨3,[[.ns,.ns,.ns]]⟩) .ns .ns .ns [] [] [] k:=⟨Nat.le_refl _,Nat.le_refl _,rfl,(x0.get _ (by omega)).trans hg,hk,by simp (disch:=omega)only[go_sem, *],by simp (disch:=omega)only[go_sem, *],fun i hi _=>x0.get i hi,Sl.nil _ _ _,Sl.nil _ _ _,Sl.nil _ _ _,.inl rfl,.inl rfl,.inl rfl,.inl rfl,.inl rfl,.inl rfl⟩
  have n0:((h.alloc ⟨3,[[.ns,.ns,.ns]]⟩).alloc ⟨3,[[.ns,.ns,.ns]]⟩).next=h.next+2:=rfl
  generalize (h.alloc ⟨3,[[.ns,.ns,.ns]]⟩).alloc ⟨3,[[.ns,.ns,.ns]]⟩=h1 at a0 n0 ⊢
  clear x0 n0
  refine tnext_ev a0.tape a0.jl hL (by have:=a0.lim;omega) ?_
  intro v j1 v0 v1 v2 hj1
  have a1:=a0.tape2 hid hj1
  have n1:(h1.put id (tapeB L j1)).next=h1.next:=rfl
  rw [← n1] at a1
  clear n1
  generalize h1.put id (tapeB L j1)=h2 at a1 ⊢
  clear a0
  obtain ⟨m,hm⟩:∃ m:Nat,1+v=m:=⟨(1+v).toNat,by omega⟩
  simp (disch:=omega)only[go_sem, *]
  refine cfg_parts (n:=m) hid hlo hL (by omega) a1 (by simp (disch:=omega)only[go_sem, *]) (by simp (disch:=omega)only[go_sem, *]) (by simp (disch:=omega)only[go_sem, *]) (by simp (disch:=omega)only[go_sem, *]) (by simp (disch:=omega)only[go_sem, *]) ?_
  clear a1
  intro e h3 j3 vp P e0 e2 e3 e4 a3 hPl hP
  have hlm3:=a3.lim
  simp (disch:=omega)only[go_sem, *]
  refine tnext_ev a3.tape a3.jl hL (by omega) ?_
  intro c j4 c0 c1 c2 hj4
  have a4:=a3.tape2 hid hj4
  have n4:(h3.put id (tapeB L j4)).next=h3.next:=rfl
  rw [← n4] at a4
  clear n4
  generalize h3.put id (tapeB L j4)=h4 at a4 ⊢
  clear a3 hlm3
  simp (disch:=omega)only[go_sem, *]
  refine cfg_chans (k:=c) (n:=m) hid hlo hL (by omega) (by omega) c0 a4 (by simp (disch:=omega)only[go_sem, *]) (by simp (disch:=omega)only[go_sem, *]) (by simp (disch:=omega)only[go_sem, *]) (by simp (disch:=omega)only[go_sem, *]) (by simp (disch:=omega)only[go_sem, *]) ?_
  clear a4 e0 e2 e3 e4 e
  intro e h5 j5 vc Ch e0 e2 e3 e4 a5 hCl hC
  have hlm5:=a5.lim
  simp (disch:=omega)only[go_sem, *]
  refine tnext_ev a5.tape a5.jl hL (by omega) ?_
  intro t j6 t0 t1 t2 hj6
  have a6:=a5.tape2 hid hj6
  have n6:(h5.put id (tapeB L j6)).next=h5.next:=rfl
  rw [← n6] at a6
  clear n6
  generalize h5.put id (tapeB L j6)=h6 at a6 ⊢
  clear a5 hlm5
  simp (disch:=omega)only[go_sem, *]
  refine cfg_tabs (k:=t) (n:=m) hid hlo hL (by omega) (by omega) (by omega) t0 a6 (by simp (disch:=omega)only[go_sem, *]) (by simp (disch:=omega)only[go_sem, *]) (by simp (disch:=omega)only[go_sem, *]) (by simp (disch:=omega)only[go_sem, *]) (by simp (disch:=omega)only[go_sem, *]) ?_
  clear a6 e0 e2 e3 e4 e
  intro e h7 j7 vt T e0 e2 e3 a hT1 hT2 hT
  have hbox:=a.box
  have q1:=a.q1
  obtain ⟨_,_,_,_,_,_,_,pcell,pcells⟩:=a.sp.facts
  obtain ⟨_,_,_,_,_,_,_,ccell,ccells⟩:=a.sc.facts
  obtain ⟨_,_,tlt,tlo,_,_,_,tcell,tcells⟩:=a.st.facts
  have tlt:=tlt (by omega)
  have tlo:=tlo (by omega)
  have hbare:Bare P Ch T:=by
    refine ⟨?_,by omega,by omega,by omega,hT1,by omega,fun i hi=>?_,fun x hx=>by rw [hPl];exact hC x hx,fun x hx=>by rw [hPl];exact hT x hx,fun p hp=>?_⟩
    · apply List.ext_getElem
      · simp
      · intro i h1 h2
        have:=(hP i (by omega)).2.2
        rw [nth_eq h2] at this
        simpa using this
    · have hi4:=hP i (by omega)
      refine ⟨by rw [hi4.1];exact nmOf_ok (by omega), ?_,hi4.2.1⟩
      refine any_take_no (fun q hq=>?_) (by omega)
      rw [decide_eq_false_iff_not,hi4.1,(hP q (by omega)).1]
      exact nmOf_ne (by omega) (by omega) (by omega)
    · obtain ⟨i,hi,rfl⟩:=List.mem_iff_getElem.1 hp
      have hi4:=(hP i (by omega)).1
      have hok:=nmOf_ok (i:=i) (by omega)
      rw [nth_eq hi] at hi4
      rw [hi4]
      unfold nameB at hok
      simp only [decide_eq_true_eq] at hok
      omega
  have hnt:nilV vt=false:=by
    rcases a.st with ⟨_,hR⟩ | ⟨_,_,_,_,rfl,_⟩
    · have:T=[]:=by simpa using hR
      subst this;simp at hT1
    · rfl
  have dpt:nilV vp=true∨idV vp≠idV vt:=by rcases a.pt with d | d | d;exact .inl d;(rw [hnt] at d;cases d);exact .inr d
  have dct:nilV vc=true∨idV vc≠idV vt:=by rcases a.ct with d | d | d;exact .inl d;(rw [hnt] at d;cases d);exact .inr d
  simp (disch:=omega)only[go_sem, *]
  refine Cq_fix (idV vt) (args':=[.p id 0 0,.agg [vp,vc,.fl 1 (T.map Tab.enc)]]) (.cons _ _ _ _ _ (.p _ _ _ _ (by omega)) (.cons _ _ _ _ _ (.agg _ _ _ (.cons _ _ _ _ _ (Sl.frzs a.sp) (.cons _ _ _ _ _ (Sl.frzs a.sc) (.cons _ _ _ _ _ (a.st.froze (fun _=>rfl) rfl (by omega)) (.nil _))))) (.nil _))) ?_
  refine asks_ev (b:=h.next+2) hbare hL a.jl q1 (by omega) (by have:=a.lim;show h7.lim≤id;omega) (by rw [get_kill,gsel_ne (by omega)];exact a.tape) (sl_kill a.sp dpt) (sl_kill a.sc dct) a.pc ?_
  intro P' Ch' h8 j8 hj8 hw hnm hPl' hCl' hn8 hl8 hg8 hlow hsp hsc
  have hres:h8.get h.next=some ⟨3,[[.ns,.ns,.ns]]⟩:=by rw [hlow _ (by omega) (by omega),get_kill,gsel_ne (by omega)];exact a.res
  have hl8':h8.lim=h.lim:=hl8.trans a.lim
  have hn8':h7.next≤h8.next:=hn8
  have hres7:=a.res
  clear hbox hl8 hn8
  simp (disch:=omega)only[go_sem, *]
  refine ⟨.agg (Config.enc ⟨P',Ch',T⟩),j8, ?_,⟨by rw [next_put];omega,hl8',by rw [get_put,gsel_ne (by omega)];exact hg8,fun i hi hn=>?_⟩,kk ⟨P',Ch',T⟩ j8 hj8 ⟨hw,hnm,by simp only;omega,hT2,by simp only;omega⟩⟩
  · refine .agg _ _ _ (.cons _ _ _ _ _ (Sl.frzb (Sl.weak (sl_put hsp _ _ ((sl_own hsp).imp (fun x=>x) (fun x=>by omega))) (by omega)) (fun _=>rfl) (by simp only;omega)) (.cons _ _ _ _ _ (Sl.frzb (Sl.weak (sl_put hsc _ _ ((sl_own hsc).imp (fun x=>x) (fun x=>by omega))) (by omega)) (fun _=>rfl) (by simp only;omega)) (.cons _ _ _ _ _ (.fl _ _ _) (.nil _))))
  · rw [get_put,gsel_ne (by omega),hlow _ (by omega) hn,get_kill,gsel_ne (by omega)]
    exact a.low i hi hn
end Go.Ab.T
namespace Go.Ab.T
open Go Go.Ab
set_option maxHeartbeats 2000000
structure Owns (b q:Nat) (h:AH) (l:List (Nat×V×List (List V))):Prop where
  bq:b≤q
  q2:q≤h.next
  sl:∀ (i:Nat) (a:Nat×V×List (List V)),l[i]?=some a→Sl b h a.1 a.2.1 a.2.2
  lt:∀ (i:Nat) (a:Nat×V×List (List V)),l[i]?=some a→nilV a.2.1=true∨idV a.2.1<q
  dj:∀ (i j:Nat) (a c:Nat×V×List (List V)),i≠j→l[i]?=some a→l[j]?=some c→Dj a.2.1 c.2.1
section
variable {b q:Nat} {h h2:AH} {l:List (Nat×V×List (List V))}
theorem Owns.keep (o:Owns b q h l) (hn:h.next≤h2.next) (g:∀ i,i<q→h2.get i=h.get i):Owns b q h2 l:=
  ⟨o.bq,Nat.le_trans o.q2 hn,fun i a e=>sl_keep (o.sl i a e) (o.lt i a e) hn g,o.lt,o.dj⟩
theorem Owns.ext (o:Owns b q h l) (x:Ext h h2):Owns b q h2 l:=o.keep x.next (fun i hi=>x.get i (by have:=o.q2;omega))
theorem Owns.up {q':Nat} (o:Owns b q h l) (h1:q≤q') (h2:q'≤h.next):Owns b q' h l:=
  ⟨Nat.le_trans o.bq h1,h2,o.sl,fun i a e=>(o.lt i a e).imp (fun x=>x) (fun x=>by omega),o.dj⟩
theorem Owns.put (o:Owns b q h l) (i:Nat) (k:Blk) (hi:i<b∨q≤i):Owns b q (h.put i k) l:=by
  refine ⟨o.bq,o.q2,fun j a e=>sl_put (o.sl j a e) _ _ ?_,o.lt,o.dj⟩
  have h1:=sl_own (o.sl j a e)
  have h2:=o.lt j a e
  rcases h1 with h1 | h1
  · exact .inl h1
  · rcases h2 with h2 | h2
    · exact .inl h2
    · exact .inr (by omega)
theorem Owns.low {b' i:Nat} {a:Nat×V×List (List V)} {h1 h3:AH} {v:V} (o:Owns b q h l) (e:l[i]?=some a) (x:Ext h h1) (g:Grown b' h1 a.2.1 v h3):∀ k,k<b→h3.get k=h.get k:=fun k hk=>by
  have:=o.bq;have:=o.q2;have:=x.next
  rw [g.get k (by omega) ((sl_own (o.sl i a e)).imp (fun x=>x) (fun x=>by omega)),x.get k (by omega)]
theorem Owns.grow {b' i:Nat} {a:Nat×V×List (List V)} {h1 h3:AH} {v:V} {R:List (List V)} (o:Owns b q h l) (e:l[i]?=some a) (x:Ext h h1) (g:Grown b' h1 a.2.1 v h3) (s:Sl b h3 a.1 v R):Owns b h3.next h3 (l.set i (a.1,v,R)):=by
  have n0:=o.bq;have n1:=o.q2;have n2:=x.next;have n3:=g.next
  have hi:i<l.length:=(List.getElem?_eq_some_iff.1 e).1
  have o1:=o.ext x
  refine ⟨by omega,Nat.le_refl _,fun j c ej=>?_,fun j c ej=>?_,fun j k c d hjk ej ek=>?_⟩
  · by_cases hji:i=j
    · subst hji
      rw [List.getElem?_set_self hi] at ej
      cases ej;exact s
    · rw [List.getElem?_set_ne hji] at ej
      exact sl_grown (o1.sl j c ej) g (o.dj i j a c hji e ej)
  · by_cases hji:i=j
    · subst hji
      rw [List.getElem?_set_self hi] at ej
      cases ej;exact sl_low s
    · rw [List.getElem?_set_ne hji] at ej
      exact (o.lt j c ej).imp (fun x=>x) (fun x=>by omega)
  · by_cases hji:i=j
    · subst hji
      rw [List.getElem?_set_self hi] at ej
      rw [List.getElem?_set_ne hjk] at ek
      cases ej
      exact dj_grown g (o.dj i k a d hjk e ek) ((o.lt k d ek).imp (fun x=>x) (fun x=>by omega))
    · rw [List.getElem?_set_ne hji] at ej
      by_cases hki:i=k
      · subst hki
        rw [List.getElem?_set_self hi] at ek
        cases ek
        exact dj_sym (dj_grown g (o.dj i j a c hji e ej) ((o.lt j c ej).imp (fun x=>x) (fun x=>by omega)))
      · rw [List.getElem?_set_ne hki] at ek
        exact o.dj j k c d hjk ej ek
theorem Owns.set {i n:Nat} {a:Nat×V×List (List V)} {r:List V} (o:Owns b q h l) (e:l[i]?=some a) (hn:n<a.2.2.length):Owns b q (h.put (idV a.2.1) ⟨a.1,(csOf h a.2.1).set (elV a.2.1+n) r⟩) (l.set i (a.1,a.2.1,a.2.2.set n r)):=by
  have hi:i<l.length:=(List.getElem?_eq_some_iff.1 e).1
  have hnil:nilV a.2.1=false:=by
    rcases o.sl i a e with ⟨_,hR⟩ | ⟨_,_,_,_,hv,_⟩
    · rw [hR] at hn;simp at hn
    · rw [hv];rfl
  refine ⟨o.bq,o.q2,fun j c ej=>?_,fun j c ej=>?_,fun j k c d hjk ej ek=>?_⟩
  · by_cases hji:i=j
    · subst hji
      rw [List.getElem?_set_self hi] at ej
      cases ej
      exact Sl.of_get (o.sl i a e) hn (Nat.le_refl _) (by rw [get_put,gsel_eq rfl])
    · rw [List.getElem?_set_ne hji] at ej
      refine sl_put (o.sl j c ej) _ _ ?_
      rcases o.dj i j a c hji e ej with d | d | d
      · rw [d] at hnil;cases hnil
      · exact .inl d
      · exact .inr d
  · by_cases hji:i=j
    · subst hji
      rw [List.getElem?_set_self hi] at ej
      cases ej;exact o.lt i a e
    · rw [List.getElem?_set_ne hji] at ej
      exact o.lt j c ej
  · by_cases hji:i=j
    · subst hji
      rw [List.getElem?_set_self hi] at ej
      rw [List.getElem?_set_ne hjk] at ek
      cases ej
      exact o.dj i k a d hjk e ek
    · rw [List.getElem?_set_ne hji] at ej
      by_cases hki:i=k
      · subst hki
        rw [List.getElem?_set_self hi] at ek
        cases ek
        exact o.dj j i c a hjk ej e
      · rw [List.getElem?_set_ne hki] at ek
        exact o.dj j k c d hjk ej ek
theorem Owns.new {i sz:Nat} {v:V} {R:List (List V)} (o:Owns b q h l) (hi:i<l.length) (s:Sl q h sz v R):Owns b h.next h (l.set i (sz,v,R)):=by
  have n0:=o.bq;have n1:=o.q2
  have hv:=sl_own s
  refine ⟨by omega,Nat.le_refl _,fun j c ej=>?_,fun j c ej=>?_,fun j k c d hjk ej ek=>?_⟩
  · by_cases hji:i=j
    · subst hji
      rw [List.getElem?_set_self hi] at ej
      cases ej;exact Sl.weak s n0
    · rw [List.getElem?_set_ne hji] at ej
      exact o.sl j c ej
  · by_cases hji:i=j
    · subst hji
      rw [List.getElem?_set_self hi] at ej
      cases ej;exact sl_low s
    · rw [List.getElem?_set_ne hji] at ej
      exact (o.lt j c ej).imp (fun x=>x) (fun x=>by omega)
  · have ap:∀ (j:Nat) (c:Nat×V×List (List V)),l[j]?=some c→Dj v c.2.1:=fun j c ej=>by
      rcases hv with hv | hv
      · exact .inl hv
      · rcases o.lt j c ej with k | k
        · exact .inr (.inl k)
        · exact .inr (.inr (by omega))
    by_cases hji:i=j
    · subst hji
      rw [List.getElem?_set_self hi] at ej
      rw [List.getElem?_set_ne hjk] at ek
      cases ej
      exact ap k d ek
    · rw [List.getElem?_set_ne hji] at ej
      by_cases hki:i=k
      · subst hki
        rw [List.getElem?_set_self hi] at ek
        cases ek
        exact dj_sym (ap j c ej)
      · rw [List.getElem?_set_ne hki] at ek
        exact o.dj j k c d hjk ej ek
theorem Owns.nil (hb:b≤h.next) (hl:∀ a∈l,a.2.1=.ns∧a.2.2=[]):Owns b h.next h l:=
  ⟨hb,Nat.le_refl _,fun i a e=>by have:=hl a (List.mem_of_getElem? e);rw [this.1,this.2];exact Sl.nil _ _ _,fun i a e=>by have:=hl a (List.mem_of_getElem? e);rw [this.1];exact .inl rfl,fun i j a c _ e _=>by have:=hl a (List.mem_of_getElem? e);rw [this.1];exact .inl rfl⟩
end
end Go.Ab.T
namespace Go.Ab.T
open Go Go.Ab
set_option maxHeartbeats 1000000
theorem equalRun_ev {L M:List Run}:Pf tp i_Q123 [.fl 2 (L.map Run.enc),.fl 2 (M.map Run.enc)] (.b (decide (L=M))):=by
  refine Pf_go fn_Q123 (by simp [t_Q123]) fun rp=>?_;unfold t_Q123;simp (disch:=omega)only[go_sem, *]
  have hL:=rp.head.len
  have hM:=rp.tail.head.len
  refine Wb_dec (fun hc=>?_) (fun hc=>?_)
  · simp (disch:=omega)only[go_sem, *]
    simp only [false_eq_decide_iff]
    rintro rfl;exact hc rfl
  · simp (disch:=omega)only[go_sem, *]
    refine ZC_loop_n (fun n e h=>∃ (i:Nat),n=L.length - i∧h.lim=0∧e 0=.fl 2 (L.map Run.enc)∧e 1=.fl 2 (M.map Run.enc)∧e 12=.i .i64 L.length∧e 13=.i .i64 i∧i≤L.length∧L.take i=M.take i) ?_ _ _ _ ⟨0,rfl, ?_⟩
    · rintro n e h ⟨i,rfl,hl,e0,e1,e12,e13,hi,hz⟩ ih
      rw [ZC_unf Q123_9.eq_1]
      simp (disch:=omega)only[go_sem, *]
      refine Wb_dec (fun hc2=>?_) (fun hc2=>?_)
      · simp (disch:=omega)only[go_sem, *]
        refine Wb_dec (fun hc3=>?_) (fun hc3=>?_)
        · simp (disch:=omega)only[go_sem, *]
          simp only [false_eq_decide_iff]
          exact eq_no (i:=i) (by omega) (fun h=>hc3 (((Run.eq _ _).1 h)))
        · have he:=(Run.eq (nth L i) (nth M i)).2 (Decidable.not_not.1 hc3)
          simp (disch:=omega)only[go_sem, *]
          refine ih _ _ _ ?_ ⟨i+1,rfl, ?_⟩
          · omega
          · simp (disch:=omega)only[go_sem, *]
            ((repeat' refine And.intro ?_ ?_)<;>first | omega | assumption | (exact eq_step (by omega) (by omega) hz he))
      · simp (disch:=omega)only[go_sem, *]
        simp only [true_eq_decide_iff]
        rw [List.take_of_length_le (by omega),List.take_of_length_le (by omega)] at hz
        exact hz
    · simp (disch:=omega)only[go_sem, *]
      first | done | simp
theorem refSame_ev {L M:List Run}:Pf tp i_Q19 [.fl 2 (L.map Run.enc),.fl 2 (M.map Run.enc)] (.b (decide (L=M))):=by
  refine Pf_go fn_Q19 (by simp [t_Q19]) fun rp=>?_;unfold t_Q19;simp (disch:=omega)only[go_sem, *]
  have hL:=rp.head.len
  have hM:=rp.tail.head.len
  refine Wb_dec (fun hc=>?_) (fun hc=>?_)
  · simp (disch:=omega)only[go_sem, *]
    simp only [false_eq_decide_iff]
    rintro rfl;exact hc rfl
  · simp (disch:=omega)only[go_sem, *]
    refine ZC_loop_n (fun n e h=>∃ (i:Nat),n=L.length - i∧h.lim=0∧e 0=.fl 2 (L.map Run.enc)∧e 1=.fl 2 (M.map Run.enc)∧e 12=.i .i64 L.length∧e 13=.i .i64 i∧i≤L.length∧L.take i=M.take i) ?_ _ _ _ ⟨0,rfl, ?_⟩
    · rintro n e h ⟨i,rfl,hl,e0,e1,e12,e13,hi,hz⟩ ih
      rw [ZC_unf Q19_9.eq_1]
      simp (disch:=omega)only[go_sem, *]
      refine Wb_dec (fun hc2=>?_) (fun hc2=>?_)
      · simp (disch:=omega)only[go_sem, *]
        refine Wb_dec (fun hc3=>?_) (fun hc3=>?_)
        · simp (disch:=omega)only[go_sem, *]
          simp only [false_eq_decide_iff]
          exact eq_no (i:=i) (by omega) (fun h=>hc3 (((Run.eq _ _).1 h)))
        · have he:=(Run.eq (nth L i) (nth M i)).2 (Decidable.not_not.1 hc3)
          simp (disch:=omega)only[go_sem, *]
          refine ih _ _ _ ?_ ⟨i+1,rfl, ?_⟩
          · omega
          · simp (disch:=omega)only[go_sem, *]
            ((repeat' refine And.intro ?_ ?_)<;>first | omega | assumption | (exact eq_step (by omega) (by omega) hz he))
      · simp (disch:=omega)only[go_sem, *]
        simp only [true_eq_decide_iff]
        rw [List.take_of_length_le (by omega),List.take_of_length_le (by omega)] at hz
        exact hz
    · simp (disch:=omega)only[go_sem, *]
      first | done | simp
theorem rsame3_ev {L M:List Run}:Pf tp i_Q114 [.fl 2 (L.map Run.enc),.fl 2 (M.map Run.enc)] (.b (decide (L=M))):=by
  refine Pf_go fn_Q114 (by simp [t_Q114]) fun rp=>?_;unfold t_Q114;simp (disch:=omega)only[go_sem, *]
  refine Pf.go (equalRun_ev) (by simp only [go_sem]) fun _=>?_;simp (disch:=omega)only[go_sem, *]
theorem tk_bd (p:Int):∀ {L:List Run},AllPos L→0≤tk p L∧tk p L≤sumN L
  | [],_=>by simp [tk,sumN]
  | r::l,h=>by
    have:=tk_bd p (L:=l) (fun q hq=>h q (List.mem_cons_of_mem _ hq))
    have:=h r (List.mem_cons_self ..)
    simp only [tk,sumN];split<;>omega
theorem AllPos.drop {L:List Run} (h:AllPos L) (k:Nat):AllPos (L.drop k):=fun r hr=>h r (List.mem_of_mem_drop hr)
theorem ticks_ev {L:List Run} {p:Int} (hf:Frm L):Pf tp i_Q125 [.fl 2 (L.map Run.enc),.i .i64 p] (.i .i64 (tk p L)):=by
  refine Pf_go fn_Q125 (by simp [t_Q125]) fun rp=>?_;unfold t_Q125;simp (disch:=omega)only[go_sem, *]
  have hL:=rp.head.len
  have hb:=(tk_bd p hf.1).2
  have hs:=hf.2
  refine ZC_loop_n (fun n e h=>∃ (i:Nat) (a:Int),n=L.length - i∧h.lim=0∧e 8=.fl 2 (L.map Run.enc)∧e 9=.i .i64 L.length∧e 10=.i .i64 i∧e 1=.i .i64 p∧e 5=.i .i64 a∧i≤L.length∧0≤a∧tk p L=a+tk p (L.drop i)) ?_ _ _ _ ⟨0,0,rfl, ?_⟩
  · rintro n e h ⟨i,a,rfl,hl,e8,e9,e10,e1,e5,hi,ha,hz⟩ ih
    rw [ZC_unf Q125_8.eq_1]
    simp (disch:=omega)only[go_sem, *]
    refine Wb_dec (fun hc=>?_) (fun hc=>?_)
    · have hn:=hf.1.nth (i:=i) (by omega)
      have h2:=(tk_bd p (hf.1.drop (i+1))).1
      rw [drop_nth (by omega),tk] at hz
      simp (disch:=omega)only[go_sem, *]
      refine Wb_dec (fun hc2=>?_) (fun hc2=>?_)
      · rw [if_pos hc2] at hz
        have he:=addR_sum (a:=a) (b:=(nth L i).n) ha (by omega) (by omega)
        simp (disch:=omega)only[go_sem, *]
        refine Pf.go (add_ev (by omega) (by omega)) (by simp only [go_sem]) fun _=>?_;simp (disch:=omega)only[go_sem, *]
        refine ih _ _ _ ?_ ⟨i+1,a+(nth L i).n,rfl, ?_⟩
        · omega
        · simp (disch:=omega)only[go_sem, *]
          ((repeat' refine And.intro ?_ ?_)<;>first | omega | assumption)
      · rw [if_neg hc2] at hz
        simp (disch:=omega)only[go_sem, *]
        refine ih _ _ _ ?_ ⟨i+1,a,rfl, ?_⟩
        · omega
        · simp (disch:=omega)only[go_sem, *]
          ((repeat' refine And.intro ?_ ?_)<;>first | omega | assumption)
    · rw [List.drop_eq_nil_of_le (by omega),tk,Int.add_zero] at hz
      simp (disch:=omega)only[go_sem, *]
  · simp (disch:=omega)only[go_sem, *]
    simp
theorem refTicks_ev {L:List Run} {p:Int} (hf:Frm L):Pf tp i_Q8 [.fl 2 (L.map Run.enc),.i .i64 p] (.i .i64 (tk p L)):=by
  refine Pf_go fn_Q8 (by simp [t_Q8]) fun rp=>?_;unfold t_Q8;simp (disch:=omega)only[go_sem, *]
  have hL:=rp.head.len
  have hb:=(tk_bd p hf.1).2
  have hs:=hf.2
  refine ZC_loop_n (fun n e h=>∃ (i:Nat) (a:Int),n=L.length - i∧h.lim=0∧e 8=.fl 2 (L.map Run.enc)∧e 9=.i .i64 L.length∧e 10=.i .i64 i∧e 1=.i .i64 p∧e 5=.i .i64 a∧i≤L.length∧0≤a∧tk p L=a+tk p (L.drop i)) ?_ _ _ _ ⟨0,0,rfl, ?_⟩
  · rintro n e h ⟨i,a,rfl,hl,e8,e9,e10,e1,e5,hi,ha,hz⟩ ih
    rw [ZC_unf Q8_8.eq_1]
    simp (disch:=omega)only[go_sem, *]
    refine Wb_dec (fun hc=>?_) (fun hc=>?_)
    · have hn:=hf.1.nth (i:=i) (by omega)
      have h2:=(tk_bd p (hf.1.drop (i+1))).1
      rw [drop_nth (by omega),tk] at hz
      simp (disch:=omega)only[go_sem, *]
      refine Wg_dec (fun hc2=>?_) (fun hc2=>?_)
      · rw [if_pos hc2] at hz
        have he:=addR_sum (a:=a) (b:=(nth L i).n) ha (by omega) (by omega)
        have hd:decide (0<(nth L i).n)=true:=by simp;omega
        simp (disch:=omega)only[go_sem, *]
        refine Pf.go (sum_ev (by omega) (by omega)) (by simp only [go_sem]) fun _=>?_;simp (disch:=omega)only[go_sem, *]
        refine ih _ _ _ ?_ ⟨i+1,a+(nth L i).n,rfl, ?_⟩
        · omega
        · simp (disch:=omega)only[go_sem, *]
          ((repeat' refine And.intro ?_ ?_)<;>first | omega | assumption)
      · rw [if_neg hc2] at hz
        simp (disch:=omega)only[go_sem, *]
        refine ih _ _ _ ?_ ⟨i+1,a,rfl, ?_⟩
        · omega
        · simp (disch:=omega)only[go_sem, *]
          ((repeat' refine And.intro ?_ ?_)<;>first | omega | assumption)
    · rw [List.drop_eq_nil_of_le (by omega),tk,Int.add_zero] at hz
      simp (disch:=omega)only[go_sem, *]
  · simp (disch:=omega)only[go_sem, *]
    simp
def runB (r:Run):Bool:=decide (1≤r.n∧r.n≤4096∧-1≤r.part∧r.part<6)
def frameB (L:List Run):Bool:=L.all runB&&decide (0<L.length∧L.length≤96∧sumN L≤4096)
theorem frameB_no {L:List Run} {i:Nat} (hi:i<L.length) (h:runB (nth L i)=false):frameB L=false:=by
  have:L.all runB=false:=by rw [List.all_eq_false];exact ⟨_,nth_mem hi,by simp [h]⟩
  simp [frameB,this]
theorem all_take {α:Type} [Inhabited α] {L:List α} {P:α→Bool} {i:Nat} (hi:i<L.length) (h:(L.take i).all P=true) (hp:P (nth L i)=true):(L.take (i+1)).all P=true:=by
  rw [List.take_add_one,nth_get hi];simp only [Option.toList_some,List.all_append,h,List.all_cons,hp,List.all_nil,Bool.and_self]
theorem part3_ev {p:Int}:Pf tp i_Q90 [.i .i64 p] (.b (decide (-1≤p∧p<6))):=by
  refine Pf_go fn_Q90 (by simp [t_Q90]) fun rp=>?_;unfold t_Q90;simp (disch:=omega)only[go_sem, *]
  repeat' (first | (refine Wg_dec (fun hc=>?_) (fun hc=>?_)<;>simp (disch:=omega)only[go_sem, *]) | (refine Wb_dec (fun hc=>?_) (fun hc=>?_)<;>simp (disch:=omega)only[go_sem, *]))
  all_goals ((repeat' refine And.intro ?_ ?_)<;>first | omega | assumption | (grind))
theorem frameB_all {L:List Run} (h:L.all runB=true):frameB L=decide (0<L.length∧L.length≤96∧sumN L≤4096):=by rw [frameB,h,Bool.true_and]
theorem right3_ev {L:List Run}:Pf tp i_Q54 [.fl 2 (L.map Run.enc)] (.b (frameB L)):=by
  refine Pf_go fn_Q54 (by simp [t_Q54]) fun rp=>?_;unfold t_Q54;simp (disch:=omega)only[go_sem, *]
  have hL:=rp.head.len
  refine ZC_loop_n (fun n e h=>∃ (i:Nat),n=L.length - i∧h.lim=0∧e 6=.fl 2 (L.map Run.enc)∧e 7=.i .i64 L.length∧e 8=.i .i64 i∧e 0=.fl 2 (L.map Run.enc)∧e 3=.i .i64 (sumN (L.take i))∧i≤L.length∧(L.take i).all runB=true∧0≤sumN (L.take i)∧sumN (L.take i)≤4096*i) ?_ _ _ _ ⟨0,rfl, ?_⟩
  · rintro n e h ⟨i,rfl,hl,e6,e7,e8,e0,e3,hi,hz,h0,h1⟩ ih
    rw [ZC_unf Q54_9.eq_1]
    simp (disch:=omega)only[go_sem, *]
    refine Wb_dec (fun hc=>?_) (fun hc=>?_)
    · have hs:sumN (L.take (i+1))=sumN (L.take i)+(nth L i).n:=sumN_take L i (by omega)
      simp (disch:=omega)only[go_sem, *]
      repeat' (first | (refine Wg_dec (fun hc=>?_) (fun hc=>?_)<;>simp (disch:=omega)only[go_sem, *]) | (refine Wb_dec (fun hc=>?_) (fun hc=>?_)<;>simp (disch:=omega)only[go_sem, *]) | (refine Wg_of (fun hc=>?_) (fun hc=>?_)<;>simp (disch:=omega)only[go_sem, *]) | (refine Wb_of (fun hc=>?_) (fun hc=>?_)<;>simp (disch:=omega)only[go_sem, *]) | (refine Pf.go (part3_ev) (by simp only [go_sem]) fun _=>?_;simp (disch:=omega)only[go_sem, *]))
      all_goals
        first
          | (have hn := frameB_no (L := L) (i := i) (by omega) (by unfold runB; grind)
             rw [hn])
          | skip
      have hr:runB (nth L i)=true:=by unfold runB;grind
      refine ih _ _ _ ?_ ⟨i+1,rfl, ?_⟩
      · omega
      · simp (disch:=omega)only[go_sem, *]
        ((repeat' refine And.intro ?_ ?_)<;>first | omega | assumption | (exact all_take (by omega) hz hr))
    · have hiL:i=L.length:=by omega
      rw [hiL,List.take_length] at hz h0 h1
      have e:=frameB_all hz
      have hl2:L.take i=L:=by rw [hiL,List.take_length]
      rw [hl2] at e3
      clear hz hl2 hiL h1
      simp (disch:=omega)only[go_sem, *]
      repeat' (first | (refine Wg_dec (fun hc=>?_) (fun hc=>?_)<;>simp (disch:=omega)only[go_sem, *]) | (refine Wb_dec (fun hc=>?_) (fun hc=>?_)<;>simp (disch:=omega)only[go_sem, *]))
      all_goals ((repeat' refine And.intro ?_ ?_)<;>first | omega | assumption | (grind))
  · simp (disch:=omega)only[go_sem, *]
    first | (simp [sumN];done) | (simp [sumN];rfl)
theorem refRuns_ev {L:List Run}:Pf tp i_Q82 [.fl 2 (L.map Run.enc)] (.b (frameB L)):=by
  refine Pf_go fn_Q82 (by simp [t_Q82]) fun rp=>?_;unfold t_Q82;simp (disch:=omega)only[go_sem, *]
  have hL:=rp.head.len
  refine ZC_loop_n (fun n e h=>∃ (i:Nat),n=L.length - i∧h.lim=0∧e 6=.fl 2 (L.map Run.enc)∧e 7=.i .i64 L.length∧e 8=.i .i64 i∧e 0=.fl 2 (L.map Run.enc)∧e 3=.i .i64 (min (sumN (L.take i)) 4097)∧i≤L.length∧(L.take i).all runB=true∧0≤sumN (L.take i)∧sumN (L.take i)≤4096*i) ?_ _ _ _ ⟨0,rfl, ?_⟩
  · rintro n e h ⟨i,rfl,hl,e6,e7,e8,e0,e3,hi,hz,h0,h1⟩ ih
    rw [ZC_unf Q82_9.eq_1]
    simp (disch:=omega)only[go_sem, *]
    refine Wb_dec (fun hc=>?_) (fun hc=>?_)
    · have hs:sumN (L.take (i+1))=sumN (L.take i)+(nth L i).n:=sumN_take L i (by omega)
      simp (disch:=omega)only[go_sem, *]
      repeat' (first | (refine Wg_dec (fun hc=>?_) (fun hc=>?_)<;>simp (disch:=omega)only[go_sem, *]) | (refine Wb_dec (fun hc=>?_) (fun hc=>?_)<;>simp (disch:=omega)only[go_sem, *]) | (refine Wg_of (fun hc=>?_) (fun hc=>?_)<;>simp (disch:=omega)only[go_sem, *]) | (refine Wb_of (fun hc=>?_) (fun hc=>?_)<;>simp (disch:=omega)only[go_sem, *]) | (refine Pf.go (part3_ev) (by simp only [go_sem]) fun _=>?_;simp (disch:=omega)only[go_sem, *]))
      all_goals
        first
          | (have hn := frameB_no (L := L) (i := i) (by omega) (by unfold runB; grind)
             rw [hn])
          | skip
      have hr:runB (nth L i)=true:=by unfold runB;grind
      refine ih _ _ _ ?_ ⟨i+1,rfl, ?_⟩
      · omega
      · simp (disch:=omega)only[go_sem, *]
        ((repeat' refine And.intro ?_ ?_)<;>first | omega | assumption | (exact all_take (by omega) hz hr) | ((congr 1;omega)))
    · have hiL:i=L.length:=by omega
      rw [hiL,List.take_length] at hz h0 h1
      have e:=frameB_all hz
      have hl2:L.take i=L:=by rw [hiL,List.take_length]
      rw [hl2] at e3
      clear hz hl2 hiL h1
      simp (disch:=omega)only[go_sem, *]
      repeat' (first | (refine Wg_dec (fun hc=>?_) (fun hc=>?_)<;>simp (disch:=omega)only[go_sem, *]) | (refine Wb_dec (fun hc=>?_) (fun hc=>?_)<;>simp (disch:=omega)only[go_sem, *]))
      all_goals ((repeat' refine And.intro ?_ ?_)<;>first | omega | assumption | (grind))
  · simp (disch:=omega)only[go_sem, *]
    first | (simp [sumN];done) | (simp [sumN];rfl)
def projL (L:List Run) (a b:Int):List Run:=L.filter (fun r=>decide (r.part=a∨r.part=b))
def projR (L:List Run) (a b:Int):List Run:=tidyGo (projL L a b) []
theorem proj_pos {L:List Run} {a b:Int} (h:AllPos L):AllPos (projL L a b):=fun r hr=>h r (List.mem_filter.1 hr).1
theorem proj_sum {a b:Int}:∀ {L:List Run},AllPos L→sumN (projL L a b)≤sumN L
  | [],_=>by simp [projL,sumN]
  | r::l,h=>by
    have:=proj_sum (a:=a) (b:=b) (L:=l) (fun q hq=>h q (List.mem_cons_of_mem _ hq))
    have:=h r (List.mem_cons_self ..)
    simp only [projL,List.filter_cons] at *
    split<;>simp only [sumN]<;>omega
theorem proj_frm {L:List Run} {a b:Int} (h:Frm L):Frm (projL L a b):=⟨proj_pos h.1,Int.le_trans (proj_sum h.1) h.2⟩
theorem wproj_ev {L:List Run} {a b:Int} (hf:Frm L):Pf tp i_Q124 [.fl 2 (L.map Run.enc),.i .i64 a,.i .i64 b] (.fl 2 ((projR L a b).map Run.enc)):=by
  refine Pf_go fn_Q124 (by simp [t_Q124]) fun rp=>?_;unfold t_Q124;simp (disch:=omega)only[go_sem, *]
  have hL:=rp.head.len
  have hp:=(proj_frm (a:=a) (b:=b) hf).ok
  refine ZC_loop_n (fun n e h=>∃ (i:Nat) (out:V) (A:List Run),n=L.length - i∧h.lim=0∧e 10=.fl 2 (L.map Run.enc)∧e 11=.i .i64 L.length∧e 12=.i .i64 i∧e 1=.i .i64 a∧e 2=.i .i64 b∧e 7=out∧i≤L.length∧A.length≤i∧Sl 0 h 2 out (A.map Run.enc)∧A++projL (L.drop i) a b=projL L a b) ?_ _ _ _ ⟨0,.ns,[],rfl, ?_⟩
  · rintro n e h ⟨i,out,A,rfl,hl,e10,e11,e12,e1,e2,e7,hi,hA,so,hz⟩ ih
    rw [ZC_unf Q124_8.eq_1]
    simp (disch:=omega)only[go_sem, *]
    obtain ⟨olen,obig,olt,olo,oget,oat,orow,ocell,ocells⟩:=so.facts
    refine Wb_dec (fun hc=>?_) (fun hc=>?_)
    · rw [drop_nth (by omega),projL,List.filter_cons] at hz
      simp (disch:=omega)only[go_sem, *]
      have x1:Ext h ((h.alloc ⟨2,[[.i .i64 0,.i .i64 0]]⟩).put h.next ⟨2,[[.i .i64 (nth L i).part,.i .i64 (nth L i).n]]⟩):=by (repeat (first | exact Ext.refl _ | refine Ext.alloc ?_ _ | (refine Ext.put ?_ _ _ ?_;rotate_left;(first | omega | (simp only [next_alloc,next_put];omega)))))
      repeat' (first | (refine Wg_dec (fun hc=>?_) (fun hc=>?_)<;>simp (disch:=omega)only[go_sem, *]) | (refine Wb_dec (fun hc=>?_) (fun hc=>?_)<;>simp (disch:=omega)only[go_sem, *]))
      · rw [if_pos (by simp;omega)] at hz
        rw [hc] at x1
        refine app_rule (R:=A.map Run.enc) ((so.ext x1).alloc _) (by simp only [go_sem, *]) (Nat.zero_le _) (by simp;omega) ?_
        intro w h4 s4 g4
        have hl4:=g4.lim
        simp (disch:=omega)only[go_sem, *]
        refine ih _ _ _ ?_ ⟨i+1,w,A++[nth L i],rfl, ?_⟩
        · omega
        · simp (disch:=omega)only[go_sem, *]
          ((repeat' refine And.intro ?_ ?_)<;>first | omega | assumption | (simp;omega) | (simpa [Run.enc,hc] using s4) | ((rw [← hz];simp [projL])))
      · rw [if_pos (by simp;omega)] at hz
        rw [hc] at x1
        refine app_rule (R:=A.map Run.enc) ((so.ext x1).alloc _) (by simp only [go_sem, *]) (Nat.zero_le _) (by simp;omega) ?_
        intro w h4 s4 g4
        have hl4:=g4.lim
        simp (disch:=omega)only[go_sem, *]
        refine ih _ _ _ ?_ ⟨i+1,w,A++[nth L i],rfl, ?_⟩
        · omega
        · simp (disch:=omega)only[go_sem, *]
          ((repeat' refine And.intro ?_ ?_)<;>first | omega | assumption | (simp;omega) | (simpa [Run.enc,hc] using s4) | ((rw [← hz];simp [projL])))
      · rw [if_neg (by simp;omega)] at hz
        refine ih _ _ _ ?_ ⟨i+1,out,A,rfl, ?_⟩
        · omega
        · simp (disch:=omega)only[go_sem, *]
          ((repeat' refine And.intro ?_ ?_)<;>first | omega | assumption | (exact so.ext x1) | (exact hz))
    · rw [List.drop_eq_nil_of_le (by omega),projL,List.filter_nil,List.append_nil] at hz
      subst hz
      simp (disch:=omega)only[go_sem, *]
      refine Pf.take [idV out] (tidy_ev (by assumption)) (.cons _ _ _ _ _ (so.froze (fun _=>rfl) (by simp) (by omega)) (.nil _)) fun _=>?_
      simp (disch:=omega)only[go_sem, *]
      rfl
  · simp (disch:=omega)only[go_sem, *]
    exact Sl.nil _ _ _
theorem rproj_ev {L:List Run} {a b:Int} (hf:Frm L):Pf tp i_Q77 [.fl 2 (L.map Run.enc),.i .i64 a,.i .i64 b] (.fl 2 ((projR L a b).map Run.enc)):=by
  refine Pf_go fn_Q77 (by simp [t_Q77]) fun rp=>?_;unfold t_Q77;simp (disch:=omega)only[go_sem, *]
  have hL:=rp.head.len
  have hp:=(proj_frm (a:=a) (b:=b) hf).ok
  refine ZC_loop_n (fun n e h=>∃ (i:Nat) (out:V) (A:List Run),n=L.length - i∧h.lim=0∧e 10=.fl 2 (L.map Run.enc)∧e 11=.i .i64 L.length∧e 12=.i .i64 i∧e 1=.i .i64 a∧e 2=.i .i64 b∧e 7=out∧i≤L.length∧A.length≤i∧Sl 0 h 2 out (A.map Run.enc)∧A++projL (L.drop i) a b=projL L a b) ?_ _ _ _ ⟨0,.ns,[],rfl, ?_⟩
  · rintro n e h ⟨i,out,A,rfl,hl,e10,e11,e12,e1,e2,e7,hi,hA,so,hz⟩ ih
    rw [ZC_unf Q77_8.eq_1]
    simp (disch:=omega)only[go_sem, *]
    obtain ⟨olen,obig,olt,olo,oget,oat,orow,ocell,ocells⟩:=so.facts
    refine Wb_dec (fun hc=>?_) (fun hc=>?_)
    · rw [drop_nth (by omega),projL,List.filter_cons] at hz
      simp (disch:=omega)only[go_sem, *]
      have x1:Ext h ((h.alloc ⟨2,[[.i .i64 0,.i .i64 0]]⟩).put h.next ⟨2,[[.i .i64 (nth L i).part,.i .i64 (nth L i).n]]⟩):=by (repeat (first | exact Ext.refl _ | refine Ext.alloc ?_ _ | (refine Ext.put ?_ _ _ ?_;rotate_left;(first | omega | (simp only [next_alloc,next_put];omega)))))
      repeat' (first | (refine Wg_dec (fun hc=>?_) (fun hc=>?_)<;>simp (disch:=omega)only[go_sem, *]) | (refine Wb_dec (fun hc=>?_) (fun hc=>?_)<;>simp (disch:=omega)only[go_sem, *]))
      · rw [if_pos (by simp;omega)] at hz
        rw [hc] at x1
        refine app_rule (R:=A.map Run.enc) ((so.ext x1).alloc _) (by simp only [go_sem, *]) (Nat.zero_le _) (by simp;omega) ?_
        intro w h4 s4 g4
        have hl4:=g4.lim
        simp (disch:=omega)only[go_sem, *]
        refine ih _ _ _ ?_ ⟨i+1,w,A++[nth L i],rfl, ?_⟩
        · omega
        · simp (disch:=omega)only[go_sem, *]
          ((repeat' refine And.intro ?_ ?_)<;>first | omega | assumption | (simp;omega) | (simpa [Run.enc,hc] using s4) | ((rw [← hz];simp [projL])))
      · rw [if_pos (by simp;omega)] at hz
        rw [hc] at x1
        refine app_rule (R:=A.map Run.enc) ((so.ext x1).alloc _) (by simp only [go_sem, *]) (Nat.zero_le _) (by simp;omega) ?_
        intro w h4 s4 g4
        have hl4:=g4.lim
        simp (disch:=omega)only[go_sem, *]
        refine ih _ _ _ ?_ ⟨i+1,w,A++[nth L i],rfl, ?_⟩
        · omega
        · simp (disch:=omega)only[go_sem, *]
          ((repeat' refine And.intro ?_ ?_)<;>first | omega | assumption | (simp;omega) | (simpa [Run.enc,hc] using s4) | ((rw [← hz];simp [projL])))
      · rw [if_neg (by simp;omega)] at hz
        refine ih _ _ _ ?_ ⟨i+1,out,A,rfl, ?_⟩
        · omega
        · simp (disch:=omega)only[go_sem, *]
          ((repeat' refine And.intro ?_ ?_)<;>first | omega | assumption | (exact so.ext x1) | (exact hz))
    · rw [List.drop_eq_nil_of_le (by omega),projL,List.filter_nil,List.append_nil] at hz
      subst hz
      simp (disch:=omega)only[go_sem, *]
      refine Pf.take [idV out] (refTidy_ev (by assumption)) (.cons _ _ _ _ _ (so.froze (fun _=>rfl) (by simp) (by omega)) (.nil _)) fun _=>?_
      simp (disch:=omega)only[go_sem, *]
      rfl
  · simp (disch:=omega)only[go_sem, *]
    exact Sl.nil _ _ _
end Go.Ab.T
namespace Go.Ab.T
open Go Go.Ab
set_option maxHeartbeats 1000000
/-! Who depends on whom: a square of yes and no. -/
@[go_sem] def encBl (b:Bool):List V:=[.b b]
@[go_sem] def encM (r:List Bool):List V:=[.fl 1 (r.map encBl)]
def matB (M:List (List Bool)) (a b:Int):Bool:=decide (0≤a∧0≤b∧a<M.length∧b<(nth M a.toNat).length)&&nth (nth M a.toNat) b.toNat
def depB (M:List (List Bool)) (a b:Int):Bool:=decide (a=b)||(matB M a b||matB M b a)
def Sq (M:List (List Bool)):Prop:=∀ i,i<M.length→(nth M i).length=M.length
theorem wto_ev {M:List (List Bool)} {a b:Int}:Pf tp i_Q138 [.fl 1 (M.map encM),.i .i64 a,.i .i64 b] (.b (matB M a b)):=by
  refine Pf_go fn_Q138 (by simp [t_Q138]) fun rp=>?_;unfold t_Q138;simp (disch:=omega)only[go_sem, *]
  have key:∀ P:Prop,¬ P→((0≤a∧0≤b∧a<M.length∧b<(nth M a.toNat).length)→P)→matB M a b=false:=fun P h1 h2=>by
    unfold matB;rw [decide_eq_false (fun h=>h1 (h2 h)),Bool.false_and]
  refine Wg_dec (fun hc=>?_) (fun hc=>?_)
  · simp (disch:=omega)only[go_sem, *]
    refine Wg_dec (fun hc1=>?_) (fun hc1=>?_)
    · simp (disch:=omega)only[go_sem, *]
      refine Wg_dec (fun hc2=>?_) (fun hc2=>?_)
      · have hra:=Rep.len (L:=nth M a.toNat) (enc:=encBl) (s:=1) ((rp.head.row (row:=encM (nth M a.toNat)) (List.mem_map.2 ⟨_,nth_mem (by omega),rfl⟩)).head)
        simp (disch:=omega)only[go_sem, *]
        refine Wg_dec (fun hc3=>?_) (fun hc3=>?_)
        · simp (disch:=omega)only[go_sem, *]
          have e:matB M a b=nth (nth M a.toNat) b.toNat:=by unfold matB;rw [decide_eq_true ⟨by omega,by omega,by omega,by omega⟩,Bool.true_and]
          simp (disch:=omega)only[go_sem, *]
        · have e:=key _ hc3 (fun h=>by omega)
          simp (disch:=omega)only[go_sem, *]
      · have e:=key _ hc2 (fun h=>by omega)
        simp (disch:=omega)only[go_sem, *]
    · have e:=key _ hc1 (fun h=>by omega)
      simp (disch:=omega)only[go_sem, *]
  · have e:=key _ hc (fun h=>by omega)
    simp (disch:=omega)only[go_sem, *]
theorem wdep_ev {M:List (List Bool)} {a b:Int}:Pf tp i_Q122 [.fl 1 (M.map encM),.i .i64 a,.i .i64 b] (.b (depB M a b)):=by
  refine Pf_go fn_Q122 (by simp [t_Q122]) fun rp=>?_;unfold t_Q122;simp (disch:=omega)only[go_sem, *]
  repeat' (first | (refine Wg_dec (fun hc=>?_) (fun hc=>?_)<;>simp (disch:=omega)only[go_sem, *]) | (refine Wb_dec (fun hc=>?_) (fun hc=>?_)<;>simp (disch:=omega)only[go_sem, *]) | (refine Wg_of (fun hc=>?_) (fun hc=>?_)<;>simp (disch:=omega)only[go_sem, *]) | (refine Wb_of (fun hc=>?_) (fun hc=>?_)<;>simp (disch:=omega)only[go_sem, *]) | (refine Pf.go (wto_ev) (by simp only [go_sem]) fun _=>?_;simp (disch:=omega)only[go_sem, *]))
  all_goals simp_all [depB]
theorem depB_no {M:List (List Bool)} (hq:Sq M) {a b:Int} (h:¬ a=b) {P:Prop} (hp:¬ P) (i:(0≤a∧0≤b∧a<M.length∧b<M.length)→P):depB M a b=false:=by
  have e:∀ x y:Int,¬ (0≤x∧0≤y∧x<M.length∧y<M.length)→matB M x y=false:=fun x y hn=>by
    unfold matB
    by_cases hx:0≤x∧x<M.length
    · have:=hq x.toNat (by omega)
      rw [decide_eq_false (by omega),Bool.false_and]
    · rw [decide_eq_false (by omega),Bool.false_and]
  unfold depB
  rw [decide_eq_false h,e a b (fun k=>hp (i k)),e b a (fun k=>hp (i ⟨k.2.1,k.1,k.2.2.2,k.2.2.1⟩))];rfl
theorem rdep_ev {M:List (List Bool)} {a b:Int} (hq:Sq M):Pf tp i_Q76 [.fl 1 (M.map encM),.i .i64 a,.i .i64 b] (.b (depB M a b)):=by
  refine Pf_go fn_Q76 (by simp [t_Q76]) fun rp=>?_;unfold t_Q76;simp (disch:=omega)only[go_sem, *]
  refine Wb_dec (fun hc=>?_) (fun hc=>?_)
  · simp (disch:=omega)only[go_sem, *]
    simp [depB]
  · have key:=fun P=>depB_no hq hc (P:=P)
    simp (disch:=omega)only[go_sem, *]
    refine Wg_dec (fun hc1=>?_) (fun hc1=>?_)
    · simp (disch:=omega)only[go_sem, *]
      refine Wg_dec (fun hc2=>?_) (fun hc2=>?_)
      · simp (disch:=omega)only[go_sem, *]
        refine Wg_dec (fun hc3=>?_) (fun hc3=>?_)
        · simp (disch:=omega)only[go_sem, *]
          refine Wg_dec (fun hc4=>?_) (fun hc4=>?_)
          · have ha:=hq a.toNat (by omega)
            have hb:=hq b.toNat (by omega)
            have e:depB M a b=(nth (nth M a.toNat) b.toNat||nth (nth M b.toNat) a.toNat):=by
              unfold depB matB
              rw [decide_eq_false hc,decide_eq_true ⟨by omega,by omega,by omega,by omega⟩,decide_eq_true ⟨by omega,by omega,by omega,by omega⟩];rfl
            clear key hq
            simp (disch:=omega)only[go_sem, *]
            refine Wg_of (fun hc5=>?_) (fun hc5=>?_)
            · rw [hc5] at e
              simp (disch:=omega)only[go_sem, *]
              rfl
            · have hc5:nth (nth M a.toNat) b.toNat=false:=by simpa using hc5
              rw [hc5] at e
              simp (disch:=omega)only[go_sem, *]
              simp
          · have e:=key _ hc4 (fun h=>by omega)
            clear key hq
            simp (disch:=omega)only[go_sem, *]
        · have e:=key _ hc3 (fun h=>by omega)
          clear key hq
          simp (disch:=omega)only[go_sem, *]
      · have e:=key _ hc2 (fun h=>by omega)
        clear key hq
        simp (disch:=omega)only[go_sem, *]
    · have e:=key _ hc1 (fun h=>by omega)
      clear key hq
      simp (disch:=omega)only[go_sem, *]
def difAt (x y:List Run) (M:List (List Bool)) (a b:Int):Bool:=depB M a b&&!decide (projR x a b=projR y a b)
def difRow (x y:List Run) (M:List (List Bool)) (a:Int):Nat→Int→Option Int
  | 0,_=>none
  | f+1,b=>if difAt x y M a b=true then some b else difRow x y M a f (b+1)
def difRowA (x y:List Run) (M:List (List Bool)) (a:Int):Option Int:=difRow x y M a (6 - a).toNat a
def difAll (x y:List Run) (M:List (List Bool)):Nat→Int→Int×Int×Bool
  | 0,_=>(-1,-1,!decide (tk (-1) x=tk (-1) y))
  | f+1,a=>match difRowA x y M a with | some b=>(a,b,true) | none=>difAll x y M f (a+1)
def difR (x y:List Run) (M:List (List Bool)):Int×Int×Bool:=difAll x y M 6 0
theorem wdif_ev {x y:List Run} {M:List (List Bool)} (hx:Frm x) (hy:Frm y) (hq:Sq M):Pf tp i_Q89 [.fl 2 (x.map Run.enc),.fl 2 (y.map Run.enc),.fl 1 (M.map encM)] (.tup [.i .i64 (difR x y M).1,.i .i64 (difR x y M).2.1,.b (difR x y M).2.2]):=by
  refine Pf_go fn_Q89 (by simp [t_Q89]) fun rp=>?_;unfold t_Q89;simp (disch:=omega)only[go_sem, *]
  refine ZC_loop_n (fun n e h=>∃ (f:Nat) (a:Int),n=f∧h.lim=0∧e 0=.fl 2 (x.map Run.enc)∧e 1=.fl 2 (y.map Run.enc)∧e 2=.fl 1 (M.map encM)∧e 11=.i .i64 a∧0≤a∧a+f=6∧difR x y M=difAll x y M f a) ?_ _ _ _ ⟨6,0,rfl, ?_⟩
  · rintro n e h ⟨f,a,rfl,hl,e0,e1,e2,e11,ha,hb,hz⟩ ih
    rw [ZC_unf Q89_11.eq_1]
    simp (disch:=omega)only[go_sem, *]
    refine Wb_dec (fun hc=>?_) (fun hc=>?_)
    · cases n with
      | zero=>omega
      | succ f=>
        rw [difAll] at hz
        have ihA:=ih
        clear ih
        simp (disch:=omega)only[go_sem, *]
        refine ZC_loop_n (fun n e h=>∃ (g:Nat) (b:Int),n=g∧h.lim=0∧e 0=.fl 2 (x.map Run.enc)∧e 1=.fl 2 (y.map Run.enc)∧e 2=.fl 1 (M.map encM)∧e 11=.i .i64 a∧e 9=.i .i64 a∧e 10=.i .i64 b∧0≤b∧b+g=6∧difRowA x y M a=difRow x y M a g b) ?_ _ _ _ ⟨(6 - a).toNat,a,rfl, ?_⟩
        · rintro n e h ⟨g,b,rfl,hl,e0,e1,e2,e11,e9,e10,hb1,hc1,hd⟩ ih
          rw [ZC_unf Q89_9.eq_1]
          simp (disch:=omega)only[go_sem, *]
          refine Wb_dec (fun hc2=>?_) (fun hc2=>?_)
          · cases n with
            | zero=>omega
            | succ g=>
              rw [difRow] at hd
              have kk:difAt x y M a b=(depB M a b&&!decide (projR x a b=projR y a b)):=rfl
              clear ihA
              simp (disch:=omega)only[go_sem, *]
              refine Pf.go (wdep_ev) (by simp only [go_sem]) fun _=>?_;simp (disch:=omega)only[go_sem, *]
              refine Wg_of (fun hc3=>?_) (fun hc3=>?_)
              · simp (disch:=omega)only[go_sem, *]
                refine Pf.go (wproj_ev hx) (by simp only [go_sem]) fun _=>?_;simp (disch:=omega)only[go_sem, *]
                refine Pf.go (wproj_ev hy) (by simp only [go_sem]) fun _=>?_;simp (disch:=omega)only[go_sem, *]
                refine Pf.go (equalRun_ev) (by simp only [go_sem]) fun _=>?_;simp (disch:=omega)only[go_sem, *]
                refine Wb_dec (fun hc4=>?_) (fun hc4=>?_)
                · have kt:difAt x y M a b=true:=by simp [kk,hc3,hc4]
                  rw [kt,if_pos rfl] at hd
                  rw [hd] at hz
                  simp (disch:=omega)only[go_sem, *]
                · have kt:difAt x y M a b=false:=by rw [kk];simp_all
                  rw [kt,if_neg (by simp)] at hd
                  simp (disch:=omega)only[go_sem, *]
                  refine ih _ _ _ ?_ ⟨g,b+1,rfl, ?_⟩
                  · omega
                  · simp (disch:=omega)only[go_sem, *]
                    ((repeat' refine And.intro ?_ ?_)<;>first | omega | assumption)
              · have kt:difAt x y M a b=false:=by rw [kk];simp_all
                rw [kt,if_neg (by simp)] at hd
                simp (disch:=omega)only[go_sem, *]
                refine ih _ _ _ ?_ ⟨g,b+1,rfl, ?_⟩
                · omega
                · simp (disch:=omega)only[go_sem, *]
                  ((repeat' refine And.intro ?_ ?_)<;>first | omega | assumption)
          · cases n with
            | succ f=>omega
            | zero=>
              rw [difRow] at hd
              rw [hd] at hz
              clear ih
              simp (disch:=omega)only[go_sem, *]
              refine ihA _ _ _ ?_ ⟨f,a+1,rfl, ?_⟩
              · omega
              · simp (disch:=omega)only[go_sem, *]
                ((repeat' refine And.intro ?_ ?_)<;>first | omega | assumption)
        · simp (disch:=omega)only[go_sem, *]
          exact ⟨by omega,rfl⟩
    · cases n with
      | succ f=>omega
      | zero=>
        rw [difAll] at hz
        simp (disch:=omega)only[go_sem, *]
        refine Pf.go (ticks_ev hx) (by simp only [go_sem]) fun _=>?_;simp (disch:=omega)only[go_sem, *]
        refine Pf.go (ticks_ev hy) (by simp only [go_sem]) fun _=>?_;simp (disch:=omega)only[go_sem, *]
        skip
  · simp (disch:=omega)only[go_sem, *]
    exact ⟨by omega,rfl⟩
theorem rdif_ev {x y:List Run} {M:List (List Bool)} (hx:Frm x) (hy:Frm y) (hq:Sq M):Pf tp i_Q37 [.fl 2 (x.map Run.enc),.fl 2 (y.map Run.enc),.fl 1 (M.map encM)] (.tup [.i .i64 (difR x y M).1,.i .i64 (difR x y M).2.1,.b (difR x y M).2.2]):=by
  refine Pf_go fn_Q37 (by simp [t_Q37]) fun rp=>?_;unfold t_Q37;simp (disch:=omega)only[go_sem, *]
  refine ZC_loop_n (fun n e h=>∃ (f:Nat) (a:Int),n=f∧h.lim=0∧e 0=.fl 2 (x.map Run.enc)∧e 1=.fl 2 (y.map Run.enc)∧e 2=.fl 1 (M.map encM)∧e 9=.i .i64 a∧0≤a∧a+f=6∧difR x y M=difAll x y M f a) ?_ _ _ _ ⟨6,0,rfl, ?_⟩
  · rintro n e h ⟨f,a,rfl,hl,e0,e1,e2,e9,ha,hb,hz⟩ ih
    rw [ZC_unf Q37_10.eq_1]
    simp (disch:=omega)only[go_sem, *]
    refine Wb_dec (fun hc=>?_) (fun hc=>?_)
    · cases n with
      | zero=>omega
      | succ f=>
        rw [difAll] at hz
        have ihA:=ih
        clear ih
        simp (disch:=omega)only[go_sem, *]
        refine ZC_loop_n (fun n e h=>∃ (g:Nat) (b:Int),n=g∧h.lim=0∧e 0=.fl 2 (x.map Run.enc)∧e 1=.fl 2 (y.map Run.enc)∧e 2=.fl 1 (M.map encM)∧e 9=.i .i64 a∧e 9=.i .i64 a∧e 10=.i .i64 b∧0≤b∧b+g=6∧difRowA x y M a=difRow x y M a g b) ?_ _ _ _ ⟨(6 - a).toNat,a,rfl, ?_⟩
        · rintro n e h ⟨g,b,rfl,hl,e0,e1,e2,e9,e9,e10,hb1,hc1,hd⟩ ih
          rw [ZC_unf Q37_8.eq_1]
          simp (disch:=omega)only[go_sem, *]
          refine Wb_dec (fun hc2=>?_) (fun hc2=>?_)
          · cases n with
            | zero=>omega
            | succ g=>
              rw [difRow] at hd
              have kk:difAt x y M a b=(depB M a b&&!decide (projR x a b=projR y a b)):=rfl
              clear ihA
              simp (disch:=omega)only[go_sem, *]
              refine Pf.go ((rdep_ev hq)) (by simp only [go_sem]) fun _=>?_;simp (disch:=omega)only[go_sem, *]
              refine Wg_of (fun hc3=>?_) (fun hc3=>?_)
              · simp (disch:=omega)only[go_sem, *]
                refine Pf.go (rproj_ev hx) (by simp only [go_sem]) fun _=>?_;simp (disch:=omega)only[go_sem, *]
                refine Pf.go (rproj_ev hy) (by simp only [go_sem]) fun _=>?_;simp (disch:=omega)only[go_sem, *]
                refine Pf.go (refSame_ev) (by simp only [go_sem]) fun _=>?_;simp (disch:=omega)only[go_sem, *]
                refine Wb_dec (fun hc4=>?_) (fun hc4=>?_)
                · have kt:difAt x y M a b=true:=by simp [kk,hc3,hc4]
                  rw [kt,if_pos rfl] at hd
                  rw [hd] at hz
                  simp (disch:=omega)only[go_sem, *]
                · have kt:difAt x y M a b=false:=by rw [kk];simp_all
                  rw [kt,if_neg (by simp)] at hd
                  simp (disch:=omega)only[go_sem, *]
                  refine ih _ _ _ ?_ ⟨g,b+1,rfl, ?_⟩
                  · omega
                  · simp (disch:=omega)only[go_sem, *]
                    ((repeat' refine And.intro ?_ ?_)<;>first | omega | assumption)
              · have kt:difAt x y M a b=false:=by rw [kk];simp_all
                rw [kt,if_neg (by simp)] at hd
                simp (disch:=omega)only[go_sem, *]
                refine ih _ _ _ ?_ ⟨g,b+1,rfl, ?_⟩
                · omega
                · simp (disch:=omega)only[go_sem, *]
                  ((repeat' refine And.intro ?_ ?_)<;>first | omega | assumption)
          · cases n with
            | succ f=>omega
            | zero=>
              rw [difRow] at hd
              rw [hd] at hz
              clear ih
              simp (disch:=omega)only[go_sem, *]
              refine ihA _ _ _ ?_ ⟨f,a+1,rfl, ?_⟩
              · omega
              · simp (disch:=omega)only[go_sem, *]
                ((repeat' refine And.intro ?_ ?_)<;>first | omega | assumption)
        · simp (disch:=omega)only[go_sem, *]
          exact ⟨by omega,rfl⟩
    · cases n with
      | succ f=>omega
      | zero=>
        rw [difAll] at hz
        simp (disch:=omega)only[go_sem, *]
        refine Pf.go (refTicks_ev hx) (by simp only [go_sem]) fun _=>?_;simp (disch:=omega)only[go_sem, *]
        refine Pf.go (refTicks_ev hy) (by simp only [go_sem]) fun _=>?_;simp (disch:=omega)only[go_sem, *]
        skip
  · simp (disch:=omega)only[go_sem, *]
    exact ⟨by omega,rfl⟩
theorem wsame_ev {x y:List Run} {M:List (List Bool)} (hx:Frm x) (hy:Frm y) (hq:Sq M):Pf tp i_Q53 [.fl 2 (x.map Run.enc),.fl 2 (y.map Run.enc),.fl 1 (M.map encM)] (.b (!(difR x y M).2.2)):=by
  refine Pf_go fn_Q53 (by simp [t_Q53]) fun rp=>?_;unfold t_Q53;simp (disch:=omega)only[go_sem, *]
  refine Pf.go (wdif_ev hx hy hq) (by simp only [go_sem]) fun _=>?_;simp (disch:=omega)only[go_sem, *]
theorem rsame7_ev {x y:List Run} {M:List (List Bool)} (hx:Frm x) (hy:Frm y) (hq:Sq M):Pf tp i_Q6 [.fl 2 (x.map Run.enc),.fl 2 (y.map Run.enc),.fl 1 (M.map encM)] (.b (!(difR x y M).2.2)):=by
  refine Pf_go fn_Q6 (by simp [t_Q6]) fun rp=>?_;unfold t_Q6;simp (disch:=omega)only[go_sem, *]
  refine Pf.go (rdif_ev hx hy hq) (by simp only [go_sem]) fun _=>?_;simp (disch:=omega)only[go_sem, *]
end Go.Ab.T
namespace Go.Ab.T
open Go Go.Ab
set_option maxHeartbeats 4000000
structure MatH (b:Nat) (h:AH) (v:V) (n:Nat) (W:List (List V)) (F:List Nat) (M:List (List Bool)):Prop where
  out:Sl b h 1 v W
  len:M.length=F.length
  wl:F.length≤W.length
  pre:∀ i,i<F.length→nth W i=[V.sl (nth F i) 0 n n]
  row:∀ i,i<F.length→h.get (nth F i)=some ⟨1,(nth M i).map encBl⟩∧(nth M i).length=n∧b≤nth F i∧nth F i<h.next∧nth F i≠idV v
  dis:∀ i j,i<F.length→j<F.length→i≠j→nth F i≠nth F j
theorem nth_set {α:Type} [Inhabited α] {l:List α} {i j:Nat} {a:α} (hj:j<l.length):nth (l.set i a) j=if i=j then a else nth l j:=by
  by_cases h:i=j
  · subst h;rw [if_pos rfl];simp [nth,List.getD,hj]
  · rw [if_neg h];simp [nth,List.getD,List.getElem?_set_ne h]
theorem nth_app_l {α:Type} [Inhabited α] {l m:List α} {j:Nat} (hj:j<l.length):nth (l++m) j=nth l j:=by simp [nth,List.getD,List.getElem?_append_left hj]
theorem nth_app_r {α:Type} [Inhabited α] {l:List α} {a:α}:nth (l++[a]) l.length=a:=by simp [nth,List.getD]
section
variable {b n:Nat} {h h':AH} {v:V} {W:List (List V)} {F:List Nat} {M:List (List Bool)}
theorem MatH.keep (m:MatH b h v n W F M) (hn:h.next≤h'.next) (g:∀ i,b≤i→i<h.next→h'.get i=h.get i):MatH b h' v n W F M:=by
  refine ⟨?_,m.len,m.wl,m.pre,fun i hi=>?_,m.dis⟩
  · rcases m.out with h1 | ⟨id,el,cap,cs,rfl,a,c,d,e,f,g1,g2⟩
    · exact .inl h1
    · exact .inr ⟨id,el,cap,cs,rfl,(g id g1 f).trans a,c,d,e,by omega,g1,g2⟩
  · obtain ⟨a,c,d,e,f⟩:=m.row i hi
    exact ⟨(g _ d e).trans a,c,d,by omega,f⟩
theorem MatH.ext (m:MatH b h v n W F M) (x:Ext h h'):MatH b h' v n W F M:=m.keep x.next (fun i _ hi=>x.get i hi)
theorem MatH.set (m:MatH b h v n W F M) {a:Nat} (ha:a<F.length) {r:List Bool} (hr:r.length=n):MatH b (h.put (nth F a) ⟨1,r.map encBl⟩) v n W F (M.set a r):=by
  have hl:=m.len
  refine ⟨m.out.putx _ _ (m.row a ha).2.2.2.2,by simp [hl],m.wl,m.pre,fun i hi=>?_,m.dis⟩
  obtain ⟨h1,h2,h3,h4,h5⟩:=m.row i hi
  rw [get_put,nth_set (by omega)]
  by_cases e:a=i
  · subst e
    rw [if_pos rfl,gsel_eq rfl]
    exact ⟨rfl,hr,h3,h4,h5⟩
  · rw [if_neg e,gsel_ne (m.dis i a hi ha (Ne.symm e))]
    exact ⟨h1,h2,h3,h4,h5⟩
theorem MatH.push {h1 h4 : AH} {w : V} {r : List Bool} (m : MatH b h v n W F M) (hW : W.length = F.length) (hb : b ≤ h.next) (x : Ext h h1) (hlt : h.next < h1.next) (hg : h1.get h.next = some ⟨1, r.map encBl⟩) (hr : r.length = n)
    (s4:Sl b h4 1 w (W++[[.sl h.next 0 n n]])) (g4:Grown b h1 v w h4):MatH b h4 w n (W++[[.sl h.next 0 n n]]) (F++[h.next]) (M++[r]):=by
  have hl:=m.len
  have hn:=g4.next
  have hvlow:nilV v=true∨idV v<h.next:=by
    rcases m.out with ⟨h1 | h1,_⟩ | ⟨id,el,cap,cs,rfl,a,c,d,e,f,g1,g2⟩
    · subst h1;exact .inl rfl
    · subst h1;exact .inl rfl
    · exact .inr f
  have hw:nilV w=false:=by
    rcases s4 with ⟨_,h2⟩ | ⟨id,el,cap,cs,rfl,_⟩
    · simp at h2
    · rfl
  have hwid:∀ j,j<h1.next→(nilV v=true∨j≠idV v)→j≠idV w:=fun j hj hv=>by
    rcases g4.own with h2 | ⟨h2,h3⟩ | h2
    · rw [hw] at h2;cases h2
    · rw [h2] at hv;rw [h3];exact hv.resolve_left (by simp)
    · omega
  refine ⟨s4,by simp [hl],by simp;omega,fun i hi=>?_,fun i hi=>?_,fun i j hi hj hij=>?_⟩
  · simp only [List.length_append,List.length_cons,List.length_nil] at hi
    by_cases e:i<F.length
    · rw [nth_app_l (by omega),nth_app_l e];exact m.pre i e
    · obtain rfl:i=F.length:=by omega
      rw [nth_app_r];rw [← hW,nth_app_r]
  · simp only [List.length_append,List.length_cons,List.length_nil] at hi
    by_cases e:i<F.length
    · obtain ⟨a1,a2,a3,a4,a5⟩:=m.row i e
      rw [nth_app_l e,nth_app_l (by omega)]
      have:=x.next
      exact ⟨by rw [g4.get _ (by omega) (.inr a5),x.get _ a4];exact a1,a2,a3,by omega,hwid _ (by omega) (.inr a5)⟩
    · obtain rfl:i=F.length:=by omega
      rw [nth_app_r];rw [← hl,nth_app_r]
      have hv:nilV v=true∨h.next≠idV v:=hvlow.imp id (fun h=>by omega)
      exact ⟨by rw [g4.get _ hlt hv];exact hg,hr,hb,by omega,hwid _ hlt hv⟩
  · simp only [List.length_append,List.length_cons,List.length_nil] at hi hj
    by_cases e1:i<F.length
    · by_cases e2:j<F.length
      · rw [nth_app_l e1,nth_app_l e2];exact m.dis i j e1 e2 hij
      · obtain rfl:j=F.length:=by omega
        have:=(m.row i e1).2.2.2.1
        rw [nth_app_l e1,nth_app_r];omega
    · obtain rfl:i=F.length:=by omega
      have:=(m.row j (by omega)).2.2.2.1
      rw [nth_app_l (l:=F) (j:=j) (by omega),nth_app_r];omega
theorem MatH.put {h4 : AH} {f : Nat} {r : List Bool} {W' : List (List V)} (m : MatH b h v n W F M) (hf : f < h4.next) (hfb : b ≤ f) (hn : h.next ≤ f) (hg : h4.get f = some ⟨1, r.map encBl⟩) (hr : r.length = n) (hwl : F.length < W.length)
    (hW:W'=W.set F.length [.sl f 0 n n]) (s4:Sl b h4 1 v W') (k:∀ i,i<h.next→i≠idV v→h4.get i=h.get i):MatH b h4 v n W' (F++[f]) (M++[r]):=by
  subst hW
  have hl:=m.len
  have hvlow:idV v<h.next:=by
    rcases m.out with ⟨_,h1⟩ | ⟨id,el,cap,cs,rfl,a,c,d,e,f,g1,g2⟩
    · subst h1;simp at hwl
    · exact f
  refine ⟨s4,by simp [hl],by simp;omega,fun i hi=>?_,fun i hi=>?_,fun i j hi hj hij=>?_⟩
  · simp only [List.length_append,List.length_cons,List.length_nil] at hi
    rw [nth_set (by omega)]
    by_cases e:i<F.length
    · rw [if_neg (by omega),nth_app_l e];exact m.pre i e
    · obtain rfl:i=F.length:=by omega
      rw [if_pos rfl,nth_app_r]
  · simp only [List.length_append,List.length_cons,List.length_nil] at hi
    by_cases e:i<F.length
    · obtain ⟨a1,a2,a3,a4,a5⟩:=m.row i e
      rw [nth_app_l e,nth_app_l (by omega)]
      exact ⟨by rw [k _ a4 a5];exact a1,a2,a3,by omega,a5⟩
    · obtain rfl:i=F.length:=by omega
      rw [nth_app_r];rw [← hl,nth_app_r]
      exact ⟨hg,hr,hfb,hf,by omega⟩
  · simp only [List.length_append,List.length_cons,List.length_nil] at hi hj
    by_cases e1:i<F.length
    · by_cases e2:j<F.length
      · rw [nth_app_l e1,nth_app_l e2];exact m.dis i j e1 e2 hij
      · obtain rfl:j=F.length:=by omega
        have:=(m.row i e1).2.2.2.1
        rw [nth_app_l e1,nth_app_r];omega
    · obtain rfl:i=F.length:=by omega
      have:=(m.row j (by omega)).2.2.2.1
      rw [nth_app_l (l:=F) (j:=j) (by omega),nth_app_r];omega
theorem frzr_of {P:Nat→Prop} {h:AH} {n:Nat}:∀ {l l':List (List V)},l.length=l'.length→(∀ i,i<l.length→Frzs P h n (nth l i) (nth l' i))→Frzr P h n l l'
  | [],[],_,_=>.nil _
  | a::l,c::l',hl,hx=>.cons _ _ _ _ _ (hx 0 (by simp)) (frzr_of (by simpa using hl) (fun i hi=>by have:=hx (i+1) (by simpa using hi);rwa [nth_cons,nth_cons] at this))
theorem nth_map {α β:Type} [Inhabited α] [Inhabited β] {f:α→β} {l:List α} {i:Nat} (hi:i<l.length):nth (l.map f) i=f (nth l i):=by simp [nth,List.getD,List.getElem?_eq_getElem hi]
theorem MatH.frz {P:Nat→Prop} {k:Nat} (m:MatH b h v n W F M) (hW:W.length=F.length) (hP:∀ i,b≤i→P i) (hL:W.length<4000000000) (hn:n<4000000000):Frz P h k v (.fl 1 (M.map encM)):=by
  have hl:=m.len
  have key:Frzr P h 0 W (M.map encM):=frzr_of (by simp;omega) (fun i hi=>by
    obtain ⟨a1,a2,a3,a4,a5⟩:=m.row i (by omega)
    rw [m.pre i (by omega),nth_map (by omega)]
    exact .cons _ _ _ _ _ (.sl _ _ _ _ _ _ _ _ (hP _ a3) a1 (by simp;omega) (Nat.le_refl _) (by simpa [frzLen] using hn) (by rw [List.drop_zero,List.take_of_length_le (by simp;omega)];exact Frzr.of_map (fun _=>rfl) _)) (.nil _))
  rcases m.out with ⟨hv,hR⟩ | ⟨id,el,cap,cs,rfl,a,c,d,e,f,g1,g2⟩
  · subst hR
    have:M.map encM=[]:=List.length_eq_zero_iff.1 (by have:=key.len;simpa using this.symm)
    rw [this]
    rcases hv with rfl | rfl
    · exact .ns _ _
    · exact .e0 _ _
  · refine .sl _ id el _ cap 1 cs _ (hP _ g1) a (by omega) e (by simpa [frzLen] using hL) ?_
    rw [d];exact key
end
/-! Squares by their entries. -/
def mat (n:Nat) (f:Nat→Nat→Bool):List (List Bool):=(List.range n).map fun a=>(List.range n).map fun b=>f a b
theorem mat_len {n:Nat} {f:Nat→Nat→Bool}:(mat n f).length=n:=by simp [mat]
theorem nth_range {n i:Nat} (hi:i<n):nth (List.range n) i=i:=by simp [nth,List.getD,hi]
theorem mat_row {n a:Nat} {f:Nat→Nat→Bool} (ha:a<n):nth (mat n f) a=(List.range n).map fun b=>f a b:=by
  unfold mat;rw [nth_map (by simpa using ha),nth_range ha]
theorem mat_at {n a b:Nat} {f:Nat→Nat→Bool} (ha:a<n) (hb:b<n):nth (nth (mat n f) a) b=f a b:=by
  rw [mat_row ha,nth_map (by simpa using hb),nth_range hb]
theorem mat_sq {n:Nat} {f:Nat→Nat→Bool}:Sq (mat n f):=fun i hi=>by
  rw [mat_len] at hi ⊢;rw [mat_row hi];simp
theorem mat_ext {n:Nat} {f g:Nat→Nat→Bool} (h:∀ a b,a<n→b<n→f a b=g a b):mat n f=mat n g:=by
  unfold mat
  refine List.map_congr_left fun a ha=>List.map_congr_left fun b hb=>h a b (by simpa using ha) (by simpa using hb)
theorem list_ext {α:Type} [Inhabited α] {l m:List α} (hl:l.length=m.length) (h:∀ i,i<l.length→nth l i=nth m i):l=m:=by
  refine List.ext_getElem hl fun i h1 h2=>?_
  have:=h i h1
  rwa [nth_eq h1,nth_eq h2] at this
theorem mat_set {n a b:Nat} {f:Nat→Nat→Bool} {x:Bool} (ha:a<n) (hb:b<n):(mat n f).set a ((nth (mat n f) a).set b x)=mat n (fun i j=>if i=a∧j=b then x else f i j):=by
  refine list_ext (by simp [mat_len]) fun i hi=>?_
  simp only [List.length_set,mat_len] at hi
  rw [nth_set (by rw [mat_len];exact hi),mat_row ha,mat_row hi]
  split
  · rename_i e;subst e
    rw [mat_row hi]
    refine list_ext (by simp) fun j hj=>?_
    simp only [List.length_set,List.length_map,List.length_range] at hj
    rw [nth_set (by simpa using hj),nth_map (by simpa using hj),nth_map (by simpa using hj),nth_range hj]
    by_cases e:b=j
    · simp [e]
    · simp [e,Ne.symm e]
  · rename_i e
    rw [mat_row hi]
    exact List.map_congr_left fun j _=>by simp [Ne.symm e]
end Go.Ab.T
namespace Go.Ab.T
open Go Go.Ab
set_option maxHeartbeats 4000000
def inB (n:Nat) (p:Int):Bool:=decide (0≤p∧p<n)
def dep0 (C:Config) (x y:Nat):Bool:=decide (x=y)||((nth C.parts x).sched&&(nth C.parts y).sched)
def linkB (n:Nat) (x y:Nat) (c:Chan):Bool:=inB n c.src&&inB n c.dst&&(decide (c.src=x∧c.dst=y)||decide (c.dst=x∧c.src=y))
def depF (C:Config) (k:Nat) (x y:Nat):Bool:=dep0 C x y||(C.chans.take k).any (linkB C.parts.length x y)
def depM (C:Config):List (List Bool):=mat C.parts.length (depF C C.chans.length)
theorem is_ev {C:Config} {p:Int}:Pf tp i_Q88 [.agg C.enc,.i .i64 p] (.b (inB C.parts.length p)):=by
  refine Pf_go fn_Q88 (by simp [t_Q88]) fun rp=>?_;unfold t_Q88;simp (disch:=omega)only[go_sem, *]
  have hL:=Rep.len (rp.head.agg (.fl 11 (C.parts.map Part.enc)) (by simp [Config.enc]))
  unfold inB
  repeat' (first | (refine Wg_dec (fun hc=>?_) (fun hc=>?_)<;>simp (disch:=omega)only[go_sem, *]) | (refine Wb_dec (fun hc=>?_) (fun hc=>?_)<;>simp (disch:=omega)only[go_sem, *]))
  all_goals ((repeat' refine And.intro ?_ ?_)<;>first | omega | assumption | (grind))
theorem in_ev {C:Config} {p:Int}:Pf tp i_Q39 [.agg C.enc,.i .i64 p] (.b (inB C.parts.length p)):=by
  refine Pf_go fn_Q39 (by simp [t_Q39]) fun rp=>?_;unfold t_Q39;simp (disch:=omega)only[go_sem, *]
  have hL:=Rep.len (rp.head.agg (.fl 11 (C.parts.map Part.enc)) (by simp [Config.enc]))
  unfold inB
  repeat' (first | (refine Wg_dec (fun hc=>?_) (fun hc=>?_)<;>simp (disch:=omega)only[go_sem, *]) | (refine Wb_dec (fun hc=>?_) (fun hc=>?_)<;>simp (disch:=omega)only[go_sem, *]))
  all_goals ((repeat' refine And.intro ?_ ?_)<;>first | omega | assumption | (grind))
theorem square_ev {h:AH} {n:Nat} {K:V→AH→Prop} (hn:n<4000000000) (hlo:h.lim≤h.next) (kk:∀ v h' W F,Ext h h'→MatH h.next h' v n W F (mat n fun _ _=>false)→W.length=n→F.length=n→K v h'):Cq tp i_Q87 [.i .i64 n] h K:=by
  refine Cq_raw_go fn_Q87 (by simp [t_Q87]) fun wf rp=>?_;unfold t_Q87;simp (disch:=omega)only[go_sem, *]
  refine ZC_loop_n (fun m e hh=>∃ (i:Nat) (v:V) (W:List (List V)) (F:List Nat),m=n - i∧Ext h hh∧e 0=.i .i64 n∧e 3=v∧e 4=.i .i64 n∧e 5=.i .i64 i∧i≤n∧W.length=i∧F.length=i∧MatH h.next hh v n W F (List.replicate i (List.replicate n false))) ?_ _ _ _ ⟨0,.ns,[],[],rfl, ?_⟩
  · rintro m e hh ⟨i,v,W,F,rfl,x,e0,e3,e4,e5,hi,hW,hF,mh⟩ ih
    rw [ZC_unf Q87_6.eq_1]
    simp (disch:=omega)only[go_sem, *]
    refine Wb_dec (fun hc=>?_) (fun hc=>?_)
    · have hlm:=x.lim
      have hnx:=x.next
      clear kk
      simp (disch:=omega)only[go_sem, *]
      refine ⟨⟨by omega,by omega,by omega⟩, ?_⟩
      have x1:Ext hh ((hh.alloc ⟨1,List.replicate n [V.b false]⟩).alloc ⟨1,[[V.sl hh.next 0 n n]]⟩):=by (repeat (first | exact Ext.refl _ | refine Ext.alloc ?_ _ | (refine Ext.put ?_ _ _ ?_;rotate_left;(first | omega | (simp only [next_alloc,next_put];omega)))))
      refine app_rule (mh.out.ext x1) (by simp only [lim_alloc];omega) (by simp only [next_alloc];omega) (by simp;omega) ?_
      intro w h4 s4 g4
      have m4:=mh.push (r:=List.replicate n false) (by omega) hnx x1 (by simp only [next_alloc];omega) (by simp [get_alloc,next_alloc,gsel,encBl]) (by simp) s4 g4
      have x4:Ext h h4:=⟨by have:=g4.next;rw [next_alloc,next_alloc] at this;omega,by rw [g4.lim];exact x.lim,fun j hj=>by rw [g4.low j hj,x1.get j (by omega)];exact x.get j hj⟩
      rw [← List.replicate_succ'] at m4
      clear s4 g4 mh x1 x
      simp (disch:=omega)only[go_sem, *]
      refine ih _ _ _ ?_ ⟨i+1,w,W++[[.sl hh.next 0 n n]],F++[hh.next],rfl, ?_⟩
      · omega
      · simp (disch:=omega)only[go_sem, *]
        ((repeat' refine And.intro ?_ ?_)<;>first | omega | assumption | ((simp;omega)))
    · obtain rfl:i=n:=by omega
      simp (disch:=omega)only[go_sem, *]
      refine kk v hh W F x ?_ hW hF
      have e:mat i (fun _ _=>false)=List.replicate i (List.replicate i false):=list_ext (by simp [mat_len]) fun j hj=>by
        rw [mat_len] at hj
        rw [mat_row hj]
        refine list_ext (by simp [nth,List.getD,hj]) fun k hk=>?_
        simp at hk
        rw [nth_map (by simpa using hk)]
        simp [nth,List.getD,hj,hk]
      rw [e];exact mh
  · simp (disch:=omega)only[go_sem, *]
    exact ⟨Ext.refl h,Sl.nil _ _ _,rfl,by simp,fun i hi=>by simp at hi,fun i hi=>by simp at hi,fun i j hi=>by simp at hi⟩
theorem rsquare_ev {h:AH} {n:Nat} {K:V→AH→Prop} (hn:n<4000000000) (hlo:h.lim≤h.next) (kk:∀ v h' W F,Ext h h'→MatH h.next h' v n W F (mat n fun x y=>decide (x=y))→W.length=n→F.length=n→K v h'):Cq tp i_Q38 [.i .i64 n] h K:=by
  refine Cq_raw_go fn_Q38 (by simp [t_Q38]) fun wf rp=>?_;unfold t_Q38;simp (disch:=omega)only[go_sem, *]
  refine ⟨⟨by omega,by omega,by omega⟩, ?_⟩
  refine ZC_loop_n (fun m e hh=>∃ (i:Nat) (v:V) (W:List (List V)) (F:List Nat),m=n - i∧Ext h hh∧e 0=.i .i64 n∧e 3=v∧e 8=.i .i64 n∧e 9=.i .i64 i∧i≤n∧W.length=n∧F.length=i∧(∀ j,i≤j→j<n→nth W j=[.ns])∧MatH h.next hh v n W F ((mat n fun x y=>decide (x=y)).take i)) ?_ _ _ _ ⟨0,.sl h.next 0 n n,List.replicate n [.ns],[],rfl, ?_⟩
  · rintro m e hh ⟨i,v,W,F,rfl,x,e0,e3,e8,e9,hi,hW,hF,hns,mh⟩ ih
    rw [ZC_unf Q38_8.eq_1]
    simp (disch:=omega)only[go_sem, *]
    refine Wb_dec (fun hc=>?_) (fun hc=>?_)
    · have hlm:=x.lim
      have hnx:=x.next
      have f:=Sl.facts (enc:=fun x=>x) (L:=W) (by simpa using mh.out)
      obtain ⟨flen,fbig,flt,flo,fget,fat,frow,fcell,fcells⟩:=f
      simp (disch:=omega)only[go_sem, *]
      refine ⟨⟨by omega,by omega,by omega⟩, ?_⟩
      have hid:idV v<hh.next:=flt (by omega)
      have hnn:=hns i (Nat.le_refl _) (by omega)
      have hrl:=mh.out.rowlt (j:=i) (by omega)
      have ht:=take_snoc (L:=mat n fun x y=>decide (x=y)) (i:=i) (by rw [mat_len];omega)
      have hr:nth (mat n fun x y=>decide (x=y)) i=(List.replicate n false).set i true:=by
        rw [mat_row (by omega)]
        refine list_ext (by simp) fun j hj=>?_
        simp at hj
        rw [nth_map (by simpa using hj),nth_range hj,nth_set (by simpa using hj)]
        by_cases e:i=j
        · simp [e]
        · simp [e,nth,List.getD,hj]
      have hs4:=fun h4 hn4 hg=>mh.out.of_get (h':=h4) (j:=i) (r:=[.sl hh.next 0 n n]) (by omega) hn4 hg
      have hrep:(List.replicate n [V.b false])[i]?=some [.b false]:=by rw [List.getElem?_replicate,if_pos (by omega)]
      have m4:=fun h4 hn4 hg4 hs4 hk=>mh.put (h4:=h4) (f:=hh.next) (r:=(List.replicate n false).set i true) (W':=W.set F.length [.sl hh.next 0 n n]) hn4 (by omega) (Nat.le_refl _) hg4 (by simp) (by omega) rfl hs4 hk
      rw [hF,←hr,←ht] at m4
      have hm:(nth (mat n fun x y=>decide (x=y)) i).map encBl=(List.replicate n [V.b false]).set i [V.b true]:=by rw [hr];simp [encBl,List.map_set]
      rw [hm] at m4
      clear kk ht hr hm
      simp (disch:=omega)only[go_sem, *]
      have m4:=m4 (((hh.alloc ⟨1,List.replicate n [V.b false]⟩).put (idV v) ⟨1,(csOf hh v).set (elV v+i) [V.sl hh.next 0 n n]⟩).put hh.next ⟨1,(List.replicate n [V.b false]).set i [V.b true]⟩)
        (by simp [next_alloc,next_put]) (by rw [get_put,gsel_eq rfl]) (hs4 _ (by simp [next_alloc,next_put]) (by rw [get_put,gsel_ne (by omega),get_put,gsel_eq rfl]))
        (fun j hj hjv=>by rw [get_put,gsel_ne (by omega),get_put,gsel_ne hjv,get_alloc,gsel_ne (by omega)])
      have x4:Ext h (((hh.alloc ⟨1,List.replicate n [V.b false]⟩).put (idV v) ⟨1,(csOf hh v).set (elV v+i) [V.sl hh.next 0 n n]⟩).put hh.next ⟨1,(List.replicate n [V.b false]).set i [V.b true]⟩):=((x.alloc _).put _ _ (flo (by omega))).put _ _ hnx
      clear hs4 fget fat frow mh
      refine ih _ _ _ ?_ ⟨i+1,v,W.set i [.sl hh.next 0 n n],F++[hh.next],rfl, ?_⟩
      · omega
      · clear ih
        simp (disch:=omega)only[go_sem, *]
        ((repeat' refine And.intro ?_ ?_)<;>first | omega | assumption | ((simp;omega)) | (exact m4) | ((intro j h1 h2;rw [nth_set (by omega),if_neg (by omega)];exact hns j (by omega) h2)))
    · obtain rfl:i=n:=by omega
      rw [List.take_of_length_le (by rw [mat_len];omega)] at mh
      have f:=kk v hh W F x mh hW hF
      clear kk mh
      simp (disch:=omega)only[go_sem, *]
  · simp (disch:=omega)only[go_sem, *]
    refine ⟨(Ext.refl h).alloc _,by simp,fun j _ hj=>by simp [nth,List.getD,hj],.inr ⟨h.next,0,n,List.replicate n [.ns],by simp,by simp [get_alloc,gsel],by simp,by simp,by simp,by simp [next_alloc],Nat.le_refl _,by simp;omega⟩,rfl,by simp,fun i hi=>by simp at hi,fun i hi=>by simp at hi,fun i j hi=>by simp at hi⟩
theorem MatH.tell {b n : Nat} {h : AH} {v : V} {W : List (List V)} {F : List Nat} {f : Nat → Nat → Bool} (m : MatH b h v n W F (mat n f)) {a c : Nat} (ha : a < n) (hc : c < n) :
    nth W a=[.sl (nth F a) 0 n n]∧h.get (nth F a)=some ⟨1,(nth (mat n f) a).map encBl⟩∧((nth (mat n f) a).map encBl)[c]?=some [.b (f a c)]∧(∀ x:Bool,((nth (mat n f) a).map encBl).set c [.b x]=(((nth (mat n f) a).set c x).map encBl))∧b≤nth F a∧nth F a<h.next∧nth F a≠idV v ∧
    ∀ x:Bool,MatH b (h.put (nth F a) ⟨1,((nth (mat n f) a).set c x).map encBl⟩) v n W F (mat n fun i j=>if i=a∧j=c then x else f i j):=by
  have hl:=m.len
  rw [mat_len] at hl
  obtain ⟨a1,a2,a3,a4,a5⟩:=m.row a (by omega)
  refine ⟨m.pre a (by omega),a1, ?_,fun x=>by simp [List.map_set,encBl],a3,a4,a5,fun x=>?_⟩
  · rw [List.getElem?_map,nth_get (by omega),mat_at ha hc];rfl
  · have:=m.set (a:=a) (by omega) (r:=(nth (mat n f) a).set c x) (by simp [a2])
    rwa [mat_set ha hc] at this
def doneB (a c i j:Nat):Bool:=decide (i<a∨i=a∧j<c)
def pass0 (C:Config) (f0:Nat→Nat→Bool) (a c i j:Nat):Bool:=if doneB a c i j=true then dep0 C i j else f0 i j
theorem pass0_step {C:Config} {f0:Nat→Nat→Bool} {n a c:Nat} (x:Bool) (hx:x=dep0 C a c):mat n (fun i j=>if i=a∧j=c then x else pass0 C f0 a c i j)=mat n (pass0 C f0 a (c+1)):=mat_ext fun i j hi hj=>by
  subst hx
  unfold pass0 doneB
  by_cases e:i=a∧j=c
  · rw [if_pos e,if_pos (by simp;omega),e.1,e.2]
  · rw [if_neg e]
    have:(i<a∨i=a∧j<c+1)↔(i<a∨i=a∧j<c):=by omega
    rw [decide_eq_decide.2 this]
theorem pass0_row {C:Config} {f0:Nat→Nat→Bool} {n a:Nat}:mat n (pass0 C f0 a n)=mat n (pass0 C f0 (a+1) 0):=mat_ext fun i j hi hj=>by
  unfold pass0 doneB
  have:(i<a∨i=a∧j<n)↔(i<a+1∨i=a+1∧j<0):=by omega
  rw [decide_eq_decide.2 this]
theorem pass0_end {C:Config} {f0:Nat→Nat→Bool} {n:Nat}:mat n (pass0 C f0 n 0)=mat n (depF C 0):=mat_ext fun i j hi hj=>by
  unfold pass0 doneB depF
  rw [if_pos (by simp;omega)];simp
theorem pass0_begin {C:Config} {f0:Nat→Nat→Bool} {n:Nat}:mat n (pass0 C f0 0 0)=mat n f0:=mat_ext fun i j hi hj=>by
  unfold pass0 doneB
  rw [if_neg (by simp)]
theorem depF_skip {C:Config} {k:Nat} (hk:k<C.chans.length) (h:¬ (inB C.parts.length (nth C.chans k).src=true∧inB C.parts.length (nth C.chans k).dst=true)):mat C.parts.length (depF C (k+1))=mat C.parts.length (depF C k):=mat_ext fun i j hi hj=>by
  unfold depF
  rw [take_snoc hk,List.any_append]
  have:linkB C.parts.length i j (nth C.chans k)=false:=by
    unfold linkB
    cases h1:inB C.parts.length (nth C.chans k).src<;>cases h2:inB C.parts.length (nth C.chans k).dst<;>simp_all
  simp [this]
theorem depF_link {C : Config} {k a c : Nat} (hk : k < C.chans.length) (ha : (nth C.chans k).src = a) (hc : (nth C.chans k).dst = c) (ha1 : a < C.parts.length) (hc1 : c < C.parts.length) :
    mat C.parts.length (fun i j=>if i=c∧j=a then true else if i=a∧j=c then true else depF C k i j)=mat C.parts.length (depF C (k+1)):=mat_ext fun i j hi hj=>by
  unfold depF
  rw [take_snoc hk,List.any_append]
  have:linkB C.parts.length i j (nth C.chans k)=(decide (a=i∧c=j)||decide (c=i∧a=j)):=by
    unfold linkB inB
    rw [ha,hc]
    have h1:(0≤(a:Int)∧(a:Int)<C.parts.length):=by omega
    have h2:(0≤(c:Int)∧(c:Int)<C.parts.length):=by omega
    simp [ha1,hc1,Int.natCast_inj]
  simp only [List.any_cons,List.any_nil,Bool.or_false,this]
  by_cases e1:i=c∧j=a
  · rw [if_pos e1];simp [e1.1,e1.2]
  · rw [if_neg e1]
    by_cases e2:i=a∧j=c
    · rw [if_pos e2];simp [e2.1,e2.2]
    · rw [if_neg e2]
      have h1:decide (a=i∧c=j)=false:=by simp;omega
      have h2:decide (c=i∧a=j)=false:=by simp;omega
      rw [h1,h2];simp
end Go.Ab.T
