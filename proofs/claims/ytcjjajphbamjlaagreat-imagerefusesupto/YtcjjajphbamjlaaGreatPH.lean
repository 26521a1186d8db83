/- Part of a proof that a law returns true for every input of the second form's bound (no other condition). -/
import Derived.Test.YtcjjajphbamjlaaGreatPG
set_option linter.all false
namespace Go.Ab.T
open Go Go.Ab
set_option maxHeartbeats 1000000
theorem curNext_end {h : AH} {id : Nat} {sv : V} {L : List Node} {c : Cs} {K : V → AH → Prop} (k : Cur h id sv L c) (hl : L.length ≤ c.leaf)
    (kk:∀ h',Ext h h'→K (.tup [.agg (Run.enc ⟨0,0⟩),.b false]) h'):Cq tp i_Q38 [.p id 0 0] h K:=by
  have kb:=k.blk
  have kl:=k.lim_le
  have khi:=k.hi
  simp only [curB] at kb
  refine Cq_raw_go fn_Q38 (by simp [t_Q38]) fun wf rp=>?_;unfold t_Q38;simp (disch:=omega)only[go_sem, *]
  refine Wb_dec (fun hc=>?_) (fun hc=>by omega)
  simp (disch:=omega)only[go_sem, *]
  exact kk _ (by (repeat (first | exact Ext.refl _ | refine Ext.alloc ?_ _ | (refine Ext.put ?_ _ _ ?_;rotate_left;(first | omega | (simp only [next_alloc,next_put];omega))))))
theorem Cur.put_other {h:AH} {id:Nat} {sv:V} {L:List Node} {c:Cs} (k:Cur h id sv L c) {j:Nat} {b:Blk} (h1:id≠j) (h3:nilV sv=true∨idV sv≠j):Cur (h.put j b) id sv L c:=by
  refine ⟨by rw [get_put,gsel_ne h1];exact k.blk, ?_,k.big,k.sbig,k.lo,k.hi⟩
  rcases k.stk with ⟨hv,hR⟩ | ⟨i,el,cap,cs,rfl,hg,q1,q2,q3,q4,q5,q6⟩
  · exact .inl ⟨hv,hR⟩
  · refine .inr ⟨i,el,cap,cs,rfl, ?_,q1,q2,q3,q4,q5,q6⟩
    rcases h3 with h3 | h3
    · cases h3
    · rw [get_put,gsel_ne (show ¬ i=j from h3)];exact hg
theorem CurF.put_new {h h':AH} {id:Nat} {sv sv':V} {i:Nat} {b:Blk} (f:CurF h id sv h' sv') (hi:h.next≤i):CurF h id sv (h'.put i b) sv':=
  ⟨f.next,f.lim,fun j hj hne hs=>by rw [get_put,gsel_ne (by omega)];exact f.get j hj hne hs,f.own⟩
theorem curNext_ev {h : AH} {id : Nat} {sv : V} {L : List Node} {c : Cs} {K : V → AH → Prop} (k : Cur h id sv L c) (hl : c.leaf < L.length) (hok : CurOk L c)
    (kk:∀ sv' h',Cur h' id sv' L (nextC L c)→CurF h id sv h' sv'→K (.tup [.agg (Run.enc ⟨partR (lf L c),(lf L c).n - c.gone⟩),.b true]) h'):Cq tp i_Q38 [.p id 0 0] h K:=by
  have k0:=k
  obtain ⟨o1,o2,o3⟩:=hok
  obtain ⟨kb,ks,kbig,ksb,klo,khi⟩:=k
  simp only [curB] at kb
  unfold lf at o2
  refine Cq_raw_go fn_Q38 (by simp [t_Q38]) fun wf rp=>?_;unfold t_Q38;simp (disch:=omega)only[go_sem, *]
  refine Wb_dec (fun hc=>by omega) (fun hc=>?_)
  simp (disch:=omega)only[go_sem, *]
  refine Pf.go (part_ev) (by simp only [go_sem]) fun _=>?_;simp (disch:=omega)only[go_sem, *]
  refine step_ev (c:=⟨c.S,c.leaf,c.gone,c.at_+((nth L c.leaf).n - c.gone)⟩) (L:=L) (id:=id) (sv:=sv) ?_ hl o1 ?_
  · have x3:Ext h (((h.alloc ⟨2,[[.i .i64 0,.i .i64 0]]⟩).alloc ⟨2,[[.i .i64 0,.i .i64 0]]⟩).put (h.next+1) ⟨2,[[.i .i64 (partR (nth L c.leaf)),.i .i64 ((nth L c.leaf).n - c.gone)]]⟩):=by (repeat (first | exact Ext.refl _ | refine Ext.alloc ?_ _ | (refine Ext.put ?_ _ _ ?_;rotate_left;(first | omega | (simp only [next_alloc,next_put];omega)))))
    have k3:=Cur.put (c':=⟨c.S,c.leaf,c.gone,c.at_+((nth L c.leaf).n - c.gone)⟩) (k0.ext x3) rfl
    exact k3
  · intro sv4 h4 c4 f4
    have sne:=k0.sne
    have svlt:nilV sv=true∨idV sv<h.next:=sne.imp (fun x=>x) fun x=>x.2
    have n4:=f4.next
    have l4:=f4.lim
    have y1:=f4.get (h.next+1) (by simp only [next_put,next_alloc];omega) (by omega) (svlt.imp (fun x=>x) (fun x=>by omega))
    have y2:=f4.get h.next (by simp only [next_put,next_alloc];omega) (by omega) (svlt.imp (fun x=>x) (fun x=>by omega))
    simp (disch:=omega)only[go_sem] at y1 y2 n4 l4
    have i4:=c4.hi
    simp (disch:=omega)only[go_sem, *]
    refine kk sv4 _ (c4.put_other (by omega) ?_) ?_
    · rcases f4.own with h1 | ⟨h0,h1⟩ | h1
      · exact .inl h1
      · rcases svlt with h2 | h2
        · rw [h2] at h0;cases h0
        · exact .inr (by omega)
      · simp only [next_put,next_alloc] at h1
        exact .inr (by omega)
    · refine CurF.put_new ⟨by omega,l4,fun i hi hne hs=>?_, ?_⟩ (Nat.le_refl _)
      · rw [f4.get i (by simp only [next_put,next_alloc];omega) hne hs]
        simp (disch:=omega)only[go_sem]
      · rcases f4.own with h1 | h1 | h1
        · exact .inl h1
        · exact .inr (.inl h1)
        · simp only [next_put,next_alloc] at h1
          exact .inr (.inr (by omega))
theorem reset_ev {h : AH} {id : Nat} {sv : V} {f : Fo} {c : Cs} {K : V → AH → Prop} (k : Cur h id sv f.flat c) (ho : f.ok) (hc : f.count = 1) (hl : f.len ≤ 4096)
    (kk:∀ sv' h',Cur h' id sv' f.flat (cur0 f.flat)→CurF h id sv h' sv'→K (.tup []) h'):Cq tp i_Q64 [.p id 0 0] h K:=by
  have kb:=k.blk
  have klo:=k.lo
  have hD:=start_D ho hc hl
  simp only [curB] at kb
  have k2:Cur (h.put id (curB f.flat .ns ⟨[],c.leaf,0,0⟩)) id .ns f.flat ⟨[],c.leaf,0,0⟩:=by
    refine ⟨by rw [get_put,gsel_eq rfl],Sl.nil _ _ _,k.big,by simp,k.lo,k.hi⟩
  have f2:CurF h id sv (h.put id (curB f.flat .ns ⟨[],c.leaf,0,0⟩)) .ns:=⟨Nat.le_refl _,rfl,fun i hi hne hs=>by rw [get_put,gsel_ne hne],.inl rfl⟩
  refine Cq_raw_go fn_Q64 (by simp [t_Q64]) fun wf rp=>?_;unfold t_Q64;simp (disch:=omega)only[go_sem, *]
  refine down_ev (a:=0) k2 hD.1 (by have:=hD.1;have:=hD.2.1;simp only;omega) ?_
  intro sv3 h3 c3 f3
  simp (disch:=omega)only[go_sem, *]
  exact kk sv3 h3 c3 (f2.trans f3)
structure NewC (h h':AH) (L:List Node) (id:Nat) (sv:V) (c:Cs):Prop where
  cur:Cur h' id sv L c
  ext:Ext h h'
  id_:h.next≤id
theorem NewC.step {h h1 h2:AH} {L:List Node} {id:Nat} {sv s2:V} {c c2:Cs} (n:NewC h h1 L id sv c) (k:Cur h2 id s2 L c2) (f:CurF h1 id sv h2 s2):NewC h h2 L id s2 c2:=by
  have x:=n.ext
  have:=x.next;have:=f.next
  have i1:=n.id_
  have sne:=n.cur.sne
  refine ⟨k,⟨by omega,f.lim.trans x.lim,fun i hi=>?_⟩,n.id_⟩
  rw [f.get i (by omega) (by omega) (sne.imp (fun x=>x) (fun x=>by omega)),x.get i hi]
theorem NewC.grow {h h1 h2:AH} {L:List Node} {id:Nat} {sv:V} {c:Cs} (n:NewC h h1 L id sv c) (x:Ext h1 h2):NewC h h2 L id sv c:=
  ⟨n.cur.ext x,n.ext.trans x,n.id_⟩
theorem new_ev {h:AH} {L:List Node} {K:V→AH→Prop} (kbad:rightR L≠0→K .np h) (kk:rightR L=0→∀ id sv h',NewC h h' L id sv (cur0 L)→K (.p id 0 0) h'):Cq tp i_Q37 [.fl 3 (L.map Node.enc)] h K:=by
  refine Cq_raw_go fn_Q37 (by simp [t_Q37]) fun wf rp=>?_;unfold t_Q37;simp (disch:=omega)only[go_sem, *]
  have hlm:=wf.1
  have hL:=rp.head.len
  refine Pf.go (nodeRight_ev) (by simp only [go_sem]) fun _=>?_;simp (disch:=omega)only[go_sem, *]
  refine Wb_dec (fun hc=>?_) (fun hc=>?_)
  · simp (disch:=omega)only[go_sem, *]
  · have hr:rightR L=0:=by omega
    obtain ⟨hl128,f,ho,hc1,rfl,hdp,hln⟩:=(right_iff L).1 hr
    simp (disch:=omega)only[go_sem, *]
    refine Pf.go (cloneNode_ev) (by simp only [go_sem]) fun _=>?_;simp (disch:=omega)only[go_sem, *]
    have xa:Ext h (h.alloc (curB f.flat .ns ⟨[],0,0,0⟩)):=(Ext.refl h).alloc _
    have k4:Cur (h.alloc (curB f.flat .ns ⟨[],0,0,0⟩)) h.next .ns f.flat ⟨[],0,0,0⟩:=
      ⟨by rw [get_alloc,gsel_eq rfl],Sl.nil _ _ _,by omega,by simp,by rw [lim_alloc];omega,by rw [next_alloc];omega⟩
    refine reset_ev k4 ho hc1 hln ?_
    intro sv5 h5 c5 f5
    simp (disch:=omega)only[go_sem, *]
    have n4:NewC h (h.alloc (curB f.flat .ns ⟨[],0,0,0⟩)) f.flat h.next .ns ⟨[],0,0,0⟩:=⟨k4,xa,Nat.le_refl _⟩
    exact kk hr _ _ _ (n4.step c5 f5)
end Go.Ab.T
namespace Go.Ab.T
open Go Go.Ab
def partGo:List Run→Int→Int
  | [],_=>-1
  | r::l,t=>if t<r.n then r.part else partGo l (t - r.n)
theorem right_flat {f:Fo} (ho:f.ok) (hc:f.count=1) (hd:f.depth≤16) (hl:f.len≤4096) (hn:f.flat.length≤128):rightR f.flat=0:=(right_iff _).2 ⟨hn,f,ho,hc,rfl,hd,hl⟩
theorem nth_cons {α:Type} [Inhabited α] {a:α} {l:List α} {i:Nat}:nth (a::l) (i+1)=nth l i:=by simp [nth]
def AllPos (w:List Run):Prop:=∀ r∈w,1≤r.n
theorem AllPos.nth {w:List Run} (h:AllPos w) {i:Nat} (hi:i<w.length):1≤(nth w i).n:=by
  rw [nth_eq hi];exact h _ (List.getElem_mem _)
theorem Fo.runs_allpos:∀ (f:Fo),f.ok→AllPos f.runs
  | .nil,_=>by intro r hr;cases hr
  | .leaf x r,ho=>by
    intro q hq
    rcases List.mem_cons.1 hq with rfl | hq
    · exact kids_n (by rw [ho.1];omega)
    · exact Fo.runs_allpos r ho.2 q hq
  | .seq x k r,ho=>by
    intro q hq
    rcases List.mem_append.1 hq with hq | hq
    · exact Fo.runs_allpos k ho.2.2.2.1 q hq
    · exact Fo.runs_allpos r ho.2.2.2.2 q hq
  | .rep x k r,ho=>by
    intro q hq
    rcases List.mem_append.1 hq with hq | hq
    · obtain ⟨l,hl,hq⟩:=List.mem_flatten.1 hq
      rw [List.eq_of_mem_replicate hl] at hq
      exact Fo.runs_allpos k ho.2.2.2.1 q hq
    · exact Fo.runs_allpos r ho.2.2.2.2 q hq
theorem sumN_pos:∀ {w:List Run},AllPos w→0≤sumN w
  | [],_=>by simp [sumN]
  | r::l,h=>by
    have:=sumN_pos (w:=l) (fun q hq=>h q (List.mem_cons_of_mem _ hq))
    have:=h r (List.mem_cons_self ..)
    simp only [sumN];omega
theorem sumN_take:∀ (w:List Run) (i:Nat),i<w.length→sumN (w.take (i+1))=sumN (w.take i)+(nth w i).n
  | [],i,hi=>by simp at hi
  | r::l,0,hi=>by simp [sumN,nth]
  | r::l,i+1,hi=>by
    rw [nth_cons,List.take_succ_cons,List.take_succ_cons,sumN,sumN,sumN_take l i (by simpa using hi)];omega
theorem sumN_take_le (w:List Run) (i:Nat) (h:AllPos w):sumN (w.take i)≤sumN w:=by
  have h1:=congrArg sumN (List.take_append_drop i w)
  rw [sumN_app] at h1
  have:=sumN_pos (w:=w.drop i) (fun q hq=>h q (List.mem_of_mem_drop hq))
  omega
theorem addR_sum {a b:Int} (ha:0≤a) (hb:0≤b) (h:a+b≤4611686018427387904):addR a b=a+b:=by unfold addR;rw [if_neg (by omega)];omega
theorem tidy_snoc {B:List Run} {q r:Run} {l:List Run} (hr:1≤r.n):tidyGo (r::l) (B++[q])=if q.part=r.part then tidyGo l (B++[⟨q.part,addR q.n r.n⟩]) else tidyGo l (B++[q]++[r]):=by
  have h1:nth (B++[q]) ((B++[q]).length - 1)=q:=by simp [nth,List.getD]
  rw [tidyGo,if_neg (by omega),h1]
  by_cases h:q.part=r.part
  · rw [if_pos ⟨by simp,h⟩,if_pos h,h]
    congr 1
    rw [List.length_append,List.length_singleton,Nat.add_sub_cancel,List.set_append_right _ _ (Nat.le_refl _)]
    simp
  · rw [if_neg (fun hh=>h hh.2),if_neg h]
theorem tidy_nil {r:Run} {l:List Run} (hr:1≤r.n):tidyGo (r::l) []=tidyGo l [r]:=by
  rw [tidyGo,if_neg (by omega),if_neg (by simp)];rfl
def tk (p:Int):List Run→Int
  | []=>0
  | r::l=>(if r.part=p then r.n else 0)+tk p l
theorem tk_app (p:Int):∀ (a b:List Run),tk p (a++b)=tk p a+tk p b
  | [],b=>by simp [tk]
  | r::l,b=>by simp only [List.cons_append,tk,tk_app p l b];omega
def Sep:List Run→Prop
  | []=>True
  | [_]=>True
  | a::b::l=>a.part≠b.part∧Sep (b::l)
theorem sep_snoc:∀ {B:List Run} {q r:Run},Sep (B++[q])→q.part≠r.part→Sep (B++[q]++[r])
  | [],q,r,_,h=>⟨h,trivial⟩
  | [a],q,r,h1,h=>⟨h1.1,h,trivial⟩
  | a::b::B,q,r,h1,h=>⟨h1.1,sep_snoc (B:=b::B) h1.2 h⟩
theorem sep_last:∀ {B:List Run} {q r:Run},Sep (B++[q])→q.part=r.part→Sep (B++[r])
  | [],q,r,_,h=>trivial
  | [a],q,r,h1,h=>⟨by rw [← h];exact h1.1,trivial⟩
  | a::b::B,q,r,h1,h=>⟨h1.1,sep_last (B:=b::B) h1.2 h⟩
theorem allPos_app {a b:List Run} (h:AllPos (a++b)):AllPos a∧AllPos b:=⟨fun r hr=>h r (List.mem_append_left _ hr),fun r hr=>h r (List.mem_append_right _ hr)⟩
theorem allPos_mk {a b:List Run} (h1:AllPos a) (h2:AllPos b):AllPos (a++b):=fun r hr=>by
  rcases List.mem_append.1 hr with hr | hr
  · exact h1 r hr
  · exact h2 r hr
theorem partGo_merge {p a b:Int} {l:List Run} (ha:0≤a) (hb:0≤b):∀ (B:List Run) (t:Int),partGo (B++⟨p,a+b⟩::l) t=partGo (B++⟨p,a⟩::⟨p,b⟩::l) t
  | [],t=>by
    simp only [List.nil_append,partGo]
    by_cases h1:t<a+b
    · rw [if_pos h1]
      by_cases h2:t<a
      · rw [if_pos h2]
      · rw [if_neg h2,if_pos (by omega)]
    · rw [if_neg h1,if_neg (by omega),if_neg (by omega)];congr 1;omega
  | r::B,t=>by simp only [List.cons_append,partGo,partGo_merge ha hb B]
structure TidyOf (L R:List Run):Prop where
  pos:AllPos R
  sep:Sep R
  sum:sumN R=sumN L
  tks:∀ p,tk p R=tk p L
  at_:∀ t,partGo R t=partGo L t
  parts:∀ r∈R,∃ q∈L,q.part=r.part
  len:R.length≤L.length
  ne:L≠[]→R≠[]
theorem tidy_of:∀ (l B:List Run) (q:Run),AllPos (B++[q])→AllPos l→Sep (B++[q])→sumN (B++[q])+sumN l≤4611686018427387904→TidyOf (B++[q]++l) (tidyGo l (B++[q]))
  | [],B,q,hp,_,hs,_=>by
    rw [tidyGo,List.append_nil]
    exact ⟨hp,hs,rfl,fun _=>rfl,fun _=>rfl,fun r hr=>⟨r,hr,rfl⟩,Nat.le_refl _,fun h=>h⟩
  | r::l,B,q,hp,hl,hs,hb=>by
    have hr:=hl r (List.mem_cons_self ..)
    have hl2:AllPos l:=fun x hx=>hl x (List.mem_cons_of_mem _ hx)
    have hq:=hp q (by simp)
    have hB:=(allPos_app hp).1
    have sB:=sumN_pos hB
    have sl:=sumN_pos hl2
    simp only [sumN,sumN_app] at hb
    rw [tidy_snoc hr]
    by_cases h:q.part=r.part
    · rw [if_pos h,addR_sum (by omega) (by omega) (by omega)]
      have ih:=tidy_of l B ⟨q.part,q.n+r.n⟩ (allPos_mk hB (fun x hx=>by simp at hx;subst hx;simp only;omega)) hl2 (sep_last hs rfl) (by simp only [sumN,sumN_app];omega)
      refine ⟨ih.pos,ih.sep,by rw [ih.sum];simp only [sumN,sumN_app];omega,fun p=>?_,fun t=>?_,fun x hx=>?_, ?_,fun _=>ih.ne (by simp)⟩
      · rw [ih.tks];simp only [tk,tk_app,h];split<;>omega
      · rw [ih.at_]
        have e1:B++[⟨q.part,q.n+r.n⟩]++l=B++⟨q.part,q.n+r.n⟩::l:=by simp
        have e2:B++[q]++r::l=B++⟨q.part,q.n⟩::⟨q.part,r.n⟩::l:=by
          rw [show (⟨q.part,r.n⟩:Run)=r by cases r;simp_all];simp
        rw [e1,e2]
        exact partGo_merge (by omega) (by omega) B t
      · obtain ⟨y,hy,he⟩:=ih.parts x hx
        rcases List.mem_append.1 hy with hy | hy
        · rcases List.mem_append.1 hy with hy | hy
          · exact ⟨y,by simp [hy],he⟩
          · simp at hy;subst hy;exact ⟨q,by simp,he⟩
        · exact ⟨y,by simp [hy],he⟩
      · have:=ih.len;simp at this ⊢;omega
    · rw [if_neg h]
      have ih:=tidy_of l (B++[q]) r (allPos_mk hp (fun x hx=>by simp at hx;subst hx;exact hr)) hl2 (sep_snoc hs h) (by simp only [sumN,sumN_app];omega)
      have e:B++[q]++[r]++l=B++[q]++r::l:=by simp
      rw [e] at ih
      exact ih
theorem tidyOf {L:List Run} (hp:AllPos L) (hs:sumN L≤4611686018427387904):TidyOf L (tidyGo L []):=by
  cases L with
  | nil=>exact ⟨hp,trivial,rfl,fun _=>rfl,fun _=>rfl,fun r hr=>⟨r,hr,rfl⟩,Nat.le_refl _,fun h=>h⟩
  | cons r l=>
    rw [tidy_nil (hp r (List.mem_cons_self ..))]
    exact tidy_of l [] r (fun x hx=>by simp at hx;subst hx;exact hp _ (List.mem_cons_self ..)) (fun x hx=>hp x (List.mem_cons_of_mem _ hx)) trivial (by simpa [sumN] using hs)
theorem lengthGo_sum:∀ (L:List Run) (a:Int),AllPos L→0≤a→a+sumN L≤4611686018427387904→lengthGo L a=a+sumN L
  | [],a,_,_,_=>by simp [lengthGo,sumN]
  | r::l,a,hp,ha,hb=>by
    have hr:=hp r (List.mem_cons_self ..)
    have hl:AllPos l:=fun x hx=>hp x (List.mem_cons_of_mem _ hx)
    have:=sumN_pos hl
    simp only [sumN] at hb ⊢
    rw [lengthGo,addR_sum ha (by omega) (by omega),lengthGo_sum l _ hl (by omega) (by omega)];omega
theorem runsOk_pos {L:List Run} (hp:AllPos L) (hs:sumN L≤4611686018427387904):RunsOk L:=by
  intro i hi
  have h1:=sumN_take L i hi
  have h2:=sumN_take_le L (i+1) hp
  have h3:=sumN_pos (w:=L.take i) (fun q hq=>hp q (List.mem_of_mem_take hq))
  omega
end Go.Ab.T
namespace Go.Ab.T
open Go Go.Ab
theorem tidy_ev {L:List Run} (hok:RunsOk L):Pf tp i_Q39 [.fl 2 (L.map Run.enc)] (.fl 2 ((tidyGo L []).map Run.enc)):=by
  refine Pf_go fn_Q39 (by simp [t_Q39]) fun rp=>?_;unfold t_Q39;simp (disch:=omega)only[go_sem, *]
  have hL:=rp.head.len
  refine ZC_loop_n (fun n e h=>∃ (i:Nat) (out:V) (A:List Run),n=L.length - i∧h.lim=0∧e 7=.fl 2 (L.map Run.enc)∧e 8=.i .i64 L.length∧e 9=.i .i64 i∧e 3=out∧i≤L.length∧A.length≤i∧Sl 0 h 2 out (A.map Run.enc)∧RunsOk A∧tidyGo (L.drop i) A=tidyGo L []) ?_ _ _ _ ⟨0,.ns,[],rfl, ?_⟩
  · rintro n e h ⟨i,out,A,rfl,hl,e7,e8,e9,e3,hi,hA,so,okA,hz⟩ ih
    rw [ZC_unf Q39_11.eq_1]
    simp (disch:=omega)only[go_sem, *]
    obtain ⟨olen,obig,olt,olo,oget,oat,orow,ocell,ocells⟩:=so.facts
    refine Wb_dec (fun hc=>?_) (fun hc=>?_)
    · rw [drop_nth (by omega),tidyGo] at hz
      have hb:=hok i (by omega)
      simp (disch:=omega)only[go_sem, *]
      have x1:Ext h ((h.alloc ⟨2,[[.i .i64 0,.i .i64 0]]⟩).put h.next ⟨2,[[.i .i64 (nth L i).part,.i .i64 (nth L i).n]]⟩):=by (repeat (first | exact Ext.refl _ | refine Ext.alloc ?_ _ | (refine Ext.put ?_ _ _ ?_;rotate_left;(first | omega | (simp only [next_alloc,next_put];omega)))))
      refine Wb_dec (fun hc2=>?_) (fun hc2=>?_)
      · rw [if_pos hc2] at hz
        simp (disch:=omega)only[go_sem, *]
        refine ih _ _ _ ?_ ⟨i+1,out,A,rfl, ?_⟩
        · omega
        · simp (disch:=omega)only[go_sem, *]
          ((repeat' refine And.intro ?_ ?_)<;>first | omega | assumption | (exact so.ext x1))
      · rw [if_neg hc2] at hz
        simp (disch:=omega)only[go_sem, *]
        refine Wg_dec (fun hc3=>?_) (fun hc3=>?_)
        · have hk:((A.length:Int) - 1).toNat=A.length - 1:=by omega
          simp (disch:=omega)only[go_sem, *]
          refine Wb_dec (fun hc4=>?_) (fun hc4=>?_)
          · rw [if_pos ⟨by omega,hc4⟩] at hz
            have hA1:=okA (A.length - 1) (by omega)
            simp (disch:=omega)only[go_sem, *]
            refine Pf.go (add_ev hA1 hb) (by simp only [go_sem]) fun _=>?_;simp (disch:=omega)only[go_sem, *]
            refine ih _ _ _ ?_ ⟨i+1,out,A.set (A.length - 1) ⟨(nth A (A.length - 1)).part,addR (nth A (A.length - 1)).n (nth L i).n⟩,rfl, ?_⟩
            · omega
            · simp (disch:=omega)only[go_sem, *]
              ((repeat' refine And.intro ?_ ?_)<;>first | omega | assumption | (simp;omega) | (exact Sl.setT so (by omega) (by simp (disch:=omega)only[go_sem]<;>omega) (by simp (disch:=omega)only[go_sem, *])) | (refine runsOk_set okA ?_;exact addR_big.2) | (rw [← hz,hc4]))
          · simp only [hc4,and_false,reduceIte] at hz
            simp (disch:=omega)only[go_sem, *]
            refine app_rule (R:=A.map Run.enc) ((so.ext x1).alloc _) (by simp only [go_sem, *]) (Nat.zero_le _) (by simp;omega) ?_
            intro w h4 s4 g4
            have hl4:=g4.lim
            simp (disch:=omega)only[go_sem, *]
            refine ih _ _ _ ?_ ⟨i+1,w,A++[nth L i],rfl, ?_⟩
            · omega
            · simp (disch:=omega)only[go_sem, *]
              ((repeat' refine And.intro ?_ ?_)<;>first | omega | assumption | (simp;omega) | (simpa [Run.enc] using s4) | (exact runsOk_snoc okA hb))
        · have h0:A.length=0:=by omega
          simp only [h0,Nat.lt_irrefl,false_and,reduceIte] at hz
          simp (disch:=omega)only[go_sem, *]
          refine app_rule (R:=A.map Run.enc) ((so.ext x1).alloc _) (by simp only [go_sem, *]) (Nat.zero_le _) (by simp;omega) ?_
          intro w h4 s4 g4
          have hl4:=g4.lim
          simp (disch:=omega)only[go_sem, *]
          refine ih _ _ _ ?_ ⟨i+1,w,A++[nth L i],rfl, ?_⟩
          · omega
          · simp (disch:=omega)only[go_sem, *]
            ((repeat' refine And.intro ?_ ?_)<;>first | omega | assumption | (simp;omega) | (simpa [Run.enc] using s4) | (exact runsOk_snoc okA hb))
    · rw [List.drop_eq_nil_of_le (by omega),tidyGo] at hz
      simp (disch:=omega)only[go_sem, *]
      subst hz
      refine Pf.take [idV out] clipRun_ev (.cons _ _ _ _ _ (so.froze (fun _=>rfl) (by simp) (by omega)) (.nil _)) fun _=>?_
      simp (disch:=omega)only[go_sem, *]
  · simp (disch:=omega)only[go_sem, *]
    exact ⟨Sl.nil _ _ _,fun i hi=>by simp at hi⟩
def ofT (f:Fo):List Run:=tidyGo f.runs []
open Classical in
noncomputable def foOf (L:List Node):Fo:=if h:∃ f:Fo,f.ok∧f.count=1∧L=f.flat∧f.depth≤16∧f.len≤4096 then h.choose else .nil
theorem foOf_ok {L:List Node} (h:rightR L=0):L.length≤128∧(foOf L).ok∧(foOf L).count=1∧L=(foOf L).flat∧(foOf L).depth≤16∧(foOf L).len≤4096:=by
  obtain ⟨h1,h2⟩:=(right_iff L).1 h
  refine ⟨h1, ?_⟩
  unfold foOf
  rw [dif_pos h2]
  exact h2.choose_spec
noncomputable def ofR (L:List Node):List Run×Int:=if rightR L≠0 then ([],rightR L) else if 96<(ofT (foOf L)).length then ([],3) else (ofT (foOf L),0)
theorem ofR_bad {L:List Node} (hr:rightR L≠0):ofR L=([],rightR L):=if_pos hr
theorem ofR_good {L:List Node} (hr:rightR L=0):ofR L=if 96<(ofT (foOf L)).length then ([],3) else (ofT (foOf L),0):=if_neg (by omega)
theorem refOf_ev {L:List Node}:Pf tp i_Q2 [.fl 3 (L.map Node.enc)] (.tup [.fl 2 ((ofR L).1.map Run.enc),.i .i64 (ofR L).2]):=by
  refine Pf_go fn_Q2 (by simp [t_Q2]) fun rp=>?_;unfold t_Q2;simp (disch:=omega)only[go_sem, *]
  refine Pf.go (refRight_ev) (by simp only [go_sem]) fun _=>?_;simp (disch:=omega)only[go_sem, *]
  refine Wb_dec (fun hc=>?_) (fun hc=>?_)
  · have e:=ofR_bad hc
    simp (disch:=omega)only[go_sem, *]
  · have e:=ofR_good (L:=L) (by omega)
    obtain ⟨_,ho,hc1,hL,hd,hl⟩:=foOf_ok (L:=L) (by omega)
    have hap:=Fo.runs_allpos _ ho
    have hsum:=Fo.runs_sum _ ho
    have hlv:=refLeaves_ev ho hc1 hl
    rw [← hL] at hlv
    clear hL
    simp (disch:=omega)only[go_sem, *]
    refine Pf.go (hlv) (by simp only [go_sem]) fun _=>?_;simp (disch:=omega)only[go_sem, *]
    refine Pf.go (refTidy_ev (runsOk_pos hap (by omega))) (by simp only [go_sem]) fun _=>?_;simp (disch:=omega)only[go_sem, *]
    unfold ofT at e
    refine Wb_dec (fun hc5=>?_) (fun hc5=>?_)
    · rw [if_pos (by omega)] at e
      simp (disch:=omega)only[go_sem, *]
    · rw [if_neg (by omega)] at e
      simp (disch:=omega)only[go_sem, *]
end Go.Ab.T
namespace Go.Ab.T
open Go Go.Ab
set_option maxHeartbeats 1000000
theorem nextC_at {L:List Node} {c:Cs} {r:Run} (h:r=⟨partR (lf L c),(lf L c).n - c.gone⟩):(nextC L c).at_=c.at_+r.n:=by rw [h];rfl
theorem newNext {h0 h : AH} {L : List Node} {id : Nat} {sv : V} {c : Cs} {r : Run} {l : List Run} {K : V → AH → Prop} (n : NewC h0 h L id sv c) (q : Rem L c (r :: l))
    (kk:∀ sv' c' h',NewC h0 h' L id sv' c'→CurF h id sv h' sv'→Rem L c' l→c'.at_=c.at_+r.n→K (.tup [.agg r.enc,.b true]) h'):Cq tp i_Q38 [.p id 0 0] h K:=by
  obtain ⟨q1,q2,q3,q4,q5,q6⟩:=q.cons
  refine curNext_ev n.cur q1 q2 ?_
  intro sv3 h3 c3 f3
  rw [← q3]
  exact kk sv3 _ h3 (n.step c3 f3) f3 q5 (nextC_at q3)
theorem newNext_end {h0 h : AH} {L : List Node} {id : Nat} {sv : V} {c : Cs} {K : V → AH → Prop} (n : NewC h0 h L id sv c) (q : Rem L c [])
    (kk:∀ h',NewC h0 h' L id sv c→Ext h h'→K (.tup [.agg (Run.enc ⟨0,0⟩),.b false]) h'):Cq tp i_Q38 [.p id 0 0] h K:=
  curNext_end n.cur (by rw [q.nil];omega) fun h3 hx3=>kk h3 (n.grow hx3) hx3
theorem Cur.app {h h4:AH} {id b:Nat} {sv o w:V} {L:List Node} {c:Cs} (k:Cur h id sv L c) (a:Grown b h o w h4) (ho:nilV o=true∨(idV o≠id∧(nilV sv=true∨idV o≠idV sv))):Cur h4 id sv L c:=by
  have hn:=a.next
  refine ⟨by rw [a.get id k.hi (ho.imp (fun x=>x) (fun x=>x.1.symm))];exact k.blk, ?_,k.big,k.sbig,by rw [a.lim];exact k.lo,by have:=k.hi;omega⟩
  rcases k.stk with ⟨hv,hR⟩ | ⟨i,el,cap,cs,rfl,hg,q1,q2,q3,q4,q5,q6⟩
  · exact .inl ⟨hv,hR⟩
  · refine .inr ⟨i,el,cap,cs,rfl, ?_,q1,q2,q3,by omega,q5,q6⟩
    rw [a.get _ q4 ?_];exact hg
    rcases ho with h1 | h1
    · exact .inl h1
    · rcases h1.2 with h2 | h2
      · cases h2
      · exact .inr (Ne.symm h2)
def Beside (h0:AH) (id:Nat) (sv o:V):Prop:=nilV o=true∨(h0.next≤idV o∧idV o≠id∧(nilV sv=true∨idV o≠idV sv))
theorem Beside.step {h0 h h':AH} {id:Nat} {sv sv' o:V} (b:Beside h0 id sv o) (hl:nilV o=true∨idV o<h.next) (f:CurF h id sv h' sv'):Beside h0 id sv' o:=by
  rcases hl with hl | hl
  · exact .inl hl
  rcases b with b | b
  · exact .inl b
  · refine .inr ⟨b.1,b.2.1, ?_⟩
    rcases f.own with h1 | ⟨h1,h2⟩ | h1
    · exact .inl h1
    · rcases b.2.2 with h3 | h3
      · rw [h3] at h1;cases h1
      · exact .inr (by omega)
    · exact .inr (by omega)
theorem NewC.app {h0 h h4:AH} {L:List Node} {id b:Nat} {sv o w:V} {c:Cs} (n:NewC h0 h L id sv c) (a:Grown b h o w h4) (bs:Beside h0 id sv o):NewC h0 h4 L id sv c∧Beside h0 id sv w:=by
  have hn:=a.next
  have x:=n.ext
  have:=x.next
  refine ⟨⟨n.cur.app a (bs.imp (fun x=>x) (fun x=>x.2)),⟨by omega,a.lim.trans x.lim,fun i hi=>?_⟩,n.id_⟩, ?_⟩
  · rw [a.get i (by omega) (bs.imp (fun x=>x) (fun x=>by omega)),x.get i hi]
  · rcases a.own with h1 | ⟨h1,h2⟩ | h1
    · exact .inl h1
    · rcases bs with b | b
      · rw [b] at h1;cases h1
      · exact .inr (by rw [h2];exact b)
    · have h3:=n.cur.hi
      have h5:=n.cur.sne
      exact .inr ⟨by omega,by omega,h5.imp (fun x=>x) (fun x=>by omega)⟩
theorem sl_curF {b sz:Nat} {h0 h h':AH} {id:Nat} {sv sv' o:V} {R:List (List V)} (s:Sl b h sz o R) (bs:Beside h0 id sv o) (f:CurF h id sv h' sv'):Sl b h' sz o R:=by
  rcases s with ⟨hv,hR⟩ | ⟨i,el,cap,cs,rfl,hg,q1,q2,q3,q4,q5,q6⟩
  · exact .inl ⟨hv,hR⟩
  · refine .inr ⟨i,el,cap,cs,rfl, ?_,q1,q2,q3, ?_,q5,q6⟩
    · rcases bs with b | b
      · cases b
      · rw [f.get i q4 b.2.1 b.2.2];exact hg
    · have:=f.next;omega
theorem Of_ev {L:List Node}:Pf tp i_Q17 [.fl 3 (L.map Node.enc)] (.tup [.fl 2 ((ofR L).1.map Run.enc),.i .i64 (ofR L).2]):=by
  refine Pf_go fn_Q17 (by simp [t_Q17]) fun rp=>?_;unfold t_Q17;simp (disch:=omega)only[go_sem, *]
  refine Pf.go (nodeRight_ev) (by simp only [go_sem]) fun _=>?_;simp (disch:=omega)only[go_sem, *]
  refine Wb_dec (fun hc=>?_) (fun hc=>?_)
  · have e:=ofR_bad hc
    simp (disch:=omega)only[go_sem, *]
  have e:=ofR_good (L:=L) (by omega)
  obtain ⟨_,ho,hc1,hL,hd,hl⟩:=foOf_ok (L:=L) (by omega)
  have hap:=Fo.runs_allpos _ ho
  have hsum:=Fo.runs_sum _ ho
  have hrl:=Fo.runs_len _ ho
  have hst:=start_rem ho hc1 hl
  rw [← hL] at hst
  clear hL
  unfold ofT at e
  simp (disch:=omega)only[go_sem, *]
  refine new_ev (fun h=>absurd h (by omega)) ?_
  intro hr0 id sv h3 N3
  simp (disch:=omega)only[go_sem, *]
  refine ZC_loop_n (fun n e h'=>∃ (sv' o:V) (c:Cs) (l A:List Run),n=l.length∧e 5=o∧e 6=.p id 0 0∧NewC AH.emp h' L id sv' c∧Rem L c l∧Sl 0 h' 2 o (A.map Run.enc)∧Beside AH.emp id sv' o∧A++l=(foOf L).runs) ?_ _ _ _ ⟨sv,.ns,cur0 L,(foOf L).runs,[],rfl, ?_⟩
  · rintro n e' h' ⟨sv',o,c,l,A,rfl,e5,e6,N,R,so,bo,hz⟩ ih
    have nn:=N.ext.next
    have ll:=N.ext.lim
    simp only [emp_lim] at ll
    have olt:=sl_low so
    rw [ZC_unf Q17_9.eq_1]
    simp (disch:=omega)only[go_sem, *]
    match l,R,hz,ih with
    | [],R,hz,ih=>
      refine newNext_end N R ?_
      intro h4 N4 x4
      have l4:=N4.ext.lim
      simp only [emp_lim] at l4
      have xb:Ext h4 ((h4.alloc ⟨2,[[.i .i64 0,.i .i64 0]]⟩).put h4.next ⟨2,[[.i .i64 0,.i .i64 0]]⟩):=by (repeat (first | exact Ext.refl _ | refine Ext.alloc ?_ _ | (refine Ext.put ?_ _ _ ?_;rotate_left;(first | omega | (simp only [next_alloc,next_put];omega)))))
      have so5:=(so.ext x4).ext xb
      obtain rfl:A=(foOf L).runs:=by simpa using hz
      clear hz
      simp (disch:=omega)only[go_sem, *]
      have hsz:=so5.facts.big
      have hA4:(foOf L).runs.length<4000000000:=by omega
      refine Pf.take [idV o] (tidy_ev (runsOk_pos hap (by omega))) (.cons _ _ _ _ _ (so5.froze (fun _=>rfl) (by simp) (by omega)) (.nil _)) fun _=>?_
      simp (disch:=omega)only[go_sem, *]
      refine Wb_dec (fun hc5=>?_) (fun hc5=>?_)
      · rw [if_pos (by omega)] at e
        simp (disch:=omega)only[go_sem, *]
      · rw [if_neg (by omega)] at e
        simp (disch:=omega)only[go_sem, *]
    | r::l,R,hz,ih=>
      refine newNext N R ?_
      intro s4 c4 h4 N4 f4 R4 a4
      clear a4
      have bo4:=bo.step olt f4
      have so4:=sl_curF so bo f4
      have xb:Ext h4 ((h4.alloc ⟨2,[[.i .i64 0,.i .i64 0]]⟩).put h4.next ⟨2,[[.i .i64 r.part,.i .i64 r.n]]⟩):=by (repeat (first | exact Ext.refl _ | refine Ext.alloc ?_ _ | (refine Ext.put ?_ _ _ ?_;rotate_left;(first | omega | (simp only [next_alloc,next_put];omega)))))
      have N5:=N4.grow xb
      have so5:=so4.ext xb
      have hzl:=congrArg List.length hz
      simp only [List.length_append,List.length_cons] at hzl
      have l5:=N4.ext.lim
      simp only [emp_lim] at l5
      simp (disch:=omega)only[go_sem, *]
      refine app_rule (so5.alloc _) (by simp only [go_sem, *]) (Nat.zero_le _) (by simp;omega) ?_
      intro w h6 s6 a6
      have a7:=grown0 a6 ((Ext.refl _).alloc _) (Nat.zero_le _)
      obtain ⟨N6,b6⟩:=N5.app a7 bo4
      simp (disch:=omega)only[go_sem, *]
      refine ih _ _ _ ?_ ⟨s4,w,c4,l,A++[r],rfl, ?_⟩
      · simp
      · simp (disch:=omega)only[go_sem, *]
        exact ⟨by simpa [Run.enc] using s6,by rw [← hz];simp⟩
  · simp (disch:=omega)only[go_sem, *]
    exact ⟨Sl.nil _ _ _,.inl rfl⟩
end Go.Ab.T
namespace Go.Ab.T
open Go Go.Ab
structure Span where
  s:Int
  e:Int
  deriving DecidableEq,Inhabited
@[go_sem] def Span.enc (x:Span):List V:=[.i .i64 x.s,.i .i64 x.e]
def Frm (L:List Run):Prop:=AllPos L∧sumN L≤4096
theorem Frm.nil:Frm []:=⟨fun _ h=>(by cases h),by simp [sumN]⟩
theorem Frm.tail {r:Run} {l:List Run} (h:Frm (r::l)):Frm l:=⟨fun x hx=>h.1 x (List.mem_cons_of_mem _ hx),by
  have:=h.1 r (List.mem_cons_self ..);have:=h.2;simp only [sumN] at this;omega⟩
def spGo (p:Int):Int→List Run→List Span
  | _,[]=>[]
  | a,r::l=>(if r.part=p then [⟨a,a+r.n⟩] else [])++spGo p (a+r.n) l
def nxGo (t:Int):List Span→Option Int
  | []=>none
  | s::l=>if t+1<s.e then some (max (t+1) s.s) else nxGo t l
def nxR (tt:List Span) (t n:Int):Int:=match nxGo t tt with | some x=>x | none=>n+(nth tt 0).s
def lateP (tt:List Span) (n:Int):List Span→Int→Int
  | [],w=>w
  | s::l,w=>lateP tt n l (max (max w (nxR tt s.s n - s.s)) (nxR tt (s.e - 1) n - (s.e - 1)))
def lateR (L:List Run) (f t:Int):Int:=if spGo f 0 L=[] then 0 else if spGo t 0 L=[] then -1 else lateP (spGo t 0 L) (sumN L) (spGo f 0 L) 0
def wrd:List Run→List Int
  | []=>[]
  | r::l=>List.replicate r.n.toNat r.part++wrd l
theorem wrd_len:∀ {L:List Run},AllPos L→((wrd L).length:Int)=sumN L
  | [],_=>rfl
  | r::l,h=>by
    have:=wrd_len (L:=l) (fun x hx=>h x (List.mem_cons_of_mem _ hx))
    have:=h r (List.mem_cons_self ..)
    simp only [wrd,sumN,List.length_append,List.length_replicate];omega
theorem mem_wrd {p:Int}:∀ {L:List Run} {a:Int},AllPos L→(p∈wrd L↔spGo p a L≠[])
  | [],a,_=>by simp [wrd,spGo]
  | r::l,a,h=>by
    have ih:=mem_wrd (p:=p) (L:=l) (a:=a+r.n) (fun x hx=>h x (List.mem_cons_of_mem _ hx))
    have:=h r (List.mem_cons_self ..)
    simp only [wrd,spGo,List.mem_append,List.mem_replicate,ih]
    by_cases hp:r.part=p
    · rw [if_pos hp];simp;left;exact ⟨by omega,hp.symm⟩
    · rw [if_neg hp]
      simp only [List.nil_append]
      constructor
      · rintro (h | h)
        · exact absurd h.2.symm hp
        · exact h
      · exact .inr
inductive Sorted:Int→List Span→Int→Prop where
  | nil (a n:Int):a≤n→Sorted a [] n
  | cons (a n:Int) (x:Span) (l:List Span):a≤x.s→x.s<x.e→Sorted x.e l n→Sorted a (x::l) n
theorem Sorted.lo {a b n:Int} {l:List Span} (h:Sorted b l n) (hab:a≤b):Sorted a l n:=by
  cases h with
  | nil _ _ h=>exact .nil _ _ (by omega)
  | cons _ _ x l h1 h2 h3=>exact .cons _ _ _ _ (by omega) h2 h3
theorem Sorted.le {a n:Int} {l:List Span} (h:Sorted a l n):a≤n:=by
  induction h with
  | nil _ _ h=>exact h
  | cons _ _ x l h1 h2 _ ih=>omega
theorem Sorted.mem {a n:Int} {l:List Span} (h:Sorted a l n) {x:Span} (hx:x∈l):a≤x.s∧x.s<x.e∧x.e≤n:=by
  induction h with
  | nil=>cases hx
  | cons a n y l h1 h2 h3 ih=>
    have:=h3.le
    rcases List.mem_cons.1 hx with rfl | hx
    · omega
    · have:=ih hx;omega
theorem spGo_sorted {p:Int}:∀ {L:List Run} {a:Int},AllPos L→Sorted a (spGo p a L) (a+sumN L)
  | [],a,_=>.nil _ _ (by simp [sumN])
  | r::l,a,h=>by
    have ih:=spGo_sorted (p:=p) (L:=l) (a:=a+r.n) (fun x hx=>h x (List.mem_cons_of_mem _ hx))
    have:=h r (List.mem_cons_self ..)
    have e:a+r.n+sumN l=a+sumN (r::l):=by simp only [sumN];omega
    rw [e] at ih
    rw [spGo]
    split
    · exact .cons _ _ _ _ (by simp only;omega) (by simp only;omega) ih
    · exact ih.lo (by omega)
def wat (W:List Int) (t:Int):Int:=nth W t.toNat
theorem nth_app {α:Type} [Inhabited α] {A B:List α} {i:Nat}:nth (A++B) i=if i<A.length then nth A i else nth B (i - A.length):=by
  unfold nth
  split
  · simp only [List.getD];rw [List.getElem?_append_left (by assumption)]
  · simp only [List.getD];rw [List.getElem?_append_right (by omega)]
theorem nth_rep {α:Type} [Inhabited α] {a:α} {n i:Nat} (h:i<n):nth (List.replicate n a) i=a:=by simp [nth,List.getD,h]
theorem wat_iff {p:Int}:∀ {L:List Run} {a t:Int},AllPos L→a≤t→t<a+sumN L→(wat (wrd L) (t - a)=p↔∃ s∈spGo p a L,s.s≤t∧t<s.e)
  | [],a,t,_,h1,h2=>by simp [sumN] at h2;omega
  | r::l,a,t,h,h1,h2=>by
    have hp:=h r (List.mem_cons_self ..)
    have hl:AllPos l:=fun x hx=>h x (List.mem_cons_of_mem _ hx)
    have hs:=spGo_sorted (p:=p) (L:=l) (a:=a+r.n) hl
    simp only [sumN] at h2
    by_cases ht:t<a+r.n
    · have e:wat (wrd (r::l)) (t - a)=r.part:=by
        unfold wat
        rw [wrd,nth_app,if_pos (by simp;omega),nth_rep (by omega)]
      rw [e,spGo]
      constructor
      · intro hq
        rw [if_pos hq]
        exact ⟨⟨a,a+r.n⟩,by simp,by simp only;omega,by simp only;omega⟩
      · rintro ⟨s,hs1,hs2,hs3⟩
        by_cases hq:r.part=p
        · exact hq
        · rw [if_neg hq] at hs1
          have:=hs.mem hs1
          omega
    · have e:wat (wrd (r::l)) (t - a)=wat (wrd l) (t - (a+r.n)):=by
        unfold wat
        rw [wrd,nth_app,if_neg (by simp;omega)]
        congr 1;simp;omega
      rw [e,wat_iff hl (by omega) (by omega),spGo]
      constructor
      · rintro ⟨s,a1,a2⟩;exact ⟨s,List.mem_append_right _ a1,a2⟩
      · rintro ⟨s,a1,a2,a3⟩
        rcases List.mem_append.1 a1 with a1 | a1
        · split at a1
          · simp at a1;subst a1;simp only at a3;omega
          · cases a1
        · exact ⟨s,a1,a2,a3⟩
def IsDist (W:List Int) (p t d:Int):Prop:=1≤d∧wat W ((t+d) % W.length)=p∧∀ c,1≤c→c<d→wat W ((t+c) % W.length)≠p
theorem IsDist.uniq {W:List Int} {p t a b:Int} (x:IsDist W p t a) (y:IsDist W p t b):a=b:=by
  rcases Int.lt_trichotomy a b with h | h | h
  · exact absurd x.2.1 (y.2.2 a x.1 h)
  · exact h
  · exact absurd y.2.1 (x.2.2 b y.1 h)
theorem IsDist.step {W:List Int} {p t d:Int} (x:IsDist W p t d) (h:1<d):IsDist W p (t+1) (d - 1):=by
  refine ⟨by omega, ?_,fun c h1 h2=>?_⟩
  · rw [show t+1+(d - 1)=t+d by omega];exact x.2.1
  · rw [show t+1+c=t+(c+1) by omega];exact x.2.2 (c+1) (by omega) (by omega)
theorem nxGo_cases {t:Int}:∀ {l:List Span} {a n:Int},Sorted a l n→(nxGo t l=none∧∀ s∈l,s.e≤t+1)∨∃ s∈l,nxGo t l=some (max (t+1) s.s)∧t+1<s.e∧∀ q∈l,q.e≤t+1∨s.s≤q.s
  | [],a,n,_=>.inl ⟨rfl,fun s h=>(by cases h)⟩
  | x::l,a,n,.cons _ _ _ _ h1 h2 h3=>by
    rw [nxGo]
    by_cases hc:t+1<x.e
    · rw [if_pos hc]
      refine .inr ⟨x,List.mem_cons_self ..,rfl,hc,fun q hq=>?_⟩
      rcases List.mem_cons.1 hq with rfl | hq
      · exact .inr (by omega)
      · have:=h3.mem hq;exact .inr (by omega)
    · rw [if_neg hc]
      rcases nxGo_cases h3 with ⟨a1,a2⟩ | ⟨s,a1,a2,a3,a4⟩
      · refine .inl ⟨a1,fun s hs=>?_⟩
        rcases List.mem_cons.1 hs with rfl | hs
        · omega
        · exact a2 s hs
      · refine .inr ⟨s,List.mem_cons_of_mem _ a1,a2,a3,fun q hq=>?_⟩
        rcases List.mem_cons.1 hq with rfl | hq
        · exact .inl (by omega)
        · exact a4 q hq
theorem nx_dist {L:List Run} {p t:Int} (h:AllPos L) (ht0:0≤t) (ht:t<sumN L) (hne:spGo p 0 L≠[]):IsDist (wrd L) p t (nxR (spGo p 0 L) t (sumN L) - t):=by
  have hl:=wrd_len h
  have hs:=spGo_sorted (p:=p) (a:=0) h
  rw [Int.zero_add] at hs
  have hw:∀ x,0≤x→x<sumN L→(wat (wrd L) x=p↔∃ s∈spGo p 0 L,s.s≤x∧x<s.e):=fun x h0 h1=>by
    have:=wat_iff (p:=p) (a:=0) (t:=x) h h0 (by omega)
    rwa [Int.sub_zero] at this
  unfold nxR
  rcases nxGo_cases (t:=t) hs with ⟨a1,a2⟩ | ⟨s,a1,a2,a3,a4⟩
  · rw [a1]
    simp only
    obtain ⟨s0,l0,e0⟩:∃ s0 l0,spGo p 0 L=s0::l0:=by
      match hh:spGo p 0 L,hne with
      | a::b,_=>exact ⟨a,b,rfl⟩
    have m0:s0∈spGo p 0 L:=by rw [e0];exact List.mem_cons_self ..
    have b0:=hs.mem m0
    have n0:nth (spGo p 0 L) 0=s0:=by rw [e0];rfl
    rw [n0]
    refine ⟨by omega, ?_,fun c h1 h2=>?_⟩
    · rw [show t+(sumN L+s0.s - t)=s0.s+((wrd L).length:Int) by omega,Int.add_emod_right,Int.emod_eq_of_lt (by omega) (by omega)]
      exact (hw s0.s (by omega) (by omega)).2 ⟨s0,m0,by omega,by omega⟩
    · by_cases hc:t+c<sumN L
      · rw [Int.emod_eq_of_lt (by omega) (by omega)]
        intro he
        obtain ⟨s,m1,m2,m3⟩:=(hw (t+c) (by omega) hc).1 he
        have:=a2 s m1;omega
      · rw [show t+c=(t+c - (wrd L).length)+((wrd L).length:Int) by omega,Int.add_emod_right,Int.emod_eq_of_lt (by omega) (by omega)]
        intro he
        obtain ⟨s,m1,m2,m3⟩:=(hw (t+c - (wrd L).length) (by omega) (by omega)).1 he
        have hs2:=hs
        rw [e0] at hs2 m1
        cases hs2 with
        | cons _ _ _ _ q1 q2 q3=>
          rcases List.mem_cons.1 m1 with rfl | m1
          · omega
          · have:=q3.mem m1;omega
  · rw [a2]
    simp only
    have b:=hs.mem a1
    refine ⟨by omega, ?_,fun c h1 h2=>?_⟩
    · rw [show t+(max (t+1) s.s - t)=max (t+1) s.s by omega,Int.emod_eq_of_lt (by omega) (by omega)]
      exact (hw _ (by omega) (by omega)).2 ⟨s,a1,by omega,by omega⟩
    · rw [Int.emod_eq_of_lt (by omega) (by omega)]
      intro he
      obtain ⟨q,m1,m2,m3⟩:=(hw (t+c) (by omega) (by omega)).1 he
      rcases a4 q m1 with h5 | h5<;>omega
def mxGo (W:List Int) (f:Int) (F:Int→Int):List Int→Int→Int→Int
  | [],_,w=>w
  | p::l,t,w=>mxGo W f F l (t+1) (if p=f then max w (F t) else w)
theorem mxGo_app {W:List Int} {f:Int} {F:Int→Int}:∀ (A B:List Int) (t w:Int),mxGo W f F (A++B) t w=mxGo W f F B (t+A.length) (mxGo W f F A t w)
  | [],B,t,w=>by simp [mxGo]
  | p::A,B,t,w=>by
    rw [List.cons_append,mxGo,mxGo,mxGo_app A B]
    congr 1;simp;omega
theorem mxGo_other {W:List Int} {f p:Int} {F:Int→Int} (hp:p≠f):∀ (n:Nat) (t w:Int),mxGo W f F (List.replicate n p) t w=w
  | 0,t,w=>rfl
  | n+1,t,w=>by rw [List.replicate_succ,mxGo,if_neg hp,mxGo_other hp n]
theorem mxGo_own {W:List Int} {f:Int} {F:Int→Int} (X:Int):∀ (n:Nat) (t w:Int),X≤w→(∀ i,t≤i→i<t+n→F i≤max X (F (t+n - 1)))→mxGo W f F (List.replicate n f) t w=if n=0 then w else max w (F (t+n - 1))
  | 0,t,w,_,_=>rfl
  | n+1,t,w,hX,h=>by
    rw [List.replicate_succ,mxGo,if_pos rfl,mxGo_own X n (t+1) _ (by omega) (fun i h1 h2=>by
      have:=h i (by omega) (by omega)
      rw [show t+1+(n:Int) - 1=t+((n+1:Nat):Int) - 1 by omega];exact this)]
    have h0:=h t (by omega) (by omega)
    by_cases hn:n=0
    · subst hn;simp
    · rw [if_neg hn,if_neg (by omega),show t+1+(n:Int) - 1=t+((n+1:Nat):Int) - 1 by omega];omega
theorem mxGo_run {W:List Int} {f:Int} {F:Int→Int} {n:Nat} {t w:Int} (hn:1≤n) (h:∀ i,t≤i→i<t+n→F i≤max (F t) (F (t+n - 1))):mxGo W f F (List.replicate n f) t w=max (max w (F t)) (F (t+n - 1)):=by
  obtain ⟨m,rfl⟩:∃ m,n=m+1:=⟨n - 1,by omega⟩
  rw [List.replicate_succ,mxGo,if_pos rfl,mxGo_own (F t) m (t+1) _ (by omega) (fun i h1 h2=>by
    have:=h i (by omega) (by omega)
    rw [show t+1+(m:Int) - 1=t+((m+1:Nat):Int) - 1 by omega];exact this)]
  by_cases hn:m=0
  · subst hn;simp
  · rw [if_neg hn,show t+1+(m:Int) - 1=t+((m+1:Nat):Int) - 1 by omega]
theorem late_law {M : List Run} {f p : Int} (hM : AllPos M) (hne : spGo p 0 M ≠ []) : ∀ (L : List Run) (a w : Int) (A : List Int), AllPos L → wrd M = A ++ wrd L → (A.length : Int) = a →
    mxGo (wrd M) f (fun t=>nxR (spGo p 0 M) t (sumN M) - t) (wrd L) a w=lateP (spGo p 0 M) (sumN M) (spGo f a L) w
  | [],a,w,A,_,_,_=>rfl
  | r::l,a,w,A,h,hA,ha=>by
    have hp:=h r (List.mem_cons_self ..)
    have hl:AllPos l:=fun x hx=>h x (List.mem_cons_of_mem _ hx)
    have hwl:=wrd_len hM
    have hwl2:=wrd_len hl
    have hAl:=congrArg List.length hA
    simp only [wrd,List.length_append,List.length_replicate] at hAl
    have hsum:a+r.n+sumN l=sumN M:=by omega
    have hs0:=sumN_pos hl
    have hrest:=fun w=>late_law (f:=f) hM hne l (a+r.n) w (A++List.replicate r.n.toNat r.part) hl (by rw [hA,wrd,List.append_assoc]) (by simp;omega)
    rw [wrd,mxGo_app,spGo]
    rw [show a+((List.replicate r.n.toNat r.part).length:Int)=a+r.n by simp;omega]
    by_cases hq:r.part=f
    · rw [if_pos hq,hq]
      have hin:∀ i,a≤i→i<a+r.n→wat (wrd M) i=f:=by
        intro i h1 h2
        unfold wat
        rw [hA,nth_app,if_neg (by omega),wrd,nth_app,if_pos (by simp;omega),nth_rep (by omega)];exact hq
      have hd:∀ i,a≤i→i<a+r.n→IsDist (wrd M) p i (nxR (spGo p 0 M) i (sumN M) - i):=fun i h1 h2=>nx_dist hM (by omega) (by omega) hne
      have key:∀ i,a≤i→i<a+r.n.toNat→(fun t=>nxR (spGo p 0 M) t (sumN M) - t) i≤max ((fun t=>nxR (spGo p 0 M) t (sumN M) - t) a) ((fun t=>nxR (spGo p 0 M) t (sumN M) - t) (a+r.n.toNat - 1)):=by
        intro i h1 h2
        simp only
        by_cases hfp:f=p
        · by_cases hlast:i=a+r.n.toNat - 1
          · subst hlast;omega
          · have d1:IsDist (wrd M) p i 1:=⟨by omega,by
              rw [Int.emod_eq_of_lt (by omega) (by omega),hin _ (by omega) (by omega)];exact hfp,fun c h3 h4=>by omega⟩
            have e1:=(hd i h1 (by omega)).uniq d1
            have e2:=(hd (a+r.n.toNat - 1) (by omega) (by omega)).1
            omega
        · have dec:∀ k:Nat,a+k<a+r.n→nxR (spGo p 0 M) (a+k) (sumN M) - (a+k)≤nxR (spGo p 0 M) a (sumN M) - a:=by
            intro k
            induction k with
            | zero=>intro _;simp
            | succ k ih=>
              intro hk
              have ih:=ih (by omega)
              have d:=hd (a+k) (by omega) (by omega)
              have g:1<nxR (spGo p 0 M) (a+k) (sumN M) - (a+k):=by
                have h1:=d.1
                rcases Int.lt_or_eq_of_le h1 with h2 | h2
                · exact h2
                · have h3:=d.2.1
                  rw [← h2,Int.emod_eq_of_lt (by omega) (by omega),hin _ (by omega) (by omega)] at h3
                  exact absurd h3 hfp
              have d2:=d.step g
              have e:=(hd (a+k+1) (by omega) (by omega)).uniq d2
              rw [show a+((k+1:Nat):Int)=a+k+1 by omega]
              omega
          have:=dec (i - a).toNat (by omega)
          rw [show a+((i - a).toNat:Int)=i by omega] at this
          omega
      rw [mxGo_run (by omega) key,hrest]
      rw [List.singleton_append,lateP]
      simp only
      rw [show a+(r.n.toNat:Int) - 1=a+r.n - 1 by omega]
    · rw [if_neg hq,mxGo_other hq,hrest,List.nil_append]
end Go.Ab.T
namespace Go.Ab.T
open Go Go.Ab
def ovGo (t u:Int):List Span→Int→Int
  | [],n=>n
  | s::l,n=>ovGo t u l (n+max 0 (min s.e u - max s.s t))
def minN (F:Int→Int) (P:Int):Nat→Int→Int→Int
  | 0,_,w=>w
  | k+1,t,w=>minN F P k (t+P) (min w (F t))
def budR (L:List Run) (p P:Int):Int:=if P<1∨sumN L=0∨sumN L % P≠0 then -1 else minN (fun t=>ovGo t (t+P) (spGo p 0 L) 0) P (sumN L / P).toNat 0 P
def cntGo (p:Int):List Int→Int→Int
  | [],n=>n
  | x::l,n=>cntGo p l (if x=p then n+1 else n)
theorem cntGo_add (p:Int):∀ (l:List Int) (n:Int),cntGo p l n=n+cntGo p l 0
  | [],n=>by simp [cntGo]
  | x::l,n=>by rw [cntGo,cntGo,cntGo_add p l,cntGo_add p l (if x=p then 0+1 else 0)];split<;>omega
theorem cntGo_le (p:Int):∀ (l:List Int) (n:Int),cntGo p l n≤n+l.length
  | [],n=>by simp [cntGo]
  | x::l,n=>by
    have:=cntGo_le p l (if x=p then n+1 else n)
    rw [cntGo];simp only [List.length_cons];split at this<;>split<;>simp_all<;>omega
def cnt (p t u:Int):Int→List Int→Int
  | _,[]=>0
  | a,x::l=>(if x=p∧t≤a∧a<u then 1 else 0)+cnt p t u (a+1) l
theorem cnt_app {p t u:Int}:∀ (A B:List Int) (a:Int),cnt p t u a (A++B)=cnt p t u a A+cnt p t u (a+A.length) B
  | [],B,a=>by simp [cnt]
  | x::A,B,a=>by
    rw [List.cons_append,cnt,cnt,cnt_app A B,show a+1+(A.length:Int)=a+((x::A).length:Int) by simp;omega];omega
theorem cnt_rep {p q t u:Int}:∀ (n:Nat) (a:Int),cnt p t u a (List.replicate n q)=if q=p then max 0 (min (a+n) u - max a t) else 0
  | 0,a=>by simp [cnt];intro _;omega
  | n+1,a=>by
    rw [List.replicate_succ,cnt,cnt_rep n]
    by_cases hq:q=p
    · simp only [hq,true_and,if_true]
      split<;>omega
    · simp [hq]
theorem cnt_spans {p t u:Int}:∀ (L:List Run) (a w:Int),AllPos L→ovGo t u (spGo p a L) w=w+cnt p t u a (wrd L)
  | [],a,w,_=>by simp [spGo,ovGo,wrd,cnt]
  | r::l,a,w,h=>by
    have hp:=h r (List.mem_cons_self ..)
    have hl:AllPos l:=fun x hx=>h x (List.mem_cons_of_mem _ hx)
    rw [spGo,wrd,cnt_app,cnt_rep]
    by_cases hq:r.part=p
    · rw [if_pos hq,if_pos hq,List.singleton_append,ovGo,cnt_spans l _ _ hl]
      simp only [List.length_replicate]
      rw [show a+(r.n.toNat:Int)=a+r.n by omega];omega
    · rw [if_neg hq,if_neg hq,List.nil_append,cnt_spans l _ _ hl]
      simp only [List.length_replicate]
      rw [show a+(r.n.toNat:Int)=a+r.n by omega];omega
theorem cnt_out {p t u:Int}:∀ (A:List Int) (a:Int),a+A.length≤t∨u≤a→cnt p t u a A=0
  | [],a,_=>rfl
  | x::A,a,h=>by
    simp only [List.length_cons] at h
    rw [cnt,cnt_out A (a+1) (by omega),if_neg (by omega)];rfl
theorem cnt_in {p t u:Int}:∀ (A:List Int) (a:Int),t≤a→a+A.length≤u→cnt p t u a A=cntGo p A 0
  | [],a,_,_=>rfl
  | x::A,a,h1,h2=>by
    simp only [List.length_cons] at h2
    rw [cnt,cnt_in A (a+1) (by omega) (by omega),cntGo,cntGo_add p A (if x=p then 0+1 else 0)]
    by_cases hx:x=p
    · rw [if_pos hx,if_pos ⟨hx,h1,by omega⟩];omega
    · rw [if_neg hx,if_neg (fun h=>hx h.1)]
theorem bud_count {L:List Run} {p t P:Int} (h:AllPos L) (h0:0≤t) (hP:0≤P) (h1:t+P≤sumN L):ovGo t (t+P) (spGo p 0 L) 0=cntGo p (((wrd L).drop t.toNat).take P.toNat) 0:=by
  have hl:=wrd_len h
  rw [cnt_spans L 0 0 h]
  have e:wrd L=(wrd L).take t.toNat++(((wrd L).drop t.toNat).take P.toNat++((wrd L).drop t.toNat).drop P.toNat):=by
    rw [List.take_append_drop,List.take_append_drop]
  conv=>lhs;rw [e]
  rw [cnt_app,cnt_app]
  simp only [List.length_take,List.length_drop]
  rw [cnt_out _ _ (.inl (by simp only [List.length_take];omega)),cnt_in _ _ (by omega) (by simp only [List.length_take,List.length_drop];omega),cnt_out _ _ (.inr (by omega))]
  omega
theorem minN_le {F:Int→Int} {P:Int}:∀ (k:Nat) (t w v:Int),(∀ i:Nat,i<k→F (t+i*P)≤v)→v≤w→1≤k→minN F P k t w=minN F P k t v
  | 0,t,w,v,_,_,hk=>by omega
  | k+1,t,w,v,h,hv,_=>by
    have h0:=h 0 (by omega)
    simp only [Int.natCast_zero,Int.zero_mul,Int.add_zero] at h0
    rw [minN,minN]
    congr 1
    omega
end Go.Ab.T
namespace Go.Ab.T
open Go Go.Ab
theorem Frm.ok {L:List Run} (h:Frm L):RunsOk L:=runsOk_pos h.1 (by have:=h.2;omega)
theorem Frm.length {L:List Run} (h:Frm L):lengthGo L 0=sumN L:=by rw [lengthGo_sum L 0 h.1 (by omega) (by have:=h.2;omega)];omega
theorem spans_ev {L:List Run} {p:Int} (hf:Frm L):Pf tp i_Q69 [.fl 2 (L.map Run.enc),.i .i64 p] (.fl 2 ((spGo p 0 L).map Span.enc)):=by
  refine Pf_go fn_Q69 (by simp [t_Q69]) fun rp=>?_;unfold t_Q69;simp (disch:=omega)only[go_sem, *]
  have hL:=rp.head.len
  obtain ⟨hp,hs⟩:=hf
  refine ZC_loop_n (fun n e h=>∃ (i:Nat) (a:Int) (o:V) (A:List Span),n=L.length - i∧h.lim=0∧e 10=.fl 2 (L.map Run.enc)∧e 11=.i .i64 L.length∧e 12=.i .i64 i∧e 1=.i .i64 p∧e 5=o∧e 6=.i .i64 a∧i≤L.length∧0≤a∧a+sumN (L.drop i)≤4096∧A.length≤i∧Sl 0 h 2 o (A.map Span.enc)∧A++spGo p a (L.drop i)=spGo p 0 L) ?_ _ _ _ ⟨0,0,.ns,[],rfl, ?_⟩
  · rintro n e h ⟨i,a,o,A,rfl,hl,e10,e11,e12,e1,e5,e6,hi,ha,has,hA,so,hz⟩ ih
    rw [ZC_unf Q69_11.eq_1]
    simp (disch:=omega)only[go_sem, *]
    refine Wb_dec (fun hc=>?_) (fun hc=>?_)
    · have hn:=hp.nth (i:=i) (by omega)
      have hd:=drop_nth (L:=L) (i:=i) (by omega)
      have hsd:=sumN_pos (w:=L.drop (i+1)) (fun q hq=>hp q (List.mem_of_mem_drop hq))
      rw [hd,spGo] at hz
      rw [hd,sumN] at has
      clear hd
      simp (disch:=omega)only[go_sem, *]
      have hadd:=addR_sum (a:=a) (b:=(nth L i).n) (by omega) (by omega) (by omega)
      refine Pf.go (add_ev (a:=a) (b:=(nth L i).n) (by omega) (by omega)) (by simp only [go_sem]) fun _=>?_;simp (disch:=omega)only[go_sem, *]
      have x1:∀ k,Ext h ((h.alloc ⟨2,[[.i .i64 0,.i .i64 0]]⟩).put h.next k):=fun k=>by (repeat (first | exact Ext.refl _ | refine Ext.alloc ?_ _ | (refine Ext.put ?_ _ _ ?_;rotate_left;(first | omega | (simp only [next_alloc,next_put];omega)))))
      refine Wg_dec (fun hc2=>?_) (fun hc2=>?_)
      · rw [if_pos hc2] at hz
        simp (disch:=omega)only[go_sem, *]
        refine Wb_dec (fun hc3=>?_) (fun hc3=>by omega)
        simp (disch:=omega)only[go_sem, *]
        refine app_rule (R:=A.map Span.enc) ((so.ext (x1 _)).alloc _) (by simp only [go_sem, *]) (Nat.zero_le _) (by simp;omega) ?_
        intro w h4 s4 g4
        have hl4:=g4.lim
        simp (disch:=omega)only[go_sem, *]
        refine ih _ _ _ ?_ ⟨i+1,a+(nth L i).n,w,A++[⟨a,a+(nth L i).n⟩],rfl, ?_⟩
        · omega
        · simp (disch:=omega)only[go_sem, *]
          ((repeat' refine And.intro ?_ ?_)<;>first | omega | assumption | (simp;omega) | (simpa [Span.enc] using s4) | ((rw [← hz];simp)))
      · rw [if_neg hc2] at hz
        simp (disch:=omega)only[go_sem, *]
        refine ih _ _ _ ?_ ⟨i+1,a+(nth L i).n,o,A,rfl, ?_⟩
        · omega
        · simp (disch:=omega)only[go_sem, *]
          ((repeat' refine And.intro ?_ ?_)<;>first | omega | assumption | (exact so.ext (x1 _)) | ((rw [← hz];simp)))
    · rw [List.drop_eq_nil_of_le (by omega),spGo,List.append_nil] at hz
      simp (disch:=omega)only[go_sem, *]
      subst hz
      exact so.froze (fun _=>rfl) trivial (by omega)
  · simp (disch:=omega)only[go_sem, *]
    exact ⟨by simp;omega,Sl.nil _ _ _⟩
theorem next_ev {A:List Span} {t N a:Int} (hs:Sorted a A N) (ha:0≤a) (hn:N≤4096) (ht:0≤t∧t≤4096) (hne:A≠[]):Pf tp i_Q71 [.fl 2 (A.map Span.enc),.i .i64 t,.i .i64 N] (.i .i64 (nxR A t N)):=by
  refine Pf_go fn_Q71 (by simp [t_Q71]) fun rp=>?_;unfold t_Q71;simp (disch:=omega)only[go_sem, *]
  have hL:=rp.head.len
  have hlen:0<A.length:=List.length_pos_iff.2 hne
  refine ZC_loop_n (fun n e h=>∃ (i:Nat),n=A.length - i∧h.lim=0∧e 9=.fl 2 (A.map Span.enc)∧e 10=.i .i64 A.length∧e 11=.i .i64 i∧e 0=.fl 2 (A.map Span.enc)∧e 1=.i .i64 t∧e 2=.i .i64 N∧i≤A.length∧nxGo t (A.drop i)=nxGo t A) ?_ _ _ _ ⟨0,rfl, ?_⟩
  · rintro n e h ⟨i,rfl,hl,e9,e10,e11,e0,e1,e2,hi,hz⟩ ih
    rw [ZC_unf Q71_7.eq_1]
    simp (disch:=omega)only[go_sem, *]
    refine Wb_dec (fun hc=>?_) (fun hc=>?_)
    · have hm:=hs.mem (nth_mem (L:=A) (j:=i) (by omega))
      rw [drop_nth (by omega),nxGo] at hz
      simp (disch:=omega)only[go_sem, *]
      refine Wb_dec (fun hc2=>?_) (fun hc2=>?_)
      · rw [if_pos hc2] at hz
        unfold nxR
        rw [← hz]
        simp (disch:=omega)only[go_sem, *]
      · rw [if_neg hc2] at hz
        simp (disch:=omega)only[go_sem, *]
        refine ih _ _ _ ?_ ⟨i+1,rfl, ?_⟩
        · omega
        · simp (disch:=omega)only[go_sem, *]
          ((repeat' refine And.intro ?_ ?_)<;>first | omega | assumption)
    · have hm:=hs.mem (nth_mem (L:=A) (j:=0) (by omega))
      rw [List.drop_eq_nil_of_le (by omega),nxGo] at hz
      unfold nxR
      rw [← hz]
      have z0:Int.toNat 0=0:=rfl
      have hlen2:(0:Int)<A.length:=by omega
      simp (disch:=omega)only[go_sem, *]
  · simp (disch:=omega)only[go_sem, *]
end Go.Ab.T
namespace Go.Ab.T
open Go Go.Ab
set_option maxHeartbeats 1000000
theorem nxR_bd {A:List Span} {t n:Int} (hs:Sorted 0 A n) (ht:t<n) (hne:A≠[]):nxR A t n≤n+n:=by
  have hm:=hs.mem (nth_mem (L:=A) (j:=0) (List.length_pos_iff.2 hne))
  unfold nxR
  rcases nxGo_cases (t:=t) hs with ⟨h,_⟩ | ⟨s,hs1,h,h2,_⟩
  · rw [h];simp only;omega
  · rw [h];simp only
    have:=hs.mem hs1
    omega
theorem late_ev {L:List Run} {f t:Int} (hf:Frm L):Pf tp i_Q40 [.fl 2 (L.map Run.enc),.i .i64 f,.i .i64 t] (.i .i64 (lateR L f t)):=by
  refine Pf_go fn_Q40 (by simp [t_Q40]) fun rp=>?_;unfold t_Q40;simp (disch:=omega)only[go_sem, *]
  have hss:=spGo_sorted (p:=f) (a:=0) hf.1
  have hst:=spGo_sorted (p:=t) (a:=0) hf.1
  rw [Int.zero_add] at hss hst
  have hlen:=hf.length
  have hs0:=sumN_pos hf.1
  have hs4:=hf.2
  refine Pf.go (spans_ev (p:=f) hf) (by simp only [go_sem]) fun q1=>?_
  have hq1:=q1.len
  simp (disch:=omega)only[go_sem, *]
  refine Pf.go (spans_ev (p:=t) hf) (by simp only [go_sem]) fun _=>?_;simp (disch:=omega)only[go_sem, *]
  unfold lateR
  refine Wb_dec (fun hc=>?_) (fun hc=>?_)
  · have e:spGo f 0 L=[]:=List.length_eq_zero_iff.1 (by omega)
    rw [if_pos e]
    simp (disch:=omega)only[go_sem, *]
  have e:spGo f 0 L≠[]:=fun h=>hc (by rw [h];rfl)
  rw [if_neg e]
  clear e
  simp (disch:=omega)only[go_sem, *]
  refine Wb_dec (fun hc=>?_) (fun hc=>?_)
  · have e:spGo t 0 L=[]:=List.length_eq_zero_iff.1 (by omega)
    rw [if_pos e]
    simp (disch:=omega)only[go_sem, *]
  have hst0:spGo t 0 L≠[]:=fun h=>hc (by rw [h];rfl)
  rw [if_neg hst0]
  simp (disch:=omega)only[go_sem, *]
  refine Pf.go (length_ev hf.ok) (by simp only [go_sem]) fun _=>?_;simp (disch:=omega)only[go_sem, *]
  refine ZC_loop_n (fun n e h=>∃ (i:Nat) (w:Int),n=(spGo f 0 L).length - i∧h.lim=0∧e 31=.fl 2 ((spGo f 0 L).map Span.enc)∧e 32=.i .i64 (spGo f 0 L).length∧e 33=.i .i64 i∧e 8=.fl 2 ((spGo t 0 L).map Span.enc)∧e 9=.i .i64 (sumN L)∧e 10=.i .i64 w∧i≤(spGo f 0 L).length∧lateP (spGo t 0 L) (sumN L) ((spGo f 0 L).drop i) w=lateP (spGo t 0 L) (sumN L) (spGo f 0 L) 0) ?_ _ _ _ ⟨0,0,rfl, ?_⟩
  · rintro n e h ⟨i,w,rfl,hl,e31,e32,e33,e8,e9,e10,hi,hz⟩ ih
    rw [ZC_unf Q40_18.eq_1]
    simp (disch:=omega)only[go_sem, *]
    refine Wb_dec (fun hc=>?_) (fun hc=>?_)
    · have hm:=hss.mem (nth_mem (L:=spGo f 0 L) (j:=i) (by omega))
      rw [drop_nth (by omega),lateP] at hz
      simp (disch:=omega)only[go_sem, *]
      refine ZC_loop ?_
      rw [ZC_unf Q40_16.eq_1]
      simp (disch:=omega)only[go_sem, *]
      try (refine Wb_dec (fun hc9=>?_) (fun hc9=>absurd hc9 (by decide));simp (disch:=omega)only[go_sem, *])
      refine Pf.go (next_ev hst (Int.le_refl 0) hf.2 (by omega) hst0) (by simp only [go_sem]) fun _=>?_;simp (disch:=omega)only[go_sem, *]
      have hnx:=nx_dist hf.1 (t:=(nth (spGo f 0 L) i).s) (by omega) (by omega) hst0
      have hnx1:=hnx.1
      have hnx2:=nxR_bd (t:=(nth (spGo f 0 L) i).s) hst (by omega) hst0
      try simp (disch:=omega)only[go_sem, *]
      refine ZC_loop ?_
      rw [ZC_unf Q40_16.eq_1]
      simp (disch:=omega)only[go_sem, *]
      try (refine Wb_dec (fun hc9=>?_) (fun hc9=>absurd hc9 (by decide));simp (disch:=omega)only[go_sem, *])
      refine Pf.go (next_ev hst (Int.le_refl 0) hf.2 (by omega) hst0) (by simp only [go_sem]) fun _=>?_;simp (disch:=omega)only[go_sem, *]
      have hnx:=nx_dist hf.1 (t:=(nth (spGo f 0 L) i).e - 1) (by omega) (by omega) hst0
      have hnx1:=hnx.1
      have hnx2:=nxR_bd (t:=(nth (spGo f 0 L) i).e - 1) hst (by omega) hst0
      try simp (disch:=omega)only[go_sem, *]
      refine ZC_loop ?_
      rw [ZC_unf Q40_16.eq_1]
      simp (disch:=omega)only[go_sem, *]
      try (refine Wb_dec (fun hc9=>absurd hc9 (by decide)) (fun hc9=>?_);simp (disch:=omega)only[go_sem, *])
      refine ih _ _ _ ?_ ⟨i+1,(max (max w (nxR (spGo t 0 L) (nth (spGo f 0 L) i).s (sumN L) - (nth (spGo f 0 L) i).s)) (nxR (spGo t 0 L) ((nth (spGo f 0 L) i).e - 1) (sumN L) - ((nth (spGo f 0 L) i).e - 1))),rfl, ?_⟩
      · omega
      · simp (disch:=omega)only[go_sem, *]
        ((repeat' refine And.intro ?_ ?_)<;>first | omega | assumption)
    · rw [List.drop_eq_nil_of_le (by omega),lateP] at hz
      simp (disch:=omega)only[go_sem, *]
  · simp (disch:=omega)only[go_sem, *]
end Go.Ab.T
namespace Go.Ab.T
open Go Go.Ab
set_option maxHeartbeats 1000000
@[go_sem] def encI (x:Int):List V:=[.i .i64 x]
set_option maxRecDepth 4000 in
theorem words_ev {L:List Run} (hf:Frm L):Pf tp i_Q48 [.fl 2 (L.map Run.enc)] (.fl 1 ((wrd L).map encI)):=by
  refine Pf_go fn_Q48 (by simp [t_Q48]) fun rp=>?_;unfold t_Q48;simp (disch:=omega)only[go_sem, *]
  have hL:=rp.head.len
  have hwl:=wrd_len hf.1
  have hs4:=hf.2
  refine ZC_loop_n (fun n e h=>∃ (i:Nat) (o:V) (A:List Int),n=L.length - i∧h.lim=0∧e 7=.fl 2 (L.map Run.enc)∧e 8=.i .i64 L.length∧e 9=.i .i64 i∧e 3=o∧i≤L.length∧Sl 0 h 1 o (A.map encI)∧A++wrd (L.drop i)=wrd L) ?_ _ _ _ ⟨0,.ns,[],rfl, ?_⟩
  · rintro n e h ⟨i,o,A,rfl,hl,e7,e8,e9,e3,hi,so,hz⟩ ih
    rw [ZC_unf Q48_11.eq_1]
    simp (disch:=omega)only[go_sem, *]
    refine Wb_dec (fun hc=>?_) (fun hc=>?_)
    · have hn:=hf.1.nth (i:=i) (by omega)
      rw [drop_nth (by omega),wrd] at hz
      have hzl:=congrArg List.length hz
      simp only [List.length_append,List.length_replicate] at hzl
      simp (disch:=omega)only[go_sem, *]
      have x1:∀ k,Ext h ((h.alloc ⟨2,[[.i .i64 0,.i .i64 0]]⟩).put h.next k):=fun k=>by (repeat (first | exact Ext.refl _ | refine Ext.alloc ?_ _ | (refine Ext.put ?_ _ _ ?_;rotate_left;(first | omega | (simp only [next_alloc,next_put];omega)))))
      have bx:((h.alloc ⟨2,[[.i .i64 0,.i .i64 0]]⟩).put h.next ⟨2,[[.i .i64 (nth L i).part,.i .i64 (nth L i).n]]⟩).get h.next=some ⟨2,[[.i .i64 (nth L i).part,.i .i64 (nth L i).n]]⟩:=by simp (disch:=omega)only[go_sem, *]
      have so1:=so.ext (x1 ⟨2,[[.i .i64 (nth L i).part,.i .i64 (nth L i).n]]⟩)
      have hl1:((h.alloc ⟨2,[[.i .i64 0,.i .i64 0]]⟩).put h.next ⟨2,[[.i .i64 (nth L i).part,.i .i64 (nth L i).n]]⟩).lim=0:=by simp (disch:=omega)only[go_sem, *]
      have hid:nilV o=true∨idV o≠h.next:=(sl_low so).imp (fun x=>x) (fun x=>by omega)
      have hlt:h.next<((h.alloc ⟨2,[[.i .i64 0,.i .i64 0]]⟩).put h.next ⟨2,[[.i .i64 (nth L i).part,.i .i64 (nth L i).n]]⟩).next:=by simp (disch:=omega)only[go_sem, *];omega
      generalize ((h.alloc ⟨2,[[.i .i64 0,.i .i64 0]]⟩).put h.next ⟨2,[[.i .i64 (nth L i).part,.i .i64 (nth L i).n]]⟩)=hh at bx so1 hl1 hlt ⊢
      generalize h.next=b at bx hid hlt ⊢
      refine ZC_loop_n (fun n e h=>∃ (j:Nat) (o:V) (B:List Int),n=(nth L i).n.toNat - j∧h.lim=0∧e 7=.fl 2 (L.map Run.enc)∧e 8=.i .i64 L.length∧e 9=.i .i64 i∧e 3=o∧e 5=.p b 0 0∧e 6=.i .i64 j∧h.get b=some ⟨2,[[.i .i64 (nth L i).part,.i .i64 (nth L i).n]]⟩∧(nilV o=true∨idV o≠b)∧b<h.next∧Sl 0 h 1 o (B.map encI)∧j≤(nth L i).n.toNat∧A++List.replicate j (nth L i).part=B) ?_ _ _ _ ⟨0,o,A,rfl, ?_⟩
      · rintro n e h ⟨j,o,B,rfl,hl,e7,e8,e9,e3,e5,e6,bx,hid,hlt,so,hj,hB⟩ ih2
        obtain ⟨olen,obig,olt,olo,oget,oat,orow,ocell,ocells⟩:=so.facts
        have hBl:=congrArg List.length hB
        simp only [List.length_append,List.length_replicate] at hBl
        rw [ZC_unf Q48_9.eq_1]
        simp (disch:=omega)only[go_sem, *]
        refine Wg_dec (fun hc2=>?_) (fun hc2=>?_)
        · have hB8:((B.length:Int)<8192):=by omega
          simp (disch:=omega)only[go_sem, *]
          refine app_rule (so.alloc _) (by simp only [go_sem, *]) (Nat.zero_le _) (by simp;omega) ?_
          intro w h4 s4 g4
          have g5:=grown0 g4 ((Ext.refl _).alloc _) (Nat.zero_le _)
          have hl4:=g5.lim
          have hn4:=g5.next
          have hb4:=g5.get b hlt (hid.imp (fun x=>x) (fun x=>x.symm))
          have hid4:nilV w=true∨idV w≠b:=by
            rcases g5.own with h1 | ⟨h1,h2⟩ | h1
            · exact .inl h1
            · rcases hid with h3 | h3
              · rw [h3] at h1;cases h1
              · exact .inr (by omega)
            · exact .inr (by omega)
          simp (disch:=omega)only[go_sem, *]
          refine ih2 _ _ _ ?_ ⟨j+1,w,B++[(nth L i).part],rfl, ?_⟩
          · omega
          · simp (disch:=omega)only[go_sem, *]
            ((repeat' refine And.intro ?_ ?_)<;>first | omega | assumption | (simpa [encI] using s4) | ((rw [← hB,List.replicate_succ',List.append_assoc])))
        · simp (disch:=omega)only[go_sem, *]
          have hj2:j=(nth L i).n.toNat:=by omega
          refine ih _ _ _ ?_ ⟨i+1,o,B,rfl, ?_⟩
          · omega
          · simp (disch:=omega)only[go_sem, *]
            ((repeat' refine And.intro ?_ ?_)<;>first | omega | assumption | ((rw [← hB,hj2,List.append_assoc];exact hz)))
      · simp (disch:=omega)only[go_sem, *]
    · rw [List.drop_eq_nil_of_le (by omega),wrd,List.append_nil] at hz
      simp (disch:=omega)only[go_sem, *]
      subst hz
      exact so.froze (fun _=>rfl) trivial (by omega)
  · simp (disch:=omega)only[go_sem, *]
    exact Sl.nil _ _ _
def orGo (p:Int):List Int→Bool→Bool
  | [],b=>b
  | x::l,b=>orGo p l (b||decide (x=p))
theorem orGo_mem (p:Int):∀ (l:List Int) (b:Bool),orGo p l b=(b||decide (p∈l))
  | [],b=>by simp [orGo]
  | x::l,b=>by
    rw [orGo,orGo_mem p l]
    by_cases h:x=p
    · subst h;simp
    · have h2:¬ p=x:=fun q=>h q.symm
      simp [h,h2]
end Go.Ab.T
namespace Go.Ab.T
open Go Go.Ab
set_option maxHeartbeats 1000000
theorem refLate_ev {L:List Run} {f t:Int} (hf:Frm L):Pf tp i_Q25 [.fl 2 (L.map Run.enc),.i .i64 f,.i .i64 t] (.i .i64 (lateR L f t)):=by
  refine Pf_go fn_Q25 (by simp [t_Q25]) fun rp=>?_;unfold t_Q25;simp (disch:=omega)only[go_sem, *]
  have hL:=rp.head.len
  have hwl:=wrd_len hf.1
  have hs4:=hf.2
  have hs0:=sumN_pos hf.1
  refine Pf.go (words_ev hf) (by simp only [go_sem]) fun _=>?_;simp (disch:=omega)only[go_sem, *]
  have r0:(if f∈wrd L then if t∈wrd L then mxGo (wrd L) f (fun x=>nxR (spGo t 0 L) x (sumN L) - x) (wrd L) 0 0 else -1 else 0)=lateR L f t:=by
    unfold lateR
    have m1:=mem_wrd (p:=f) (a:=0) hf.1
    have m2:=mem_wrd (p:=t) (a:=0) hf.1
    by_cases h1:spGo f 0 L=[]
    · rw [if_pos h1,if_neg (by rw [m1];exact fun h=>h h1)]
    · rw [if_neg h1,if_pos (m1.2 h1)]
      by_cases h2:spGo t 0 L=[]
      · rw [if_pos h2,if_neg (by rw [m2];exact fun h=>h h2)]
      · rw [if_neg h2,if_pos (m2.2 h2)]
        exact late_law hf.1 h2 L 0 0 [] hf.1 rfl rfl
  rw [← r0]
  clear r0
  refine ZC_loop_n (fun n e h=>∃ (i:Nat) (s:Bool) (y:Bool),n=(wrd L).length - i∧h.lim=0∧e 18=.fl 1 ((wrd L).map encI)∧e 19=.i .i64 (wrd L).length∧e 20=.i .i64 i∧e 1=.i .i64 f∧e 2=.i .i64 t∧e 7=.fl 1 ((wrd L).map encI)∧e 8=.i .i64 0∧e 9=.b s∧e 10=.b y∧i≤(wrd L).length∧orGo t ((wrd L).drop i) s=decide (t∈wrd L)∧orGo f ((wrd L).drop i) y=decide (f∈wrd L)) ?_ _ _ _ ⟨0,false,false,rfl, ?_⟩
  · rintro n e h ⟨i,s,y,rfl,hl,e18,e19,e20,e1,e2,e7,e8,e9,e10,hi,hs,hy⟩ ih
    rw [ZC_unf Q25_8.eq_1]
    simp (disch:=omega)only[go_sem, *]
    refine Wb_dec (fun hc=>?_) (fun hc=>?_)
    · rw [drop_nth (by omega),orGo] at hs hy
      simp (disch:=omega)only[go_sem, *]
      cases s<;>cases y
      · skip
        simp (disch:=omega)only[go_sem, *]
        refine ih _ _ _ ?_ ⟨i+1,(false||decide (nth (wrd L) i=t)),(false||decide (nth (wrd L) i=f)),rfl, ?_⟩
        · omega
        · simp only [Bool.false_or,Bool.true_or] at hs hy ⊢
          simp (disch:=omega)only[go_sem, *]
          omega
      · skip
        simp (disch:=omega)only[go_sem, *]
        refine ih _ _ _ ?_ ⟨i+1,(false||decide (nth (wrd L) i=t)),(true||decide (nth (wrd L) i=f)),rfl, ?_⟩
        · omega
        · simp only [Bool.false_or,Bool.true_or] at hs hy ⊢
          simp (disch:=omega)only[go_sem, *]
          omega
      · skip
        simp (disch:=omega)only[go_sem, *]
        refine ih _ _ _ ?_ ⟨i+1,(true||decide (nth (wrd L) i=t)),(false||decide (nth (wrd L) i=f)),rfl, ?_⟩
        · omega
        · simp only [Bool.false_or,Bool.true_or] at hs hy ⊢
          simp (disch:=omega)only[go_sem, *]
          omega
      · skip
        simp (disch:=omega)only[go_sem, *]
        refine ih _ _ _ ?_ ⟨i+1,(true||decide (nth (wrd L) i=t)),(true||decide (nth (wrd L) i=f)),rfl, ?_⟩
        · omega
        · simp only [Bool.false_or,Bool.true_or] at hs hy ⊢
          simp (disch:=omega)only[go_sem, *]
          omega
    · rw [List.drop_eq_nil_of_le (by omega),orGo] at hs hy
      subst hs hy
      simp (disch:=omega)only[go_sem, *]
      refine Wb_dec (fun hm=>?_) (fun hm=>?_)
      · simp (disch:=omega)only[go_sem, *]
      have hm:f∈wrd L:=by simpa using hm
      simp (disch:=omega)only[go_sem, *]
      refine Wb_dec (fun hn=>?_) (fun hn=>?_)
      · simp (disch:=omega)only[go_sem, *]
      have hn:t∈wrd L:=by simpa using hn
      have hne:=(mem_wrd (p:=t) (a:=0) hf.1).1 hn
      simp (disch:=omega)only[go_sem, *]
      refine ZC_loop_n (fun n e h=>∃ (i:Nat) (w:Int),n=(wrd L).length - i∧h.lim=0∧e 41=.fl 1 ((wrd L).map encI)∧e 42=.i .i64 (wrd L).length∧e 43=.i .i64 i∧e 1=.i .i64 f∧e 2=.i .i64 t∧e 7=.fl 1 ((wrd L).map encI)∧e 8=.i .i64 w∧i≤(wrd L).length∧mxGo (wrd L) f (fun x=>nxR (spGo t 0 L) x (sumN L) - x) ((wrd L).drop i) i w=mxGo (wrd L) f (fun x=>nxR (spGo t 0 L) x (sumN L) - x) (wrd L) 0 0) ?_ _ _ _ ⟨0,0,rfl, ?_⟩
      · rintro n e h ⟨i,w,rfl,hl,e41,e42,e43,e1,e2,e7,e8,hi,hz⟩ ih
        rw [ZC_unf Q25_23.eq_1]
        simp (disch:=omega)only[go_sem, *]
        refine Wb_dec (fun hc=>?_) (fun hc=>?_)
        · have hd:=nx_dist hf.1 (t:=(i:Int)) (p:=t) (by omega) (by omega) hne
          have hb:=nxR_bd (t:=(i:Int)) (by have:=spGo_sorted (p:=t) (a:=0) hf.1;rwa [Int.zero_add] at this) (by omega) hne
          rw [drop_nth (by omega),mxGo] at hz
          simp (disch:=omega)only[go_sem, *]
          refine Wb_dec (fun hc2=>?_) (fun hc2=>?_)
          · rw [if_neg hc2] at hz
            simp (disch:=omega)only[go_sem, *]
            refine ih _ _ _ ?_ ⟨i+1,w,rfl, ?_⟩
            · omega
            · simp (disch:=omega)only[go_sem, *]
              ((repeat' refine And.intro ?_ ?_)<;>first | omega | assumption)
          · have hc3:nth (wrd L) i=f:=by simpa using hc2
            rw [if_pos hc3] at hz
            have hwn:0<sumN L:=by omega
            generalize hD:nxR (spGo t 0 L) i (sumN L) - i=D at hz hd
            have hD4:D≤8192:=by omega
            clear hc2
            simp (disch:=omega)only[go_sem, *]
            refine ZC_loop_n (fun n e h=>∃ (d:Nat),n=D.toNat - d∧h.lim=0∧e 41=.fl 1 ((wrd L).map encI)∧e 42=.i .i64 (sumN L)∧e 43=.i .i64 i∧e 1=.i .i64 f∧e 2=.i .i64 t∧e 7=.fl 1 ((wrd L).map encI)∧e 8=.i .i64 w∧e 13=.i .i64 i∧e 15=.i .i64 d∧1≤d∧(d:Int)≤D) ?_ _ _ _ ⟨1,rfl, ?_⟩
            · rintro n e h ⟨d,rfl,hl,e41,e42,e43,e1,e2,e7,e8,e13,e15,h1d,hdD⟩ ih2
              have hmod:(((i:Int)+d).tmod (sumN L))=((i:Int)+d) % sumN L:=Int.tmod_eq_emod_of_nonneg (by omega)
              have hm0:0≤((i:Int)+d) % sumN L:=Int.emod_nonneg _ (by omega)
              have hm1:((i:Int)+d) % sumN L<sumN L:=Int.emod_lt_of_pos _ hwn
              have hfar:(d:Int)<D→wat (wrd L) (((i:Int)+d) % sumN L)≠t:=fun h=>by rw [← hwl];exact hd.2.2 d (by omega) h
              have hnear:(d:Int)=D→wat (wrd L) (((i:Int)+d) % sumN L)=t:=fun h=>by rw [h,←hwl];exact hd.2.1
              unfold wat at hfar hnear
              generalize ((i:Int)+d) % sumN L=m at hmod hm0 hm1 hfar hnear
              rw [ZC_unf Q25_20.eq_1]
              simp (disch:=omega)only[go_sem, *]
              refine Wb_dec (fun hc4=>?_) (fun hc4=>?_)
              · have:(d:Int)≠D:=fun h=>hc4 (hnear h)
                simp (disch:=omega)only[go_sem, *]
                refine ih2 _ _ _ ?_ ⟨d+1,rfl, ?_⟩
                · omega
                · simp (disch:=omega)only[go_sem, *]
                  omega
              · have hdd:(d:Int)=D:=by
                  rcases Int.lt_or_eq_of_le hdD with h | h
                  · exact absurd (by simpa using hc4) (hfar h)
                  · exact h
                simp (disch:=omega)only[go_sem, *]
                refine ih _ _ _ ?_ ⟨i+1,max w D,rfl, ?_⟩
                · omega
                · simp (disch:=omega)only[go_sem, *]
                  ((repeat' refine And.intro ?_ ?_)<;>first | omega | assumption | ((rw [hD];assumption)))
            · simp (disch:=omega)only[go_sem, *]
              have:=hd.1
              ((repeat' refine And.intro ?_ ?_)<;>first | omega | assumption)
        · rw [List.drop_eq_nil_of_le (by omega),mxGo] at hz
          simp (disch:=omega)only[go_sem, *]
      · simp (disch:=omega)only[go_sem, *]
  · simp (disch:=omega)only[go_sem, *]
    exact ⟨by rw [orGo_mem];rfl,by rw [orGo_mem];rfl⟩
end Go.Ab.T
namespace Go.Ab.T
open Go Go.Ab
set_option maxHeartbeats 1000000
theorem bud_bad {L:List Run} {p P:Int} (h:P<1∨sumN L=0∨sumN L % P≠0):budR L p P = -1:=if_pos h
theorem bud_ok {L:List Run} {p P:Int} (h1:¬ P<1) (h2:¬ sumN L=0) (h3:¬ sumN L % P≠0):budR L p P=minN (fun t=>ovGo t (t+P) (spGo p 0 L) 0) P (sumN L / P).toNat 0 P:=if_neg (by simp only [not_or];exact ⟨h1,h2,h3⟩)
theorem budget_ev {L:List Run} {p P:Int} (hf:Frm L):Pf tp i_Q41 [.fl 2 (L.map Run.enc),.i .i64 p,.i .i64 P] (.i .i64 (budR L p P)):=by
  refine Pf_go fn_Q41 (by simp [t_Q41]) fun rp=>?_;unfold t_Q41;simp (disch:=omega)only[go_sem, *]
  have hL:=rp.head.len
  have hss:=spGo_sorted (p:=p) (a:=0) hf.1
  rw [Int.zero_add] at hss
  have hlen:=hf.length
  have hs0:=sumN_pos hf.1
  have hs4:=hf.2
  refine Pf.go (length_ev hf.ok) (by simp only [go_sem]) fun _=>?_;simp (disch:=omega)only[go_sem, *]
  refine Wg_dec (fun h1=>?_) (fun h1=>?_)
  · have e:=bud_bad (L:=L) (p:=p) (P:=P) (.inl h1)
    simp (disch:=omega)only[go_sem, *]
  simp (disch:=omega)only[go_sem, *]
  refine Wg_dec (fun h2=>?_) (fun h2=>?_)
  · have e:=bud_bad (L:=L) (p:=p) (P:=P) (.inr (.inl h2))
    simp (disch:=omega)only[go_sem, *]
  have hmod:(sumN L).tmod P=sumN L % P:=Int.tmod_eq_emod_of_nonneg hs0
  have hP0:¬ P=0:=by omega
  simp (disch:=omega)only[go_sem, *]
  refine Wb_dec (fun h3=>?_) (fun h3=>?_)
  · have e:=bud_bad (L:=L) (p:=p) (P:=P) (.inr (.inr h3))
    simp (disch:=omega)only[go_sem, *]
  have e0:=bud_ok (p:=p) h1 h2 h3
  have hdiv:((sumN L / P).toNat:Int)*P=sumN L:=by
    rw [Int.toNat_of_nonneg (Int.ediv_nonneg hs0 (by omega))]
    have:=Int.emod_add_mul_ediv (sumN L) P
    have h4:sumN L % P=0:=by omega
    rw [Int.mul_comm];omega
  have h3':sumN L % P=0:=by omega
  have hP:P≤4096:=by
    by_cases hlt:sumN L<P
    · rw [Int.emod_eq_of_lt hs0 hlt] at h3';omega
    · omega
  clear h3
  simp (disch:=omega)only[go_sem, *]
  refine Pf.go (spans_ev (p:=p) hf) (by simp only [go_sem]) fun q1=>?_
  have hq1:=q1.len
  simp (disch:=omega)only[go_sem, *]
  generalize hm:(sumN L / P).toNat=m at hdiv e0
  clear hmod h3' hm
  refine ZC_loop_n (fun n e h=>∃ (k:Nat) (t:Int) (w:Int),n=2*k∧h.lim=0∧e 1=.i .i64 p∧e 2=.i .i64 P∧e 7=.i .i64 (sumN L)∧e 8=.fl 2 ((spGo p 0 L).map Span.enc)∧e 9=.i .i64 w∧e 10=.i .i64 t∧0≤t∧t+(k:Int)*P=sumN L∧minN (fun t=>ovGo t (t+P) (spGo p 0 L) 0) P k t w=budR L p P) ?_ _ _ _ ⟨m,0,P,rfl, ?_⟩
  · rintro n e h ⟨k,t,w,rfl,hl,e1,e2,e7,e8,e9,e10,ht,hk,hz⟩ ih
    rw [ZC_unf Q41_17.eq_1]
    simp (disch:=omega)only[go_sem, *]
    refine Wb_dec (fun hc=>?_) (fun hc=>?_)
    · obtain ⟨j,rfl⟩:∃ j,k=j+1:=by
        cases k with
        | zero=>simp at hk;omega
        | succ j=>exact ⟨j,rfl⟩
      have hj0:0≤(j:Int)*P:=Int.mul_nonneg (by omega) (by omega)
      rw [Int.natCast_add,Int.natCast_one,Int.add_mul,Int.one_mul] at hk
      rw [minN] at hz
      generalize hjP:(j:Int)*P=jP at hk hj0
      clear e0
      simp (disch:=omega)only[go_sem, *]
      have ih0:=ih
      clear ih
      refine ZC_loop_n (fun n e h=>∃ (i:Nat) (c:Int),n=(spGo p 0 L).length - i∧h.lim=0∧e 38=.fl 2 ((spGo p 0 L).map Span.enc)∧e 39=.i .i64 (spGo p 0 L).length∧e 40=.i .i64 i∧e 1=.i .i64 p∧e 2=.i .i64 P∧e 7=.i .i64 (sumN L)∧e 8=.fl 2 ((spGo p 0 L).map Span.enc)∧e 9=.i .i64 w∧e 10=.i .i64 t∧e 11=.i .i64 c∧i≤(spGo p 0 L).length∧0≤c∧c≤4096*i∧ovGo t (t+P) ((spGo p 0 L).drop i) c=ovGo t (t+P) (spGo p 0 L) 0) ?_ _ _ _ ⟨0,0,rfl, ?_⟩
      · rintro n e h ⟨i,c,rfl,hl,e38,e39,e40,e1,e2,e7,e8,e9,e10,e11,hi,hc0,hc1,hw⟩ ih
        rw [ZC_unf Q41_14.eq_1]
        simp (disch:=omega)only[go_sem, *]
        refine Wb_dec (fun hc=>?_) (fun hc=>?_)
        · have hm:=hss.mem (nth_mem (L:=spGo p 0 L) (j:=i) (by omega))
          rw [drop_nth (by omega),ovGo] at hw
          simp (disch:=omega)only[go_sem, *]
          refine ih _ _ _ ?_ ⟨i+1,c+max 0 (min (nth (spGo p 0 L) i).e (t+P) - max (nth (spGo p 0 L) i).s t),rfl, ?_⟩
          · omega
          · simp (disch:=omega)only[go_sem, *]
            ((repeat' refine And.intro ?_ ?_)<;>first | omega | assumption)
        · rw [List.drop_eq_nil_of_le (by omega),ovGo] at hw
          simp (disch:=omega)only[go_sem, *]
          refine ih0 _ _ _ ?_ ⟨j,t+P,min w c,rfl, ?_⟩
          · omega
          · simp (disch:=omega)only[go_sem, *]
            exact ⟨by omega,by omega⟩
      · simp (disch:=omega)only[go_sem, *]
        simp
    · have hk0:k=0:=by
        cases k with
        | zero=>rfl
        | succ j=>
          have hj0:0≤(j:Int)*P:=Int.mul_nonneg (by omega) (by omega)
          rw [Int.natCast_add,Int.natCast_one,Int.add_mul,Int.one_mul] at hk
          omega
      subst hk0
      rw [minN] at hz
      clear e0
      simp (disch:=omega)only[go_sem, *]
  · simp (disch:=omega)only[go_sem, *]
    omega
theorem refBudget_ev {L:List Run} {p P:Int} (hf:Frm L):Pf tp i_Q26 [.fl 2 (L.map Run.enc),.i .i64 p,.i .i64 P] (.i .i64 (budR L p P)):=by
  refine Pf_go fn_Q26 (by simp [t_Q26]) fun rp=>?_;unfold t_Q26;simp (disch:=omega)only[go_sem, *]
  have hL:=rp.head.len
  have hwl:=wrd_len hf.1
  have hs0:=sumN_pos hf.1
  have hs4:=hf.2
  refine Pf.go (words_ev hf) (by simp only [go_sem]) fun _=>?_;simp (disch:=omega)only[go_sem, *]
  refine Wg_dec (fun h1=>?_) (fun h1=>?_)
  · have e:=bud_bad (L:=L) (p:=p) (P:=P) (.inl h1)
    simp (disch:=omega)only[go_sem, *]
  simp (disch:=omega)only[go_sem, *]
  refine Wg_dec (fun h2=>?_) (fun h2=>?_)
  · have e:=bud_bad (L:=L) (p:=p) (P:=P) (.inr (.inl h2))
    simp (disch:=omega)only[go_sem, *]
  have hmod:(sumN L).tmod P=sumN L % P:=Int.tmod_eq_emod_of_nonneg hs0
  have hP0:¬ P=0:=by omega
  simp (disch:=omega)only[go_sem, *]
  refine Wb_dec (fun h3=>?_) (fun h3=>?_)
  · have e:=bud_bad (L:=L) (p:=p) (P:=P) (.inr (.inr h3))
    simp (disch:=omega)only[go_sem, *]
  have e0:=bud_ok (p:=p) h1 h2 h3
  have hdiv:((sumN L / P).toNat:Int)*P=sumN L:=by
    rw [Int.toNat_of_nonneg (Int.ediv_nonneg hs0 (by omega))]
    have:=Int.emod_add_mul_ediv (sumN L) P
    have h4:sumN L % P=0:=by omega
    rw [Int.mul_comm];omega
  have h3':sumN L % P=0:=by omega
  have hP:P≤4096:=by
    by_cases hlt:sumN L<P
    · rw [Int.emod_eq_of_lt hs0 hlt] at h3';omega
    · omega
  clear h3
  simp (disch:=omega)only[go_sem, *]
  generalize hm:(sumN L / P).toNat=m at hdiv e0
  clear hmod h3' hm
  have hF:∀ i:Nat,i<m→ovGo ((0:Int)+i*P) ((0:Int)+i*P+P) (spGo p 0 L) 0≤P:=by
    intro i hi
    have h0:0≤(i:Int)*P:=Int.mul_nonneg (by omega) (by omega)
    have h1':((i:Int)+1)*P≤(m:Int)*P:=Int.mul_le_mul_of_nonneg_right (by omega) (by omega)
    rw [Int.add_mul,Int.one_mul] at h1'
    rw [bud_count hf.1 (by omega) (by omega) (by omega)]
    have:=cntGo_le p (((wrd L).drop ((0:Int)+i*P).toNat).take P.toNat) 0
    simp only [List.length_take] at this
    omega
  have hm1:1≤m:=by
    cases m with
    | zero=>simp at hdiv;omega
    | succ m=>omega
  rw [← minN_le (F:=fun t=>ovGo t (t+P) (spGo p 0 L) 0) m 0 (P+1) P hF (by omega) hm1] at e0
  clear hF hm1
  refine ZC_loop_n (fun n e h=>∃ (k:Nat) (t:Int) (w:Int),n=2*k∧h.lim=0∧e 1=.i .i64 p∧e 2=.i .i64 P∧e 7=.fl 1 ((wrd L).map encI)∧e 8=.i .i64 w∧e 9=.i .i64 t∧0≤t∧t+(k:Int)*P=sumN L∧minN (fun t=>ovGo t (t+P) (spGo p 0 L) 0) P k t w=budR L p P) ?_ _ _ _ ⟨m,0,P+1,rfl, ?_⟩
  · rintro n e h ⟨k,t,w,rfl,hl,e1,e2,e7,e8,e9,ht,hk,hz⟩ ih
    rw [ZC_unf Q26_17.eq_1]
    simp (disch:=omega)only[go_sem, *]
    refine Wb_dec (fun hc=>?_) (fun hc=>?_)
    · obtain ⟨j,rfl⟩:∃ j,k=j+1:=by
        cases k with
        | zero=>simp at hk;omega
        | succ j=>exact ⟨j,rfl⟩
      have hj0:0≤(j:Int)*P:=Int.mul_nonneg (by omega) (by omega)
      rw [Int.natCast_add,Int.natCast_one,Int.add_mul,Int.one_mul] at hk
      rw [minN] at hz
      generalize hjP:(j:Int)*P=jP at hk hj0
      clear e0
      have hbc:=bud_count (p:=p) (t:=t) (P:=P) hf.1 (by omega) (by omega) (by omega)
      have eX:(List.take ((t+P).toNat - t.toNat) (List.drop t.toNat ((wrd L).map encI)))=(((wrd L).drop t.toNat).take P.toNat).map encI:=by rw [← List.map_drop,←List.map_take];congr 2;omega
      have hXl:(((wrd L).drop t.toNat).take P.toNat).length≤4096:=by simp only [List.length_take,List.length_drop];omega
      simp (disch:=omega)only[go_sem, *]
      clear eX
      generalize ((wrd L).drop t.toNat).take P.toNat=X at hbc hXl ⊢
      have ih0:=ih
      clear ih
      refine ZC_loop_n (fun n e h=>∃ (i:Nat) (c:Int),n=X.length - i∧h.lim=0∧e 43=.fl 1 (X.map encI)∧e 44=.i .i64 X.length∧e 45=.i .i64 i∧e 1=.i .i64 p∧e 2=.i .i64 P∧e 7=.fl 1 ((wrd L).map encI)∧e 8=.i .i64 w∧e 9=.i .i64 t∧e 10=.i .i64 c∧i≤X.length∧0≤c∧c≤i∧cntGo p (X.drop i) c=cntGo p X 0) ?_ _ _ _ ⟨0,0,rfl, ?_⟩
      · rintro n e h ⟨i,c,rfl,hl,e43,e44,e45,e1,e2,e7,e8,e9,e10,hi,hc0,hc1,hw⟩ ih
        rw [ZC_unf Q26_14.eq_1]
        simp (disch:=omega)only[go_sem, *]
        refine Wb_dec (fun hc=>?_) (fun hc=>?_)
        · rw [drop_nth (by omega),cntGo] at hw
          simp (disch:=omega)only[go_sem, *]
          refine Wb_dec (fun hc2=>?_) (fun hc2=>?_)
          · rw [if_pos hc2] at hw
            simp (disch:=omega)only[go_sem, *]
            refine ih _ _ _ ?_ ⟨i+1,c+1,rfl, ?_⟩
            · omega
            · simp (disch:=omega)only[go_sem, *]
              ((repeat' refine And.intro ?_ ?_)<;>first | omega | assumption)
          · rw [if_neg hc2] at hw
            simp (disch:=omega)only[go_sem, *]
            refine ih _ _ _ ?_ ⟨i+1,c,rfl, ?_⟩
            · omega
            · simp (disch:=omega)only[go_sem, *]
              ((repeat' refine And.intro ?_ ?_)<;>first | omega | assumption)
        · rw [List.drop_eq_nil_of_le (by omega),cntGo] at hw
          rw [hbc] at hz
          simp (disch:=omega)only[go_sem, *]
          refine ih0 _ _ _ ?_ ⟨j,t+P,min w c,rfl, ?_⟩
          · omega
          · simp (disch:=omega)only[go_sem, *]
            ((repeat' refine And.intro ?_ ?_)<;>first | omega | assumption)
      · simp (disch:=omega)only[go_sem, *]
    · have hk0:k=0:=by
        cases k with
        | zero=>rfl
        | succ j=>
          have hj0:0≤(j:Int)*P:=Int.mul_nonneg (by omega) (by omega)
          rw [Int.natCast_add,Int.natCast_one,Int.add_mul,Int.one_mul] at hk
          omega
      subst hk0
      rw [minN] at hz
      clear e0
      simp (disch:=omega)only[go_sem, *]
  · simp (disch:=omega)only[go_sem, *]
    omega
end Go.Ab.T
namespace Go.Ab.T
open Go Go.Ab
set_option maxHeartbeats 1000000
theorem lateP_nonneg {tt:List Span} {n:Int}:∀ (l:List Span) (w:Int),0≤w→0≤lateP tt n l w
  | [],w,h=>h
  | s::l,w,h=>by rw [lateP];exact lateP_nonneg l _ (by omega)
theorem lateR_cases (L:List Run) (f t:Int):lateR L f t = -1∨0≤lateR L f t:=by
  unfold lateR
  split
  · simp
  · split
    · exact .inl rfl
    · exact .inr (lateP_nonneg _ _ (by omega))
@[irreducible] def chLate (L:List Run) (x:Chan):Bool:=decide (0<x.late∧(x.late<lateR L x.src x.dst∨lateR L x.src x.dst = -1))
def ptShort (L:List Run):Nat→List Part→Bool
  | _,[]=>false
  | i,p::l=>decide (0<p.budget∧budR L i p.period<p.budget)||ptShort L (i+1) l
def holdsR (C:Config) (L:List Run):Int:=if C.chans.any (chLate L)=true then 19 else if ptShort L 0 C.parts=true then 20 else 0
theorem any_yes {α:Type} [Inhabited α] {L:List α} {P:α→Bool} {i:Nat} (hi:i<L.length) (h:P (nth L i)=true):L.any P=true:=List.any_eq_true.2 ⟨_,nth_mem hi,h⟩
theorem any_drop {α:Type} [Inhabited α] {L:List α} {P:α→Bool} {i:Nat} (hi:i<L.length) (h:P (nth L i)=false):(L.drop i).any P=(L.drop (i+1)).any P:=by
  rw [drop_nth hi,List.any_cons,h,Bool.false_or]
theorem holds_ev {C:Config} {L:List Run} (hf:Frm L):Pf tp i_Q18 [.agg C.enc,.fl 2 (L.map Run.enc)] (.i .i64 (holdsR C L)):=by
  refine Pf_go fn_Q18 (by simp [t_Q18]) fun rp=>?_;unfold t_Q18;simp (disch:=omega)only[go_sem, *]
  have hcl:=Rep.len (rp.head.agg (.fl 6 (C.chans.map Chan.enc)) (by simp [Config.enc]))
  have hpl:=Rep.len (rp.head.agg (.fl 11 (C.parts.map Part.enc)) (by simp [Config.enc]))
  refine ZC_loop_n (fun n e h=>∃ (i:Nat),n=C.chans.length - i∧h.lim=0∧e 11=.fl 6 (C.chans.map Chan.enc)∧e 12=.i .i64 C.chans.length∧e 13=.i .i64 i∧e 1=.fl 2 (L.map Run.enc)∧e 2=.p 0 0 0∧i≤C.chans.length∧h.get 0=some ⟨3,[C.enc]⟩∧1≤h.next∧C.chans.any (chLate L)=(C.chans.drop i).any (chLate L)) ?_ _ _ _ ⟨0,rfl, ?_⟩
  · rintro n e h ⟨i,rfl,hl,e11,e12,e13,e1,e2,hi,hg,hn,hz⟩ ih
    rw [ZC_unf Q18_8.eq_1]
    simp (disch:=omega)only[go_sem, *]
    refine Wb_dec (fun hc=>?_) (fun hc=>?_)
    · have hlc:=lateR_cases L (nth C.chans i).src (nth C.chans i).dst
      simp (disch:=omega)only[go_sem, *]
      refine Pf.go (late_ev hf) (by simp only [go_sem]) fun _=>?_;simp (disch:=omega)only[go_sem, *]
      repeat' (first | (refine Wg_dec (fun hc=>?_) (fun hc=>?_)<;>simp (disch:=omega)only[go_sem, *]) | (refine Wb_dec (fun hc=>?_) (fun hc=>?_)<;>simp (disch:=omega)only[go_sem, *]) | (refine Wg_of (fun hc=>?_) (fun hc=>?_)<;>simp (disch:=omega)only[go_sem, *]) | (refine Wb_of (fun hc=>?_) (fun hc=>?_)<;>simp (disch:=omega)only[go_sem, *]))
      all_goals
        try
          have hn:chLate L (nth C.chans i)=true:=by (unfold chLate;grind)
          have:=any_yes (by omega) hn
          have e:holdsR C L=19:=if_pos this
          exact e.symm
      all_goals
        have hp:chLate L (nth C.chans i)=false:=by (unfold chLate;grind)
        refine ih _ _ _ ?_ ⟨i+1,rfl, ?_⟩
        · omega
        · simp (disch:=omega)only[go_sem, *]
          ((repeat' refine And.intro ?_ ?_)<;>first | omega | assumption | (exact any_drop (by omega) hp))
    · rw [List.drop_eq_nil_of_le (by omega),List.any_nil] at hz
      have e:holdsR C L=if ptShort L 0 C.parts=true then 20 else 0:=by unfold holdsR;rw [hz];rfl
      rw [e]
      clear e hz
      simp only [Config.enc] at hg
      simp (disch:=omega)only[go_sem, *]
      refine ZC_loop_n (fun n e h=>∃ (i:Nat),n=C.parts.length - i∧h.lim=0∧e 38=.fl 11 (C.parts.map Part.enc)∧e 39=.i .i64 C.parts.length∧e 40=.i .i64 i∧e 1=.fl 2 (L.map Run.enc)∧i≤C.parts.length∧ptShort L 0 C.parts=ptShort L i (C.parts.drop i)) ?_ _ _ _ ⟨0,rfl, ?_⟩
      · rintro n e h ⟨i,rfl,hl,e38,e39,e40,e1,hi,hz⟩ ih
        rw [ZC_unf Q18_15.eq_1]
        simp (disch:=omega)only[go_sem, *]
        refine Wb_dec (fun hc=>?_) (fun hc=>?_)
        · rw [drop_nth (by omega),ptShort] at hz
          simp (disch:=omega)only[go_sem, *]
          refine Wg_dec (fun hc2=>?_) (fun hc2=>?_)
          · simp (disch:=omega)only[go_sem, *]
            refine Pf.go (budget_ev hf) (by simp only [go_sem]) fun _=>?_;simp (disch:=omega)only[go_sem, *]
            refine Wb_dec (fun hc3=>?_) (fun hc3=>?_)
            · simp (disch:=omega)only[go_sem, *]
              have hd:decide (0<(nth C.parts i).budget∧budR L i (nth C.parts i).period<(nth C.parts i).budget)=true:=by grind
              rw [hd] at hz
              simp [hz]
            · simp (disch:=omega)only[go_sem, *]
              have hd:decide (0<(nth C.parts i).budget∧budR L i (nth C.parts i).period<(nth C.parts i).budget)=false:=by grind
              rw [hd,Bool.false_or] at hz
              refine ih _ _ _ ?_ ⟨i+1,rfl, ?_⟩
              · omega
              · simp (disch:=omega)only[go_sem, *]
                ((repeat' refine And.intro ?_ ?_)<;>first | omega | assumption)
          · simp (disch:=omega)only[go_sem, *]
            have hd:decide (0<(nth C.parts i).budget∧budR L i (nth C.parts i).period<(nth C.parts i).budget)=false:=by grind
            rw [hd,Bool.false_or] at hz
            refine ih _ _ _ ?_ ⟨i+1,rfl, ?_⟩
            · omega
            · simp (disch:=omega)only[go_sem, *]
              ((repeat' refine And.intro ?_ ?_)<;>first | omega | assumption)
        · rw [List.drop_eq_nil_of_le (by omega),ptShort] at hz
          simp (disch:=omega)only[go_sem, *]
          try simp [hz]
      · simp (disch:=omega)only[go_sem, *]
  · simp (disch:=omega)only[go_sem, *]
theorem refHolds_ev {C:Config} {L:List Run} (hf:Frm L):Pf tp i_Q4 [.agg C.enc,.fl 2 (L.map Run.enc)] (.i .i64 (holdsR C L)):=by
  refine Pf_go fn_Q4 (by simp [t_Q4]) fun rp=>?_;unfold t_Q4;simp (disch:=omega)only[go_sem, *]
  have hcl:=Rep.len (rp.head.agg (.fl 6 (C.chans.map Chan.enc)) (by simp [Config.enc]))
  have hpl:=Rep.len (rp.head.agg (.fl 11 (C.parts.map Part.enc)) (by simp [Config.enc]))
  refine ZC_loop_n (fun n e h=>∃ (i:Nat),n=C.chans.length - i∧h.lim=0∧e 11=.fl 6 (C.chans.map Chan.enc)∧e 12=.i .i64 C.chans.length∧e 13=.i .i64 i∧e 1=.fl 2 (L.map Run.enc)∧e 2=.p 0 0 0∧i≤C.chans.length∧h.get 0=some ⟨3,[C.enc]⟩∧1≤h.next∧C.chans.any (chLate L)=(C.chans.drop i).any (chLate L)) ?_ _ _ _ ⟨0,rfl, ?_⟩
  · rintro n e h ⟨i,rfl,hl,e11,e12,e13,e1,e2,hi,hg,hn,hz⟩ ih
    rw [ZC_unf Q4_8.eq_1]
    simp (disch:=omega)only[go_sem, *]
    refine Wb_dec (fun hc=>?_) (fun hc=>?_)
    · have hlc:=lateR_cases L (nth C.chans i).src (nth C.chans i).dst
      simp (disch:=omega)only[go_sem, *]
      refine Pf.go (refLate_ev hf) (by simp only [go_sem]) fun _=>?_;simp (disch:=omega)only[go_sem, *]
      repeat' (first | (refine Wg_dec (fun hc=>?_) (fun hc=>?_)<;>simp (disch:=omega)only[go_sem, *]) | (refine Wb_dec (fun hc=>?_) (fun hc=>?_)<;>simp (disch:=omega)only[go_sem, *]) | (refine Wg_of (fun hc=>?_) (fun hc=>?_)<;>simp (disch:=omega)only[go_sem, *]) | (refine Wb_of (fun hc=>?_) (fun hc=>?_)<;>simp (disch:=omega)only[go_sem, *]))
      all_goals
        try
          have hn:chLate L (nth C.chans i)=true:=by (unfold chLate;grind)
          have:=any_yes (by omega) hn
          have e:holdsR C L=19:=if_pos this
          exact e.symm
      all_goals
        have hp:chLate L (nth C.chans i)=false:=by (unfold chLate;grind)
        refine ih _ _ _ ?_ ⟨i+1,rfl, ?_⟩
        · omega
        · simp (disch:=omega)only[go_sem, *]
          ((repeat' refine And.intro ?_ ?_)<;>first | omega | assumption | (exact any_drop (by omega) hp))
    · rw [List.drop_eq_nil_of_le (by omega),List.any_nil] at hz
      have e:holdsR C L=if ptShort L 0 C.parts=true then 20 else 0:=by unfold holdsR;rw [hz];rfl
      rw [e]
      clear e hz
      simp only [Config.enc] at hg
      simp (disch:=omega)only[go_sem, *]
      refine ZC_loop_n (fun n e h=>∃ (i:Nat),n=C.parts.length - i∧h.lim=0∧e 38=.fl 11 (C.parts.map Part.enc)∧e 39=.i .i64 C.parts.length∧e 40=.i .i64 i∧e 1=.fl 2 (L.map Run.enc)∧i≤C.parts.length∧ptShort L 0 C.parts=ptShort L i (C.parts.drop i)) ?_ _ _ _ ⟨0,rfl, ?_⟩
      · rintro n e h ⟨i,rfl,hl,e38,e39,e40,e1,hi,hz⟩ ih
        rw [ZC_unf Q4_15.eq_1]
        simp (disch:=omega)only[go_sem, *]
        refine Wb_dec (fun hc=>?_) (fun hc=>?_)
        · rw [drop_nth (by omega),ptShort] at hz
          simp (disch:=omega)only[go_sem, *]
          refine Wg_dec (fun hc2=>?_) (fun hc2=>?_)
          · simp (disch:=omega)only[go_sem, *]
            refine Pf.go (refBudget_ev hf) (by simp only [go_sem]) fun _=>?_;simp (disch:=omega)only[go_sem, *]
            refine Wb_dec (fun hc3=>?_) (fun hc3=>?_)
            · simp (disch:=omega)only[go_sem, *]
              have hd:decide (0<(nth C.parts i).budget∧budR L i (nth C.parts i).period<(nth C.parts i).budget)=true:=by grind
              rw [hd] at hz
              simp [hz]
            · simp (disch:=omega)only[go_sem, *]
              have hd:decide (0<(nth C.parts i).budget∧budR L i (nth C.parts i).period<(nth C.parts i).budget)=false:=by grind
              rw [hd,Bool.false_or] at hz
              refine ih _ _ _ ?_ ⟨i+1,rfl, ?_⟩
              · omega
              · simp (disch:=omega)only[go_sem, *]
                ((repeat' refine And.intro ?_ ?_)<;>first | omega | assumption)
          · simp (disch:=omega)only[go_sem, *]
            have hd:decide (0<(nth C.parts i).budget∧budR L i (nth C.parts i).period<(nth C.parts i).budget)=false:=by grind
            rw [hd,Bool.false_or] at hz
            refine ih _ _ _ ?_ ⟨i+1,rfl, ?_⟩
            · omega
            · simp (disch:=omega)only[go_sem, *]
              ((repeat' refine And.intro ?_ ?_)<;>first | omega | assumption)
        · rw [List.drop_eq_nil_of_le (by omega),ptShort] at hz
          simp (disch:=omega)only[go_sem, *]
          try simp [hz]
      · simp (disch:=omega)only[go_sem, *]
  · simp (disch:=omega)only[go_sem, *]
end Go.Ab.T
namespace Go.Ab.T
open Go Go.Ab
set_option maxHeartbeats 1000000
theorem ofR_frm {L:List Node}:Frm (ofR L).1:=by
  unfold ofR
  split
  · exact Frm.nil
  · rename_i h
    split
    · exact Frm.nil
    · obtain ⟨_,ho,hc1,hL,hd,hl⟩:=foOf_ok (L:=L) (by omega)
      have hap:=Fo.runs_allpos _ ho
      have hsum:=Fo.runs_sum _ ho
      have ht:=tidyOf hap (by omega)
      exact ⟨ht.pos,by unfold ofT;rw [ht.sum];omega⟩
noncomputable def tableR (C:Config) (T:List Node):Int:=if (ofR T).2≠0 then (ofR T).2 else if (ofR T).1.any (fun r=>decide ((C.parts.length:Int)≤r.part))=true then 16 else holdsR C (ofR T).1
theorem table_1 {C:Config} {x:Run} {h:AH} {id:Nat} {K:V→AH→Prop} (hg:h.get id=some ⟨3,[C.enc]⟩) (hid:id<h.next) (k:K (.b (decide ((C.parts.length:Int)≤x.part))) h):Cq tp i_Q103 [.agg x.enc,.p id 0 0] h K:=by
  simp only [Config.enc] at hg
  refine Cq_same fn_Q103 (by simp [t_Q103]) (k) fun hlm rp=>?_;unfold t_Q103;simp (disch:=omega)only[go_sem, *]
  (repeat (first | exact Ext.refl _ | refine Ext.alloc ?_ _ | (refine Ext.put ?_ _ _ ?_;rotate_left;(first | omega | (simp only [next_alloc,next_put];omega)))))
theorem Where_1 {p x:Part} {h:AH} {id:Nat} {K:V→AH→Prop} (hg:h.get id=some ⟨11,[p.enc]⟩) (hid:id<h.next) (k:K (.b (decide (x.name=p.name))) h):Cq tp i_Q84 [.agg x.enc,.p id 0 0] h K:=by
  simp only [Part.enc] at hg
  refine Cq_same fn_Q84 (by simp [t_Q84]) (k) fun hlm rp=>?_;unfold t_Q84;simp (disch:=omega)only[go_sem, *]
  (repeat (first | exact Ext.refl _ | refine Ext.alloc ?_ _ | (refine Ext.put ?_ _ _ ?_;rotate_left;(first | omega | (simp only [next_alloc,next_put];omega)))))
theorem table_ev {C:Config} {T:List Node}:Pf tp i_Q87 [.agg C.enc,.fl 3 (T.map Node.enc)] (.i .i64 (tableR C T)):=by
  have hf:=ofR_frm (L:=T)
  refine Pf_go fn_Q87 (by simp [t_Q87]) fun rp=>?_;unfold t_Q87;simp (disch:=omega)only[go_sem, *]
  refine Pf.go (Of_ev) (by simp only [go_sem]) fun _=>?_;simp (disch:=omega)only[go_sem, *]
  refine Wb_dec (fun hc=>?_) (fun hc=>?_)
  · have e:tableR C T=(ofR T).2:=if_pos hc
    simp (disch:=omega)only[go_sem, *]
  have e:tableR C T=if (ofR T).1.any (fun r=>decide ((C.parts.length:Int)≤r.part))=true then 16 else holdsR C (ofR T).1:=if_neg hc
  simp (disch:=omega)only[go_sem, *]
  refine hasRun (P:=fun r=>decide ((C.parts.length:Int)≤r.part)) (fun x hx K k=>table_1 (by simp (disch:=omega)only[go_sem, *]) (by simp (disch:=omega)only[go_sem, *]) k) ?_
  simp (disch:=omega)only[go_sem, *]
  refine Wb_of (fun hc2=>?_) (fun hc2=>?_)
  · rw [if_pos hc2] at e
    simp (disch:=omega)only[go_sem, *]
  · rw [if_neg (by simp [hc2])] at e
    simp (disch:=omega)only[go_sem, *]
    refine Pf.go (holds_ev hf) (by simp only [go_sem]) fun _=>?_;simp (disch:=omega)only[go_sem, *]
noncomputable def whTabs (C:Config):Nat→List (List Node)→Int×Int
  | _,[]=>(0,-1)
  | i,t::l=>if tableR C t≠0 then (tableR C t,(i:Int)) else whTabs C (i+1) l
noncomputable def whChans (C:Config):Nat→List Chan→Int×Int
  | _,[]=>whTabs C 0 C.tables
  | i,x::l=>if chanB C.parts.length x=false then (17,(i:Int)) else whChans C (i+1) l
noncomputable def whParts (C:Config):Nat→List Part→Int×Int
  | _,[]=>whChans C 0 C.chans
  | i,p::l=>if nameB p.name=false∨(C.parts.take i).any (fun q=>decide (q.name=p.name))=true then (15,(i:Int)) else if partB p=false then (16,(i:Int)) else whParts C (i+1) l
noncomputable def whereR (C:Config):Int×Int:=if C.parts.length<1∨6<C.parts.length∨8<C.chans.length∨C.tables.length<1∨3<C.tables.length then (3,0) else whParts C 0 C.parts
def NmOk (C:Config):Prop:=∀ p∈C.parts,p.name.size<4000000000
theorem where_ev {C:Config} (hnm:NmOk C):Pf tp i_Q51 [.agg C.enc] (.tup [.i .i64 (whereR C).1,.i .i64 (whereR C).2]):=by
  refine Pf_go fn_Q51 (by simp [t_Q51]) fun rp=>?_;unfold t_Q51;simp (disch:=omega)only[go_sem, *]
  have hcl:=Rep.len (rp.head.agg (.fl 6 (C.chans.map Chan.enc)) (by simp [Config.enc]))
  have hpl:=Rep.len (rp.head.agg (.fl 11 (C.parts.map Part.enc)) (by simp [Config.enc]))
  have htl:=Rep.len (rp.head.agg (.fl 1 (C.tables.map Tab.enc)) (by simp [Config.enc]))
  repeat' (first | (refine Wg_dec (fun hc=>?_) (fun hc=>?_)<;>simp (disch:=omega)only[go_sem, *]) | (refine Wb_dec (fun hc=>?_) (fun hc=>?_)<;>simp (disch:=omega)only[go_sem, *]))
  all_goals try (have e:whereR C=(3,0):=if_pos (by omega);rw [e];exact ⟨rfl,rfl⟩)
  have e:whereR C=whParts C 0 C.parts:=if_neg (by omega)
  rw [e]
  clear e
  refine ZC_loop_n (fun n e h=>∃ (i:Nat),n=C.parts.length - i∧h.lim=0∧e 40=.fl 11 (C.parts.map Part.enc)∧e 41=.i .i64 C.parts.length∧e 42=.i .i64 i∧e 1=.p 0 0 0∧i≤C.parts.length∧h.get 0=some ⟨3,[C.enc]⟩∧1≤h.next∧whParts C i (C.parts.drop i)=whParts C 0 C.parts) ?_ _ _ _ ⟨0,rfl, ?_⟩
  · rintro n e h ⟨i,rfl,hl,e40,e41,e42,e1,hi,hg,hn,hz⟩ ih
    rw [ZC_unf Q51_11.eq_1]
    simp (disch:=omega)only[go_sem, *]
    have hg1:=hg
    simp only [Config.enc] at hg1
    refine Wb_dec (fun hc=>?_) (fun hc=>?_)
    · rw [drop_nth (by omega),whParts] at hz
      have hns:=hnm _ (nth_mem (L:=C.parts) (j:=i) (by omega))
      have eX:List.take i (C.parts.map Part.enc)=(C.parts.take i).map Part.enc:=List.map_take.symm
      simp (disch:=omega)only[go_sem, *]
      refine Pf.go (cname_ev hns) (by simp only [go_sem]) fun _=>?_;simp (disch:=omega)only[go_sem, *]
      refine Wg_of (fun hc2=>?_) (fun hc2=>?_)
      · rw [if_pos (.inl (by simpa using hc2))] at hz
        rw [← hz]
        simp (disch:=omega)only[go_sem, *]
      have hc2':nameB (nth C.parts i).name=true:=by simpa using hc2
      simp (disch:=omega)only[go_sem, *]
      refine hasPart (P:=fun q=>decide (q.name=(nth C.parts i).name)) (fun x hx K k=>Where_1 (p:=nth C.parts i) (by simp (disch:=omega)only[go_sem, *]) (by simp (disch:=omega)only[go_sem, *];omega) k) ?_
      simp (disch:=omega)only[go_sem, *]
      refine Wb_of (fun hc3=>?_) (fun hc3=>?_)
      · rw [if_pos (.inr hc3)] at hz
        rw [← hz]
        simp (disch:=omega)only[go_sem, *]
      · rw [if_neg (by simp [hc2',hc3])] at hz
        simp (disch:=omega)only[go_sem, *]
        refine Pf.go (cpart_ev) (by simp only [go_sem]) fun _=>?_;simp (disch:=omega)only[go_sem, *]
        refine Wb_of (fun hc4=>?_) (fun hc4=>?_)
        · rw [if_pos (by simpa using hc4)] at hz
          rw [← hz]
          simp (disch:=omega)only[go_sem, *]
        · rw [if_neg (by simpa using hc4)] at hz
          simp (disch:=omega)only[go_sem, *]
          refine ih _ _ _ ?_ ⟨i+1,rfl, ?_⟩
          · omega
          · simp (disch:=omega)only[go_sem, *]
            ((repeat' refine And.intro ?_ ?_)<;>first | omega | assumption)
    · rw [List.drop_eq_nil_of_le (by omega),whParts] at hz
      rw [← hz]
      clear hz
      simp (disch:=omega)only[go_sem, *]
      refine ZC_loop_n (fun n e h=>∃ (i:Nat),n=C.chans.length - i∧h.lim=0∧e 66=.fl 6 (C.chans.map Chan.enc)∧e 67=.i .i64 C.chans.length∧e 68=.i .i64 i∧e 1=.p 0 0 0∧i≤C.chans.length∧h.get 0=some ⟨3,[C.enc]⟩∧1≤h.next∧whChans C i (C.chans.drop i)=whChans C 0 C.chans) ?_ _ _ _ ⟨0,rfl, ?_⟩
      · rintro n e h ⟨i,rfl,hl,e66,e67,e68,e1,hi,hg,hn,hz⟩ ih
        rw [ZC_unf Q51_18.eq_1]
        simp (disch:=omega)only[go_sem, *]
        have hg1:=hg
        simp only [Config.enc] at hg1
        refine Wb_dec (fun hc=>?_) (fun hc=>?_)
        · rw [drop_nth (by omega),whChans] at hz
          simp (disch:=omega)only[go_sem, *]
          refine Pf.go (cchan_ev (c:=C) (x:=nth C.chans i)) (by simp only [go_sem]) fun _=>?_;simp (disch:=omega)only[go_sem, *]
          refine Wb_of (fun hc4=>?_) (fun hc4=>?_)
          · rw [if_pos (by simpa using hc4)] at hz
            rw [← hz]
            simp (disch:=omega)only[go_sem, *]
          · rw [if_neg (by simpa using hc4)] at hz
            simp (disch:=omega)only[go_sem, *]
            refine ih _ _ _ ?_ ⟨i+1,rfl, ?_⟩
            · omega
            · simp (disch:=omega)only[go_sem, *]
              ((repeat' refine And.intro ?_ ?_)<;>first | omega | assumption)
        · rw [List.drop_eq_nil_of_le (by omega),whChans] at hz
          rw [← hz]
          clear hz
          simp (disch:=omega)only[go_sem, *]
          refine ZC_loop_n (fun n e h=>∃ (i:Nat),n=C.tables.length - i∧h.lim=0∧e 80=.fl 1 (C.tables.map Tab.enc)∧e 81=.i .i64 C.tables.length∧e 82=.i .i64 i∧e 1=.p 0 0 0∧i≤C.tables.length∧h.get 0=some ⟨3,[C.enc]⟩∧1≤h.next∧whTabs C i (C.tables.drop i)=whTabs C 0 C.tables) ?_ _ _ _ ⟨0,rfl, ?_⟩
          · rintro n e h ⟨i,rfl,hl,e80,e81,e82,e1,hi,hg,hn,hz⟩ ih
            rw [ZC_unf Q51_26.eq_1]
            simp (disch:=omega)only[go_sem, *]
            have hg1:=hg
            simp only [Config.enc] at hg1
            refine Wb_dec (fun hc=>?_) (fun hc=>?_)
            · rw [drop_nth (by omega),whTabs] at hz
              simp (disch:=omega)only[go_sem, *]
              refine Pf.go (table_ev (C:=C)) (by simp only [go_sem]) fun _=>?_;simp (disch:=omega)only[go_sem, *]
              refine Wb_dec (fun hc4=>?_) (fun hc4=>?_)
              · rw [if_pos hc4] at hz
                rw [← hz]
                simp (disch:=omega)only[go_sem, *]
              · rw [if_neg hc4] at hz
                simp (disch:=omega)only[go_sem, *]
                refine ih _ _ _ ?_ ⟨i+1,rfl, ?_⟩
                · omega
                · simp (disch:=omega)only[go_sem, *]
                  ((repeat' refine And.intro ?_ ?_)<;>first | omega | assumption)
            · rw [List.drop_eq_nil_of_le (by omega),whTabs] at hz
              rw [← hz]
              clear hz
              simp (disch:=omega)only[go_sem, *]
          · simp (disch:=omega)only[go_sem, *]
      · simp (disch:=omega)only[go_sem, *]
  · simp (disch:=omega)only[go_sem, *]
end Go.Ab.T
namespace Go.Ab.T
open Go Go.Ab
set_option maxHeartbeats 2000000
theorem ofR_len {L:List Node}:(ofR L).1.length≤96:=by
  unfold ofR
  split
  · simp
  · split
    · simp
    · simp only;omega
theorem any_take_no {α:Type} [Inhabited α] {L:List α} {P:α→Bool} {i:Nat} (h:∀ j,j<i→P (nth L j)=false) (hi:i≤L.length):(L.take i).any P=false:=by
  rw [List.any_eq_false]
  intro x hx
  obtain ⟨j,hj,rfl⟩:=List.mem_iff_getElem.1 hx
  have hj2:j<i:=by simp at hj;omega
  have:=h j hj2
  rw [nth_eq (by omega)] at this
  simp [this]
theorem any_take_yes {α:Type} [Inhabited α] {L:List α} {P:α→Bool} {i j:Nat} (hj:j<i) (hi:i≤L.length) (h:P (nth L j)=true):(L.take i).any P=true:=by
  rw [List.any_eq_true]
  refine ⟨nth L j, ?_,h⟩
  rw [nth_eq (by omega)]
  exact List.mem_take_iff_getElem.2 ⟨j,by omega,rfl⟩
theorem refWhere_ev {C:Config} (hnm:NmOk C):Pf tp i_Q49 [.agg C.enc] (.tup [.i .i64 (whereR C).1,.i .i64 (whereR C).2]):=by
  refine Pf_go fn_Q49 (by simp [t_Q49]) fun rp=>?_;unfold t_Q49;simp (disch:=omega)only[go_sem, *]
  have hcl:=Rep.len (rp.head.agg (.fl 6 (C.chans.map Chan.enc)) (by simp [Config.enc]))
  have hpl:=Rep.len (rp.head.agg (.fl 11 (C.parts.map Part.enc)) (by simp [Config.enc]))
  have htl:=Rep.len (rp.head.agg (.fl 1 (C.tables.map Tab.enc)) (by simp [Config.enc]))
  repeat' (first | (refine Wg_dec (fun hc=>?_) (fun hc=>?_)<;>simp (disch:=omega)only[go_sem, *]) | (refine Wb_dec (fun hc=>?_) (fun hc=>?_)<;>simp (disch:=omega)only[go_sem, *]))
  all_goals try (have e:whereR C=(3,0):=if_pos (by omega);rw [e];exact ⟨rfl,rfl⟩)
  have e:whereR C=whParts C 0 C.parts:=if_neg (by omega)
  rw [e]
  clear e
  refine ZC_loop_n (fun n e h=>∃ (i:Nat),n=C.parts.length - i∧h.lim=0∧e 45=.fl 11 (C.parts.map Part.enc)∧e 46=.i .i64 C.parts.length∧e 47=.i .i64 i∧e 1=.p 0 0 0∧i≤C.parts.length∧h.get 0=some ⟨3,[C.enc]⟩∧1≤h.next∧whParts C i (C.parts.drop i)=whParts C 0 C.parts) ?_ _ _ _ ⟨0,rfl, ?_⟩
  · rintro n e h ⟨i,rfl,hl,e45,e46,e47,e1,hi,hg,hn,hz⟩ ih
    rw [ZC_unf Q49_17.eq_1]
    simp (disch:=omega)only[go_sem, *]
    have hg1:=hg
    simp only [Config.enc] at hg1
    refine Wb_dec (fun hc=>?_) (fun hc=>?_)
    · rw [drop_nth (by omega),whParts] at hz
      have hns:=hnm _ (nth_mem (L:=C.parts) (j:=i) (by omega))
      simp (disch:=omega)only[go_sem, *]
      refine Pf.go (rname_ev hns) (by simp only [go_sem]) fun _=>?_;simp (disch:=omega)only[go_sem, *]
      refine Wb_of (fun hc2=>?_) (fun hc2=>?_)
      · rw [if_pos (.inl (by simpa using hc2))] at hz
        rw [← hz]
        simp (disch:=omega)only[go_sem, *]
      have hc2':nameB (nth C.parts i).name=true:=by simpa using hc2
      simp (disch:=omega)only[go_sem, *]
      have ih0:=ih
      clear ih
      have hbx:((h.alloc ⟨11,[[.s ⟨#[]⟩,.i .i64 0,.i .i64 0,.b false,.b false,.ns,.i .i64 0,.i .i64 0,.i .i64 0,.i .i64 0,.i .i64 0]]⟩).put h.next ⟨11,[(nth C.parts i).enc]⟩).get h.next=some ⟨11,[(nth C.parts i).enc]⟩:=by simp (disch:=omega)only[go_sem, *]
      refine ZC_loop_n (fun n e h=>∃ (j:Nat) (b:Nat),n=i - j∧h.lim=0∧e 1=.p 0 0 0∧e 4=.i .i64 i∧e 5=.p b 0 0∧e 6=.i .i64 j∧e 45=.fl 11 (C.parts.map Part.enc)∧e 46=.i .i64 C.parts.length∧e 47=.i .i64 i∧h.get 0=some ⟨3,[C.enc]⟩∧h.get b=some ⟨11,[(nth C.parts i).enc]⟩∧1≤h.next∧j≤i∧∀ k,k<j→(nth C.parts k).name≠(nth C.parts i).name) ?_ _ _ _ ⟨0,h.next,rfl, ?_⟩
      · rintro n e h ⟨j,b,rfl,hl,e1,e4,e5,e6,e45,e46,e47,hg,hb,hn,hj,hs⟩ ih
        rw [ZC_unf Q49_13.eq_1]
        simp (disch:=omega)only[go_sem, *]
        have hg1:=hg
        simp only [Config.enc] at hg1
        have hb1:=hb
        simp only [Part.enc] at hb1
        refine Wb_dec (fun hc3=>?_) (fun hc3=>?_)
        · simp (disch:=omega)only[go_sem, *]
          refine Wb_dec (fun hc4=>?_) (fun hc4=>?_)
          · rw [if_pos (.inr (any_take_yes (j:=j) (by omega) (by omega) (by simpa using hc4)))] at hz
            rw [← hz]
            simp (disch:=omega)only[go_sem, *]
          · simp (disch:=omega)only[go_sem, *]
            refine ih _ _ _ ?_ ⟨j+1,b,rfl, ?_⟩
            · omega
            · simp (disch:=omega)only[go_sem, *]
              ((repeat' refine And.intro ?_ ?_)<;>first | omega | assumption | ((intro k hk;by_cases e:k=j;(subst e;exact hc4);(exact hs k (by omega)))))
        · have hno:=any_take_no (L:=C.parts) (i:=i) (P:=fun q=>decide (q.name=(nth C.parts i).name)) (fun k hk=>by have:=hs k (by omega);simp [this]) (by omega)
          rw [if_neg (by simp only [hc2',hno];simp)] at hz
          clear hs hno
          simp (disch:=omega)only[go_sem, *]
          refine Pf.go (rpart_ev) (by simp only [go_sem]) fun _=>?_;simp (disch:=omega)only[go_sem, *]
          refine Wb_of (fun hc4=>?_) (fun hc4=>?_)
          · rw [if_pos (by simpa using hc4)] at hz
            rw [← hz]
            simp (disch:=omega)only[go_sem, *]
          · rw [if_neg (by simpa using hc4)] at hz
            simp (disch:=omega)only[go_sem, *]
            refine ih0 _ _ _ ?_ ⟨i+1,rfl, ?_⟩
            · omega
            · simp (disch:=omega)only[go_sem, *]
              ((repeat' refine And.intro ?_ ?_)<;>first | omega | assumption)
      · simp (disch:=omega)only[go_sem, *]
        simp
    · rw [List.drop_eq_nil_of_le (by omega),whParts] at hz
      rw [← hz]
      clear hz
      simp (disch:=omega)only[go_sem, *]
      refine ZC_loop_n (fun n e h=>∃ (i:Nat),n=C.chans.length - i∧h.lim=0∧e 78=.fl 6 (C.chans.map Chan.enc)∧e 79=.i .i64 C.chans.length∧e 80=.i .i64 i∧e 1=.p 0 0 0∧i≤C.chans.length∧h.get 0=some ⟨3,[C.enc]⟩∧1≤h.next∧whChans C i (C.chans.drop i)=whChans C 0 C.chans) ?_ _ _ _ ⟨0,rfl, ?_⟩
      · rintro n e h ⟨i,rfl,hl,e78,e79,e80,e1,hi,hg,hn,hz⟩ ih
        rw [ZC_unf Q49_24.eq_1]
        simp (disch:=omega)only[go_sem, *]
        have hg1:=hg
        simp only [Config.enc] at hg1
        refine Wb_dec (fun hc=>?_) (fun hc=>?_)
        · rw [drop_nth (by omega),whChans] at hz
          simp (disch:=omega)only[go_sem, *]
          refine Pf.go (rchan_ev (x:=nth C.chans i)) (by simp only [go_sem]) fun _=>?_;simp (disch:=omega)only[go_sem, *]
          refine Wb_of (fun hc4=>?_) (fun hc4=>?_)
          · rw [if_pos (by simpa using hc4)] at hz
            rw [← hz]
            simp (disch:=omega)only[go_sem, *]
          · rw [if_neg (by simpa using hc4)] at hz
            simp (disch:=omega)only[go_sem, *]
            refine ih _ _ _ ?_ ⟨i+1,rfl, ?_⟩
            · omega
            · simp (disch:=omega)only[go_sem, *]
              ((repeat' refine And.intro ?_ ?_)<;>first | omega | assumption)
        · rw [List.drop_eq_nil_of_le (by omega),whChans] at hz
          rw [← hz]
          clear hz
          simp (disch:=omega)only[go_sem, *]
          refine ZC_loop_n (fun n e h=>∃ (i:Nat),n=C.tables.length - i∧h.lim=0∧e 94=.fl 1 (C.tables.map Tab.enc)∧e 95=.i .i64 C.tables.length∧e 96=.i .i64 i∧e 1=.p 0 0 0∧i≤C.tables.length∧h.get 0=some ⟨3,[C.enc]⟩∧1≤h.next∧whTabs C i (C.tables.drop i)=whTabs C 0 C.tables) ?_ _ _ _ ⟨0,rfl, ?_⟩
          · rintro n e h ⟨i,rfl,hl,e94,e95,e96,e1,hi,hg,hn,hz⟩ ih
            rw [ZC_unf Q49_42.eq_1]
            simp (disch:=omega)only[go_sem, *]
            have hg1:=hg
            simp only [Config.enc] at hg1
            refine Wb_dec (fun hc=>?_) (fun hc=>?_)
            · have hf:=ofR_frm (L:=nth C.tables i)
              have hfl:=ofR_len (L:=nth C.tables i)
              rw [drop_nth (by omega),whTabs] at hz
              simp (disch:=omega)only[go_sem, *]
              refine Pf.go (refOf_ev) (by simp only [go_sem]) fun _=>?_;simp (disch:=omega)only[go_sem, *]
              have ht:tableR C (nth C.tables i)=if (ofR (nth C.tables i)).2≠0 then (ofR (nth C.tables i)).2 else if (ofR (nth C.tables i)).1.any (fun r=>decide ((C.parts.length:Int)≤r.part))=true then 16 else holdsR C (ofR (nth C.tables i)).1:=rfl
              refine Wb_dec (fun hc4=>?_) (fun hc4=>?_)
              · rw [if_pos hc4] at ht
                rw [if_pos (by rw [ht];exact hc4),ht] at hz
                rw [← hz]
                simp (disch:=omega)only[go_sem, *]
              rw [if_neg hc4] at ht
              simp (disch:=omega)only[go_sem, *]
              have ih0:=ih
              clear ih
              refine ZC_loop_n (fun n e h=>∃ (j:Nat),n=((ofR (nth C.tables i)).1).length - j∧h.lim=0∧e 110=.fl 2 (((ofR (nth C.tables i)).1).map Run.enc)∧e 111=.i .i64 ((ofR (nth C.tables i)).1).length∧e 112=.i .i64 j∧e 1=.p 0 0 0∧e 9=.i .i64 i∧e 11=.fl 2 ((ofR (nth C.tables i)).1.map Run.enc)∧e 94=.fl 1 (C.tables.map Tab.enc)∧e 95=.i .i64 C.tables.length∧e 96=.i .i64 i∧j≤((ofR (nth C.tables i)).1).length∧h.get 0=some ⟨3,[C.enc]⟩∧1≤h.next∧(ofR (nth C.tables i)).1.any (fun r=>decide ((C.parts.length:Int)≤r.part))=((ofR (nth C.tables i)).1.drop j).any (fun r=>decide ((C.parts.length:Int)≤r.part))) ?_ _ _ _ ⟨0,rfl, ?_⟩
              · rintro n e h ⟨j,rfl,hl,e110,e111,e112,e1,e9,e11,e94,e95,e96,hi,hg,hn,hs⟩ ih
                rw [ZC_unf Q49_37.eq_1]
                simp (disch:=omega)only[go_sem, *]
                have hg1:=hg
                simp only [Config.enc] at hg1
                refine Wb_dec (fun hc5=>?_) (fun hc5=>?_)
                · simp (disch:=omega)only[go_sem, *]
                  refine Wb_dec (fun hc6=>?_) (fun hc6=>?_)
                  · have hy:=any_yes (L:=(ofR (nth C.tables i)).1) (P:=fun r=>decide ((C.parts.length:Int)≤r.part)) (i:=j) (by omega) (by simpa using hc6)
                    rw [if_pos hy] at ht
                    clear hy hs
                    rw [if_pos (by rw [ht];simp),ht] at hz
                    rw [← hz]
                    simp (disch:=omega)only[go_sem, *]
                  · have hno:=any_drop (L:=(ofR (nth C.tables i)).1) (P:=fun r=>decide ((C.parts.length:Int)≤r.part)) (i:=j) (by omega) (by simpa using hc6)
                    rw [hno] at hs
                    clear hno
                    simp (disch:=omega)only[go_sem, *]
                    refine ih _ _ _ ?_ ⟨j+1,rfl, ?_⟩
                    · omega
                    · simp (disch:=omega)only[go_sem, *]
                      ((repeat' refine And.intro ?_ ?_)<;>first | omega | assumption)
                · rw [List.drop_eq_nil_of_le (by omega),List.any_nil] at hs
                  rw [if_neg (by rw [hs];simp)] at ht
                  clear hs
                  rw [ht] at hz
                  simp (disch:=omega)only[go_sem, *]
                  refine Pf.go (refHolds_ev (C:=C) hf) (by simp only [go_sem]) fun _=>?_;simp (disch:=omega)only[go_sem, *]
                  refine Wb_dec (fun hc7=>?_) (fun hc7=>?_)
                  · rw [if_pos hc7] at hz
                    rw [← hz]
                    simp (disch:=omega)only[go_sem, *]
                  · rw [if_neg hc7] at hz
                    simp (disch:=omega)only[go_sem, *]
                    refine ih0 _ _ _ ?_ ⟨i+1,rfl, ?_⟩
                    · omega
                    · simp (disch:=omega)only[go_sem, *]
                      ((repeat' refine And.intro ?_ ?_)<;>first | omega | assumption)
              · simp (disch:=omega)only[go_sem, *]
            · rw [List.drop_eq_nil_of_le (by omega),whTabs] at hz
              rw [← hz]
              clear hz
              simp (disch:=omega)only[go_sem, *]
          · simp (disch:=omega)only[go_sem, *]
      · simp (disch:=omega)only[go_sem, *]
  · simp (disch:=omega)only[go_sem, *]
theorem right_ev {C:Config} (hnm:NmOk C):Pf tp i_Q29 [.agg C.enc] (.i .i64 (whereR C).1):=by
  refine Pf_go fn_Q29 (by simp [t_Q29]) fun rp=>?_;unfold t_Q29;simp (disch:=omega)only[go_sem, *]
  refine Pf.go (where_ev hnm) (by simp only [go_sem]) fun _=>?_;simp (disch:=omega)only[go_sem, *]
theorem refRight12_ev {C:Config} (hnm:NmOk C):Pf tp i_Q27 [.agg C.enc] (.i .i64 (whereR C).1):=by
  refine Pf_go fn_Q27 (by simp [t_Q27]) fun rp=>?_;unfold t_Q27;simp (disch:=omega)only[go_sem, *]
  refine Pf.go (refWhere_ev hnm) (by simp only [go_sem]) fun _=>?_;simp (disch:=omega)only[go_sem, *]
end Go.Ab.T
namespace Go.Ab.T
open Go Go.Ab
set_option maxHeartbeats 1000000
@[irreducible] def within (n lo hi:Int):Int:=if lo≤n∧n≤hi then n else lo+(if n.tmod (hi - lo+1)<0 then n.tmod (hi - lo+1)+hi - lo+1 else n.tmod (hi - lo+1))
theorem within_bd {n lo hi:Int} (h:lo≤hi):lo≤within n lo hi∧within n lo hi≤hi:=by
  unfold within
  have h1:0<hi - lo+1:=by omega
  have a:=Int.tmod_lt_of_pos n h1
  have b:=Int.lt_tmod_of_pos n h1
  split
  · assumption
  · split<;>omega
theorem within_ev {n lo hi:Int} (h0:0≤lo) (h1:lo≤hi) (h2:hi≤2000000000):Pf tp i_Q9 [.i .i64 n,.i .i64 lo,.i .i64 hi] (.i .i64 (within n lo hi)):=by
  have hp:0<hi - lo+1:=by omega
  have a:=Int.tmod_lt_of_pos n hp
  have b:=Int.lt_tmod_of_pos n hp
  refine Pf_go fn_Q9 (by simp [t_Q9]) fun rp=>?_;unfold t_Q9;simp (disch:=omega)only[go_sem, *]
  repeat' (first | (refine Wg_dec (fun hc=>?_) (fun hc=>?_)<;>simp (disch:=omega)only[go_sem, *]) | (refine Wb_dec (fun hc=>?_) (fun hc=>?_)<;>simp (disch:=omega)only[go_sem, *]) | (refine Wg_of (fun hc=>?_) (fun hc=>?_)<;>simp (disch:=omega)only[go_sem, *]) | (refine Wb_of (fun hc=>?_) (fun hc=>?_)<;>simp (disch:=omega)only[go_sem, *]))
  all_goals (unfold within;(repeat' split)<;>omega)
@[go_sem] def tapeB (L:List Int) (k:Nat):Blk:=⟨2,[[.fl 1 (L.map encI),.i .i64 k]]⟩
theorem Upd.same {h:AH} {id:Nat} {b:Blk} (hb:h.get id=some b):Upd h id b h:=⟨Nat.le_refl _,rfl,hb,fun _ _ _=>rfl⟩
theorem upd_ext {h h1 h2:AH} {id:Nat} {b:Blk} (u:Upd h id b h1) (hid:id<h.next) (x:Ext h1 h2):Upd h id b h2:=by
  have a:=u.next;have c:=x.next
  exact ⟨by omega,x.lim.trans u.lim,(x.get id (by omega)).trans u.here,fun i hi hn=>(x.get i (by omega)).trans (u.get i hi hn)⟩
theorem upd_put {h h1:AH} {id:Nat} {b b':Blk} (u:Upd h id b h1):Upd h id b' (h1.put id b'):=
  ⟨u.next,u.lim,by rw [get_put,gsel_eq rfl],fun i hi hn=>by rw [get_put,gsel_ne hn];exact u.get i hi hn⟩
theorem upd_alloc {h h1:AH} {id:Nat} {b k:Blk} (u:Upd h id b h1) (hid:id<h.next):Upd h id b (h1.alloc k):=upd_ext u hid ((Ext.refl _).alloc _)
theorem upd_grown {h h1 h2:AH} {id b':Nat} {b:Blk} {x v:V} (u:Upd h id b h1) (hid:id<h.next) (g:Grown b' h1 x v h2) (hx:nilV x=true∨h.next≤idV x):Upd h id b h2:=by
  have a:=u.next;have c:=g.next
  have k:∀ i,i<h.next→(nilV x=true∨i≠idV x):=fun i hi=>hx.imp (fun x=>x) (fun x=>by omega)
  exact ⟨by omega,g.lim.trans u.lim,by rw [g.get id (by omega) (k id hid)];exact u.here,fun i hi hn=>by rw [g.get i (by omega) (k i hi)];exact u.get i hi hn⟩
theorem sl_own {b sz:Nat} {h:AH} {v:V} {R:List (List V)} (s:Sl b h sz v R):nilV v=true∨b≤idV v:=by
  rcases s with ⟨hv,_⟩ | ⟨i,el,cap,cs,rfl,_,_,_,_,h1,h2,_⟩
  · rcases hv with rfl | rfl<;>exact .inl rfl
  · exact .inr h2
theorem Cq_tape {tp : TP} {f : Nat} {args : List V} {h : AH} {K : V → AH → Prop} {id k : Nat} {L : List Int} {tf : TF} (hf : tp.fn f = some tf) (hl : args.length ≤ tf.n) (hg : h.get id = some (tapeB L k))
    (z:h.lim≤h.next→id<h.next→Reps args→ZC tp tf.body (env0 args) h (fun x e h2=>Zend tf.res x e h2 (fun r h3=>∃ R j,Frz (h.next≤·) h3 h.next r R∧Upd h id (tapeB L j) h3∧K R (h.put id (tapeB L j))))):Cq tp f args h K:=
  Cq_of hf hl fun wf rp=>by
    have hlt:=(wf.2 id _ hg).1
    have key:∀ (e:Env) (h2:AH),(Wo (resOf e h2 tf.res) fun r=>∃ R j,Frz (h.next≤·) h2 h.next r R∧Upd h id (tapeB L j) h2∧K R (h.put id (tapeB L j)))→Wo (resOf e h2 tf.res) fun r=>∃ P R H,Settle h h2 r P R H∧K R H:=by
      rintro e h2 ⟨v,hv,R,j,fr,u,kk⟩
      exact ⟨v,hv,_,R,_,Settle.upd wf u hlt (.cons _ _ _ _ _ (Frzs.of_stay rfl) (.nil _)) fr,kk⟩
    exact zc_imp (fun x e h2 q=>by
      cases x with
      | ex _=>exact q
      | nm=>exact key _ _ q
      | rt=>exact key _ _ q) (z wf.1 hlt rp)
theorem tnext_ev {h : AH} {id k : Nat} {L : List Int} {n : Int} {K : V → AH → Prop} (hg : h.get id = some (tapeB L k)) (hk : k ≤ L.length) (hL : L.length < 4000000000) (hlo : h.lim ≤ id)
    (kk:∀ v j,0≤v→v≤1073741824→(v<n∨v=0)→j≤L.length→K (.i .i64 v) (h.put id (tapeB L j))):Cq tp i_Q14 [.p id 0 0,.i .i64 n] h K:=by
  refine Cq_tape fn_Q14 (by simp [t_Q14]) hg fun hlm hid rp=>?_
  unfold t_Q14
  have hg1:=hg
  simp only [tapeB] at hg1
  simp (disch:=omega)only[go_sem, *]
  refine Wg_dec (fun hc=>?_) (fun hc=>?_)
  · simp (disch:=omega)only[go_sem, *]
    exact ⟨_,k,.z _ _ (.i _ _),Upd.same hg,kk 0 k (by omega) (by omega) (by omega) hk⟩
  · simp (disch:=omega)only[go_sem, *]
    refine Wb_dec (fun hc2=>?_) (fun hc2=>?_)
    · simp (disch:=omega)only[go_sem, *]
      exact ⟨_,k,.z _ _ (.i _ _),Upd.same hg,kk 0 k (by omega) (by omega) (by omega) hk⟩
    · have hk1:(k:Int)<L.length:=by omega
      have hb:=within_bd (n:=nth L k) (lo:=0) (hi:=1073741824) (by omega)
      have h1:=Int.tmod_nonneg n hb.1
      have h2:=Int.tmod_lt_of_pos (within (nth L k) 0 1073741824) (b:=n) (by omega)
      have h3:(within (nth L k) 0 1073741824).tmod n≤within (nth L k) 0 1073741824:=by
        rw [Int.tmod_eq_emod_of_nonneg hb.1]
        by_cases hlt:within (nth L k) 0 1073741824<n
        · rw [Int.emod_eq_of_lt hb.1 hlt];omega
        · have:=Int.emod_lt_of_pos (within (nth L k) 0 1073741824) (b:=n) (by omega);omega
      simp (disch:=omega)only[go_sem, *]
      refine Pf.go (within_ev (n:=nth L k) (lo:=0) (hi:=1073741824) (by omega) (by omega) (by omega)) (by simp only [go_sem]) fun _=>?_;simp (disch:=omega)only[go_sem, *]
      exact ⟨_,k+1,.z _ _ (.i _ _),upd_put (Upd.same hg),kk _ (k+1) h1 (by omega) (.inl h2) (by omega)⟩
end Go.Ab.T
namespace Go.Ab.T
open Go Go.Ab
set_option maxHeartbeats 1000000
/-! Plain laws: when a configuration is right. -/
def PtOk (n:Int) (T:List Node):Prop:=∀ x∈T,0≤x.part∧x.part<n
theorem PtOk.one {n:Int} {x:Node} (h0:0≤x.part) (h:x.part<n):PtOk n [x]:=fun y hy=>by
  rw [List.mem_singleton] at hy;subst hy;exact ⟨h0,h⟩
theorem PtOk.app {n:Int} {A B:List Node} (a:PtOk n A) (b:PtOk n B):PtOk n (A++B):=fun y hy=>by
  rcases List.mem_append.1 hy with h | h
  · exact a y h
  · exact b y h
theorem PtOk.cons {n:Int} {x:Node} {B:List Node} (h0:0≤x.part) (h:x.part<n) (b:PtOk n B):PtOk n (x::B):=PtOk.app (PtOk.one h0 h) b
theorem Fo.runs_part {n:Int} (hn:1≤n):∀ (f:Fo),PtOk n f.flat→∀ r∈f.runs,r.part<n
  | .nil,h,r,hr=>by simp [Fo.runs] at hr
  | .leaf x f,h,r,hr=>by
    simp only [Fo.runs,List.mem_cons] at hr
    simp only [Fo.flat] at h
    rcases hr with rfl | hr
    · have:=h x (List.mem_cons_self ..)
      simp only [partR];split<;>omega
    · exact Fo.runs_part hn f (fun y hy=>h y (List.mem_cons_of_mem _ hy)) r hr
  | .seq x k f,h,r,hr=>by
    simp only [Fo.runs,List.mem_append] at hr
    simp only [Fo.flat] at h
    rcases hr with hr | hr
    · exact Fo.runs_part hn k (fun y hy=>h y (List.mem_cons_of_mem _ (List.mem_append_left _ hy))) r hr
    · exact Fo.runs_part hn f (fun y hy=>h y (List.mem_cons_of_mem _ (List.mem_append_right _ hy))) r hr
  | .rep x k f,h,r,hr=>by
    simp only [Fo.runs,List.mem_append] at hr
    simp only [Fo.flat] at h
    rcases hr with hr | hr
    · rw [List.mem_flatten] at hr
      obtain ⟨l,hl,hr⟩:=hr
      rw [List.mem_replicate] at hl
      obtain ⟨_,rfl⟩:=hl
      exact Fo.runs_part hn k (fun y hy=>h y (List.mem_cons_of_mem _ (List.mem_append_left _ hy))) r hr
    · exact Fo.runs_part hn f (fun y hy=>h y (List.mem_cons_of_mem _ (List.mem_append_right _ hy))) r hr
def TabOk (n:Int) (T:List Node):Prop:=(ofR T).2=0∧∀ r∈(ofR T).1,r.part<n
theorem TabOk.of {n:Int} (hn:1≤n) {T:List Node} (h:(ofR T).2=0) (hp:PtOk n T):TabOk n T:=by
  refine ⟨h, ?_⟩
  by_cases hr:rightR T=0
  · rw [ofR_good hr] at h ⊢
    obtain ⟨_,ho,hc1,hL,hd,hl⟩:=foOf_ok hr
    split at h
    · simp at h
    · rename_i h96
      rw [if_neg h96]
      intro r hr
      have hap:=Fo.runs_allpos _ ho
      have hsum:=Fo.runs_sum _ ho
      have ht:=tidyOf hap (by omega)
      obtain ⟨q,hq,e⟩:=ht.parts r hr
      rw [← e]
      exact Fo.runs_part hn _ (by rw [← hL];exact hp) q hq
  · rw [ofR_bad hr] at h
    exact absurd h hr
theorem TabOk.right {n:Int} {T:List Node} (h:TabOk n T):rightR T=0:=by
  by_cases hr:rightR T=0
  · exact hr
  · have:=h.1;rw [ofR_bad hr] at this;exact absurd this hr
theorem TabOk.ne {n:Int} {T:List Node} (h:TabOk n T):0<T.length:=by
  obtain ⟨_,f,ho,hc,rfl,_⟩:=(right_iff T).1 h.right
  exact Fo.flat_pos hc
def litT (p:Int):List Node:=[⟨3,0,2⟩,⟨1,p,3⟩,⟨2,0,2⟩]
theorem lit_ok {n p:Int} (hn:1≤n) (h6:n≤6) (h0:0≤p) (hp:p<n):TabOk n (litT p):=by
  refine TabOk.of hn ?_ (PtOk.cons (by simp) (by simp;omega) (PtOk.cons (by simp;omega) (by simp;omega) (PtOk.one (by simp) (by simp;omega))))
  have k1:kids ⟨1,p,3⟩=0:=by unfold kids;rw [if_neg (by simp),if_pos (by simp;omega)]
  have e:litT p=(Fo.seq ⟨3,0,2⟩ (.leaf ⟨1,p,3⟩ (.leaf ⟨2,0,2⟩ .nil)) .nil).flat:=rfl
  have hr:rightR (litT p)=0:=by
    rw [e]
    refine right_flat ⟨rfl,rfl,by simp [Fo.count],⟨k1,rfl,trivial⟩,trivial⟩ rfl (by simp [Fo.depth]) (by simp [Fo.len]) (by simp [Fo.flat])
  rw [ofR_good hr]
  obtain ⟨hl128,ho,hc1,hL,hd,hl⟩:=foOf_ok hr
  have hap:=Fo.runs_allpos _ ho
  have hsum:=Fo.runs_sum _ ho
  have ht:=tidyOf hap (by omega)
  have h1:((foOf (litT p)).runs.length:Int)≤sumN (foOf (litT p)).runs:=by
    have:∀ {w:List Run},AllPos w→(w.length:Int)≤sumN w:=by
      intro w
      induction w with
      | nil=>intro _;simp [sumN]
      | cons a l ih=>
        intro h
        have:=ih (fun r hr=>h r (List.mem_cons_of_mem _ hr))
        have:=h a (List.mem_cons_self ..)
        simp only [sumN,List.length_cons];omega
    exact this hap
  have hlen:(foOf (litT p)).len=5:=by
    obtain ⟨f,hf,he,hc⟩:∃ f:Fo,f.ok∧f.flat=litT p∧f.len=(foOf (litT p)).len:=⟨_,ho,hL.symm,rfl⟩
    have m1:=(measured_flat ho hc1).2
    have m2:=(measured_flat (f:=Fo.seq ⟨3,0,2⟩ (.leaf ⟨1,p,3⟩ (.leaf ⟨2,0,2⟩ .nil)) .nil) ⟨rfl,rfl,by simp [Fo.count],⟨k1,rfl,trivial⟩,trivial⟩ rfl).2
    rw [← hL] at m1
    rw [← e] at m2
    rw [m1] at m2
    have l2:(Fo.seq ⟨3,0,2⟩ (.leaf ⟨1,p,3⟩ (.leaf ⟨2,0,2⟩ .nil)) .nil).len=5:=rfl
    rw [l2] at m2
    omega
  rw [if_neg (by unfold ofT;have:=ht.len;omega)]
/-! Lateness is no longer than a frame. -/
theorem nxR_le {tt:List Span} {n t:Int} (hs:Sorted 0 tt n) (hne:tt≠[]) (h0:0≤t) (hn:n≤4096):nxR tt t n - t≤4096:=by
  unfold nxR
  rcases nxGo_cases (t:=t) hs with ⟨h1,h2⟩ | ⟨s,h1,h2,h3,h4⟩
  · rw [h1]
    match tt,hne with
    | a::l,_=>
      have:=hs.mem (List.mem_cons_self ..)
      have:=h2 a (List.mem_cons_self ..)
      simp only [nth,List.getD_cons_zero]
      omega
  · rw [h2]
    have:=hs.mem h1
    simp only;omega
theorem lateP_le {tt:List Span} {n:Int} (hs:Sorted 0 tt n) (hne:tt≠[]) (hn:n≤4096):∀ (l:List Span) (w:Int),w≤4096→(∀ s∈l,0≤s.s∧s.s<s.e)→lateP tt n l w≤4096
  | [],w,hw,_=>hw
  | s::l,w,hw,h=>by
    rw [lateP]
    have hh:=h s (List.mem_cons_self ..)
    have a:=nxR_le hs hne (t:=s.s) (by omega) hn
    have b:=nxR_le hs hne (t:=s.e - 1) (by omega) hn
    exact lateP_le hs hne hn l _ (by omega) (fun x hx=>h x (List.mem_cons_of_mem _ hx))
theorem lateR_le {L:List Run} {f t:Int} (hf:Frm L):lateR L f t≤4096:=by
  unfold lateR
  split
  · omega
  · split
    · omega
    · rename_i h2
      have s1:=spGo_sorted (p:=t) (a:=0) hf.1
      have s2:=spGo_sorted (p:=f) (a:=0) hf.1
      rw [Int.zero_add] at s1 s2
      exact lateP_le s1 h2 hf.2 _ _ (by omega) (fun s hs=>by have:=s2.mem hs;omega)
/-! When all is right. -/
theorem whTabs_iff {C:Config}:∀ (l:List (List Node)) (i:Nat),whTabs C i l=(0,-1)↔∀ t∈l,tableR C t=0
  | [],i=>by simp [whTabs]
  | t::l,i=>by
    rw [whTabs]
    split
    · rename_i h;simp [h]
    · rename_i h;rw [whTabs_iff l];simp at h;simp [h]
theorem whChans_iff {C:Config}:∀ (l:List Chan) (i:Nat),whChans C i l=(0,-1)↔(∀ x∈l,chanB C.parts.length x=true)∧∀ t∈C.tables,tableR C t=0
  | [],i=>by simp [whChans,whTabs_iff]
  | x::l,i=>by
    rw [whChans]
    split
    · rename_i h;simp [h]
    · rename_i h;rw [whChans_iff l];simp at h;simp [h]
def GoodP (P:List Part) (j:Nat):Prop:=nameB (nth P j).name=true∧(P.take j).any (fun q=>decide (q.name=(nth P j).name))=false∧partB (nth P j)=true
theorem whParts_iff {C:Config}:∀ (l:List Part) (i:Nat),l=C.parts.drop i→(whParts C i l=(0,-1)↔(∀ j,i≤j→j<C.parts.length→GoodP C.parts j)∧(∀ x∈C.chans,chanB C.parts.length x=true)∧∀ t∈C.tables,tableR C t=0)
  | [],i,hl=>by
    have:C.parts.length≤i:=List.drop_eq_nil_iff.1 hl.symm
    rw [whParts,whChans_iff]
    constructor
    · intro h;exact ⟨fun j h1 h2=>by omega,h⟩
    · intro h;exact h.2
  | p::l,i,hl=>by
    have hi:i<C.parts.length:=by
      rcases Nat.lt_or_ge i C.parts.length with h | h
      · exact h
      · rw [List.drop_eq_nil_of_le h] at hl;cases hl
    rw [drop_nth hi] at hl
    injection hl with h1 h2
    subst h1
    rw [whParts]
    split
    · rename_i h
      constructor
      · intro h';simp at h'
      · intro h'
        have g:=h'.1 i (Nat.le_refl _) hi
        rw [g.1,g.2.1] at h;simp at h
    · rename_i h
      split
      · rename_i h3
        constructor
        · intro h';simp at h'
        · intro h'
          have g:=h'.1 i (Nat.le_refl _) hi
          rw [g.2.2] at h3;simp at h3
      · rename_i h3
        rw [whParts_iff l (i+1) h2]
        simp only [not_or,Bool.not_eq_false,Bool.not_eq_true] at h h3
        constructor
        · intro h'
          refine ⟨fun j hj1 hj2=>?_,h'.2⟩
          by_cases e:j=i
          · subst e;exact ⟨h.1,h.2,h3⟩
          · exact h'.1 j (by omega) hj2
        · intro h'
          exact ⟨fun j hj1 hj2=>h'.1 j (by omega) hj2,h'.2⟩
theorem where_iff {C:Config}:whereR C=(0,-1)↔(1≤C.parts.length∧C.parts.length≤6∧C.chans.length≤8∧1≤C.tables.length∧C.tables.length≤3)∧(∀ j,j<C.parts.length→GoodP C.parts j)∧(∀ x∈C.chans,chanB C.parts.length x=true)∧∀ t∈C.tables,tableR C t=0:=by
  unfold whereR
  split
  · rename_i h
    constructor
    · intro h';simp at h'
    · intro h';omega
  · rename_i h
    rw [whParts_iff _ 0 (by simp)]
    constructor
    · intro h';exact ⟨by omega,fun j hj=>h'.1 j (by omega) hj,h'.2⟩
    · intro h';exact ⟨fun j _ hj=>h'.2.1 j hj,h'.2.2⟩
theorem tableR_iff {C:Config} {T:List Node}:tableR C T=0↔TabOk C.parts.length T∧holdsR C (ofR T).1=0:=by
  unfold tableR TabOk
  split
  · rename_i h;simp [h]
  · rename_i h
    split
    · rename_i h2
      rw [List.any_eq_true] at h2
      obtain ⟨r,h3,h4⟩:=h2
      constructor
      · intro h';simp at h'
      · intro h'
        have:=h'.1.2 r h3
        simp at h4;omega
    · rename_i h2
      simp only [List.any_eq_true,not_exists,not_and] at h2
      constructor
      · intro h';exact ⟨⟨by omega,fun r hr=>by have:=h2 r hr;simp at this;omega⟩,h'⟩
      · intro h';exact h'.2
theorem holdsR_iff {C:Config} {L:List Run}:holdsR C L=0↔C.chans.any (chLate L)=false∧ptShort L 0 C.parts=false:=by
  unfold holdsR
  split
  · rename_i h;simp [h]
  · rename_i h;simp only [Bool.not_eq_true] at h
    split
    · rename_i h2;simp [h2]
    · rename_i h2;simp only [Bool.not_eq_true] at h2;simp [h,h2]
theorem ptShort_zero {L:List Run}:∀ (l:List Part) (i:Nat),(∀ p∈l,p.budget=0)→ptShort L i l=false
  | [],i,h=>rfl
  | p::l,i,h=>by
    rw [ptShort,ptShort_zero l (i+1) (fun q hq=>h q (List.mem_cons_of_mem _ hq)),h p (List.mem_cons_self ..)]
    simp
end Go.Ab.T
namespace Go.Ab.T
open Go Go.Ab
set_option maxHeartbeats 2000000
theorem Sl.new {b:Nat} {h:AH} {sz:Nat} {N:List (List V)} (hb:b≤h.next) (hN:N.length<4294967296):Sl b (h.alloc ⟨sz,N⟩) sz (.sl h.next 0 N.length N.length) N:=
  .inr ⟨h.next,0,N.length,N,rfl,by simp [AH.alloc],by simp,by simp,Nat.le_refl _,by simp [AH.alloc],hb,hN⟩
theorem one_frz {m nx i:Nat} {h:AH} {x:Node} (hi:i=h.next) (hb:m≤i):Frz (m≤·) (h.alloc ⟨3,[x.enc]⟩) nx (.sl i 0 1 1) (.fl 3 ([x].map Node.enc)):=by
  subst hi
  exact Sl.froze (b:=m) (L:=[x]) (Sl.new hb (by simp)) (fun _=>rfl) hb (by simp)
theorem Sl.frzb {α:Type} {enc:α→List V} {b nx:Nat} {h:AH} {sz:Nat} {v:V} {L:List α} (s:Sl b h sz v (L.map enc)) (he:∀ a,(enc a).all stay=true) (hL:L.length<4000000000):Frz (b≤·) h nx v (.fl sz (L.map enc)):=by
  rcases sl_own s with hn | hn
  · rcases s with ⟨hv,hR⟩ | ⟨i,el,cap,cs,rfl,_⟩
    · rw [hR];rcases hv with rfl | rfl
      · exact .ns _ _
      · exact .e0 _ _
    · cases hn
  · exact s.froze he hn hL
theorem pow5 (d:Nat):1≤5 ^ d:=Nat.pos_of_ne_zero (by simp)
theorem ttable_ev {n : Int} {L : List Int} {id : Nat} (hn : 1 ≤ n) (hn2 : n ≤ 1073741824) (hL : L.length < 4000000000) : ∀ (d : Nat), d ≤ 4 → ∀ {h : AH} {k : Nat} {K : V → AH → Prop}, h.get id = some (tapeB L k) → k ≤ L.length → h.lim ≤ id →
    (∀ T j,PtOk n T→T.length≤5 ^ d→j≤L.length→K (.fl 3 (T.map Node.enc)) (h.put id (tapeB L j)))→Cq tp i_Q6 [.p id 0 0,.i .i64 n,.i .i64 d] h K:=by
  intro d
  induction d with
  | zero=>
    intro _ h k K hg hk hlo kk
    refine Cq_tape fn_Q6 (by simp [t_Q6]) hg fun hlm hid rp=>?_
    unfold t_Q6
    simp (disch:=omega)only[go_sem, *]
    refine tnext_ev hg hk hL hlo ?_
    intro v j h0 h1 h2 hj
    simp (disch:=omega)only[go_sem, *]
    have hg1:(h.put id (tapeB L j)).get id=some (tapeB L j):=by simp (disch:=omega)only[go_sem, *]
    refine Wb_dec (fun hc=>?_) (fun hc=>?_)
    · simp (disch:=omega)only[go_sem, *]
      refine tnext_ev hg1 hj hL hlo ?_
      intro v2 j2 h20 h21 h22 hj2
      simp (disch:=omega)only[go_sem, *]
      exact ⟨.fl 3 ([(⟨2,0,1+v2⟩:Node)].map Node.enc),j2,one_frz (x:=⟨2,0,1+v2⟩) rfl (Nat.le_refl _),upd_alloc (upd_put (Upd.same hg)) hid,kk _ _ (PtOk.one (by simp) (by simp;omega)) (by simp) hj2⟩
    · simp (disch:=omega)only[go_sem, *]
      refine tnext_ev hg1 hj hL hlo ?_
      intro v2 j2 h20 h21 h22 hj2
      have hg2:(h.put id (tapeB L j2)).get id=some (tapeB L j2):=by simp (disch:=omega)only[go_sem, *]
      simp (disch:=omega)only[go_sem, *]
      refine tnext_ev hg2 hj2 hL hlo ?_
      intro v3 j3 h30 h31 h32 hj3
      simp (disch:=omega)only[go_sem, *]
      exact ⟨.fl 3 ([(⟨1,v2,1+v3⟩:Node)].map Node.enc),j3,one_frz (x:=⟨1,v2,1+v3⟩) rfl (Nat.le_refl _),upd_alloc (upd_put (Upd.same hg)) hid,kk _ _ (PtOk.one (by simp;omega) (by simp;omega)) (by simp) hj3⟩
  | succ d ihd=>
    intro hd h k K hg hk hlo kk
    have hp:=pow5 d
    have hpe:5 ^ (d+1)=5*5 ^ d:=by rw [Nat.pow_succ];omega
    have hpd:5 ^ d≤125:=Nat.pow_le_pow_right (n:=5) (by omega) (show d≤3 by omega)
    rw [hpe] at kk
    clear hpe
    refine Cq_tape fn_Q6 (by simp [t_Q6]) hg fun hlm hid rp=>?_
    unfold t_Q6
    simp (disch:=omega)only[go_sem, *]
    refine tnext_ev hg hk hL hlo ?_
    intro v j h0 h1 h2 hj
    simp (disch:=omega)only[go_sem, *]
    have hg1:(h.put id (tapeB L j)).get id=some (tapeB L j):=by simp (disch:=omega)only[go_sem, *]
    refine Wg_dec (fun hc=>absurd hc (by omega)) (fun hc=>?_)
    simp (disch:=omega)only[go_sem, *]
    refine Wb_dec (fun hc=>?_) (fun hc=>?_)
    · simp (disch:=omega)only[go_sem, *]
      refine Wb_dec (fun hc2=>?_) (fun hc2=>?_)
      · simp (disch:=omega)only[go_sem, *]
        refine tnext_ev hg1 hj hL hlo ?_
        intro v2 j2 h20 h21 h22 hj2
        simp (disch:=omega)only[go_sem, *]
        exact ⟨.fl 3 ([(⟨2,0,1+v2⟩:Node)].map Node.enc),j2,one_frz (x:=⟨2,0,1+v2⟩) rfl (Nat.le_refl _),upd_alloc (upd_put (Upd.same hg)) hid,kk _ _ (PtOk.one (by simp) (by simp;omega)) (by simp;omega) hj2⟩
      · simp (disch:=omega)only[go_sem, *]
        refine tnext_ev hg1 hj hL hlo ?_
        intro v2 j2 h20 h21 h22 hj2
        have hg2:(h.put id (tapeB L j2)).get id=some (tapeB L j2):=by simp (disch:=omega)only[go_sem, *]
        simp (disch:=omega)only[go_sem, *]
        refine tnext_ev hg2 hj2 hL hlo ?_
        intro v3 j3 h30 h31 h32 hj3
        simp (disch:=omega)only[go_sem, *]
        exact ⟨.fl 3 ([(⟨1,v2,1+v3⟩:Node)].map Node.enc),j3,one_frz (x:=⟨1,v2,1+v3⟩) rfl (Nat.le_refl _),upd_alloc (upd_put (Upd.same hg)) hid,kk _ _ (PtOk.one (by simp;omega) (by simp;omega)) (by simp;omega) hj3⟩
    · simp (disch:=omega)only[go_sem, *]
      refine Wb_dec (fun hc2=>?_) (fun hc2=>?_)
      · simp (disch:=omega)only[go_sem, *]
        refine tnext_ev hg1 hj hL hlo ?_
        intro v2 j2 h20 h21 h22 hj2
        simp (disch:=omega)only[go_sem, *]
        have hu:=upd_alloc (k:=⟨3,[[.i .i64 4,.i .i64 0,.i .i64 (1+v2)]]⟩) (upd_put (b':=tapeB L j2) (Upd.same hg)) hid
        have hun:=hu.next
        refine ihd (by omega) hu.here hj2 (by simp (disch:=omega)only[go_sem, *]) ?_
        intro T j3 hT hTl hj3
        simp (disch:=omega)only[go_sem, *]
        have so:Sl h.next ((h.put id (tapeB L j2)).alloc ⟨3,[(⟨4,0,1+v2⟩:Node)].map Node.enc⟩) 3 (.sl h.next 0 1 1) ([(⟨4,0,1+v2⟩:Node)].map Node.enc):=Sl.new (Nat.le_refl _) (by simp)
        refine app_rule (so.putx id (tapeB L j3) (by simp only [idV];omega)) (by simp (disch:=omega)only[go_sem, *]<;>omega) (by simp (disch:=omega)only[go_sem, *]<;>omega) (by simp;omega) ?_
        intro w h4 s4 g4
        have hu4:=upd_grown (upd_put (b':=tapeB L j3) hu) hid g4 (.inr (Nat.le_refl _))
        simp (disch:=omega)only[go_sem, *]
        rw [← List.map_append] at s4
        exact ⟨.fl 3 (([(⟨4,0,1+v2⟩:Node)]++T).map Node.enc),j3,Sl.frzb s4 (fun _=>rfl) (by simp;omega),hu4,kk _ _ (PtOk.app (PtOk.one (by simp) (by simp;omega)) hT) (by simp;omega) hj3⟩
      · simp (disch:=omega)only[go_sem, *]
        refine tnext_ev hg1 hj hL hlo ?_
        intro v2 j2 h20 h21 h22 hj2
        obtain ⟨m,rfl⟩:∃ m:Nat,v2=m:=⟨v2.toNat,by omega⟩
        simp (disch:=omega)only[go_sem, *]
        have hu:=upd_alloc (k:=⟨3,[(⟨3,0,1+m⟩:Node)].map Node.enc⟩) (upd_put (b':=tapeB L j2) (Upd.same hg)) hid
        have so:Sl h.next ((h.put id (tapeB L j2)).alloc ⟨3,[(⟨3,0,1+m⟩:Node)].map Node.enc⟩) 3 (.sl h.next 0 1 1) ([(⟨3,0,1+m⟩:Node)].map Node.enc):=Sl.new (Nat.le_refl _) (by simp)
        have so2:=so
        simp only [List.map_cons,List.map_nil,Node.enc,tapeB] at hu so2
        refine ZC_loop_n (fun n' e h'=>∃ (i j:Nat) (O:List Node) (o:V),n'=m+1 - i∧h'.lim=h.lim∧e 0=.p id 0 0∧e 1=.i .i64 n∧e 2=.i .i64 (d+1)∧e 8=.i .i64 (1+m)∧e 9=o∧e 10=.i .i64 i∧i≤m+1∧j≤L.length∧Upd h id (tapeB L j) h'∧Sl h.next h' 3 o (O.map Node.enc)∧PtOk n O∧O.length≤1+i*5 ^ d) ?_ _ _ _ ⟨0,j2,[⟨3,0,1+m⟩],.sl h.next 0 1 1,rfl, ?_⟩
        · rintro n' e h' ⟨i,j,O,o,rfl,hl',e0,e1,e2,e8,e9,e10,hi,hj,hu,so,hO,hOl⟩ ih
          have hun:=hu.next
          have hgu:=hu.here
          have hw:=sl_own so
          rw [ZC_unf Q6_14.eq_1]
          simp (disch:=omega)only[go_sem, *]
          refine Wb_dec (fun hc=>?_) (fun hc=>?_)
          · simp (disch:=omega)only[go_sem, *]
            refine ihd (by omega) hu.here hj (by omega) ?_
            intro T j3 hT hTl hj3
            have hi5:i*5 ^ d≤3*5 ^ d:=Nat.mul_le_mul_right _ (by omega)
            have hi6:(i+1)*5 ^ d=i*5 ^ d+5 ^ d:=Nat.succ_mul _ _
            simp (disch:=omega)only[go_sem, *]
            have so3:Sl h.next (h'.put id (tapeB L j3)) 3 o (O.map Node.enc):=by
              rcases hw with hw | hw
              · rcases so with ⟨a,b⟩ | ⟨_,_,_,_,rfl,_⟩
                · exact .inl ⟨a,b⟩
                · cases hw
              · exact so.putx _ _ (by omega)
            refine app_rule so3 (by simp (disch:=omega)only[go_sem, *]<;>omega) (by simp (disch:=omega)only[go_sem, *]<;>omega) (by simp;omega) ?_
            intro w h4 s4 g4
            have hl4:=g4.lim
            have hu4:=upd_grown (upd_put (b':=tapeB L j3) hu) hid g4 hw
            simp (disch:=omega)only[go_sem, *]
            refine ih _ _ _ ?_ ⟨i+1,j3,O++T,w,rfl, ?_⟩
            · omega
            · simp (disch:=omega)only[go_sem, *]
              ((repeat' refine And.intro ?_ ?_)<;>first | omega | assumption | (simpa using s4) | (exact PtOk.app hO hT) | ((simp;omega)))
          · have hi5:i*5 ^ d≤4*5 ^ d:=Nat.mul_le_mul_right _ (by omega)
            simp (disch:=omega)only[go_sem, *]
            exact ⟨.fl 3 (O.map Node.enc),j,Sl.frzb so (fun _=>rfl) (by omega),hu,kk _ _ hO (by omega) hj⟩
        · simp (disch:=omega)only[go_sem, *]
          ((repeat' refine And.intro ?_ ?_)<;>first | omega | assumption | (exact hu) | (exact so) | (exact PtOk.one (by simp) (by simp;omega)) | (simp))
end Go.Ab.T
namespace Go.Ab.T
open Go Go.Ab
set_option maxHeartbeats 2000000
def totGo:List Run→Int→Int
  | [],a=>a
  | r::l,a=>totGo l (addR a r.n)
theorem reftotal_ev {L:List Run} (hb:∀ r∈L,r.n≤9223372036854775807):Pf tp i_Q3 [.fl 2 (L.map Run.enc)] (.i .i64 (totGo L 0)):=by
  refine Pf_go fn_Q3 (by simp [t_Q3]) fun rp=>?_;unfold t_Q3;simp (disch:=omega)only[go_sem, *]
  have hL:=rp.head.len
  refine ZC_loop_n (fun n e h=>∃ (i:Nat) (a:Int),n=L.length - i∧h.lim=0∧e 6=.fl 2 (L.map Run.enc)∧e 7=.i .i64 L.length∧e 8=.i .i64 i∧e 3=.i .i64 a∧i≤L.length∧a≤9223372036854775807∧totGo (L.drop i) a=totGo L 0) ?_ _ _ _ ⟨0,0,rfl, ?_⟩
  · rintro n e h ⟨i,a,rfl,hl,e6,e7,e8,e3,hi,ha,hz⟩ ih
    rw [ZC_unf Q3_7.eq_1]
    simp (disch:=omega)only[go_sem, *]
    refine Wb_dec (fun hc=>?_) (fun hc=>?_)
    · rw [drop_nth (by omega),totGo] at hz
      have hx:=hb _ (nth_mem (L:=L) (j:=i) (by omega))
      have ha2:=addR_big (a:=a) (b:=(nth L i).n)
      simp (disch:=omega)only[go_sem, *]
      refine Pf.go (sum_ev (a:=a) (b:=(nth L i).n) ha hx) (by simp only [go_sem]) fun _=>?_;simp (disch:=omega)only[go_sem, *]
      refine ih _ _ _ ?_ ⟨i+1,addR a (nth L i).n,rfl, ?_⟩
      · omega
      · simp (disch:=omega)only[go_sem, *]
        ((repeat' refine And.intro ?_ ?_)<;>first | omega | assumption)
    · rw [List.drop_eq_nil_of_le (by omega),totGo] at hz
      simp (disch:=omega)only[go_sem, *]
  · simp (disch:=omega)only[go_sem, *]
theorem frm_big {L:List Run} (hf:Frm L):∀ r∈L,r.n≤9223372036854775807:=by
  obtain ⟨h1,h2⟩:=hf
  induction L with
  | nil=>intro r hr;cases hr
  | cons a l ih=>
    intro r hr
    have hp:=sumN_pos (w:=l) (fun x hx=>h1 x (List.mem_cons_of_mem _ hx))
    have ha:=h1 a (List.mem_cons_self ..)
    simp only [sumN] at h2
    rcases List.mem_cons.1 hr with rfl | hr
    · omega
    · exact ih (fun x hx=>h1 x (List.mem_cons_of_mem _ hx)) (by omega) r hr
theorem frame_ev {n : Int} {L : List Int} {id : Nat} (hn : 1 ≤ n) (hn6 : n ≤ 6) (hL : L.length < 4000000000) {h : AH} {k : Nat} {K : V → AH → Prop} (hg : h.get id = some (tapeB L k)) (hk : k ≤ L.length) (hlo : h.lim ≤ id)
    (kk:∀ T j,TabOk n T→T.length≤625→j≤L.length→K (.fl 3 (T.map Node.enc)) (h.put id (tapeB L j))):Cq tp i_Q15 [.p id 0 0,.i .i64 n] h K:=by
  refine Cq_tape fn_Q15 (by simp [t_Q15]) hg fun hlm hid rp=>?_
  unfold t_Q15
  simp (disch:=omega)only[go_sem, *]
  refine ttable_ev hn (by omega) hL 4 (by omega) hg hk hlo ?_
  intro T j hT hTl hj
  have hg1:(h.put id (tapeB L j)).get id=some (tapeB L j):=by simp (disch:=omega)only[go_sem, *]
  have hf:=ofR_frm (L:=T)
  have lit:∀ v2 j2 x,0≤v2→v2<n→j2≤L.length→x=h.next→∃ R j3,Frz (h.next≤·) ((h.put id (tapeB L j2)).alloc ⟨3,[[.i .i64 3,.i .i64 0,.i .i64 2],[.i .i64 1,.i .i64 v2,.i .i64 3],[.i .i64 2,.i .i64 0,.i .i64 2]]⟩) h.next (.sl x 0 3 3) R∧Upd h id (tapeB L j3) ((h.put id (tapeB L j2)).alloc ⟨3,[[.i .i64 3,.i .i64 0,.i .i64 2],[.i .i64 1,.i .i64 v2,.i .i64 3],[.i .i64 2,.i .i64 0,.i .i64 2]]⟩)∧K R (h.put id (tapeB L j3)):=by
    rintro v2 j2 x h0 h1 h2 rfl
    have s0:Sl h.next ((h.put id (tapeB L j2)).alloc ⟨3,(litT v2).map Node.enc⟩) 3 (.sl h.next 0 3 3) ((litT v2).map Node.enc):=Sl.new (Nat.le_refl _) (by simp [litT])
    exact ⟨_,j2,Sl.frzb s0 (fun _=>rfl) (by simp [litT]),upd_alloc (upd_put (Upd.same hg)) hid,kk _ j2 (lit_ok hn hn6 h0 h1) (by simp [litT]) h2⟩
  simp only [tapeB] at lit
  simp (disch:=omega)only[go_sem, *]
  refine Pf.go (refOf_ev) (by simp only [go_sem]) fun _=>?_;simp (disch:=omega)only[go_sem, *]
  repeat' (first | (refine Wg_dec (fun hc=>?_) (fun hc=>?_)<;>simp (disch:=omega)only[go_sem, *]) | (refine Wb_dec (fun hc=>?_) (fun hc=>?_)<;>simp (disch:=omega)only[go_sem, *]) | (refine Wg_of (fun hc=>?_) (fun hc=>?_)<;>simp (disch:=omega)only[go_sem, *]) | (refine Wb_of (fun hc=>?_) (fun hc=>?_)<;>simp (disch:=omega)only[go_sem, *]) | (refine Pf.go (reftotal_ev (frm_big hf)) (by simp only [go_sem]) fun _=>?_;simp (disch:=omega)only[go_sem, *]))
  all_goals first
    | (refine tnext_ev hg1 hj hL hlo ?_;intro v2 j2 h20 h21 h22 hj2;(have h23:v2<n:=by omega);simp (disch:=omega)only[go_sem, *])
    | (have h0 : (ofR T).2 = 0 := by omega
       exact ⟨_,j,.fl _ _ _,upd_put (Upd.same hg),kk T j (TabOk.of hn h0 hT) (by omega) hj⟩)
end Go.Ab.T
namespace Go.Ab.T
open Go Go.Ab
set_option maxHeartbeats 2000000
@[go_sem] def RT.enc (r:List Run):List V:=[.fl 2 (r.map Run.enc)]
theorem Sl.sameV {b sz:Nat} {h:AH} {v:V} {R:List (List V)} (s:Sl b h sz v R):sameVa v v=true:=by
  rcases s with ⟨hv,_⟩ | ⟨i,el,cap,cs,rfl,_⟩
  · rcases hv with rfl | rfl<;>rfl
  · exact Go.Ab.sameVa_sl
structure Ask (b id:Nat) (L:List Int) (vp vc:V) (T:List (List Node)) (h h':AH) (P:List Part) (Ch:List Chan) (j:Nat):Prop where
  next:h.next+2≤h'.next
  lim:h'.lim=h.lim
  tape:h'.get id=some (tapeB L j)
  jl:j≤L.length
  box:h'.get h.next=some ⟨3,[[vp,vc,.fl 1 (T.map Tab.enc)]]⟩
  res:h'.get (h.next+1)=some ⟨3,[[.ns,.ns,.ns]]⟩
  low:∀ i,i<b→i≠id→h'.get i=h.get i
  sp:Sl b h' 11 vp (P.map Part.enc)
  sc:Sl b h' 6 vc (Ch.map Chan.enc)
  pl:nilV vp=true∨idV vp<h.next
  cl:nilV vc=true∨idV vc<h.next
  dj:nilV vp=true∨nilV vc=true∨idV vp≠idV vc
theorem sl_put {b sz:Nat} {h:AH} {v:V} {R:List (List V)} (s:Sl b h sz v R) (i:Nat) (k:Blk) (hi:nilV v=true∨i≠idV v):Sl b (h.put i k) sz v R:=by
  rcases hi with hi | hi
  · rcases s with ⟨a,c⟩ | ⟨_,_,_,_,rfl,_⟩
    · exact .inl ⟨a,c⟩
    · cases hi
  · exact s.putx _ _ hi
section
variable {b id:Nat} {L:List Int} {vp vc:V} {T:List (List Node)} {h h':AH} {P:List Part} {Ch:List Chan} {j:Nat}
theorem Ask.ext {h2:AH} (a:Ask b id L vp vc T h h' P Ch j) (hb:b≤h.next) (hid:id<b) (x:Ext h' h2):Ask b id L vp vc T h h2 P Ch j:=by
  have n1:=a.next;have n2:=x.next
  exact ⟨by omega,x.lim.trans a.lim,(x.get _ (by omega)).trans a.tape,a.jl,(x.get _ (by omega)).trans a.box,(x.get _ (by omega)).trans a.res,fun i hi hn=>(x.get i (by omega)).trans (a.low i hi hn),a.sp.ext x,a.sc.ext x,a.pl,a.cl,a.dj⟩
theorem Ask.tape2 {j2:Nat} (a:Ask b id L vp vc T h h' P Ch j) (hb:b≤h.next) (hid:id<b) (hj:j2≤L.length):Ask b id L vp vc T h (h'.put id (tapeB L j2)) P Ch j2:=by
  have n1:=a.next
  refine ⟨n1,a.lim,by rw [get_put,gsel_eq rfl],hj,by rw [get_put,gsel_ne (by omega)];exact a.box,by rw [get_put,gsel_ne (by omega)];exact a.res,fun i hi hn=>by rw [get_put,gsel_ne hn];exact a.low i hi hn,sl_put a.sp _ _ ?_,sl_put a.sc _ _ ?_,a.pl,a.cl,a.dj⟩
  · exact (sl_own a.sp).imp (fun x=>x) (fun x=>by omega)
  · exact (sl_own a.sc).imp (fun x=>x) (fun x=>by omega)
theorem Ask.chan {i:Nat} (x:Chan) (a:Ask b id L vp vc T h h' P Ch j) (hid:id<b) (hi:i<Ch.length):Ask b id L vp vc T h (h'.put (idV vc) ⟨6,(csOf h' vc).set (elV vc+i) x.enc⟩) P (Ch.set i x) j:=by
  obtain ⟨_,_,lt,lo,_⟩:=a.sc.facts
  have hnil:nilV vc=false:=by
    rcases a.sc with ⟨_,hR⟩ | ⟨_,_,_,_,rfl,_⟩
    · have:Ch=[]:=by simpa using hR
      subst this;simp at hi
    · rfl
  have l1:=lo (by omega)
  have l2:idV vc<h.next:=by rcases a.cl with q | q;(rw [q] at hnil;cases hnil);exact q
  have l3:nilV vp=true∨idV vp≠idV vc:=by
    rcases a.dj with q | q | q
    · exact .inl q
    · rw [q] at hnil;cases hnil
    · exact .inr q
  refine ⟨a.next,a.lim,by rw [get_put,gsel_ne (by omega)];exact a.tape,a.jl,by rw [get_put,gsel_ne (by omega)];exact a.box,by rw [get_put,gsel_ne (by omega)];exact a.res,fun i hi hn=>by rw [get_put,gsel_ne (by omega)];exact a.low i hi hn,sl_put a.sp _ _ (l3.imp (fun x=>x) (fun x=>Ne.symm x)), ?_,a.pl,a.cl,a.dj⟩
  exact Sl.setT a.sc hi (Nat.le_refl _) (by rw [get_put,gsel_eq rfl])
theorem Ask.part {i:Nat} (x:Part) (a:Ask b id L vp vc T h h' P Ch j) (hid:id<b) (hi:i<P.length):Ask b id L vp vc T h (h'.put (idV vp) ⟨11,(csOf h' vp).set (elV vp+i) x.enc⟩) (P.set i x) Ch j:=by
  obtain ⟨_,_,lt,lo,_⟩:=a.sp.facts
  have hnil:nilV vp=false:=by
    rcases a.sp with ⟨_,hR⟩ | ⟨_,_,_,_,rfl,_⟩
    · have:P=[]:=by simpa using hR
      subst this;simp at hi
    · rfl
  have l1:=lo (by omega)
  have l2:idV vp<h.next:=by rcases a.pl with q | q;(rw [q] at hnil;cases hnil);exact q
  have l3:nilV vc=true∨idV vc≠idV vp:=by
    rcases a.dj with q | q | q
    · rw [q] at hnil;cases hnil
    · exact .inl q
    · exact .inr (Ne.symm q)
  refine ⟨a.next,a.lim,by rw [get_put,gsel_ne (by omega)];exact a.tape,a.jl,by rw [get_put,gsel_ne (by omega)];exact a.box,by rw [get_put,gsel_ne (by omega)];exact a.res,fun i hi hn=>by rw [get_put,gsel_ne (by omega)];exact a.low i hi hn, ?_,sl_put a.sc _ _ (l3.imp (fun x=>x) (fun x=>Ne.symm x)),a.pl,a.cl,a.dj⟩
  exact Sl.setT a.sp hi (Nat.le_refl _) (by rw [get_put,gsel_eq rfl])
end
theorem Cq_fix {tp:TP} {f:Nat} {args args':List V} {h:AH} {K:V→AH→Prop} (id:Nat) (hz:Frzs (·=id) h h.next args args') (z:Cq tp f args' (h.kill id) K):Cq tp f args h K:=by
  intro S m hc args1 c p
  have wf:=c.wf
  have st:∀ r R,Frz (·=id) h h.next r R→Settle h h r (·=id) R (h.kill id):=fun r R f=>⟨Nat.le_refl _,rfl,Nat.le_refl _,fun i k hk=>by
    rw [get_kill] at hk
    by_cases hd:i=id
    · rw [gsel_eq hd] at hk;cases hk
    · rw [gsel_ne hd] at hk
      exact ⟨(wf.2 i k hk).1,hd,k.cs,hk,(wf.2 i k hk).2 _ _⟩,f⟩
  obtain ⟨q1,q2,_⟩:=(st .u .u (.z _ _ .u)).ok c c (Adv.refl c) (.u _ .u)
  refine (z _ m hc args1 q1 (Frzs.ok c hz p)).imp ?_
  rintro r1 hc' ⟨r,h',S',m',c',a',q,k⟩
  exact ⟨r,h',S',m',c',q2.trans a',q,k⟩
end Go.Ab.T
