/- Part of the proof that ReduceAgain returns true for every input of the second form's bound (no other condition). -/
import Derived.Test.YtcjjajphbamjlaaGreatPI
import Derived.Test.YtcjjajphbamjlaaGreatPG
set_option linter.all false
namespace Go.Ab.T
open Go Go.Ab
set_option maxHeartbeats 4000000
theorem frm_len:∀ {L:List Run},AllPos L→(L.length:Int)≤sumN L
  | [],_=>by simp [sumN]
  | r::l,h=>by
    have:=frm_len (L:=l) (fun q hq=>h q (List.mem_cons_of_mem _ hq))
    have:=h r (List.mem_cons_self ..)
    simp only [List.length_cons,sumN];omega
theorem Frm.len {L:List Run} (h:Frm L):L.length≤4096:=by
  have:=frm_len h.1;have:=h.2;omega
theorem fits_ev {C:Config} {L:List Run} {m:Move} (hf:Frm L):Pf tp i_Q34 [.agg C.enc,.fl 2 (L.map Run.enc),.agg m.enc] (.b (fitsB C L m)):=by
  refine Pf_go fn_Q34 (by simp [t_Q34]) fun rp=>?_;unfold t_Q34;simp (disch:=omega)only[go_sem, *]
  have hd:=depends_ev (C:=C)
  have hm:=fun M=>may_ev (L:=L) (M:=M) (m:=m)
  have hdo:=do_ev (L:=L) (m:=m) hf.ok
  have hh:=holds_ev (C:=C) (do_frm (m:=m) hf)
  simp only [Config.enc,Move.enc] at hd hm hdo hh
  refine Pf.go (hd) (by simp only [go_sem]) fun _=>?_;simp (disch:=omega)only[go_sem, *]
  refine Pf.go (hm _) (by simp only [go_sem]) fun _=>?_;simp (disch:=omega)only[go_sem, *]
  have hfi:fitsB C L m=(mayB L (depM C) m&&decide (holdsR C (doR L m)=0)):=rfl
  refine Wg_of (fun hc=>?_) (fun hc=>?_)
  · rw [hc,Bool.true_and] at hfi
    simp (disch:=omega)only[go_sem, *]
    refine Pf.go (hdo) (by simp only [go_sem]) fun _=>?_;simp (disch:=omega)only[go_sem, *]
    refine Pf.go (hh) (by simp only [go_sem]) fun _=>?_;simp (disch:=omega)only[go_sem, *]
  · have hfi:fitsB C L m=false:=by rw [hfi,hc];rfl
    simp (disch:=omega)only[go_sem, *]
theorem rowsTidy_ev {L:List Run} {C:Config} (hf:Frm L):Pf tp i_Q58 [.fl 2 (L.map Run.enc),.agg C.enc] (.tup [.fl 2 ((mergeR L).1.map Run.enc),.b (mergeR L).2]):=by
  refine Pf_go fn_Q58 (by simp [t_Q58]) fun rp=>?_;unfold t_Q58;simp (disch:=omega)only[go_sem, *]
  have h1:=tidy_ev hf.ok
  have h3:=rsame3_ev (L:=tidyGo L []) (M:=L)
  unfold mergeR
  refine Pf.go (h1) (by simp only [go_sem]) fun _=>?_;simp (disch:=omega)only[go_sem, *]
  refine Pf.go (h3) (by simp only [go_sem]) fun _=>?_;simp (disch:=omega)only[go_sem, *]
theorem merge_ev {C:Config} {L:List Run} (hf:Frm L):Pf tp i_Q27 [.agg C.enc,.fl 2 (L.map Run.enc)] (.tup [.fl 2 ((mergeR L).1.map Run.enc),.b (mergeR L).2]):=by
  refine Pf_go fn_Q27 (by simp [t_Q27]) fun rp=>?_;unfold t_Q27;simp (disch:=omega)only[go_sem, *]
  have h:=rowsTidy_ev (C:=C) hf
  simp only [Config.enc] at h
  refine Pf.go (h) (by simp only [go_sem]) fun _=>?_;simp (disch:=omega)only[go_sem, *]
theorem rowsDraw_ev {C:Config} {L:List Run} (hf:Frm L):Pf tp i_Q29 [.fl 2 (L.map Run.enc),.agg C.enc] (.tup [.fl 2 ((drawR C L).1.map Run.enc),.b (drawR C L).2]):=by
  refine Pf_go fn_Q29 (by simp [t_Q29]) fun rp=>?_;unfold t_Q29;simp (disch:=omega)only[go_sem, *]
  have hd:=depends_ev (C:=C)
  have hfi:=fun m=>fits_ev (C:=C) (m:=m) hf
  simp only [Config.enc,Move.enc] at hd hfi
  refine Pf.go (hd) (by simp only [go_sem]) fun _=>?_;simp (disch:=omega)only[go_sem, *]
  refine Pf.go (all_ev depM_sq hf.len) (by simp only [go_sem]) fun _=>?_;simp (disch:=omega)only[go_sem, *]
  have hmem:∀ m∈allR L (depM C),mayB L (depM C) m=true:=fun m h=>allR_mem h
  have hdr:drawR C L=drawGo C L (allR L (depM C)):=rfl
  generalize allR L (depM C)=A at *
  rename_i ra
  have hA:=ra.len
  refine ZC_loop_n (fun n e h=>∃ (k:Nat),n=A.length - k∧h.lim=0∧e 11=.fl 3 (A.map Move.enc)∧e 12=.i .i64 A.length∧e 13=.i .i64 k∧e 0=.fl 2 (L.map Run.enc)∧e 3=.p 0 0 0∧k≤A.length∧h.get 0=some ⟨3,[[.fl 11 (C.parts.map Part.enc),.fl 6 (C.chans.map Chan.enc),.fl 1 (C.tables.map Tab.enc)]]⟩∧1≤h.next∧drawR C L=drawGo C L (A.drop k)) ?_ _ _ _ ⟨0,rfl, ?_⟩
  · rintro n e h ⟨k,rfl,hl,e11,e12,e13,e0,e3,hi,hg,hn,hz⟩ ih
    rw [ZC_unf Q29_7.eq_1]
    simp (disch:=omega)only[go_sem, *]
    clear hdr
    refine Wb_dec (fun hc=>?_) (fun hc=>?_)
    · rw [drop_nth (by omega),drawGo] at hz
      have hm:=hmem _ (nth_mem (L:=A) (j:=k) (by omega))
      have hfx:fitsB C L (nth A k)=decide (holdsR C (doR L (nth A k))=0):=by unfold fitsB;rw [hm,Bool.true_and]
      have hfk:=hfi (nth A k)
      have hdo:=do_ev (L:=L) (m:=nth A k) hf.ok
      simp only [Move.enc] at hdo
      rw [hfx] at hfk
      clear hmem hfi hfx hm hd
      simp (disch:=omega)only[go_sem, *]
      refine Pf.go (hfk) (by simp only [go_sem]) fun _=>?_;simp (disch:=omega)only[go_sem, *]
      refine Wb_dec (fun hc2=>?_) (fun hc2=>?_)
      · rw [if_pos hc2] at hz
        simp (disch:=omega)only[go_sem, *]
        refine Pf.go (hdo) (by simp only [go_sem]) fun _=>?_;simp (disch:=omega)only[go_sem, *]
      · rw [if_neg hc2] at hz
        simp (disch:=omega)only[go_sem, *]
        refine ih _ _ _ ?_ ⟨k+1,rfl, ?_⟩
        · omega
        · simp (disch:=omega)only[go_sem, *]
          ((repeat' refine And.intro ?_ ?_)<;>first | omega | assumption)
    · rw [List.drop_eq_nil_of_le (by omega),drawGo] at hz
      simp (disch:=omega)only[go_sem, *]
      refine Pf.go (cloneRun_ev) (by simp only [go_sem]) fun _=>?_;simp (disch:=omega)only[go_sem, *]
  · simp (disch:=omega)only[go_sem, *]
end Go.Ab.T
namespace Go.Ab.T
open Go Go.Ab
set_option maxHeartbeats 4000000
theorem idxMove {L:List Move} {g:Nat} {caps:List V} {P:Move→Bool} {h0:AH} {K:V→AH→Prop} (hp:∀ x,x∈L→∀ K:V→AH→Prop,K (.b (P x)) h0→Cq tp g (.agg x.enc::caps) h0 K) (k:K (.i .i64 (idxGo P L 0)) h0):Cq tp i_Q61 [.fl 3 (L.map Move.enc),.f (.func g) [] caps] h0 K:=by
  refine Cq_raw_go fn_Q61 (by simp [t_Q61]) fun wf rp=>?_;unfold t_Q61;simp (disch:=omega)only[go_sem, *]
  have hL:=rp.head.len
  refine ZC_loop_n (fun n e h=>∃ (i:Nat),n=L.length - i∧h.lim=h0.lim∧e 6=.fl 3 (L.map Move.enc)∧e 7=.i .i64 L.length∧e 8=.i .i64 i∧e 0=.fl 3 (L.map Move.enc)∧e 1=.f (.func g) [] caps∧i≤L.length∧h=h0∧idxGo P (L.drop i) i=idxGo P L 0) ?_ _ _ _ ⟨0,rfl, ?_⟩
  · rintro n e h ⟨i,rfl,hl,e6,e7,e8,e0,e1,hi,rfl,hz⟩ ih
    rw [ZC_unf Q61_7.eq_1]
    simp (disch:=omega)only[go_sem, *]
    refine Wb_dec (fun hc=>?_) (fun hc=>?_)
    · rw [drop_nth (by omega),idxGo] at hz
      simp (disch:=omega)only[go_sem, *]
      refine hp (nth L i) (nth_mem (by omega)) _ ?_
      simp (disch:=omega)only[go_sem, *]
      refine Wb_of (fun hc2=>?_) (fun hc2=>?_)
      · rw [if_pos hc2] at hz
        simp (disch:=omega)only[go_sem, *]
      · rw [if_neg (by simp [hc2])] at hz
        simp (disch:=omega)only[go_sem, *]
        refine ih _ _ _ ?_ ⟨i+1,rfl, ?_⟩
        · omega
        · simp (disch:=omega)only[go_sem, *]
          ((repeat' refine And.intro ?_ ?_)<;>first | omega | assumption | (skip))
    · rw [List.drop_eq_nil_of_le (by omega),idxGo] at hz
      simp (disch:=omega)only[go_sem, *]
  · simp (disch:=omega)only[go_sem, *]
theorem idxGoMove {P:Move→Bool}:∀ (L:List Move) (i:Int),0≤i→(0≤idxGo P L i↔L.any P=true)
  | [],i,hi=>by simp [idxGo]
  | a::l,i,hi=>by
    rw [idxGo]
    split
    · rename_i h;simp [h,hi]
    · rename_i h;rw [idxGoMove l (i+1) (by omega)];simp [h]
theorem hasMove {L:List Move} {g:Nat} {caps:List V} {P:Move→Bool} {h0:AH} {K:V→AH→Prop} (hp:∀ x,x∈L→∀ K:V→AH→Prop,K (.b (P x)) h0→Cq tp g (.agg x.enc::caps) h0 K) (k:K (.b (L.any P)) h0):Cq tp i_Q30 [.fl 3 (L.map Move.enc),.f (.func g) [] caps] h0 K:=by
  refine Cq_raw_go fn_Q30 (by simp [t_Q30]) fun wf rp=>?_;unfold t_Q30;simp (disch:=omega)only[go_sem, *]
  refine idxMove hp ?_
  simp (disch:=omega)only[go_sem, *]
  have e:(decide (0≤idxGo P L 0))=L.any P:=by rw [Bool.eq_iff_iff];simp only [decide_eq_true_eq];exact idxGoMove L 0 (Int.le_refl _)
  rw [e];exact k
theorem stuck1_ev {C:Config} {L:List Run} {m:Move} {h:AH} {a b:Nat} {K:V→AH→Prop} (hf:Frm L) (ha:h.get a=some ⟨3,[C.enc]⟩) (hb:h.get b=some ⟨1,[[.fl 2 (L.map Run.enc)]]⟩) (hal:a<h.next) (hbl:b<h.next) (k:K (.b (fitsB C L m)) h):Cq tp i_Q33 [.agg m.enc,.p a 0 0,.p b 0 0] h K:=by
  have hfi:=fits_ev (C:=C) (m:=m) hf
  simp only [Move.enc,Config.enc] at *
  refine Cq_same fn_Q33 (by simp [t_Q33]) (k) fun hlm rp=>?_;unfold t_Q33;simp (disch:=omega)only[go_sem, *]
  refine Pf.go (hfi) (by simp only [go_sem]) fun _=>?_;simp (disch:=omega)only[go_sem, *]
  (repeat (first | exact Ext.refl _ | refine Ext.alloc ?_ _ | (refine Ext.put ?_ _ _ ?_;rotate_left;(first | omega | (simp only [next_alloc,next_put];omega)))))
theorem any_draw {C:Config} {L:List Run}:(allR L (depM C)).any (fitsB C L)=(drawR C L).2:=by
  rcases draw_cases (C:=C) (L:=L) with ⟨m,h1,h2,h3⟩ | ⟨h1,h2⟩
  · rw [h2,List.any_eq_true]
    exact ⟨m,h1,by unfold fitsB;rw [allR_mem h1,h3];rfl⟩
  · rw [h1,List.any_eq_false]
    exact fun m hm=>by unfold fitsB;rw [allR_mem hm,decide_eq_false (h2 m hm)];simp
theorem stuck_ev {C:Config} {L:List Run} (hf:Frm L):Pf tp i_Q9 [.agg C.enc,.fl 2 (L.map Run.enc)] (.b (stuckB C L)):=by
  refine Pf_go fn_Q9 (by simp [t_Q9]) fun rp=>?_;unfold t_Q9;simp (disch:=omega)only[go_sem, *]
  have hd:=depends_ev (C:=C)
  simp only [Config.enc] at hd
  refine Pf.go (hd) (by simp only [go_sem]) fun _=>?_;simp (disch:=omega)only[go_sem, *]
  refine Pf.go (all_ev depM_sq hf.len) (by simp only [go_sem]) fun _=>?_;simp (disch:=omega)only[go_sem, *]
  refine hasMove (P:=fitsB C L) (fun x hx K k=>stuck1_ev hf (by simp (disch:=omega)only[go_sem, *]) (by simp (disch:=omega)only[go_sem, *]) (by simp (disch:=omega)only[go_sem, *]) (by simp (disch:=omega)only[go_sem, *]) k) ?_
  have e:=any_draw (C:=C) (L:=L)
  have e2:stuckB C L = !(drawR C L).2:=rfl
  simp (disch:=omega)only[go_sem, *]
theorem valid_ev {C:Config} {a b:List Run} (ha:Frm a) (hb:Frm b):Pf tp i_Q10 [.agg C.enc,.fl 2 (a.map Run.enc),.fl 2 (b.map Run.enc)] (.b (validB C a b)):=by
  refine Pf_go fn_Q10 (by simp [t_Q10]) fun rp=>?_;unfold t_Q10;simp (disch:=omega)only[go_sem, *]
  have hd:=depends_ev (C:=C)
  have hh:=holds_ev (C:=C) hb
  have hv:validB C a b=(!(difR a b (depM C)).2.2&&(decide (holdsR C b=0)&&frameB b)):=rfl
  simp only [Config.enc] at hd hh
  refine Pf.go (hd) (by simp only [go_sem]) fun _=>?_;simp (disch:=omega)only[go_sem, *]
  refine Pf.go (wsame_ev ha hb depM_sq) (by simp only [go_sem]) fun _=>?_;simp (disch:=omega)only[go_sem, *]
  refine Wg_of (fun hc=>?_) (fun hc=>?_)
  · rw [hc,Bool.true_and] at hv
    simp (disch:=omega)only[go_sem, *]
    refine Pf.go (hh) (by simp only [go_sem]) fun _=>?_;simp (disch:=omega)only[go_sem, *]
    refine Wg_dec (fun hc2=>?_) (fun hc2=>?_)
    · rw [decide_eq_true hc2,Bool.true_and] at hv
      simp (disch:=omega)only[go_sem, *]
      refine Pf.go (right3_ev) (by simp only [go_sem]) fun _=>?_;simp (disch:=omega)only[go_sem, *]
    · rw [decide_eq_false hc2,Bool.false_and] at hv
      simp (disch:=omega)only[go_sem, *]
  · rw [hc,Bool.false_and] at hv
    simp (disch:=omega)only[go_sem, *]
end Go.Ab.T
namespace Go.Ab.T
open Go Go.Ab
set_option maxHeartbeats 4000000
theorem pass_ev {g:Nat} {h:AH} {K:V→AH→Prop} (k:K (.f (.func i_Q90) [] [.p h.next 0 0]) (h.alloc ⟨1,[[.f (.func g) [] []]]⟩)):Cq tp i_Q59 [.f (.func g) [] []] h K:=by
  refine Cq_raw_go fn_Q59 (by simp [t_Q59]) fun wf rp=>?_;unfold t_Q59;simp (disch:=omega)only[go_sem, *]
theorem pass1_ev {C:Config} {L:List Run} {g id:Nat} {R1:List Run} {R2:Bool} {h:AH} {K:V→AH→Prop} (hg:h.get id=some ⟨1,[[.f (.func g) [] []]]⟩) (hid:id<h.next) (hp:Pf tp g [.fl 2 (L.map Run.enc),.agg C.enc] (.tup [.fl 2 (R1.map Run.enc),.b R2])) (k:K (.tup [.fl 2 (R1.map Run.enc),.b R2]) h):Cq tp i_Q90 [.agg C.enc,.fl 2 (L.map Run.enc),.p id 0 0] h K:=by
  simp only [Config.enc] at *
  refine Cq_same fn_Q90 (by simp [t_Q90]) (k) fun hlm rp=>?_;unfold t_Q90;simp (disch:=omega)only[go_sem, *]
  refine Pf.go (hp) (by simp only [go_sem]) fun _=>?_;simp (disch:=omega)only[go_sem, *]
  (repeat (first | exact Ext.refl _ | refine Ext.alloc ?_ _ | (refine Ext.put ?_ _ _ ?_;rotate_left;(first | omega | (simp only [next_alloc,next_put];omega)))))
theorem passes_ev {h:AH} {K:V→AH→Prop} (k:K (.sl (h.next+2) 0 2 2) (((h.alloc ⟨1,[[.f (.func i_Q58) [] []]]⟩).alloc ⟨1,[[.f (.func i_Q29) [] []]]⟩).alloc ⟨1,[[.f (.func i_Q90) [] [.p h.next 0 0]],[.f (.func i_Q90) [] [.p (h.next+1) 0 0]]]⟩)):Cq tp i_Q28 [] h K:=by
  refine Cq_raw_go fn_Q28 (by simp [t_Q28]) fun wf rp=>?_;unfold t_Q28;simp (disch:=omega)only[go_sem, *]
  refine pass_ev ?_
  simp (disch:=omega)only[go_sem, *]
  refine pass_ev ?_
  simp (disch:=omega)only[go_sem, *]
theorem redStep_ev {C:Config} {L:List Run} (hf:Frm L):Pf tp i_Q44 [.agg C.enc,.fl 2 (L.map Run.enc)] (.tup [.fl 2 ((stepR C L).1.map Run.enc),.b (stepR C L).2]):=by
  refine Pf_go fn_Q44 (by simp [t_Q44]) fun rp=>?_;unfold t_Q44;simp (disch:=omega)only[go_sem, *]
  have ht:=rowsTidy_ev (C:=C) hf
  have hd:=rowsDraw_ev (C:=C) hf
  have hv1:=valid_ev (C:=C) hf (merge_frm hf)
  have hv2:=valid_ev (C:=C) hf (draw_frm (C:=C) hf)
  have hs:stepR C L=if (mergeR L).2=true∧validB C L (mergeR L).1=true then ((mergeR L).1,true) else if (drawR C L).2=true∧validB C L (drawR C L).1=true then ((drawR C L).1,true) else (L,false):=rfl
  simp only [Config.enc] at hv1 hv2
  refine passes_ev ?_
  simp (disch:=omega)only[go_sem, *]
  refine ZC_loop ?_
  rw [ZC_unf Q44_8.eq_1]
  simp (disch:=omega)only[go_sem, *]
  refine Wb_dec (fun h0=>?_) (fun h0=>absurd h0 (by decide))
  clear h0
  simp (disch:=omega)only[go_sem, *]
  refine pass1_ev (C:=C) (L:=L) (g:=i_Q58) ?_ ?_ ht ?_
  · simp (disch:=omega)only[go_sem, *]
  · simp (disch:=omega)only[go_sem, *]
  clear ht
  simp (disch:=omega)only[go_sem, *]
  refine Wg_of (fun hc=>?_) (fun hc=>?_)
  · simp (disch:=omega)only[go_sem, *]
    refine Pf.go (hv1) (by simp only [go_sem]) fun _=>?_;simp (disch:=omega)only[go_sem, *]
    refine Wb_of (fun hc2=>?_) (fun hc2=>?_)
    · rw [if_pos ⟨hc,hc2⟩] at hs
      simp (disch:=omega)only[go_sem, *]
    · have h2:(¬ ((mergeR L).2=true∧validB C L (mergeR L).1=true)):=by simp [*]
      rw [if_neg h2] at hs
      clear h2
      simp (disch:=omega)only[go_sem, *]
      refine ZC_loop ?_
      rw [ZC_unf Q44_8.eq_1]
      simp (disch:=omega)only[go_sem, *]
      refine Wb_dec (fun h0=>?_) (fun h0=>absurd h0 (by decide))
      clear h0
      simp (disch:=omega)only[go_sem, *]
      refine pass1_ev (C:=C) (L:=L) ?_ ?_ hd ?_
      · simp (disch:=omega)only[go_sem, *]
      · simp (disch:=omega)only[go_sem, *]
      clear hd
      simp (disch:=omega)only[go_sem, *]
      refine Wg_of (fun hc3=>?_) (fun hc3=>?_)
      · simp (disch:=omega)only[go_sem, *]
        refine Pf.go (hv2) (by simp only [go_sem]) fun _=>?_;simp (disch:=omega)only[go_sem, *]
        refine Wb_of (fun hc4=>?_) (fun hc4=>?_)
        · rw [if_pos ⟨hc3,hc4⟩] at hs
          simp (disch:=omega)only[go_sem, *]
        · rw [if_neg (by simp [hc4])] at hs
          simp (disch:=omega)only[go_sem, *]
          refine ZC_loop ?_
          rw [ZC_unf Q44_8.eq_1]
          simp (disch:=omega)only[go_sem, *]
          refine Wb_dec (fun h0=>absurd h0 (by decide)) (fun h0=>?_)
          clear h0
          simp (disch:=omega)only[go_sem, *]
      · rw [if_neg (by simp [hc3])] at hs
        simp (disch:=omega)only[go_sem, *]
        refine ZC_loop ?_
        rw [ZC_unf Q44_8.eq_1]
        simp (disch:=omega)only[go_sem, *]
        refine Wb_dec (fun h0=>absurd h0 (by decide)) (fun h0=>?_)
        clear h0
        simp (disch:=omega)only[go_sem, *]
  · have h2:(¬ ((mergeR L).2=true∧validB C L (mergeR L).1=true)):=by simp [*]
    rw [if_neg h2] at hs
    clear h2
    simp (disch:=omega)only[go_sem, *]
    refine ZC_loop ?_
    rw [ZC_unf Q44_8.eq_1]
    simp (disch:=omega)only[go_sem, *]
    refine Wb_dec (fun h0=>?_) (fun h0=>absurd h0 (by decide))
    clear h0
    simp (disch:=omega)only[go_sem, *]
    refine pass1_ev (C:=C) (L:=L) ?_ ?_ hd ?_
    · simp (disch:=omega)only[go_sem, *]
    · simp (disch:=omega)only[go_sem, *]
    clear hd
    simp (disch:=omega)only[go_sem, *]
    refine Wg_of (fun hc3=>?_) (fun hc3=>?_)
    · simp (disch:=omega)only[go_sem, *]
      refine Pf.go (hv2) (by simp only [go_sem]) fun _=>?_;simp (disch:=omega)only[go_sem, *]
      refine Wb_of (fun hc4=>?_) (fun hc4=>?_)
      · rw [if_pos ⟨hc3,hc4⟩] at hs
        simp (disch:=omega)only[go_sem, *]
      · rw [if_neg (by simp [hc4])] at hs
        simp (disch:=omega)only[go_sem, *]
        refine ZC_loop ?_
        rw [ZC_unf Q44_8.eq_1]
        simp (disch:=omega)only[go_sem, *]
        refine Wb_dec (fun h0=>absurd h0 (by decide)) (fun h0=>?_)
        clear h0
        simp (disch:=omega)only[go_sem, *]
    · rw [if_neg (by simp [hc3])] at hs
      simp (disch:=omega)only[go_sem, *]
      refine ZC_loop ?_
      rw [ZC_unf Q44_8.eq_1]
      simp (disch:=omega)only[go_sem, *]
      refine Wb_dec (fun h0=>absurd h0 (by decide)) (fun h0=>?_)
      clear h0
      simp (disch:=omega)only[go_sem, *]
theorem redRuns_ev {C:Config} {L:List Run} (hf:Frm L):Pf tp i_Q17 [.agg C.enc,.fl 2 (L.map Run.enc)] (.tup [.fl 2 ((runsR C L).1.map Run.enc),.i .i64 (runsR C L).2]):=by
  refine Pf_go fn_Q17 (by simp [t_Q17]) fun rp=>?_;unfold t_Q17;simp (disch:=omega)only[go_sem, *]
  refine Pf.go (cloneRun_ev) (by simp only [go_sem]) fun _=>?_;simp (disch:=omega)only[go_sem, *]
  have hl0:=hf.len
  refine ZC_loop_n (fun n e h=>∃ (f:Nat) (X:List Run) (k:Int),n=f∧h.lim=0∧e 2=.p 0 0 0∧e 6=.fl 2 (X.map Run.enc)∧e 7=.f (.func i_Q44) [] []∧e 8=.i .i64 k∧h.get 0=some ⟨3,[[.fl 11 (C.parts.map Part.enc),.fl 6 (C.chans.map Chan.enc),.fl 1 (C.tables.map Tab.enc)]]⟩∧1≤h.next∧Frm X∧X.length<f∧0≤k∧k+f≤10000∧runsR C L=runsGo C f X k) ?_ _ _ _ ⟨L.length+1,L,0,rfl, ?_⟩
  · rintro n e h ⟨f,X,k,rfl,hl,e2,e6,e7,e8,hg,hn,fx,hlx,hk,hk2,hz⟩ ih
    rw [ZC_unf Q17_9.eq_1]
    simp (disch:=omega)only[go_sem, *]
    cases n with
    | zero=>omega
    | succ f=>
      rw [runsGo] at hz
      have hs:=redStep_ev (C:=C) fx
      have hsf:=step_frm (C:=C) fx
      have hsl:=step_len (C:=C) fx
      simp only [Config.enc] at hs
      refine Pf.go (hs) (by simp only [go_sem]) fun _=>?_;simp (disch:=omega)only[go_sem, *]
      refine Wb_of (fun hc=>?_) (fun hc=>?_)
      · have hc:(stepR C X).2=false:=by simpa using hc
        rw [if_neg (by simp [hc])] at hz
        clear hs ih hsl
        simp (disch:=omega)only[go_sem, *]
      · have hc:(stepR C X).2=true:=by simpa using hc
        rw [if_pos hc] at hz
        have hsl:=hsl hc
        clear hs
        simp (disch:=omega)only[go_sem, *]
        refine ih _ _ _ ?_ ⟨f,(stepR C X).1,k+1,rfl, ?_⟩
        · omega
        · simp (disch:=omega)only[go_sem, *]
          ((repeat' refine And.intro ?_ ?_)<;>first | omega | assumption | (exact hsf))
  · simp (disch:=omega)only[go_sem, *]
    ((repeat' refine And.intro ?_ ?_)<;>first | omega | assumption | (exact hf) | (rfl))
end Go.Ab.T
namespace Go.Ab.T
open Go Go.Ab
set_option maxHeartbeats 4000000
def agGo {α:Type} [DecidableEq α] (X:List α) (i p:Nat):Nat→Nat→Nat
  | 0,k=>k
  | f+1,k=>if i+(k+1)*p≤X.length∧(X.drop i).take p=(X.drop (i+k*p)).take p then agGo X i p f (k+1) else k
def agR {α:Type} [DecidableEq α] (X:List α) (i p:Nat):Nat:=agGo X i p X.length 1
theorem equalInt_ev {L M:List Int}:Pf tp i_Q102 [.fl 1 (L.map encI),.fl 1 (M.map encI)] (.b (decide (L=M))):=by
  refine Pf_go fn_Q102 (by simp [t_Q102]) fun rp=>?_;unfold t_Q102;simp (disch:=omega)only[go_sem, *]
  have hL:=rp.head.len
  have hM:=rp.tail.head.len
  refine Wb_dec (fun hc=>?_) (fun hc=>?_)
  · simp (disch:=omega)only[go_sem, *]
    simp only [false_eq_decide_iff]
    rintro rfl;exact hc rfl
  · simp (disch:=omega)only[go_sem, *]
    refine ZC_loop_n (fun n e h=>∃ (i:Nat),n=L.length - i∧h.lim=0∧e 0=.fl 1 (L.map encI)∧e 1=.fl 1 (M.map encI)∧e 12=.i .i64 L.length∧e 13=.i .i64 i∧i≤L.length∧L.take i=M.take i) ?_ _ _ _ ⟨0,rfl, ?_⟩
    · rintro n e h ⟨i,rfl,hl,e0,e1,e12,e13,hi,hz⟩ ih
      rw [ZC_unf Q102_9.eq_1]
      simp (disch:=omega)only[go_sem, *]
      refine Wb_dec (fun hc2=>?_) (fun hc2=>?_)
      · simp (disch:=omega)only[go_sem, *]
        refine Wb_dec (fun hc3=>?_) (fun hc3=>?_)
        · simp (disch:=omega)only[go_sem, *]
          simp only [false_eq_decide_iff]
          exact eq_no (i:=i) (by omega) hc3
        · have he:=Decidable.not_not.1 hc3
          simp (disch:=omega)only[go_sem, *]
          refine ih _ _ _ ?_ ⟨i+1,rfl, ?_⟩
          · omega
          · simp (disch:=omega)only[go_sem, *]
            ((repeat' refine And.intro ?_ ?_)<;>first | omega | assumption | (exact eq_step (by omega) (by omega) hz he))
      · simp (disch:=omega)only[go_sem, *]
        simp only [true_eq_decide_iff]
        rw [List.take_of_length_le (by omega),List.take_of_length_le (by omega)] at hz
        exact hz
    · simp (disch:=omega)only[go_sem, *]
      first | done | simp
theorem again_ev {I:List Int} {i p:Nat} (hI:I.length≤4096) (hp:1≤p) (hap:i+2*p≤I.length):Pf tp i_Q77 [.fl 1 (I.map encI),.i .i64 i,.i .i64 p] (.i .i64 (agR I i p:Nat)):=by
  refine Pf_go fn_Q77 (by simp [t_Q77]) fun rp=>?_;unfold t_Q77;simp (disch:=omega)only[go_sem, *]
  refine ZC_loop_n (fun n e h=>∃ (f:Nat) (k:Nat),n=f∧h.lim=0∧e 0=.fl 1 (I.map encI)∧e 1=.i .i64 i∧e 2=.i .i64 p∧e 7=.i .i64 k∧1≤k∧k+f=I.length+1∧agR I i p=agGo I i p f k) ?_ _ _ _ ⟨I.length,1,rfl, ?_⟩
  · rintro n e h ⟨f,k,rfl,hl,e0,e1,e2,e7,hk,hf,hz⟩ ih
    rw [ZC_unf Q77_4.eq_1]
    simp (disch:=omega)only[go_sem, *]
    have hQ:((k:Int)+1)*p=((k+1)*p:Nat):=by simp
    have hR:(k:Int)*p=(k*p:Nat):=by simp
    have hQR:(k+1)*p=k*p+p:=by rw [Nat.add_mul,Nat.one_mul]
    have hb:k*p≤4097*4096:=Nat.mul_le_mul (by omega) (by omega)
    have hkp:k≤k*p:=by have:=Nat.mul_le_mul (Nat.le_refl k) hp;omega
    have e1:((i:Int)+p).toNat=i+p:=by omega
    have e2:((i:Int)+(k*p:Nat)).toNat=i+k*p:=by omega
    have e3:((i:Int)+((k*p:Nat)+p)).toNat=i+(k*p+p):=by omega
    generalize hY:(k+1)*p=Y at *
    generalize hZ:k*p=Z at *
    simp (disch:=omega)only[go_sem, *]
    refine Wg_dec (fun hc=>?_) (fun hc=>?_)
    · have s1:List.take (i+p - i) (List.drop i (I.map encI))=((I.drop i).take p).map encI:=by rw [Nat.add_sub_cancel_left];simp [List.map_take,List.map_drop]
      have s2:List.take (i+(Z+p) - (i+Z)) (List.drop (i+Z) (I.map encI))=((I.drop (i+Z)).take p).map encI:=by rw [show i+(Z+p) - (i+Z)=p by omega];simp [List.map_take,List.map_drop]
      simp (disch:=omega)only[go_sem, *]
      refine Pf.go (equalInt_ev) (by simp only [go_sem]) fun _=>?_;simp (disch:=omega)only[go_sem, *]
      refine Wb_dec (fun hc2=>?_) (fun hc2=>?_)
      · cases n with
        | zero=>omega
        | succ f=>
          rw [agGo,hZ,hY,if_pos ⟨by omega,hc2⟩] at hz
          simp (disch:=omega)only[go_sem, *]
          refine ih _ _ _ ?_ ⟨f,k+1,rfl, ?_⟩
          · omega
          · simp (disch:=omega)only[go_sem, *]
            ((repeat' refine And.intro ?_ ?_)<;>first | omega | assumption)
      · have hz2:agR I i p=k:=by
          rw [hz]
          cases n with
          | zero=>rfl
          | succ f=>rw [agGo,hZ,hY,if_neg (fun h=>hc2 h.2)]
        clear hz
        simp (disch:=omega)only[go_sem, *]
    · have hz2:agR I i p=k:=by
        rw [hz]
        cases n with
        | zero=>rfl
        | succ f=>rw [agGo,hZ,hY,if_neg (fun h=>hc (by omega))]
      clear hz
      simp (disch:=omega)only[go_sem, *]
  · simp (disch:=omega)only[go_sem, *]
    ((repeat' refine And.intro ?_ ?_)<;>first | omega | assumption | (rfl))
end Go.Ab.T
namespace Go.Ab.T
open Go Go.Ab
set_option maxHeartbeats 4000000
theorem nth_drop {α:Type} [Inhabited α] {L:List α} {a i:Nat}:nth (L.drop a) i=nth L (a+i):=by simp [nth,List.getD]
theorem nth_take {α:Type} [Inhabited α] {L:List α} {a i:Nat} (h:i<a):nth (L.take a) i=nth L i:=by simp [nth,List.getD,List.getElem?_take_of_lt h]
structure St where
  i:Nat
  p:Nat
  n:Nat
  s:Int
  deriving Inhabited,DecidableEq
@[go_sem] def St.enc (x:St):List V:=[.i .i64 x.i,.i .i64 x.p,.i .i64 x.n,.i .i64 x.s]
def svs (z:Int) (n p:Nat):Int:=z*(n - 1) - 1 - (if 1<p then 1 else 0)
def betP (sz:Nat→Int) (tm:Nat→Nat→Nat) (i:Nat):Nat→Nat→Int→St→St
  | 0,_,_,st=>st
  | f+1,p,z,st=>betP sz tm i f (p+1) (z+sz (i+p - 1)) (if 1<tm i p∧st.s<svs (z+sz (i+p - 1)) (tm i p) p then ⟨i,p,tm i p,svs (z+sz (i+p - 1)) (tm i p) p⟩ else st)
def betA (len:Nat) (sz:Nat→Int) (tm:Nat→Nat→Nat):Nat→Nat→St→St
  | 0,_,st=>st
  | f+1,i,st=>betA len sz tm f (i+1) (betP sz tm i ((len - i) / 2) 1 0 st)
def betR (len:Nat) (sz:Nat→Int) (tm:Nat→Nat→Nat):St:=betA len sz tm len 0 ⟨0,0,0,0⟩
end Go.Ab.T
namespace Go.Ab.T
open Go Go.Ab
set_option maxHeartbeats 4000000
theorem agGo_bd {α:Type} [DecidableEq α] {X:List α} {i p:Nat}:∀ (f k:Nat),k≤agGo X i p f k∧agGo X i p f k≤k+f
  | 0,k=>by simp [agGo]
  | f+1,k=>by
    rw [agGo]
    split
    · have:=agGo_bd (X:=X) (i:=i) (p:=p) f (k+1);omega
    · omega
theorem agR_bd {α:Type} [DecidableEq α] {X:List α} {i p:Nat}:1≤agR X i p∧agR X i p≤X.length+1:=by
  have:=agGo_bd (X:=X) (i:=i) (p:=p) X.length 1
  unfold agR;omega
theorem svs_bd {z:Int} {n p:Nat} (h0:0≤z) (h1:z≤16777216) (hn:1≤n) (hn2:n≤4097):0≤z*((n:Int) - 1)∧z*((n:Int) - 1)≤68719476736:=
  ⟨Int.mul_nonneg h0 (by omega),by have:=Int.mul_le_mul h1 (show (n:Int) - 1≤4096 by omega) (by omega) (by omega);omega⟩
theorem best_ev {I S:List Int} (hI:I.length≤4096) (hS:S.length=I.length) (hs:∀ j,j<S.length→0≤nth S j∧nth S j≤4096):Pf tp i_Q46 [.fl 1 (I.map encI),.fl 1 (S.map encI)] (.agg (betR I.length (nth S) (agR I)).enc):=by
  refine Pf_go fn_Q46 (by simp [t_Q46]) fun rp=>?_;unfold t_Q46;simp (disch:=omega)only[go_sem, *]
  refine ZC_loop_n (fun n e h=>∃ (f:Nat) (i:Nat) (st:St),n=f∧h.lim=0∧e 0=.fl 1 (I.map encI)∧e 1=.fl 1 (S.map encI)∧e 4=.p 0 0 0∧e 5=.p 1 0 0∧e 12=.i .i64 I.length∧e 13=.i .i64 i∧i+f=I.length∧betR I.length (nth S) (agR I)=betA I.length (nth S) (agR I) f i st∧2≤h.next∧h.get 0=some ⟨4,[[.i .i64 0,.i .i64 0,.i .i64 0,.i .i64 0]]⟩∧h.get 1=some ⟨4,[[.i .i64 st.i,.i .i64 st.p,.i .i64 st.n,.i .i64 st.s]]⟩) ?_ _ _ _ ⟨I.length,0,⟨0,0,0,0⟩,rfl, ?_⟩
  · rintro n e h ⟨f,i,st,rfl,hl,e0,e1,e4,e5,e12,e13,hf,hz,hn,hg0,hg⟩ ih
    rw [ZC_unf Q46_18.eq_1]
    simp (disch:=omega)only[go_sem, *]
    refine Wb_dec (fun hc=>?_) (fun hc=>?_)
    · have ihA:=ih
      cases n with
      | zero=>omega
      | succ f=>
        rw [betA] at hz
        clear ih
        simp (disch:=omega)only[go_sem, *]
        refine ZC_loop_n (fun n e h=>∃ (g:Nat) (p:Nat) (z:Int) (s2:St),n=g∧h.lim=0∧e 0=.fl 1 (I.map encI)∧e 1=.fl 1 (S.map encI)∧e 4=.p 0 0 0∧e 5=.p 1 0 0∧e 12=.i .i64 I.length∧e 13=.i .i64 i∧e 6=.i .i64 i∧e 7=.i .i64 z∧e 8=.i .i64 p∧1≤p∧g+p=(I.length - i) / 2+1∧0≤z∧z≤4096*((p:Int) - 1)∧betP (nth S) (agR I) i ((I.length - i) / 2) 1 0 st=betP (nth S) (agR I) i g p z s2∧2≤h.next∧h.get 0=some ⟨4,[[.i .i64 0,.i .i64 0,.i .i64 0,.i .i64 0]]⟩∧h.get 1=some ⟨4,[[.i .i64 s2.i,.i .i64 s2.p,.i .i64 s2.n,.i .i64 s2.s]]⟩) ?_ _ _ _ ⟨(I.length - i) / 2,1,0,st,rfl, ?_⟩
        · rintro n e h ⟨g,p,z,s2,rfl,hl,e0,e1,e4,e5,e12,e13,e6,e7,e8,hp,hgp,hz0,hz1,hw,hn,hg0,hg⟩ ih
          rw [ZC_unf Q46_16.eq_1]
          simp (disch:=omega)only[go_sem, *]
          refine Wb_dec (fun hc2=>?_) (fun hc2=>?_)
          · cases n with
            | zero=>omega
            | succ g=>
              rw [betP] at hw
              clear ihA
              have hag:=again_ev (I:=I) (i:=i) (p:=p) hI hp (by omega)
              have hbd:=agR_bd (X:=I) (i:=i) (p:=p)
              have hsj:=hs (i+p - 1) (by omega)
              have e1:((i:Int)+p - 1).toNat=i+p - 1:=by omega
              have hsv:∀ m,svs (z+nth S (i+p - 1)) m p=(z+nth S (i+p - 1))*((m:Int) - 1) - 1 - (if 1<p then 1 else 0):=fun m=>rfl
              have hmb:=svs_bd (z:=z+nth S (i+p - 1)) (n:=agR I i p) (p:=p) (by omega) (by omega) hbd.1 (by omega)
              have hsv:=hsv (agR I i p)
              generalize agR I i p=N at *
              generalize hzz:z+nth S (i+p - 1)=zz at *
              generalize hmm:zz*((N:Int) - 1)=mm at *
              simp (disch:=omega)only[go_sem, *]
              refine Pf.go (hag) (by simp only [go_sem]) fun _=>?_;simp (disch:=omega)only[go_sem, *]
              refine Wb_dec (fun hc3=>?_) (fun hc3=>?_)
              · rw [if_pos (show 1<p by omega)] at hsv
                have hsv:svs zz N p=(mm - 1 - 1):=by omega
                rw [hsv] at hw
                rename_i hsv0 _ _ _ _
                clear hsv0 hag
                simp (disch:=omega)only[go_sem, *]
                refine Wg_dec (fun hc4=>?_) (fun hc4=>?_)
                · simp (disch:=omega)only[go_sem, *]
                  refine Wb_dec (fun hc5=>?_) (fun hc5=>?_)
                  · rw [if_pos ⟨by omega,by omega⟩] at hw
                    simp (disch:=omega)only[go_sem, *]
                    refine ih _ _ _ ?_ ⟨g,p+1,zz,⟨i,p,N,(mm - 1 - 1)⟩,rfl, ?_⟩
                    · omega
                    · simp (disch:=omega)only[go_sem, *]
                      ((repeat' refine And.intro ?_ ?_)<;>first | omega | assumption)
                  · rw [if_neg (by omega)] at hw
                    simp (disch:=omega)only[go_sem, *]
                    refine ih _ _ _ ?_ ⟨g,p+1,zz,s2,rfl, ?_⟩
                    · omega
                    · simp (disch:=omega)only[go_sem, *]
                      ((repeat' refine And.intro ?_ ?_)<;>first | omega | assumption)
                · rw [if_neg (by omega)] at hw
                  simp (disch:=omega)only[go_sem, *]
                  refine ih _ _ _ ?_ ⟨g,p+1,zz,s2,rfl, ?_⟩
                  · omega
                  · simp (disch:=omega)only[go_sem, *]
                    ((repeat' refine And.intro ?_ ?_)<;>first | omega | assumption)
              · rw [if_neg (show ¬ 1<p by omega)] at hsv
                have hsv:svs zz N p=(mm - 1):=by omega
                rw [hsv] at hw
                rename_i hsv0 _ _ _ _
                clear hsv0 hag
                simp (disch:=omega)only[go_sem, *]
                refine Wg_dec (fun hc4=>?_) (fun hc4=>?_)
                · simp (disch:=omega)only[go_sem, *]
                  refine Wb_dec (fun hc5=>?_) (fun hc5=>?_)
                  · rw [if_pos ⟨by omega,by omega⟩] at hw
                    simp (disch:=omega)only[go_sem, *]
                    refine ih _ _ _ ?_ ⟨g,p+1,zz,⟨i,p,N,(mm - 1)⟩,rfl, ?_⟩
                    · omega
                    · simp (disch:=omega)only[go_sem, *]
                      ((repeat' refine And.intro ?_ ?_)<;>first | omega | assumption)
                  · rw [if_neg (by omega)] at hw
                    simp (disch:=omega)only[go_sem, *]
                    refine ih _ _ _ ?_ ⟨g,p+1,zz,s2,rfl, ?_⟩
                    · omega
                    · simp (disch:=omega)only[go_sem, *]
                      ((repeat' refine And.intro ?_ ?_)<;>first | omega | assumption)
                · rw [if_neg (by omega)] at hw
                  simp (disch:=omega)only[go_sem, *]
                  refine ih _ _ _ ?_ ⟨g,p+1,zz,s2,rfl, ?_⟩
                  · omega
                  · simp (disch:=omega)only[go_sem, *]
                    ((repeat' refine And.intro ?_ ?_)<;>first | omega | assumption)
          · cases n with
            | succ g=>omega
            | zero=>
              rw [betP] at hw
              rw [hw] at hz
              clear ih hw
              simp (disch:=omega)only[go_sem, *]
              refine ihA _ _ _ ?_ ⟨f,i+1,s2,rfl, ?_⟩
              · omega
              · simp (disch:=omega)only[go_sem, *]
                ((repeat' refine And.intro ?_ ?_)<;>first | omega | assumption)
        · simp (disch:=omega)only[go_sem, *]
          ((repeat' refine And.intro ?_ ?_)<;>first | omega | assumption | (rfl))
    · cases n with
      | succ f=>omega
      | zero=>
        rw [betA] at hz
        simp (disch:=omega)only[go_sem, *]
  · simp (disch:=omega)only[go_sem, *]
    ((repeat' refine And.intro ?_ ?_)<;>first | omega | assumption | (rfl))
end Go.Ab.T
namespace Go.Ab.T
open Go Go.Ab
set_option maxHeartbeats 4000000
def leafN (r:Run):Node:=if r.part = -1 then ⟨2,0,r.n⟩ else ⟨1,r.part,r.n⟩
def leavesX (L:List Run):List (List Node):=L.map fun r=>[leafN r]
theorem leaf_ev {r:Run}:Pf tp i_Q76 [.agg r.enc] (.agg (leafN r).enc):=by
  refine Pf_go fn_Q76 (by simp [t_Q76]) fun rp=>?_;unfold t_Q76;simp (disch:=omega)only[go_sem, *]
  refine Wb_dec (fun hc=>?_) (fun hc=>?_)
  · have e:leafN r=⟨2,0,r.n⟩:=if_pos hc
    simp (disch:=omega)only[go_sem, *]
  · have e:leafN r=⟨1,r.part,r.n⟩:=if_neg hc
    simp (disch:=omega)only[go_sem, *]
structure NestH (b sz:Nat) (h:AH) (v:V) (W:List (List V)) (R:List (List (List V))):Prop where
  out:Sl b h 1 v W
  len:R.length=W.length
  row:∀ i,i<W.length→∃ id,nth W i=[V.sl id 0 (nth R i).length (nth R i).length]∧h.get id=some ⟨sz,nth R i⟩∧b≤id∧id<h.next∧id≠idV v
theorem NestH.ext {b sz:Nat} {h h':AH} {v:V} {W:List (List V)} {R:List (List (List V))} (m:NestH b sz h v W R) (x:Ext h h'):NestH b sz h' v W R:=
  ⟨m.out.ext x,m.len,fun i hi=>by
    obtain ⟨id,a1,a2,a3,a4,a5⟩:=m.row i hi
    exact ⟨id,a1,(x.get _ a4).trans a2,a3,by have:=x.next;omega,a5⟩⟩
theorem NestH.push {b sz id : Nat} {h h1 h4 : AH} {v w : V} {W : List (List V)} {R : List (List (List V))} {r : List (List V)} (m : NestH b sz h v W R) (hb : b ≤ h.next) (x : Ext h h1) (hid : h.next ≤ id) (hlt : id < h1.next) (hg : h1.get id = some ⟨sz, r⟩)
    (s4:Sl b h4 1 w (W++[[.sl id 0 r.length r.length]])) (g4:Grown b h1 v w h4):NestH b sz h4 w (W++[[.sl id 0 r.length r.length]]) (R++[r]):=by
  have hl:=m.len
  have hn:=g4.next
  have hvlow:=sl_low m.out
  have hw:nilV w=false:=by
    rcases s4 with ⟨_,h2⟩ | ⟨id,el,cap,cs,rfl,_⟩
    · simp at h2
    · rfl
  have hwid:∀ j,j<h1.next→(nilV v=true∨j≠idV v)→j≠idV w:=fun j hj hv=>by
    rcases g4.own with h2 | ⟨h2,h3⟩ | h2
    · rw [hw] at h2;cases h2
    · rw [h2] at hv;rw [h3];exact hv.resolve_left (by simp)
    · omega
  refine ⟨s4,by simp [hl],fun i hi=>?_⟩
  simp only [List.length_append,List.length_cons,List.length_nil] at hi
  by_cases e:i<W.length
  · obtain ⟨d,a1,a2,a3,a4,a5⟩:=m.row i e
    have:=x.next
    rw [nth_app_l e,nth_app_l (by omega)]
    exact ⟨d,a1,by rw [g4.get _ (by omega) (.inr a5),x.get _ a4];exact a2,a3,by omega,hwid _ (by omega) (.inr a5)⟩
  · obtain rfl:i=W.length:=by omega
    rw [nth_app_r,←hl,nth_app_r]
    have hv:nilV v=true∨id≠idV v:=hvlow.imp (fun h=>h) (fun h=>by omega)
    exact ⟨id,rfl,by rw [g4.get _ hlt hv];exact hg,by omega,by omega,hwid _ hlt hv⟩
theorem frz_rows {b k:Nat} {h:AH} {v:V} {W R:List (List V)} {P:Nat→Prop} (s:Sl b h 1 v W) (key:Frzr P h 0 W R) (hP:∀ i,b≤i→P i) (hL:W.length<4000000000):Frz P h k v (.fl 1 R):=by
  rcases s with ⟨hv,hR⟩ | ⟨id,el,cap,cs,rfl,a,c,d,e,f,g1,g2⟩
  · subst hR
    have:R=[]:=List.length_eq_zero_iff.1 (by have:=key.len;simpa using this.symm)
    rw [this]
    rcases hv with rfl | rfl
    · exact .ns _ _
    · exact .e0 _ _
  · refine .sl _ id el _ cap 1 cs _ (hP _ g1) a (by omega) e (by simpa [frzLen] using hL) ?_
    rw [d];exact key
theorem NestH.frz {b sz k:Nat} {h:AH} {v:V} {W:List (List V)} {R:List (List (List V))} {P:Nat→Prop} (m:NestH b sz h v W R) (hP:∀ i,b≤i→P i) (hL:W.length<4000000000) (hr:∀ r∈R,r.length<4000000000∧Frzr P h 0 r r):Frz P h k v (.fl 1 (R.map fun r=>[.fl sz r])):=by
  have hl:=m.len
  have key:Frzr P h 0 W (R.map fun r=>[V.fl sz r]):=frzr_of (by simp;omega) (fun i hi=>by
    obtain ⟨id,a1,a2,a3,a4,a5⟩:=m.row i hi
    have hq:=hr (nth R i) (nth_mem (by omega))
    rw [a1,nth_map (by omega)]
    exact .cons _ _ _ _ _ (.sl _ _ _ _ _ _ _ _ (hP _ a3) a2 (by simp) (Nat.le_refl _) (by simpa [frzLen] using hq.1) (by rw [List.drop_zero,List.take_length];exact hq.2)) (.nil _))
  exact frz_rows m.out key (hP) hL
theorem leaves_ev {L:List Run}:Pf tp i_Q45 [.fl 2 (L.map Run.enc)] (.fl 1 ((leavesX L).map Tab.enc)):=by
  refine Pf_go fn_Q45 (by simp [t_Q45]) fun rp=>?_;unfold t_Q45;simp (disch:=omega)only[go_sem, *]
  have hL:=rp.head.len
  refine ZC_loop_n (fun n e h=>∃ (i:Nat) (out:V) (W:List (List V)),n=L.length - i∧h.lim=0∧e 6=.fl 2 (L.map Run.enc)∧e 7=.i .i64 L.length∧e 8=.i .i64 i∧e 3=out∧i≤L.length∧W.length=i∧NestH 0 3 h out W ((leavesX (L.take i)).map fun x=>x.map Node.enc)) ?_ _ _ _ ⟨0,.ns,[],rfl, ?_⟩
  · rintro n e h ⟨i,out,W,rfl,hl,e6,e7,e8,e3,hi,hW,mh⟩ ih
    rw [ZC_unf Q45_7.eq_1]
    simp (disch:=omega)only[go_sem, *]
    refine Wb_dec (fun hc=>?_) (fun hc=>?_)
    · have hlf:=leaf_ev (r:=nth L i)
      simp only [Run.enc,Node.enc] at hlf
      simp (disch:=omega)only[go_sem, *]
      refine Pf.go (hlf) (by simp only [go_sem]) fun _=>?_;simp (disch:=omega)only[go_sem, *]
      have x1:Ext h ((((h.alloc ⟨2,[[.i .i64 0,.i .i64 0]]⟩).put h.next ⟨2,[[.i .i64 (nth L i).part,.i .i64 (nth L i).n]]⟩).alloc ⟨3,[[.i .i64 (leafN (nth L i)).kind,.i .i64 (leafN (nth L i)).part,.i .i64 (leafN (nth L i)).n]]⟩).alloc ⟨1,[[.sl (h.next+1) 0 1 1]]⟩):=by (repeat (first | exact Ext.refl _ | refine Ext.alloc ?_ _ | (refine Ext.put ?_ _ _ ?_;rotate_left;(first | omega | (simp only [next_alloc,next_put];omega)))))
      refine app_rule (mh.out.ext x1) (by simp (disch:=omega)only[go_sem, *]) (Nat.zero_le _) (by simp;omega) ?_
      intro w h4 s4 g4
      have hl4:=g4.lim
      have m4:=mh.push (id:=h.next+1) (r:=[[.i .i64 (leafN (nth L i)).kind,.i .i64 (leafN (nth L i)).part,.i .i64 (leafN (nth L i)).n]]) (Nat.zero_le _) x1 (by omega) (by simp [next_alloc,next_put]) (by simp [get_alloc,get_put,next_alloc,next_put,gsel]) s4 g4
      have e:(leavesX (L.take (i+1))).map (fun x=>x.map Node.enc)=(leavesX (L.take i)).map (fun x=>x.map Node.enc)++[[[.i .i64 (leafN (nth L i)).kind,.i .i64 (leafN (nth L i)).part,.i .i64 (leafN (nth L i)).n]]]:=by
        rw [take_snoc (by omega)];simp [leavesX,Node.enc]
      rw [← e] at m4
      clear mh s4 g4 x1 e
      simp (disch:=omega)only[go_sem, *]
      refine ih _ _ _ ?_ ⟨i+1,w,W++[[.sl (h.next+1) 0 1 1]],rfl, ?_⟩
      · omega
      · simp (disch:=omega)only[go_sem, *]
        ((repeat' refine And.intro ?_ ?_)<;>first | omega | assumption | ((simp;omega)) | (exact m4))
    · obtain rfl:i=L.length:=by omega
      rw [List.take_length] at mh
      have fr:=mh.frz (P:=fun _=>True) (k:=0) (fun _ _=>trivial) (by omega) (fun r hr=>by
        obtain ⟨x,hx,rfl⟩:=List.mem_map.1 hr
        obtain ⟨q,_,rfl⟩:=List.mem_map.1 hx
        exact ⟨by simp,Frzr.of_map (fun _=>rfl) _⟩)
      have e:(leavesX L).map Tab.enc=((leavesX L).map fun x=>x.map Node.enc).map fun r=>[V.fl 3 r]:=by rw [List.map_map];rfl
      rw [← e] at fr
      clear e
      simp (disch:=omega)only[go_sem, *]
  · simp (disch:=omega)only[go_sem, *]
    exact ⟨Sl.nil _ _ _,rfl,fun i hi=>by simp at hi⟩
end Go.Ab.T
namespace Go.Ab.T
open Go Go.Ab
set_option maxHeartbeats 4000000
theorem idxTab {L:List (List Node)} {g:Nat} {caps:List V} {P:List Node→Bool} {h0:AH} {K:V→AH→Prop} (hp:∀ x,x∈L→∀ K:V→AH→Prop,K (.b (P x)) h0→Cq tp g (.fl 3 (x.map Node.enc)::caps) h0 K) (k:K (.i .i64 (idxGo P L 0)) h0):Cq tp i_Q78 [.fl 1 (L.map Tab.enc),.f (.func g) [] caps] h0 K:=by
  refine Cq_raw_go fn_Q78 (by simp [t_Q78]) fun wf rp=>?_;unfold t_Q78;simp (disch:=omega)only[go_sem, *]
  have hL:=rp.head.len
  refine ZC_loop_n (fun n e h=>∃ (i:Nat),n=L.length - i∧h.lim=h0.lim∧e 6=.fl 1 (L.map Tab.enc)∧e 7=.i .i64 L.length∧e 8=.i .i64 i∧e 0=.fl 1 (L.map Tab.enc)∧e 1=.f (.func g) [] caps∧i≤L.length∧h=h0∧idxGo P (L.drop i) i=idxGo P L 0) ?_ _ _ _ ⟨0,rfl, ?_⟩
  · rintro n e h ⟨i,rfl,hl,e6,e7,e8,e0,e1,hi,rfl,hz⟩ ih
    rw [ZC_unf Q78_7.eq_1]
    simp (disch:=omega)only[go_sem, *]
    refine Wb_dec (fun hc=>?_) (fun hc=>?_)
    · rw [drop_nth (by omega),idxGo] at hz
      simp (disch:=omega)only[go_sem, *]
      refine hp (nth L i) (nth_mem (by omega)) _ ?_
      simp (disch:=omega)only[go_sem, *]
      refine Wb_of (fun hc2=>?_) (fun hc2=>?_)
      · rw [if_pos hc2] at hz
        simp (disch:=omega)only[go_sem, *]
      · rw [if_neg (by simp [hc2])] at hz
        simp (disch:=omega)only[go_sem, *]
        refine ih _ _ _ ?_ ⟨i+1,rfl, ?_⟩
        · omega
        · simp (disch:=omega)only[go_sem, *]
          ((repeat' refine And.intro ?_ ?_)<;>first | omega | assumption | (skip))
    · rw [List.drop_eq_nil_of_le (by omega),idxGo] at hz
      simp (disch:=omega)only[go_sem, *]
  · simp (disch:=omega)only[go_sem, *]
theorem same1_ev {x y:List Node} {h:AH} {a:Nat} {K:V→AH→Prop} (ha:h.get a=some ⟨1,[[.fl 3 (x.map Node.enc)]]⟩) (hal:a<h.next) (k:K (.b (decide (x=y))) h):Cq tp i_Q79 [.fl 3 (y.map Node.enc),.p a 0 0] h K:=by
  refine Cq_same fn_Q79 (by simp [t_Q79]) (k) fun hlm rp=>?_;unfold t_Q79;simp (disch:=omega)only[go_sem, *]
  refine Pf.go (equalNode_ev) (by simp only [go_sem]) fun _=>?_;simp (disch:=omega)only[go_sem, *]
  (repeat (first | exact Ext.refl _ | refine Ext.alloc ?_ _ | (refine Ext.put ?_ _ _ ?_;rotate_left;(first | omega | (simp only [next_alloc,next_put];omega)))))
def idsR (X:List (List Node)) (k:Nat):List Int:=(X.take k).map fun x=>idxGo (fun y=>decide (x=y)) X 0
def szsR (X:List (List Node)) (k:Nat):List Int:=(X.take k).map fun x=>(x.length:Int)
theorem same_ev {X:List (List Node)} (hX:X.length≤4096):Pf tp i_Q47 [.fl 1 (X.map Tab.enc)] (.tup [.fl 1 ((idsR X X.length).map encI),.fl 1 ((szsR X X.length).map encI)]):=by
  refine Pf_go fn_Q47 (by simp [t_Q47]) fun rp=>?_;unfold t_Q47;simp (disch:=omega)only[go_sem, *]
  refine ZC_loop_n (fun n e h=>∃ (i:Nat) (v1:V) (v2:V),n=X.length - i∧h.lim=0∧e 8=.fl 1 (X.map Tab.enc)∧e 9=.i .i64 X.length∧e 10=.i .i64 i∧e 0=.fl 1 (X.map Tab.enc)∧e 4=v1∧e 5=v2∧i≤X.length∧Owns 0 h.next h [(1,v1,(idsR X i).map encI),(1,v2,(szsR X i).map encI)]) ?_ _ _ _ ⟨0,.ns,.ns,rfl, ?_⟩
  · rintro n e h ⟨i,v1,v2,rfl,hl,e8,e9,e10,e0,e4,e5,hi,ow⟩ ih
    rw [ZC_unf Q47_8.eq_1]
    simp (disch:=omega)only[go_sem, *]
    have so:=ow.sl 0 _ rfl
    have sp:=ow.sl 1 _ rfl
    simp only at so sp
    refine Wb_dec (fun hc=>?_) (fun hc=>?_)
    · have hlo:=sl_low so
      have hll:(idsR X i).length=i∧(szsR X i).length=i:=by simp [idsR,szsR];omega
      have h1:(idsR X (i+1)).map encI=(idsR X i).map encI++[[.i .i64 (idxGo (fun y=>decide (nth X i=y)) X 0)]]:=by unfold idsR;rw [take_snoc (by omega)];simp [encI]
      have h2:(szsR X (i+1)).map encI=(szsR X i).map encI++[[.i .i64 (nth X i).length]]:=by unfold szsR;rw [take_snoc (by omega)];simp [encI]
      simp (disch:=omega)only[go_sem, *]
      have x1:Ext h ((h.alloc ⟨1,[[.ns]]⟩).put h.next ⟨1,[[.fl 3 ((nth X i).map Node.enc)]]⟩):=by (repeat (first | exact Ext.refl _ | refine Ext.alloc ?_ _ | (refine Ext.put ?_ _ _ ?_;rotate_left;(first | omega | (simp only [next_alloc,next_put];omega)))))
      refine idxTab (P:=fun y=>decide (nth X i=y)) (fun y hy K k=>same1_ev (x:=nth X i) (by simp (disch:=omega)only[go_sem, *]) (by simp (disch:=omega)only[go_sem, *];omega) k) ?_
      have x2:=x1.alloc ⟨1,[[.i .i64 (idxGo (fun y=>decide (nth X i=y)) X 0)]]⟩
      simp (disch:=omega)only[go_sem, *]
      refine app_rule (so.ext x2) (by simp (disch:=omega)only[go_sem, *]) (Nat.zero_le _) (by simp;omega) ?_
      intro w1 h4 s4 g4
      have ow4:=ow.grow (i:=0) rfl x2 g4 s4
      rw [← h1] at ow4
      have q4:h4.get h.next=some ⟨1,[[.fl 3 ((nth X i).map Node.enc)]]⟩:=by
        rw [g4.get h.next (by simp [next_alloc,next_put];omega) (hlo.imp (fun x=>x) (fun x=>by omega)),get_alloc,gsel_ne (by simp [next_alloc,next_put]),get_put,gsel_eq rfl]
      have l4:=g4.lim
      have n4:=g4.next
      clear s4 g4 x2 x1 ow so
      simp (disch:=omega)only[go_sem, *]
      have sp4:=ow4.sl 1 _ rfl
      have x5:=(Ext.refl h4).alloc ⟨1,[[.i .i64 (nth X i).length]]⟩
      refine app_rule (sp4.ext x5) (by simp (disch:=omega)only[go_sem, *]) (Nat.zero_le _) (by simp;omega) ?_
      intro w2 h5 s5 g5
      have ow5:=ow4.grow (i:=1) rfl x5 g5 s5
      simp only at ow5
      rw [← h2] at ow5
      have l5:=g5.lim
      clear s5 g5 x5 sp sp4 ow4 h1 h2
      simp (disch:=omega)only[go_sem, *]
      refine ih _ _ _ ?_ ⟨i+1,w1,w2,rfl, ?_⟩
      · omega
      · simp (disch:=omega)only[go_sem, *]
        ((repeat' refine And.intro ?_ ?_)<;>first | omega | assumption | (exact ow5))
    · obtain rfl:i=X.length:=by omega
      have h1:=so.froze (P:=fun _=>True) (n:=0) (fun _=>rfl) trivial (by simp [idsR];omega)
      have h2:=sp.froze (P:=fun _=>True) (n:=0) (fun _=>rfl) trivial (by simp [szsR];omega)
      simp (disch:=omega)only[go_sem, *]
  · simp (disch:=omega)only[go_sem, *]
    refine Owns.nil (h:=AH.emp) (Nat.zero_le _) ?_
    intro a ha
    rcases List.mem_cons.1 ha with rfl | ha
    · exact ⟨rfl,rfl⟩
    rcases List.mem_cons.1 ha with rfl | ha
    · exact ⟨rfl,rfl⟩
    cases ha
end Go.Ab.T
namespace Go.Ab.T
open Go Go.Ab
set_option maxHeartbeats 4000000
section
variable {tp:TP} {e:Env} {h:AH} {K:V→AH→Prop}
def capV:V→Option V | .ns=>some (.i .i64 0) | .e0=>some (.i .i64 0) | _=>none
theorem capV_ns:capV .ns=some (.i .i64 0):=nrfl rfl
theorem capV_e0:capV .e0=some (.i .i64 0):=nrfl rfl
theorem slc2_ns0 {g:Option Blk} {sz:Nat} {k:IntKind}:slc2 g sz .ns none (some (.i k 0)) none=some .ns:=nrfl rfl
theorem slc2_z {sz id el n:Nat} {cs:List (List V)} {k:IntKind}:slc2 (some ⟨sz,cs⟩) sz (.sl id el n n) none (some (.i k 0)) none=some (.sl id el 0 n):=by simp [slc2,bndOf]
theorem Z1_cap {x:X}:Z1 tp (.cap x) e h K=Wo (capV (x.e2 e)) (fun v=>K v h):=by
  unfold Z1;simp only [z1,do2,doOp,capV]
  cases x.e2 e<;>simp only [Wo_some,Wo_none]
theorem ZQ1_cap {x:X}:ZQ1 tp (.cap x) e h K=Z1 tp (.cap x) e h K:=ZQ1_pure rfl
end
attribute [go_sem ↓] Z1_cap ZQ1_cap
attribute [go_sem] capV_ns capV_e0 slc2_ns0 slc2_z Int.sub_zero
end Go.Ab.T
namespace Go.Ab.T
open Go Go.Ab
set_option maxHeartbeats 4000000
@[go_sem] def Its.enc (x:List (List Node)):List V:=[.fl 1 (x.map Tab.enc)]
theorem growN_ev {h : AH} {n : Int} {K : V → AH → Prop} (h0 : 0 ≤ n) (h1 : n < 1000000)
    (kk:n=0→K .ns h) (k2:0<n→K (.sl h.next 0 0 n.toNat) (h.alloc ⟨3,List.replicate n.toNat [.i .i64 0,.i .i64 0,.i .i64 0]⟩)):Cq tp i_Q81 [.ns,.i .i64 n] h K:=by
  refine Cq_raw_go fn_Q81 (by simp [t_Q81]) fun wf rp=>?_;unfold t_Q81;simp (disch:=omega)only[go_sem, *]
  refine Wb_dec (fun hc=>?_) (fun hc=>?_)
  · exact absurd hc (by omega)
  simp (disch:=omega)only[go_sem, *]
  refine Wb_dec (fun hc=>?_) (fun hc=>?_)
  · have f:=k2 (by omega)
    have h2:n<4294967296:=by omega
    clear kk k2
    simp (disch:=omega)only[go_sem, *]
  · have f:=kk (by omega)
    clear kk k2
    simp (disch:=omega)only[go_sem, *]
theorem concN_ev {X:List (List Node)} (hX:X.length<1000000) (hR:X.flatten.length<1000000):Pf tp i_Q49 [.fl 1 (X.map Tab.enc)] (.fl 3 (X.flatten.map Node.enc)):=by
  refine Pf_go fn_Q49 (by simp [t_Q49]) fun rp=>?_;unfold t_Q49;simp (disch:=omega)only[go_sem, *]
  have tk:∀ i,i<X.length→(X.take (i+1)).flatten=(X.take i).flatten++nth X i:=fun i hi=>by rw [take_snoc hi];simp
  have tl:∀ i,(X.take i).flatten.length≤X.flatten.length:=fun i=>by
    conv=>rhs;rw [← List.take_append_drop i X]
    rw [List.flatten_append,List.length_append];omega
  refine ZC_loop_n (fun n e h=>∃ (i:Nat),n=X.length - i∧h.lim=0∧e 9=.fl 1 (X.map Tab.enc)∧e 10=.i .i64 X.length∧e 11=.i .i64 i∧e 0=.fl 1 (X.map Tab.enc)∧e 3=.i .i64 (X.take i).flatten.length∧i≤X.length∧h=AH.emp) ?_ _ _ _ ⟨0,rfl, ?_⟩
  · rintro n e h ⟨i,rfl,hl,e9,e10,e11,e0,e3,hi,he⟩ ih
    rw [ZC_unf Q49_9.eq_1]
    simp (disch:=omega)only[go_sem, *]
    refine Wb_dec (fun hc=>?_) (fun hc=>?_)
    · have h1:=tk i (by omega)
      have h2:=tl (i+1)
      have h3:(X.take (i+1)).flatten.length=(X.take i).flatten.length+(nth X i).length:=by rw [h1,List.length_append]
      clear tk tl h1
      simp (disch:=omega)only[go_sem, *]
      refine Wb_dec (fun hc2=>?_) (fun hc2=>?_)
      · exact absurd hc2 (by omega)
      · simp (disch:=omega)only[go_sem, *]
        refine ih _ _ _ ?_ ⟨i+1,rfl, ?_⟩
        · omega
        · simp (disch:=omega)only[go_sem, *]
          ((repeat' refine And.intro ?_ ?_)<;>first | omega | assumption)
    · have hi2:i=X.length:=by omega
      subst hi2
      rw [List.take_length] at e3
      clear ih
      subst he
      simp (disch:=omega)only[go_sem, *]
      have fin:∀ (g0:V) (h1:AH) (e1:Env),h1.lim=0→Sl 0 h1 3 g0 []→e1 6=g0→e1 25=.fl 1 (X.map Tab.enc)→e1 26=.i .i64 X.length→e1 27=.i .i64 0→ZC tp (.loop Q49_16) e1 h1 (fun x e h=>nxt (blk 2 x) (ZC tp (.seq (.reg Q49_17) .ret) e h fun x e h=>Zend [.t 2] x e h fun r h'=>Frz (fun _=>True) h' 0 r (.fl 3 (X.flatten.map Node.enc))) (Zend [.t 2] (blk 2 x) e h fun r h'=>Frz (fun _=>True) h' 0 r (.fl 3 (X.flatten.map Node.enc)))):=by
        intro g0 h1 e1 hl1 s0 f6 f25 f26 f27
        refine ZC_loop_n (fun n e h=>∃ (i:Nat) (v:V),n=X.length - i∧h.lim=0∧e 25=.fl 1 (X.map Tab.enc)∧e 26=.i .i64 X.length∧e 27=.i .i64 i∧e 6=v∧i≤X.length∧Sl 0 h 3 v ((X.take i).flatten.map Node.enc)) ?_ _ _ _ ⟨0,g0,rfl, ?_⟩
        · rintro n e h ⟨i,v,rfl,hl,e25,e26,e27,e6,hi,so⟩ ih
          rw [ZC_unf Q49_16.eq_1]
          simp (disch:=omega)only[go_sem, *]
          refine Wb_dec (fun hc=>?_) (fun hc=>?_)
          · have h1:=tk i (by omega)
            have h2:=tl (i+1)
            rw [h1,List.length_append] at h2
            have h4:((X.take (i+1)).flatten.map Node.enc)=((X.take i).flatten.map Node.enc)++(nth X i).map Node.enc:=by rw [h1,List.map_append]
            clear tk tl h1
            simp (disch:=omega)only[go_sem, *]
            refine app_rule so (by simp (disch:=omega)only[go_sem, *]) (Nat.zero_le _) (by simp only [List.length_map];omega) ?_
            intro w h5 s5 g5
            have l5:=g5.lim
            rw [← h4] at s5
            clear h4 so g5
            simp (disch:=omega)only[go_sem, *]
            refine ih _ _ _ ?_ ⟨i+1,w,rfl, ?_⟩
            · omega
            · simp (disch:=omega)only[go_sem, *]
              ((repeat' refine And.intro ?_ ?_)<;>first | omega | assumption | (exact s5))
          · have hi3:i=X.length:=by omega
            rw [hi3,List.take_length] at so
            simp (disch:=omega)only[go_sem, *]
            exact so.froze (fun _=>rfl) trivial (by omega)
        · simp (disch:=omega)only[go_sem, *]
          exact s0
      clear tk tl e3 e9 e10 e11
      refine growN_ev (by omega) (by omega) (fun hz=>?_) (fun hp=>?_)
      · simp (disch:=omega)only[go_sem, *]
        refine fin .ns _ _ ?_ ?_ ?_ ?_ ?_ ?_
        · rfl
        · exact Sl.nil _ _ _
        all_goals (simp (disch:=omega)only[go_sem, *];done)
      · simp (disch:=omega)only[go_sem, *]
        refine fin (.sl 0 0 0 X.flatten.length) _ _ ?_ ?_ ?_ ?_ ?_ ?_
        · rfl
        · exact .inr ⟨_,_,_,_,rfl,(rfl:(AH.emp.alloc ⟨3,List.replicate X.flatten.length [.i .i64 0,.i .i64 0,.i .i64 0]⟩).get 0=_),by simp,by simp,by simp,by simp [next_alloc],Nat.le_refl _,by simp⟩
        all_goals (simp (disch:=omega)only[go_sem, *];done)
  · simp (disch:=omega)only[go_sem, *]
    rfl
theorem growI_ev {h : AH} {n : Int} {K : V → AH → Prop} (h0 : 0 ≤ n) (h1 : n < 1000000)
    (kk:n=0→K .ns h) (k2:0<n→K (.sl h.next 0 0 n.toNat) (h.alloc ⟨1,List.replicate n.toNat [.ns]⟩)):Cq tp i_Q82 [.ns,.i .i64 n] h K:=by
  refine Cq_raw_go fn_Q82 (by simp [t_Q82]) fun wf rp=>?_;unfold t_Q82;simp (disch:=omega)only[go_sem, *]
  refine Wb_dec (fun hc=>?_) (fun hc=>?_)
  · exact absurd hc (by omega)
  simp (disch:=omega)only[go_sem, *]
  refine Wb_dec (fun hc=>?_) (fun hc=>?_)
  · have f:=k2 (by omega)
    have h2:n<4294967296:=by omega
    clear kk k2
    simp (disch:=omega)only[go_sem, *]
  · have f:=kk (by omega)
    clear kk k2
    simp (disch:=omega)only[go_sem, *]
theorem concI_ev {X:List (List (List Node))} (hX:X.length<1000000) (hR:X.flatten.length<1000000):Pf tp i_Q50 [.fl 1 (X.map Its.enc)] (.fl 1 (X.flatten.map Tab.enc)):=by
  refine Pf_go fn_Q50 (by simp [t_Q50]) fun rp=>?_;unfold t_Q50;simp (disch:=omega)only[go_sem, *]
  have tk:∀ i,i<X.length→(X.take (i+1)).flatten=(X.take i).flatten++nth X i:=fun i hi=>by rw [take_snoc hi];simp
  have tl:∀ i,(X.take i).flatten.length≤X.flatten.length:=fun i=>by
    conv=>rhs;rw [← List.take_append_drop i X]
    rw [List.flatten_append,List.length_append];omega
  refine ZC_loop_n (fun n e h=>∃ (i:Nat),n=X.length - i∧h.lim=0∧e 9=.fl 1 (X.map Its.enc)∧e 10=.i .i64 X.length∧e 11=.i .i64 i∧e 0=.fl 1 (X.map Its.enc)∧e 3=.i .i64 (X.take i).flatten.length∧i≤X.length∧h=AH.emp) ?_ _ _ _ ⟨0,rfl, ?_⟩
  · rintro n e h ⟨i,rfl,hl,e9,e10,e11,e0,e3,hi,he⟩ ih
    rw [ZC_unf Q50_9.eq_1]
    simp (disch:=omega)only[go_sem, *]
    refine Wb_dec (fun hc=>?_) (fun hc=>?_)
    · have h1:=tk i (by omega)
      have h2:=tl (i+1)
      have h3:(X.take (i+1)).flatten.length=(X.take i).flatten.length+(nth X i).length:=by rw [h1,List.length_append]
      clear tk tl h1
      simp (disch:=omega)only[go_sem, *]
      refine Wb_dec (fun hc2=>?_) (fun hc2=>?_)
      · exact absurd hc2 (by omega)
      · simp (disch:=omega)only[go_sem, *]
        refine ih _ _ _ ?_ ⟨i+1,rfl, ?_⟩
        · omega
        · simp (disch:=omega)only[go_sem, *]
          ((repeat' refine And.intro ?_ ?_)<;>first | omega | assumption)
    · have hi2:i=X.length:=by omega
      subst hi2
      rw [List.take_length] at e3
      clear ih
      subst he
      simp (disch:=omega)only[go_sem, *]
      have fin:∀ (g0:V) (h1:AH) (e1:Env),h1.lim=0→Sl 0 h1 1 g0 []→e1 6=g0→e1 25=.fl 1 (X.map Its.enc)→e1 26=.i .i64 X.length→e1 27=.i .i64 0→ZC tp (.loop Q50_16) e1 h1 (fun x e h=>nxt (blk 2 x) (ZC tp (.seq (.reg Q50_17) .ret) e h fun x e h=>Zend [.t 2] x e h fun r h'=>Frz (fun _=>True) h' 0 r (.fl 1 (X.flatten.map Tab.enc))) (Zend [.t 2] (blk 2 x) e h fun r h'=>Frz (fun _=>True) h' 0 r (.fl 1 (X.flatten.map Tab.enc)))):=by
        intro g0 h1 e1 hl1 s0 f6 f25 f26 f27
        refine ZC_loop_n (fun n e h=>∃ (i:Nat) (v:V),n=X.length - i∧h.lim=0∧e 25=.fl 1 (X.map Its.enc)∧e 26=.i .i64 X.length∧e 27=.i .i64 i∧e 6=v∧i≤X.length∧Sl 0 h 1 v ((X.take i).flatten.map Tab.enc)) ?_ _ _ _ ⟨0,g0,rfl, ?_⟩
        · rintro n e h ⟨i,v,rfl,hl,e25,e26,e27,e6,hi,so⟩ ih
          rw [ZC_unf Q50_16.eq_1]
          simp (disch:=omega)only[go_sem, *]
          refine Wb_dec (fun hc=>?_) (fun hc=>?_)
          · have h1:=tk i (by omega)
            have h2:=tl (i+1)
            rw [h1,List.length_append] at h2
            have h4:((X.take (i+1)).flatten.map Tab.enc)=((X.take i).flatten.map Tab.enc)++(nth X i).map Tab.enc:=by rw [h1,List.map_append]
            clear tk tl h1
            simp (disch:=omega)only[go_sem, *]
            refine app_rule so (by simp (disch:=omega)only[go_sem, *]) (Nat.zero_le _) (by simp only [List.length_map];omega) ?_
            intro w h5 s5 g5
            have l5:=g5.lim
            rw [← h4] at s5
            clear h4 so g5
            simp (disch:=omega)only[go_sem, *]
            refine ih _ _ _ ?_ ⟨i+1,w,rfl, ?_⟩
            · omega
            · simp (disch:=omega)only[go_sem, *]
              ((repeat' refine And.intro ?_ ?_)<;>first | omega | assumption | (exact s5))
          · have hi3:i=X.length:=by omega
            rw [hi3,List.take_length] at so
            simp (disch:=omega)only[go_sem, *]
            exact so.froze (fun _=>rfl) trivial (by omega)
        · simp (disch:=omega)only[go_sem, *]
          exact s0
      clear tk tl e3 e9 e10 e11
      refine growI_ev (by omega) (by omega) (fun hz=>?_) (fun hp=>?_)
      · simp (disch:=omega)only[go_sem, *]
        refine fin .ns _ _ ?_ ?_ ?_ ?_ ?_ ?_
        · rfl
        · exact Sl.nil _ _ _
        all_goals (simp (disch:=omega)only[go_sem, *];done)
      · simp (disch:=omega)only[go_sem, *]
        refine fin (.sl 0 0 0 X.flatten.length) _ _ ?_ ?_ ?_ ?_ ?_ ?_
        · rfl
        · exact .inr ⟨_,_,_,_,rfl,(rfl:(AH.emp.alloc ⟨1,List.replicate X.flatten.length [.ns]⟩).get 0=_),by simp,by simp,by simp,by simp [next_alloc],Nat.le_refl _,by simp⟩
        all_goals (simp (disch:=omega)only[go_sem, *];done)
  · simp (disch:=omega)only[go_sem, *]
    rfl
end Go.Ab.T
namespace Go.Ab.T
open Go Go.Ab
set_option maxHeartbeats 4000000
/-! Folding, plain. -/
def sumS (sz:Nat→Int) (i:Nat):Nat→Int
  | 0=>0
  | k+1=>sumS sz i k+sz (i+k)
def StOk (len:Nat) (sz:Nat→Int) (tm:Nat→Nat→Nat) (st:St):Prop:=(st=⟨0,0,0,0⟩)∨(1≤st.p∧st.i+2*st.p≤len∧st.n=tm st.i st.p∧1<st.n∧st.s=svs (sumS sz st.i st.p) st.n st.p∧0<st.s)
theorem StOk.pos {len:Nat} {sz:Nat→Int} {tm:Nat→Nat→Nat} {st:St} (h:StOk len sz tm st):0≤st.s:=by
  rcases h with rfl | h
  · exact Int.le_refl _
  · omega
theorem betP_ok {len:Nat} {sz:Nat→Int} {tm:Nat→Nat→Nat} {i:Nat}:∀ (f p:Nat) (z:Int) (st:St),1≤p→i+2*(p+f)≤len+2→z=sumS sz i (p - 1)→StOk len sz tm st→StOk len sz tm (betP sz tm i f p z st)
  | 0,_,_,st,_,_,_,h=>h
  | f+1,p,z,st,hp,hl,hz,h=>by
    rw [betP]
    have e:z+sz (i+p - 1)=sumS sz i p:=by
      obtain ⟨q,rfl⟩:∃ q,p=q+1:=⟨p - 1,by omega⟩
      rw [sumS,hz];rfl
    refine betP_ok f (p+1) _ _ (by omega) (by omega) (by simpa using e) ?_
    split
    · rename_i hc
      have:=h.pos
      exact .inr ⟨hp,by simp only;omega,rfl,hc.1,by simp only [e],by simp only;omega⟩
    · exact h
theorem betA_ok {len:Nat} {sz:Nat→Int} {tm:Nat→Nat→Nat}:∀ (f i:Nat) (st:St),i+f≤len→StOk len sz tm st→StOk len sz tm (betA len sz tm f i st)
  | 0,_,st,_,h=>h
  | f+1,i,st,hl,h=>by
    rw [betA]
    exact betA_ok f (i+1) _ (by omega) (betP_ok _ _ _ _ (Nat.le_refl _) (by omega) rfl h)
theorem betR_ok {len:Nat} {sz:Nat→Int} {tm:Nat→Nat→Nat}:StOk len sz tm (betR len sz tm):=betA_ok _ _ _ (by omega) (.inl rfl)
theorem betP_congr {len:Nat} {sz sz':Nat→Int} {tm tm':Nat→Nat→Nat} {i:Nat} (hs:∀ j,j<len→sz j=sz' j) (ht:∀ i p,1≤p→i+2*p≤len→tm i p=tm' i p):∀ (f p:Nat) (z:Int) (st:St),1≤p→i+2*(p+f)≤len+2→betP sz tm i f p z st=betP sz' tm' i f p z st
  | 0,_,_,st,_,_=>rfl
  | f+1,p,z,st,hp,hl=>by
    rw [betP,betP,hs (i+p - 1) (by omega),ht i p hp (by omega)]
    exact betP_congr hs ht f (p+1) _ _ (by omega) (by omega)
theorem betA_congr {len:Nat} {sz sz':Nat→Int} {tm tm':Nat→Nat→Nat} (hs:∀ j,j<len→sz j=sz' j) (ht:∀ i p,1≤p→i+2*p≤len→tm i p=tm' i p):∀ (f i:Nat) (st:St),i+f≤len→betA len sz tm f i st=betA len sz' tm' f i st
  | 0,_,st,_=>rfl
  | f+1,i,st,hl=>by
    rw [betA,betA,betP_congr hs ht _ _ _ _ (Nat.le_refl _) (by omega)]
    exact betA_congr hs ht f (i+1) _ (by omega)
/-! Ids instead of items. -/
theorem idxGo_bd {α:Type} {P:α→Bool}:∀ (L:List α) (i:Int) (x:α),x∈L→P x=true→∃ k:Nat,idxGo P L i=i+k∧∃ y,L[k]?=some y∧P y=true
  | [],i,x,h,_=>by cases h
  | a::l,i,x,h,hp=>by
    rw [idxGo]
    split
    · rename_i ha;exact ⟨0,by simp,a,rfl,ha⟩
    · rename_i ha
      rcases List.mem_cons.1 h with rfl | h
      · exact absurd hp ha
      · obtain ⟨k,h1,y,h2,h3⟩:=idxGo_bd l (i+1) x h hp
        exact ⟨k+1,by rw [h1];omega,y,h2,h3⟩
theorem idx_inj {X:List (List Node)} {x y:List Node} (hx:x∈X) (hy:y∈X) (h:idxGo (fun z=>decide (x=z)) X 0=idxGo (fun z=>decide (y=z)) X 0):x=y:=by
  obtain ⟨k,h1,a,h2,h3⟩:=idxGo_bd X 0 x (P:=fun z=>decide (x=z)) hx (by simp)
  obtain ⟨m,g1,c,g2,g3⟩:=idxGo_bd X 0 y (P:=fun z=>decide (y=z)) hy (by simp)
  have:k=m:=by omega
  subst this
  rw [h2] at g2;cases g2
  simp at h3 g3
  rw [h3,g3]
theorem map_inj_of {α β:Type} {f:α→β}:∀ {l m:List α},(∀ x∈l,∀ y∈m,f x=f y→x=y)→l.map f=m.map f→l=m
  | [],[],_,_=>rfl
  | [],b::m,_,h=>by simp at h
  | a::l,[],_,h=>by simp at h
  | a::l,b::m,hi,h=>by
    simp only [List.map_cons,List.cons.injEq] at h
    rw [hi a (List.mem_cons_self ..) b (List.mem_cons_self ..) h.1,map_inj_of (fun x hx y hy=>hi x (List.mem_cons_of_mem _ hx) y (List.mem_cons_of_mem _ hy)) h.2]
theorem ag_ids {X:List (List Node)} {i p:Nat}:∀ (f k:Nat),agGo (idsR X X.length) i p f k=agGo X i p f k
  | 0,k=>rfl
  | f+1,k=>by
    rw [agGo,agGo,ag_ids f (k+1)]
    have hl:(idsR X X.length).length=X.length:=by simp [idsR]
    have e:((idsR X X.length).drop i).take p=((idsR X X.length).drop (i+k*p)).take p↔(X.drop i).take p=(X.drop (i+k*p)).take p:=by
      unfold idsR
      rw [List.take_length,←List.map_drop,←List.map_drop,←List.map_take,←List.map_take]
      refine ⟨fun h=>map_inj_of (fun x hx y hy=>idx_inj (List.mem_of_mem_drop (List.mem_of_mem_take hx)) (List.mem_of_mem_drop (List.mem_of_mem_take hy))) h,fun h=>by rw [h]⟩
    rw [hl]
    simp only [e]
theorem ag_idsR {X:List (List Node)} {i p:Nat}:agR (idsR X X.length) i p=agR X i p:=by
  have hl:(idsR X X.length).length=X.length:=by simp [idsR]
  unfold agR;rw [hl];exact ag_ids _ _
def bestX (X:List (List Node)):St:=betR X.length (fun j=>((nth X j).length:Int)) (agR X)
theorem best_ids {X:List (List Node)}:betR (idsR X X.length).length (nth (szsR X X.length)) (agR (idsR X X.length))=bestX X:=by
  have hl:(idsR X X.length).length=X.length:=by simp [idsR]
  unfold bestX betR
  rw [hl]
  refine betA_congr (fun j hj=>?_) (fun i p _ _=>ag_idsR) _ _ _ (by omega)
  unfold szsR
  rw [List.take_length,nth_map hj]
theorem agGo_blk {α : Type} [DecidableEq α] {X : List α} {i p : Nat} : ∀ (f k : Nat), 1 ≤ k → i + k * p ≤ X.length → (∀ m, m < k → (X.drop (i + m * p)).take p = (X.drop i).take p) →
    i+agGo X i p f k*p≤X.length∧∀ m,m<agGo X i p f k→(X.drop (i+m*p)).take p=(X.drop i).take p
  | 0,k,_,h1,h2=>⟨h1,h2⟩
  | f+1,k,hk,h1,h2=>by
    rw [agGo]
    split
    · rename_i hc
      exact agGo_blk f (k+1) (by omega) hc.1 (fun m hm=>by
        rcases Nat.lt_succ_iff_lt_or_eq.1 hm with hm | rfl
        · exact h2 m hm
        · exact hc.2.symm)
    · exact ⟨h1,h2⟩
theorem rep_blk {α:Type} {X:List α} {i p:Nat} {B:List α}:∀ (n:Nat),(∀ m,m<n→(X.drop (i+m*p)).take p=B)→X.drop i=(List.replicate n B).flatten++X.drop (i+n*p)
  | 0,_=>by simp
  | n+1,h=>by
    have h1:=rep_blk n (fun m hm=>h m (by omega))
    have h2:=h n (by omega)
    have h3:X.drop (i+n*p)=B++X.drop (i+(n+1)*p):=by
      have:=(List.take_append_drop p (X.drop (i+n*p))).symm
      rw [h2,List.drop_drop] at this
      rw [this,show i+n*p+p=i+(n+1)*p by rw [Nat.add_mul];omega]
    rw [h1,List.replicate_succ',List.flatten_append,List.append_assoc,List.flatten_singleton,←h3]
def joinX (X:List (List Node)):List Node:=if X.length=1 then X.flatten else ⟨3,0,X.length⟩::X.flatten
def foldAt (X:List (List Node)) (s:St):List (List Node):=X.take s.i++[⟨4,0,s.n⟩::joinX ((X.drop s.i).take s.p)]++X.drop (s.i+s.p*s.n)
structure FoldS (X:List (List Node)) (s:St):Prop where
  p:1≤s.p
  n:1<s.n
  le:s.i+s.p*s.n≤X.length
  eq:X=X.take s.i++(List.replicate s.n ((X.drop s.i).take s.p)).flatten++X.drop (s.i+s.p*s.n)
  bl:((X.drop s.i).take s.p).length=s.p
  sv:s.s=svs ((X.drop s.i).take s.p).flatten.length s.n s.p
  ps:0<s.s
theorem sumS_flat {X:List (List Node)} {i:Nat}:∀ (k:Nat),i+k≤X.length→sumS (fun j=>((nth X j).length:Int)) i k=((X.drop i).take k).flatten.length
  | 0,_=>by simp [sumS]
  | k+1,h=>by
    rw [sumS,sumS_flat k (by omega),take_snoc (by simp;omega),List.flatten_append,List.length_append,nth_drop];simp
theorem best_fold {X:List (List Node)}:(bestX X).n=0∨FoldS X (bestX X):=by
  rcases betR_ok (len:=X.length) (sz:=fun j=>((nth X j).length:Int)) (tm:=agR X) with h | ⟨h1,h2,h3,h4,h5,h6⟩
  · left;unfold bestX;rw [h]
  · right
    change 1≤(bestX X).p at h1
    change (bestX X).i+2*(bestX X).p≤X.length at h2
    change (bestX X).n=agR X (bestX X).i (bestX X).p at h3
    change 1<(bestX X).n at h4
    change (bestX X).s=svs (sumS _ (bestX X).i (bestX X).p) (bestX X).n (bestX X).p at h5
    change 0<(bestX X).s at h6
    obtain ⟨g1,g2⟩:=agGo_blk (X:=X) (i:=(bestX X).i) (p:=(bestX X).p) X.length 1 (Nat.le_refl _) (by omega) (fun m hm=>by
      obtain rfl:m=0:=by omega
      simp)
    have e:agGo X (bestX X).i (bestX X).p X.length 1=(bestX X).n:=h3.symm
    rw [e] at g1 g2
    have h7:=rep_blk _ g2
    rw [Nat.mul_comm] at g1 h7
    refine ⟨h1,h4,g1, ?_, ?_, ?_,h6⟩
    · rw [List.append_assoc,←h7,List.take_append_drop]
    · rw [List.length_take,List.length_drop];omega
    · rw [h5,sumS_flat _ (by omega)]
theorem join_len {X:List (List Node)}:(joinX X).length=X.flatten.length+(if X.length=1 then 0 else 1):=by unfold joinX;split<;>simp
theorem flat_rep_len {n:Nat} {B:List (List Node)}:(List.replicate n B).flatten.flatten.length=n*B.flatten.length:=by
  induction n with
  | zero=>simp
  | succ n ih=>rw [List.replicate_succ,List.flatten_cons,List.flatten_append,List.length_append,ih,Nat.succ_mul,Nat.add_comm]
theorem fold_less {X:List (List Node)} {s:St} (h:FoldS X s):(foldAt X s).length<X.length∧((foldAt X s).flatten.length:Int)=X.flatten.length - s.s:=by
  have hp:=h.p;have hn:=h.n;have hle:=h.le;have hbl:=h.bl;have hsv:=h.sv
  have hpn:2≤s.p*s.n:=by have:=Nat.mul_le_mul hp (show 2≤s.n by omega);omega
  refine ⟨?_, ?_⟩
  · unfold foldAt
    simp only [List.length_append,List.length_take,List.length_cons,List.length_nil,List.length_drop];omega
  · have e:=congrArg (fun l=>l.flatten.length) h.eq
    simp only [List.flatten_append,List.length_append,flat_rep_len] at e
    unfold foldAt
    simp only [List.flatten_append,List.length_append,List.flatten_singleton,List.length_cons,join_len,hbl]
    rw [hsv,svs]
    generalize ((X.drop s.i).take s.p).flatten.length=z at *
    have hm:(z:Int)*((s.n:Int) - 1)=(s.n*z:Nat) - z:=by
      rw [Int.mul_sub,Int.mul_one,Int.mul_comm];simp
    rw [hm]
    have:(s.p=1)↔¬ (1<s.p):=by omega
    by_cases h1:1<s.p
    · rw [if_pos h1,if_neg (by omega)];omega
    · rw [if_neg h1,if_pos (by omega)];omega
def tabGo:Nat→List (List Node)→List Node
  | 0,X=>joinX X
  | f+1,X=>if (bestX X).n=0 then joinX X else tabGo f (foldAt X (bestX X))
def foldR (L:List Run):List Node:=if frameB L=true then tabGo L.length (leavesX L) else []
end Go.Ab.T
namespace Go.Ab.T
open Go Go.Ab
set_option maxHeartbeats 4000000
theorem frz_two {P:Nat→Prop} {h:AH} {k i1 i2:Nat} {n:Node} {L:List Node} (g1:h.get i1=some ⟨3,[n.enc]⟩) (p1:P i1) (g2:h.get i2=some ⟨1,[[.sl i1 0 1 1],[.fl 3 (L.map Node.enc)]]⟩) (p2:P i2):Frz P h k (.sl i2 0 2 2) (.fl 1 ([[n],L].map Tab.enc)):=
  .sl _ _ _ _ _ _ _ _ p2 g2 (by simp) (Nat.le_refl _) (by simp [frzLen])
    (.cons _ _ _ _ _ (.cons _ _ _ _ _ (.sl _ _ _ _ _ _ _ _ p1 g1 (by simp) (Nat.le_refl _) (by simp [frzLen]) (Frzr.of_map (enc:=Node.enc) (fun _=>rfl) [n])) (.nil _)) (.cons _ _ _ _ _ (.cons _ _ _ _ _ (.fl _ _ _) (.nil _)) (.nil _)))
theorem joined_ev {X:List (List Node)} (hX:X.length<100000) (hR:X.flatten.length<100000):Pf tp i_Q48 [.fl 1 (X.map Tab.enc)] (.fl 3 ((joinX X).map Node.enc)):=by
  refine Pf_go fn_Q48 (by simp [t_Q48]) fun rp=>?_;unfold t_Q48;simp (disch:=omega)only[go_sem, *]
  refine Pf.go (concN_ev (by omega) (by omega)) (by simp only [go_sem]) fun _=>?_;simp (disch:=omega)only[go_sem, *]
  refine Wb_dec (fun hc=>?_) (fun hc=>?_)
  · have e:joinX X=X.flatten:=if_pos (by omega)
    simp (disch:=omega)only[go_sem, *]
  · have e:joinX X=[[⟨3,0,(X.length:Int)⟩],X.flatten].flatten:=by unfold joinX;rw [if_neg (by omega)];simp
    have hc2:=concN_ev (X:=[[⟨3,0,(X.length:Int)⟩],X.flatten]) (by simp) (by simp at hR ⊢;omega)
    rw [← e] at hc2
    clear e
    simp (disch:=omega)only[go_sem, *]
    refine Pf.take [0,1] hc2 (.cons _ _ _ _ _ (frz_two (i1:=0) (by rfl) (by simp) (by rfl) (by simp)) (.nil _)) fun _=>?_
    simp (disch:=omega)only[go_sem, *]
end Go.Ab.T
namespace Go.Ab.T
open Go Go.Ab
set_option maxHeartbeats 4000000
theorem next_kills {h:AH} {D:List Nat}:(h.kills D).next=h.next:=nrfl rfl
theorem lim_kills {h:AH} {D:List Nat}:(h.kills D).lim=h.lim:=nrfl rfl
theorem get_kills2 {h:AH} {i a b:Nat} (h1:¬ i=a) (h2:¬ i=b):(h.kills [a,b]).get i=h.get i:=by simp [AH.kills,h1,h2]
attribute [go_sem] next_kills lim_kills get_kills2
theorem frz_three {P:Nat→Prop} {h:AH} {k i1 i2:Nat} {L:List Node} {A B:List (List Node)} (g1:h.get i1=some ⟨1,[[.fl 3 (L.map Node.enc)]]⟩) (p1:P i1) (g2:h.get i2=some ⟨1,[[.fl 1 (A.map Tab.enc)],[.sl i1 0 1 1],[.fl 1 (B.map Tab.enc)]]⟩) (p2:P i2):Frz P h k (.sl i2 0 3 3) (.fl 1 ([A,[L],B].map Its.enc)):=
  .sl _ _ _ _ _ _ _ _ p2 g2 (by simp) (Nat.le_refl _) (by simp [frzLen])
    (.cons _ _ _ _ _ (.cons _ _ _ _ _ (.fl _ _ _) (.nil _)) (.cons _ _ _ _ _ (.cons _ _ _ _ _ (.sl _ _ _ _ _ _ _ _ p1 g1 (by simp) (Nat.le_refl _) (by simp [frzLen]) (Frzr.of_map (enc:=Tab.enc) (fun _=>rfl) [L])) (.nil _)) (.cons _ _ _ _ _ (.cons _ _ _ _ _ (.fl _ _ _) (.nil _)) (.nil _))))
theorem leaves_flat {L:List Run}:(leavesX L).length=L.length∧(leavesX L).flatten.length=L.length:=by
  refine ⟨by simp [leavesX], ?_⟩
  induction L with
  | nil=>rfl
  | cons r l ih=>simp only [leavesX,List.map_cons,List.flatten_cons,List.length_append,List.length_cons,List.length_nil] at *;omega
theorem len_flat {X:List (List Node)} {j:Nat} (h:j<X.length):(nth X j).length≤X.flatten.length:=by
  conv=>rhs;rw [← List.take_append_drop (j+1) X]
  rw [List.flatten_append,List.length_append,take_snoc h,List.flatten_append,List.length_append,List.flatten_singleton];omega
theorem take_flat {X:List (List Node)} {a b:Nat}:((X.drop a).take b).flatten.length≤X.flatten.length:=by
  have h1:X.flatten.length=(X.take a).flatten.length+(X.drop a).flatten.length:=by rw [← List.length_append,←List.flatten_append,List.take_append_drop]
  have h2:(X.drop a).flatten.length=((X.drop a).take b).flatten.length+((X.drop a).drop b).flatten.length:=by rw [← List.length_append,←List.flatten_append,List.take_append_drop]
  omega
theorem best_nil {X:List (List Node)} (h:X.length=0):(bestX X).n=0:=by
  rcases best_fold (X:=X) with h1 | h1
  · exact h1
  · have:=h1.le;have:=h1.p;have:=h1.n
    have:=Nat.mul_le_mul h1.p (show 2≤(bestX X).n by omega);omega
theorem frameB_len {L:List Run} (h:frameB L=true):0<L.length∧L.length≤96:=by
  simp only [frameB,Bool.and_eq_true,decide_eq_true_eq] at h;omega
theorem foldTable_ev {L:List Run}:Pf tp i_Q18 [.fl 2 (L.map Run.enc)] (.fl 3 ((foldR L).map Node.enc)):=by
  refine Pf_go fn_Q18 (by simp [t_Q18]) fun rp=>?_;unfold t_Q18;simp (disch:=omega)only[go_sem, *]
  refine Pf.go (right3_ev) (by simp only [go_sem]) fun _=>?_;simp (disch:=omega)only[go_sem, *]
  refine Wb_of (fun hc=>?_) (fun hc=>?_)
  · have e:foldR L=[]:=by unfold foldR;rw [if_neg];simpa using hc
    simp (disch:=omega)only[go_sem, *]
  · have hfr:frameB L=true:=by simpa using hc
    have hL:=frameB_len hfr
    have eF:foldR L=tabGo L.length (leavesX L):=if_pos hfr
    have hl:=leaves_flat (L:=L)
    clear hc
    simp (disch:=omega)only[go_sem, *]
    refine Pf.go (leaves_ev) (by simp only [go_sem]) fun _=>?_;simp (disch:=omega)only[go_sem, *]
    refine ZC_loop_n (fun n e h=>∃ (f:Nat) (X:List (List Node)),n=f∧h.lim=0∧e 3=.fl 1 (X.map Tab.enc)∧X.length≤f∧X.length≤4096∧X.flatten.length≤4096∧foldR L=tabGo f X) ?_ _ _ _ ⟨L.length,leavesX L,rfl, ?_⟩
    · rintro n e h ⟨f,X,rfl,hl,e3,hf,hx,hx2,hz⟩ ih
      rw [ZC_unf Q18_9.eq_1]
      simp (disch:=omega)only[go_sem, *]
      clear eF
      have hb:=best_ev (I:=idsR X X.length) (S:=szsR X X.length) (by simp [idsR];omega) (by simp [idsR,szsR]) (fun j hj=>by
        have hj2:j<X.length:=by simpa [szsR] using hj
        have:=len_flat hj2
        unfold szsR;rw [List.take_length,nth_map hj2];omega)
      rw [best_ids] at hb
      refine Pf.go (same_ev hx) (by simp only [go_sem]) fun _=>?_;simp (disch:=omega)only[go_sem, *]
      refine Pf.go (hb) (by simp only [go_sem]) fun _=>?_;simp (disch:=omega)only[go_sem, *]
      refine Wb_dec (fun hc=>?_) (fun hc=>?_)
      · have e2:foldR L=joinX X:=by
          rw [hz]
          cases n with
          | zero=>rfl
          | succ f=>rw [tabGo,if_pos (by omega)]
        clear hz ih hb
        simp (disch:=omega)only[go_sem, *]
        refine Pf.go (joined_ev (by omega) (by omega)) (by simp only [go_sem]) fun _=>?_;simp (disch:=omega)only[go_sem, *]
      · rcases best_fold (X:=X) with h0 | fs
        · exact absurd (by omega) hc
        cases n with
        | zero=>exact absurd (by have:=best_nil (X:=X) (by omega);omega) hc
        | succ f=>
          rw [tabGo,if_neg (by omega)] at hz
          have hfl:=fold_less fs
          have h1:=fs.p;have h2:=fs.n;have h3:=fs.le;have h4:=fs.bl;have h5:=fs.ps
          have hl2:=take_flat (X:=X) (a:=(bestX X).i) (b:=(bestX X).p)
          clear hb
          generalize bestX X=s at *
          obtain ⟨i,p,m,sv⟩:=s
          simp only at *
          have hpm:((p:Int)*m)=(p*m:Nat):=by simp
          have e1:((i:Int)+p).toNat=i+p:=by omega
          have e2:((i:Int)+(p*m:Nat)).toNat=i+p*m:=by omega
          have hfa:foldAt X ⟨i,p,m,sv⟩=[X.take i,[⟨4,0,m⟩::joinX ((X.drop i).take p)],X.drop (i+p*m)].flatten:=by simp [foldAt]
          have hjl:=join_len (X:=(X.drop i).take p)
          have hjl2:(joinX ((X.drop i).take p)).length≤((X.drop i).take p).flatten.length+1:=by rw [hjl];split<;>omega
          have hip:i+p≤i+p*m:=by have:=Nat.mul_le_mul (Nat.le_refl p) (show 1≤m by omega);omega
          generalize hPM:p*m=PM at *
          have hj:=joined_ev (X:=(X.drop i).take p) (by omega) (by omega)
          have hsl:List.take (i+p - i) (List.drop i (X.map Tab.enc))=((X.drop i).take p).map Tab.enc:=by rw [Nat.add_sub_cancel_left];simp [List.map_take,List.map_drop]
          have hs1:List.take i (X.map Tab.enc)=(X.take i).map Tab.enc:=by simp [List.map_take]
          have hs2:List.drop (i+PM) (X.map Tab.enc)=(X.drop (i+PM)).map Tab.enc:=by simp [List.map_drop]
          simp (disch:=omega)only[go_sem, *]
          refine Pf.go (hj) (by simp only [go_sem]) fun _=>?_;simp (disch:=omega)only[go_sem, *]
          have hc1:=concN_ev (X:=[[⟨4,0,(m:Int)⟩],joinX ((X.drop i).take p)]) (by simp) (by simp only [List.flatten_cons,List.flatten_nil,List.length_append,List.length_cons,List.length_nil];omega)
          have ec:[[(⟨4,0,(m:Int)⟩:Node)],joinX ((X.drop i).take p)].flatten=⟨4,0,m⟩::joinX ((X.drop i).take p):=by simp
          rw [ec] at hc1
          refine Pf.take [h.next+1,h.next+1+1] hc1 (.cons _ _ _ _ _ (frz_two (i1:=h.next+1) (by simp [get_alloc,get_put,get_raise,next_alloc,next_put,gsel,Node.enc]) (by simp) (by simp [get_alloc,get_put,get_raise,next_alloc,next_put,gsel]) (by simp)) (.nil _)) fun _=>?_
          have hc2:=concI_ev (X:=[X.take i,[⟨4,0,(m:Int)⟩::joinX ((X.drop i).take p)],X.drop (i+PM)]) (by simp) (by rw [← hfa];omega)
          rw [← hfa] at hc2
          clear hj ec hc1 hfa
          have hs3:List.take (X.length - (i+PM)) ((X.drop (i+PM)).map Tab.enc)=(X.drop (i+PM)).map Tab.enc:=List.take_of_length_le (by simp)
          simp (disch:=omega)only[go_sem, *]
          refine Pf.take [h.next+1+1+1,h.next+1+1+1+1] hc2 (.cons _ _ _ _ _ (frz_three (i1:=h.next+1+1+1) (L:=⟨4,0,(m:Int)⟩::joinX ((X.drop i).take p)) (by simp [get_alloc,get_put,get_raise,get_back,next_alloc,next_put,next_raise,next_back,next_kills,gsel,Node.enc]) (by simp) (by simp [get_alloc,get_put,get_raise,get_back,next_alloc,next_put,next_raise,next_back,next_kills,gsel]) (by simp)) (.nil _)) fun _=>?_
          clear hc2 hs1 hs2 hs3 hsl
          simp (disch:=omega)only[go_sem, *]
          refine ih _ _ _ ?_ ⟨f,foldAt X ⟨i,p,m,sv⟩,rfl, ?_⟩
          · omega
          · simp (disch:=omega)only[go_sem, *]
            ((repeat' refine And.intro ?_ ?_)<;>first | omega | assumption)
    · simp (disch:=omega)only[go_sem, *]
      ((repeat' refine And.intro ?_ ?_)<;>first | omega | assumption | (exact eF))
end Go.Ab.T
namespace Go.Ab.T
open Go Go.Ab
set_option maxHeartbeats 4000000
end Go.Ab.T
namespace Go.Ab.T
open Go Go.Ab
set_option maxHeartbeats 4000000
/-! Items as trees: what folding does to them. Plain. -/
theorem Fo.flat_inj:∀ (f g:Fo) (R R':List Node),f.ok→g.ok→f.count=g.count→f.flat++R=g.flat++R'→f=g∧R=R'
  | .nil,.nil,R,R',_,_,_,h=>⟨rfl,by simpa [Fo.flat] using h⟩
  | .nil,.leaf _ _,_,_,_,_,hc,_=>by simp [Fo.count] at hc
  | .nil,.seq _ _ _,_,_,_,_,hc,_=>by simp [Fo.count] at hc
  | .nil,.rep _ _ _,_,_,_,_,hc,_=>by simp [Fo.count] at hc
  | .leaf _ _,.nil,_,_,_,_,hc,_=>by simp [Fo.count] at hc
  | .seq _ _ _,.nil,_,_,_,_,hc,_=>by simp [Fo.count] at hc
  | .rep _ _ _,.nil,_,_,_,_,hc,_=>by simp [Fo.count] at hc
  | .leaf x r,.leaf y s,R,R',hf,hg,hc,h=>by
    simp only [Fo.flat,List.cons_append,List.cons.injEq] at h
    obtain ⟨h1,h2⟩:=Fo.flat_inj r s R R' hf.2 hg.2 (by simpa [Fo.count] using hc) h.2
    exact ⟨by rw [h.1,h1],h2⟩
  | .leaf x r,.seq y k s,R,R',hf,hg,hc,h=>by
    simp only [Fo.flat,List.cons_append,List.cons.injEq] at h
    have:=hf.1;have:=hg.2.1;have:=hg.2.2.1;rw [h.1] at *;omega
  | .leaf x r,.rep y k s,R,R',hf,hg,hc,h=>by
    simp only [Fo.flat,List.cons_append,List.cons.injEq] at h
    have:=hf.1;have:=hg.2.1;rw [h.1] at *;omega
  | .seq y k s,.leaf x r,R,R',hf,hg,hc,h=>by
    simp only [Fo.flat,List.cons_append,List.cons.injEq] at h
    have:=hg.1;have:=hf.2.1;have:=hf.2.2.1;rw [h.1] at *;omega
  | .rep y k s,.leaf x r,R,R',hf,hg,hc,h=>by
    simp only [Fo.flat,List.cons_append,List.cons.injEq] at h
    have:=hg.1;have:=hf.2.1;rw [h.1] at *;omega
  | .seq y k s,.rep x l r,R,R',hf,hg,hc,h=>by
    simp only [Fo.flat,List.cons_append,List.cons.injEq] at h
    have:=hf.1;have:=hg.1;rw [h.1] at *;omega
  | .rep y k s,.seq x l r,R,R',hf,hg,hc,h=>by
    simp only [Fo.flat,List.cons_append,List.cons.injEq] at h
    have:=hf.1;have:=hg.1;rw [h.1] at *;omega
  | .seq y k s,.seq x l r,R,R',hf,hg,hc,h=>by
    simp only [Fo.flat,List.cons_append,List.cons.injEq,List.append_assoc] at h
    obtain ⟨h0,h⟩:=h
    subst h0
    obtain ⟨h1,h2⟩:=Fo.flat_inj k l _ _ hf.2.2.2.1 hg.2.2.2.1 (by have:=hf.2.1;have:=hg.2.1;omega) h
    obtain ⟨h3,h4⟩:=Fo.flat_inj s r _ _ hf.2.2.2.2 hg.2.2.2.2 (by simpa [Fo.count] using hc) h2
    exact ⟨by rw [h1,h3],h4⟩
  | .rep y k s,.rep x l r,R,R',hf,hg,hc,h=>by
    simp only [Fo.flat,List.cons_append,List.cons.injEq,List.append_assoc] at h
    obtain ⟨h0,h⟩:=h
    subst h0
    obtain ⟨h1,h2⟩:=Fo.flat_inj k l _ _ hf.2.2.2.1 hg.2.2.2.1 (by have:=hf.2.2.1;have:=hg.2.2.1;omega) h
    obtain ⟨h3,h4⟩:=Fo.flat_inj s r _ _ hf.2.2.2.2 hg.2.2.2.2 (by simpa [Fo.count] using hc) h2
    exact ⟨by rw [h1,h3],h4⟩
theorem foOf_flat {f:Fo} (ho:f.ok) (hc:f.count=1) (hd:f.depth≤16) (hl:f.len≤4096) (hn:f.flat.length≤128):foOf f.flat=f:=by
  obtain ⟨_,h1,h2,h3,_⟩:=foOf_ok (right_flat ho hc hd hl hn)
  have:=Fo.flat_inj f (foOf f.flat) [] [] ho h1 (by rw [hc,h2]) (by rw [List.append_nil,List.append_nil];exact h3)
  exact this.1.symm
structure SnocOk (f g:Fo):Prop where
  flat:(Fo.snoc f g).flat=f.flat++g.flat
  count:(Fo.snoc f g).count=f.count+g.count
  ok:f.ok→g.ok→(Fo.snoc f g).ok
  runs:(Fo.snoc f g).runs=f.runs++g.runs
  depth:(Fo.snoc f g).depth=max f.depth g.depth
theorem snoc_ok:∀ (f g:Fo),SnocOk f g
  | .nil,g=>⟨by simp [Fo.snoc,Fo.flat],by simp [Fo.snoc,Fo.count],fun _ h=>h,by simp [Fo.snoc,Fo.runs],by simp [Fo.snoc,Fo.depth]⟩
  | .leaf x r,g=>by
    obtain ⟨a,b,c,d,e⟩:=snoc_ok r g
    exact ⟨by simp [Fo.snoc,Fo.flat,a],by simp only [Fo.snoc,Fo.count,b];omega,fun h1 h2=>⟨h1.1,c h1.2 h2⟩,by simp [Fo.snoc,Fo.runs,d],by simp only [Fo.snoc,Fo.depth,e];omega⟩
  | .seq x k r,g=>by
    obtain ⟨a,b,c,d,e⟩:=snoc_ok r g
    exact ⟨by simp [Fo.snoc,Fo.flat,a],by simp only [Fo.snoc,Fo.count,b];omega,fun h1 h2=>⟨h1.1,h1.2.1,h1.2.2.1,h1.2.2.2.1,c h1.2.2.2.2 h2⟩,by simp [Fo.snoc,Fo.runs,d],by simp only [Fo.snoc,Fo.depth,e];omega⟩
  | .rep x k r,g=>by
    obtain ⟨a,b,c,d,e⟩:=snoc_ok r g
    exact ⟨by simp [Fo.snoc,Fo.flat,a],by simp only [Fo.snoc,Fo.count,b];omega,fun h1 h2=>⟨h1.1,h1.2.1,h1.2.2.1,h1.2.2.2.1,c h1.2.2.2.2 h2⟩,by simp [Fo.snoc,Fo.runs,d],by simp only [Fo.snoc,Fo.depth,e];omega⟩
def catF:List Fo→Fo
  | []=>.nil
  | f::l=>Fo.snoc f (catF l)
def ItF (f:Fo):Prop:=f.ok∧f.count=1∧∃ k,f.depth≤1+2*k∧2 ^ k≤f.runs.length
theorem cat_ok:∀ (F:List Fo),(∀ f∈F,ItF f)→(catF F).ok∧(catF F).count=F.length∧(catF F).flat=(F.map Fo.flat).flatten∧(catF F).runs=(F.map Fo.runs).flatten∧(F=[]∨∃ k,(catF F).depth≤1+2*k∧2 ^ k≤(catF F).runs.length)
  | [],_=>⟨trivial,rfl,rfl,rfl,.inl rfl⟩
  | f::l,h=>by
    obtain ⟨a1,a2,k1,a3,a4⟩:=h f (List.mem_cons_self ..)
    obtain ⟨b1,b2,b3,b4,b5⟩:=cat_ok l (fun g hg=>h g (List.mem_cons_of_mem _ hg))
    obtain ⟨c1,c2,c3,c4,c5⟩:=snoc_ok f (catF l)
    refine ⟨c3 a1 b1,by simp only [catF,c2,a2,b2,List.length_cons];omega,by simp [catF,c1,b3],by simp [catF,c4,b4],.inr ?_⟩
    simp only [catF,c5,c4,List.length_append]
    rcases b5 with rfl | ⟨k2,b5,b6⟩
    · refine ⟨k1, ?_,by omega⟩
      simp only [catF,Fo.depth];omega
    · rcases Nat.le_total k1 k2 with hk | hk
      · exact ⟨k2,by omega,by omega⟩
      · exact ⟨k1,by omega,by omega⟩
def joinF (F:List Fo):Fo:=if F.length=1 then catF F else .seq ⟨3,0,F.length⟩ (catF F) .nil
theorem join_ok {F:List Fo} (h:∀ f∈F,ItF f) (h0:1≤F.length) (h1:F.length≤128):(joinF F).ok∧(joinF F).count=1∧(joinF F).flat=joinX (F.map Fo.flat)∧(joinF F).runs=(F.map Fo.runs).flatten∧∃ k,(joinF F).depth≤2+2*k∧2 ^ k≤(joinF F).runs.length:=by
  obtain ⟨b1,b2,b3,b4,b5⟩:=cat_ok F h
  have hne:F≠[]:=by rintro rfl;simp at h0
  obtain ⟨k,b5,b6⟩:=b5.resolve_left hne
  unfold joinF joinX
  by_cases hl:F.length=1
  · rw [if_pos hl,if_pos (by simpa using hl)]
    exact ⟨b1,by omega,b3,b4,k,by omega,b6⟩
  · rw [if_neg hl,if_neg (by simpa using hl)]
    refine ⟨⟨rfl, ?_,by omega,b1,trivial⟩,rfl,by simp [Fo.flat,b3],by simp [Fo.runs,b4],k,by simp only [Fo.depth];omega,by simpa [Fo.runs] using b6⟩
    unfold kids;simp;omega
def foldF (F:List Fo) (s:St):List Fo:=F.take s.i++[.rep ⟨4,0,s.n⟩ (joinF ((F.drop s.i).take s.p)) .nil]++F.drop (s.i+s.p*s.n)
theorem foldF_ok {F:List Fo} {s:St} (h:∀ f∈F,ItF f) (hl:F.length≤128) (fs:FoldS (F.map Fo.flat) s):(∀ f∈foldF F s,ItF f)∧(foldF F s).map Fo.flat=foldAt (F.map Fo.flat) s∧((foldF F s).map Fo.runs).flatten=(F.map Fo.runs).flatten:=by
  have hp:=fs.p;have hn:=fs.n;have hle:=fs.le;have hbl:=fs.bl
  simp only [List.length_map,List.length_take,List.length_drop] at hle hbl
  have hB:∀ f∈(F.drop s.i).take s.p,ItF f:=fun f hf=>h f (List.mem_of_mem_drop (List.mem_of_mem_take hf))
  have hBl:((F.drop s.i).take s.p).length=s.p:=by rw [List.length_take,List.length_drop];omega
  have hpl:s.p≤s.p*s.n:=by have:=Nat.mul_le_mul (Nat.le_refl s.p) (show 1≤s.n by omega);omega
  obtain ⟨j1,j2,j3,j4,k,j5,j6⟩:=join_ok hB (by omega) (by omega)
  have hF:F=F.take s.i++(List.replicate s.n ((F.drop s.i).take s.p)).flatten++F.drop (s.i+s.p*s.n):=by
    refine map_inj_of (f:=Fo.flat) (fun x hx y hy hxy=>?_) ?_
    · have hy2:y∈F:=by
        rcases List.mem_append.1 hy with hy | hy
        · rcases List.mem_append.1 hy with hy | hy
          · exact List.mem_of_mem_take hy
          · obtain ⟨l,hl,hy⟩:=List.mem_flatten.1 hy
            rw [List.eq_of_mem_replicate hl] at hy
            exact List.mem_of_mem_drop (List.mem_of_mem_take hy)
        · exact List.mem_of_mem_drop hy
      exact (Fo.flat_inj x y [] [] (h x hx).1 (h y hy2).1 (by rw [(h x hx).2.1,(h y hy2).2.1]) (by rw [List.append_nil,List.append_nil];exact hxy)).1
    · have e:=fs.eq
      rw [List.map_append,List.map_append,List.map_flatten,List.map_replicate,List.map_take,List.map_take,List.map_drop,List.map_drop]
      exact e
  refine ⟨fun f hf=>?_, ?_, ?_⟩
  · rcases List.mem_append.1 hf with hf | hf
    · rcases List.mem_append.1 hf with hf | hf
      · exact h f (List.mem_of_mem_take hf)
      · rw [List.mem_singleton.1 hf]
        refine ⟨⟨rfl, ?_,j2,j1,trivial⟩,rfl,k+1,by simp only [Fo.depth];omega, ?_⟩
        · unfold kids;simp;omega
        · simp only [Fo.runs,List.append_nil,List.length_flatten,List.map_replicate,List.sum_replicate_nat,Int.toNat_natCast]
          have:=Nat.mul_le_mul (show 2≤s.n by omega) j6
          rw [Nat.pow_succ];omega
    · exact h f (List.mem_of_mem_drop hf)
  · unfold foldF foldAt
    simp only [List.map_append,List.map_cons,List.map_nil,Fo.flat,List.append_nil,List.map_take,List.map_drop,j3]
  · conv=>rhs;rw [hF]
    unfold foldF
    simp only [List.map_append,List.map_cons,List.map_nil,Fo.runs,List.append_nil,List.flatten_append,List.flatten_singleton,j4,Int.toNat_natCast]
    congr 2
    rw [List.map_flatten,List.map_replicate,List.flatten_flatten,List.map_replicate]
theorem tabGo_ok:∀ (f:Nat) (F:List Fo),(∀ g∈F,ItF g)→1≤F.length→F.length≤128→∃ G:List Fo,(∀ g∈G,ItF g)∧1≤G.length∧G.length≤128∧tabGo f (F.map Fo.flat)=joinX (G.map Fo.flat)∧(G.map Fo.runs).flatten=(F.map Fo.runs).flatten
  | 0,F,h,h1,h2=>⟨F,h,h1,h2,rfl,rfl⟩
  | f+1,F,h,h1,h2=>by
    rw [tabGo]
    rcases best_fold (X:=F.map Fo.flat) with h0 | fs
    · rw [if_pos h0];exact ⟨F,h,h1,h2,rfl,rfl⟩
    · rw [if_neg (by have:=fs.n;omega)]
      obtain ⟨a,b,c⟩:=foldF_ok h h2 fs
      have hless:=(fold_less fs).1
      rw [← b,List.length_map,List.length_map] at hless
      obtain ⟨G,g1,g2,g3,g4,g5⟩:=tabGo_ok f (foldF F (bestX (F.map Fo.flat))) a (by simp [foldF];omega) (by omega)
      exact ⟨G,g1,g2,g3,by rw [← b];exact g4,by rw [g5,c]⟩
theorem leafN_ok {r:Run} (h:runB r=true):kids (leafN r)=0∧(⟨partR (leafN r),(leafN r).n⟩:Run)=r:=by
  simp only [runB,decide_eq_true_eq] at h
  obtain ⟨p,n⟩:=r
  simp only at h
  unfold leafN
  simp only
  split
  · rename_i hp
    subst hp
    refine ⟨?_,by simp [partR]⟩
    unfold kids;simp;omega
  · refine ⟨?_,by simp [partR]⟩
    unfold kids;simp;omega
theorem fold_tree {L:List Run} (h:frameB L=true):∃ f:Fo,foldR L=f.flat∧f.ok∧f.count=1∧f.runs=L∧f.depth≤16∧f.len≤4096:=by
  have hl:=frameB_len h
  have hall:L.all runB=true:=by simp only [frameB,Bool.and_eq_true] at h;exact h.1
  have hsum:sumN L≤4096:=by simp only [frameB,Bool.and_eq_true,decide_eq_true_eq] at h;exact h.2.2.2
  have hr:∀ r∈L,runB r=true:=fun r hr=>List.all_eq_true.1 hall r hr
  have e1:(L.map fun r=>Fo.leaf (leafN r) .nil).map Fo.flat=leavesX L:=by simp [leavesX,Fo.flat]
  have e2:((L.map fun r=>Fo.leaf (leafN r) .nil).map Fo.runs).flatten=L:=by
    clear hl hall hsum h e1
    induction L with
    | nil=>rfl
    | cons r l ih=>
      simp only [List.map_cons,List.flatten_cons,Fo.runs]
      rw [ih (fun q hq=>hr q (List.mem_cons_of_mem _ hq)),(leafN_ok (hr r (List.mem_cons_self ..))).2];rfl
  obtain ⟨G,g1,g2,g3,g4,g5⟩:=tabGo_ok L.length (L.map fun r=>Fo.leaf (leafN r) .nil) (fun g hg=>by
    obtain ⟨r,h1,rfl⟩:=List.mem_map.1 hg
    exact ⟨⟨(leafN_ok (hr r h1)).1,trivial⟩,rfl,0,by simp [Fo.depth],by simp [Fo.runs]⟩) (by simp;omega) (by simp;omega)
  obtain ⟨j1,j2,j3,j4,k,j5,j6⟩:=join_ok g1 g2 g3
  rw [e1] at g4
  rw [e2] at g5
  have hk:k≤6:=by
    rw [j4,g5] at j6
    refine Nat.le_of_not_lt (fun hk=>?_)
    have:=Nat.pow_le_pow_right (show 0<2 by omega) (show 7≤k by omega)
    omega
  refine ⟨joinF G,by unfold foldR;rw [if_pos h,g4,j3],j1,j2,by rw [j4,g5],by omega, ?_⟩
  have:=Fo.runs_sum _ j1
  rw [j4,g5] at this
  omega
theorem fold_right {L:List Run} (h:frameB L=true) (hn:(foldR L).length≤128):rightR (foldR L)=0:=by
  obtain ⟨f,h1,h2,h3,_,h5,h6⟩:=fold_tree h
  rw [h1] at hn ⊢
  exact right_flat h2 h3 h5 h6 hn
theorem fold_of {L:List Run} (h:frameB L=true) (hn:(foldR L).length≤128) (ht:tidyGo L []=L):ofR (foldR L)=(L,0):=by
  obtain ⟨f,h1,h2,h3,h4,h5,h6⟩:=fold_tree h
  rw [ofR_good (fold_right h hn)]
  rw [h1] at hn ⊢
  have hl:=frameB_len h
  rw [foOf_flat h2 h3 h5 h6 hn,ofT,h4,ht,if_neg (by omega)]
end Go.Ab.T
namespace Go.Ab.T
open Go Go.Ab
set_option maxHeartbeats 4000000
theorem res_tct {e:Env} {h:AH} {n m k l:Nat} {g:Bool}:resOf e h [.t n,.cell m k g,.t l]=(cellV h k g (e m)).map fun v=>.tup [e n,v,e l]:=by
  simp only [resOf,rvs,rvOf_cell]
  cases cellV h k g (e m)<;>rfl
attribute [go_sem] res_tct
theorem leaf_part {x:Node} (h:kids x=0): -1≤partR x∧partR x<6:=by
  unfold kids at h
  unfold partR
  split at h
  · omega
  · split at h
    · split<;>omega
    · split at h
      · omega
      · split at h<;>omega
theorem Fo.runs_rng:∀ (f:Fo),f.ok→∀ r∈f.runs,-1≤r.part∧r.part<6
  | .nil,_,r,hr=>by cases hr
  | .leaf x r,ho,q,hq=>by
    rcases List.mem_cons.1 hq with rfl | hq
    · exact leaf_part ho.1
    · exact Fo.runs_rng r ho.2 q hq
  | .seq x k r,ho,q,hq=>by
    rcases List.mem_append.1 hq with hq | hq
    · exact Fo.runs_rng k ho.2.2.2.1 q hq
    · exact Fo.runs_rng r ho.2.2.2.2 q hq
  | .rep x k r,ho,q,hq=>by
    rcases List.mem_append.1 hq with hq | hq
    · obtain ⟨l,hl,hq⟩:=List.mem_flatten.1 hq
      rw [List.eq_of_mem_replicate hl] at hq
      exact Fo.runs_rng k ho.2.2.2.1 q hq
    · exact Fo.runs_rng r ho.2.2.2.2 q hq
theorem n_le_sum:∀ {L:List Run},AllPos L→∀ r∈L,r.n≤sumN L
  | a::l,h,r,hr=>by
    have hp:AllPos l:=fun q hq=>h q (List.mem_cons_of_mem _ hq)
    have:=sumN_pos hp
    have:=h a (List.mem_cons_self ..)
    simp only [sumN]
    rcases List.mem_cons.1 hr with rfl | hr
    · omega
    · have:=n_le_sum hp r hr;omega
theorem of_frame {T:List Node} (h:(ofR T).2=0):frameB (ofR T).1=true∧tidyGo (ofR T).1 []=(ofR T).1∧T.length≤128:=by
  have hr:rightR T=0:=by
    refine Decidable.byContradiction fun hn=>?_
    rw [ofR_bad hn] at h;exact hn h
  obtain ⟨ht,ho,hc1,hL,hd,hl⟩:=foOf_ok hr
  rw [ofR_good hr] at h ⊢
  have hap:=Fo.runs_allpos _ ho
  have hsum:=Fo.runs_sum _ ho
  have ti:=tidyOf hap (by omega)
  have hpos:=Fo.runs_pos _ ho (by omega)
  split at h
  · cases h
  rename_i hlen
  rw [if_neg hlen]
  unfold ofT at *
  have hs:sumN (tidyGo (foOf T).runs [])≤4096:=by rw [ti.sum];omega
  refine ⟨?_,tidy_stays ti.pos ti.sep,ht⟩
  simp only [frameB,Bool.and_eq_true,decide_eq_true_eq,List.all_eq_true]
  refine ⟨fun r hr=>?_, ?_,by omega,hs⟩
  · obtain ⟨q,hq,he⟩:=ti.parts r hr
    have:=Fo.runs_rng _ ho q hq
    have:=ti.pos r hr
    have:=n_le_sum ti.pos r hr
    simp only [runB,decide_eq_true_eq]
    omega
  · have:=ti.ne (by intro h0;rw [h0] at hpos;simp at hpos)
    exact List.length_pos_iff.2 this
theorem step_frame {C:Config} {L:List Run} (h:frameB L=true):frameB (stepR C L).1=true:=by
  have hv:∀ b,validB C L b=true→frameB b=true:=fun b hb=>by
    simp only [validB,Bool.and_eq_true] at hb;exact hb.2.2
  unfold stepR
  split
  · rename_i hc;exact hv _ hc.2
  · split
    · rename_i hc;exact hv _ hc.2
    · exact h
theorem runsGo_frame {C:Config}:∀ (f:Nat) (L:List Run) (n:Int),frameB L=true→frameB (runsGo C f L n).1=true
  | 0,L,n,h=>h
  | f+1,L,n,h=>by
    rw [runsGo]
    split
    · exact runsGo_frame f _ _ (step_frame h)
    · exact h
theorem frameB_frm {L:List Run} (h:frameB L=true):Frm L:=by
  simp only [frameB,Bool.and_eq_true,decide_eq_true_eq,List.all_eq_true] at h
  refine ⟨fun r hr=>?_,h.2.2.2⟩
  have:=h.1 r hr
  simp only [runB,decide_eq_true_eq] at this;omega
structure Rpt where
  moves:Int
  runs:Int
  was:Int
  nodes:Int
  wasn:Int
  kept:Bool
  deriving Inhabited,DecidableEq
@[go_sem] def Rpt.enc (r:Rpt):List V:=[.i .i64 r.moves,.i .i64 r.runs,.i .i64 r.was,.i .i64 r.nodes,.i .i64 r.wasn,.b r.kept]
noncomputable def redR (C:Config) (T:List Node):List Node×Rpt×Int:=
  if (ofR T).2≠0 then ([],⟨0,0,0,0,0,false⟩,(ofR T).2) else
  if holdsR C (ofR T).1≠0 then ([],⟨0,0,0,0,0,false⟩,holdsR C (ofR T).1) else
  if T.length<(foldR (runsR C (ofR T).1).1).length then (T,⟨0,(ofR T).1.length,(ofR T).1.length,T.length,T.length,true⟩,0) else
  (foldR (runsR C (ofR T).1).1,⟨(runsR C (ofR T).1).2,(runsR C (ofR T).1).1.length,(ofR T).1.length,(foldR (runsR C (ofR T).1).1).length,T.length,false⟩,0)
theorem redTable_ev {C:Config} {T:List Node}:Pf tp i_Q2 [.agg C.enc,.fl 3 (T.map Node.enc)] (.tup [.fl 3 ((redR C T).1.map Node.enc),.agg (redR C T).2.1.enc,.i .i64 (redR C T).2.2]):=by
  refine Pf_go fn_Q2 (by simp [t_Q2]) fun rp=>?_;unfold t_Q2;simp (disch:=omega)only[go_sem, *]
  have hT:=rp.tail.head.len
  have hh:=holds_ev (C:=C) (ofR_frm (L:=T))
  have hru:=redRuns_ev (C:=C) (ofR_frm (L:=T))
  simp only [Config.enc] at hh hru
  refine Pf.go (Of_ev) (by simp only [go_sem]) fun _=>?_;simp (disch:=omega)only[go_sem, *]
  refine Wb_dec (fun hc=>?_) (fun hc=>?_)
  · simp (disch:=omega)only[go_sem, *]
    refine Pf.go (hh) (by simp only [go_sem]) fun _=>?_;simp (disch:=omega)only[go_sem, *]
    refine Wb_dec (fun hc2=>?_) (fun hc2=>?_)
    · have e:redR C T=([],⟨0,0,0,0,0,false⟩,holdsR C (ofR T).1):=by unfold redR;rw [if_neg (by simp [hc]),if_pos hc2]
      simp (disch:=omega)only[go_sem, *]
    · have hc2:holdsR C (ofR T).1=0:=by omega
      have e:redR C T=if T.length<(foldR (runsR C (ofR T).1).1).length then (T,⟨0,(ofR T).1.length,(ofR T).1.length,T.length,T.length,true⟩,0) else (foldR (runsR C (ofR T).1).1,⟨(runsR C (ofR T).1).2,(runsR C (ofR T).1).1.length,(ofR T).1.length,(foldR (runsR C (ofR T).1).1).length,T.length,false⟩,0):=by
        unfold redR;rw [if_neg (by simp [hc]),if_neg (by simp [hc2])]
      have hof:=of_frame hc
      have hfr:frameB (runsR C (ofR T).1).1=true:=runsGo_frame _ _ _ hof.1
      have hT2:=hof.2.2
      clear hof
      simp (disch:=omega)only[go_sem, *]
      refine Pf.go (hru) (by simp only [go_sem]) fun _=>?_;simp (disch:=omega)only[go_sem, *]
      refine Pf.go (foldTable_ev) (by simp only [go_sem]) fun _=>?_;simp (disch:=omega)only[go_sem, *]
      refine Wg_dec (fun hc3=>?_) (fun hc3=>?_)
      · rw [if_pos (by omega)] at e
        simp (disch:=omega)only[go_sem, *]
        refine Pf.go (cloneNode_ev) (by simp only [go_sem]) fun _=>?_;simp (disch:=omega)only[go_sem, *]
      · rw [if_neg (by omega)] at e
        have hrt:=fold_right hfr (by omega)
        simp (disch:=omega)only[go_sem, *]
        refine Pf.go (nodeRight_ev) (by simp only [go_sem]) fun _=>?_;simp (disch:=omega)only[go_sem, *]
  · have e:redR C T=([],⟨0,0,0,0,0,false⟩,(ofR T).2):=by unfold redR;rw [if_pos hc]
    simp (disch:=omega)only[go_sem, *]
end Go.Ab.T
namespace Go.Ab.T
open Go Go.Ab
set_option maxHeartbeats 4000000
theorem eq_fnf {fn:Fn} {a c:List V}:eqV .fn (.f fn a c) .nf=some false:=nrfl rfl
attribute [go_sem] eq_fnf
end Go.Ab.T
namespace Go.Ab.T
open Go Go.Ab
set_option maxHeartbeats 4000000
def ZCS (tp:TP) (c:TC) (e:Env) (h:AH) (K:Ex→Env→AH→Prop):Prop:=∀ S m hc e1,Cfg S m h hc→EP S m h hc e e1→WC tp c e1 hc (fun x=>PostE S m h hc (K x))
section
variable {tp:TP} {c a b:TC} {e e2:Env} {h h2:AH} {K:Ex→Env→AH→Prop}
theorem ZCS_of (z:ZC tp c e h K):ZCS tp c e h K:=fun S m hc e1 c' p=>zc_ok c c' p z
theorem ZCS_step (st:Stp e h e2 h2) (z:ZCS tp c e2 h2 K):ZCS tp c e h K:=fun S m hc e1 c' p=>by
  obtain ⟨S',c2,a2,p2⟩:=st S m hc e1 c' p
  exact (z S' m hc e1 c2 p2).imp fun _ _ _=>PostE.then a2
theorem ZCS_seq (z:ZC tp a e h (fun x e h=>nxt x (ZCS tp b e h K) (K x e h))):ZCS tp (.seq a b) e h K:=fun S m hc e1 c' p=>by
  rw [WC_seq]
  refine (zc_ok a c' p z).imp ?_
  rintro x e1' hc' ⟨e',h',S',m',c2,a',p',z⟩
  cases x with
  | nm=>exact (z S' m' hc' e1' c2 p').imp fun _ _ _=>PostE.then a'
  | ex j=>exact ⟨e',h',S',m',c2,a',p',z⟩
  | rt=>exact ⟨e',h',S',m',c2,a',p',z⟩
end
theorem Pf_goS {tp:TP} {f:Nat} {args:List V} {R:V} {tf:TF} (hf:tp.fn f=some tf) (hl:args.length≤tf.n) (z:Reps args→ZCS tp tf.body (env0 args) AH.emp (fun x e h=>Zend tf.res x e h (fun r h'=>Frz (fun _=>True) h' 0 r R))):Pf tp f args R:=by
  intro S m hc args1 c p
  refine Ev_of hf (by rw [← p.len];exact hl) ((z p.reps S m hc _ c (EP.args p)).imp ?_)
  rintro x e1 hc' ⟨e,h',S',m',c',a',pe,z⟩
  unfold Zend at z
  unfold Wend
  have key:(Wo (resOf e h' tf.res) fun v=>Frz (fun _=>True) h' 0 v R)→Wo (resOf e1 hc' tf.res) (fun r1=>∃ r h'' S' m',Cfg S' m' h'' hc'∧Adv S m AH.emp hc S' m' h'' hc'∧PR S' m' hc'.get h''.next r r1∧r=R∧h''=AH.emp):=by
    rintro ⟨v,hv,fz⟩
    obtain ⟨v1,h1,h2⟩:=res_PR c' pe hv
    refine ⟨v1,h1,R,AH.emp,SP S' m' h' (fun _=>True),m',Cfg.emp (SP.low c') c'.bnd m',⟨fun a h=>.inl (a'.sub a h), ?_,a'.map,Nat.le_refl _,a'.next1,rfl,a'.lim1,a'.frame,fun i hi=>by simp [AH.live,AH.emp] at hi⟩,Frz.ok c' fz h2,rfl,rfl⟩
    rintro a (ha | ⟨i,_,hi,rfl⟩)
    · exact a'.new a ha
    · rcases a'.liv i hi with ⟨q1,q2⟩ | q1
      · exact absurd q1 (Nat.not_lt_zero _)
      · exact .inr (.inl q1)
  cases x with
  | ex j=>exact z.elim
  | nm=>exact key z
  | rt=>exact key z
theorem ZCS_fix {tp : TP} {c : TC} {e : Env} {h : AH} {K : Ex → Env → AH → Prop} (live : List Nat) (t0 id : Nat) (w : V) (h0 : Frz (· = id) h h.next (e t0) w) (hv : ∀ t, t ∈ live → t ≠ t0 → Frz (· = id) h h.next (e t) (e t))
    (z:∀ e2,e2 t0=w→(∀ t,t∈live→t≠t0→e2 t=e t)→ZCS tp c e2 (h.kill id) K):ZCS tp c e h K:=by
  refine ZCS_step (Stp_frz (h2:=h.kill id) (·=id) (t0::live) (fun t=>if t=t0 then w else e t) (fun wf=>⟨rfl,rfl,fun i k hk=>?_,fun t hl=>?_⟩)) (z _ ?_ ?_)
  · rw [get_kill] at hk
    by_cases hd:i=id
    · rw [gsel_eq hd] at hk;cases hk
    · rw [gsel_ne hd] at hk
      exact ⟨(wf.2 i k hk).1,hd,k.cs,hk,(wf.2 i k hk).2 _ _⟩
  · by_cases ht:t=t0
    · subst ht;simp only [if_pos rfl];exact h0
    · simp only [if_neg ht]
      exact hv t ((List.mem_cons.1 hl).resolve_left ht) ht
  · simp
  · intro t ht hne
    simp [ht,hne]
end Go.Ab.T
namespace Go.Ab.T
open Go Go.Ab
set_option maxHeartbeats 4000000
/-! Chapter 11's known runs. -/
def k11P:Part:=⟨⟨#[]⟩,0,0,false,false,[],0,0,0,0,0⟩
def k11:Config:=⟨[k11P,k11P],[],[]⟩
def k11L:List Run:=[⟨0,1⟩,⟨1,2⟩,⟨0,3⟩]
def k11X:List Run:=[⟨0,4⟩,⟨1,2⟩]
theorem k11_runs:runsR k11 k11L=(k11X,1):=by decide +kernel
theorem k11_one:runsR k11 [⟨0,5⟩]=([⟨0,5⟩],0):=by decide +kernel
theorem k11_merge:mergeR k11L=(k11L,false):=by decide +kernel
theorem k11_stuck:stuckB k11 k11X=true:=by decide +kernel
theorem k11_not:stuckB k11 k11L=false:=by decide +kernel
theorem k11_valid:validB k11 k11L k11X=true:=by decide +kernel
theorem k11_frm:Frm k11L∧Frm k11X:=by
  refine ⟨⟨fun r hr=>?_,by decide⟩,⟨fun r hr=>?_,by decide⟩⟩
  · simp only [k11L,List.mem_cons,List.not_mem_nil,or_false] at hr
    rcases hr with rfl | rfl | rfl<;>decide
  · simp only [k11X,List.mem_cons,List.not_mem_nil,or_false] at hr
    rcases hr with rfl | rfl<;>decide
theorem k11_of:ofR [⟨1,0,5⟩]=([⟨0,5⟩],0):=by
  have hk:kids ⟨1,0,5⟩=0:=by unfold kids;decide
  have h1:(Fo.leaf ⟨1,0,5⟩ .nil).ok:=⟨hk,trivial⟩
  have e:([⟨1,0,5⟩]:List Node)=(Fo.leaf ⟨1,0,5⟩ .nil).flat:=rfl
  have h2:=right_flat h1 rfl (by decide) (by decide) (by decide)
  have h3:=foOf_flat h1 rfl (by decide) (by decide) (by decide)
  rw [e,ofR_good h2,h3,if_neg (by decide)];rfl
theorem k11_red:redR k11 [⟨1,0,5⟩]=([⟨1,0,5⟩],⟨0,1,1,1,1,false⟩,0):=by
  have hf:foldR [⟨0,5⟩]=[⟨1,0,5⟩]:=by decide +kernel
  have hh:holdsR k11 [⟨0,5⟩]=0:=by decide +kernel
  unfold redR
  rw [k11_of,k11_one]
  simp only [hf,hh]
  rfl
theorem k11_nil:redR k11 []=([],⟨0,0,0,0,0,false⟩,12):=by
  have:rightR []=12:=by decide +kernel
  unfold redR
  rw [ofR_bad (by rw [this];decide),this];rfl
def k11H:AH:=⟨fun i=>if i=1 then some ⟨3,[k11.enc]⟩ else none,3,0⟩
theorem k11_fix {c : TC} {e : Env} {h : AH} {K : Ex → Env → AH → Prop} (hn : h.next = 3) (hl : h.lim = 0)
    (g0:h.get 0=some ⟨11,[[.s ⟨#[]⟩,.i .i64 0,.i .i64 0,.b false,.b false,.ns,.i .i64 0,.i .i64 0,.i .i64 0,.i .i64 0,.i .i64 0],[.s ⟨#[]⟩,.i .i64 0,.i .i64 0,.b false,.b false,.ns,.i .i64 0,.i .i64 0,.i .i64 0,.i .i64 0,.i .i64 0]]⟩)
    (g1:h.get 1=some ⟨3,[[.sl 0 0 2 2,.ns,.ns]]⟩) (g2:h.get 2=some ⟨3,[[.i .i64 1,.i .i64 0,.i .i64 5]]⟩) (e1:e 1=.p 1 0 0) (e2:e 2=.sl 2 0 1 1)
    (z:∀ e',e' 1=.p 1 0 0→e' 2=.fl 3 [[.i .i64 1,.i .i64 0,.i .i64 5]]→ZCS tp c e' k11H K):ZCS tp c e h K:=by
  have zz:∀ {n:Nat} {v:V},Plain0 v→Frz (·≠1) h n v v:=fun h0=>.z _ _ h0
  have row:Frzs (·≠1) h 0 [.s ⟨#[]⟩,.i .i64 0,.i .i64 0,.b false,.b false,.ns,.i .i64 0,.i .i64 0,.i .i64 0,.i .i64 0,.i .i64 0] k11P.enc:=
    .cons _ _ _ _ _ (zz (.s _)) (.cons _ _ _ _ _ (zz (.i _ _)) (.cons _ _ _ _ _ (zz (.i _ _)) (.cons _ _ _ _ _ (zz (.b _)) (.cons _ _ _ _ _ (zz (.b _)) (.cons _ _ _ _ _ (.ns _ _) (.cons _ _ _ _ _ (zz (.i _ _)) (.cons _ _ _ _ _ (zz (.i _ _)) (.cons _ _ _ _ _ (zz (.i _ _)) (.cons _ _ _ _ _ (zz (.i _ _)) (.cons _ _ _ _ _ (zz (.i _ _)) (.nil _)))))))))))
  refine ZCS_step (Stp_frz (h2:=k11H) (·≠1) [1,2] (fun t=>if t=1 then .p 1 0 0 else .fl 3 [[.i .i64 1,.i .i64 0,.i .i64 5]]) (fun wf=>⟨hn.symm,hl.symm,⟨fun i k hk=>?_,fun t ht=>?_⟩⟩)) (z _ (by simp) (by simp))
  · unfold k11H at hk
    simp only at hk
    by_cases hi:i=1
    · subst hi
      rw [if_pos rfl] at hk;cases hk
      refine ⟨by simp [k11H],by simp,_,g1,.cons _ _ _ _ _ (.cons _ _ _ _ _ ?_ (.cons _ _ _ _ _ (.ns _ _) (.cons _ _ _ _ _ (.ns _ _) (.nil _)))) (.nil _)⟩
      exact .sl _ _ _ _ _ _ _ _ (by simp) g0 (by simp) (Nat.le_refl _) (by simp [frzLen]) (.cons _ _ _ _ _ row (.cons _ _ _ _ _ row (.nil _)))
    · rw [if_neg hi] at hk;cases hk
  · simp only [List.mem_cons,List.not_mem_nil,or_false] at ht
    rcases ht with rfl | rfl
    · rw [e1];exact .p _ _ _ _ (by simp [k11H])
    · rw [e2]
      exact .sl _ _ _ _ _ _ _ _ (by simp) g2 (by simp) (Nat.le_refl _) (by simp [frzLen]) (.cons _ _ _ _ _ (.cons _ _ _ _ _ (zz (.i _ _)) (.cons _ _ _ _ _ (zz (.i _ _)) (.cons _ _ _ _ _ (zz (.i _ _)) (.nil _)))) (.nil _))
theorem known11_ev:Pf tp i_Q7 [] (.b true):=by
  have hr1:=k11_red;have hr2:=k11_nil;have hr3:=k11_runs;have hr4:=k11_merge;have hr5:=k11_stuck;have hr6:=k11_not;have hr7:=k11_valid
  have t1:=redTable_ev (C:=k11) (T:=[⟨1,0,5⟩])
  have t2:=redTable_ev (C:=k11) (T:=[])
  have t3:=redRuns_ev (C:=k11) k11_frm.1
  have t4:=merge_ev (C:=k11) k11_frm.1
  have t5:=stuck_ev (C:=k11) k11_frm.2
  have t6:=stuck_ev (C:=k11) k11_frm.1
  have t7:=valid_ev (C:=k11) k11_frm.1 k11_frm.2
  rw [hr1] at t1;rw [hr2] at t2;rw [hr3] at t3;rw [hr4] at t4;rw [hr5] at t5;rw [hr6] at t6;rw [hr7] at t7
  clear hr1 hr2 hr3 hr4 hr5 hr6 hr7
  refine Pf_goS fn_Q7 (by simp [t_Q7]) fun rp=>?_
  unfold t_Q7
  refine ZCS_seq ?_
  simp (disch:=omega)only[go_sem, *]
  refine ZCS_seq ?_
  simp (disch:=omega)only[go_sem, *]
  refine ZCS_seq ?_
  simp (disch:=omega)only[go_sem, *]
  refine k11_fix rfl rfl rfl rfl rfl rfl rfl ?_
  intro e1 f1 f2
  have g1:k11H.get 1=some ⟨3,[k11.enc]⟩:=rfl
  have n1:k11H.next=3:=rfl
  have l1:k11H.lim=0:=rfl
  have ea:k11.enc=[.fl 11 (k11.parts.map Part.enc),.fl 6 (k11.chans.map Chan.enc),.fl 1 (k11.tables.map Tab.enc)]:=rfl
  rw [ea] at g1 t1 t2 t3 t4 t5 t6 t7
  clear ea
  generalize k11H=H at *
  have q1:([⟨1,0,5⟩]:List Node).map Node.enc=[[.i .i64 1,.i .i64 0,.i .i64 5]]:=rfl
  have q2:([]:List Node).map Node.enc=[]:=rfl
  rw [q1] at t1;rw [q2] at t2
  refine ZCS_seq ?_
  simp (disch:=omega)only[go_sem, *]
  refine Pf.go (t1) (by simp only [go_sem]) fun _=>?_;simp (disch:=omega)only[go_sem, *]
  refine ZCS_seq ?_
  simp (disch:=omega)only[go_sem, *]
  refine Pf.take [] t2 (.cons _ _ _ _ _ (.agg _ _ _ (.cons _ _ _ _ _ (.fl _ _ _) (.cons _ _ _ _ _ (.fl _ _ _) (.cons _ _ _ _ _ (.fl _ _ _) (.nil _))))) (.cons _ _ _ _ _ (.ns _ _) (.nil _))) fun _=>?_
  have hk0:∀ h:AH,h.kills []=h:=fun h=>by simp [AH.kills]
  rw [hk0]
  clear hk0 t1 t2
  simp (disch:=omega)only[go_sem, *]
  refine ZCS_seq ?_
  simp (disch:=omega)only[go_sem, *]
  refine ZCS_fix [1,3,4,5,8] 9 5 (.fl 2 (k11L.map Run.enc)) ?_ ?_ ?_
  · simp (disch:=omega)only[go_sem, *]
    exact .sl _ _ _ _ _ 2 (k11L.map Run.enc) _ rfl (by simp (disch:=omega)only[go_sem, *];rfl) (by decide) (Nat.le_refl _) (by simp [frzLen]) (Frzr.of_map (enc:=Run.enc) (fun _=>rfl) k11L)
  · intro t ht _
    simp only [List.mem_cons,List.not_mem_nil,or_false] at ht
    rcases ht with rfl | rfl | rfl | rfl | rfl
    · simp (disch:=omega)only[go_sem, *]
      exact .p _ _ _ _ (by simp (disch:=omega)only[go_sem, *])
    · simp (disch:=omega)only[go_sem, *]
    · simp (disch:=omega)only[go_sem, *]
      exact .p _ _ _ _ (by simp (disch:=omega)only[go_sem, *])
    · simp (disch:=omega)only[go_sem, *]
    · simp (disch:=omega)only[go_sem, *]
  intro e2 q9 qq
  have q1:=qq 1 (by simp) (by simp)
  have q3:=qq 3 (by simp) (by simp)
  have q4:=qq 4 (by simp) (by simp)
  have q5:=qq 5 (by simp) (by simp)
  have q8:=qq 8 (by simp) (by simp)
  clear qq
  simp (disch:=omega)only[go_sem, *] at q1 q3 q4 q5 q8
  clear f1 f2
  have hX:k11X.length=2:=rfl
  simp only at t3 t4
  refine ZCS_seq ?_
  simp (disch:=omega)only[go_sem, *]
  refine Pf.go (t3) (by simp only [go_sem]) fun _=>?_;simp (disch:=omega)only[go_sem, *]
  refine ZCS_seq ?_
  simp (disch:=omega)only[go_sem, *]
  refine Pf.go (t4) (by simp only [go_sem]) fun _=>?_;simp (disch:=omega)only[go_sem, *]
  refine ZCS_of ?_
  simp (disch:=omega)only[go_sem, *]
  repeat' (first | (refine Wg_dec (fun hc=>?_) (fun hc=>?_)<;>simp (disch:=omega)only[go_sem, *]) | (refine Wb_dec (fun hc=>?_) (fun hc=>?_)<;>simp (disch:=omega)only[go_sem, *]) | (refine Wg_of (fun hc=>?_) (fun hc=>?_)<;>simp (disch:=omega)only[go_sem, *]) | (refine Wb_of (fun hc=>?_) (fun hc=>?_)<;>simp (disch:=omega)only[go_sem, *]) | (refine Pf.go (t5) (by simp only [go_sem]) fun _=>?_;simp (disch:=omega)only[go_sem, *]) | (refine Pf.go (t6) (by simp only [go_sem]) fun _=>?_;simp (disch:=omega)only[go_sem, *]) | (refine Pf.go (t7) (by simp only [go_sem]) fun _=>?_;simp (disch:=omega)only[go_sem, *]))
  · refine passes_ev ?_
    simp (disch:=omega)only[go_sem, *]
    all_goals decide
  all_goals exact absurd (rfl:(((2:Nat):Int)=2)) hc
end Go.Ab.T
namespace Go.Ab.T
open Go Go.Ab
set_option maxHeartbeats 4000000
/-! A row tick by tick; what is the same to all. Plain. -/
theorem wrd_app:∀ (a b:List Run),wrd (a++b)=wrd a++wrd b
  | [],b=>rfl
  | r::l,b=>by simp only [List.cons_append,wrd,wrd_app l b,List.append_assoc]
theorem wrd_tidyGo:∀ (l A:List Run),AllPos A→AllPos l→sumN A+sumN l≤4096→wrd (tidyGo l A)=wrd A++wrd l
  | [],A,_,_,_=>by simp [tidyGo,wrd]
  | r::l,A,hA,hl,hs=>by
    have hr:=hl r (List.mem_cons_self ..)
    have hl2:AllPos l:=fun q hq=>hl q (List.mem_cons_of_mem _ hq)
    have h0:=sumN_pos hl2
    simp only [sumN] at hs
    rcases List.eq_nil_or_concat A with rfl | ⟨B,q,rfl⟩
    · rw [tidy_nil hr,wrd_tidyGo l [r] (fun x hx=>by rw [List.mem_singleton.1 hx];exact hr) hl2 (by simp only [sumN] at hs ⊢;omega)]
      simp [wrd]
    · rw [List.concat_eq_append] at *
      have hq:=(allPos_app hA).2 q (List.mem_singleton.2 rfl)
      have hB:=(allPos_app hA).1
      have hB0:=sumN_pos hB
      have hsB:sumN (B++[q])=sumN B+q.n:=by rw [sumN_app];simp [sumN]
      rw [hsB] at hs
      rw [tidy_snoc hr]
      split
      · rename_i he
        have ha:addR q.n r.n=q.n+r.n:=addR_sum (by omega) (by omega) (by omega)
        rw [ha,wrd_tidyGo l (B++[⟨q.part,q.n+r.n⟩]) (allPos_mk hB (fun x hx=>by rw [List.mem_singleton.1 hx];simp only;omega)) hl2 (by rw [sumN_app];simp only [sumN];omega)]
        rw [wrd_app,wrd_app]
        simp only [wrd,List.append_nil,List.append_assoc,he]
        congr 1
        rw [← List.append_assoc,List.replicate_append_replicate]
        congr 2;omega
      · rw [wrd_tidyGo l (B++[q]++[r]) (allPos_mk hA (fun x hx=>by rw [List.mem_singleton.1 hx];exact hr)) hl2 (by rw [sumN_app,hsB];simp only [sumN];omega),wrd_app]
        simp [wrd]
theorem wrd_posL:∀ {L:List Run},NonNeg L→wrd (posL L)=wrd L
  | [],_=>rfl
  | r::l,h=>by
    have ih:=wrd_posL (L:=l) (fun q hq=>h q (List.mem_cons_of_mem _ hq))
    have:=h r (List.mem_cons_self ..)
    unfold posL at *
    rw [List.filter_cons]
    split
    · rw [wrd,wrd,ih]
    · rename_i h2
      have:r.n.toNat=0:=by simp at h2;omega
      rw [wrd,this,ih];simp
theorem wrd_tidy {L:List Run} (h:NonNeg L) (hs:sumN L≤4096):wrd (tidyGo L [])=wrd L:=by
  rw [tidyGo_pos,wrd_tidyGo _ _ (fun _ h=>by cases h) posL_all (by rw [posL_sum h];simpa [sumN] using hs),wrd_posL h];rfl
theorem wrd_inj:∀ {X Y:List Run},AllPos X→Sep X→AllPos Y→Sep Y→wrd X=wrd Y→X=Y
  | [],[],_,_,_,_,_=>rfl
  | [],y::Y,_,_,hy,_,h=>by
    have:=hy y (List.mem_cons_self ..)
    have:=congrArg List.length h
    simp [wrd] at this;omega
  | x::X,[],hx,_,_,_,h=>by
    have:=hx x (List.mem_cons_self ..)
    have:=congrArg List.length h
    simp [wrd] at this;omega
  | x::X,y::Y,hx,sx,hy,sy,h=>by
    have h1:=hx x (List.mem_cons_self ..)
    have h2:=hy y (List.mem_cons_self ..)
    have hX:AllPos X:=fun q hq=>hx q (List.mem_cons_of_mem _ hq)
    have hY:AllPos Y:=fun q hq=>hy q (List.mem_cons_of_mem _ hq)
    have key:∀ {a b:Run} {A B:List Run},AllPos A→Sep (a::A)→1≤a.n→1≤b.n→wrd (a::A)=wrd (b::B)→a.part=b.part∧¬ a.n<b.n:=fun {a b A B} hA sA ha hb he=>by
      have hp:a.part=b.part:=by
        have:=congrArg List.head? he
        obtain ⟨k,hk⟩:∃ k,a.n.toNat=k+1:=⟨a.n.toNat - 1,by omega⟩
        obtain ⟨m,hm⟩:∃ m,b.n.toNat=m+1:=⟨b.n.toNat - 1,by omega⟩
        simp only [wrd,hk,hm,List.replicate_succ,List.cons_append,List.head?_cons,Option.some.injEq] at this
        exact this
      refine ⟨hp,fun hlt=>?_⟩
      have hg:=congrArg (fun l=>l[a.n.toNat]?) he
      simp only [wrd] at hg
      rw [List.getElem?_append_right (by simp),List.length_replicate,Nat.sub_self,List.getElem?_append_left (by simp;omega),List.getElem?_replicate,if_pos (by omega)] at hg
      cases A with
      | nil=>simp [wrd] at hg
      | cons c A=>
        have hc:=hA c (List.mem_cons_self ..)
        obtain ⟨k,hk⟩:∃ k,c.n.toNat=k+1:=⟨c.n.toNat - 1,by omega⟩
        simp only [wrd,hk,List.replicate_succ,List.cons_append,List.getElem?_cons_zero,Option.some.injEq] at hg
        exact sA.1 (by rw [hg,hp])
    obtain ⟨p1,n1⟩:=key hX sx h1 h2 h
    obtain ⟨p2,n2⟩:=key hY sy h2 h1 h.symm
    have e:x=y:=by
      obtain ⟨xp,xn⟩:=x;obtain ⟨yp,yn⟩:=y
      simp only at p1 n1 n2
      have:xn=yn:=by omega
      rw [p1,this]
    subst e
    simp only [wrd] at h
    have sX:Sep X:=by cases X with | nil=>trivial | cons _ _=>exact sx.2
    have sY:Sep Y:=by cases Y with | nil=>trivial | cons _ _=>exact sy.2
    rw [wrd_inj hX sX hY sY (List.append_cancel_left h)]
theorem wrd_filter (q:Int→Bool):∀ (L:List Run),wrd (L.filter fun r=>q r.part)=(wrd L).filter q
  | []=>rfl
  | r::l=>by
    rw [List.filter_cons]
    simp only [wrd,List.filter_append,←wrd_filter q l,List.filter_replicate]
    split
    · rw [wrd]
    · simp
theorem tidy_sp {L:List Run} (h:NonNeg L) (hs:sumN L≤4096):AllPos (tidyGo L [])∧Sep (tidyGo L []):=⟨(tidy_of0 h hs).pos,(tidy_of0 h hs).sep⟩
theorem Frm.nn {L:List Run} (h:Frm L):NonNeg L:=fun r hr=>by have:=h.1 r hr;omega
theorem wrd_proj {L:List Run} {a b:Int}:wrd (projL L a b)=(wrd L).filter (fun z=>decide (z=a∨z=b)):=wrd_filter (fun z=>decide (z=a∨z=b)) L
theorem wrd_projR {L:List Run} {a b:Int} (h:Frm L):wrd (projR L a b)=(wrd L).filter (fun z=>decide (z=a∨z=b)):=by
  have hp:=proj_frm (a:=a) (b:=b) h
  unfold projR
  rw [wrd_tidy hp.nn hp.2,wrd_proj]
theorem projR_eq {L M:List Run} {a b:Int} (hL:Frm L) (hM:Frm M) (h:(wrd L).filter (fun z=>decide (z=a∨z=b))=(wrd M).filter (fun z=>decide (z=a∨z=b))):projR L a b=projR M a b:=by
  have pL:=proj_frm (a:=a) (b:=b) hL
  have pM:=proj_frm (a:=a) (b:=b) hM
  obtain ⟨l1,l2⟩:=tidy_sp pL.nn pL.2
  obtain ⟨m1,m2⟩:=tidy_sp pM.nn pM.2
  exact wrd_inj l1 l2 m1 m2 ((wrd_projR hL).trans (h.trans (wrd_projR hM).symm))
/-! When two rows differ to nobody. -/
theorem difRow_none {x y:List Run} {M:List (List Bool)} {a:Int}:∀ (f:Nat) (b:Int),difRow x y M a f b=none↔∀ c,b≤c→c<b+f→difAt x y M a c=false
  | 0,b=>by simp only [difRow,true_iff];intro c h1 h2;omega
  | f+1,b=>by
    rw [difRow]
    split
    · rename_i h
      simp only [reduceCtorEq,false_iff]
      intro hh
      rw [hh b (Int.le_refl _) (by omega)] at h;cases h
    · rename_i h
      rw [difRow_none f (b+1)]
      refine ⟨fun hh c h1 h2=>?_,fun hh c h1 h2=>hh c (by omega) (by omega)⟩
      by_cases e:c=b
      · subst e;simpa using h
      · exact hh c (by omega) (by omega)
theorem difAll_no {x y:List Run} {M:List (List Bool)}:∀ (f:Nat) (a:Int),0≤a→a+f=6→((difAll x y M f a).2.2=false↔(∀ c d,a≤c→c≤d→d<6→difAt x y M c d=false)∧tk (-1) x=tk (-1) y)
  | 0,a,h0,h=>by
    simp only [difAll]
    refine ⟨fun hh=>⟨fun c d h1 h2 h3=>by omega,by simpa using hh⟩,fun hh=>by simpa using hh.2⟩
  | f+1,a,h0,h=>by
    rw [difAll]
    have hr:=difRow_none (x:=x) (y:=y) (M:=M) (a:=a) (6 - a).toNat a
    unfold difRowA
    split
    · rename_i b hb
      simp only [Bool.true_eq_false,false_iff]
      intro hh
      have:difRow x y M a (6 - a).toNat a=none:=hr.2 (fun c h1 h2=>hh.1 a c (Int.le_refl _) h1 (by omega))
      rw [hb] at this;cases this
    · rename_i hb
      rw [difAll_no f (a+1) (by omega) (by omega)]
      refine ⟨fun hh=>⟨fun c d h1 h2 h3=>?_,hh.2⟩,fun hh=>⟨fun c d h1 h2 h3=>hh.1 c d (by omega) h2 h3,hh.2⟩⟩
      by_cases e:c=a
      · subst e;exact hr.1 hb d h2 (by omega)
      · exact hh.1 c d (by omega) h2 h3
theorem dif_iff {x y:List Run} {M:List (List Bool)}:(difR x y M).2.2=false↔(∀ c d,0≤c→c≤d→d<6→depB M c d=true→projR x c d=projR y c d)∧tk (-1) x=tk (-1) y:=by
  unfold difR
  rw [difAll_no 6 0 (by omega) (by omega)]
  refine and_congr ⟨fun h c d h1 h2 h3 h4=>?_,fun h c d h1 h2 h3=>?_⟩ Iff.rfl
  · have:=h c d h1 h2 h3
    unfold difAt at this
    rw [h4] at this
    simpa using this
  · unfold difAt
    cases h4:depB M c d
    · rfl
    · rw [h c d h1 h2 h3 h4];simp
theorem dif_refl {x:List Run} {M:List (List Bool)}:(difR x x M).2.2=false:=dif_iff.2 ⟨fun _ _ _ _ _ _=>rfl,rfl⟩
theorem dif_trans {x y z:List Run} {M:List (List Bool)} (h1:(difR x y M).2.2=false) (h2:(difR y z M).2.2=false):(difR x z M).2.2=false:=by
  rw [dif_iff] at *
  exact ⟨fun c d a1 a2 a3 a4=>(h1.1 c d a1 a2 a3 a4).trans (h2.1 c d a1 a2 a3 a4),h1.2.trans h2.2⟩
end Go.Ab.T
namespace Go.Ab.T
open Go Go.Ab
set_option maxHeartbeats 4000000
/-! Moves that may be leave all the same to those who depend. Plain. -/
theorem set_two {L:List Run} {i j:Nat} {x y:Run} (hij:i<j) (hj:j<L.length):(L.set i x).set j y=L.take i++x::((L.drop (i+1)).take (j - (i+1))++y::L.drop (j+1)):=by
  refine list_ext (by simp;omega) fun k hk=>?_
  simp only [List.length_set] at hk
  rw [nth_set (by simpa using hk),nth_set hk]
  have hti:(L.take i).length=i:=by simp;omega
  have htm:((L.drop (i+1)).take (j - (i+1))).length=j - (i+1):=by simp;omega
  by_cases h1:k<i
  · rw [if_neg (by omega),if_neg (by omega),nth_app_l (by omega),nth_take h1]
  · have e:∀ (A:List Run) (c:Run) (B:List Run),A.length≤k→nth (A++c::B) k=if k=A.length then c else nth B (k - A.length - 1):=fun A c B hA=>by
      simp only [nth,List.getD,List.getElem?_append_right hA]
      split
      · rename_i h;rw [h];simp
      · rename_i h
        obtain ⟨m,hm⟩:∃ m,k - A.length=m+1:=⟨k - A.length - 1,by omega⟩
        rw [hm];simp
    rw [e _ _ _ (by omega),hti]
    by_cases h2:k=i
    · rw [if_neg (by omega),if_pos (by omega),if_pos h2]
    · rw [if_neg h2]
      by_cases h3:k<j
      · rw [if_neg (by omega),if_neg (by omega),nth_app_l (by omega),nth_take (by omega),nth_drop];congr 1;omega
      · have e2:∀ (A:List Run) (c:Run) (B:List Run),A.length≤k - i - 1→nth (A++c::B) (k - i - 1)=if k - i - 1=A.length then c else nth B (k - i - 1 - A.length - 1):=fun A c B hA=>by
          simp only [nth,List.getD,List.getElem?_append_right hA]
          split
          · rename_i h;rw [h];simp
          · rename_i h
            obtain ⟨m,hm⟩:∃ m,k - i - 1 - A.length=m+1:=⟨k - i - 1 - A.length - 1,by omega⟩
            rw [hm];simp
        rw [e2 _ _ _ (by omega),htm]
        by_cases h4:k=j
        · rw [if_pos (by omega),if_pos (by omega)]
        · rw [if_neg (by omega),if_neg (by omega),if_neg (by omega),nth_drop];congr 1;omega
theorem split_two {L:List Run} {i j:Nat} (hij:i<j) (hj:j<L.length):L=L.take i++nth L i::((L.drop (i+1)).take (j - (i+1))++nth L j::L.drop (j+1)):=by
  have e:(L.set i (nth L i)).set j (nth L j)=L:=by
    refine list_ext (by simp) fun k hk=>?_
    simp only [List.length_set] at hk
    rw [nth_set (by simpa using hk),nth_set hk]
    split
    · rename_i h;rw [h]
    · split
      · rename_i h;rw [h]
      · rfl
  conv=>lhs;rw [← e]
  exact set_two hij hj
theorem depB_symm {C:Config} {a b:Int}:depB (depM C) a b=depB (depM C) b a:=by
  unfold depB
  rw [Bool.or_comm (matB _ a b)]
  by_cases h:a=b
  · rw [h]
  · rw [decide_eq_false h,decide_eq_false (Ne.symm h)]
theorem wrd_nil_of {q:Int→Bool} {B:List Run} (h:∀ r∈B,q r.part=false):(wrd B).filter q=[]:=by
  rw [← wrd_filter]
  have:B.filter (fun r=>q r.part)=[]:=List.filter_eq_nil_iff.2 (fun r hr=>by simp [h r hr])
  rw [this];rfl
theorem move_filter {L : List Run} {m : Move} {q : Int → Bool} (hf : Frm L) (hp : placesB L m = true) (he : (nth L m.i.toNat).part = (nth L m.j.toNat).part) (hq : q (nth L m.i.toNat).part = true → ∀ r ∈ between L m, q r.part = false) :
    (wrd (movd L (toI m) (fromI m))).filter q=(wrd L).filter q:=by
  have hpl:=hp
  simp only [placesB,decide_eq_true_eq] at hpl
  have hij:m.i.toNat<m.j.toNat:=by omega
  have hj:m.j.toNat<L.length:=by omega
  have hb:between L m=(L.drop (m.i.toNat+1)).take (m.j.toNat - (m.i.toNat+1)):=by
    unfold between;rw [show (m.i+1).toNat=m.i.toNat+1 by omega]
  obtain ⟨t1,t2,t3⟩:=to_from hp
  have n1:=hf.1.nth (i:=m.i.toNat) (by omega)
  have n2:=hf.1.nth (i:=m.j.toNat) (by omega)
  have hsp:=split_two hij hj
  have hadd:=movd_add hf t1 t2 t3
  rw [hb] at hq
  have key : ∀ a b : Int, 0 ≤ a → 0 ≤ b → a + b = (nth L m.i.toNat).n + (nth L m.j.toNat).n → (a = 0 ∨ b = 0) →
      (wrd (L.take m.i.toNat++(⟨(nth L m.i.toNat).part,a⟩:Run)::((L.drop (m.i.toNat+1)).take (m.j.toNat - (m.i.toNat+1))++(⟨(nth L m.i.toNat).part,b⟩:Run)::L.drop (m.j.toNat+1)))).filter q=(wrd L).filter q:=fun a b ha hb0 hab hz=>by
    conv=>rhs;rw [hsp]
    simp only [wrd_app,wrd,List.filter_append,List.filter_replicate,←he]
    congr 1
    cases hqp:q (nth L m.i.toNat).part
    · simp
    · have:=wrd_nil_of (hq hqp)
      simp only [reduceIte,this,List.nil_append]
      rw [← List.append_assoc,←List.append_assoc,List.replicate_append_replicate,List.replicate_append_replicate]
      congr 2;omega
  by_cases hr:m.right=true
  · have ht:toI m=m.j.toNat:=by simp [toI,hr]
    have hfm:fromI m=m.i.toNat:=by simp [fromI,hr]
    rw [ht,hfm] at hadd ⊢
    unfold movd
    rw [List.set_comm _ _ (by omega),set_two hij hj,hadd,←he]
    exact key 0 _ (Int.le_refl _) (by omega) (by omega) (.inl rfl)
  · have ht:toI m=m.i.toNat:=by simp [toI,hr]
    have hfm:fromI m=m.j.toNat:=by simp [fromI,hr]
    rw [ht,hfm] at hadd ⊢
    unfold movd
    rw [set_two hij hj,hadd,←he]
    exact key _ 0 (by omega) (Int.le_refl _) (by omega) (.inr rfl)
theorem may_parts {L:List Run} {M:List (List Bool)} {m:Move} (h:mayB L M m=true):placesB L m=true∧(nth L m.i.toNat).part=(nth L m.j.toNat).part∧∀ r∈between L m,blocks M (nth L m.i.toNat).part r=false:=by
  simp only [mayB,Bool.and_eq_true,decide_eq_true_eq,Bool.not_eq_true',List.any_eq_false,Bool.not_eq_true] at h
  exact ⟨h.1.1,h.1.2,h.2⟩
theorem do_parts {L:List Run} {m:Move} (hf:Frm L) (hp:placesB L m=true):NonNeg (movd L (toI m) (fromI m))∧sumN (movd L (toI m) (fromI m))=sumN L∧doR L m=tidyGo (movd L (toI m) (fromI m)) []:=by
  obtain ⟨a,b,c⟩:=to_from hp
  exact ⟨movd_nn hf a b,movd_sum hf a b c,by rw [doR,if_pos hp]⟩
theorem do_tk {L:List Run} {m:Move} {p:Int} (hf:Frm L) (hp:placesB L m=true) (he:(nth L m.i.toNat).part=(nth L m.j.toNat).part):tk p (doR L m)=tk p L:=by
  obtain ⟨h1,h2,h3⟩:=do_parts hf hp
  obtain ⟨a,b,c⟩:=to_from hp
  have hs:=hf.2
  rw [h3,(tidy_of0 h1 (by omega)).tks,posL_tk h1]
  refine movd_tk hf a b c ?_
  unfold toI fromI
  split
  · exact he.symm
  · exact he
theorem do_same {C:Config} {L:List Run} {m:Move} (hf:Frm L) (hm:mayB L (depM C) m=true):(difR L (doR L m) (depM C)).2.2=false:=by
  obtain ⟨hp,he,hb⟩:=may_parts hm
  obtain ⟨h1,h2,h3⟩:=do_parts hf hp
  have hs:=hf.2
  rw [dif_iff]
  refine ⟨fun c d k1 k2 k3 k4=>projR_eq hf (do_frm hf) ?_,(do_tk hf hp he).symm⟩
  rw [h3,wrd_tidy h1 (by omega)]
  refine (move_filter hf hp he (fun hq r hr=>?_)).symm
  have hbl:=hb r hr
  simp only [blocks,Bool.or_eq_false_iff,decide_eq_false_iff_not,Bool.and_eq_false_iff] at hbl
  simp only [decide_eq_true_eq] at hq
  simp only [decide_eq_false_iff_not]
  intro hrp
  rcases hbl.2 with (h4 | h4) | h4
  · omega
  · omega
  · have:depB (depM C) (nth L m.i.toNat).part r.part=true:=by
      rcases hq with hq | hq<;>rcases hrp with hrp | hrp
      · exact absurd (by omega) hbl.1
      · rw [hq,hrp];exact k4
      · rw [hq,hrp,depB_symm];exact k4
      · exact absurd (by omega) hbl.1
    rw [this] at h4;cases h4
theorem mem_posL {L:List Run} {r:Run} (h:r∈posL L):r∈L:=(List.mem_filter.1 h).1
theorem mem_setr {L:List Run} {i:Nat} {x r:Run} (h:r∈L.set i x):r=x∨r∈L:=by
  rcases List.mem_or_eq_of_mem_set h with h | h
  · exact .inr h
  · exact .inl h
theorem do_frame {L:List Run} {m:Move} (h:frameB L=true) (hp:placesB L m=true):frameB (doR L m)=true:=by
  have hf:=frameB_frm h
  obtain ⟨h1,h2,h3⟩:=do_parts hf hp
  obtain ⟨a,b,c⟩:=to_from hp
  have hl:=do_len hf hp
  have hL:=frameB_len h
  have hs:=hf.2
  have hff:=do_frm (m:=m) hf
  have ti:=tidy_of0 h1 (by omega)
  have hall:∀ r∈L,runB r=true:=by simp only [frameB,Bool.and_eq_true,List.all_eq_true] at h;exact h.1
  simp only [frameB,Bool.and_eq_true,decide_eq_true_eq,List.all_eq_true]
  refine ⟨fun r hr=>?_, ?_,by omega,hff.2⟩
  · have q1:=hff.1 r hr
    have q2:=n_le_sum hff.1 r hr
    have q3:=hff.2
    rw [h3] at hr
    obtain ⟨x,hx,hxp⟩:=ti.parts r hr
    have hpt : -1≤x.part∧x.part<6:=by
      have hx2:=mem_posL hx
      have rng:∀ y∈L,-1≤y.part∧y.part<6:=fun y hy=>by
        have:=hall y hy;simp only [runB,decide_eq_true_eq] at this;omega
      unfold movd at hx2
      rcases mem_setr hx2 with rfl | hx2
      · exact rng (nth L (fromI m)) (nth_mem b)
      · rcases mem_setr hx2 with rfl | hx2
        · exact rng (nth L (toI m)) (nth_mem a)
        · exact rng x hx2
    simp only [runB,decide_eq_true_eq]
    omega
  · rw [h3]
    refine List.length_pos_iff.2 (ti.ne fun h0=>?_)
    have:=posL_sum h1
    rw [h0,h2] at this
    have:=frm_len hf.1
    simp only [sumN] at *
    omega
theorem draw_valid {C:Config} {L:List Run} (h:frameB L=true) (hd:(drawR C L).2=true):validB C L (drawR C L).1=true:=by
  rcases draw_cases (C:=C) (L:=L) with ⟨m,h1,h2,h3⟩ | ⟨h2,_⟩
  · rw [h2]
    have hm:=allR_mem h1
    simp only [validB,do_same (frameB_frm h) hm,h3,do_frame h (may_places hm)];rfl
  · rw [h2] at hd;cases hd
end Go.Ab.T
namespace Go.Ab.T
open Go Go.Ab
set_option maxHeartbeats 4000000
/-! What stays as a table is turned about. Plain. -/
def busy (r:Run):Bool:=decide (r.part≠-1)
theorem countP_set {L:List Run} {i:Nat} {r:Run} (hi:i<L.length) (h:r.part=(nth L i).part):(L.set i r).countP busy=L.countP busy:=by
  have e:(L.set i r).map (fun x=>x.part)=L.map (fun x=>x.part):=by
    refine list_ext (by simp) fun k hk=>?_
    simp only [List.length_map,List.length_set] at hk
    rw [nth_map (by simpa using hk),nth_map hk,nth_set hk]
    split
    · rename_i h2;rw [h,h2]
    · rfl
  have c:∀ l:List Run,l.countP busy=(l.map fun x=>x.part).countP (fun z=>decide (z≠-1)):=fun l=>by rw [List.countP_map];rfl
  rw [c,c,e]
theorem countP_tidy:∀ (l A:List Run),(tidyGo l A).countP busy≤A.countP busy+l.countP busy
  | [],A=>by simp [tidyGo]
  | r::l,A=>by
    rw [tidyGo]
    split
    · have:=countP_tidy l A
      rw [List.countP_cons];omega
    · split
      · rename_i h
        have h1:=countP_tidy l (A.set (A.length - 1) ⟨(nth A (A.length - 1)).part,addR (nth A (A.length - 1)).n r.n⟩)
        rw [countP_set (r:=⟨(nth A (A.length - 1)).part,addR (nth A (A.length - 1)).n r.n⟩) (by omega) rfl] at h1
        rw [List.countP_cons];omega
      · have:=countP_tidy l (A++[r])
        rw [List.countP_append,List.countP_singleton] at this
        rw [List.countP_cons];omega
theorem do_busy {L:List Run} {m:Move} (hf:Frm L) (hp:placesB L m=true):(doR L m).countP busy≤L.countP busy:=by
  obtain ⟨h1,h2,h3⟩:=do_parts hf hp
  obtain ⟨a,b,c⟩:=to_from hp
  rw [h3]
  have:=countP_tidy (movd L (toI m) (fromI m)) []
  unfold movd at this ⊢
  rw [countP_set (by simpa using b) (by rw [nth_set b,if_neg c]),countP_set (r:=⟨(nth L (toI m)).part,addR (nth L (toI m)).n (nth L (fromI m)).n⟩) a rfl] at this
  simpa using this
theorem tidy_idem {L:List Run} (h:NonNeg L) (hs:sumN L≤4096):tidyGo (tidyGo L []) []=tidyGo L []:=by
  have t:=tidy_of0 h hs
  exact tidy_stays t.pos t.sep
theorem do_tidy {L:List Run} {m:Move} (hf:Frm L) (hp:placesB L m=true):tidyGo (doR L m) []=doR L m:=by
  obtain ⟨h1,h2,h3⟩:=do_parts hf hp
  have hs:=hf.2
  rw [h3];exact tidy_idem h1 (by omega)
structure Kept (C:Config) (L X:List Run):Prop where
  fr:frameB X=true
  ti:tidyGo X []=X
  df:(difR L X (depM C)).2.2=false
  sm:sumN X=sumN L
  tk:∀ p,tk p X=tk p L
  ho:holdsR C L=0→holdsR C X=0
  bs:X.countP busy≤L.countP busy
theorem Kept.refl {C:Config} {L:List Run} (h:frameB L=true) (ht:tidyGo L []=L):Kept C L L:=⟨h,ht,dif_refl,rfl,fun _=>rfl,id,Nat.le_refl _⟩
theorem Kept.trans {C:Config} {L X Y:List Run} (a:Kept C L X) (b:Kept C X Y):Kept C L Y:=
  ⟨b.fr,b.ti,dif_trans a.df b.df,b.sm.trans a.sm,fun p=>(b.tk p).trans (a.tk p),fun h=>b.ho (a.ho h),Nat.le_trans b.bs a.bs⟩
theorem draw_kept {C:Config} {L:List Run} (h:frameB L=true) (hd:(drawR C L).2=true):Kept C L (drawR C L).1:=by
  rcases draw_cases (C:=C) (L:=L) with ⟨m,h1,h2,h3⟩ | ⟨h2,_⟩
  · have hm:=allR_mem h1
    have hp:=may_places hm
    have hf:=frameB_frm h
    obtain ⟨_,he,_⟩:=may_parts hm
    obtain ⟨d1,d2,d3⟩:=do_parts hf hp
    have hs:=hf.2
    rw [h2]
    refine ⟨do_frame h hp,do_tidy hf hp,do_same hf hm, ?_,fun p=>do_tk hf hp he,fun _=>h3,do_busy hf hp⟩
    simp only
    rw [d3,(tidy_of0 d1 (by omega)).sum,posL_sum d1,d2]
  · rw [h2] at hd;cases hd
theorem step_tidy {C:Config} {L:List Run} (h:frameB L=true) (ht:tidyGo L []=L):stepR C L=if (drawR C L).2=true then ((drawR C L).1,true) else (L,false):=by
  have hm:(mergeR L).2=false:=by simp [mergeR,ht]
  unfold stepR
  rw [if_neg (by simp [hm])]
  by_cases hd:(drawR C L).2=true
  · rw [if_pos ⟨hd,draw_valid h hd⟩,if_pos hd]
  · rw [if_neg (fun hh=>hd hh.1),if_neg hd]
theorem runsGo_kept {C:Config}:∀ (f:Nat) (L:List Run) (n:Int),frameB L=true→tidyGo L []=L→L.length<f→Kept C L (runsGo C f L n).1∧stuckB C (runsGo C f L n).1=true∧(stuckB C L=true→runsGo C f L n=(L,n))
  | 0,L,n,h,ht,hf=>by omega
  | f+1,L,n,h,ht,hf=>by
    rw [runsGo,step_tidy h ht]
    by_cases hd:(drawR C L).2=true
    · have hk:=draw_kept h hd
      have hl:=draw_len (frameB_frm h) hd
      rw [if_pos hd,if_pos rfl]
      obtain ⟨a,b,_⟩:=runsGo_kept f (drawR C L).1 (n+1) hk.fr hk.ti (by omega)
      exact ⟨hk.trans a,b,fun hs=>by simp [stuckB,hd] at hs⟩
    · rw [if_neg hd,if_neg (by simp)]
      exact ⟨.refl h ht,by simpa [stuckB] using hd,fun _=>rfl⟩
theorem runs_kept {C:Config} {L:List Run} (h:frameB L=true) (ht:tidyGo L []=L):Kept C L (runsR C L).1∧stuckB C (runsR C L).1=true∧(stuckB C L=true→runsR C L=(L,0)):=runsGo_kept _ _ _ h ht (by omega)
theorem red_cases {C : Config} {T : List Node} (h1 : (ofR T).2 = 0) (h2 : holdsR C (ofR T).1 = 0) :
    (redR C T=(T,⟨0,(ofR T).1.length,(ofR T).1.length,T.length,T.length,true⟩,0)) ∨
    ∃ X n,Kept C (ofR T).1 X∧stuckB C X=true∧(foldR X).length≤T.length∧ofR (foldR X)=(X,0)∧redR C T=(foldR X,⟨n,X.length,(ofR T).1.length,(foldR X).length,T.length,false⟩,0)∧redR C (foldR X)=(foldR X,⟨0,X.length,X.length,(foldR X).length,(foldR X).length,false⟩,0):=by
  obtain ⟨f1,f2,f3⟩:=of_frame h1
  obtain ⟨k1,k2,_⟩:=runs_kept (C:=C) f1 f2
  unfold redR
  rw [if_neg (by simp [h1]),if_neg (by simp [h2])]
  by_cases hl:T.length<(foldR (runsR C (ofR T).1).1).length
  · rw [if_pos hl];exact .inl rfl
  · rw [if_neg hl]
    have ho:=fold_of k1.fr (by omega) k1.ti
    refine .inr ⟨_,_,k1,k2,by omega,ho,rfl, ?_⟩
    have e:=(runs_kept (C:=C) k1.fr k1.ti).2.2 k2
    rw [ho]
    simp only
    rw [if_neg (by simp),if_neg (by simp [k1.ho h2]),e,if_neg (by simp)]
theorem made_tabs {C:Config} (m:Made C):∀ T∈C.tables,(ofR T).2=0∧holdsR C (ofR T).1=0:=fun T hT=>by
  have:=((where_iff).1 m.wh).2.2.2 T hT
  rw [tableR_iff] at this
  exact ⟨this.1.1,this.2⟩
end Go.Ab.T
namespace Go.Ab.T
open Go Go.Ab
set_option maxHeartbeats 4000000
theorem reduceAgain_ev {L:List Int} (hL:L.length<4000000000):Pf tp i_Q0 [.fl 1 (L.map encI)] (.b true):=by
  refine Pf_go fn_Q0 (by simp [t_Q0]) fun rp=>?_;unfold t_Q0;simp (disch:=omega)only[go_sem, *]
  refine config_ev (id:=0) (k:=0) (L:=L) ?_ (by omega) hL ?_ ?_
  · simp only [tapeB]
    simp (disch:=omega)only[go_sem, *]
    all_goals rfl
  · simp (disch:=omega)only[go_sem, *]
  intro C j hj hC
  have t1:=hC.tb
  have mt:=made_tabs hC
  have hrt:=fun T=>redTable_ev (C:=C) (T:=T)
  simp only [Config.enc] at hrt
  simp (disch:=omega)only[go_sem, *]
  refine ZC_loop_n (fun n e h=>∃ (i:Nat),n=C.tables.length - i∧h.lim=0∧e 17=.fl 1 (C.tables.map Tab.enc)∧e 18=.i .i64 C.tables.length∧e 19=.i .i64 i∧e 3=.p 1 0 0∧i≤C.tables.length∧h.get 1=some ⟨3,[[.fl 11 (C.parts.map Part.enc),.fl 6 (C.chans.map Chan.enc),.fl 1 (C.tables.map Tab.enc)]]⟩∧2≤h.next) ?_ _ _ _ ⟨0,rfl, ?_⟩
  · rintro n e h ⟨i,rfl,hl,e17,e18,e19,e3,hi,hg,hn⟩ ih
    rw [ZC_unf Q0_10.eq_1]
    simp (disch:=omega)only[go_sem, *]
    refine Wb_dec (fun hc=>?_) (fun hc=>?_)
    · obtain ⟨m1,m2⟩:=mt _ (nth_mem (L:=C.tables) (j:=i) (by omega))
      have r1:=hrt (nth C.tables i)
      rcases red_cases m1 m2 with hr | ⟨X,nn,_,_,_,_,hr,hr2⟩
      · rw [hr] at r1
        clear hrt mt
        simp (disch:=omega)only[go_sem, *]
        refine Pf.go (r1) (by simp only [go_sem]) fun _=>?_;simp (disch:=omega)only[go_sem, *]
        refine Pf.go (r1) (by simp only [go_sem]) fun _=>?_;simp (disch:=omega)only[go_sem, *]
        refine Pf.go (refNodes_ev) (by simp only [go_sem]) fun _=>?_;simp (disch:=omega)only[go_sem, *]
        refine ih _ _ _ ?_ ⟨i+1,rfl, ?_⟩
        · omega
        · simp (disch:=omega)only[go_sem, *]
          ((repeat' refine And.intro ?_ ?_)<;>first | omega | assumption)
      · have r2:=hrt (foldR X)
        rw [hr2] at r2
        rw [hr] at r1
        clear hrt mt
        simp (disch:=omega)only[go_sem, *]
        refine Pf.go (r1) (by simp only [go_sem]) fun _=>?_;simp (disch:=omega)only[go_sem, *]
        refine Pf.go (r2) (by simp only [go_sem]) fun _=>?_;simp (disch:=omega)only[go_sem, *]
        refine Pf.go (refNodes_ev) (by simp only [go_sem]) fun _=>?_;simp (disch:=omega)only[go_sem, *]
        refine ih _ _ _ ?_ ⟨i+1,rfl, ?_⟩
        · omega
        · simp (disch:=omega)only[go_sem, *]
          ((repeat' refine And.intro ?_ ?_)<;>first | omega | assumption)
    · simp (disch:=omega)only[go_sem, *]
      refine Pf.go (known11_ev) (by simp only [go_sem]) fun _=>?_;simp (disch:=omega)only[go_sem, *]
  · simp (disch:=omega)only[go_sem, *]
end Go.Ab.T
