/- Part of a proof that a law returns true for every input of the second form's bound (no other condition). -/
import Derived.JoinedCond
import Derived.ChangeArms
import Derived.WalkKit
import Derived.ProofKit
import Derived.OpenShut
import Derived.ShutString
import Derived.ChangeOld
import Derived.SizedLaws
import Derived.Test.YtcjjajphbamjlaaGreatPJ
import Derived.Test.YtcjjajphbamjlaaGreatPI
import Derived.Test.YtcjjajphbamjlaaGreatPC
import Derived.Test.YtcjjajphbamjlaaGreatPE
set_option linter.all false
namespace Go.Ab.T
open Go Go.Ab
set_option maxHeartbeats 4000000
/-! Items as trees: what folding does to them. Plain. -/
theorem Fo.flat_inj:∀ (f g:Fo) (R R':List Node),f.ok→g.ok→f.count=g.count→f.flat++R=g.flat++R'→f=g∧R=R'
  | .nil,.nil,R,R',_,_,_,h=>⟨rfl,by simpa [Fo.flat] using h⟩
  | .nil,.leaf _ _,_,_,_,_,hc,_=>by simp [Fo.count] at hc
  | .nil,.seq _ _ _,_,_,_,_,hc,_=>by simp [Fo.count] at hc
  | .nil,.rep _ _ _,_,_,_,_,hc,_=>by simp [Fo.count] at hc
  | .leaf _ _,.nil,_,_,_,_,hc,_=>by simp [Fo.count] at hc
  | .seq _ _ _,.nil,_,_,_,_,hc,_=>by simp [Fo.count] at hc
  | .rep _ _ _,.nil,_,_,_,_,hc,_=>by simp [Fo.count] at hc
  | .leaf x r,.leaf y s,R,R',hf,hg,hc,h=>by
    simp only [Fo.flat,List.cons_append,List.cons.injEq] at h
    obtain ⟨h1,h2⟩:=Fo.flat_inj r s R R' hf.2 hg.2 (by simpa [Fo.count] using hc) h.2
    exact ⟨by rw [h.1,h1],h2⟩
  | .leaf x r,.seq y k s,R,R',hf,hg,hc,h=>by
    simp only [Fo.flat,List.cons_append,List.cons.injEq] at h
    have:=hf.1;have:=hg.2.1;have:=hg.2.2.1;rw [h.1] at *;omega
  | .leaf x r,.rep y k s,R,R',hf,hg,hc,h=>by
    simp only [Fo.flat,List.cons_append,List.cons.injEq] at h
    have:=hf.1;have:=hg.2.1;rw [h.1] at *;omega
  | .seq y k s,.leaf x r,R,R',hf,hg,hc,h=>by
    simp only [Fo.flat,List.cons_append,List.cons.injEq] at h
    have:=hg.1;have:=hf.2.1;have:=hf.2.2.1;rw [h.1] at *;omega
  | .rep y k s,.leaf x r,R,R',hf,hg,hc,h=>by
    simp only [Fo.flat,List.cons_append,List.cons.injEq] at h
    have:=hg.1;have:=hf.2.1;rw [h.1] at *;omega
  | .seq y k s,.rep x l r,R,R',hf,hg,hc,h=>by
    simp only [Fo.flat,List.cons_append,List.cons.injEq] at h
    have:=hf.1;have:=hg.1;rw [h.1] at *;omega
  | .rep y k s,.seq x l r,R,R',hf,hg,hc,h=>by
    simp only [Fo.flat,List.cons_append,List.cons.injEq] at h
    have:=hf.1;have:=hg.1;rw [h.1] at *;omega
  | .seq y k s,.seq x l r,R,R',hf,hg,hc,h=>by
    simp only [Fo.flat,List.cons_append,List.cons.injEq,List.append_assoc] at h
    obtain ⟨h0,h⟩:=h
    subst h0
    obtain ⟨h1,h2⟩:=Fo.flat_inj k l _ _ hf.2.2.2.1 hg.2.2.2.1 (by have:=hf.2.1;have:=hg.2.1;omega) h
    obtain ⟨h3,h4⟩:=Fo.flat_inj s r _ _ hf.2.2.2.2 hg.2.2.2.2 (by simpa [Fo.count] using hc) h2
    exact ⟨by rw [h1,h3],h4⟩
  | .rep y k s,.rep x l r,R,R',hf,hg,hc,h=>by
    simp only [Fo.flat,List.cons_append,List.cons.injEq,List.append_assoc] at h
    obtain ⟨h0,h⟩:=h
    subst h0
    obtain ⟨h1,h2⟩:=Fo.flat_inj k l _ _ hf.2.2.2.1 hg.2.2.2.1 (by have:=hf.2.2.1;have:=hg.2.2.1;omega) h
    obtain ⟨h3,h4⟩:=Fo.flat_inj s r _ _ hf.2.2.2.2 hg.2.2.2.2 (by simpa [Fo.count] using hc) h2
    exact ⟨by rw [h1,h3],h4⟩
theorem foOf_flat {f:Fo} (ho:f.ok) (hc:f.count=1) (hd:f.depth≤16) (hl:f.len≤4096) (hn:f.flat.length≤128):foOf f.flat=f:=by
  obtain ⟨_,h1,h2,h3,_⟩:=foOf_ok (right_flat ho hc hd hl hn)
  have:=Fo.flat_inj f (foOf f.flat) [] [] ho h1 (by rw [hc,h2]) (by rw [List.append_nil,List.append_nil];exact h3)
  exact this.1.symm
structure SnocOk (f g:Fo):Prop where
  flat:(Fo.snoc f g).flat=f.flat++g.flat
  count:(Fo.snoc f g).count=f.count+g.count
  ok:f.ok→g.ok→(Fo.snoc f g).ok
  runs:(Fo.snoc f g).runs=f.runs++g.runs
  depth:(Fo.snoc f g).depth=max f.depth g.depth
theorem snoc_ok:∀ (f g:Fo),SnocOk f g
  | .nil,g=>⟨by simp [Fo.snoc,Fo.flat],by simp [Fo.snoc,Fo.count],fun _ h=>h,by simp [Fo.snoc,Fo.runs],by simp [Fo.snoc,Fo.depth]⟩
  | .leaf x r,g=>by
    obtain ⟨a,b,c,d,e⟩:=snoc_ok r g
    exact ⟨by simp [Fo.snoc,Fo.flat,a],by simp only [Fo.snoc,Fo.count,b];omega,fun h1 h2=>⟨h1.1,c h1.2 h2⟩,by simp [Fo.snoc,Fo.runs,d],by simp only [Fo.snoc,Fo.depth,e];omega⟩
  | .seq x k r,g=>by
    obtain ⟨a,b,c,d,e⟩:=snoc_ok r g
    exact ⟨by simp [Fo.snoc,Fo.flat,a],by simp only [Fo.snoc,Fo.count,b];omega,fun h1 h2=>⟨h1.1,h1.2.1,h1.2.2.1,h1.2.2.2.1,c h1.2.2.2.2 h2⟩,by simp [Fo.snoc,Fo.runs,d],by simp only [Fo.snoc,Fo.depth,e];omega⟩
  | .rep x k r,g=>by
    obtain ⟨a,b,c,d,e⟩:=snoc_ok r g
    exact ⟨by simp [Fo.snoc,Fo.flat,a],by simp only [Fo.snoc,Fo.count,b];omega,fun h1 h2=>⟨h1.1,h1.2.1,h1.2.2.1,h1.2.2.2.1,c h1.2.2.2.2 h2⟩,by simp [Fo.snoc,Fo.runs,d],by simp only [Fo.snoc,Fo.depth,e];omega⟩
def catF:List Fo→Fo
  | []=>.nil
  | f::l=>Fo.snoc f (catF l)
def ItF (f:Fo):Prop:=f.ok∧f.count=1∧∃ k,f.depth≤1+2*k∧2 ^ k≤f.runs.length
theorem cat_ok:∀ (F:List Fo),(∀ f∈F,ItF f)→(catF F).ok∧(catF F).count=F.length∧(catF F).flat=(F.map Fo.flat).flatten∧(catF F).runs=(F.map Fo.runs).flatten∧(F=[]∨∃ k,(catF F).depth≤1+2*k∧2 ^ k≤(catF F).runs.length)
  | [],_=>⟨trivial,rfl,rfl,rfl,.inl rfl⟩
  | f::l,h=>by
    obtain ⟨a1,a2,k1,a3,a4⟩:=h f (List.mem_cons_self ..)
    obtain ⟨b1,b2,b3,b4,b5⟩:=cat_ok l (fun g hg=>h g (List.mem_cons_of_mem _ hg))
    obtain ⟨c1,c2,c3,c4,c5⟩:=snoc_ok f (catF l)
    refine ⟨c3 a1 b1,by simp only [catF,c2,a2,b2,List.length_cons];omega,by simp [catF,c1,b3],by simp [catF,c4,b4],.inr ?_⟩
    simp only [catF,c5,c4,List.length_append]
    rcases b5 with rfl | ⟨k2,b5,b6⟩
    · refine ⟨k1, ?_,by omega⟩
      simp only [catF,Fo.depth];omega
    · rcases Nat.le_total k1 k2 with hk | hk
      · exact ⟨k2,by omega,by omega⟩
      · exact ⟨k1,by omega,by omega⟩
def joinF (F:List Fo):Fo:=if F.length=1 then catF F else .seq ⟨3,0,F.length⟩ (catF F) .nil
theorem join_ok {F:List Fo} (h:∀ f∈F,ItF f) (h0:1≤F.length) (h1:F.length≤128):(joinF F).ok∧(joinF F).count=1∧(joinF F).flat=joinX (F.map Fo.flat)∧(joinF F).runs=(F.map Fo.runs).flatten∧∃ k,(joinF F).depth≤2+2*k∧2 ^ k≤(joinF F).runs.length:=by
  obtain ⟨b1,b2,b3,b4,b5⟩:=cat_ok F h
  have hne:F≠[]:=by rintro rfl;simp at h0
  obtain ⟨k,b5,b6⟩:=b5.resolve_left hne
  unfold joinF joinX
  by_cases hl:F.length=1
  · rw [if_pos hl,if_pos (by simpa using hl)]
    exact ⟨b1,by omega,b3,b4,k,by omega,b6⟩
  · rw [if_neg hl,if_neg (by simpa using hl)]
    refine ⟨⟨rfl, ?_,by omega,b1,trivial⟩,rfl,by simp [Fo.flat,b3],by simp [Fo.runs,b4],k,by simp only [Fo.depth];omega,by simpa [Fo.runs] using b6⟩
    unfold kids;simp;omega
def foldF (F:List Fo) (s:St):List Fo:=F.take s.i++[.rep ⟨4,0,s.n⟩ (joinF ((F.drop s.i).take s.p)) .nil]++F.drop (s.i+s.p*s.n)
theorem foldF_ok {F:List Fo} {s:St} (h:∀ f∈F,ItF f) (hl:F.length≤128) (fs:FoldS (F.map Fo.flat) s):(∀ f∈foldF F s,ItF f)∧(foldF F s).map Fo.flat=foldAt (F.map Fo.flat) s∧((foldF F s).map Fo.runs).flatten=(F.map Fo.runs).flatten:=by
  have hp:=fs.p;have hn:=fs.n;have hle:=fs.le;have hbl:=fs.bl
  simp only [List.length_map,List.length_take,List.length_drop] at hle hbl
  have hB:∀ f∈(F.drop s.i).take s.p,ItF f:=fun f hf=>h f (List.mem_of_mem_drop (List.mem_of_mem_take hf))
  have hBl:((F.drop s.i).take s.p).length=s.p:=by rw [List.length_take,List.length_drop];omega
  have hpl:s.p≤s.p*s.n:=by have:=Nat.mul_le_mul (Nat.le_refl s.p) (show 1≤s.n by omega);omega
  obtain ⟨j1,j2,j3,j4,k,j5,j6⟩:=join_ok hB (by omega) (by omega)
  have hF:F=F.take s.i++(List.replicate s.n ((F.drop s.i).take s.p)).flatten++F.drop (s.i+s.p*s.n):=by
    refine map_inj_of (f:=Fo.flat) (fun x hx y hy hxy=>?_) ?_
    · have hy2:y∈F:=by
        rcases List.mem_append.1 hy with hy | hy
        · rcases List.mem_append.1 hy with hy | hy
          · exact List.mem_of_mem_take hy
          · obtain ⟨l,hl,hy⟩:=List.mem_flatten.1 hy
            rw [List.eq_of_mem_replicate hl] at hy
            exact List.mem_of_mem_drop (List.mem_of_mem_take hy)
        · exact List.mem_of_mem_drop hy
      exact (Fo.flat_inj x y [] [] (h x hx).1 (h y hy2).1 (by rw [(h x hx).2.1,(h y hy2).2.1]) (by rw [List.append_nil,List.append_nil];exact hxy)).1
    · have e:=fs.eq
      rw [List.map_append,List.map_append,List.map_flatten,List.map_replicate,List.map_take,List.map_take,List.map_drop,List.map_drop]
      exact e
  refine ⟨fun f hf=>?_, ?_, ?_⟩
  · rcases List.mem_append.1 hf with hf | hf
    · rcases List.mem_append.1 hf with hf | hf
      · exact h f (List.mem_of_mem_take hf)
      · rw [List.mem_singleton.1 hf]
        refine ⟨⟨rfl, ?_,j2,j1,trivial⟩,rfl,k+1,by simp only [Fo.depth];omega, ?_⟩
        · unfold kids;simp;omega
        · simp only [Fo.runs,List.append_nil,List.length_flatten,List.map_replicate,List.sum_replicate_nat,Int.toNat_natCast]
          have:=Nat.mul_le_mul (show 2≤s.n by omega) j6
          rw [Nat.pow_succ];omega
    · exact h f (List.mem_of_mem_drop hf)
  · unfold foldF foldAt
    simp only [List.map_append,List.map_cons,List.map_nil,Fo.flat,List.append_nil,List.map_take,List.map_drop,j3]
  · conv=>rhs;rw [hF]
    unfold foldF
    simp only [List.map_append,List.map_cons,List.map_nil,Fo.runs,List.append_nil,List.flatten_append,List.flatten_singleton,j4,Int.toNat_natCast]
    congr 2
    rw [List.map_flatten,List.map_replicate,List.flatten_flatten,List.map_replicate]
theorem tabGo_ok:∀ (f:Nat) (F:List Fo),(∀ g∈F,ItF g)→1≤F.length→F.length≤128→∃ G:List Fo,(∀ g∈G,ItF g)∧1≤G.length∧G.length≤128∧tabGo f (F.map Fo.flat)=joinX (G.map Fo.flat)∧(G.map Fo.runs).flatten=(F.map Fo.runs).flatten
  | 0,F,h,h1,h2=>⟨F,h,h1,h2,rfl,rfl⟩
  | f+1,F,h,h1,h2=>by
    rw [tabGo]
    rcases best_fold (X:=F.map Fo.flat) with h0 | fs
    · rw [if_pos h0];exact ⟨F,h,h1,h2,rfl,rfl⟩
    · rw [if_neg (by have:=fs.n;omega)]
      obtain ⟨a,b,c⟩:=foldF_ok h h2 fs
      have hless:=(fold_less fs).1
      rw [← b,List.length_map,List.length_map] at hless
      obtain ⟨G,g1,g2,g3,g4,g5⟩:=tabGo_ok f (foldF F (bestX (F.map Fo.flat))) a (by simp [foldF];omega) (by omega)
      exact ⟨G,g1,g2,g3,by rw [← b];exact g4,by rw [g5,c]⟩
theorem leafN_ok {r:Run} (h:runB r=true):kids (leafN r)=0∧(⟨partR (leafN r),(leafN r).n⟩:Run)=r:=by
  simp only [runB,decide_eq_true_eq] at h
  obtain ⟨p,n⟩:=r
  simp only at h
  unfold leafN
  simp only
  split
  · rename_i hp
    subst hp
    refine ⟨?_,by simp [partR]⟩
    unfold kids;simp;omega
  · refine ⟨?_,by simp [partR]⟩
    unfold kids;simp;omega
theorem fold_tree {L:List Run} (h:frameB L=true):∃ f:Fo,foldR L=f.flat∧f.ok∧f.count=1∧f.runs=L∧f.depth≤16∧f.len≤4096:=by
  have hl:=frameB_len h
  have hall:L.all runB=true:=by simp only [frameB,Bool.and_eq_true] at h;exact h.1
  have hsum:sumN L≤4096:=by simp only [frameB,Bool.and_eq_true,decide_eq_true_eq] at h;exact h.2.2.2
  have hr:∀ r∈L,runB r=true:=fun r hr=>List.all_eq_true.1 hall r hr
  have e1:(L.map fun r=>Fo.leaf (leafN r) .nil).map Fo.flat=leavesX L:=by simp [leavesX,Fo.flat]
  have e2:((L.map fun r=>Fo.leaf (leafN r) .nil).map Fo.runs).flatten=L:=by
    clear hl hall hsum h e1
    induction L with
    | nil=>rfl
    | cons r l ih=>
      simp only [List.map_cons,List.flatten_cons,Fo.runs]
      rw [ih (fun q hq=>hr q (List.mem_cons_of_mem _ hq)),(leafN_ok (hr r (List.mem_cons_self ..))).2];rfl
  obtain ⟨G,g1,g2,g3,g4,g5⟩:=tabGo_ok L.length (L.map fun r=>Fo.leaf (leafN r) .nil) (fun g hg=>by
    obtain ⟨r,h1,rfl⟩:=List.mem_map.1 hg
    exact ⟨⟨(leafN_ok (hr r h1)).1,trivial⟩,rfl,0,by simp [Fo.depth],by simp [Fo.runs]⟩) (by simp;omega) (by simp;omega)
  obtain ⟨j1,j2,j3,j4,k,j5,j6⟩:=join_ok g1 g2 g3
  rw [e1] at g4
  rw [e2] at g5
  have hk:k≤6:=by
    rw [j4,g5] at j6
    refine Nat.le_of_not_lt (fun hk=>?_)
    have:=Nat.pow_le_pow_right (show 0<2 by omega) (show 7≤k by omega)
    omega
  refine ⟨joinF G,by unfold foldR;rw [if_pos h,g4,j3],j1,j2,by rw [j4,g5],by omega, ?_⟩
  have:=Fo.runs_sum _ j1
  rw [j4,g5] at this
  omega
theorem fold_right {L:List Run} (h:frameB L=true) (hn:(foldR L).length≤128):rightR (foldR L)=0:=by
  obtain ⟨f,h1,h2,h3,_,h5,h6⟩:=fold_tree h
  rw [h1] at hn ⊢
  exact right_flat h2 h3 h5 h6 hn
theorem fold_of {L:List Run} (h:frameB L=true) (hn:(foldR L).length≤128) (ht:tidyGo L []=L):ofR (foldR L)=(L,0):=by
  obtain ⟨f,h1,h2,h3,h4,h5,h6⟩:=fold_tree h
  rw [ofR_good (fold_right h hn)]
  rw [h1] at hn ⊢
  have hl:=frameB_len h
  rw [foOf_flat h2 h3 h5 h6 hn,ofT,h4,ht,if_neg (by omega)]
end Go.Ab.T
namespace Go.Ab.T
open Go Go.Ab
set_option maxHeartbeats 4000000
theorem res_tct {e:Env} {h:AH} {n m k l:Nat} {g:Bool}:resOf e h [.t n,.cell m k g,.t l]=(cellV h k g (e m)).map fun v=>.tup [e n,v,e l]:=by
  simp only [resOf,rvs,rvOf_cell]
  cases cellV h k g (e m)<;>rfl
attribute [go_sem] res_tct
theorem leaf_part {x:Node} (h:kids x=0): -1≤partR x∧partR x<6:=by
  unfold kids at h
  unfold partR
  split at h
  · omega
  · split at h
    · split<;>omega
    · split at h
      · omega
      · split at h<;>omega
theorem Fo.runs_rng:∀ (f:Fo),f.ok→∀ r∈f.runs,-1≤r.part∧r.part<6
  | .nil,_,r,hr=>by cases hr
  | .leaf x r,ho,q,hq=>by
    rcases List.mem_cons.1 hq with rfl | hq
    · exact leaf_part ho.1
    · exact Fo.runs_rng r ho.2 q hq
  | .seq x k r,ho,q,hq=>by
    rcases List.mem_append.1 hq with hq | hq
    · exact Fo.runs_rng k ho.2.2.2.1 q hq
    · exact Fo.runs_rng r ho.2.2.2.2 q hq
  | .rep x k r,ho,q,hq=>by
    rcases List.mem_append.1 hq with hq | hq
    · obtain ⟨l,hl,hq⟩:=List.mem_flatten.1 hq
      rw [List.eq_of_mem_replicate hl] at hq
      exact Fo.runs_rng k ho.2.2.2.1 q hq
    · exact Fo.runs_rng r ho.2.2.2.2 q hq
theorem n_le_sum:∀ {L:List Run},AllPos L→∀ r∈L,r.n≤sumN L
  | a::l,h,r,hr=>by
    have hp:AllPos l:=fun q hq=>h q (List.mem_cons_of_mem _ hq)
    have:=sumN_pos hp
    have:=h a (List.mem_cons_self ..)
    simp only [sumN]
    rcases List.mem_cons.1 hr with rfl | hr
    · omega
    · have:=n_le_sum hp r hr;omega
theorem of_frame {T:List Node} (h:(ofR T).2=0):frameB (ofR T).1=true∧tidyGo (ofR T).1 []=(ofR T).1∧T.length≤128:=by
  have hr:rightR T=0:=by
    refine Decidable.byContradiction fun hn=>?_
    rw [ofR_bad hn] at h;exact hn h
  obtain ⟨ht,ho,hc1,hL,hd,hl⟩:=foOf_ok hr
  rw [ofR_good hr] at h ⊢
  have hap:=Fo.runs_allpos _ ho
  have hsum:=Fo.runs_sum _ ho
  have ti:=tidyOf hap (by omega)
  have hpos:=Fo.runs_pos _ ho (by omega)
  split at h
  · cases h
  rename_i hlen
  rw [if_neg hlen]
  unfold ofT at *
  have hs:sumN (tidyGo (foOf T).runs [])≤4096:=by rw [ti.sum];omega
  refine ⟨?_,tidy_stays ti.pos ti.sep,ht⟩
  simp only [frameB,Bool.and_eq_true,decide_eq_true_eq,List.all_eq_true]
  refine ⟨fun r hr=>?_, ?_,by omega,hs⟩
  · obtain ⟨q,hq,he⟩:=ti.parts r hr
    have:=Fo.runs_rng _ ho q hq
    have:=ti.pos r hr
    have:=n_le_sum ti.pos r hr
    simp only [runB,decide_eq_true_eq]
    omega
  · have:=ti.ne (by intro h0;rw [h0] at hpos;simp at hpos)
    exact List.length_pos_iff.2 this
theorem step_frame {C:Config} {L:List Run} (h:frameB L=true):frameB (stepR C L).1=true:=by
  have hv:∀ b,validB C L b=true→frameB b=true:=fun b hb=>by
    simp only [validB,Bool.and_eq_true] at hb;exact hb.2.2
  unfold stepR
  split
  · rename_i hc;exact hv _ hc.2
  · split
    · rename_i hc;exact hv _ hc.2
    · exact h
theorem runsGo_frame {C:Config}:∀ (f:Nat) (L:List Run) (n:Int),frameB L=true→frameB (runsGo C f L n).1=true
  | 0,L,n,h=>h
  | f+1,L,n,h=>by
    rw [runsGo]
    split
    · exact runsGo_frame f _ _ (step_frame h)
    · exact h
theorem frameB_frm {L:List Run} (h:frameB L=true):Frm L:=by
  simp only [frameB,Bool.and_eq_true,decide_eq_true_eq,List.all_eq_true] at h
  refine ⟨fun r hr=>?_,h.2.2.2⟩
  have:=h.1 r hr
  simp only [runB,decide_eq_true_eq] at this;omega
structure Rpt where
  moves:Int
  runs:Int
  was:Int
  nodes:Int
  wasn:Int
  kept:Bool
  deriving Inhabited,DecidableEq
@[go_sem] def Rpt.enc (r:Rpt):List V:=[.i .i64 r.moves,.i .i64 r.runs,.i .i64 r.was,.i .i64 r.nodes,.i .i64 r.wasn,.b r.kept]
noncomputable def redR (C:Config) (T:List Node):List Node×Rpt×Int:=
  if (ofR T).2≠0 then ([],⟨0,0,0,0,0,false⟩,(ofR T).2) else
  if holdsR C (ofR T).1≠0 then ([],⟨0,0,0,0,0,false⟩,holdsR C (ofR T).1) else
  if T.length<(foldR (runsR C (ofR T).1).1).length then (T,⟨0,(ofR T).1.length,(ofR T).1.length,T.length,T.length,true⟩,0) else
  (foldR (runsR C (ofR T).1).1,⟨(runsR C (ofR T).1).2,(runsR C (ofR T).1).1.length,(ofR T).1.length,(foldR (runsR C (ofR T).1).1).length,T.length,false⟩,0)
theorem redTable_ev {C:Config} {T:List Node}:Pf tp i_Q2 [.agg C.enc,.fl 3 (T.map Node.enc)] (.tup [.fl 3 ((redR C T).1.map Node.enc),.agg (redR C T).2.1.enc,.i .i64 (redR C T).2.2]):=by
  refine Pf_go fn_Q2 (by simp [t_Q2]) fun rp=>?_;unfold t_Q2;simp (disch:=omega)only[go_sem, *]
  have hT:=rp.tail.head.len
  have hh:=holds_ev (C:=C) (ofR_frm (L:=T))
  have hru:=redRuns_ev (C:=C) (ofR_frm (L:=T))
  simp only [Config.enc] at hh hru
  refine Pf.go (Of_ev) (by simp only [go_sem]) fun _=>?_;simp (disch:=omega)only[go_sem, *]
  refine Wb_dec (fun hc=>?_) (fun hc=>?_)
  · simp (disch:=omega)only[go_sem, *]
    refine Pf.go (hh) (by simp only [go_sem]) fun _=>?_;simp (disch:=omega)only[go_sem, *]
    refine Wb_dec (fun hc2=>?_) (fun hc2=>?_)
    · have e:redR C T=([],⟨0,0,0,0,0,false⟩,holdsR C (ofR T).1):=by unfold redR;rw [if_neg (by simp [hc]),if_pos hc2]
      simp (disch:=omega)only[go_sem, *]
    · have hc2:holdsR C (ofR T).1=0:=by omega
      have e:redR C T=if T.length<(foldR (runsR C (ofR T).1).1).length then (T,⟨0,(ofR T).1.length,(ofR T).1.length,T.length,T.length,true⟩,0) else (foldR (runsR C (ofR T).1).1,⟨(runsR C (ofR T).1).2,(runsR C (ofR T).1).1.length,(ofR T).1.length,(foldR (runsR C (ofR T).1).1).length,T.length,false⟩,0):=by
        unfold redR;rw [if_neg (by simp [hc]),if_neg (by simp [hc2])]
      have hof:=of_frame hc
      have hfr:frameB (runsR C (ofR T).1).1=true:=runsGo_frame _ _ _ hof.1
      have hT2:=hof.2.2
      clear hof
      simp (disch:=omega)only[go_sem, *]
      refine Pf.go (hru) (by simp only [go_sem]) fun _=>?_;simp (disch:=omega)only[go_sem, *]
      refine Pf.go (foldTable_ev) (by simp only [go_sem]) fun _=>?_;simp (disch:=omega)only[go_sem, *]
      refine Wg_dec (fun hc3=>?_) (fun hc3=>?_)
      · rw [if_pos (by omega)] at e
        simp (disch:=omega)only[go_sem, *]
        refine Pf.go (cloneNode_ev) (by simp only [go_sem]) fun _=>?_;simp (disch:=omega)only[go_sem, *]
      · rw [if_neg (by omega)] at e
        have hrt:=fold_right hfr (by omega)
        simp (disch:=omega)only[go_sem, *]
        refine Pf.go (nodeRight_ev) (by simp only [go_sem]) fun _=>?_;simp (disch:=omega)only[go_sem, *]
  · have e:redR C T=([],⟨0,0,0,0,0,false⟩,(ofR T).2):=by unfold redR;rw [if_pos hc]
    simp (disch:=omega)only[go_sem, *]
end Go.Ab.T
namespace Go.Ab.T
open Go Go.Ab
set_option maxHeartbeats 4000000
theorem eq_fnf {fn:Fn} {a c:List V}:eqV .fn (.f fn a c) .nf=some false:=nrfl rfl
attribute [go_sem] eq_fnf
end Go.Ab.T
namespace Go.Ab.T
open Go Go.Ab
set_option maxHeartbeats 4000000
def ZCS (tp:TP) (c:TC) (e:Env) (h:AH) (K:Ex→Env→AH→Prop):Prop:=∀ S m hc e1,Cfg S m h hc→EP S m h hc e e1→WC tp c e1 hc (fun x=>PostE S m h hc (K x))
section
variable {tp:TP} {c a b:TC} {e e2:Env} {h h2:AH} {K:Ex→Env→AH→Prop}
theorem ZCS_of (z:ZC tp c e h K):ZCS tp c e h K:=fun S m hc e1 c' p=>zc_ok c c' p z
theorem ZCS_step (st:Stp e h e2 h2) (z:ZCS tp c e2 h2 K):ZCS tp c e h K:=fun S m hc e1 c' p=>by
  obtain ⟨S',c2,a2,p2⟩:=st S m hc e1 c' p
  exact (z S' m hc e1 c2 p2).imp fun _ _ _=>PostE.then a2
theorem ZCS_seq (z:ZC tp a e h (fun x e h=>nxt x (ZCS tp b e h K) (K x e h))):ZCS tp (.seq a b) e h K:=fun S m hc e1 c' p=>by
  rw [WC_seq]
  refine (zc_ok a c' p z).imp ?_
  rintro x e1' hc' ⟨e',h',S',m',c2,a',p',z⟩
  cases x with
  | nm=>exact (z S' m' hc' e1' c2 p').imp fun _ _ _=>PostE.then a'
  | ex j=>exact ⟨e',h',S',m',c2,a',p',z⟩
  | rt=>exact ⟨e',h',S',m',c2,a',p',z⟩
end
theorem Pf_goS {tp:TP} {f:Nat} {args:List V} {R:V} {tf:TF} (hf:tp.fn f=some tf) (hl:args.length≤tf.n) (z:Reps args→ZCS tp tf.body (env0 args) AH.emp (fun x e h=>Zend tf.res x e h (fun r h'=>Frz (fun _=>True) h' 0 r R))):Pf tp f args R:=by
  intro S m hc args1 c p
  refine Ev_of hf (by rw [← p.len];exact hl) ((z p.reps S m hc _ c (EP.args p)).imp ?_)
  rintro x e1 hc' ⟨e,h',S',m',c',a',pe,z⟩
  unfold Zend at z
  unfold Wend
  have key:(Wo (resOf e h' tf.res) fun v=>Frz (fun _=>True) h' 0 v R)→Wo (resOf e1 hc' tf.res) (fun r1=>∃ r h'' S' m',Cfg S' m' h'' hc'∧Adv S m AH.emp hc S' m' h'' hc'∧PR S' m' hc'.get h''.next r r1∧r=R∧h''=AH.emp):=by
    rintro ⟨v,hv,fz⟩
    obtain ⟨v1,h1,h2⟩:=res_PR c' pe hv
    refine ⟨v1,h1,R,AH.emp,SP S' m' h' (fun _=>True),m',Cfg.emp (SP.low c') c'.bnd m',⟨fun a h=>.inl (a'.sub a h), ?_,a'.map,Nat.le_refl _,a'.next1,rfl,a'.lim1,a'.frame,fun i hi=>by simp [AH.live,AH.emp] at hi⟩,Frz.ok c' fz h2,rfl,rfl⟩
    rintro a (ha | ⟨i,_,hi,rfl⟩)
    · exact a'.new a ha
    · rcases a'.liv i hi with ⟨q1,q2⟩ | q1
      · exact absurd q1 (Nat.not_lt_zero _)
      · exact .inr (.inl q1)
  cases x with
  | ex j=>exact z.elim
  | nm=>exact key z
  | rt=>exact key z
theorem ZCS_fix {tp : TP} {c : TC} {e : Env} {h : AH} {K : Ex → Env → AH → Prop} (live : List Nat) (t0 id : Nat) (w : V) (h0 : Frz (· = id) h h.next (e t0) w) (hv : ∀ t, t ∈ live → t ≠ t0 → Frz (· = id) h h.next (e t) (e t))
    (z:∀ e2,e2 t0=w→(∀ t,t∈live→t≠t0→e2 t=e t)→ZCS tp c e2 (h.kill id) K):ZCS tp c e h K:=by
  refine ZCS_step (Stp_frz (h2:=h.kill id) (·=id) (t0::live) (fun t=>if t=t0 then w else e t) (fun wf=>⟨rfl,rfl,fun i k hk=>?_,fun t hl=>?_⟩)) (z _ ?_ ?_)
  · rw [get_kill] at hk
    by_cases hd:i=id
    · rw [gsel_eq hd] at hk;cases hk
    · rw [gsel_ne hd] at hk
      exact ⟨(wf.2 i k hk).1,hd,k.cs,hk,(wf.2 i k hk).2 _ _⟩
  · by_cases ht:t=t0
    · subst ht;simp only [if_pos rfl];exact h0
    · simp only [if_neg ht]
      exact hv t ((List.mem_cons.1 hl).resolve_left ht) ht
  · simp
  · intro t ht hne
    simp [ht,hne]
end Go.Ab.T
namespace Go.Ab.T
open Go Go.Ab
set_option maxHeartbeats 4000000
/-! Chapter 11's known runs. -/
def k11P:Part:=⟨⟨#[]⟩,0,0,false,false,[],0,0,0,0,0⟩
def k11:Config:=⟨[k11P,k11P],[],[]⟩
def k11L:List Run:=[⟨0,1⟩,⟨1,2⟩,⟨0,3⟩]
def k11X:List Run:=[⟨0,4⟩,⟨1,2⟩]
theorem k11_runs:runsR k11 k11L=(k11X,1):=by decide +kernel
theorem k11_one:runsR k11 [⟨0,5⟩]=([⟨0,5⟩],0):=by decide +kernel
theorem k11_merge:mergeR k11L=(k11L,false):=by decide +kernel
theorem k11_stuck:stuckB k11 k11X=true:=by decide +kernel
theorem k11_not:stuckB k11 k11L=false:=by decide +kernel
theorem k11_valid:validB k11 k11L k11X=true:=by decide +kernel
theorem k11_frm:Frm k11L∧Frm k11X:=by
  refine ⟨⟨fun r hr=>?_,by decide⟩,⟨fun r hr=>?_,by decide⟩⟩
  · simp only [k11L,List.mem_cons,List.not_mem_nil,or_false] at hr
    rcases hr with rfl | rfl | rfl<;>decide
  · simp only [k11X,List.mem_cons,List.not_mem_nil,or_false] at hr
    rcases hr with rfl | rfl<;>decide
theorem k11_of:ofR [⟨1,0,5⟩]=([⟨0,5⟩],0):=by
  have hk:kids ⟨1,0,5⟩=0:=by unfold kids;decide
  have h1:(Fo.leaf ⟨1,0,5⟩ .nil).ok:=⟨hk,trivial⟩
  have e:([⟨1,0,5⟩]:List Node)=(Fo.leaf ⟨1,0,5⟩ .nil).flat:=rfl
  have h2:=right_flat h1 rfl (by decide) (by decide) (by decide)
  have h3:=foOf_flat h1 rfl (by decide) (by decide) (by decide)
  rw [e,ofR_good h2,h3,if_neg (by decide)];rfl
theorem k11_red:redR k11 [⟨1,0,5⟩]=([⟨1,0,5⟩],⟨0,1,1,1,1,false⟩,0):=by
  have hf:foldR [⟨0,5⟩]=[⟨1,0,5⟩]:=by decide +kernel
  have hh:holdsR k11 [⟨0,5⟩]=0:=by decide +kernel
  unfold redR
  rw [k11_of,k11_one]
  simp only [hf,hh]
  rfl
theorem k11_nil:redR k11 []=([],⟨0,0,0,0,0,false⟩,12):=by
  have:rightR []=12:=by decide +kernel
  unfold redR
  rw [ofR_bad (by rw [this];decide),this];rfl
def k11H:AH:=⟨fun i=>if i=1 then some ⟨3,[k11.enc]⟩ else none,3,0⟩
theorem k11_fix {c : TC} {e : Env} {h : AH} {K : Ex → Env → AH → Prop} (hn : h.next = 3) (hl : h.lim = 0)
    (g0:h.get 0=some ⟨11,[[.s ⟨#[]⟩,.i .i64 0,.i .i64 0,.b false,.b false,.ns,.i .i64 0,.i .i64 0,.i .i64 0,.i .i64 0,.i .i64 0],[.s ⟨#[]⟩,.i .i64 0,.i .i64 0,.b false,.b false,.ns,.i .i64 0,.i .i64 0,.i .i64 0,.i .i64 0,.i .i64 0]]⟩)
    (g1:h.get 1=some ⟨3,[[.sl 0 0 2 2,.ns,.ns]]⟩) (g2:h.get 2=some ⟨3,[[.i .i64 1,.i .i64 0,.i .i64 5]]⟩) (e1:e 1=.p 1 0 0) (e2:e 2=.sl 2 0 1 1)
    (z:∀ e',e' 1=.p 1 0 0→e' 2=.fl 3 [[.i .i64 1,.i .i64 0,.i .i64 5]]→ZCS tp c e' k11H K):ZCS tp c e h K:=by
  have zz:∀ {n:Nat} {v:V},Plain0 v→Frz (·≠1) h n v v:=fun h0=>.z _ _ h0
  have row:Frzs (·≠1) h 0 [.s ⟨#[]⟩,.i .i64 0,.i .i64 0,.b false,.b false,.ns,.i .i64 0,.i .i64 0,.i .i64 0,.i .i64 0,.i .i64 0] k11P.enc:=
    .cons _ _ _ _ _ (zz (.s _)) (.cons _ _ _ _ _ (zz (.i _ _)) (.cons _ _ _ _ _ (zz (.i _ _)) (.cons _ _ _ _ _ (zz (.b _)) (.cons _ _ _ _ _ (zz (.b _)) (.cons _ _ _ _ _ (.ns _ _) (.cons _ _ _ _ _ (zz (.i _ _)) (.cons _ _ _ _ _ (zz (.i _ _)) (.cons _ _ _ _ _ (zz (.i _ _)) (.cons _ _ _ _ _ (zz (.i _ _)) (.cons _ _ _ _ _ (zz (.i _ _)) (.nil _)))))))))))
  refine ZCS_step (Stp_frz (h2:=k11H) (·≠1) [1,2] (fun t=>if t=1 then .p 1 0 0 else .fl 3 [[.i .i64 1,.i .i64 0,.i .i64 5]]) (fun wf=>⟨hn.symm,hl.symm,⟨fun i k hk=>?_,fun t ht=>?_⟩⟩)) (z _ (by simp) (by simp))
  · unfold k11H at hk
    simp only at hk
    by_cases hi:i=1
    · subst hi
      rw [if_pos rfl] at hk;cases hk
      refine ⟨by simp [k11H],by simp,_,g1,.cons _ _ _ _ _ (.cons _ _ _ _ _ ?_ (.cons _ _ _ _ _ (.ns _ _) (.cons _ _ _ _ _ (.ns _ _) (.nil _)))) (.nil _)⟩
      exact .sl _ _ _ _ _ _ _ _ (by simp) g0 (by simp) (Nat.le_refl _) (by simp [frzLen]) (.cons _ _ _ _ _ row (.cons _ _ _ _ _ row (.nil _)))
    · rw [if_neg hi] at hk;cases hk
  · simp only [List.mem_cons,List.not_mem_nil,or_false] at ht
    rcases ht with rfl | rfl
    · rw [e1];exact .p _ _ _ _ (by simp [k11H])
    · rw [e2]
      exact .sl _ _ _ _ _ _ _ _ (by simp) g2 (by simp) (Nat.le_refl _) (by simp [frzLen]) (.cons _ _ _ _ _ (.cons _ _ _ _ _ (zz (.i _ _)) (.cons _ _ _ _ _ (zz (.i _ _)) (.cons _ _ _ _ _ (zz (.i _ _)) (.nil _)))) (.nil _))
theorem known11_ev:Pf tp i_Q12 [] (.b true):=by
  have hr1:=k11_red;have hr2:=k11_nil;have hr3:=k11_runs;have hr4:=k11_merge;have hr5:=k11_stuck;have hr6:=k11_not;have hr7:=k11_valid
  have t1:=redTable_ev (C:=k11) (T:=[⟨1,0,5⟩])
  have t2:=redTable_ev (C:=k11) (T:=[])
  have t3:=redRuns_ev (C:=k11) k11_frm.1
  have t4:=merge_ev (C:=k11) k11_frm.1
  have t5:=stuck_ev (C:=k11) k11_frm.2
  have t6:=stuck_ev (C:=k11) k11_frm.1
  have t7:=valid_ev (C:=k11) k11_frm.1 k11_frm.2
  rw [hr1] at t1;rw [hr2] at t2;rw [hr3] at t3;rw [hr4] at t4;rw [hr5] at t5;rw [hr6] at t6;rw [hr7] at t7
  clear hr1 hr2 hr3 hr4 hr5 hr6 hr7
  refine Pf_goS fn_Q12 (by simp [t_Q12]) fun rp=>?_
  unfold t_Q12
  refine ZCS_seq ?_
  simp (disch:=omega)only[go_sem, *]
  refine ZCS_seq ?_
  simp (disch:=omega)only[go_sem, *]
  refine ZCS_seq ?_
  simp (disch:=omega)only[go_sem, *]
  refine k11_fix rfl rfl rfl rfl rfl rfl rfl ?_
  intro e1 f1 f2
  have g1:k11H.get 1=some ⟨3,[k11.enc]⟩:=rfl
  have n1:k11H.next=3:=rfl
  have l1:k11H.lim=0:=rfl
  have ea:k11.enc=[.fl 11 (k11.parts.map Part.enc),.fl 6 (k11.chans.map Chan.enc),.fl 1 (k11.tables.map Tab.enc)]:=rfl
  rw [ea] at g1 t1 t2 t3 t4 t5 t6 t7
  clear ea
  generalize k11H=H at *
  have q1:([⟨1,0,5⟩]:List Node).map Node.enc=[[.i .i64 1,.i .i64 0,.i .i64 5]]:=rfl
  have q2:([]:List Node).map Node.enc=[]:=rfl
  rw [q1] at t1;rw [q2] at t2
  refine ZCS_seq ?_
  simp (disch:=omega)only[go_sem, *]
  refine Pf.go (t1) (by simp only [go_sem]) fun _=>?_;simp (disch:=omega)only[go_sem, *]
  refine ZCS_seq ?_
  simp (disch:=omega)only[go_sem, *]
  refine Pf.take [] t2 (.cons _ _ _ _ _ (.agg _ _ _ (.cons _ _ _ _ _ (.fl _ _ _) (.cons _ _ _ _ _ (.fl _ _ _) (.cons _ _ _ _ _ (.fl _ _ _) (.nil _))))) (.cons _ _ _ _ _ (.ns _ _) (.nil _))) fun _=>?_
  have hk0:∀ h:AH,h.kills []=h:=fun h=>by simp [AH.kills]
  rw [hk0]
  clear hk0 t1 t2
  simp (disch:=omega)only[go_sem, *]
  refine ZCS_seq ?_
  simp (disch:=omega)only[go_sem, *]
  refine ZCS_fix [1,3,4,5,8] 9 5 (.fl 2 (k11L.map Run.enc)) ?_ ?_ ?_
  · simp (disch:=omega)only[go_sem, *]
    exact .sl _ _ _ _ _ 2 (k11L.map Run.enc) _ rfl (by simp (disch:=omega)only[go_sem, *];rfl) (by decide) (Nat.le_refl _) (by simp [frzLen]) (Frzr.of_map (enc:=Run.enc) (fun _=>rfl) k11L)
  · intro t ht _
    simp only [List.mem_cons,List.not_mem_nil,or_false] at ht
    rcases ht with rfl | rfl | rfl | rfl | rfl
    · simp (disch:=omega)only[go_sem, *]
      exact .p _ _ _ _ (by simp (disch:=omega)only[go_sem, *])
    · simp (disch:=omega)only[go_sem, *]
    · simp (disch:=omega)only[go_sem, *]
      exact .p _ _ _ _ (by simp (disch:=omega)only[go_sem, *])
    · simp (disch:=omega)only[go_sem, *]
    · simp (disch:=omega)only[go_sem, *]
  intro e2 q9 qq
  have q1:=qq 1 (by simp) (by simp)
  have q3:=qq 3 (by simp) (by simp)
  have q4:=qq 4 (by simp) (by simp)
  have q5:=qq 5 (by simp) (by simp)
  have q8:=qq 8 (by simp) (by simp)
  clear qq
  simp (disch:=omega)only[go_sem, *] at q1 q3 q4 q5 q8
  clear f1 f2
  have hX:k11X.length=2:=rfl
  simp only at t3 t4
  refine ZCS_seq ?_
  simp (disch:=omega)only[go_sem, *]
  refine Pf.go (t3) (by simp only [go_sem]) fun _=>?_;simp (disch:=omega)only[go_sem, *]
  refine ZCS_seq ?_
  simp (disch:=omega)only[go_sem, *]
  refine Pf.go (t4) (by simp only [go_sem]) fun _=>?_;simp (disch:=omega)only[go_sem, *]
  refine ZCS_of ?_
  simp (disch:=omega)only[go_sem, *]
  repeat' (first | (refine Wg_dec (fun hc=>?_) (fun hc=>?_)<;>simp (disch:=omega)only[go_sem, *]) | (refine Wb_dec (fun hc=>?_) (fun hc=>?_)<;>simp (disch:=omega)only[go_sem, *]) | (refine Wg_of (fun hc=>?_) (fun hc=>?_)<;>simp (disch:=omega)only[go_sem, *]) | (refine Wb_of (fun hc=>?_) (fun hc=>?_)<;>simp (disch:=omega)only[go_sem, *]) | (refine Pf.go (t5) (by simp only [go_sem]) fun _=>?_;simp (disch:=omega)only[go_sem, *]) | (refine Pf.go (t6) (by simp only [go_sem]) fun _=>?_;simp (disch:=omega)only[go_sem, *]) | (refine Pf.go (t7) (by simp only [go_sem]) fun _=>?_;simp (disch:=omega)only[go_sem, *]))
  · refine passes_ev ?_
    simp (disch:=omega)only[go_sem, *]
    all_goals decide
  all_goals exact absurd (rfl:(((2:Nat):Int)=2)) hc
end Go.Ab.T
namespace Go.Ab.T
open Go Go.Ab
set_option maxHeartbeats 4000000
/-! A row tick by tick; what is the same to all. Plain. -/
theorem wrd_app:∀ (a b:List Run),wrd (a++b)=wrd a++wrd b
  | [],b=>rfl
  | r::l,b=>by simp only [List.cons_append,wrd,wrd_app l b,List.append_assoc]
theorem wrd_tidyGo:∀ (l A:List Run),AllPos A→AllPos l→sumN A+sumN l≤4096→wrd (tidyGo l A)=wrd A++wrd l
  | [],A,_,_,_=>by simp [tidyGo,wrd]
  | r::l,A,hA,hl,hs=>by
    have hr:=hl r (List.mem_cons_self ..)
    have hl2:AllPos l:=fun q hq=>hl q (List.mem_cons_of_mem _ hq)
    have h0:=sumN_pos hl2
    simp only [sumN] at hs
    rcases List.eq_nil_or_concat A with rfl | ⟨B,q,rfl⟩
    · rw [tidy_nil hr,wrd_tidyGo l [r] (fun x hx=>by rw [List.mem_singleton.1 hx];exact hr) hl2 (by simp only [sumN] at hs ⊢;omega)]
      simp [wrd]
    · rw [List.concat_eq_append] at *
      have hq:=(allPos_app hA).2 q (List.mem_singleton.2 rfl)
      have hB:=(allPos_app hA).1
      have hB0:=sumN_pos hB
      have hsB:sumN (B++[q])=sumN B+q.n:=by rw [sumN_app];simp [sumN]
      rw [hsB] at hs
      rw [tidy_snoc hr]
      split
      · rename_i he
        have ha:addR q.n r.n=q.n+r.n:=addR_sum (by omega) (by omega) (by omega)
        rw [ha,wrd_tidyGo l (B++[⟨q.part,q.n+r.n⟩]) (allPos_mk hB (fun x hx=>by rw [List.mem_singleton.1 hx];simp only;omega)) hl2 (by rw [sumN_app];simp only [sumN];omega)]
        rw [wrd_app,wrd_app]
        simp only [wrd,List.append_nil,List.append_assoc,he]
        congr 1
        rw [← List.append_assoc,List.replicate_append_replicate]
        congr 2;omega
      · rw [wrd_tidyGo l (B++[q]++[r]) (allPos_mk hA (fun x hx=>by rw [List.mem_singleton.1 hx];exact hr)) hl2 (by rw [sumN_app,hsB];simp only [sumN];omega),wrd_app]
        simp [wrd]
theorem wrd_posL:∀ {L:List Run},NonNeg L→wrd (posL L)=wrd L
  | [],_=>rfl
  | r::l,h=>by
    have ih:=wrd_posL (L:=l) (fun q hq=>h q (List.mem_cons_of_mem _ hq))
    have:=h r (List.mem_cons_self ..)
    unfold posL at *
    rw [List.filter_cons]
    split
    · rw [wrd,wrd,ih]
    · rename_i h2
      have:r.n.toNat=0:=by simp at h2;omega
      rw [wrd,this,ih];simp
theorem wrd_tidy {L:List Run} (h:NonNeg L) (hs:sumN L≤4096):wrd (tidyGo L [])=wrd L:=by
  rw [tidyGo_pos,wrd_tidyGo _ _ (fun _ h=>by cases h) posL_all (by rw [posL_sum h];simpa [sumN] using hs),wrd_posL h];rfl
theorem wrd_inj:∀ {X Y:List Run},AllPos X→Sep X→AllPos Y→Sep Y→wrd X=wrd Y→X=Y
  | [],[],_,_,_,_,_=>rfl
  | [],y::Y,_,_,hy,_,h=>by
    have:=hy y (List.mem_cons_self ..)
    have:=congrArg List.length h
    simp [wrd] at this;omega
  | x::X,[],hx,_,_,_,h=>by
    have:=hx x (List.mem_cons_self ..)
    have:=congrArg List.length h
    simp [wrd] at this;omega
  | x::X,y::Y,hx,sx,hy,sy,h=>by
    have h1:=hx x (List.mem_cons_self ..)
    have h2:=hy y (List.mem_cons_self ..)
    have hX:AllPos X:=fun q hq=>hx q (List.mem_cons_of_mem _ hq)
    have hY:AllPos Y:=fun q hq=>hy q (List.mem_cons_of_mem _ hq)
    have key:∀ {a b:Run} {A B:List Run},AllPos A→Sep (a::A)→1≤a.n→1≤b.n→wrd (a::A)=wrd (b::B)→a.part=b.part∧¬ a.n<b.n:=fun {a b A B} hA sA ha hb he=>by
      have hp:a.part=b.part:=by
        have:=congrArg List.head? he
        obtain ⟨k,hk⟩:∃ k,a.n.toNat=k+1:=⟨a.n.toNat - 1,by omega⟩
        obtain ⟨m,hm⟩:∃ m,b.n.toNat=m+1:=⟨b.n.toNat - 1,by omega⟩
        simp only [wrd,hk,hm,List.replicate_succ,List.cons_append,List.head?_cons,Option.some.injEq] at this
        exact this
      refine ⟨hp,fun hlt=>?_⟩
      have hg:=congrArg (fun l=>l[a.n.toNat]?) he
      simp only [wrd] at hg
      rw [List.getElem?_append_right (by simp),List.length_replicate,Nat.sub_self,List.getElem?_append_left (by simp;omega),List.getElem?_replicate,if_pos (by omega)] at hg
      cases A with
      | nil=>simp [wrd] at hg
      | cons c A=>
        have hc:=hA c (List.mem_cons_self ..)
        obtain ⟨k,hk⟩:∃ k,c.n.toNat=k+1:=⟨c.n.toNat - 1,by omega⟩
        simp only [wrd,hk,List.replicate_succ,List.cons_append,List.getElem?_cons_zero,Option.some.injEq] at hg
        exact sA.1 (by rw [hg,hp])
    obtain ⟨p1,n1⟩:=key hX sx h1 h2 h
    obtain ⟨p2,n2⟩:=key hY sy h2 h1 h.symm
    have e:x=y:=by
      obtain ⟨xp,xn⟩:=x;obtain ⟨yp,yn⟩:=y
      simp only at p1 n1 n2
      have:xn=yn:=by omega
      rw [p1,this]
    subst e
    simp only [wrd] at h
    have sX:Sep X:=by cases X with | nil=>trivial | cons _ _=>exact sx.2
    have sY:Sep Y:=by cases Y with | nil=>trivial | cons _ _=>exact sy.2
    rw [wrd_inj hX sX hY sY (List.append_cancel_left h)]
theorem wrd_filter (q:Int→Bool):∀ (L:List Run),wrd (L.filter fun r=>q r.part)=(wrd L).filter q
  | []=>rfl
  | r::l=>by
    rw [List.filter_cons]
    simp only [wrd,List.filter_append,←wrd_filter q l,List.filter_replicate]
    split
    · rw [wrd]
    · simp
theorem tidy_sp {L:List Run} (h:NonNeg L) (hs:sumN L≤4096):AllPos (tidyGo L [])∧Sep (tidyGo L []):=⟨(tidy_of0 h hs).pos,(tidy_of0 h hs).sep⟩
theorem Frm.nn {L:List Run} (h:Frm L):NonNeg L:=fun r hr=>by have:=h.1 r hr;omega
theorem wrd_proj {L:List Run} {a b:Int}:wrd (projL L a b)=(wrd L).filter (fun z=>decide (z=a∨z=b)):=wrd_filter (fun z=>decide (z=a∨z=b)) L
theorem wrd_projR {L:List Run} {a b:Int} (h:Frm L):wrd (projR L a b)=(wrd L).filter (fun z=>decide (z=a∨z=b)):=by
  have hp:=proj_frm (a:=a) (b:=b) h
  unfold projR
  rw [wrd_tidy hp.nn hp.2,wrd_proj]
theorem projR_eq {L M:List Run} {a b:Int} (hL:Frm L) (hM:Frm M) (h:(wrd L).filter (fun z=>decide (z=a∨z=b))=(wrd M).filter (fun z=>decide (z=a∨z=b))):projR L a b=projR M a b:=by
  have pL:=proj_frm (a:=a) (b:=b) hL
  have pM:=proj_frm (a:=a) (b:=b) hM
  obtain ⟨l1,l2⟩:=tidy_sp pL.nn pL.2
  obtain ⟨m1,m2⟩:=tidy_sp pM.nn pM.2
  exact wrd_inj l1 l2 m1 m2 ((wrd_projR hL).trans (h.trans (wrd_projR hM).symm))
/-! When two rows differ to nobody. -/
theorem difRow_none {x y:List Run} {M:List (List Bool)} {a:Int}:∀ (f:Nat) (b:Int),difRow x y M a f b=none↔∀ c,b≤c→c<b+f→difAt x y M a c=false
  | 0,b=>by simp only [difRow,true_iff];intro c h1 h2;omega
  | f+1,b=>by
    rw [difRow]
    split
    · rename_i h
      simp only [reduceCtorEq,false_iff]
      intro hh
      rw [hh b (Int.le_refl _) (by omega)] at h;cases h
    · rename_i h
      rw [difRow_none f (b+1)]
      refine ⟨fun hh c h1 h2=>?_,fun hh c h1 h2=>hh c (by omega) (by omega)⟩
      by_cases e:c=b
      · subst e;simpa using h
      · exact hh c (by omega) (by omega)
theorem difAll_no {x y:List Run} {M:List (List Bool)}:∀ (f:Nat) (a:Int),0≤a→a+f=6→((difAll x y M f a).2.2=false↔(∀ c d,a≤c→c≤d→d<6→difAt x y M c d=false)∧tk (-1) x=tk (-1) y)
  | 0,a,h0,h=>by
    simp only [difAll]
    refine ⟨fun hh=>⟨fun c d h1 h2 h3=>by omega,by simpa using hh⟩,fun hh=>by simpa using hh.2⟩
  | f+1,a,h0,h=>by
    rw [difAll]
    have hr:=difRow_none (x:=x) (y:=y) (M:=M) (a:=a) (6 - a).toNat a
    unfold difRowA
    split
    · rename_i b hb
      simp only [Bool.true_eq_false,false_iff]
      intro hh
      have:difRow x y M a (6 - a).toNat a=none:=hr.2 (fun c h1 h2=>hh.1 a c (Int.le_refl _) h1 (by omega))
      rw [hb] at this;cases this
    · rename_i hb
      rw [difAll_no f (a+1) (by omega) (by omega)]
      refine ⟨fun hh=>⟨fun c d h1 h2 h3=>?_,hh.2⟩,fun hh=>⟨fun c d h1 h2 h3=>hh.1 c d (by omega) h2 h3,hh.2⟩⟩
      by_cases e:c=a
      · subst e;exact hr.1 hb d h2 (by omega)
      · exact hh.1 c d (by omega) h2 h3
theorem dif_iff {x y:List Run} {M:List (List Bool)}:(difR x y M).2.2=false↔(∀ c d,0≤c→c≤d→d<6→depB M c d=true→projR x c d=projR y c d)∧tk (-1) x=tk (-1) y:=by
  unfold difR
  rw [difAll_no 6 0 (by omega) (by omega)]
  refine and_congr ⟨fun h c d h1 h2 h3 h4=>?_,fun h c d h1 h2 h3=>?_⟩ Iff.rfl
  · have:=h c d h1 h2 h3
    unfold difAt at this
    rw [h4] at this
    simpa using this
  · unfold difAt
    cases h4:depB M c d
    · rfl
    · rw [h c d h1 h2 h3 h4];simp
theorem dif_refl {x:List Run} {M:List (List Bool)}:(difR x x M).2.2=false:=dif_iff.2 ⟨fun _ _ _ _ _ _=>rfl,rfl⟩
theorem dif_trans {x y z:List Run} {M:List (List Bool)} (h1:(difR x y M).2.2=false) (h2:(difR y z M).2.2=false):(difR x z M).2.2=false:=by
  rw [dif_iff] at *
  exact ⟨fun c d a1 a2 a3 a4=>(h1.1 c d a1 a2 a3 a4).trans (h2.1 c d a1 a2 a3 a4),h1.2.trans h2.2⟩
end Go.Ab.T
namespace Go.Ab.T
open Go Go.Ab
set_option maxHeartbeats 4000000
/-! Moves that may be leave all the same to those who depend. Plain. -/
theorem set_two {L:List Run} {i j:Nat} {x y:Run} (hij:i<j) (hj:j<L.length):(L.set i x).set j y=L.take i++x::((L.drop (i+1)).take (j - (i+1))++y::L.drop (j+1)):=by
  refine list_ext (by simp;omega) fun k hk=>?_
  simp only [List.length_set] at hk
  rw [nth_set (by simpa using hk),nth_set hk]
  have hti:(L.take i).length=i:=by simp;omega
  have htm:((L.drop (i+1)).take (j - (i+1))).length=j - (i+1):=by simp;omega
  by_cases h1:k<i
  · rw [if_neg (by omega),if_neg (by omega),nth_app_l (by omega),nth_take h1]
  · have e:∀ (A:List Run) (c:Run) (B:List Run),A.length≤k→nth (A++c::B) k=if k=A.length then c else nth B (k - A.length - 1):=fun A c B hA=>by
      simp only [nth,List.getD,List.getElem?_append_right hA]
      split
      · rename_i h;rw [h];simp
      · rename_i h
        obtain ⟨m,hm⟩:∃ m,k - A.length=m+1:=⟨k - A.length - 1,by omega⟩
        rw [hm];simp
    rw [e _ _ _ (by omega),hti]
    by_cases h2:k=i
    · rw [if_neg (by omega),if_pos (by omega),if_pos h2]
    · rw [if_neg h2]
      by_cases h3:k<j
      · rw [if_neg (by omega),if_neg (by omega),nth_app_l (by omega),nth_take (by omega),nth_drop];congr 1;omega
      · have e2:∀ (A:List Run) (c:Run) (B:List Run),A.length≤k - i - 1→nth (A++c::B) (k - i - 1)=if k - i - 1=A.length then c else nth B (k - i - 1 - A.length - 1):=fun A c B hA=>by
          simp only [nth,List.getD,List.getElem?_append_right hA]
          split
          · rename_i h;rw [h];simp
          · rename_i h
            obtain ⟨m,hm⟩:∃ m,k - i - 1 - A.length=m+1:=⟨k - i - 1 - A.length - 1,by omega⟩
            rw [hm];simp
        rw [e2 _ _ _ (by omega),htm]
        by_cases h4:k=j
        · rw [if_pos (by omega),if_pos (by omega)]
        · rw [if_neg (by omega),if_neg (by omega),if_neg (by omega),nth_drop];congr 1;omega
theorem split_two {L:List Run} {i j:Nat} (hij:i<j) (hj:j<L.length):L=L.take i++nth L i::((L.drop (i+1)).take (j - (i+1))++nth L j::L.drop (j+1)):=by
  have e:(L.set i (nth L i)).set j (nth L j)=L:=by
    refine list_ext (by simp) fun k hk=>?_
    simp only [List.length_set] at hk
    rw [nth_set (by simpa using hk),nth_set hk]
    split
    · rename_i h;rw [h]
    · split
      · rename_i h;rw [h]
      · rfl
  conv=>lhs;rw [← e]
  exact set_two hij hj
theorem depB_symm {C:Config} {a b:Int}:depB (depM C) a b=depB (depM C) b a:=by
  unfold depB
  rw [Bool.or_comm (matB _ a b)]
  by_cases h:a=b
  · rw [h]
  · rw [decide_eq_false h,decide_eq_false (Ne.symm h)]
theorem wrd_nil_of {q:Int→Bool} {B:List Run} (h:∀ r∈B,q r.part=false):(wrd B).filter q=[]:=by
  rw [← wrd_filter]
  have:B.filter (fun r=>q r.part)=[]:=List.filter_eq_nil_iff.2 (fun r hr=>by simp [h r hr])
  rw [this];rfl
theorem move_filter {L : List Run} {m : Move} {q : Int → Bool} (hf : Frm L) (hp : placesB L m = true) (he : (nth L m.i.toNat).part = (nth L m.j.toNat).part) (hq : q (nth L m.i.toNat).part = true → ∀ r ∈ between L m, q r.part = false) :
    (wrd (movd L (toI m) (fromI m))).filter q=(wrd L).filter q:=by
  have hpl:=hp
  simp only [placesB,decide_eq_true_eq] at hpl
  have hij:m.i.toNat<m.j.toNat:=by omega
  have hj:m.j.toNat<L.length:=by omega
  have hb:between L m=(L.drop (m.i.toNat+1)).take (m.j.toNat - (m.i.toNat+1)):=by
    unfold between;rw [show (m.i+1).toNat=m.i.toNat+1 by omega]
  obtain ⟨t1,t2,t3⟩:=to_from hp
  have n1:=hf.1.nth (i:=m.i.toNat) (by omega)
  have n2:=hf.1.nth (i:=m.j.toNat) (by omega)
  have hsp:=split_two hij hj
  have hadd:=movd_add hf t1 t2 t3
  rw [hb] at hq
  have key : ∀ a b : Int, 0 ≤ a → 0 ≤ b → a + b = (nth L m.i.toNat).n + (nth L m.j.toNat).n → (a = 0 ∨ b = 0) →
      (wrd (L.take m.i.toNat++(⟨(nth L m.i.toNat).part,a⟩:Run)::((L.drop (m.i.toNat+1)).take (m.j.toNat - (m.i.toNat+1))++(⟨(nth L m.i.toNat).part,b⟩:Run)::L.drop (m.j.toNat+1)))).filter q=(wrd L).filter q:=fun a b ha hb0 hab hz=>by
    conv=>rhs;rw [hsp]
    simp only [wrd_app,wrd,List.filter_append,List.filter_replicate,←he]
    congr 1
    cases hqp:q (nth L m.i.toNat).part
    · simp
    · have:=wrd_nil_of (hq hqp)
      simp only [reduceIte,this,List.nil_append]
      rw [← List.append_assoc,←List.append_assoc,List.replicate_append_replicate,List.replicate_append_replicate]
      congr 2;omega
  by_cases hr:m.right=true
  · have ht:toI m=m.j.toNat:=by simp [toI,hr]
    have hfm:fromI m=m.i.toNat:=by simp [fromI,hr]
    rw [ht,hfm] at hadd ⊢
    unfold movd
    rw [List.set_comm _ _ (by omega),set_two hij hj,hadd,←he]
    exact key 0 _ (Int.le_refl _) (by omega) (by omega) (.inl rfl)
  · have ht:toI m=m.i.toNat:=by simp [toI,hr]
    have hfm:fromI m=m.j.toNat:=by simp [fromI,hr]
    rw [ht,hfm] at hadd ⊢
    unfold movd
    rw [set_two hij hj,hadd,←he]
    exact key _ 0 (by omega) (Int.le_refl _) (by omega) (.inr rfl)
theorem may_parts {L:List Run} {M:List (List Bool)} {m:Move} (h:mayB L M m=true):placesB L m=true∧(nth L m.i.toNat).part=(nth L m.j.toNat).part∧∀ r∈between L m,blocks M (nth L m.i.toNat).part r=false:=by
  simp only [mayB,Bool.and_eq_true,decide_eq_true_eq,Bool.not_eq_true',List.any_eq_false,Bool.not_eq_true] at h
  exact ⟨h.1.1,h.1.2,h.2⟩
theorem do_parts {L:List Run} {m:Move} (hf:Frm L) (hp:placesB L m=true):NonNeg (movd L (toI m) (fromI m))∧sumN (movd L (toI m) (fromI m))=sumN L∧doR L m=tidyGo (movd L (toI m) (fromI m)) []:=by
  obtain ⟨a,b,c⟩:=to_from hp
  exact ⟨movd_nn hf a b,movd_sum hf a b c,by rw [doR,if_pos hp]⟩
theorem do_tk {L:List Run} {m:Move} {p:Int} (hf:Frm L) (hp:placesB L m=true) (he:(nth L m.i.toNat).part=(nth L m.j.toNat).part):tk p (doR L m)=tk p L:=by
  obtain ⟨h1,h2,h3⟩:=do_parts hf hp
  obtain ⟨a,b,c⟩:=to_from hp
  have hs:=hf.2
  rw [h3,(tidy_of0 h1 (by omega)).tks,posL_tk h1]
  refine movd_tk hf a b c ?_
  unfold toI fromI
  split
  · exact he.symm
  · exact he
theorem do_same {C:Config} {L:List Run} {m:Move} (hf:Frm L) (hm:mayB L (depM C) m=true):(difR L (doR L m) (depM C)).2.2=false:=by
  obtain ⟨hp,he,hb⟩:=may_parts hm
  obtain ⟨h1,h2,h3⟩:=do_parts hf hp
  have hs:=hf.2
  rw [dif_iff]
  refine ⟨fun c d k1 k2 k3 k4=>projR_eq hf (do_frm hf) ?_,(do_tk hf hp he).symm⟩
  rw [h3,wrd_tidy h1 (by omega)]
  refine (move_filter hf hp he (fun hq r hr=>?_)).symm
  have hbl:=hb r hr
  simp only [blocks,Bool.or_eq_false_iff,decide_eq_false_iff_not,Bool.and_eq_false_iff] at hbl
  simp only [decide_eq_true_eq] at hq
  simp only [decide_eq_false_iff_not]
  intro hrp
  rcases hbl.2 with (h4 | h4) | h4
  · omega
  · omega
  · have:depB (depM C) (nth L m.i.toNat).part r.part=true:=by
      rcases hq with hq | hq<;>rcases hrp with hrp | hrp
      · exact absurd (by omega) hbl.1
      · rw [hq,hrp];exact k4
      · rw [hq,hrp,depB_symm];exact k4
      · exact absurd (by omega) hbl.1
    rw [this] at h4;cases h4
theorem mem_posL {L:List Run} {r:Run} (h:r∈posL L):r∈L:=(List.mem_filter.1 h).1
theorem mem_setr {L:List Run} {i:Nat} {x r:Run} (h:r∈L.set i x):r=x∨r∈L:=by
  rcases List.mem_or_eq_of_mem_set h with h | h
  · exact .inr h
  · exact .inl h
theorem do_frame {L:List Run} {m:Move} (h:frameB L=true) (hp:placesB L m=true):frameB (doR L m)=true:=by
  have hf:=frameB_frm h
  obtain ⟨h1,h2,h3⟩:=do_parts hf hp
  obtain ⟨a,b,c⟩:=to_from hp
  have hl:=do_len hf hp
  have hL:=frameB_len h
  have hs:=hf.2
  have hff:=do_frm (m:=m) hf
  have ti:=tidy_of0 h1 (by omega)
  have hall:∀ r∈L,runB r=true:=by simp only [frameB,Bool.and_eq_true,List.all_eq_true] at h;exact h.1
  simp only [frameB,Bool.and_eq_true,decide_eq_true_eq,List.all_eq_true]
  refine ⟨fun r hr=>?_, ?_,by omega,hff.2⟩
  · have q1:=hff.1 r hr
    have q2:=n_le_sum hff.1 r hr
    have q3:=hff.2
    rw [h3] at hr
    obtain ⟨x,hx,hxp⟩:=ti.parts r hr
    have hpt : -1≤x.part∧x.part<6:=by
      have hx2:=mem_posL hx
      have rng:∀ y∈L,-1≤y.part∧y.part<6:=fun y hy=>by
        have:=hall y hy;simp only [runB,decide_eq_true_eq] at this;omega
      unfold movd at hx2
      rcases mem_setr hx2 with rfl | hx2
      · exact rng (nth L (fromI m)) (nth_mem b)
      · rcases mem_setr hx2 with rfl | hx2
        · exact rng (nth L (toI m)) (nth_mem a)
        · exact rng x hx2
    simp only [runB,decide_eq_true_eq]
    omega
  · rw [h3]
    refine List.length_pos_iff.2 (ti.ne fun h0=>?_)
    have:=posL_sum h1
    rw [h0,h2] at this
    have:=frm_len hf.1
    simp only [sumN] at *
    omega
theorem draw_valid {C:Config} {L:List Run} (h:frameB L=true) (hd:(drawR C L).2=true):validB C L (drawR C L).1=true:=by
  rcases draw_cases (C:=C) (L:=L) with ⟨m,h1,h2,h3⟩ | ⟨h2,_⟩
  · rw [h2]
    have hm:=allR_mem h1
    simp only [validB,do_same (frameB_frm h) hm,h3,do_frame h (may_places hm)];rfl
  · rw [h2] at hd;cases hd
end Go.Ab.T
namespace Go.Ab.T
open Go Go.Ab
set_option maxHeartbeats 4000000
/-! What stays as a table is turned about. Plain. -/
def busy (r:Run):Bool:=decide (r.part≠-1)
theorem countP_set {L:List Run} {i:Nat} {r:Run} (hi:i<L.length) (h:r.part=(nth L i).part):(L.set i r).countP busy=L.countP busy:=by
  have e:(L.set i r).map (fun x=>x.part)=L.map (fun x=>x.part):=by
    refine list_ext (by simp) fun k hk=>?_
    simp only [List.length_map,List.length_set] at hk
    rw [nth_map (by simpa using hk),nth_map hk,nth_set hk]
    split
    · rename_i h2;rw [h,h2]
    · rfl
  have c:∀ l:List Run,l.countP busy=(l.map fun x=>x.part).countP (fun z=>decide (z≠-1)):=fun l=>by rw [List.countP_map];rfl
  rw [c,c,e]
theorem countP_tidy:∀ (l A:List Run),(tidyGo l A).countP busy≤A.countP busy+l.countP busy
  | [],A=>by simp [tidyGo]
  | r::l,A=>by
    rw [tidyGo]
    split
    · have:=countP_tidy l A
      rw [List.countP_cons];omega
    · split
      · rename_i h
        have h1:=countP_tidy l (A.set (A.length - 1) ⟨(nth A (A.length - 1)).part,addR (nth A (A.length - 1)).n r.n⟩)
        rw [countP_set (r:=⟨(nth A (A.length - 1)).part,addR (nth A (A.length - 1)).n r.n⟩) (by omega) rfl] at h1
        rw [List.countP_cons];omega
      · have:=countP_tidy l (A++[r])
        rw [List.countP_append,List.countP_singleton] at this
        rw [List.countP_cons];omega
theorem do_busy {L:List Run} {m:Move} (hf:Frm L) (hp:placesB L m=true):(doR L m).countP busy≤L.countP busy:=by
  obtain ⟨h1,h2,h3⟩:=do_parts hf hp
  obtain ⟨a,b,c⟩:=to_from hp
  rw [h3]
  have:=countP_tidy (movd L (toI m) (fromI m)) []
  unfold movd at this ⊢
  rw [countP_set (by simpa using b) (by rw [nth_set b,if_neg c]),countP_set (r:=⟨(nth L (toI m)).part,addR (nth L (toI m)).n (nth L (fromI m)).n⟩) a rfl] at this
  simpa using this
theorem tidy_idem {L:List Run} (h:NonNeg L) (hs:sumN L≤4096):tidyGo (tidyGo L []) []=tidyGo L []:=by
  have t:=tidy_of0 h hs
  exact tidy_stays t.pos t.sep
theorem do_tidy {L:List Run} {m:Move} (hf:Frm L) (hp:placesB L m=true):tidyGo (doR L m) []=doR L m:=by
  obtain ⟨h1,h2,h3⟩:=do_parts hf hp
  have hs:=hf.2
  rw [h3];exact tidy_idem h1 (by omega)
structure Kept (C:Config) (L X:List Run):Prop where
  fr:frameB X=true
  ti:tidyGo X []=X
  df:(difR L X (depM C)).2.2=false
  sm:sumN X=sumN L
  tk:∀ p,tk p X=tk p L
  ho:holdsR C L=0→holdsR C X=0
  bs:X.countP busy≤L.countP busy
theorem Kept.refl {C:Config} {L:List Run} (h:frameB L=true) (ht:tidyGo L []=L):Kept C L L:=⟨h,ht,dif_refl,rfl,fun _=>rfl,id,Nat.le_refl _⟩
theorem Kept.trans {C:Config} {L X Y:List Run} (a:Kept C L X) (b:Kept C X Y):Kept C L Y:=
  ⟨b.fr,b.ti,dif_trans a.df b.df,b.sm.trans a.sm,fun p=>(b.tk p).trans (a.tk p),fun h=>b.ho (a.ho h),Nat.le_trans b.bs a.bs⟩
theorem draw_kept {C:Config} {L:List Run} (h:frameB L=true) (hd:(drawR C L).2=true):Kept C L (drawR C L).1:=by
  rcases draw_cases (C:=C) (L:=L) with ⟨m,h1,h2,h3⟩ | ⟨h2,_⟩
  · have hm:=allR_mem h1
    have hp:=may_places hm
    have hf:=frameB_frm h
    obtain ⟨_,he,_⟩:=may_parts hm
    obtain ⟨d1,d2,d3⟩:=do_parts hf hp
    have hs:=hf.2
    rw [h2]
    refine ⟨do_frame h hp,do_tidy hf hp,do_same hf hm, ?_,fun p=>do_tk hf hp he,fun _=>h3,do_busy hf hp⟩
    simp only
    rw [d3,(tidy_of0 d1 (by omega)).sum,posL_sum d1,d2]
  · rw [h2] at hd;cases hd
theorem step_tidy {C:Config} {L:List Run} (h:frameB L=true) (ht:tidyGo L []=L):stepR C L=if (drawR C L).2=true then ((drawR C L).1,true) else (L,false):=by
  have hm:(mergeR L).2=false:=by simp [mergeR,ht]
  unfold stepR
  rw [if_neg (by simp [hm])]
  by_cases hd:(drawR C L).2=true
  · rw [if_pos ⟨hd,draw_valid h hd⟩,if_pos hd]
  · rw [if_neg (fun hh=>hd hh.1),if_neg hd]
theorem runsGo_kept {C:Config}:∀ (f:Nat) (L:List Run) (n:Int),frameB L=true→tidyGo L []=L→L.length<f→Kept C L (runsGo C f L n).1∧stuckB C (runsGo C f L n).1=true∧(stuckB C L=true→runsGo C f L n=(L,n))
  | 0,L,n,h,ht,hf=>by omega
  | f+1,L,n,h,ht,hf=>by
    rw [runsGo,step_tidy h ht]
    by_cases hd:(drawR C L).2=true
    · have hk:=draw_kept h hd
      have hl:=draw_len (frameB_frm h) hd
      rw [if_pos hd,if_pos rfl]
      obtain ⟨a,b,_⟩:=runsGo_kept f (drawR C L).1 (n+1) hk.fr hk.ti (by omega)
      exact ⟨hk.trans a,b,fun hs=>by simp [stuckB,hd] at hs⟩
    · rw [if_neg hd,if_neg (by simp)]
      exact ⟨.refl h ht,by simpa [stuckB] using hd,fun _=>rfl⟩
theorem runs_kept {C:Config} {L:List Run} (h:frameB L=true) (ht:tidyGo L []=L):Kept C L (runsR C L).1∧stuckB C (runsR C L).1=true∧(stuckB C L=true→runsR C L=(L,0)):=runsGo_kept _ _ _ h ht (by omega)
theorem red_cases {C : Config} {T : List Node} (h1 : (ofR T).2 = 0) (h2 : holdsR C (ofR T).1 = 0) :
    (redR C T=(T,⟨0,(ofR T).1.length,(ofR T).1.length,T.length,T.length,true⟩,0)) ∨
    ∃ X n,Kept C (ofR T).1 X∧stuckB C X=true∧(foldR X).length≤T.length∧ofR (foldR X)=(X,0)∧redR C T=(foldR X,⟨n,X.length,(ofR T).1.length,(foldR X).length,T.length,false⟩,0)∧redR C (foldR X)=(foldR X,⟨0,X.length,X.length,(foldR X).length,(foldR X).length,false⟩,0):=by
  obtain ⟨f1,f2,f3⟩:=of_frame h1
  obtain ⟨k1,k2,_⟩:=runs_kept (C:=C) f1 f2
  unfold redR
  rw [if_neg (by simp [h1]),if_neg (by simp [h2])]
  by_cases hl:T.length<(foldR (runsR C (ofR T).1).1).length
  · rw [if_pos hl];exact .inl rfl
  · rw [if_neg hl]
    have ho:=fold_of k1.fr (by omega) k1.ti
    refine .inr ⟨_,_,k1,k2,by omega,ho,rfl, ?_⟩
    have e:=(runs_kept (C:=C) k1.fr k1.ti).2.2 k2
    rw [ho]
    simp only
    rw [if_neg (by simp),if_neg (by simp [k1.ho h2]),e,if_neg (by simp)]
theorem made_tabs {C:Config} (m:Made C):∀ T∈C.tables,(ofR T).2=0∧holdsR C (ofR T).1=0:=fun T hT=>by
  have:=((where_iff).1 m.wh).2.2.2 T hT
  rw [tableR_iff] at this
  exact ⟨this.1.1,this.2⟩
end Go.Ab.T
namespace Go.Ab.T
open Go Go.Ab
set_option maxHeartbeats 4000000
end Go.Ab.T
namespace Go.Ab.T
open Go Go.Ab
set_option maxHeartbeats 4000000
theorem totGo_sum':∀ {L:List Run} {a:Int},AllPos L→0≤a→a+sumN L≤4096→totGo L a=a+sumN L
  | [],a,_,_,_=>by simp [totGo,sumN]
  | r::l,a,h,h0,hs=>by
    have h1:=h r (List.mem_cons_self ..)
    have h2:AllPos l:=fun q hq=>h q (List.mem_cons_of_mem _ hq)
    have:=sumN_pos h2
    simp only [sumN] at hs ⊢
    rw [totGo,addR_sum h0 (by omega) (by omega),totGo_sum' h2 (by omega) (by omega)];omega
theorem worse_one {C:Config} {T:List Node} (h1:(ofR T).2=0) (h2:holdsR C (ofR T).1=0):∃ N X n b,redR C T=(N,⟨n,X.length,(ofR T).1.length,N.length,T.length,b⟩,0)∧ofR N=(X,0)∧N.length≤T.length∧Kept C (ofR T).1 X∧(b=true→N=T∧n=0)∧(b=false→stuckB C X=true):=by
  obtain ⟨f1,f2,f3⟩:=of_frame h1
  rcases red_cases h1 h2 with hr | ⟨X,n,k,s,l,o,hr,_⟩
  · refine ⟨T,(ofR T).1,0,true,hr, ?_,Nat.le_refl _,.refl f1 f2,⟨fun _=>⟨rfl,rfl⟩,fun h=>(by cases h)⟩⟩
    rw [← h1]
  · exact ⟨foldR X,X,n,false,hr,o,l,k,⟨fun h=>(by cases h),fun _=>s⟩⟩
theorem reduceWorse_ev {L:List Int} (hL:L.length<4000000000):Pf tp i_Q0 [.fl 1 (L.map encI)] (.b true):=by
  refine Pf_go fn_Q0 (by simp [t_Q0]) fun rp=>?_;unfold t_Q0;simp (disch:=omega)only[go_sem, *]
  refine config_ev (id:=0) (k:=0) (L:=L) ?_ (by omega) hL ?_ ?_
  · simp only [tapeB]
    simp (disch:=omega)only[go_sem, *]
    all_goals rfl
  · simp (disch:=omega)only[go_sem, *]
  intro C j hj hC
  have t1:=hC.tb
  have mt:=made_tabs hC
  have pt:=hC.pt
  have hrt:=fun T=>redTable_ev (C:=C) (T:=T)
  have hdp:=rdepends_ev (C:=C)
  simp only [Config.enc] at hrt hdp
  simp (disch:=omega)only[go_sem, *]
  refine ZC_loop_n (fun n e h=>∃ (i:Nat),n=C.tables.length - i∧h.lim=0∧e 19=.fl 1 (C.tables.map Tab.enc)∧e 20=.i .i64 C.tables.length∧e 21=.i .i64 i∧e 3=.p 1 0 0∧i≤C.tables.length∧h.get 1=some ⟨3,[[.fl 11 (C.parts.map Part.enc),.fl 6 (C.chans.map Chan.enc),.fl 1 (C.tables.map Tab.enc)]]⟩∧2≤h.next) ?_ _ _ _ ⟨0,rfl, ?_⟩
  · rintro n e h ⟨i,rfl,hl,e19,e20,e21,e3,hi,hg,hn⟩ ih
    rw [ZC_unf Q0_19.eq_1]
    simp (disch:=omega)only[go_sem, *]
    refine Wb_dec (fun hc=>?_) (fun hc=>?_)
    · obtain ⟨m1,m2⟩:=mt _ (nth_mem (L:=C.tables) (j:=i) (by omega))
      have r1:=hrt (nth C.tables i)
      obtain ⟨N,X,n0,b,hr,ho,hl2,hk,hb1,hb2⟩:=worse_one m1 m2
      obtain ⟨f1,f2,f3⟩:=of_frame m1
      have q1:=refOf_ev (L:=nth C.tables i)
      have q2:=refOf_ev (L:=N)
      have fa:=frameB_frm f1
      have fb:=frameB_frm hk.fr
      have ha4:=fa.2;have hb4:=fb.2
      have s1:=reftotal_ev (L:=(ofR (nth C.tables i)).1) (fun r hr=>by have:=n_le_sum fa.1 r hr;omega)
      have s2:=reftotal_ev (L:=X) (fun r hr=>by have:=n_le_sum fb.1 r hr;omega)
      rw [totGo_sum' fa.1 (Int.le_refl _) (by omega)] at s1
      rw [totGo_sum' fb.1 (Int.le_refl _) (by omega),hk.sm] at s2
      have w1:=refSwitches_ev (L:=X) fb.ok
      have w2:=refSwitches_ev (L:=(ofR (nth C.tables i)).1) fa.ok
      rw [hk.ti] at w1
      rw [f2] at w2
      have hbs:X.countP (fun r=>decide (r.part≠-1))≤(ofR (nth C.tables i)).1.countP (fun r=>decide (r.part≠-1)):=hk.bs
      have hh:=refHolds_ev (C:=C) fb
      rw [hk.ho m2] at hh
      have hs:=rsame7_ev fa fb (depM_sq (C:=C))
      rw [hk.df] at hs
      have hst:=rstuck_ev (C:=C) fb
      have htk:=fun p=>hk.tk p
      have k1:=fun p=>refTicks_ev (p:=p) fa
      have k2:=fun p=>refTicks_ev (p:=p) fb
      simp only [htk] at k2
      simp only [Config.enc] at hh hst
      rw [hr] at r1
      rw [ho] at q2
      rw [m1] at q1
      generalize (ofR (nth C.tables i)).1=A at *
      clear hrt mt hr ho hk f1 f2 fa fb htk m1 m2
      have ihA:=ih
      clear ih
      simp (disch:=omega)only[go_sem, *]
      refine Pf.go (r1) (by simp only [go_sem]) fun _=>?_;simp (disch:=omega)only[go_sem, *]
      refine Pf.go (q1) (by simp only [go_sem]) fun _=>?_;simp (disch:=omega)only[go_sem, *]
      refine Pf.go (q2) (by simp only [go_sem]) fun _=>?_;simp (disch:=omega)only[go_sem, *]
      refine Wg_dec (fun hx=>absurd hx (by omega)) (fun _=>?_)
      simp (disch:=omega)only[go_sem, *]
      refine Pf.go (s1) (by simp only [go_sem]) fun _=>?_;simp (disch:=omega)only[go_sem, *]
      refine Pf.go (s2) (by simp only [go_sem]) fun _=>?_;simp (disch:=omega)only[go_sem, *]
      refine Pf.go (w1) (by simp only [go_sem]) fun _=>?_;simp (disch:=omega)only[go_sem, *]
      refine Pf.go (w2) (by simp only [go_sem]) fun _=>?_;simp (disch:=omega)only[go_sem, *]
      refine Wg_dec (fun hx=>absurd hx (by omega)) (fun _=>?_)
      simp (disch:=omega)only[go_sem, *]
      refine Pf.go (hh) (by simp only [go_sem]) fun _=>?_;simp (disch:=omega)only[go_sem, *]
      refine Pf.go (hdp) (by simp only [go_sem]) fun _=>?_;simp (disch:=omega)only[go_sem, *]
      refine Pf.go (hs) (by simp only [go_sem]) fun _=>?_;simp (disch:=omega)only[go_sem, *]
      clear hs hh s1 s2 w1 w2 q1 q2 r1
      refine ZC_loop_n (fun n e h=>∃ (c:Nat) (p:Nat),n=C.parts.length+1 - p∧h.lim=0∧e 3=.p 1 0 0∧e 5=.fl 3 ((nth C.tables i).map Node.enc)∧e 6=.fl 3 (N.map Node.enc)∧e 7=.p c 0 0∧e 9=.fl 2 (A.map Run.enc)∧e 11=.fl 2 (X.map Run.enc)∧e 13=.i .i64 ((p:Int) - 1)∧e 19=.fl 1 (C.tables.map Tab.enc)∧e 20=.i .i64 C.tables.length∧e 21=.i .i64 i∧p≤C.parts.length+1∧h.get 1=some ⟨3,[[.fl 11 (C.parts.map Part.enc),.fl 6 (C.chans.map Chan.enc),.fl 1 (C.tables.map Tab.enc)]]⟩∧2≤h.next∧h.get c=some ⟨6,[[.i .i64 n0,.i .i64 X.length,.i .i64 A.length,.i .i64 N.length,.i .i64 (nth C.tables i).length,.b b]]⟩) ?_ _ _ _ ⟨h.next,0,rfl, ?_⟩
      · rintro n e h ⟨c,p,rfl,hl,e3,e5,e6,e7,e9,e11,e13,e19,e20,e21,hp,hg,hn,gc⟩ ih
        rw [ZC_unf Q0_15.eq_1]
        simp (disch:=omega)only[go_sem, *]
        refine Wb_dec (fun hc2=>?_) (fun hc2=>?_)
        · clear ihA hst
          have ep:(p:Int) - 1+1=((p+1:Nat):Int) - 1:=by omega
          simp (disch:=omega)only[go_sem, *]
          refine Pf.go (k1 _) (by simp only [go_sem]) fun _=>?_;simp (disch:=omega)only[go_sem, *]
          refine Pf.go (k2 _) (by simp only [go_sem]) fun _=>?_;simp (disch:=omega)only[go_sem, *]
          refine ih _ _ _ ?_ ⟨c,p+1,rfl, ?_⟩
          · omega
          · simp (disch:=omega)only[go_sem, *]
            ((repeat' refine And.intro ?_ ?_)<;>first | omega | assumption)
        · clear ih k1 k2
          cases b with
          | true=>
            obtain ⟨g1,g2⟩:=hb1 rfl
            subst g1
            subst g2
            clear hb1 hb2 hst
            simp (disch:=omega)only[go_sem, *]
            refine Pf.go (refNodes_ev) (by simp only [go_sem]) fun _=>?_;simp (disch:=omega)only[go_sem, *]
            refine ihA _ _ _ ?_ ⟨i+1,rfl, ?_⟩
            · omega
            · clear ihA
              simp (disch:=omega)only[go_sem, *]
              ((repeat' refine And.intro ?_ ?_)<;>first | omega | assumption)
          | false=>
            have g1:=hb2 rfl
            clear hb1 hb2
            rw [g1] at hst
            simp (disch:=omega)only[go_sem, *]
            refine Pf.go (hst) (by simp only [go_sem]) fun _=>?_;simp (disch:=omega)only[go_sem, *]
            refine ihA _ _ _ ?_ ⟨i+1,rfl, ?_⟩
            · omega
            · clear ihA
              simp (disch:=omega)only[go_sem, *]
              ((repeat' refine And.intro ?_ ?_)<;>first | omega | assumption)
      · simp (disch:=omega)only[go_sem, *]
        ((repeat' refine And.intro ?_ ?_)<;>first | omega | assumption)
    · simp (disch:=omega)only[go_sem, *]
      refine Pf.go (known11_ev) (by simp only [go_sem]) fun _=>?_;simp (disch:=omega)only[go_sem, *]
  · simp (disch:=omega)only[go_sem, *]
end Go.Ab.T
/- From a call's arguments, as the form reads them, to an abstract heap. -/
namespace Go.Ab
open Go Go.RowKit
/-! ### Shapes of arguments -/
mutual
inductive Sh where
  | b
  | i (k:IntKind)
  | s
  | sl (e:Sh)
  | agg (l:ShL)
inductive ShL where
  | nil
  | cons (x:Sh) (l:ShL)
end
mutual
def Sh.size:Sh→Nat
  | .b | .i _ | .s | .sl _=>1
  | .agg l=>l.size
def ShL.size:ShL→Nat
  | .nil=>0
  | .cons x l=>x.size+l.size
end
def ShL.rep (x:Sh):Nat→ShL
  | 0=>.nil
  | n+1=>.cons x (ShL.rep x n)
mutual
inductive ShT (P:Program):TypeId→Sh→Prop where
  | b (t:TypeId):P.underlying t=some .bool→ShT P t .b
  | i (t:TypeId) (k:IntKind):P.underlying t=some (.int k)→ShT P t (.i k)
  | s (t:TypeId):P.underlying t=some .string→ShT P t .s
  | sl (t e:TypeId) (x:Sh):P.underlying t=some (.slice e)→ShT P e x→P.cellsOf e=x.size→0<x.size→ShT P t (.sl x)
  | agg (t:TypeId) (fs:Array Field) (l:ShL):P.underlying t=some (.struct fs)→ShF P fs.toList 0 l→P.cellsOf t=l.size→ShT P t (.agg l)
  | arr (t e:TypeId) (n:Nat) (x:Sh):P.underlying t=some (.array n e)→ShT P e x→P.cellsOf e=x.size→P.cellsOf t=n*x.size→ShT P t (.agg (ShL.rep x n))
inductive ShF (P:Program):List Field→Nat→ShL→Prop where
  | nil (o:Nat):ShF P [] o .nil
  | cons (f:Field) (fs:List Field) (o:Nat) (x:Sh) (l:ShL):f.offset=o→ShT P f.type x→P.cellsOf f.type=x.size→ShF P fs (o+x.size) l→ShF P (f::fs) o (.cons x l)
end
section
variable {H:Type}
mutual
def DV (h:AH):Sh→DataW H→List V→Prop
  | .b,d,vs=>∃ x,d=.lit (.bool x)∧vs=[.b x]
  | .i k,d,vs=>∃ n,d=.lit (.int k n)∧(Lit.int k n).wf=true∧vs=[.i k n]
  | .s,d,vs=>∃ x:ByteArray,d=.lit (.string x.data.toList)∧x.size≤maxLen∧vs=[.s x]
  | .sl e,d,vs=>(d=.nil∧vs=[.ns])∨∃ (elems spare:List (DataW H)) (id:Nat) (rows:List (List V)),d=.slice elems spare∧vs=[.sl id 0 elems.length elems.length]∧h.get id=some ⟨e.size,rows⟩∧id<h.next∧rows.length=elems.length∧elems.length<bigLen∧∀ (j:Nat) (x:DataW H) (r:List V),elems[j]?=some x→rows[j]?=some r→DV h e x r
  | .agg l,d,vs=>∃ ds,d=.agg ds∧DVs h l ds vs
def DVs (h:AH):ShL→List (DataW H)→List V→Prop
  | .nil,ds,vs=>ds=[]∧vs=[]
  | .cons x l,ds,vs=>∃ d ds' v1 v2,ds=d::ds'∧vs=v1++v2∧DV h x d v1∧DVs h l ds' v2
end
mutual
def Sml:Sh→DataW H→Prop
  | .sl e,d=>∀ elems spare,d=.slice elems spare→elems.length<bigLen∧∀ x∈elems,Sml e x
  | .agg l,d=>∀ ds,d=.agg ds→Smls l ds
  | .b,_ | .i _,_ | .s,_=>True
def Smls:ShL→List (DataW H)→Prop
  | .nil,_=>True
  | .cons x l,ds=>∀ d ds',ds=d::ds'→Sml x d∧Smls l ds'
end
structure Gr (M M':Mp) (h h':AH):Prop where
  keeps:Keeps M M' h h'
  get:∀ id,id<h.next→h'.get id=h.get id
theorem Gr.refl (M:Mp) (h:AH):Gr M M h h:=⟨Keeps.refl M h,fun _ _=>rfl⟩
theorem Gr.trans {M M1 M2:Mp} {h h1 h2:AH} (a:Gr M M1 h h1) (b:Gr M1 M2 h1 h2):Gr M M2 h h2:=
  ⟨a.keeps.trans b.keeps,fun id hi=>(b.get id (Nat.lt_of_lt_of_le hi a.keeps.next)).trans (a.get id hi)⟩
mutual
theorem DV.grow {M M':Mp} {h h':AH} (g:Gr M M' h h'):∀ (sh:Sh) (d:DataW H) (vs:List V),DV h sh d vs→DV h' sh d vs
  | .b,d,vs,k=>by simp only [DV] at k ⊢;exact k
  | .i _,d,vs,k=>by simp only [DV] at k ⊢;exact k
  | .s,d,vs,k=>by simp only [DV] at k ⊢;exact k
  | .sl e,d,vs,k=>by
    simp only [DV] at k ⊢
    rcases k with k | ⟨elems,spare,id,rows,a,b,c,d,e1,f,g1⟩
    · exact .inl k
    · exact .inr ⟨elems,spare,id,rows,a,b,(g.get id d).trans c,Nat.lt_of_lt_of_le d g.keeps.next,e1,f,fun j x r hx hr=>DV.grow g e x r (g1 j x r hx hr)⟩
  | .agg l,d,vs,k=>by
    simp only [DV] at k ⊢
    obtain ⟨ds,a,b⟩:=k
    exact ⟨ds,a,DVs.grow g l ds vs b⟩
theorem DVs.grow {M M':Mp} {h h':AH} (g:Gr M M' h h'):∀ (l:ShL) (ds:List (DataW H)) (vs:List V),DVs h l ds vs→DVs h' l ds vs
  | .nil,ds,vs,k=>by simp only [DVs] at k ⊢;exact k
  | .cons x l,ds,vs,k=>by
    simp only [DVs] at k ⊢
    obtain ⟨d,ds',v1,v2,a,b,c,e⟩:=k
    exact ⟨d,ds',v1,v2,a,b,DV.grow g x d v1 c,DVs.grow g l ds' v2 e⟩
end
structure In (M:Mp) (w:World) (h:AH):Prop where
  cells:∀ id k m,h.get id=some k→M id=some m→m.b<w.heap.size∧CellsAt M h w m k
  own:∀ id m,M id=some m→m.own=false
  fresh:∀ id,h.live id→id<h.next
  lim:h.lim=h.next
theorem In.sim {M:Mp} {w:World} {h:AH} (i:In M w h):Sim M w.heap.size w h:=by
  refine ⟨i.cells,fun id m hl hm ho=>?_,fun id m hl hm hli=>?_,fun id id' m m' _ _ hm _ _ ho=>?_,i.fresh,by rw [i.lim];exact Nat.le_refl _,Nat.le_refl _⟩
  · rw [i.own id m hm] at ho;cases ho
  · have:=i.fresh id hl;have:=i.lim;omega
  · rw [i.own id m hm] at ho;cases ho
def AH.give (h:AH) (k:Blk):AH:={ get:=fun j=>if j=h.next then some k else h.get j,next:=h.next+1,lim:=h.next+1 }
def mput (M:Mp) (id:Nat) (m:MI):Mp:=fun j=>if j=id then some m else M j
theorem give_gr {M:Mp} {h:AH} {k:Blk} {m:MI} (hf:∀ id,h.live id→id<h.next):Gr M (mput M h.next m) h (h.give k):=by
  refine ⟨⟨by simp [AH.give],fun id hi hl=>?_,fun id hi hl=>?_⟩,fun id hi=>?_⟩
  · have:(h.give k).get id=h.get id:=by simp only [AH.give];rw [if_neg (by omega)]
    rw [AH.live,this] at hl;exact hl
  · simp only [mput];rw [if_neg (by omega)]
  · simp only [AH.give];rw [if_neg (by omega)]
theorem In.give {M:Mp} {w:World} {h:AH} {k:Blk} {m:MI} (i:In M w h) (hb:m.b<w.heap.size) (ho:m.own=false) (hc:CellsAt M h w m k):In (mput M h.next m) w (h.give k):=by
  have g:=give_gr (M:=M) (k:=k) (m:=m) i.fresh
  refine ⟨fun id k' m' hk hm=>?_,fun id m' hm=>?_,fun id hl=>?_,rfl⟩
  · simp only [AH.give,mput] at hk hm
    by_cases hid:id=h.next
    · rw [if_pos hid] at hk hm
      cases hk;cases hm
      exact ⟨hb,CellsAt.keep g.keeps rfl hc⟩
    · rw [if_neg hid] at hk hm
      exact ⟨(i.cells id k' m' hk hm).1,CellsAt.keep g.keeps rfl (i.cells id k' m' hk hm).2⟩
  · simp only [mput] at hm
    split at hm
    · cases hm;exact ho
    · exact i.own id m' hm
  · by_cases hid:id=h.next
    · subst hid;simp [AH.give]
    · have:(h.give k).get id=h.get id:=by simp only [AH.give];rw [if_neg hid]
      rw [AH.live,this] at hl
      have:=i.fresh id hl
      simp only [AH.give];omega
variable {P:Program} {w:World} {enc:TypeId×Value→H} {spare:Nat→Bool}
def Took (M:Mp) (w:World) (h:AH) (sh:Sh) (d:DataW H) (cs:List Value):Prop:=
  ∃ (M':Mp) (h':AH) (vs:List V),In M' w h'∧Gr M M' h h'∧VRs M' h' vs cs∧DV h' sh d vs∧(∀ v∈vs,v.isCell=true)
def TookL (M:Mp) (w:World) (h:AH) (l:ShL) (ds:List (DataW H)) (cs:List Value):Prop:=
  ∃ (M':Mp) (h':AH) (vs:List V),In M' w h'∧Gr M M' h h'∧VRs M' h' vs cs∧DVs h' l ds vs∧(∀ v∈vs,v.isCell=true)
theorem take_rows {e : Sh} (ih : ∀ (cs : List Value) (d : DataW H) (M : Mp) (h : AH), (∃ fuel t ps, ShT P t e ∧ DataW.trod enc P w 0 spare true fuel t cs = some (d, ps)) → In M w h → Sml e d → Took M w h e d cs) :
    ∀ (l:List (List Value×DataW H)) (M:Mp) (h:AH),In M w h→(∀ q∈l,(∃ fuel t ps,ShT P t e∧DataW.trod enc P w 0 spare true fuel t q.1=some (q.2,ps))∧Sml e q.2) →
      ∃ (M':Mp) (h':AH) (rows:List (List V)),In M' w h'∧Gr M M' h h'∧rows.length=l.length∧∀ (j:Nat) (q:List Value×DataW H) (r:List V),l[j]?=some q→rows[j]?=some r→VRs M' h' r q.1∧DV h' e q.2 r∧(∀ v∈r,v.isCell=true)
  | [],M,h,hi,_=>⟨M,h,[],hi,Gr.refl M h,rfl,fun j q r hq=>by simp at hq⟩
  | q::l,M,h,hi,hq=>by
    obtain ⟨M1,h1,vs,i1,g1,v1,d1,c1⟩:=ih q.1 q.2 M h (hq q (List.mem_cons_self ..)).1 hi (hq q (List.mem_cons_self ..)).2
    obtain ⟨M2,h2,rows,i2,g2,l2,a2⟩:=take_rows ih l M1 h1 i1 (fun x hx=>hq x (List.mem_cons_of_mem _ hx))
    refine ⟨M2,h2,vs::rows,i2,g1.trans g2,by simp [l2],fun j x r hx hr=>?_⟩
    cases j with
    | zero=>
      simp at hx hr;subst hx;subst hr
      exact ⟨v1.keep g2.keeps,d1.grow g2,c1⟩
    | succ j=>exact a2 j x r (by simpa using hx) (by simpa using hr)
def Al (P:Program) (w:World) (enc:TypeId×Value→H) (spare:Nat→Bool):ShL→List (List Value×DataW H)→Prop
  | .nil,q=>q=[]
  | .cons x l,q=>∃ p q',q=p::q'∧(∃ fuel t ps,ShT P t x∧DataW.trod enc P w 0 spare true fuel t p.1=some (p.2,ps))∧Al P w enc spare l q'
theorem al_struct {n : Nat} {cs : List Value} : ∀ (fs : List Field) (o : Nat) (l : ShL) (xs : List (DataW H × List MemPlace)), ShF P fs o l → xs.length = fs.length → (∀ (i : Nat) (f : Field), fs[i]? = some f → DataW.trod enc P w 0 spare true n f.type ((cs.drop f.offset).take (P.cellsOf f.type)) = xs[i]?) →
    ∃ q,Al P w enc spare l q∧q.map (·.2)=xs.map (·.1)∧(q.map (·.1)).flatten=(cs.drop o).take l.size
  | [],o,_,xs,.nil _,hl,ha=>by
    have:xs=[]:=List.length_eq_zero_iff.1 hl
    subst this
    exact ⟨[],rfl,rfl,by simp [ShL.size]⟩
  | f::fs,o,_,xs,.cons _ _ _ x l hf ht hc hr,hl,ha=>by
    match xs,hl,ha with
    | y::ys,hl,ha=>
      obtain ⟨q,q1,q2,q3⟩:=al_struct (n:=n) (cs:=cs) fs (o+x.size) l ys hr (by simpa using hl) (fun i g hg=>by simpa using ha (i+1) g (by simpa using hg))
      have h0:=ha 0 f rfl
      simp only [List.getElem?_cons_zero] at h0
      refine ⟨((cs.drop f.offset).take (P.cellsOf f.type),y.1)::q,⟨_,q,rfl,⟨n,f.type,y.2,ht,h0⟩,q1⟩,by simp [q2], ?_⟩
      simp only [List.map_cons,List.flatten_cons,q3,hf,hc,ShL.size]
      rw [← List.drop_drop,List.take_add]
theorem al_array {n : Nat} {e : TypeId} {x : Sh} {cs : List Value} (ht : ShT P e x) (hc : P.cellsOf e = x.size) : ∀ (m i : Nat) (xs : List (DataW H × List MemPlace)), xs.length = m → (∀ j, j < m → DataW.trod enc P w 0 spare true n e ((cs.drop ((i + j) * P.cellsOf e)).take (P.cellsOf e)) = xs[j]?) →
    ∃ q,Al P w enc spare (ShL.rep x m) q∧q.map (·.2)=xs.map (·.1)∧(q.map (·.1)).flatten=(cs.drop (i*x.size)).take (m*x.size)
  | 0,i,xs,hl,ha=>by
    have:xs=[]:=List.length_eq_zero_iff.1 hl
    subst this
    exact ⟨[],rfl,rfl,by simp⟩
  | m+1,i,xs,hl,ha=>by
    match xs,hl,ha with
    | y::ys,hl,ha=>
      obtain ⟨q,q1,q2,q3⟩:=al_array ht hc m (i+1) ys (by simpa using hl) (fun j hj=>by
        have:=ha (j+1) (by omega)
        simp only [List.getElem?_cons_succ] at this
        rw [← this,show i+(j+1)=i+1+j by omega])
      have h0:=ha 0 (by omega)
      simp only [List.getElem?_cons_zero,Nat.add_zero] at h0
      refine ⟨((cs.drop (i*P.cellsOf e)).take (P.cellsOf e),y.1)::q,⟨_,q,rfl,⟨n,e,y.2,ht,h0⟩,q1⟩,by simp [q2], ?_⟩
      simp only [List.map_cons,List.flatten_cons,q3,hc]
      rw [Nat.succ_mul,Nat.succ_mul,Nat.add_comm (m*x.size),List.take_add,List.drop_drop]
theorem trod_array {n : Nat} {e t : TypeId} {fuel : Nat} {cs : List Value} {x : DataW H × List MemPlace} (ht : P.underlying t = some (.array n e)) (h : DataW.trod enc P w 0 spare true fuel t cs = some x) :
    ∃ (xs:List (DataW H×List MemPlace)) (m:Nat),x=(.agg (xs.map (·.1)),xs.flatMap (·.2))∧cs.length=P.cellsOf t∧xs.length=n∧∀ j,j<n→DataW.trod enc P w 0 spare true m e ((cs.drop (j*P.cellsOf e)).take (P.cellsOf e))=xs[j]?:=by
  cases fuel with
  | zero=>simp [DataW.trod] at h
  | succ m=>
    unfold DataW.trod at h
    rw [ht] at h
    split at h<;>simp_all
    obtain ⟨hl,xs,hp,hd⟩:=h
    exact ⟨xs,hd.symm,by simpa using mapM_some_length hp,m,fun j hj=>by simpa using mapM_some_get hp j j (by simp [hj])⟩
theorem addr_add' {a:Addr} {n:Nat} (h:a.spot=none):a.add n=⟨a.block,a.off+n,none⟩:=by
  cases a
  simp only at h
  subst h
  simp only [Addr.add]
  split<;>simp_all
theorem addr_spot {a:Addr} {n:Nat} (h:a.spot=none):(a.add n).spot=none:=by rw [addr_add' h]
mutual
theorem take (hpos:0<w.heap.size):∀ (sh:Sh) (cs:List Value) (d:DataW H) (M:Mp) (h:AH),(∃ fuel t ps,ShT P t sh∧DataW.trod enc P w 0 (fun _=>true) true fuel t cs=some (d,ps))→In M w h→Sml sh d→Took M w h sh d cs
  | .b,cs,d,M,h,⟨fuel,t,ps,ht,hr⟩,hi,hs=>by
    cases ht with
    | b _ hu=>
      obtain ⟨x,rfl,he⟩:=DataW.trod_bool hu hr
      cases he
      exact ⟨M,h,[.b x],hi,Gr.refl M h,.cons _ _ _ _ (.b x) .nil,⟨x,rfl,rfl⟩,by simp [V.isCell]⟩
  | .i k,cs,d,M,h,⟨fuel,t,ps,ht,hr⟩,hi,hs=>by
    cases ht with
    | i _ _ hu=>
      obtain ⟨x,rfl,he,hw⟩:=DataW.trod_int hu hr
      cases he
      exact ⟨M,h,[.i k x],hi,Gr.refl M h,.cons _ _ _ _ (.i k x) .nil,⟨x,rfl,hw,rfl⟩,by simp [V.isCell]⟩
  | .s,cs,d,M,h,⟨fuel,t,ps,ht,hr⟩,hi,hs=>by
    cases ht with
    | s _ hu=>
      obtain ⟨x,rfl,he,hw⟩:=DataW.trod_string hu hr
      cases he
      exact ⟨M,h,[.s x],hi,Gr.refl M h,.cons _ _ _ _ (.s x) .nil,⟨x,rfl,hw,rfl⟩,by simp [V.isCell]⟩
  | .sl e,cs,d,M,h,⟨fuel,t,ps,ht,hr⟩,hi,hs=>by
    cases ht with
    | sl _ te _ hu hte hce hpe=>
      rcases DataW.trod_slice hu hr with ⟨rfl,he⟩ | ⟨a,len,cap,elems,rest,n,_,rfl,he,hb,hlc,hcm,hlen,hel,hsp,_⟩
      · cases he
        exact ⟨M,h,[.ns],hi,Gr.refl M h,.cons _ _ _ _ .ns .nil,.inl ⟨rfl,rfl⟩,by simp [V.isCell]⟩
      · cases he
        simp only [Sml] at hs
        obtain ⟨hs1,hs2⟩:=hs _ _ rfl
        have hs1':elems.length<bigLen:=by simpa using hs1
        have cell:∀ j (y:DataW H×List MemPlace),elems[j]?=some y→∃ cs',w.cells? 0 (a.add (j*P.cellsOf te)) (P.cellsOf te)=some cs'∧DataW.trod enc P w 0 (fun _=>true) true n te cs'=some y:=by
          intro j y hy
          have hj:j<len:=by rw [← hlen];exact (List.getElem?_eq_some_iff.1 hy).1
          have:=hel j hj
          rw [hy] at this
          simpa [Option.bind_eq_some_iff] using this
        let q:List (List Value×DataW H):=(List.range elems.length).map fun j=>((w.cells? 0 (a.add (j*P.cellsOf te)) (P.cellsOf te)).getD [],((elems[j]?).map (·.1)).getD (.nil))
        have hq:∀ j (y:DataW H×List MemPlace),elems[j]?=some y→∃ cs',w.cells? 0 (a.add (j*P.cellsOf te)) (P.cellsOf te)=some cs'∧DataW.trod enc P w 0 (fun _=>true) true n te cs'=some y∧q[j]?=some (cs',y.1):=by
          intro j y hy
          obtain ⟨cs',h1,h2⟩:=cell j y hy
          have hj:j<elems.length:=(List.getElem?_eq_some_iff.1 hy).1
          refine ⟨cs',h1,h2, ?_⟩
          simp only [q,List.getElem?_map,List.getElem?_range hj,Option.map_some,h1,hy,Option.getD_some]
        have hql:q.length=elems.length:=by simp [q]
        obtain ⟨M1,h1,rows,i1,g1,l1,a1⟩:=take_rows (e:=e) (fun cs d M h hh hi hs=>take hpos e cs d M h hh hi hs) q M h hi (fun z hz=>by
          obtain ⟨j,hj,hz⟩:=List.getElem_of_mem hz
          have hj':j<elems.length:=by rw [← hql];exact hj
          obtain ⟨cs',h1,h2,h3⟩:=hq j elems[j] (by simp [hj'])
          rw [List.getElem?_eq_getElem hj,hz] at h3
          cases h3
          exact ⟨⟨n,te,elems[j].2,hte,h2⟩,hs2 _ (List.mem_map.2 ⟨elems[j],List.getElem_mem _,rfl⟩)⟩)
        have first:∀ cs',w.cells? 0 (a.add 0) (P.cellsOf te)=some cs'→a.block<w.heap.size∧a.spot=none:=by
          intro cs' hcs
          have h1:=World.cells?_block hcs (by omega)
          obtain ⟨_,h2,h3⟩:=World.cells?_some hcs
          have h4:=h3 0 (by omega)
          rw [List.getElem?_eq_getElem (by omega)] at h4
          have h5:=World.cell?_spot h4
          simp only [Addr.add,if_true] at h1 h5
          exact ⟨h1,h5⟩
        have hz:0<cap→a.block<w.heap.size∧a.spot=none:=by
          intro hcap
          by_cases h0:0<elems.length
          · obtain ⟨cs',h2,_,_⟩:=hq 0 elems[0] (by simp [h0])
            exact first cs' (by simpa using h2)
          · have:=(hsp rfl).2 0 (by omega)
            rw [List.getElem?_eq_getElem (by rw [(hsp rfl).1];omega)] at this
            simp only [Option.bind_eq_some_iff] at this
            obtain ⟨cs',h2,_⟩:=this
            exact first cs' (by rw [show (len+0)*P.cellsOf te=0 by rw [show len+0=0 by omega];simp] at h2;exact h2)
        let m:MI:=⟨if 0<cap then a.block else 0,a.off,0,e.size,false⟩
        have hmb:m.b<w.heap.size:=by
          simp only [m]
          split
          · rename_i h0;exact (hz h0).1
          · exact hpos
        have hrow:∀ (el:Nat) (r:List V),rows[el]?=some r→∃ y cs',elems[el]?=some y∧q[el]?=some (cs',y.1)∧w.cells? 0 (a.add (el*P.cellsOf te)) (P.cellsOf te)=some cs':=by
          intro el r hr
          have hel2:el<elems.length:=by rw [← hql,←l1];exact (List.getElem?_eq_some_iff.1 hr).1
          obtain ⟨cs',h2,h3,h4⟩:=hq el elems[el] (by simp [hel2])
          exact ⟨elems[el],cs',by simp [hel2],h4,h2⟩
        have hcells:CellsAt M1 h1 w m ⟨e.size,rows⟩:=by
          refine ⟨rfl,fun el r hr=>?_⟩
          obtain ⟨y,cs',hy,hqe,hcs⟩:=hrow el r hr
          obtain ⟨hv,_,hcell⟩:=a1 el _ r hqe hr
          obtain ⟨_,hcl,hcc⟩:=World.cells?_some hcs
          have hlen2:=hv.length
          have hel2:el<elems.length:=(List.getElem?_eq_some_iff.1 hy).1
          have hz':=hz (by omega)
          refine ⟨by rw [hlen2];simp only;omega,fun j v hj=>⟨hcell v (List.mem_of_getElem? hj), ?_⟩⟩
          obtain ⟨x,hx,hvx⟩:=hv.get j v hj
          have hjl:j<P.cellsOf te:=by
            have:=(List.getElem?_eq_some_iff.1 hx).1
            simp only at this;omega
          refine ⟨x, ?_,hvx⟩
          have e1:=hcc j hjl
          simp only at hx
          rw [hx,addr_add' (addr_spot hz'.2),addr_add' hz'.2] at e1
          rw [← e1]
          simp only [m]
          rw [if_pos (by omega),hce]
        have i2:=i1.give (m:=m) hmb rfl hcells
        have g2:=give_gr (M:=M1) (k:=⟨e.size,rows⟩) (m:=m) i1.fresh
        refine ⟨_,_,[.sl h1.next 0 elems.length elems.length],i2,g1.trans g2,.cons _ _ _ _ ?_ .nil,.inr ⟨elems.map (·.1),rest.map (·.1),h1.next,rows,rfl,by simp,by simp [AH.give],by simp [AH.give],by simp [l1,hql],hs1,fun j x r hx hr=>?_⟩,by simp [V.isCell]⟩
        · rw [hlen]
          refine .sl _ _ _ _ _ _ (by simp [AH.give]) (by omega) (fun _=>⟨m,by simp [mput],fun hc=>?_,by omega,fun ho=>by cases ho⟩)
          have:=hz hc
          simp only [m]
          rw [if_pos hc]
          cases a;simp_all
        · obtain ⟨y,cs',hy,hqe,_⟩:=hrow j r hr
          simp only [List.getElem?_map,hy,Option.map_some,Option.some.injEq] at hx
          subst hx
          exact (a1 j _ r hqe hr).2.1.grow g2
  | .agg l,cs,d,M,h,⟨fuel,t,ps,ht,hr⟩,hi,hs=>by
    cases ht with
    | agg _ fs _ hu hf hc=>
      obtain ⟨xs,n,_,he,hlen,hxl,hx⟩:=DataW.trod_struct hu hr
      cases he
      simp only [Sml] at hs
      obtain ⟨q,q1,q2,q3⟩:=al_struct (n:=n) (cs:=cs) fs.toList 0 l xs hf (by simpa using hxl) (fun i f hf=>hx i f (by simpa using hf))
      obtain ⟨M',h',vs,i',g',v',d',c'⟩:=takeL hpos l q M h q1 hi (by rw [q2];exact hs _ rfl)
      rw [q3,List.drop_zero,←hc,←hlen,List.take_length] at v'
      rw [q2] at d'
      exact ⟨M',h',vs,i',g',v',⟨_,rfl,d'⟩,c'⟩
    | arr _ e n x hu hte hce hct=>
      obtain ⟨xs,m,he,hlen,hxl,hx⟩:=trod_array hu hr
      cases he
      simp only [Sml] at hs
      obtain ⟨q,q1,q2,q3⟩:=al_array (n:=m) (cs:=cs) hte hce n 0 xs hxl (fun j hj=>by rw [Nat.zero_add];exact hx j hj)
      obtain ⟨M',h',vs,i',g',v',d',c'⟩:=takeL hpos (ShL.rep x n) q M h q1 hi (by rw [q2];exact hs _ rfl)
      rw [q3,Nat.zero_mul,List.drop_zero,←hct,←hlen,List.take_length] at v'
      rw [q2] at d'
      exact ⟨M',h',vs,i',g',v',⟨_,rfl,d'⟩,c'⟩
theorem takeL (hpos:0<w.heap.size):∀ (l:ShL) (q:List (List Value×DataW H)) (M:Mp) (h:AH),Al P w enc (fun _=>true) l q→In M w h→Smls l (q.map (·.2))→TookL M w h l (q.map (·.2)) (q.map (·.1)).flatten
  | .nil,q,M,h,ha,hi,hs=>by
    simp only [Al] at ha;subst ha
    exact ⟨M,h,[],hi,Gr.refl M h,.nil,⟨rfl,rfl⟩,by simp⟩
  | .cons x l,q,M,h,ha,hi,hs=>by
    simp only [Al] at ha
    obtain ⟨p,q',rfl,ht,ha⟩:=ha
    simp only [Smls] at hs
    obtain ⟨s1,s2⟩:=hs _ _ rfl
    obtain ⟨M1,h1,vs,i1,g1,v1,d1,c1⟩:=take hpos x p.1 p.2 M h ht hi s1
    obtain ⟨M2,h2,us,i2,g2,v2,d2,c2⟩:=takeL hpos l q' M1 h1 ha i1 s2
    refine ⟨M2,h2,vs++us,i2,g1.trans g2,by simpa using (v1.keep g2.keeps).append v2,⟨_,_,vs,us,rfl,rfl,d1.grow g2,d2⟩,fun v hv=>?_⟩
    rcases List.mem_append.1 hv with hv | hv
    · exact c1 v hv
    · exact c2 v hv
end
end
end Go.Ab
/- A law's row out of the abstract machine. -/
namespace Go.Ab
open Go Go.RowKit
theorem calls_bool {P : Program} {tp : TP} {wr : Wr} (hT : TpOk P wr tp) (hm : MethsOk P tp) (hx : P.follows .mixedOrders = true) {f : Nat} {args : List V} {h : AH} {M : Mp} {w : World} {xs : Array Value}
    (hi:In M w h) (ha:VRs M h args xs.toList) (he:Ev tp f args h (fun r _=>r=.b true)):Calls P f xs w fun e w'=>e=.returned (.bool true)∧Below w.heap.size w w':=by
  obtain ⟨k,v,h',hev,rfl⟩:=he
  refine ((ev_sound hT hm hx k f args h _ h' hev).2 M w.heap.size w xs hi.sim ha).mono fun e w' ⟨x,M',e1,hd⟩=>?_
  subst e1
  have hv:=hd.val
  cases hv
  exact ⟨rfl,hd.below⟩
theorem In.empty (w:World):In (fun _=>none) w ⟨fun _=>none,0,0⟩:=⟨fun _ _ _ hk=>(by cases hk),fun _ _ hm=>(by cases hm),fun _ hl=>absurd rfl hl,rfl⟩
def posB (P:Program):Bool:=
  if P.globals.size=0 then decide (0<(begin P (fun _ _=>0) default).world.heap.size)
  else (((begin P (fun _ _=>0) default).world.heap[0]?).bind Obj.row?).isSome
theorem shaped_pos {P:Program} {w:World} (hp:posB P=true) (hs:w.ShapedOpen P):0<w.heap.size:=by
  unfold posB at hp
  split at hp
  · rename_i h0
    simp only [decide_eq_true_eq] at hp
    obtain ⟨o,_,ho,_⟩:=hs.2 0 (by omega) hp
    by_cases hz:0<w.heap.size
    · exact hz
    · rw [Array.getElem?_eq_none (by omega)] at ho;cases ho
  · rename_i h0
    cases hb:((begin P (fun _ _=>0) default).world.heap[0]?).bind Obj.row? with
    | none=>rw [hb] at hp;cases hp
    | some q=>
      obtain ⟨cs,hc,_⟩:=hs.1 0 q.1 q.2 (by omega) hb
      by_cases hz:0<w.heap.size
      · exact hz
      · rw [Array.getElem?_eq_none (by omega)] at hc;cases hc
def shFs (K:TypeId→Option Sh) (P:Program):List Field→Nat→Option ShL
  | [],_=>some .nil
  | f::fs,o=>(K f.type).bind fun x=>if f.offset=o∧P.cellsOf f.type=x.size then (shFs K P fs (o+x.size)).map fun l=>.cons x l else none
def shB (P:Program):Nat→TypeId→Option Sh
  | 0,_=>none
  | n+1,t=>
    match P.underlying t with
    | some .bool=>some .b
    | some (.int k)=>some (.i k)
    | some .string=>some .s
    | some (.slice e)=>(shB P n e).bind fun x=>if P.cellsOf e=x.size∧0<x.size then some (.sl x) else none
    | some (.struct fs)=>(shFs (shB P n) P fs.toList 0).bind fun l=>if P.cellsOf t=l.size then some (.agg l) else none
    | some (.array m e)=>(shB P n e).bind fun x=>if P.cellsOf e=x.size∧P.cellsOf t=m*x.size then some (.agg (ShL.rep x m)) else none
    | _=>none
theorem shFs_ok {K:TypeId→Option Sh} {P:Program} (hK:∀ t x,K t=some x→ShT P t x):∀ (fs:List Field) (o:Nat) (l:ShL),shFs K P fs o=some l→ShF P fs o l
  | [],o,l,h=>by cases h;exact .nil o
  | f::fs,o,l,h=>by
    simp only [shFs,Option.bind_eq_some_iff] at h
    obtain ⟨x,hx,h⟩:=h
    split at h
    · rename_i hh
      simp only [Option.map_eq_some_iff] at h
      obtain ⟨l',hl,rfl⟩:=h
      exact .cons f fs o x l' hh.1 (hK _ _ hx) hh.2 (shFs_ok hK fs _ l' hl)
    · cases h
theorem shB_ok {P:Program}:∀ (n:Nat) (t:TypeId) (x:Sh),shB P n t=some x→ShT P t x
  | 0,t,x,h=>by cases h
  | n+1,t,x,h=>by
    unfold shB at h
    split at h
    · rename_i hu;cases h;exact .b t hu
    · rename_i k hu;cases h;exact .i t k hu
    · rename_i hu;cases h;exact .s t hu
    · rename_i e hu
      simp only [Option.bind_eq_some_iff] at h
      obtain ⟨y,hy,h⟩:=h
      split at h
      · rename_i hh;cases h;exact .sl t e y hu (shB_ok n e y hy) hh.1 hh.2
      · cases h
    · rename_i fs hu
      simp only [Option.bind_eq_some_iff] at h
      obtain ⟨l,hl,h⟩:=h
      split at h
      · rename_i hh;cases h;exact .agg t fs l hu (shFs_ok (shB_ok n) _ _ _ hl) hh
      · cases h
    · rename_i m e hu
      simp only [Option.bind_eq_some_iff] at h
      obtain ⟨y,hy,h⟩:=h
      split at h
      · rename_i hh;cases h;exact .arr t e m y hu (shB_ok n e y hy) hh.1 hh.2
      · cases h
    · cases h
section
variable {H:Type} {enc:TypeId×Value→H}
theorem handed_cond {a : Assume} {C : Checked} {os : Os} {f : FuncId} {fn : Func} {s : OpenSpec} {k : (H : Type) → List (DataW H) → Bool} (hk : s.cond = some k) {F : Stop.Interp} {conds : List PathCond} {apart fresh handsOn again : Bool}
    (own:ownKnob C.prog.godebug=none) (started:os.Started) (noInit:C.prog.inits.idxOf? f=none) (hfn:C.prog.funcs[f]?=some fn) (hpos:posB C.prog=true)
    (witness:∃ (w:World) (tape:Tape) (i:Input),w.os=os∧(w.forCall tape i).Shaped C.prog∧i.vars=[]∧Input.okWide C.prog (w.forCall tape i) .any w.heap.size f i ∧
      s.pre6 enc C.prog fn conds apart (w.forCall tape i).memory i.args∧a.holds C.prog (lone (Frame.enter C.prog f i.args .normal) [] (w.forCall tape i)))
    (contract:∀ (W:World) (base:Nat) (args:Array Value) (ds gs:List (DataW H)) (before:List MemPlace),0<W.heap.size →
      (∀ (j:Nat) t v,fn.params[j]?=some t→args[j]?=some v→Value.okWide C.prog W .any base t v) →
      DataW.Whole enc C.prog fn.params.toList s.vars apart W args.toList ds gs before→k H (ds++gs)=true →
      Calls C.prog f args W fun e W'=>∃ v,e=.returned v∧(s.at F).post enc C.prog fn apart fresh handsOn again W args v W'):
    ReturnsInHanded a C os f .any (s.pre6 enc C.prog fn conds apart) ((s.at F).post enc C.prog fn apart fresh handsOn again):=by
  refine returnsInHanded_of_calls own started noInit witness ?_
  intro w tape i _ hshaped _ hok hpre _
  obtain ⟨_,_,_,fn',hfn',_,_,_,_,hval⟩:=hok
  obtain rfl:fn'=fn:=Option.some.inj (hfn'.symm.trans hfn)
  obtain ⟨ds,gs,before,hw,_,hkk⟩:=(OpenSpec.pre_some hk conds apart _ _).1 hpre.1
  have hw':=DataW.Whole.of_heap (w':=w.forCall tape i) (by rfl) hw
  refine (contract (w.forCall tape i) w.heap.size i.args ds gs before (shaped_pos hpos hshaped) hval hw' hkk).mono fun e W' ⟨v,he,hp⟩=>?_
  subst he
  exact ChangeSpec.post_blind hp
end
end Go.Ab
namespace Go.Ab.T
open Go Go.Ab
set_option maxHeartbeats 1000000
theorem Pf.ev {f:Nat} {args args1:List V} {h:AH} (pf:Pf tp f args (.b true)) (hl:h.lim≤h.next) (p:PRs (·<h.next) (fun i=>i) h.get 0 args args1):Ev tp f args1 h (fun r _=>r=.b true):=by
  refine (pf (·<h.next) (fun i=>i) h args1 (Cfg.emp (fun a ha=>ha) hl _) p).imp ?_
  rintro r1 hc' ⟨r,h',S',m',c',a',q,rfl,rfl⟩
  cases q;rfl
structure BK {H:Type} (bk:DataW H→Nat):Prop where
  sl:∀ elems spare,elems.length≤bk (.slice elems spare)
  el:∀ elems spare x,x∈elems→bk x≤bk (.slice elems spare)
  ag:∀ parts x,x∈parts→bk x≤bk (.agg parts)
  st:∀ l,l.length≤bk (.lit (.string l))
section
variable {H:Type} {bk:DataW H→Nat} {h:AH}
abbrev PW (h:AH) (u v:V):Prop:=PR (·<h.next) (fun i=>i) h.get 0 u v
abbrev PWs (h:AH) (u v:List V):Prop:=PRs (·<h.next) (fun i=>i) h.get 0 u v
theorem gr_mon {M M':Mp} {h h':AH} (g:Gr M M' h h'):PMon (·<h.next) (fun i=>i) h.get 0 (·<h'.next) (fun i=>i) h'.get 0:=
  ⟨fun a ha=>Nat.lt_of_lt_of_le ha g.keeps.next,fun a ha=>g.get a ha,fun _ _=>rfl,Nat.le_refl _⟩
theorem PW.gr {M M':Mp} {h h':AH} {u v:V} (g:Gr M M' h h') (p:PW h u v):PW h' u v:=PR.mono (gr_mon g) p
theorem PWs.gr {M M':Mp} {h h':AH} {u v:List V} (g:Gr M M' h h') (p:PWs h u v):PWs h' u v:=PRs.mono (gr_mon g) p
theorem dec_slice {α : Type} {en : α → List V} {good : α → Prop} (B : BK bk) {e : Sh} {d : DataW H} {vs : List V} (hd : DV h (.sl e) d vs) (hb : bk d ≤ 1048576) (hp : ∀ (y : DataW H) (r : List V), DV h e y r → bk y ≤ 1048576 → ∃ a, good a ∧ PWs h (en a) r) :
    ∃ (L:List α) (x:V),vs=[x]∧(∀ a∈L,good a)∧L.length≤1048576∧PW h (.fl e.size (L.map en)) x:=by
  simp only [DV] at hd
  rcases hd with ⟨rfl,rfl⟩ | ⟨elems,spare,id,rows,rfl,rfl,h2,h3,h4,h5,h6⟩
  · exact ⟨[],_,rfl,(fun a ha=>by cases ha),by simp,.fl0 _ _⟩
  · have hl:=B.sl elems spare
    have hel:=B.el elems spare
    have:∀ (els:List (DataW H)) (rows:List (List V)),rows.length=els.length→(∀ x∈els,bk x≤1048576)→(∀ (j:Nat) (x:DataW H) (r:List V),els[j]?=some x→rows[j]?=some r→DV h e x r)→∃ L:List α,L.length=els.length∧(∀ a∈L,good a)∧PRr (·<h.next) (fun i=>i) h.get 0 (L.map en) rows:=by
      intro els
      induction els with
      | nil=>intro rows hl _ _;rw [List.length_eq_zero_iff.1 hl];exact ⟨[],rfl,(fun a ha=>by cases ha),.nil _⟩
      | cons y els ih=>
        intro rows hl hb hr
        match rows,hl with
        | r::rows,hl=>
          obtain ⟨a,ga,pa⟩:=hp y r (hr 0 y r rfl rfl) (hb y (List.mem_cons_self ..))
          obtain ⟨L,l1,l2,l3⟩:=ih rows (by simpa using hl) (fun x hx=>hb x (List.mem_cons_of_mem _ hx)) (fun j x r hx hr'=>hr (j+1) x r (by simpa using hx) (by simpa using hr'))
          exact ⟨a::L,by simp [l1],fun b hb=>by rcases List.mem_cons.1 hb with rfl | hb;exact ga;exact l2 b hb,.cons _ _ _ _ _ pa l3⟩
    obtain ⟨L,l1,l2,l3⟩:=this elems rows h4 (fun x hx=>by have:=hel x hx;omega) h6
    refine ⟨L,_,rfl,l2,by omega, ?_⟩
    have e1:elems.length=(L.map en).length:=by simp [l1]
    rw [e1]
    exact .fl _ _ _ id 0 _ rows h3 h2 (Nat.le_refl _) (by simp;omega) (by simp [frzLen];omega) (by rw [List.drop_zero,List.take_of_length_le (by simp;omega)];exact l3)
theorem dec_ints (B:BK bk) {d:DataW H} {vs:List V} (hd:DV h (.sl (.i .i64)) d vs) (hb:bk d≤1048576):∃ (L:List Int) (x:V),vs=[x]∧L.length≤1048576∧PW h (.fl 1 (L.map encI)) x:=by
  obtain ⟨L,x,h1,_,h3,h4⟩:=dec_slice (en:=encI) (good:=fun _=>True) B hd hb (fun y r hy _=>by obtain ⟨n,_,_,rfl⟩:=hy;exact ⟨n,trivial,.cons _ _ _ _ _ (.i _ _ _) (.nil _)⟩)
  exact ⟨L,x,h1,h3,h4⟩
end
end Go.Ab.T
