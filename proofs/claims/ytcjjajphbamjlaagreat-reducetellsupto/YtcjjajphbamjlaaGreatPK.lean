/- Part of a proof that a law returns true for every input of the second form's bound (no other condition). -/
import Derived.JoinedCond
import Derived.ChangeArms
import Derived.WalkKit
import Derived.ProofKit
import Derived.OpenShut
import Derived.ShutString
import Derived.ChangeOld
import Derived.SizedLaws
import Derived.Test.YtcjjajphbamjlaaGreatPJ
import Derived.Test.YtcjjajphbamjlaaGreatPI
import Derived.Test.YtcjjajphbamjlaaGreatPC
import Derived.Test.YtcjjajphbamjlaaGreatPE
set_option linter.all false
namespace Go.Ab.T
open Go Go.Ab
set_option maxHeartbeats 4000000
/-! Folding, plain. -/
def sumS (sz:Nat→Int) (i:Nat):Nat→Int
  | 0=>0
  | k+1=>sumS sz i k+sz (i+k)
def StOk (len:Nat) (sz:Nat→Int) (tm:Nat→Nat→Nat) (st:St):Prop:=(st=⟨0,0,0,0⟩)∨(1≤st.p∧st.i+2*st.p≤len∧st.n=tm st.i st.p∧1<st.n∧st.s=svs (sumS sz st.i st.p) st.n st.p∧0<st.s)
theorem StOk.pos {len:Nat} {sz:Nat→Int} {tm:Nat→Nat→Nat} {st:St} (h:StOk len sz tm st):0≤st.s:=by
  rcases h with rfl | h
  · exact Int.le_refl _
  · omega
theorem betP_ok {len:Nat} {sz:Nat→Int} {tm:Nat→Nat→Nat} {i:Nat}:∀ (f p:Nat) (z:Int) (st:St),1≤p→i+2*(p+f)≤len+2→z=sumS sz i (p - 1)→StOk len sz tm st→StOk len sz tm (betP sz tm i f p z st)
  | 0,_,_,st,_,_,_,h=>h
  | f+1,p,z,st,hp,hl,hz,h=>by
    rw [betP]
    have e:z+sz (i+p - 1)=sumS sz i p:=by
      obtain ⟨q,rfl⟩:∃ q,p=q+1:=⟨p - 1,by omega⟩
      rw [sumS,hz];rfl
    refine betP_ok f (p+1) _ _ (by omega) (by omega) (by simpa using e) ?_
    split
    · rename_i hc
      have:=h.pos
      exact .inr ⟨hp,by simp only;omega,rfl,hc.1,by simp only [e],by simp only;omega⟩
    · exact h
theorem betA_ok {len:Nat} {sz:Nat→Int} {tm:Nat→Nat→Nat}:∀ (f i:Nat) (st:St),i+f≤len→StOk len sz tm st→StOk len sz tm (betA len sz tm f i st)
  | 0,_,st,_,h=>h
  | f+1,i,st,hl,h=>by
    rw [betA]
    exact betA_ok f (i+1) _ (by omega) (betP_ok _ _ _ _ (Nat.le_refl _) (by omega) rfl h)
theorem betR_ok {len:Nat} {sz:Nat→Int} {tm:Nat→Nat→Nat}:StOk len sz tm (betR len sz tm):=betA_ok _ _ _ (by omega) (.inl rfl)
theorem betP_congr {len:Nat} {sz sz':Nat→Int} {tm tm':Nat→Nat→Nat} {i:Nat} (hs:∀ j,j<len→sz j=sz' j) (ht:∀ i p,1≤p→i+2*p≤len→tm i p=tm' i p):∀ (f p:Nat) (z:Int) (st:St),1≤p→i+2*(p+f)≤len+2→betP sz tm i f p z st=betP sz' tm' i f p z st
  | 0,_,_,st,_,_=>rfl
  | f+1,p,z,st,hp,hl=>by
    rw [betP,betP,hs (i+p - 1) (by omega),ht i p hp (by omega)]
    exact betP_congr hs ht f (p+1) _ _ (by omega) (by omega)
theorem betA_congr {len:Nat} {sz sz':Nat→Int} {tm tm':Nat→Nat→Nat} (hs:∀ j,j<len→sz j=sz' j) (ht:∀ i p,1≤p→i+2*p≤len→tm i p=tm' i p):∀ (f i:Nat) (st:St),i+f≤len→betA len sz tm f i st=betA len sz' tm' f i st
  | 0,_,st,_=>rfl
  | f+1,i,st,hl=>by
    rw [betA,betA,betP_congr hs ht _ _ _ _ (Nat.le_refl _) (by omega)]
    exact betA_congr hs ht f (i+1) _ (by omega)
/-! Ids instead of items. -/
theorem idxGo_bd {α:Type} {P:α→Bool}:∀ (L:List α) (i:Int) (x:α),x∈L→P x=true→∃ k:Nat,idxGo P L i=i+k∧∃ y,L[k]?=some y∧P y=true
  | [],i,x,h,_=>by cases h
  | a::l,i,x,h,hp=>by
    rw [idxGo]
    split
    · rename_i ha;exact ⟨0,by simp,a,rfl,ha⟩
    · rename_i ha
      rcases List.mem_cons.1 h with rfl | h
      · exact absurd hp ha
      · obtain ⟨k,h1,y,h2,h3⟩:=idxGo_bd l (i+1) x h hp
        exact ⟨k+1,by rw [h1];omega,y,h2,h3⟩
theorem idx_inj {X:List (List Node)} {x y:List Node} (hx:x∈X) (hy:y∈X) (h:idxGo (fun z=>decide (x=z)) X 0=idxGo (fun z=>decide (y=z)) X 0):x=y:=by
  obtain ⟨k,h1,a,h2,h3⟩:=idxGo_bd X 0 x (P:=fun z=>decide (x=z)) hx (by simp)
  obtain ⟨m,g1,c,g2,g3⟩:=idxGo_bd X 0 y (P:=fun z=>decide (y=z)) hy (by simp)
  have:k=m:=by omega
  subst this
  rw [h2] at g2;cases g2
  simp at h3 g3
  rw [h3,g3]
theorem map_inj_of {α β:Type} {f:α→β}:∀ {l m:List α},(∀ x∈l,∀ y∈m,f x=f y→x=y)→l.map f=m.map f→l=m
  | [],[],_,_=>rfl
  | [],b::m,_,h=>by simp at h
  | a::l,[],_,h=>by simp at h
  | a::l,b::m,hi,h=>by
    simp only [List.map_cons,List.cons.injEq] at h
    rw [hi a (List.mem_cons_self ..) b (List.mem_cons_self ..) h.1,map_inj_of (fun x hx y hy=>hi x (List.mem_cons_of_mem _ hx) y (List.mem_cons_of_mem _ hy)) h.2]
theorem ag_ids {X:List (List Node)} {i p:Nat}:∀ (f k:Nat),agGo (idsR X X.length) i p f k=agGo X i p f k
  | 0,k=>rfl
  | f+1,k=>by
    rw [agGo,agGo,ag_ids f (k+1)]
    have hl:(idsR X X.length).length=X.length:=by simp [idsR]
    have e:((idsR X X.length).drop i).take p=((idsR X X.length).drop (i+k*p)).take p↔(X.drop i).take p=(X.drop (i+k*p)).take p:=by
      unfold idsR
      rw [List.take_length,←List.map_drop,←List.map_drop,←List.map_take,←List.map_take]
      refine ⟨fun h=>map_inj_of (fun x hx y hy=>idx_inj (List.mem_of_mem_drop (List.mem_of_mem_take hx)) (List.mem_of_mem_drop (List.mem_of_mem_take hy))) h,fun h=>by rw [h]⟩
    rw [hl]
    simp only [e]
theorem ag_idsR {X:List (List Node)} {i p:Nat}:agR (idsR X X.length) i p=agR X i p:=by
  have hl:(idsR X X.length).length=X.length:=by simp [idsR]
  unfold agR;rw [hl];exact ag_ids _ _
def bestX (X:List (List Node)):St:=betR X.length (fun j=>((nth X j).length:Int)) (agR X)
theorem best_ids {X:List (List Node)}:betR (idsR X X.length).length (nth (szsR X X.length)) (agR (idsR X X.length))=bestX X:=by
  have hl:(idsR X X.length).length=X.length:=by simp [idsR]
  unfold bestX betR
  rw [hl]
  refine betA_congr (fun j hj=>?_) (fun i p _ _=>ag_idsR) _ _ _ (by omega)
  unfold szsR
  rw [List.take_length,nth_map hj]
theorem agGo_blk {α : Type} [DecidableEq α] {X : List α} {i p : Nat} : ∀ (f k : Nat), 1 ≤ k → i + k * p ≤ X.length → (∀ m, m < k → (X.drop (i + m * p)).take p = (X.drop i).take p) →
    i+agGo X i p f k*p≤X.length∧∀ m,m<agGo X i p f k→(X.drop (i+m*p)).take p=(X.drop i).take p
  | 0,k,_,h1,h2=>⟨h1,h2⟩
  | f+1,k,hk,h1,h2=>by
    rw [agGo]
    split
    · rename_i hc
      exact agGo_blk f (k+1) (by omega) hc.1 (fun m hm=>by
        rcases Nat.lt_succ_iff_lt_or_eq.1 hm with hm | rfl
        · exact h2 m hm
        · exact hc.2.symm)
    · exact ⟨h1,h2⟩
theorem rep_blk {α:Type} {X:List α} {i p:Nat} {B:List α}:∀ (n:Nat),(∀ m,m<n→(X.drop (i+m*p)).take p=B)→X.drop i=(List.replicate n B).flatten++X.drop (i+n*p)
  | 0,_=>by simp
  | n+1,h=>by
    have h1:=rep_blk n (fun m hm=>h m (by omega))
    have h2:=h n (by omega)
    have h3:X.drop (i+n*p)=B++X.drop (i+(n+1)*p):=by
      have:=(List.take_append_drop p (X.drop (i+n*p))).symm
      rw [h2,List.drop_drop] at this
      rw [this,show i+n*p+p=i+(n+1)*p by rw [Nat.add_mul];omega]
    rw [h1,List.replicate_succ',List.flatten_append,List.append_assoc,List.flatten_singleton,←h3]
def joinX (X:List (List Node)):List Node:=if X.length=1 then X.flatten else ⟨3,0,X.length⟩::X.flatten
def foldAt (X:List (List Node)) (s:St):List (List Node):=X.take s.i++[⟨4,0,s.n⟩::joinX ((X.drop s.i).take s.p)]++X.drop (s.i+s.p*s.n)
structure FoldS (X:List (List Node)) (s:St):Prop where
  p:1≤s.p
  n:1<s.n
  le:s.i+s.p*s.n≤X.length
  eq:X=X.take s.i++(List.replicate s.n ((X.drop s.i).take s.p)).flatten++X.drop (s.i+s.p*s.n)
  bl:((X.drop s.i).take s.p).length=s.p
  sv:s.s=svs ((X.drop s.i).take s.p).flatten.length s.n s.p
  ps:0<s.s
theorem sumS_flat {X:List (List Node)} {i:Nat}:∀ (k:Nat),i+k≤X.length→sumS (fun j=>((nth X j).length:Int)) i k=((X.drop i).take k).flatten.length
  | 0,_=>by simp [sumS]
  | k+1,h=>by
    rw [sumS,sumS_flat k (by omega),take_snoc (by simp;omega),List.flatten_append,List.length_append,nth_drop];simp
theorem best_fold {X:List (List Node)}:(bestX X).n=0∨FoldS X (bestX X):=by
  rcases betR_ok (len:=X.length) (sz:=fun j=>((nth X j).length:Int)) (tm:=agR X) with h | ⟨h1,h2,h3,h4,h5,h6⟩
  · left;unfold bestX;rw [h]
  · right
    change 1≤(bestX X).p at h1
    change (bestX X).i+2*(bestX X).p≤X.length at h2
    change (bestX X).n=agR X (bestX X).i (bestX X).p at h3
    change 1<(bestX X).n at h4
    change (bestX X).s=svs (sumS _ (bestX X).i (bestX X).p) (bestX X).n (bestX X).p at h5
    change 0<(bestX X).s at h6
    obtain ⟨g1,g2⟩:=agGo_blk (X:=X) (i:=(bestX X).i) (p:=(bestX X).p) X.length 1 (Nat.le_refl _) (by omega) (fun m hm=>by
      obtain rfl:m=0:=by omega
      simp)
    have e:agGo X (bestX X).i (bestX X).p X.length 1=(bestX X).n:=h3.symm
    rw [e] at g1 g2
    have h7:=rep_blk _ g2
    rw [Nat.mul_comm] at g1 h7
    refine ⟨h1,h4,g1, ?_, ?_, ?_,h6⟩
    · rw [List.append_assoc,←h7,List.take_append_drop]
    · rw [List.length_take,List.length_drop];omega
    · rw [h5,sumS_flat _ (by omega)]
theorem join_len {X:List (List Node)}:(joinX X).length=X.flatten.length+(if X.length=1 then 0 else 1):=by unfold joinX;split<;>simp
theorem flat_rep_len {n:Nat} {B:List (List Node)}:(List.replicate n B).flatten.flatten.length=n*B.flatten.length:=by
  induction n with
  | zero=>simp
  | succ n ih=>rw [List.replicate_succ,List.flatten_cons,List.flatten_append,List.length_append,ih,Nat.succ_mul,Nat.add_comm]
theorem fold_less {X:List (List Node)} {s:St} (h:FoldS X s):(foldAt X s).length<X.length∧((foldAt X s).flatten.length:Int)=X.flatten.length - s.s:=by
  have hp:=h.p;have hn:=h.n;have hle:=h.le;have hbl:=h.bl;have hsv:=h.sv
  have hpn:2≤s.p*s.n:=by have:=Nat.mul_le_mul hp (show 2≤s.n by omega);omega
  refine ⟨?_, ?_⟩
  · unfold foldAt
    simp only [List.length_append,List.length_take,List.length_cons,List.length_nil,List.length_drop];omega
  · have e:=congrArg (fun l=>l.flatten.length) h.eq
    simp only [List.flatten_append,List.length_append,flat_rep_len] at e
    unfold foldAt
    simp only [List.flatten_append,List.length_append,List.flatten_singleton,List.length_cons,join_len,hbl]
    rw [hsv,svs]
    generalize ((X.drop s.i).take s.p).flatten.length=z at *
    have hm:(z:Int)*((s.n:Int) - 1)=(s.n*z:Nat) - z:=by
      rw [Int.mul_sub,Int.mul_one,Int.mul_comm];simp
    rw [hm]
    have:(s.p=1)↔¬ (1<s.p):=by omega
    by_cases h1:1<s.p
    · rw [if_pos h1,if_neg (by omega)];omega
    · rw [if_neg h1,if_pos (by omega)];omega
def tabGo:Nat→List (List Node)→List Node
  | 0,X=>joinX X
  | f+1,X=>if (bestX X).n=0 then joinX X else tabGo f (foldAt X (bestX X))
def foldR (L:List Run):List Node:=if frameB L=true then tabGo L.length (leavesX L) else []
end Go.Ab.T
namespace Go.Ab.T
open Go Go.Ab
set_option maxHeartbeats 4000000
theorem frz_two {P:Nat→Prop} {h:AH} {k i1 i2:Nat} {n:Node} {L:List Node} (g1:h.get i1=some ⟨3,[n.enc]⟩) (p1:P i1) (g2:h.get i2=some ⟨1,[[.sl i1 0 1 1],[.fl 3 (L.map Node.enc)]]⟩) (p2:P i2):Frz P h k (.sl i2 0 2 2) (.fl 1 ([[n],L].map Tab.enc)):=
  .sl _ _ _ _ _ _ _ _ p2 g2 (by simp) (Nat.le_refl _) (by simp [frzLen])
    (.cons _ _ _ _ _ (.cons _ _ _ _ _ (.sl _ _ _ _ _ _ _ _ p1 g1 (by simp) (Nat.le_refl _) (by simp [frzLen]) (Frzr.of_map (enc:=Node.enc) (fun _=>rfl) [n])) (.nil _)) (.cons _ _ _ _ _ (.cons _ _ _ _ _ (.fl _ _ _) (.nil _)) (.nil _)))
theorem joined_ev {X:List (List Node)} (hX:X.length<100000) (hR:X.flatten.length<100000):Pf tp i_Q66 [.fl 1 (X.map Tab.enc)] (.fl 3 ((joinX X).map Node.enc)):=by
  refine Pf_go fn_Q66 (by simp [t_Q66]) fun rp=>?_;unfold t_Q66;simp (disch:=omega)only[go_sem, *]
  refine Pf.go (concN_ev (by omega) (by omega)) (by simp only [go_sem]) fun _=>?_;simp (disch:=omega)only[go_sem, *]
  refine Wb_dec (fun hc=>?_) (fun hc=>?_)
  · have e:joinX X=X.flatten:=if_pos (by omega)
    simp (disch:=omega)only[go_sem, *]
  · have e:joinX X=[[⟨3,0,(X.length:Int)⟩],X.flatten].flatten:=by unfold joinX;rw [if_neg (by omega)];simp
    have hc2:=concN_ev (X:=[[⟨3,0,(X.length:Int)⟩],X.flatten]) (by simp) (by simp at hR ⊢;omega)
    rw [← e] at hc2
    clear e
    simp (disch:=omega)only[go_sem, *]
    refine Pf.take [0,1] hc2 (.cons _ _ _ _ _ (frz_two (i1:=0) (by rfl) (by simp) (by rfl) (by simp)) (.nil _)) fun _=>?_
    simp (disch:=omega)only[go_sem, *]
theorem rseq_ev {X:List (List Node)} (hX:X.length<100000) (hR:X.flatten.length<100000):Pf tp i_Q118 [.fl 1 (X.map Tab.enc)] (.fl 3 ((joinX X).map Node.enc)):=by
  refine Pf_go fn_Q118 (by simp [t_Q118]) fun rp=>?_;unfold t_Q118;simp (disch:=omega)only[go_sem, *]
  refine Wb_dec (fun hc=>?_) (fun hc=>?_)
  · have e:joinX X=nth X 0:=by
      unfold joinX;rw [if_pos (by omega)]
      match X,hc with
      | [a],_=>simp [nth]
    have hl:(nth X 0).length≤X.flatten.length:=by
      match X,hc with
      | [a],_=>simp [nth]
    simp (disch:=omega)only[go_sem, *]
    refine app_rule (R:=[]) (Sl.nil' 0 _ _) (by simp (disch:=omega)only[go_sem, *]) (Nat.zero_le _) (by simp;omega) ?_
    intro w h4 s4 g4
    simp (disch:=omega)only[go_sem, *]
    exact s4.froze (fun _=>rfl) trivial (by omega)
  · have tk:∀ i,i<X.length→(X.take (i+1)).flatten=(X.take i).flatten++nth X i:=fun i hi=>by rw [take_snoc hi];simp
    have tl:∀ i,(X.take i).flatten.length≤X.flatten.length:=fun i=>by
      conv=>rhs;rw [← List.take_append_drop i X]
      rw [List.flatten_append,List.length_append];omega
    have eJ:joinX X=⟨3,0,X.length⟩::X.flatten:=if_neg (by omega)
    simp (disch:=omega)only[go_sem, *]
    refine ZC_loop_n (fun n e h=>∃ (i:Nat) (v:V),n=X.length - i∧h.lim=0∧e 18=.fl 1 (X.map Tab.enc)∧e 19=.i .i64 X.length∧e 20=.i .i64 i∧e 3=v∧i≤X.length∧Sl 0 h 3 v ((⟨3,0,X.length⟩::(X.take i).flatten).map Node.enc)) ?_ _ _ _ ⟨0,.sl 0 0 1 1,rfl, ?_⟩
    · rintro n e h ⟨i,v,rfl,hl,e18,e19,e20,e3,hi,so⟩ ih
      rw [ZC_unf Q118_9.eq_1]
      simp (disch:=omega)only[go_sem, *]
      refine Wb_dec (fun hc=>?_) (fun hc=>?_)
      · have h1:=tk i (by omega)
        have h2:=tl (i+1)
        rw [h1,List.length_append] at h2
        have h4:((⟨3,0,X.length⟩::(X.take (i+1)).flatten).map Node.enc)=((⟨3,0,X.length⟩::(X.take i).flatten).map Node.enc)++(nth X i).map Node.enc:=by rw [h1,List.map_cons,List.map_cons,List.map_append,List.cons_append]
        clear tk tl h1 eJ
        simp (disch:=omega)only[go_sem, *]
        refine app_rule so (by simp (disch:=omega)only[go_sem, *]) (Nat.zero_le _) (by simp only [List.length_map,List.length_cons];omega) ?_
        intro w h5 s5 g5
        have l5:=g5.lim
        rw [← h4] at s5
        clear h4 so g5
        simp (disch:=omega)only[go_sem, *]
        refine ih _ _ _ ?_ ⟨i+1,w,rfl, ?_⟩
        · omega
        · simp (disch:=omega)only[go_sem, *]
          ((repeat' refine And.intro ?_ ?_)<;>first | omega | assumption | (exact s5))
      · have hi3:i=X.length:=by omega
        rw [hi3,List.take_length,←eJ] at so
        have hj:(joinX X).length<4000000000:=by rw [eJ];simp at hR ⊢;omega
        clear eJ
        simp (disch:=omega)only[go_sem, *]
        exact so.froze (fun _=>rfl) trivial hj
    · simp (disch:=omega)only[go_sem, *]
      exact .inr ⟨_,_,_,_,rfl,(rfl:(AH.emp.alloc ⟨3,[[.i .i64 3,.i .i64 0,.i .i64 X.length]]⟩).get 0=_),by simp,by simp [Node.enc],by simp,by simp [next_alloc],Nat.le_refl _,by simp⟩
end Go.Ab.T
namespace Go.Ab.T
open Go Go.Ab
set_option maxHeartbeats 4000000
theorem next_kills {h:AH} {D:List Nat}:(h.kills D).next=h.next:=nrfl rfl
theorem lim_kills {h:AH} {D:List Nat}:(h.kills D).lim=h.lim:=nrfl rfl
theorem get_kills2 {h:AH} {i a b:Nat} (h1:¬ i=a) (h2:¬ i=b):(h.kills [a,b]).get i=h.get i:=by simp [AH.kills,h1,h2]
attribute [go_sem] next_kills lim_kills get_kills2
theorem frz_three {P:Nat→Prop} {h:AH} {k i1 i2:Nat} {L:List Node} {A B:List (List Node)} (g1:h.get i1=some ⟨1,[[.fl 3 (L.map Node.enc)]]⟩) (p1:P i1) (g2:h.get i2=some ⟨1,[[.fl 1 (A.map Tab.enc)],[.sl i1 0 1 1],[.fl 1 (B.map Tab.enc)]]⟩) (p2:P i2):Frz P h k (.sl i2 0 3 3) (.fl 1 ([A,[L],B].map Its.enc)):=
  .sl _ _ _ _ _ _ _ _ p2 g2 (by simp) (Nat.le_refl _) (by simp [frzLen])
    (.cons _ _ _ _ _ (.cons _ _ _ _ _ (.fl _ _ _) (.nil _)) (.cons _ _ _ _ _ (.cons _ _ _ _ _ (.sl _ _ _ _ _ _ _ _ p1 g1 (by simp) (Nat.le_refl _) (by simp [frzLen]) (Frzr.of_map (enc:=Tab.enc) (fun _=>rfl) [L])) (.nil _)) (.cons _ _ _ _ _ (.cons _ _ _ _ _ (.fl _ _ _) (.nil _)) (.nil _))))
theorem leaves_flat {L:List Run}:(leavesX L).length=L.length∧(leavesX L).flatten.length=L.length:=by
  refine ⟨by simp [leavesX], ?_⟩
  induction L with
  | nil=>rfl
  | cons r l ih=>simp only [leavesX,List.map_cons,List.flatten_cons,List.length_append,List.length_cons,List.length_nil] at *;omega
theorem len_flat {X:List (List Node)} {j:Nat} (h:j<X.length):(nth X j).length≤X.flatten.length:=by
  conv=>rhs;rw [← List.take_append_drop (j+1) X]
  rw [List.flatten_append,List.length_append,take_snoc h,List.flatten_append,List.length_append,List.flatten_singleton];omega
theorem take_flat {X:List (List Node)} {a b:Nat}:((X.drop a).take b).flatten.length≤X.flatten.length:=by
  have h1:X.flatten.length=(X.take a).flatten.length+(X.drop a).flatten.length:=by rw [← List.length_append,←List.flatten_append,List.take_append_drop]
  have h2:(X.drop a).flatten.length=((X.drop a).take b).flatten.length+((X.drop a).drop b).flatten.length:=by rw [← List.length_append,←List.flatten_append,List.take_append_drop]
  omega
theorem best_nil {X:List (List Node)} (h:X.length=0):(bestX X).n=0:=by
  rcases best_fold (X:=X) with h1 | h1
  · exact h1
  · have:=h1.le;have:=h1.p;have:=h1.n
    have:=Nat.mul_le_mul h1.p (show 2≤(bestX X).n by omega);omega
theorem frameB_len {L:List Run} (h:frameB L=true):0<L.length∧L.length≤96:=by
  simp only [frameB,Bool.and_eq_true,decide_eq_true_eq] at h;omega
theorem foldTable_ev {L:List Run}:Pf tp i_Q28 [.fl 2 (L.map Run.enc)] (.fl 3 ((foldR L).map Node.enc)):=by
  refine Pf_go fn_Q28 (by simp [t_Q28]) fun rp=>?_;unfold t_Q28;simp (disch:=omega)only[go_sem, *]
  refine Pf.go (right3_ev) (by simp only [go_sem]) fun _=>?_;simp (disch:=omega)only[go_sem, *]
  refine Wb_of (fun hc=>?_) (fun hc=>?_)
  · have e:foldR L=[]:=by unfold foldR;rw [if_neg];simpa using hc
    simp (disch:=omega)only[go_sem, *]
  · have hfr:frameB L=true:=by simpa using hc
    have hL:=frameB_len hfr
    have eF:foldR L=tabGo L.length (leavesX L):=if_pos hfr
    have hl:=leaves_flat (L:=L)
    clear hc
    simp (disch:=omega)only[go_sem, *]
    refine Pf.go (leaves_ev) (by simp only [go_sem]) fun _=>?_;simp (disch:=omega)only[go_sem, *]
    refine ZC_loop_n (fun n e h=>∃ (f:Nat) (X:List (List Node)),n=f∧h.lim=0∧e 3=.fl 1 (X.map Tab.enc)∧X.length≤f∧X.length≤4096∧X.flatten.length≤4096∧foldR L=tabGo f X) ?_ _ _ _ ⟨L.length,leavesX L,rfl, ?_⟩
    · rintro n e h ⟨f,X,rfl,hl,e3,hf,hx,hx2,hz⟩ ih
      rw [ZC_unf Q28_9.eq_1]
      simp (disch:=omega)only[go_sem, *]
      clear eF
      have hb:=best_ev (I:=idsR X X.length) (S:=szsR X X.length) (by simp [idsR];omega) (by simp [idsR,szsR]) (fun j hj=>by
        have hj2:j<X.length:=by simpa [szsR] using hj
        have:=len_flat hj2
        unfold szsR;rw [List.take_length,nth_map hj2];omega)
      rw [best_ids] at hb
      refine Pf.go (same_ev hx) (by simp only [go_sem]) fun _=>?_;simp (disch:=omega)only[go_sem, *]
      refine Pf.go (hb) (by simp only [go_sem]) fun _=>?_;simp (disch:=omega)only[go_sem, *]
      refine Wb_dec (fun hc=>?_) (fun hc=>?_)
      · have e2:foldR L=joinX X:=by
          rw [hz]
          cases n with
          | zero=>rfl
          | succ f=>rw [tabGo,if_pos (by omega)]
        clear hz ih hb
        simp (disch:=omega)only[go_sem, *]
        refine Pf.go (joined_ev (by omega) (by omega)) (by simp only [go_sem]) fun _=>?_;simp (disch:=omega)only[go_sem, *]
      · rcases best_fold (X:=X) with h0 | fs
        · exact absurd (by omega) hc
        cases n with
        | zero=>exact absurd (by have:=best_nil (X:=X) (by omega);omega) hc
        | succ f=>
          rw [tabGo,if_neg (by omega)] at hz
          have hfl:=fold_less fs
          have h1:=fs.p;have h2:=fs.n;have h3:=fs.le;have h4:=fs.bl;have h5:=fs.ps
          have hl2:=take_flat (X:=X) (a:=(bestX X).i) (b:=(bestX X).p)
          clear hb
          generalize bestX X=s at *
          obtain ⟨i,p,m,sv⟩:=s
          simp only at *
          have hpm:((p:Int)*m)=(p*m:Nat):=by simp
          have e1:((i:Int)+p).toNat=i+p:=by omega
          have e2:((i:Int)+(p*m:Nat)).toNat=i+p*m:=by omega
          have hfa:foldAt X ⟨i,p,m,sv⟩=[X.take i,[⟨4,0,m⟩::joinX ((X.drop i).take p)],X.drop (i+p*m)].flatten:=by simp [foldAt]
          have hjl:=join_len (X:=(X.drop i).take p)
          have hjl2:(joinX ((X.drop i).take p)).length≤((X.drop i).take p).flatten.length+1:=by rw [hjl];split<;>omega
          have hip:i+p≤i+p*m:=by have:=Nat.mul_le_mul (Nat.le_refl p) (show 1≤m by omega);omega
          generalize hPM:p*m=PM at *
          have hj:=joined_ev (X:=(X.drop i).take p) (by omega) (by omega)
          have hsl:List.take (i+p - i) (List.drop i (X.map Tab.enc))=((X.drop i).take p).map Tab.enc:=by rw [Nat.add_sub_cancel_left];simp [List.map_take,List.map_drop]
          have hs1:List.take i (X.map Tab.enc)=(X.take i).map Tab.enc:=by simp [List.map_take]
          have hs2:List.drop (i+PM) (X.map Tab.enc)=(X.drop (i+PM)).map Tab.enc:=by simp [List.map_drop]
          simp (disch:=omega)only[go_sem, *]
          refine Pf.go (hj) (by simp only [go_sem]) fun _=>?_;simp (disch:=omega)only[go_sem, *]
          have hc1:=concN_ev (X:=[[⟨4,0,(m:Int)⟩],joinX ((X.drop i).take p)]) (by simp) (by simp only [List.flatten_cons,List.flatten_nil,List.length_append,List.length_cons,List.length_nil];omega)
          have ec:[[(⟨4,0,(m:Int)⟩:Node)],joinX ((X.drop i).take p)].flatten=⟨4,0,m⟩::joinX ((X.drop i).take p):=by simp
          rw [ec] at hc1
          refine Pf.take [h.next+1,h.next+1+1] hc1 (.cons _ _ _ _ _ (frz_two (i1:=h.next+1) (by simp [get_alloc,get_put,get_raise,next_alloc,next_put,gsel,Node.enc]) (by simp) (by simp [get_alloc,get_put,get_raise,next_alloc,next_put,gsel]) (by simp)) (.nil _)) fun _=>?_
          have hc2:=concI_ev (X:=[X.take i,[⟨4,0,(m:Int)⟩::joinX ((X.drop i).take p)],X.drop (i+PM)]) (by simp) (by rw [← hfa];omega)
          rw [← hfa] at hc2
          clear hj ec hc1 hfa
          have hs3:List.take (X.length - (i+PM)) ((X.drop (i+PM)).map Tab.enc)=(X.drop (i+PM)).map Tab.enc:=List.take_of_length_le (by simp)
          simp (disch:=omega)only[go_sem, *]
          refine Pf.take [h.next+1+1+1,h.next+1+1+1+1] hc2 (.cons _ _ _ _ _ (frz_three (i1:=h.next+1+1+1) (L:=⟨4,0,(m:Int)⟩::joinX ((X.drop i).take p)) (by simp [get_alloc,get_put,get_raise,get_back,next_alloc,next_put,next_raise,next_back,next_kills,gsel,Node.enc]) (by simp) (by simp [get_alloc,get_put,get_raise,get_back,next_alloc,next_put,next_raise,next_back,next_kills,gsel]) (by simp)) (.nil _)) fun _=>?_
          clear hc2 hs1 hs2 hs3 hsl
          simp (disch:=omega)only[go_sem, *]
          refine ih _ _ _ ?_ ⟨f,foldAt X ⟨i,p,m,sv⟩,rfl, ?_⟩
          · omega
          · simp (disch:=omega)only[go_sem, *]
            ((repeat' refine And.intro ?_ ?_)<;>first | omega | assumption)
    · simp (disch:=omega)only[go_sem, *]
      ((repeat' refine And.intro ?_ ?_)<;>first | omega | assumption | (exact eF))
end Go.Ab.T
namespace Go.Ab.T
open Go Go.Ab
set_option maxHeartbeats 4000000
theorem frzr_app {P:Nat→Prop} {h:AH} {n:Nat}:∀ {a a' b b':List (List V)},Frzr P h n a a'→Frzr P h n b b'→Frzr P h n (a++b) (a'++b')
  | _,_,_,_,.nil _,q=>q
  | _,_,_,_,.cons _ _ _ _ _ p r,q=>.cons _ _ _ _ _ p (frzr_app r q)
theorem rfoldTable_ev {L:List Run}:Pf tp i_Q83 [.fl 2 (L.map Run.enc)] (.fl 3 ((foldR L).map Node.enc)):=by
  refine Pf_go fn_Q83 (by simp [t_Q83]) fun rp=>?_;unfold t_Q83;simp (disch:=omega)only[go_sem, *]
  refine Pf.go (refRuns_ev) (by simp only [go_sem]) fun _=>?_;simp (disch:=omega)only[go_sem, *]
  refine Wb_of (fun hc=>?_) (fun hc=>?_)
  · have e:foldR L=[]:=by unfold foldR;rw [if_neg];simpa using hc
    simp (disch:=omega)only[go_sem, *]
  · have hfr:frameB L=true:=by simpa using hc
    have hL:=frameB_len hfr
    have eF:foldR L=tabGo L.length (leavesX L):=if_pos hfr
    have hl:=leaves_flat (L:=L)
    clear hc
    simp (disch:=omega)only[go_sem, *]
    refine Pf.go (ritems_ev) (by simp only [go_sem]) fun _=>?_;simp (disch:=omega)only[go_sem, *]
    refine ZC_loop_n (fun n e h=>∃ (f:Nat) (X:List (List Node)),n=f∧h.lim=0∧e 3=.fl 1 (X.map Tab.enc)∧X.length≤f∧X.length≤4096∧X.flatten.length≤4096∧foldR L=tabGo f X) ?_ _ _ _ ⟨L.length,leavesX L,rfl, ?_⟩
    · rintro n e h ⟨f,X,rfl,hl,e3,hf,hx,hx2,hz⟩ ih
      rw [ZC_unf Q83_10.eq_1]
      simp (disch:=omega)only[go_sem, *]
      clear eF
      have hb:=rbest_ev (X:=X) hx (fun j hj=>by have:=len_flat hj;omega)
      have hbx:betR X.length (fun j=>((nth X j).length:Int)) (agR X)=bestX X:=rfl
      rw [hbx] at hb
      clear hbx
      refine Pf.go (hb) (by simp only [go_sem]) fun _=>?_;simp (disch:=omega)only[go_sem, *]
      refine Wb_dec (fun hc=>?_) (fun hc=>?_)
      · have e2:foldR L=joinX X:=by
          rw [hz]
          cases n with
          | zero=>rfl
          | succ f=>rw [tabGo,if_pos (by omega)]
        clear hz ih hb
        simp (disch:=omega)only[go_sem, *]
        refine Pf.go (rseq_ev (by omega) (by omega)) (by simp only [go_sem]) fun _=>?_;simp (disch:=omega)only[go_sem, *]
      · rcases best_fold (X:=X) with h0 | fs
        · exact absurd (by omega) hc
        cases n with
        | zero=>exact absurd (by have:=best_nil (X:=X) (by omega);omega) hc
        | succ f=>
          rw [tabGo,if_neg (by omega)] at hz
          have hfl:=fold_less fs
          have h1:=fs.p;have h2:=fs.n;have h3:=fs.le;have h4:=fs.bl;have h5:=fs.ps
          have hl2:=take_flat (X:=X) (a:=(bestX X).i) (b:=(bestX X).p)
          clear hb
          generalize bestX X=s at *
          obtain ⟨i,p,m,sv⟩:=s
          simp only at *
          have hpm:((m:Int)*p)=(p*m:Nat):=by simp [Int.mul_comm]
          have e1:((i:Int)+p).toNat=i+p:=by omega
          have e2:((i:Int)+(p*m:Nat)).toNat=i+p*m:=by omega
          have hfa:(foldAt X ⟨i,p,m,sv⟩).map Tab.enc=(X.take i).map Tab.enc++[Tab.enc (⟨4,0,m⟩::joinX ((X.drop i).take p))]++(X.drop (i+p*m)).map Tab.enc:=by simp [foldAt]
          have hjl:=join_len (X:=(X.drop i).take p)
          have hjl2:(joinX ((X.drop i).take p)).length≤((X.drop i).take p).flatten.length+1:=by rw [hjl];split<;>omega
          have hip:i+p≤i+p*m:=by have:=Nat.mul_le_mul (Nat.le_refl p) (show 1≤m by omega);omega
          generalize hPM:p*m=PM at *
          have hj:=rseq_ev (X:=(X.drop i).take p) (by omega) (by omega)
          have hsl:List.take (i+p - i) (List.drop i (X.map Tab.enc))=((X.drop i).take p).map Tab.enc:=by rw [Nat.add_sub_cancel_left];simp [List.map_take,List.map_drop]
          have hs1:List.take i (X.map Tab.enc)=(X.take i).map Tab.enc:=by simp [List.map_take]
          have hs2:List.drop (i+PM) (X.map Tab.enc)=(X.drop (i+PM)).map Tab.enc:=by simp [List.map_drop]
          have hs3:List.take (X.length - (i+PM)) ((X.drop (i+PM)).map Tab.enc)=(X.drop (i+PM)).map Tab.enc:=List.take_of_length_le (by simp)
          clear hjl
          simp (disch:=omega)only[go_sem, *]
          refine Pf.go (hj) (by simp only [go_sem]) fun _=>?_;simp (disch:=omega)only[go_sem, *]
          have sl0:Sl h.next (h.alloc ⟨3,[[.i .i64 4,.i .i64 0,.i .i64 m]]⟩) 3 (.sl h.next 0 1 1) [[.i .i64 4,.i .i64 0,.i .i64 m]]:=.inr ⟨_,_,_,_,rfl,by rw [get_alloc,gsel_eq rfl],by simp,by simp,by simp,by simp [next_alloc],Nat.le_refl _,by simp⟩
          refine app_rule sl0 (by simp (disch:=omega)only[go_sem, *]) (by simp [next_alloc]) (by simp;omega) ?_
          intro w1 h1' s1 g1
          have n1:=g1.next;have l1:=g1.lim;have c1:=g1.cell;have d1:=g1.cells
          have s1:Sl h.next h1' 3 w1 ((⟨4,0,(m:Int)⟩::joinX ((X.drop i).take p)).map Node.enc):=s1
          clear g1 sl0
          simp (disch:=omega)only[go_sem, *]
          refine app_rule (R:=[]) (Sl.nil' h1'.next _ _) (by simp (disch:=omega)only[go_sem, *]) (Nat.le_refl _) (by simp;omega) ?_
          intro w2 h2' s2 g2
          have n2:=g2.next;have l2:=g2.lim
          have t1:=sl_grown s1 g2 (.inl rfl)
          have o1:=sl_low s1
          clear g2 s1
          simp (disch:=omega)only[go_sem, *]
          have x3:=(Ext.refl h2').alloc ⟨1,[[w1]]⟩
          have p2:=sl_own s2
          simp only [lim_alloc,next_alloc] at l1 n1
          refine app_rule (s2.ext x3) (by simp (disch:=omega)only[go_sem, *]) (by simp only [next_alloc];omega) (by simp;omega) ?_
          intro w3 h3' s3 g3
          have n3:=g3.next;have l3:=g3.lim
          have t3:=sl_grown (t1.ext x3) g3 (by rcases o1 with o1 | o1;exact .inr (.inl o1);rcases p2 with p2 | p2;exact .inl p2;exact .inr (.inr (by omega)))
          have p3:=sl_own s3
          simp only [lim_alloc,next_alloc] at l3 n3
          clear g3 t1 s2 x3
          simp (disch:=omega)only[go_sem, *]
          refine app_rule s3 (by omega) (by omega) (by simp;omega) ?_
          intro w4 h4' s4 g4
          have n4:=g4.next;have l4:=g4.lim
          have t4:=sl_grown t3 g4 (by rcases o1 with o1 | o1;exact .inr (.inl o1);rcases p3 with p3 | p3;exact .inl p3;exact .inr (.inr (by omega)))
          clear g4 t3 s3
          simp (disch:=omega)only[go_sem, *]
          have fr:Frz (fun _=>True) h4' h4'.next w4 (.fl 1 ((foldAt X ⟨i,p,m,sv⟩).map Tab.enc)):=by
            rw [hfa]
            refine frz_rows s4 ?_ (fun _ _=>trivial) (by simp;omega)
            refine frzr_app (frzr_app (frzr_app (.nil _) (Frzr.of_map (fun _=>rfl) _)) (.cons _ _ _ _ _ (.cons _ _ _ _ _ ?_ (.nil _)) (.nil _))) (Frzr.of_map (fun _=>rfl) _)
            exact t4.froze (fun _=>rfl) trivial (by simp;omega)
          refine ZC_step (Stp_frz (h2:=⟨fun _=>none,h4'.next,h4'.lim⟩) (fun _=>True) [3] (fun _=>.fl 1 ((foldAt X ⟨i,p,m,sv⟩).map Tab.enc)) (fun wf=>⟨rfl,rfl,⟨fun i k hk=>(by cases hk),fun t ht=>?_⟩⟩)) ?_
          · obtain rfl:t=3:=by simpa using ht
            clear hfa hs1 hs2 hs3 hsl
            simp (disch:=omega)only[go_sem, *]
          · refine ih _ _ _ ?_ ⟨f,foldAt X ⟨i,p,m,sv⟩,rfl, ?_⟩
            · omega
            · clear ih fr hfa hs1 hs2 hs3 hsl t4 s4
              simp (disch:=omega)only[go_sem, *]
              ((repeat' refine And.intro ?_ ?_)<;>first | omega | assumption | ((exact if_pos (by simp))))
    · simp (disch:=omega)only[go_sem, *]
      ((repeat' refine And.intro ?_ ?_)<;>first | omega | assumption | (exact eF))
end Go.Ab.T
namespace Go.Ab.T
open Go Go.Ab
set_option maxHeartbeats 4000000
/-! Items as trees: what folding does to them. Plain. -/
theorem Fo.flat_inj:∀ (f g:Fo) (R R':List Node),f.ok→g.ok→f.count=g.count→f.flat++R=g.flat++R'→f=g∧R=R'
  | .nil,.nil,R,R',_,_,_,h=>⟨rfl,by simpa [Fo.flat] using h⟩
  | .nil,.leaf _ _,_,_,_,_,hc,_=>by simp [Fo.count] at hc
  | .nil,.seq _ _ _,_,_,_,_,hc,_=>by simp [Fo.count] at hc
  | .nil,.rep _ _ _,_,_,_,_,hc,_=>by simp [Fo.count] at hc
  | .leaf _ _,.nil,_,_,_,_,hc,_=>by simp [Fo.count] at hc
  | .seq _ _ _,.nil,_,_,_,_,hc,_=>by simp [Fo.count] at hc
  | .rep _ _ _,.nil,_,_,_,_,hc,_=>by simp [Fo.count] at hc
  | .leaf x r,.leaf y s,R,R',hf,hg,hc,h=>by
    simp only [Fo.flat,List.cons_append,List.cons.injEq] at h
    obtain ⟨h1,h2⟩:=Fo.flat_inj r s R R' hf.2 hg.2 (by simpa [Fo.count] using hc) h.2
    exact ⟨by rw [h.1,h1],h2⟩
  | .leaf x r,.seq y k s,R,R',hf,hg,hc,h=>by
    simp only [Fo.flat,List.cons_append,List.cons.injEq] at h
    have:=hf.1;have:=hg.2.1;have:=hg.2.2.1;rw [h.1] at *;omega
  | .leaf x r,.rep y k s,R,R',hf,hg,hc,h=>by
    simp only [Fo.flat,List.cons_append,List.cons.injEq] at h
    have:=hf.1;have:=hg.2.1;rw [h.1] at *;omega
  | .seq y k s,.leaf x r,R,R',hf,hg,hc,h=>by
    simp only [Fo.flat,List.cons_append,List.cons.injEq] at h
    have:=hg.1;have:=hf.2.1;have:=hf.2.2.1;rw [h.1] at *;omega
  | .rep y k s,.leaf x r,R,R',hf,hg,hc,h=>by
    simp only [Fo.flat,List.cons_append,List.cons.injEq] at h
    have:=hg.1;have:=hf.2.1;rw [h.1] at *;omega
  | .seq y k s,.rep x l r,R,R',hf,hg,hc,h=>by
    simp only [Fo.flat,List.cons_append,List.cons.injEq] at h
    have:=hf.1;have:=hg.1;rw [h.1] at *;omega
  | .rep y k s,.seq x l r,R,R',hf,hg,hc,h=>by
    simp only [Fo.flat,List.cons_append,List.cons.injEq] at h
    have:=hf.1;have:=hg.1;rw [h.1] at *;omega
  | .seq y k s,.seq x l r,R,R',hf,hg,hc,h=>by
    simp only [Fo.flat,List.cons_append,List.cons.injEq,List.append_assoc] at h
    obtain ⟨h0,h⟩:=h
    subst h0
    obtain ⟨h1,h2⟩:=Fo.flat_inj k l _ _ hf.2.2.2.1 hg.2.2.2.1 (by have:=hf.2.1;have:=hg.2.1;omega) h
    obtain ⟨h3,h4⟩:=Fo.flat_inj s r _ _ hf.2.2.2.2 hg.2.2.2.2 (by simpa [Fo.count] using hc) h2
    exact ⟨by rw [h1,h3],h4⟩
  | .rep y k s,.rep x l r,R,R',hf,hg,hc,h=>by
    simp only [Fo.flat,List.cons_append,List.cons.injEq,List.append_assoc] at h
    obtain ⟨h0,h⟩:=h
    subst h0
    obtain ⟨h1,h2⟩:=Fo.flat_inj k l _ _ hf.2.2.2.1 hg.2.2.2.1 (by have:=hf.2.2.1;have:=hg.2.2.1;omega) h
    obtain ⟨h3,h4⟩:=Fo.flat_inj s r _ _ hf.2.2.2.2 hg.2.2.2.2 (by simpa [Fo.count] using hc) h2
    exact ⟨by rw [h1,h3],h4⟩
theorem foOf_flat {f:Fo} (ho:f.ok) (hc:f.count=1) (hd:f.depth≤16) (hl:f.len≤4096) (hn:f.flat.length≤128):foOf f.flat=f:=by
  obtain ⟨_,h1,h2,h3,_⟩:=foOf_ok (right_flat ho hc hd hl hn)
  have:=Fo.flat_inj f (foOf f.flat) [] [] ho h1 (by rw [hc,h2]) (by rw [List.append_nil,List.append_nil];exact h3)
  exact this.1.symm
structure SnocOk (f g:Fo):Prop where
  flat:(Fo.snoc f g).flat=f.flat++g.flat
  count:(Fo.snoc f g).count=f.count+g.count
  ok:f.ok→g.ok→(Fo.snoc f g).ok
  runs:(Fo.snoc f g).runs=f.runs++g.runs
  depth:(Fo.snoc f g).depth=max f.depth g.depth
theorem snoc_ok:∀ (f g:Fo),SnocOk f g
  | .nil,g=>⟨by simp [Fo.snoc,Fo.flat],by simp [Fo.snoc,Fo.count],fun _ h=>h,by simp [Fo.snoc,Fo.runs],by simp [Fo.snoc,Fo.depth]⟩
  | .leaf x r,g=>by
    obtain ⟨a,b,c,d,e⟩:=snoc_ok r g
    exact ⟨by simp [Fo.snoc,Fo.flat,a],by simp only [Fo.snoc,Fo.count,b];omega,fun h1 h2=>⟨h1.1,c h1.2 h2⟩,by simp [Fo.snoc,Fo.runs,d],by simp only [Fo.snoc,Fo.depth,e];omega⟩
  | .seq x k r,g=>by
    obtain ⟨a,b,c,d,e⟩:=snoc_ok r g
    exact ⟨by simp [Fo.snoc,Fo.flat,a],by simp only [Fo.snoc,Fo.count,b];omega,fun h1 h2=>⟨h1.1,h1.2.1,h1.2.2.1,h1.2.2.2.1,c h1.2.2.2.2 h2⟩,by simp [Fo.snoc,Fo.runs,d],by simp only [Fo.snoc,Fo.depth,e];omega⟩
  | .rep x k r,g=>by
    obtain ⟨a,b,c,d,e⟩:=snoc_ok r g
    exact ⟨by simp [Fo.snoc,Fo.flat,a],by simp only [Fo.snoc,Fo.count,b];omega,fun h1 h2=>⟨h1.1,h1.2.1,h1.2.2.1,h1.2.2.2.1,c h1.2.2.2.2 h2⟩,by simp [Fo.snoc,Fo.runs,d],by simp only [Fo.snoc,Fo.depth,e];omega⟩
def catF:List Fo→Fo
  | []=>.nil
  | f::l=>Fo.snoc f (catF l)
def ItF (f:Fo):Prop:=f.ok∧f.count=1∧∃ k,f.depth≤1+2*k∧2 ^ k≤f.runs.length
theorem cat_ok:∀ (F:List Fo),(∀ f∈F,ItF f)→(catF F).ok∧(catF F).count=F.length∧(catF F).flat=(F.map Fo.flat).flatten∧(catF F).runs=(F.map Fo.runs).flatten∧(F=[]∨∃ k,(catF F).depth≤1+2*k∧2 ^ k≤(catF F).runs.length)
  | [],_=>⟨trivial,rfl,rfl,rfl,.inl rfl⟩
  | f::l,h=>by
    obtain ⟨a1,a2,k1,a3,a4⟩:=h f (List.mem_cons_self ..)
    obtain ⟨b1,b2,b3,b4,b5⟩:=cat_ok l (fun g hg=>h g (List.mem_cons_of_mem _ hg))
    obtain ⟨c1,c2,c3,c4,c5⟩:=snoc_ok f (catF l)
    refine ⟨c3 a1 b1,by simp only [catF,c2,a2,b2,List.length_cons];omega,by simp [catF,c1,b3],by simp [catF,c4,b4],.inr ?_⟩
    simp only [catF,c5,c4,List.length_append]
    rcases b5 with rfl | ⟨k2,b5,b6⟩
    · refine ⟨k1, ?_,by omega⟩
      simp only [catF,Fo.depth];omega
    · rcases Nat.le_total k1 k2 with hk | hk
      · exact ⟨k2,by omega,by omega⟩
      · exact ⟨k1,by omega,by omega⟩
def joinF (F:List Fo):Fo:=if F.length=1 then catF F else .seq ⟨3,0,F.length⟩ (catF F) .nil
theorem join_ok {F:List Fo} (h:∀ f∈F,ItF f) (h0:1≤F.length) (h1:F.length≤128):(joinF F).ok∧(joinF F).count=1∧(joinF F).flat=joinX (F.map Fo.flat)∧(joinF F).runs=(F.map Fo.runs).flatten∧∃ k,(joinF F).depth≤2+2*k∧2 ^ k≤(joinF F).runs.length:=by
  obtain ⟨b1,b2,b3,b4,b5⟩:=cat_ok F h
  have hne:F≠[]:=by rintro rfl;simp at h0
  obtain ⟨k,b5,b6⟩:=b5.resolve_left hne
  unfold joinF joinX
  by_cases hl:F.length=1
  · rw [if_pos hl,if_pos (by simpa using hl)]
    exact ⟨b1,by omega,b3,b4,k,by omega,b6⟩
  · rw [if_neg hl,if_neg (by simpa using hl)]
    refine ⟨⟨rfl, ?_,by omega,b1,trivial⟩,rfl,by simp [Fo.flat,b3],by simp [Fo.runs,b4],k,by simp only [Fo.depth];omega,by simpa [Fo.runs] using b6⟩
    unfold kids;simp;omega
def foldF (F:List Fo) (s:St):List Fo:=F.take s.i++[.rep ⟨4,0,s.n⟩ (joinF ((F.drop s.i).take s.p)) .nil]++F.drop (s.i+s.p*s.n)
theorem foldF_ok {F:List Fo} {s:St} (h:∀ f∈F,ItF f) (hl:F.length≤128) (fs:FoldS (F.map Fo.flat) s):(∀ f∈foldF F s,ItF f)∧(foldF F s).map Fo.flat=foldAt (F.map Fo.flat) s∧((foldF F s).map Fo.runs).flatten=(F.map Fo.runs).flatten:=by
  have hp:=fs.p;have hn:=fs.n;have hle:=fs.le;have hbl:=fs.bl
  simp only [List.length_map,List.length_take,List.length_drop] at hle hbl
  have hB:∀ f∈(F.drop s.i).take s.p,ItF f:=fun f hf=>h f (List.mem_of_mem_drop (List.mem_of_mem_take hf))
  have hBl:((F.drop s.i).take s.p).length=s.p:=by rw [List.length_take,List.length_drop];omega
  have hpl:s.p≤s.p*s.n:=by have:=Nat.mul_le_mul (Nat.le_refl s.p) (show 1≤s.n by omega);omega
  obtain ⟨j1,j2,j3,j4,k,j5,j6⟩:=join_ok hB (by omega) (by omega)
  have hF:F=F.take s.i++(List.replicate s.n ((F.drop s.i).take s.p)).flatten++F.drop (s.i+s.p*s.n):=by
    refine map_inj_of (f:=Fo.flat) (fun x hx y hy hxy=>?_) ?_
    · have hy2:y∈F:=by
        rcases List.mem_append.1 hy with hy | hy
        · rcases List.mem_append.1 hy with hy | hy
          · exact List.mem_of_mem_take hy
          · obtain ⟨l,hl,hy⟩:=List.mem_flatten.1 hy
            rw [List.eq_of_mem_replicate hl] at hy
            exact List.mem_of_mem_drop (List.mem_of_mem_take hy)
        · exact List.mem_of_mem_drop hy
      exact (Fo.flat_inj x y [] [] (h x hx).1 (h y hy2).1 (by rw [(h x hx).2.1,(h y hy2).2.1]) (by rw [List.append_nil,List.append_nil];exact hxy)).1
    · have e:=fs.eq
      rw [List.map_append,List.map_append,List.map_flatten,List.map_replicate,List.map_take,List.map_take,List.map_drop,List.map_drop]
      exact e
  refine ⟨fun f hf=>?_, ?_, ?_⟩
  · rcases List.mem_append.1 hf with hf | hf
    · rcases List.mem_append.1 hf with hf | hf
      · exact h f (List.mem_of_mem_take hf)
      · rw [List.mem_singleton.1 hf]
        refine ⟨⟨rfl, ?_,j2,j1,trivial⟩,rfl,k+1,by simp only [Fo.depth];omega, ?_⟩
        · unfold kids;simp;omega
        · simp only [Fo.runs,List.append_nil,List.length_flatten,List.map_replicate,List.sum_replicate_nat,Int.toNat_natCast]
          have:=Nat.mul_le_mul (show 2≤s.n by omega) j6
          rw [Nat.pow_succ];omega
    · exact h f (List.mem_of_mem_drop hf)
  · unfold foldF foldAt
    simp only [List.map_append,List.map_cons,List.map_nil,Fo.flat,List.append_nil,List.map_take,List.map_drop,j3]
  · conv=>rhs;rw [hF]
    unfold foldF
    simp only [List.map_append,List.map_cons,List.map_nil,Fo.runs,List.append_nil,List.flatten_append,List.flatten_singleton,j4,Int.toNat_natCast]
    congr 2
    rw [List.map_flatten,List.map_replicate,List.flatten_flatten,List.map_replicate]
theorem tabGo_ok:∀ (f:Nat) (F:List Fo),(∀ g∈F,ItF g)→1≤F.length→F.length≤128→∃ G:List Fo,(∀ g∈G,ItF g)∧1≤G.length∧G.length≤128∧tabGo f (F.map Fo.flat)=joinX (G.map Fo.flat)∧(G.map Fo.runs).flatten=(F.map Fo.runs).flatten
  | 0,F,h,h1,h2=>⟨F,h,h1,h2,rfl,rfl⟩
  | f+1,F,h,h1,h2=>by
    rw [tabGo]
    rcases best_fold (X:=F.map Fo.flat) with h0 | fs
    · rw [if_pos h0];exact ⟨F,h,h1,h2,rfl,rfl⟩
    · rw [if_neg (by have:=fs.n;omega)]
      obtain ⟨a,b,c⟩:=foldF_ok h h2 fs
      have hless:=(fold_less fs).1
      rw [← b,List.length_map,List.length_map] at hless
      obtain ⟨G,g1,g2,g3,g4,g5⟩:=tabGo_ok f (foldF F (bestX (F.map Fo.flat))) a (by simp [foldF];omega) (by omega)
      exact ⟨G,g1,g2,g3,by rw [← b];exact g4,by rw [g5,c]⟩
theorem leafN_ok {r:Run} (h:runB r=true):kids (leafN r)=0∧(⟨partR (leafN r),(leafN r).n⟩:Run)=r:=by
  simp only [runB,decide_eq_true_eq] at h
  obtain ⟨p,n⟩:=r
  simp only at h
  unfold leafN
  simp only
  split
  · rename_i hp
    subst hp
    refine ⟨?_,by simp [partR]⟩
    unfold kids;simp;omega
  · refine ⟨?_,by simp [partR]⟩
    unfold kids;simp;omega
theorem fold_tree {L:List Run} (h:frameB L=true):∃ f:Fo,foldR L=f.flat∧f.ok∧f.count=1∧f.runs=L∧f.depth≤16∧f.len≤4096:=by
  have hl:=frameB_len h
  have hall:L.all runB=true:=by simp only [frameB,Bool.and_eq_true] at h;exact h.1
  have hsum:sumN L≤4096:=by simp only [frameB,Bool.and_eq_true,decide_eq_true_eq] at h;exact h.2.2.2
  have hr:∀ r∈L,runB r=true:=fun r hr=>List.all_eq_true.1 hall r hr
  have e1:(L.map fun r=>Fo.leaf (leafN r) .nil).map Fo.flat=leavesX L:=by simp [leavesX,Fo.flat]
  have e2:((L.map fun r=>Fo.leaf (leafN r) .nil).map Fo.runs).flatten=L:=by
    clear hl hall hsum h e1
    induction L with
    | nil=>rfl
    | cons r l ih=>
      simp only [List.map_cons,List.flatten_cons,Fo.runs]
      rw [ih (fun q hq=>hr q (List.mem_cons_of_mem _ hq)),(leafN_ok (hr r (List.mem_cons_self ..))).2];rfl
  obtain ⟨G,g1,g2,g3,g4,g5⟩:=tabGo_ok L.length (L.map fun r=>Fo.leaf (leafN r) .nil) (fun g hg=>by
    obtain ⟨r,h1,rfl⟩:=List.mem_map.1 hg
    exact ⟨⟨(leafN_ok (hr r h1)).1,trivial⟩,rfl,0,by simp [Fo.depth],by simp [Fo.runs]⟩) (by simp;omega) (by simp;omega)
  obtain ⟨j1,j2,j3,j4,k,j5,j6⟩:=join_ok g1 g2 g3
  rw [e1] at g4
  rw [e2] at g5
  have hk:k≤6:=by
    rw [j4,g5] at j6
    refine Nat.le_of_not_lt (fun hk=>?_)
    have:=Nat.pow_le_pow_right (show 0<2 by omega) (show 7≤k by omega)
    omega
  refine ⟨joinF G,by unfold foldR;rw [if_pos h,g4,j3],j1,j2,by rw [j4,g5],by omega, ?_⟩
  have:=Fo.runs_sum _ j1
  rw [j4,g5] at this
  omega
theorem fold_right {L:List Run} (h:frameB L=true) (hn:(foldR L).length≤128):rightR (foldR L)=0:=by
  obtain ⟨f,h1,h2,h3,_,h5,h6⟩:=fold_tree h
  rw [h1] at hn ⊢
  exact right_flat h2 h3 h5 h6 hn
end Go.Ab.T
namespace Go.Ab.T
open Go Go.Ab
set_option maxHeartbeats 4000000
theorem res_tct {e:Env} {h:AH} {n m k l:Nat} {g:Bool}:resOf e h [.t n,.cell m k g,.t l]=(cellV h k g (e m)).map fun v=>.tup [e n,v,e l]:=by
  simp only [resOf,rvs,rvOf_cell]
  cases cellV h k g (e m)<;>rfl
attribute [go_sem] res_tct
theorem leaf_part {x:Node} (h:kids x=0): -1≤partR x∧partR x<6:=by
  unfold kids at h
  unfold partR
  split at h
  · omega
  · split at h
    · split<;>omega
    · split at h
      · omega
      · split at h<;>omega
theorem Fo.runs_rng:∀ (f:Fo),f.ok→∀ r∈f.runs,-1≤r.part∧r.part<6
  | .nil,_,r,hr=>by cases hr
  | .leaf x r,ho,q,hq=>by
    rcases List.mem_cons.1 hq with rfl | hq
    · exact leaf_part ho.1
    · exact Fo.runs_rng r ho.2 q hq
  | .seq x k r,ho,q,hq=>by
    rcases List.mem_append.1 hq with hq | hq
    · exact Fo.runs_rng k ho.2.2.2.1 q hq
    · exact Fo.runs_rng r ho.2.2.2.2 q hq
  | .rep x k r,ho,q,hq=>by
    rcases List.mem_append.1 hq with hq | hq
    · obtain ⟨l,hl,hq⟩:=List.mem_flatten.1 hq
      rw [List.eq_of_mem_replicate hl] at hq
      exact Fo.runs_rng k ho.2.2.2.1 q hq
    · exact Fo.runs_rng r ho.2.2.2.2 q hq
theorem n_le_sum:∀ {L:List Run},AllPos L→∀ r∈L,r.n≤sumN L
  | a::l,h,r,hr=>by
    have hp:AllPos l:=fun q hq=>h q (List.mem_cons_of_mem _ hq)
    have:=sumN_pos hp
    have:=h a (List.mem_cons_self ..)
    simp only [sumN]
    rcases List.mem_cons.1 hr with rfl | hr
    · omega
    · have:=n_le_sum hp r hr;omega
theorem of_frame {T:List Node} (h:(ofR T).2=0):frameB (ofR T).1=true∧tidyGo (ofR T).1 []=(ofR T).1∧T.length≤128:=by
  have hr:rightR T=0:=by
    refine Decidable.byContradiction fun hn=>?_
    rw [ofR_bad hn] at h;exact hn h
  obtain ⟨ht,ho,hc1,hL,hd,hl⟩:=foOf_ok hr
  rw [ofR_good hr] at h ⊢
  have hap:=Fo.runs_allpos _ ho
  have hsum:=Fo.runs_sum _ ho
  have ti:=tidyOf hap (by omega)
  have hpos:=Fo.runs_pos _ ho (by omega)
  split at h
  · cases h
  rename_i hlen
  rw [if_neg hlen]
  unfold ofT at *
  have hs:sumN (tidyGo (foOf T).runs [])≤4096:=by rw [ti.sum];omega
  refine ⟨?_,tidy_stays ti.pos ti.sep,ht⟩
  simp only [frameB,Bool.and_eq_true,decide_eq_true_eq,List.all_eq_true]
  refine ⟨fun r hr=>?_, ?_,by omega,hs⟩
  · obtain ⟨q,hq,he⟩:=ti.parts r hr
    have:=Fo.runs_rng _ ho q hq
    have:=ti.pos r hr
    have:=n_le_sum ti.pos r hr
    simp only [runB,decide_eq_true_eq]
    omega
  · have:=ti.ne (by intro h0;rw [h0] at hpos;simp at hpos)
    exact List.length_pos_iff.2 this
theorem step_frame {C:Config} {L:List Run} (h:frameB L=true):frameB (stepR C L).1=true:=by
  have hv:∀ b,validB C L b=true→frameB b=true:=fun b hb=>by
    simp only [validB,Bool.and_eq_true] at hb;exact hb.2.2
  unfold stepR
  split
  · rename_i hc;exact hv _ hc.2
  · split
    · rename_i hc;exact hv _ hc.2
    · exact h
theorem runsGo_frame {C:Config}:∀ (f:Nat) (L:List Run) (n:Int),frameB L=true→frameB (runsGo C f L n).1=true
  | 0,L,n,h=>h
  | f+1,L,n,h=>by
    rw [runsGo]
    split
    · exact runsGo_frame f _ _ (step_frame h)
    · exact h
structure Rpt where
  moves:Int
  runs:Int
  was:Int
  nodes:Int
  wasn:Int
  kept:Bool
  deriving Inhabited,DecidableEq
@[go_sem] def Rpt.enc (r:Rpt):List V:=[.i .i64 r.moves,.i .i64 r.runs,.i .i64 r.was,.i .i64 r.nodes,.i .i64 r.wasn,.b r.kept]
noncomputable def redR (C:Config) (T:List Node):List Node×Rpt×Int:=
  if (ofR T).2≠0 then ([],⟨0,0,0,0,0,false⟩,(ofR T).2) else
  if holdsR C (ofR T).1≠0 then ([],⟨0,0,0,0,0,false⟩,holdsR C (ofR T).1) else
  if T.length<(foldR (runsR C (ofR T).1).1).length then (T,⟨0,(ofR T).1.length,(ofR T).1.length,T.length,T.length,true⟩,0) else
  (foldR (runsR C (ofR T).1).1,⟨(runsR C (ofR T).1).2,(runsR C (ofR T).1).1.length,(ofR T).1.length,(foldR (runsR C (ofR T).1).1).length,T.length,false⟩,0)
theorem redTable_ev {C:Config} {T:List Node}:Pf tp i_Q2 [.agg C.enc,.fl 3 (T.map Node.enc)] (.tup [.fl 3 ((redR C T).1.map Node.enc),.agg (redR C T).2.1.enc,.i .i64 (redR C T).2.2]):=by
  refine Pf_go fn_Q2 (by simp [t_Q2]) fun rp=>?_;unfold t_Q2;simp (disch:=omega)only[go_sem, *]
  have hT:=rp.tail.head.len
  have hh:=holds_ev (C:=C) (ofR_frm (L:=T))
  have hru:=redRuns_ev (C:=C) (ofR_frm (L:=T))
  simp only [Config.enc] at hh hru
  refine Pf.go (Of_ev) (by simp only [go_sem]) fun _=>?_;simp (disch:=omega)only[go_sem, *]
  refine Wb_dec (fun hc=>?_) (fun hc=>?_)
  · simp (disch:=omega)only[go_sem, *]
    refine Pf.go (hh) (by simp only [go_sem]) fun _=>?_;simp (disch:=omega)only[go_sem, *]
    refine Wb_dec (fun hc2=>?_) (fun hc2=>?_)
    · have e:redR C T=([],⟨0,0,0,0,0,false⟩,holdsR C (ofR T).1):=by unfold redR;rw [if_neg (by simp [hc]),if_pos hc2]
      simp (disch:=omega)only[go_sem, *]
    · have hc2:holdsR C (ofR T).1=0:=by omega
      have e:redR C T=if T.length<(foldR (runsR C (ofR T).1).1).length then (T,⟨0,(ofR T).1.length,(ofR T).1.length,T.length,T.length,true⟩,0) else (foldR (runsR C (ofR T).1).1,⟨(runsR C (ofR T).1).2,(runsR C (ofR T).1).1.length,(ofR T).1.length,(foldR (runsR C (ofR T).1).1).length,T.length,false⟩,0):=by
        unfold redR;rw [if_neg (by simp [hc]),if_neg (by simp [hc2])]
      have hof:=of_frame hc
      have hfr:frameB (runsR C (ofR T).1).1=true:=runsGo_frame _ _ _ hof.1
      have hT2:=hof.2.2
      clear hof
      simp (disch:=omega)only[go_sem, *]
      refine Pf.go (hru) (by simp only [go_sem]) fun _=>?_;simp (disch:=omega)only[go_sem, *]
      refine Pf.go (foldTable_ev) (by simp only [go_sem]) fun _=>?_;simp (disch:=omega)only[go_sem, *]
      refine Wg_dec (fun hc3=>?_) (fun hc3=>?_)
      · rw [if_pos (by omega)] at e
        simp (disch:=omega)only[go_sem, *]
        refine Pf.go (cloneNode_ev) (by simp only [go_sem]) fun _=>?_;simp (disch:=omega)only[go_sem, *]
      · rw [if_neg (by omega)] at e
        have hrt:=fold_right hfr (by omega)
        simp (disch:=omega)only[go_sem, *]
        refine Pf.go (nodeRight_ev) (by simp only [go_sem]) fun _=>?_;simp (disch:=omega)only[go_sem, *]
  · have e:redR C T=([],⟨0,0,0,0,0,false⟩,(ofR T).2):=by unfold redR;rw [if_pos hc]
    simp (disch:=omega)only[go_sem, *]
theorem rredTable_ev {C:Config} {T:List Node}:Pf tp i_Q46 [.agg C.enc,.fl 3 (T.map Node.enc)] (.tup [.fl 3 ((redR C T).1.map Node.enc),.agg (redR C T).2.1.enc,.i .i64 (redR C T).2.2]):=by
  refine Pf_go fn_Q46 (by simp [t_Q46]) fun rp=>?_;unfold t_Q46;simp (disch:=omega)only[go_sem, *]
  have hT:=rp.tail.head.len
  have hh:=refHolds_ev (C:=C) (ofR_frm (L:=T))
  have hru:=rruns_ev (C:=C) (ofR_frm (L:=T))
  simp only [Config.enc] at hh hru
  refine Pf.go (refOf_ev) (by simp only [go_sem]) fun _=>?_;simp (disch:=omega)only[go_sem, *]
  refine Wb_dec (fun hc=>?_) (fun hc=>?_)
  · have e:redR C T=([],⟨0,0,0,0,0,false⟩,(ofR T).2):=by unfold redR;rw [if_pos hc]
    simp (disch:=omega)only[go_sem, *]
  · have hc:(ofR T).2=0:=by omega
    simp (disch:=omega)only[go_sem, *]
    refine Pf.go (hh) (by simp only [go_sem]) fun _=>?_;simp (disch:=omega)only[go_sem, *]
    refine Wb_dec (fun hc2=>?_) (fun hc2=>?_)
    · have e:redR C T=([],⟨0,0,0,0,0,false⟩,holdsR C (ofR T).1):=by unfold redR;rw [if_neg (by simp [hc]),if_pos hc2]
      simp (disch:=omega)only[go_sem, *]
    · have hc2:holdsR C (ofR T).1=0:=by omega
      have e:redR C T=if T.length<(foldR (runsR C (ofR T).1).1).length then (T,⟨0,(ofR T).1.length,(ofR T).1.length,T.length,T.length,true⟩,0) else (foldR (runsR C (ofR T).1).1,⟨(runsR C (ofR T).1).2,(runsR C (ofR T).1).1.length,(ofR T).1.length,(foldR (runsR C (ofR T).1).1).length,T.length,false⟩,0):=by
        unfold redR;rw [if_neg (by simp [hc]),if_neg (by simp [hc2])]
      simp (disch:=omega)only[go_sem, *]
      refine Pf.go (hru) (by simp only [go_sem]) fun _=>?_;simp (disch:=omega)only[go_sem, *]
      refine Pf.go (rfoldTable_ev) (by simp only [go_sem]) fun _=>?_;simp (disch:=omega)only[go_sem, *]
      refine Wb_dec (fun hc3=>?_) (fun hc3=>?_)
      · rw [if_pos (by omega)] at e
        simp (disch:=omega)only[go_sem, *]
        refine app_rule (R:=[]) (Sl.nil' 2 _ _) (by simp (disch:=omega)only[go_sem, *]) (by simp [next_alloc]) (by simp;omega) ?_
        intro w h4 s4 g4
        have g5:h4.get 1=some ⟨6,[[.i .i64 0,.i .i64 0,.i .i64 0,.i .i64 0,.i .i64 0,.b false]]⟩:=g4.get 1 (by simp [next_alloc]) (.inl rfl)
        have l5:h4.lim=0:=g4.lim
        have c5:=g4.cell;have d5:=g4.cells
        have fr:=fun k=>(sl_put s4 1 k ((sl_own s4).imp (fun x=>x) (fun x=>by omega))).froze (P:=fun _=>True) (n:=0) (fun _=>rfl) trivial (by omega)
        clear s4 g4
        simp (disch:=omega)only[go_sem, *]
      · rw [if_neg (by omega)] at e
        simp (disch:=omega)only[go_sem, *]
end Go.Ab.T
namespace Go.Ab.T
open Go Go.Ab
set_option maxHeartbeats 4000000
theorem runs_frm {C:Config} {L:List Run} (h:Frm L):Frm (runsR C L).1:=(runsGo_len _ _ _ h).1
theorem same11_ev {C:Config} {L:List Run} (hf:Frm L):Pf tp i_Q13 [.agg C.enc,.fl 2 (L.map Run.enc)] (.b true):=by
  refine Pf_go fn_Q13 (by simp [t_Q13]) fun rp=>?_;unfold t_Q13;simp (disch:=omega)only[go_sem, *]
  have h1:=redRuns_ev (C:=C) hf
  have h2:=rruns_ev (C:=C) hf
  have h3:=merge_ev (C:=C) hf
  have h4:=rmerge_ev hf
  have h5:=draw_ev (C:=C) hf
  have h6:=rdraw_ev (C:=C) hf
  have h7:=stuck_ev (C:=C) hf
  have h8:=rstuck_ev (C:=C) hf
  have h9:=valid_ev (C:=C) hf (runs_frm (C:=C) hf)
  have h10:=rvalid_ev (C:=C) hf (runs_frm (C:=C) hf)
  have h11:=valid_ev (C:=C) hf (draw_frm (C:=C) hf)
  have h12:=rvalid_ev (C:=C) hf (draw_frm (C:=C) hf)
  simp only [Config.enc] at h1 h2 h3 h5 h6 h7 h8 h9 h10 h11 h12
  refine Pf.go (h1) (by simp only [go_sem]) fun _=>?_;simp (disch:=omega)only[go_sem, *]
  refine Pf.go (h2) (by simp only [go_sem]) fun _=>?_;simp (disch:=omega)only[go_sem, *]
  refine Pf.go (h3) (by simp only [go_sem]) fun _=>?_;simp (disch:=omega)only[go_sem, *]
  refine Pf.go (h4) (by simp only [go_sem]) fun _=>?_;simp (disch:=omega)only[go_sem, *]
  refine Pf.go (h5) (by simp only [go_sem]) fun _=>?_;simp (disch:=omega)only[go_sem, *]
  refine Pf.go (h6) (by simp only [go_sem]) fun _=>?_;simp (disch:=omega)only[go_sem, *]
  refine Pf.go (refSame_ev) (by simp only [go_sem]) fun _=>?_;simp (disch:=omega)only[go_sem, *]
  refine Pf.go (refSame_ev) (by simp only [go_sem]) fun _=>?_;simp (disch:=omega)only[go_sem, *]
  refine Pf.go (refSame_ev) (by simp only [go_sem]) fun _=>?_;simp (disch:=omega)only[go_sem, *]
  refine Pf.go (h7) (by simp only [go_sem]) fun _=>?_;simp (disch:=omega)only[go_sem, *]
  refine Pf.go (h8) (by simp only [go_sem]) fun _=>?_;simp (disch:=omega)only[go_sem, *]
  refine Pf.go (h9) (by simp only [go_sem]) fun _=>?_;simp (disch:=omega)only[go_sem, *]
  refine Pf.go (h10) (by simp only [go_sem]) fun _=>?_;simp (disch:=omega)only[go_sem, *]
  refine Pf.go (h11) (by simp only [go_sem]) fun _=>?_;simp (disch:=omega)only[go_sem, *]
  refine Pf.go (h12) (by simp only [go_sem]) fun _=>?_;simp (disch:=omega)only[go_sem, *]
theorem table11_ev {C:Config} {T:List Node}:Pf tp i_Q15 [.agg C.enc,.fl 3 (T.map Node.enc)] (.b true):=by
  refine Pf_go fn_Q15 (by simp [t_Q15]) fun rp=>?_;unfold t_Q15;simp (disch:=omega)only[go_sem, *]
  have h1:=redTable_ev (C:=C) (T:=T)
  have h2:=rredTable_ev (C:=C) (T:=T)
  simp only [Config.enc] at h1 h2
  refine Pf.go (h1) (by simp only [go_sem]) fun _=>?_;simp (disch:=omega)only[go_sem, *]
  refine Pf.go (h2) (by simp only [go_sem]) fun _=>?_;simp (disch:=omega)only[go_sem, *]
  refine Pf.go (refNodes_ev) (by simp only [go_sem]) fun _=>?_;simp (disch:=omega)only[go_sem, *]
theorem eq_fnf {fn:Fn} {a c:List V}:eqV .fn (.f fn a c) .nf=some false:=nrfl rfl
attribute [go_sem] eq_fnf
theorem passes11_ev {C:Config} {L:List Run} (hf:Frm L):Pf tp i_Q14 [.agg C.enc,.fl 2 (L.map Run.enc)] (.b true):=by
  refine Pf_go fn_Q14 (by simp [t_Q14]) fun rp=>?_;unfold t_Q14;simp (disch:=omega)only[go_sem, *]
  have ht:=rowsTidy_ev (C:=C) hf
  have hd:=rowsDraw_ev (C:=C) hf
  have h4:=rmerge_ev hf
  have h6:=rdraw_ev (C:=C) hf
  simp only [Config.enc] at h6
  refine passes_ev ?_
  simp (disch:=omega)only[go_sem, *]
  refine Wg_dec (fun h0=>absurd (by decide) h0) (fun h0=>?_)
  simp (disch:=omega)only[go_sem, *]
  repeat' (first | (refine Wg_dec (fun h0=>absurd (by decide) h0) (fun h0=>?_);simp (disch:=omega)only[go_sem, *]))
  refine pass1_ev (C:=C) (L:=L) (g:=i_Q80) ?_ ?_ ht ?_
  · simp (disch:=omega)only[go_sem, *]
  · simp (disch:=omega)only[go_sem, *]
  clear ht
  simp (disch:=omega)only[go_sem, *]
  refine Pf.go (h4) (by simp only [go_sem]) fun _=>?_;simp (disch:=omega)only[go_sem, *]
  refine pass1_ev (C:=C) (L:=L) (g:=i_Q47) ?_ ?_ hd ?_
  · simp (disch:=omega)only[go_sem, *]
  · simp (disch:=omega)only[go_sem, *]
  clear hd
  simp (disch:=omega)only[go_sem, *]
  refine Pf.go (h6) (by simp only [go_sem]) fun _=>?_;simp (disch:=omega)only[go_sem, *]
  refine Pf.go (refSame_ev) (by simp only [go_sem]) fun _=>?_;simp (disch:=omega)only[go_sem, *]
  refine Pf.go (refSame_ev) (by simp only [go_sem]) fun _=>?_;simp (disch:=omega)only[go_sem, *]
end Go.Ab.T
namespace Go.Ab.T
open Go Go.Ab
set_option maxHeartbeats 4000000
def ZCS (tp:TP) (c:TC) (e:Env) (h:AH) (K:Ex→Env→AH→Prop):Prop:=∀ S m hc e1,Cfg S m h hc→EP S m h hc e e1→WC tp c e1 hc (fun x=>PostE S m h hc (K x))
section
variable {tp:TP} {c a b:TC} {e e2:Env} {h h2:AH} {K:Ex→Env→AH→Prop}
theorem ZCS_of (z:ZC tp c e h K):ZCS tp c e h K:=fun S m hc e1 c' p=>zc_ok c c' p z
theorem ZCS_step (st:Stp e h e2 h2) (z:ZCS tp c e2 h2 K):ZCS tp c e h K:=fun S m hc e1 c' p=>by
  obtain ⟨S',c2,a2,p2⟩:=st S m hc e1 c' p
  exact (z S' m hc e1 c2 p2).imp fun _ _ _=>PostE.then a2
theorem ZCS_seq (z:ZC tp a e h (fun x e h=>nxt x (ZCS tp b e h K) (K x e h))):ZCS tp (.seq a b) e h K:=fun S m hc e1 c' p=>by
  rw [WC_seq]
  refine (zc_ok a c' p z).imp ?_
  rintro x e1' hc' ⟨e',h',S',m',c2,a',p',z⟩
  cases x with
  | nm=>exact (z S' m' hc' e1' c2 p').imp fun _ _ _=>PostE.then a'
  | ex j=>exact ⟨e',h',S',m',c2,a',p',z⟩
  | rt=>exact ⟨e',h',S',m',c2,a',p',z⟩
end
theorem Pf_goS {tp:TP} {f:Nat} {args:List V} {R:V} {tf:TF} (hf:tp.fn f=some tf) (hl:args.length≤tf.n) (z:Reps args→ZCS tp tf.body (env0 args) AH.emp (fun x e h=>Zend tf.res x e h (fun r h'=>Frz (fun _=>True) h' 0 r R))):Pf tp f args R:=by
  intro S m hc args1 c p
  refine Ev_of hf (by rw [← p.len];exact hl) ((z p.reps S m hc _ c (EP.args p)).imp ?_)
  rintro x e1 hc' ⟨e,h',S',m',c',a',pe,z⟩
  unfold Zend at z
  unfold Wend
  have key:(Wo (resOf e h' tf.res) fun v=>Frz (fun _=>True) h' 0 v R)→Wo (resOf e1 hc' tf.res) (fun r1=>∃ r h'' S' m',Cfg S' m' h'' hc'∧Adv S m AH.emp hc S' m' h'' hc'∧PR S' m' hc'.get h''.next r r1∧r=R∧h''=AH.emp):=by
    rintro ⟨v,hv,fz⟩
    obtain ⟨v1,h1,h2⟩:=res_PR c' pe hv
    refine ⟨v1,h1,R,AH.emp,SP S' m' h' (fun _=>True),m',Cfg.emp (SP.low c') c'.bnd m',⟨fun a h=>.inl (a'.sub a h), ?_,a'.map,Nat.le_refl _,a'.next1,rfl,a'.lim1,a'.frame,fun i hi=>by simp [AH.live,AH.emp] at hi⟩,Frz.ok c' fz h2,rfl,rfl⟩
    rintro a (ha | ⟨i,_,hi,rfl⟩)
    · exact a'.new a ha
    · rcases a'.liv i hi with ⟨q1,q2⟩ | q1
      · exact absurd q1 (Nat.not_lt_zero _)
      · exact .inr (.inl q1)
  cases x with
  | ex j=>exact z.elim
  | nm=>exact key z
  | rt=>exact key z
theorem ZCS_fix {tp : TP} {c : TC} {e : Env} {h : AH} {K : Ex → Env → AH → Prop} (live : List Nat) (t0 id : Nat) (w : V) (h0 : Frz (· = id) h h.next (e t0) w) (hv : ∀ t, t ∈ live → t ≠ t0 → Frz (· = id) h h.next (e t) (e t))
    (z:∀ e2,e2 t0=w→(∀ t,t∈live→t≠t0→e2 t=e t)→ZCS tp c e2 (h.kill id) K):ZCS tp c e h K:=by
  refine ZCS_step (Stp_frz (h2:=h.kill id) (·=id) (t0::live) (fun t=>if t=t0 then w else e t) (fun wf=>⟨rfl,rfl,fun i k hk=>?_,fun t hl=>?_⟩)) (z _ ?_ ?_)
  · rw [get_kill] at hk
    by_cases hd:i=id
    · rw [gsel_eq hd] at hk;cases hk
    · rw [gsel_ne hd] at hk
      exact ⟨(wf.2 i k hk).1,hd,k.cs,hk,(wf.2 i k hk).2 _ _⟩
  · by_cases ht:t=t0
    · subst ht;simp only [if_pos rfl];exact h0
    · simp only [if_neg ht]
      exact hv t ((List.mem_cons.1 hl).resolve_left ht) ht
  · simp
  · intro t ht hne
    simp [ht,hne]
end Go.Ab.T
namespace Go.Ab.T
open Go Go.Ab
set_option maxHeartbeats 4000000
/-! Chapter 11's known runs. -/
def k11P:Part:=⟨⟨#[]⟩,0,0,false,false,[],0,0,0,0,0⟩
def k11:Config:=⟨[k11P,k11P],[],[]⟩
def k11L:List Run:=[⟨0,1⟩,⟨1,2⟩,⟨0,3⟩]
def k11X:List Run:=[⟨0,4⟩,⟨1,2⟩]
theorem k11_runs:runsR k11 k11L=(k11X,1):=by decide +kernel
theorem k11_one:runsR k11 [⟨0,5⟩]=([⟨0,5⟩],0):=by decide +kernel
theorem k11_merge:mergeR k11L=(k11L,false):=by decide +kernel
theorem k11_stuck:stuckB k11 k11X=true:=by decide +kernel
theorem k11_not:stuckB k11 k11L=false:=by decide +kernel
theorem k11_valid:validB k11 k11L k11X=true:=by decide +kernel
theorem k11_frm:Frm k11L∧Frm k11X:=by
  refine ⟨⟨fun r hr=>?_,by decide⟩,⟨fun r hr=>?_,by decide⟩⟩
  · simp only [k11L,List.mem_cons,List.not_mem_nil,or_false] at hr
    rcases hr with rfl | rfl | rfl<;>decide
  · simp only [k11X,List.mem_cons,List.not_mem_nil,or_false] at hr
    rcases hr with rfl | rfl<;>decide
theorem k11_of:ofR [⟨1,0,5⟩]=([⟨0,5⟩],0):=by
  have hk:kids ⟨1,0,5⟩=0:=by unfold kids;decide
  have h1:(Fo.leaf ⟨1,0,5⟩ .nil).ok:=⟨hk,trivial⟩
  have e:([⟨1,0,5⟩]:List Node)=(Fo.leaf ⟨1,0,5⟩ .nil).flat:=rfl
  have h2:=right_flat h1 rfl (by decide) (by decide) (by decide)
  have h3:=foOf_flat h1 rfl (by decide) (by decide) (by decide)
  rw [e,ofR_good h2,h3,if_neg (by decide)];rfl
theorem k11_red:redR k11 [⟨1,0,5⟩]=([⟨1,0,5⟩],⟨0,1,1,1,1,false⟩,0):=by
  have hf:foldR [⟨0,5⟩]=[⟨1,0,5⟩]:=by decide +kernel
  have hh:holdsR k11 [⟨0,5⟩]=0:=by decide +kernel
  unfold redR
  rw [k11_of,k11_one]
  simp only [hf,hh]
  rfl
theorem k11_nil:redR k11 []=([],⟨0,0,0,0,0,false⟩,12):=by
  have:rightR []=12:=by decide +kernel
  unfold redR
  rw [ofR_bad (by rw [this];decide),this];rfl
def k11H:AH:=⟨fun i=>if i=1 then some ⟨3,[k11.enc]⟩ else none,3,0⟩
theorem k11_fix {c : TC} {e : Env} {h : AH} {K : Ex → Env → AH → Prop} (hn : h.next = 3) (hl : h.lim = 0)
    (g0:h.get 0=some ⟨11,[[.s ⟨#[]⟩,.i .i64 0,.i .i64 0,.b false,.b false,.ns,.i .i64 0,.i .i64 0,.i .i64 0,.i .i64 0,.i .i64 0],[.s ⟨#[]⟩,.i .i64 0,.i .i64 0,.b false,.b false,.ns,.i .i64 0,.i .i64 0,.i .i64 0,.i .i64 0,.i .i64 0]]⟩)
    (g1:h.get 1=some ⟨3,[[.sl 0 0 2 2,.ns,.ns]]⟩) (g2:h.get 2=some ⟨3,[[.i .i64 1,.i .i64 0,.i .i64 5]]⟩) (e1:e 1=.p 1 0 0) (e2:e 2=.sl 2 0 1 1)
    (z:∀ e',e' 1=.p 1 0 0→e' 2=.fl 3 [[.i .i64 1,.i .i64 0,.i .i64 5]]→ZCS tp c e' k11H K):ZCS tp c e h K:=by
  have zz:∀ {n:Nat} {v:V},Plain0 v→Frz (·≠1) h n v v:=fun h0=>.z _ _ h0
  have row:Frzs (·≠1) h 0 [.s ⟨#[]⟩,.i .i64 0,.i .i64 0,.b false,.b false,.ns,.i .i64 0,.i .i64 0,.i .i64 0,.i .i64 0,.i .i64 0] k11P.enc:=
    .cons _ _ _ _ _ (zz (.s _)) (.cons _ _ _ _ _ (zz (.i _ _)) (.cons _ _ _ _ _ (zz (.i _ _)) (.cons _ _ _ _ _ (zz (.b _)) (.cons _ _ _ _ _ (zz (.b _)) (.cons _ _ _ _ _ (.ns _ _) (.cons _ _ _ _ _ (zz (.i _ _)) (.cons _ _ _ _ _ (zz (.i _ _)) (.cons _ _ _ _ _ (zz (.i _ _)) (.cons _ _ _ _ _ (zz (.i _ _)) (.cons _ _ _ _ _ (zz (.i _ _)) (.nil _)))))))))))
  refine ZCS_step (Stp_frz (h2:=k11H) (·≠1) [1,2] (fun t=>if t=1 then .p 1 0 0 else .fl 3 [[.i .i64 1,.i .i64 0,.i .i64 5]]) (fun wf=>⟨hn.symm,hl.symm,⟨fun i k hk=>?_,fun t ht=>?_⟩⟩)) (z _ (by simp) (by simp))
  · unfold k11H at hk
    simp only at hk
    by_cases hi:i=1
    · subst hi
      rw [if_pos rfl] at hk;cases hk
      refine ⟨by simp [k11H],by simp,_,g1,.cons _ _ _ _ _ (.cons _ _ _ _ _ ?_ (.cons _ _ _ _ _ (.ns _ _) (.cons _ _ _ _ _ (.ns _ _) (.nil _)))) (.nil _)⟩
      exact .sl _ _ _ _ _ _ _ _ (by simp) g0 (by simp) (Nat.le_refl _) (by simp [frzLen]) (.cons _ _ _ _ _ row (.cons _ _ _ _ _ row (.nil _)))
    · rw [if_neg hi] at hk;cases hk
  · simp only [List.mem_cons,List.not_mem_nil,or_false] at ht
    rcases ht with rfl | rfl
    · rw [e1];exact .p _ _ _ _ (by simp [k11H])
    · rw [e2]
      exact .sl _ _ _ _ _ _ _ _ (by simp) g2 (by simp) (Nat.le_refl _) (by simp [frzLen]) (.cons _ _ _ _ _ (.cons _ _ _ _ _ (zz (.i _ _)) (.cons _ _ _ _ _ (zz (.i _ _)) (.cons _ _ _ _ _ (zz (.i _ _)) (.nil _)))) (.nil _))
theorem known11_ev:Pf tp i_Q11 [] (.b true):=by
  have hr1:=k11_red;have hr2:=k11_nil;have hr3:=k11_runs;have hr4:=k11_merge;have hr5:=k11_stuck;have hr6:=k11_not;have hr7:=k11_valid
  have t1:=redTable_ev (C:=k11) (T:=[⟨1,0,5⟩])
  have t2:=redTable_ev (C:=k11) (T:=[])
  have t3:=redRuns_ev (C:=k11) k11_frm.1
  have t4:=merge_ev (C:=k11) k11_frm.1
  have t5:=stuck_ev (C:=k11) k11_frm.2
  have t6:=stuck_ev (C:=k11) k11_frm.1
  have t7:=valid_ev (C:=k11) k11_frm.1 k11_frm.2
  rw [hr1] at t1;rw [hr2] at t2;rw [hr3] at t3;rw [hr4] at t4;rw [hr5] at t5;rw [hr6] at t6;rw [hr7] at t7
  clear hr1 hr2 hr3 hr4 hr5 hr6 hr7
  refine Pf_goS fn_Q11 (by simp [t_Q11]) fun rp=>?_
  unfold t_Q11
  refine ZCS_seq ?_
  simp (disch:=omega)only[go_sem, *]
  refine ZCS_seq ?_
  simp (disch:=omega)only[go_sem, *]
  refine ZCS_seq ?_
  simp (disch:=omega)only[go_sem, *]
  refine k11_fix rfl rfl rfl rfl rfl rfl rfl ?_
  intro e1 f1 f2
  have g1:k11H.get 1=some ⟨3,[k11.enc]⟩:=rfl
  have n1:k11H.next=3:=rfl
  have l1:k11H.lim=0:=rfl
  have ea:k11.enc=[.fl 11 (k11.parts.map Part.enc),.fl 6 (k11.chans.map Chan.enc),.fl 1 (k11.tables.map Tab.enc)]:=rfl
  rw [ea] at g1 t1 t2 t3 t4 t5 t6 t7
  clear ea
  generalize k11H=H at *
  have q1:([⟨1,0,5⟩]:List Node).map Node.enc=[[.i .i64 1,.i .i64 0,.i .i64 5]]:=rfl
  have q2:([]:List Node).map Node.enc=[]:=rfl
  rw [q1] at t1;rw [q2] at t2
  refine ZCS_seq ?_
  simp (disch:=omega)only[go_sem, *]
  refine Pf.go (t1) (by simp only [go_sem]) fun _=>?_;simp (disch:=omega)only[go_sem, *]
  refine ZCS_seq ?_
  simp (disch:=omega)only[go_sem, *]
  refine Pf.take [] t2 (.cons _ _ _ _ _ (.agg _ _ _ (.cons _ _ _ _ _ (.fl _ _ _) (.cons _ _ _ _ _ (.fl _ _ _) (.cons _ _ _ _ _ (.fl _ _ _) (.nil _))))) (.cons _ _ _ _ _ (.ns _ _) (.nil _))) fun _=>?_
  have hk0:∀ h:AH,h.kills []=h:=fun h=>by simp [AH.kills]
  rw [hk0]
  clear hk0 t1 t2
  simp (disch:=omega)only[go_sem, *]
  refine ZCS_seq ?_
  simp (disch:=omega)only[go_sem, *]
  refine ZCS_fix [1,3,4,5,8] 9 5 (.fl 2 (k11L.map Run.enc)) ?_ ?_ ?_
  · simp (disch:=omega)only[go_sem, *]
    exact .sl _ _ _ _ _ 2 (k11L.map Run.enc) _ rfl (by simp (disch:=omega)only[go_sem, *];rfl) (by decide) (Nat.le_refl _) (by simp [frzLen]) (Frzr.of_map (enc:=Run.enc) (fun _=>rfl) k11L)
  · intro t ht _
    simp only [List.mem_cons,List.not_mem_nil,or_false] at ht
    rcases ht with rfl | rfl | rfl | rfl | rfl
    · simp (disch:=omega)only[go_sem, *]
      exact .p _ _ _ _ (by simp (disch:=omega)only[go_sem, *])
    · simp (disch:=omega)only[go_sem, *]
    · simp (disch:=omega)only[go_sem, *]
      exact .p _ _ _ _ (by simp (disch:=omega)only[go_sem, *])
    · simp (disch:=omega)only[go_sem, *]
    · simp (disch:=omega)only[go_sem, *]
  intro e2 q9 qq
  have q1:=qq 1 (by simp) (by simp)
  have q3:=qq 3 (by simp) (by simp)
  have q4:=qq 4 (by simp) (by simp)
  have q5:=qq 5 (by simp) (by simp)
  have q8:=qq 8 (by simp) (by simp)
  clear qq
  simp (disch:=omega)only[go_sem, *] at q1 q3 q4 q5 q8
  clear f1 f2
  have hX:k11X.length=2:=rfl
  simp only at t3 t4
  refine ZCS_seq ?_
  simp (disch:=omega)only[go_sem, *]
  refine Pf.go (t3) (by simp only [go_sem]) fun _=>?_;simp (disch:=omega)only[go_sem, *]
  refine ZCS_seq ?_
  simp (disch:=omega)only[go_sem, *]
  refine Pf.go (t4) (by simp only [go_sem]) fun _=>?_;simp (disch:=omega)only[go_sem, *]
  refine ZCS_of ?_
  simp (disch:=omega)only[go_sem, *]
  repeat' (first | (refine Wg_dec (fun hc=>?_) (fun hc=>?_)<;>simp (disch:=omega)only[go_sem, *]) | (refine Wb_dec (fun hc=>?_) (fun hc=>?_)<;>simp (disch:=omega)only[go_sem, *]) | (refine Wg_of (fun hc=>?_) (fun hc=>?_)<;>simp (disch:=omega)only[go_sem, *]) | (refine Wb_of (fun hc=>?_) (fun hc=>?_)<;>simp (disch:=omega)only[go_sem, *]) | (refine Pf.go (t5) (by simp only [go_sem]) fun _=>?_;simp (disch:=omega)only[go_sem, *]) | (refine Pf.go (t6) (by simp only [go_sem]) fun _=>?_;simp (disch:=omega)only[go_sem, *]) | (refine Pf.go (t7) (by simp only [go_sem]) fun _=>?_;simp (disch:=omega)only[go_sem, *]))
  · refine passes_ev ?_
    simp (disch:=omega)only[go_sem, *]
    all_goals decide
  all_goals exact absurd (rfl:(((2:Nat):Int)=2)) hc
end Go.Ab.T
namespace Go.Ab.T
open Go Go.Ab
set_option maxHeartbeats 4000000
theorem Frm.nn {L:List Run} (h:Frm L):NonNeg L:=fun r hr=>by have:=h.1 r hr;omega
/-! When two rows differ to nobody. -/
theorem difRow_none {x y:List Run} {M:List (List Bool)} {a:Int}:∀ (f:Nat) (b:Int),difRow x y M a f b=none↔∀ c,b≤c→c<b+f→difAt x y M a c=false
  | 0,b=>by simp only [difRow,true_iff];intro c h1 h2;omega
  | f+1,b=>by
    rw [difRow]
    split
    · rename_i h
      simp only [reduceCtorEq,false_iff]
      intro hh
      rw [hh b (Int.le_refl _) (by omega)] at h;cases h
    · rename_i h
      rw [difRow_none f (b+1)]
      refine ⟨fun hh c h1 h2=>?_,fun hh c h1 h2=>hh c (by omega) (by omega)⟩
      by_cases e:c=b
      · subst e;simpa using h
      · exact hh c (by omega) (by omega)
theorem difAll_no {x y:List Run} {M:List (List Bool)}:∀ (f:Nat) (a:Int),0≤a→a+f=6→((difAll x y M f a).2.2=false↔(∀ c d,a≤c→c≤d→d<6→difAt x y M c d=false)∧tk (-1) x=tk (-1) y)
  | 0,a,h0,h=>by
    simp only [difAll]
    refine ⟨fun hh=>⟨fun c d h1 h2 h3=>by omega,by simpa using hh⟩,fun hh=>by simpa using hh.2⟩
  | f+1,a,h0,h=>by
    rw [difAll]
    have hr:=difRow_none (x:=x) (y:=y) (M:=M) (a:=a) (6 - a).toNat a
    unfold difRowA
    split
    · rename_i b hb
      simp only [Bool.true_eq_false,false_iff]
      intro hh
      have:difRow x y M a (6 - a).toNat a=none:=hr.2 (fun c h1 h2=>hh.1 a c (Int.le_refl _) h1 (by omega))
      rw [hb] at this;cases this
    · rename_i hb
      rw [difAll_no f (a+1) (by omega) (by omega)]
      refine ⟨fun hh=>⟨fun c d h1 h2 h3=>?_,hh.2⟩,fun hh=>⟨fun c d h1 h2 h3=>hh.1 c d (by omega) h2 h3,hh.2⟩⟩
      by_cases e:c=a
      · subst e;exact hr.1 hb d h2 (by omega)
      · exact hh.1 c d (by omega) h2 h3
theorem dif_iff {x y:List Run} {M:List (List Bool)}:(difR x y M).2.2=false↔(∀ c d,0≤c→c≤d→d<6→depB M c d=true→projR x c d=projR y c d)∧tk (-1) x=tk (-1) y:=by
  unfold difR
  rw [difAll_no 6 0 (by omega) (by omega)]
  refine and_congr ⟨fun h c d h1 h2 h3 h4=>?_,fun h c d h1 h2 h3=>?_⟩ Iff.rfl
  · have:=h c d h1 h2 h3
    unfold difAt at this
    rw [h4] at this
    simpa using this
  · unfold difAt
    cases h4:depB M c d
    · rfl
    · rw [h c d h1 h2 h3 h4];simp
theorem dif_refl {x:List Run} {M:List (List Bool)}:(difR x x M).2.2=false:=dif_iff.2 ⟨fun _ _ _ _ _ _=>rfl,rfl⟩
theorem dif_trans {x y z:List Run} {M:List (List Bool)} (h1:(difR x y M).2.2=false) (h2:(difR y z M).2.2=false):(difR x z M).2.2=false:=by
  rw [dif_iff] at *
  exact ⟨fun c d a1 a2 a3 a4=>(h1.1 c d a1 a2 a3 a4).trans (h2.1 c d a1 a2 a3 a4),h1.2.trans h2.2⟩
end Go.Ab.T
namespace Go.Ab.T
open Go Go.Ab
set_option maxHeartbeats 4000000
end Go.Ab.T
namespace Go.Ab.T
open Go Go.Ab
set_option maxHeartbeats 4000000
/-! What stays as a table is turned about. Plain. -/
def busy (r:Run):Bool:=decide (r.part≠-1)
structure Kept (C:Config) (L X:List Run):Prop where
  fr:frameB X=true
  ti:tidyGo X []=X
  df:(difR L X (depM C)).2.2=false
  sm:sumN X=sumN L
  tk:∀ p,tk p X=tk p L
  ho:holdsR C L=0→holdsR C X=0
  bs:X.countP busy≤L.countP busy
theorem Kept.refl {C:Config} {L:List Run} (h:frameB L=true) (ht:tidyGo L []=L):Kept C L L:=⟨h,ht,dif_refl,rfl,fun _=>rfl,id,Nat.le_refl _⟩
theorem Kept.trans {C:Config} {L X Y:List Run} (a:Kept C L X) (b:Kept C X Y):Kept C L Y:=
  ⟨b.fr,b.ti,dif_trans a.df b.df,b.sm.trans a.sm,fun p=>(b.tk p).trans (a.tk p),fun h=>b.ho (a.ho h),Nat.le_trans b.bs a.bs⟩
end Go.Ab.T
namespace Go.Ab.T
open Go Go.Ab
set_option maxHeartbeats 4000000
end Go.Ab.T
namespace Go.Ab.T
open Go Go.Ab
set_option maxHeartbeats 4000000
end Go.Ab.T
namespace Go.Ab.T
open Go Go.Ab
set_option maxHeartbeats 4000000
end Go.Ab.T
namespace Go.Ab.T
open Go Go.Ab
set_option maxHeartbeats 4000000
set_option maxRecDepth 4000
theorem sumN_snoc {L:List Run} {r:Run}:sumN (L++[r])=sumN L+r.n:=by
  induction L with
  | nil=>simp [sumN]
  | cons a l ih=>simp only [List.cons_append,sumN,ih];omega
theorem pos_snoc {L:List Run} {r:Run} (hL:AllPos L) (hr:1≤r.n):AllPos (L++[r]):=by
  intro x hx
  rcases List.mem_append.1 hx with h | h
  · exact hL x h
  · rw [List.mem_singleton.1 h];exact hr
theorem truns_ev {h : AH} {id k : Nat} {L : List Int} {K : V → AH → Prop} {N : Int} {most : Nat} (hg : h.get id = some (tapeB L k)) (hk : k ≤ L.length) (hL : L.length < 4000000000) (hlo : h.lim ≤ id) (hN : 0 ≤ N) (hN2 : N ≤ 1000) (hm : 1 ≤ most) (hm2 : most ≤ 100)
    (kk:∀ R j,Frm R→j≤L.length→K (.fl 2 (R.map Run.enc)) (h.put id (tapeB L j))):Cq tp i_Q12 [.p id 0 0,.i .i64 N,.i .i64 most] h K:=by
  refine Cq_tape fn_Q12 (by simp [t_Q12]) hg fun hlm hid rp=>?_
  unfold t_Q12
  simp (disch:=omega)only[go_sem, *]
  refine tnext_ev hg hk hL hlo ?_
  intro v j h0 h1 h2 hj
  obtain ⟨m,rfl⟩:∃ m:Nat,v=m:=⟨v.toNat,by omega⟩
  simp (disch:=omega)only[go_sem, *]
  refine ZC_loop_n (fun n' e h'=>∃ (i j:Nat) (O:List Run) (o:V),n'=i∧h'.lim=h.lim∧e 0=.p id 0 0∧e 1=.i .i64 N∧e 7=o∧e 8=.i .i64 i∧i≤100∧j≤L.length∧Upd h id (tapeB L j) h'∧Sl h.next h' 2 o (O.map Run.enc)∧AllPos O∧sumN O+4*i≤400∧O.length+i≤100) ?_ _ _ _ ⟨m+1,j,[],.ns,rfl, ?_⟩
  · rintro n' e h' ⟨i,j,O,o,rfl,hl',e0,e1,e7,e8,hi,hj,hu,so,hO,hs,hOl⟩ ih
    have hun:=hu.next
    have hgu:=hu.here
    have hw:=sl_own so
    rw [ZC_unf Q12_6.eq_1]
    simp (disch:=omega)only[go_sem, *]
    refine Wb_dec (fun hc=>?_) (fun hc=>?_)
    · simp (disch:=omega)only[go_sem, *]
      refine tnext_ev hgu hj hL (by omega) ?_
      intro v2 j2 h20 h21 h22 hj2
      have hg2:(h'.put id (tapeB L j2)).get id=some (tapeB L j2):=by simp (disch:=omega)only[go_sem, *]
      simp (disch:=omega)only[go_sem, *]
      refine tnext_ev hg2 hj2 hL (by simp (disch:=omega)only[go_sem, *]) ?_
      intro v3 j3 h30 h31 h32 hj3
      have so3:Sl h.next (h'.put id (tapeB L j3)) 2 o (O.map Run.enc):=by
        rcases hw with hw | hw
        · rcases so with ⟨a,b⟩ | ⟨_,_,_,_,rfl,_⟩
          · exact .inl ⟨a,b⟩
          · cases hw
        · exact so.putx _ _ (by omega)
      have hu3:=upd_put (b':=tapeB L j3) hu
      simp (disch:=omega)only[go_sem, *]
      refine app_rule (N:=[Run.enc ⟨v2 - 1,1+v3⟩]) (so3.alloc ⟨2,[Run.enc ⟨v2 - 1,1+v3⟩]⟩) ?_ ?_ ?_ ?_
      · rw [lim_alloc,lim_put];omega
      · rw [next_alloc,next_put];omega
      · simp;omega
      intro w h4 s4 g4
      have hl4:=g4.lim
      have hu4:=upd_grown (upd_alloc (k:=⟨2,[Run.enc ⟨v2 - 1,1+v3⟩]⟩) hu3 hid) hid g4 hw
      have s5:Sl h.next h4 2 w ((O++[(⟨v2 - 1,1+v3⟩:Run)]).map Run.enc):=by simpa using s4
      rw [lim_alloc,lim_put] at hl4
      clear s4
      simp (disch:=omega)only[go_sem, *]
      refine ih _ _ _ ?_ ⟨n' - 1,j3,O++[⟨v2 - 1,1+v3⟩],w,rfl, ?_⟩
      · omega
      · clear ih kk
        have hsn:sumN (O++[(⟨v2 - 1,1+v3⟩:Run)])=sumN O+(1+v3):=sumN_snoc
        simp (disch:=omega)only[go_sem, *]
        ((repeat' refine And.intro ?_ ?_)<;>first | omega | assumption | (exact s5) | (exact hu4) | ((congr 1;omega)) | ((simp;omega)) | (exact pos_snoc hO (by simp only [];omega)))
    · have h00:n'=0:=by omega
      simp (disch:=omega)only[go_sem, *]
      exact ⟨.fl 2 (O.map Run.enc),j,Sl.frzb so (fun _=>rfl) (by omega),hu,kk _ _ ⟨hO,by omega⟩ hj⟩
  · have hu0:=upd_put (b':=tapeB L j) (Upd.same hg)
    clear kk
    simp (disch:=omega)only[go_sem, *]
    ((repeat' refine And.intro ?_ ?_)<;>first | omega | assumption | (exact hu0) | (exact Sl.nil _ _ _) | ((congr 1;omega)) | ((intro r hr;cases hr)) | ((simp [sumN];omega)))
end Go.Ab.T
namespace Go.Ab.T
open Go Go.Ab
set_option maxHeartbeats 4000000
theorem want_b {e:Env} {t:Nat} {x y:Bool} (h:e t=.b y) (hy:(y==x)=true):wantedT e (some (t,x))=some true:=by simp only [wantedT,h,hy]
section
variable {tp:TP} {S S':Nat→Prop} {m m':Nat→Nat} {h hc h' hc':AH}
theorem hide_live {id i:Nat} (hi:(h.kill id).live i):i≠id∧h.live i:=by
  by_cases e:i=id
  · subst e;simp [AH.live,AH.kill] at hi
  · exact ⟨e,by simpa [AH.live,AH.kill,e] using hi⟩
theorem hide_ok (c:Cfg S m h hc) (id:Nat):Cfg S m (h.kill id) hc:=
  ⟨fun i b hb=>c.blk i b (by
    by_cases e:i=id
    · subst e;simp [AH.kill] at hb
    · simpa [AH.kill,e] using hb),fun i j hi hj=>c.inj i j (hide_live hi).2 (hide_live hj).2,fun i hi=>c.off i (hide_live hi).2,c.low,fun i hi=>c.lim i (hide_live hi).2,c.bnd,c.bnd2⟩
theorem unhide {id:Nat} {k:Blk} (c:Cfg S m h hc) (hk:h.get id=some k) (c':Cfg S' m' h' hc') (a:Adv S m (h.kill id) hc S' m' h' hc'):Cfg S' m' (h'.put id k) hc'∧Adv S m h hc S' m' (h'.put id k) hc'∧hc'.get (m id)=hc.get (m id)∧m' id=m id:=by
  obtain ⟨l1,l2,cs,l3,l4⟩:=c.blk id k hk
  have hlv:h.live id:=by unfold AH.live;rw [hk];simp
  have hm:m' id=m id:=a.map id l1
  have hg:hc'.get (m id)=hc.get (m id):=a.frame _ l2 fun i hi he=>(hide_live hi).1 (c.inj _ _ (hide_live hi).2 hlv he)
  have mon:=a.mon (hide_ok c id)
  have old:∀ i,(h'.put id k).live i→i≠id→h'.live i:=fun i hi e=>by simpa [AH.live,AH.put,e] using hi
  have far:∀ i,h'.live i→m' i≠m id:=fun i hi he=>by
    rcases a.liv i hi with ⟨q1,q2⟩ | q
    · have q3:=hide_live q2
      rw [a.map i q1] at he
      exact q3.1 (c.inj _ _ q3.2 hlv he)
    · omega
  have n1:=a.next1
  have n2:h.next≤h'.next:=a.next2
  refine ⟨⟨fun i b hb=>?_,fun i j hi hj he=>?_,fun i hi hs=>?_,c'.low,fun i hi hl=>?_,c'.bnd,c'.bnd2⟩,⟨a.sub,fun x hx=>?_,a.map,a.next2,a.next1,a.lim2,a.lim1,fun x hx hn=>a.frame x hx fun i hi=>hn i (hide_live hi).2,fun i hi=>?_⟩,hg,hm⟩
  · by_cases e:i=id
    · subst e
      have:k=b:=by simpa [AH.put] using hb
      subst this
      exact ⟨Nat.lt_of_lt_of_le l1 n2,by rw [hm];omega,cs,by rw [hm,hg];exact l3,l4.mono mon⟩
    · exact c'.blk i b (by simpa [AH.put,e] using hb)
  · by_cases e1:i=id
    · by_cases e2:j=id
      · rw [e1,e2]
      · subst e1;rw [hm] at he;exact absurd he.symm (far j (old j hj e2))
    · by_cases e2:j=id
      · subst e2;rw [hm] at he;exact absurd he (far i (old i hi e1))
      · exact c'.inj i j (old i hi e1) (old j hj e2) he
  · by_cases e:i=id
    · subst e
      rw [hm] at hs
      rcases a.new _ hs with q | q | ⟨j,q1,q2⟩
      · exact c.off _ hlv q
      · omega
      · exact (hide_live q1).1 (c.inj _ _ (hide_live q1).2 hlv q2)
    · exact c'.off i (old i hi e) hs
  · by_cases e:i=id
    · subst e
      rw [hm,a.lim1]
      exact c.lim _ hlv (by have:=a.lim2;have e1:(h'.put i k).lim=h'.lim:=rfl;have e2:(h.kill i).lim=h.lim:=rfl;omega)
    · exact c'.lim i (old i hi e) hl
  · rcases a.new x hx with q | q | ⟨j,q1,q2⟩
    · exact .inl q
    · exact .inr (.inl q)
    · exact .inr (.inr ⟨j,(hide_live q1).2,q2⟩)
  · by_cases e:i=id
    · subst e;exact .inl ⟨l1,hlv⟩
    · rcases a.liv i (old i hi e) with ⟨q1,q2⟩ | q
      · exact .inl ⟨q1,(hide_live q2).2⟩
      · exact .inr q
def selfB:V→Bool
  | .fl _ _ | .i _ _ | .b _ | .sl _ _ _ _ | .p _ _ _ | .ns | .np | .e0=>true
  | _=>false
def selfA:V→Bool
  | .agg l=>l.all selfB
  | v=>selfB v
theorem self_PR {n:Nat} {v v':V} (hs:selfB v=true) (p:PR S m hc.get n v v'):sameV v' v'=true:=by
  cases p<;>simp_all [selfB,sameV]
theorem selfs_PR {n:Nat}:∀ {l l':List V},l.all selfB=true→PRs S m hc.get n l l'→sameRow l' l'=true
  | [],_,_,p=>by cases p;rfl
  | v::l,_,hs,p=>by
    cases p
    rename_i v' l' p q
    simp only [List.all_cons,Bool.and_eq_true] at hs
    simp only [sameRow,self_PR hs.1 p,selfs_PR hs.2 q,Bool.and_self]
theorem selfA_PR {n:Nat} {v v':V} (hs:selfA v=true) (p:PR S m hc.get n v v'):sameVa v' v'=true:=by
  cases p
  case agg l l' q=>exact selfs_PR hs q
  all_goals (simp_all [selfA,selfB,sameVa,sameV])
def readO:O→Bool
  | .mv _ | .fad _ _ | .load _ _ _ | .len _=>true
  | _=>false
theorem read_do {o:O} (hr:readO o=true) {ev:X→V} {h h':AH} {v:V} (hd:doOp o ev h=some (v,h')):h'=h:=by
  unfold readO at hr
  split at hr
  · simp only [doOp] at hd;cases hd;rfl
  · simp only [doOp] at hd;split at hd<;>first | (cases hd;rfl) | simp at hd
  · simp only [doOp] at hd
    split at hd
    · simp only [Option.bind_eq_some_iff,Option.map_eq_some_iff] at hd
      obtain ⟨_,_,_,_,_,_,hd⟩:=hd
      cases hd;rfl
    · simp at hd
  · simp only [doOp] at hd;split at hd<;>first | (cases hd;rfl) | simp at hd
  · simp at hr
theorem read_run {o:O} (hr:readO o=true) {C:Oracle} {ev:X→V} {h:AH}:run1 tp C o ev h=doOp o ev h:=by
  cases o<;>first | rfl | simp [readO] at hr
theorem quiet_reads {C:Oracle} {t:Nat}:∀ {l:List TO} {e e':Env} {h h':AH},l.all (fun o=>readO o.o&&decide (o.d≠some t))=true→evQuiet tp C l e h=some (e',h')→h'=h∧e' t=e t
  | [],e,e',h,h',_,he=>by simp [evQuiet] at he;obtain ⟨rfl,rfl⟩:=he;exact ⟨rfl,rfl⟩
  | o::r,e,e',h,h',hr,he=>by
    simp only [List.all_cons,Bool.and_eq_true,decide_eq_true_eq] at hr
    obtain ⟨⟨hr1,hd⟩,hr2⟩:=hr
    have st:∀ v,e.set o.d v t=e t:=fun v=>by
      cases hq:o.d with
      | none=>rfl
      | some d=>rw [hq] at hd;simp only [Env.set];rw [if_neg (fun x=>hd (by rw [x]))]
    simp only [evQuiet] at he
    split at he
    · split at he
      · split at he
        · simp only [Option.bind_eq_some_iff] at he
          obtain ⟨⟨v,h2⟩,h1,he⟩:=he
          have:=read_do hr1 h1
          subst this
          have q:=quiet_reads hr2 he
          exact ⟨q.1,q.2.trans (st _)⟩
        · simp at he
      · simp only [Option.bind_eq_some_iff] at he
        obtain ⟨⟨v,h2⟩,h1,he⟩:=he
        rw [read_run hr1] at h1
        have:=read_do hr1 h1
        subst this
        have q:=quiet_reads hr2 he
        exact ⟨q.1,q.2.trans (st _)⟩
    · have q:=quiet_reads hr2 he
      exact ⟨q.1,q.2.trans (st _)⟩
    · simp at he
theorem WQ_app:∀ {l r:List TO} {e:Env} {h:AH} {Q:Env→AH→Prop},WQ tp l e h (fun e h=>WQ tp r e h Q)→WQ tp (l++r) e h Q
  | [],r,e,h,Q,w=>by rw [WQ_nil] at w;exact w
  | o::l,r,e,h,Q,w=>by
    cases hw:wantedT e o.g with
    | none=>obtain ⟨k,e',h',he,_⟩:=w;simp [evQuiet,hw] at he
    | some b=>
      obtain ⟨d,o,g⟩:=o
      cases b with
      | true=>
        rw [List.cons_append,WQ_run hw]
        rw [WQ_run hw] at w
        unfold WQ1 at w ⊢
        by_cases hp:isPure o=true
        · rw [if_pos hp] at w ⊢
          exact ⟨w.1,w.2.imp fun _ _=>WQ_app⟩
        · rw [if_neg hp] at w ⊢
          exact w.imp fun _ _=>WQ_app
      | false=>
        rw [List.cons_append,WQ_skip hw]
        rw [WQ_skip hw] at w
        exact WQ_app w
theorem ZCS_hide {l1 : List TO} (N : Nat) {t n x : Nat} {ag : Bool} {g1 g2 g3 : Option (Nat × Bool)} {lb : List TO} {d f : Nat} {ca : List X} {rest : List (Bool × List TO)} {e : Env} {K : Ex → Env → AH → Prop}
    (hl:l1.drop N=⟨some t,.fload n ag (.t x),g1⟩::lb) (hr:lb.all (fun o=>readO o.o&&decide (o.d≠some t))=true) (hr2:lb.all (fun o=>readO o.o&&decide (o.d≠some x))=true) (hd:d≠t∧d≠x∧t≠x)
    (z:ZQ tp (l1.take N) e h (fun e h=>∃ id k row v,e x=.p id 0 0∧h.get id=some k∧k.cs[0]?=some row∧cut row 0 n ag=some v∧selfA v=true∧wantedT e g1=some true ∧
      ZQ tp lb (e.set (some t) v) h (fun e2 h2=>h2=h∧wantedT e2 g2=some true∧Cq tp f (ca.map (X.e2 e2)) (h.kill id) (fun r h3=>wantedT (e2.set (some d) r) g3=some true∧ZS tp rest (e2.set (some d) r) (h3.put id k) (fun e h=>K .nm e h))))):
    ZCS tp (.dreg ((true,l1)::(false,[⟨some d,.call (.fn f) ca,g2⟩,⟨none,.chk n ag (.t x) (.t t),g3⟩])::rest)) e h K:=by
  intro S m hc e1 c p
  rw [WC_dreg,WS_quiet]
  have hs:l1=l1.take N++⟨some t,.fload n ag (.t x),g1⟩::lb:=by rw [← hl,List.take_append_drop]
  rw [hs]
  refine WQ_app ((zq_ok _ c p z).imp ?_)
  rintro e1 hc1 ⟨e,h1,S1,m1,c1,a1,p1,id,k,row,v,hx,hk,hrow,hcut,hv,hw1,z⟩
  have main:WQ tp (⟨some t,.fload n ag (.t x),g1⟩::lb) e1 hc1 (fun e' h'=>WS tp ((false,[⟨some d,.call (.fn f) ca,g2⟩,⟨none,.chk n ag (.t x) (.t t),g3⟩])::rest) e' h' (PostE S1 m1 h1 hc1 (fun e h=>K .nm e h))):=by
    rw [WQ_run (want_PR p1 hw1)]
    unfold WQ1
    rw [if_pos (show isPure (O.fload n ag (X.t x))=true from rfl),W1_do (fun C=>rfl)]
    refine ⟨rfl, ?_⟩
    obtain ⟨v1,hv1,pv⟩:=load_ok c1 hk hrow hcut
    have px:=p1 x
    rw [hx] at px
    have hx1:e1 x=.p (m1 id) 0 0:=by cases hq:e1 x<;>rw [hq] at px<;>cases px;rfl
    simp only [doOp,X.ev,hx1]
    have hv2:(hc1.get (m1 id)).bind (fun k=>(k.cs[0]?).bind fun r=>(cut r 0 n ag).map fun v=>(v,hc1))=some (v1,hc1):=by
      simp only [Option.bind_eq_some_iff] at hv1
      obtain ⟨b,hb,r,hr,hcut⟩:=hv1
      simp only [hb,Option.bind_some,hr,hcut,Option.map_some]
    rw [hv2,Wo_some]
    obtain ⟨kk,e2,hc2,hev,e',h',S2,m2,c2,a2,p2,rfl,hw2,zc⟩:=zq_ok _ c1 (p1.set pv (some t)) z
    refine ⟨kk,e2,hc2,hev, ?_⟩
    obtain ⟨rfl,ht⟩:=quiet_reads hr hev
    obtain ⟨_,hx2⟩:=quiet_reads hr2 hev
    have ht2:e2 t=v1:=by rw [ht];simp [Env.set]
    have hx3:e2 x=.p (m1 id) 0 0:=by rw [hx2,←hx1];simp only [Env.set];rw [if_neg (fun q=>hd.2.2 q.symm)]
    rw [WS_bar,WOps_run (want_PR p2 hw2),W1_call]
    obtain ⟨args1,hk3,q⟩:=callee_PR p2 (show callee tp (.call (.fn f) ca) (X.e2 e')=some (f,ca.map (X.e2 e')) from by simp only [callee,X.e2,List.nil_append,List.append_nil])
    rw [hk3,Wo_some]
    have hid:id<h'.next:=(c1.blk id k hk).1
    have m21:m2 id=m1 id:=a2.map id hid
    refine (zc S2 m2 hc2 args1 (hide_ok c2 id) q).imp ?_
    rintro r1 hc3 ⟨r,h3,S3,m3,c3,a3,pr,hw3,zz⟩
    obtain ⟨c4,a4,hg,hm⟩:=unhide c2 hk c3 a3
    have p4:EP S3 m3 (h3.put id k) hc3 (e'.set (some d) r) (e2.set (some d) r1):=(p2.mono c2 a4).set pr (some d)
    rw [WOps_run (want_PR p4 hw3),W1_do (fun C=>rfl)]
    have hx4:(e2.set (some d) r1) x=.p (m1 id) 0 0:=by simp only [Env.set];rw [if_neg (fun q=>hd.2.1 q.symm)];exact hx3
    have ht4:(e2.set (some d) r1) t=v1:=by simp only [Env.set];rw [if_neg (fun q=>hd.1 q.symm)];exact ht2
    simp only [doOp,X.ev,hx4,ht4]
    have hsv:sameVa v1 v1=true:=selfA_PR hv pv
    have hg2:hc3.get (m1 id)=hc2.get (m1 id):=by rw [← m21];exact hg
    simp only [Option.bind_eq_some_iff] at hv1
    obtain ⟨b,hb,rr,hrr,hcc⟩:=hv1
    rw [hg2,hb]
    simp only [Option.bind_some,hrr,hcc]
    rw [if_pos hsv,Wo_some,WOps_nil]
    have p5:EP S3 m3 (h3.put id k) hc3 (e'.set (some d) r) ((e2.set (some d) r1).set none .u):=p4
    exact (zs_ok rest c4 p5 zz).imp fun _ _=>PostE.then (a2.trans a4)
  exact main.imp fun _ _ w=>w.imp fun _ _=>PostE.then a1
theorem ZCS_seqS {a b:TC} {e:Env} {K:Ex→Env→AH→Prop} (z:ZCS tp a e h (fun x e h=>nxt x (ZCS tp b e h K) (K x e h))):ZCS tp (.seq a b) e h K:=fun S m hc e1 c p=>by
  rw [WC_seq]
  refine (z S m hc e1 c p).imp ?_
  rintro x e1' hc' ⟨e',h',S',m',c2,a',p',z⟩
  cases x with
  | nm=>exact (z S' m' hc' e1' c2 p').imp fun _ _ _=>PostE.then a'
  | ex j=>exact ⟨e',h',S',m',c2,a',p',z⟩
  | rt=>exact ⟨e',h',S',m',c2,a',p',z⟩
end
end Go.Ab.T
namespace Go.Ab.T
open Go Go.Ab
set_option maxHeartbeats 4000000
set_option maxRecDepth 4000
end Go.Ab.T
namespace Go.Ab.T
open Go Go.Ab
set_option maxHeartbeats 4000000
set_option maxRecDepth 4000
theorem lates_11 {K : Ex → Env → AH → Prop} {e : Env} {h : AH} {Ch : List Chan} {lt : Int} {w x2 x7 x8 x9 a c : V} {b0 b1 : Option Blk} (hl : h.lim = 0) (hn : 3 ≤ h.next) (g0 : h.get 0 = b0) (g1 : h.get 1 = b1) (g2 : h.get 2 = some ⟨3, [[a, w, c]]⟩) (s : Sl 3 h 6 w (Ch.map Chan.enc)) (hc4 : Ch.length ≤ 4)
    (e1:e 1=.i .i64 lt) (e2:e 2=x2) (e7:e 7=x7) (e8:e 8=x8) (e9:e 9=x9) (e10:e 10=.p 2 0 0) (e30:e 30=.i .i64 Ch.length) (e31:e 31=.i .i64 0)
    (kk:∀ (e:Env) (h:AH) (D:List Chan),h.lim=0→3≤h.next→h.get 0=b0→h.get 1=b1→h.get 2=some ⟨3,[[a,w,c]]⟩→Sl 3 h 6 w (D.map Chan.enc)→D.length≤4→e 2=x2→e 7=x7→e 8=x8→e 9=x9→e 10=.p 2 0 0→K (.ex 0) e h):ZC tp (.loop Q0_11) e h K:=by
  refine ZC_loop_n (fun n' e hh=>∃ (i:Nat) (D:List Chan),n'=Ch.length - i∧hh.lim=0∧3≤hh.next∧hh.get 0=b0∧hh.get 1=b1∧hh.get 2=some ⟨3,[[a,w,c]]⟩∧Sl 3 hh 6 w (D.map Chan.enc)∧D.length=Ch.length∧e 1=.i .i64 lt∧e 2=x2∧e 7=x7∧e 8=x8∧e 9=x9∧e 10=.p 2 0 0∧e 30=.i .i64 Ch.length∧e 31=.i .i64 i∧i≤Ch.length) ?_ _ _ _ ⟨0,Ch,rfl,hl,hn,g0,g1,g2,s,rfl,e1,e2,e7,e8,e9,e10,e30,e31,by omega⟩
  clear e1 e2 e7 e8 e9 e10 e30 e31 e hl hn g0 g1 g2 s
  rintro n' e hh ⟨i,D,rfl,hl,hn,g0,g1,g2,s,hD,e1,e2,e7,e8,e9,e10,e30,e31,hi⟩ ih
  obtain ⟨wlen,wbig,wlt,wlo,wget,wat,wrow,wcell,wcells⟩:=s.facts
  rw [hD] at wlen wbig wlt wlo wget wat wrow
  rw [ZC_unf Q0_11.eq_1]
  simp (disch:=omega)only[go_sem, *]
  refine Wb_dec (fun hc=>?_) (fun hc=>?_)
  · have w1:=wlt (by omega)
    have w2:=wlo (by omega)
    have w3:=wget (by omega)
    have w4:=wat .i64 i (csOf hh w) (by omega) (by omega)
    have w5:=wrow i (by omega)
    clear wlt wlo wget wat wrow
    simp only [Chan.enc] at w5
    simp (disch:=omega)only[go_sem, *]
    generalize IntKind.i64.wrap _=z
    have s2:=Sl.setT (x:=({ nth D i with late:=z }:Chan)) s (show i<D.length by omega) (Nat.le_refl _) (h':=hh.put (idV w) ⟨6,(csOf hh w).set (elV w+i) (Chan.enc { nth D i with late:=z })⟩) (by rw [get_put,gsel_eq rfl])
    simp only [Chan.enc] at s2
    refine ih _ _ _ ?_ ⟨i+1,D.set i { nth D i with late:=z },rfl, ?_⟩
    · omega
    · clear ih kk
      simp (disch:=omega)only[go_sem, *]
      all_goals ((repeat' refine And.intro ?_ ?_)<;>first | omega | assumption | (exact s2) | ((simp;omega)))
  · simp (disch:=omega)only[go_sem, *]
    exact kk _ _ D hl hn g0 g1 g2 s (by omega) e2 e7 e8 e9 e10
theorem fix_11 {c : TC} {K : Ex → Env → AH → Prop} {e : Env} {h : AH} {D : List Chan} {B0 B1 : Blk} {w : V} {a d x2 x9 : List (List V)} (hl : h.lim = 0) (hn : 3 ≤ h.next) (g0 : h.get 0 = some B0) (g1 : h.get 1 = some B1) (g2 : h.get 2 = some ⟨3, [[.fl 11 a, w, .fl 1 d]]⟩)
    (s:Sl 3 h 6 w (D.map Chan.enc)) (hD:D.length≤4) (e2:e 2=.fl 3 x2) (e7:e 7=.p 0 0 0) (e8:e 8=.p 1 0 0) (e9:e 9=.fl 2 x9) (e10:e 10=.p 2 0 0)
    (z:∀ (e:Env) (h:AH),h.lim=0→3≤h.next→h.get 0=some B0→h.get 1=some B1→h.get 2=some ⟨3,[[.fl 11 a,.fl 6 (D.map Chan.enc),.fl 1 d]]⟩→e 2=.fl 3 x2→e 7=.p 0 0 0→e 8=.p 1 0 0→e 9=.fl 2 x9→e 10=.p 2 0 0→ZCS tp c e h K):ZCS tp c e h K:=by
  refine ZCS_step (Stp_frz (h2:=⟨fun i=>if i=0 then some B0 else if i=1 then some B1 else if i=2 then some ⟨3,[[.fl 11 a,.fl 6 (D.map Chan.enc),.fl 1 d]]⟩ else none,h.next,h.lim⟩) (3≤·) [2,7,8,9,10] e (fun wf=>⟨rfl,rfl,fun i k hk=>?_,fun t ht=>?_⟩)) (z _ _ hl hn rfl rfl rfl ?_ ?_ ?_ ?_ ?_)
  · simp only at hk
    by_cases h0:i=0
    · subst h0
      rw [if_pos rfl] at hk;cases hk
      exact ⟨by show 0<h.next;omega,by omega,_,g0,(wf.2 _ _ g0).2 _ _⟩
    · rw [if_neg h0] at hk
      by_cases h1:i=1
      · subst h1
        rw [if_pos rfl] at hk;cases hk
        exact ⟨by show 1<h.next;omega,by omega,_,g1,(wf.2 _ _ g1).2 _ _⟩
      · rw [if_neg h1] at hk
        by_cases h2:i=2
        · subst h2
          rw [if_pos rfl] at hk;cases hk
          exact ⟨by show 2<h.next;omega,by omega,_,g2,.cons _ _ _ _ _ (.cons _ _ _ _ _ (.fl _ _ _) (.cons _ _ _ _ _ (Sl.frzb s (fun _=>rfl) (by omega)) (.cons _ _ _ _ _ (.fl _ _ _) (.nil _)))) (.nil _)⟩
        · rw [if_neg h2] at hk;cases hk
  · simp only [List.mem_cons,List.not_mem_nil,or_false] at ht
    rcases ht with rfl | rfl | rfl | rfl | rfl
    · rw [e2];exact .fl _ _ _
    · rw [e7];exact .p _ _ _ _ (Nat.lt_of_lt_of_le (by omega) hn)
    · rw [e8];exact .p _ _ _ _ (Nat.lt_of_lt_of_le (by omega) hn)
    · rw [e9];exact .fl _ _ _
    · rw [e10];exact .p _ _ _ _ (Nat.lt_of_lt_of_le (by omega) hn)
  all_goals (simp only [List.mem_cons,List.not_mem_nil,or_false];simp;assumption)
theorem tail_11 {C : Config} {D : List Chan} {R : List Run} {V : List Node} {L : List Int} {j : Nat} {e : Env} {h : AH} (hL : L.length < 4000000000) (hj : j ≤ L.length) (hR : Frm R) (p1 : 1 ≤ C.parts.length) (p4 : C.parts.length ≤ 4) (t1 : 1 ≤ C.tables.length) (hl : h.lim = 0) (hn : 3 ≤ h.next)
    (g0:h.get 0=some (tapeB L j)) (g1:h.get 1=some ⟨3,[C.enc]⟩) (g2:h.get 2=some ⟨3,[[.fl 11 (C.parts.map Part.enc),.fl 6 (D.map Chan.enc),.fl 1 (C.tables.map Tab.enc)]]⟩) (e2:e 2=.fl 3 (V.map Node.enc)) (e7:e 7=.p 0 0 0) (e8:e 8=.p 1 0 0) (e9:e 9=.fl 2 (R.map Run.enc)) (e10:e 10=.p 2 0 0):
    ZCS tp (.seq (.dreg Q0_14) .ret) e h (fun x e h=>Zend [.t 6] x e h (fun r h'=>Frz (fun _=>True) h' 0 r (.b true))):=by
  have hs:=same11_ev (C:=C) hR
  have hs2:=same11_ev (C:=⟨C.parts,D,C.tables⟩) hR
  have hp2:=passes11_ev (C:=⟨C.parts,D,C.tables⟩) hR
  have ht:=fun T=>table11_ev (C:=C) (T:=T)
  have ht2:=fun T=>table11_ev (C:=⟨C.parts,D,C.tables⟩) (T:=T)
  simp only [Config.enc,tapeB] at hs hs2 hp2 ht ht2 g0 g1
  simp (disch:=omega)only[go_sem, *]
  refine ZCS_seqS (ZCS_hide 30 (t:=77) (n:=3) (x:=8) (d:=82) rfl rfl rfl (by decide) ?_)
  simp only [List.take_succ_cons,List.take_zero]
  simp (disch:=omega)only[go_sem, *]
  refine Pf.go (hs) (by simp only [go_sem]) fun _=>?_;simp (disch:=omega)only[go_sem, *]
  refine Pf.go (hs2) (by simp only [go_sem]) fun _=>?_;simp (disch:=omega)only[go_sem, *]
  refine Pf.go (hp2) (by simp only [go_sem]) fun _=>?_;simp (disch:=omega)only[go_sem, *]
  refine Pf.go (ht (nth C.tables 0)) (by simp only [go_sem]) fun _=>?_;simp (disch:=omega)only[go_sem, *]
  refine Pf.go (ht2 (nth C.tables 0)) (by simp only [go_sem]) fun _=>?_;simp (disch:=omega)only[go_sem, *]
  refine ⟨1,⟨3,[[.fl 11 (C.parts.map Part.enc),.fl 6 (C.chans.map Chan.enc),.fl 1 (C.tables.map Tab.enc)]]⟩,_,.agg [.fl 11 (C.parts.map Part.enc),.fl 6 (C.chans.map Chan.enc),.fl 1 (C.tables.map Tab.enc)], ?_, ?_,rfl,rfl,rfl, ?_, ?_⟩
  · simp (disch:=omega)only[go_sem, *]
  · simp (disch:=omega)only[go_sem, *]
  · exact want_b (y:=true) (by simp (disch:=omega)only[go_sem, *]) rfl
  refine ⟨want_b (y:=true) (by simp (disch:=omega)only[go_sem, *]) rfl, ?_⟩
  refine ttable_ev (n:=C.parts.length) (L:=L) (id:=0) (k:=j) (by omega) (by omega) (by omega) 3 (by omega) ?_ hj ?_ ?_
  · simp (disch:=omega)only[go_sem, *]
  · simp (disch:=omega)only[go_sem, *]
  intro T j3 hT hTl hj3
  refine ⟨want_b (y:=true) (by simp (disch:=omega)only[go_sem, *]) rfl, ?_⟩
  simp (disch:=omega)only[go_sem, *]
  refine Pf.go (ht T) (by simp only [go_sem]) fun _=>?_;simp (disch:=omega)only[go_sem, *]
  refine Pf.go (ht V) (by simp only [go_sem]) fun _=>?_;simp (disch:=omega)only[go_sem, *]
  refine Pf.go (known11_ev) (by simp only [go_sem]) fun _=>?_;simp (disch:=omega)only[go_sem, *]
  refine ZCS_of ?_
  simp (disch:=omega)only[go_sem, *]
theorem reduceTells_ev {L:List Int} {W:List Node} {lt:Int} (hL:L.length<4000000000):Pf tp i_Q0 [.fl 1 (L.map encI),.i .i64 lt,.fl 3 (W.map Node.enc)] (.b true):=by
  refine Pf_goS fn_Q0 (by simp [t_Q0]) fun rp=>?_
  unfold t_Q0
  refine ZCS_seq ?_
  simp (disch:=omega)only[go_sem, *]
  refine ZCS_seq ?_
  simp (disch:=omega)only[go_sem, *]
  refine ZCS_seq ?_
  simp (disch:=omega)only[go_sem, *]
  refine config_ev (id:=0) (k:=0) (L:=L) ?_ (by omega) (by omega) ?_ ?_
  · simp only [tapeB]
    simp (disch:=omega)only[go_sem, *]
    all_goals rfl
  · simp (disch:=omega)only[go_sem, *]
  intro C j hj hC
  have pp:=hC.pt
  have p1:1≤C.parts.length:=by have:=((where_iff).1 hC.wh).1;omega
  have t1:1≤C.tables.length:=by have:=((where_iff).1 hC.wh).1;omega
  have t2:=hC.tb
  simp (disch:=omega)only[go_sem, *]
  refine ZCS_seq ?_
  simp (disch:=omega)only[go_sem, *]
  refine truns_ev (id:=0) (k:=j) (L:=L) (N:=C.parts.length) (most:=14) ?_ hj (by omega) ?_ (by omega) (by omega) (by omega) (by omega) ?_
  · simp (disch:=omega)only[go_sem, *]
  · simp (disch:=omega)only[go_sem, *]
  intro R j2 hR hj2
  simp (disch:=omega)only[go_sem, *]
  refine ZCS_seq ?_
  simp (disch:=omega)only[go_sem, *]
  refine ZCS_seq ?_
  simp (disch:=omega)only[go_sem, *]
  refine app_rule (N:=C.chans.map Chan.enc) (Sl.nil' 3 _ 6) (by simp (disch:=omega)only[go_sem, *]<;>omega) (by simp (disch:=omega)only[go_sem, *]<;>omega) (by simp;have:=hC.ch;omega) ?_
  intro w h4 s4 g4
  have hl4:=g4.lim
  have hn4:=g4.next
  have q0:=g4.low 0 (by omega)
  have q1:=g4.low 1 (by omega)
  have q2:=g4.low 2 (by omega)
  rw [List.nil_append] at s4
  have cl3:=hC.ch
  simp (disch:=omega)only[go_sem] at q0 q1 q2 hl4 hn4
  obtain ⟨wlen,wbig,wlt,wlo,wget,wat,wrow,wcell,wcells⟩:=s4.facts
  clear g4
  simp (disch:=omega)only[go_sem, *]
  have so2:=(sl_own s4).imp id (fun (x:3≤idV w)=>show 2≠idV w by omega)
  clear wbig wlt wlo wget wat wrow wcell wcells q2
  refine ZCS_seq ?_
  simp (disch:=omega)only[go_sem, *]
  refine lates_11 (Ch:=C.chans) (lt:=lt) (w:=w) (x2:=.fl 3 (W.map Node.enc)) (x7:=.p 0 0 0) (x8:=.p 1 0 0) (x9:=.fl 2 (R.map Run.enc)) (a:=.fl 11 (C.parts.map Part.enc)) (c:=.fl 1 (C.tables.map Tab.enc)) (b0:=some (tapeB L j2)) (b1:=some ⟨3,[C.enc]⟩) ?_ ?_ ?_ ?_ ?_ (sl_put s4 _ _ so2) (by omega) ?_ ?_ ?_ ?_ ?_ ?_ ?_ ?_ ?_
  any_goals (first | (simp (disch:=omega)only[go_sem, *];done) | (simp only [Config.enc,tapeB];simp (disch:=omega)only[go_sem, *];done))
  clear s4 q0 q1 so2 wlen hl4 hn4 rp cl3
  intro e h D hl hn g0 g1 g2 s hD e2 e7 e8 e9 e10
  simp (disch:=omega)only[go_sem, *]
  refine fix_11 (B0:=tapeB L j2) (B1:=⟨3,[C.enc]⟩) hl hn g0 g1 g2 s hD e2 e7 e8 e9 e10 ?_
  clear hl hn g0 g1 g2 s e2 e7 e8 e9 e10 e h
  intro e h hl hn g0 g1 g2 e2 e7 e8 e9 e10
  refine ZCS_seq ?_
  simp (disch:=omega)only[go_sem, *]
  refine Wb_dec (fun hc=>?_) (fun hc=>?_)
  · simp (disch:=omega)only[go_sem, *]
    refine tail_11 (C:=C) (D:=D) (R:=R) (V:=W.take 50) hL hj2 hR p1 (by omega) t1 hl hn g0 g1 g2 ?_ ?_ ?_ ?_ ?_
    all_goals simp (disch:=omega)only[go_sem, *]
    rw [List.map_take]
  · simp (disch:=omega)only[go_sem, *]
    refine tail_11 (C:=C) (D:=D) (R:=R) (V:=W) hL hj2 hR p1 (by omega) t1 hl hn g0 g1 g2 ?_ ?_ ?_ ?_ ?_
    all_goals simp (disch:=omega)only[go_sem, *]
end Go.Ab.T
/- From a call's arguments, as the form reads them, to an abstract heap. -/
namespace Go.Ab
open Go Go.RowKit
/-! ### Shapes of arguments -/
mutual
inductive Sh where
  | b
  | i (k:IntKind)
  | s
  | sl (e:Sh)
  | agg (l:ShL)
inductive ShL where
  | nil
  | cons (x:Sh) (l:ShL)
end
mutual
def Sh.size:Sh→Nat
  | .b | .i _ | .s | .sl _=>1
  | .agg l=>l.size
def ShL.size:ShL→Nat
  | .nil=>0
  | .cons x l=>x.size+l.size
end
def ShL.rep (x:Sh):Nat→ShL
  | 0=>.nil
  | n+1=>.cons x (ShL.rep x n)
mutual
inductive ShT (P:Program):TypeId→Sh→Prop where
  | b (t:TypeId):P.underlying t=some .bool→ShT P t .b
  | i (t:TypeId) (k:IntKind):P.underlying t=some (.int k)→ShT P t (.i k)
  | s (t:TypeId):P.underlying t=some .string→ShT P t .s
  | sl (t e:TypeId) (x:Sh):P.underlying t=some (.slice e)→ShT P e x→P.cellsOf e=x.size→0<x.size→ShT P t (.sl x)
  | agg (t:TypeId) (fs:Array Field) (l:ShL):P.underlying t=some (.struct fs)→ShF P fs.toList 0 l→P.cellsOf t=l.size→ShT P t (.agg l)
  | arr (t e:TypeId) (n:Nat) (x:Sh):P.underlying t=some (.array n e)→ShT P e x→P.cellsOf e=x.size→P.cellsOf t=n*x.size→ShT P t (.agg (ShL.rep x n))
inductive ShF (P:Program):List Field→Nat→ShL→Prop where
  | nil (o:Nat):ShF P [] o .nil
  | cons (f:Field) (fs:List Field) (o:Nat) (x:Sh) (l:ShL):f.offset=o→ShT P f.type x→P.cellsOf f.type=x.size→ShF P fs (o+x.size) l→ShF P (f::fs) o (.cons x l)
end
section
variable {H:Type}
mutual
def DV (h:AH):Sh→DataW H→List V→Prop
  | .b,d,vs=>∃ x,d=.lit (.bool x)∧vs=[.b x]
  | .i k,d,vs=>∃ n,d=.lit (.int k n)∧(Lit.int k n).wf=true∧vs=[.i k n]
  | .s,d,vs=>∃ x:ByteArray,d=.lit (.string x.data.toList)∧x.size≤maxLen∧vs=[.s x]
  | .sl e,d,vs=>(d=.nil∧vs=[.ns])∨∃ (elems spare:List (DataW H)) (id:Nat) (rows:List (List V)),d=.slice elems spare∧vs=[.sl id 0 elems.length elems.length]∧h.get id=some ⟨e.size,rows⟩∧id<h.next∧rows.length=elems.length∧elems.length<bigLen∧∀ (j:Nat) (x:DataW H) (r:List V),elems[j]?=some x→rows[j]?=some r→DV h e x r
  | .agg l,d,vs=>∃ ds,d=.agg ds∧DVs h l ds vs
def DVs (h:AH):ShL→List (DataW H)→List V→Prop
  | .nil,ds,vs=>ds=[]∧vs=[]
  | .cons x l,ds,vs=>∃ d ds' v1 v2,ds=d::ds'∧vs=v1++v2∧DV h x d v1∧DVs h l ds' v2
end
mutual
def Sml:Sh→DataW H→Prop
  | .sl e,d=>∀ elems spare,d=.slice elems spare→elems.length<bigLen∧∀ x∈elems,Sml e x
  | .agg l,d=>∀ ds,d=.agg ds→Smls l ds
  | .b,_ | .i _,_ | .s,_=>True
def Smls:ShL→List (DataW H)→Prop
  | .nil,_=>True
  | .cons x l,ds=>∀ d ds',ds=d::ds'→Sml x d∧Smls l ds'
end
structure Gr (M M':Mp) (h h':AH):Prop where
  keeps:Keeps M M' h h'
  get:∀ id,id<h.next→h'.get id=h.get id
theorem Gr.refl (M:Mp) (h:AH):Gr M M h h:=⟨Keeps.refl M h,fun _ _=>rfl⟩
theorem Gr.trans {M M1 M2:Mp} {h h1 h2:AH} (a:Gr M M1 h h1) (b:Gr M1 M2 h1 h2):Gr M M2 h h2:=
  ⟨a.keeps.trans b.keeps,fun id hi=>(b.get id (Nat.lt_of_lt_of_le hi a.keeps.next)).trans (a.get id hi)⟩
mutual
theorem DV.grow {M M':Mp} {h h':AH} (g:Gr M M' h h'):∀ (sh:Sh) (d:DataW H) (vs:List V),DV h sh d vs→DV h' sh d vs
  | .b,d,vs,k=>by simp only [DV] at k ⊢;exact k
  | .i _,d,vs,k=>by simp only [DV] at k ⊢;exact k
  | .s,d,vs,k=>by simp only [DV] at k ⊢;exact k
  | .sl e,d,vs,k=>by
    simp only [DV] at k ⊢
    rcases k with k | ⟨elems,spare,id,rows,a,b,c,d,e1,f,g1⟩
    · exact .inl k
    · exact .inr ⟨elems,spare,id,rows,a,b,(g.get id d).trans c,Nat.lt_of_lt_of_le d g.keeps.next,e1,f,fun j x r hx hr=>DV.grow g e x r (g1 j x r hx hr)⟩
  | .agg l,d,vs,k=>by
    simp only [DV] at k ⊢
    obtain ⟨ds,a,b⟩:=k
    exact ⟨ds,a,DVs.grow g l ds vs b⟩
theorem DVs.grow {M M':Mp} {h h':AH} (g:Gr M M' h h'):∀ (l:ShL) (ds:List (DataW H)) (vs:List V),DVs h l ds vs→DVs h' l ds vs
  | .nil,ds,vs,k=>by simp only [DVs] at k ⊢;exact k
  | .cons x l,ds,vs,k=>by
    simp only [DVs] at k ⊢
    obtain ⟨d,ds',v1,v2,a,b,c,e⟩:=k
    exact ⟨d,ds',v1,v2,a,b,DV.grow g x d v1 c,DVs.grow g l ds' v2 e⟩
end
structure In (M:Mp) (w:World) (h:AH):Prop where
  cells:∀ id k m,h.get id=some k→M id=some m→m.b<w.heap.size∧CellsAt M h w m k
  own:∀ id m,M id=some m→m.own=false
  fresh:∀ id,h.live id→id<h.next
  lim:h.lim=h.next
theorem In.sim {M:Mp} {w:World} {h:AH} (i:In M w h):Sim M w.heap.size w h:=by
  refine ⟨i.cells,fun id m hl hm ho=>?_,fun id m hl hm hli=>?_,fun id id' m m' _ _ hm _ _ ho=>?_,i.fresh,by rw [i.lim];exact Nat.le_refl _,Nat.le_refl _⟩
  · rw [i.own id m hm] at ho;cases ho
  · have:=i.fresh id hl;have:=i.lim;omega
  · rw [i.own id m hm] at ho;cases ho
def AH.give (h:AH) (k:Blk):AH:={ get:=fun j=>if j=h.next then some k else h.get j,next:=h.next+1,lim:=h.next+1 }
def mput (M:Mp) (id:Nat) (m:MI):Mp:=fun j=>if j=id then some m else M j
theorem give_gr {M:Mp} {h:AH} {k:Blk} {m:MI} (hf:∀ id,h.live id→id<h.next):Gr M (mput M h.next m) h (h.give k):=by
  refine ⟨⟨by simp [AH.give],fun id hi hl=>?_,fun id hi hl=>?_⟩,fun id hi=>?_⟩
  · have:(h.give k).get id=h.get id:=by simp only [AH.give];rw [if_neg (by omega)]
    rw [AH.live,this] at hl;exact hl
  · simp only [mput];rw [if_neg (by omega)]
  · simp only [AH.give];rw [if_neg (by omega)]
theorem In.give {M:Mp} {w:World} {h:AH} {k:Blk} {m:MI} (i:In M w h) (hb:m.b<w.heap.size) (ho:m.own=false) (hc:CellsAt M h w m k):In (mput M h.next m) w (h.give k):=by
  have g:=give_gr (M:=M) (k:=k) (m:=m) i.fresh
  refine ⟨fun id k' m' hk hm=>?_,fun id m' hm=>?_,fun id hl=>?_,rfl⟩
  · simp only [AH.give,mput] at hk hm
    by_cases hid:id=h.next
    · rw [if_pos hid] at hk hm
      cases hk;cases hm
      exact ⟨hb,CellsAt.keep g.keeps rfl hc⟩
    · rw [if_neg hid] at hk hm
      exact ⟨(i.cells id k' m' hk hm).1,CellsAt.keep g.keeps rfl (i.cells id k' m' hk hm).2⟩
  · simp only [mput] at hm
    split at hm
    · cases hm;exact ho
    · exact i.own id m' hm
  · by_cases hid:id=h.next
    · subst hid;simp [AH.give]
    · have:(h.give k).get id=h.get id:=by simp only [AH.give];rw [if_neg hid]
      rw [AH.live,this] at hl
      have:=i.fresh id hl
      simp only [AH.give];omega
variable {P:Program} {w:World} {enc:TypeId×Value→H} {spare:Nat→Bool}
def Took (M:Mp) (w:World) (h:AH) (sh:Sh) (d:DataW H) (cs:List Value):Prop:=
  ∃ (M':Mp) (h':AH) (vs:List V),In M' w h'∧Gr M M' h h'∧VRs M' h' vs cs∧DV h' sh d vs∧(∀ v∈vs,v.isCell=true)
def TookL (M:Mp) (w:World) (h:AH) (l:ShL) (ds:List (DataW H)) (cs:List Value):Prop:=
  ∃ (M':Mp) (h':AH) (vs:List V),In M' w h'∧Gr M M' h h'∧VRs M' h' vs cs∧DVs h' l ds vs∧(∀ v∈vs,v.isCell=true)
theorem take_rows {e : Sh} (ih : ∀ (cs : List Value) (d : DataW H) (M : Mp) (h : AH), (∃ fuel t ps, ShT P t e ∧ DataW.trod enc P w 0 spare true fuel t cs = some (d, ps)) → In M w h → Sml e d → Took M w h e d cs) :
    ∀ (l:List (List Value×DataW H)) (M:Mp) (h:AH),In M w h→(∀ q∈l,(∃ fuel t ps,ShT P t e∧DataW.trod enc P w 0 spare true fuel t q.1=some (q.2,ps))∧Sml e q.2) →
      ∃ (M':Mp) (h':AH) (rows:List (List V)),In M' w h'∧Gr M M' h h'∧rows.length=l.length∧∀ (j:Nat) (q:List Value×DataW H) (r:List V),l[j]?=some q→rows[j]?=some r→VRs M' h' r q.1∧DV h' e q.2 r∧(∀ v∈r,v.isCell=true)
  | [],M,h,hi,_=>⟨M,h,[],hi,Gr.refl M h,rfl,fun j q r hq=>by simp at hq⟩
  | q::l,M,h,hi,hq=>by
    obtain ⟨M1,h1,vs,i1,g1,v1,d1,c1⟩:=ih q.1 q.2 M h (hq q (List.mem_cons_self ..)).1 hi (hq q (List.mem_cons_self ..)).2
    obtain ⟨M2,h2,rows,i2,g2,l2,a2⟩:=take_rows ih l M1 h1 i1 (fun x hx=>hq x (List.mem_cons_of_mem _ hx))
    refine ⟨M2,h2,vs::rows,i2,g1.trans g2,by simp [l2],fun j x r hx hr=>?_⟩
    cases j with
    | zero=>
      simp at hx hr;subst hx;subst hr
      exact ⟨v1.keep g2.keeps,d1.grow g2,c1⟩
    | succ j=>exact a2 j x r (by simpa using hx) (by simpa using hr)
def Al (P:Program) (w:World) (enc:TypeId×Value→H) (spare:Nat→Bool):ShL→List (List Value×DataW H)→Prop
  | .nil,q=>q=[]
  | .cons x l,q=>∃ p q',q=p::q'∧(∃ fuel t ps,ShT P t x∧DataW.trod enc P w 0 spare true fuel t p.1=some (p.2,ps))∧Al P w enc spare l q'
theorem al_struct {n : Nat} {cs : List Value} : ∀ (fs : List Field) (o : Nat) (l : ShL) (xs : List (DataW H × List MemPlace)), ShF P fs o l → xs.length = fs.length → (∀ (i : Nat) (f : Field), fs[i]? = some f → DataW.trod enc P w 0 spare true n f.type ((cs.drop f.offset).take (P.cellsOf f.type)) = xs[i]?) →
    ∃ q,Al P w enc spare l q∧q.map (·.2)=xs.map (·.1)∧(q.map (·.1)).flatten=(cs.drop o).take l.size
  | [],o,_,xs,.nil _,hl,ha=>by
    have:xs=[]:=List.length_eq_zero_iff.1 hl
    subst this
    exact ⟨[],rfl,rfl,by simp [ShL.size]⟩
  | f::fs,o,_,xs,.cons _ _ _ x l hf ht hc hr,hl,ha=>by
    match xs,hl,ha with
    | y::ys,hl,ha=>
      obtain ⟨q,q1,q2,q3⟩:=al_struct (n:=n) (cs:=cs) fs (o+x.size) l ys hr (by simpa using hl) (fun i g hg=>by simpa using ha (i+1) g (by simpa using hg))
      have h0:=ha 0 f rfl
      simp only [List.getElem?_cons_zero] at h0
      refine ⟨((cs.drop f.offset).take (P.cellsOf f.type),y.1)::q,⟨_,q,rfl,⟨n,f.type,y.2,ht,h0⟩,q1⟩,by simp [q2], ?_⟩
      simp only [List.map_cons,List.flatten_cons,q3,hf,hc,ShL.size]
      rw [← List.drop_drop,List.take_add]
theorem al_array {n : Nat} {e : TypeId} {x : Sh} {cs : List Value} (ht : ShT P e x) (hc : P.cellsOf e = x.size) : ∀ (m i : Nat) (xs : List (DataW H × List MemPlace)), xs.length = m → (∀ j, j < m → DataW.trod enc P w 0 spare true n e ((cs.drop ((i + j) * P.cellsOf e)).take (P.cellsOf e)) = xs[j]?) →
    ∃ q,Al P w enc spare (ShL.rep x m) q∧q.map (·.2)=xs.map (·.1)∧(q.map (·.1)).flatten=(cs.drop (i*x.size)).take (m*x.size)
  | 0,i,xs,hl,ha=>by
    have:xs=[]:=List.length_eq_zero_iff.1 hl
    subst this
    exact ⟨[],rfl,rfl,by simp⟩
  | m+1,i,xs,hl,ha=>by
    match xs,hl,ha with
    | y::ys,hl,ha=>
      obtain ⟨q,q1,q2,q3⟩:=al_array ht hc m (i+1) ys (by simpa using hl) (fun j hj=>by
        have:=ha (j+1) (by omega)
        simp only [List.getElem?_cons_succ] at this
        rw [← this,show i+(j+1)=i+1+j by omega])
      have h0:=ha 0 (by omega)
      simp only [List.getElem?_cons_zero,Nat.add_zero] at h0
      refine ⟨((cs.drop (i*P.cellsOf e)).take (P.cellsOf e),y.1)::q,⟨_,q,rfl,⟨n,e,y.2,ht,h0⟩,q1⟩,by simp [q2], ?_⟩
      simp only [List.map_cons,List.flatten_cons,q3,hc]
      rw [Nat.succ_mul,Nat.succ_mul,Nat.add_comm (m*x.size),List.take_add,List.drop_drop]
theorem trod_array {n : Nat} {e t : TypeId} {fuel : Nat} {cs : List Value} {x : DataW H × List MemPlace} (ht : P.underlying t = some (.array n e)) (h : DataW.trod enc P w 0 spare true fuel t cs = some x) :
    ∃ (xs:List (DataW H×List MemPlace)) (m:Nat),x=(.agg (xs.map (·.1)),xs.flatMap (·.2))∧cs.length=P.cellsOf t∧xs.length=n∧∀ j,j<n→DataW.trod enc P w 0 spare true m e ((cs.drop (j*P.cellsOf e)).take (P.cellsOf e))=xs[j]?:=by
  cases fuel with
  | zero=>simp [DataW.trod] at h
  | succ m=>
    unfold DataW.trod at h
    rw [ht] at h
    split at h<;>simp_all
    obtain ⟨hl,xs,hp,hd⟩:=h
    exact ⟨xs,hd.symm,by simpa using mapM_some_length hp,m,fun j hj=>by simpa using mapM_some_get hp j j (by simp [hj])⟩
theorem addr_add' {a:Addr} {n:Nat} (h:a.spot=none):a.add n=⟨a.block,a.off+n,none⟩:=by
  cases a
  simp only at h
  subst h
  simp only [Addr.add]
  split<;>simp_all
theorem addr_spot {a:Addr} {n:Nat} (h:a.spot=none):(a.add n).spot=none:=by rw [addr_add' h]
mutual
theorem take (hpos:0<w.heap.size):∀ (sh:Sh) (cs:List Value) (d:DataW H) (M:Mp) (h:AH),(∃ fuel t ps,ShT P t sh∧DataW.trod enc P w 0 (fun _=>true) true fuel t cs=some (d,ps))→In M w h→Sml sh d→Took M w h sh d cs
  | .b,cs,d,M,h,⟨fuel,t,ps,ht,hr⟩,hi,hs=>by
    cases ht with
    | b _ hu=>
      obtain ⟨x,rfl,he⟩:=DataW.trod_bool hu hr
      cases he
      exact ⟨M,h,[.b x],hi,Gr.refl M h,.cons _ _ _ _ (.b x) .nil,⟨x,rfl,rfl⟩,by simp [V.isCell]⟩
  | .i k,cs,d,M,h,⟨fuel,t,ps,ht,hr⟩,hi,hs=>by
    cases ht with
    | i _ _ hu=>
      obtain ⟨x,rfl,he,hw⟩:=DataW.trod_int hu hr
      cases he
      exact ⟨M,h,[.i k x],hi,Gr.refl M h,.cons _ _ _ _ (.i k x) .nil,⟨x,rfl,hw,rfl⟩,by simp [V.isCell]⟩
  | .s,cs,d,M,h,⟨fuel,t,ps,ht,hr⟩,hi,hs=>by
    cases ht with
    | s _ hu=>
      obtain ⟨x,rfl,he,hw⟩:=DataW.trod_string hu hr
      cases he
      exact ⟨M,h,[.s x],hi,Gr.refl M h,.cons _ _ _ _ (.s x) .nil,⟨x,rfl,hw,rfl⟩,by simp [V.isCell]⟩
  | .sl e,cs,d,M,h,⟨fuel,t,ps,ht,hr⟩,hi,hs=>by
    cases ht with
    | sl _ te _ hu hte hce hpe=>
      rcases DataW.trod_slice hu hr with ⟨rfl,he⟩ | ⟨a,len,cap,elems,rest,n,_,rfl,he,hb,hlc,hcm,hlen,hel,hsp,_⟩
      · cases he
        exact ⟨M,h,[.ns],hi,Gr.refl M h,.cons _ _ _ _ .ns .nil,.inl ⟨rfl,rfl⟩,by simp [V.isCell]⟩
      · cases he
        simp only [Sml] at hs
        obtain ⟨hs1,hs2⟩:=hs _ _ rfl
        have hs1':elems.length<bigLen:=by simpa using hs1
        have cell:∀ j (y:DataW H×List MemPlace),elems[j]?=some y→∃ cs',w.cells? 0 (a.add (j*P.cellsOf te)) (P.cellsOf te)=some cs'∧DataW.trod enc P w 0 (fun _=>true) true n te cs'=some y:=by
          intro j y hy
          have hj:j<len:=by rw [← hlen];exact (List.getElem?_eq_some_iff.1 hy).1
          have:=hel j hj
          rw [hy] at this
          simpa [Option.bind_eq_some_iff] using this
        let q:List (List Value×DataW H):=(List.range elems.length).map fun j=>((w.cells? 0 (a.add (j*P.cellsOf te)) (P.cellsOf te)).getD [],((elems[j]?).map (·.1)).getD (.nil))
        have hq:∀ j (y:DataW H×List MemPlace),elems[j]?=some y→∃ cs',w.cells? 0 (a.add (j*P.cellsOf te)) (P.cellsOf te)=some cs'∧DataW.trod enc P w 0 (fun _=>true) true n te cs'=some y∧q[j]?=some (cs',y.1):=by
          intro j y hy
          obtain ⟨cs',h1,h2⟩:=cell j y hy
          have hj:j<elems.length:=(List.getElem?_eq_some_iff.1 hy).1
          refine ⟨cs',h1,h2, ?_⟩
          simp only [q,List.getElem?_map,List.getElem?_range hj,Option.map_some,h1,hy,Option.getD_some]
        have hql:q.length=elems.length:=by simp [q]
        obtain ⟨M1,h1,rows,i1,g1,l1,a1⟩:=take_rows (e:=e) (fun cs d M h hh hi hs=>take hpos e cs d M h hh hi hs) q M h hi (fun z hz=>by
          obtain ⟨j,hj,hz⟩:=List.getElem_of_mem hz
          have hj':j<elems.length:=by rw [← hql];exact hj
          obtain ⟨cs',h1,h2,h3⟩:=hq j elems[j] (by simp [hj'])
          rw [List.getElem?_eq_getElem hj,hz] at h3
          cases h3
          exact ⟨⟨n,te,elems[j].2,hte,h2⟩,hs2 _ (List.mem_map.2 ⟨elems[j],List.getElem_mem _,rfl⟩)⟩)
        have first:∀ cs',w.cells? 0 (a.add 0) (P.cellsOf te)=some cs'→a.block<w.heap.size∧a.spot=none:=by
          intro cs' hcs
          have h1:=World.cells?_block hcs (by omega)
          obtain ⟨_,h2,h3⟩:=World.cells?_some hcs
          have h4:=h3 0 (by omega)
          rw [List.getElem?_eq_getElem (by omega)] at h4
          have h5:=World.cell?_spot h4
          simp only [Addr.add,if_true] at h1 h5
          exact ⟨h1,h5⟩
        have hz:0<cap→a.block<w.heap.size∧a.spot=none:=by
          intro hcap
          by_cases h0:0<elems.length
          · obtain ⟨cs',h2,_,_⟩:=hq 0 elems[0] (by simp [h0])
            exact first cs' (by simpa using h2)
          · have:=(hsp rfl).2 0 (by omega)
            rw [List.getElem?_eq_getElem (by rw [(hsp rfl).1];omega)] at this
            simp only [Option.bind_eq_some_iff] at this
            obtain ⟨cs',h2,_⟩:=this
            exact first cs' (by rw [show (len+0)*P.cellsOf te=0 by rw [show len+0=0 by omega];simp] at h2;exact h2)
        let m:MI:=⟨if 0<cap then a.block else 0,a.off,0,e.size,false⟩
        have hmb:m.b<w.heap.size:=by
          simp only [m]
          split
          · rename_i h0;exact (hz h0).1
          · exact hpos
        have hrow:∀ (el:Nat) (r:List V),rows[el]?=some r→∃ y cs',elems[el]?=some y∧q[el]?=some (cs',y.1)∧w.cells? 0 (a.add (el*P.cellsOf te)) (P.cellsOf te)=some cs':=by
          intro el r hr
          have hel2:el<elems.length:=by rw [← hql,←l1];exact (List.getElem?_eq_some_iff.1 hr).1
          obtain ⟨cs',h2,h3,h4⟩:=hq el elems[el] (by simp [hel2])
          exact ⟨elems[el],cs',by simp [hel2],h4,h2⟩
        have hcells:CellsAt M1 h1 w m ⟨e.size,rows⟩:=by
          refine ⟨rfl,fun el r hr=>?_⟩
          obtain ⟨y,cs',hy,hqe,hcs⟩:=hrow el r hr
          obtain ⟨hv,_,hcell⟩:=a1 el _ r hqe hr
          obtain ⟨_,hcl,hcc⟩:=World.cells?_some hcs
          have hlen2:=hv.length
          have hel2:el<elems.length:=(List.getElem?_eq_some_iff.1 hy).1
          have hz':=hz (by omega)
          refine ⟨by rw [hlen2];simp only;omega,fun j v hj=>⟨hcell v (List.mem_of_getElem? hj), ?_⟩⟩
          obtain ⟨x,hx,hvx⟩:=hv.get j v hj
          have hjl:j<P.cellsOf te:=by
            have:=(List.getElem?_eq_some_iff.1 hx).1
            simp only at this;omega
          refine ⟨x, ?_,hvx⟩
          have e1:=hcc j hjl
          simp only at hx
          rw [hx,addr_add' (addr_spot hz'.2),addr_add' hz'.2] at e1
          rw [← e1]
          simp only [m]
          rw [if_pos (by omega),hce]
        have i2:=i1.give (m:=m) hmb rfl hcells
        have g2:=give_gr (M:=M1) (k:=⟨e.size,rows⟩) (m:=m) i1.fresh
        refine ⟨_,_,[.sl h1.next 0 elems.length elems.length],i2,g1.trans g2,.cons _ _ _ _ ?_ .nil,.inr ⟨elems.map (·.1),rest.map (·.1),h1.next,rows,rfl,by simp,by simp [AH.give],by simp [AH.give],by simp [l1,hql],hs1,fun j x r hx hr=>?_⟩,by simp [V.isCell]⟩
        · rw [hlen]
          refine .sl _ _ _ _ _ _ (by simp [AH.give]) (by omega) (fun _=>⟨m,by simp [mput],fun hc=>?_,by omega,fun ho=>by cases ho⟩)
          have:=hz hc
          simp only [m]
          rw [if_pos hc]
          cases a;simp_all
        · obtain ⟨y,cs',hy,hqe,_⟩:=hrow j r hr
          simp only [List.getElem?_map,hy,Option.map_some,Option.some.injEq] at hx
          subst hx
          exact (a1 j _ r hqe hr).2.1.grow g2
  | .agg l,cs,d,M,h,⟨fuel,t,ps,ht,hr⟩,hi,hs=>by
    cases ht with
    | agg _ fs _ hu hf hc=>
      obtain ⟨xs,n,_,he,hlen,hxl,hx⟩:=DataW.trod_struct hu hr
      cases he
      simp only [Sml] at hs
      obtain ⟨q,q1,q2,q3⟩:=al_struct (n:=n) (cs:=cs) fs.toList 0 l xs hf (by simpa using hxl) (fun i f hf=>hx i f (by simpa using hf))
      obtain ⟨M',h',vs,i',g',v',d',c'⟩:=takeL hpos l q M h q1 hi (by rw [q2];exact hs _ rfl)
      rw [q3,List.drop_zero,←hc,←hlen,List.take_length] at v'
      rw [q2] at d'
      exact ⟨M',h',vs,i',g',v',⟨_,rfl,d'⟩,c'⟩
    | arr _ e n x hu hte hce hct=>
      obtain ⟨xs,m,he,hlen,hxl,hx⟩:=trod_array hu hr
      cases he
      simp only [Sml] at hs
      obtain ⟨q,q1,q2,q3⟩:=al_array (n:=m) (cs:=cs) hte hce n 0 xs hxl (fun j hj=>by rw [Nat.zero_add];exact hx j hj)
      obtain ⟨M',h',vs,i',g',v',d',c'⟩:=takeL hpos (ShL.rep x n) q M h q1 hi (by rw [q2];exact hs _ rfl)
      rw [q3,Nat.zero_mul,List.drop_zero,←hct,←hlen,List.take_length] at v'
      rw [q2] at d'
      exact ⟨M',h',vs,i',g',v',⟨_,rfl,d'⟩,c'⟩
theorem takeL (hpos:0<w.heap.size):∀ (l:ShL) (q:List (List Value×DataW H)) (M:Mp) (h:AH),Al P w enc (fun _=>true) l q→In M w h→Smls l (q.map (·.2))→TookL M w h l (q.map (·.2)) (q.map (·.1)).flatten
  | .nil,q,M,h,ha,hi,hs=>by
    simp only [Al] at ha;subst ha
    exact ⟨M,h,[],hi,Gr.refl M h,.nil,⟨rfl,rfl⟩,by simp⟩
  | .cons x l,q,M,h,ha,hi,hs=>by
    simp only [Al] at ha
    obtain ⟨p,q',rfl,ht,ha⟩:=ha
    simp only [Smls] at hs
    obtain ⟨s1,s2⟩:=hs _ _ rfl
    obtain ⟨M1,h1,vs,i1,g1,v1,d1,c1⟩:=take hpos x p.1 p.2 M h ht hi s1
    obtain ⟨M2,h2,us,i2,g2,v2,d2,c2⟩:=takeL hpos l q' M1 h1 ha i1 s2
    refine ⟨M2,h2,vs++us,i2,g1.trans g2,by simpa using (v1.keep g2.keeps).append v2,⟨_,_,vs,us,rfl,rfl,d1.grow g2,d2⟩,fun v hv=>?_⟩
    rcases List.mem_append.1 hv with hv | hv
    · exact c1 v hv
    · exact c2 v hv
end
end
end Go.Ab
/- A law's row out of the abstract machine. -/
namespace Go.Ab
open Go Go.RowKit
theorem calls_bool {P : Program} {tp : TP} {wr : Wr} (hT : TpOk P wr tp) (hm : MethsOk P tp) (hx : P.follows .mixedOrders = true) {f : Nat} {args : List V} {h : AH} {M : Mp} {w : World} {xs : Array Value}
    (hi:In M w h) (ha:VRs M h args xs.toList) (he:Ev tp f args h (fun r _=>r=.b true)):Calls P f xs w fun e w'=>e=.returned (.bool true)∧Below w.heap.size w w':=by
  obtain ⟨k,v,h',hev,rfl⟩:=he
  refine ((ev_sound hT hm hx k f args h _ h' hev).2 M w.heap.size w xs hi.sim ha).mono fun e w' ⟨x,M',e1,hd⟩=>?_
  subst e1
  have hv:=hd.val
  cases hv
  exact ⟨rfl,hd.below⟩
theorem In.empty (w:World):In (fun _=>none) w ⟨fun _=>none,0,0⟩:=⟨fun _ _ _ hk=>(by cases hk),fun _ _ hm=>(by cases hm),fun _ hl=>absurd rfl hl,rfl⟩
def posB (P:Program):Bool:=
  if P.globals.size=0 then decide (0<(begin P (fun _ _=>0) default).world.heap.size)
  else (((begin P (fun _ _=>0) default).world.heap[0]?).bind Obj.row?).isSome
theorem shaped_pos {P:Program} {w:World} (hp:posB P=true) (hs:w.ShapedOpen P):0<w.heap.size:=by
  unfold posB at hp
  split at hp
  · rename_i h0
    simp only [decide_eq_true_eq] at hp
    obtain ⟨o,_,ho,_⟩:=hs.2 0 (by omega) hp
    by_cases hz:0<w.heap.size
    · exact hz
    · rw [Array.getElem?_eq_none (by omega)] at ho;cases ho
  · rename_i h0
    cases hb:((begin P (fun _ _=>0) default).world.heap[0]?).bind Obj.row? with
    | none=>rw [hb] at hp;cases hp
    | some q=>
      obtain ⟨cs,hc,_⟩:=hs.1 0 q.1 q.2 (by omega) hb
      by_cases hz:0<w.heap.size
      · exact hz
      · rw [Array.getElem?_eq_none (by omega)] at hc;cases hc
theorem wf_i64 {n:Int} (h:(Lit.int .i64 n).wf=true): -9223372036854775808≤n∧n≤9223372036854775807:=by
  simpa [Lit.wf,IntKind.min,IntKind.max,IntKind.signed,IntKind.bits] using h
def shFs (K:TypeId→Option Sh) (P:Program):List Field→Nat→Option ShL
  | [],_=>some .nil
  | f::fs,o=>(K f.type).bind fun x=>if f.offset=o∧P.cellsOf f.type=x.size then (shFs K P fs (o+x.size)).map fun l=>.cons x l else none
def shB (P:Program):Nat→TypeId→Option Sh
  | 0,_=>none
  | n+1,t=>
    match P.underlying t with
    | some .bool=>some .b
    | some (.int k)=>some (.i k)
    | some .string=>some .s
    | some (.slice e)=>(shB P n e).bind fun x=>if P.cellsOf e=x.size∧0<x.size then some (.sl x) else none
    | some (.struct fs)=>(shFs (shB P n) P fs.toList 0).bind fun l=>if P.cellsOf t=l.size then some (.agg l) else none
    | some (.array m e)=>(shB P n e).bind fun x=>if P.cellsOf e=x.size∧P.cellsOf t=m*x.size then some (.agg (ShL.rep x m)) else none
    | _=>none
theorem shFs_ok {K:TypeId→Option Sh} {P:Program} (hK:∀ t x,K t=some x→ShT P t x):∀ (fs:List Field) (o:Nat) (l:ShL),shFs K P fs o=some l→ShF P fs o l
  | [],o,l,h=>by cases h;exact .nil o
  | f::fs,o,l,h=>by
    simp only [shFs,Option.bind_eq_some_iff] at h
    obtain ⟨x,hx,h⟩:=h
    split at h
    · rename_i hh
      simp only [Option.map_eq_some_iff] at h
      obtain ⟨l',hl,rfl⟩:=h
      exact .cons f fs o x l' hh.1 (hK _ _ hx) hh.2 (shFs_ok hK fs _ l' hl)
    · cases h
theorem shB_ok {P:Program}:∀ (n:Nat) (t:TypeId) (x:Sh),shB P n t=some x→ShT P t x
  | 0,t,x,h=>by cases h
  | n+1,t,x,h=>by
    unfold shB at h
    split at h
    · rename_i hu;cases h;exact .b t hu
    · rename_i k hu;cases h;exact .i t k hu
    · rename_i hu;cases h;exact .s t hu
    · rename_i e hu
      simp only [Option.bind_eq_some_iff] at h
      obtain ⟨y,hy,h⟩:=h
      split at h
      · rename_i hh;cases h;exact .sl t e y hu (shB_ok n e y hy) hh.1 hh.2
      · cases h
    · rename_i fs hu
      simp only [Option.bind_eq_some_iff] at h
      obtain ⟨l,hl,h⟩:=h
      split at h
      · rename_i hh;cases h;exact .agg t fs l hu (shFs_ok (shB_ok n) _ _ _ hl) hh
      · cases h
    · rename_i m e hu
      simp only [Option.bind_eq_some_iff] at h
      obtain ⟨y,hy,h⟩:=h
      split at h
      · rename_i hh;cases h;exact .arr t e m y hu (shB_ok n e y hy) hh.1 hh.2
      · cases h
    · cases h
section
variable {H:Type} {enc:TypeId×Value→H}
theorem handed_cond {a : Assume} {C : Checked} {os : Os} {f : FuncId} {fn : Func} {s : OpenSpec} {k : (H : Type) → List (DataW H) → Bool} (hk : s.cond = some k) {F : Stop.Interp} {conds : List PathCond} {apart fresh handsOn again : Bool}
    (own:ownKnob C.prog.godebug=none) (started:os.Started) (noInit:C.prog.inits.idxOf? f=none) (hfn:C.prog.funcs[f]?=some fn) (hpos:posB C.prog=true)
    (witness:∃ (w:World) (tape:Tape) (i:Input),w.os=os∧(w.forCall tape i).Shaped C.prog∧i.vars=[]∧Input.okWide C.prog (w.forCall tape i) .any w.heap.size f i ∧
      s.pre6 enc C.prog fn conds apart (w.forCall tape i).memory i.args∧a.holds C.prog (lone (Frame.enter C.prog f i.args .normal) [] (w.forCall tape i)))
    (contract:∀ (W:World) (base:Nat) (args:Array Value) (ds gs:List (DataW H)) (before:List MemPlace),0<W.heap.size →
      (∀ (j:Nat) t v,fn.params[j]?=some t→args[j]?=some v→Value.okWide C.prog W .any base t v) →
      DataW.Whole enc C.prog fn.params.toList s.vars apart W args.toList ds gs before→k H (ds++gs)=true →
      Calls C.prog f args W fun e W'=>∃ v,e=.returned v∧(s.at F).post enc C.prog fn apart fresh handsOn again W args v W'):
    ReturnsInHanded a C os f .any (s.pre6 enc C.prog fn conds apart) ((s.at F).post enc C.prog fn apart fresh handsOn again):=by
  refine returnsInHanded_of_calls own started noInit witness ?_
  intro w tape i _ hshaped _ hok hpre _
  obtain ⟨_,_,_,fn',hfn',_,_,_,_,hval⟩:=hok
  obtain rfl:fn'=fn:=Option.some.inj (hfn'.symm.trans hfn)
  obtain ⟨ds,gs,before,hw,_,hkk⟩:=(OpenSpec.pre_some hk conds apart _ _).1 hpre.1
  have hw':=DataW.Whole.of_heap (w':=w.forCall tape i) (by rfl) hw
  refine (contract (w.forCall tape i) w.heap.size i.args ds gs before (shaped_pos hpos hshaped) hval hw' hkk).mono fun e W' ⟨v,he,hp⟩=>?_
  subst he
  exact ChangeSpec.post_blind hp
end
end Go.Ab
namespace Go.Ab.T
open Go Go.Ab
set_option maxHeartbeats 1000000
theorem Pf.ev {f:Nat} {args args1:List V} {h:AH} (pf:Pf tp f args (.b true)) (hl:h.lim≤h.next) (p:PRs (·<h.next) (fun i=>i) h.get 0 args args1):Ev tp f args1 h (fun r _=>r=.b true):=by
  refine (pf (·<h.next) (fun i=>i) h args1 (Cfg.emp (fun a ha=>ha) hl _) p).imp ?_
  rintro r1 hc' ⟨r,h',S',m',c',a',q,rfl,rfl⟩
  cases q;rfl
structure BK {H:Type} (bk:DataW H→Nat):Prop where
  sl:∀ elems spare,elems.length≤bk (.slice elems spare)
  el:∀ elems spare x,x∈elems→bk x≤bk (.slice elems spare)
  ag:∀ parts x,x∈parts→bk x≤bk (.agg parts)
  st:∀ l,l.length≤bk (.lit (.string l))
section
variable {H:Type} {bk:DataW H→Nat} {h:AH}
abbrev PW (h:AH) (u v:V):Prop:=PR (·<h.next) (fun i=>i) h.get 0 u v
abbrev PWs (h:AH) (u v:List V):Prop:=PRs (·<h.next) (fun i=>i) h.get 0 u v
theorem gr_mon {M M':Mp} {h h':AH} (g:Gr M M' h h'):PMon (·<h.next) (fun i=>i) h.get 0 (·<h'.next) (fun i=>i) h'.get 0:=
  ⟨fun a ha=>Nat.lt_of_lt_of_le ha g.keeps.next,fun a ha=>g.get a ha,fun _ _=>rfl,Nat.le_refl _⟩
theorem PW.gr {M M':Mp} {h h':AH} {u v:V} (g:Gr M M' h h') (p:PW h u v):PW h' u v:=PR.mono (gr_mon g) p
theorem PWs.gr {M M':Mp} {h h':AH} {u v:List V} (g:Gr M M' h h') (p:PWs h u v):PWs h' u v:=PRs.mono (gr_mon g) p
theorem dec_slice {α : Type} {en : α → List V} {good : α → Prop} (B : BK bk) {e : Sh} {d : DataW H} {vs : List V} (hd : DV h (.sl e) d vs) (hb : bk d ≤ 1048576) (hp : ∀ (y : DataW H) (r : List V), DV h e y r → bk y ≤ 1048576 → ∃ a, good a ∧ PWs h (en a) r) :
    ∃ (L:List α) (x:V),vs=[x]∧(∀ a∈L,good a)∧L.length≤1048576∧PW h (.fl e.size (L.map en)) x:=by
  simp only [DV] at hd
  rcases hd with ⟨rfl,rfl⟩ | ⟨elems,spare,id,rows,rfl,rfl,h2,h3,h4,h5,h6⟩
  · exact ⟨[],_,rfl,(fun a ha=>by cases ha),by simp,.fl0 _ _⟩
  · have hl:=B.sl elems spare
    have hel:=B.el elems spare
    have:∀ (els:List (DataW H)) (rows:List (List V)),rows.length=els.length→(∀ x∈els,bk x≤1048576)→(∀ (j:Nat) (x:DataW H) (r:List V),els[j]?=some x→rows[j]?=some r→DV h e x r)→∃ L:List α,L.length=els.length∧(∀ a∈L,good a)∧PRr (·<h.next) (fun i=>i) h.get 0 (L.map en) rows:=by
      intro els
      induction els with
      | nil=>intro rows hl _ _;rw [List.length_eq_zero_iff.1 hl];exact ⟨[],rfl,(fun a ha=>by cases ha),.nil _⟩
      | cons y els ih=>
        intro rows hl hb hr
        match rows,hl with
        | r::rows,hl=>
          obtain ⟨a,ga,pa⟩:=hp y r (hr 0 y r rfl rfl) (hb y (List.mem_cons_self ..))
          obtain ⟨L,l1,l2,l3⟩:=ih rows (by simpa using hl) (fun x hx=>hb x (List.mem_cons_of_mem _ hx)) (fun j x r hx hr'=>hr (j+1) x r (by simpa using hx) (by simpa using hr'))
          exact ⟨a::L,by simp [l1],fun b hb=>by rcases List.mem_cons.1 hb with rfl | hb;exact ga;exact l2 b hb,.cons _ _ _ _ _ pa l3⟩
    obtain ⟨L,l1,l2,l3⟩:=this elems rows h4 (fun x hx=>by have:=hel x hx;omega) h6
    refine ⟨L,_,rfl,l2,by omega, ?_⟩
    have e1:elems.length=(L.map en).length:=by simp [l1]
    rw [e1]
    exact .fl _ _ _ id 0 _ rows h3 h2 (Nat.le_refl _) (by simp;omega) (by simp [frzLen];omega) (by rw [List.drop_zero,List.take_of_length_le (by simp;omega)];exact l3)
theorem dec_ints (B:BK bk) {d:DataW H} {vs:List V} (hd:DV h (.sl (.i .i64)) d vs) (hb:bk d≤1048576):∃ (L:List Int) (x:V),vs=[x]∧L.length≤1048576∧PW h (.fl 1 (L.map encI)) x:=by
  obtain ⟨L,x,h1,_,h3,h4⟩:=dec_slice (en:=encI) (good:=fun _=>True) B hd hb (fun y r hy _=>by obtain ⟨n,_,_,rfl⟩:=hy;exact ⟨n,trivial,.cons _ _ _ _ _ (.i _ _ _) (.nil _)⟩)
  exact ⟨L,x,h1,h3,h4⟩
def shNode:Sh:=.agg (.cons (.i .i64) (.cons (.i .i64) (.cons (.i .i64) .nil)))
theorem dvs_cons {x:Sh} {l:ShL} {ds:List (DataW H)} {vs:List V} (hy:DVs h (.cons x l) ds vs):∃ d ds' v1 v2,ds=d::ds'∧vs=v1++v2∧DV h x d v1∧DVs h l ds' v2:=by unfold DVs at hy;exact hy
theorem dvs_nil {ds:List (DataW H)} {vs:List V} (hy:DVs h .nil ds vs):ds=[]∧vs=[]:=by unfold DVs at hy;exact hy
theorem dv_agg {l:ShL} {d:DataW H} {vs:List V} (hy:DV h (.agg l) d vs):∃ ds,d=.agg ds∧DVs h l ds vs:=by unfold DV at hy;exact hy
theorem dec_i {k:IntKind} {d:DataW H} {vs:List V} (hy:DV h (.i k) d vs):∃ n:Int,PWs h [.i k n] vs:=by
  unfold DV at hy
  obtain ⟨n,_,_,rfl⟩:=hy;exact ⟨n,.cons _ _ _ _ _ (.i _ _ _) (.nil _)⟩
theorem dec_node {d:DataW H} {r:List V} (hy:DV h shNode d r):∃ a:Node,PWs h a.enc r:=by
  obtain ⟨ds,_,hy⟩:=dv_agg hy
  obtain ⟨d1,_,v1,_,_,rfl,q1,hy⟩:=dvs_cons hy
  obtain ⟨d2,_,v2,_,_,rfl,q2,hy⟩:=dvs_cons hy
  obtain ⟨d3,_,v3,_,_,rfl,q3,hy⟩:=dvs_cons hy
  obtain ⟨_,rfl⟩:=dvs_nil hy
  obtain ⟨a,p1⟩:=dec_i q1
  obtain ⟨b,p2⟩:=dec_i q2
  obtain ⟨c,p3⟩:=dec_i q3
  exact ⟨⟨a,b,c⟩,p1.app (p2.app (p3.app (.nil _)))⟩
theorem dec_nodes (B:BK bk) {d:DataW H} {vs:List V} (hd:DV h (.sl shNode) d vs) (hb:bk d≤1048576):∃ (L:List Node) (x:V),vs=[x]∧L.length≤1048576∧PW h (.fl 3 (L.map Node.enc)) x:=by
  obtain ⟨L,x,h1,_,h3,h4⟩:=dec_slice (en:=Node.enc) (good:=fun _=>True) B hd hb (fun y r hy _=>by obtain ⟨a,pa⟩:=dec_node hy;exact ⟨a,trivial,pa⟩)
  exact ⟨L,x,h1,h3,h4⟩
end
end Go.Ab.T
