/- Part of a proof that a law returns true for every input of the second form's bound (no other condition). -/
import Derived.Test.YtcjjajphbamjlaaGreatPI
import Derived.Test.YtcjjajphbamjlaaGreatPG
set_option linter.all false
namespace Go.Ab.T
open Go Go.Ab
set_option maxHeartbeats 4000000
theorem MatH.two {b n : Nat} {h : AH} {v : V} {W : List (List V)} {F : List Nat} {f : Nat → Nat → Bool} (m : MatH b h v n W F (mat n f)) {a c : Nat} (ha : a < n) (hc : c < n) :
    MatH b ((h.put (nth F a) ⟨1,((nth (mat n f) a).set c true).map encBl⟩).put (nth F c) ⟨1,((if a=c then (nth (mat n f) a).set c true else nth (mat n f) c).set a true).map encBl⟩) v n W F (mat n fun i j=>if i=c∧j=a then true else if i=a∧j=c then true else f i j):=by
  obtain ⟨_,_,_,_,_,_,_,t8⟩:=m.tell ha hc
  obtain ⟨_,_,_,_,_,_,_,s8⟩:=(t8 true).tell hc ha
  have e:nth (mat n fun i j=>if i=a∧j=c then true else f i j) c=if a=c then (nth (mat n f) a).set c true else nth (mat n f) c:=by
    rw [← mat_set ha hc,nth_set (by rw [mat_len];exact hc)]
  have:=s8 true
  rwa [e] at this
theorem depends_ev {C:Config}:Pf tp i_Q50 [.agg C.enc] (.fl 1 ((depM C).map encM)):=by
  refine Pf_go fn_Q50 (by simp [t_Q50]) fun rp=>?_;unfold t_Q50;simp (disch:=omega)only[go_sem, *]
  have hL:=Rep.len (rp.head.agg (.fl 11 (C.parts.map Part.enc)) (by simp [Config.enc]))
  have hcl:=Rep.len (rp.head.agg (.fl 6 (C.chans.map Chan.enc)) (by simp [Config.enc]))
  refine square_ev (by omega) (by simp only [go_sem]) ?_
  intro v h1 W F x1 m1 hW hF
  have g1:h1.get 0=some ⟨3,[C.enc]⟩:=by rw [x1.get 0 (by simp [next_alloc])];rfl
  have n1:1≤h1.next:=x1.next
  have l1:h1.lim=0:=x1.lim
  have m1:MatH 1 h1 v C.parts.length W F (mat C.parts.length (fun _ _=>false)):=m1
  rw [← pass0_begin (C:=C)] at m1
  generalize hN:C.parts.length=N at *
  simp only [Config.enc] at g1
  clear x1
  rename_i m0
  clear m0
  simp (disch:=omega)only[go_sem, *]
  have fl:=Sl.facts (enc:=fun x=>x) (L:=W) (by simpa using m1.out)
  obtain ⟨flen,fbig,_,_,_,_,_,fcell,fcells⟩:=fl
  simp (disch:=omega)only[go_sem, *]
  refine ZC_loop_n (fun n e h=>∃ (a:Nat),n=N - a∧h.lim=0∧e 1=.p 0 0 0∧e 3=v∧e 13=.i .i64 N∧e 14=.i .i64 a∧a≤N∧h.get 0=some ⟨3,[[.fl 11 (C.parts.map Part.enc),.fl 6 (C.chans.map Chan.enc),.fl 1 (C.tables.map Tab.enc)]]⟩∧1≤h.next∧MatH 1 h v N W F (mat N (pass0 C (fun _ _=>false) a 0))) ?_ _ _ _ ⟨0,rfl, ?_⟩
  · rintro n e h ⟨a,rfl,hl,e1,e3,e13,e14,ha,hg,hn,mh⟩ ih
    rw [ZC_unf Q50_12.eq_1]
    simp (disch:=omega)only[go_sem, *]
    have ihA:=ih
    clear ih m1
    refine Wb_dec (fun hc=>?_) (fun hc=>?_)
    · simp (disch:=omega)only[go_sem, *]
      refine ZC_loop_n (fun n e h=>∃ (c:Nat),n=N - c∧h.lim=0∧e 1=.p 0 0 0∧e 3=v∧e 13=.i .i64 N∧e 14=.i .i64 a∧e 4=.i .i64 a∧e 18=.i .i64 N∧e 19=.i .i64 c∧c≤N∧h.get 0=some ⟨3,[[.fl 11 (C.parts.map Part.enc),.fl 6 (C.chans.map Chan.enc),.fl 1 (C.tables.map Tab.enc)]]⟩∧1≤h.next∧MatH 1 h v N W F (mat N (pass0 C (fun _ _=>false) a c))) ?_ _ _ _ ⟨0,rfl, ?_⟩
      · rintro n e h ⟨c,rfl,hl,e1,e3,e13,e14,e4,e18,e19,ha,hg,hn,mh⟩ ih
        rw [ZC_unf Q50_10.eq_1]
        simp (disch:=omega)only[go_sem, *]
        refine Wb_dec (fun hc2=>?_) (fun hc2=>?_)
        · obtain ⟨t1,t2,t3,t4,t5,t6,t7,t8⟩:=mh.tell (a:=a) (c:=c) (by omega) (by omega)
          obtain ⟨_,_,flt,flo,fget,fat,frow,_,_⟩:=Sl.facts (enc:=fun x=>x) (L:=W) (by simpa using mh.out)
          have hd:dep0 C a c=(decide (a=c)||((nth C.parts a).sched&&(nth C.parts c).sched)):=rfl
          have hac:(a:Int)=c↔a=c:=by omega
          have hne:¬ (0:Nat)=nth F a:=by omega
          have hst:=fun x hx=>pass0_step (C:=C) (f0:=(fun _ _=>false)) (n:=N) (a:=a) (c:=c) x hx
          have hini:(pass0 C (fun _ _=>false) a c a c)=false:=by unfold pass0 doneB;rw [if_neg (by simp)]
          have t9:∀ x,x=dep0 C a c→MatH 1 (h.put (nth F a) ⟨1,((nth (mat N (pass0 C (fun _ _=>false) a c)) a).set c x).map encBl⟩) v N W F (mat N (pass0 C (fun _ _=>false) a (c+1))):=fun x hx=>by rw [← hst x hx];exact t8 x
          clear ihA mh hst t8
          simp (disch:=omega)only[go_sem, *]
          refine Wg_dec (fun hc3=>?_) (fun hc3=>?_)
          · obtain rfl:c=a:=by first | omega | (have:=of_decide_eq_true hc3;omega)
            simp (disch:=omega)only[go_sem, *]
            refine ih _ _ _ ?_ ⟨c+1,rfl, ?_⟩
            · omega
            · clear ih
              simp (disch:=omega)only[go_sem, *]
              refine ⟨by omega, ?_⟩
              exact t9 _ (by rw [hd];simp_all)
          · simp (disch:=omega)only[go_sem, *]
            repeat' (first | (refine Wg_dec (fun hc=>?_) (fun hc=>?_)<;>simp (disch:=omega)only[go_sem, *]) | (refine Wb_dec (fun hc=>?_) (fun hc=>?_)<;>simp (disch:=omega)only[go_sem, *]) | (refine Wg_of (fun hc=>?_) (fun hc=>?_)<;>simp (disch:=omega)only[go_sem, *]) | (refine Wb_of (fun hc=>?_) (fun hc=>?_)<;>simp (disch:=omega)only[go_sem, *]))
            all_goals
              refine ih _ _ _ ?_ ⟨c+1,rfl, ?_⟩
              · omega
              · clear ih
                simp (disch:=omega)only[go_sem, *]
                refine ⟨by omega, ?_⟩
                exact t9 _ (by rw [hd];simp_all)
        · obtain rfl:c=N:=by omega
          rw [pass0_row] at mh
          clear ih
          simp (disch:=omega)only[go_sem, *]
          refine ihA _ _ _ ?_ ⟨a+1,rfl, ?_⟩
          · omega
          · clear ihA
            simp (disch:=omega)only[go_sem, *]
            ((repeat' refine And.intro ?_ ?_)<;>first | omega | assumption | (exact mh))
      · simp (disch:=omega)only[go_sem, *]
    · obtain rfl:a=N:=by omega
      rw [pass0_end] at mh
      clear ihA hc
      simp (disch:=omega)only[go_sem, *]
      refine ZC_loop_n (fun n e h=>∃ (k:Nat),n=C.chans.length - k∧h.lim=0∧e 50=.fl 6 (C.chans.map Chan.enc)∧e 51=.i .i64 C.chans.length∧e 52=.i .i64 k∧e 1=.p 0 0 0∧e 3=v∧k≤C.chans.length∧h.get 0=some ⟨3,[[.fl 11 (C.parts.map Part.enc),.fl 6 (C.chans.map Chan.enc),.fl 1 (C.tables.map Tab.enc)]]⟩∧1≤h.next∧MatH 1 h v a W F (mat a (depF C k))) ?_ _ _ _ ⟨0,rfl, ?_⟩
      · rintro n e h ⟨k,rfl,hl,e50,e51,e52,e1,e3,hi,hg,hn,mh⟩ ih
        rw [ZC_unf Q50_19.eq_1]
        simp (disch:=omega)only[go_sem, *]
        rename_i mh0 _ _
        refine Wb_dec (fun hc=>?_) (fun hc=>?_)
        · have hk:k<C.chans.length:=by omega
          have hs1:=depF_skip hk
          have hl1:=fun a c h1 h2 h3 h4=>depF_link (a:=a) (c:=c) hk h1 h2 h3 h4
          have his:=fun p=>is_ev (C:=C) (p:=p)
          simp only [hN,Config.enc] at hs1 hl1 his
          have cen:(nth C.chans k).enc=[.i .i64 (nth C.chans k).src,.i .i64 (nth C.chans k).dst,.b (nth C.chans k).queue,.i .i64 (nth C.chans k).cap,.i .u32 (nth C.chans k).top,.i .i64 (nth C.chans k).late]:=rfl
          simp (disch:=omega)only[go_sem, *]
          have x1:Ext h ((h.alloc ⟨6,[[.i .i64 0,.i .i64 0,.b false,.i .i64 0,.i .u32 0,.i .i64 0]]⟩).put h.next ⟨6,[[.i .i64 (nth C.chans k).src,.i .i64 (nth C.chans k).dst,.b (nth C.chans k).queue,.i .i64 (nth C.chans k).cap,.i .u32 (nth C.chans k).top,.i .i64 (nth C.chans k).late]]⟩):=by (repeat (first | exact Ext.refl _ | refine Ext.alloc ?_ _ | (refine Ext.put ?_ _ _ ?_;rotate_left;(first | omega | (simp only [next_alloc,next_put];omega)))))
          have m2:=mh.ext x1
          have g2:((h.alloc ⟨6,[[.i .i64 0,.i .i64 0,.b false,.i .i64 0,.i .u32 0,.i .i64 0]]⟩).put h.next ⟨6,[[.i .i64 (nth C.chans k).src,.i .i64 (nth C.chans k).dst,.b (nth C.chans k).queue,.i .i64 (nth C.chans k).cap,.i .u32 (nth C.chans k).top,.i .i64 (nth C.chans k).late]]⟩).get 0=some ⟨3,[[.fl 11 (C.parts.map Part.enc),.fl 6 (C.chans.map Chan.enc),.fl 1 (C.tables.map Tab.enc)]]⟩:=by rw [x1.get 0 (by omega)];exact hg
          have g3:((h.alloc ⟨6,[[.i .i64 0,.i .i64 0,.b false,.i .i64 0,.i .u32 0,.i .i64 0]]⟩).put h.next ⟨6,[[.i .i64 (nth C.chans k).src,.i .i64 (nth C.chans k).dst,.b (nth C.chans k).queue,.i .i64 (nth C.chans k).cap,.i .u32 (nth C.chans k).top,.i .i64 (nth C.chans k).late]]⟩).get h.next=some ⟨6,[[.i .i64 (nth C.chans k).src,.i .i64 (nth C.chans k).dst,.b (nth C.chans k).queue,.i .i64 (nth C.chans k).cap,.i .u32 (nth C.chans k).top,.i .i64 (nth C.chans k).late]]⟩:=by rw [get_put,gsel_eq rfl]
          have l2:=x1.lim
          have n2:=x1.next
          have hfn:∀ i,i<F.length→¬ nth F i=h.next:=fun i hi=>by have:=(mh.row i hi).2.2.2.1;omega
          have hvn:0<a→idV v<h.next:=fun hp=>(Sl.facts (enc:=fun x=>x) (L:=W) (by simpa using mh.out)).lt (by omega)
          generalize (h.alloc ⟨6,[[.i .i64 0,.i .i64 0,.b false,.i .i64 0,.i .u32 0,.i .i64 0]]⟩).put h.next ⟨6,[[.i .i64 (nth C.chans k).src,.i .i64 (nth C.chans k).dst,.b (nth C.chans k).queue,.i .i64 (nth C.chans k).cap,.i .u32 (nth C.chans k).top,.i .i64 (nth C.chans k).late]]⟩=h2 at *
          clear mh x1 hg mh0
          refine Pf.go (his _) (by simp only [go_sem]) fun _=>?_;simp (disch:=omega)only[go_sem, *]
          have next:¬ (inB a (nth C.chans k).src=true∧inB a (nth C.chans k).dst=true)→MatH 1 h2 v a W F (mat a (depF C (k+1))):=fun hx=>by rw [hs1 hx];exact m2
          refine Wg_of (fun hc1=>?_) (fun hc1=>?_)
          · simp (disch:=omega)only[go_sem, *]
            refine Pf.go (his _) (by simp only [go_sem]) fun _=>?_;simp (disch:=omega)only[go_sem, *]
            refine Wb_of (fun hc2=>?_) (fun hc2=>?_)
            · clear next hs1
              simp only [inB,decide_eq_true_eq] at hc1 hc2
              obtain ⟨a0,ha0⟩:∃ a0:Nat,(nth C.chans k).src=a0:=⟨(nth C.chans k).src.toNat,by omega⟩
              obtain ⟨c0,hc0⟩:∃ c0:Nat,(nth C.chans k).dst=c0:=⟨(nth C.chans k).dst.toNat,by omega⟩
              have hla:a0<a:=by omega
              have hlc:c0<a:=by omega
              have hl4:=hl1 a0 c0 ha0 hc0 hla hlc
              obtain ⟨t1,t2,t3,t4,t5,t6,t7,t8⟩:=m2.tell hla hlc
              obtain ⟨s1,s2,s3,s4,s5,s6,s7,s8⟩:=m2.tell hlc hla
              obtain ⟨_,_,flt,flo,fget,fat,frow,_,_⟩:=Sl.facts (enc:=fun x=>x) (L:=W) (by simpa using m2.out)
              have hms:∀ (r:List Bool) (j:Nat) (x:Bool),(r.map encBl).set j [.b x]=(r.set j x).map encBl:=fun r j x=>by simp [List.map_set,encBl]
              have hv2:=hvn (by omega)
              have hf1:=hfn a0 (by omega)
              have hf2:=hfn c0 (by omega)
              have hsq:∀ i,i<a→(nth (mat a (depF C k)) i).length=a:=fun i hi=>by have:=mat_sq (n:=a) (f:=depF C k) i (by rw [mat_len];exact hi);rwa [mat_len] at this
              have hla1:=hsq a0 hla
              have hlc1:=hsq c0 hlc
              have hdis:¬ a0=c0→¬ nth F c0=nth F a0:=fun hx=>m2.dis c0 a0 (by omega) (by omega) (Ne.symm hx)
              have m3:=m2.two hla hlc
              rw [hl4] at m3
              clear hl1 hsq hfn m2 t4 s4 t8 s8 hl4
              by_cases hac:a0=c0
              · subst hac
                rw [if_pos rfl,put_put,List.set_set] at m3
                clear hdis
                have q3:(List.map encBl ((nth (mat a (depF C k)) a0).set a0 true))[a0]?=some [.b true]:=by rw [List.getElem?_map,List.getElem?_set_self (by omega)];rfl
                simp (disch:=omega)only[go_sem, *]
                refine ih _ _ _ ?_ ⟨k+1,rfl, ?_⟩
                · omega
                · simp (disch:=omega)only[go_sem, *]
                  ((repeat' refine And.intro ?_ ?_)<;>first | omega | assumption | (exact m3))
              · rw [if_neg hac] at m3
                have hdis:=hdis hac
                simp (disch:=omega)only[go_sem, *]
                refine ih _ _ _ ?_ ⟨k+1,rfl, ?_⟩
                · omega
                · simp (disch:=omega)only[go_sem, *]
                  ((repeat' refine And.intro ?_ ?_)<;>first | omega | assumption | (exact m3))
            · have m3:=next (by simp [hc2])
              clear next
              simp (disch:=omega)only[go_sem, *]
              refine ih _ _ _ ?_ ⟨k+1,rfl, ?_⟩
              · omega
              · simp (disch:=omega)only[go_sem, *]
                ((repeat' refine And.intro ?_ ?_)<;>first | omega | assumption | (exact m3))
          · have m3:=next (by simp [hc1])
            clear next
            simp (disch:=omega)only[go_sem, *]
            refine ih _ _ _ ?_ ⟨k+1,rfl, ?_⟩
            · omega
            · simp (disch:=omega)only[go_sem, *]
              ((repeat' refine And.intro ?_ ?_)<;>first | omega | assumption | (exact m3))
        · have hk:k=C.chans.length:=by omega
          rw [hk] at mh
          have fr:=mh.frz (P:=fun _=>True) (k:=0) (by omega) (fun _ _=>trivial) (by omega) (by omega)
          have hM:depM C=mat a (depF C C.chans.length):=by unfold depM;rw [hN]
          simp (disch:=omega)only[go_sem, *]
      · simp (disch:=omega)only[go_sem, *]
  · simp (disch:=omega)only[go_sem, *]
theorem rdepends_ev {C:Config}:Pf tp i_Q7 [.agg C.enc] (.fl 1 ((depM C).map encM)):=by
  refine Pf_go fn_Q7 (by simp [t_Q7]) fun rp=>?_;unfold t_Q7;simp (disch:=omega)only[go_sem, *]
  have hL:=Rep.len (rp.head.agg (.fl 11 (C.parts.map Part.enc)) (by simp [Config.enc]))
  have hcl:=Rep.len (rp.head.agg (.fl 6 (C.chans.map Chan.enc)) (by simp [Config.enc]))
  refine rsquare_ev (by omega) (by simp only [go_sem]) ?_
  intro v h1 W F x1 m1 hW hF
  have g1:h1.get 0=some ⟨3,[C.enc]⟩:=by rw [x1.get 0 (by simp [next_alloc])];rfl
  have n1:1≤h1.next:=x1.next
  have l1:h1.lim=0:=x1.lim
  have m1:MatH 1 h1 v C.parts.length W F (mat C.parts.length (fun x y=>decide (x=y))):=m1
  rw [← pass0_begin (C:=C)] at m1
  generalize hN:C.parts.length=N at *
  simp only [Config.enc] at g1
  clear x1
  rename_i m0
  clear m0
  simp (disch:=omega)only[go_sem, *]
  have fl:=Sl.facts (enc:=fun x=>x) (L:=W) (by simpa using m1.out)
  obtain ⟨flen,fbig,_,_,_,_,_,fcell,fcells⟩:=fl
  simp (disch:=omega)only[go_sem, *]
  refine ZC_loop_n (fun n e h=>∃ (a:Nat),n=N - a∧h.lim=0∧e 1=.p 0 0 0∧e 3=v∧e 13=.i .i64 N∧e 14=.i .i64 a∧a≤N∧h.get 0=some ⟨3,[[.fl 11 (C.parts.map Part.enc),.fl 6 (C.chans.map Chan.enc),.fl 1 (C.tables.map Tab.enc)]]⟩∧1≤h.next∧MatH 1 h v N W F (mat N (pass0 C (fun x y=>decide (x=y)) a 0))) ?_ _ _ _ ⟨0,rfl, ?_⟩
  · rintro n e h ⟨a,rfl,hl,e1,e3,e13,e14,ha,hg,hn,mh⟩ ih
    rw [ZC_unf Q7_12.eq_1]
    simp (disch:=omega)only[go_sem, *]
    have ihA:=ih
    clear ih m1
    refine Wb_dec (fun hc=>?_) (fun hc=>?_)
    · simp (disch:=omega)only[go_sem, *]
      refine ZC_loop_n (fun n e h=>∃ (c:Nat),n=N - c∧h.lim=0∧e 1=.p 0 0 0∧e 3=v∧e 13=.i .i64 N∧e 14=.i .i64 a∧e 4=.i .i64 a∧e 18=.i .i64 N∧e 19=.i .i64 c∧c≤N∧h.get 0=some ⟨3,[[.fl 11 (C.parts.map Part.enc),.fl 6 (C.chans.map Chan.enc),.fl 1 (C.tables.map Tab.enc)]]⟩∧1≤h.next∧MatH 1 h v N W F (mat N (pass0 C (fun x y=>decide (x=y)) a c))) ?_ _ _ _ ⟨0,rfl, ?_⟩
      · rintro n e h ⟨c,rfl,hl,e1,e3,e13,e14,e4,e18,e19,ha,hg,hn,mh⟩ ih
        rw [ZC_unf Q7_10.eq_1]
        simp (disch:=omega)only[go_sem, *]
        refine Wb_dec (fun hc2=>?_) (fun hc2=>?_)
        · obtain ⟨t1,t2,t3,t4,t5,t6,t7,t8⟩:=mh.tell (a:=a) (c:=c) (by omega) (by omega)
          obtain ⟨_,_,flt,flo,fget,fat,frow,_,_⟩:=Sl.facts (enc:=fun x=>x) (L:=W) (by simpa using mh.out)
          have hd:dep0 C a c=(decide (a=c)||((nth C.parts a).sched&&(nth C.parts c).sched)):=rfl
          have hac:(a:Int)=c↔a=c:=by omega
          have hne:¬ (0:Nat)=nth F a:=by omega
          have hst:=fun x hx=>pass0_step (C:=C) (f0:=(fun x y=>decide (x=y))) (n:=N) (a:=a) (c:=c) x hx
          have hini:(pass0 C (fun x y=>decide (x=y)) a c a c)=(decide (a=c)):=by unfold pass0 doneB;rw [if_neg (by simp)]
          have t9:∀ x,x=dep0 C a c→MatH 1 (h.put (nth F a) ⟨1,((nth (mat N (pass0 C (fun x y=>decide (x=y)) a c)) a).set c x).map encBl⟩) v N W F (mat N (pass0 C (fun x y=>decide (x=y)) a (c+1))):=fun x hx=>by rw [← hst x hx];exact t8 x
          clear ihA mh hst t8
          simp (disch:=omega)only[go_sem, *]
          refine Wg_of (fun hc3=>?_) (fun hc3=>?_)
          · obtain rfl:c=a:=by first | omega | (have:=of_decide_eq_true hc3;omega)
            simp (disch:=omega)only[go_sem, *]
            refine ih _ _ _ ?_ ⟨c+1,rfl, ?_⟩
            · omega
            · clear ih
              simp (disch:=omega)only[go_sem, *]
              refine ⟨by omega, ?_⟩
              exact t9 _ (by rw [hd];simp_all)
          · simp (disch:=omega)only[go_sem, *]
            repeat' (first | (refine Wg_dec (fun hc=>?_) (fun hc=>?_)<;>simp (disch:=omega)only[go_sem, *]) | (refine Wb_dec (fun hc=>?_) (fun hc=>?_)<;>simp (disch:=omega)only[go_sem, *]) | (refine Wg_of (fun hc=>?_) (fun hc=>?_)<;>simp (disch:=omega)only[go_sem, *]) | (refine Wb_of (fun hc=>?_) (fun hc=>?_)<;>simp (disch:=omega)only[go_sem, *]))
            all_goals
              refine ih _ _ _ ?_ ⟨c+1,rfl, ?_⟩
              · omega
              · clear ih
                simp (disch:=omega)only[go_sem, *]
                refine ⟨by omega, ?_⟩
                exact t9 _ (by rw [hd];simp_all)
        · obtain rfl:c=N:=by omega
          rw [pass0_row] at mh
          clear ih
          simp (disch:=omega)only[go_sem, *]
          refine ihA _ _ _ ?_ ⟨a+1,rfl, ?_⟩
          · omega
          · clear ihA
            simp (disch:=omega)only[go_sem, *]
            ((repeat' refine And.intro ?_ ?_)<;>first | omega | assumption | (exact mh))
      · simp (disch:=omega)only[go_sem, *]
    · obtain rfl:a=N:=by omega
      rw [pass0_end] at mh
      clear ihA hc
      simp (disch:=omega)only[go_sem, *]
      refine ZC_loop_n (fun n e h=>∃ (k:Nat),n=C.chans.length - k∧h.lim=0∧e 54=.fl 6 (C.chans.map Chan.enc)∧e 55=.i .i64 C.chans.length∧e 56=.i .i64 k∧e 1=.p 0 0 0∧e 3=v∧k≤C.chans.length∧h.get 0=some ⟨3,[[.fl 11 (C.parts.map Part.enc),.fl 6 (C.chans.map Chan.enc),.fl 1 (C.tables.map Tab.enc)]]⟩∧1≤h.next∧MatH 1 h v a W F (mat a (depF C k))) ?_ _ _ _ ⟨0,rfl, ?_⟩
      · rintro n e h ⟨k,rfl,hl,e54,e55,e56,e1,e3,hi,hg,hn,mh⟩ ih
        rw [ZC_unf Q7_19.eq_1]
        simp (disch:=omega)only[go_sem, *]
        rename_i mh0 _ _
        refine Wb_dec (fun hc=>?_) (fun hc=>?_)
        · have hk:k<C.chans.length:=by omega
          have hs1:=depF_skip hk
          have hl1:=fun a c h1 h2 h3 h4=>depF_link (a:=a) (c:=c) hk h1 h2 h3 h4
          have his:=fun p=>in_ev (C:=C) (p:=p)
          simp only [hN,Config.enc] at hs1 hl1 his
          have cen:(nth C.chans k).enc=[.i .i64 (nth C.chans k).src,.i .i64 (nth C.chans k).dst,.b (nth C.chans k).queue,.i .i64 (nth C.chans k).cap,.i .u32 (nth C.chans k).top,.i .i64 (nth C.chans k).late]:=rfl
          simp (disch:=omega)only[go_sem, *]
          have x1:Ext h ((h.alloc ⟨6,[[.i .i64 0,.i .i64 0,.b false,.i .i64 0,.i .u32 0,.i .i64 0]]⟩).put h.next ⟨6,[[.i .i64 (nth C.chans k).src,.i .i64 (nth C.chans k).dst,.b (nth C.chans k).queue,.i .i64 (nth C.chans k).cap,.i .u32 (nth C.chans k).top,.i .i64 (nth C.chans k).late]]⟩):=by (repeat (first | exact Ext.refl _ | refine Ext.alloc ?_ _ | (refine Ext.put ?_ _ _ ?_;rotate_left;(first | omega | (simp only [next_alloc,next_put];omega)))))
          have m2:=mh.ext x1
          have g2:((h.alloc ⟨6,[[.i .i64 0,.i .i64 0,.b false,.i .i64 0,.i .u32 0,.i .i64 0]]⟩).put h.next ⟨6,[[.i .i64 (nth C.chans k).src,.i .i64 (nth C.chans k).dst,.b (nth C.chans k).queue,.i .i64 (nth C.chans k).cap,.i .u32 (nth C.chans k).top,.i .i64 (nth C.chans k).late]]⟩).get 0=some ⟨3,[[.fl 11 (C.parts.map Part.enc),.fl 6 (C.chans.map Chan.enc),.fl 1 (C.tables.map Tab.enc)]]⟩:=by rw [x1.get 0 (by omega)];exact hg
          have g3:((h.alloc ⟨6,[[.i .i64 0,.i .i64 0,.b false,.i .i64 0,.i .u32 0,.i .i64 0]]⟩).put h.next ⟨6,[[.i .i64 (nth C.chans k).src,.i .i64 (nth C.chans k).dst,.b (nth C.chans k).queue,.i .i64 (nth C.chans k).cap,.i .u32 (nth C.chans k).top,.i .i64 (nth C.chans k).late]]⟩).get h.next=some ⟨6,[[.i .i64 (nth C.chans k).src,.i .i64 (nth C.chans k).dst,.b (nth C.chans k).queue,.i .i64 (nth C.chans k).cap,.i .u32 (nth C.chans k).top,.i .i64 (nth C.chans k).late]]⟩:=by rw [get_put,gsel_eq rfl]
          have l2:=x1.lim
          have n2:=x1.next
          have hfn:∀ i,i<F.length→¬ nth F i=h.next:=fun i hi=>by have:=(mh.row i hi).2.2.2.1;omega
          have hvn:0<a→idV v<h.next:=fun hp=>(Sl.facts (enc:=fun x=>x) (L:=W) (by simpa using mh.out)).lt (by omega)
          generalize (h.alloc ⟨6,[[.i .i64 0,.i .i64 0,.b false,.i .i64 0,.i .u32 0,.i .i64 0]]⟩).put h.next ⟨6,[[.i .i64 (nth C.chans k).src,.i .i64 (nth C.chans k).dst,.b (nth C.chans k).queue,.i .i64 (nth C.chans k).cap,.i .u32 (nth C.chans k).top,.i .i64 (nth C.chans k).late]]⟩=h2 at *
          clear mh x1 hg mh0
          refine Pf.go (his _) (by simp only [go_sem]) fun _=>?_;simp (disch:=omega)only[go_sem, *]
          have next:¬ (inB a (nth C.chans k).src=true∧inB a (nth C.chans k).dst=true)→MatH 1 h2 v a W F (mat a (depF C (k+1))):=fun hx=>by rw [hs1 hx];exact m2
          refine Wg_of (fun hc1=>?_) (fun hc1=>?_)
          · simp (disch:=omega)only[go_sem, *]
            refine Pf.go (his _) (by simp only [go_sem]) fun _=>?_;simp (disch:=omega)only[go_sem, *]
            refine Wb_of (fun hc2=>?_) (fun hc2=>?_)
            · clear next hs1
              simp only [inB,decide_eq_true_eq] at hc1 hc2
              obtain ⟨a0,ha0⟩:∃ a0:Nat,(nth C.chans k).src=a0:=⟨(nth C.chans k).src.toNat,by omega⟩
              obtain ⟨c0,hc0⟩:∃ c0:Nat,(nth C.chans k).dst=c0:=⟨(nth C.chans k).dst.toNat,by omega⟩
              have hla:a0<a:=by omega
              have hlc:c0<a:=by omega
              have hl4:=hl1 a0 c0 ha0 hc0 hla hlc
              obtain ⟨t1,t2,t3,t4,t5,t6,t7,t8⟩:=m2.tell hla hlc
              obtain ⟨s1,s2,s3,s4,s5,s6,s7,s8⟩:=m2.tell hlc hla
              obtain ⟨_,_,flt,flo,fget,fat,frow,_,_⟩:=Sl.facts (enc:=fun x=>x) (L:=W) (by simpa using m2.out)
              have hms:∀ (r:List Bool) (j:Nat) (x:Bool),(r.map encBl).set j [.b x]=(r.set j x).map encBl:=fun r j x=>by simp [List.map_set,encBl]
              have hv2:=hvn (by omega)
              have hf1:=hfn a0 (by omega)
              have hf2:=hfn c0 (by omega)
              have hsq:∀ i,i<a→(nth (mat a (depF C k)) i).length=a:=fun i hi=>by have:=mat_sq (n:=a) (f:=depF C k) i (by rw [mat_len];exact hi);rwa [mat_len] at this
              have hla1:=hsq a0 hla
              have hlc1:=hsq c0 hlc
              have hdis:¬ a0=c0→¬ nth F c0=nth F a0:=fun hx=>m2.dis c0 a0 (by omega) (by omega) (Ne.symm hx)
              have m3:=m2.two hla hlc
              rw [hl4] at m3
              clear hl1 hsq hfn m2 t4 s4 t8 s8 hl4
              by_cases hac:a0=c0
              · subst hac
                rw [if_pos rfl,put_put,List.set_set] at m3
                clear hdis
                have q3:(List.map encBl ((nth (mat a (depF C k)) a0).set a0 true))[a0]?=some [.b true]:=by rw [List.getElem?_map,List.getElem?_set_self (by omega)];rfl
                simp (disch:=omega)only[go_sem, *]
                refine ih _ _ _ ?_ ⟨k+1,rfl, ?_⟩
                · omega
                · simp (disch:=omega)only[go_sem, *]
                  ((repeat' refine And.intro ?_ ?_)<;>first | omega | assumption | (exact m3))
              · rw [if_neg hac] at m3
                have hdis:=hdis hac
                simp (disch:=omega)only[go_sem, *]
                refine ih _ _ _ ?_ ⟨k+1,rfl, ?_⟩
                · omega
                · simp (disch:=omega)only[go_sem, *]
                  ((repeat' refine And.intro ?_ ?_)<;>first | omega | assumption | (exact m3))
            · have m3:=next (by simp [hc2])
              clear next
              simp (disch:=omega)only[go_sem, *]
              refine ih _ _ _ ?_ ⟨k+1,rfl, ?_⟩
              · omega
              · simp (disch:=omega)only[go_sem, *]
                ((repeat' refine And.intro ?_ ?_)<;>first | omega | assumption | (exact m3))
          · have m3:=next (by simp [hc1])
            clear next
            simp (disch:=omega)only[go_sem, *]
            refine ih _ _ _ ?_ ⟨k+1,rfl, ?_⟩
            · omega
            · simp (disch:=omega)only[go_sem, *]
              ((repeat' refine And.intro ?_ ?_)<;>first | omega | assumption | (exact m3))
        · have hk:k=C.chans.length:=by omega
          rw [hk] at mh
          have fr:=mh.frz (P:=fun _=>True) (k:=0) (by omega) (fun _ _=>trivial) (by omega) (by omega)
          have hM:depM C=mat a (depF C C.chans.length):=by unfold depM;rw [hN]
          simp (disch:=omega)only[go_sem, *]
      · simp (disch:=omega)only[go_sem, *]
  · simp (disch:=omega)only[go_sem, *]
end Go.Ab.T
namespace Go.Ab.T
open Go Go.Ab
set_option maxHeartbeats 4000000
structure Move where
  i:Int
  j:Int
  right:Bool
  deriving Inhabited,DecidableEq
@[go_sem] def Move.enc (m:Move):List V:=[.i .i64 m.i,.i .i64 m.j,.b m.right]
def placesB (L:List Run) (m:Move):Bool:=decide (0≤m.i∧m.i<m.j∧m.j<L.length)
def blocks (M:List (List Bool)) (p:Int) (r:Run):Bool:=decide (r.part=p)||(decide (p≠-1)&&decide (r.part≠-1)&&depB M p r.part)
def between (L:List Run) (m:Move):List Run:=(L.drop (m.i+1).toNat).take (m.j.toNat - (m.i+1).toNat)
def mayB (L:List Run) (M:List (List Bool)) (m:Move):Bool:=placesB L m&&decide ((nth L m.i.toNat).part=(nth L m.j.toNat).part)&&!(between L m).any (blocks M (nth L m.i.toNat).part)
theorem places_ev {L:List Run} {m:Move}:Pf tp i_Q119 [.fl 2 (L.map Run.enc),.agg m.enc] (.b (placesB L m)):=by
  refine Pf_go fn_Q119 (by simp [t_Q119]) fun rp=>?_;unfold t_Q119;simp (disch:=omega)only[go_sem, *]
  have hL:=rp.head.len
  unfold placesB
  repeat' (first | (refine Wg_dec (fun hc=>?_) (fun hc=>?_)<;>simp (disch:=omega)only[go_sem, *]) | (refine Wb_dec (fun hc=>?_) (fun hc=>?_)<;>simp (disch:=omega)only[go_sem, *]))
  all_goals ((repeat' refine And.intro ?_ ?_)<;>first | omega | assumption | (grind))
theorem may1_ev {M:List (List Bool)} {p:Int} {r:Run} {h:AH} {a b:Nat} {K:V→AH→Prop} (ha:h.get a=some ⟨1,[[.i .i64 p]]⟩) (hb:h.get b=some ⟨1,[[.fl 1 (M.map encM)]]⟩) (hal:a<h.next) (hbl:b<h.next) (k:K (.b (blocks M p r)) h):Cq tp i_Q121 [.agg r.enc,.p a 0 0,.p b 0 0] h K:=by
  simp only [Run.enc]
  refine Cq_same fn_Q121 (by simp [t_Q121]) (k) fun hlm rp=>?_;unfold t_Q121;simp (disch:=omega)only[go_sem, *]
  repeat' (first | (refine Wg_dec (fun hc=>?_) (fun hc=>?_)<;>simp (disch:=omega)only[go_sem, *]) | (refine Wb_dec (fun hc=>?_) (fun hc=>?_)<;>simp (disch:=omega)only[go_sem, *]) | (refine Wg_of (fun hc=>?_) (fun hc=>?_)<;>simp (disch:=omega)only[go_sem, *]) | (refine Wb_of (fun hc=>?_) (fun hc=>?_)<;>simp (disch:=omega)only[go_sem, *]) | (refine Pf.go (wdep_ev) (by simp only [go_sem]) fun _=>?_;simp (disch:=omega)only[go_sem, *]))
  all_goals
    refine ⟨by unfold blocks;clear k;simp [*], ?_⟩
    (repeat (first | exact Ext.refl _ | refine Ext.alloc ?_ _ | (refine Ext.put ?_ _ _ ?_;rotate_left;(first | omega | (simp only [next_alloc,next_put];omega)))))
theorem may_ev {L:List Run} {M:List (List Bool)} {m:Move}:Pf tp i_Q86 [.fl 2 (L.map Run.enc),.fl 1 (M.map encM),.agg m.enc] (.b (mayB L M m)):=by
  refine Pf_go fn_Q86 (by simp [t_Q86]) fun rp=>?_;unfold t_Q86;simp (disch:=omega)only[go_sem, *]
  have hL:=rp.head.len
  have hp:=fun x=>places_ev (L:=L) (m:=x)
  have n0:placesB L m=false→mayB L M m=false:=fun h=>by rw [mayB,h];rfl
  refine Pf.go (places_ev (L:=L) (m:=m)) (by simp only [go_sem]) fun _=>?_;simp (disch:=omega)only[go_sem, *]
  refine Wg_of (fun hc=>?_) (fun hc=>?_)
  · have n1:=n0 (by simpa using hc)
    simp (disch:=omega)only[go_sem, *]
  · have hc1:placesB L m=true:=by simpa using hc
    have hpl:=hc1
    simp only [placesB,decide_eq_true_eq] at hpl
    have nf:∀ b:Bool,((decide ((nth L m.i.toNat).part=(nth L m.j.toNat).part)&&!(between L m).any (blocks M (nth L m.i.toNat).part))=b)→mayB L M m=b:=fun b h=>by rw [mayB,hc1,Bool.true_and];exact h
    have n1:¬ (nth L m.i.toNat).part=(nth L m.j.toNat).part→mayB L M m=false:=fun h=>nf false (by rw [decide_eq_false h,Bool.false_and])
    have n2:(nth L m.i.toNat).part=(nth L m.j.toNat).part→mayB L M m = !(between L m).any (blocks M (nth L m.i.toNat).part):=fun h=>nf _ (by rw [decide_eq_true h,Bool.true_and])
    clear n0 hp nf
    simp (disch:=omega)only[go_sem, *]
    refine Wb_dec (fun hc2=>?_) (fun hc2=>?_)
    · have n1:=n1 hc2
      clear n2
      simp (disch:=omega)only[go_sem, *]
    · have hc3:=Decidable.not_not.1 hc2
      have n2:=n2 hc3
      rw [hc3] at n2
      clear n1 hc2
      have hbt:List.take (m.j.toNat - (m.i+1).toNat) (List.drop (m.i+1).toNat (L.map Run.enc))=(between L m).map Run.enc:=by simp [between,List.map_take,List.map_drop]
      simp (disch:=omega)only[go_sem, *]
      refine hasRun (P:=blocks M (nth L m.j.toNat).part) (fun x hx K k=>may1_ev (by simp (disch:=omega)only[go_sem, *]) (by simp (disch:=omega)only[go_sem, *]) (by simp (disch:=omega)only[go_sem, *]) (by simp (disch:=omega)only[go_sem, *]) k) ?_
      simp (disch:=omega)only[go_sem, *]
theorem rmay_ev {L:List Run} {M:List (List Bool)} {m:Move} (hq:Sq M):Pf tp i_Q113 [.fl 2 (L.map Run.enc),.fl 1 (M.map encM),.agg m.enc] (.b (mayB L M m)):=by
  refine Pf_go fn_Q113 (by simp [t_Q113]) fun rp=>?_;unfold t_Q113;simp (disch:=omega)only[go_sem, *]
  have hL:=rp.head.len
  have n0:placesB L m=false→mayB L M m=false:=fun h=>by rw [mayB,h];rfl
  refine Wg_dec (fun hc=>?_) (fun hc=>?_)
  · have n1:=n0 (by unfold placesB;rw [decide_eq_false];omega)
    clear n0
    simp (disch:=omega)only[go_sem, *]
  · simp (disch:=omega)only[go_sem, *]
    refine Wg_dec (fun hc1=>?_) (fun hc1=>?_)
    · have n1:=n0 (by unfold placesB;rw [decide_eq_false];omega)
      clear n0
      simp (disch:=omega)only[go_sem, *]
    · simp (disch:=omega)only[go_sem, *]
      refine Wg_dec (fun hc2=>?_) (fun hc2=>?_)
      · have n1:=n0 (by unfold placesB;rw [decide_eq_false];omega)
        clear n0
        simp (disch:=omega)only[go_sem, *]
      · have hpl:placesB L m=true:=by unfold placesB;rw [decide_eq_true];omega
        have nf:∀ b:Bool,((decide ((nth L m.i.toNat).part=(nth L m.j.toNat).part)&&!(between L m).any (blocks M (nth L m.i.toNat).part))=b)→mayB L M m=b:=fun b h=>by rw [mayB,hpl,Bool.true_and];exact h
        have n1:¬ (nth L m.i.toNat).part=(nth L m.j.toNat).part→mayB L M m=false:=fun h=>nf false (by rw [decide_eq_false h,Bool.false_and])
        have n2:(nth L m.i.toNat).part=(nth L m.j.toNat).part→mayB L M m = !(between L m).any (blocks M (nth L m.i.toNat).part):=fun h=>nf _ (by rw [decide_eq_true h,Bool.true_and])
        clear n0 nf
        simp (disch:=omega)only[go_sem, *]
        refine Wb_dec (fun hc3=>?_) (fun hc3=>?_)
        · have n1:=n1 hc3
          clear n2
          simp (disch:=omega)only[go_sem, *]
        · have hc4:=Decidable.not_not.1 hc3
          have n2:=n2 hc4
          have hbt:List.take (m.j.toNat - (m.i+1).toNat) (List.drop (m.i+1).toNat (L.map Run.enc))=(between L m).map Run.enc:=by simp [between,List.map_take,List.map_drop]
          have hbl:(between L m).length≤L.length:=by simp [between];omega
          generalize between L m=B at *
          generalize hp:(nth L m.i.toNat).part=p at *
          clear n1 hc3 hc4
          simp (disch:=omega)only[go_sem, *]
          refine ZC_loop_n (fun n e h=>∃ (k:Nat),n=B.length - k∧h.lim=0∧e 54=.fl 2 (B.map Run.enc)∧e 55=.i .i64 B.length∧e 56=.i .i64 k∧e 1=.fl 1 (M.map encM)∧e 7=.i .i64 p∧k≤B.length∧mayB L M m = !(B.drop k).any (blocks M p)) ?_ _ _ _ ⟨0,rfl, ?_⟩
          · rintro n e h ⟨k,rfl,hl,e54,e55,e56,e1,e7,hi,hz⟩ ih
            rw [ZC_unf Q113_10.eq_1]
            simp (disch:=omega)only[go_sem, *]
            refine Wb_dec (fun hc5=>?_) (fun hc5=>?_)
            · rw [drop_nth (by omega),List.any_cons] at hz
              have hb:blocks M p (nth B k)=(decide ((nth B k).part=p)||(decide (p≠-1)&&decide ((nth B k).part≠-1)&&depB M p (nth B k).part)):=rfl
              have hy:blocks M p (nth B k)=true→mayB L M m=false:=fun h=>by rw [hz,h];rfl
              have hn:blocks M p (nth B k)=false→mayB L M m = !(B.drop (k+1)).any (blocks M p):=fun h=>by rw [hz,h,Bool.false_or]
              clear hz n2 hbt hp
              simp (disch:=omega)only[go_sem, *]
              repeat' (first | (refine Wg_dec (fun hc=>?_) (fun hc=>?_)<;>simp (disch:=omega)only[go_sem, *]) | (refine Wb_dec (fun hc=>?_) (fun hc=>?_)<;>simp (disch:=omega)only[go_sem, *]) | (refine Wg_of (fun hc=>?_) (fun hc=>?_)<;>simp (disch:=omega)only[go_sem, *]) | (refine Wb_of (fun hc=>?_) (fun hc=>?_)<;>simp (disch:=omega)only[go_sem, *]) | (refine Pf.go (rdep_ev hq) (by simp only [go_sem]) fun _=>?_;simp (disch:=omega)only[go_sem, *]))
              all_goals
                first
                  | (have n1 := hy (by rw [hb]; simp [*])
                     clear ih hy hn
                     simp (disch:=omega)only[go_sem, *]
                     done)
                  | (have n1 := hn (by rw [hb]; simp [*])
                     clear hy hn
                     refine ih _ _ _ ?_ ⟨k+1,rfl, ?_⟩
                     · omega
                     · clear ih
                       simp (disch:=omega)only[go_sem, *]
                       ((repeat' refine And.intro ?_ ?_)<;>first | omega | assumption))
            · rw [List.drop_eq_nil_of_le (by omega),List.any_nil] at hz
              clear n2
              simp (disch:=omega)only[go_sem, *]
          · simp (disch:=omega)only[go_sem, *]
end Go.Ab.T
namespace Go.Ab.T
open Go Go.Ab
set_option maxHeartbeats 4000000
theorem cloneRun_ev {xs:List (List V)}:Pf tp i_Q61 [.fl 2 xs] (.fl 2 xs):=by
  refine Pf_go fn_Q61 (by simp [t_Q61]) fun rp=>?_;unfold t_Q61;simp (disch:=omega)only[go_sem, *]
  have hb:=rp.head.big
  intro t ht
  cases t
  · simp (disch:=omega)only[go_sem, *]
    refine app_rule (R:=[]) (Sl.nil' 0 _ _) (Nat.le_refl _) (Nat.le_refl _) (by simp;omega) ?_
    intro w h4 s4 g4
    simp (disch:=omega)only[go_sem, *]
    exact s4.froze' rp.head.frzr trivial (by simp;omega)
  · simp (disch:=omega)only[go_sem, *]
    have:xs=[]:=by
      rcases List.eq_nil_or_concat xs with h | ⟨l,a,h⟩
      · exact h
      · exact absurd (ht (by rw [h];simp)) (by simp)
    rw [this]
theorem cloneRuno {xs:List (List V)} {h:AH} {K:V→AH→Prop} (hl:h.lim≤h.next) (k:∀ r h',Sl h.next h' 2 r xs→Ext h h'→K r h'):Cq tp i_Q61 [.fl 2 xs] h K:=by
  refine Cq_raw_go fn_Q61 (by simp [t_Q61]) fun wf rp=>?_;unfold t_Q61;simp (disch:=omega)only[go_sem, *]
  have hb:=rp.head.big
  intro t ht
  cases t
  · simp (disch:=omega)only[go_sem, *]
    refine app_rule (R:=[]) (Sl.nil' h.next _ _) hl (Nat.le_refl _) (by simp;omega) ?_
    intro w h4 s4 g4
    simp (disch:=omega)only[go_sem, *]
    exact k _ _ s4 ⟨g4.next,g4.lim,g4.low⟩
  · simp (disch:=omega)only[go_sem, *]
    have:xs=[]:=by
      rcases List.eq_nil_or_concat xs with h | ⟨l,a,h⟩
      · exact h
      · exact absurd (ht (by rw [h];simp)) (by simp)
    subst this
    exact k _ _ (Sl.nil _ _ _) (Ext.refl h)
def toI (m:Move):Nat:=if m.right=true then m.j.toNat else m.i.toNat
def fromI (m:Move):Nat:=if m.right=true then m.i.toNat else m.j.toNat
def movd (L:List Run) (t f:Nat):List Run:=(L.set t ⟨(nth L t).part,addR (nth L t).n (nth L f).n⟩).set f ⟨(nth L f).part,0⟩
def doR (L:List Run) (m:Move):List Run:=if placesB L m=true then tidyGo (movd L (toI m) (fromI m)) [] else L
theorem movd_ok {L:List Run} {t f:Nat} (h:RunsOk L) (ht:t<L.length) (hf:f<L.length):RunsOk (movd L t f):=by
  intro i hi
  simp only [movd,List.length_set] at hi
  unfold movd
  rw [nth_set (by simpa using hi)]
  split
  · simp
  · rw [nth_set hi]
    split
    · exact addR_big.2
    · exact h i hi
theorem movd_sl {b : Nat} {h : AH} {v : V} {L : List Run} {t f : Nat} (s : Sl b h 2 v (L.map Run.enc)) (ht : t < L.length) (hf : f < L.length) (hne : t ≠ f) :
    Sl b (h.put (idV v) ⟨2,((csOf h v).set (elV v+t) [.i .i64 (nth L t).part,.i .i64 (addR (nth L t).n (nth L f).n)]).set (elV v+f) [.i .i64 (nth L f).part,.i .i64 0]⟩) 2 v ((movd L t f).map Run.enc):=by
  have s1:=s.setT (h':=h.put (idV v) ⟨2,(csOf h v).set (elV v+t) [.i .i64 (nth L t).part,.i .i64 (addR (nth L t).n (nth L f).n)]⟩) (j:=t) (x:=⟨(nth L t).part,addR (nth L t).n (nth L f).n⟩) ht (Nat.le_refl _) (by rw [get_put,gsel_eq rfl];rfl)
  have e:csOf (h.put (idV v) ⟨2,(csOf h v).set (elV v+t) [.i .i64 (nth L t).part,.i .i64 (addR (nth L t).n (nth L f).n)]⟩) v=(csOf h v).set (elV v+t) [.i .i64 (nth L t).part,.i .i64 (addR (nth L t).n (nth L f).n)]:=by simp [csOf,get_put,gsel]
  have s2:=s1.setT (h':=h.put (idV v) ⟨2,((csOf h v).set (elV v+t) [.i .i64 (nth L t).part,.i .i64 (addR (nth L t).n (nth L f).n)]).set (elV v+f) [.i .i64 (nth L f).part,.i .i64 0]⟩) (j:=f) (x:=⟨(nth L f).part,0⟩) (by simpa using hf) (Nat.le_refl _) (by rw [e,get_put,gsel_eq rfl];rfl)
  exact s2
theorem do_ev {L:List Run} {m:Move} (hok:RunsOk L):Pf tp i_Q84 [.fl 2 (L.map Run.enc),.agg m.enc] (.fl 2 ((doR L m).map Run.enc)):=by
  refine Pf_go fn_Q84 (by simp [t_Q84]) fun rp=>?_;unfold t_Q84;simp (disch:=omega)only[go_sem, *]
  have hL:=rp.head.len
  have n0:placesB L m=false→doR L m=L:=fun h=>by rw [doR,if_neg (by simp [h])]
  have n1:placesB L m=true→doR L m=tidyGo (movd L (toI m) (fromI m)) []:=fun h=>by rw [doR,if_pos h]
  refine cloneRuno (by simp (disch:=omega)only[go_sem, *]) ?_
  intro v h1 s1 x1
  have g1:h1.get 0=some ⟨3,[[.i .i64 m.i,.i .i64 m.j,.b m.right]]⟩:=x1.get 0 (by simp [next_alloc])
  have hl1:h1.lim=0:=x1.lim
  have hn1:1≤h1.next:=x1.next
  have s1:Sl 1 h1 2 v (L.map Run.enc):=s1
  clear x1
  simp (disch:=omega)only[go_sem, *]
  refine Pf.go (places_ev (L:=L) (m:=m)) (by simp only [go_sem]) fun _=>?_;simp (disch:=omega)only[go_sem, *]
  refine Wb_of (fun hc=>?_) (fun hc=>?_)
  · have n2:=n0 (by simpa using hc)
    clear n0 n1
    simp (disch:=omega)only[go_sem, *]
    exact s1.froze (fun _=>rfl) trivial (by omega)
  · have hc1:placesB L m=true:=by simpa using hc
    have n2:=n1 hc1
    have hpl:=hc1
    simp only [placesB,decide_eq_true_eq] at hpl
    clear n0 n1
    obtain ⟨olen,obig,olt,olo,oget,oat,orow,ocell,ocells⟩:=s1.facts
    have oget:=oget (by omega)
    have olo:=olo (by omega)
    have olt:=olt (by omega)
    have hro:∀ i,i<L.length→elV v+i<(csOf h1 v).length:=fun i hi=>s1.rowlt (by simpa using hi)
    simp (disch:=omega)only[go_sem, *]
    refine Wb_of (fun hc2=>?_) (fun hc2=>?_)
    · have ht:toI m=m.j.toNat:=if_pos hc2
      have hf:fromI m=m.i.toNat:=if_pos hc2
      have r1:=hro m.i.toNat (by omega)
      have r2:=hro m.j.toNat (by omega)
      have k1:=hok m.i.toNat (by omega)
      have k2:=hok m.j.toNat (by omega)
      have s2:=movd_sl s1 (t:=m.j.toNat) (f:=m.i.toNat) (by omega) (by omega) (by omega)
      have kk:=movd_ok hok (t:=m.j.toNat) (f:=m.i.toNat) (by omega) (by omega)
      clear hc hro
      simp (disch:=omega)only[go_sem, *]
      refine Pf.go (add_ev (by assumption) (by assumption)) (by simp only [go_sem]) fun _=>?_;simp (disch:=omega)only[go_sem, *]
      refine Pf.take [idV v] (tidy_ev kk) (.cons _ _ _ _ _ (s2.froze (fun _=>rfl) (by simp) (by simp [movd];omega)) (.nil _)) fun _=>?_
      simp (disch:=omega)only[go_sem, *]
    · have ht:toI m=m.i.toNat:=by simp [toI,hc2]
      have hf:fromI m=m.j.toNat:=by simp [fromI,hc2]
      have r1:=hro m.i.toNat (by omega)
      have r2:=hro m.j.toNat (by omega)
      have k1:=hok m.i.toNat (by omega)
      have k2:=hok m.j.toNat (by omega)
      have s2:=movd_sl s1 (t:=m.i.toNat) (f:=m.j.toNat) (by omega) (by omega) (by omega)
      have kk:=movd_ok hok (t:=m.i.toNat) (f:=m.j.toNat) (by omega) (by omega)
      clear hc hro
      simp (disch:=omega)only[go_sem, *]
      refine Pf.go (add_ev (by assumption) (by assumption)) (by simp only [go_sem]) fun _=>?_;simp (disch:=omega)only[go_sem, *]
      refine Pf.take [idV v] (tidy_ev kk) (.cons _ _ _ _ _ (s2.froze (fun _=>rfl) (by simp) (by simp [movd];omega)) (.nil _)) fun _=>?_
      simp (disch:=omega)only[go_sem, *]
theorem addR_comm {a b:Int}:addR a b=addR b a:=by unfold addR;split<;>split<;>omega
theorem rdo_ev {L:List Run} {m:Move} (hok:RunsOk L):Pf tp i_Q79 [.fl 2 (L.map Run.enc),.agg m.enc] (.fl 2 ((doR L m).map Run.enc)):=by
  refine Pf_go fn_Q79 (by simp [t_Q79]) fun rp=>?_;unfold t_Q79;simp (disch:=omega)only[go_sem, *]
  have hL:=rp.head.len
  have n0:placesB L m=false→doR L m=L:=fun h=>by rw [doR,if_neg (by simp [h])]
  have n1:placesB L m=true→doR L m=tidyGo (movd L (toI m) (fromI m)) []:=fun h=>by rw [doR,if_pos h]
  refine app_rule (R:=[]) (Sl.nil' 1 _ _) (by simp (disch:=omega)only[go_sem, *]) (by simp (disch:=omega)only[go_sem, *]) (by simp;omega) ?_
  intro v h1 s1 x1
  have g1:h1.get 0=some ⟨3,[[.i .i64 m.i,.i .i64 m.j,.b m.right]]⟩:=x1.low 0 (by omega)
  have hl1:h1.lim=0:=x1.lim
  have hn1:1≤h1.next:=x1.next
  have s1:Sl 1 h1 2 v (L.map Run.enc):=s1
  clear x1
  obtain ⟨olen,obig,olt,olo,oget,oat,orow,ocell,ocells⟩:=s1.facts
  simp (disch:=omega)only[go_sem, *]
  refine Wg_dec (fun hc=>?_) (fun hc=>?_)
  · have n2:=n0 (by unfold placesB;rw [decide_eq_false];omega)
    clear n0 n1
    simp (disch:=omega)only[go_sem, *]
    exact s1.froze (fun _=>rfl) trivial (by omega)
  · simp (disch:=omega)only[go_sem, *]
    refine Wg_dec (fun hc1=>?_) (fun hc1=>?_)
    · have n2:=n0 (by unfold placesB;rw [decide_eq_false];omega)
      clear n0 n1
      simp (disch:=omega)only[go_sem, *]
      exact s1.froze (fun _=>rfl) trivial (by omega)
    · simp (disch:=omega)only[go_sem, *]
      refine Wb_dec (fun hc2=>?_) (fun hc2=>?_)
      · have n2:=n0 (by unfold placesB;rw [decide_eq_false];omega)
        clear n0 n1
        simp (disch:=omega)only[go_sem, *]
        exact s1.froze (fun _=>rfl) trivial (by omega)
      · have hpl:0≤m.i∧m.i<m.j∧m.j<L.length:=by omega
        have hc1:placesB L m=true:=by unfold placesB;rw [decide_eq_true];omega
        have n2:=n1 hc1
        clear n0 n1
        have oget:=oget (by omega)
        have olo:=olo (by omega)
        have olt:=olt (by omega)
        have hro:∀ i,i<L.length→elV v+i<(csOf h1 v).length:=fun i hi=>s1.rowlt (by simpa using hi)
        simp (disch:=omega)only[go_sem, *]
        refine Wb_of (fun hc2=>?_) (fun hc2=>?_)
        · have ht:toI m=m.j.toNat:=by simp [toI,hc2]
          have hf:fromI m=m.i.toNat:=by simp [fromI,hc2]
          have r1:=hro m.i.toNat (by omega)
          have r2:=hro m.j.toNat (by omega)
          have k1:=hok m.i.toNat (by omega)
          have k2:=hok m.j.toNat (by omega)
          have s2:=movd_sl s1 (t:=m.j.toNat) (f:=m.i.toNat) (by omega) (by omega) (by omega)
          have kk:=movd_ok hok (t:=m.j.toNat) (f:=m.i.toNat) (by omega) (by omega)
          clear hc hro
          simp (disch:=omega)only[go_sem, *]
          refine Pf.go (sum_ev (by assumption) (by assumption)) (by simp only [go_sem]) fun _=>?_;simp (disch:=omega)only[go_sem, *]
          refine Pf.take [idV v] (refTidy_ev kk) (.cons _ _ _ _ _ (s2.froze (fun _=>rfl) (by simp) (by simp [movd];omega)) (.nil _)) fun _=>?_
          simp (disch:=omega)only[go_sem, *]
        · have ht:toI m=m.i.toNat:=by simp [toI,hc2]
          have hf:fromI m=m.j.toNat:=by simp [fromI,hc2]
          have r1:=hro m.i.toNat (by omega)
          have r2:=hro m.j.toNat (by omega)
          have k1:=hok m.i.toNat (by omega)
          have k2:=hok m.j.toNat (by omega)
          have s2:=movd_sl s1 (t:=m.i.toNat) (f:=m.j.toNat) (by omega) (by omega) (by omega)
          have kk:=movd_ok hok (t:=m.i.toNat) (f:=m.j.toNat) (by omega) (by omega)
          have hcm:=addR_comm (a:=(nth L m.j.toNat).n) (b:=(nth L m.i.toNat).n)
          clear hc hro
          simp (disch:=omega)only[go_sem, *]
          refine Pf.go (sum_ev (by assumption) (by assumption)) (by simp only [go_sem]) fun _=>?_;simp (disch:=omega)only[go_sem, *]
          refine Pf.take [idV v] (refTidy_ev kk) (.cons _ _ _ _ _ (s2.froze (fun _=>rfl) (by simp) (by simp [movd];omega)) (.nil _)) fun _=>?_
          simp (disch:=omega)only[go_sem, *]
end Go.Ab.T
namespace Go.Ab.T
open Go Go.Ab
set_option maxHeartbeats 4000000
def allJ (L:List Run) (M:List (List Bool)) (i:Nat):Nat→Nat→List Move→List Move
  | 0,_,acc=>acc
  | f+1,j,acc=>allJ L M i f (j+1) (if mayB L M ⟨i,j,false⟩=true then acc++[⟨i,j,false⟩,⟨i,j,true⟩] else acc)
def allI (L:List Run) (M:List (List Bool)):Nat→Nat→List Move→List Move
  | 0,_,acc=>acc
  | f+1,i,acc=>allI L M f (i+1) (allJ L M i (L.length - (i+1)) (i+1) acc)
def allR (L:List Run) (M:List (List Bool)):List Move:=allI L M L.length 0 []
theorem all_ev {L:List Run} {M:List (List Bool)} (hq:Sq M) (hs:L.length≤4096):Pf tp i_Q49 [.fl 2 (L.map Run.enc),.fl 1 (M.map encM)] (.fl 3 ((allR L M).map Move.enc)):=by
  refine Pf_go fn_Q49 (by simp [t_Q49]) fun rp=>?_;unfold t_Q49;simp (disch:=omega)only[go_sem, *]
  refine ZC_loop_n (fun n e h=>∃ (f:Nat) (i:Nat) (out:V) (A:List Move),n=f∧h.lim=0∧e 0=.fl 2 (L.map Run.enc)∧e 1=.fl 1 (M.map encM)∧e 5=out∧e 10=.i .i64 L.length∧e 11=.i .i64 i∧i+f=L.length∧A.length≤8192*i∧Sl 0 h 3 out (A.map Move.enc)∧allR L M=allI L M f i A) ?_ _ _ _ ⟨L.length,0,.ns,[],rfl, ?_⟩
  · rintro n e h ⟨f,i,out,A,rfl,hl,e0,e1,e5,e10,e11,ha,hA,so,hz⟩ ih
    rw [ZC_unf Q49_13.eq_1]
    simp (disch:=omega)only[go_sem, *]
    refine Wb_dec (fun hc=>?_) (fun hc=>?_)
    · cases n with
      | zero=>omega
      | succ f=>
        rw [allI] at hz
        have ihA:=ih
        clear ih
        simp (disch:=omega)only[go_sem, *]
        refine ZC_loop_n (fun n e h=>∃ (g:Nat) (j:Nat) (out:V) (B:List Move),n=g∧h.lim=0∧e 0=.fl 2 (L.map Run.enc)∧e 1=.fl 1 (M.map encM)∧e 5=out∧e 10=.i .i64 L.length∧e 11=.i .i64 i∧e 6=.i .i64 i∧e 7=.i .i64 j∧j+g=L.length∧B.length≤8192*i+2*j∧Sl 0 h 3 out (B.map Move.enc)∧allJ L M i (L.length - (i+1)) (i+1) A=allJ L M i g j B) ?_ _ _ _ ⟨L.length - (i+1),i+1,out,A,rfl, ?_⟩
        · rintro n e h ⟨g,j,out,B,rfl,hl,e0,e1,e5,e10,e11,e6,e7,hb,hB,so,hw⟩ ih
          rw [ZC_unf Q49_11.eq_1]
          simp (disch:=omega)only[go_sem, *]
          refine Wb_dec (fun hc2=>?_) (fun hc2=>?_)
          · cases n with
            | zero=>omega
            | succ g=>
              rw [allJ] at hw
              clear ihA
              obtain ⟨olen,obig,olt,olo,oget,oat,orow,ocell,ocells⟩:=so.facts
              have hmv:=may_ev (L:=L) (M:=M) (m:=⟨i,j,false⟩)
              simp only [Move.enc] at hmv
              have x1:Ext h ((h.alloc ⟨3,[[.i .i64 0,.i .i64 0,.b false]]⟩).put h.next ⟨3,[[.i .i64 i,.i .i64 j,.b false]]⟩):=by (repeat (first | exact Ext.refl _ | refine Ext.alloc ?_ _ | (refine Ext.put ?_ _ _ ?_;rotate_left;(first | omega | (simp only [next_alloc,next_put];omega)))))
              simp (disch:=omega)only[go_sem, *]
              refine Pf.go (hmv) (by simp only [go_sem]) fun _=>?_;simp (disch:=omega)only[go_sem, *]
              refine Wb_of (fun hc3=>?_) (fun hc3=>?_)
              · rw [if_pos hc3] at hw
                clear hmv
                simp (disch:=omega)only[go_sem, *]
                refine app_rule (R:=B.map Move.enc) ((so.ext x1).alloc _) (by simp (disch:=omega)only[go_sem, *]) (Nat.zero_le _) (by simp;omega) ?_
                intro w h4 s4 g4
                have hl4:=g4.lim
                simp (disch:=omega)only[go_sem, *]
                refine ih _ _ _ ?_ ⟨g,j+1,w,B++[⟨i,j,false⟩,⟨i,j,true⟩],rfl, ?_⟩
                · omega
                · simp (disch:=omega)only[go_sem, *]
                  ((repeat' refine And.intro ?_ ?_)<;>first | omega | assumption | ((simp;omega)) | (simpa [Move.enc] using s4))
              · rw [if_neg (by simp [hc3])] at hw
                clear hmv
                simp (disch:=omega)only[go_sem, *]
                refine ih _ _ _ ?_ ⟨g,j+1,out,B,rfl, ?_⟩
                · omega
                · simp (disch:=omega)only[go_sem, *]
                  ((repeat' refine And.intro ?_ ?_)<;>first | omega | assumption | (exact so.ext x1))
          · cases n with
            | succ f=>omega
            | zero=>
              rw [allJ] at hw
              rw [hw] at hz
              clear ih hw
              simp (disch:=omega)only[go_sem, *]
              refine ihA _ _ _ ?_ ⟨f,i+1,out,B,rfl, ?_⟩
              · omega
              · clear ihA
                simp (disch:=omega)only[go_sem, *]
                ((repeat' refine And.intro ?_ ?_)<;>first | omega | assumption | (exact so))
        · simp (disch:=omega)only[go_sem, *]
          ((repeat' refine And.intro ?_ ?_)<;>first | omega | assumption | (exact so) | (rfl))
    · cases n with
      | succ f=>omega
      | zero=>
        rw [allI] at hz
        simp (disch:=omega)only[go_sem, *]
        exact so.froze (fun _=>rfl) trivial (by omega)
  · simp (disch:=omega)only[go_sem, *]
    ((repeat' refine And.intro ?_ ?_)<;>first | omega | assumption | (exact Sl.nil _ _ _) | (rfl))
theorem rall_ev {L:List Run} {M:List (List Bool)} (hq:Sq M) (hs:L.length≤4096):Pf tp i_Q78 [.fl 2 (L.map Run.enc),.fl 1 (M.map encM)] (.fl 3 ((allR L M).map Move.enc)):=by
  refine Pf_go fn_Q78 (by simp [t_Q78]) fun rp=>?_;unfold t_Q78;simp (disch:=omega)only[go_sem, *]
  refine ZC_loop_n (fun n e h=>∃ (f:Nat) (i:Nat) (out:V) (A:List Move),n=f∧h.lim=0∧e 0=.fl 2 (L.map Run.enc)∧e 1=.fl 1 (M.map encM)∧e 5=out∧e 10=.i .i64 L.length∧e 11=.i .i64 i∧i+f=L.length∧A.length≤8192*i∧Sl 0 h 3 out (A.map Move.enc)∧allR L M=allI L M f i A) ?_ _ _ _ ⟨L.length,0,.ns,[],rfl, ?_⟩
  · rintro n e h ⟨f,i,out,A,rfl,hl,e0,e1,e5,e10,e11,ha,hA,so,hz⟩ ih
    rw [ZC_unf Q78_13.eq_1]
    simp (disch:=omega)only[go_sem, *]
    refine Wb_dec (fun hc=>?_) (fun hc=>?_)
    · cases n with
      | zero=>omega
      | succ f=>
        rw [allI] at hz
        have ihA:=ih
        clear ih
        simp (disch:=omega)only[go_sem, *]
        refine ZC_loop_n (fun n e h=>∃ (g:Nat) (j:Nat) (out:V) (B:List Move),n=g∧h.lim=0∧e 0=.fl 2 (L.map Run.enc)∧e 1=.fl 1 (M.map encM)∧e 5=out∧e 10=.i .i64 L.length∧e 11=.i .i64 i∧e 6=.i .i64 i∧e 7=.i .i64 j∧j+g=L.length∧B.length≤8192*i+2*j∧Sl 0 h 3 out (B.map Move.enc)∧allJ L M i (L.length - (i+1)) (i+1) A=allJ L M i g j B) ?_ _ _ _ ⟨L.length - (i+1),i+1,out,A,rfl, ?_⟩
        · rintro n e h ⟨g,j,out,B,rfl,hl,e0,e1,e5,e10,e11,e6,e7,hb,hB,so,hw⟩ ih
          rw [ZC_unf Q78_11.eq_1]
          simp (disch:=omega)only[go_sem, *]
          refine Wb_dec (fun hc2=>?_) (fun hc2=>?_)
          · cases n with
            | zero=>omega
            | succ g=>
              rw [allJ] at hw
              clear ihA
              obtain ⟨olen,obig,olt,olo,oget,oat,orow,ocell,ocells⟩:=so.facts
              have hmv:=rmay_ev (L:=L) (M:=M) (m:=⟨i,j,false⟩) hq
              simp only [Move.enc] at hmv
              have x1:Ext h ((h.alloc ⟨3,[[.i .i64 0,.i .i64 0,.b false]]⟩).put h.next ⟨3,[[.i .i64 i,.i .i64 j,.b false]]⟩):=by (repeat (first | exact Ext.refl _ | refine Ext.alloc ?_ _ | (refine Ext.put ?_ _ _ ?_;rotate_left;(first | omega | (simp only [next_alloc,next_put];omega)))))
              simp (disch:=omega)only[go_sem, *]
              refine Pf.go (hmv) (by simp only [go_sem]) fun _=>?_;simp (disch:=omega)only[go_sem, *]
              refine Wb_of (fun hc3=>?_) (fun hc3=>?_)
              · rw [if_pos hc3] at hw
                clear hmv
                simp (disch:=omega)only[go_sem, *]
                refine app_rule (R:=B.map Move.enc) ((so.ext x1).alloc _) (by simp (disch:=omega)only[go_sem, *]) (Nat.zero_le _) (by simp;omega) ?_
                intro w h4 s4 g4
                have hl4:=g4.lim
                simp (disch:=omega)only[go_sem, *]
                refine ih _ _ _ ?_ ⟨g,j+1,w,B++[⟨i,j,false⟩,⟨i,j,true⟩],rfl, ?_⟩
                · omega
                · simp (disch:=omega)only[go_sem, *]
                  ((repeat' refine And.intro ?_ ?_)<;>first | omega | assumption | ((simp;omega)) | (simpa [Move.enc] using s4))
              · rw [if_neg (by simp [hc3])] at hw
                clear hmv
                simp (disch:=omega)only[go_sem, *]
                refine ih _ _ _ ?_ ⟨g,j+1,out,B,rfl, ?_⟩
                · omega
                · simp (disch:=omega)only[go_sem, *]
                  ((repeat' refine And.intro ?_ ?_)<;>first | omega | assumption | (exact so.ext x1))
          · cases n with
            | succ f=>omega
            | zero=>
              rw [allJ] at hw
              rw [hw] at hz
              clear ih hw
              simp (disch:=omega)only[go_sem, *]
              refine ihA _ _ _ ?_ ⟨f,i+1,out,B,rfl, ?_⟩
              · omega
              · clear ihA
                simp (disch:=omega)only[go_sem, *]
                ((repeat' refine And.intro ?_ ?_)<;>first | omega | assumption | (exact so))
        · simp (disch:=omega)only[go_sem, *]
          ((repeat' refine And.intro ?_ ?_)<;>first | omega | assumption | (exact so) | (rfl))
    · cases n with
      | succ f=>omega
      | zero=>
        rw [allI] at hz
        simp (disch:=omega)only[go_sem, *]
        exact so.froze (fun _=>rfl) trivial (by omega)
  · simp (disch:=omega)only[go_sem, *]
    ((repeat' refine And.intro ?_ ?_)<;>first | omega | assumption | (exact Sl.nil _ _ _) | (rfl))
end Go.Ab.T
namespace Go.Ab.T
open Go Go.Ab
set_option maxHeartbeats 4000000
/-! What moves and tidying do to rows. Plain. -/
def NonNeg (L:List Run):Prop:=∀ r∈L,0≤r.n
def posL (L:List Run):List Run:=L.filter (fun r=>decide (1≤r.n))
theorem tidyGo_pos:∀ (l A:List Run),tidyGo l A=tidyGo (posL l) A
  | [],A=>rfl
  | r::l,A=>by
    by_cases h:r.n<1
    · have e:posL (r::l)=posL l:=by unfold posL;rw [List.filter_cons,if_neg (by simp;omega)]
      rw [tidyGo,if_pos h,e];exact tidyGo_pos l A
    · rw [posL,List.filter_cons,if_pos (by simp;omega),tidyGo,tidyGo,if_neg h,if_neg h]
      split
      · exact tidyGo_pos l _
      · exact tidyGo_pos l _
theorem posL_all {L:List Run}:AllPos (posL L):=fun r hr=>by simpa using (List.mem_filter.1 hr).2
theorem posL_sum:∀ {L:List Run},NonNeg L→sumN (posL L)=sumN L
  | [],_=>rfl
  | r::l,h=>by
    have:=posL_sum (L:=l) (fun q hq=>h q (List.mem_cons_of_mem _ hq))
    have:=h r (List.mem_cons_self ..)
    simp only [posL,List.filter_cons] at *
    split
    · simp only [sumN];omega
    · rename_i h2;simp at h2;simp only [sumN];omega
theorem tidy_of0 {L:List Run} (h:NonNeg L) (hs:sumN L≤4096):TidyOf (posL L) (tidyGo L []):=by
  rw [tidyGo_pos]
  exact tidyOf posL_all (by rw [posL_sum h];omega)
theorem tidy_frm {L:List Run} (h:NonNeg L) (hs:sumN L≤4096):Frm (tidyGo L []):=by
  have t:=tidy_of0 h hs
  exact ⟨t.pos,by rw [t.sum,posL_sum h];exact hs⟩
theorem sumN_set:∀ {L:List Run} {i:Nat} {r:Run},i<L.length→sumN (L.set i r)=sumN L - (nth L i).n+r.n
  | [],i,r,h=>by simp at h
  | a::l,0,r,h=>by simp [sumN,nth];omega
  | a::l,i+1,r,h=>by
    have:=sumN_set (L:=l) (i:=i) (r:=r) (by simpa using h)
    simp only [List.set_cons_succ,sumN,nth_cons,this];omega
section
variable {L:List Run} {t f:Nat}
theorem movd_nn (h:Frm L) (ht:t<L.length) (hf:f<L.length):NonNeg (movd L t f):=fun r hr=>by
  obtain ⟨i,hi,rfl⟩:=List.getElem_of_mem hr
  rw [← nth_eq hi]
  simp only [movd,List.length_set] at hi
  unfold movd
  rw [nth_set (by simpa using hi)]
  split
  · simp
  · rw [nth_set hi]
    split
    · exact addR_big.1
    · have:=h.1.nth hi;omega
theorem sumN_two (h:Frm L) (ht:t<L.length) (hf:f<L.length) (hne:t≠f):(nth L t).n+(nth L f).n≤4096:=by
  have h1:=sumN_set (L:=L) (i:=t) (r:=⟨0,0⟩) ht
  have h2:=sumN_set (L:=L.set t ⟨0,0⟩) (i:=f) (r:=⟨0,0⟩) (by simpa using hf)
  rw [nth_set hf,if_neg hne,h1] at h2
  have h3:0≤sumN ((L.set t ⟨0,0⟩).set f ⟨0,0⟩):=by
    have:NonNeg ((L.set t ⟨0,0⟩).set f ⟨0,0⟩):=fun r hr=>by
      obtain ⟨i,hi,rfl⟩:=List.getElem_of_mem hr
      rw [← nth_eq hi]
      simp only [List.length_set] at hi
      rw [nth_set (by simpa using hi)]
      split
      · simp
      · rw [nth_set hi]
        split
        · simp
        · have:=h.1.nth hi;omega
    rw [← posL_sum this];exact sumN_pos posL_all
  have:=h.2
  simp only at h2
  omega
theorem movd_add (h:Frm L) (ht:t<L.length) (hf:f<L.length) (hne:t≠f):addR (nth L t).n (nth L f).n=(nth L t).n+(nth L f).n:=by
  have h1:=h.1.nth ht;have h2:=h.1.nth hf
  have:=sumN_two h ht hf hne
  exact addR_sum (by omega) (by omega) (by omega)
theorem movd_sum (h:Frm L) (ht:t<L.length) (hf:f<L.length) (hne:t≠f):sumN (movd L t f)=sumN L:=by
  unfold movd
  rw [sumN_set (by simpa using hf),nth_set hf,if_neg hne,sumN_set ht,movd_add h ht hf hne];simp only;omega
theorem posL_movd (h:Frm L) (ht:t<L.length) (hf:f<L.length):(posL (movd L t f)).length<L.length:=by
  have hl:(movd L t f).length=L.length:=by simp [movd]
  rw [← hl]
  unfold posL
  refine Nat.lt_of_le_of_ne (List.length_filter_le _ _) (fun he=>?_)
  rw [List.length_filter_eq_length_iff] at he
  have:=he (nth (movd L t f) f) (nth_mem (by omega))
  unfold movd at this
  rw [nth_set (by simpa using hf),if_pos rfl] at this
  simp at this
end
section
variable {L:List Run} {m:Move}
theorem to_from (h:placesB L m=true):toI m<L.length∧fromI m<L.length∧toI m≠fromI m:=by
  simp only [placesB,decide_eq_true_eq] at h
  unfold toI fromI
  split<;>omega
theorem do_frm (h:Frm L):Frm (doR L m):=by
  unfold doR
  split
  · rename_i hp
    obtain ⟨a,b,c⟩:=to_from hp
    exact tidy_frm (movd_nn h a b) (by rw [movd_sum h a b c];exact h.2)
  · exact h
theorem do_len (h:Frm L) (hp:placesB L m=true):(doR L m).length<L.length:=by
  obtain ⟨a,b,c⟩:=to_from hp
  rw [doR,if_pos hp]
  have t:=(tidy_of0 (movd_nn h a b) (by rw [movd_sum h a b c];exact h.2)).len
  have:=posL_movd h a b
  omega
end
theorem tidy_same:∀ (l B:List Run) (q:Run),AllPos l→(tidyGo l (B++[q])).length≤B.length+1+l.length∧((tidyGo l (B++[q])).length=B.length+1+l.length→tidyGo l (B++[q])=B++[q]++l)
  | [],B,q,_=>by simp [tidyGo]
  | r::l,B,q,h=>by
    have hl:AllPos l:=fun x hx=>h x (List.mem_cons_of_mem _ hx)
    rw [tidy_snoc (h r (List.mem_cons_self ..))]
    split
    · have:=(tidy_same l B ⟨q.part,addR q.n r.n⟩ hl).1
      simp only [List.length_cons]
      exact ⟨by omega,fun he=>by omega⟩
    · obtain ⟨h1,h2⟩:=tidy_same l (B++[q]) r hl
      simp only [List.length_append,List.length_cons,List.length_nil] at h1 h2 ⊢
      exact ⟨by omega,fun he=>by rw [h2 (by omega)];simp⟩
theorem tidy_less {L:List Run} (h:Frm L):(tidyGo L []).length≤L.length∧((tidyGo L []).length=L.length→tidyGo L []=L):=by
  cases L with
  | nil=>simp [tidyGo]
  | cons r l=>
    have hl:AllPos l:=fun x hx=>h.1 x (List.mem_cons_of_mem _ hx)
    rw [tidy_nil (h.1 r (List.mem_cons_self ..))]
    have:=tidy_same l [] r hl
    simp only [List.nil_append,List.length_nil,List.length_cons] at this ⊢
    exact ⟨by omega,fun he=>by rw [this.2 (by omega)];rfl⟩
theorem tidy_frm' {L:List Run} (h:Frm L):Frm (tidyGo L []):=tidy_frm (fun r hr=>by have:=h.1 r hr;omega) h.2
/-! What is drawn, what is done till nothing goes. -/
def drawGo (C:Config) (L:List Run):List Move→List Run×Bool
  | []=>(L,false)
  | m::l=>if holdsR C (doR L m)=0 then (doR L m,true) else drawGo C L l
def drawR (C:Config) (L:List Run):List Run×Bool:=drawGo C L (allR L (depM C))
def mergeR (L:List Run):List Run×Bool:=(tidyGo L [],!decide (tidyGo L []=L))
def validB (C:Config) (a b:List Run):Bool:=!(difR a b (depM C)).2.2&&(decide (holdsR C b=0)&&frameB b)
def fitsB (C:Config) (L:List Run) (m:Move):Bool:=mayB L (depM C) m&&decide (holdsR C (doR L m)=0)
def stuckB (C:Config) (L:List Run):Bool:=!(drawR C L).2
def stepR (C:Config) (L:List Run):List Run×Bool:=
  if (mergeR L).2=true∧validB C L (mergeR L).1=true then ((mergeR L).1,true) else
  if (drawR C L).2=true∧validB C L (drawR C L).1=true then ((drawR C L).1,true) else (L,false)
def runsGo (C:Config):Nat→List Run→Int→List Run×Int
  | 0,L,n=>(L,n)
  | f+1,L,n=>if (stepR C L).2=true then runsGo C f (stepR C L).1 (n+1) else (L,n)
def runsR (C:Config) (L:List Run):List Run×Int:=runsGo C (L.length+1) L 0
theorem depM_sq {C:Config}:Sq (depM C):=mat_sq
theorem mayB_right {L:List Run} {M:List (List Bool)} {i j:Int} {a b:Bool}:mayB L M ⟨i,j,a⟩=mayB L M ⟨i,j,b⟩:=rfl
theorem allJ_mem {L:List Run} {M:List (List Bool)} {i:Nat}:∀ (f j:Nat) (acc:List Move),(∀ m∈acc,mayB L M m=true)→∀ m∈allJ L M i f j acc,mayB L M m=true
  | 0,_,acc,h=>h
  | f+1,j,acc,h=>by
    rw [allJ]
    refine allJ_mem f (j+1) _ (fun m hm=>?_)
    split at hm
    · rename_i hc
      rcases List.mem_append.1 hm with hm | hm
      · exact h m hm
      · simp only [List.mem_cons,List.not_mem_nil,or_false] at hm
        rcases hm with rfl | rfl
        · exact hc
        · rw [mayB_right (b:=false)];exact hc
    · exact h m hm
theorem allI_mem {L:List Run} {M:List (List Bool)}:∀ (f i:Nat) (acc:List Move),(∀ m∈acc,mayB L M m=true)→∀ m∈allI L M f i acc,mayB L M m=true
  | 0,_,acc,h=>h
  | f+1,i,acc,h=>by
    rw [allI]
    exact allI_mem f (i+1) _ (allJ_mem _ _ acc h)
theorem allR_mem {L:List Run} {M:List (List Bool)} {m:Move} (h:m∈allR L M):mayB L M m=true:=allI_mem _ _ [] (fun _ h=>by cases h) m h
theorem may_places {L:List Run} {M:List (List Bool)} {m:Move} (h:mayB L M m=true):placesB L m=true:=by
  unfold mayB at h
  cases hp:placesB L m
  · simp [hp] at h
  · rfl
theorem drawGo_cases {C:Config} {L:List Run}:∀ (l:List Move),(∃ m∈l,drawGo C L l=(doR L m,true)∧holdsR C (doR L m)=0)∨(drawGo C L l=(L,false)∧∀ m∈l,holdsR C (doR L m)≠0)
  | []=>.inr ⟨rfl,fun m hm=>by cases hm⟩
  | m::l=>by
    rw [drawGo]
    split
    · rename_i h;exact .inl ⟨m,List.mem_cons_self ..,rfl,h⟩
    · rename_i h
      rcases drawGo_cases (C:=C) (L:=L) l with ⟨m',h1,h2⟩ | ⟨h1,h2⟩
      · exact .inl ⟨m',List.mem_cons_of_mem _ h1,h2⟩
      · exact .inr ⟨h1,fun m' hm'=>by
          rcases List.mem_cons.1 hm' with rfl | hm'
          · exact h
          · exact h2 _ hm'⟩
theorem draw_cases {C:Config} {L:List Run}:(∃ m∈allR L (depM C),drawR C L=(doR L m,true)∧holdsR C (doR L m)=0)∨(drawR C L=(L,false)∧∀ m∈allR L (depM C),holdsR C (doR L m)≠0):=drawGo_cases _
theorem draw_frm {C:Config} {L:List Run} (h:Frm L):Frm (drawR C L).1:=by
  rcases draw_cases (C:=C) (L:=L) with ⟨m,_,h2,_⟩ | ⟨h2,_⟩
  · rw [h2];exact do_frm h
  · rw [h2];exact h
theorem draw_len {C:Config} {L:List Run} (h:Frm L) (hd:(drawR C L).2=true):(drawR C L).1.length<L.length:=by
  rcases draw_cases (C:=C) (L:=L) with ⟨m,h1,h2,_⟩ | ⟨h2,_⟩
  · rw [h2];exact do_len h (may_places (allR_mem h1))
  · rw [h2] at hd;cases hd
theorem merge_len {L:List Run} (h:Frm L) (hd:(mergeR L).2=true):(mergeR L).1.length<L.length:=by
  have t:=tidy_less h
  have:¬ tidyGo L []=L:=by simpa [mergeR] using hd
  simp only [mergeR]
  rcases Nat.lt_or_ge (tidyGo L []).length L.length with h1 | h1
  · exact h1
  · exact absurd (t.2 (by omega)) this
theorem merge_frm {L:List Run} (h:Frm L):Frm (mergeR L).1:=tidy_frm' h
theorem step_frm {C:Config} {L:List Run} (h:Frm L):Frm (stepR C L).1:=by
  unfold stepR
  split
  · exact merge_frm h
  · split
    · exact draw_frm h
    · exact h
theorem step_len {C:Config} {L:List Run} (h:Frm L) (hs:(stepR C L).2=true):(stepR C L).1.length<L.length:=by
  unfold stepR at *
  split
  · rename_i hc;exact merge_len h hc.1
  · rename_i hn
    rw [if_neg hn] at hs
    split
    · rename_i hc;exact draw_len h hc.1
    · rename_i hm;rw [if_neg hm] at hs;cases hs
theorem runsGo_len {C:Config}:∀ (f:Nat) (L:List Run) (n:Int),Frm L→Frm (runsGo C f L n).1∧(runsGo C f L n).1.length≤L.length∧n≤(runsGo C f L n).2∧(runsGo C f L n).2≤n+f
  | 0,L,n,h=>⟨h,Nat.le_refl _,Int.le_refl _,by simp [runsGo]⟩
  | f+1,L,n,h=>by
    rw [runsGo]
    split
    · rename_i hs
      obtain ⟨a,b,c,d⟩:=runsGo_len (C:=C) f (stepR C L).1 (n+1) (step_frm h)
      have:=step_len h hs
      exact ⟨a,by omega,by omega,by omega⟩
    · exact ⟨h,Nat.le_refl _,Int.le_refl _,by simp only;omega⟩
end Go.Ab.T
namespace Go.Ab.T
open Go Go.Ab
set_option maxHeartbeats 4000000
theorem frm_len:∀ {L:List Run},AllPos L→(L.length:Int)≤sumN L
  | [],_=>by simp [sumN]
  | r::l,h=>by
    have:=frm_len (L:=l) (fun q hq=>h q (List.mem_cons_of_mem _ hq))
    have:=h r (List.mem_cons_self ..)
    simp only [List.length_cons,sumN];omega
theorem Frm.len {L:List Run} (h:Frm L):L.length≤4096:=by
  have:=frm_len h.1;have:=h.2;omega
theorem fits_ev {C:Config} {L:List Run} {m:Move} (hf:Frm L):Pf tp i_Q52 [.agg C.enc,.fl 2 (L.map Run.enc),.agg m.enc] (.b (fitsB C L m)):=by
  refine Pf_go fn_Q52 (by simp [t_Q52]) fun rp=>?_;unfold t_Q52;simp (disch:=omega)only[go_sem, *]
  have hd:=depends_ev (C:=C)
  have hm:=fun M=>may_ev (L:=L) (M:=M) (m:=m)
  have hdo:=do_ev (L:=L) (m:=m) hf.ok
  have hh:=holds_ev (C:=C) (do_frm (m:=m) hf)
  simp only [Config.enc,Move.enc] at hd hm hdo hh
  refine Pf.go (hd) (by simp only [go_sem]) fun _=>?_;simp (disch:=omega)only[go_sem, *]
  refine Pf.go (hm _) (by simp only [go_sem]) fun _=>?_;simp (disch:=omega)only[go_sem, *]
  have hfi:fitsB C L m=(mayB L (depM C) m&&decide (holdsR C (doR L m)=0)):=rfl
  refine Wg_of (fun hc=>?_) (fun hc=>?_)
  · rw [hc,Bool.true_and] at hfi
    simp (disch:=omega)only[go_sem, *]
    refine Pf.go (hdo) (by simp only [go_sem]) fun _=>?_;simp (disch:=omega)only[go_sem, *]
    refine Pf.go (hh) (by simp only [go_sem]) fun _=>?_;simp (disch:=omega)only[go_sem, *]
  · have hfi:fitsB C L m=false:=by rw [hfi,hc];rfl
    simp (disch:=omega)only[go_sem, *]
theorem rowsTidy_ev {L:List Run} {C:Config} (hf:Frm L):Pf tp i_Q80 [.fl 2 (L.map Run.enc),.agg C.enc] (.tup [.fl 2 ((mergeR L).1.map Run.enc),.b (mergeR L).2]):=by
  refine Pf_go fn_Q80 (by simp [t_Q80]) fun rp=>?_;unfold t_Q80;simp (disch:=omega)only[go_sem, *]
  have h1:=tidy_ev hf.ok
  have h3:=rsame3_ev (L:=tidyGo L []) (M:=L)
  unfold mergeR
  refine Pf.go (h1) (by simp only [go_sem]) fun _=>?_;simp (disch:=omega)only[go_sem, *]
  refine Pf.go (h3) (by simp only [go_sem]) fun _=>?_;simp (disch:=omega)only[go_sem, *]
theorem rmerge0_ev {L:List Run} {C:Config} (hf:Frm L):Pf tp i_Q44 [.fl 2 (L.map Run.enc)] (.tup [.fl 2 ((mergeR L).1.map Run.enc),.b (mergeR L).2]):=by
  refine Pf_go fn_Q44 (by simp [t_Q44]) fun rp=>?_;unfold t_Q44;simp (disch:=omega)only[go_sem, *]
  have h1:=refTidy_ev hf.ok
  have h3:=refSame_ev (L:=tidyGo L []) (M:=L)
  unfold mergeR
  refine Pf.go (h1) (by simp only [go_sem]) fun _=>?_;simp (disch:=omega)only[go_sem, *]
  refine Pf.go (h3) (by simp only [go_sem]) fun _=>?_;simp (disch:=omega)only[go_sem, *]
theorem merge_ev {C:Config} {L:List Run} (hf:Frm L):Pf tp i_Q41 [.agg C.enc,.fl 2 (L.map Run.enc)] (.tup [.fl 2 ((mergeR L).1.map Run.enc),.b (mergeR L).2]):=by
  refine Pf_go fn_Q41 (by simp [t_Q41]) fun rp=>?_;unfold t_Q41;simp (disch:=omega)only[go_sem, *]
  have h:=rowsTidy_ev (C:=C) hf
  simp only [Config.enc] at h
  refine Pf.go (h) (by simp only [go_sem]) fun _=>?_;simp (disch:=omega)only[go_sem, *]
theorem rmerge_ev {L:List Run} (hf:Frm L):Pf tp i_Q44 [.fl 2 (L.map Run.enc)] (.tup [.fl 2 ((mergeR L).1.map Run.enc),.b (mergeR L).2]):=rmerge0_ev (C:=⟨[],[],[]⟩) hf
theorem rowsDraw_ev {C:Config} {L:List Run} (hf:Frm L):Pf tp i_Q47 [.fl 2 (L.map Run.enc),.agg C.enc] (.tup [.fl 2 ((drawR C L).1.map Run.enc),.b (drawR C L).2]):=by
  refine Pf_go fn_Q47 (by simp [t_Q47]) fun rp=>?_;unfold t_Q47;simp (disch:=omega)only[go_sem, *]
  have hd:=depends_ev (C:=C)
  have hfi:=fun m=>fits_ev (C:=C) (m:=m) hf
  simp only [Config.enc,Move.enc] at hd hfi
  refine Pf.go (hd) (by simp only [go_sem]) fun _=>?_;simp (disch:=omega)only[go_sem, *]
  refine Pf.go (all_ev depM_sq hf.len) (by simp only [go_sem]) fun _=>?_;simp (disch:=omega)only[go_sem, *]
  have hmem:∀ m∈allR L (depM C),mayB L (depM C) m=true:=fun m h=>allR_mem h
  have hdr:drawR C L=drawGo C L (allR L (depM C)):=rfl
  generalize allR L (depM C)=A at *
  rename_i ra
  have hA:=ra.len
  refine ZC_loop_n (fun n e h=>∃ (k:Nat),n=A.length - k∧h.lim=0∧e 11=.fl 3 (A.map Move.enc)∧e 12=.i .i64 A.length∧e 13=.i .i64 k∧e 0=.fl 2 (L.map Run.enc)∧e 3=.p 0 0 0∧k≤A.length∧h.get 0=some ⟨3,[[.fl 11 (C.parts.map Part.enc),.fl 6 (C.chans.map Chan.enc),.fl 1 (C.tables.map Tab.enc)]]⟩∧1≤h.next∧drawR C L=drawGo C L (A.drop k)) ?_ _ _ _ ⟨0,rfl, ?_⟩
  · rintro n e h ⟨k,rfl,hl,e11,e12,e13,e0,e3,hi,hg,hn,hz⟩ ih
    rw [ZC_unf Q47_7.eq_1]
    simp (disch:=omega)only[go_sem, *]
    clear hdr
    refine Wb_dec (fun hc=>?_) (fun hc=>?_)
    · rw [drop_nth (by omega),drawGo] at hz
      have hm:=hmem _ (nth_mem (L:=A) (j:=k) (by omega))
      have hfx:fitsB C L (nth A k)=decide (holdsR C (doR L (nth A k))=0):=by unfold fitsB;rw [hm,Bool.true_and]
      have hfk:=hfi (nth A k)
      have hdo:=do_ev (L:=L) (m:=nth A k) hf.ok
      simp only [Move.enc] at hdo
      rw [hfx] at hfk
      clear hmem hfi hfx hm hd
      simp (disch:=omega)only[go_sem, *]
      refine Pf.go (hfk) (by simp only [go_sem]) fun _=>?_;simp (disch:=omega)only[go_sem, *]
      refine Wb_dec (fun hc2=>?_) (fun hc2=>?_)
      · rw [if_pos hc2] at hz
        simp (disch:=omega)only[go_sem, *]
        refine Pf.go (hdo) (by simp only [go_sem]) fun _=>?_;simp (disch:=omega)only[go_sem, *]
      · rw [if_neg hc2] at hz
        simp (disch:=omega)only[go_sem, *]
        refine ih _ _ _ ?_ ⟨k+1,rfl, ?_⟩
        · omega
        · simp (disch:=omega)only[go_sem, *]
          ((repeat' refine And.intro ?_ ?_)<;>first | omega | assumption)
    · rw [List.drop_eq_nil_of_le (by omega),drawGo] at hz
      simp (disch:=omega)only[go_sem, *]
      refine Pf.go (cloneRun_ev) (by simp only [go_sem]) fun _=>?_;simp (disch:=omega)only[go_sem, *]
  · simp (disch:=omega)only[go_sem, *]
theorem draw_ev {C:Config} {L:List Run} (hf:Frm L):Pf tp i_Q17 [.agg C.enc,.fl 2 (L.map Run.enc)] (.tup [.fl 2 ((drawR C L).1.map Run.enc),.b (drawR C L).2]):=by
  refine Pf_go fn_Q17 (by simp [t_Q17]) fun rp=>?_;unfold t_Q17;simp (disch:=omega)only[go_sem, *]
  have h:=rowsDraw_ev (C:=C) hf
  simp only [Config.enc] at h
  refine Pf.go (h) (by simp only [go_sem]) fun _=>?_;simp (disch:=omega)only[go_sem, *]
theorem rdraw_ev {C:Config} {L:List Run} (hf:Frm L):Pf tp i_Q40 [.agg C.enc,.fl 2 (L.map Run.enc)] (.tup [.fl 2 ((drawR C L).1.map Run.enc),.b (drawR C L).2]):=by
  refine Pf_go fn_Q40 (by simp [t_Q40]) fun rp=>?_;unfold t_Q40;simp (disch:=omega)only[go_sem, *]
  have hd:=rdepends_ev (C:=C)
  have hL:=hf.len
  simp only [Config.enc] at hd
  refine Pf.go (hd) (by simp only [go_sem]) fun _=>?_;simp (disch:=omega)only[go_sem, *]
  refine Pf.go (rall_ev depM_sq hf.len) (by simp only [go_sem]) fun _=>?_;simp (disch:=omega)only[go_sem, *]
  have hdr:drawR C L=drawGo C L (allR L (depM C)):=rfl
  generalize allR L (depM C)=A at *
  rename_i ra
  have hA:=ra.len
  refine ZC_loop_n (fun n e h=>∃ (k:Nat),n=A.length - k∧h.lim=0∧e 14=.fl 3 (A.map Move.enc)∧e 15=.i .i64 A.length∧e 16=.i .i64 k∧e 1=.fl 2 (L.map Run.enc)∧e 2=.p 0 0 0∧k≤A.length∧h.get 0=some ⟨3,[[.fl 11 (C.parts.map Part.enc),.fl 6 (C.chans.map Chan.enc),.fl 1 (C.tables.map Tab.enc)]]⟩∧1≤h.next∧drawR C L=drawGo C L (A.drop k)) ?_ _ _ _ ⟨0,rfl, ?_⟩
  · rintro n e h ⟨k,rfl,hl,e14,e15,e16,e1,e2,hi,hg,hn,hz⟩ ih
    rw [ZC_unf Q40_9.eq_1]
    simp (disch:=omega)only[go_sem, *]
    clear hdr
    refine Wb_dec (fun hc=>?_) (fun hc=>?_)
    · rw [drop_nth (by omega),drawGo] at hz
      have hdo:=rdo_ev (L:=L) (m:=nth A k) hf.ok
      have hh:=refHolds_ev (C:=C) (do_frm (m:=nth A k) hf)
      simp only [Move.enc,Config.enc] at hdo hh
      clear hd
      simp (disch:=omega)only[go_sem, *]
      refine Pf.go (hdo) (by simp only [go_sem]) fun _=>?_;simp (disch:=omega)only[go_sem, *]
      refine Pf.go (hh) (by simp only [go_sem]) fun _=>?_;simp (disch:=omega)only[go_sem, *]
      refine Wb_dec (fun hc2=>?_) (fun hc2=>?_)
      · rw [if_pos hc2] at hz
        simp (disch:=omega)only[go_sem, *]
      · rw [if_neg hc2] at hz
        simp (disch:=omega)only[go_sem, *]
        refine ih _ _ _ ?_ ⟨k+1,rfl, ?_⟩
        · omega
        · simp (disch:=omega)only[go_sem, *]
          ((repeat' refine And.intro ?_ ?_)<;>first | omega | assumption)
    · rw [List.drop_eq_nil_of_le (by omega),drawGo] at hz
      simp (disch:=omega)only[go_sem, *]
      refine app_rule (R:=[]) (Sl.nil' 0 _ _) (by simp (disch:=omega)only[go_sem, *]) (Nat.zero_le _) (by simp;omega) ?_
      intro w h4 s4 g4
      simp (disch:=omega)only[go_sem, *]
      exact s4.froze (fun _=>rfl) trivial (by omega)
  · simp (disch:=omega)only[go_sem, *]
theorem rstuck_ev {C:Config} {L:List Run} (hf:Frm L):Pf tp i_Q10 [.agg C.enc,.fl 2 (L.map Run.enc)] (.b (stuckB C L)):=by
  refine Pf_go fn_Q10 (by simp [t_Q10]) fun rp=>?_;unfold t_Q10;simp (disch:=omega)only[go_sem, *]
  have h:=rdraw_ev (C:=C) hf
  simp only [Config.enc] at h
  refine Pf.go (h) (by simp only [go_sem]) fun _=>?_;simp (disch:=omega)only[go_sem, *]
  rfl
end Go.Ab.T
namespace Go.Ab.T
open Go Go.Ab
set_option maxHeartbeats 4000000
theorem idxMove {L:List Move} {g:Nat} {caps:List V} {P:Move→Bool} {h0:AH} {K:V→AH→Prop} (hp:∀ x,x∈L→∀ K:V→AH→Prop,K (.b (P x)) h0→Cq tp g (.agg x.enc::caps) h0 K) (k:K (.i .i64 (idxGo P L 0)) h0):Cq tp i_Q85 [.fl 3 (L.map Move.enc),.f (.func g) [] caps] h0 K:=by
  refine Cq_raw_go fn_Q85 (by simp [t_Q85]) fun wf rp=>?_;unfold t_Q85;simp (disch:=omega)only[go_sem, *]
  have hL:=rp.head.len
  refine ZC_loop_n (fun n e h=>∃ (i:Nat),n=L.length - i∧h.lim=h0.lim∧e 6=.fl 3 (L.map Move.enc)∧e 7=.i .i64 L.length∧e 8=.i .i64 i∧e 0=.fl 3 (L.map Move.enc)∧e 1=.f (.func g) [] caps∧i≤L.length∧h=h0∧idxGo P (L.drop i) i=idxGo P L 0) ?_ _ _ _ ⟨0,rfl, ?_⟩
  · rintro n e h ⟨i,rfl,hl,e6,e7,e8,e0,e1,hi,rfl,hz⟩ ih
    rw [ZC_unf Q85_7.eq_1]
    simp (disch:=omega)only[go_sem, *]
    refine Wb_dec (fun hc=>?_) (fun hc=>?_)
    · rw [drop_nth (by omega),idxGo] at hz
      simp (disch:=omega)only[go_sem, *]
      refine hp (nth L i) (nth_mem (by omega)) _ ?_
      simp (disch:=omega)only[go_sem, *]
      refine Wb_of (fun hc2=>?_) (fun hc2=>?_)
      · rw [if_pos hc2] at hz
        simp (disch:=omega)only[go_sem, *]
      · rw [if_neg (by simp [hc2])] at hz
        simp (disch:=omega)only[go_sem, *]
        refine ih _ _ _ ?_ ⟨i+1,rfl, ?_⟩
        · omega
        · simp (disch:=omega)only[go_sem, *]
          ((repeat' refine And.intro ?_ ?_)<;>first | omega | assumption | (skip))
    · rw [List.drop_eq_nil_of_le (by omega),idxGo] at hz
      simp (disch:=omega)only[go_sem, *]
  · simp (disch:=omega)only[go_sem, *]
theorem idxGoMove {P:Move→Bool}:∀ (L:List Move) (i:Int),0≤i→(0≤idxGo P L i↔L.any P=true)
  | [],i,hi=>by simp [idxGo]
  | a::l,i,hi=>by
    rw [idxGo]
    split
    · rename_i h;simp [h,hi]
    · rename_i h;rw [idxGoMove l (i+1) (by omega)];simp [h]
theorem hasMove {L:List Move} {g:Nat} {caps:List V} {P:Move→Bool} {h0:AH} {K:V→AH→Prop} (hp:∀ x,x∈L→∀ K:V→AH→Prop,K (.b (P x)) h0→Cq tp g (.agg x.enc::caps) h0 K) (k:K (.b (L.any P)) h0):Cq tp i_Q48 [.fl 3 (L.map Move.enc),.f (.func g) [] caps] h0 K:=by
  refine Cq_raw_go fn_Q48 (by simp [t_Q48]) fun wf rp=>?_;unfold t_Q48;simp (disch:=omega)only[go_sem, *]
  refine idxMove hp ?_
  simp (disch:=omega)only[go_sem, *]
  have e:(decide (0≤idxGo P L 0))=L.any P:=by rw [Bool.eq_iff_iff];simp only [decide_eq_true_eq];exact idxGoMove L 0 (Int.le_refl _)
  rw [e];exact k
theorem stuck1_ev {C:Config} {L:List Run} {m:Move} {h:AH} {a b:Nat} {K:V→AH→Prop} (hf:Frm L) (ha:h.get a=some ⟨3,[C.enc]⟩) (hb:h.get b=some ⟨1,[[.fl 2 (L.map Run.enc)]]⟩) (hal:a<h.next) (hbl:b<h.next) (k:K (.b (fitsB C L m)) h):Cq tp i_Q51 [.agg m.enc,.p a 0 0,.p b 0 0] h K:=by
  have hfi:=fits_ev (C:=C) (m:=m) hf
  simp only [Move.enc,Config.enc] at *
  refine Cq_same fn_Q51 (by simp [t_Q51]) (k) fun hlm rp=>?_;unfold t_Q51;simp (disch:=omega)only[go_sem, *]
  refine Pf.go (hfi) (by simp only [go_sem]) fun _=>?_;simp (disch:=omega)only[go_sem, *]
  (repeat (first | exact Ext.refl _ | refine Ext.alloc ?_ _ | (refine Ext.put ?_ _ _ ?_;rotate_left;(first | omega | (simp only [next_alloc,next_put];omega)))))
theorem any_draw {C:Config} {L:List Run}:(allR L (depM C)).any (fitsB C L)=(drawR C L).2:=by
  rcases draw_cases (C:=C) (L:=L) with ⟨m,h1,h2,h3⟩ | ⟨h1,h2⟩
  · rw [h2,List.any_eq_true]
    exact ⟨m,h1,by unfold fitsB;rw [allR_mem h1,h3];rfl⟩
  · rw [h1,List.any_eq_false]
    exact fun m hm=>by unfold fitsB;rw [allR_mem hm,decide_eq_false (h2 m hm)];simp
theorem stuck_ev {C:Config} {L:List Run} (hf:Frm L):Pf tp i_Q18 [.agg C.enc,.fl 2 (L.map Run.enc)] (.b (stuckB C L)):=by
  refine Pf_go fn_Q18 (by simp [t_Q18]) fun rp=>?_;unfold t_Q18;simp (disch:=omega)only[go_sem, *]
  have hd:=depends_ev (C:=C)
  simp only [Config.enc] at hd
  refine Pf.go (hd) (by simp only [go_sem]) fun _=>?_;simp (disch:=omega)only[go_sem, *]
  refine Pf.go (all_ev depM_sq hf.len) (by simp only [go_sem]) fun _=>?_;simp (disch:=omega)only[go_sem, *]
  refine hasMove (P:=fitsB C L) (fun x hx K k=>stuck1_ev hf (by simp (disch:=omega)only[go_sem, *]) (by simp (disch:=omega)only[go_sem, *]) (by simp (disch:=omega)only[go_sem, *]) (by simp (disch:=omega)only[go_sem, *]) k) ?_
  have e:=any_draw (C:=C) (L:=L)
  have e2:stuckB C L = !(drawR C L).2:=rfl
  simp (disch:=omega)only[go_sem, *]
theorem valid_ev {C:Config} {a b:List Run} (ha:Frm a) (hb:Frm b):Pf tp i_Q20 [.agg C.enc,.fl 2 (a.map Run.enc),.fl 2 (b.map Run.enc)] (.b (validB C a b)):=by
  refine Pf_go fn_Q20 (by simp [t_Q20]) fun rp=>?_;unfold t_Q20;simp (disch:=omega)only[go_sem, *]
  have hd:=depends_ev (C:=C)
  have hh:=holds_ev (C:=C) hb
  have hv:validB C a b=(!(difR a b (depM C)).2.2&&(decide (holdsR C b=0)&&frameB b)):=rfl
  simp only [Config.enc] at hd hh
  refine Pf.go (hd) (by simp only [go_sem]) fun _=>?_;simp (disch:=omega)only[go_sem, *]
  refine Pf.go (wsame_ev ha hb depM_sq) (by simp only [go_sem]) fun _=>?_;simp (disch:=omega)only[go_sem, *]
  refine Wg_of (fun hc=>?_) (fun hc=>?_)
  · rw [hc,Bool.true_and] at hv
    simp (disch:=omega)only[go_sem, *]
    refine Pf.go (hh) (by simp only [go_sem]) fun _=>?_;simp (disch:=omega)only[go_sem, *]
    refine Wg_dec (fun hc2=>?_) (fun hc2=>?_)
    · rw [decide_eq_true hc2,Bool.true_and] at hv
      simp (disch:=omega)only[go_sem, *]
      refine Pf.go (right3_ev) (by simp only [go_sem]) fun _=>?_;simp (disch:=omega)only[go_sem, *]
    · rw [decide_eq_false hc2,Bool.false_and] at hv
      simp (disch:=omega)only[go_sem, *]
  · rw [hc,Bool.false_and] at hv
    simp (disch:=omega)only[go_sem, *]
theorem rvalid_ev {C:Config} {a b:List Run} (ha:Frm a) (hb:Frm b):Pf tp i_Q45 [.agg C.enc,.fl 2 (a.map Run.enc),.fl 2 (b.map Run.enc)] (.b (validB C a b)):=by
  refine Pf_go fn_Q45 (by simp [t_Q45]) fun rp=>?_;unfold t_Q45;simp (disch:=omega)only[go_sem, *]
  have hd:=rdepends_ev (C:=C)
  have hh:=refHolds_ev (C:=C) hb
  have hv:validB C a b=(!(difR a b (depM C)).2.2&&(decide (holdsR C b=0)&&frameB b)):=rfl
  simp only [Config.enc] at hd hh
  refine Pf.go (hd) (by simp only [go_sem]) fun _=>?_;simp (disch:=omega)only[go_sem, *]
  refine Pf.go (rsame7_ev ha hb depM_sq) (by simp only [go_sem]) fun _=>?_;simp (disch:=omega)only[go_sem, *]
  refine Wg_of (fun hc=>?_) (fun hc=>?_)
  · rw [hc,Bool.true_and] at hv
    simp (disch:=omega)only[go_sem, *]
    refine Pf.go (hh) (by simp only [go_sem]) fun _=>?_;simp (disch:=omega)only[go_sem, *]
    refine Wg_dec (fun hc2=>?_) (fun hc2=>?_)
    · rw [decide_eq_true hc2,Bool.true_and] at hv
      simp (disch:=omega)only[go_sem, *]
      refine Pf.go (refRuns_ev) (by simp only [go_sem]) fun _=>?_;simp (disch:=omega)only[go_sem, *]
    · rw [decide_eq_false hc2,Bool.false_and] at hv
      simp (disch:=omega)only[go_sem, *]
  · rw [hc,Bool.false_and] at hv
    simp (disch:=omega)only[go_sem, *]
end Go.Ab.T
namespace Go.Ab.T
open Go Go.Ab
set_option maxHeartbeats 4000000
theorem pass_ev {g:Nat} {h:AH} {K:V→AH→Prop} (k:K (.f (.func i_Q115) [] [.p h.next 0 0]) (h.alloc ⟨1,[[.f (.func g) [] []]]⟩)):Cq tp i_Q81 [.f (.func g) [] []] h K:=by
  refine Cq_raw_go fn_Q81 (by simp [t_Q81]) fun wf rp=>?_;unfold t_Q81;simp (disch:=omega)only[go_sem, *]
theorem pass1_ev {C:Config} {L:List Run} {g id:Nat} {R1:List Run} {R2:Bool} {h:AH} {K:V→AH→Prop} (hg:h.get id=some ⟨1,[[.f (.func g) [] []]]⟩) (hid:id<h.next) (hp:Pf tp g [.fl 2 (L.map Run.enc),.agg C.enc] (.tup [.fl 2 (R1.map Run.enc),.b R2])) (k:K (.tup [.fl 2 (R1.map Run.enc),.b R2]) h):Cq tp i_Q115 [.agg C.enc,.fl 2 (L.map Run.enc),.p id 0 0] h K:=by
  simp only [Config.enc] at *
  refine Cq_same fn_Q115 (by simp [t_Q115]) (k) fun hlm rp=>?_;unfold t_Q115;simp (disch:=omega)only[go_sem, *]
  refine Pf.go (hp) (by simp only [go_sem]) fun _=>?_;simp (disch:=omega)only[go_sem, *]
  (repeat (first | exact Ext.refl _ | refine Ext.alloc ?_ _ | (refine Ext.put ?_ _ _ ?_;rotate_left;(first | omega | (simp only [next_alloc,next_put];omega)))))
theorem passes_ev {h:AH} {K:V→AH→Prop} (k:K (.sl (h.next+2) 0 2 2) (((h.alloc ⟨1,[[.f (.func i_Q80) [] []]]⟩).alloc ⟨1,[[.f (.func i_Q47) [] []]]⟩).alloc ⟨1,[[.f (.func i_Q115) [] [.p h.next 0 0]],[.f (.func i_Q115) [] [.p (h.next+1) 0 0]]]⟩)):Cq tp i_Q42 [] h K:=by
  refine Cq_raw_go fn_Q42 (by simp [t_Q42]) fun wf rp=>?_;unfold t_Q42;simp (disch:=omega)only[go_sem, *]
  refine pass_ev ?_
  simp (disch:=omega)only[go_sem, *]
  refine pass_ev ?_
  simp (disch:=omega)only[go_sem, *]
theorem redStep_ev {C:Config} {L:List Run} (hf:Frm L):Pf tp i_Q62 [.agg C.enc,.fl 2 (L.map Run.enc)] (.tup [.fl 2 ((stepR C L).1.map Run.enc),.b (stepR C L).2]):=by
  refine Pf_go fn_Q62 (by simp [t_Q62]) fun rp=>?_;unfold t_Q62;simp (disch:=omega)only[go_sem, *]
  have ht:=rowsTidy_ev (C:=C) hf
  have hd:=rowsDraw_ev (C:=C) hf
  have hv1:=valid_ev (C:=C) hf (merge_frm hf)
  have hv2:=valid_ev (C:=C) hf (draw_frm (C:=C) hf)
  have hs:stepR C L=if (mergeR L).2=true∧validB C L (mergeR L).1=true then ((mergeR L).1,true) else if (drawR C L).2=true∧validB C L (drawR C L).1=true then ((drawR C L).1,true) else (L,false):=rfl
  simp only [Config.enc] at hv1 hv2
  refine passes_ev ?_
  simp (disch:=omega)only[go_sem, *]
  refine ZC_loop ?_
  rw [ZC_unf Q62_8.eq_1]
  simp (disch:=omega)only[go_sem, *]
  refine Wb_dec (fun h0=>?_) (fun h0=>absurd h0 (by decide))
  clear h0
  simp (disch:=omega)only[go_sem, *]
  refine pass1_ev (C:=C) (L:=L) (g:=i_Q80) ?_ ?_ ht ?_
  · simp (disch:=omega)only[go_sem, *]
  · simp (disch:=omega)only[go_sem, *]
  clear ht
  simp (disch:=omega)only[go_sem, *]
  refine Wg_of (fun hc=>?_) (fun hc=>?_)
  · simp (disch:=omega)only[go_sem, *]
    refine Pf.go (hv1) (by simp only [go_sem]) fun _=>?_;simp (disch:=omega)only[go_sem, *]
    refine Wb_of (fun hc2=>?_) (fun hc2=>?_)
    · rw [if_pos ⟨hc,hc2⟩] at hs
      simp (disch:=omega)only[go_sem, *]
    · have h2:(¬ ((mergeR L).2=true∧validB C L (mergeR L).1=true)):=by simp [*]
      rw [if_neg h2] at hs
      clear h2
      simp (disch:=omega)only[go_sem, *]
      refine ZC_loop ?_
      rw [ZC_unf Q62_8.eq_1]
      simp (disch:=omega)only[go_sem, *]
      refine Wb_dec (fun h0=>?_) (fun h0=>absurd h0 (by decide))
      clear h0
      simp (disch:=omega)only[go_sem, *]
      refine pass1_ev (C:=C) (L:=L) ?_ ?_ hd ?_
      · simp (disch:=omega)only[go_sem, *]
      · simp (disch:=omega)only[go_sem, *]
      clear hd
      simp (disch:=omega)only[go_sem, *]
      refine Wg_of (fun hc3=>?_) (fun hc3=>?_)
      · simp (disch:=omega)only[go_sem, *]
        refine Pf.go (hv2) (by simp only [go_sem]) fun _=>?_;simp (disch:=omega)only[go_sem, *]
        refine Wb_of (fun hc4=>?_) (fun hc4=>?_)
        · rw [if_pos ⟨hc3,hc4⟩] at hs
          simp (disch:=omega)only[go_sem, *]
        · rw [if_neg (by simp [hc4])] at hs
          simp (disch:=omega)only[go_sem, *]
          refine ZC_loop ?_
          rw [ZC_unf Q62_8.eq_1]
          simp (disch:=omega)only[go_sem, *]
          refine Wb_dec (fun h0=>absurd h0 (by decide)) (fun h0=>?_)
          clear h0
          simp (disch:=omega)only[go_sem, *]
      · rw [if_neg (by simp [hc3])] at hs
        simp (disch:=omega)only[go_sem, *]
        refine ZC_loop ?_
        rw [ZC_unf Q62_8.eq_1]
        simp (disch:=omega)only[go_sem, *]
        refine Wb_dec (fun h0=>absurd h0 (by decide)) (fun h0=>?_)
        clear h0
        simp (disch:=omega)only[go_sem, *]
  · have h2:(¬ ((mergeR L).2=true∧validB C L (mergeR L).1=true)):=by simp [*]
    rw [if_neg h2] at hs
    clear h2
    simp (disch:=omega)only[go_sem, *]
    refine ZC_loop ?_
    rw [ZC_unf Q62_8.eq_1]
    simp (disch:=omega)only[go_sem, *]
    refine Wb_dec (fun h0=>?_) (fun h0=>absurd h0 (by decide))
    clear h0
    simp (disch:=omega)only[go_sem, *]
    refine pass1_ev (C:=C) (L:=L) ?_ ?_ hd ?_
    · simp (disch:=omega)only[go_sem, *]
    · simp (disch:=omega)only[go_sem, *]
    clear hd
    simp (disch:=omega)only[go_sem, *]
    refine Wg_of (fun hc3=>?_) (fun hc3=>?_)
    · simp (disch:=omega)only[go_sem, *]
      refine Pf.go (hv2) (by simp only [go_sem]) fun _=>?_;simp (disch:=omega)only[go_sem, *]
      refine Wb_of (fun hc4=>?_) (fun hc4=>?_)
      · rw [if_pos ⟨hc3,hc4⟩] at hs
        simp (disch:=omega)only[go_sem, *]
      · rw [if_neg (by simp [hc4])] at hs
        simp (disch:=omega)only[go_sem, *]
        refine ZC_loop ?_
        rw [ZC_unf Q62_8.eq_1]
        simp (disch:=omega)only[go_sem, *]
        refine Wb_dec (fun h0=>absurd h0 (by decide)) (fun h0=>?_)
        clear h0
        simp (disch:=omega)only[go_sem, *]
    · rw [if_neg (by simp [hc3])] at hs
      simp (disch:=omega)only[go_sem, *]
      refine ZC_loop ?_
      rw [ZC_unf Q62_8.eq_1]
      simp (disch:=omega)only[go_sem, *]
      refine Wb_dec (fun h0=>absurd h0 (by decide)) (fun h0=>?_)
      clear h0
      simp (disch:=omega)only[go_sem, *]
theorem redRuns_ev {C:Config} {L:List Run} (hf:Frm L):Pf tp i_Q27 [.agg C.enc,.fl 2 (L.map Run.enc)] (.tup [.fl 2 ((runsR C L).1.map Run.enc),.i .i64 (runsR C L).2]):=by
  refine Pf_go fn_Q27 (by simp [t_Q27]) fun rp=>?_;unfold t_Q27;simp (disch:=omega)only[go_sem, *]
  refine Pf.go (cloneRun_ev) (by simp only [go_sem]) fun _=>?_;simp (disch:=omega)only[go_sem, *]
  have hl0:=hf.len
  refine ZC_loop_n (fun n e h=>∃ (f:Nat) (X:List Run) (k:Int),n=f∧h.lim=0∧e 2=.p 0 0 0∧e 6=.fl 2 (X.map Run.enc)∧e 7=.f (.func i_Q62) [] []∧e 8=.i .i64 k∧h.get 0=some ⟨3,[[.fl 11 (C.parts.map Part.enc),.fl 6 (C.chans.map Chan.enc),.fl 1 (C.tables.map Tab.enc)]]⟩∧1≤h.next∧Frm X∧X.length<f∧0≤k∧k+f≤10000∧runsR C L=runsGo C f X k) ?_ _ _ _ ⟨L.length+1,L,0,rfl, ?_⟩
  · rintro n e h ⟨f,X,k,rfl,hl,e2,e6,e7,e8,hg,hn,fx,hlx,hk,hk2,hz⟩ ih
    rw [ZC_unf Q27_9.eq_1]
    simp (disch:=omega)only[go_sem, *]
    cases n with
    | zero=>omega
    | succ f=>
      rw [runsGo] at hz
      have hs:=redStep_ev (C:=C) fx
      have hsf:=step_frm (C:=C) fx
      have hsl:=step_len (C:=C) fx
      simp only [Config.enc] at hs
      refine Pf.go (hs) (by simp only [go_sem]) fun _=>?_;simp (disch:=omega)only[go_sem, *]
      refine Wb_of (fun hc=>?_) (fun hc=>?_)
      · have hc:(stepR C X).2=false:=by simpa using hc
        rw [if_neg (by simp [hc])] at hz
        clear hs ih hsl
        simp (disch:=omega)only[go_sem, *]
      · have hc:(stepR C X).2=true:=by simpa using hc
        rw [if_pos hc] at hz
        have hsl:=hsl hc
        clear hs
        simp (disch:=omega)only[go_sem, *]
        refine ih _ _ _ ?_ ⟨f,(stepR C X).1,k+1,rfl, ?_⟩
        · omega
        · simp (disch:=omega)only[go_sem, *]
          ((repeat' refine And.intro ?_ ?_)<;>first | omega | assumption | (exact hsf))
  · simp (disch:=omega)only[go_sem, *]
    ((repeat' refine And.intro ?_ ?_)<;>first | omega | assumption | (exact hf) | (rfl))
theorem rruns_ev {C:Config} {L:List Run} (hf:Frm L):Pf tp i_Q43 [.agg C.enc,.fl 2 (L.map Run.enc)] (.tup [.fl 2 ((runsR C L).1.map Run.enc),.i .i64 (runsR C L).2]):=by
  refine Pf_go fn_Q43 (by simp [t_Q43]) fun rp=>?_;unfold t_Q43;simp (disch:=omega)only[go_sem, *]
  have hl0:=hf.len
  refine ZC_loop_n (fun n e h=>∃ (f:Nat) (X:List Run) (k:Int),n=f∧h.lim=0∧e 1=.fl 2 (X.map Run.enc)∧e 2=.p 0 0 0∧e 6=.i .i64 k∧h.get 0=some ⟨3,[[.fl 11 (C.parts.map Part.enc),.fl 6 (C.chans.map Chan.enc),.fl 1 (C.tables.map Tab.enc)]]⟩∧1≤h.next∧Frm X∧X.length<f∧0≤k∧k+f≤10000∧runsR C L=runsGo C f X k) ?_ _ _ _ ⟨L.length+1,L,0,rfl, ?_⟩
  · rintro n e h ⟨f,X,k,rfl,hl,e1,e2,e6,hg,hn,fx,hlx,hk,hk2,hz⟩ ih
    rw [ZC_unf Q43_9.eq_1]
    simp (disch:=omega)only[go_sem, *]
    cases n with
    | zero=>omega
    | succ f=>
      rw [runsGo] at hz
      have hm:=rmerge_ev fx
      have hd:=rdraw_ev (C:=C) fx
      have hv1:=rvalid_ev (C:=C) fx (merge_frm fx)
      have hv2:=rvalid_ev (C:=C) fx (draw_frm (C:=C) fx)
      have hs:stepR C X=if (mergeR X).2=true∧validB C X (mergeR X).1=true then ((mergeR X).1,true) else if (drawR C X).2=true∧validB C X (drawR C X).1=true then ((drawR C X).1,true) else (X,false):=rfl
      have hsf:=step_frm (C:=C) fx
      have hsl:=step_len (C:=C) fx
      have hxl:=fx.len
      simp only [Config.enc] at hd hv1 hv2
      refine Pf.go (hm) (by simp only [go_sem]) fun _=>?_;simp (disch:=omega)only[go_sem, *]
      refine Wg_of (fun hc=>?_) (fun hc=>?_)
      · rw [if_neg (by rintro ⟨h1,h2⟩;first | (simp [h1] at hc;done) | (simp [h2] at hc2;done) | (simp [h1] at hc3;done) | (simp [h2] at hc4;done))] at hs
        simp (disch:=omega)only[go_sem, *]
        refine Pf.go (hd) (by simp only [go_sem]) fun _=>?_;simp (disch:=omega)only[go_sem, *]
        refine Wg_of (fun hc3=>?_) (fun hc3=>?_)
        · rw [if_neg (by rintro ⟨h1,h2⟩;first | (simp [h1] at hc;done) | (simp [h2] at hc2;done) | (simp [h1] at hc3;done) | (simp [h2] at hc4;done))] at hs
          rw [hs] at hz
          rw [if_neg (by simp)] at hz
          clear hs hm hd hv1 hv2 hsl ih
          simp (disch:=omega)only[go_sem, *]
          refine app_rule (R:=[]) (Sl.nil' 0 _ _) (by simp (disch:=omega)only[go_sem, *]) (Nat.zero_le _) (by simp;omega) ?_
          intro w h4 s4 g4
          simp (disch:=omega)only[go_sem, *]
          exact s4.froze (fun _=>rfl) trivial (by omega)
        · have hc3:(drawR C X).2=true:=by simpa using hc3
          simp (disch:=omega)only[go_sem, *]
          refine Pf.go (hv2) (by simp only [go_sem]) fun _=>?_;simp (disch:=omega)only[go_sem, *]
          refine Wb_of (fun hc4=>?_) (fun hc4=>?_)
          · rw [if_neg (by rintro ⟨h1,h2⟩;first | (simp [h1] at hc;done) | (simp [h2] at hc2;done) | (simp [h1] at hc3;done) | (simp [h2] at hc4;done))] at hs
            rw [hs] at hz
            rw [if_neg (by simp)] at hz
            clear hs hm hd hv1 hv2 hsl ih
            simp (disch:=omega)only[go_sem, *]
            refine app_rule (R:=[]) (Sl.nil' 0 _ _) (by simp (disch:=omega)only[go_sem, *]) (Nat.zero_le _) (by simp;omega) ?_
            intro w h4 s4 g4
            simp (disch:=omega)only[go_sem, *]
            exact s4.froze (fun _=>rfl) trivial (by omega)
          · have hc4:validB C X (drawR C X).1=true:=by simpa using hc4
            rw [if_pos ⟨hc3,hc4⟩] at hs
            · have hY:=hs
              rw [hY] at hz hsf hsl
              rw [if_pos rfl] at hz
              have hsl:=hsl rfl
              clear hs hY hm hd hv1 hv2
              try simp (disch:=omega)only[go_sem, *]
              refine ih _ _ _ ?_ ⟨f,(drawR C X).1,k+1,rfl, ?_⟩
              · omega
              · simp (disch:=omega)only[go_sem, *]
                ((repeat' refine And.intro ?_ ?_)<;>first | omega | assumption | (exact hsf) | ((simp only at hsl;omega)))
      · have hc:(mergeR X).2=true:=by simpa using hc
        simp (disch:=omega)only[go_sem, *]
        refine Pf.go (hv1) (by simp only [go_sem]) fun _=>?_;simp (disch:=omega)only[go_sem, *]
        refine Wb_of (fun hc2=>?_) (fun hc2=>?_)
        · rw [if_neg (by rintro ⟨h1,h2⟩;first | (simp [h1] at hc;done) | (simp [h2] at hc2;done) | (simp [h1] at hc3;done) | (simp [h2] at hc4;done))] at hs
          simp (disch:=omega)only[go_sem, *]
          refine Pf.go (hd) (by simp only [go_sem]) fun _=>?_;simp (disch:=omega)only[go_sem, *]
          refine Wg_of (fun hc3=>?_) (fun hc3=>?_)
          · rw [if_neg (by rintro ⟨h1,h2⟩;first | (simp [h1] at hc;done) | (simp [h2] at hc2;done) | (simp [h1] at hc3;done) | (simp [h2] at hc4;done))] at hs
            rw [hs] at hz
            rw [if_neg (by simp)] at hz
            clear hs hm hd hv1 hv2 hsl ih
            simp (disch:=omega)only[go_sem, *]
            refine app_rule (R:=[]) (Sl.nil' 0 _ _) (by simp (disch:=omega)only[go_sem, *]) (Nat.zero_le _) (by simp;omega) ?_
            intro w h4 s4 g4
            simp (disch:=omega)only[go_sem, *]
            exact s4.froze (fun _=>rfl) trivial (by omega)
          · have hc3:(drawR C X).2=true:=by simpa using hc3
            simp (disch:=omega)only[go_sem, *]
            refine Pf.go (hv2) (by simp only [go_sem]) fun _=>?_;simp (disch:=omega)only[go_sem, *]
            refine Wb_of (fun hc4=>?_) (fun hc4=>?_)
            · rw [if_neg (by rintro ⟨h1,h2⟩;first | (simp [h1] at hc;done) | (simp [h2] at hc2;done) | (simp [h1] at hc3;done) | (simp [h2] at hc4;done))] at hs
              rw [hs] at hz
              rw [if_neg (by simp)] at hz
              clear hs hm hd hv1 hv2 hsl ih
              simp (disch:=omega)only[go_sem, *]
              refine app_rule (R:=[]) (Sl.nil' 0 _ _) (by simp (disch:=omega)only[go_sem, *]) (Nat.zero_le _) (by simp;omega) ?_
              intro w h4 s4 g4
              simp (disch:=omega)only[go_sem, *]
              exact s4.froze (fun _=>rfl) trivial (by omega)
            · have hc4:validB C X (drawR C X).1=true:=by simpa using hc4
              rw [if_pos ⟨hc3,hc4⟩] at hs
              · have hY:=hs
                rw [hY] at hz hsf hsl
                rw [if_pos rfl] at hz
                have hsl:=hsl rfl
                clear hs hY hm hd hv1 hv2
                try simp (disch:=omega)only[go_sem, *]
                refine ih _ _ _ ?_ ⟨f,(drawR C X).1,k+1,rfl, ?_⟩
                · omega
                · simp (disch:=omega)only[go_sem, *]
                  ((repeat' refine And.intro ?_ ?_)<;>first | omega | assumption | (exact hsf) | ((simp only at hsl;omega)))
        · have hc2:validB C X (mergeR X).1=true:=by simpa using hc2
          rw [if_pos ⟨hc,hc2⟩] at hs
          simp (disch:=omega)only[go_sem, *]
          refine Pf.go (hv1) (by simp only [go_sem]) fun _=>?_;simp (disch:=omega)only[go_sem, *]
          · have hY:=hs
            rw [hY] at hz hsf hsl
            rw [if_pos rfl] at hz
            have hsl:=hsl rfl
            clear hs hY hm hd hv1 hv2
            try simp (disch:=omega)only[go_sem, *]
            refine ih _ _ _ ?_ ⟨f,(mergeR X).1,k+1,rfl, ?_⟩
            · omega
            · simp (disch:=omega)only[go_sem, *]
              ((repeat' refine And.intro ?_ ?_)<;>first | omega | assumption | (exact hsf) | ((simp only at hsl;omega)))
  · simp (disch:=omega)only[go_sem, *]
    ((repeat' refine And.intro ?_ ?_)<;>first | omega | assumption | (exact hf) | (rfl))
end Go.Ab.T
namespace Go.Ab.T
open Go Go.Ab
set_option maxHeartbeats 4000000
def agGo {α:Type} [DecidableEq α] (X:List α) (i p:Nat):Nat→Nat→Nat
  | 0,k=>k
  | f+1,k=>if i+(k+1)*p≤X.length∧(X.drop i).take p=(X.drop (i+k*p)).take p then agGo X i p f (k+1) else k
def agR {α:Type} [DecidableEq α] (X:List α) (i p:Nat):Nat:=agGo X i p X.length 1
theorem equalInt_ev {L M:List Int}:Pf tp i_Q130 [.fl 1 (L.map encI),.fl 1 (M.map encI)] (.b (decide (L=M))):=by
  refine Pf_go fn_Q130 (by simp [t_Q130]) fun rp=>?_;unfold t_Q130;simp (disch:=omega)only[go_sem, *]
  have hL:=rp.head.len
  have hM:=rp.tail.head.len
  refine Wb_dec (fun hc=>?_) (fun hc=>?_)
  · simp (disch:=omega)only[go_sem, *]
    simp only [false_eq_decide_iff]
    rintro rfl;exact hc rfl
  · simp (disch:=omega)only[go_sem, *]
    refine ZC_loop_n (fun n e h=>∃ (i:Nat),n=L.length - i∧h.lim=0∧e 0=.fl 1 (L.map encI)∧e 1=.fl 1 (M.map encI)∧e 12=.i .i64 L.length∧e 13=.i .i64 i∧i≤L.length∧L.take i=M.take i) ?_ _ _ _ ⟨0,rfl, ?_⟩
    · rintro n e h ⟨i,rfl,hl,e0,e1,e12,e13,hi,hz⟩ ih
      rw [ZC_unf Q130_9.eq_1]
      simp (disch:=omega)only[go_sem, *]
      refine Wb_dec (fun hc2=>?_) (fun hc2=>?_)
      · simp (disch:=omega)only[go_sem, *]
        refine Wb_dec (fun hc3=>?_) (fun hc3=>?_)
        · simp (disch:=omega)only[go_sem, *]
          simp only [false_eq_decide_iff]
          exact eq_no (i:=i) (by omega) hc3
        · have he:=Decidable.not_not.1 hc3
          simp (disch:=omega)only[go_sem, *]
          refine ih _ _ _ ?_ ⟨i+1,rfl, ?_⟩
          · omega
          · simp (disch:=omega)only[go_sem, *]
            ((repeat' refine And.intro ?_ ?_)<;>first | omega | assumption | (exact eq_step (by omega) (by omega) hz he))
      · simp (disch:=omega)only[go_sem, *]
        simp only [true_eq_decide_iff]
        rw [List.take_of_length_le (by omega),List.take_of_length_le (by omega)] at hz
        exact hz
    · simp (disch:=omega)only[go_sem, *]
      first | done | simp
theorem again_ev {I:List Int} {i p:Nat} (hI:I.length≤4096) (hp:1≤p) (hap:i+2*p≤I.length):Pf tp i_Q101 [.fl 1 (I.map encI),.i .i64 i,.i .i64 p] (.i .i64 (agR I i p:Nat)):=by
  refine Pf_go fn_Q101 (by simp [t_Q101]) fun rp=>?_;unfold t_Q101;simp (disch:=omega)only[go_sem, *]
  refine ZC_loop_n (fun n e h=>∃ (f:Nat) (k:Nat),n=f∧h.lim=0∧e 0=.fl 1 (I.map encI)∧e 1=.i .i64 i∧e 2=.i .i64 p∧e 7=.i .i64 k∧1≤k∧k+f=I.length+1∧agR I i p=agGo I i p f k) ?_ _ _ _ ⟨I.length,1,rfl, ?_⟩
  · rintro n e h ⟨f,k,rfl,hl,e0,e1,e2,e7,hk,hf,hz⟩ ih
    rw [ZC_unf Q101_4.eq_1]
    simp (disch:=omega)only[go_sem, *]
    have hQ:((k:Int)+1)*p=((k+1)*p:Nat):=by simp
    have hR:(k:Int)*p=(k*p:Nat):=by simp
    have hQR:(k+1)*p=k*p+p:=by rw [Nat.add_mul,Nat.one_mul]
    have hb:k*p≤4097*4096:=Nat.mul_le_mul (by omega) (by omega)
    have hkp:k≤k*p:=by have:=Nat.mul_le_mul (Nat.le_refl k) hp;omega
    have e1:((i:Int)+p).toNat=i+p:=by omega
    have e2:((i:Int)+(k*p:Nat)).toNat=i+k*p:=by omega
    have e3:((i:Int)+((k*p:Nat)+p)).toNat=i+(k*p+p):=by omega
    generalize hY:(k+1)*p=Y at *
    generalize hZ:k*p=Z at *
    simp (disch:=omega)only[go_sem, *]
    refine Wg_dec (fun hc=>?_) (fun hc=>?_)
    · have s1:List.take (i+p - i) (List.drop i (I.map encI))=((I.drop i).take p).map encI:=by rw [Nat.add_sub_cancel_left];simp [List.map_take,List.map_drop]
      have s2:List.take (i+(Z+p) - (i+Z)) (List.drop (i+Z) (I.map encI))=((I.drop (i+Z)).take p).map encI:=by rw [show i+(Z+p) - (i+Z)=p by omega];simp [List.map_take,List.map_drop]
      simp (disch:=omega)only[go_sem, *]
      refine Pf.go (equalInt_ev) (by simp only [go_sem]) fun _=>?_;simp (disch:=omega)only[go_sem, *]
      refine Wb_dec (fun hc2=>?_) (fun hc2=>?_)
      · cases n with
        | zero=>omega
        | succ f=>
          rw [agGo,hZ,hY,if_pos ⟨by omega,hc2⟩] at hz
          simp (disch:=omega)only[go_sem, *]
          refine ih _ _ _ ?_ ⟨f,k+1,rfl, ?_⟩
          · omega
          · simp (disch:=omega)only[go_sem, *]
            ((repeat' refine And.intro ?_ ?_)<;>first | omega | assumption)
      · have hz2:agR I i p=k:=by
          rw [hz]
          cases n with
          | zero=>rfl
          | succ f=>rw [agGo,hZ,hY,if_neg (fun h=>hc2 h.2)]
        clear hz
        simp (disch:=omega)only[go_sem, *]
    · have hz2:agR I i p=k:=by
        rw [hz]
        cases n with
        | zero=>rfl
        | succ f=>rw [agGo,hZ,hY,if_neg (fun h=>hc (by omega))]
      clear hz
      simp (disch:=omega)only[go_sem, *]
  · simp (disch:=omega)only[go_sem, *]
    ((repeat' refine And.intro ?_ ?_)<;>first | omega | assumption | (rfl))
end Go.Ab.T
namespace Go.Ab.T
open Go Go.Ab
set_option maxHeartbeats 4000000
theorem eq_step2 {α:Type} [Inhabited α] {L M:List α} {i:Nat} (hi:i<L.length) (hj:i<M.length) (ht:L.take i=M.take i) (he:nth L i=nth M i):L.take (i+1)=M.take (i+1):=by
  rw [List.take_add_one,List.take_add_one,ht,nth_get hi,nth_get hj,he]
theorem nth_drop {α:Type} [Inhabited α] {L:List α} {a i:Nat}:nth (L.drop a) i=nth L (a+i):=by simp [nth,List.getD]
theorem nth_take {α:Type} [Inhabited α] {L:List α} {a i:Nat} (h:i<a):nth (L.take a) i=nth L i:=by simp [nth,List.getD,List.getElem?_take_of_lt h]
theorem times_ev {X:List (List Node)} {i p:Nat} (hI:X.length≤4096) (hp:1≤p) (hap:i+2*p≤X.length):Pf tp i_Q136 [.fl 1 (X.map Tab.enc),.i .i64 i,.i .i64 p] (.i .i64 (agR X i p:Nat)):=by
  refine Pf_go fn_Q136 (by simp [t_Q136]) fun rp=>?_;unfold t_Q136;simp (disch:=omega)only[go_sem, *]
  refine ZC_loop_n (fun n e h=>∃ (f:Nat) (k:Nat),n=f∧h.lim=0∧e 0=.fl 1 (X.map Tab.enc)∧e 1=.i .i64 i∧e 2=.i .i64 p∧e 7=.i .i64 k∧1≤k∧k+f=X.length+1∧agR X i p=agGo X i p f k) ?_ _ _ _ ⟨X.length,1,rfl, ?_⟩
  · rintro n e h ⟨f,k,rfl,hl,e0,e1,e2,e7,hk,hf,hz⟩ ih
    rw [ZC_unf Q136_10.eq_1]
    simp (disch:=omega)only[go_sem, *]
    have hQ:((k:Int)+1)*p=((k+1)*p:Nat):=by simp
    have hR:(k:Int)*p=(k*p:Nat):=by simp
    have hQR:(k+1)*p=k*p+p:=by rw [Nat.add_mul,Nat.one_mul]
    have hb:k*p≤4097*4096:=Nat.mul_le_mul (by omega) (by omega)
    have hkp:k≤k*p:=by have:=Nat.mul_le_mul (Nat.le_refl k) hp;omega
    generalize hY:(k+1)*p=Y at *
    generalize hZ:k*p=Z at *
    simp (disch:=omega)only[go_sem, *]
    refine Wb_dec (fun hc=>?_) (fun hc=>?_)
    · have ihA:=ih
      have kA:=hk;have nA:=n
      cases n with
      | zero=>omega
      | succ f=>
        rw [agGo,hZ,hY] at hz
        clear ih
        simp (disch:=omega)only[go_sem, *]
        refine ZC_loop_n (fun n e h=>∃ (j:Nat),n=p - j∧h.lim=0∧e 0=.fl 1 (X.map Tab.enc)∧e 1=.i .i64 i∧e 2=.i .i64 p∧e 7=.i .i64 k∧e 8=.i .i64 j∧j≤p∧(X.drop i).take j=(X.drop (i+Z)).take j) ?_ _ _ _ ⟨0,rfl, ?_⟩
        · rintro n e h ⟨j,rfl,hl,e0,e1,e2,e7,e8,hj,hw⟩ ih
          rw [ZC_unf Q136_8.eq_1]
          simp (disch:=omega)only[go_sem, *]
          refine Wb_dec (fun hc2=>?_) (fun hc2=>?_)
          · have e1:((i:Int)+j).toNat=i+j:=by omega
            have e2:((i:Int)+Z+j).toNat=i+Z+j:=by omega
            clear ihA
            simp (disch:=omega)only[go_sem, *]
            refine Pf.go (refNodes_ev) (by simp only [go_sem]) fun _=>?_;simp (disch:=omega)only[go_sem, *]
            refine Wb_dec (fun hc3=>?_) (fun hc3=>?_)
            · have h2:¬ (i+Y≤X.length∧(X.drop i).take p=(X.drop (i+Z)).take p):=fun h=>by
                have:=congrArg (fun l=>nth l j) h.2
                simp only [nth_take (show j<p by omega),nth_drop] at this
                exact hc3 this
              rw [if_neg h2] at hz
              simp (disch:=omega)only[go_sem, *]
            · have he:=Decidable.not_not.1 hc3
              have hw2:=eq_step2 (L:=X.drop i) (M:=X.drop (i+Z)) (i:=j) (by simp;omega) (by simp;omega) hw (by rw [nth_drop,nth_drop];exact he)
              simp (disch:=omega)only[go_sem, *]
              refine ih _ _ _ ?_ ⟨j+1,rfl, ?_⟩
              · omega
              · simp (disch:=omega)only[go_sem, *]
                ((repeat' refine And.intro ?_ ?_)<;>first | omega | assumption | (exact hw2))
          · obtain rfl:j=p:=by omega
            rw [if_pos ⟨by omega,hw⟩] at hz
            clear ih
            simp (disch:=omega)only[go_sem, *]
            refine ihA _ _ _ ?_ ⟨f,k+1,rfl, ?_⟩
            · omega
            · simp (disch:=omega)only[go_sem, *]
              ((repeat' refine And.intro ?_ ?_)<;>first | omega | assumption)
        · simp (disch:=omega)only[go_sem, *]
    · have hz2:agR X i p=k:=by
        rw [hz]
        cases n with
        | zero=>rfl
        | succ f=>rw [agGo,hZ,hY,if_neg (fun h=>hc (by omega))]
      clear hz
      simp (disch:=omega)only[go_sem, *]
  · simp (disch:=omega)only[go_sem, *]
    ((repeat' refine And.intro ?_ ?_)<;>first | omega | assumption | (rfl))
structure St where
  i:Nat
  p:Nat
  n:Nat
  s:Int
  deriving Inhabited,DecidableEq
@[go_sem] def St.enc (x:St):List V:=[.i .i64 x.i,.i .i64 x.p,.i .i64 x.n,.i .i64 x.s]
def svs (z:Int) (n p:Nat):Int:=z*(n - 1) - 1 - (if 1<p then 1 else 0)
def betP (sz:Nat→Int) (tm:Nat→Nat→Nat) (i:Nat):Nat→Nat→Int→St→St
  | 0,_,_,st=>st
  | f+1,p,z,st=>betP sz tm i f (p+1) (z+sz (i+p - 1)) (if 1<tm i p∧st.s<svs (z+sz (i+p - 1)) (tm i p) p then ⟨i,p,tm i p,svs (z+sz (i+p - 1)) (tm i p) p⟩ else st)
def betA (len:Nat) (sz:Nat→Int) (tm:Nat→Nat→Nat):Nat→Nat→St→St
  | 0,_,st=>st
  | f+1,i,st=>betA len sz tm f (i+1) (betP sz tm i ((len - i) / 2) 1 0 st)
def betR (len:Nat) (sz:Nat→Int) (tm:Nat→Nat→Nat):St:=betA len sz tm len 0 ⟨0,0,0,0⟩
end Go.Ab.T
namespace Go.Ab.T
open Go Go.Ab
set_option maxHeartbeats 4000000
theorem agGo_bd {α:Type} [DecidableEq α] {X:List α} {i p:Nat}:∀ (f k:Nat),k≤agGo X i p f k∧agGo X i p f k≤k+f
  | 0,k=>by simp [agGo]
  | f+1,k=>by
    rw [agGo]
    split
    · have:=agGo_bd (X:=X) (i:=i) (p:=p) f (k+1);omega
    · omega
theorem agR_bd {α:Type} [DecidableEq α] {X:List α} {i p:Nat}:1≤agR X i p∧agR X i p≤X.length+1:=by
  have:=agGo_bd (X:=X) (i:=i) (p:=p) X.length 1
  unfold agR;omega
theorem svs_bd {z:Int} {n p:Nat} (h0:0≤z) (h1:z≤16777216) (hn:1≤n) (hn2:n≤4097):0≤z*((n:Int) - 1)∧z*((n:Int) - 1)≤68719476736:=
  ⟨Int.mul_nonneg h0 (by omega),by have:=Int.mul_le_mul h1 (show (n:Int) - 1≤4096 by omega) (by omega) (by omega);omega⟩
theorem best_ev {I S:List Int} (hI:I.length≤4096) (hS:S.length=I.length) (hs:∀ j,j<S.length→0≤nth S j∧nth S j≤4096):Pf tp i_Q64 [.fl 1 (I.map encI),.fl 1 (S.map encI)] (.agg (betR I.length (nth S) (agR I)).enc):=by
  refine Pf_go fn_Q64 (by simp [t_Q64]) fun rp=>?_;unfold t_Q64;simp (disch:=omega)only[go_sem, *]
  refine ZC_loop_n (fun n e h=>∃ (f:Nat) (i:Nat) (st:St),n=f∧h.lim=0∧e 0=.fl 1 (I.map encI)∧e 1=.fl 1 (S.map encI)∧e 4=.p 0 0 0∧e 5=.p 1 0 0∧e 12=.i .i64 I.length∧e 13=.i .i64 i∧i+f=I.length∧betR I.length (nth S) (agR I)=betA I.length (nth S) (agR I) f i st∧2≤h.next∧h.get 0=some ⟨4,[[.i .i64 0,.i .i64 0,.i .i64 0,.i .i64 0]]⟩∧h.get 1=some ⟨4,[[.i .i64 st.i,.i .i64 st.p,.i .i64 st.n,.i .i64 st.s]]⟩) ?_ _ _ _ ⟨I.length,0,⟨0,0,0,0⟩,rfl, ?_⟩
  · rintro n e h ⟨f,i,st,rfl,hl,e0,e1,e4,e5,e12,e13,hf,hz,hn,hg0,hg⟩ ih
    rw [ZC_unf Q64_18.eq_1]
    simp (disch:=omega)only[go_sem, *]
    refine Wb_dec (fun hc=>?_) (fun hc=>?_)
    · have ihA:=ih
      cases n with
      | zero=>omega
      | succ f=>
        rw [betA] at hz
        clear ih
        simp (disch:=omega)only[go_sem, *]
        refine ZC_loop_n (fun n e h=>∃ (g:Nat) (p:Nat) (z:Int) (s2:St),n=g∧h.lim=0∧e 0=.fl 1 (I.map encI)∧e 1=.fl 1 (S.map encI)∧e 4=.p 0 0 0∧e 5=.p 1 0 0∧e 12=.i .i64 I.length∧e 13=.i .i64 i∧e 6=.i .i64 i∧e 7=.i .i64 z∧e 8=.i .i64 p∧1≤p∧g+p=(I.length - i) / 2+1∧0≤z∧z≤4096*((p:Int) - 1)∧betP (nth S) (agR I) i ((I.length - i) / 2) 1 0 st=betP (nth S) (agR I) i g p z s2∧2≤h.next∧h.get 0=some ⟨4,[[.i .i64 0,.i .i64 0,.i .i64 0,.i .i64 0]]⟩∧h.get 1=some ⟨4,[[.i .i64 s2.i,.i .i64 s2.p,.i .i64 s2.n,.i .i64 s2.s]]⟩) ?_ _ _ _ ⟨(I.length - i) / 2,1,0,st,rfl, ?_⟩
        · rintro n e h ⟨g,p,z,s2,rfl,hl,e0,e1,e4,e5,e12,e13,e6,e7,e8,hp,hgp,hz0,hz1,hw,hn,hg0,hg⟩ ih
          rw [ZC_unf Q64_16.eq_1]
          simp (disch:=omega)only[go_sem, *]
          refine Wb_dec (fun hc2=>?_) (fun hc2=>?_)
          · cases n with
            | zero=>omega
            | succ g=>
              rw [betP] at hw
              clear ihA
              have hag:=again_ev (I:=I) (i:=i) (p:=p) hI hp (by omega)
              have hbd:=agR_bd (X:=I) (i:=i) (p:=p)
              have hsj:=hs (i+p - 1) (by omega)
              have e1:((i:Int)+p - 1).toNat=i+p - 1:=by omega
              have hsv:∀ m,svs (z+nth S (i+p - 1)) m p=(z+nth S (i+p - 1))*((m:Int) - 1) - 1 - (if 1<p then 1 else 0):=fun m=>rfl
              have hmb:=svs_bd (z:=z+nth S (i+p - 1)) (n:=agR I i p) (p:=p) (by omega) (by omega) hbd.1 (by omega)
              have hsv:=hsv (agR I i p)
              generalize agR I i p=N at *
              generalize hzz:z+nth S (i+p - 1)=zz at *
              generalize hmm:zz*((N:Int) - 1)=mm at *
              simp (disch:=omega)only[go_sem, *]
              refine Pf.go (hag) (by simp only [go_sem]) fun _=>?_;simp (disch:=omega)only[go_sem, *]
              refine Wb_dec (fun hc3=>?_) (fun hc3=>?_)
              · rw [if_pos (show 1<p by omega)] at hsv
                have hsv:svs zz N p=(mm - 1 - 1):=by omega
                rw [hsv] at hw
                rename_i hsv0 _ _ _ _
                clear hsv0 hag
                simp (disch:=omega)only[go_sem, *]
                refine Wg_dec (fun hc4=>?_) (fun hc4=>?_)
                · simp (disch:=omega)only[go_sem, *]
                  refine Wb_dec (fun hc5=>?_) (fun hc5=>?_)
                  · rw [if_pos ⟨by omega,by omega⟩] at hw
                    simp (disch:=omega)only[go_sem, *]
                    refine ih _ _ _ ?_ ⟨g,p+1,zz,⟨i,p,N,(mm - 1 - 1)⟩,rfl, ?_⟩
                    · omega
                    · simp (disch:=omega)only[go_sem, *]
                      ((repeat' refine And.intro ?_ ?_)<;>first | omega | assumption)
                  · rw [if_neg (by omega)] at hw
                    simp (disch:=omega)only[go_sem, *]
                    refine ih _ _ _ ?_ ⟨g,p+1,zz,s2,rfl, ?_⟩
                    · omega
                    · simp (disch:=omega)only[go_sem, *]
                      ((repeat' refine And.intro ?_ ?_)<;>first | omega | assumption)
                · rw [if_neg (by omega)] at hw
                  simp (disch:=omega)only[go_sem, *]
                  refine ih _ _ _ ?_ ⟨g,p+1,zz,s2,rfl, ?_⟩
                  · omega
                  · simp (disch:=omega)only[go_sem, *]
                    ((repeat' refine And.intro ?_ ?_)<;>first | omega | assumption)
              · rw [if_neg (show ¬ 1<p by omega)] at hsv
                have hsv:svs zz N p=(mm - 1):=by omega
                rw [hsv] at hw
                rename_i hsv0 _ _ _ _
                clear hsv0 hag
                simp (disch:=omega)only[go_sem, *]
                refine Wg_dec (fun hc4=>?_) (fun hc4=>?_)
                · simp (disch:=omega)only[go_sem, *]
                  refine Wb_dec (fun hc5=>?_) (fun hc5=>?_)
                  · rw [if_pos ⟨by omega,by omega⟩] at hw
                    simp (disch:=omega)only[go_sem, *]
                    refine ih _ _ _ ?_ ⟨g,p+1,zz,⟨i,p,N,(mm - 1)⟩,rfl, ?_⟩
                    · omega
                    · simp (disch:=omega)only[go_sem, *]
                      ((repeat' refine And.intro ?_ ?_)<;>first | omega | assumption)
                  · rw [if_neg (by omega)] at hw
                    simp (disch:=omega)only[go_sem, *]
                    refine ih _ _ _ ?_ ⟨g,p+1,zz,s2,rfl, ?_⟩
                    · omega
                    · simp (disch:=omega)only[go_sem, *]
                      ((repeat' refine And.intro ?_ ?_)<;>first | omega | assumption)
                · rw [if_neg (by omega)] at hw
                  simp (disch:=omega)only[go_sem, *]
                  refine ih _ _ _ ?_ ⟨g,p+1,zz,s2,rfl, ?_⟩
                  · omega
                  · simp (disch:=omega)only[go_sem, *]
                    ((repeat' refine And.intro ?_ ?_)<;>first | omega | assumption)
          · cases n with
            | succ g=>omega
            | zero=>
              rw [betP] at hw
              rw [hw] at hz
              clear ih hw
              simp (disch:=omega)only[go_sem, *]
              refine ihA _ _ _ ?_ ⟨f,i+1,s2,rfl, ?_⟩
              · omega
              · simp (disch:=omega)only[go_sem, *]
                ((repeat' refine And.intro ?_ ?_)<;>first | omega | assumption)
        · simp (disch:=omega)only[go_sem, *]
          ((repeat' refine And.intro ?_ ?_)<;>first | omega | assumption | (rfl))
    · cases n with
      | succ f=>omega
      | zero=>
        rw [betA] at hz
        simp (disch:=omega)only[go_sem, *]
  · simp (disch:=omega)only[go_sem, *]
    ((repeat' refine And.intro ?_ ?_)<;>first | omega | assumption | (rfl))
theorem rbest_ev {X:List (List Node)} (hI:X.length≤4096) (hs:∀ j,j<X.length→(nth X j).length≤4096):Pf tp i_Q117 [.fl 1 (X.map Tab.enc)] (.tup [.i .i64 (betR X.length (fun j=>(nth X j).length) (agR X)).i,.i .i64 (betR X.length (fun j=>(nth X j).length) (agR X)).p,.i .i64 (betR X.length (fun j=>(nth X j).length) (agR X)).n]):=by
  refine Pf_go fn_Q117 (by simp [t_Q117]) fun rp=>?_;unfold t_Q117;simp (disch:=omega)only[go_sem, *]
  refine ZC_loop_n (fun n e h=>∃ (f:Nat) (i:Nat) (st:St),n=f∧h.lim=0∧e 0=.fl 1 (X.map Tab.enc)∧e 5=.i .i64 st.i∧e 6=.i .i64 st.p∧e 7=.i .i64 st.n∧e 8=.i .i64 st.s∧e 15=.i .i64 X.length∧e 16=.i .i64 i∧i+f=X.length∧betR X.length (fun j=>(nth X j).length) (agR X)=betA X.length (fun j=>(nth X j).length) (agR X) f i st) ?_ _ _ _ ⟨X.length,0,⟨0,0,0,0⟩,rfl, ?_⟩
  · rintro n e h ⟨f,i,st,rfl,hl,e0,e5,e6,e7,e8,e15,e16,hf,hz⟩ ih
    rw [ZC_unf Q117_18.eq_1]
    simp (disch:=omega)only[go_sem, *]
    refine Wb_dec (fun hc=>?_) (fun hc=>?_)
    · have ihA:=ih
      cases n with
      | zero=>omega
      | succ f=>
        rw [betA] at hz
        clear ih
        simp (disch:=omega)only[go_sem, *]
        refine ZC_loop_n (fun n e h=>∃ (g:Nat) (p:Nat) (z:Int) (s2:St),n=g∧h.lim=0∧e 0=.fl 1 (X.map Tab.enc)∧e 5=.i .i64 s2.i∧e 6=.i .i64 s2.p∧e 7=.i .i64 s2.n∧e 8=.i .i64 s2.s∧e 15=.i .i64 X.length∧e 16=.i .i64 i∧e 9=.i .i64 i∧e 10=.i .i64 z∧e 11=.i .i64 p∧1≤p∧g+p=(X.length - i) / 2+1∧0≤z∧z≤4096*((p:Int) - 1)∧betP (fun j=>(nth X j).length) (agR X) i ((X.length - i) / 2) 1 0 st=betP (fun j=>(nth X j).length) (agR X) i g p z s2) ?_ _ _ _ ⟨(X.length - i) / 2,1,0,st,rfl, ?_⟩
        · rintro n e h ⟨g,p,z,s2,rfl,hl,e0,e5,e6,e7,e8,e15,e16,e9,e10,e11,hp,hgp,hz0,hz1,hw⟩ ih
          rw [ZC_unf Q117_16.eq_1]
          simp (disch:=omega)only[go_sem, *]
          refine Wb_dec (fun hc2=>?_) (fun hc2=>?_)
          · cases n with
            | zero=>omega
            | succ g=>
              rw [betP] at hw
              clear ihA
              have hag:=times_ev (X:=X) (i:=i) (p:=p) hI hp (by omega)
              have hbd:=agR_bd (X:=X) (i:=i) (p:=p)
              have hsj:=hs (i+p - 1) (by omega)
              have e1:((i:Int)+p - 1).toNat=i+p - 1:=by omega
              have hsv:∀ m,svs (z+((nth X (i+p - 1)).length:Nat)) m p=(z+((nth X (i+p - 1)).length:Nat))*((m:Int) - 1) - 1 - (if 1<p then 1 else 0):=fun m=>rfl
              have hmb:=svs_bd (z:=z+((nth X (i+p - 1)).length:Nat)) (n:=agR X i p) (p:=p) (by omega) (by omega) hbd.1 (by omega)
              have hsv:=hsv (agR X i p)
              generalize agR X i p=N at *
              generalize hzz:z+((nth X (i+p - 1)).length:Nat)=zz at *
              generalize hmm:zz*((N:Int) - 1)=mm at *
              simp (disch:=omega)only[go_sem, *]
              refine Pf.go (hag) (by simp only [go_sem]) fun _=>?_;simp (disch:=omega)only[go_sem, *]
              refine Wb_dec (fun hc3=>?_) (fun hc3=>?_)
              · rw [if_pos (show 1<p by omega)] at hsv
                have hsv:svs zz N p=(mm - 1 - 1):=by omega
                rw [hsv] at hw
                rename_i hsv0 _ _ _ _
                clear hsv0 hag
                simp (disch:=omega)only[go_sem, *]
                refine Wg_dec (fun hc4=>?_) (fun hc4=>?_)
                · simp (disch:=omega)only[go_sem, *]
                  refine Wb_dec (fun hc5=>?_) (fun hc5=>?_)
                  · rw [if_pos ⟨by omega,by omega⟩] at hw
                    simp (disch:=omega)only[go_sem, *]
                    refine ih _ _ _ ?_ ⟨g,p+1,zz,⟨i,p,N,(mm - 1 - 1)⟩,rfl, ?_⟩
                    · omega
                    · simp (disch:=omega)only[go_sem, *]
                      ((repeat' refine And.intro ?_ ?_)<;>first | omega | assumption)
                  · rw [if_neg (by omega)] at hw
                    simp (disch:=omega)only[go_sem, *]
                    refine ih _ _ _ ?_ ⟨g,p+1,zz,s2,rfl, ?_⟩
                    · omega
                    · simp (disch:=omega)only[go_sem, *]
                      ((repeat' refine And.intro ?_ ?_)<;>first | omega | assumption)
                · rw [if_neg (by omega)] at hw
                  simp (disch:=omega)only[go_sem, *]
                  refine ih _ _ _ ?_ ⟨g,p+1,zz,s2,rfl, ?_⟩
                  · omega
                  · simp (disch:=omega)only[go_sem, *]
                    ((repeat' refine And.intro ?_ ?_)<;>first | omega | assumption)
              · rw [if_neg (show ¬ 1<p by omega)] at hsv
                have hsv:svs zz N p=(mm - 1):=by omega
                rw [hsv] at hw
                rename_i hsv0 _ _ _ _
                clear hsv0 hag
                simp (disch:=omega)only[go_sem, *]
                refine Wg_dec (fun hc4=>?_) (fun hc4=>?_)
                · simp (disch:=omega)only[go_sem, *]
                  refine Wb_dec (fun hc5=>?_) (fun hc5=>?_)
                  · rw [if_pos ⟨by omega,by omega⟩] at hw
                    simp (disch:=omega)only[go_sem, *]
                    refine ih _ _ _ ?_ ⟨g,p+1,zz,⟨i,p,N,(mm - 1)⟩,rfl, ?_⟩
                    · omega
                    · simp (disch:=omega)only[go_sem, *]
                      ((repeat' refine And.intro ?_ ?_)<;>first | omega | assumption)
                  · rw [if_neg (by omega)] at hw
                    simp (disch:=omega)only[go_sem, *]
                    refine ih _ _ _ ?_ ⟨g,p+1,zz,s2,rfl, ?_⟩
                    · omega
                    · simp (disch:=omega)only[go_sem, *]
                      ((repeat' refine And.intro ?_ ?_)<;>first | omega | assumption)
                · rw [if_neg (by omega)] at hw
                  simp (disch:=omega)only[go_sem, *]
                  refine ih _ _ _ ?_ ⟨g,p+1,zz,s2,rfl, ?_⟩
                  · omega
                  · simp (disch:=omega)only[go_sem, *]
                    ((repeat' refine And.intro ?_ ?_)<;>first | omega | assumption)
          · cases n with
            | succ g=>omega
            | zero=>
              rw [betP] at hw
              rw [hw] at hz
              clear ih hw
              simp (disch:=omega)only[go_sem, *]
              refine ihA _ _ _ ?_ ⟨f,i+1,s2,rfl, ?_⟩
              · omega
              · simp (disch:=omega)only[go_sem, *]
                ((repeat' refine And.intro ?_ ?_)<;>first | omega | assumption)
        · simp (disch:=omega)only[go_sem, *]
          ((repeat' refine And.intro ?_ ?_)<;>first | omega | assumption | (rfl))
    · cases n with
      | succ f=>omega
      | zero=>
        rw [betA] at hz
        simp (disch:=omega)only[go_sem, *]
  · simp (disch:=omega)only[go_sem, *]
    ((repeat' refine And.intro ?_ ?_)<;>first | omega | assumption | (rfl))
end Go.Ab.T
namespace Go.Ab.T
open Go Go.Ab
set_option maxHeartbeats 4000000
def leafN (r:Run):Node:=if r.part = -1 then ⟨2,0,r.n⟩ else ⟨1,r.part,r.n⟩
def leavesX (L:List Run):List (List Node):=L.map fun r=>[leafN r]
theorem leaf_ev {r:Run}:Pf tp i_Q100 [.agg r.enc] (.agg (leafN r).enc):=by
  refine Pf_go fn_Q100 (by simp [t_Q100]) fun rp=>?_;unfold t_Q100;simp (disch:=omega)only[go_sem, *]
  refine Wb_dec (fun hc=>?_) (fun hc=>?_)
  · have e:leafN r=⟨2,0,r.n⟩:=if_pos hc
    simp (disch:=omega)only[go_sem, *]
  · have e:leafN r=⟨1,r.part,r.n⟩:=if_neg hc
    simp (disch:=omega)only[go_sem, *]
theorem rleaf_ev {r:Run}:Pf tp i_Q135 [.agg r.enc] (.agg (leafN r).enc):=by
  refine Pf_go fn_Q135 (by simp [t_Q135]) fun rp=>?_;unfold t_Q135;simp (disch:=omega)only[go_sem, *]
  refine Wb_dec (fun hc=>?_) (fun hc=>?_)
  · have e:leafN r=⟨2,0,r.n⟩:=if_pos hc
    simp (disch:=omega)only[go_sem, *]
  · have e:leafN r=⟨1,r.part,r.n⟩:=if_neg hc
    simp (disch:=omega)only[go_sem, *]
structure NestH (b sz:Nat) (h:AH) (v:V) (W:List (List V)) (R:List (List (List V))):Prop where
  out:Sl b h 1 v W
  len:R.length=W.length
  row:∀ i,i<W.length→∃ id,nth W i=[V.sl id 0 (nth R i).length (nth R i).length]∧h.get id=some ⟨sz,nth R i⟩∧b≤id∧id<h.next∧id≠idV v
theorem NestH.ext {b sz:Nat} {h h':AH} {v:V} {W:List (List V)} {R:List (List (List V))} (m:NestH b sz h v W R) (x:Ext h h'):NestH b sz h' v W R:=
  ⟨m.out.ext x,m.len,fun i hi=>by
    obtain ⟨id,a1,a2,a3,a4,a5⟩:=m.row i hi
    exact ⟨id,a1,(x.get _ a4).trans a2,a3,by have:=x.next;omega,a5⟩⟩
theorem NestH.push {b sz id : Nat} {h h1 h4 : AH} {v w : V} {W : List (List V)} {R : List (List (List V))} {r : List (List V)} (m : NestH b sz h v W R) (hb : b ≤ h.next) (x : Ext h h1) (hid : h.next ≤ id) (hlt : id < h1.next) (hg : h1.get id = some ⟨sz, r⟩)
    (s4:Sl b h4 1 w (W++[[.sl id 0 r.length r.length]])) (g4:Grown b h1 v w h4):NestH b sz h4 w (W++[[.sl id 0 r.length r.length]]) (R++[r]):=by
  have hl:=m.len
  have hn:=g4.next
  have hvlow:=sl_low m.out
  have hw:nilV w=false:=by
    rcases s4 with ⟨_,h2⟩ | ⟨id,el,cap,cs,rfl,_⟩
    · simp at h2
    · rfl
  have hwid:∀ j,j<h1.next→(nilV v=true∨j≠idV v)→j≠idV w:=fun j hj hv=>by
    rcases g4.own with h2 | ⟨h2,h3⟩ | h2
    · rw [hw] at h2;cases h2
    · rw [h2] at hv;rw [h3];exact hv.resolve_left (by simp)
    · omega
  refine ⟨s4,by simp [hl],fun i hi=>?_⟩
  simp only [List.length_append,List.length_cons,List.length_nil] at hi
  by_cases e:i<W.length
  · obtain ⟨d,a1,a2,a3,a4,a5⟩:=m.row i e
    have:=x.next
    rw [nth_app_l e,nth_app_l (by omega)]
    exact ⟨d,a1,by rw [g4.get _ (by omega) (.inr a5),x.get _ a4];exact a2,a3,by omega,hwid _ (by omega) (.inr a5)⟩
  · obtain rfl:i=W.length:=by omega
    rw [nth_app_r,←hl,nth_app_r]
    have hv:nilV v=true∨id≠idV v:=hvlow.imp (fun h=>h) (fun h=>by omega)
    exact ⟨id,rfl,by rw [g4.get _ hlt hv];exact hg,by omega,by omega,hwid _ hlt hv⟩
theorem frz_rows {b k:Nat} {h:AH} {v:V} {W R:List (List V)} {P:Nat→Prop} (s:Sl b h 1 v W) (key:Frzr P h 0 W R) (hP:∀ i,b≤i→P i) (hL:W.length<4000000000):Frz P h k v (.fl 1 R):=by
  rcases s with ⟨hv,hR⟩ | ⟨id,el,cap,cs,rfl,a,c,d,e,f,g1,g2⟩
  · subst hR
    have:R=[]:=List.length_eq_zero_iff.1 (by have:=key.len;simpa using this.symm)
    rw [this]
    rcases hv with rfl | rfl
    · exact .ns _ _
    · exact .e0 _ _
  · refine .sl _ id el _ cap 1 cs _ (hP _ g1) a (by omega) e (by simpa [frzLen] using hL) ?_
    rw [d];exact key
theorem NestH.frz {b sz k:Nat} {h:AH} {v:V} {W:List (List V)} {R:List (List (List V))} {P:Nat→Prop} (m:NestH b sz h v W R) (hP:∀ i,b≤i→P i) (hL:W.length<4000000000) (hr:∀ r∈R,r.length<4000000000∧Frzr P h 0 r r):Frz P h k v (.fl 1 (R.map fun r=>[.fl sz r])):=by
  have hl:=m.len
  have key:Frzr P h 0 W (R.map fun r=>[V.fl sz r]):=frzr_of (by simp;omega) (fun i hi=>by
    obtain ⟨id,a1,a2,a3,a4,a5⟩:=m.row i hi
    have hq:=hr (nth R i) (nth_mem (by omega))
    rw [a1,nth_map (by omega)]
    exact .cons _ _ _ _ _ (.sl _ _ _ _ _ _ _ _ (hP _ a3) a2 (by simp) (Nat.le_refl _) (by simpa [frzLen] using hq.1) (by rw [List.drop_zero,List.take_length];exact hq.2)) (.nil _))
  exact frz_rows m.out key (hP) hL
theorem leaves_ev {L:List Run}:Pf tp i_Q63 [.fl 2 (L.map Run.enc)] (.fl 1 ((leavesX L).map Tab.enc)):=by
  refine Pf_go fn_Q63 (by simp [t_Q63]) fun rp=>?_;unfold t_Q63;simp (disch:=omega)only[go_sem, *]
  have hL:=rp.head.len
  refine ZC_loop_n (fun n e h=>∃ (i:Nat) (out:V) (W:List (List V)),n=L.length - i∧h.lim=0∧e 6=.fl 2 (L.map Run.enc)∧e 7=.i .i64 L.length∧e 8=.i .i64 i∧e 3=out∧i≤L.length∧W.length=i∧NestH 0 3 h out W ((leavesX (L.take i)).map fun x=>x.map Node.enc)) ?_ _ _ _ ⟨0,.ns,[],rfl, ?_⟩
  · rintro n e h ⟨i,out,W,rfl,hl,e6,e7,e8,e3,hi,hW,mh⟩ ih
    rw [ZC_unf Q63_7.eq_1]
    simp (disch:=omega)only[go_sem, *]
    refine Wb_dec (fun hc=>?_) (fun hc=>?_)
    · have hlf:=leaf_ev (r:=nth L i)
      simp only [Run.enc,Node.enc] at hlf
      simp (disch:=omega)only[go_sem, *]
      refine Pf.go (hlf) (by simp only [go_sem]) fun _=>?_;simp (disch:=omega)only[go_sem, *]
      have x1:Ext h ((((h.alloc ⟨2,[[.i .i64 0,.i .i64 0]]⟩).put h.next ⟨2,[[.i .i64 (nth L i).part,.i .i64 (nth L i).n]]⟩).alloc ⟨3,[[.i .i64 (leafN (nth L i)).kind,.i .i64 (leafN (nth L i)).part,.i .i64 (leafN (nth L i)).n]]⟩).alloc ⟨1,[[.sl (h.next+1) 0 1 1]]⟩):=by (repeat (first | exact Ext.refl _ | refine Ext.alloc ?_ _ | (refine Ext.put ?_ _ _ ?_;rotate_left;(first | omega | (simp only [next_alloc,next_put];omega)))))
      refine app_rule (mh.out.ext x1) (by simp (disch:=omega)only[go_sem, *]) (Nat.zero_le _) (by simp;omega) ?_
      intro w h4 s4 g4
      have hl4:=g4.lim
      have m4:=mh.push (id:=h.next+1) (r:=[[.i .i64 (leafN (nth L i)).kind,.i .i64 (leafN (nth L i)).part,.i .i64 (leafN (nth L i)).n]]) (Nat.zero_le _) x1 (by omega) (by simp [next_alloc,next_put]) (by simp [get_alloc,get_put,next_alloc,next_put,gsel]) s4 g4
      have e:(leavesX (L.take (i+1))).map (fun x=>x.map Node.enc)=(leavesX (L.take i)).map (fun x=>x.map Node.enc)++[[[.i .i64 (leafN (nth L i)).kind,.i .i64 (leafN (nth L i)).part,.i .i64 (leafN (nth L i)).n]]]:=by
        rw [take_snoc (by omega)];simp [leavesX,Node.enc]
      rw [← e] at m4
      clear mh s4 g4 x1 e
      simp (disch:=omega)only[go_sem, *]
      refine ih _ _ _ ?_ ⟨i+1,w,W++[[.sl (h.next+1) 0 1 1]],rfl, ?_⟩
      · omega
      · simp (disch:=omega)only[go_sem, *]
        ((repeat' refine And.intro ?_ ?_)<;>first | omega | assumption | ((simp;omega)) | (exact m4))
    · obtain rfl:i=L.length:=by omega
      rw [List.take_length] at mh
      have fr:=mh.frz (P:=fun _=>True) (k:=0) (fun _ _=>trivial) (by omega) (fun r hr=>by
        obtain ⟨x,hx,rfl⟩:=List.mem_map.1 hr
        obtain ⟨q,_,rfl⟩:=List.mem_map.1 hx
        exact ⟨by simp,Frzr.of_map (fun _=>rfl) _⟩)
      have e:(leavesX L).map Tab.enc=((leavesX L).map fun x=>x.map Node.enc).map fun r=>[V.fl 3 r]:=by rw [List.map_map];rfl
      rw [← e] at fr
      clear e
      simp (disch:=omega)only[go_sem, *]
  · simp (disch:=omega)only[go_sem, *]
    exact ⟨Sl.nil _ _ _,rfl,fun i hi=>by simp at hi⟩
theorem ritems_ev {L:List Run}:Pf tp i_Q116 [.fl 2 (L.map Run.enc)] (.fl 1 ((leavesX L).map Tab.enc)):=by
  refine Pf_go fn_Q116 (by simp [t_Q116]) fun rp=>?_;unfold t_Q116;simp (disch:=omega)only[go_sem, *]
  have hL:=rp.head.len
  refine ZC_loop_n (fun n e h=>∃ (i:Nat) (out:V) (W:List (List V)),n=L.length - i∧h.lim=0∧e 6=.fl 2 (L.map Run.enc)∧e 7=.i .i64 L.length∧e 8=.i .i64 i∧e 3=out∧i≤L.length∧W.length=i∧NestH 0 3 h out W ((leavesX (L.take i)).map fun x=>x.map Node.enc)) ?_ _ _ _ ⟨0,.ns,[],rfl, ?_⟩
  · rintro n e h ⟨i,out,W,rfl,hl,e6,e7,e8,e3,hi,hW,mh⟩ ih
    rw [ZC_unf Q116_7.eq_1]
    simp (disch:=omega)only[go_sem, *]
    refine Wb_dec (fun hc=>?_) (fun hc=>?_)
    · have hlf:=rleaf_ev (r:=nth L i)
      simp only [Run.enc,Node.enc] at hlf
      simp (disch:=omega)only[go_sem, *]
      refine Pf.go (hlf) (by simp only [go_sem]) fun _=>?_;simp (disch:=omega)only[go_sem, *]
      have x1:Ext h ((((h.alloc ⟨2,[[.i .i64 0,.i .i64 0]]⟩).put h.next ⟨2,[[.i .i64 (nth L i).part,.i .i64 (nth L i).n]]⟩).alloc ⟨3,[[.i .i64 (leafN (nth L i)).kind,.i .i64 (leafN (nth L i)).part,.i .i64 (leafN (nth L i)).n]]⟩).alloc ⟨1,[[.sl (h.next+1) 0 1 1]]⟩):=by (repeat (first | exact Ext.refl _ | refine Ext.alloc ?_ _ | (refine Ext.put ?_ _ _ ?_;rotate_left;(first | omega | (simp only [next_alloc,next_put];omega)))))
      refine app_rule (mh.out.ext x1) (by simp (disch:=omega)only[go_sem, *]) (Nat.zero_le _) (by simp;omega) ?_
      intro w h4 s4 g4
      have hl4:=g4.lim
      have m4:=mh.push (id:=h.next+1) (r:=[[.i .i64 (leafN (nth L i)).kind,.i .i64 (leafN (nth L i)).part,.i .i64 (leafN (nth L i)).n]]) (Nat.zero_le _) x1 (by omega) (by simp [next_alloc,next_put]) (by simp [get_alloc,get_put,next_alloc,next_put,gsel]) s4 g4
      have e:(leavesX (L.take (i+1))).map (fun x=>x.map Node.enc)=(leavesX (L.take i)).map (fun x=>x.map Node.enc)++[[[.i .i64 (leafN (nth L i)).kind,.i .i64 (leafN (nth L i)).part,.i .i64 (leafN (nth L i)).n]]]:=by
        rw [take_snoc (by omega)];simp [leavesX,Node.enc]
      rw [← e] at m4
      clear mh s4 g4 x1 e
      simp (disch:=omega)only[go_sem, *]
      refine ih _ _ _ ?_ ⟨i+1,w,W++[[.sl (h.next+1) 0 1 1]],rfl, ?_⟩
      · omega
      · simp (disch:=omega)only[go_sem, *]
        ((repeat' refine And.intro ?_ ?_)<;>first | omega | assumption | ((simp;omega)) | (exact m4))
    · obtain rfl:i=L.length:=by omega
      rw [List.take_length] at mh
      have fr:=mh.frz (P:=fun _=>True) (k:=0) (fun _ _=>trivial) (by omega) (fun r hr=>by
        obtain ⟨x,hx,rfl⟩:=List.mem_map.1 hr
        obtain ⟨q,_,rfl⟩:=List.mem_map.1 hx
        exact ⟨by simp,Frzr.of_map (fun _=>rfl) _⟩)
      have e:(leavesX L).map Tab.enc=((leavesX L).map fun x=>x.map Node.enc).map fun r=>[V.fl 3 r]:=by rw [List.map_map];rfl
      rw [← e] at fr
      clear e
      simp (disch:=omega)only[go_sem, *]
  · simp (disch:=omega)only[go_sem, *]
    exact ⟨Sl.nil _ _ _,rfl,fun i hi=>by simp at hi⟩
end Go.Ab.T
namespace Go.Ab.T
open Go Go.Ab
set_option maxHeartbeats 4000000
theorem idxTab {L:List (List Node)} {g:Nat} {caps:List V} {P:List Node→Bool} {h0:AH} {K:V→AH→Prop} (hp:∀ x,x∈L→∀ K:V→AH→Prop,K (.b (P x)) h0→Cq tp g (.fl 3 (x.map Node.enc)::caps) h0 K) (k:K (.i .i64 (idxGo P L 0)) h0):Cq tp i_Q102 [.fl 1 (L.map Tab.enc),.f (.func g) [] caps] h0 K:=by
  refine Cq_raw_go fn_Q102 (by simp [t_Q102]) fun wf rp=>?_;unfold t_Q102;simp (disch:=omega)only[go_sem, *]
  have hL:=rp.head.len
  refine ZC_loop_n (fun n e h=>∃ (i:Nat),n=L.length - i∧h.lim=h0.lim∧e 6=.fl 1 (L.map Tab.enc)∧e 7=.i .i64 L.length∧e 8=.i .i64 i∧e 0=.fl 1 (L.map Tab.enc)∧e 1=.f (.func g) [] caps∧i≤L.length∧h=h0∧idxGo P (L.drop i) i=idxGo P L 0) ?_ _ _ _ ⟨0,rfl, ?_⟩
  · rintro n e h ⟨i,rfl,hl,e6,e7,e8,e0,e1,hi,rfl,hz⟩ ih
    rw [ZC_unf Q102_7.eq_1]
    simp (disch:=omega)only[go_sem, *]
    refine Wb_dec (fun hc=>?_) (fun hc=>?_)
    · rw [drop_nth (by omega),idxGo] at hz
      simp (disch:=omega)only[go_sem, *]
      refine hp (nth L i) (nth_mem (by omega)) _ ?_
      simp (disch:=omega)only[go_sem, *]
      refine Wb_of (fun hc2=>?_) (fun hc2=>?_)
      · rw [if_pos hc2] at hz
        simp (disch:=omega)only[go_sem, *]
      · rw [if_neg (by simp [hc2])] at hz
        simp (disch:=omega)only[go_sem, *]
        refine ih _ _ _ ?_ ⟨i+1,rfl, ?_⟩
        · omega
        · simp (disch:=omega)only[go_sem, *]
          ((repeat' refine And.intro ?_ ?_)<;>first | omega | assumption | (skip))
    · rw [List.drop_eq_nil_of_le (by omega),idxGo] at hz
      simp (disch:=omega)only[go_sem, *]
  · simp (disch:=omega)only[go_sem, *]
theorem same1_ev {x y:List Node} {h:AH} {a:Nat} {K:V→AH→Prop} (ha:h.get a=some ⟨1,[[.fl 3 (x.map Node.enc)]]⟩) (hal:a<h.next) (k:K (.b (decide (x=y))) h):Cq tp i_Q103 [.fl 3 (y.map Node.enc),.p a 0 0] h K:=by
  refine Cq_same fn_Q103 (by simp [t_Q103]) (k) fun hlm rp=>?_;unfold t_Q103;simp (disch:=omega)only[go_sem, *]
  refine Pf.go (equalNode_ev) (by simp only [go_sem]) fun _=>?_;simp (disch:=omega)only[go_sem, *]
  (repeat (first | exact Ext.refl _ | refine Ext.alloc ?_ _ | (refine Ext.put ?_ _ _ ?_;rotate_left;(first | omega | (simp only [next_alloc,next_put];omega)))))
def idsR (X:List (List Node)) (k:Nat):List Int:=(X.take k).map fun x=>idxGo (fun y=>decide (x=y)) X 0
def szsR (X:List (List Node)) (k:Nat):List Int:=(X.take k).map fun x=>(x.length:Int)
theorem same_ev {X:List (List Node)} (hX:X.length≤4096):Pf tp i_Q65 [.fl 1 (X.map Tab.enc)] (.tup [.fl 1 ((idsR X X.length).map encI),.fl 1 ((szsR X X.length).map encI)]):=by
  refine Pf_go fn_Q65 (by simp [t_Q65]) fun rp=>?_;unfold t_Q65;simp (disch:=omega)only[go_sem, *]
  refine ZC_loop_n (fun n e h=>∃ (i:Nat) (v1:V) (v2:V),n=X.length - i∧h.lim=0∧e 8=.fl 1 (X.map Tab.enc)∧e 9=.i .i64 X.length∧e 10=.i .i64 i∧e 0=.fl 1 (X.map Tab.enc)∧e 4=v1∧e 5=v2∧i≤X.length∧Owns 0 h.next h [(1,v1,(idsR X i).map encI),(1,v2,(szsR X i).map encI)]) ?_ _ _ _ ⟨0,.ns,.ns,rfl, ?_⟩
  · rintro n e h ⟨i,v1,v2,rfl,hl,e8,e9,e10,e0,e4,e5,hi,ow⟩ ih
    rw [ZC_unf Q65_8.eq_1]
    simp (disch:=omega)only[go_sem, *]
    have so:=ow.sl 0 _ rfl
    have sp:=ow.sl 1 _ rfl
    simp only at so sp
    refine Wb_dec (fun hc=>?_) (fun hc=>?_)
    · have hlo:=sl_low so
      have hll:(idsR X i).length=i∧(szsR X i).length=i:=by simp [idsR,szsR];omega
      have h1:(idsR X (i+1)).map encI=(idsR X i).map encI++[[.i .i64 (idxGo (fun y=>decide (nth X i=y)) X 0)]]:=by unfold idsR;rw [take_snoc (by omega)];simp [encI]
      have h2:(szsR X (i+1)).map encI=(szsR X i).map encI++[[.i .i64 (nth X i).length]]:=by unfold szsR;rw [take_snoc (by omega)];simp [encI]
      simp (disch:=omega)only[go_sem, *]
      have x1:Ext h ((h.alloc ⟨1,[[.ns]]⟩).put h.next ⟨1,[[.fl 3 ((nth X i).map Node.enc)]]⟩):=by (repeat (first | exact Ext.refl _ | refine Ext.alloc ?_ _ | (refine Ext.put ?_ _ _ ?_;rotate_left;(first | omega | (simp only [next_alloc,next_put];omega)))))
      refine idxTab (P:=fun y=>decide (nth X i=y)) (fun y hy K k=>same1_ev (x:=nth X i) (by simp (disch:=omega)only[go_sem, *]) (by simp (disch:=omega)only[go_sem, *];omega) k) ?_
      have x2:=x1.alloc ⟨1,[[.i .i64 (idxGo (fun y=>decide (nth X i=y)) X 0)]]⟩
      simp (disch:=omega)only[go_sem, *]
      refine app_rule (so.ext x2) (by simp (disch:=omega)only[go_sem, *]) (Nat.zero_le _) (by simp;omega) ?_
      intro w1 h4 s4 g4
      have ow4:=ow.grow (i:=0) rfl x2 g4 s4
      rw [← h1] at ow4
      have q4:h4.get h.next=some ⟨1,[[.fl 3 ((nth X i).map Node.enc)]]⟩:=by
        rw [g4.get h.next (by simp [next_alloc,next_put];omega) (hlo.imp (fun x=>x) (fun x=>by omega)),get_alloc,gsel_ne (by simp [next_alloc,next_put]),get_put,gsel_eq rfl]
      have l4:=g4.lim
      have n4:=g4.next
      clear s4 g4 x2 x1 ow so
      simp (disch:=omega)only[go_sem, *]
      have sp4:=ow4.sl 1 _ rfl
      have x5:=(Ext.refl h4).alloc ⟨1,[[.i .i64 (nth X i).length]]⟩
      refine app_rule (sp4.ext x5) (by simp (disch:=omega)only[go_sem, *]) (Nat.zero_le _) (by simp;omega) ?_
      intro w2 h5 s5 g5
      have ow5:=ow4.grow (i:=1) rfl x5 g5 s5
      simp only at ow5
      rw [← h2] at ow5
      have l5:=g5.lim
      clear s5 g5 x5 sp sp4 ow4 h1 h2
      simp (disch:=omega)only[go_sem, *]
      refine ih _ _ _ ?_ ⟨i+1,w1,w2,rfl, ?_⟩
      · omega
      · simp (disch:=omega)only[go_sem, *]
        ((repeat' refine And.intro ?_ ?_)<;>first | omega | assumption | (exact ow5))
    · obtain rfl:i=X.length:=by omega
      have h1:=so.froze (P:=fun _=>True) (n:=0) (fun _=>rfl) trivial (by simp [idsR];omega)
      have h2:=sp.froze (P:=fun _=>True) (n:=0) (fun _=>rfl) trivial (by simp [szsR];omega)
      simp (disch:=omega)only[go_sem, *]
  · simp (disch:=omega)only[go_sem, *]
    refine Owns.nil (h:=AH.emp) (Nat.zero_le _) ?_
    intro a ha
    rcases List.mem_cons.1 ha with rfl | ha
    · exact ⟨rfl,rfl⟩
    rcases List.mem_cons.1 ha with rfl | ha
    · exact ⟨rfl,rfl⟩
    cases ha
end Go.Ab.T
namespace Go.Ab.T
open Go Go.Ab
set_option maxHeartbeats 4000000
section
variable {tp:TP} {e:Env} {h:AH} {K:V→AH→Prop}
def capV:V→Option V | .ns=>some (.i .i64 0) | .e0=>some (.i .i64 0) | _=>none
theorem capV_ns:capV .ns=some (.i .i64 0):=nrfl rfl
theorem capV_e0:capV .e0=some (.i .i64 0):=nrfl rfl
theorem slc2_ns0 {g:Option Blk} {sz:Nat} {k:IntKind}:slc2 g sz .ns none (some (.i k 0)) none=some .ns:=nrfl rfl
theorem slc2_z {sz id el n:Nat} {cs:List (List V)} {k:IntKind}:slc2 (some ⟨sz,cs⟩) sz (.sl id el n n) none (some (.i k 0)) none=some (.sl id el 0 n):=by simp [slc2,bndOf]
theorem Z1_cap {x:X}:Z1 tp (.cap x) e h K=Wo (capV (x.e2 e)) (fun v=>K v h):=by
  unfold Z1;simp only [z1,do2,doOp,capV]
  cases x.e2 e<;>simp only [Wo_some,Wo_none]
theorem ZQ1_cap {x:X}:ZQ1 tp (.cap x) e h K=Z1 tp (.cap x) e h K:=ZQ1_pure rfl
end
attribute [go_sem ↓] Z1_cap ZQ1_cap
attribute [go_sem] capV_ns capV_e0 slc2_ns0 slc2_z Int.sub_zero
end Go.Ab.T
namespace Go.Ab.T
open Go Go.Ab
set_option maxHeartbeats 4000000
@[go_sem] def Its.enc (x:List (List Node)):List V:=[.fl 1 (x.map Tab.enc)]
theorem growN_ev {h : AH} {n : Int} {K : V → AH → Prop} (h0 : 0 ≤ n) (h1 : n < 1000000)
    (kk:n=0→K .ns h) (k2:0<n→K (.sl h.next 0 0 n.toNat) (h.alloc ⟨3,List.replicate n.toNat [.i .i64 0,.i .i64 0,.i .i64 0]⟩)):Cq tp i_Q105 [.ns,.i .i64 n] h K:=by
  refine Cq_raw_go fn_Q105 (by simp [t_Q105]) fun wf rp=>?_;unfold t_Q105;simp (disch:=omega)only[go_sem, *]
  refine Wb_dec (fun hc=>?_) (fun hc=>?_)
  · exact absurd hc (by omega)
  simp (disch:=omega)only[go_sem, *]
  refine Wb_dec (fun hc=>?_) (fun hc=>?_)
  · have f:=k2 (by omega)
    have h2:n<4294967296:=by omega
    clear kk k2
    simp (disch:=omega)only[go_sem, *]
  · have f:=kk (by omega)
    clear kk k2
    simp (disch:=omega)only[go_sem, *]
theorem concN_ev {X:List (List Node)} (hX:X.length<1000000) (hR:X.flatten.length<1000000):Pf tp i_Q67 [.fl 1 (X.map Tab.enc)] (.fl 3 (X.flatten.map Node.enc)):=by
  refine Pf_go fn_Q67 (by simp [t_Q67]) fun rp=>?_;unfold t_Q67;simp (disch:=omega)only[go_sem, *]
  have tk:∀ i,i<X.length→(X.take (i+1)).flatten=(X.take i).flatten++nth X i:=fun i hi=>by rw [take_snoc hi];simp
  have tl:∀ i,(X.take i).flatten.length≤X.flatten.length:=fun i=>by
    conv=>rhs;rw [← List.take_append_drop i X]
    rw [List.flatten_append,List.length_append];omega
  refine ZC_loop_n (fun n e h=>∃ (i:Nat),n=X.length - i∧h.lim=0∧e 9=.fl 1 (X.map Tab.enc)∧e 10=.i .i64 X.length∧e 11=.i .i64 i∧e 0=.fl 1 (X.map Tab.enc)∧e 3=.i .i64 (X.take i).flatten.length∧i≤X.length∧h=AH.emp) ?_ _ _ _ ⟨0,rfl, ?_⟩
  · rintro n e h ⟨i,rfl,hl,e9,e10,e11,e0,e3,hi,he⟩ ih
    rw [ZC_unf Q67_9.eq_1]
    simp (disch:=omega)only[go_sem, *]
    refine Wb_dec (fun hc=>?_) (fun hc=>?_)
    · have h1:=tk i (by omega)
      have h2:=tl (i+1)
      have h3:(X.take (i+1)).flatten.length=(X.take i).flatten.length+(nth X i).length:=by rw [h1,List.length_append]
      clear tk tl h1
      simp (disch:=omega)only[go_sem, *]
      refine Wb_dec (fun hc2=>?_) (fun hc2=>?_)
      · exact absurd hc2 (by omega)
      · simp (disch:=omega)only[go_sem, *]
        refine ih _ _ _ ?_ ⟨i+1,rfl, ?_⟩
        · omega
        · simp (disch:=omega)only[go_sem, *]
          ((repeat' refine And.intro ?_ ?_)<;>first | omega | assumption)
    · have hi2:i=X.length:=by omega
      subst hi2
      rw [List.take_length] at e3
      clear ih
      subst he
      simp (disch:=omega)only[go_sem, *]
      have fin:∀ (g0:V) (h1:AH) (e1:Env),h1.lim=0→Sl 0 h1 3 g0 []→e1 6=g0→e1 25=.fl 1 (X.map Tab.enc)→e1 26=.i .i64 X.length→e1 27=.i .i64 0→ZC tp (.loop Q67_16) e1 h1 (fun x e h=>nxt (blk 2 x) (ZC tp (.seq (.reg Q67_17) .ret) e h fun x e h=>Zend [.t 2] x e h fun r h'=>Frz (fun _=>True) h' 0 r (.fl 3 (X.flatten.map Node.enc))) (Zend [.t 2] (blk 2 x) e h fun r h'=>Frz (fun _=>True) h' 0 r (.fl 3 (X.flatten.map Node.enc)))):=by
        intro g0 h1 e1 hl1 s0 f6 f25 f26 f27
        refine ZC_loop_n (fun n e h=>∃ (i:Nat) (v:V),n=X.length - i∧h.lim=0∧e 25=.fl 1 (X.map Tab.enc)∧e 26=.i .i64 X.length∧e 27=.i .i64 i∧e 6=v∧i≤X.length∧Sl 0 h 3 v ((X.take i).flatten.map Node.enc)) ?_ _ _ _ ⟨0,g0,rfl, ?_⟩
        · rintro n e h ⟨i,v,rfl,hl,e25,e26,e27,e6,hi,so⟩ ih
          rw [ZC_unf Q67_16.eq_1]
          simp (disch:=omega)only[go_sem, *]
          refine Wb_dec (fun hc=>?_) (fun hc=>?_)
          · have h1:=tk i (by omega)
            have h2:=tl (i+1)
            rw [h1,List.length_append] at h2
            have h4:((X.take (i+1)).flatten.map Node.enc)=((X.take i).flatten.map Node.enc)++(nth X i).map Node.enc:=by rw [h1,List.map_append]
            clear tk tl h1
            simp (disch:=omega)only[go_sem, *]
            refine app_rule so (by simp (disch:=omega)only[go_sem, *]) (Nat.zero_le _) (by simp only [List.length_map];omega) ?_
            intro w h5 s5 g5
            have l5:=g5.lim
            rw [← h4] at s5
            clear h4 so g5
            simp (disch:=omega)only[go_sem, *]
            refine ih _ _ _ ?_ ⟨i+1,w,rfl, ?_⟩
            · omega
            · simp (disch:=omega)only[go_sem, *]
              ((repeat' refine And.intro ?_ ?_)<;>first | omega | assumption | (exact s5))
          · have hi3:i=X.length:=by omega
            rw [hi3,List.take_length] at so
            simp (disch:=omega)only[go_sem, *]
            exact so.froze (fun _=>rfl) trivial (by omega)
        · simp (disch:=omega)only[go_sem, *]
          exact s0
      clear tk tl e3 e9 e10 e11
      refine growN_ev (by omega) (by omega) (fun hz=>?_) (fun hp=>?_)
      · simp (disch:=omega)only[go_sem, *]
        refine fin .ns _ _ ?_ ?_ ?_ ?_ ?_ ?_
        · rfl
        · exact Sl.nil _ _ _
        all_goals (simp (disch:=omega)only[go_sem, *];done)
      · simp (disch:=omega)only[go_sem, *]
        refine fin (.sl 0 0 0 X.flatten.length) _ _ ?_ ?_ ?_ ?_ ?_ ?_
        · rfl
        · exact .inr ⟨_,_,_,_,rfl,(rfl:(AH.emp.alloc ⟨3,List.replicate X.flatten.length [.i .i64 0,.i .i64 0,.i .i64 0]⟩).get 0=_),by simp,by simp,by simp,by simp [next_alloc],Nat.le_refl _,by simp⟩
        all_goals (simp (disch:=omega)only[go_sem, *];done)
  · simp (disch:=omega)only[go_sem, *]
    rfl
theorem growI_ev {h : AH} {n : Int} {K : V → AH → Prop} (h0 : 0 ≤ n) (h1 : n < 1000000)
    (kk:n=0→K .ns h) (k2:0<n→K (.sl h.next 0 0 n.toNat) (h.alloc ⟨1,List.replicate n.toNat [.ns]⟩)):Cq tp i_Q106 [.ns,.i .i64 n] h K:=by
  refine Cq_raw_go fn_Q106 (by simp [t_Q106]) fun wf rp=>?_;unfold t_Q106;simp (disch:=omega)only[go_sem, *]
  refine Wb_dec (fun hc=>?_) (fun hc=>?_)
  · exact absurd hc (by omega)
  simp (disch:=omega)only[go_sem, *]
  refine Wb_dec (fun hc=>?_) (fun hc=>?_)
  · have f:=k2 (by omega)
    have h2:n<4294967296:=by omega
    clear kk k2
    simp (disch:=omega)only[go_sem, *]
  · have f:=kk (by omega)
    clear kk k2
    simp (disch:=omega)only[go_sem, *]
theorem concI_ev {X:List (List (List Node))} (hX:X.length<1000000) (hR:X.flatten.length<1000000):Pf tp i_Q68 [.fl 1 (X.map Its.enc)] (.fl 1 (X.flatten.map Tab.enc)):=by
  refine Pf_go fn_Q68 (by simp [t_Q68]) fun rp=>?_;unfold t_Q68;simp (disch:=omega)only[go_sem, *]
  have tk:∀ i,i<X.length→(X.take (i+1)).flatten=(X.take i).flatten++nth X i:=fun i hi=>by rw [take_snoc hi];simp
  have tl:∀ i,(X.take i).flatten.length≤X.flatten.length:=fun i=>by
    conv=>rhs;rw [← List.take_append_drop i X]
    rw [List.flatten_append,List.length_append];omega
  refine ZC_loop_n (fun n e h=>∃ (i:Nat),n=X.length - i∧h.lim=0∧e 9=.fl 1 (X.map Its.enc)∧e 10=.i .i64 X.length∧e 11=.i .i64 i∧e 0=.fl 1 (X.map Its.enc)∧e 3=.i .i64 (X.take i).flatten.length∧i≤X.length∧h=AH.emp) ?_ _ _ _ ⟨0,rfl, ?_⟩
  · rintro n e h ⟨i,rfl,hl,e9,e10,e11,e0,e3,hi,he⟩ ih
    rw [ZC_unf Q68_9.eq_1]
    simp (disch:=omega)only[go_sem, *]
    refine Wb_dec (fun hc=>?_) (fun hc=>?_)
    · have h1:=tk i (by omega)
      have h2:=tl (i+1)
      have h3:(X.take (i+1)).flatten.length=(X.take i).flatten.length+(nth X i).length:=by rw [h1,List.length_append]
      clear tk tl h1
      simp (disch:=omega)only[go_sem, *]
      refine Wb_dec (fun hc2=>?_) (fun hc2=>?_)
      · exact absurd hc2 (by omega)
      · simp (disch:=omega)only[go_sem, *]
        refine ih _ _ _ ?_ ⟨i+1,rfl, ?_⟩
        · omega
        · simp (disch:=omega)only[go_sem, *]
          ((repeat' refine And.intro ?_ ?_)<;>first | omega | assumption)
    · have hi2:i=X.length:=by omega
      subst hi2
      rw [List.take_length] at e3
      clear ih
      subst he
      simp (disch:=omega)only[go_sem, *]
      have fin:∀ (g0:V) (h1:AH) (e1:Env),h1.lim=0→Sl 0 h1 1 g0 []→e1 6=g0→e1 25=.fl 1 (X.map Its.enc)→e1 26=.i .i64 X.length→e1 27=.i .i64 0→ZC tp (.loop Q68_16) e1 h1 (fun x e h=>nxt (blk 2 x) (ZC tp (.seq (.reg Q68_17) .ret) e h fun x e h=>Zend [.t 2] x e h fun r h'=>Frz (fun _=>True) h' 0 r (.fl 1 (X.flatten.map Tab.enc))) (Zend [.t 2] (blk 2 x) e h fun r h'=>Frz (fun _=>True) h' 0 r (.fl 1 (X.flatten.map Tab.enc)))):=by
        intro g0 h1 e1 hl1 s0 f6 f25 f26 f27
        refine ZC_loop_n (fun n e h=>∃ (i:Nat) (v:V),n=X.length - i∧h.lim=0∧e 25=.fl 1 (X.map Its.enc)∧e 26=.i .i64 X.length∧e 27=.i .i64 i∧e 6=v∧i≤X.length∧Sl 0 h 1 v ((X.take i).flatten.map Tab.enc)) ?_ _ _ _ ⟨0,g0,rfl, ?_⟩
        · rintro n e h ⟨i,v,rfl,hl,e25,e26,e27,e6,hi,so⟩ ih
          rw [ZC_unf Q68_16.eq_1]
          simp (disch:=omega)only[go_sem, *]
          refine Wb_dec (fun hc=>?_) (fun hc=>?_)
          · have h1:=tk i (by omega)
            have h2:=tl (i+1)
            rw [h1,List.length_append] at h2
            have h4:((X.take (i+1)).flatten.map Tab.enc)=((X.take i).flatten.map Tab.enc)++(nth X i).map Tab.enc:=by rw [h1,List.map_append]
            clear tk tl h1
            simp (disch:=omega)only[go_sem, *]
            refine app_rule so (by simp (disch:=omega)only[go_sem, *]) (Nat.zero_le _) (by simp only [List.length_map];omega) ?_
            intro w h5 s5 g5
            have l5:=g5.lim
            rw [← h4] at s5
            clear h4 so g5
            simp (disch:=omega)only[go_sem, *]
            refine ih _ _ _ ?_ ⟨i+1,w,rfl, ?_⟩
            · omega
            · simp (disch:=omega)only[go_sem, *]
              ((repeat' refine And.intro ?_ ?_)<;>first | omega | assumption | (exact s5))
          · have hi3:i=X.length:=by omega
            rw [hi3,List.take_length] at so
            simp (disch:=omega)only[go_sem, *]
            exact so.froze (fun _=>rfl) trivial (by omega)
        · simp (disch:=omega)only[go_sem, *]
          exact s0
      clear tk tl e3 e9 e10 e11
      refine growI_ev (by omega) (by omega) (fun hz=>?_) (fun hp=>?_)
      · simp (disch:=omega)only[go_sem, *]
        refine fin .ns _ _ ?_ ?_ ?_ ?_ ?_ ?_
        · rfl
        · exact Sl.nil _ _ _
        all_goals (simp (disch:=omega)only[go_sem, *];done)
      · simp (disch:=omega)only[go_sem, *]
        refine fin (.sl 0 0 0 X.flatten.length) _ _ ?_ ?_ ?_ ?_ ?_ ?_
        · rfl
        · exact .inr ⟨_,_,_,_,rfl,(rfl:(AH.emp.alloc ⟨1,List.replicate X.flatten.length [.ns]⟩).get 0=_),by simp,by simp,by simp,by simp [next_alloc],Nat.le_refl _,by simp⟩
        all_goals (simp (disch:=omega)only[go_sem, *];done)
  · simp (disch:=omega)only[go_sem, *]
    rfl
end Go.Ab.T
