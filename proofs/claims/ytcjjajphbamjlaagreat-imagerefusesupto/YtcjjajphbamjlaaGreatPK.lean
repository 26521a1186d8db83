/- Part of a proof that a law returns true for every input of the second form's bound (no other condition). -/
import Derived.JoinedCond
import Derived.ChangeArms
import Derived.WalkKit
import Derived.ProofKit
import Derived.OpenShut
import Derived.ShutString
import Derived.ChangeOld
import Derived.SizedLaws
import Derived.Test.YtcjjajphbamjlaaGreatPJ
import Derived.Test.YtcjjajphbamjlaaGreatPI
import Derived.Test.YtcjjajphbamjlaaGreatPC
import Derived.Test.YtcjjajphbamjlaaGreatPE
set_option linter.all false
namespace Go.Ab.T
open Go Go.Ab
set_option maxHeartbeats 1000000
theorem Fo.bds:∀ (f:Fo),f.ok→(f.count:Int)≤f.len∧∀ x∈f.flat,x.n≤f.len
  | .nil,_=>⟨by simp [Fo.count,Fo.len],fun x hx=>by simp [Fo.flat] at hx⟩
  | .leaf y r,ho=>by
    obtain ⟨a,b⟩:=Fo.bds r ho.2
    have k:=kids_node (x:=y) (by have:=ho.1;omega)
    simp only [Fo.count,Fo.len,Fo.flat,List.mem_cons]
    refine ⟨by omega,fun x hx=>?_⟩
    rcases hx with rfl | hx
    · omega
    · have:=b x hx;omega
  | .seq y q r,ho=>by
    obtain ⟨h3,hk,hp,hok,hor⟩:=ho
    obtain ⟨a,b⟩:=Fo.bds r hor
    obtain ⟨c,d⟩:=Fo.bds q hok
    have e:=(kids_all y (by omega)).1 h3
    simp only [Fo.count,Fo.len,Fo.flat,List.mem_cons,List.mem_append]
    refine ⟨by omega,fun x hx=>?_⟩
    rcases hx with rfl | hx | hx
    · omega
    · have:=d x hx;omega
    · have:=b x hx;omega
  | .rep y q r,ho=>by
    obtain ⟨h3,hk,hp,hok,hor⟩:=ho
    obtain ⟨a,b⟩:=Fo.bds r hor
    obtain ⟨c,d⟩:=Fo.bds q hok
    have k:=kids_node (x:=y) (by omega)
    have m1:y.n*1≤y.n*q.len:=Int.mul_le_mul_of_nonneg_left (by omega) (by omega)
    have m2:1*q.len≤y.n*q.len:=Int.mul_le_mul_of_nonneg_right (by omega) (by omega)
    simp only [Fo.count,Fo.len,Fo.flat,List.mem_cons,List.mem_append]
    refine ⟨by omega,fun x hx=>?_⟩
    rcases hx with rfl | hx | hx
    · omega
    · have:=d x hx;omega
    · have:=b x hx;omega
theorem right_n {T:List Node} (h:rightR T=0):∀ x∈T,x.n≤4096:=fun x hx=>by
  obtain ⟨_,ho,_,hL,_,hl⟩:=foOf_ok h
  rw [hL] at hx
  have:=(Fo.bds _ ho).2 x hx
  omega
theorem where_ok {C:Config} (h:whereR C=(0,-1)) (ht:∀ x∈C.chans,TopOk x):ConfOk C:=by
  obtain ⟨⟨a1,a2,a3,a4,a5⟩,_,_,hT⟩:=where_iff.1 h
  refine ⟨a2,a3,a5,where_parts h,fun x hx=>?_,fun t q=>?_⟩
  · obtain ⟨b1,b2,b3,b4⟩:=where_chans h x hx
    exact ⟨b1,b2,b3,ht x hx,b4⟩
  · obtain ⟨b1,b2⟩:=where_tabs h t q
    have g:=hT t q
    rw [tableR_iff] at g
    refine ⟨b1,fun x hx=>?_⟩
    obtain ⟨c1,c2,c3⟩:=b2 x hx
    exact ⟨c1,c2,by have:=right_n g.1.right x hx;unfold I64;omega⟩
theorem chans_top:∀ (n:Nat) (A:List Chan) (s:Rd),(∀ p∈A,TopOk p)→∀ p∈(chansS n A s).1,TopOk p
  | 0,_,_,h=>h
  | n+1,A,s,h=>by
    unfold chansS
    refine chans_top n _ _ fun p hp=>?_
    rcases List.mem_append.1 hp with q | q
    · exact h p q
    · rw [List.mem_singleton.1 q]
      unfold chanS TopOk
      simp only [wrap_u32]
      omega
theorem conf_top {s:Rd}:∀ x∈(confS s).1.chans,TopOk x:=by
  unfold confS
  exact chans_top _ _ _ (fun _ h=>by cases h)
theorem openR_seal (B:List Int):openR (sealR B)=(B,true):=by
  have e:(sealR B).length - 4=B.length:=by rw [sealR_len];omega
  have e1:(sealR B).take B.length=B:=by unfold sealR;rw [List.take_left]
  have e2:(sealR B).drop B.length=tailR (sumR B):=by unfold sealR;rw [List.drop_left];rfl
  unfold openR
  rw [e,e1,e2,if_pos ⟨by rw [sealR_len];omega,rfl⟩]
theorem openR_some {b:List Int} (h:(openR b).2=true):b=sealR (openR b).1:=by
  unfold openR at h ⊢
  split
  · rename_i q
    show b=b.take (b.length - 4)++tailR _
    rw [q.2,List.take_append_drop]
  · rename_i q
    rw [if_neg q] at h;cases h
theorem confS_conf {C:Config} (hC:ConfOk C):confS ⟨(bodyR C).drop 4,false⟩=(C,⟨[],false⟩):=by
  have h:=conf_rd hC []
  rw [List.append_nil] at h
  rw [bodyR_eq (fun x hx=>(hC.cc x hx).t)]
  exact h
theorem body_len {C:Config} (hC:ConfOk C):4≤(bodyR C).length:=by
  rw [bodyR_eq (fun x hx=>(hC.cc x hx).t)];simp
theorem read_img {C:Config} (hw:whereR C=(0,-1)) (hC:ConfOk C):readI (bytesR C)=(C,0):=by
  have e:imgR C=(bytesR C,0):=if_pos (by rw [hw])
  have hl:=body_len hC
  unfold readI
  rw [← bytesR_seal,openR_seal]
  simp only [confS_conf hC,e]
  rw [if_neg (by decide),if_neg (by omega),if_pos ⟨trivial,bytesR_seal.symm⟩]
theorem read_some {b:List Int} {D:Config} (h:readI b=(D,0)):whereR D=(0,-1)∧ConfOk D∧bytesR D=b∧openR b=(bodyR D,true)∧confS ⟨(bodyR D).drop 4,false⟩=(D,⟨[],false⟩):=by
  unfold readI at h
  split at h
  · cases h
  · split at h
    · cases h
    · split at h
      · rename_i h1 h2 h3
        have hD:(confS ⟨(openR b).1.drop 4,false⟩).1=D:=by injection h
        have ht:=conf_top (s:=⟨(openR b).1.drop 4,false⟩)
        rw [hD] at h3 ht
        obtain ⟨h4,h5⟩:=h3
        have hw:whereR D=(0,-1):=by
          refine where0 (Classical.byContradiction fun q=>?_)
          unfold imgR at h4
          rw [if_neg q] at h4
          exact q h4
        have e:imgR D=(bytesR D,0):=if_pos (by rw [hw])
        rw [e] at h5
        have hC:=where_ok hw ht
        refine ⟨hw,hC,h5, ?_,confS_conf hC⟩
        rw [← h5,←bytesR_seal,openR_seal]
      · cases h
theorem IsB.app {A B:List Int} (a:IsB A) (b:IsB B):IsB (A++B):=fun z hz=>(List.mem_append.1 hz).elim (a z) (b z)
theorem putR_isb {B:List Int} (h:IsB B) (n:Int):IsB (putR B n):=by
  rw [putR_eq]
  refine h.app fun z hz=>?_
  rcases List.mem_cons.1 hz with rfl | hz
  · have:=putX_len n
    unfold putK;split<;>omega
  · exact putX_isB n z hz
theorem foldl_isb {α:Type} {f:List Int→α→List Int} (h:∀ B a,IsB B→IsB (f B a)):∀ (L:List α) (B:List Int),IsB B→IsB (L.foldl f B)
  | [],_,hB=>hB
  | a::L,B,hB=>foldl_isb h L _ (h B a hB)
theorem sB_isb (s:ByteArray):IsB (sB s):=fun z hz=>by
  unfold sB at hz
  obtain ⟨c,_,rfl⟩:=List.mem_map.1 hz
  have:=c.toNat_lt
  omega
theorem body_isb (C:Config):IsB (bodyR C):=by
  unfold bodyR
  refine foldl_isb (fun B t h=>?_) _ _ (putR_isb (foldl_isb (fun B x h=>?_) _ _ (putR_isb (foldl_isb (fun B p h=>?_) _ _ (putR_isb (fun z hz=>?_) _)) _)) _)
  · unfold fTab
    exact foldl_isb (fun B x h=>putR_isb (putR_isb (putR_isb h _) _) _) _ _ (putR_isb h _)
  · exact putR_isb (putR_isb (putR_isb (putR_isb (putR_isb (putR_isb h _) _) _) _) _) _
  · unfold fPart
    refine putR_isb (putR_isb (putR_isb (putR_isb (putR_isb (foldl_isb (fun B x h=>putR_isb (putR_isb h _) _) _ _ (putR_isb (putR_isb (putR_isb (putR_isb (putR_isb (IsB.app (putR_isb h _) (sB_isb _)) _) _) _) _) _)) _) _) _) _) _
  · simp only [List.mem_cons,List.not_mem_nil,or_false] at hz
    omega
theorem seal_isb {B:List Int} (h:IsB B):IsB (sealR B):=by
  unfold sealR
  refine h.app fun z hz=>?_
  simp only [List.mem_cons,List.not_mem_nil,or_false,wrap_u8] at hz
  omega
theorem bytes_isb (C:Config):IsB (bytesR C):=seal_isb (body_isb C)
end Go.Ab.T
namespace Go.Ab.T
open Go Go.Ab
set_option maxHeartbeats 4000000
/-! Chapter 14's known runs. -/
def k14:Config:=⟨[⟨⟨#[97]⟩,0,0,false,false,[⟨0,0⟩],0,0,0,0,0⟩],[],[[⟨1,0,1⟩]]⟩
theorem k14_where:whereR k14=(0,-1):=by
  have hk:kids ⟨1,0,1⟩=0:=by unfold kids;decide
  have h1:(Fo.leaf ⟨1,0,1⟩ .nil).ok:=⟨hk,trivial⟩
  have e:([⟨1,0,1⟩]:List Node)=(Fo.leaf ⟨1,0,1⟩ .nil).flat:=rfl
  have h2:=right_flat h1 rfl (by decide) (by decide) (by decide)
  have h3:=foOf_flat h1 rfl (by decide) (by decide) (by decide)
  have ho:ofR [⟨1,0,1⟩]=([⟨0,1⟩],0):=by rw [e,ofR_good h2,h3,if_neg (by decide)];rfl
  have hh:holdsR k14 [⟨0,1⟩]=0:=by decide +kernel
  refine where_iff.2 ⟨by decide,fun j hj=>?_,fun x hx=>(by cases hx),fun t ht=>?_⟩
  · have:j=0:=by have:k14.parts.length=1:=rfl;omega
    subst this
    exact ⟨by decide +kernel,rfl,by decide +kernel⟩
  · rw [List.mem_singleton.1 ht,tableR_iff,ho]
    exact ⟨⟨by rw [ho],fun r hr=>by rw [ho] at hr;rw [List.mem_singleton.1 hr];decide⟩,hh⟩
theorem k14_ok:ConfOk k14:=where_ok k14_where (fun x hx=>by cases hx)
theorem k14_img:imgR k14=(bytesR k14,0):=if_pos (by rw [k14_where])
theorem k14_e:imgR ⟨[],[],[]⟩=([],3):=rfl
theorem k14_nil:readI []=(⟨[],[],[]⟩,13):=rfl
theorem k14_hora:readI (sealR [72,79,82,65])=(⟨[],[],[]⟩,12):=by
  have e:(confS ⟨[],false⟩).1=⟨[],[],[]⟩:=rfl
  unfold readI
  rw [openR_seal,if_neg (by decide),if_neg (by decide)]
  refine if_neg fun q=>?_
  have q1:(imgR (confS ⟨[],false⟩).1).2=0:=q.1
  rw [e,k14_e] at q1
  cases q1
theorem Sl.newi {b i n:Nat} {h:AH} {sz:Nat} {N:List (List V)} (hi:i=h.next) (hn:n=N.length) (hb:b≤h.next) (hN:N.length<4294967296):Sl b (h.alloc ⟨sz,N⟩) sz (.sl i 0 n n) N:=by
  subst hi;subst hn;exact Sl.new hb hN
def k14H:AH:=⟨fun i=>if i=4 then some ⟨3,[k14.enc]⟩ else none,5,0⟩
theorem k14_fix {c : TC} {e : Env} {h : AH} {K : Ex → Env → AH → Prop} (hn : h.next = 5) (hl : h.lim = 0)
    (g0:h.get 0=some ⟨2,[[.i .i64 0,.i .i64 0]]⟩)
    (g1:h.get 1=some ⟨11,[[.s ⟨#[97]⟩,.i .i64 0,.i .i64 0,.b false,.b false,.sl 0 0 1 1,.i .i64 0,.i .i64 0,.i .i64 0,.i .i64 0,.i .i64 0]]⟩)
    (g2:h.get 2=some ⟨3,[[.i .i64 1,.i .i64 0,.i .i64 1]]⟩) (g3:h.get 3=some ⟨1,[[.sl 2 0 1 1]]⟩) (g4:h.get 4=some ⟨3,[[.sl 1 0 1 1,.ns,.sl 3 0 1 1]]⟩) (e1:e 1=.p 4 0 0)
    (z:∀ e',e' 1=.p 4 0 0→ZCS tp c e' k14H K):ZCS tp c e h K:=by
  have zz:∀ {n:Nat} {v:V},Plain0 v→Frz (·≠4) h n v v:=fun h0=>.z _ _ h0
  have slz:∀ {i sz:Nat} {cs r:List (List V)} {n:Nat},i≠4→h.get i=some ⟨sz,cs⟩→cs.length=1→Frzr (·≠4) h 0 cs r→Frz (·≠4) h n (.sl i 0 1 1) (.fl sz r):=fun h1 h2 h3 h4=>by
    refine .sl _ _ _ _ _ _ _ _ h1 h2 (by omega) (Nat.le_refl _) (by simp [frzLen]) ?_
    rw [List.drop_zero,List.take_of_length_le (by omega)];exact h4
  refine ZCS_step (Stp_frz (h2:=k14H) (·≠4) [1] (fun _=>.p 4 0 0) (fun wf=>⟨hn.symm,hl.symm,⟨fun i k hk=>?_,fun t ht=>?_⟩⟩)) (z _ rfl)
  · unfold k14H at hk
    simp only at hk
    by_cases hi:i=4
    · subst hi
      rw [if_pos rfl] at hk;cases hk
      refine ⟨by simp [k14H],by simp,_,g4,.cons _ _ _ _ _ (.cons _ _ _ _ _ (slz (by decide) g1 rfl ?_) (.cons _ _ _ _ _ (.ns _ _) (.cons _ _ _ _ _ (slz (by decide) g3 rfl ?_) (.nil _)))) (.nil _)⟩
      · exact .cons _ _ _ _ _ (.cons _ _ _ _ _ (zz (.s _)) (.cons _ _ _ _ _ (zz (.i _ _)) (.cons _ _ _ _ _ (zz (.i _ _)) (.cons _ _ _ _ _ (zz (.b _)) (.cons _ _ _ _ _ (zz (.b _)) (.cons _ _ _ _ _ (slz (by decide) g0 rfl (.cons _ _ _ _ _ (.cons _ _ _ _ _ (zz (.i _ _)) (.cons _ _ _ _ _ (zz (.i _ _)) (.nil _))) (.nil _))) (.cons _ _ _ _ _ (zz (.i _ _)) (.cons _ _ _ _ _ (zz (.i _ _)) (.cons _ _ _ _ _ (zz (.i _ _)) (.cons _ _ _ _ _ (zz (.i _ _)) (.cons _ _ _ _ _ (zz (.i _ _)) (.nil _)))))))))))) (.nil _)
      · exact .cons _ _ _ _ _ (.cons _ _ _ _ _ (slz (by decide) g2 rfl (.cons _ _ _ _ _ (.cons _ _ _ _ _ (zz (.i _ _)) (.cons _ _ _ _ _ (zz (.i _ _)) (.cons _ _ _ _ _ (zz (.i _ _)) (.nil _)))) (.nil _))) (.nil _)) (.nil _)
    · rw [if_neg hi] at hk;cases hk
  · rw [List.mem_singleton.1 ht,e1]
    exact .p _ _ _ _ (by simp [k14H])
theorem known14_ev:Pf tp i_Q8 [] (.b true):=by
  have hnm:NmOk k14:=(where_byt k14_where).2
  have hne:NmOk ⟨[],[],[]⟩:=fun p hp=>by cases hp
  have t1:=imgBytes_ev hnm
  have t2:=imgReadB_ev (b:=bytesR k14) (bytes_isb k14)
  have t3:=imgReadB_ev (b:=[]) (fun z hz=>by cases hz)
  have t4:=imgBytes_ev hne
  have t5:=imgReadB_ev (b:=sealR [72,79,82,65]) (seal_isb fun z hz=>by simp only [List.mem_cons,List.not_mem_nil,or_false] at hz;omega)
  have t6:=rsame_ev (a:=k14) (b:=k14)
  have t7:=imgSize_ev hnm
  have t8:=imgSize_ev hne
  rw [k14_img] at t1 t7
  rw [read_img k14_where k14_ok] at t2
  rw [k14_nil] at t3
  rw [k14_e] at t4 t8
  rw [k14_hora] at t5
  refine Pf_goS fn_Q8 (by simp [t_Q8]) fun rp=>?_
  unfold t_Q8
  refine ZCS_seq ?_
  simp (disch:=omega)only[go_sem, *]
  refine ZCS_seq ?_
  simp (disch:=omega)only[go_sem, *]
  refine k14_fix rfl rfl rfl rfl rfl rfl rfl rfl ?_
  intro e1 f1
  have g1:k14H.get 4=some ⟨3,[k14.enc]⟩:=rfl
  have n1:k14H.next=5:=rfl
  have l1:k14H.lim=0:=rfl
  have ea:k14.enc=[.fl 11 (k14.parts.map Part.enc),.fl 6 (k14.chans.map Chan.enc),.fl 1 (k14.tables.map Tab.enc)]:=rfl
  rw [ea] at g1 t1 t2 t6 t7
  clear ea
  generalize k14H=H at *
  generalize bytesR k14=B at *
  simp only at t1 t2 t3 t4 t5 t6 t7 t8
  refine ZCS_seq ?_
  simp (disch:=omega)only[go_sem, *]
  refine Pf.go (t1) (by simp only [go_sem]) fun _=>?_;simp (disch:=omega)only[go_sem, *]
  refine ZCS_of ?_
  simp (disch:=omega)only[go_sem, *]
  refine Pf.go (t2) (by simp only [go_sem]) fun _=>?_;simp (disch:=omega)only[go_sem, *]
  have hk0:∀ h:AH,h.kills []=h:=fun h=>by simp [AH.kills]
  refine Pf.take [] t3 (.cons _ _ _ _ _ (.ns _ _) (.nil _)) fun _=>?_
  rw [hk0]
  simp (disch:=omega)only[go_sem, *]
  refine Pf.take [] t4 (.cons _ _ _ _ _ (.agg _ _ _ (.cons _ _ _ _ _ (.ns _ _) (.cons _ _ _ _ _ (.ns _ _) (.cons _ _ _ _ _ (.ns _ _) (.nil _))))) (.nil _)) fun _=>?_
  rw [hk0]
  simp (disch:=omega)only[go_sem, *]
  refine Pf.take [7] (seal_ev (B:=[72,79,82,65]) (by decide)) (.cons _ _ _ _ _ (Sl.froze (Sl.newi (b:=0) (N:=[72,79,82,65].map encB) ?_ rfl (Nat.zero_le _) (by decide)) (fun _=>rfl) (by decide) (by decide)) (.nil _)) fun _=>?_
  · simp (disch:=omega)only[go_sem, *]
  simp (disch:=omega)only[go_sem, *]
  refine Pf.go (t5) (by simp only [go_sem]) fun _=>?_;simp (disch:=omega)only[go_sem, *]
  refine Pf.go (t6) (by simp only [go_sem]) fun _=>?_;simp (disch:=omega)only[go_sem, *]
  refine Pf.go (t7) (by simp only [go_sem]) fun _=>?_;simp (disch:=omega)only[go_sem, *]
  refine Pf.take [] t8 (.cons _ _ _ _ _ (.agg _ _ _ (.cons _ _ _ _ _ (.ns _ _) (.cons _ _ _ _ _ (.ns _ _) (.cons _ _ _ _ _ (.ns _ _) (.nil _))))) (.nil _)) fun _=>?_
  rw [hk0]
  simp (disch:=omega)only[go_sem, *]
end Go.Ab.T
namespace Go.Ab.T
open Go Go.Ab
set_option maxHeartbeats 4000000
theorem Made.ok {C:Config} (m:Made C):ConfOk C:=where_ok m.wh m.tops
theorem Made.img {C:Config} (m:Made C):imgR C=(bytesR C,0):=if_pos (by rw [m.wh])
end Go.Ab.T
namespace Go.Ab.T
open Go Go.Ab
set_option maxHeartbeats 4000000
attribute [-go_sem] bin_and
theorem ux_xr (a:Int):ux a=xr 4294967295 a:=rfl
theorem ux_inj {a b:Int} (ha:0≤a) (ha2:a<4294967296) (hb:0≤b) (hb2:b<4294967296) (h:ux a=ux b):a=b:=by
  rw [ux_xr,ux_xr,xr_comm _ a,xr_comm _ b] at h
  exact xr_inj ha ha2 hb hb2 (by omega) (by omega) h
theorem ux_bd (a:Int):0≤ux a∧ux a<4294967296:=by
  unfold ux;rw [wrap_u32'];omega
theorem tailR_inj {a b:Int} (ha:0≤a) (ha2:a<4294967296) (hb:0≤b) (hb2:b<4294967296) (h:tailR a=tailR b):a=b:=by
  unfold tailR at h
  simp only [List.cons.injEq,wrap_u8,and_true] at h
  have f1:∀ x:Int,x.fdiv 16777216=x / 16777216:=fun x=>Int.fdiv_eq_ediv_of_nonneg _ (by omega)
  have f2:∀ x:Int,x.fdiv 65536=x / 65536:=fun x=>Int.fdiv_eq_ediv_of_nonneg _ (by omega)
  have f3:∀ x:Int,x.fdiv 256=x / 256:=fun x=>Int.fdiv_eq_ediv_of_nonneg _ (by omega)
  simp only [f1,f2,f3] at h
  omega
theorem turned {C:List Int} (hB:IsB C) {k:Nat} {y:Int} (hk:k<(sealR C).length) (hy0:0≤y) (hy:y<256) (hne:y≠nth (sealR C) k):(openR ((sealR C).set k y)).2=false:=by
  cases hq:(openR ((sealR C).set k y)).2 with
  | false=>rfl
  | true=>
    exfalso
    have e:=openR_some hq
    generalize (openR ((sealR C).set k y)).1=E at e
    have hl:C.length=E.length:=by have:=congrArg List.length e;rw [List.length_set,sealR_len,sealR_len] at this;omega
    have hs:sealR C=C++tailR (sumR C):=rfl
    have hs2:sealR E=E++tailR (sumR E):=rfl
    rw [sealR_len] at hk
    rw [hs2,hs] at e
    rw [hs] at hne
    by_cases hkc:k<C.length
    · rw [List.set_append_left _ _ hkc] at e
      obtain ⟨e1,e2⟩:=List.append_inj e (by rw [List.length_set];exact hl)
      subst e1
      have e4:=ux_inj (sumGo_bd _ (by omega) (by omega)).1 (sumGo_bd _ (by omega) (by omega)).2 (sumGo_bd _ (by omega) (by omega)).1 (sumGo_bd _ (by omega) (by omega)).2 (tailR_inj (ux_bd _).1 (ux_bd _).2 (ux_bd _).1 (ux_bd _).2 e2)
      have hn:nth (C++tailR (sumR C)) k=C[k]:=by rw [nth_eq (by rw [List.length_append];omega),List.getElem_append_left hkc]
      have hc:C=C.take k++C[k]::C.drop (k+1):=by simp
      have hb:=hB _ (List.getElem_mem hkc)
      rw [List.set_eq_take_append_cons_drop,if_pos hkc] at e4
      rw [hn] at hne
      generalize C[k]=z at *
      rw [hc] at e4
      have ht:(C.take k++z::C.drop (k+1)).take k=C.take k:=by rw [← hc]
      have hd:(C.take k++z::C.drop (k+1)).drop (k+1)=C.drop (k+1):=by rw [← hc]
      rw [ht,hd] at e4
      exact hne (sum_turn (fun x hx=>hB x (List.mem_of_mem_drop hx)) hb.1 hb.2 hy0 hy e4).symm
    · rw [List.set_append_right _ _ (by omega)] at e
      obtain ⟨e1,e2⟩:=List.append_inj e hl
      subst e1
      have h4:(tailR (sumR C)).length=4:=rfl
      have hn:nth (C++tailR (sumR C)) k=nth (tailR (sumR C)) (k - C.length):=by
        rw [nth_eq (by rw [List.length_append];omega),nth_eq (by omega),List.getElem_append_right (by omega)]
      have:nth ((tailR (sumR C)).set (k - C.length) y) (k - C.length)=y:=by
        rw [nth_eq (by rw [List.length_set];omega),List.getElem_set_self]
      rw [e2] at this
      rw [hn] at hne
      exact hne this.symm
theorem read_turned {C:Config} (k:Nat) (y:Int) (hk:k<(bytesR C).length) (hy0:0≤y) (hy:y<256) (hne:y≠nth (bytesR C) k):readI ((bytesR C).set k y)=(⟨[],[],[]⟩,13):=by
  rw [← bytesR_seal] at *
  exact if_pos (turned (body_isb C) hk hy0 hy hne)
theorem read_longer {C:Config} (hC:ConfOk C):(readI (bytesR C++[1])).2≠0:=fun h=>by
  obtain ⟨D,e⟩:∃ D,readI (bytesR C++[1])=(D,0):=⟨_,Prod.ext rfl h⟩
  obtain ⟨_,hD,hb,_⟩:=read_some e
  rw [← bytesR_seal,←bytesR_seal] at hb
  unfold sealR at hb
  rw [List.append_assoc] at hb
  have:=congrArg List.length (conf_inj hD hC hb).2
  simp at this
theorem bytes_len {C:Config} (hw:whereR C=(0,-1)) (hC:ConfOk C):9≤(bytesR C).length∧(bytesR C).length<1000000:=by
  have:=bodyR_len (where_byt hw).1
  rw [← bytesR_seal,sealR_len]
  refine ⟨?_,by omega⟩
  rw [bodyR_eq (fun x hx=>(hC.cc x hx).t)]
  unfold eConf pn
  simp only [List.length_append,List.length_cons]
  omega
theorem and7 (n:Int):∃ q:Nat,q<8∧binV .and (.i .i64 n) (.i .i64 7)=some (.i .i64 q):=by
  rw [bin_and]
  have h:((BitVec.ofInt 64 n &&& BitVec.ofInt 64 7).toNat:Nat)≤7:=by
    rw [BitVec.toNat_and];exact Nat.and_le_right
  refine ⟨(BitVec.ofInt 64 n &&& BitVec.ofInt 64 7).toNat,by omega, ?_⟩
  have e:IntKind.wrap .i64 ((BitVec.ofInt 64 n &&& BitVec.ofInt 64 7).toNat:Int)=((BitVec.ofInt 64 n &&& BitVec.ofInt 64 7).toNat:Nat):=by rw [wrap_i64];omega
  exact congrArg (fun z=>some (V.i .i64 z)) e
theorem shl1:∀ q:Nat,q<8→∃ b:Int,0<b∧b<256∧binV .shl (.i .u8 1) (.i .u64 q)=some (.i .u8 b)
  | 0,_=>⟨1,by decide,by decide,rfl⟩
  | 1,_=>⟨2,by decide,by decide,rfl⟩
  | 2,_=>⟨4,by decide,by decide,rfl⟩
  | 3,_=>⟨8,by decide,by decide,rfl⟩
  | 4,_=>⟨16,by decide,by decide,rfl⟩
  | 5,_=>⟨32,by decide,by decide,rfl⟩
  | 6,_=>⟨64,by decide,by decide,rfl⟩
  | 7,_=>⟨128,by decide,by decide,rfl⟩
theorem xor8 {a b:Int} (a0:0≤a) (a1:a<256) (b0:0<b) (b1:b<256):∃ y:Int,0≤y∧y<256∧y≠a∧binV .xor (.i .u8 a) (.i .u8 b)=some (.i .u8 y):=by
  obtain ⟨m,rfl⟩:∃ m:Nat,a=m:=⟨a.toNat,by omega⟩
  obtain ⟨k,rfl⟩:∃ k:Nat,b=k:=⟨b.toNat,by omega⟩
  have hx:=Nat.xor_lt_two_pow (n:=8) (show m<2 ^ 8 by omega) (show k<2 ^ 8 by omega)
  have e:(BitVec.ofInt 8 (m:Int) ^^^ BitVec.ofInt 8 (k:Int)).toNat=m ^^^ k:=by
    rw [BitVec.toNat_xor,BitVec.toNat_ofInt,BitVec.toNat_ofInt]
    congr 1<;>omega
  refine ⟨((m ^^^ k:Nat):Int),by omega,by omega,fun q=>?_, ?_⟩
  · have q2:m ^^^ k=m:=by omega
    have:=congrArg (m ^^^ ·) q2
    simp only [← Nat.xor_assoc,Nat.xor_self,Nat.zero_xor] at this
    omega
  · show some (V.i .u8 (IntKind.wrap .u8 ((BitVec.ofInt 8 (m:Int) ^^^ BitVec.ofInt 8 (k:Int)).toNat:Int)))=_
    rw [e,wrap_u8]
    congr 2
    omega
theorem imageRefuses_ev {L:List Int} {at_ bit:Int} (hL:L.length<4000000000):Pf tp i_Q0 [.fl 1 (L.map encI),.i .i64 at_,.i .i64 bit] (.b true):=by
  obtain ⟨q,hq,o1⟩:=and7 bit
  obtain ⟨b,hb0,hb1,o2⟩:=shl1 q hq
  have o3:IntKind.wrap .u64 (q:Int)=q:=by rw [wrap_u64];omega
  refine Pf_go fn_Q0 (by simp [t_Q0]) fun rp=>?_;unfold t_Q0;simp (disch:=omega)only[go_sem, *]
  refine config_ev (id:=0) (k:=0) (L:=L) ?_ (by omega) hL ?_ ?_
  · simp only [tapeB]
    simp (disch:=omega)only[go_sem, *]
    all_goals rfl
  · simp (disch:=omega)only[go_sem, *]
  intro C j hj hC
  have hl:=bytes_len hC.wh hC.ok
  have t1:=imgBytes_ev hC.nm
  have t2:=imgReadB_ev (b:=bytesR C) (bytes_isb C)
  have t3:=rsame_ev (a:=C) (b:=C)
  have t4:=fun k y=>imgReadB_ev (b:=(bytesR C).set k y)
  have t5:=imgReadB_ev (b:=bytesR C++[1])
  have hr:=read_turned (C:=C)
  have hg:=read_longer hC.ok
  have hb:=bytes_isb C
  rw [hC.img] at t1
  rw [read_img hC.wh hC.ok] at t2
  have e3:decide (C=C)=true:=by simp
  rw [e3] at t3
  clear hC e3
  generalize bytesR C=B at *
  simp only [Config.enc] at t1 t2 t3
  simp (disch:=omega)only[go_sem, *]
  refine Pf.go (t1) (by simp only [go_sem]) fun _=>?_;simp (disch:=omega)only[go_sem, *]
  refine Pf.go (t2) (by simp only [go_sem]) fun _=>?_;simp (disch:=omega)only[go_sem, *]
  refine Pf.go (t3) (by simp only [go_sem]) fun _=>?_;simp (disch:=omega)only[go_sem, *]
  obtain ⟨hl1,hl2⟩:=hl
  refine Wb_dec (fun hc=>absurd hc (by omega)) (fun _=>?_)
  simp (disch:=omega)only[go_sem, *]
  refine Pf.go (within_ev (n:=at_) (lo:=0) (hi:=(B.length:Int) - 1) (by omega) (by omega) (by omega)) (by simp only [go_sem]) fun _=>?_
  have wb:=within_bd (n:=at_) (lo:=0) (hi:=(B.length:Int) - 1) (by omega)
  generalize within at_ 0 ((B.length:Int) - 1)=w at wb ⊢
  obtain ⟨k,rfl⟩:∃ k:Nat,w=k:=⟨w.toNat,by omega⟩
  have hk:k<B.length:=by omega
  clear wb
  simp (disch:=omega)only[go_sem, *]
  refine app_rule (N:=B.map encB) (Sl.nil' 3 _ 1) (by simp (disch:=omega)only[go_sem, *]<;>omega) (by simp (disch:=omega)only[go_sem, *]<;>omega) (by simp;omega) ?_
  intro w h4 s4 g4
  have hl4:=g4.lim
  have hn4:=g4.next
  simp (disch:=omega)only[go_sem] at hl4 hn4
  rw [List.nil_append] at s4
  obtain ⟨wlen,wbig,wlt,wlo,wget,wat,wrow,wcell,wcells⟩:=s4.facts
  have w1:=wlt (by omega)
  have w2:=wlo (by omega)
  have w3:=wget (by omega)
  have w4:=wat .i64 k (csOf h4 w) (by omega) (by omega)
  have w5:=wrow k (by omega)
  simp only [encB] at w5
  clear wlt wlo wget wat wrow g4
  obtain ⟨y,hy0,hy1,hy,o4⟩:=xor8 (hb _ (nth_mem hk)).1 (hb _ (nth_mem hk)).2 hb0 hb1
  have s5:=Sl.setT (x:=y) (h':=h4.put (idV w) ⟨1,(csOf h4 w).set (elV w+k) (encB y)⟩) s4 hk (Nat.le_refl _) (by rw [get_put,gsel_eq rfl])
  have t6:=t4 k y (fun z hz=>(List.mem_or_eq_of_mem_set hz).elim (hb z) (fun e=>by subst e;exact ⟨hy0,hy1⟩))
  rw [hr k y hk hy0 hy1 hy] at t6
  clear hr t4 s4
  simp only [encB] at s5
  simp (disch:=omega)only[go_sem, *]
  refine Pf.take [idV w] t6 (.cons _ _ _ _ _ (Sl.froze s5 (fun _=>rfl) (by simp) (by simp;omega)) (.nil _)) fun _=>?_
  have ow:=sl_own s5
  clear s5 t6 w1 w2 w3 w4 w5 o1 o2 o3 o4 wlen wcell wcells
  simp (disch:=omega)only[go_sem, *]
  refine app_rule (N:=B.map encB) (Sl.nil' 3 _ 1) (by simp (disch:=omega)only[go_sem, *]<;>omega) (by simp (disch:=omega)only[go_sem, *]<;>omega) (by simp;omega) ?_
  intro v h5 s5 g5
  have hl5:=g5.lim
  have hn5:=g5.next
  simp (disch:=omega)only[go_sem, *] at hl5 hn5
  rw [List.nil_append] at s5
  clear g5
  simp (disch:=omega)only[go_sem, *]
  refine app_rule (N:=[encB 1]) (s5.alloc ⟨1,[encB 1]⟩) (by simp (disch:=omega)only[go_sem, *]<;>omega) (by simp (disch:=omega)only[go_sem, *]<;>omega) (by simp;omega) ?_
  intro v2 h6 s6 g6
  have hl6:=g6.lim
  clear g6 s5
  simp (disch:=omega)only[go_sem, *] at hl6
  have s7:Sl 3 h6 1 v2 ((B++[1]).map encB):=by simpa using s6
  clear s6
  have t6:=t5 (hb.app (fun z hz=>by rw [List.mem_singleton.1 hz];omega))
  clear t5
  generalize readI (B++[1])=D at *
  obtain ⟨D,g⟩:=D
  simp only [Config.enc] at t6 hg
  simp (disch:=omega)only[go_sem, *]
  refine Pf.take [idV v2] t6 (.cons _ _ _ _ _ (Sl.froze s7 (fun _=>rfl) (by simp) (by simp;omega)) (.nil _)) fun _=>?_
  clear s7
  simp (disch:=omega)only[go_sem, *]
  refine Pf.go (known14_ev) (by simp only [go_sem]) fun _=>?_;simp (disch:=omega)only[go_sem, *]
end Go.Ab.T
/- From a call's arguments, as the form reads them, to an abstract heap. -/
namespace Go.Ab
open Go Go.RowKit
/-! ### Shapes of arguments -/
mutual
inductive Sh where
  | b
  | i (k:IntKind)
  | s
  | sl (e:Sh)
  | agg (l:ShL)
inductive ShL where
  | nil
  | cons (x:Sh) (l:ShL)
end
mutual
def Sh.size:Sh→Nat
  | .b | .i _ | .s | .sl _=>1
  | .agg l=>l.size
def ShL.size:ShL→Nat
  | .nil=>0
  | .cons x l=>x.size+l.size
end
def ShL.rep (x:Sh):Nat→ShL
  | 0=>.nil
  | n+1=>.cons x (ShL.rep x n)
mutual
inductive ShT (P:Program):TypeId→Sh→Prop where
  | b (t:TypeId):P.underlying t=some .bool→ShT P t .b
  | i (t:TypeId) (k:IntKind):P.underlying t=some (.int k)→ShT P t (.i k)
  | s (t:TypeId):P.underlying t=some .string→ShT P t .s
  | sl (t e:TypeId) (x:Sh):P.underlying t=some (.slice e)→ShT P e x→P.cellsOf e=x.size→0<x.size→ShT P t (.sl x)
  | agg (t:TypeId) (fs:Array Field) (l:ShL):P.underlying t=some (.struct fs)→ShF P fs.toList 0 l→P.cellsOf t=l.size→ShT P t (.agg l)
  | arr (t e:TypeId) (n:Nat) (x:Sh):P.underlying t=some (.array n e)→ShT P e x→P.cellsOf e=x.size→P.cellsOf t=n*x.size→ShT P t (.agg (ShL.rep x n))
inductive ShF (P:Program):List Field→Nat→ShL→Prop where
  | nil (o:Nat):ShF P [] o .nil
  | cons (f:Field) (fs:List Field) (o:Nat) (x:Sh) (l:ShL):f.offset=o→ShT P f.type x→P.cellsOf f.type=x.size→ShF P fs (o+x.size) l→ShF P (f::fs) o (.cons x l)
end
section
variable {H:Type}
mutual
def DV (h:AH):Sh→DataW H→List V→Prop
  | .b,d,vs=>∃ x,d=.lit (.bool x)∧vs=[.b x]
  | .i k,d,vs=>∃ n,d=.lit (.int k n)∧(Lit.int k n).wf=true∧vs=[.i k n]
  | .s,d,vs=>∃ x:ByteArray,d=.lit (.string x.data.toList)∧x.size≤maxLen∧vs=[.s x]
  | .sl e,d,vs=>(d=.nil∧vs=[.ns])∨∃ (elems spare:List (DataW H)) (id:Nat) (rows:List (List V)),d=.slice elems spare∧vs=[.sl id 0 elems.length elems.length]∧h.get id=some ⟨e.size,rows⟩∧id<h.next∧rows.length=elems.length∧elems.length<bigLen∧∀ (j:Nat) (x:DataW H) (r:List V),elems[j]?=some x→rows[j]?=some r→DV h e x r
  | .agg l,d,vs=>∃ ds,d=.agg ds∧DVs h l ds vs
def DVs (h:AH):ShL→List (DataW H)→List V→Prop
  | .nil,ds,vs=>ds=[]∧vs=[]
  | .cons x l,ds,vs=>∃ d ds' v1 v2,ds=d::ds'∧vs=v1++v2∧DV h x d v1∧DVs h l ds' v2
end
mutual
def Sml:Sh→DataW H→Prop
  | .sl e,d=>∀ elems spare,d=.slice elems spare→elems.length<bigLen∧∀ x∈elems,Sml e x
  | .agg l,d=>∀ ds,d=.agg ds→Smls l ds
  | .b,_ | .i _,_ | .s,_=>True
def Smls:ShL→List (DataW H)→Prop
  | .nil,_=>True
  | .cons x l,ds=>∀ d ds',ds=d::ds'→Sml x d∧Smls l ds'
end
structure Gr (M M':Mp) (h h':AH):Prop where
  keeps:Keeps M M' h h'
  get:∀ id,id<h.next→h'.get id=h.get id
theorem Gr.refl (M:Mp) (h:AH):Gr M M h h:=⟨Keeps.refl M h,fun _ _=>rfl⟩
theorem Gr.trans {M M1 M2:Mp} {h h1 h2:AH} (a:Gr M M1 h h1) (b:Gr M1 M2 h1 h2):Gr M M2 h h2:=
  ⟨a.keeps.trans b.keeps,fun id hi=>(b.get id (Nat.lt_of_lt_of_le hi a.keeps.next)).trans (a.get id hi)⟩
mutual
theorem DV.grow {M M':Mp} {h h':AH} (g:Gr M M' h h'):∀ (sh:Sh) (d:DataW H) (vs:List V),DV h sh d vs→DV h' sh d vs
  | .b,d,vs,k=>by simp only [DV] at k ⊢;exact k
  | .i _,d,vs,k=>by simp only [DV] at k ⊢;exact k
  | .s,d,vs,k=>by simp only [DV] at k ⊢;exact k
  | .sl e,d,vs,k=>by
    simp only [DV] at k ⊢
    rcases k with k | ⟨elems,spare,id,rows,a,b,c,d,e1,f,g1⟩
    · exact .inl k
    · exact .inr ⟨elems,spare,id,rows,a,b,(g.get id d).trans c,Nat.lt_of_lt_of_le d g.keeps.next,e1,f,fun j x r hx hr=>DV.grow g e x r (g1 j x r hx hr)⟩
  | .agg l,d,vs,k=>by
    simp only [DV] at k ⊢
    obtain ⟨ds,a,b⟩:=k
    exact ⟨ds,a,DVs.grow g l ds vs b⟩
theorem DVs.grow {M M':Mp} {h h':AH} (g:Gr M M' h h'):∀ (l:ShL) (ds:List (DataW H)) (vs:List V),DVs h l ds vs→DVs h' l ds vs
  | .nil,ds,vs,k=>by simp only [DVs] at k ⊢;exact k
  | .cons x l,ds,vs,k=>by
    simp only [DVs] at k ⊢
    obtain ⟨d,ds',v1,v2,a,b,c,e⟩:=k
    exact ⟨d,ds',v1,v2,a,b,DV.grow g x d v1 c,DVs.grow g l ds' v2 e⟩
end
structure In (M:Mp) (w:World) (h:AH):Prop where
  cells:∀ id k m,h.get id=some k→M id=some m→m.b<w.heap.size∧CellsAt M h w m k
  own:∀ id m,M id=some m→m.own=false
  fresh:∀ id,h.live id→id<h.next
  lim:h.lim=h.next
theorem In.sim {M:Mp} {w:World} {h:AH} (i:In M w h):Sim M w.heap.size w h:=by
  refine ⟨i.cells,fun id m hl hm ho=>?_,fun id m hl hm hli=>?_,fun id id' m m' _ _ hm _ _ ho=>?_,i.fresh,by rw [i.lim];exact Nat.le_refl _,Nat.le_refl _⟩
  · rw [i.own id m hm] at ho;cases ho
  · have:=i.fresh id hl;have:=i.lim;omega
  · rw [i.own id m hm] at ho;cases ho
def AH.give (h:AH) (k:Blk):AH:={ get:=fun j=>if j=h.next then some k else h.get j,next:=h.next+1,lim:=h.next+1 }
def mput (M:Mp) (id:Nat) (m:MI):Mp:=fun j=>if j=id then some m else M j
theorem give_gr {M:Mp} {h:AH} {k:Blk} {m:MI} (hf:∀ id,h.live id→id<h.next):Gr M (mput M h.next m) h (h.give k):=by
  refine ⟨⟨by simp [AH.give],fun id hi hl=>?_,fun id hi hl=>?_⟩,fun id hi=>?_⟩
  · have:(h.give k).get id=h.get id:=by simp only [AH.give];rw [if_neg (by omega)]
    rw [AH.live,this] at hl;exact hl
  · simp only [mput];rw [if_neg (by omega)]
  · simp only [AH.give];rw [if_neg (by omega)]
theorem In.give {M:Mp} {w:World} {h:AH} {k:Blk} {m:MI} (i:In M w h) (hb:m.b<w.heap.size) (ho:m.own=false) (hc:CellsAt M h w m k):In (mput M h.next m) w (h.give k):=by
  have g:=give_gr (M:=M) (k:=k) (m:=m) i.fresh
  refine ⟨fun id k' m' hk hm=>?_,fun id m' hm=>?_,fun id hl=>?_,rfl⟩
  · simp only [AH.give,mput] at hk hm
    by_cases hid:id=h.next
    · rw [if_pos hid] at hk hm
      cases hk;cases hm
      exact ⟨hb,CellsAt.keep g.keeps rfl hc⟩
    · rw [if_neg hid] at hk hm
      exact ⟨(i.cells id k' m' hk hm).1,CellsAt.keep g.keeps rfl (i.cells id k' m' hk hm).2⟩
  · simp only [mput] at hm
    split at hm
    · cases hm;exact ho
    · exact i.own id m' hm
  · by_cases hid:id=h.next
    · subst hid;simp [AH.give]
    · have:(h.give k).get id=h.get id:=by simp only [AH.give];rw [if_neg hid]
      rw [AH.live,this] at hl
      have:=i.fresh id hl
      simp only [AH.give];omega
variable {P:Program} {w:World} {enc:TypeId×Value→H} {spare:Nat→Bool}
def Took (M:Mp) (w:World) (h:AH) (sh:Sh) (d:DataW H) (cs:List Value):Prop:=
  ∃ (M':Mp) (h':AH) (vs:List V),In M' w h'∧Gr M M' h h'∧VRs M' h' vs cs∧DV h' sh d vs∧(∀ v∈vs,v.isCell=true)
def TookL (M:Mp) (w:World) (h:AH) (l:ShL) (ds:List (DataW H)) (cs:List Value):Prop:=
  ∃ (M':Mp) (h':AH) (vs:List V),In M' w h'∧Gr M M' h h'∧VRs M' h' vs cs∧DVs h' l ds vs∧(∀ v∈vs,v.isCell=true)
theorem take_rows {e : Sh} (ih : ∀ (cs : List Value) (d : DataW H) (M : Mp) (h : AH), (∃ fuel t ps, ShT P t e ∧ DataW.trod enc P w 0 spare true fuel t cs = some (d, ps)) → In M w h → Sml e d → Took M w h e d cs) :
    ∀ (l:List (List Value×DataW H)) (M:Mp) (h:AH),In M w h→(∀ q∈l,(∃ fuel t ps,ShT P t e∧DataW.trod enc P w 0 spare true fuel t q.1=some (q.2,ps))∧Sml e q.2) →
      ∃ (M':Mp) (h':AH) (rows:List (List V)),In M' w h'∧Gr M M' h h'∧rows.length=l.length∧∀ (j:Nat) (q:List Value×DataW H) (r:List V),l[j]?=some q→rows[j]?=some r→VRs M' h' r q.1∧DV h' e q.2 r∧(∀ v∈r,v.isCell=true)
  | [],M,h,hi,_=>⟨M,h,[],hi,Gr.refl M h,rfl,fun j q r hq=>by simp at hq⟩
  | q::l,M,h,hi,hq=>by
    obtain ⟨M1,h1,vs,i1,g1,v1,d1,c1⟩:=ih q.1 q.2 M h (hq q (List.mem_cons_self ..)).1 hi (hq q (List.mem_cons_self ..)).2
    obtain ⟨M2,h2,rows,i2,g2,l2,a2⟩:=take_rows ih l M1 h1 i1 (fun x hx=>hq x (List.mem_cons_of_mem _ hx))
    refine ⟨M2,h2,vs::rows,i2,g1.trans g2,by simp [l2],fun j x r hx hr=>?_⟩
    cases j with
    | zero=>
      simp at hx hr;subst hx;subst hr
      exact ⟨v1.keep g2.keeps,d1.grow g2,c1⟩
    | succ j=>exact a2 j x r (by simpa using hx) (by simpa using hr)
def Al (P:Program) (w:World) (enc:TypeId×Value→H) (spare:Nat→Bool):ShL→List (List Value×DataW H)→Prop
  | .nil,q=>q=[]
  | .cons x l,q=>∃ p q',q=p::q'∧(∃ fuel t ps,ShT P t x∧DataW.trod enc P w 0 spare true fuel t p.1=some (p.2,ps))∧Al P w enc spare l q'
theorem al_struct {n : Nat} {cs : List Value} : ∀ (fs : List Field) (o : Nat) (l : ShL) (xs : List (DataW H × List MemPlace)), ShF P fs o l → xs.length = fs.length → (∀ (i : Nat) (f : Field), fs[i]? = some f → DataW.trod enc P w 0 spare true n f.type ((cs.drop f.offset).take (P.cellsOf f.type)) = xs[i]?) →
    ∃ q,Al P w enc spare l q∧q.map (·.2)=xs.map (·.1)∧(q.map (·.1)).flatten=(cs.drop o).take l.size
  | [],o,_,xs,.nil _,hl,ha=>by
    have:xs=[]:=List.length_eq_zero_iff.1 hl
    subst this
    exact ⟨[],rfl,rfl,by simp [ShL.size]⟩
  | f::fs,o,_,xs,.cons _ _ _ x l hf ht hc hr,hl,ha=>by
    match xs,hl,ha with
    | y::ys,hl,ha=>
      obtain ⟨q,q1,q2,q3⟩:=al_struct (n:=n) (cs:=cs) fs (o+x.size) l ys hr (by simpa using hl) (fun i g hg=>by simpa using ha (i+1) g (by simpa using hg))
      have h0:=ha 0 f rfl
      simp only [List.getElem?_cons_zero] at h0
      refine ⟨((cs.drop f.offset).take (P.cellsOf f.type),y.1)::q,⟨_,q,rfl,⟨n,f.type,y.2,ht,h0⟩,q1⟩,by simp [q2], ?_⟩
      simp only [List.map_cons,List.flatten_cons,q3,hf,hc,ShL.size]
      rw [← List.drop_drop,List.take_add]
theorem al_array {n : Nat} {e : TypeId} {x : Sh} {cs : List Value} (ht : ShT P e x) (hc : P.cellsOf e = x.size) : ∀ (m i : Nat) (xs : List (DataW H × List MemPlace)), xs.length = m → (∀ j, j < m → DataW.trod enc P w 0 spare true n e ((cs.drop ((i + j) * P.cellsOf e)).take (P.cellsOf e)) = xs[j]?) →
    ∃ q,Al P w enc spare (ShL.rep x m) q∧q.map (·.2)=xs.map (·.1)∧(q.map (·.1)).flatten=(cs.drop (i*x.size)).take (m*x.size)
  | 0,i,xs,hl,ha=>by
    have:xs=[]:=List.length_eq_zero_iff.1 hl
    subst this
    exact ⟨[],rfl,rfl,by simp⟩
  | m+1,i,xs,hl,ha=>by
    match xs,hl,ha with
    | y::ys,hl,ha=>
      obtain ⟨q,q1,q2,q3⟩:=al_array ht hc m (i+1) ys (by simpa using hl) (fun j hj=>by
        have:=ha (j+1) (by omega)
        simp only [List.getElem?_cons_succ] at this
        rw [← this,show i+(j+1)=i+1+j by omega])
      have h0:=ha 0 (by omega)
      simp only [List.getElem?_cons_zero,Nat.add_zero] at h0
      refine ⟨((cs.drop (i*P.cellsOf e)).take (P.cellsOf e),y.1)::q,⟨_,q,rfl,⟨n,e,y.2,ht,h0⟩,q1⟩,by simp [q2], ?_⟩
      simp only [List.map_cons,List.flatten_cons,q3,hc]
      rw [Nat.succ_mul,Nat.succ_mul,Nat.add_comm (m*x.size),List.take_add,List.drop_drop]
theorem trod_array {n : Nat} {e t : TypeId} {fuel : Nat} {cs : List Value} {x : DataW H × List MemPlace} (ht : P.underlying t = some (.array n e)) (h : DataW.trod enc P w 0 spare true fuel t cs = some x) :
    ∃ (xs:List (DataW H×List MemPlace)) (m:Nat),x=(.agg (xs.map (·.1)),xs.flatMap (·.2))∧cs.length=P.cellsOf t∧xs.length=n∧∀ j,j<n→DataW.trod enc P w 0 spare true m e ((cs.drop (j*P.cellsOf e)).take (P.cellsOf e))=xs[j]?:=by
  cases fuel with
  | zero=>simp [DataW.trod] at h
  | succ m=>
    unfold DataW.trod at h
    rw [ht] at h
    split at h<;>simp_all
    obtain ⟨hl,xs,hp,hd⟩:=h
    exact ⟨xs,hd.symm,by simpa using mapM_some_length hp,m,fun j hj=>by simpa using mapM_some_get hp j j (by simp [hj])⟩
theorem addr_add' {a:Addr} {n:Nat} (h:a.spot=none):a.add n=⟨a.block,a.off+n,none⟩:=by
  cases a
  simp only at h
  subst h
  simp only [Addr.add]
  split<;>simp_all
theorem addr_spot {a:Addr} {n:Nat} (h:a.spot=none):(a.add n).spot=none:=by rw [addr_add' h]
mutual
theorem take (hpos:0<w.heap.size):∀ (sh:Sh) (cs:List Value) (d:DataW H) (M:Mp) (h:AH),(∃ fuel t ps,ShT P t sh∧DataW.trod enc P w 0 (fun _=>true) true fuel t cs=some (d,ps))→In M w h→Sml sh d→Took M w h sh d cs
  | .b,cs,d,M,h,⟨fuel,t,ps,ht,hr⟩,hi,hs=>by
    cases ht with
    | b _ hu=>
      obtain ⟨x,rfl,he⟩:=DataW.trod_bool hu hr
      cases he
      exact ⟨M,h,[.b x],hi,Gr.refl M h,.cons _ _ _ _ (.b x) .nil,⟨x,rfl,rfl⟩,by simp [V.isCell]⟩
  | .i k,cs,d,M,h,⟨fuel,t,ps,ht,hr⟩,hi,hs=>by
    cases ht with
    | i _ _ hu=>
      obtain ⟨x,rfl,he,hw⟩:=DataW.trod_int hu hr
      cases he
      exact ⟨M,h,[.i k x],hi,Gr.refl M h,.cons _ _ _ _ (.i k x) .nil,⟨x,rfl,hw,rfl⟩,by simp [V.isCell]⟩
  | .s,cs,d,M,h,⟨fuel,t,ps,ht,hr⟩,hi,hs=>by
    cases ht with
    | s _ hu=>
      obtain ⟨x,rfl,he,hw⟩:=DataW.trod_string hu hr
      cases he
      exact ⟨M,h,[.s x],hi,Gr.refl M h,.cons _ _ _ _ (.s x) .nil,⟨x,rfl,hw,rfl⟩,by simp [V.isCell]⟩
  | .sl e,cs,d,M,h,⟨fuel,t,ps,ht,hr⟩,hi,hs=>by
    cases ht with
    | sl _ te _ hu hte hce hpe=>
      rcases DataW.trod_slice hu hr with ⟨rfl,he⟩ | ⟨a,len,cap,elems,rest,n,_,rfl,he,hb,hlc,hcm,hlen,hel,hsp,_⟩
      · cases he
        exact ⟨M,h,[.ns],hi,Gr.refl M h,.cons _ _ _ _ .ns .nil,.inl ⟨rfl,rfl⟩,by simp [V.isCell]⟩
      · cases he
        simp only [Sml] at hs
        obtain ⟨hs1,hs2⟩:=hs _ _ rfl
        have hs1':elems.length<bigLen:=by simpa using hs1
        have cell:∀ j (y:DataW H×List MemPlace),elems[j]?=some y→∃ cs',w.cells? 0 (a.add (j*P.cellsOf te)) (P.cellsOf te)=some cs'∧DataW.trod enc P w 0 (fun _=>true) true n te cs'=some y:=by
          intro j y hy
          have hj:j<len:=by rw [← hlen];exact (List.getElem?_eq_some_iff.1 hy).1
          have:=hel j hj
          rw [hy] at this
          simpa [Option.bind_eq_some_iff] using this
        let q:List (List Value×DataW H):=(List.range elems.length).map fun j=>((w.cells? 0 (a.add (j*P.cellsOf te)) (P.cellsOf te)).getD [],((elems[j]?).map (·.1)).getD (.nil))
        have hq:∀ j (y:DataW H×List MemPlace),elems[j]?=some y→∃ cs',w.cells? 0 (a.add (j*P.cellsOf te)) (P.cellsOf te)=some cs'∧DataW.trod enc P w 0 (fun _=>true) true n te cs'=some y∧q[j]?=some (cs',y.1):=by
          intro j y hy
          obtain ⟨cs',h1,h2⟩:=cell j y hy
          have hj:j<elems.length:=(List.getElem?_eq_some_iff.1 hy).1
          refine ⟨cs',h1,h2, ?_⟩
          simp only [q,List.getElem?_map,List.getElem?_range hj,Option.map_some,h1,hy,Option.getD_some]
        have hql:q.length=elems.length:=by simp [q]
        obtain ⟨M1,h1,rows,i1,g1,l1,a1⟩:=take_rows (e:=e) (fun cs d M h hh hi hs=>take hpos e cs d M h hh hi hs) q M h hi (fun z hz=>by
          obtain ⟨j,hj,hz⟩:=List.getElem_of_mem hz
          have hj':j<elems.length:=by rw [← hql];exact hj
          obtain ⟨cs',h1,h2,h3⟩:=hq j elems[j] (by simp [hj'])
          rw [List.getElem?_eq_getElem hj,hz] at h3
          cases h3
          exact ⟨⟨n,te,elems[j].2,hte,h2⟩,hs2 _ (List.mem_map.2 ⟨elems[j],List.getElem_mem _,rfl⟩)⟩)
        have first:∀ cs',w.cells? 0 (a.add 0) (P.cellsOf te)=some cs'→a.block<w.heap.size∧a.spot=none:=by
          intro cs' hcs
          have h1:=World.cells?_block hcs (by omega)
          obtain ⟨_,h2,h3⟩:=World.cells?_some hcs
          have h4:=h3 0 (by omega)
          rw [List.getElem?_eq_getElem (by omega)] at h4
          have h5:=World.cell?_spot h4
          simp only [Addr.add,if_true] at h1 h5
          exact ⟨h1,h5⟩
        have hz:0<cap→a.block<w.heap.size∧a.spot=none:=by
          intro hcap
          by_cases h0:0<elems.length
          · obtain ⟨cs',h2,_,_⟩:=hq 0 elems[0] (by simp [h0])
            exact first cs' (by simpa using h2)
          · have:=(hsp rfl).2 0 (by omega)
            rw [List.getElem?_eq_getElem (by rw [(hsp rfl).1];omega)] at this
            simp only [Option.bind_eq_some_iff] at this
            obtain ⟨cs',h2,_⟩:=this
            exact first cs' (by rw [show (len+0)*P.cellsOf te=0 by rw [show len+0=0 by omega];simp] at h2;exact h2)
        let m:MI:=⟨if 0<cap then a.block else 0,a.off,0,e.size,false⟩
        have hmb:m.b<w.heap.size:=by
          simp only [m]
          split
          · rename_i h0;exact (hz h0).1
          · exact hpos
        have hrow:∀ (el:Nat) (r:List V),rows[el]?=some r→∃ y cs',elems[el]?=some y∧q[el]?=some (cs',y.1)∧w.cells? 0 (a.add (el*P.cellsOf te)) (P.cellsOf te)=some cs':=by
          intro el r hr
          have hel2:el<elems.length:=by rw [← hql,←l1];exact (List.getElem?_eq_some_iff.1 hr).1
          obtain ⟨cs',h2,h3,h4⟩:=hq el elems[el] (by simp [hel2])
          exact ⟨elems[el],cs',by simp [hel2],h4,h2⟩
        have hcells:CellsAt M1 h1 w m ⟨e.size,rows⟩:=by
          refine ⟨rfl,fun el r hr=>?_⟩
          obtain ⟨y,cs',hy,hqe,hcs⟩:=hrow el r hr
          obtain ⟨hv,_,hcell⟩:=a1 el _ r hqe hr
          obtain ⟨_,hcl,hcc⟩:=World.cells?_some hcs
          have hlen2:=hv.length
          have hel2:el<elems.length:=(List.getElem?_eq_some_iff.1 hy).1
          have hz':=hz (by omega)
          refine ⟨by rw [hlen2];simp only;omega,fun j v hj=>⟨hcell v (List.mem_of_getElem? hj), ?_⟩⟩
          obtain ⟨x,hx,hvx⟩:=hv.get j v hj
          have hjl:j<P.cellsOf te:=by
            have:=(List.getElem?_eq_some_iff.1 hx).1
            simp only at this;omega
          refine ⟨x, ?_,hvx⟩
          have e1:=hcc j hjl
          simp only at hx
          rw [hx,addr_add' (addr_spot hz'.2),addr_add' hz'.2] at e1
          rw [← e1]
          simp only [m]
          rw [if_pos (by omega),hce]
        have i2:=i1.give (m:=m) hmb rfl hcells
        have g2:=give_gr (M:=M1) (k:=⟨e.size,rows⟩) (m:=m) i1.fresh
        refine ⟨_,_,[.sl h1.next 0 elems.length elems.length],i2,g1.trans g2,.cons _ _ _ _ ?_ .nil,.inr ⟨elems.map (·.1),rest.map (·.1),h1.next,rows,rfl,by simp,by simp [AH.give],by simp [AH.give],by simp [l1,hql],hs1,fun j x r hx hr=>?_⟩,by simp [V.isCell]⟩
        · rw [hlen]
          refine .sl _ _ _ _ _ _ (by simp [AH.give]) (by omega) (fun _=>⟨m,by simp [mput],fun hc=>?_,by omega,fun ho=>by cases ho⟩)
          have:=hz hc
          simp only [m]
          rw [if_pos hc]
          cases a;simp_all
        · obtain ⟨y,cs',hy,hqe,_⟩:=hrow j r hr
          simp only [List.getElem?_map,hy,Option.map_some,Option.some.injEq] at hx
          subst hx
          exact (a1 j _ r hqe hr).2.1.grow g2
  | .agg l,cs,d,M,h,⟨fuel,t,ps,ht,hr⟩,hi,hs=>by
    cases ht with
    | agg _ fs _ hu hf hc=>
      obtain ⟨xs,n,_,he,hlen,hxl,hx⟩:=DataW.trod_struct hu hr
      cases he
      simp only [Sml] at hs
      obtain ⟨q,q1,q2,q3⟩:=al_struct (n:=n) (cs:=cs) fs.toList 0 l xs hf (by simpa using hxl) (fun i f hf=>hx i f (by simpa using hf))
      obtain ⟨M',h',vs,i',g',v',d',c'⟩:=takeL hpos l q M h q1 hi (by rw [q2];exact hs _ rfl)
      rw [q3,List.drop_zero,←hc,←hlen,List.take_length] at v'
      rw [q2] at d'
      exact ⟨M',h',vs,i',g',v',⟨_,rfl,d'⟩,c'⟩
    | arr _ e n x hu hte hce hct=>
      obtain ⟨xs,m,he,hlen,hxl,hx⟩:=trod_array hu hr
      cases he
      simp only [Sml] at hs
      obtain ⟨q,q1,q2,q3⟩:=al_array (n:=m) (cs:=cs) hte hce n 0 xs hxl (fun j hj=>by rw [Nat.zero_add];exact hx j hj)
      obtain ⟨M',h',vs,i',g',v',d',c'⟩:=takeL hpos (ShL.rep x n) q M h q1 hi (by rw [q2];exact hs _ rfl)
      rw [q3,Nat.zero_mul,List.drop_zero,←hct,←hlen,List.take_length] at v'
      rw [q2] at d'
      exact ⟨M',h',vs,i',g',v',⟨_,rfl,d'⟩,c'⟩
theorem takeL (hpos:0<w.heap.size):∀ (l:ShL) (q:List (List Value×DataW H)) (M:Mp) (h:AH),Al P w enc (fun _=>true) l q→In M w h→Smls l (q.map (·.2))→TookL M w h l (q.map (·.2)) (q.map (·.1)).flatten
  | .nil,q,M,h,ha,hi,hs=>by
    simp only [Al] at ha;subst ha
    exact ⟨M,h,[],hi,Gr.refl M h,.nil,⟨rfl,rfl⟩,by simp⟩
  | .cons x l,q,M,h,ha,hi,hs=>by
    simp only [Al] at ha
    obtain ⟨p,q',rfl,ht,ha⟩:=ha
    simp only [Smls] at hs
    obtain ⟨s1,s2⟩:=hs _ _ rfl
    obtain ⟨M1,h1,vs,i1,g1,v1,d1,c1⟩:=take hpos x p.1 p.2 M h ht hi s1
    obtain ⟨M2,h2,us,i2,g2,v2,d2,c2⟩:=takeL hpos l q' M1 h1 ha i1 s2
    refine ⟨M2,h2,vs++us,i2,g1.trans g2,by simpa using (v1.keep g2.keeps).append v2,⟨_,_,vs,us,rfl,rfl,d1.grow g2,d2⟩,fun v hv=>?_⟩
    rcases List.mem_append.1 hv with hv | hv
    · exact c1 v hv
    · exact c2 v hv
end
end
end Go.Ab
/- A law's row out of the abstract machine. -/
namespace Go.Ab
open Go Go.RowKit
theorem calls_bool {P : Program} {tp : TP} {wr : Wr} (hT : TpOk P wr tp) (hm : MethsOk P tp) (hx : P.follows .mixedOrders = true) {f : Nat} {args : List V} {h : AH} {M : Mp} {w : World} {xs : Array Value}
    (hi:In M w h) (ha:VRs M h args xs.toList) (he:Ev tp f args h (fun r _=>r=.b true)):Calls P f xs w fun e w'=>e=.returned (.bool true)∧Below w.heap.size w w':=by
  obtain ⟨k,v,h',hev,rfl⟩:=he
  refine ((ev_sound hT hm hx k f args h _ h' hev).2 M w.heap.size w xs hi.sim ha).mono fun e w' ⟨x,M',e1,hd⟩=>?_
  subst e1
  have hv:=hd.val
  cases hv
  exact ⟨rfl,hd.below⟩
theorem In.empty (w:World):In (fun _=>none) w ⟨fun _=>none,0,0⟩:=⟨fun _ _ _ hk=>(by cases hk),fun _ _ hm=>(by cases hm),fun _ hl=>absurd rfl hl,rfl⟩
def posB (P:Program):Bool:=
  if P.globals.size=0 then decide (0<(begin P (fun _ _=>0) default).world.heap.size)
  else (((begin P (fun _ _=>0) default).world.heap[0]?).bind Obj.row?).isSome
theorem shaped_pos {P:Program} {w:World} (hp:posB P=true) (hs:w.ShapedOpen P):0<w.heap.size:=by
  unfold posB at hp
  split at hp
  · rename_i h0
    simp only [decide_eq_true_eq] at hp
    obtain ⟨o,_,ho,_⟩:=hs.2 0 (by omega) hp
    by_cases hz:0<w.heap.size
    · exact hz
    · rw [Array.getElem?_eq_none (by omega)] at ho;cases ho
  · rename_i h0
    cases hb:((begin P (fun _ _=>0) default).world.heap[0]?).bind Obj.row? with
    | none=>rw [hb] at hp;cases hp
    | some q=>
      obtain ⟨cs,hc,_⟩:=hs.1 0 q.1 q.2 (by omega) hb
      by_cases hz:0<w.heap.size
      · exact hz
      · rw [Array.getElem?_eq_none (by omega)] at hc;cases hc
theorem wf_i64 {n:Int} (h:(Lit.int .i64 n).wf=true): -9223372036854775808≤n∧n≤9223372036854775807:=by
  simpa [Lit.wf,IntKind.min,IntKind.max,IntKind.signed,IntKind.bits] using h
def shFs (K:TypeId→Option Sh) (P:Program):List Field→Nat→Option ShL
  | [],_=>some .nil
  | f::fs,o=>(K f.type).bind fun x=>if f.offset=o∧P.cellsOf f.type=x.size then (shFs K P fs (o+x.size)).map fun l=>.cons x l else none
def shB (P:Program):Nat→TypeId→Option Sh
  | 0,_=>none
  | n+1,t=>
    match P.underlying t with
    | some .bool=>some .b
    | some (.int k)=>some (.i k)
    | some .string=>some .s
    | some (.slice e)=>(shB P n e).bind fun x=>if P.cellsOf e=x.size∧0<x.size then some (.sl x) else none
    | some (.struct fs)=>(shFs (shB P n) P fs.toList 0).bind fun l=>if P.cellsOf t=l.size then some (.agg l) else none
    | some (.array m e)=>(shB P n e).bind fun x=>if P.cellsOf e=x.size∧P.cellsOf t=m*x.size then some (.agg (ShL.rep x m)) else none
    | _=>none
theorem shFs_ok {K:TypeId→Option Sh} {P:Program} (hK:∀ t x,K t=some x→ShT P t x):∀ (fs:List Field) (o:Nat) (l:ShL),shFs K P fs o=some l→ShF P fs o l
  | [],o,l,h=>by cases h;exact .nil o
  | f::fs,o,l,h=>by
    simp only [shFs,Option.bind_eq_some_iff] at h
    obtain ⟨x,hx,h⟩:=h
    split at h
    · rename_i hh
      simp only [Option.map_eq_some_iff] at h
      obtain ⟨l',hl,rfl⟩:=h
      exact .cons f fs o x l' hh.1 (hK _ _ hx) hh.2 (shFs_ok hK fs _ l' hl)
    · cases h
theorem shB_ok {P:Program}:∀ (n:Nat) (t:TypeId) (x:Sh),shB P n t=some x→ShT P t x
  | 0,t,x,h=>by cases h
  | n+1,t,x,h=>by
    unfold shB at h
    split at h
    · rename_i hu;cases h;exact .b t hu
    · rename_i k hu;cases h;exact .i t k hu
    · rename_i hu;cases h;exact .s t hu
    · rename_i e hu
      simp only [Option.bind_eq_some_iff] at h
      obtain ⟨y,hy,h⟩:=h
      split at h
      · rename_i hh;cases h;exact .sl t e y hu (shB_ok n e y hy) hh.1 hh.2
      · cases h
    · rename_i fs hu
      simp only [Option.bind_eq_some_iff] at h
      obtain ⟨l,hl,h⟩:=h
      split at h
      · rename_i hh;cases h;exact .agg t fs l hu (shFs_ok (shB_ok n) _ _ _ hl) hh
      · cases h
    · rename_i m e hu
      simp only [Option.bind_eq_some_iff] at h
      obtain ⟨y,hy,h⟩:=h
      split at h
      · rename_i hh;cases h;exact .arr t e m y hu (shB_ok n e y hy) hh.1 hh.2
      · cases h
    · cases h
section
variable {H:Type} {enc:TypeId×Value→H}
theorem handed_cond {a : Assume} {C : Checked} {os : Os} {f : FuncId} {fn : Func} {s : OpenSpec} {k : (H : Type) → List (DataW H) → Bool} (hk : s.cond = some k) {F : Stop.Interp} {conds : List PathCond} {apart fresh handsOn again : Bool}
    (own:ownKnob C.prog.godebug=none) (started:os.Started) (noInit:C.prog.inits.idxOf? f=none) (hfn:C.prog.funcs[f]?=some fn) (hpos:posB C.prog=true)
    (witness:∃ (w:World) (tape:Tape) (i:Input),w.os=os∧(w.forCall tape i).Shaped C.prog∧i.vars=[]∧Input.okWide C.prog (w.forCall tape i) .any w.heap.size f i ∧
      s.pre6 enc C.prog fn conds apart (w.forCall tape i).memory i.args∧a.holds C.prog (lone (Frame.enter C.prog f i.args .normal) [] (w.forCall tape i)))
    (contract:∀ (W:World) (base:Nat) (args:Array Value) (ds gs:List (DataW H)) (before:List MemPlace),0<W.heap.size →
      (∀ (j:Nat) t v,fn.params[j]?=some t→args[j]?=some v→Value.okWide C.prog W .any base t v) →
      DataW.Whole enc C.prog fn.params.toList s.vars apart W args.toList ds gs before→k H (ds++gs)=true →
      Calls C.prog f args W fun e W'=>∃ v,e=.returned v∧(s.at F).post enc C.prog fn apart fresh handsOn again W args v W'):
    ReturnsInHanded a C os f .any (s.pre6 enc C.prog fn conds apart) ((s.at F).post enc C.prog fn apart fresh handsOn again):=by
  refine returnsInHanded_of_calls own started noInit witness ?_
  intro w tape i _ hshaped _ hok hpre _
  obtain ⟨_,_,_,fn',hfn',_,_,_,_,hval⟩:=hok
  obtain rfl:fn'=fn:=Option.some.inj (hfn'.symm.trans hfn)
  obtain ⟨ds,gs,before,hw,_,hkk⟩:=(OpenSpec.pre_some hk conds apart _ _).1 hpre.1
  have hw':=DataW.Whole.of_heap (w':=w.forCall tape i) (by rfl) hw
  refine (contract (w.forCall tape i) w.heap.size i.args ds gs before (shaped_pos hpos hshaped) hval hw' hkk).mono fun e W' ⟨v,he,hp⟩=>?_
  subst he
  exact ChangeSpec.post_blind hp
end
end Go.Ab
namespace Go.Ab.T
open Go Go.Ab
set_option maxHeartbeats 1000000
theorem Pf.ev {f:Nat} {args args1:List V} {h:AH} (pf:Pf tp f args (.b true)) (hl:h.lim≤h.next) (p:PRs (·<h.next) (fun i=>i) h.get 0 args args1):Ev tp f args1 h (fun r _=>r=.b true):=by
  refine (pf (·<h.next) (fun i=>i) h args1 (Cfg.emp (fun a ha=>ha) hl _) p).imp ?_
  rintro r1 hc' ⟨r,h',S',m',c',a',q,rfl,rfl⟩
  cases q;rfl
structure BK {H:Type} (bk:DataW H→Nat):Prop where
  sl:∀ elems spare,elems.length≤bk (.slice elems spare)
  el:∀ elems spare x,x∈elems→bk x≤bk (.slice elems spare)
  ag:∀ parts x,x∈parts→bk x≤bk (.agg parts)
  st:∀ l,l.length≤bk (.lit (.string l))
section
variable {H:Type} {bk:DataW H→Nat} {h:AH}
abbrev PW (h:AH) (u v:V):Prop:=PR (·<h.next) (fun i=>i) h.get 0 u v
abbrev PWs (h:AH) (u v:List V):Prop:=PRs (·<h.next) (fun i=>i) h.get 0 u v
theorem gr_mon {M M':Mp} {h h':AH} (g:Gr M M' h h'):PMon (·<h.next) (fun i=>i) h.get 0 (·<h'.next) (fun i=>i) h'.get 0:=
  ⟨fun a ha=>Nat.lt_of_lt_of_le ha g.keeps.next,fun a ha=>g.get a ha,fun _ _=>rfl,Nat.le_refl _⟩
theorem PW.gr {M M':Mp} {h h':AH} {u v:V} (g:Gr M M' h h') (p:PW h u v):PW h' u v:=PR.mono (gr_mon g) p
theorem PWs.gr {M M':Mp} {h h':AH} {u v:List V} (g:Gr M M' h h') (p:PWs h u v):PWs h' u v:=PRs.mono (gr_mon g) p
theorem dec_slice {α : Type} {en : α → List V} {good : α → Prop} (B : BK bk) {e : Sh} {d : DataW H} {vs : List V} (hd : DV h (.sl e) d vs) (hb : bk d ≤ 1048576) (hp : ∀ (y : DataW H) (r : List V), DV h e y r → bk y ≤ 1048576 → ∃ a, good a ∧ PWs h (en a) r) :
    ∃ (L:List α) (x:V),vs=[x]∧(∀ a∈L,good a)∧L.length≤1048576∧PW h (.fl e.size (L.map en)) x:=by
  simp only [DV] at hd
  rcases hd with ⟨rfl,rfl⟩ | ⟨elems,spare,id,rows,rfl,rfl,h2,h3,h4,h5,h6⟩
  · exact ⟨[],_,rfl,(fun a ha=>by cases ha),by simp,.fl0 _ _⟩
  · have hl:=B.sl elems spare
    have hel:=B.el elems spare
    have:∀ (els:List (DataW H)) (rows:List (List V)),rows.length=els.length→(∀ x∈els,bk x≤1048576)→(∀ (j:Nat) (x:DataW H) (r:List V),els[j]?=some x→rows[j]?=some r→DV h e x r)→∃ L:List α,L.length=els.length∧(∀ a∈L,good a)∧PRr (·<h.next) (fun i=>i) h.get 0 (L.map en) rows:=by
      intro els
      induction els with
      | nil=>intro rows hl _ _;rw [List.length_eq_zero_iff.1 hl];exact ⟨[],rfl,(fun a ha=>by cases ha),.nil _⟩
      | cons y els ih=>
        intro rows hl hb hr
        match rows,hl with
        | r::rows,hl=>
          obtain ⟨a,ga,pa⟩:=hp y r (hr 0 y r rfl rfl) (hb y (List.mem_cons_self ..))
          obtain ⟨L,l1,l2,l3⟩:=ih rows (by simpa using hl) (fun x hx=>hb x (List.mem_cons_of_mem _ hx)) (fun j x r hx hr'=>hr (j+1) x r (by simpa using hx) (by simpa using hr'))
          exact ⟨a::L,by simp [l1],fun b hb=>by rcases List.mem_cons.1 hb with rfl | hb;exact ga;exact l2 b hb,.cons _ _ _ _ _ pa l3⟩
    obtain ⟨L,l1,l2,l3⟩:=this elems rows h4 (fun x hx=>by have:=hel x hx;omega) h6
    refine ⟨L,_,rfl,l2,by omega, ?_⟩
    have e1:elems.length=(L.map en).length:=by simp [l1]
    rw [e1]
    exact .fl _ _ _ id 0 _ rows h3 h2 (Nat.le_refl _) (by simp;omega) (by simp [frzLen];omega) (by rw [List.drop_zero,List.take_of_length_le (by simp;omega)];exact l3)
theorem dec_ints (B:BK bk) {d:DataW H} {vs:List V} (hd:DV h (.sl (.i .i64)) d vs) (hb:bk d≤1048576):∃ (L:List Int) (x:V),vs=[x]∧L.length≤1048576∧PW h (.fl 1 (L.map encI)) x:=by
  obtain ⟨L,x,h1,_,h3,h4⟩:=dec_slice (en:=encI) (good:=fun _=>True) B hd hb (fun y r hy _=>by obtain ⟨n,_,_,rfl⟩:=hy;exact ⟨n,trivial,.cons _ _ _ _ _ (.i _ _ _) (.nil _)⟩)
  exact ⟨L,x,h1,h3,h4⟩
end
end Go.Ab.T
