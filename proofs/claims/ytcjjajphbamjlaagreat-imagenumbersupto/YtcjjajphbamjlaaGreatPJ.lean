/- Part of a proof that a law returns true for every input of the second form's bound (no other condition). -/
import Derived.Test.YtcjjajphbamjlaaGreatPI
import Derived.Test.YtcjjajphbamjlaaGreatPH
set_option linter.all false
namespace Go.Ab.T
open Go Go.Ab
set_option maxHeartbeats 2000000
@[go_sem] def Br (s:Rd):BV:=⟨2,[[.fl 1 (s.b.map Aj),.b s.bad]]⟩
theorem HF {h:AH} {id:Nat} {s:Rd} {K:V→AH→Prop} (hg:h.get id=some (Br s)) (hb:Az s.b) (hlo:h.lim≤id) (kk:K (.i .i64 (BC s).1) (h.put id (Br (BC s).2))):Cq tp SD [.p id 0 0] h K:=by
 obtain ⟨b,bad⟩:=s
 have hg1:=Si hb
 have hbd:=GB (b:=b)
 have f1:bad=true∨(Bf b).2=0→BC ⟨b,bad⟩=(0,⟨b,true⟩):=fun q=>if_pos q
 have f2:¬ (bad=true∨(Bf b).2=0)→BC ⟨b,bad⟩=((Bf b).1,⟨b.drop (Bf b).2,bad⟩):=fun q=>if_neg q
 have mk:∀ n,List.drop n (b.map Aj)=(b.drop n).map Aj:=fun n=>List.map_drop.symm
 simp only [Br] at hg
 refine EI aGn (by simp [Pp]) ((by rw [hg];rfl)) (fun _ _ _=>.cons _ _ _ _ _ (BS.of_stay rfl) (.nil _)) (kk) fun hlm hid rp=>?_;unfold Pp;simp (disch:=omega)only[go_sem, *]
 refine Pf.go (hg1) (by simp only [go_sem]) fun _=>?_;simp (disch:=omega)only[go_sem, *]
 clear hg1
 generalize Bf b=p at *
 obtain ⟨n,k⟩:=p
 simp only at f1 f2 hbd
 have ml:List.take (b.length - k) ((b.drop k).map Aj)=(b.drop k).map Aj:=List.take_of_length_le (by simp)
 cases bad with
 | true=>
  have e:=f1 (.inl rfl)
  clear f1 f2
  simp (disch:=omega)only[go_sem, *]
  exact Bc (EB.same hg)
 | false=>
  simp (disch:=omega)only[go_sem, *]
  refine Aa (fun hc=>?_) (fun hc=>?_)
  ·have e:=f1 (.inr (by omega))
   clear f1 f2
   simp (disch:=omega)only[go_sem, *]
   exact Bc (EB.same hg)
  ·have e:=f2 (by simp;omega)
   clear f1 f2
   simp (disch:=omega)only[go_sem, *]
   exact Bc (EB.same hg)
theorem Az.drop {n:Nat} {l:List Int} (h:Az l):Az (l.drop n):=fun z hz=>h z (List.mem_of_mem_drop hz)
theorem Az.num {s:Rd} (h:Az s.b):Az (BC s).2.b:=by
 unfold BC;split
 ·exact h
 ·exact h.drop
theorem Az.cnt {m:Int} {s:Rd} (h:Az s.b):Az (AJ m s).2.b:=by
 unfold AJ;split
 ·exact h.num
 ·exact h.num
theorem Az.flag {s:Rd} (h:Az s.b):Az (Dy s).2.b:=h.cnt
theorem Az.text {m:Int} {s:Rd} (h:Az s.b):Az (DH m s).2.b:=by
 unfold DH;split
 ·exact h
 ·exact h.drop
theorem Bg {h:AH} {id:Nat} {s:Rd} {m:Int} {K:V→AH→Prop} (hg:h.get id=some (Br s)) (hb:Az s.b) (hlo:h.lim≤id) (kk:K (.i .i64 (AJ m s).1) (h.put id (Br (AJ m s).2))):Cq tp IX [.p id 0 0,.i .i64 m] h K:=by
 have f1:(BC s).1<0∨m<(BC s).1→AJ m s=(0,⟨(BC s).2.b,true⟩):=fun q=>if_pos q
 have f2:¬ ((BC s).1<0∨m<(BC s).1)→AJ m s=BC s:=fun q=>if_neg q
 refine EI aGk (by simp [Pm]) ((by rw [hg];rfl)) (fun _ _ _=>.cons _ _ _ _ _ (BS.of_stay rfl) (.nil _)) (kk) fun hlm hid rp=>?_;unfold Pm;simp (disch:=omega)only[go_sem, *]
 refine HF hg hb hlo ?_
 have hu:=Bc (b':=Br (BC s).2) (EB.same hg)
 simp only [Br] at hu
 generalize BC s=p at *
 obtain ⟨n,b,bad⟩:=p
 simp only at f1 f2 hu
 simp (disch:=omega)only[go_sem, *]
 refine Aq (fun hc=>?_) (fun hc=>?_)
 ·have e:=f1 (.inl hc)
  clear f1 f2
  simp (disch:=omega)only[go_sem, *]
  exact Bc (EB.same hg)
 ·simp (disch:=omega)only[go_sem, *]
  refine Aa (fun hc2=>?_) (fun hc2=>?_)
  ·have e:=f1 (.inr hc2)
   clear f1 f2
   simp (disch:=omega)only[go_sem, *]
   exact Bc (EB.same hg)
  ·have e:=f2 (by omega)
   clear f1 f2
   simp (disch:=omega)only[go_sem, *]
theorem Ik {h:AH} {id:Nat} {s:Rd} {K:V→AH→Prop} (hg:h.get id=some (Br s)) (hb:Az s.b) (hlo:h.lim≤id) (kk:K (.b (Dy s).1) (h.put id (Br (Dy s).2))):Cq tp SC [.p id 0 0] h K:=by
 refine EI aGm (by simp [Po]) ((by rw [hg];rfl)) (fun _ _ _=>.cons _ _ _ _ _ (BS.of_stay rfl) (.nil _)) (kk) fun hlm hid rp=>?_;unfold Po;simp (disch:=omega)only[go_sem, *]
 refine Bg hg hb hlo ?_
 have hu:=Bc (b':=Br (AJ 1 s).2) (EB.same hg)
 simp only [Br] at hu
 unfold Dy
 simp (disch:=omega)only[go_sem, *]
theorem TJ {h:AH} {id:Nat} {s:Rd} {m:Int} {K:V→AH→Prop} (hg:h.get id=some (Br s)) (hb:Az s.b) (hm:m≤1000) (hlo:h.lim≤id) (kk:K (.s (DH m s).1) (h.put id (Br (DH m s).2))):Cq tp Mq [.p id 0 0,.i .i64 m] h K:=by
 obtain ⟨b,bad⟩:=s
 have hg1:=gE hb hm
 have hbd:(DK b m).2≤b.length:=by
  have:=GB (b:=b)
  unfold DK
  split
  ·simp
  ·rename_i q
   simp only
   omega
 have f1:bad=true∨(DK b m).2=0→DH m ⟨b,bad⟩=(⟨#[]⟩,⟨b,true⟩):=fun q=>if_pos q
 have f2:¬ (bad=true∨(DK b m).2=0)→DH m ⟨b,bad⟩=(ZO (DK b m).1,⟨b.drop (DK b m).2,bad⟩):=fun q=>if_neg q
 have mk:∀ n,List.drop n (b.map Aj)=(b.drop n).map Aj:=fun n=>List.map_drop.symm
 simp only [Br] at hg
 refine EI iI (by simp [Kz]) ((by rw [hg];rfl)) (fun _ _ _=>.cons _ _ _ _ _ (BS.of_stay rfl) (.nil _)) (kk) fun hlm hid rp=>?_;unfold Kz;simp (disch:=omega)only[go_sem, *]
 refine Pf.go (hg1) (by simp only [go_sem]) fun _=>?_;simp (disch:=omega)only[go_sem, *]
 clear hg1
 generalize DK b m=p at *
 obtain ⟨n,k⟩:=p
 simp only at f1 f2 hbd
 have ml:List.take (b.length - k) ((b.drop k).map Aj)=(b.drop k).map Aj:=List.take_of_length_le (by simp)
 cases bad with
 | true=>
  have e:=f1 (.inl rfl)
  clear f1 f2
  simp (disch:=omega)only[go_sem, *]
  exact Bc (EB.same hg)
 | false=>
  simp (disch:=omega)only[go_sem, *]
  refine Aa (fun hc=>?_) (fun hc=>?_)
  ·have e:=f1 (.inr (by omega))
   clear f1 f2
   simp (disch:=omega)only[go_sem, *]
   exact Bc (EB.same hg)
  ·have e:=f2 (by simp;omega)
   clear f1 f2
   simp (disch:=omega)only[go_sem, *]
   exact Bc (EB.same hg)
end Go.Ab.T
namespace Go.Ab.T
open Go Go.Ab
set_option maxHeartbeats 4000000
theorem Fe {m:Int} {s:Rd} (h:0≤m):0≤(AJ m s).1∧(AJ m s).1≤m:=by
 unfold AJ
 split
 ·exact ⟨Int.le_refl 0,h⟩
 ·omega
theorem aHr {K : Ex → Env → AH → Prop} {e : Env} {h hh : AH} {id n : Nat} {s : Rd} {P : List AO × Rd} {r0 : List V} {a b c d f g0 g1 g2 g3 g4 : V} (hid : id < h.next) (hlo : h.lim ≤ id) (hn : n ≤ 3) (hP : Cv n [] s = P) (hb : Az s.b)
    (l0:hh.lim=h.lim) (n0:h.next+2≤hh.next) (q0:hh.get id=some (Br s)) (q1:hh.get h.next=some ⟨11,[r0]⟩) (q2:hh.get (h.next+1)=some ⟨11,[[a,b,c,d,f,.ns,g0,g1,g2,g3,g4]]⟩) (fr:∀ j,j<h.next→j≠id→hh.get j=h.get j)
    (e0:e 0=.p id 0 0) (e2:e 2=.p h.next 0 0) (e3:e 3=.p (h.next+1) 0 0) (e17:e 17=.i .i64 n) (e18:e 18=.i .i64 0)
    (kk:∀ (e:Env) (hh:AH) (v:V),hh.lim=h.lim→h.next+2≤hh.next→hh.get id=some (Br P.2)→Az P.2.b→hh.get h.next=some ⟨11,[r0]⟩→hh.get (h.next+1)=some ⟨11,[[a,b,c,d,f,v,g0,g1,g2,g3,g4]]⟩→(∀ j,j<h.next→j≠id→hh.get j=h.get j)→Sl (h.next+2) hh 2 v (P.1.map AO.enc)→P.1.length≤3→e 0=.p id 0 0→e 2=.p h.next 0 0→e 3=.p (h.next+1) 0 0→K (.ex 0) e hh):ZC tp (.loop VG) e hh K:=by
 refine Ae (fun n' e hh=>∃ (i:Nat) (v:V) (A:List AO) (s:Rd),n'=n - i∧hh.lim=h.lim∧h.next+2≤hh.next∧hh.get id=some (Br s)∧Az s.b∧hh.get h.next=some ⟨11,[r0]⟩∧hh.get (h.next+1)=some ⟨11,[[a,b,c,d,f,v,g0,g1,g2,g3,g4]]⟩∧(∀ j,j<h.next→j≠id→hh.get j=h.get j)∧Sl (h.next+2) hh 2 v (A.map AO.enc)∧A.length=i∧i≤n∧Cv (n - i) A s=P∧e 0=.p id 0 0∧e 2=.p h.next 0 0∧e 3=.p (h.next+1) 0 0∧e 17=.i .i64 n∧e 18=.i .i64 i) ?_ _ _ _ ⟨0,.ns,[],s,rfl,l0,n0,q0,hb,q1,q2,fr,Sl.nil _ _ _,rfl,by omega,hP,e0,e2,e3,e17,e18⟩
 clear l0 n0 q0 q1 q2 fr e0 e2 e3 e17 e18 e hh hb hP s
 rintro n' e hh ⟨i,v,A,s,rfl,l0,n0,q0,hb,q1,q2,fr,sl,hA,hi,hP,e0,e2,e3,e17,e18⟩ ih
 have hsv:=Sl.sameV sl
 have hown:=As sl
 obtain ⟨wlen,wbig,wlt,wlo,wget,FF,wrow,wcell,wcells⟩:=sl.facts
 clear wlt wlo wget FF wrow
 rw [Ai VG.eq_1]
 simp (disch:=omega)only[go_sem, *]
 refine Aa (fun hc=>?_) (fun hc=>?_)
 ·have hni:n - i=(n - (i+1))+1:=by omega
  rw [hni,Cv] at hP
  have b1:=hb.cnt (m:=512)
  have b2:=b1.cnt (m:=255)
  simp (disch:=omega)only[go_sem, *]
  refine Bg (s:=s) (m:=512) ?_ hb ?_ ?_
  ·simp (disch:=omega)only[go_sem, *]
  ·simp (disch:=omega)only[go_sem, *]
  generalize AJ 512 s=t1 at *
  have q0':(hh.put id (Br t1.2)).get id=some (Br t1.2):=by rw [Ad,AC rfl]
  simp (disch:=omega)only[go_sem, *]
  refine Bg (s:=t1.2) (m:=255) ?_ b1 ?_ ?_
  ·simp (disch:=omega)only[go_sem, *]
  ·simp (disch:=omega)only[go_sem, *]
  generalize AJ 255 t1.2=t2 at *
  have sl2:=AA sl id (Br t2.2) (hown.imp (fun x=>x) (fun x=>by omega))
  simp only [Br] at sl2
  simp (disch:=omega)only[go_sem, *]
  refine Ao (N:=[AO.enc ⟨t1.1,t2.1⟩]) (Sl.alloc sl2 ⟨2,[AO.enc ⟨t1.1,t2.1⟩]⟩) ?_ ?_ ?_ ?_
  ·rw [AG,CU];omega
  ·rw [Ag,AB];omega
  ·simp;omega
  intro w h4 s4 g4
  have hl4:=g4.lim
  have hn4:=g4.next
  have lo4:∀ j,j<h.next+2→h4.get j=if j=id then some (Br t2.2) else hh.get j:=fun j hj=>by
   rw [g4.low j hj,AL,Ac (by rw [AB];omega),Ad]
   by_cases hq:j=id
   ·rw [AC hq,if_pos hq];rfl
   ·rw [Ac hq,if_neg hq]
  have s5:Sl (h.next+2) h4 2 w ((A++[(⟨t1.1,t2.1⟩:AO)]).map AO.enc):=by simpa using s4
  rw [AG,CU] at hl4
  rw [Ag,AB] at hn4
  have p0:=lo4 id (by omega)
  rw [if_pos rfl] at p0
  have p1:=lo4 h.next (by omega)
  rw [if_neg (by omega),q1] at p1
  have p2:=lo4 (h.next+1) (by omega)
  rw [if_neg (by omega),q2] at p2
  have fr4:∀ j,j<h.next→j≠id→h4.get j=h.get j:=fun j hj hne=>by rw [lo4 j (by omega),if_neg hne];exact fr j hj hne
  obtain ⟨_,_,_,_,_,_,_,xc1,xc2⟩:=s5.facts
  have so5:=As s5
  clear s4 g4 sl2 sl lo4 q0 q0' q1 q2 fr hsv wlen wbig wcell wcells
  simp (disch:=omega)only[go_sem, *]
  have s6:=AA s5 (h.next+1) ⟨11,[[a,b,c,d,f,w,g0,g1,g2,g3,g4]]⟩ (so5.imp (fun x=>x) (fun x=>by omega))
  refine ih _ _ _ ?_ ⟨i+1,w,A++[⟨t1.1,t2.1⟩],t2.2,rfl, ?_⟩
  ·omega
  ·clear ih kk s5
   simp (disch:=omega)only[go_sem, *]
   all_goals ((repeat' refine And.intro ?_ ?_)<;>first | omega | assumption | (exact s6) | (exact b2) | ((simp;omega)) | (exact hP) | ((intro j hj hne;rw [Ac (by omega)];exact fr4 j hj hne)))
 ·have h0:n - i=0:=by omega
  rw [h0,Cv] at hP
  subst hP
  simp (disch:=omega)only[go_sem, *]
  exact kk _ _ v l0 n0 q0 hb q1 q2 fr sl (show A.length≤3 by omega) e0 e2 e3
theorem Rh {h:AH} {id:Nat} {s:Rd} {K:V→AH→Prop} (hg:h.get id=some (Br s)) (hb:Az s.b) (hlo:h.lim≤id) (kk:K (.agg (C7 s).1.enc) (h.put id (Br (C7 s).2))):Cq tp SB [.p id 0 0] h K:=by
 refine EI aGl (by simp [Pn]) ((by rw [hg];rfl)) (fun _ _ _=>.cons _ _ _ _ _ (BS.of_stay rfl) (.nil _)) (kk) fun hlm hid rp=>?_;unfold Pn;simp (disch:=omega)only[go_sem, *]
 clear kk
 have hgf:h.get id=some ⟨2,[[.fl 1 (s.b.map Aj),.b s.bad]]⟩:=hg
 have hun:=hid
 refine TJ (s:=s) (m:=12) ?_ hb (by omega) ?_ ?_
 ·simp (disch:=omega)only[go_sem, *]
 ·simp (disch:=omega)only[go_sem, *]
 have b1:=hb.text (m:=12)
 obtain ⟨t1,ht1⟩:∃ x,DH 12 s=x:=⟨_,rfl⟩
 rw [ht1] at b1 ⊢
 simp (disch:=omega)only[go_sem, *]
 refine HF (s:=t1.2) ?_ b1 ?_ ?_
 ·simp (disch:=omega)only[go_sem, *]
 ·simp (disch:=omega)only[go_sem, *]
 have b2:=b1.num
 obtain ⟨t2,ht2⟩:∃ x,BC t1.2=x:=⟨_,rfl⟩
 rw [ht2] at b2 ⊢
 simp (disch:=omega)only[go_sem, *]
 refine HF (s:=t2.2) ?_ b2 ?_ ?_
 ·simp (disch:=omega)only[go_sem, *]
 ·simp (disch:=omega)only[go_sem, *]
 have b3:Az (BC t2.2).2.b:=by first | exact Az.num b2 | exact Az.flag b2 | exact Az.cnt b2
 obtain ⟨t3,ht3⟩:∃ x,BC t2.2=x:=⟨_,rfl⟩
 rw [ht3] at b3 ⊢
 simp (disch:=omega)only[go_sem, *]
 refine Ik (s:=t3.2) ?_ b3 ?_ ?_
 ·simp (disch:=omega)only[go_sem, *]
 ·simp (disch:=omega)only[go_sem, *]
 have b4:Az (Dy t3.2).2.b:=by first | exact Az.num b3 | exact Az.flag b3 | exact Az.cnt b3
 obtain ⟨t4,ht4⟩:∃ x,Dy t3.2=x:=⟨_,rfl⟩
 rw [ht4] at b4 ⊢
 simp (disch:=omega)only[go_sem, *]
 refine Ik (s:=t4.2) ?_ b4 ?_ ?_
 ·simp (disch:=omega)only[go_sem, *]
 ·simp (disch:=omega)only[go_sem, *]
 have b5:Az (Dy t4.2).2.b:=by first | exact Az.num b4 | exact Az.flag b4 | exact Az.cnt b4
 obtain ⟨t5,ht5⟩:∃ x,Dy t4.2=x:=⟨_,rfl⟩
 rw [ht5] at b5 ⊢
 simp (disch:=omega)only[go_sem, *]
 refine Bg (s:=t5.2) ?_ b5 ?_ ?_
 ·simp (disch:=omega)only[go_sem, *]
 ·simp (disch:=omega)only[go_sem, *]
 have b6:Az (AJ 3 t5.2).2.b:=by first | exact Az.num b5 | exact Az.flag b5 | exact Az.cnt b5
 obtain ⟨t6,ht6⟩:∃ x,AJ 3 t5.2=x:=⟨_,rfl⟩
 rw [ht6] at b6 ⊢
 have c6:0≤t6.1∧t6.1≤3:=by rw [← ht6];exact Fe (by omega)
 obtain ⟨n6,hn6⟩:∃ n:Nat,t6.1=n:=⟨t6.1.toNat,by omega⟩
 obtain ⟨t7,ht7⟩:∃ x,Cv n6 [] t6.2=x:=⟨_,rfl⟩
 simp (disch:=omega)only[go_sem, *]
 refine aHr (h:=h) (id:=id) (n:=n6) (s:=t6.2) (P:=t7) (r0:=[.s ⟨#[]⟩,.i .i64 0,.i .i64 0,.b false,.b false,.ns,.i .i64 0,.i .i64 0,.i .i64 0,.i .i64 0,.i .i64 0]) (a:=.s t1.1) (b:=.i .i64 t2.1) (c:=.i .i64 t3.1) (d:=.b t4.1) (f:=.b t5.1) (g0:=.i .i64 0) (g1:=.i .i64 0) (g2:=.i .i64 0) (g3:=.i .i64 0) (g4:=.i .i64 0) hid hlo (by omega) ht7 b6 ?_ ?_ ?_ ?_ ?_ ?_ ?_ ?_ ?_ ?_ ?_ ?_
 any_goals (simp (disch:=omega)only[go_sem, *];done)
 try (any_goals (simp (disch:=omega)only[go_sem, *]<;>omega))
 ·intro j hj hne
  simp (disch:=omega)only[go_sem, *]
 clear b1 b2 b3 b4 b5 b6 hg hgf c6
 intro e hh v l0 n0 q0 b7 q1 q2 fr sl hpl e0 e2 e3
 simp only [Br] at q0
 have hown:=As sl
 obtain ⟨_,_,_,_,_,_,_,wc1,wc2⟩:=sl.facts
 simp (disch:=omega)only[go_sem, *]
 refine Bb ?_
 rw [Ai G6.eq_1]
 simp (disch:=omega)only[go_sem, *]
 refine Bg (s:=t7.2) ?_ b7 ?_ ?_
 ·simp (disch:=omega)only[go_sem, *]
 ·simp (disch:=omega)only[go_sem, *]
 have b8:Az (AJ 2 t7.2).2.b:=by first | exact Az.num b7 | exact Az.flag b7 | exact Az.cnt b7
 obtain ⟨t8,ht8⟩:∃ x,AJ 2 t7.2=x:=⟨_,rfl⟩
 rw [ht8] at b8 ⊢
 simp (disch:=omega)only[go_sem, *]
 refine Bb ?_
 rw [Ai G6.eq_1]
 simp (disch:=omega)only[go_sem, *]
 refine Bg (s:=t8.2) ?_ b8 ?_ ?_
 ·simp (disch:=omega)only[go_sem, *]
 ·simp (disch:=omega)only[go_sem, *]
 have b9:Az (AJ 2 t8.2).2.b:=by first | exact Az.num b8 | exact Az.flag b8 | exact Az.cnt b8
 obtain ⟨t9,ht9⟩:∃ x,AJ 2 t8.2=x:=⟨_,rfl⟩
 rw [ht9] at b9 ⊢
 simp (disch:=omega)only[go_sem, *]
 refine Bb ?_
 rw [Ai G6.eq_1]
 simp (disch:=omega)only[go_sem, *]
 refine Bg (s:=t9.2) ?_ b9 ?_ ?_
 ·simp (disch:=omega)only[go_sem, *]
 ·simp (disch:=omega)only[go_sem, *]
 have b10:Az (AJ 2 t9.2).2.b:=by first | exact Az.num b9 | exact Az.flag b9 | exact Az.cnt b9
 obtain ⟨t10,ht10⟩:∃ x,AJ 2 t9.2=x:=⟨_,rfl⟩
 rw [ht10] at b10 ⊢
 simp (disch:=omega)only[go_sem, *]
 refine Bb ?_
 rw [Ai G6.eq_1]
 simp (disch:=omega)only[go_sem, *]
 refine Bg (s:=t10.2) ?_ b10 ?_ ?_
 ·simp (disch:=omega)only[go_sem, *]
 ·simp (disch:=omega)only[go_sem, *]
 have b11:Az (AJ 2 t10.2).2.b:=by first | exact Az.num b10 | exact Az.flag b10 | exact Az.cnt b10
 obtain ⟨t11,ht11⟩:∃ x,AJ 2 t10.2=x:=⟨_,rfl⟩
 rw [ht11] at b11 ⊢
 simp (disch:=omega)only[go_sem, *]
 refine Bb ?_
 rw [Ai G6.eq_1]
 simp (disch:=omega)only[go_sem, *]
 refine Bg (s:=t11.2) ?_ b11 ?_ ?_
 ·simp (disch:=omega)only[go_sem, *]
 ·simp (disch:=omega)only[go_sem, *]
 have b12:Az (AJ 2 t11.2).2.b:=by first | exact Az.num b11 | exact Az.flag b11 | exact Az.cnt b11
 obtain ⟨t12,ht12⟩:∃ x,AJ 2 t11.2=x:=⟨_,rfl⟩
 rw [ht12] at b12 ⊢
 simp (disch:=omega)only[go_sem, *]
 have hps:C7 s=(⟨t1.1,t2.1,t3.1,t4.1,t5.1,t7.1,t8.1,t9.1,t10.1,t11.1,t12.1⟩,t12.2):=by
  unfold C7
  simp only [ht1,ht2,ht3,ht4,ht5,ht6,hn6,Int.toNat_natCast,ht7,ht8,ht9,ht10,ht11,ht12]
 refine Bb ?_
 rw [Ai G6.eq_1]
 clear ht1 ht2 ht3 ht4 ht5 ht6 ht7 ht8 ht9 ht10 ht11 ht12
 have key:∀ (H:AH) (k:BV),H.next=hh.next→H.lim=hh.lim→(∀ j,h.next+2≤j→H.get j=hh.get j)→H.get id=some k→(∀ j,j<h.next→j≠id→H.get j=hh.get j)→Cz (fun x=>h.next≤x) H h.next v (.fl 2 (t7.1.map AO.enc))∧EB h id k H:=by
  intro H k k1 k2 k3 k4 k5
  have sl':Sl (h.next+2) H 2 v (t7.1.map AO.enc):=by
   rcases hown with q | q
   ·rcases sl with ⟨a,b⟩ | ⟨_,_,_,_,rfl,_⟩
    ·exact .inl ⟨a,b⟩
    ·cases q
   ·exact sl.same (by omega) (fun _=>k3 _ q)
  exact ⟨Sl.frzb (Sl.weak sl' (Nat.le_add_right _ _)) (fun _=>rfl) (by omega),⟨by omega,by omega,k4,fun j hj hne=>by rw [k5 j hj hne];exact fr j hj hne⟩⟩
 clear hown sl fr
 simp (disch:=omega)only[go_sem, *]
 refine key _ _ ?_ ?_ ?_ ?_ ?_
 ·simp (disch:=omega)only[go_sem, *]
 ·simp (disch:=omega)only[go_sem, *]
 ·intro j hj;simp (disch:=omega)only[go_sem, *]
 ·simp (disch:=omega)only[go_sem, *]
 ·intro j hj hne;simp (disch:=omega)only[go_sem, *]
end Go.Ab.T
namespace Go.Ab.T
open Go Go.Ab
set_option maxHeartbeats 4000000
structure RS (h:AH) (id bx:Nat) (s:Rd) (row:List V) (hh:AH):Prop where
 i1:id<h.next
 i2:bx<h.next
 i3:id≠bx
 lim:hh.lim=h.lim
 next:h.next≤hh.next
 rd:hh.get id=some (Br s)
 isb:Az s.b
 q:hh.get bx=some ⟨3,[row]⟩
 fr:∀ j,j<h.next→j≠id→j≠bx→hh.get j=h.get j
section
variable {h hh h4:AH} {id bx sz:Nat} {s s2:Rd} {row:List V} {v w:V} {k:BV}
theorem RS.put (rs:RS h id bx s row hh) (hb:Az s2.b):RS h id bx s2 row (hh.put id (Br s2)):=
 ⟨rs.i1,rs.i2,rs.i3,rs.lim,rs.next,by rw [Ad,AC rfl],hb,by rw [Ad,Ac rs.i3.symm];exact rs.q,fun j hj hne hne2=>by rw [Ad,Ac hne];exact rs.fr j hj hne hne2⟩
theorem RS.box {row':List V} (rs:RS h id bx s row hh):RS h id bx s row' (hh.put bx ⟨3,[row']⟩):=
 ⟨rs.i1,rs.i2,rs.i3,rs.lim,rs.next,by rw [Ad,Ac rs.i3];exact rs.rd,rs.isb,by rw [Ad,AC rfl],fun j hj hne hne2=>by rw [Ad,Ac hne2];exact rs.fr j hj hne hne2⟩
theorem RS.putx {j:Nat} (rs:RS h id bx s row hh) (hj:h.next≤j):RS h id bx s row (hh.put j k):=by
 have a:=rs.i1;have b:=rs.i2
 exact ⟨rs.i1,rs.i2,rs.i3,rs.lim,rs.next,by rw [Ad,Ac (by omega)];exact rs.rd,rs.isb,by rw [Ad,Ac (by omega)];exact rs.q,fun i hi hne hne2=>by rw [Ad,Ac (by omega)];exact rs.fr i hi hne hne2⟩
theorem RS.new (rs:RS h id bx s row hh):RS h id bx s row (hh.alloc k):=by
 have a:=rs.i1;have b:=rs.i2;have n:=rs.next
 exact ⟨rs.i1,rs.i2,rs.i3,rs.lim,by rw [Ag];omega,by rw [AL,Ac (by omega)];exact rs.rd,rs.isb,by rw [AL,Ac (by omega)];exact rs.q,fun i hi hne hne2=>by rw [AL,Ac (by omega)];exact rs.fr i hi hne hne2⟩
theorem RS.app (rs:RS h id bx s row hh) (g:Grown h.next hh v w h4):RS h id bx s row h4:=by
 have n:=rs.next
 have n2:=g.next
 exact ⟨rs.i1,rs.i2,rs.i3,g.lim.trans rs.lim,by omega,by rw [g.low _ rs.i1];exact rs.rd,rs.isb,by rw [g.low _ rs.i2];exact rs.q,fun i hi hne hne2=>by rw [g.low _ hi];exact rs.fr i hi hne hne2⟩
end
theorem Az.procs:∀ (n:Nat) (A:List AO) (s:Rd),Az s.b→Az (Cv n A s).2.b
 | 0,_,_,h=>h
 | n+1,A,s,h=>by unfold Cv;exact Az.procs n _ _ h.cnt.cnt
theorem Az.part {s:Rd} (h:Az s.b):Az (C7 s).2.b:=by
 unfold C7
 exact (Az.procs _ _ _ h.text.num.num.flag.flag.cnt).cnt.cnt.cnt.cnt.cnt
theorem aHy {K : Ex → Env → AH → Prop} {e : Env} {h hh : AH} {id bx n : Nat} {s : Rd} {P : List Part × Rd} {v2 : V} (hlo : h.lim ≤ id) (hlb : h.lim ≤ bx) (hn : n ≤ 6) (hP : Cu n [] s = P) (rs : RS h id bx s [.ns, .ns, .ns] hh)
    (e0:e 0=.p id 0 0) (e2:e 2=v2) (e3:e 3=.p bx 0 0) (e7:e 7=.i .i64 n) (e8:e 8=.i .i64 0)
    (kk:∀ (e:Env) (hh:AH) (v:V),RS h id bx P.2 [v,.ns,.ns] hh→Sl h.next hh 11 v (P.1.map Part.enc)→P.1.length≤6→e 0=.p id 0 0→e 2=v2→e 3=.p bx 0 0→K (.ex 0) e hh):ZC tp (.loop Vo) e hh K:=by
 refine Ae (fun n' e hh=>∃ (i:Nat) (v:V) (A:List Part) (s:Rd),n'=n - i∧RS h id bx s [v,.ns,.ns] hh∧Sl h.next hh 11 v (A.map Part.enc)∧A.length=i∧i≤n∧Cu (n - i) A s=P∧e 0=.p id 0 0∧e 2=v2∧e 3=.p bx 0 0∧e 7=.i .i64 n∧e 8=.i .i64 i) ?_ _ _ _ ⟨0,.ns,[],s,rfl,rs,Sl.nil _ _ _,rfl,by omega,hP,e0,e2,e3,e7,e8⟩
 clear rs e0 e2 e3 e7 e8 e hh hP s
 rintro n' e hh ⟨i,v,A,s,rfl,rs,sl,hA,hi,hP,e0,e2,e3,e7,e8⟩ ih
 have rs0:=rs
 obtain ⟨i1,i2,i3,l0,n0,q0,hb,q2,fr⟩:=rs
 have hsv:=Sl.sameV sl
 have hown:=As sl
 rw [Ai Vo.eq_1]
 simp (disch:=omega)only[go_sem, *]
 refine Aa (fun hc=>?_) (fun hc=>?_)
 ·have hni:n - i=(n - (i+1))+1:=by omega
  rw [hni,Cu] at hP
  have b1:Az (C7 s).2.b:=hb.part
  simp (disch:=omega)only[go_sem, *]
  refine Rh (s:=s) ?_ hb ?_ ?_
  ·simp (disch:=omega)only[go_sem, *]
  ·simp (disch:=omega)only[go_sem, *]
  generalize C7 s=t at *
  obtain ⟨p,s2⟩:=t
  simp only at hP b1 ⊢
  have sl2:=AA sl id (Br s2) (hown.imp (fun x=>x) (fun x=>by omega))
  have rs2:=rs0.put b1
  have hen:p.enc=[.s p.name,.i .i64 p.budget,.i .i64 p.period,.b p.sched,.b p.stop,.fl 2 (p.procs.map AO.enc),.i .i64 p.h0,.i .i64 p.h1,.i .i64 p.h2,.i .i64 p.h3,.i .i64 p.h4]:=rfl
  simp only [Br] at sl2 rs2
  simp (disch:=omega)only[go_sem, *]
  clear l0 n0 q0 q2 fr rs0 hsv i1 i2 i3
  refine Ao (N:=[Part.enc p]) (Sl.alloc sl2 ⟨11,[Part.enc p]⟩) ?_ ?_ ?_ ?_
  ·rw [AG];have:=rs2.lim;have:=rs2.i1;omega
  ·rw [Ag];have:=rs2.next;omega
  ·simp;omega
  intro w h4 s4 g4
  have rs5:=(rs2.new (k:=⟨11,[Part.enc p]⟩)).app g4
  have s5:Sl h.next h4 11 w ((A++[p]).map Part.enc):=by simpa using s4
  have so5:=As s5
  obtain ⟨_,_,_,_,_,_,_,xc1,xc2⟩:=s5.facts
  clear s4 g4 sl2 rs2
  obtain ⟨i1,i2,i3,l0,n0,q0,_,q2,_⟩:=rs5
  simp only [Br] at q0
  simp (disch:=omega)only[go_sem, *]
  refine ih _ _ _ ?_ ⟨i+1,w,A++[p],s2,rfl,RS.box (row:=[v,.ns,.ns]) ⟨i1,i2,i3,l0,n0,q0,b1,q2,by assumption⟩,AA s5 bx _ (so5.imp (fun x=>x) (fun x=>by omega)),by simp;omega,by omega,hP, ?_⟩
  ·omega
  ·clear ih kk s5
   simp (disch:=omega)only[go_sem, *]
 ·have h0:n - i=0:=by omega
  rw [h0,Cu] at hP
  subst hP
  simp (disch:=omega)only[go_sem, *]
  exact kk _ _ v ⟨i1,i2,i3,l0,n0,q0,hb,q2,fr⟩ sl (show A.length≤6 by omega) e0 e2 e3
end Go.Ab.T
namespace Go.Ab.T
open Go Go.Ab
set_option maxHeartbeats 4000000
theorem LO {b sz:Nat} {h:AH} {v:V} {R:List (List V)} (s:Sl b h sz v R):Ba v=true∨AW v<h.next:=by
 rcases s with ⟨hv,_⟩ | ⟨i,el,cap,cs,rfl,_,_,_,_,h1,_⟩
 ·rcases hv with rfl | rfl<;>exact .inl rfl
 ·exact .inr h1
theorem Az.chan {s:Rd} (h:Az s.b):Az (Et s).2.b:=by
 unfold Et
 exact h.cnt.cnt.flag.cnt.cnt.num
theorem kR {K : Ex → Env → AH → Prop} {e : Env} {h hh : AH} {id bx n : Nat} {s : Rd} {P : List Ar × Rd} {v2 a : V} (hlo : h.lim ≤ id) (hlb : h.lim ≤ bx) (hn : n ≤ 8) (hP : Co n [] s = P) (rs : RS h id bx s [a, .ns, .ns] hh)
    (e0:e 0=.p id 0 0) (e2:e 2=v2) (e3:e 3=.p bx 0 0) (e19:e 19=.i .i64 n) (e20:e 20=.i .i64 0)
    (kk:∀ (e:Env) (hh:AH) (v:V),RS h id bx P.2 [a,v,.ns] hh→Sl h.next hh 6 v (P.1.map Ar.enc)→P.1.length≤8→e 0=.p id 0 0→e 2=v2→e 3=.p bx 0 0→K (.ex 2) e hh):ZC tp (.loop Qp) e hh K:=by
 refine Ae (fun n' e hh=>∃ (i:Nat) (v:V) (A:List Ar) (s:Rd),n'=n - i∧RS h id bx s [a,v,.ns] hh∧Sl h.next hh 6 v (A.map Ar.enc)∧A.length=i∧i≤n∧Co (n - i) A s=P∧e 0=.p id 0 0∧e 2=v2∧e 3=.p bx 0 0∧e 19=.i .i64 n∧e 20=.i .i64 i) ?_ _ _ _ ⟨0,.ns,[],s,rfl,rs,Sl.nil _ _ _,rfl,by omega,hP,e0,e2,e3,e19,e20⟩
 clear rs e0 e2 e3 e19 e20 e hh hP s
 rintro n' e hh ⟨i,v,A,s,rfl,rs,sl,hA,hi,hP,e0,e2,e3,e19,e20⟩ ih
 have rs0:=rs
 obtain ⟨i1,i2,i3,l0,n0,q0,hb,q2,fr⟩:=rs
 have hown:=As sl
 have hslt:=LO sl
 simp only [Br] at q0
 rw [Ai Qp.eq_1]
 simp (disch:=omega)only[go_sem, *]
 refine Aa (fun hc=>?_) (fun hc=>?_)
 ·have hni:n - i=(n - (i+1))+1:=by omega
  rw [hni,Co] at hP
  simp (disch:=omega)only[go_sem, *]
  refine Bg (s:=s) ?_ hb ?_ ?_
  ·simp (disch:=omega)only[go_sem, *]
  ·simp (disch:=omega)only[go_sem, *]
  have b1:Az (AJ 6 s).2.b:=by first | exact Az.num hb | exact Az.flag hb | exact Az.cnt hb
  obtain ⟨t1,ht1⟩:∃ x,AJ 6 s=x:=⟨_,rfl⟩
  rw [ht1] at b1 ⊢
  simp (disch:=omega)only[go_sem, *]
  refine Bg (s:=t1.2) ?_ b1 ?_ ?_
  ·simp (disch:=omega)only[go_sem, *]
  ·simp (disch:=omega)only[go_sem, *]
  have b2:Az (AJ 6 t1.2).2.b:=by first | exact Az.num b1 | exact Az.flag b1 | exact Az.cnt b1
  obtain ⟨t2,ht2⟩:∃ x,AJ 6 t1.2=x:=⟨_,rfl⟩
  rw [ht2] at b2 ⊢
  simp (disch:=omega)only[go_sem, *]
  refine Ik (s:=t2.2) ?_ b2 ?_ ?_
  ·simp (disch:=omega)only[go_sem, *]
  ·simp (disch:=omega)only[go_sem, *]
  have b3:Az (Dy t2.2).2.b:=by first | exact Az.num b2 | exact Az.flag b2 | exact Az.cnt b2
  obtain ⟨t3,ht3⟩:∃ x,Dy t2.2=x:=⟨_,rfl⟩
  rw [ht3] at b3 ⊢
  simp (disch:=omega)only[go_sem, *]
  refine Bg (s:=t3.2) ?_ b3 ?_ ?_
  ·simp (disch:=omega)only[go_sem, *]
  ·simp (disch:=omega)only[go_sem, *]
  have b4:Az (AJ 8 t3.2).2.b:=by first | exact Az.num b3 | exact Az.flag b3 | exact Az.cnt b3
  obtain ⟨t4,ht4⟩:∃ x,AJ 8 t3.2=x:=⟨_,rfl⟩
  rw [ht4] at b4 ⊢
  simp (disch:=omega)only[go_sem, *]
  refine Bg (s:=t4.2) ?_ b4 ?_ ?_
  ·simp (disch:=omega)only[go_sem, *]
  ·simp (disch:=omega)only[go_sem, *]
  have b5:Az (AJ 4294967295 t4.2).2.b:=by first | exact Az.num b4 | exact Az.flag b4 | exact Az.cnt b4
  obtain ⟨t5,ht5⟩:∃ x,AJ 4294967295 t4.2=x:=⟨_,rfl⟩
  rw [ht5] at b5 ⊢
  simp (disch:=omega)only[go_sem, *]
  refine HF (s:=t5.2) ?_ b5 ?_ ?_
  ·simp (disch:=omega)only[go_sem, *]
  ·simp (disch:=omega)only[go_sem, *]
  have b6:Az (BC t5.2).2.b:=by first | exact Az.num b5 | exact Az.flag b5 | exact Az.cnt b5
  obtain ⟨t6,ht6⟩:∃ x,BC t5.2=x:=⟨_,rfl⟩
  rw [ht6] at b6 ⊢
  have hch:Et s=(⟨t1.1,t2.1,t3.1,t4.1,IntKind.wrap .u32 t5.1,t6.1⟩,t6.2):=by
   unfold Et
   simp only [ht1,ht2,ht3,ht4,ht5,ht6]
  rw [hch] at hP
  simp only at hP
  clear ht1 ht2 ht3 ht4 ht5 ht6 hch
  simp (disch:=omega)only[go_sem, *]
  have rs2:=(((rs0.put (s2:=t4.2) b4).new (k:=⟨6,[[.i .i64 0,.i .i64 0,.b false,.i .i64 0,.i .u32 0,.i .i64 0]]⟩)).putx (k:=⟨6,[[.i .i64 t1.1,.i .i64 t2.1,.b t3.1,.i .i64 t4.1,.i .u32 0,.i .i64 0]]⟩) n0).put (s2:=t6.2) b6
  have rs2:=rs2.putx (k:=⟨6,[[.i .i64 t1.1,.i .i64 t2.1,.b t3.1,.i .i64 t4.1,.i .u32 (IntKind.wrap .u32 t5.1),.i .i64 t6.1]]⟩) n0
  have sl2:=AA (Sl.alloc (AA sl id (Br t4.2) (hown.imp (fun x=>x) (fun x=>by omega))) ⟨6,[[.i .i64 0,.i .i64 0,.b false,.i .i64 0,.i .u32 0,.i .i64 0]]⟩) hh.next ⟨6,[[.i .i64 t1.1,.i .i64 t2.1,.b t3.1,.i .i64 t4.1,.i .u32 0,.i .i64 0]]⟩ (hslt.imp (fun x=>x) (fun x=>by omega))
  have sl2:=AA (AA sl2 id (Br t6.2) (hown.imp (fun x=>x) (fun x=>by omega))) hh.next ⟨6,[[.i .i64 t1.1,.i .i64 t2.1,.b t3.1,.i .i64 t4.1,.i .u32 (IntKind.wrap .u32 t5.1),.i .i64 t6.1]]⟩ (hslt.imp (fun x=>x) (fun x=>by omega))
  simp only [Br] at sl2 rs2
  clear l0 q0 q2 fr rs0 i1 i2 i3 b1 b2 b3 b4 b5
  refine Ao (N:=[Ar.enc (⟨t1.1,t2.1,t3.1,t4.1,IntKind.wrap .u32 t5.1,t6.1⟩:Ar)]) (Sl.alloc sl2 ⟨6,[Ar.enc (⟨t1.1,t2.1,t3.1,t4.1,IntKind.wrap .u32 t5.1,t6.1⟩:Ar)]⟩) ?_ ?_ ?_ ?_
  ·rw [AG];have:=rs2.lim;have:=rs2.i1;omega
  ·rw [Ag];have:=rs2.next;omega
  ·simp;omega
  intro w h4 s4 g4
  have rs5:=(rs2.new (k:=⟨6,[Ar.enc (⟨t1.1,t2.1,t3.1,t4.1,IntKind.wrap .u32 t5.1,t6.1⟩:Ar)]⟩)).app g4
  have s5:Sl h.next h4 6 w ((A++[(⟨t1.1,t2.1,t3.1,t4.1,IntKind.wrap .u32 t5.1,t6.1⟩:Ar)]).map Ar.enc):=by simpa using s4
  have so5:=As s5
  obtain ⟨_,_,_,_,_,_,_,xc1,xc2⟩:=s5.facts
  clear s4 g4 sl2 rs2
  obtain ⟨i1,i2,i3,l0,n5,q0,_,q2,_⟩:=rs5
  simp only [Br] at q0
  simp (disch:=omega)only[go_sem, *]
  refine ih _ _ _ ?_ ⟨i+1,w,A++[⟨t1.1,t2.1,t3.1,t4.1,IntKind.wrap .u32 t5.1,t6.1⟩],t6.2,rfl,RS.box (row:=[a,v,.ns]) ⟨i1,i2,i3,l0,n5,q0,b6,q2,by assumption⟩,AA s5 bx _ (so5.imp (fun x=>x) (fun x=>by omega)),by simp;omega,by omega,hP, ?_⟩
  ·omega
  ·clear ih kk s5
   simp (disch:=omega)only[go_sem, *]
 ·have h0:n - i=0:=by omega
  rw [h0,Co] at hP
  subst hP
  simp (disch:=omega)only[go_sem, *]
  exact kk _ _ v rs0 sl (show A.length≤8 by omega) e0 e2 e3
end Go.Ab.T
namespace Go.Ab.T
open Go Go.Ab
set_option maxHeartbeats 4000000
theorem kS {K : Ex → Env → AH → Prop} {e : Env} {h hh : AH} {id bx n : Nat} {s : Rd} {P : List Node × Rd} {v2 v46 v47 : V} {row : List V} (hlo : h.lim ≤ id) (hn : n ≤ 128) (hP : Ct n [] s = P) (rs : RS h id bx s row hh)
    (e0:e 0=.p id 0 0) (e2:e 2=v2) (e3:e 3=.p bx 0 0) (e5:e 5=.ns) (e46:e 46=v46) (e47:e 47=v47) (e50:e 50=.i .i64 n) (e51:e 51=.i .i64 0)
    (kk:∀ (e:Env) (hh:AH) (v:V),RS h id bx P.2 row hh→Sl h.next hh 3 v (P.1.map Node.enc)→P.1.length≤128→e 0=.p id 0 0→e 2=v2→e 3=.p bx 0 0→e 5=v→e 46=v46→e 47=v47→K (.ex 6) e hh):ZC tp (.loop Qq) e hh K:=by
 refine Ae (fun n' e hh=>∃ (i:Nat) (v:V) (A:List Node) (s:Rd),n'=n - i∧RS h id bx s row hh∧Sl h.next hh 3 v (A.map Node.enc)∧A.length=i∧i≤n∧Ct (n - i) A s=P∧e 0=.p id 0 0∧e 2=v2∧e 3=.p bx 0 0∧e 5=v∧e 46=v46∧e 47=v47∧e 50=.i .i64 n∧e 51=.i .i64 i) ?_ _ _ _ ⟨0,.ns,[],s,rfl,rs,Sl.nil _ _ _,rfl,by omega,hP,e0,e2,e3,e5,e46,e47,e50,e51⟩
 clear rs e0 e2 e3 e5 e46 e47 e50 e51 e hh hP s
 rintro n' e hh ⟨i,v,A,s,rfl,rs,sl,hA,hi,hP,e0,e2,e3,e5,e46,e47,e50,e51⟩ ih
 have rs0:=rs
 obtain ⟨i1,i2,i3,l0,n0,q0,hb,q2,fr⟩:=rs
 have hown:=As sl
 simp only [Br] at q0
 rw [Ai Qq.eq_1]
 simp (disch:=omega)only[go_sem, *]
 refine Aa (fun hc=>?_) (fun hc=>?_)
 ·have hni:n - i=(n - (i+1))+1:=by omega
  rw [hni,Ct] at hP
  simp (disch:=omega)only[go_sem, *]
  refine Bg (s:=s) ?_ hb ?_ ?_
  ·simp (disch:=omega)only[go_sem, *]
  ·simp (disch:=omega)only[go_sem, *]
  have b1:Az (AJ 4 s).2.b:=by first | exact Az.num hb | exact Az.flag hb | exact Az.cnt hb
  obtain ⟨t1,ht1⟩:∃ x,AJ 4 s=x:=⟨_,rfl⟩
  rw [ht1] at b1 ⊢
  simp (disch:=omega)only[go_sem, *]
  refine Bg (s:=t1.2) ?_ b1 ?_ ?_
  ·simp (disch:=omega)only[go_sem, *]
  ·simp (disch:=omega)only[go_sem, *]
  have b2:Az (AJ 6 t1.2).2.b:=by first | exact Az.num b1 | exact Az.flag b1 | exact Az.cnt b1
  obtain ⟨t2,ht2⟩:∃ x,AJ 6 t1.2=x:=⟨_,rfl⟩
  rw [ht2] at b2 ⊢
  simp (disch:=omega)only[go_sem, *]
  refine HF (s:=t2.2) ?_ b2 ?_ ?_
  ·simp (disch:=omega)only[go_sem, *]
  ·simp (disch:=omega)only[go_sem, *]
  have b3:Az (BC t2.2).2.b:=by first | exact Az.num b2 | exact Az.flag b2 | exact Az.cnt b2
  obtain ⟨t3,ht3⟩:∃ x,BC t2.2=x:=⟨_,rfl⟩
  rw [ht3] at b3 ⊢
  have hnd:HT s=(⟨t1.1,t2.1,t3.1⟩,t3.2):=by
   unfold HT
   simp only [ht1,ht2,ht3]
  rw [hnd] at hP
  simp only at hP
  clear ht1 ht2 ht3 hnd
  have rs2:=rs0.put (s2:=t3.2) b3
  have sl2:=AA sl id (Br t3.2) (hown.imp (fun x=>x) (fun x=>by omega))
  simp only [Br] at sl2
  simp (disch:=omega)only[go_sem, *]
  refine Ao (N:=[Node.enc ⟨t1.1,t2.1,t3.1⟩]) (Sl.alloc sl2 ⟨3,[Node.enc ⟨t1.1,t2.1,t3.1⟩]⟩) ?_ ?_ ?_ ?_
  ·rw [AG,CU];omega
  ·rw [Ag,AB];omega
  ·simp;omega
  intro w h4 s4 g4
  have rs5:=(rs2.new (k:=⟨3,[Node.enc ⟨t1.1,t2.1,t3.1⟩]⟩)).app g4
  have s5:Sl h.next h4 3 w ((A++[(⟨t1.1,t2.1,t3.1⟩:Node)]).map Node.enc):=by simpa using s4
  clear s4 g4 sl2 rs2 rs0 l0 n0 q0 q2 fr
  simp (disch:=omega)only[go_sem, *]
  refine ih _ _ _ ?_ ⟨i+1,w,A++[⟨t1.1,t2.1,t3.1⟩],t3.2,rfl,rs5,s5,by simp;omega,by omega,hP, ?_⟩
  ·omega
  ·clear ih kk s5 rs5
   simp (disch:=omega)only[go_sem, *]
 ·have h0:n - i=0:=by omega
  rw [h0,Ct] at hP
  subst hP
  simp (disch:=omega)only[go_sem, *]
  exact kk _ _ v rs0 sl (show A.length≤128 by omega) e0 e2 e3 e5 e46 e47
end Go.Ab.T
namespace Go.Ab.T
open Go Go.Ab
set_option maxHeartbeats 4000000
theorem BF.setB {P:Nat→Prop} {h:AH} {n:Nat} {r r':List V} (q:BS P h n r r'):∀ {a a':List (List V)} (k:Nat),BF P h n a a'→BF P h n (a.set k r) (a'.set k r')
 | _,_,_,.nil _=>.nil _
 | _,_,0,.cons _ _ _ _ _ _ t=>.cons _ _ _ _ _ q t
 | _,_,k+1,.cons _ _ _ _ _ p t=>.cons _ _ _ _ _ p (BF.setB q k t)
theorem Sa {e : Env} {h H : AH} {id bx : Nat} {s : Rd} {row : List V} {w v : V} {R : List (List V)} {T : List Node} (live : List Nat) (rs : RS h id bx s row H) (sw : Sl h.next H 1 w (R ++ [[v]])) (sv : Sl h.next H 3 v (T.map Node.enc)) (hd : Ba v = true ∨ AW w ≠ AW v) (hT : T.length < 4000000000)
    (hv:∀ t,t∈live→∀ P,Cz P H H.next (e t) (e t)):∃ H',Stp e H (fun t=>if t∈live then e t else .u) H'∧RS h id bx s row H'∧Sl h.next H' 1 w (R++[[.fl 3 (T.map Node.enc)]]):=by
 obtain ⟨_,_,lt,lo,get,_,rw_,_,_⟩:=Sl.facts (enc:=fun x=>x) (L:=R++[[v]]) (by simpa using sw)
 have hlen:0<(R++[[v]]).length:=by simp
 have lt:=lt hlen
 have lo:=lo hlen
 have get:=get hlen
 have hrow:=rw_ R.length (by simp)
 have hnv:nth (R++[[v]]) R.length=[v]:=by simp [nth,List.getD]
 rw [hnv] at hrow
 have i1:=rs.i1
 have i2:=rs.i2
 have hself:(Bm H w).set (E2 w+R.length) [v]=Bm H w:=by
  obtain ⟨hp,hq⟩:=List.getElem?_eq_some_iff.1 hrow
  rw [← hq]
  exact List.set_getElem_self hp
 have sown:=As sv
 obtain ⟨H0,hH0⟩:∃ H0:AH,H0=(if Ba v=true then H else H.kill (AW v)):=⟨_,rfl⟩
 have g0:∀ j,(Ba v=true∨j≠AW v)→H0.get j=H.get j:=fun j hj=>by
  rw [hH0]
  by_cases q:Ba v=true
  ·rw [if_pos q]
  ·rw [if_neg q,Cl,Ac (hj.resolve_left q)]
 have n0:H0.next=H.next:=by rw [hH0];split<;>rfl
 have l0:H0.lim=H.lim:=by rw [hH0];split<;>rfl
 have far:∀ j,j<h.next→(Ba v=true∨j≠AW v):=fun j hj=>sown.imp (fun x=>x) (fun x=>by omega)
 have fv:∀ n,Cz (fun i=>Ba v=false∧i=AW v) H n v (.fl 3 (T.map Node.enc)):=fun n=>by
  by_cases q:Ba v=true
  ·rcases sv with ⟨a,b⟩ | ⟨_,_,_,_,rfl,_⟩
   ·rw [b];rcases a with rfl | rfl
    ·exact .ns _ _
    ·exact .e0 _ _
   ·cases q
  ·exact Sl.froze sv (fun _=>rfl) ⟨by simpa using q,rfl⟩ hT
 refine ⟨H0.put (AW w) ⟨1,(Bm H w).set (E2 w+R.length) [.fl 3 (T.map Node.enc)]⟩,Jh (fun i=>Ba v=false∧i=AW v) live e (fun wf=>⟨n0,l0,fun i k hk=>?_,fun t ht=>by show Cz _ H H0.next _ _;rw [n0];exact hv t ht _⟩), ?_, ?_⟩
 ·rw [Ad] at hk
  by_cases hi:i=AW w
  ·rw [AC hi] at hk
   cases hk
   subst hi
   refine ⟨by show AW w<H0.next;omega,fun q=>?_,_,get, ?_⟩
   ·rcases hd with d | d
    ·rw [d] at q;cases q.1
    ·exact d q.2
   ·have:=BF.setB (r:=[v]) (r':=[.fl 3 (T.map Node.enc)]) (.cons _ _ _ _ _ (fv _) (.nil _)) (E2 w+R.length) ((wf.2 _ _ get).2 (fun i=>Ba v=false∧i=AW v) H)
    rw [hself] at this
    show BF _ H H0.next _ _
    rw [n0]
    exact this
  ·rw [Ac hi] at hk
   have hne:Ba v=true∨i≠AW v:=by
    by_cases q:Ba v=true
    ·exact .inl q
    ·refine .inr fun q2=>?_
     rw [hH0,if_neg q,Cl,AC q2] at hk
     cases hk
   rw [g0 i hne] at hk
   refine ⟨by show i<H0.next;have:=(wf.2 i k hk).1;omega,fun q=>?_,k.cs,hk,by show BF _ H H0.next _ _;rw [n0];exact (wf.2 i k hk).2 _ _⟩
   rcases hne with d | d
   ·rw [d] at q;cases q.1
   ·exact d q.2
 ·have nx:=rs.next
  exact ⟨i1,i2,rs.i3,by show H0.lim=h.lim;rw [l0];exact rs.lim,by show h.next≤H0.next;omega,by rw [Ad,Ac (by omega),g0 _ (far _ i1)];exact rs.rd,rs.isb,by rw [Ad,Ac (by omega),g0 _ (far _ i2)];exact rs.q,fun j hj hne hne2=>by rw [Ad,Ac (by omega),g0 _ (far _ hj)];exact rs.fr j hj hne hne2⟩
 ·have:=Sl.of_get (j:=R.length) (r:=[.fl 3 (T.map Node.enc)]) (h':=H0.put (AW w) ⟨1,(Bm H w).set (E2 w+R.length) [.fl 3 (T.map Node.enc)]⟩) sw (by simp) (by show H.next≤H0.next;omega) (by rw [Ad,AC rfl])
  simpa using this
theorem kT {K : Ex → Env → AH → Prop} {e : Env} {h hh : AH} {id bx n : Nat} {s : Rd} {P : List (List Node) × Rd} {i2' : Nat} {a c : V} (hlo : h.lim ≤ id) (hlb : h.lim ≤ bx) (hn : n ≤ 3) (hP : Eh n [] s = P) (rs : RS h id bx s [a, c, .ns] hh) (h2 : i2' < h.next)
    (e0:e 0=.p id 0 0) (e2:e 2=.p i2' 0 0) (e3:e 3=.p bx 0 0) (e46:e 46=.i .i64 n) (e47:e 47=.i .i64 0)
    (kk:∀ (e:Env) (hh:AH) (v:V),RS h id bx P.2 [a,c,v] hh→Sl h.next hh 1 v (P.1.map Tab.enc)→P.1.length≤3→e 0=.p id 0 0→e 2=.p i2' 0 0→e 3=.p bx 0 0→K (.ex 4) e hh):ZC tp (.loop L2) e hh K:=by
 refine Ae (fun n' e hh=>∃ (i:Nat) (v:V) (A:List (List Node)) (s:Rd),n'=n - i∧RS h id bx s [a,c,v] hh∧Sl h.next hh 1 v (A.map Tab.enc)∧A.length=i∧i≤n∧Eh (n - i) A s=P∧e 0=.p id 0 0∧e 2=.p i2' 0 0∧e 3=.p bx 0 0∧e 46=.i .i64 n∧e 47=.i .i64 i) ?_ _ _ _ ⟨0,.ns,[],s,rfl,rs,Sl.nil _ _ _,rfl,by omega,hP,e0,e2,e3,e46,e47⟩
 clear rs e0 e2 e3 e46 e47 e hh hP s
 rintro n' e hh ⟨i,v,A,s,rfl,rs,sl,hA,hi,hP,e0,e2,e3,e46,e47⟩ ih
 have rs0:=rs
 obtain ⟨i1,i2,i3,l0,n0,q0,hb,q2,fr⟩:=rs
 have hown:=As sl
 have hslt:=LO sl
 simp only [Br] at q0
 rw [Ai L2.eq_1]
 simp (disch:=omega)only[go_sem, *]
 refine Aa (fun hc=>?_) (fun hc=>?_)
 ·have hni:n - i=(n - (i+1))+1:=by omega
  rw [hni,Eh] at hP
  simp (disch:=omega)only[go_sem, *]
  refine Bg (s:=s) ?_ hb ?_ ?_
  ·simp (disch:=omega)only[go_sem, *]
  ·simp (disch:=omega)only[go_sem, *]
  have b1:Az (AJ 128 s).2.b:=by first | exact Az.num hb | exact Az.flag hb | exact Az.cnt hb
  obtain ⟨t1,ht1⟩:∃ x,AJ 128 s=x:=⟨_,rfl⟩
  rw [ht1] at b1 ⊢
  have c1:0≤t1.1∧t1.1≤128:=by rw [← ht1];exact Fe (by omega)
  obtain ⟨n1,hn1⟩:∃ n:Nat,t1.1=n:=⟨t1.1.toNat,by omega⟩
  have htb:MH s=Ct n1 [] t1.2:=by unfold MH;rw [ht1,hn1,Int.toNat_natCast]
  rw [htb] at hP
  obtain ⟨t2,ht2⟩:∃ x,Ct n1 [] t1.2=x:=⟨_,rfl⟩
  rw [ht2] at hP
  clear ht1 htb
  have rs2:=rs0.put (s2:=t1.2) b1
  have sl2:=AA sl id (Br t1.2) (hown.imp (fun x=>x) (fun x=>by omega))
  have rs3:RS (hh.put id (Br t1.2)) id bx t1.2 [a,c,v] (hh.put id (Br t1.2)):=⟨by show id<hh.next;omega,by show bx<hh.next;omega,i3,rfl,Nat.le_refl _,rs2.rd,b1,rs2.q,fun _ _ _ _=>rfl⟩
  simp only [Br] at rs3
  simp (disch:=omega)only[go_sem, *]
  refine kS (n:=n1) (P:=t2) (v2:=.p i2' 0 0) (v46:=.i .i64 n) (v47:=.i .i64 i) ?_ (by omega) ht2 rs3 ?_ ?_ ?_ ?_ ?_ ?_ ?_ ?_ ?_
  any_goals (simp (disch:=omega)only[go_sem, *];done)
  clear e0 e2 e3 e46 e47 e
  intro e h1 v1 rsI sv hT e0 e2 e3 e5 e46 e47
  have nI:hh.next≤h1.next:=rsI.next
  have lI:h1.lim=hh.lim:=rsI.lim
  have rs4:RS h id bx t2.2 [a,c,v] h1:=⟨i1,i2,i3,lI.trans l0,by omega,rsI.rd,rsI.isb,rsI.q,fun j hj hne hne2=>by
   rw [rsI.fr j (by show j<hh.next;omega) hne hne2,Ad,Ac hne];exact fr j hj hne hne2⟩
  have sl3:Sl h.next h1 1 v (A.map Tab.enc):=by
   rcases hown with q | q
   ·rcases sl with ⟨a,b⟩ | ⟨_,_,_,_,rfl,_⟩
    ·exact .inl ⟨a,b⟩
    ·cases q
   ·exact sl.same nI (fun hq=>by rw [rsI.fr _ (by show AW v<hh.next;exact hq) (by omega) (by omega),Ad,Ac (by omega)])
  have sv1:Sl h.next h1 3 v1 (t2.1.map Node.enc):=Sl.weak sv (by show h.next≤hh.next;exact n0)
  have o1:Ba v1=true∨hh.next≤AW v1:=As sv
  have o2:=LO sv1
  obtain ⟨_,_,_,_,_,_,_,vc1,vc2⟩:=sv1.facts
  have rs4':=rs4
  obtain ⟨_,_,_,l1,n1',q0,b4,q2,_⟩:=rs4
  simp only [Br] at q0
  clear fr sl2 rs2 rs3 rs0 hb b1 sl sv rsI
  simp (disch:=omega)only[go_sem, *]
  refine Ao (N:=[[v1]]) (Sl.alloc sl3 ⟨1,[[v1]]⟩) ?_ ?_ ?_ ?_
  ·rw [AG];omega
  ·rw [Ag];omega
  ·simp;omega
  intro w h4 s4 g4
  have rs5:=(rs4'.new (k:=⟨1,[[v1]]⟩)).app g4
  have so5:=As s4
  have hgv:Ba v=true∨AW v<hh.next:=hslt
  have hd:Ba v1=true∨AW w≠AW v1:=by
   rcases o1 with q | q
   ·exact .inl q
   ·refine .inr ?_
    rcases o2 with q2 | q2
    ·rcases sv1 with ⟨x,_⟩ | ⟨_,_,_,_,rfl,_⟩
     ·rcases x with rfl | rfl<;>simp [AW] at q<;>omega
     ·cases q2
    ·rcases g4.own with y | ⟨y1,y2⟩ | y
     ·rcases s4 with ⟨_,z⟩ | ⟨_,_,_,_,rfl,_⟩
      ·simp at z
      ·cases y
     ·rcases hgv with z | z
      ·rw [z] at y1;cases y1
      ·omega
     ·rw [Ag] at y;omega
  have sv4:Sl h.next h4 3 v1 (t2.1.map Node.enc):=by
   have gn:=g4.next
   rw [Ag] at gn
   rcases o1 with q | q
   ·rcases sv1 with ⟨a,b⟩ | ⟨_,_,_,_,rfl,_⟩
    ·exact .inl ⟨a,b⟩
    ·cases q
   ·exact sv1.same (by omega) (fun hq=>by rw [g4.get _ (by rw [Ag];omega) (hgv.imp (fun x=>x) (fun z=>by omega)),AL,Ac (by omega)])
  have ov4:Ba v1=true∨h.next≤AW v1:=As sv4
  have xc1:=g4.cell
  have xc2:=g4.cells
  clear sl3 rs4' l1 n1' q0 q2 b4 g4 sv1 nI lI
  have rs6:=rs5
  obtain ⟨_,_,_,l5,n5,q0,b5,q2,_⟩:=rs5
  simp only [Br] at q0
  simp (disch:=omega)only[go_sem, *]
  have rs7:=RS.box (row':=[a,c,w]) rs6
  have sw7:=AA s4 bx ⟨3,[[a,c,w]]⟩ (so5.imp (fun x=>x) (fun x=>by omega))
  have sv7:=AA sv4 bx ⟨3,[[a,c,w]]⟩ (ov4.imp (fun x=>x) (fun x=>by omega))
  have n7:h.next≤(h4.put bx ⟨3,[[a,c,w]]⟩).next:=n5
  clear rs6 s4 sv4 q0 q2 l5
  have key:∀ (E:Env) (H:AH),E 0=.p id 0 0→E 2=.p i2' 0 0→E 3=.p bx 0 0→E 46=.i .i64 n→E 47=.i .i64 ((i+1:Nat):Int)→RS h id bx t2.2 [a,c,w] H→Sl h.next H 1 w (A.map Tab.enc++[[v1]])→Sl h.next H 3 v1 (t2.1.map Node.enc)→ZC tp (.loop L2) E H K:=by
   intro E H f0 f2 f3 f46 f47 r6 w6 v6
   have nx:=r6.next
   obtain ⟨H',st,rs',sw'⟩:=Sa (e:=E) [0,2,3,46,47] r6 w6 v6 hd (by omega) (fun t ht P=>by
    simp only [List.mem_cons,List.not_mem_nil,or_false] at ht
    rcases ht with rfl | rfl | rfl | rfl | rfl
    ·rw [f0];exact .p _ _ _ _ (by omega)
    ·rw [f2];exact .p _ _ _ _ (by omega)
    ·rw [f3];exact .p _ _ _ _ (by omega)
    ·rw [f46];exact .z _ _ (.i _ _)
    ·rw [f47];exact .z _ _ (.i _ _))
   refine L6 st (ih _ _ _ ?_ ⟨i+1,w,A++[t2.1],t2.2,rfl,rs',by simpa [Tab.enc] using sw',by simp;omega,by omega,hP,by simp [f0],by simp [f2],by simp [f3],by simp [f46],by simp [f47]⟩)
   omega
  clear ih kk
  refine key _ _ ?_ ?_ ?_ ?_ ?_ rs7 sw7 sv7
  all_goals simp (disch:=omega)only[go_sem, *]
 ·have h0:n - i=0:=by omega
  rw [h0,Eh] at hP
  subst hP
  simp (disch:=omega)only[go_sem, *]
  exact kk _ _ v rs0 sl (show A.length≤3 by omega) e0 e2 e3
end Go.Ab.T
namespace Go.Ab.T
open Go Go.Ab
set_option maxHeartbeats 4000000
theorem RS.thru {h1 hh:AH} {id bx sz b:Nat} {s:Rd} {row:List V} {v:V} {R:List (List V)} (rs:RS h1 id bx s row hh) (sl:Sl b h1 sz v R) (h1':id<b) (h2':bx<b):Sl b hh sz v R:=by
 rcases As sl with q | q
 ·rcases sl with ⟨a,c⟩ | ⟨_,_,_,_,rfl,_⟩
  ·exact .inl ⟨a,c⟩
  ·cases q
 ·exact sl.same rs.next (fun hq=>rs.fr _ hq (by omega) (by omega))
structure Lo (h:AH) (id:Nat) (hh:AH):Prop where
 lim:hh.lim=h.lim
 next:h.next+2≤hh.next
 q:hh.get h.next=some ⟨3,[[.ns,.ns,.ns]]⟩
 fr:∀ j,j<h.next→j≠id→hh.get j=h.get j
theorem Lo.thru {h B hh:AH} {id:Nat} {s:Rd} {row:List V} (lo:Lo h id B) (hid:id<h.next) (rs:RS B id (h.next+1) s row hh):Lo h id hh:=by
 have n:=lo.next
 have m:=rs.next
 exact ⟨rs.lim.trans lo.lim,by omega,by rw [rs.fr _ (by omega) (by omega) (by omega)];exact lo.q,fun j hj hne=>by rw [rs.fr _ (by omega) hne (by omega)];exact lo.fr j hj hne⟩
theorem Lo.put {h hh:AH} {id:Nat} {k:BV} (lo:Lo h id hh) (hid:id<h.next):Lo h id (hh.put id k):=
 ⟨lo.lim,lo.next,by rw [Ad,Ac (by omega)];exact lo.q,fun j hj hne=>by rw [Ad,Ac hne];exact lo.fr j hj hne⟩
theorem RS.re {B hh:AH} {id bx:Nat} {s s2:Rd} {row:List V} (rs:RS B id bx s row hh) (hb:Az s2.b):RS (hh.put id (Br s2)) id bx s2 row (hh.put id (Br s2)):=by
 have a:=rs.i1;have b:=rs.i2;have c:=rs.next
 exact ⟨by show id<hh.next;omega,by show bx<hh.next;omega,rs.i3,rfl,Nat.le_refl _,(rs.put hb).rd,hb,(rs.put hb).q,fun _ _ _ _=>rfl⟩
theorem Ri {h:AH} {id:Nat} {s:Rd} {K:V→AH→Prop} (hg:h.get id=some (Br s)) (hb:Az s.b) (hlo:h.lim≤id) (kk:K (.agg (Bx s).1.enc) (h.put id (Br (Bx s).2))):Cq tp Sx [.p id 0 0] h K:=by
 refine EI aFQ (by simp [OQ]) ((by rw [hg];rfl)) (fun _ _ _=>.cons _ _ _ _ _ (BS.of_stay rfl) (.nil _)) (kk) fun hlm hid rp=>?_;unfold OQ;simp (disch:=omega)only[go_sem, *]
 clear kk
 have hgf:h.get id=some ⟨2,[[.fl 1 (s.b.map Aj),.b s.bad]]⟩:=hg
 try simp (disch:=omega)only[go_sem, *]
 refine Bg (s:=s) ?_ hb ?_ ?_
 ·simp (disch:=omega)only[go_sem, *]
 ·simp (disch:=omega)only[go_sem, *]<;>omega
 have b1:Az (AJ 6 s).2.b:=by first | exact Az.num hb | exact Az.flag hb | exact Az.cnt hb
 obtain ⟨t1,ht1⟩:∃ x,AJ 6 s=x:=⟨_,rfl⟩
 rw [ht1] at b1 ⊢
 have c1:0≤t1.1∧t1.1≤6:=by rw [← ht1];exact Fe (by omega)
 obtain ⟨n1,hn1⟩:∃ n:Nat,t1.1=n:=⟨t1.1.toNat,by omega⟩
 obtain ⟨p1,hp1⟩:∃ x,Cu n1 [] t1.2=x:=⟨_,rfl⟩
 simp (disch:=omega)only[go_sem, *]
 refine aHy (h:=((h.alloc ⟨3,[[.ns,.ns,.ns]]⟩).alloc ⟨3,[[.ns,.ns,.ns]]⟩).put id (Br t1.2)) (id:=id) (bx:=h.next+1) (n:=n1) (s:=t1.2) (P:=p1) (v2:=.p h.next 0 0) ?_ ?_ (by omega) hp1 ⟨?_, ?_, ?_,rfl,Nat.le_refl _, ?_,b1, ?_,fun _ _ _ _=>rfl⟩ ?_ ?_ ?_ ?_ ?_ ?_
 any_goals (simp (disch:=omega)only[go_sem, *];done)
 any_goals (simp (disch:=omega)only[go_sem, *]<;>omega)
 ·omega
 have lo0:Lo h id (((h.alloc ⟨3,[[.ns,.ns,.ns]]⟩).alloc ⟨3,[[.ns,.ns,.ns]]⟩).put id (Br t1.2)):=⟨rfl,Nat.le_refl _,by simp (disch:=omega)only[go_sem, *],fun j hj hne=>by simp (disch:=omega)only[go_sem, *]⟩
 intro e hh va r1 sa la e0 e2 e3
 have lo1:=lo0.thru hid r1
 have sa1:Sl (h.next+2) hh 11 va (p1.1.map Part.enc):=sa
 clear sa lo0 hgf b1 c1
 have b1:=r1.isb
 have q0:=r1.rd
 have l1:=lo1.lim
 have n1':=lo1.next
 simp only [Br] at q0
 try simp (disch:=omega)only[go_sem, *]
 refine Bg (s:=p1.2) ?_ b1 ?_ ?_
 ·simp (disch:=omega)only[go_sem, *]
 ·simp (disch:=omega)only[go_sem, *]<;>omega
 have b2:Az (AJ 8 p1.2).2.b:=by first | exact Az.num b1 | exact Az.flag b1 | exact Az.cnt b1
 obtain ⟨t2,ht2⟩:∃ x,AJ 8 p1.2=x:=⟨_,rfl⟩
 rw [ht2] at b2 ⊢
 have c2:0≤t2.1∧t2.1≤8:=by rw [← ht2];exact Fe (by omega)
 obtain ⟨n2,hn2⟩:∃ n:Nat,t2.1=n:=⟨t2.1.toNat,by omega⟩
 obtain ⟨p2,hp2⟩:∃ x,Co n2 [] t2.2=x:=⟨_,rfl⟩
 have r2:=r1.re b2
 have lo2:=lo1.put (k:=Br t2.2) hid
 have sa2:=AA sa1 id (Br t2.2) ((As sa1).imp (fun x=>x) (fun x=>by omega))
 simp only [Br] at r2
 simp (disch:=omega)only[go_sem, *]
 refine kR (n:=n2) (P:=p2) (v2:=.p h.next 0 0) ?_ ?_ (by omega) hp2 r2 ?_ ?_ ?_ ?_ ?_ ?_
 any_goals (simp (disch:=omega)only[go_sem, *];done)
 any_goals (simp (disch:=omega)only[go_sem, *]<;>omega)
 clear r2 lo1 l1 n1' q0 sa1 b1 c2
 intro e hh3 vb r3 sb lb e0 e2 e3
 have lo3:=lo2.thru hid r3
 have sa3:=r3.thru sa2 (by omega) (by omega)
 have sb3:Sl (h.next+2) hh3 6 vb (p2.1.map Ar.enc):=Sl.weak sb lo2.next
 clear sb sa2 lo2 b2
 have b3:=r3.isb
 have q0:=r3.rd
 have l1:=lo3.lim
 have n1':=lo3.next
 simp only [Br] at q0
 try simp (disch:=omega)only[go_sem, *]
 refine Bg (s:=p2.2) ?_ b3 ?_ ?_
 ·simp (disch:=omega)only[go_sem, *]
 ·simp (disch:=omega)only[go_sem, *]<;>omega
 have b3:Az (AJ 3 p2.2).2.b:=by first | exact Az.num b3 | exact Az.flag b3 | exact Az.cnt b3
 obtain ⟨t3,ht3⟩:∃ x,AJ 3 p2.2=x:=⟨_,rfl⟩
 rw [ht3] at b3 ⊢
 have c3:0≤t3.1∧t3.1≤3:=by rw [← ht3];exact Fe (by omega)
 obtain ⟨n3,hn3⟩:∃ n:Nat,t3.1=n:=⟨t3.1.toNat,by omega⟩
 obtain ⟨p3,hp3⟩:∃ x,Eh n3 [] t3.2=x:=⟨_,rfl⟩
 have r4:=r3.re b3
 have lo4:=lo3.put (k:=Br t3.2) hid
 have sa4:=AA sa3 id (Br t3.2) ((As sa3).imp (fun x=>x) (fun x=>by omega))
 have sb4:=AA sb3 id (Br t3.2) ((As sb3).imp (fun x=>x) (fun x=>by omega))
 simp only [Br] at r4
 simp (disch:=omega)only[go_sem, *]
 refine kT (n:=n3) (P:=p3) (i2':=h.next) ?_ ?_ (by omega) hp3 r4 ?_ ?_ ?_ ?_ ?_ ?_ ?_
 any_goals (simp (disch:=omega)only[go_sem, *];done)
 any_goals (simp (disch:=omega)only[go_sem, *]<;>omega)
 clear r4 lo3 l1 n1' q0 sa3 sb3 b3 c3
 intro e hh5 vc r5 sc lc e0 e2 e3
 have lo5:=lo4.thru hid r5
 have sa5:=r5.thru sa4 (by omega) (by omega)
 have sb5:=r5.thru sb4 (by omega) (by omega)
 have sc5:Sl (h.next+2) hh5 1 vc (p3.1.map Tab.enc):=Sl.weak sc lo4.next
 clear sc sa4 sb4 lo4
 have q0:=r5.rd
 have q2:=r5.q
 obtain ⟨l5,n5,q1,fr5⟩:=lo5
 simp only [Br] at q0
 have hcs:Bx s=(⟨p1.1,p2.1,p3.1⟩,p3.2):=by
  unfold Bx
  simp only [ht1,hn1,Int.toNat_natCast,hp1,ht2,hn2,hp2,ht3,hn3,hp3]
 obtain ⟨_,_,_,_,_,_,_,ac1,ac2⟩:=sa5.facts
 obtain ⟨_,_,_,_,_,_,_,bc1,bc2⟩:=sb5.facts
 obtain ⟨_,_,_,_,_,_,_,cc1,cc2⟩:=sc5.facts
 have oa:=As sa5
 have ob:=As sb5
 have oc:=As sc5
 have fa:=fun k=>Sl.frzb (nx:=h.next) (Sl.weak (AA sa5 h.next k (oa.imp (fun x=>x) (fun x=>by omega))) (Nat.le_add_right h.next 2)) (fun _=>rfl) (by omega)
 have fb:=fun k=>Sl.frzb (nx:=h.next) (Sl.weak (AA sb5 h.next k (ob.imp (fun x=>x) (fun x=>by omega))) (Nat.le_add_right h.next 2)) (fun _=>rfl) (by omega)
 have fc:=fun k=>Sl.frzb (nx:=h.next) (Sl.weak (AA sc5 h.next k (oc.imp (fun x=>x) (fun x=>by omega))) (Nat.le_add_right h.next 2)) (fun _=>rfl) (by omega)
 clear ht1 hn1 hp1 ht2 hn2 hp2 ht3 hn3 hp3 r1 r3 r5 oa ob oc sa5 sb5 sc5
 simp (disch:=omega)only[go_sem, *]
 exact ⟨by show h.next≤hh5.next;omega,l5,by rw [Ad,Ac (by omega)];exact q0,fun j hj hne=>by rw [Ad,Ac (by omega)];exact fr5 j hj hne⟩
end Go.Ab.T
namespace Go.Ab.T
open Go Go.Ab
set_option maxHeartbeats 4000000
noncomputable def BW (b:List Int):Ah×Int:=
 if (A6 b).2=false then (⟨[],[],[]⟩,13)
 else if (A6 b).1.length<4 then (⟨[],[],[]⟩,12)
 else if (E5 (Bx ⟨(A6 b).1.drop 4,false⟩).1).2=0∧(E5 (Bx ⟨(A6 b).1.drop 4,false⟩).1).1=b then ((Bx ⟨(A6 b).1.drop 4,false⟩).1,0) else (⟨[],[],[]⟩,12)
theorem aI {m:Int} {s:Rd} (hm:m≤1000):(DH m s).1.size≤1000:=by
 unfold DH
 split
 ·exact Nat.zero_le _
 ·unfold DK ZO
  split
  ·exact Nat.zero_le _
  ·rename_i q
   simp only [ByteArray.size,List.size_toArray,List.length_map,List.length_take]
   omega
theorem NG:∀ (n:Nat) (A:List Part) (s:Rd),(∀ p∈A,p.name.size≤1000)→∀ p∈(Cu n A s).1,p.name.size≤1000
 | 0,_,_,h=>h
 | n+1,A,s,h=>by
  unfold Cu
  refine NG n _ _ fun p hp=>?_
  rcases List.mem_append.1 hp with q | q
  ·exact h p q
  ·rw [List.mem_singleton.1 q]
   unfold C7
   exact aI (by omega)
theorem Sn {s:Rd}:GT (Bx s).1:=fun p hp=>by
 have:=NG (AJ 6 s).1.toNat [] (AJ 6 s).2 (fun _ h=>by cases h) p (by unfold Bx at hp;exact hp)
 omega
theorem LE {b:List Int} (h:Az b):Az (A6 b).1:=by
 unfold A6
 split
 ·exact h.take
 ·exact fun z hz=>by cases hz
theorem W2 {h:AH} {B:List Int} {K:V→AH→Prop} (kk:K (.p h.next 0 0) (h.alloc (Br ⟨B,false⟩))):Cq tp X0 [.fl 1 (B.map Aj)] h K:=by
 refine A8 aFR (by simp [OS]) fun wf rp=>?_
 unfold OS
 simp only [Br] at kk
 simp (disch:=omega)only[go_sem, *]
theorem E7 {b:List Int} (hb:Az b):Pf tp Ss [.fl 1 (b.map Aj)] (.tup [.agg (BW b).1.enc,.i .i64 (BW b).2]):=by
 refine AD aFq (by simp [Ol]) fun rp=>?_
 have hL:=rp.head.len
 have ho:=RP (B:=b)
 have hob:=LE hb
 have hol:(A6 b).1.length≤b.length:=by unfold A6;split<;>simp
 have r1:(A6 b).2=false→BW b=(⟨[],[],[]⟩,13):=fun q=>if_pos q
 have r2:(A6 b).2=true→(A6 b).1.length<4→BW b=(⟨[],[],[]⟩,12):=fun q q2=>by unfold BW;rw [if_neg (by rw [q];decide),if_pos q2]
 have r3:(A6 b).2=true→¬ (A6 b).1.length<4→BW b=(if (E5 (Bx ⟨(A6 b).1.drop 4,false⟩).1).2=0∧(E5 (Bx ⟨(A6 b).1.drop 4,false⟩).1).1=b then ((Bx ⟨(A6 b).1.drop 4,false⟩).1,0) else (⟨[],[],[]⟩,12)):=fun q q2=>by unfold BW;rw [if_neg (by rw [q];decide),if_neg q2]
 unfold Ol
 simp (disch:=omega)only[go_sem, *]
 refine Pf.go (ho) (by simp only [go_sem]) fun _=>?_;simp (disch:=omega)only[go_sem, *]
 clear ho
 generalize A6 b=o at *
 obtain ⟨x,ok⟩:=o
 simp only at hob hol r1 r2 r3
 have md:∀ n,List.drop n (x.map Aj)=(x.drop n).map Aj:=fun n=>List.map_drop.symm
 have ml:List.take (x.length - 4) ((x.drop 4).map Aj)=(x.drop 4).map Aj:=List.take_of_length_le (by simp)
 cases ok with
 | false=>
  have e:=r1 rfl
  clear r1 r2 r3
  simp (disch:=omega)only[go_sem, *]
 | true=>
  simp (disch:=omega)only[go_sem, *]
  refine Aa (fun hc=>?_) (fun hc=>?_)
  ·have e:=r2 rfl (by omega)
   clear r1 r2 r3
   simp (disch:=omega)only[go_sem, *]
  ·have e:=r3 rfl (by omega)
   clear r1 r2 r3
   have hnm:=Sn (s:=⟨x.drop 4,false⟩)
   simp (disch:=omega)only[go_sem, *]
   refine W2 ?_
   simp (disch:=omega)only[go_sem, *]
   refine Ri (s:=⟨x.drop 4,false⟩) ?_ hob.drop ?_ ?_
   ·simp (disch:=omega)only[go_sem, *]
   ·simp (disch:=omega)only[go_sem, *]
   generalize Bx ⟨x.drop 4,false⟩=P at *
   obtain ⟨C,s2⟩:=P
   simp only at hnm e
   have hby:=Eb hnm
   simp only [Ah.enc] at hby
   simp (disch:=omega)only[go_sem, *]
   refine Pf.go (hby) (by simp only [go_sem]) fun _=>?_;simp (disch:=omega)only[go_sem, *]
   clear hby
   refine Aq (fun h1=>?_) (fun h1=>?_)
   ·rw [if_neg (fun q=>h1 q.1)] at e
    simp (disch:=omega)only[go_sem, *]
   ·simp (disch:=omega)only[go_sem, *]
    refine Pf.go (GA) (by simp only [go_sem]) fun _=>?_;simp (disch:=omega)only[go_sem, *]
    refine AX (fun h2=>?_) (fun h2=>?_)
    ·rw [if_neg (fun q=>by simp [q.2] at h2)] at e
     clear h2
     simp (disch:=omega)only[go_sem, *]
    ·rw [if_pos ⟨Decidable.not_not.1 h1,by simpa using h2⟩] at e
     clear h2
     simp (disch:=omega)only[go_sem, *]
end Go.Ab.T
namespace Go.Ab.T
open Go Go.Ab
set_option maxHeartbeats 1000000
theorem Uw {L:List AO} (h:CG L=true):∀ x∈L,PZ x:=by
 unfold CG at h
 simp only [Bool.and_eq_true,List.all_eq_true] at h
 intro x hx
 have:=h.1 x hx
 unfold Ee at this
 simp only [decide_eq_true_eq] at this
 exact ⟨by omega,by omega⟩
theorem PT {C:Ah} (h:A1 C=(0,-1)):∀ p∈C.parts,LZ p:=fun p hp=>by
 obtain ⟨_,hg,_,_⟩:=Dl.1 h
 obtain ⟨j,hj,rfl⟩:=List.getElem_of_mem hp
 have g:=hg j hj
 have e:nth C.parts j=C.parts[j]:=BX hj
 rw [← e]
 have g2:=g.2.2
 unfold EX at g2
 simp only [Bool.and_eq_true,FV,Ji,decide_eq_true_eq] at g2
 obtain ⟨⟨a,b⟩,c⟩:=g2
 exact ⟨J9 g.1,by unfold UU;omega,by unfold UU;omega,(I2 a).2,Uw a,by omega⟩
theorem PS {C:Ah} (h:A1 C=(0,-1)):∀ x∈C.chans,(0≤x.src∧x.src≤6)∧(0≤x.dst∧x.dst≤6)∧(0≤x.cap∧x.cap≤8)∧UU x.late:=fun x hx=>by
 obtain ⟨a,_,hc,_⟩:=Dl.1 h
 have:=hc x hx
 unfold C0 at this
 simp only [Bool.and_eq_true,decide_eq_true_eq] at this
 obtain ⟨b,c⟩:=this
 split at c<;>simp only [decide_eq_true_eq] at c<;>exact ⟨by omega,by omega,by omega,by unfold UU;omega⟩
theorem Oc:∀ (l:List Node) (left n:Int),0≤n→Ep l left n=n+l.length→∀ x∈l,0≤kids x
 | [],_,_,_,_=>fun x hx=>by cases hx
 | a::r,left,n,hn,h=>fun x hx=>by
  unfold Ep at h
  rw [List.length_cons] at h
  by_cases h1:kids a<0
  ·rw [if_pos h1] at h;omega
  ·rw [if_neg h1] at h
   by_cases h2:left+(kids a - 1)=0
   ·rw [if_pos h2] at h
    have:r=[]:=List.length_eq_zero_iff.1 (by omega)
    subst this
    rw [List.mem_singleton.1 hx];omega
   ·rw [if_neg h2] at h
    rcases List.mem_cons.1 hx with rfl | hx
    ·omega
    ·exact Oc r (left+(kids a - 1)) (n+1) (by omega) (by omega) x hx
theorem Is {x:Node} (h:0≤kids x):(0≤x.kind∧x.kind≤4)∧(0≤x.part∧x.part≤6)∧1≤x.n:=by
 unfold kids at h
 split at h
 ·omega
 ·rename_i h1
  split at h
  ·omega
  ·split at h
   ·omega
   ·split at h
    ·omega
    ·omega
theorem R0 {C:Ah} (h:A1 C=(0,-1)):∀ t∈C.tables,t.length≤128∧∀ x∈t,(0≤x.kind∧x.kind≤4)∧(0≤x.part∧x.part≤6)∧1≤x.n:=fun t ht=>by
 obtain ⟨_,_,_,hT⟩:=Dl.1 h
 have g:=hT t ht
 rw [D0] at g
 have hr:=g.1.right
 unfold Bj at hr
 split at hr
 ·cases hr
 ·rename_i h1
  split at hr
  ·cases hr
  ·rename_i h2
   refine ⟨by omega,fun x hx=>Is ?_⟩
   have hw:BI t=true:=by simpa using h2
   unfold BI at hw
   simp only [decide_eq_true_eq] at hw
   have hs:=hw.2
   unfold size at hs
   rw [if_neg (by omega)] at hs
   refine Oc t 1 0 (by omega) ?_ x hx
   simpa using hs
theorem Ft {α:Type} {f:List Int→α→List Int} {e:α→List Int} (h:∀ B a,f B a=B++e a):∀ (L:List α) (B:List Int),L.foldl f B=B++(L.map e).flatten
 | [],B=>by simp
 | a::L,B=>by rw [List.foldl_cons,Ft h L,h,List.map_cons,List.flatten_cons,List.append_assoc]
theorem Xm (B:List Int) (p:AO):B1 B p=B++M7 p:=by unfold B1 M7;rw [E9,E9,List.append_assoc]
theorem Xk (B:List Int) (p:Node):CV B p=B++Lp p:=by unfold CV Lp;simp only [E9,List.append_assoc]
theorem Xj (C:List Ar) (hC:∀ x∈C,0≤x.top∧x.top≤4294967295):∀ (B:List Int),C.foldl Ck B=B++(C.map JR).flatten:=by
 induction C with
 | nil=>intro B;simp
 | cons x L ih=>
  intro B
  have hx:=hC x (List.mem_cons_self ..)
  rw [List.foldl_cons,ih (fun y hy=>hC y (List.mem_cons_of_mem _ hy)),List.map_cons,List.flatten_cons]
  have:Ck B x=B++JR x:=by
   unfold Ck JR BJ
   have hw:IntKind.wrap .i64 x.top=x.top:=by rw [wrap_i64];omega
   rw [hw]
   simp only [E9,List.append_assoc]
  rw [this,List.append_assoc]
theorem Xl (B:List Int) (p:Part):Cc B p=B++Lq p:=by
 unfold Cc Lq BJ
 simp only [E9,Ft Xm,List.append_assoc]
theorem gW (B:List Int) (t:List Node):ET B t=B++TM t:=by
 unfold ET TM
 rw [Ft Xk,E9,List.append_assoc]
theorem HB {C:Ah} (h:∀ x∈C.chans,0≤x.top∧x.top≤4294967295):E6 C=[72,79,82,65]++M6 C:=by
 unfold E6 M6
 rw [Ft gW,Ft Xl,Xj _ h]
 simp only [E9,List.append_assoc]
end Go.Ab.T
namespace Go.Ab.T
open Go Go.Ab
set_option maxHeartbeats 1000000
theorem R3 {a b:Int} (ha:0≤a) (ha2:a<4294967296) (hb:0≤b) (hb2:b<4294967296):xr a b=((a.toNat ^^^ b.toNat:Nat):Int):=by
 unfold xr
 rw [BZ,BitVec.toNat_xor,BitVec.toNat_ofInt,BitVec.toNat_ofInt]
 have e1:(a % ((2 ^ 32:Nat):Int)).toNat=a.toNat:=by omega
 have e2:(b % ((2 ^ 32:Nat):Int)).toNat=b.toNat:=by omega
 rw [e1,e2]
 have:=Nat.xor_lt_two_pow (n:=32) (show a.toNat<2 ^ 32 by omega) (show b.toNat<2 ^ 32 by omega)
 omega
theorem ML {a c b:Int} (ha:0≤a) (ha2:a<4294967296) (hc:0≤c) (hc2:c<4294967296) (hb:0≤b) (hb2:b<4294967296) (h:xr a b=xr c b):a=c:=by
 rw [R3 ha ha2 hb hb2,R3 hc hc2 hb hb2] at h
 have h1:a.toNat ^^^ b.toNat=c.toNat ^^^ b.toNat:=by omega
 have h2:=congrArg (· ^^^ b.toNat) h1
 simp only [Nat.xor_assoc,Nat.xor_self,Nat.xor_zero] at h2
 omega
theorem Jw (a b:Int):xr a b=xr b a:=by unfold xr;rw [BitVec.xor_comm]
theorem bR {a b:Int} (ha:0≤a) (ha2:a<4294967296) (hb:0≤b) (hb2:b<4294967296):xr a b % 2=(a+b) % 2:=by
 rw [R3 ha ha2 hb hb2]
 have h:=Nat.testBit_xor a.toNat b.toNat 0
 simp only [Nat.testBit_zero] at h
 have h1:=Nat.mod_two_eq_zero_or_one a.toNat
 have h2:=Nat.mod_two_eq_zero_or_one b.toNat
 have h3:=Nat.mod_two_eq_zero_or_one (a.toNat ^^^ b.toNat)
 generalize a.toNat ^^^ b.toNat=x at *
 rcases h1 with h1 | h1<;>rcases h2 with h2 | h2<;>rcases h3 with h3 | h3<;>simp [h1,h2,h3] at h<;>omega
theorem ZX (c:Int):UK c=(c*2) % 4294967296:=by unfold UK;rw [BZ]
theorem Rv {a c:Int} (ha:0≤a) (ha2:a<4294967296) (hc:0≤c) (hc2:c<4294967296) (h:Eo a=Eo c):a=c:=by
 unfold Eo at h
 have fa:a.fdiv 2147483648=a / 2147483648:=Int.fdiv_eq_ediv_of_nonneg _ (by omega)
 have fc:c.fdiv 2147483648=c / 2147483648:=Int.fdiv_eq_ediv_of_nonneg _ (by omega)
 rw [fa,fc] at h
 have ea:=ZX a
 have ec:=ZX c
 have pa:=bR (a:=UK a) (b:=79764919) (by omega) (by omega) (by omega) (by omega)
 have pc:=bR (a:=UK c) (b:=79764919) (by omega) (by omega) (by omega) (by omega)
 by_cases h1:a / 2147483648=1<;>by_cases h2:c / 2147483648=1
 ·rw [if_pos h1,if_pos h2] at h
  have:=ML (by omega) (by omega) (by omega) (by omega) (by omega) (by omega) h
  omega
 ·rw [if_pos h1,if_neg h2] at h
  omega
 ·rw [if_neg h1,if_pos h2] at h
  omega
 ·rw [if_neg h1,if_neg h2] at h
  omega
theorem Kc:∀ (n:Nat) {a c:Int},0≤a→a<4294967296→0≤c→c<4294967296→Iy n a=Iy n c→a=c
 | 0,_,_,_,_,_,_,h=>h
 | n+1,a,c,h1,h2,h3,h4,h=>by
  unfold Iy at h
  have b1:=GJ a
  have b2:=GJ c
  exact Rv h1 h2 h3 h4 (Kc n b1.1 b1.2 b2.1 b2.2 h)
theorem SX:∀ (n:Nat) {a:Int},0≤a→a<4294967296→0≤Iy n a∧Iy n a<4294967296
 | 0,_,h1,h2=>⟨h1,h2⟩
 | n+1,a,h1,h2=>by unfold Iy;have b1:=GJ a;exact SX n b1.1 b1.2
theorem C6 {c b:Int}:0≤DM c b∧DM c b<4294967296:=by unfold DM;exact SX _ (F8 _ _).1 (F8 _ _).2
theorem QF {b:Int} (h0:0≤b) (h1:b<256):IntKind.wrap .u32 (IntKind.wrap .u32 b*16777216)=b*16777216:=by rw [BZ,BZ];omega
theorem Uk {c d b:Int} (hb0:0≤b) (hb1:b<256) (hc:0≤c) (hc2:c<4294967296) (hd:0≤d) (hd2:d<4294967296) (h:DM c b=DM d b):c=d:=by
 unfold DM at h
 rw [QF hb0 hb1] at h
 have h1:=Kc 8 (F8 _ _).1 (F8 _ _).2 (F8 _ _).1 (F8 _ _).2 h
 exact ML hc hc2 hd hd2 (by omega) (by omega) h1
theorem Rp {c a b:Int} (ha0:0≤a) (ha1:a<256) (hb0:0≤b) (hb1:b<256) (hc:0≤c) (hc2:c<4294967296) (h:DM c a=DM c b):a=b:=by
 unfold DM at h
 rw [QF ha0 ha1,QF hb0 hb1] at h
 have h1:=Kc 8 (F8 _ _).1 (F8 _ _).2 (F8 _ _).1 (F8 _ _).2 h
 rw [Jw c,Jw c] at h1
 have:=ML (by omega) (by omega) (by omega) (by omega) hc hc2 h1
 omega
theorem FD:∀ (l:List Int) {c:Int},0≤c→c<4294967296→0≤CC l c∧CC l c<4294967296
 | [],_,h1,h2=>⟨h1,h2⟩
 | b::l,c,_,_=>by unfold CC;exact FD l C6.1 C6.2
theorem LR:∀ (l:List Int) {c d:Int},Az l→0≤c→c<4294967296→0≤d→d<4294967296→CC l c=CC l d→c=d
 | [],_,_,_,_,_,_,_,h=>h
 | b::l,c,d,hl,h1,h2,h3,h4,h=>by
  unfold CC at h
  have hb:=hl b (List.mem_cons_self ..)
  exact Uk hb.1 hb.2 h1 h2 h3 h4 (LR l (fun z hz=>hl z (List.mem_cons_of_mem _ hz)) C6.1 C6.2 C6.1 C6.2 h)
theorem Z7 {A l:List Int} {a b:Int} (hl:Az l) (ha0:0≤a) (ha1:a<256) (hb0:0≤b) (hb1:b<256) (h:CC (A++a::l) 4294967295=CC (A++b::l) 4294967295):a=b:=by
 rw [II,II,CC,CC] at h
 have hA:=FD A (c:=4294967295) (by omega) (by omega)
 exact Rp ha0 ha1 hb0 hb1 hA.1 hA.2 (LR l hl C6.1 C6.2 C6.1 C6.2 h)
end Go.Ab.T
namespace Go.Ab.T
open Go Go.Ab
set_option maxHeartbeats 1000000
theorem Fo.bds:∀ (f:Fo),f.ok→(f.count:Int)≤f.len∧∀ x∈f.flat,x.n≤f.len
 | .nil,_=>⟨by simp [Fo.count,Fo.len],fun x hx=>by simp [Fo.flat] at hx⟩
 | .leaf y r,ho=>by
  obtain ⟨a,b⟩:=Fo.bds r ho.2
  have k:=Is (x:=y) (by have:=ho.1;omega)
  simp only [Fo.count,Fo.len,Fo.flat,List.mem_cons]
  refine ⟨by omega,fun x hx=>?_⟩
  rcases hx with rfl | hx
  ·omega
  ·have:=b x hx;omega
 | .seq y q r,ho=>by
  obtain ⟨h3,hk,hp,hok,hor⟩:=ho
  obtain ⟨a,b⟩:=Fo.bds r hor
  obtain ⟨c,d⟩:=Fo.bds q hok
  have e:=(HK y (by omega)).1 h3
  simp only [Fo.count,Fo.len,Fo.flat,List.mem_cons,List.mem_append]
  refine ⟨by omega,fun x hx=>?_⟩
  rcases hx with rfl | hx | hx
  ·omega
  ·have:=d x hx;omega
  ·have:=b x hx;omega
 | .rep y q r,ho=>by
  obtain ⟨h3,hk,hp,hok,hor⟩:=ho
  obtain ⟨a,b⟩:=Fo.bds r hor
  obtain ⟨c,d⟩:=Fo.bds q hok
  have k:=Is (x:=y) (by omega)
  have m1:y.n*1≤y.n*q.len:=Int.mul_le_mul_of_nonneg_left (by omega) (by omega)
  have m2:1*q.len≤y.n*q.len:=Int.mul_le_mul_of_nonneg_right (by omega) (by omega)
  simp only [Fo.count,Fo.len,Fo.flat,List.mem_cons,List.mem_append]
  refine ⟨by omega,fun x hx=>?_⟩
  rcases hx with rfl | hx | hx
  ·omega
  ·have:=d x hx;omega
  ·have:=b x hx;omega
theorem lB {T:List Node} (h:Bj T=0):∀ x∈T,x.n≤4096:=fun x hx=>by
 obtain ⟨_,ho,_,hL,_,hl⟩:=FU h
 rw [hL] at hx
 have:=(Fo.bds _ ho).2 x hx
 omega
theorem KV {C:Ah} (h:A1 C=(0,-1)) (ht:∀ x∈C.chans,Fi x):FJ C:=by
 obtain ⟨⟨a1,a2,a3,a4,a5⟩,_,_,hT⟩:=Dl.1 h
 refine ⟨a2,a3,a5,PT h,fun x hx=>?_,fun t q=>?_⟩
 ·obtain ⟨b1,b2,b3,b4⟩:=PS h x hx
  exact ⟨b1,b2,b3,ht x hx,b4⟩
 ·obtain ⟨b1,b2⟩:=R0 h t q
  have g:=hT t q
  rw [D0] at g
  refine ⟨b1,fun x hx=>?_⟩
  obtain ⟨c1,c2,c3⟩:=b2 x hx
  exact ⟨c1,c2,by have:=lB g.1.right x hx;unfold UU;omega⟩
theorem Lm:∀ (n:Nat) (A:List Ar) (s:Rd),(∀ p∈A,Fi p)→∀ p∈(Co n A s).1,Fi p
 | 0,_,_,h=>h
 | n+1,A,s,h=>by
  unfold Co
  refine Lm n _ _ fun p hp=>?_
  rcases List.mem_append.1 hp with q | q
  ·exact h p q
  ·rw [List.mem_singleton.1 q]
   unfold Et Fi
   simp only [PV]
   omega
theorem WY {s:Rd}:∀ x∈(Bx s).1.chans,Fi x:=by
 unfold Bx
 exact Lm _ _ _ (fun _ h=>by cases h)
theorem Hg (B:List Int):A6 (BL B)=(B,true):=by
 have e:(BL B).length - 4=B.length:=by rw [CD];omega
 have e1:(BL B).take B.length=B:=by unfold BL;rw [List.take_left]
 have e2:(BL B).drop B.length=CQ (Dp B):=by unfold BL;rw [List.drop_left];rfl
 unfold A6
 rw [e,e1,e2,if_pos ⟨by rw [CD];omega,rfl⟩]
theorem RA {b:List Int} (h:(A6 b).2=true):b=BL (A6 b).1:=by
 unfold A6 at h ⊢
 split
 ·rename_i q
  show b=b.take (b.length - 4)++CQ _
  rw [q.2,List.take_append_drop]
 ·rename_i q
  rw [if_neg q] at h;cases h
theorem JO {C:Ah} (hC:FJ C):Bx ⟨(E6 C).drop 4,false⟩=(C,⟨[],false⟩):=by
 have h:=gN hC []
 rw [List.append_nil] at h
 rw [HB (fun x hx=>(hC.cc x hx).t)]
 exact h
theorem WG {C:Ah} (hC:FJ C):4≤(E6 C).length:=by
 rw [HB (fun x hx=>(hC.cc x hx).t)];simp
theorem Zs {C:Ah} (hw:A1 C=(0,-1)) (hC:FJ C):BW (Bt C)=(C,0):=by
 have e:E5 C=(Bt C,0):=if_pos (by rw [hw])
 have hl:=WG hC
 unfold BW
 rw [← Dg,Hg]
 simp only [JO hC,e]
 rw [if_neg (by decide),if_neg (by omega),if_pos ⟨trivial,Dg.symm⟩]
theorem UB {b:List Int} {D:Ah} (h:BW b=(D,0)):A1 D=(0,-1)∧FJ D∧Bt D=b∧A6 b=(E6 D,true)∧Bx ⟨(E6 D).drop 4,false⟩=(D,⟨[],false⟩):=by
 unfold BW at h
 split at h
 ·cases h
 ·split at h
  ·cases h
  ·split at h
   ·rename_i h1 h2 h3
    have hD:(Bx ⟨(A6 b).1.drop 4,false⟩).1=D:=by injection h
    have ht:=WY (s:=⟨(A6 b).1.drop 4,false⟩)
    rw [hD] at h3 ht
    obtain ⟨h4,h5⟩:=h3
    have hw:A1 D=(0,-1):=by
     refine KU (Classical.byContradiction fun q=>?_)
     unfold E5 at h4
     rw [if_neg q] at h4
     exact q h4
    have e:E5 D=(Bt D,0):=if_pos (by rw [hw])
    rw [e] at h5
    have hC:=KV hw ht
    refine ⟨hw,hC,h5, ?_,JO hC⟩
    rw [← h5,←Dg,Hg]
   ·cases h
theorem Az.app {A B:List Int} (a:Az A) (b:Az B):Az (A++B):=fun z hz=>(List.mem_append.1 hz).elim (a z) (b z)
theorem A2 {B:List Int} (h:Az B) (n:Int):Az (Am B n):=by
 rw [Js]
 refine h.app fun z hz=>?_
 rcases List.mem_cons.1 hz with rfl | hz
 ·have:=FA n
  unfold NM;split<;>omega
 ·exact Zo n z hz
theorem EC {α:Type} {f:List Int→α→List Int} (h:∀ B a,Az B→Az (f B a)):∀ (L:List α) (B:List Int),Az B→Az (L.foldl f B)
 | [],_,hB=>hB
 | a::L,B,hB=>EC h L _ (h B a hB)
theorem aHA (s:ByteArray):Az (sB s):=fun z hz=>by
 unfold sB at hz
 obtain ⟨c,_,rfl⟩:=List.mem_map.1 hz
 have:=c.toNat_lt
 omega
theorem WF (C:Ah):Az (E6 C):=by
 unfold E6
 refine EC (fun B t h=>?_) _ _ (A2 (EC (fun B x h=>?_) _ _ (A2 (EC (fun B p h=>?_) _ _ (A2 (fun z hz=>?_) _)) _)) _)
 ·unfold ET
  exact EC (fun B x h=>A2 (A2 (A2 h _) _) _) _ _ (A2 h _)
 ·exact A2 (A2 (A2 (A2 (A2 (A2 h _) _) _) _) _) _
 ·unfold Cc
  refine A2 (A2 (A2 (A2 (A2 (EC (fun B x h=>A2 (A2 h _) _) _ _ (A2 (A2 (A2 (A2 (A2 (Az.app (A2 h _) (aHA _)) _) _) _) _) _)) _) _) _) _) _
 ·simp only [List.mem_cons,List.not_mem_nil,or_false] at hz
  omega
theorem FC {B:List Int} (h:Az B):Az (BL B):=by
 unfold BL
 refine h.app fun z hz=>?_
 simp only [List.mem_cons,List.not_mem_nil,or_false,DJ] at hz
 omega
theorem Gw (C:Ah):Az (Bt C):=FC (WF C)
end Go.Ab.T
namespace Go.Ab.T
open Go Go.Ab
set_option maxHeartbeats 4000000
/-! Chapter 14's known runs. -/
def MN:Ah:=⟨[⟨⟨#[97]⟩,0,0,false,false,[⟨0,0⟩],0,0,0,0,0⟩],[],[[⟨1,0,1⟩]]⟩
theorem GD:A1 MN=(0,-1):=by
 have hk:kids ⟨1,0,1⟩=0:=by unfold kids;decide
 have h1:(Fo.leaf ⟨1,0,1⟩ .nil).ok:=⟨hk,trivial⟩
 have e:([⟨1,0,1⟩]:List Node)=(Fo.leaf ⟨1,0,1⟩ .nil).flat:=rfl
 have h2:=Hm h1 rfl (by decide) (by decide) (by decide)
 have h3:=TV h1 rfl (by decide) (by decide) (by decide)
 have ho:Ez [⟨1,0,1⟩]=([⟨0,1⟩],0):=by rw [e,Gl h2,h3,if_neg (by decide)];rfl
 have hh:Cr MN [⟨0,1⟩]=0:=by decide +kernel
 refine Dl.2 ⟨by decide,fun j hj=>?_,fun x hx=>(by cases hx),fun t ht=>?_⟩
 ·have:j=0:=by have:MN.parts.length=1:=rfl;omega
  subst this
  exact ⟨by decide +kernel,rfl,by decide +kernel⟩
 ·rw [List.mem_singleton.1 ht,D0,ho]
  exact ⟨⟨by rw [ho],fun r hr=>by rw [ho] at hr;rw [List.mem_singleton.1 hr];decide⟩,hh⟩
theorem aGZ:FJ MN:=KV GD (fun x hx=>by cases hx)
theorem jH:E5 MN=(Bt MN,0):=if_pos (by rw [GD])
theorem rI:E5 ⟨[],[],[]⟩=([],3):=rfl
theorem jI:BW []=(⟨[],[],[]⟩,13):=rfl
theorem YO:BW (BL [72,79,82,65])=(⟨[],[],[]⟩,12):=by
 have e:(Bx ⟨[],false⟩).1=⟨[],[],[]⟩:=rfl
 unfold BW
 rw [Hg,if_neg (by decide),if_neg (by decide)]
 refine if_neg fun q=>?_
 have q1:(E5 (Bx ⟨[],false⟩).1).2=0:=q.1
 rw [e,rI] at q1
 cases q1
theorem Sl.newi {b i n:Nat} {h:AH} {sz:Nat} {N:List (List V)} (hi:i=h.next) (hn:n=N.length) (hb:b≤h.next) (hN:N.length<4294967296):Sl b (h.alloc ⟨sz,N⟩) sz (.sl i 0 n n) N:=by
 subst hi;subst hn;exact Sl.new hb hN
def Ms:AH:=⟨fun i=>if i=4 then some ⟨3,[MN.enc]⟩ else none,5,0⟩
theorem jG {c : TC} {e : Env} {h : AH} {K : Ex → Env → AH → Prop} (hn : h.next = 5) (hl : h.lim = 0)
    (g0:h.get 0=some ⟨2,[[.i .i64 0,.i .i64 0]]⟩)
    (g1:h.get 1=some ⟨11,[[.s ⟨#[97]⟩,.i .i64 0,.i .i64 0,.b false,.b false,.sl 0 0 1 1,.i .i64 0,.i .i64 0,.i .i64 0,.i .i64 0,.i .i64 0]]⟩)
    (g2:h.get 2=some ⟨3,[[.i .i64 1,.i .i64 0,.i .i64 1]]⟩) (g3:h.get 3=some ⟨1,[[.sl 2 0 1 1]]⟩) (g4:h.get 4=some ⟨3,[[.sl 1 0 1 1,.ns,.sl 3 0 1 1]]⟩) (e1:e 1=.p 4 0 0)
    (z:∀ e',e' 1=.p 4 0 0→bX tp c e' Ms K):bX tp c e h K:=by
 have zz:∀ {n:Nat} {v:V},EM v→Cz (·≠4) h n v v:=fun h0=>.z _ _ h0
 have slz:∀ {i sz:Nat} {cs r:List (List V)} {n:Nat},i≠4→h.get i=some ⟨sz,cs⟩→cs.length=1→BF (·≠4) h 0 cs r→Cz (·≠4) h n (.sl i 0 1 1) (.fl sz r):=fun h1 h2 h3 h4=>by
  refine .sl _ _ _ _ _ _ _ _ h1 h2 (by omega) (Nat.le_refl _) (by simp [Dz]) ?_
  rw [List.drop_zero,List.take_of_length_le (by omega)];exact h4
 refine MS (Jh (h2:=Ms) (·≠4) [1] (fun _=>.p 4 0 0) (fun wf=>⟨hn.symm,hl.symm,⟨fun i k hk=>?_,fun t ht=>?_⟩⟩)) (z _ rfl)
 ·unfold Ms at hk
  simp only at hk
  by_cases hi:i=4
  ·subst hi
   rw [if_pos rfl] at hk;cases hk
   refine ⟨by simp [Ms],by simp,_,g4,.cons _ _ _ _ _ (.cons _ _ _ _ _ (slz (by decide) g1 rfl ?_) (.cons _ _ _ _ _ (.ns _ _) (.cons _ _ _ _ _ (slz (by decide) g3 rfl ?_) (.nil _)))) (.nil _)⟩
   ·exact .cons _ _ _ _ _ (.cons _ _ _ _ _ (zz (.s _)) (.cons _ _ _ _ _ (zz (.i _ _)) (.cons _ _ _ _ _ (zz (.i _ _)) (.cons _ _ _ _ _ (zz (.b _)) (.cons _ _ _ _ _ (zz (.b _)) (.cons _ _ _ _ _ (slz (by decide) g0 rfl (.cons _ _ _ _ _ (.cons _ _ _ _ _ (zz (.i _ _)) (.cons _ _ _ _ _ (zz (.i _ _)) (.nil _))) (.nil _))) (.cons _ _ _ _ _ (zz (.i _ _)) (.cons _ _ _ _ _ (zz (.i _ _)) (.cons _ _ _ _ _ (zz (.i _ _)) (.cons _ _ _ _ _ (zz (.i _ _)) (.cons _ _ _ _ _ (zz (.i _ _)) (.nil _)))))))))))) (.nil _)
   ·exact .cons _ _ _ _ _ (.cons _ _ _ _ _ (slz (by decide) g2 rfl (.cons _ _ _ _ _ (.cons _ _ _ _ _ (zz (.i _ _)) (.cons _ _ _ _ _ (zz (.i _ _)) (.cons _ _ _ _ _ (zz (.i _ _)) (.nil _)))) (.nil _))) (.nil _)) (.nil _)
  ·rw [if_neg hi] at hk;cases hk
 ·rw [List.mem_singleton.1 ht,e1]
  exact .p _ _ _ _ (by simp [Ms])
theorem Rk:Pf tp XE [] (.b true):=by
 have hnm:GT MN:=(Dk GD).2
 have hne:GT ⟨[],[],[]⟩:=fun p hp=>by cases hp
 have t1:=Eb hnm
 have t2:=E7 (b:=Bt MN) (Gw MN)
 have t3:=E7 (b:=[]) (fun z hz=>by cases hz)
 have t4:=Eb hne
 have t5:=E7 (b:=BL [72,79,82,65]) (FC fun z hz=>by simp only [List.mem_cons,List.not_mem_nil,or_false] at hz;omega)
 have t6:=NX (a:=MN) (b:=MN)
 have t7:=Hd hnm
 have t8:=Hd hne
 rw [jH] at t1 t7
 rw [Zs GD aGZ] at t2
 rw [jI] at t3
 rw [rI] at t4 t8
 rw [YO] at t5
 refine U1 aFn (by simp [Oi]) fun rp=>?_
 unfold Oi
 refine CR ?_
 simp (disch:=omega)only[go_sem, *]
 refine CR ?_
 simp (disch:=omega)only[go_sem, *]
 refine jG rfl rfl rfl rfl rfl rfl rfl rfl ?_
 intro e1 f1
 have g1:Ms.get 4=some ⟨3,[MN.enc]⟩:=rfl
 have n1:Ms.next=5:=rfl
 have l1:Ms.lim=0:=rfl
 have ea:MN.enc=[.fl 11 (MN.parts.map Part.enc),.fl 6 (MN.chans.map Ar.enc),.fl 1 (MN.tables.map Tab.enc)]:=rfl
 rw [ea] at g1 t1 t2 t6 t7
 clear ea
 generalize Ms=H at *
 generalize Bt MN=B at *
 simp only at t1 t2 t3 t4 t5 t6 t7 t8
 refine CR ?_
 simp (disch:=omega)only[go_sem, *]
 refine Pf.go (t1) (by simp only [go_sem]) fun _=>?_;simp (disch:=omega)only[go_sem, *]
 refine V6 ?_
 simp (disch:=omega)only[go_sem, *]
 refine Pf.go (t2) (by simp only [go_sem]) fun _=>?_;simp (disch:=omega)only[go_sem, *]
 have hk0:∀ h:AH,h.kills []=h:=fun h=>by simp [AH.kills]
 refine Pf.take [] t3 (.cons _ _ _ _ _ (.ns _ _) (.nil _)) fun _=>?_
 rw [hk0]
 simp (disch:=omega)only[go_sem, *]
 refine Pf.take [] t4 (.cons _ _ _ _ _ (.agg _ _ _ (.cons _ _ _ _ _ (.ns _ _) (.cons _ _ _ _ _ (.ns _ _) (.cons _ _ _ _ _ (.ns _ _) (.nil _))))) (.nil _)) fun _=>?_
 rw [hk0]
 simp (disch:=omega)only[go_sem, *]
 refine Pf.take [7] (GP (B:=[72,79,82,65]) (by decide)) (.cons _ _ _ _ _ (Sl.froze (Sl.newi (b:=0) (N:=[72,79,82,65].map Aj) ?_ rfl (Nat.zero_le _) (by decide)) (fun _=>rfl) (by decide) (by decide)) (.nil _)) fun _=>?_
 ·simp (disch:=omega)only[go_sem, *]
 simp (disch:=omega)only[go_sem, *]
 refine Pf.go (t5) (by simp only [go_sem]) fun _=>?_;simp (disch:=omega)only[go_sem, *]
 refine Pf.go (t6) (by simp only [go_sem]) fun _=>?_;simp (disch:=omega)only[go_sem, *]
 refine Pf.go (t7) (by simp only [go_sem]) fun _=>?_;simp (disch:=omega)only[go_sem, *]
 refine Pf.take [] t8 (.cons _ _ _ _ _ (.agg _ _ _ (.cons _ _ _ _ _ (.ns _ _) (.cons _ _ _ _ _ (.ns _ _) (.cons _ _ _ _ _ (.ns _ _) (.nil _))))) (.nil _)) fun _=>?_
 rw [hk0]
 simp (disch:=omega)only[go_sem, *]
end Go.Ab.T
namespace Go.Ab.T
open Go Go.Ab
set_option maxHeartbeats 4000000
theorem lE {A B:List Int} (a:Az A) (b:Az B) (h:ZO A=ZO B):A=B:=by
 have h1:A.map (fun z=>UInt8.ofNat z.toNat)=B.map (fun z=>UInt8.ofNat z.toNat):=by
  unfold ZO at h
  injection h with h
  exact List.toArray_inj h
 have key:∀ {l:List Int},Az l→(l.map (fun z=>UInt8.ofNat z.toNat)).map (fun c=>(c.toNat:Int))=l:=fun {l} hl=>by
  rw [List.map_map]
  refine (List.map_congr_left fun z hz=>?_).trans (List.map_id l)
  have:=hl z hz
  simp only [Function.comp,UInt8.toNat_ofNat',id]
  omega
 rw [← key a,←key b,h1]
theorem Made.ok {C:Ah} (m:Made C):FJ C:=KV m.wh m.tops
end Go.Ab.T
namespace Go.Ab.T
open Go Go.Ab
set_option maxHeartbeats 4000000
attribute [-go_sem] FO
theorem rU (a:Int):ux a=xr 4294967295 a:=rfl
theorem aHW {a b:Int} (ha:0≤a) (ha2:a<4294967296) (hb:0≤b) (hb2:b<4294967296) (h:ux a=ux b):a=b:=by
 rw [rU,rU,Jw _ a,Jw _ b] at h
 exact ML ha ha2 hb hb2 (by omega) (by omega) h
theorem Tb (a:Int):0≤ux a∧ux a<4294967296:=by
 unfold ux;rw [BZ];omega
theorem UN {a b:Int} (ha:0≤a) (ha2:a<4294967296) (hb:0≤b) (hb2:b<4294967296) (h:CQ a=CQ b):a=b:=by
 unfold CQ at h
 simp only [List.cons.injEq,DJ,and_true] at h
 have f1:∀ x:Int,x.fdiv 16777216=x / 16777216:=fun x=>Int.fdiv_eq_ediv_of_nonneg _ (by omega)
 have f2:∀ x:Int,x.fdiv 65536=x / 65536:=fun x=>Int.fdiv_eq_ediv_of_nonneg _ (by omega)
 have f3:∀ x:Int,x.fdiv 256=x / 256:=fun x=>Int.fdiv_eq_ediv_of_nonneg _ (by omega)
 simp only [f1,f2,f3] at h
 omega
theorem aWI {C:List Int} (hB:Az C) {k:Nat} {y:Int} (hk:k<(BL C).length) (hy0:0≤y) (hy:y<256) (hne:y≠nth (BL C) k):(A6 ((BL C).set k y)).2=false:=by
 cases hq:(A6 ((BL C).set k y)).2 with
 | false=>rfl
 | true=>
  exfalso
  have e:=RA hq
  generalize (A6 ((BL C).set k y)).1=E at e
  have hl:C.length=E.length:=by have:=congrArg List.length e;rw [List.length_set,CD,CD] at this;omega
  have hs:BL C=C++CQ (Dp C):=rfl
  have hs2:BL E=E++CQ (Dp E):=rfl
  rw [CD] at hk
  rw [hs2,hs] at e
  rw [hs] at hne
  by_cases hkc:k<C.length
  ·rw [List.set_append_left _ _ hkc] at e
   obtain ⟨e1,e2⟩:=List.append_inj e (by rw [List.length_set];exact hl)
   subst e1
   have e4:=aHW (FD _ (by omega) (by omega)).1 (FD _ (by omega) (by omega)).2 (FD _ (by omega) (by omega)).1 (FD _ (by omega) (by omega)).2 (UN (Tb _).1 (Tb _).2 (Tb _).1 (Tb _).2 e2)
   have hn:nth (C++CQ (Dp C)) k=C[k]:=by rw [BX (by rw [List.length_append];omega),List.getElem_append_left hkc]
   have hc:C=C.take k++C[k]::C.drop (k+1):=by simp
   have hb:=hB _ (List.getElem_mem hkc)
   rw [List.set_eq_take_append_cons_drop,if_pos hkc] at e4
   rw [hn] at hne
   generalize C[k]=z at *
   rw [hc] at e4
   have ht:(C.take k++z::C.drop (k+1)).take k=C.take k:=by rw [← hc]
   have hd:(C.take k++z::C.drop (k+1)).drop (k+1)=C.drop (k+1):=by rw [← hc]
   rw [ht,hd] at e4
   exact hne (Z7 (fun x hx=>hB x (List.mem_of_mem_drop hx)) hb.1 hb.2 hy0 hy e4).symm
  ·rw [List.set_append_right _ _ (by omega)] at e
   obtain ⟨e1,e2⟩:=List.append_inj e hl
   subst e1
   have h4:(CQ (Dp C)).length=4:=rfl
   have hn:nth (C++CQ (Dp C)) k=nth (CQ (Dp C)) (k - C.length):=by
    rw [BX (by rw [List.length_append];omega),BX (by omega),List.getElem_append_right (by omega)]
   have:nth ((CQ (Dp C)).set (k - C.length) y) (k - C.length)=y:=by
    rw [BX (by rw [List.length_set];omega),List.getElem_set_self]
   rw [e2] at this
   rw [hn] at hne
   exact hne this.symm
theorem Tx {C:Ah} (hw:A1 C=(0,-1)) (hC:FJ C):9≤(Bt C).length∧(Bt C).length<1000000:=by
 have:=Ie (Dk hw).1
 rw [← Dg,CD]
 refine ⟨?_,by omega⟩
 rw [HB (fun x hx=>(hC.cc x hx).t)]
 unfold M6 pn
 simp only [List.length_append,List.length_cons]
 omega
theorem aWC:∀ q:Nat,q<8→∃ b:Int,0<b∧b<256∧Bs .shl (.i .u8 1) (.i .u64 q)=some (.i .u8 b)
 | 0,_=>⟨1,by decide,by decide,rfl⟩
 | 1,_=>⟨2,by decide,by decide,rfl⟩
 | 2,_=>⟨4,by decide,by decide,rfl⟩
 | 3,_=>⟨8,by decide,by decide,rfl⟩
 | 4,_=>⟨16,by decide,by decide,rfl⟩
 | 5,_=>⟨32,by decide,by decide,rfl⟩
 | 6,_=>⟨64,by decide,by decide,rfl⟩
 | 7,_=>⟨128,by decide,by decide,rfl⟩
theorem aWK {a b:Int} (a0:0≤a) (a1:a<256) (b0:0<b) (b1:b<256):∃ y:Int,0≤y∧y<256∧y≠a∧Bs .xor (.i .u8 a) (.i .u8 b)=some (.i .u8 y):=by
 obtain ⟨m,rfl⟩:∃ m:Nat,a=m:=⟨a.toNat,by omega⟩
 obtain ⟨k,rfl⟩:∃ k:Nat,b=k:=⟨b.toNat,by omega⟩
 have hx:=Nat.xor_lt_two_pow (n:=8) (show m<2 ^ 8 by omega) (show k<2 ^ 8 by omega)
 have e:(BitVec.ofInt 8 (m:Int) ^^^ BitVec.ofInt 8 (k:Int)).toNat=m ^^^ k:=by
  rw [BitVec.toNat_xor,BitVec.toNat_ofInt,BitVec.toNat_ofInt]
  congr 1<;>omega
 refine ⟨((m ^^^ k:Nat):Int),by omega,by omega,fun q=>?_, ?_⟩
 ·have q2:m ^^^ k=m:=by omega
  have:=congrArg (m ^^^ ·) q2
  simp only [← Nat.xor_assoc,Nat.xor_self,Nat.zero_xor] at this
  omega
 ·show some (V.i .u8 (IntKind.wrap .u8 ((BitVec.ofInt 8 (m:Int) ^^^ BitVec.ofInt 8 (k:Int)).toNat:Int)))=_
  rw [e,DJ]
  congr 2
  omega
end Go.Ab.T
namespace Go.Ab.T
open Go Go.Ab
set_option maxHeartbeats 2000000
attribute [-go_sem] FO
theorem fA:∀ k:Fin 256,((BitVec.ofInt 8 (k.val:Int) &&& BitVec.ofInt 8 127).toNat:Nat)=k.val % 128:=by decide +kernel
theorem Up {k:Int} (h0:0≤k) (h1:k<256):Bs .and (.i .u8 k) (.i .u8 127)=some (.i .u8 (k % 128)):=by
 obtain ⟨m,rfl⟩:∃ m:Nat,k=m:=⟨k.toNat,by omega⟩
 have h:((BitVec.ofInt 8 (m:Int) &&& BitVec.ofInt 8 127).toNat:Nat)=m % 128:=fA ⟨m,by omega⟩
 show some (V.i .u8 (IntKind.wrap .u8 ((BitVec.ofInt 8 (m:Int) &&& BitVec.ofInt 8 127).toNat:Int)))=_
 rw [h,DJ]
 congr 2
 omega
theorem Sl.b2s {b:Nat} {h:AH} {v:V} {B:List Int} (s:Sl b h 1 v (B.map Aj)):K1 h v=some (.s ⟨(B.map fun z=>UInt8.ofNat z.toNat).toArray⟩):=by
 have hr:=s.rows
 rcases s with ⟨hv,hR⟩ | ⟨id,el,cap,cs,rfl,_⟩
 ·have:B=[]:=List.map_eq_nil_iff.1 hR
  subst this
  rcases hv with rfl | rfl<;>rfl
 ·unfold K1
  simp only [hr,Option.bind_some,IR,Option.map_some]
theorem Hu {A B:List Int} (a:Az A) (b:Az B):(⟨(A.map fun z=>UInt8.ofNat z.toNat).toArray⟩:ByteArray)=⟨(B.map fun z=>UInt8.ofNat z.toNat).toArray⟩↔A=B:=
 ⟨lE a b,fun h=>by rw [h]⟩
theorem kZ {K : Ex → Env → AH → Prop} {e : Env} {b : List Int} {k : Nat} {h : AH} (hb : Az b) (hk : k < b.length) (hL : b.length < 4000000000) (e0 : e 0 = .fl 1 (b.map Aj)) (e4 : e 4 = .i .i64 k) (e5 : e 5 = .i .u64 0) (e6 : e 6 = .i .i64 1)
    (kk:∀ e:Env,e 0=.fl 1 (b.map Aj)→e 4=.i .i64 k→e 5=.i .u64 (El ((b.drop 1).take k) 0)→K (.ex 0) e h):ZC tp (.loop Qu) e h K:=by
 have hll:((b.drop 1).take k).length=k:=by rw [List.length_take,List.length_drop];omega
 have hn:∀ j,1≤j→j≤k→nth ((b.drop 1).take k) (j - 1)=nth b j:=fun j h1 h2=>by
  rw [BX (by omega),BX (by omega),List.getElem_take,List.getElem_drop]
  congr 1;omega
 generalize (b.drop 1).take k=l at *
 refine Ae (fun n' e hh=>∃ (j:Nat) (u:Int),n'=k+1 - j∧hh=h∧e 0=.fl 1 (b.map Aj)∧e 4=.i .i64 k∧e 5=.i .u64 u∧e 6=.i .i64 j∧1≤j∧j≤k+1∧El (l.drop (j - 1)) u=El l 0) ?_ _ _ _ ⟨1,0,rfl,rfl,e0,e4,e5,e6,by omega,by omega,rfl⟩
 clear e0 e4 e5 e6 e
 rintro n' e hh ⟨j,u,rfl,rfl,e0,e4,e5,e6,hj,hi,hz⟩ ih
 have o1:=S0
 rw [Ai Qu.eq_1]
 simp (disch:=omega)only[go_sem, *]
 refine Aa (fun hc=>?_) (fun hc=>?_)
 ·rw [Ax (by omega),El,hn j hj (by omega)] at hz
  have hbi:=hb _ (Bl (L:=b) (j:=j) (by omega))
  have o3:=or8 (u:=u) hbi.1 hbi.2
  have ej:j - 1+1=j:=by omega
  rw [ej] at hz
  clear hn hll
  simp (disch:=omega)only[go_sem, *]
  refine ih _ _ _ ?_ ⟨j+1,IntKind.wrap .u64 (u*256)+nth b j,rfl, ?_⟩
  ·omega
  ·clear ih kk
   simp (disch:=omega)only[go_sem, *]
   all_goals ((repeat' refine And.intro ?_ ?_)<;>first | omega | assumption | (exact congrArg (V.i .u64) o3))
 ·rw [List.drop_eq_nil_of_le (by omega),El] at hz
  simp (disch:=omega)only[go_sem, *]
  refine kk _ ?_ ?_ ?_<;>simp (disch:=omega)only[go_sem, *]
theorem S6 {b:List Int} (hb:Az b):Pf tp YD [.fl 1 (b.map Aj)] (.tup [.i .i64 (Bf b).1,.i .i64 (Bf b).2]):=by
 refine AD aGI (by simp [PL]) fun rp=>?_
 have hL:=rp.head.len
 unfold PL
 by_cases hne:b=[]
 ·subst hne
  simp (disch:=omega)only[go_sem, *]
  exact ⟨rfl,rfl⟩
 ·obtain ⟨k0,r,hbe⟩:∃ k0 r,k0::r=b:=by cases b with | nil=>exact absurd rfl hne | cons k r=>exact ⟨k,r,rfl⟩
  obtain ⟨h0,h1⟩:=hb k0 (by rw [← hbe];exact List.mem_cons_self ..)
  have o1:=Up h0 h1
  have hn:nth b 0=k0:=by rw [← hbe];rfl
  have hlb:b.length=r.length+1:=by rw [← hbe];rfl
  have mt:∀ n,List.take n (b.map Aj)=(b.take n).map Aj:=fun n=>List.map_take.symm
  clear hne
  obtain ⟨k,hk⟩:∃ k:Nat,k0 % 128=k:=⟨(k0 % 128).toNat,by omega⟩
  rw [hk] at o1
  simp (disch:=omega)only[go_sem, *]
  refine Aa (fun hc=>absurd hc (by omega)) (fun _=>?_)
  simp (disch:=omega)only[go_sem, *]
  have hg:Bf b=(if 8<k∨r.length<k then (0,0) else if Am [] (F7 k0 (r.take k))=k0::r.take k then (F7 k0 (r.take k),k+1) else (0,0)):=by
   rw [← hbe,Bf,hk]
   simp
  have bad:8<k∨r.length<k→Bf b=(0,0):=fun q=>by rw [hg,if_pos q]
  refine Aq (fun hc=>?_) (fun hc=>?_)
  ·have e:=bad (.inl (by omega))
   clear bad hg
   simp (disch:=omega)only[go_sem, *]
  ·simp (disch:=omega)only[go_sem, *]
   refine Aa (fun hc2=>?_) (fun hc2=>?_)
   ·have e:=bad (.inr (by omega))
    clear bad hg
    simp (disch:=omega)only[go_sem, *]
   ·rw [if_neg (by omega)] at hg
    have e1:(b.drop 1).take k=r.take k:=by rw [← hbe];rfl
    obtain ⟨T,hT⟩:∃ T,k0::r.take k=T:=⟨_,rfl⟩
    have e2:b.take (k+1)=T:=by rw [← hbe,←hT];rfl
    have hTi:Az T:=by rw [← e2];exact hb.take
    rw [hT] at hg
    have e3:((k:Int)+1).toNat=k+1:=by omega
    clear bad hbe hT
    simp (disch:=omega)only[go_sem, *]
    refine kZ (b:=b) (k:=k) hb (by omega) hL ?_ ?_ ?_ ?_ ?_
    any_goals (simp (disch:=omega)only[go_sem, *];done)
    intro e f0 f4 f5
    simp (disch:=omega)only[go_sem, *]
    refine Aa (fun hc3=>?_) (fun hc3=>?_)
    ·have hnum:F7 k0 (r.take k)=IntKind.wrap .i64 (0 - IntKind.wrap .i64 (El (r.take k) 0)):=if_pos hc3
     rw [hnum] at hg
     clear hnum
     generalize El (r.take k) 0=u at *
     simp (disch:=omega)only[go_sem, *]
     refine Bw (b:=.ns) (B:=[]) (n:=IntKind.wrap .i64 (0 - IntKind.wrap .i64 u)) ?_ (Sl.nil 0 _ _) (by simp) ?_
     ·simp (disch:=omega)only[go_sem, *]
     intro q h2 s2 x2
     have hq:=Sl.b2s (Sl.back (l:=0) s2)
     have hpl:=Ak [] (IntKind.wrap .i64 (0 - IntKind.wrap .i64 u))
     have hpi:=A2 (B:=[]) (fun z hz=>by cases hz) (IntKind.wrap .i64 (0 - IntKind.wrap .i64 u))
     rw [List.length_nil] at hpl
     clear s2 x2
     generalize Am [] (IntKind.wrap .i64 (0 - IntKind.wrap .i64 u))=W at *
     simp (disch:=omega)only[go_sem, *]
     refine Aa (fun hc4=>?_) (fun hc4=>?_)
     ·rw [if_neg (fun q=>hc4 ((Hu hpi hTi).2 q))] at hg
      clear hpi hTi
      simp (disch:=omega)only[go_sem, *]
     ·rw [if_pos ((Hu hpi hTi).1 (Classical.not_not.1 hc4))] at hg
      clear hpi hTi
      simp (disch:=omega)only[go_sem, *]
    ·have hnum:F7 k0 (r.take k)=IntKind.wrap .i64 (El (r.take k) 0):=if_neg (by omega)
     rw [hnum] at hg
     clear hnum
     generalize El (r.take k) 0=u at *
     simp (disch:=omega)only[go_sem, *]
     refine Bw (b:=.ns) (B:=[]) (n:=IntKind.wrap .i64 u) ?_ (Sl.nil 0 _ _) (by simp) ?_
     ·simp (disch:=omega)only[go_sem, *]
     intro q h2 s2 x2
     have hq:=Sl.b2s (Sl.back (l:=0) s2)
     have hpl:=Ak [] (IntKind.wrap .i64 u)
     have hpi:=A2 (B:=[]) (fun z hz=>by cases hz) (IntKind.wrap .i64 u)
     rw [List.length_nil] at hpl
     clear s2 x2
     generalize Am [] (IntKind.wrap .i64 u)=W at *
     simp (disch:=omega)only[go_sem, *]
     refine Aa (fun hc4=>?_) (fun hc4=>?_)
     ·rw [if_neg (fun q=>hc4 ((Hu hpi hTi).2 q))] at hg
      clear hpi hTi
      simp (disch:=omega)only[go_sem, *]
     ·rw [if_pos ((Hu hpi hTi).1 (Classical.not_not.1 hc4))] at hg
      clear hpi hTi
      simp (disch:=omega)only[go_sem, *]
theorem kQ {b:List Int} {m:Int} (hb:Az b) (hm:m≤1000):Pf tp Q8 [.fl 1 (b.map Aj),.i .i64 m] (.tup [.s (ZO (DK b m).1),.i .i64 (DK b m).2]):=by
 refine AD iR (by simp [KH]) fun rp=>?_
 have hL:=rp.head.len
 have hg:=S6 hb
 have hbd:=GB (b:=b)
 unfold KH
 simp (disch:=omega)only[go_sem, *]
 refine Pf.go (hg) (by simp only [go_sem]) fun _=>?_;simp (disch:=omega)only[go_sem, *]
 clear hg
 have mt:∀ n m,List.take m (List.drop n (b.map Aj))=((b.drop n).take m).map Aj:=fun n m=>by rw [List.map_take,List.map_drop]
 have md2:∀ n m,List.drop m (List.take n (b.map Aj))=((b.take n).drop m).map Aj:=fun n m=>by rw [List.map_drop,List.map_take]
 have bad:(Bf b).2=0∨(Bf b).1<0∨m<(Bf b).1∨(b.length:Int) - (Bf b).2<(Bf b).1→DK b m=([],0):=fun q=>if_pos q
 have good:¬ ((Bf b).2=0∨(Bf b).1<0∨m<(Bf b).1∨(b.length:Int) - (Bf b).2<(Bf b).1)→DK b m=((b.drop (Bf b).2).take (Bf b).1.toNat,(Bf b).2+(Bf b).1.toNat):=fun q=>if_neg q
 generalize Bf b=p at *
 obtain ⟨n,k⟩:=p
 simp only at bad good hbd
 simp (disch:=omega)only[go_sem, *]
 refine Aq (fun hc=>?_) (fun hc=>?_)
 ·have e:=bad (.inl (by omega))
  clear bad good
  simp (disch:=omega)only[go_sem, *]
  rfl
 ·simp (disch:=omega)only[go_sem, *]
  refine Aq (fun hc2=>?_) (fun hc2=>?_)
  ·have e:=bad (.inr (.inl hc2))
   clear bad good
   simp (disch:=omega)only[go_sem, *]
   rfl
  ·simp (disch:=omega)only[go_sem, *]
   refine Aq (fun hc3=>?_) (fun hc3=>?_)
   ·have e:=bad (by omega)
    clear bad good
    simp (disch:=omega)only[go_sem, *]
    rfl
   ·simp (disch:=omega)only[go_sem, *]
    refine Aa (fun hc4=>?_) (fun hc4=>?_)
    ·have e:=bad (by omega)
     clear bad good
     simp (disch:=omega)only[go_sem, *]
     rfl
    ·have e:=good (by omega)
     obtain ⟨w,rfl⟩:∃ w:Nat,n=w:=⟨n.toNat,by omega⟩
     have h1:((k:Int)+(w:Int)).toNat=k+w:=by omega
     have h2:k+w - k=w:=by omega
     rw [Int.toNat_natCast] at e
     clear bad good
     simp (disch:=omega)only[go_sem, *]
     rfl
end Go.Ab.T
namespace Go.Ab.T
open Go Go.Ab
set_option maxHeartbeats 2000000
theorem HZ {h:AH} {id:Nat} {s:Rd} {K:V→AH→Prop} (hg:h.get id=some (Br s)) (hb:Az s.b) (hlo:h.lim≤id) (kk:K (.i .i64 (BC s).1) (h.put id (Br (BC s).2))):Cq tp SA [.p id 0 0] h K:=by
 obtain ⟨b,bad⟩:=s
 have hg1:=S6 hb
 have hbd:=GB (b:=b)
 have f1:bad=true∨(Bf b).2=0→BC ⟨b,bad⟩=(0,⟨b,true⟩):=fun q=>if_pos q
 have f2:¬ (bad=true∨(Bf b).2=0)→BC ⟨b,bad⟩=((Bf b).1,⟨b.drop (Bf b).2,bad⟩):=fun q=>if_neg q
 have mk:∀ n,List.drop n (b.map Aj)=(b.drop n).map Aj:=fun n=>List.map_drop.symm
 simp only [Br] at hg
 refine EI aF9 (by simp [Pa]) ((by rw [hg];rfl)) (fun _ _ _=>.cons _ _ _ _ _ (BS.of_stay rfl) (.nil _)) (kk) fun hlm hid rp=>?_;unfold Pa;simp (disch:=omega)only[go_sem, *]
 refine Pf.go (hg1) (by simp only [go_sem]) fun _=>?_;simp (disch:=omega)only[go_sem, *]
 clear hg1
 generalize Bf b=p at *
 obtain ⟨n,k⟩:=p
 simp only at f1 f2 hbd
 have ml:List.take (b.length - k) ((b.drop k).map Aj)=(b.drop k).map Aj:=List.take_of_length_le (by simp)
 cases bad with
 | true=>
  have e:=f1 (.inl rfl)
  clear f1 f2
  simp (disch:=omega)only[go_sem, *]
  exact Bc (EB.same hg)
 | false=>
  simp (disch:=omega)only[go_sem, *]
  refine Aa (fun hc=>?_) (fun hc=>?_)
  ·have e:=f1 (.inr (by omega))
   clear f1 f2
   simp (disch:=omega)only[go_sem, *]
   exact Bc (EB.same hg)
  ·have e:=f2 (by simp;omega)
   clear f1 f2
   simp (disch:=omega)only[go_sem, *]
   exact Bc (EB.same hg)
theorem BA {h:AH} {id:Nat} {s:Rd} {m:Int} {K:V→AH→Prop} (hg:h.get id=some (Br s)) (hb:Az s.b) (hlo:h.lim≤id) (kk:K (.i .i64 (AJ m s).1) (h.put id (Br (AJ m s).2))):Cq tp IW [.p id 0 0,.i .i64 0,.i .i64 m] h K:=by
 have f1:(BC s).1<0∨m<(BC s).1→AJ m s=(0,⟨(BC s).2.b,true⟩):=fun q=>if_pos q
 have f2:¬ ((BC s).1<0∨m<(BC s).1)→AJ m s=BC s:=fun q=>if_neg q
 refine EI aF6 (by simp [O7]) ((by rw [hg];rfl)) (fun _ _ _=>.cons _ _ _ _ _ (BS.of_stay rfl) (.nil _)) (kk) fun hlm hid rp=>?_;unfold O7;simp (disch:=omega)only[go_sem, *]
 refine HZ hg hb hlo ?_
 have hu:=Bc (b':=Br (BC s).2) (EB.same hg)
 simp only [Br] at hu
 generalize BC s=p at *
 obtain ⟨n,b,bad⟩:=p
 simp only at f1 f2 hu
 simp (disch:=omega)only[go_sem, *]
 refine Aq (fun hc=>?_) (fun hc=>?_)
 ·have e:=f1 (.inl hc)
  clear f1 f2
  simp (disch:=omega)only[go_sem, *]
  exact Bc (EB.same hg)
 ·simp (disch:=omega)only[go_sem, *]
  refine Aa (fun hc2=>?_) (fun hc2=>?_)
  ·have e:=f1 (.inr hc2)
   clear f1 f2
   simp (disch:=omega)only[go_sem, *]
   exact Bc (EB.same hg)
  ·have e:=f2 (by omega)
   clear f1 f2
   simp (disch:=omega)only[go_sem, *]
theorem lD {h:AH} {id:Nat} {s:Rd} {m:Int} {K:V→AH→Prop} (hg:h.get id=some (Br s)) (hb:Az s.b) (hm:m≤1000) (hlo:h.lim≤id) (kk:K (.s (DH m s).1) (h.put id (Br (DH m s).2))):Cq tp SH [.p id 0 0,.i .i64 m] h K:=by
 obtain ⟨b,bad⟩:=s
 have hg1:=kQ hb hm
 have hbd:(DK b m).2≤b.length:=by
  have:=GB (b:=b)
  unfold DK
  split
  ·simp
  ·rename_i q
   simp only
   omega
 have f1:bad=true∨(DK b m).2=0→DH m ⟨b,bad⟩=(⟨#[]⟩,⟨b,true⟩):=fun q=>if_pos q
 have f2:¬ (bad=true∨(DK b m).2=0)→DH m ⟨b,bad⟩=(ZO (DK b m).1,⟨b.drop (DK b m).2,bad⟩):=fun q=>if_neg q
 have mk:∀ n,List.drop n (b.map Aj)=(b.drop n).map Aj:=fun n=>List.map_drop.symm
 simp only [Br] at hg
 refine EI aGH (by simp [PK]) ((by rw [hg];rfl)) (fun _ _ _=>.cons _ _ _ _ _ (BS.of_stay rfl) (.nil _)) (kk) fun hlm hid rp=>?_;unfold PK;simp (disch:=omega)only[go_sem, *]
 refine Pf.go (hg1) (by simp only [go_sem]) fun _=>?_;simp (disch:=omega)only[go_sem, *]
 clear hg1
 generalize DK b m=p at *
 obtain ⟨n,k⟩:=p
 simp only at f1 f2 hbd
 have ml:List.take (b.length - k) ((b.drop k).map Aj)=(b.drop k).map Aj:=List.take_of_length_le (by simp)
 cases bad with
 | true=>
  have e:=f1 (.inl rfl)
  clear f1 f2
  simp (disch:=omega)only[go_sem, *]
  exact Bc (EB.same hg)
 | false=>
  simp (disch:=omega)only[go_sem, *]
  refine Aa (fun hc=>?_) (fun hc=>?_)
  ·have e:=f1 (.inr (by omega))
   clear f1 f2
   simp (disch:=omega)only[go_sem, *]
   exact Bc (EB.same hg)
  ·have e:=f2 (by simp;omega)
   clear f1 f2
   simp (disch:=omega)only[go_sem, *]
   exact Bc (EB.same hg)
theorem Zr {h:AH} {id:Nat} {s:Rd} {K:V→AH→Prop} (hg:h.get id=some (Br s)) (hL:s.b.length<4000000000) (kk:K (.b (!s.bad&&decide ((s.b.length:Int)=0))) h):Cq tp Yg [.p id 0 0] h K:=by
 obtain ⟨b,bad⟩:=s
 simp only [Br] at hg
 simp only at hL
 refine LX aGa (by simp [Pb]) (kk) fun hlm rp=>?_;unfold Pb;simp (disch:=omega)only[go_sem, *]
 clear kk
 cases bad with
 | true=>
  simp (disch:=omega)only[go_sem, *]
  (repeat (first | exact AK.refl _ | refine AK.alloc ?_ _ | (refine AK.put ?_ _ _ ?_;rotate_left;(first | omega | (simp only [Ag,AB];omega)))))
 | false=>
  simp (disch:=omega)only[go_sem, *]
  (repeat (first | exact AK.refl _ | refine AK.alloc ?_ _ | (refine AK.put ?_ _ _ ?_;rotate_left;(first | omega | (simp only [Ag,AB];omega)))))
theorem Ze {B:List Int} (h:4≤B.length):(BL (B.take (B.length - 4))=B↔CQ (Dp (B.take (B.length - 4)))=B.drop (B.length - 4)):=by
 have hs:BL (B.take (B.length - 4))=B.take (B.length - 4)++CQ (Dp (B.take (B.length - 4))):=rfl
 rw [hs]
 constructor
 ·intro e
  exact List.append_cancel_left (e.trans (List.take_append_drop (B.length - 4) B).symm)
 ·intro e
  rw [e,List.take_append_drop]
theorem Zz {B:List Int} (hB:Az B) (hl:B.length<2500000):Pf tp Ye [.fl 1 (B.map Aj)] (.tup [.fl 1 ((A6 B).1.map Aj),.b (A6 B).2]):=by
 refine AD aF5 (by simp [O6]) fun rp=>?_;unfold O6;simp (disch:=omega)only[go_sem, *]
 have mt:∀ n,List.take n (B.map Aj)=(B.take n).map Aj:=fun n=>List.map_take.symm
 refine Aq (fun hc=>?_) (fun hc=>?_)
 ·have e:A6 B=([],false):=if_neg (by omega)
  simp (disch:=omega)only[go_sem, *]
 ·have et:((B.length:Int) - 4).toNat=B.length - 4:=by omega
  simp (disch:=omega)only[go_sem, *]
  refine Pf.go (GP (B:=B.take (B.length - 4)) (by rw [List.length_take];omega)) (by simp only [go_sem]) fun _=>?_;simp (disch:=omega)only[go_sem, *]
  have hu:=Hu (FC (hB.take (n:=B.length - 4))) hB
  have he:=Ze (B:=B) (by omega)
  refine Aa (fun hc2=>?_) (fun hc2=>?_)
  ·have e:A6 B=([],false):=if_neg (fun q=>hc2 (hu.2 (he.2 q.2)))
   clear hc2 hu he
   simp (disch:=omega)only[go_sem, *]
  ·have e:A6 B=(B.take (B.length - 4),true):=if_pos ⟨by omega,he.1 (hu.1 (Classical.not_not.1 hc2))⟩
   clear hc2 hu he
   simp (disch:=omega)only[go_sem, *]
   refine Ao (N:=(B.take (B.length - 4)).map Aj) (Sl.nil' 0 _ 1) (by simp (disch:=omega)only[go_sem, *]) (by simp (disch:=omega)only[go_sem, *]) (by simp;omega) ?_
   intro w h4 s4 g4
   clear g4
   simp (disch:=omega)only[go_sem, *]
   exact Sl.froze (by simpa using s4) (fun _=>rfl) trivial (by rw [List.length_take];omega)
end Go.Ab.T
namespace Go.Ab.T
open Go Go.Ab
set_option maxHeartbeats 4000000
theorem ZE {K : Ex → Env → AH → Prop} {e : Env} {h hh : AH} {id n : Nat} {s : Rd} {P : List AO × Rd} {r0 : List V} {a b c d f g0 g1 g2 g3 g4 : V} (hid : id < h.next) (hlo : h.lim ≤ id) (hn : n ≤ 3) (hP : Cv n [] s = P) (hb : Az s.b)
    (l0:hh.lim=h.lim) (n0:h.next+2≤hh.next) (q0:hh.get id=some (Br s)) (q1:hh.get h.next=some ⟨11,[r0]⟩) (q2:hh.get (h.next+1)=some ⟨11,[[a,b,c,d,f,.ns,g0,g1,g2,g3,g4]]⟩) (fr:∀ j,j<h.next→j≠id→hh.get j=h.get j)
    (e0:e 0=.p id 0 0) (e2:e 2=.p h.next 0 0) (e3:e 3=.p (h.next+1) 0 0) (e4:e 4=.i .i64 n)
    (kk:∀ (e:Env) (hh:AH) (v:V),hh.lim=h.lim→h.next+2≤hh.next→hh.get id=some (Br P.2)→Az P.2.b→hh.get h.next=some ⟨11,[r0]⟩→hh.get (h.next+1)=some ⟨11,[[a,b,c,d,f,v,g0,g1,g2,g3,g4]]⟩→(∀ j,j<h.next→j≠id→hh.get j=h.get j)→Sl (h.next+2) hh 2 v (P.1.map AO.enc)→P.1.length≤3→e 0=.p id 0 0→e 2=.p h.next 0 0→e 3=.p (h.next+1) 0 0→K (.ex 0) e hh):ZC tp (.loop Qr) e hh K:=by
 refine Ae (fun n' e hh=>∃ (i:Nat) (v:V) (A:List AO) (s:Rd),n'=i∧hh.lim=h.lim∧h.next+2≤hh.next∧hh.get id=some (Br s)∧Az s.b∧hh.get h.next=some ⟨11,[r0]⟩∧hh.get (h.next+1)=some ⟨11,[[a,b,c,d,f,v,g0,g1,g2,g3,g4]]⟩∧(∀ j,j<h.next→j≠id→hh.get j=h.get j)∧Sl (h.next+2) hh 2 v (A.map AO.enc)∧A.length+i=n∧Cv i A s=P∧e 0=.p id 0 0∧e 2=.p h.next 0 0∧e 3=.p (h.next+1) 0 0∧e 4=.i .i64 i) ?_ _ _ _ ⟨n,.ns,[],s,rfl,l0,n0,q0,hb,q1,q2,fr,Sl.nil _ _ _,by simp,hP,e0,e2,e3,e4⟩
 clear l0 n0 q0 q1 q2 fr e0 e2 e3 e4 e hh hb hP s
 rintro n' e hh ⟨i,v,A,s,hn0,l0,n0,q0,hb,q1,q2,fr,sl,hA,hP,e0,e2,e3,e4⟩ ih
 have hsv:=Sl.sameV sl
 have hown:=As sl
 obtain ⟨wlen,wbig,wlt,wlo,wget,FF,wrow,wcell,wcells⟩:=sl.facts
 clear wlt wlo wget FF wrow
 rw [Ai Qr.eq_1]
 simp (disch:=omega)only[go_sem, *]
 refine Aa (fun hc=>?_) (fun hc=>?_)
 ·have hni:i=(i - 1)+1:=by omega
  rw [hni,Cv] at hP
  have hcm:(i:Int) - 1=((i - 1:Nat):Int):=by omega
  clear hni
  have b1:=hb.cnt (m:=512)
  have b2:=b1.cnt (m:=255)
  simp (disch:=omega)only[go_sem, *]
  refine BA (s:=s) (m:=512) ?_ hb ?_ ?_
  ·simp (disch:=omega)only[go_sem, *]
  ·simp (disch:=omega)only[go_sem, *]
  generalize AJ 512 s=t1 at *
  have q0':(hh.put id (Br t1.2)).get id=some (Br t1.2):=by rw [Ad,AC rfl]
  simp (disch:=omega)only[go_sem, *]
  refine BA (s:=t1.2) (m:=255) ?_ b1 ?_ ?_
  ·simp (disch:=omega)only[go_sem, *]
  ·simp (disch:=omega)only[go_sem, *]
  generalize AJ 255 t1.2=t2 at *
  have sl2:=AA sl id (Br t2.2) (hown.imp (fun x=>x) (fun x=>by omega))
  simp only [Br] at sl2
  simp (disch:=omega)only[go_sem, *]
  refine Ao (N:=[AO.enc ⟨t1.1,t2.1⟩]) (Sl.alloc sl2 ⟨2,[AO.enc ⟨t1.1,t2.1⟩]⟩) ?_ ?_ ?_ ?_
  ·rw [AG,CU];omega
  ·rw [Ag,AB];omega
  ·simp;omega
  intro w h4 s4 g4
  have hl4:=g4.lim
  have hn4:=g4.next
  have lo4:∀ j,j<h.next+2→h4.get j=if j=id then some (Br t2.2) else hh.get j:=fun j hj=>by
   rw [g4.low j hj,AL,Ac (by rw [AB];omega),Ad]
   by_cases hq:j=id
   ·rw [AC hq,if_pos hq];rfl
   ·rw [Ac hq,if_neg hq]
  have s5:Sl (h.next+2) h4 2 w ((A++[(⟨t1.1,t2.1⟩:AO)]).map AO.enc):=by simpa using s4
  rw [AG,CU] at hl4
  rw [Ag,AB] at hn4
  have p0:=lo4 id (by omega)
  rw [if_pos rfl] at p0
  have p1:=lo4 h.next (by omega)
  rw [if_neg (by omega),q1] at p1
  have p2:=lo4 (h.next+1) (by omega)
  rw [if_neg (by omega),q2] at p2
  have fr4:∀ j,j<h.next→j≠id→h4.get j=h.get j:=fun j hj hne=>by rw [lo4 j (by omega),if_neg hne];exact fr j hj hne
  obtain ⟨_,_,_,_,_,_,_,xc1,xc2⟩:=s5.facts
  have so5:=As s5
  clear s4 g4 sl2 sl lo4 q0 q0' q1 q2 fr hsv wlen wbig wcell wcells
  simp (disch:=omega)only[go_sem, *]
  have s6:=AA s5 (h.next+1) ⟨11,[[a,b,c,d,f,w,g0,g1,g2,g3,g4]]⟩ (so5.imp (fun x=>x) (fun x=>by omega))
  refine ih _ _ _ ?_ ⟨i - 1,w,A++[⟨t1.1,t2.1⟩],t2.2,rfl, ?_⟩
  ·omega
  ·clear ih kk s5
   simp (disch:=omega)only[go_sem, *]
   all_goals ((repeat' refine And.intro ?_ ?_)<;>first | omega | assumption | (exact s6) | (exact b2) | ((simp;omega)) | (exact hP) | ((intro j hj hne;rw [Ac (by omega)];exact fr4 j hj hne)))
 ·have h0:i=0:=by omega
  rw [h0,Cv] at hP
  subst hP
  simp (disch:=omega)only[go_sem, *]
  exact kk _ _ v l0 n0 q0 hb q1 q2 fr sl (show A.length≤3 by omega) e0 e2 e3
theorem UA {h:AH} {id:Nat} {s:Rd} {K:V→AH→Prop} (hg:h.get id=some (Br s)) (hb:Az s.b) (hlo:h.lim≤id) (kk:K (.agg (C7 s).1.enc) (h.put id (Br (C7 s).2))):Cq tp Sy [.p id 0 0] h K:=by
 refine EI aF7 (by simp [O8]) ((by rw [hg];rfl)) (fun _ _ _=>.cons _ _ _ _ _ (BS.of_stay rfl) (.nil _)) (kk) fun hlm hid rp=>?_;unfold O8;simp (disch:=omega)only[go_sem, *]
 clear kk
 have hgf:h.get id=some ⟨2,[[.fl 1 (s.b.map Aj),.b s.bad]]⟩:=hg
 have hun:=hid
 refine lD (s:=s) (m:=12) ?_ hb (by omega) ?_ ?_
 ·simp (disch:=omega)only[go_sem, *]
 ·simp (disch:=omega)only[go_sem, *]
 have b1:=hb.text (m:=12)
 obtain ⟨t1,ht1⟩:∃ x,DH 12 s=x:=⟨_,rfl⟩
 rw [ht1] at b1 ⊢
 simp (disch:=omega)only[go_sem, *]
 refine HZ (s:=t1.2) ?_ b1 ?_ ?_
 ·simp (disch:=omega)only[go_sem, *]
 ·simp (disch:=omega)only[go_sem, *]
 have b2:=b1.num
 obtain ⟨t2,ht2⟩:∃ x,BC t1.2=x:=⟨_,rfl⟩
 rw [ht2] at b2 ⊢
 simp (disch:=omega)only[go_sem, *]
 refine HZ (s:=t2.2) ?_ b2 ?_ ?_
 ·simp (disch:=omega)only[go_sem, *]
 ·simp (disch:=omega)only[go_sem, *]
 have b3:Az (BC t2.2).2.b:=by first | exact Az.num b2 | exact Az.flag b2 | exact Az.cnt b2
 obtain ⟨t3,ht3⟩:∃ x,BC t2.2=x:=⟨_,rfl⟩
 rw [ht3] at b3 ⊢
 simp (disch:=omega)only[go_sem, *]
 refine BA (s:=t3.2) ?_ b3 ?_ ?_
 ·simp (disch:=omega)only[go_sem, *]
 ·simp (disch:=omega)only[go_sem, *]
 have b4:Az (AJ 1 t3.2).2.b:=by first | exact Az.num b3 | exact Az.flag b3 | exact Az.cnt b3
 obtain ⟨t4,ht4⟩:∃ x,AJ 1 t3.2=x:=⟨_,rfl⟩
 rw [ht4] at b4 ⊢
 simp (disch:=omega)only[go_sem, *]
 refine BA (s:=t4.2) ?_ b4 ?_ ?_
 ·simp (disch:=omega)only[go_sem, *]
 ·simp (disch:=omega)only[go_sem, *]
 have b5:Az (AJ 1 t4.2).2.b:=by first | exact Az.num b4 | exact Az.flag b4 | exact Az.cnt b4
 obtain ⟨t5,ht5⟩:∃ x,AJ 1 t4.2=x:=⟨_,rfl⟩
 rw [ht5] at b5 ⊢
 simp (disch:=omega)only[go_sem, *]
 refine BA (s:=t5.2) ?_ b5 ?_ ?_
 ·simp (disch:=omega)only[go_sem, *]
 ·simp (disch:=omega)only[go_sem, *]
 have b6:Az (AJ 3 t5.2).2.b:=by first | exact Az.num b5 | exact Az.flag b5 | exact Az.cnt b5
 obtain ⟨t6,ht6⟩:∃ x,AJ 3 t5.2=x:=⟨_,rfl⟩
 rw [ht6] at b6 ⊢
 have c6:0≤t6.1∧t6.1≤3:=by rw [← ht6];exact Fe (by omega)
 obtain ⟨n6,hn6⟩:∃ n:Nat,t6.1=n:=⟨t6.1.toNat,by omega⟩
 obtain ⟨t7,ht7⟩:∃ x,Cv n6 [] t6.2=x:=⟨_,rfl⟩
 simp (disch:=omega)only[go_sem, *]
 refine ZE (h:=h) (id:=id) (n:=n6) (s:=t6.2) (P:=t7) (r0:=[.s ⟨#[]⟩,.i .i64 0,.i .i64 0,.b false,.b false,.ns,.i .i64 0,.i .i64 0,.i .i64 0,.i .i64 0,.i .i64 0]) (a:=.s t1.1) (b:=.i .i64 t2.1) (c:=.i .i64 t3.1) (d:=.b (decide (t4.1=1))) (f:=.b (decide (t5.1=1))) (g0:=.i .i64 0) (g1:=.i .i64 0) (g2:=.i .i64 0) (g3:=.i .i64 0) (g4:=.i .i64 0) hid hlo (by omega) ht7 b6 ?_ ?_ ?_ ?_ ?_ ?_ ?_ ?_ ?_ ?_ ?_
 any_goals (simp (disch:=omega)only[go_sem, *];done)
 try (any_goals (simp (disch:=omega)only[go_sem, *]<;>omega))
 ·intro j hj hne
  simp (disch:=omega)only[go_sem, *]
 clear b1 b2 b3 b4 b5 b6 hg hgf c6
 intro e hh v l0 n0 q0 b7 q1 q2 fr sl hpl e0 e2 e3
 simp only [Br] at q0
 have hown:=As sl
 obtain ⟨_,_,_,_,_,_,_,wc1,wc2⟩:=sl.facts
 simp (disch:=omega)only[go_sem, *]
 refine Bb ?_
 rw [Ai G5.eq_1]
 simp (disch:=omega)only[go_sem, *]
 refine BA (s:=t7.2) ?_ b7 ?_ ?_
 ·simp (disch:=omega)only[go_sem, *]
 ·simp (disch:=omega)only[go_sem, *]
 have b8:Az (AJ 2 t7.2).2.b:=by first | exact Az.num b7 | exact Az.flag b7 | exact Az.cnt b7
 obtain ⟨t8,ht8⟩:∃ x,AJ 2 t7.2=x:=⟨_,rfl⟩
 rw [ht8] at b8 ⊢
 simp (disch:=omega)only[go_sem, *]
 refine Bb ?_
 rw [Ai G5.eq_1]
 simp (disch:=omega)only[go_sem, *]
 refine BA (s:=t8.2) ?_ b8 ?_ ?_
 ·simp (disch:=omega)only[go_sem, *]
 ·simp (disch:=omega)only[go_sem, *]
 have b9:Az (AJ 2 t8.2).2.b:=by first | exact Az.num b8 | exact Az.flag b8 | exact Az.cnt b8
 obtain ⟨t9,ht9⟩:∃ x,AJ 2 t8.2=x:=⟨_,rfl⟩
 rw [ht9] at b9 ⊢
 simp (disch:=omega)only[go_sem, *]
 refine Bb ?_
 rw [Ai G5.eq_1]
 simp (disch:=omega)only[go_sem, *]
 refine BA (s:=t9.2) ?_ b9 ?_ ?_
 ·simp (disch:=omega)only[go_sem, *]
 ·simp (disch:=omega)only[go_sem, *]
 have b10:Az (AJ 2 t9.2).2.b:=by first | exact Az.num b9 | exact Az.flag b9 | exact Az.cnt b9
 obtain ⟨t10,ht10⟩:∃ x,AJ 2 t9.2=x:=⟨_,rfl⟩
 rw [ht10] at b10 ⊢
 simp (disch:=omega)only[go_sem, *]
 refine Bb ?_
 rw [Ai G5.eq_1]
 simp (disch:=omega)only[go_sem, *]
 refine BA (s:=t10.2) ?_ b10 ?_ ?_
 ·simp (disch:=omega)only[go_sem, *]
 ·simp (disch:=omega)only[go_sem, *]
 have b11:Az (AJ 2 t10.2).2.b:=by first | exact Az.num b10 | exact Az.flag b10 | exact Az.cnt b10
 obtain ⟨t11,ht11⟩:∃ x,AJ 2 t10.2=x:=⟨_,rfl⟩
 rw [ht11] at b11 ⊢
 simp (disch:=omega)only[go_sem, *]
 refine Bb ?_
 rw [Ai G5.eq_1]
 simp (disch:=omega)only[go_sem, *]
 refine BA (s:=t11.2) ?_ b11 ?_ ?_
 ·simp (disch:=omega)only[go_sem, *]
 ·simp (disch:=omega)only[go_sem, *]
 have b12:Az (AJ 2 t11.2).2.b:=by first | exact Az.num b11 | exact Az.flag b11 | exact Az.cnt b11
 obtain ⟨t12,ht12⟩:∃ x,AJ 2 t11.2=x:=⟨_,rfl⟩
 rw [ht12] at b12 ⊢
 simp (disch:=omega)only[go_sem, *]
 have hps:C7 s=(⟨t1.1,t2.1,t3.1,decide (t4.1=1),decide (t5.1=1),t7.1,t8.1,t9.1,t10.1,t11.1,t12.1⟩,t12.2):=by
  unfold C7
  simp only [Dy,ht1,ht2,ht3,ht4,ht5,ht6,hn6,Int.toNat_natCast,ht7,ht8,ht9,ht10,ht11,ht12]
 refine Bb ?_
 rw [Ai G5.eq_1]
 clear ht1 ht2 ht3 ht4 ht5 ht6 ht7 ht8 ht9 ht10 ht11 ht12
 have key:∀ (H:AH) (k:BV),H.next=hh.next→H.lim=hh.lim→(∀ j,h.next+2≤j→H.get j=hh.get j)→H.get id=some k→(∀ j,j<h.next→j≠id→H.get j=hh.get j)→Cz (fun x=>h.next≤x) H h.next v (.fl 2 (t7.1.map AO.enc))∧EB h id k H:=by
  intro H k k1 k2 k3 k4 k5
  have sl':Sl (h.next+2) H 2 v (t7.1.map AO.enc):=by
   rcases hown with q | q
   ·rcases sl with ⟨a,b⟩ | ⟨_,_,_,_,rfl,_⟩
    ·exact .inl ⟨a,b⟩
    ·cases q
   ·exact sl.same (by omega) (fun _=>k3 _ q)
  exact ⟨Sl.frzb (Sl.weak sl' (Nat.le_add_right _ _)) (fun _=>rfl) (by omega),⟨by omega,by omega,k4,fun j hj hne=>by rw [k5 j hj hne];exact fr j hj hne⟩⟩
 clear hown sl fr
 simp (disch:=omega)only[go_sem, *]
 refine key _ _ ?_ ?_ ?_ ?_ ?_
 ·simp (disch:=omega)only[go_sem, *]
 ·simp (disch:=omega)only[go_sem, *]
 ·intro j hj;simp (disch:=omega)only[go_sem, *]
 ·simp (disch:=omega)only[go_sem, *]
 ·intro j hj hne;simp (disch:=omega)only[go_sem, *]
end Go.Ab.T
namespace Go.Ab.T
open Go Go.Ab
set_option maxHeartbeats 4000000
theorem Uz {h:AH} {id:Nat} {s:Rd} {K:V→AH→Prop} (hg:h.get id=some (Br s)) (hb:Az s.b) (hlo:h.lim≤id) (kk:K (.agg (Et s).1.enc) (h.put id (Br (Et s).2))):Cq tp Sz [.p id 0 0] h K:=by
 refine EI aF8 (by simp [O9]) ((by rw [hg];rfl)) (fun _ _ _=>.cons _ _ _ _ _ (BS.of_stay rfl) (.nil _)) (kk) fun hlm hid rp=>?_;unfold O9;simp (disch:=omega)only[go_sem, *]
 clear kk
 have hgf:h.get id=some ⟨2,[[.fl 1 (s.b.map Aj),.b s.bad]]⟩:=hg
 try simp (disch:=omega)only[go_sem, *]
 refine BA (s:=s) ?_ hb ?_ ?_
 ·simp (disch:=omega)only[go_sem, *]
 ·simp (disch:=omega)only[go_sem, *]<;>omega
 have b1:Az (AJ 6 s).2.b:=by first | exact Az.num hb | exact Az.flag hb | exact Az.cnt hb
 obtain ⟨t1,ht1⟩:∃ x,AJ 6 s=x:=⟨_,rfl⟩
 rw [ht1] at b1 ⊢
 try simp (disch:=omega)only[go_sem, *]
 refine BA (s:=t1.2) ?_ b1 ?_ ?_
 ·simp (disch:=omega)only[go_sem, *]
 ·simp (disch:=omega)only[go_sem, *]<;>omega
 have b2:Az (AJ 6 t1.2).2.b:=by first | exact Az.num b1 | exact Az.flag b1 | exact Az.cnt b1
 obtain ⟨t2,ht2⟩:∃ x,AJ 6 t1.2=x:=⟨_,rfl⟩
 rw [ht2] at b2 ⊢
 try simp (disch:=omega)only[go_sem, *]
 refine BA (s:=t2.2) ?_ b2 ?_ ?_
 ·simp (disch:=omega)only[go_sem, *]
 ·simp (disch:=omega)only[go_sem, *]<;>omega
 have b3:Az (AJ 1 t2.2).2.b:=by first | exact Az.num b2 | exact Az.flag b2 | exact Az.cnt b2
 obtain ⟨t3,ht3⟩:∃ x,AJ 1 t2.2=x:=⟨_,rfl⟩
 rw [ht3] at b3 ⊢
 try simp (disch:=omega)only[go_sem, *]
 refine BA (s:=t3.2) ?_ b3 ?_ ?_
 ·simp (disch:=omega)only[go_sem, *]
 ·simp (disch:=omega)only[go_sem, *]<;>omega
 have b4:Az (AJ 8 t3.2).2.b:=by first | exact Az.num b3 | exact Az.flag b3 | exact Az.cnt b3
 obtain ⟨t4,ht4⟩:∃ x,AJ 8 t3.2=x:=⟨_,rfl⟩
 rw [ht4] at b4 ⊢
 try simp (disch:=omega)only[go_sem, *]
 refine BA (s:=t4.2) ?_ b4 ?_ ?_
 ·simp (disch:=omega)only[go_sem, *]
 ·simp (disch:=omega)only[go_sem, *]<;>omega
 have b5:Az (AJ 4294967295 t4.2).2.b:=by first | exact Az.num b4 | exact Az.flag b4 | exact Az.cnt b4
 obtain ⟨t5,ht5⟩:∃ x,AJ 4294967295 t4.2=x:=⟨_,rfl⟩
 rw [ht5] at b5 ⊢
 try simp (disch:=omega)only[go_sem, *]
 refine HZ (s:=t5.2) ?_ b5 ?_ ?_
 ·simp (disch:=omega)only[go_sem, *]
 ·simp (disch:=omega)only[go_sem, *]<;>omega
 have b6:Az (BC t5.2).2.b:=by first | exact Az.num b5 | exact Az.flag b5 | exact Az.cnt b5
 obtain ⟨t6,ht6⟩:∃ x,BC t5.2=x:=⟨_,rfl⟩
 rw [ht6] at b6 ⊢
 have hch:Et s=(⟨t1.1,t2.1,decide (t3.1=1),t4.1,IntKind.wrap .u32 t5.1,t6.1⟩,t6.2):=by
  unfold Et
  simp only [Dy,ht1,ht2,ht3,ht4,ht5,ht6]
 clear ht1 ht2 ht3 ht4 ht5 ht6 hg hgf b1 b2 b3 b4 b5 b6
 simp (disch:=omega)only[go_sem, *]
 refine ⟨?_, ?_, ?_, ?_⟩
 ·simp (disch:=omega)only[go_sem, *]<;>omega
 ·simp (disch:=omega)only[go_sem, *]
 ·simp (disch:=omega)only[go_sem, *]
 ·intro j hj hne;simp (disch:=omega)only[go_sem, *]
end Go.Ab.T
namespace Go.Ab.T
open Go Go.Ab
set_option maxHeartbeats 4000000
theorem ZG {K : Ex → Env → AH → Prop} {e : Env} {h hh : AH} {id bx n : Nat} {s : Rd} {P : List Part × Rd} {v0 v2 : V} (hlo : h.lim ≤ id) (hlb : h.lim ≤ bx) (hn : n ≤ 6) (hP : Cu n [] s = P) (rs : RS h id bx s [.ns, .ns, .ns] hh)
    (e0:e 0=v0) (e2:e 2=v2) (e6:e 6=.p bx 0 0) (e7:e 7=.p id 0 0) (e8:e 8=.i .i64 n)
    (kk:∀ (e:Env) (hh:AH) (v:V),RS h id bx P.2 [v,.ns,.ns] hh→Sl h.next hh 11 v (P.1.map Part.enc)→P.1.length≤6→e 0=v0→e 2=v2→e 6=.p bx 0 0→e 7=.p id 0 0→K (.ex 0) e hh):ZC tp (.loop Qh) e hh K:=by
 refine Ae (fun n' e hh=>∃ (i:Nat) (v:V) (A:List Part) (s:Rd),n'=i∧RS h id bx s [v,.ns,.ns] hh∧Sl h.next hh 11 v (A.map Part.enc)∧A.length+i=n∧Cu i A s=P∧e 0=v0∧e 2=v2∧e 6=.p bx 0 0∧e 7=.p id 0 0∧e 8=.i .i64 i) ?_ _ _ _ ⟨n,.ns,[],s,rfl,rs,Sl.nil _ _ _,by simp,hP,e0,e2,e6,e7,e8⟩
 clear rs e0 e2 e6 e7 e8 e hh hP s
 rintro n' e hh ⟨i,v,A,s,hn0,rs,sl,hA,hP,e0,e2,e6,e7,e8⟩ ih
 have rs0:=rs
 obtain ⟨i1,i2,i3,l0,n0,q0,hb,q2,fr⟩:=rs
 have hsv:=Sl.sameV sl
 have hown:=As sl
 rw [Ai Qh.eq_1]
 simp (disch:=omega)only[go_sem, *]
 refine Aa (fun hc=>?_) (fun hc=>?_)
 ·have hni:i=(i - 1)+1:=by omega
  rw [hni,Cu] at hP
  have hcm:(i:Int) - 1=((i - 1:Nat):Int):=by omega
  clear hni
  have b1:Az (C7 s).2.b:=hb.part
  simp (disch:=omega)only[go_sem, *]
  refine UA (s:=s) ?_ hb ?_ ?_
  ·simp (disch:=omega)only[go_sem, *]
  ·simp (disch:=omega)only[go_sem, *]
  generalize C7 s=t at *
  obtain ⟨p,s2⟩:=t
  simp only at hP b1 ⊢
  have sl2:=AA sl id (Br s2) (hown.imp (fun x=>x) (fun x=>by omega))
  have rs2:=rs0.put b1
  have hen:p.enc=[.s p.name,.i .i64 p.budget,.i .i64 p.period,.b p.sched,.b p.stop,.fl 2 (p.procs.map AO.enc),.i .i64 p.h0,.i .i64 p.h1,.i .i64 p.h2,.i .i64 p.h3,.i .i64 p.h4]:=rfl
  simp only [Br] at sl2 rs2
  simp (disch:=omega)only[go_sem, *]
  clear l0 n0 q0 q2 fr rs0 hsv i1 i2 i3
  refine Ao (N:=[Part.enc p]) (Sl.alloc sl2 ⟨11,[Part.enc p]⟩) ?_ ?_ ?_ ?_
  ·rw [AG];have:=rs2.lim;have:=rs2.i1;omega
  ·rw [Ag];have:=rs2.next;omega
  ·simp;omega
  intro w h4 s4 g4
  have rs5:=(rs2.new (k:=⟨11,[Part.enc p]⟩)).app g4
  have s5:Sl h.next h4 11 w ((A++[p]).map Part.enc):=by simpa using s4
  have so5:=As s5
  obtain ⟨_,_,_,_,_,_,_,xc1,xc2⟩:=s5.facts
  clear s4 g4 sl2 rs2
  obtain ⟨i1,i2,i3,l0,n0,q0,_,q2,_⟩:=rs5
  simp only [Br] at q0
  simp (disch:=omega)only[go_sem, *]
  refine ih _ _ _ ?_ ⟨i - 1,w,A++[p],s2,rfl,RS.box (row:=[v,.ns,.ns]) ⟨i1,i2,i3,l0,n0,q0,b1,q2,by assumption⟩,AA s5 bx _ (so5.imp (fun x=>x) (fun x=>by omega)),by simp;omega,hP, ?_⟩
  ·omega
  ·clear ih kk s5
   simp (disch:=omega)only[go_sem, *]
 ·have h0:i=0:=by omega
  rw [h0,Cu] at hP
  subst hP
  simp (disch:=omega)only[go_sem, *]
  exact kk _ _ v ⟨i1,i2,i3,l0,n0,q0,hb,q2,fr⟩ sl (show A.length≤6 by omega) e0 e2 e6 e7
theorem ZH {K : Ex → Env → AH → Prop} {e : Env} {h hh : AH} {id bx n : Nat} {s : Rd} {P : List Ar × Rd} {v0 v2 a : V} (hlo : h.lim ≤ id) (hlb : h.lim ≤ bx) (hn : n ≤ 8) (hP : Co n [] s = P) (rs : RS h id bx s [a, .ns, .ns] hh)
    (e0:e 0=v0) (e2:e 2=v2) (e6:e 6=.p bx 0 0) (e7:e 7=.p id 0 0) (e9:e 9=.i .i64 n)
    (kk:∀ (e:Env) (hh:AH) (v:V),RS h id bx P.2 [a,v,.ns] hh→Sl h.next hh 6 v (P.1.map Ar.enc)→P.1.length≤8→e 0=v0→e 2=v2→e 6=.p bx 0 0→e 7=.p id 0 0→K (.ex 2) e hh):ZC tp (.loop Qi) e hh K:=by
 refine Ae (fun n' e hh=>∃ (i:Nat) (v:V) (A:List Ar) (s:Rd),n'=i∧RS h id bx s [a,v,.ns] hh∧Sl h.next hh 6 v (A.map Ar.enc)∧A.length+i=n∧Co i A s=P∧e 0=v0∧e 2=v2∧e 6=.p bx 0 0∧e 7=.p id 0 0∧e 9=.i .i64 i) ?_ _ _ _ ⟨n,.ns,[],s,rfl,rs,Sl.nil _ _ _,by simp,hP,e0,e2,e6,e7,e9⟩
 clear rs e0 e2 e6 e7 e9 e hh hP s
 rintro n' e hh ⟨i,v,A,s,hn0,rs,sl,hA,hP,e0,e2,e6,e7,e9⟩ ih
 have rs0:=rs
 obtain ⟨i1,i2,i3,l0,n0,q0,hb,q2,fr⟩:=rs
 have hown:=As sl
 have hsv:=Sl.sameV sl
 simp only [Br] at q0
 rw [Ai Qi.eq_1]
 simp (disch:=omega)only[go_sem, *]
 refine Aa (fun hc=>?_) (fun hc=>?_)
 ·have hni:i=(i - 1)+1:=by omega
  rw [hni,Co] at hP
  have hcm:(i:Int) - 1=((i - 1:Nat):Int):=by omega
  clear hni
  have b1:Az (Et s).2.b:=hb.chan
  simp (disch:=omega)only[go_sem, *]
  refine Uz (s:=s) ?_ hb ?_ ?_
  ·simp (disch:=omega)only[go_sem, *]
  ·simp (disch:=omega)only[go_sem, *]
  generalize Et s=t at *
  obtain ⟨p,s2⟩:=t
  simp only at hP b1 ⊢
  have sl2:=AA sl id (Br s2) (hown.imp (fun x=>x) (fun x=>by omega))
  have rs2:=rs0.put b1
  have hen:p.enc=[.i .i64 p.src,.i .i64 p.dst,.b p.queue,.i .i64 p.cap,.i .u32 p.top,.i .i64 p.late]:=rfl
  simp only [Br] at sl2 rs2
  simp (disch:=omega)only[go_sem, *]
  clear l0 n0 q0 q2 fr rs0 hsv i1 i2 i3
  refine Ao (N:=[Ar.enc p]) (Sl.alloc sl2 ⟨6,[Ar.enc p]⟩) ?_ ?_ ?_ ?_
  ·rw [AG];have:=rs2.lim;have:=rs2.i1;omega
  ·rw [Ag];have:=rs2.next;omega
  ·simp;omega
  intro w h4 s4 g4
  have rs5:=(rs2.new (k:=⟨6,[Ar.enc p]⟩)).app g4
  have s5:Sl h.next h4 6 w ((A++[p]).map Ar.enc):=by simpa using s4
  have so5:=As s5
  obtain ⟨_,_,_,_,_,_,_,xc1,xc2⟩:=s5.facts
  clear s4 g4 sl2 rs2
  obtain ⟨i1,i2,i3,l0,n0,q0,_,q2,_⟩:=rs5
  simp only [Br] at q0
  simp (disch:=omega)only[go_sem, *]
  refine ih _ _ _ ?_ ⟨i - 1,w,A++[p],s2,rfl,RS.box (row:=[a,v,.ns]) ⟨i1,i2,i3,l0,n0,q0,b1,q2,by assumption⟩,AA s5 bx _ (so5.imp (fun x=>x) (fun x=>by omega)),by simp;omega,hP, ?_⟩
  ·omega
  ·clear ih kk s5
   simp (disch:=omega)only[go_sem, *]
 ·have h0:i=0:=by omega
  rw [h0,Co] at hP
  subst hP
  simp (disch:=omega)only[go_sem, *]
  exact kk _ _ v ⟨i1,i2,i3,l0,n0,q0,hb,q2,fr⟩ sl (show A.length≤8 by omega) e0 e2 e6 e7
end Go.Ab.T
namespace Go.Ab.T
open Go Go.Ab
set_option maxHeartbeats 4000000
theorem ZI {K : Ex → Env → AH → Prop} {e : Env} {h hh : AH} {id bx n : Nat} {s : Rd} {P : List Node × Rd} {v0 v2 v10 : V} {row : List V} (hlo : h.lim ≤ id) (hn : n ≤ 128) (hP : Ct n [] s = P) (rs : RS h id bx s row hh)
    (e0:e 0=v0) (e2:e 2=v2) (e6:e 6=.p bx 0 0) (e7:e 7=.p id 0 0) (e10:e 10=v10) (e11:e 11=.ns) (e12:e 12=.i .i64 n)
    (kk:∀ (e:Env) (hh:AH) (v:V),RS h id bx P.2 row hh→Sl h.next hh 3 v (P.1.map Node.enc)→P.1.length≤128→e 0=v0→e 2=v2→e 6=.p bx 0 0→e 7=.p id 0 0→e 10=v10→e 11=v→K (.ex 6) e hh):ZC tp (.loop Qj) e hh K:=by
 refine Ae (fun n' e hh=>∃ (i:Nat) (v:V) (A:List Node) (s:Rd),n'=i∧RS h id bx s row hh∧Sl h.next hh 3 v (A.map Node.enc)∧A.length+i=n∧Ct i A s=P∧e 0=v0∧e 2=v2∧e 6=.p bx 0 0∧e 7=.p id 0 0∧e 10=v10∧e 11=v∧e 12=.i .i64 i) ?_ _ _ _ ⟨n,.ns,[],s,rfl,rs,Sl.nil _ _ _,by simp,hP,e0,e2,e6,e7,e10,e11,e12⟩
 clear rs e0 e2 e6 e7 e10 e11 e12 e hh hP s
 rintro n' e hh ⟨i,v,A,s,hn0,rs,sl,hA,hP,e0,e2,e6,e7,e10,e11,e12⟩ ih
 have rs0:=rs
 obtain ⟨i1,i2,i3,l0,n0,q0,hb,q2,fr⟩:=rs
 have hown:=As sl
 have hslt:=LO sl
 simp only [Br] at q0
 rw [Ai Qj.eq_1]
 simp (disch:=omega)only[go_sem, *]
 refine Aa (fun hc=>?_) (fun hc=>?_)
 ·have hni:i=(i - 1)+1:=by omega
  rw [hni,Ct] at hP
  have hcm:(i:Int) - 1=((i - 1:Nat):Int):=by omega
  clear hni
  simp (disch:=omega)only[go_sem, *]
  refine BA (s:=s) ?_ hb ?_ ?_
  ·simp (disch:=omega)only[go_sem, *]
  ·simp (disch:=omega)only[go_sem, *]
  have b1:Az (AJ 4 s).2.b:=by first | exact Az.num hb | exact Az.flag hb | exact Az.cnt hb
  obtain ⟨t1,ht1⟩:∃ x,AJ 4 s=x:=⟨_,rfl⟩
  rw [ht1] at b1 ⊢
  simp (disch:=omega)only[go_sem, *]
  refine BA (s:=t1.2) ?_ b1 ?_ ?_
  ·simp (disch:=omega)only[go_sem, *]
  ·simp (disch:=omega)only[go_sem, *]
  have b2:Az (AJ 6 t1.2).2.b:=by first | exact Az.num b1 | exact Az.flag b1 | exact Az.cnt b1
  obtain ⟨t2,ht2⟩:∃ x,AJ 6 t1.2=x:=⟨_,rfl⟩
  rw [ht2] at b2 ⊢
  simp (disch:=omega)only[go_sem, *]
  refine HZ (s:=t2.2) ?_ b2 ?_ ?_
  ·simp (disch:=omega)only[go_sem, *]
  ·simp (disch:=omega)only[go_sem, *]
  have b3:Az (BC t2.2).2.b:=by first | exact Az.num b2 | exact Az.flag b2 | exact Az.cnt b2
  obtain ⟨t3,ht3⟩:∃ x,BC t2.2=x:=⟨_,rfl⟩
  rw [ht3] at b3 ⊢
  have hnd:HT s=(⟨t1.1,t2.1,t3.1⟩,t3.2):=by
   unfold HT
   simp only [ht1,ht2,ht3]
  rw [hnd] at hP
  simp only at hP
  clear ht1 ht2 ht3 hnd
  simp (disch:=omega)only[go_sem, *]
  have rs2:=(((((rs0.put (s2:=t1.2) b1).new (k:=⟨3,[[.i .i64 0,.i .i64 0,.i .i64 0]]⟩)).putx (k:=⟨3,[[.i .i64 t1.1,.i .i64 0,.i .i64 0]]⟩) n0).put (s2:=t2.2) b2).putx (k:=⟨3,[[.i .i64 t1.1,.i .i64 t2.1,.i .i64 0]]⟩) n0).put (s2:=t3.2) b3
  have rs2:=rs2.putx (k:=⟨3,[[.i .i64 t1.1,.i .i64 t2.1,.i .i64 t3.1]]⟩) n0
  have pid:∀ {H:AH} (r:Rd),Sl h.next H 3 v (A.map Node.enc)→Sl h.next (H.put id (Br r)) 3 v (A.map Node.enc):=fun r q=>AA q id _ (hown.imp (fun x=>x) (fun x=>by omega))
  have pbx:∀ {H:AH} (r:List V),Sl h.next H 3 v (A.map Node.enc)→Sl h.next (H.put hh.next ⟨3,[r]⟩) 3 v (A.map Node.enc):=fun r q=>AA q _ _ (hslt.imp (fun x=>x) (fun x=>by omega))
  have sl2:=pbx [.i .i64 t1.1,.i .i64 t2.1,.i .i64 t3.1] (pid t3.2 (pbx [.i .i64 t1.1,.i .i64 t2.1,.i .i64 0] (pid t2.2 (pbx [.i .i64 t1.1,.i .i64 0,.i .i64 0] (Sl.alloc (pid t1.2 sl) ⟨3,[[.i .i64 0,.i .i64 0,.i .i64 0]]⟩)))))
  simp only [Br] at sl2 rs2
  clear l0 q0 q2 fr rs0 b1 b2 pid pbx
  refine Ao (N:=[Node.enc ⟨t1.1,t2.1,t3.1⟩]) (Sl.alloc sl2 ⟨3,[Node.enc ⟨t1.1,t2.1,t3.1⟩]⟩) ?_ ?_ ?_ ?_
  ·rw [AG];have:=rs2.lim;have:=rs2.i1;omega
  ·rw [Ag];have:=rs2.next;omega
  ·simp;omega
  intro w h4 s4 g4
  have rs5:=(rs2.new (k:=⟨3,[Node.enc ⟨t1.1,t2.1,t3.1⟩]⟩)).app g4
  have s5:Sl h.next h4 3 w ((A++[(⟨t1.1,t2.1,t3.1⟩:Node)]).map Node.enc):=by simpa using s4
  clear s4 g4 sl2 rs2
  simp (disch:=omega)only[go_sem, *]
  refine ih _ _ _ ?_ ⟨i - 1,w,A++[⟨t1.1,t2.1,t3.1⟩],t3.2,rfl,rs5,s5,by simp;omega,hP, ?_⟩
  ·omega
  ·clear ih kk s5 rs5
   simp (disch:=omega)only[go_sem, *]
 ·have h0:i=0:=by omega
  rw [h0,Ct] at hP
  subst hP
  simp (disch:=omega)only[go_sem, *]
  exact kk _ _ v rs0 sl (show A.length≤128 by omega) e0 e2 e6 e7 e10 e11
theorem ZJ {K : Ex → Env → AH → Prop} {e : Env} {h hh : AH} {id bx n : Nat} {s : Rd} {P : List (List Node) × Rd} {i2' : Nat} {v0 a c : V} (hv0 : ∀ P H n, Cz P H n v0 v0) (hlo : h.lim ≤ id) (hlb : h.lim ≤ bx) (hn : n ≤ 3) (hP : Eh n [] s = P) (rs : RS h id bx s [a, c, .ns] hh) (h2 : i2' < h.next)
    (e0:e 0=v0) (e2:e 2=.p i2' 0 0) (e6:e 6=.p bx 0 0) (e7:e 7=.p id 0 0) (e10:e 10=.i .i64 n)
    (kk:∀ (e:Env) (hh:AH) (v:V),RS h id bx P.2 [a,c,v] hh→Sl h.next hh 1 v (P.1.map Tab.enc)→P.1.length≤3→e 0=v0→e 2=.p i2' 0 0→e 6=.p bx 0 0→e 7=.p id 0 0→K (.ex 4) e hh):ZC tp (.loop L1) e hh K:=by
 refine Ae (fun n' e hh=>∃ (i:Nat) (v:V) (A:List (List Node)) (s:Rd),n'=i∧RS h id bx s [a,c,v] hh∧Sl h.next hh 1 v (A.map Tab.enc)∧A.length+i=n∧Eh i A s=P∧e 0=v0∧e 2=.p i2' 0 0∧e 6=.p bx 0 0∧e 7=.p id 0 0∧e 10=.i .i64 i) ?_ _ _ _ ⟨n,.ns,[],s,rfl,rs,Sl.nil _ _ _,by simp,hP,e0,e2,e6,e7,e10⟩
 clear rs e0 e2 e6 e7 e10 e hh hP s
 rintro n' e hh ⟨i,v,A,s,hn0,rs,sl,hA,hP,e0,e2,e6,e7,e10⟩ ih
 have rs0:=rs
 obtain ⟨i1,i2,i3,l0,n0,q0,hb,q2,fr⟩:=rs
 have hown:=As sl
 have hslt:=LO sl
 simp only [Br] at q0
 rw [Ai L1.eq_1]
 simp (disch:=omega)only[go_sem, *]
 refine Aa (fun hc=>?_) (fun hc=>?_)
 ·have hni:i=(i - 1)+1:=by omega
  rw [hni,Eh] at hP
  have hcm:(i:Int) - 1=((i - 1:Nat):Int):=by omega
  clear hni
  simp (disch:=omega)only[go_sem, *]
  refine BA (s:=s) ?_ hb ?_ ?_
  ·simp (disch:=omega)only[go_sem, *]
  ·simp (disch:=omega)only[go_sem, *]
  have b1:Az (AJ 128 s).2.b:=by first | exact Az.num hb | exact Az.flag hb | exact Az.cnt hb
  obtain ⟨t1,ht1⟩:∃ x,AJ 128 s=x:=⟨_,rfl⟩
  rw [ht1] at b1 ⊢
  have c1:0≤t1.1∧t1.1≤128:=by rw [← ht1];exact Fe (by omega)
  obtain ⟨n1,hn1⟩:∃ n:Nat,t1.1=n:=⟨t1.1.toNat,by omega⟩
  have htb:MH s=Ct n1 [] t1.2:=by unfold MH;rw [ht1,hn1,Int.toNat_natCast]
  rw [htb] at hP
  obtain ⟨t2,ht2⟩:∃ x,Ct n1 [] t1.2=x:=⟨_,rfl⟩
  rw [ht2] at hP
  clear ht1 htb
  have rs2:=rs0.put (s2:=t1.2) b1
  have sl2:=AA sl id (Br t1.2) (hown.imp (fun x=>x) (fun x=>by omega))
  have rs3:RS (hh.put id (Br t1.2)) id bx t1.2 [a,c,v] (hh.put id (Br t1.2)):=⟨by show id<hh.next;omega,by show bx<hh.next;omega,i3,rfl,Nat.le_refl _,rs2.rd,b1,rs2.q,fun _ _ _ _=>rfl⟩
  simp only [Br] at rs3
  simp (disch:=omega)only[go_sem, *]
  refine ZI (n:=n1) (P:=t2) (v0:=v0) (v2:=.p i2' 0 0) (v10:=.i .i64 i) ?_ (by omega) ht2 rs3 ?_ ?_ ?_ ?_ ?_ ?_ ?_ ?_
  any_goals (simp (disch:=omega)only[go_sem, *];done)
  clear e0 e2 e6 e7 e10 e
  intro e h1 v1 rsI sv hT e0 e2 e6 e7 e10 e11
  have nI:hh.next≤h1.next:=rsI.next
  have lI:h1.lim=hh.lim:=rsI.lim
  have rs4:RS h id bx t2.2 [a,c,v] h1:=⟨i1,i2,i3,lI.trans l0,by omega,rsI.rd,rsI.isb,rsI.q,fun j hj hne hne2=>by
   rw [rsI.fr j (by show j<hh.next;omega) hne hne2,Ad,Ac hne];exact fr j hj hne hne2⟩
  have sl3:Sl h.next h1 1 v (A.map Tab.enc):=by
   rcases hown with q | q
   ·rcases sl with ⟨a,b⟩ | ⟨_,_,_,_,rfl,_⟩
    ·exact .inl ⟨a,b⟩
    ·cases q
   ·exact sl.same nI (fun hq=>by rw [rsI.fr _ (by show AW v<hh.next;exact hq) (by omega) (by omega),Ad,Ac (by omega)])
  have sv1:Sl h.next h1 3 v1 (t2.1.map Node.enc):=Sl.weak sv (by show h.next≤hh.next;exact n0)
  have o1:Ba v1=true∨hh.next≤AW v1:=As sv
  have o2:=LO sv1
  obtain ⟨_,_,_,_,_,_,_,vc1,vc2⟩:=sv1.facts
  have rs4':=rs4
  obtain ⟨_,_,_,l1,n1',q0,b4,q2,_⟩:=rs4
  simp only [Br] at q0
  clear fr sl2 rs2 rs3 rs0 hb b1 sl sv rsI
  simp (disch:=omega)only[go_sem, *]
  refine Ao (N:=[[v1]]) (Sl.alloc sl3 ⟨1,[[v1]]⟩) ?_ ?_ ?_ ?_
  ·rw [AG];omega
  ·rw [Ag];omega
  ·simp;omega
  intro w h4 s4 g4
  have rs5:=(rs4'.new (k:=⟨1,[[v1]]⟩)).app g4
  have so5:=As s4
  have hgv:Ba v=true∨AW v<hh.next:=hslt
  have hd:Ba v1=true∨AW w≠AW v1:=by
   rcases o1 with q | q
   ·exact .inl q
   ·refine .inr ?_
    rcases o2 with q2 | q2
    ·rcases sv1 with ⟨x,_⟩ | ⟨_,_,_,_,rfl,_⟩
     ·rcases x with rfl | rfl<;>simp [AW] at q<;>omega
     ·cases q2
    ·rcases g4.own with y | ⟨y1,y2⟩ | y
     ·rcases s4 with ⟨_,z⟩ | ⟨_,_,_,_,rfl,_⟩
      ·simp at z
      ·cases y
     ·rcases hgv with z | z
      ·rw [z] at y1;cases y1
      ·omega
     ·rw [Ag] at y;omega
  have sv4:Sl h.next h4 3 v1 (t2.1.map Node.enc):=by
   have gn:=g4.next
   rw [Ag] at gn
   rcases o1 with q | q
   ·rcases sv1 with ⟨a,b⟩ | ⟨_,_,_,_,rfl,_⟩
    ·exact .inl ⟨a,b⟩
    ·cases q
   ·exact sv1.same (by omega) (fun hq=>by rw [g4.get _ (by rw [Ag];omega) (hgv.imp (fun x=>x) (fun z=>by omega)),AL,Ac (by omega)])
  have ov4:Ba v1=true∨h.next≤AW v1:=As sv4
  have xc1:=g4.cell
  have xc2:=g4.cells
  clear sl3 rs4' l1 n1' q0 q2 b4 g4 sv1 nI lI
  have rs6:=rs5
  obtain ⟨_,_,_,l5,n5,q0,b5,q2,_⟩:=rs5
  simp only [Br] at q0
  simp (disch:=omega)only[go_sem, *]
  have rs7:=RS.box (row':=[a,c,w]) rs6
  have sw7:=AA s4 bx ⟨3,[[a,c,w]]⟩ (so5.imp (fun x=>x) (fun x=>by omega))
  have sv7:=AA sv4 bx ⟨3,[[a,c,w]]⟩ (ov4.imp (fun x=>x) (fun x=>by omega))
  have n7:h.next≤(h4.put bx ⟨3,[[a,c,w]]⟩).next:=n5
  clear rs6 s4 sv4 q0 q2 l5
  have key:∀ (E:Env) (H:AH),E 0=v0→E 2=.p i2' 0 0→E 6=.p bx 0 0→E 7=.p id 0 0→E 10=.i .i64 ((i - 1:Nat):Int)→RS h id bx t2.2 [a,c,w] H→Sl h.next H 1 w (A.map Tab.enc++[[v1]])→Sl h.next H 3 v1 (t2.1.map Node.enc)→ZC tp (.loop L1) E H K:=by
   intro E H f0 f2 f6 f7 f10 r6 w6 v6
   have nx:=r6.next
   obtain ⟨H',st,rs',sw'⟩:=Sa (e:=E) [0,2,6,7,10] r6 w6 v6 hd (by omega) (fun t ht P=>by
    simp only [List.mem_cons,List.not_mem_nil,or_false] at ht
    rcases ht with rfl | rfl | rfl | rfl | rfl
    ·rw [f0];exact hv0 _ _ _
    ·rw [f2];exact .p _ _ _ _ (by omega)
    ·rw [f6];exact .p _ _ _ _ (by omega)
    ·rw [f7];exact .p _ _ _ _ (by omega)
    ·rw [f10];exact .z _ _ (.i _ _))
   refine L6 st (ih _ _ _ ?_ ⟨i - 1,w,A++[t2.1],t2.2,rfl,rs',by simpa [Tab.enc] using sw',by simp;omega,hP,by simp [f0],by simp [f2],by simp [f6],by simp [f7],by simp [f10]⟩)
   omega
  clear ih kk
  refine key _ _ ?_ ?_ ?_ ?_ ?_ rs7 sw7 sv7
  all_goals simp (disch:=omega)only[go_sem, *]
 ·have h0:i=0:=by omega
  rw [h0,Eh] at hP
  subst hP
  simp (disch:=omega)only[go_sem, *]
  exact kk _ _ v rs0 sl (show A.length≤3 by omega) e0 e2 e6 e7
end Go.Ab.T
namespace Go.Ab.T
open Go Go.Ab
set_option maxHeartbeats 4000000
structure qW (b x:List Int) (D:Ah) (s:Rd):Prop where
 mark:x.take 4≠[72,79,82,65]→BW b=(⟨[],[],[]⟩,12)
 bad:s.bad=true→BW b=(⟨[],[],[]⟩,12)
 left:¬ (s.b.length:Int)=0→BW b=(⟨[],[],[]⟩,12)
 wh:(A1 D).1≠0→BW b=(⟨[],[],[]⟩,12)
 byt:Bt D≠b→BW b=(⟨[],[],[]⟩,12)
 ok:(A1 D).1=0→Bt D=b→BW b=(D,0)
theorem aUz {b x:List Int} (hq:A6 b=(x,true)) (h4:¬ x.length<4):qW b x (Bx ⟨x.drop 4,false⟩).1 (Bx ⟨x.drop 4,false⟩).2:=by
 have e:BW b=(if (E5 (Bx ⟨x.drop 4,false⟩).1).2=0∧(E5 (Bx ⟨x.drop 4,false⟩).1).1=b then ((Bx ⟨x.drop 4,false⟩).1,0) else (⟨[],[],[]⟩,12)):=by
  unfold BW;rw [hq,if_neg (by simp),if_neg h4]
 by_cases hc:(E5 (Bx ⟨x.drop 4,false⟩).1).2=0∧(E5 (Bx ⟨x.drop 4,false⟩).1).1=b
 ·rw [if_pos hc] at e
  obtain ⟨a1,a2,a3,a4,a5⟩:=UB e
  generalize (Bx ⟨x.drop 4,false⟩).1=D at *
  rw [hq] at a4
  have hx:x=E6 D:=by injection a4
  rw [← hx] at a5
  rw [a5]
  refine ⟨fun q=>absurd ?_ q,fun q=>(by cases q),fun q=>absurd rfl q,fun q=>absurd (by rw [a1]) q,fun q=>absurd a3 q,fun _ _=>e⟩
  rw [hx,HB (fun x hx=>(a2.cc x hx).t)];rfl
 ·rw [if_neg hc] at e
  exact ⟨fun _=>e,fun _=>e,fun _=>e,fun _=>e,fun _=>e,fun q1 q2=>absurd (by unfold E5;rw [if_pos q1];exact ⟨rfl,q2⟩) hc⟩
abbrev Le (n:Nat) (s:Rd):Prop:=s.b.length≤n
section
variable {n:Nat} {m:Int} {s:Rd}
theorem Le.num (h:Le n s):Le n (BC s).2:=by
 unfold Le BC at *;split<;>simp only [List.length_drop]<;>omega
theorem Le.cnt (h:Le n s):Le n (AJ m s).2:=by
 have:=h.num
 unfold AJ;split
 ·exact this
 ·exact this
theorem Le.text (h:Le n s):Le n (DH m s).2:=by
 unfold Le DH at *;split<;>simp only [List.length_drop]<;>omega
theorem Le.procs:∀ (k:Nat) (A:List AO) (s:Rd),Le n s→Le n (Cv k A s).2
 | 0,_,_,h=>h
 | k+1,A,s,h=>by unfold Cv;exact Le.procs k _ _ h.cnt.cnt
theorem Le.part (h:Le n s):Le n (C7 s).2:=by
 unfold C7 Dy
 exact (Le.procs _ _ _ h.text.num.num.cnt.cnt.cnt).cnt.cnt.cnt.cnt.cnt
theorem Le.parts:∀ (k:Nat) (A:List Part) (s:Rd),Le n s→Le n (Cu k A s).2
 | 0,_,_,h=>h
 | k+1,A,s,h=>by unfold Cu;exact Le.parts k _ _ h.part
theorem Le.chans:∀ (k:Nat) (A:List Ar) (s:Rd),Le n s→Le n (Co k A s).2
 | 0,_,_,h=>h
 | k+1,A,s,h=>by unfold Co Et Dy;exact Le.chans k _ _ h.cnt.cnt.cnt.cnt.cnt.num
theorem Le.nodes:∀ (k:Nat) (A:List Node) (s:Rd),Le n s→Le n (Ct k A s).2
 | 0,_,_,h=>h
 | k+1,A,s,h=>by unfold Ct HT;exact Le.nodes k _ _ h.cnt.cnt.num
theorem Le.tabs:∀ (k:Nat) (A:List (List Node)) (s:Rd),Le n s→Le n (Eh k A s).2
 | 0,_,_,h=>h
 | k+1,A,s,h=>by unfold Eh MH;exact Le.tabs k _ _ (Le.nodes _ _ _ h.cnt)
theorem Le.conf (h:Le n s):Le n (Bx s).2:=by
 unfold Bx
 exact Le.tabs _ _ _ (Le.chans _ _ _ (Le.parts _ _ _ h.cnt).cnt).cnt
end
theorem UF {c : TC} {K : Ex → Env → AH → Prop} {e : Env} {H : AH} {C : Ah} {s : Rd} {va vb vc : V} {xs : List (List V)} (z0 : H.get 0 = some ⟨3, [[.ns, .ns, .ns]]⟩) (q1 : H.get 1 = some ⟨3, [[va, vb, vc]]⟩) (q2 : H.get 2 = some (Br s)) (hl : H.lim = 0) (hn : 3 ≤ H.next)
    (sa:Sl 3 H 11 va (C.parts.map Part.enc)) (sb:Sl 3 H 6 vb (C.chans.map Ar.enc)) (sc:Sl 3 H 1 vc (C.tables.map Tab.enc)) (la:C.parts.length≤6) (lb:C.chans.length≤8) (lc:C.tables.length≤3) (e0:e 0=.fl 1 xs) (e2:e 2=.p 0 0 0) (e6:e 6=.p 1 0 0) (e7:e 7=.p 2 0 0)
    (z:∀ (e:Env) (H:AH),H.get 0=some ⟨3,[[.ns,.ns,.ns]]⟩→H.get 1=some ⟨3,[C.enc]⟩→H.get 2=some (Br s)→H.lim=0→3≤H.next→e 0=.fl 1 xs→e 2=.p 0 0 0→e 6=.p 1 0 0→e 7=.p 2 0 0→bX tp c e H K):bX tp c e H K:=by
 refine MS (Jh (h2:=⟨fun i=>if i=0 then some ⟨3,[[.ns,.ns,.ns]]⟩ else if i=1 then some ⟨3,[C.enc]⟩ else if i=2 then some (Br s) else none,H.next,H.lim⟩) (3≤·) [0,2,6,7] e (fun wf=>⟨rfl,rfl,fun i k hk=>?_,fun t ht=>?_⟩)) (z _ _ rfl rfl rfl hl hn ?_ ?_ ?_ ?_)
 ·simp only at hk
  by_cases h0:i=0
  ·subst h0
   rw [if_pos rfl] at hk;cases hk
   exact ⟨by show 0<H.next;omega,by omega,_,z0,(wf.2 _ _ z0).2 _ _⟩
  ·rw [if_neg h0] at hk
   by_cases h1:i=1
   ·subst h1
    rw [if_pos rfl] at hk;cases hk
    exact ⟨by show 1<H.next;omega,by omega,_,q1,.cons _ _ _ _ _ (.cons _ _ _ _ _ (Sl.frzb sa (fun _=>rfl) (by omega)) (.cons _ _ _ _ _ (Sl.frzb sb (fun _=>rfl) (by omega)) (.cons _ _ _ _ _ (Sl.frzb sc (fun _=>rfl) (by omega)) (.nil _)))) (.nil _)⟩
   ·rw [if_neg h1] at hk
    by_cases h2:i=2
    ·subst h2
     rw [if_pos rfl] at hk;cases hk
     exact ⟨by show 2<H.next;omega,by omega,_,q2,(wf.2 _ _ q2).2 _ _⟩
    ·rw [if_neg h2] at hk;cases hk
 ·simp only [List.mem_cons,List.not_mem_nil,or_false] at ht
  rcases ht with rfl | rfl | rfl | rfl
  ·rw [e0];exact .fl _ _ _
  ·rw [e2];exact .p _ _ _ _ (Nat.lt_of_lt_of_le (by omega) hn)
  ·rw [e6];exact .p _ _ _ _ (Nat.lt_of_lt_of_le (by omega) hn)
  ·rw [e7];exact .p _ _ _ _ (Nat.lt_of_lt_of_le (by omega) hn)
 all_goals (simp only [List.mem_cons,List.not_mem_nil,or_false];simp;assumption)
theorem ZK {b:List Int} (hb:Az b) (hl:b.length<2000000):Pf tp XV [.fl 1 (b.map Aj)] (.tup [.agg (BW b).1.enc,.i .i64 (BW b).2]):=by
 have ho:=Zz hb (by omega)
 have hob:=LE hb
 have hol:(A6 b).1.length≤b.length:=by unfold A6;split<;>simp
 have r1:(A6 b).2=false→BW b=(⟨[],[],[]⟩,13):=fun q=>if_pos q
 have r2:(A6 b).2=true→(A6 b).1.length<4→BW b=(⟨[],[],[]⟩,12):=fun q q2=>by unfold BW;rw [if_neg (by rw [q];decide),if_pos q2]
 have r3:(A6 b).2=true→¬ (A6 b).1.length<4→qW b (A6 b).1 (Bx ⟨(A6 b).1.drop 4,false⟩).1 (Bx ⟨(A6 b).1.drop 4,false⟩).2:=fun q q2=>aUz (Prod.ext rfl q) q2
 refine U1 aFK (by simp [OK]) fun rp=>?_
 unfold OK
 refine CR ?_
 simp (disch:=omega)only[go_sem, *]
 refine CR ?_
 simp (disch:=omega)only[go_sem, *]
 refine Pf.go (ho) (by simp only [go_sem]) fun _=>?_;simp (disch:=omega)only[go_sem, *]
 clear ho
 generalize A6 b=o at *
 obtain ⟨x,ok⟩:=o
 simp only at hob hol r1 r2 r3
 have md:∀ n,List.drop n (x.map Aj)=(x.drop n).map Aj:=fun n=>List.map_drop.symm
 have mt:∀ n,List.take n (x.map Aj)=(x.take n).map Aj:=fun n=>List.map_take.symm
 have ml:List.take (x.length - 4) ((x.drop 4).map Aj)=(x.drop 4).map Aj:=List.take_of_length_le (by simp)
 refine CR ?_
 cases ok with
 | false=>
  have e:=r1 rfl
  clear r1 r2 r3 md mt ml
  simp (disch:=omega)only[go_sem, *]
 | true=>
  simp (disch:=omega)only[go_sem, *]
  refine CR ?_
  simp (disch:=omega)only[go_sem, *]
  refine Aq (fun hc=>?_) (fun hc=>?_)
  ·have e:=r2 rfl (by omega)
   clear r1 r2 r3 md mt ml
   simp (disch:=omega)only[go_sem, *]
  ·have hr:=r3 rfl (by omega)
   clear r1 r2 r3
   simp (disch:=omega)only[go_sem, *]
   have hu:=Hu (hob.take (n:=4)) (B:=[72,79,82,65]) (fun z hz=>by simp only [List.mem_cons,List.not_mem_nil,or_false] at hz;omega)
   refine Aa (fun hc2=>?_) (fun hc2=>?_)
   ·have e:=hr.mark (fun q=>hc2 (hu.2 q))
    clear hr hu hc2 md mt ml
    simp (disch:=omega)only[go_sem, *]
   ·clear hu hc2
    have hob4:Az (⟨x.drop 4,false⟩:Rd).b:=hob.drop
    simp (disch:=omega)only[go_sem, *]
    refine CR ?_
    simp (disch:=omega)only[go_sem, *]
    refine CR ?_
    simp (disch:=omega)only[go_sem, *]
    have z0:(((AH.emp.alloc ⟨3,[[.ns,.ns,.ns]]⟩).alloc ⟨3,[[.ns,.ns,.ns]]⟩).alloc (Br ⟨x.drop 4,false⟩)).get 0=some ⟨3,[[.ns,.ns,.ns]]⟩:=rfl
    have l0:(((AH.emp.alloc ⟨3,[[.ns,.ns,.ns]]⟩).alloc ⟨3,[[.ns,.ns,.ns]]⟩).alloc (Br ⟨x.drop 4,false⟩)).lim=0:=rfl
    have n0:3≤(((AH.emp.alloc ⟨3,[[.ns,.ns,.ns]]⟩).alloc ⟨3,[[.ns,.ns,.ns]]⟩).alloc (Br ⟨x.drop 4,false⟩)).next:=Nat.le_refl 3
    have rs0:RS (((AH.emp.alloc ⟨3,[[.ns,.ns,.ns]]⟩).alloc ⟨3,[[.ns,.ns,.ns]]⟩).alloc (Br ⟨x.drop 4,false⟩)) 2 1 ⟨x.drop 4,false⟩ [.ns,.ns,.ns] (((AH.emp.alloc ⟨3,[[.ns,.ns,.ns]]⟩).alloc ⟨3,[[.ns,.ns,.ns]]⟩).alloc (Br ⟨x.drop 4,false⟩)):=⟨by omega,by omega,by decide,rfl,Nat.le_refl _,rfl,hob4,rfl,fun _ _ _ _=>rfl⟩
    simp only [Br] at z0 l0 n0 rs0
    generalize ((AH.emp.alloc ⟨3,[[.ns,.ns,.ns]]⟩).alloc ⟨3,[[.ns,.ns,.ns]]⟩).alloc ⟨2,[[.fl 1 ((x.drop 4).map Aj),.b false]]⟩=H0 at *
    generalize hs:(⟨x.drop 4,false⟩:Rd)=s at *
    refine CR ?_
    have q0:=rs0.rd
    simp only [Br] at q0
    try simp (disch:=omega)only[go_sem, *]
    refine BA (s:=s) ?_ hob4 ?_ ?_
    ·simp (disch:=omega)only[go_sem, *]
    ·simp (disch:=omega)only[go_sem, *]<;>omega
    have b1:Az (AJ 6 s).2.b:=by first | exact Az.num hob4 | exact Az.flag hob4 | exact Az.cnt hob4
    obtain ⟨t1,ht1⟩:∃ x,AJ 6 s=x:=⟨_,rfl⟩
    rw [ht1] at b1 ⊢
    have c1:0≤t1.1∧t1.1≤6:=by rw [← ht1];exact Fe (by omega)
    obtain ⟨n1,hn1⟩:∃ n:Nat,t1.1=n:=⟨t1.1.toNat,by omega⟩
    obtain ⟨p1,hp1⟩:∃ x,Cu n1 [] t1.2=x:=⟨_,rfl⟩
    have rs1:=rs0.put b1
    simp only [Br] at rs1
    simp (disch:=omega)only[go_sem, *]
    refine ZG (h:=H0) (n:=n1) (P:=p1) (v0:=.fl 1 (b.map Aj)) (v2:=.p 0 0 0) (by omega) (by omega) (by omega) hp1 rs1 ?_ ?_ ?_ ?_ ?_ ?_
    any_goals (simp (disch:=omega)only[go_sem, *];done)
    intro e hh va r1 sa la e0 e2 e6 e7
    have z1:=(r1.fr 0 (by omega) (by decide) (by decide)).trans z0
    have l1:hh.lim=0:=r1.lim.trans l0
    have m1:3≤hh.next:=by have:=r1.next;omega
    have b1:=r1.isb
    have q0:=r1.rd
    have sa1:=Sl.weak sa n0
    simp only [Br] at q0
    clear sa z0 rs0 rs1 hob4
    simp (disch:=omega)only[go_sem, *]
    refine CR ?_
    try simp (disch:=omega)only[go_sem, *]
    refine BA (s:=p1.2) ?_ b1 ?_ ?_
    ·simp (disch:=omega)only[go_sem, *]
    ·simp (disch:=omega)only[go_sem, *]<;>omega
    have b2:Az (AJ 8 p1.2).2.b:=by first | exact Az.num b1 | exact Az.flag b1 | exact Az.cnt b1
    obtain ⟨t2,ht2⟩:∃ x,AJ 8 p1.2=x:=⟨_,rfl⟩
    rw [ht2] at b2 ⊢
    have c2:0≤t2.1∧t2.1≤8:=by rw [← ht2];exact Fe (by omega)
    obtain ⟨n2,hn2⟩:∃ n:Nat,t2.1=n:=⟨t2.1.toNat,by omega⟩
    obtain ⟨p2,hp2⟩:∃ x,Co n2 [] t2.2=x:=⟨_,rfl⟩
    have r2:=r1.re b2
    have sa2:=AA sa1 2 (Br t2.2) ((As sa1).imp (fun x=>x) (fun x=>by omega))
    simp only [Br] at r2 sa2
    simp (disch:=omega)only[go_sem, *]
    refine ZH (n:=n2) (P:=p2) (v0:=.fl 1 (b.map Aj)) (v2:=.p 0 0 0) ?_ ?_ (by omega) hp2 r2 ?_ ?_ ?_ ?_ ?_ ?_
    any_goals (simp (disch:=omega)only[go_sem, *];done)
    clear e0 e2 e6 e7
    intro e hh3 vb r3 sb lb e0 e2 e6 e7
    have z3:=(r3.fr 0 (by show 0<hh.next;omega) (by decide) (by decide)).trans ((by rw [Ad,Ac (by decide)]:_=hh.get 0).trans z1)
    have l3:hh3.lim=0:=r3.lim.trans l1
    have m3:3≤hh3.next:=by have:hh.next≤hh3.next:=r3.next;omega
    have b3:=r3.isb
    have q0:=r3.rd
    have sa3:=r3.thru sa2 (by omega) (by omega)
    have sb3:Sl 3 hh3 6 vb (p2.1.map Ar.enc):=Sl.weak sb m1
    simp only [Br] at q0
    clear sb sa2 sa1 z1 l1 m1 r1 r2 b2
    simp (disch:=omega)only[go_sem, *]
    refine CR ?_
    try simp (disch:=omega)only[go_sem, *]
    refine BA (s:=p2.2) ?_ b3 ?_ ?_
    ·simp (disch:=omega)only[go_sem, *]
    ·simp (disch:=omega)only[go_sem, *]<;>omega
    have b3:Az (AJ 3 p2.2).2.b:=by first | exact Az.num b3 | exact Az.flag b3 | exact Az.cnt b3
    obtain ⟨t3,ht3⟩:∃ x,AJ 3 p2.2=x:=⟨_,rfl⟩
    rw [ht3] at b3 ⊢
    have c3:0≤t3.1∧t3.1≤3:=by rw [← ht3];exact Fe (by omega)
    obtain ⟨n3,hn3⟩:∃ n:Nat,t3.1=n:=⟨t3.1.toNat,by omega⟩
    obtain ⟨p3,hp3⟩:∃ x,Eh n3 [] t3.2=x:=⟨_,rfl⟩
    have r4:=r3.re b3
    have sa4:=AA sa3 2 (Br t3.2) ((As sa3).imp (fun x=>x) (fun x=>by omega))
    have sb4:=AA sb3 2 (Br t3.2) ((As sb3).imp (fun x=>x) (fun x=>by omega))
    simp only [Br] at r4 sa4 sb4
    simp (disch:=omega)only[go_sem, *]
    refine ZJ (n:=n3) (P:=p3) (v0:=.fl 1 (b.map Aj)) (i2':=0) (fun _ _ _=>.fl _ _ _) ?_ ?_ (by omega) hp3 r4 ?_ ?_ ?_ ?_ ?_ ?_ ?_
    any_goals (simp (disch:=omega)only[go_sem, *];done)
    ·show 0<hh3.next;omega
    clear e0 e2 e6 e7
    intro e hh5 vc r5 sc lc e0 e2 e6 e7
    have z5:=(r5.fr 0 (by show 0<hh3.next;omega) (by decide) (by decide)).trans ((by rw [Ad,Ac (by decide)]:_=hh3.get 0).trans z3)
    have l5:hh5.lim=0:=r5.lim.trans l3
    have m5:3≤hh5.next:=by have:hh3.next≤hh5.next:=r5.next;omega
    have sa5:=r5.thru sa4 (by omega) (by omega)
    have sb5:=r5.thru sb4 (by omega) (by omega)
    have sc5:Sl 3 hh5 1 vc (p3.1.map Tab.enc):=Sl.weak sc m3
    have q0:=r5.rd
    have q1:=r5.q
    have hcs:Bx s=(⟨p1.1,p2.1,p3.1⟩,p3.2):=by
     unfold Bx
     simp only [ht1,hn1,Int.toNat_natCast,hp1,ht2,hn2,hp2,ht3,hn3,hp3]
    clear ht1 hn1 hp1 ht2 hn2 hp2 ht3 hn3 hp3 r3 r4 r5 sc sa4 sb4 sa3 sb3 z3 l3 m3 b1 b3 c1 c2 c3 md mt ml
    have hnm:=Sn (s:=s)
    have hle:=Le.conf (n:=x.length) (s:=s) (by rw [← hs];simp [Le])
    rw [hcs] at hr hnm hle
    simp only at hr hnm hle
    simp (disch:=omega)only[go_sem, *]
    refine UF (C:=⟨p1.1,p2.1,p3.1⟩) z5 q1 q0 l5 m5 sa5 sb5 sc5 la lb lc e0 e2 e6 e7 ?_
    clear z5 q1 q0 l5 m5 sa5 sb5 sc5 la lb lc e0 e2 e6 e7 hcs
    generalize (⟨p1.1,p2.1,p3.1⟩:Ah)=D at *
    intro e H z0 q1 q2 hl0 hn e0 e2 e6 e7
    have hrd:=q2
    generalize p3.2=s2 at *
    simp only [Br] at q2
    simp only [Ah.enc] at q1
    have hrt:=Fg hnm
    have hby:=fun h=>JI (C:=D) (Dk (KU h)).1
    simp only [Ah.enc] at hrt hby
    refine CR ?_
    simp (disch:=omega)only[go_sem, *]
    refine Zr (s:=s2) ?_ ?_ ?_
    ·simp (disch:=omega)only[go_sem, *]
    ·have:s2.b.length≤x.length:=hle
     omega
    have h1:=hr.bad
    have h2:=hr.left
    have h3:=hr.wh
    have h4:=hr.byt
    have h5:=hr.ok
    have hu:=Hu (Gw D) hb
    clear hr hrd hle
    obtain ⟨b2,bad⟩:=s2
    simp only at h1 h2 q2
    cases bad with
    | true=>
     have e:=h1 rfl
     clear h1 h2 h3 h4 h5 hu
     simp (disch:=omega)only[go_sem, *]
    | false=>
     clear h1
     simp (disch:=omega)only[go_sem, *]
     refine Aq (fun hc3=>?_) (fun hc3=>?_)
     ·have e:=h2 hc3
      clear h2 h3 h4 h5 hu
      simp (disch:=omega)only[go_sem, *]
     ·clear h2
      simp (disch:=omega)only[go_sem, *]
      refine Pf.go (hrt) (by simp only [go_sem]) fun _=>?_;simp (disch:=omega)only[go_sem, *]
      refine Aq (fun hc4=>?_) (fun hc4=>?_)
      ·have e:=h3 hc4
       clear h3 h4 h5 hu
       simp (disch:=omega)only[go_sem, *]
      ·have hw:(A1 D).1=0:=Classical.not_not.1 hc4
       have hb2:=hby hw
       have h5:=h5 hw
       clear h3 hby hrt
       simp (disch:=omega)only[go_sem, *]
       refine Pf.go (hb2) (by simp only [go_sem]) fun _=>?_;simp (disch:=omega)only[go_sem, *]
       refine Aa (fun hc5=>?_) (fun hc5=>?_)
       ·have e:=h4 hc5
        clear h4 h5 hu hc5
        simp (disch:=omega)only[go_sem, *]
       ·have e:=h5 (Classical.not_not.1 hc5)
        clear h4 h5 hu hc5
        simp (disch:=omega)only[go_sem, *]
        refine V6 ?_
        simp (disch:=omega)only[go_sem, *]
theorem Gm {b:List Int} (hb:Az b) (hl:b.length<2000000):Pf tp XC [.fl 1 (b.map Aj)] (.b true):=by
 have t1:=E7 hb
 have t2:=ZK hb hl
 have t3:=NX (a:=(BW b).1) (b:=(BW b).1)
 rw [decide_eq_true rfl] at t3
 generalize BW b=D at *
 obtain ⟨D,w⟩:=D
 simp only [Ah.enc] at t1 t2 t3
 refine AD aFl (by simp [Og]) fun rp=>?_;unfold Og;simp (disch:=omega)only[go_sem, *]
 refine Pf.go (t1) (by simp only [go_sem]) fun _=>?_;simp (disch:=omega)only[go_sem, *]
 refine Pf.go (t2) (by simp only [go_sem]) fun _=>?_;simp (disch:=omega)only[go_sem, *]
 refine Pf.go (t3) (by simp only [go_sem]) fun _=>?_;simp (disch:=omega)only[go_sem, *]
theorem LM {C:Ah} (hnm:GT C):Pf tp aGT [.agg C.enc] (.b true):=by
 have t1:=Eb hnm
 have t2:=Fg hnm
 have t3:=Hd hnm
 have f1:(A1 C).1≠0→E5 C=([],(A1 C).1):=fun h=>if_neg h
 have f2:(A1 C).1=0→E5 C=(Bt C,0):=fun h=>if_pos h
 have t4:=fun h=>JI (C:=C) (Dk (KU h)).1
 have t5:=fun h=>Gm (Gw C) (by have:=Ie (Dk (KU (C:=C) h)).1;rw [← Dg,CD];omega)
 simp only [Ah.enc] at t1 t2 t3 t4
 by_cases hw:(A1 C).1=0
 ·have t4:=t4 hw
  have t5:=t5 hw
  rw [f2 hw] at t1 t3
  rw [hw] at t2
  clear f1 f2
  refine AD rG (by simp [RU]) fun rp=>?_;unfold RU;simp (disch:=omega)only[go_sem, *]
  refine Pf.go (t1) (by simp only [go_sem]) fun _=>?_;simp (disch:=omega)only[go_sem, *]
  refine Pf.go (t2) (by simp only [go_sem]) fun _=>?_;simp (disch:=omega)only[go_sem, *]
  refine Pf.go (t4) (by simp only [go_sem]) fun _=>?_;simp (disch:=omega)only[go_sem, *]
  refine Pf.go (t3) (by simp only [go_sem]) fun _=>?_;simp (disch:=omega)only[go_sem, *]
  refine Pf.go (t5) (by simp only [go_sem]) fun _=>?_;simp (disch:=omega)only[go_sem, *]
 ·rw [f1 hw] at t1 t3
  clear f1 f2 t4 t5
  refine AD rG (by simp [RU]) fun rp=>?_;unfold RU;simp (disch:=omega)only[go_sem, *]
  refine Pf.go (t1) (by simp only [go_sem]) fun _=>?_;simp (disch:=omega)only[go_sem, *]
  refine Pf.go (t2) (by simp only [go_sem]) fun _=>?_;simp (disch:=omega)only[go_sem, *]
  refine Pf.go (t3) (by simp only [go_sem]) fun _=>?_;simp (disch:=omega)only[go_sem, *]
end Go.Ab.T
namespace Go.Ab.T
open Go Go.Ab
set_option maxHeartbeats 4000000
attribute [go_sem] FO
theorem Made.small {C:Ah} (m:Made C):Cb 10 C:=by
 obtain ⟨⟨h1,h2,h3,h4,h5⟩,hp,hc,ht⟩:=Dl.1 m.wh
 refine ⟨h1,h2,by omega,by omega,fun t hx=>?_,fun p hx=>?_,m.nm⟩
 ·have:=(D0.1 (ht t hx)).1.right
  have:=((FB t).1 this).1
  omega
 ·obtain ⟨i,hi,rfl⟩:=List.mem_iff_getElem.1 hx
  have:=(hp i hi).2.2
  rw [BX hi] at this
  unfold EX at this
  simp only [Bool.and_eq_true] at this
  have:=this.1.1
  unfold CG at this
  simp only [Bool.and_eq_true,decide_eq_true_eq] at this
  omega
end Go.Ab.T
namespace Go.Ab.T
open Go Go.Ab
set_option maxHeartbeats 4000000
end Go.Ab.T
