/- Part of a proof that a law returns true for every input of the second form's bound (no other condition). -/
import Derived.Test.YtcjjajphbamjlaaGreatPI
import Derived.Test.YtcjjajphbamjlaaGreatPH
set_option linter.all false
namespace Go.Ab.T
open Go Go.Ab
set_option maxHeartbeats 2000000
@[go_sem] def Bs (s:Rd):BU:=⟨2,[[.fl 1 (s.b.map Aj),.b s.bad]]⟩
theorem HS {h:AH} {id:Nat} {s:Rd} {K:V→AH→Prop} (hg:h.get id=some (Bs s)) (hb:Az s.b) (hlo:h.lim≤id) (kk:K (.i .i64 (BD s).1) (h.put id (Bs (BD s).2))):Cq tp Ta [.p id 0 0] h K:=by
 obtain ⟨b,bad⟩:=s
 have hg1:=SQ hb
 have hbd:=GL (b:=b)
 have f1:bad=true∨(Bg b).2=0→BD ⟨b,bad⟩=(0,⟨b,true⟩):=fun q=>if_pos q
 have f2:¬ (bad=true∨(Bg b).2=0)→BD ⟨b,bad⟩=((Bg b).1,⟨b.drop (Bg b).2,bad⟩):=fun q=>if_neg q
 have mk:∀ n,List.drop n (b.map Aj)=(b.drop n).map Aj:=fun n=>List.map_drop.symm
 simp only [Bs] at hg
 refine ER aGG (by simp [PS]) ((by rw [hg];rfl)) (fun _ _ _=>.cons _ _ _ _ _ (BS.of_stay rfl) (.nil _)) (kk) fun hlm hid rp=>?_;unfold PS;simp (disch:=omega)only[go_sem, *]
 refine Pf.go (hg1) (by simp only [go_sem]) fun _=>?_;simp (disch:=omega)only[go_sem, *]
 clear hg1
 generalize Bg b=p at *
 obtain ⟨n,k⟩:=p
 simp only at f1 f2 hbd
 have ml:List.take (b.length - k) ((b.drop k).map Aj)=(b.drop k).map Aj:=List.take_of_length_le (by simp)
 cases bad with
 | true=>
  have e:=f1 (.inl rfl)
  clear f1 f2
  simp (disch:=omega)only[go_sem, *]
  exact Bd (EI.same hg)
 | false=>
  simp (disch:=omega)only[go_sem, *]
  refine Aa (fun hc=>?_) (fun hc=>?_)
  ·have e:=f1 (.inr (by omega))
   clear f1 f2
   simp (disch:=omega)only[go_sem, *]
   exact Bd (EI.same hg)
  ·have e:=f2 (by simp;omega)
   clear f1 f2
   simp (disch:=omega)only[go_sem, *]
   exact Bd (EI.same hg)
theorem Az.drop {n:Nat} {l:List Int} (h:Az l):Az (l.drop n):=fun z hz=>h z (List.mem_of_mem_drop hz)
theorem Az.num {s:Rd} (h:Az s.b):Az (BD s).2.b:=by
 unfold BD;split
 ·exact h
 ·exact h.drop
theorem Az.cnt {m:Int} {s:Rd} (h:Az s.b):Az (AI m s).2.b:=by
 unfold AI;split
 ·exact h.num
 ·exact h.num
theorem Az.flag {s:Rd} (h:Az s.b):Az (DD s).2.b:=h.cnt
theorem Az.text {m:Int} {s:Rd} (h:Az s.b):Az (DL m s).2.b:=by
 unfold DL;split
 ·exact h
 ·exact h.drop
theorem Bi {h:AH} {id:Nat} {s:Rd} {m:Int} {K:V→AH→Prop} (hg:h.get id=some (Bs s)) (hb:Az s.b) (hlo:h.lim≤id) (kk:K (.i .i64 (AI m s).1) (h.put id (Bs (AI m s).2))):Cq tp Ji [.p id 0 0,.i .i64 m] h K:=by
 have f1:(BD s).1<0∨m<(BD s).1→AI m s=(0,⟨(BD s).2.b,true⟩):=fun q=>if_pos q
 have f2:¬ ((BD s).1<0∨m<(BD s).1)→AI m s=BD s:=fun q=>if_neg q
 refine ER aGD (by simp [PN]) ((by rw [hg];rfl)) (fun _ _ _=>.cons _ _ _ _ _ (BS.of_stay rfl) (.nil _)) (kk) fun hlm hid rp=>?_;unfold PN;simp (disch:=omega)only[go_sem, *]
 refine HS hg hb hlo ?_
 have hu:=Bd (b':=Bs (BD s).2) (EI.same hg)
 simp only [Bs] at hu
 generalize BD s=p at *
 obtain ⟨n,b,bad⟩:=p
 simp only at f1 f2 hu
 simp (disch:=omega)only[go_sem, *]
 refine Aq (fun hc=>?_) (fun hc=>?_)
 ·have e:=f1 (.inl hc)
  clear f1 f2
  simp (disch:=omega)only[go_sem, *]
  exact Bd (EI.same hg)
 ·simp (disch:=omega)only[go_sem, *]
  refine Aa (fun hc2=>?_) (fun hc2=>?_)
  ·have e:=f1 (.inr hc2)
   clear f1 f2
   simp (disch:=omega)only[go_sem, *]
   exact Bd (EI.same hg)
  ·have e:=f2 (by omega)
   clear f1 f2
   simp (disch:=omega)only[go_sem, *]
theorem IB {h:AH} {id:Nat} {s:Rd} {K:V→AH→Prop} (hg:h.get id=some (Bs s)) (hb:Az s.b) (hlo:h.lim≤id) (kk:K (.b (DD s).1) (h.put id (Bs (DD s).2))):Cq tp S9 [.p id 0 0] h K:=by
 refine ER aGF (by simp [PQ]) ((by rw [hg];rfl)) (fun _ _ _=>.cons _ _ _ _ _ (BS.of_stay rfl) (.nil _)) (kk) fun hlm hid rp=>?_;unfold PQ;simp (disch:=omega)only[go_sem, *]
 refine Bi hg hb hlo ?_
 have hu:=Bd (b':=Bs (AI 1 s).2) (EI.same hg)
 simp only [Bs] at hu
 unfold DD
 simp (disch:=omega)only[go_sem, *]
theorem Ui {h:AH} {id:Nat} {s:Rd} {m:Int} {K:V→AH→Prop} (hg:h.get id=some (Bs s)) (hb:Az s.b) (hm:m≤1000) (hlo:h.lim≤id) (kk:K (.s (DL m s).1) (h.put id (Bs (DL m s).2))):Cq tp MO [.p id 0 0,.i .i64 m] h K:=by
 obtain ⟨b,bad⟩:=s
 have hg1:=iY hb hm
 have hbd:(DN b m).2≤b.length:=by
  have:=GL (b:=b)
  unfold DN
  split
  ·simp
  ·rename_i q
   simp only
   omega
 have f1:bad=true∨(DN b m).2=0→DL m ⟨b,bad⟩=(⟨#[]⟩,⟨b,true⟩):=fun q=>if_pos q
 have f2:¬ (bad=true∨(DN b m).2=0)→DL m ⟨b,bad⟩=(bC (DN b m).1,⟨b.drop (DN b m).2,bad⟩):=fun q=>if_neg q
 have mk:∀ n,List.drop n (b.map Aj)=(b.drop n).map Aj:=fun n=>List.map_drop.symm
 simp only [Bs] at hg
 refine ER kF (by simp [KU]) ((by rw [hg];rfl)) (fun _ _ _=>.cons _ _ _ _ _ (BS.of_stay rfl) (.nil _)) (kk) fun hlm hid rp=>?_;unfold KU;simp (disch:=omega)only[go_sem, *]
 refine Pf.go (hg1) (by simp only [go_sem]) fun _=>?_;simp (disch:=omega)only[go_sem, *]
 clear hg1
 generalize DN b m=p at *
 obtain ⟨n,k⟩:=p
 simp only at f1 f2 hbd
 have ml:List.take (b.length - k) ((b.drop k).map Aj)=(b.drop k).map Aj:=List.take_of_length_le (by simp)
 cases bad with
 | true=>
  have e:=f1 (.inl rfl)
  clear f1 f2
  simp (disch:=omega)only[go_sem, *]
  exact Bd (EI.same hg)
 | false=>
  simp (disch:=omega)only[go_sem, *]
  refine Aa (fun hc=>?_) (fun hc=>?_)
  ·have e:=f1 (.inr (by omega))
   clear f1 f2
   simp (disch:=omega)only[go_sem, *]
   exact Bd (EI.same hg)
  ·have e:=f2 (by simp;omega)
   clear f1 f2
   simp (disch:=omega)only[go_sem, *]
   exact Bd (EI.same hg)
end Go.Ab.T
namespace Go.Ab.T
open Go Go.Ab
set_option maxHeartbeats 4000000
theorem Fm {m:Int} {s:Rd} (h:0≤m):0≤(AI m s).1∧(AI m s).1≤m:=by
 unfold AI
 split
 ·exact ⟨Int.le_refl 0,h⟩
 ·omega
theorem aHJ {K : Ex → Env → AH → Prop} {e : Env} {h hh : AH} {id n : Nat} {s : Rd} {P : List AN × Rd} {r0 : List V} {a b c d f g0 g1 g2 g3 g4 : V} (hid : id < h.next) (hlo : h.lim ≤ id) (hn : n ≤ 3) (hP : Cw n [] s = P) (hb : Az s.b)
    (l0:hh.lim=h.lim) (n0:h.next+2≤hh.next) (q0:hh.get id=some (Bs s)) (q1:hh.get h.next=some ⟨11,[r0]⟩) (q2:hh.get (h.next+1)=some ⟨11,[[a,b,c,d,f,.ns,g0,g1,g2,g3,g4]]⟩) (fr:∀ j,j<h.next→j≠id→hh.get j=h.get j)
    (e0:e 0=.p id 0 0) (e2:e 2=.p h.next 0 0) (e3:e 3=.p (h.next+1) 0 0) (e17:e 17=.i .i64 n) (e18:e 18=.i .i64 0)
    (kk:∀ (e:Env) (hh:AH) (v:V),hh.lim=h.lim→h.next+2≤hh.next→hh.get id=some (Bs P.2)→Az P.2.b→hh.get h.next=some ⟨11,[r0]⟩→hh.get (h.next+1)=some ⟨11,[[a,b,c,d,f,v,g0,g1,g2,g3,g4]]⟩→(∀ j,j<h.next→j≠id→hh.get j=h.get j)→Sl (h.next+2) hh 2 v (P.1.map AN.enc)→P.1.length≤3→e 0=.p id 0 0→e 2=.p h.next 0 0→e 3=.p (h.next+1) 0 0→K (.ex 0) e hh):ZC tp (.loop Wd) e hh K:=by
 refine Ae (fun n' e hh=>∃ (i:Nat) (v:V) (A:List AN) (s:Rd),n'=n - i∧hh.lim=h.lim∧h.next+2≤hh.next∧hh.get id=some (Bs s)∧Az s.b∧hh.get h.next=some ⟨11,[r0]⟩∧hh.get (h.next+1)=some ⟨11,[[a,b,c,d,f,v,g0,g1,g2,g3,g4]]⟩∧(∀ j,j<h.next→j≠id→hh.get j=h.get j)∧Sl (h.next+2) hh 2 v (A.map AN.enc)∧A.length=i∧i≤n∧Cw (n - i) A s=P∧e 0=.p id 0 0∧e 2=.p h.next 0 0∧e 3=.p (h.next+1) 0 0∧e 17=.i .i64 n∧e 18=.i .i64 i) ?_ _ _ _ ⟨0,.ns,[],s,rfl,l0,n0,q0,hb,q1,q2,fr,Sl.nil _ _ _,rfl,by omega,hP,e0,e2,e3,e17,e18⟩
 clear l0 n0 q0 q1 q2 fr e0 e2 e3 e17 e18 e hh hb hP s
 rintro n' e hh ⟨i,v,A,s,rfl,l0,n0,q0,hb,q1,q2,fr,sl,hA,hi,hP,e0,e2,e3,e17,e18⟩ ih
 have hsv:=Sl.sameV sl
 have hown:=As sl
 obtain ⟨wlen,wbig,wlt,wlo,wget,FO,wrow,wcell,wcells⟩:=sl.facts
 clear wlt wlo wget FO wrow
 rw [Ai Wd.eq_1]
 simp (disch:=omega)only[go_sem, *]
 refine Aa (fun hc=>?_) (fun hc=>?_)
 ·have hni:n - i=(n - (i+1))+1:=by omega
  rw [hni,Cw] at hP
  have b1:=hb.cnt (m:=512)
  have b2:=b1.cnt (m:=255)
  simp (disch:=omega)only[go_sem, *]
  refine Bi (s:=s) (m:=512) ?_ hb ?_ ?_
  ·simp (disch:=omega)only[go_sem, *]
  ·simp (disch:=omega)only[go_sem, *]
  generalize AI 512 s=t1 at *
  have q0':(hh.put id (Bs t1.2)).get id=some (Bs t1.2):=by rw [Ad,AC rfl]
  simp (disch:=omega)only[go_sem, *]
  refine Bi (s:=t1.2) (m:=255) ?_ b1 ?_ ?_
  ·simp (disch:=omega)only[go_sem, *]
  ·simp (disch:=omega)only[go_sem, *]
  generalize AI 255 t1.2=t2 at *
  have sl2:=AA sl id (Bs t2.2) (hown.imp (fun x=>x) (fun x=>by omega))
  simp only [Bs] at sl2
  simp (disch:=omega)only[go_sem, *]
  refine Ap (N:=[AN.enc ⟨t1.1,t2.1⟩]) (Sl.alloc sl2 ⟨2,[AN.enc ⟨t1.1,t2.1⟩]⟩) ?_ ?_ ?_ ?_
  ·rw [AL,CV];omega
  ·rw [Ag,AB];omega
  ·simp;omega
  intro w h4 s4 g4
  have hl4:=g4.lim
  have hn4:=g4.next
  have lo4:∀ j,j<h.next+2→h4.get j=if j=id then some (Bs t2.2) else hh.get j:=fun j hj=>by
   rw [g4.low j hj,AM,Ac (by rw [AB];omega),Ad]
   by_cases hq:j=id
   ·rw [AC hq,if_pos hq];rfl
   ·rw [Ac hq,if_neg hq]
  have s5:Sl (h.next+2) h4 2 w ((A++[(⟨t1.1,t2.1⟩:AN)]).map AN.enc):=by simpa using s4
  rw [AL,CV] at hl4
  rw [Ag,AB] at hn4
  have p0:=lo4 id (by omega)
  rw [if_pos rfl] at p0
  have p1:=lo4 h.next (by omega)
  rw [if_neg (by omega),q1] at p1
  have p2:=lo4 (h.next+1) (by omega)
  rw [if_neg (by omega),q2] at p2
  have fr4:∀ j,j<h.next→j≠id→h4.get j=h.get j:=fun j hj hne=>by rw [lo4 j (by omega),if_neg hne];exact fr j hj hne
  obtain ⟨_,_,_,_,_,_,_,xc1,xc2⟩:=s5.facts
  have so5:=As s5
  clear s4 g4 sl2 sl lo4 q0 q0' q1 q2 fr hsv wlen wbig wcell wcells
  simp (disch:=omega)only[go_sem, *]
  have s6:=AA s5 (h.next+1) ⟨11,[[a,b,c,d,f,w,g0,g1,g2,g3,g4]]⟩ (so5.imp (fun x=>x) (fun x=>by omega))
  refine ih _ _ _ ?_ ⟨i+1,w,A++[⟨t1.1,t2.1⟩],t2.2,rfl, ?_⟩
  ·omega
  ·clear ih kk s5
   simp (disch:=omega)only[go_sem, *]
   all_goals ((repeat' refine And.intro ?_ ?_)<;>first | omega | assumption | (exact s6) | (exact b2) | ((simp;omega)) | (exact hP) | ((intro j hj hne;rw [Ac (by omega)];exact fr4 j hj hne)))
 ·have h0:n - i=0:=by omega
  rw [h0,Cw] at hP
  subst hP
  simp (disch:=omega)only[go_sem, *]
  exact kk _ _ v l0 n0 q0 hb q1 q2 fr sl (show A.length≤3 by omega) e0 e2 e3
theorem RK {h:AH} {id:Nat} {s:Rd} {K:V→AH→Prop} (hg:h.get id=some (Bs s)) (hb:Az s.b) (hlo:h.lim≤id) (kk:K (.agg (Da s).1.enc) (h.put id (Bs (Da s).2))):Cq tp S8 [.p id 0 0] h K:=by
 refine ER aGE (by simp [PP]) ((by rw [hg];rfl)) (fun _ _ _=>.cons _ _ _ _ _ (BS.of_stay rfl) (.nil _)) (kk) fun hlm hid rp=>?_;unfold PP;simp (disch:=omega)only[go_sem, *]
 clear kk
 have hgf:h.get id=some ⟨2,[[.fl 1 (s.b.map Aj),.b s.bad]]⟩:=hg
 have hun:=hid
 refine Ui (s:=s) (m:=12) ?_ hb (by omega) ?_ ?_
 ·simp (disch:=omega)only[go_sem, *]
 ·simp (disch:=omega)only[go_sem, *]
 have b1:=hb.text (m:=12)
 obtain ⟨t1,ht1⟩:∃ x,DL 12 s=x:=⟨_,rfl⟩
 rw [ht1] at b1 ⊢
 simp (disch:=omega)only[go_sem, *]
 refine HS (s:=t1.2) ?_ b1 ?_ ?_
 ·simp (disch:=omega)only[go_sem, *]
 ·simp (disch:=omega)only[go_sem, *]
 have b2:=b1.num
 obtain ⟨t2,ht2⟩:∃ x,BD t1.2=x:=⟨_,rfl⟩
 rw [ht2] at b2 ⊢
 simp (disch:=omega)only[go_sem, *]
 refine HS (s:=t2.2) ?_ b2 ?_ ?_
 ·simp (disch:=omega)only[go_sem, *]
 ·simp (disch:=omega)only[go_sem, *]
 have b3:Az (BD t2.2).2.b:=by first | exact Az.num b2 | exact Az.flag b2 | exact Az.cnt b2
 obtain ⟨t3,ht3⟩:∃ x,BD t2.2=x:=⟨_,rfl⟩
 rw [ht3] at b3 ⊢
 simp (disch:=omega)only[go_sem, *]
 refine IB (s:=t3.2) ?_ b3 ?_ ?_
 ·simp (disch:=omega)only[go_sem, *]
 ·simp (disch:=omega)only[go_sem, *]
 have b4:Az (DD t3.2).2.b:=by first | exact Az.num b3 | exact Az.flag b3 | exact Az.cnt b3
 obtain ⟨t4,ht4⟩:∃ x,DD t3.2=x:=⟨_,rfl⟩
 rw [ht4] at b4 ⊢
 simp (disch:=omega)only[go_sem, *]
 refine IB (s:=t4.2) ?_ b4 ?_ ?_
 ·simp (disch:=omega)only[go_sem, *]
 ·simp (disch:=omega)only[go_sem, *]
 have b5:Az (DD t4.2).2.b:=by first | exact Az.num b4 | exact Az.flag b4 | exact Az.cnt b4
 obtain ⟨t5,ht5⟩:∃ x,DD t4.2=x:=⟨_,rfl⟩
 rw [ht5] at b5 ⊢
 simp (disch:=omega)only[go_sem, *]
 refine Bi (s:=t5.2) ?_ b5 ?_ ?_
 ·simp (disch:=omega)only[go_sem, *]
 ·simp (disch:=omega)only[go_sem, *]
 have b6:Az (AI 3 t5.2).2.b:=by first | exact Az.num b5 | exact Az.flag b5 | exact Az.cnt b5
 obtain ⟨t6,ht6⟩:∃ x,AI 3 t5.2=x:=⟨_,rfl⟩
 rw [ht6] at b6 ⊢
 have c6:0≤t6.1∧t6.1≤3:=by rw [← ht6];exact Fm (by omega)
 obtain ⟨n6,hn6⟩:∃ n:Nat,t6.1=n:=⟨t6.1.toNat,by omega⟩
 obtain ⟨t7,ht7⟩:∃ x,Cw n6 [] t6.2=x:=⟨_,rfl⟩
 simp (disch:=omega)only[go_sem, *]
 refine aHJ (h:=h) (id:=id) (n:=n6) (s:=t6.2) (P:=t7) (r0:=[.s ⟨#[]⟩,.i .i64 0,.i .i64 0,.b false,.b false,.ns,.i .i64 0,.i .i64 0,.i .i64 0,.i .i64 0,.i .i64 0]) (a:=.s t1.1) (b:=.i .i64 t2.1) (c:=.i .i64 t3.1) (d:=.b t4.1) (f:=.b t5.1) (g0:=.i .i64 0) (g1:=.i .i64 0) (g2:=.i .i64 0) (g3:=.i .i64 0) (g4:=.i .i64 0) hid hlo (by omega) ht7 b6 ?_ ?_ ?_ ?_ ?_ ?_ ?_ ?_ ?_ ?_ ?_ ?_
 any_goals (simp (disch:=omega)only[go_sem, *];done)
 try (any_goals (simp (disch:=omega)only[go_sem, *]<;>omega))
 ·intro j hj hne
  simp (disch:=omega)only[go_sem, *]
 clear b1 b2 b3 b4 b5 b6 hg hgf c6
 intro e hh v l0 n0 q0 b7 q1 q2 fr sl hpl e0 e2 e3
 simp only [Bs] at q0
 have hown:=As sl
 obtain ⟨_,_,_,_,_,_,_,wc1,wc2⟩:=sl.facts
 simp (disch:=omega)only[go_sem, *]
 refine Bc ?_
 rw [Ai Hi.eq_1]
 simp (disch:=omega)only[go_sem, *]
 refine Bi (s:=t7.2) ?_ b7 ?_ ?_
 ·simp (disch:=omega)only[go_sem, *]
 ·simp (disch:=omega)only[go_sem, *]
 have b8:Az (AI 2 t7.2).2.b:=by first | exact Az.num b7 | exact Az.flag b7 | exact Az.cnt b7
 obtain ⟨t8,ht8⟩:∃ x,AI 2 t7.2=x:=⟨_,rfl⟩
 rw [ht8] at b8 ⊢
 simp (disch:=omega)only[go_sem, *]
 refine Bc ?_
 rw [Ai Hi.eq_1]
 simp (disch:=omega)only[go_sem, *]
 refine Bi (s:=t8.2) ?_ b8 ?_ ?_
 ·simp (disch:=omega)only[go_sem, *]
 ·simp (disch:=omega)only[go_sem, *]
 have b9:Az (AI 2 t8.2).2.b:=by first | exact Az.num b8 | exact Az.flag b8 | exact Az.cnt b8
 obtain ⟨t9,ht9⟩:∃ x,AI 2 t8.2=x:=⟨_,rfl⟩
 rw [ht9] at b9 ⊢
 simp (disch:=omega)only[go_sem, *]
 refine Bc ?_
 rw [Ai Hi.eq_1]
 simp (disch:=omega)only[go_sem, *]
 refine Bi (s:=t9.2) ?_ b9 ?_ ?_
 ·simp (disch:=omega)only[go_sem, *]
 ·simp (disch:=omega)only[go_sem, *]
 have b10:Az (AI 2 t9.2).2.b:=by first | exact Az.num b9 | exact Az.flag b9 | exact Az.cnt b9
 obtain ⟨t10,ht10⟩:∃ x,AI 2 t9.2=x:=⟨_,rfl⟩
 rw [ht10] at b10 ⊢
 simp (disch:=omega)only[go_sem, *]
 refine Bc ?_
 rw [Ai Hi.eq_1]
 simp (disch:=omega)only[go_sem, *]
 refine Bi (s:=t10.2) ?_ b10 ?_ ?_
 ·simp (disch:=omega)only[go_sem, *]
 ·simp (disch:=omega)only[go_sem, *]
 have b11:Az (AI 2 t10.2).2.b:=by first | exact Az.num b10 | exact Az.flag b10 | exact Az.cnt b10
 obtain ⟨t11,ht11⟩:∃ x,AI 2 t10.2=x:=⟨_,rfl⟩
 rw [ht11] at b11 ⊢
 simp (disch:=omega)only[go_sem, *]
 refine Bc ?_
 rw [Ai Hi.eq_1]
 simp (disch:=omega)only[go_sem, *]
 refine Bi (s:=t11.2) ?_ b11 ?_ ?_
 ·simp (disch:=omega)only[go_sem, *]
 ·simp (disch:=omega)only[go_sem, *]
 have b12:Az (AI 2 t11.2).2.b:=by first | exact Az.num b11 | exact Az.flag b11 | exact Az.cnt b11
 obtain ⟨t12,ht12⟩:∃ x,AI 2 t11.2=x:=⟨_,rfl⟩
 rw [ht12] at b12 ⊢
 simp (disch:=omega)only[go_sem, *]
 have hps:Da s=(⟨t1.1,t2.1,t3.1,t4.1,t5.1,t7.1,t8.1,t9.1,t10.1,t11.1,t12.1⟩,t12.2):=by
  unfold Da
  simp only [ht1,ht2,ht3,ht4,ht5,ht6,hn6,Int.toNat_natCast,ht7,ht8,ht9,ht10,ht11,ht12]
 refine Bc ?_
 rw [Ai Hi.eq_1]
 clear ht1 ht2 ht3 ht4 ht5 ht6 ht7 ht8 ht9 ht10 ht11 ht12
 have key:∀ (H:AH) (k:BU),H.next=hh.next→H.lim=hh.lim→(∀ j,h.next+2≤j→H.get j=hh.get j)→H.get id=some k→(∀ j,j<h.next→j≠id→H.get j=hh.get j)→CA (fun x=>h.next≤x) H h.next v (.fl 2 (t7.1.map AN.enc))∧EI h id k H:=by
  intro H k k1 k2 k3 k4 k5
  have sl':Sl (h.next+2) H 2 v (t7.1.map AN.enc):=by
   rcases hown with q | q
   ·rcases sl with ⟨a,b⟩ | ⟨_,_,_,_,rfl,_⟩
    ·exact .inl ⟨a,b⟩
    ·cases q
   ·exact sl.same (by omega) (fun _=>k3 _ q)
  exact ⟨Sl.frzb (Sl.weak sl' (Nat.le_add_right _ _)) (fun _=>rfl) (by omega),⟨by omega,by omega,k4,fun j hj hne=>by rw [k5 j hj hne];exact fr j hj hne⟩⟩
 clear hown sl fr
 simp (disch:=omega)only[go_sem, *]
 refine key _ _ ?_ ?_ ?_ ?_ ?_
 ·simp (disch:=omega)only[go_sem, *]
 ·simp (disch:=omega)only[go_sem, *]
 ·intro j hj;simp (disch:=omega)only[go_sem, *]
 ·simp (disch:=omega)only[go_sem, *]
 ·intro j hj hne;simp (disch:=omega)only[go_sem, *]
end Go.Ab.T
namespace Go.Ab.T
open Go Go.Ab
set_option maxHeartbeats 4000000
structure RS (h:AH) (id bx:Nat) (s:Rd) (row:List V) (hh:AH):Prop where
 i1:id<h.next
 i2:bx<h.next
 i3:id≠bx
 lim:hh.lim=h.lim
 next:h.next≤hh.next
 rd:hh.get id=some (Bs s)
 isb:Az s.b
 q:hh.get bx=some ⟨3,[row]⟩
 fr:∀ j,j<h.next→j≠id→j≠bx→hh.get j=h.get j
section
variable {h hh h4:AH} {id bx sz:Nat} {s s2:Rd} {row:List V} {v w:V} {k:BU}
theorem RS.put (rs:RS h id bx s row hh) (hb:Az s2.b):RS h id bx s2 row (hh.put id (Bs s2)):=
 ⟨rs.i1,rs.i2,rs.i3,rs.lim,rs.next,by rw [Ad,AC rfl],hb,by rw [Ad,Ac rs.i3.symm];exact rs.q,fun j hj hne hne2=>by rw [Ad,Ac hne];exact rs.fr j hj hne hne2⟩
theorem RS.box {row':List V} (rs:RS h id bx s row hh):RS h id bx s row' (hh.put bx ⟨3,[row']⟩):=
 ⟨rs.i1,rs.i2,rs.i3,rs.lim,rs.next,by rw [Ad,Ac rs.i3];exact rs.rd,rs.isb,by rw [Ad,AC rfl],fun j hj hne hne2=>by rw [Ad,Ac hne2];exact rs.fr j hj hne hne2⟩
theorem RS.putx {j:Nat} (rs:RS h id bx s row hh) (hj:h.next≤j):RS h id bx s row (hh.put j k):=by
 have a:=rs.i1;have b:=rs.i2
 exact ⟨rs.i1,rs.i2,rs.i3,rs.lim,rs.next,by rw [Ad,Ac (by omega)];exact rs.rd,rs.isb,by rw [Ad,Ac (by omega)];exact rs.q,fun i hi hne hne2=>by rw [Ad,Ac (by omega)];exact rs.fr i hi hne hne2⟩
theorem RS.new (rs:RS h id bx s row hh):RS h id bx s row (hh.alloc k):=by
 have a:=rs.i1;have b:=rs.i2;have n:=rs.next
 exact ⟨rs.i1,rs.i2,rs.i3,rs.lim,by rw [Ag];omega,by rw [AM,Ac (by omega)];exact rs.rd,rs.isb,by rw [AM,Ac (by omega)];exact rs.q,fun i hi hne hne2=>by rw [AM,Ac (by omega)];exact rs.fr i hi hne hne2⟩
theorem RS.app (rs:RS h id bx s row hh) (g:Grown h.next hh v w h4):RS h id bx s row h4:=by
 have n:=rs.next
 have n2:=g.next
 exact ⟨rs.i1,rs.i2,rs.i3,g.lim.trans rs.lim,by omega,by rw [g.low _ rs.i1];exact rs.rd,rs.isb,by rw [g.low _ rs.i2];exact rs.q,fun i hi hne hne2=>by rw [g.low _ hi];exact rs.fr i hi hne hne2⟩
end
theorem Az.procs:∀ (n:Nat) (A:List AN) (s:Rd),Az s.b→Az (Cw n A s).2.b
 | 0,_,_,h=>h
 | n+1,A,s,h=>by unfold Cw;exact Az.procs n _ _ h.cnt.cnt
theorem Az.part {s:Rd} (h:Az s.b):Az (Da s).2.b:=by
 unfold Da
 exact (Az.procs _ _ _ h.text.num.num.flag.flag.cnt).cnt.cnt.cnt.cnt.cnt
theorem aHQ {K : Ex → Env → AH → Prop} {e : Env} {h hh : AH} {id bx n : Nat} {s : Rd} {P : List Part × Rd} {v2 : V} (hlo : h.lim ≤ id) (hlb : h.lim ≤ bx) (hn : n ≤ 6) (hP : Cv n [] s = P) (rs : RS h id bx s [.ns, .ns, .ns] hh)
    (e0:e 0=.p id 0 0) (e2:e 2=v2) (e3:e 3=.p bx 0 0) (e7:e 7=.i .i64 n) (e8:e 8=.i .i64 0)
    (kk:∀ (e:Env) (hh:AH) (v:V),RS h id bx P.2 [v,.ns,.ns] hh→Sl h.next hh 11 v (P.1.map Part.enc)→P.1.length≤6→e 0=.p id 0 0→e 2=v2→e 3=.p bx 0 0→K (.ex 0) e hh):ZC tp (.loop VV) e hh K:=by
 refine Ae (fun n' e hh=>∃ (i:Nat) (v:V) (A:List Part) (s:Rd),n'=n - i∧RS h id bx s [v,.ns,.ns] hh∧Sl h.next hh 11 v (A.map Part.enc)∧A.length=i∧i≤n∧Cv (n - i) A s=P∧e 0=.p id 0 0∧e 2=v2∧e 3=.p bx 0 0∧e 7=.i .i64 n∧e 8=.i .i64 i) ?_ _ _ _ ⟨0,.ns,[],s,rfl,rs,Sl.nil _ _ _,rfl,by omega,hP,e0,e2,e3,e7,e8⟩
 clear rs e0 e2 e3 e7 e8 e hh hP s
 rintro n' e hh ⟨i,v,A,s,rfl,rs,sl,hA,hi,hP,e0,e2,e3,e7,e8⟩ ih
 have rs0:=rs
 obtain ⟨i1,i2,i3,l0,n0,q0,hb,q2,fr⟩:=rs
 have hsv:=Sl.sameV sl
 have hown:=As sl
 rw [Ai VV.eq_1]
 simp (disch:=omega)only[go_sem, *]
 refine Aa (fun hc=>?_) (fun hc=>?_)
 ·have hni:n - i=(n - (i+1))+1:=by omega
  rw [hni,Cv] at hP
  have b1:Az (Da s).2.b:=hb.part
  simp (disch:=omega)only[go_sem, *]
  refine RK (s:=s) ?_ hb ?_ ?_
  ·simp (disch:=omega)only[go_sem, *]
  ·simp (disch:=omega)only[go_sem, *]
  generalize Da s=t at *
  obtain ⟨p,s2⟩:=t
  simp only at hP b1 ⊢
  have sl2:=AA sl id (Bs s2) (hown.imp (fun x=>x) (fun x=>by omega))
  have rs2:=rs0.put b1
  have hen:p.enc=[.s p.name,.i .i64 p.budget,.i .i64 p.period,.b p.sched,.b p.stop,.fl 2 (p.procs.map AN.enc),.i .i64 p.h0,.i .i64 p.h1,.i .i64 p.h2,.i .i64 p.h3,.i .i64 p.h4]:=rfl
  simp only [Bs] at sl2 rs2
  simp (disch:=omega)only[go_sem, *]
  clear l0 n0 q0 q2 fr rs0 hsv i1 i2 i3
  refine Ap (N:=[Part.enc p]) (Sl.alloc sl2 ⟨11,[Part.enc p]⟩) ?_ ?_ ?_ ?_
  ·rw [AL];have:=rs2.lim;have:=rs2.i1;omega
  ·rw [Ag];have:=rs2.next;omega
  ·simp;omega
  intro w h4 s4 g4
  have rs5:=(rs2.new (k:=⟨11,[Part.enc p]⟩)).app g4
  have s5:Sl h.next h4 11 w ((A++[p]).map Part.enc):=by simpa using s4
  have so5:=As s5
  obtain ⟨_,_,_,_,_,_,_,xc1,xc2⟩:=s5.facts
  clear s4 g4 sl2 rs2
  obtain ⟨i1,i2,i3,l0,n0,q0,_,q2,_⟩:=rs5
  simp only [Bs] at q0
  simp (disch:=omega)only[go_sem, *]
  refine ih _ _ _ ?_ ⟨i+1,w,A++[p],s2,rfl,RS.box (row:=[v,.ns,.ns]) ⟨i1,i2,i3,l0,n0,q0,b1,q2,by assumption⟩,AA s5 bx _ (so5.imp (fun x=>x) (fun x=>by omega)),by simp;omega,by omega,hP, ?_⟩
  ·omega
  ·clear ih kk s5
   simp (disch:=omega)only[go_sem, *]
 ·have h0:n - i=0:=by omega
  rw [h0,Cv] at hP
  subst hP
  simp (disch:=omega)only[go_sem, *]
  exact kk _ _ v ⟨i1,i2,i3,l0,n0,q0,hb,q2,fr⟩ sl (show A.length≤6 by omega) e0 e2 e3
end Go.Ab.T
namespace Go.Ab.T
open Go Go.Ab
set_option maxHeartbeats 4000000
theorem Mb {b sz:Nat} {h:AH} {v:V} {R:List (List V)} (s:Sl b h sz v R):Bb v=true∨AW v<h.next:=by
 rcases s with ⟨hv,_⟩ | ⟨i,el,cap,cs,rfl,_,_,_,_,h1,_⟩
 ·rcases hv with rfl | rfl<;>exact .inl rfl
 ·exact .inr h1
theorem Az.chan {s:Rd} (h:Az s.b):Az (EC s).2.b:=by
 unfold EC
 exact h.cnt.cnt.flag.cnt.cnt.num
theorem mO {K : Ex → Env → AH → Prop} {e : Env} {h hh : AH} {id bx n : Nat} {s : Rd} {P : List Ar × Rd} {v2 a : V} (hlo : h.lim ≤ id) (hlb : h.lim ≤ bx) (hn : n ≤ 8) (hP : Cp n [] s = P) (rs : RS h id bx s [a, .ns, .ns] hh)
    (e0:e 0=.p id 0 0) (e2:e 2=v2) (e3:e 3=.p bx 0 0) (e19:e 19=.i .i64 n) (e20:e 20=.i .i64 0)
    (kk:∀ (e:Env) (hh:AH) (v:V),RS h id bx P.2 [a,v,.ns] hh→Sl h.next hh 6 v (P.1.map Ar.enc)→P.1.length≤8→e 0=.p id 0 0→e 2=v2→e 3=.p bx 0 0→K (.ex 2) e hh):ZC tp (.loop QO) e hh K:=by
 refine Ae (fun n' e hh=>∃ (i:Nat) (v:V) (A:List Ar) (s:Rd),n'=n - i∧RS h id bx s [a,v,.ns] hh∧Sl h.next hh 6 v (A.map Ar.enc)∧A.length=i∧i≤n∧Cp (n - i) A s=P∧e 0=.p id 0 0∧e 2=v2∧e 3=.p bx 0 0∧e 19=.i .i64 n∧e 20=.i .i64 i) ?_ _ _ _ ⟨0,.ns,[],s,rfl,rs,Sl.nil _ _ _,rfl,by omega,hP,e0,e2,e3,e19,e20⟩
 clear rs e0 e2 e3 e19 e20 e hh hP s
 rintro n' e hh ⟨i,v,A,s,rfl,rs,sl,hA,hi,hP,e0,e2,e3,e19,e20⟩ ih
 have rs0:=rs
 obtain ⟨i1,i2,i3,l0,n0,q0,hb,q2,fr⟩:=rs
 have hown:=As sl
 have hslt:=Mb sl
 simp only [Bs] at q0
 rw [Ai QO.eq_1]
 simp (disch:=omega)only[go_sem, *]
 refine Aa (fun hc=>?_) (fun hc=>?_)
 ·have hni:n - i=(n - (i+1))+1:=by omega
  rw [hni,Cp] at hP
  simp (disch:=omega)only[go_sem, *]
  refine Bi (s:=s) ?_ hb ?_ ?_
  ·simp (disch:=omega)only[go_sem, *]
  ·simp (disch:=omega)only[go_sem, *]
  have b1:Az (AI 6 s).2.b:=by first | exact Az.num hb | exact Az.flag hb | exact Az.cnt hb
  obtain ⟨t1,ht1⟩:∃ x,AI 6 s=x:=⟨_,rfl⟩
  rw [ht1] at b1 ⊢
  simp (disch:=omega)only[go_sem, *]
  refine Bi (s:=t1.2) ?_ b1 ?_ ?_
  ·simp (disch:=omega)only[go_sem, *]
  ·simp (disch:=omega)only[go_sem, *]
  have b2:Az (AI 6 t1.2).2.b:=by first | exact Az.num b1 | exact Az.flag b1 | exact Az.cnt b1
  obtain ⟨t2,ht2⟩:∃ x,AI 6 t1.2=x:=⟨_,rfl⟩
  rw [ht2] at b2 ⊢
  simp (disch:=omega)only[go_sem, *]
  refine IB (s:=t2.2) ?_ b2 ?_ ?_
  ·simp (disch:=omega)only[go_sem, *]
  ·simp (disch:=omega)only[go_sem, *]
  have b3:Az (DD t2.2).2.b:=by first | exact Az.num b2 | exact Az.flag b2 | exact Az.cnt b2
  obtain ⟨t3,ht3⟩:∃ x,DD t2.2=x:=⟨_,rfl⟩
  rw [ht3] at b3 ⊢
  simp (disch:=omega)only[go_sem, *]
  refine Bi (s:=t3.2) ?_ b3 ?_ ?_
  ·simp (disch:=omega)only[go_sem, *]
  ·simp (disch:=omega)only[go_sem, *]
  have b4:Az (AI 8 t3.2).2.b:=by first | exact Az.num b3 | exact Az.flag b3 | exact Az.cnt b3
  obtain ⟨t4,ht4⟩:∃ x,AI 8 t3.2=x:=⟨_,rfl⟩
  rw [ht4] at b4 ⊢
  simp (disch:=omega)only[go_sem, *]
  refine Bi (s:=t4.2) ?_ b4 ?_ ?_
  ·simp (disch:=omega)only[go_sem, *]
  ·simp (disch:=omega)only[go_sem, *]
  have b5:Az (AI 4294967295 t4.2).2.b:=by first | exact Az.num b4 | exact Az.flag b4 | exact Az.cnt b4
  obtain ⟨t5,ht5⟩:∃ x,AI 4294967295 t4.2=x:=⟨_,rfl⟩
  rw [ht5] at b5 ⊢
  simp (disch:=omega)only[go_sem, *]
  refine HS (s:=t5.2) ?_ b5 ?_ ?_
  ·simp (disch:=omega)only[go_sem, *]
  ·simp (disch:=omega)only[go_sem, *]
  have b6:Az (BD t5.2).2.b:=by first | exact Az.num b5 | exact Az.flag b5 | exact Az.cnt b5
  obtain ⟨t6,ht6⟩:∃ x,BD t5.2=x:=⟨_,rfl⟩
  rw [ht6] at b6 ⊢
  have hch:EC s=(⟨t1.1,t2.1,t3.1,t4.1,IntKind.wrap .u32 t5.1,t6.1⟩,t6.2):=by
   unfold EC
   simp only [ht1,ht2,ht3,ht4,ht5,ht6]
  rw [hch] at hP
  simp only at hP
  clear ht1 ht2 ht3 ht4 ht5 ht6 hch
  simp (disch:=omega)only[go_sem, *]
  have rs2:=(((rs0.put (s2:=t4.2) b4).new (k:=⟨6,[[.i .i64 0,.i .i64 0,.b false,.i .i64 0,.i .u32 0,.i .i64 0]]⟩)).putx (k:=⟨6,[[.i .i64 t1.1,.i .i64 t2.1,.b t3.1,.i .i64 t4.1,.i .u32 0,.i .i64 0]]⟩) n0).put (s2:=t6.2) b6
  have rs2:=rs2.putx (k:=⟨6,[[.i .i64 t1.1,.i .i64 t2.1,.b t3.1,.i .i64 t4.1,.i .u32 (IntKind.wrap .u32 t5.1),.i .i64 t6.1]]⟩) n0
  have sl2:=AA (Sl.alloc (AA sl id (Bs t4.2) (hown.imp (fun x=>x) (fun x=>by omega))) ⟨6,[[.i .i64 0,.i .i64 0,.b false,.i .i64 0,.i .u32 0,.i .i64 0]]⟩) hh.next ⟨6,[[.i .i64 t1.1,.i .i64 t2.1,.b t3.1,.i .i64 t4.1,.i .u32 0,.i .i64 0]]⟩ (hslt.imp (fun x=>x) (fun x=>by omega))
  have sl2:=AA (AA sl2 id (Bs t6.2) (hown.imp (fun x=>x) (fun x=>by omega))) hh.next ⟨6,[[.i .i64 t1.1,.i .i64 t2.1,.b t3.1,.i .i64 t4.1,.i .u32 (IntKind.wrap .u32 t5.1),.i .i64 t6.1]]⟩ (hslt.imp (fun x=>x) (fun x=>by omega))
  simp only [Bs] at sl2 rs2
  clear l0 q0 q2 fr rs0 i1 i2 i3 b1 b2 b3 b4 b5
  refine Ap (N:=[Ar.enc (⟨t1.1,t2.1,t3.1,t4.1,IntKind.wrap .u32 t5.1,t6.1⟩:Ar)]) (Sl.alloc sl2 ⟨6,[Ar.enc (⟨t1.1,t2.1,t3.1,t4.1,IntKind.wrap .u32 t5.1,t6.1⟩:Ar)]⟩) ?_ ?_ ?_ ?_
  ·rw [AL];have:=rs2.lim;have:=rs2.i1;omega
  ·rw [Ag];have:=rs2.next;omega
  ·simp;omega
  intro w h4 s4 g4
  have rs5:=(rs2.new (k:=⟨6,[Ar.enc (⟨t1.1,t2.1,t3.1,t4.1,IntKind.wrap .u32 t5.1,t6.1⟩:Ar)]⟩)).app g4
  have s5:Sl h.next h4 6 w ((A++[(⟨t1.1,t2.1,t3.1,t4.1,IntKind.wrap .u32 t5.1,t6.1⟩:Ar)]).map Ar.enc):=by simpa using s4
  have so5:=As s5
  obtain ⟨_,_,_,_,_,_,_,xc1,xc2⟩:=s5.facts
  clear s4 g4 sl2 rs2
  obtain ⟨i1,i2,i3,l0,n5,q0,_,q2,_⟩:=rs5
  simp only [Bs] at q0
  simp (disch:=omega)only[go_sem, *]
  refine ih _ _ _ ?_ ⟨i+1,w,A++[⟨t1.1,t2.1,t3.1,t4.1,IntKind.wrap .u32 t5.1,t6.1⟩],t6.2,rfl,RS.box (row:=[a,v,.ns]) ⟨i1,i2,i3,l0,n5,q0,b6,q2,by assumption⟩,AA s5 bx _ (so5.imp (fun x=>x) (fun x=>by omega)),by simp;omega,by omega,hP, ?_⟩
  ·omega
  ·clear ih kk s5
   simp (disch:=omega)only[go_sem, *]
 ·have h0:n - i=0:=by omega
  rw [h0,Cp] at hP
  subst hP
  simp (disch:=omega)only[go_sem, *]
  exact kk _ _ v rs0 sl (show A.length≤8 by omega) e0 e2 e3
end Go.Ab.T
namespace Go.Ab.T
open Go Go.Ab
set_option maxHeartbeats 4000000
theorem mP {K : Ex → Env → AH → Prop} {e : Env} {h hh : AH} {id bx n : Nat} {s : Rd} {P : List Node × Rd} {v2 v46 v47 : V} {row : List V} (hlo : h.lim ≤ id) (hn : n ≤ 128) (hP : Cu n [] s = P) (rs : RS h id bx s row hh)
    (e0:e 0=.p id 0 0) (e2:e 2=v2) (e3:e 3=.p bx 0 0) (e5:e 5=.ns) (e46:e 46=v46) (e47:e 47=v47) (e50:e 50=.i .i64 n) (e51:e 51=.i .i64 0)
    (kk:∀ (e:Env) (hh:AH) (v:V),RS h id bx P.2 row hh→Sl h.next hh 3 v (P.1.map Node.enc)→P.1.length≤128→e 0=.p id 0 0→e 2=v2→e 3=.p bx 0 0→e 5=v→e 46=v46→e 47=v47→K (.ex 6) e hh):ZC tp (.loop QP) e hh K:=by
 refine Ae (fun n' e hh=>∃ (i:Nat) (v:V) (A:List Node) (s:Rd),n'=n - i∧RS h id bx s row hh∧Sl h.next hh 3 v (A.map Node.enc)∧A.length=i∧i≤n∧Cu (n - i) A s=P∧e 0=.p id 0 0∧e 2=v2∧e 3=.p bx 0 0∧e 5=v∧e 46=v46∧e 47=v47∧e 50=.i .i64 n∧e 51=.i .i64 i) ?_ _ _ _ ⟨0,.ns,[],s,rfl,rs,Sl.nil _ _ _,rfl,by omega,hP,e0,e2,e3,e5,e46,e47,e50,e51⟩
 clear rs e0 e2 e3 e5 e46 e47 e50 e51 e hh hP s
 rintro n' e hh ⟨i,v,A,s,rfl,rs,sl,hA,hi,hP,e0,e2,e3,e5,e46,e47,e50,e51⟩ ih
 have rs0:=rs
 obtain ⟨i1,i2,i3,l0,n0,q0,hb,q2,fr⟩:=rs
 have hown:=As sl
 simp only [Bs] at q0
 rw [Ai QP.eq_1]
 simp (disch:=omega)only[go_sem, *]
 refine Aa (fun hc=>?_) (fun hc=>?_)
 ·have hni:n - i=(n - (i+1))+1:=by omega
  rw [hni,Cu] at hP
  simp (disch:=omega)only[go_sem, *]
  refine Bi (s:=s) ?_ hb ?_ ?_
  ·simp (disch:=omega)only[go_sem, *]
  ·simp (disch:=omega)only[go_sem, *]
  have b1:Az (AI 4 s).2.b:=by first | exact Az.num hb | exact Az.flag hb | exact Az.cnt hb
  obtain ⟨t1,ht1⟩:∃ x,AI 4 s=x:=⟨_,rfl⟩
  rw [ht1] at b1 ⊢
  simp (disch:=omega)only[go_sem, *]
  refine Bi (s:=t1.2) ?_ b1 ?_ ?_
  ·simp (disch:=omega)only[go_sem, *]
  ·simp (disch:=omega)only[go_sem, *]
  have b2:Az (AI 6 t1.2).2.b:=by first | exact Az.num b1 | exact Az.flag b1 | exact Az.cnt b1
  obtain ⟨t2,ht2⟩:∃ x,AI 6 t1.2=x:=⟨_,rfl⟩
  rw [ht2] at b2 ⊢
  simp (disch:=omega)only[go_sem, *]
  refine HS (s:=t2.2) ?_ b2 ?_ ?_
  ·simp (disch:=omega)only[go_sem, *]
  ·simp (disch:=omega)only[go_sem, *]
  have b3:Az (BD t2.2).2.b:=by first | exact Az.num b2 | exact Az.flag b2 | exact Az.cnt b2
  obtain ⟨t3,ht3⟩:∃ x,BD t2.2=x:=⟨_,rfl⟩
  rw [ht3] at b3 ⊢
  have hnd:H9 s=(⟨t1.1,t2.1,t3.1⟩,t3.2):=by
   unfold H9
   simp only [ht1,ht2,ht3]
  rw [hnd] at hP
  simp only at hP
  clear ht1 ht2 ht3 hnd
  have rs2:=rs0.put (s2:=t3.2) b3
  have sl2:=AA sl id (Bs t3.2) (hown.imp (fun x=>x) (fun x=>by omega))
  simp only [Bs] at sl2
  simp (disch:=omega)only[go_sem, *]
  refine Ap (N:=[Node.enc ⟨t1.1,t2.1,t3.1⟩]) (Sl.alloc sl2 ⟨3,[Node.enc ⟨t1.1,t2.1,t3.1⟩]⟩) ?_ ?_ ?_ ?_
  ·rw [AL,CV];omega
  ·rw [Ag,AB];omega
  ·simp;omega
  intro w h4 s4 g4
  have rs5:=(rs2.new (k:=⟨3,[Node.enc ⟨t1.1,t2.1,t3.1⟩]⟩)).app g4
  have s5:Sl h.next h4 3 w ((A++[(⟨t1.1,t2.1,t3.1⟩:Node)]).map Node.enc):=by simpa using s4
  clear s4 g4 sl2 rs2 rs0 l0 n0 q0 q2 fr
  simp (disch:=omega)only[go_sem, *]
  refine ih _ _ _ ?_ ⟨i+1,w,A++[⟨t1.1,t2.1,t3.1⟩],t3.2,rfl,rs5,s5,by simp;omega,by omega,hP, ?_⟩
  ·omega
  ·clear ih kk s5 rs5
   simp (disch:=omega)only[go_sem, *]
 ·have h0:n - i=0:=by omega
  rw [h0,Cu] at hP
  subst hP
  simp (disch:=omega)only[go_sem, *]
  exact kk _ _ v rs0 sl (show A.length≤128 by omega) e0 e2 e3 e5 e46 e47
end Go.Ab.T
namespace Go.Ab.T
open Go Go.Ab
set_option maxHeartbeats 4000000
theorem BG.setB {P:Nat→Prop} {h:AH} {n:Nat} {r r':List V} (q:BS P h n r r'):∀ {a a':List (List V)} (k:Nat),BG P h n a a'→BG P h n (a.set k r) (a'.set k r')
 | _,_,_,.nil _=>.nil _
 | _,_,0,.cons _ _ _ _ _ _ t=>.cons _ _ _ _ _ q t
 | _,_,k+1,.cons _ _ _ _ _ p t=>.cons _ _ _ _ _ p (BG.setB q k t)
theorem SI {e : Env} {h H : AH} {id bx : Nat} {s : Rd} {row : List V} {w v : V} {R : List (List V)} {T : List Node} (live : List Nat) (rs : RS h id bx s row H) (sw : Sl h.next H 1 w (R ++ [[v]])) (sv : Sl h.next H 3 v (T.map Node.enc)) (hd : Bb v = true ∨ AW w ≠ AW v) (hT : T.length < 4000000000)
    (hv:∀ t,t∈live→∀ P,CA P H H.next (e t) (e t)):∃ H',Stp e H (fun t=>if t∈live then e t else .u) H'∧RS h id bx s row H'∧Sl h.next H' 1 w (R++[[.fl 3 (T.map Node.enc)]]):=by
 obtain ⟨_,_,lt,lo,get,_,rw_,_,_⟩:=Sl.facts (enc:=fun x=>x) (L:=R++[[v]]) (by simpa using sw)
 have hlen:0<(R++[[v]]).length:=by simp
 have lt:=lt hlen
 have lo:=lo hlen
 have get:=get hlen
 have hrow:=rw_ R.length (by simp)
 have hnv:nth (R++[[v]]) R.length=[v]:=by simp [nth,List.getD]
 rw [hnv] at hrow
 have i1:=rs.i1
 have i2:=rs.i2
 have hself:(Bn H w).set (Fa w+R.length) [v]=Bn H w:=by
  obtain ⟨hp,hq⟩:=List.getElem?_eq_some_iff.1 hrow
  rw [← hq]
  exact List.set_getElem_self hp
 have sown:=As sv
 obtain ⟨H0,hH0⟩:∃ H0:AH,H0=(if Bb v=true then H else H.kill (AW v)):=⟨_,rfl⟩
 have g0:∀ j,(Bb v=true∨j≠AW v)→H0.get j=H.get j:=fun j hj=>by
  rw [hH0]
  by_cases q:Bb v=true
  ·rw [if_pos q]
  ·rw [if_neg q,Cm,Ac (hj.resolve_left q)]
 have n0:H0.next=H.next:=by rw [hH0];split<;>rfl
 have l0:H0.lim=H.lim:=by rw [hH0];split<;>rfl
 have far:∀ j,j<h.next→(Bb v=true∨j≠AW v):=fun j hj=>sown.imp (fun x=>x) (fun x=>by omega)
 have fv:∀ n,CA (fun i=>Bb v=false∧i=AW v) H n v (.fl 3 (T.map Node.enc)):=fun n=>by
  by_cases q:Bb v=true
  ·rcases sv with ⟨a,b⟩ | ⟨_,_,_,_,rfl,_⟩
   ·rw [b];rcases a with rfl | rfl
    ·exact .ns _ _
    ·exact .e0 _ _
   ·cases q
  ·exact Sl.froze sv (fun _=>rfl) ⟨by simpa using q,rfl⟩ hT
 refine ⟨H0.put (AW w) ⟨1,(Bn H w).set (Fa w+R.length) [.fl 3 (T.map Node.enc)]⟩,JB (fun i=>Bb v=false∧i=AW v) live e (fun wf=>⟨n0,l0,fun i k hk=>?_,fun t ht=>by show CA _ H H0.next _ _;rw [n0];exact hv t ht _⟩), ?_, ?_⟩
 ·rw [Ad] at hk
  by_cases hi:i=AW w
  ·rw [AC hi] at hk
   cases hk
   subst hi
   refine ⟨by show AW w<H0.next;omega,fun q=>?_,_,get, ?_⟩
   ·rcases hd with d | d
    ·rw [d] at q;cases q.1
    ·exact d q.2
   ·have:=BG.setB (r:=[v]) (r':=[.fl 3 (T.map Node.enc)]) (.cons _ _ _ _ _ (fv _) (.nil _)) (Fa w+R.length) ((wf.2 _ _ get).2 (fun i=>Bb v=false∧i=AW v) H)
    rw [hself] at this
    show BG _ H H0.next _ _
    rw [n0]
    exact this
  ·rw [Ac hi] at hk
   have hne:Bb v=true∨i≠AW v:=by
    by_cases q:Bb v=true
    ·exact .inl q
    ·refine .inr fun q2=>?_
     rw [hH0,if_neg q,Cm,AC q2] at hk
     cases hk
   rw [g0 i hne] at hk
   refine ⟨by show i<H0.next;have:=(wf.2 i k hk).1;omega,fun q=>?_,k.cs,hk,by show BG _ H H0.next _ _;rw [n0];exact (wf.2 i k hk).2 _ _⟩
   rcases hne with d | d
   ·rw [d] at q;cases q.1
   ·exact d q.2
 ·have nx:=rs.next
  exact ⟨i1,i2,rs.i3,by show H0.lim=h.lim;rw [l0];exact rs.lim,by show h.next≤H0.next;omega,by rw [Ad,Ac (by omega),g0 _ (far _ i1)];exact rs.rd,rs.isb,by rw [Ad,Ac (by omega),g0 _ (far _ i2)];exact rs.q,fun j hj hne hne2=>by rw [Ad,Ac (by omega),g0 _ (far _ hj)];exact rs.fr j hj hne hne2⟩
 ·have:=Sl.of_get (j:=R.length) (r:=[.fl 3 (T.map Node.enc)]) (h':=H0.put (AW w) ⟨1,(Bn H w).set (Fa w+R.length) [.fl 3 (T.map Node.enc)]⟩) sw (by simp) (by show H.next≤H0.next;omega) (by rw [Ad,AC rfl])
  simpa using this
theorem mQ {K : Ex → Env → AH → Prop} {e : Env} {h hh : AH} {id bx n : Nat} {s : Rd} {P : List (List Node) × Rd} {i2' : Nat} {a c : V} (hlo : h.lim ≤ id) (hlb : h.lim ≤ bx) (hn : n ≤ 3) (hP : Ep n [] s = P) (rs : RS h id bx s [a, c, .ns] hh) (h2 : i2' < h.next)
    (e0:e 0=.p id 0 0) (e2:e 2=.p i2' 0 0) (e3:e 3=.p bx 0 0) (e46:e 46=.i .i64 n) (e47:e 47=.i .i64 0)
    (kk:∀ (e:Env) (hh:AH) (v:V),RS h id bx P.2 [a,c,v] hh→Sl h.next hh 1 v (P.1.map Tab.enc)→P.1.length≤3→e 0=.p id 0 0→e 2=.p i2' 0 0→e 3=.p bx 0 0→K (.ex 4) e hh):ZC tp (.loop Mq) e hh K:=by
 refine Ae (fun n' e hh=>∃ (i:Nat) (v:V) (A:List (List Node)) (s:Rd),n'=n - i∧RS h id bx s [a,c,v] hh∧Sl h.next hh 1 v (A.map Tab.enc)∧A.length=i∧i≤n∧Ep (n - i) A s=P∧e 0=.p id 0 0∧e 2=.p i2' 0 0∧e 3=.p bx 0 0∧e 46=.i .i64 n∧e 47=.i .i64 i) ?_ _ _ _ ⟨0,.ns,[],s,rfl,rs,Sl.nil _ _ _,rfl,by omega,hP,e0,e2,e3,e46,e47⟩
 clear rs e0 e2 e3 e46 e47 e hh hP s
 rintro n' e hh ⟨i,v,A,s,rfl,rs,sl,hA,hi,hP,e0,e2,e3,e46,e47⟩ ih
 have rs0:=rs
 obtain ⟨i1,i2,i3,l0,n0,q0,hb,q2,fr⟩:=rs
 have hown:=As sl
 have hslt:=Mb sl
 simp only [Bs] at q0
 rw [Ai Mq.eq_1]
 simp (disch:=omega)only[go_sem, *]
 refine Aa (fun hc=>?_) (fun hc=>?_)
 ·have hni:n - i=(n - (i+1))+1:=by omega
  rw [hni,Ep] at hP
  simp (disch:=omega)only[go_sem, *]
  refine Bi (s:=s) ?_ hb ?_ ?_
  ·simp (disch:=omega)only[go_sem, *]
  ·simp (disch:=omega)only[go_sem, *]
  have b1:Az (AI 128 s).2.b:=by first | exact Az.num hb | exact Az.flag hb | exact Az.cnt hb
  obtain ⟨t1,ht1⟩:∃ x,AI 128 s=x:=⟨_,rfl⟩
  rw [ht1] at b1 ⊢
  have c1:0≤t1.1∧t1.1≤128:=by rw [← ht1];exact Fm (by omega)
  obtain ⟨n1,hn1⟩:∃ n:Nat,t1.1=n:=⟨t1.1.toNat,by omega⟩
  have htb:Nb s=Cu n1 [] t1.2:=by unfold Nb;rw [ht1,hn1,Int.toNat_natCast]
  rw [htb] at hP
  obtain ⟨t2,ht2⟩:∃ x,Cu n1 [] t1.2=x:=⟨_,rfl⟩
  rw [ht2] at hP
  clear ht1 htb
  have rs2:=rs0.put (s2:=t1.2) b1
  have sl2:=AA sl id (Bs t1.2) (hown.imp (fun x=>x) (fun x=>by omega))
  have rs3:RS (hh.put id (Bs t1.2)) id bx t1.2 [a,c,v] (hh.put id (Bs t1.2)):=⟨by show id<hh.next;omega,by show bx<hh.next;omega,i3,rfl,Nat.le_refl _,rs2.rd,b1,rs2.q,fun _ _ _ _=>rfl⟩
  simp only [Bs] at rs3
  simp (disch:=omega)only[go_sem, *]
  refine mP (n:=n1) (P:=t2) (v2:=.p i2' 0 0) (v46:=.i .i64 n) (v47:=.i .i64 i) ?_ (by omega) ht2 rs3 ?_ ?_ ?_ ?_ ?_ ?_ ?_ ?_ ?_
  any_goals (simp (disch:=omega)only[go_sem, *];done)
  clear e0 e2 e3 e46 e47 e
  intro e h1 v1 rsI sv hT e0 e2 e3 e5 e46 e47
  have nI:hh.next≤h1.next:=rsI.next
  have lI:h1.lim=hh.lim:=rsI.lim
  have rs4:RS h id bx t2.2 [a,c,v] h1:=⟨i1,i2,i3,lI.trans l0,by omega,rsI.rd,rsI.isb,rsI.q,fun j hj hne hne2=>by
   rw [rsI.fr j (by show j<hh.next;omega) hne hne2,Ad,Ac hne];exact fr j hj hne hne2⟩
  have sl3:Sl h.next h1 1 v (A.map Tab.enc):=by
   rcases hown with q | q
   ·rcases sl with ⟨a,b⟩ | ⟨_,_,_,_,rfl,_⟩
    ·exact .inl ⟨a,b⟩
    ·cases q
   ·exact sl.same nI (fun hq=>by rw [rsI.fr _ (by show AW v<hh.next;exact hq) (by omega) (by omega),Ad,Ac (by omega)])
  have sv1:Sl h.next h1 3 v1 (t2.1.map Node.enc):=Sl.weak sv (by show h.next≤hh.next;exact n0)
  have o1:Bb v1=true∨hh.next≤AW v1:=As sv
  have o2:=Mb sv1
  obtain ⟨_,_,_,_,_,_,_,vc1,vc2⟩:=sv1.facts
  have rs4':=rs4
  obtain ⟨_,_,_,l1,n1',q0,b4,q2,_⟩:=rs4
  simp only [Bs] at q0
  clear fr sl2 rs2 rs3 rs0 hb b1 sl sv rsI
  simp (disch:=omega)only[go_sem, *]
  refine Ap (N:=[[v1]]) (Sl.alloc sl3 ⟨1,[[v1]]⟩) ?_ ?_ ?_ ?_
  ·rw [AL];omega
  ·rw [Ag];omega
  ·simp;omega
  intro w h4 s4 g4
  have rs5:=(rs4'.new (k:=⟨1,[[v1]]⟩)).app g4
  have so5:=As s4
  have hgv:Bb v=true∨AW v<hh.next:=hslt
  have hd:Bb v1=true∨AW w≠AW v1:=by
   rcases o1 with q | q
   ·exact .inl q
   ·refine .inr ?_
    rcases o2 with q2 | q2
    ·rcases sv1 with ⟨x,_⟩ | ⟨_,_,_,_,rfl,_⟩
     ·rcases x with rfl | rfl<;>simp [AW] at q<;>omega
     ·cases q2
    ·rcases g4.own with y | ⟨y1,y2⟩ | y
     ·rcases s4 with ⟨_,z⟩ | ⟨_,_,_,_,rfl,_⟩
      ·simp at z
      ·cases y
     ·rcases hgv with z | z
      ·rw [z] at y1;cases y1
      ·omega
     ·rw [Ag] at y;omega
  have sv4:Sl h.next h4 3 v1 (t2.1.map Node.enc):=by
   have gn:=g4.next
   rw [Ag] at gn
   rcases o1 with q | q
   ·rcases sv1 with ⟨a,b⟩ | ⟨_,_,_,_,rfl,_⟩
    ·exact .inl ⟨a,b⟩
    ·cases q
   ·exact sv1.same (by omega) (fun hq=>by rw [g4.get _ (by rw [Ag];omega) (hgv.imp (fun x=>x) (fun z=>by omega)),AM,Ac (by omega)])
  have ov4:Bb v1=true∨h.next≤AW v1:=As sv4
  have xc1:=g4.cell
  have xc2:=g4.cells
  clear sl3 rs4' l1 n1' q0 q2 b4 g4 sv1 nI lI
  have rs6:=rs5
  obtain ⟨_,_,_,l5,n5,q0,b5,q2,_⟩:=rs5
  simp only [Bs] at q0
  simp (disch:=omega)only[go_sem, *]
  have rs7:=RS.box (row':=[a,c,w]) rs6
  have sw7:=AA s4 bx ⟨3,[[a,c,w]]⟩ (so5.imp (fun x=>x) (fun x=>by omega))
  have sv7:=AA sv4 bx ⟨3,[[a,c,w]]⟩ (ov4.imp (fun x=>x) (fun x=>by omega))
  have n7:h.next≤(h4.put bx ⟨3,[[a,c,w]]⟩).next:=n5
  clear rs6 s4 sv4 q0 q2 l5
  have key:∀ (E:Env) (H:AH),E 0=.p id 0 0→E 2=.p i2' 0 0→E 3=.p bx 0 0→E 46=.i .i64 n→E 47=.i .i64 ((i+1:Nat):Int)→RS h id bx t2.2 [a,c,w] H→Sl h.next H 1 w (A.map Tab.enc++[[v1]])→Sl h.next H 3 v1 (t2.1.map Node.enc)→ZC tp (.loop Mq) E H K:=by
   intro E H f0 f2 f3 f46 f47 r6 w6 v6
   have nx:=r6.next
   obtain ⟨H',st,rs',sw'⟩:=SI (e:=E) [0,2,3,46,47] r6 w6 v6 hd (by omega) (fun t ht P=>by
    simp only [List.mem_cons,List.not_mem_nil,or_false] at ht
    rcases ht with rfl | rfl | rfl | rfl | rfl
    ·rw [f0];exact .p _ _ _ _ (by omega)
    ·rw [f2];exact .p _ _ _ _ (by omega)
    ·rw [f3];exact .p _ _ _ _ (by omega)
    ·rw [f46];exact .z _ _ (.i _ _)
    ·rw [f47];exact .z _ _ (.i _ _))
   refine Mu st (ih _ _ _ ?_ ⟨i+1,w,A++[t2.1],t2.2,rfl,rs',by simpa [Tab.enc] using sw',by simp;omega,by omega,hP,by simp [f0],by simp [f2],by simp [f3],by simp [f46],by simp [f47]⟩)
   omega
  clear ih kk
  refine key _ _ ?_ ?_ ?_ ?_ ?_ rs7 sw7 sv7
  all_goals simp (disch:=omega)only[go_sem, *]
 ·have h0:n - i=0:=by omega
  rw [h0,Ep] at hP
  subst hP
  simp (disch:=omega)only[go_sem, *]
  exact kk _ _ v rs0 sl (show A.length≤3 by omega) e0 e2 e3
end Go.Ab.T
namespace Go.Ab.T
open Go Go.Ab
set_option maxHeartbeats 4000000
theorem RS.thru {h1 hh:AH} {id bx sz b:Nat} {s:Rd} {row:List V} {v:V} {R:List (List V)} (rs:RS h1 id bx s row hh) (sl:Sl b h1 sz v R) (h1':id<b) (h2':bx<b):Sl b hh sz v R:=by
 rcases As sl with q | q
 ·rcases sl with ⟨a,c⟩ | ⟨_,_,_,_,rfl,_⟩
  ·exact .inl ⟨a,c⟩
  ·cases q
 ·exact sl.same rs.next (fun hq=>rs.fr _ hq (by omega) (by omega))
structure Lo (h:AH) (id:Nat) (hh:AH):Prop where
 lim:hh.lim=h.lim
 next:h.next+2≤hh.next
 q:hh.get h.next=some ⟨3,[[.ns,.ns,.ns]]⟩
 fr:∀ j,j<h.next→j≠id→hh.get j=h.get j
theorem Lo.thru {h B hh:AH} {id:Nat} {s:Rd} {row:List V} (lo:Lo h id B) (hid:id<h.next) (rs:RS B id (h.next+1) s row hh):Lo h id hh:=by
 have n:=lo.next
 have m:=rs.next
 exact ⟨rs.lim.trans lo.lim,by omega,by rw [rs.fr _ (by omega) (by omega) (by omega)];exact lo.q,fun j hj hne=>by rw [rs.fr _ (by omega) hne (by omega)];exact lo.fr j hj hne⟩
theorem Lo.put {h hh:AH} {id:Nat} {k:BU} (lo:Lo h id hh) (hid:id<h.next):Lo h id (hh.put id k):=
 ⟨lo.lim,lo.next,by rw [Ad,Ac (by omega)];exact lo.q,fun j hj hne=>by rw [Ad,Ac hne];exact lo.fr j hj hne⟩
theorem RS.re {B hh:AH} {id bx:Nat} {s s2:Rd} {row:List V} (rs:RS B id bx s row hh) (hb:Az s2.b):RS (hh.put id (Bs s2)) id bx s2 row (hh.put id (Bs s2)):=by
 have a:=rs.i1;have b:=rs.i2;have c:=rs.next
 exact ⟨by show id<hh.next;omega,by show bx<hh.next;omega,rs.i3,rfl,Nat.le_refl _,(rs.put hb).rd,hb,(rs.put hb).q,fun _ _ _ _=>rfl⟩
theorem RL {h:AH} {id:Nat} {s:Rd} {K:V→AH→Prop} (hg:h.get id=some (Bs s)) (hb:Az s.b) (hlo:h.lim≤id) (kk:K (.agg (Bx s).1.enc) (h.put id (Bs (Bx s).2))):Cq tp S4 [.p id 0 0] h K:=by
 refine ER aF9 (by simp [Pi]) ((by rw [hg];rfl)) (fun _ _ _=>.cons _ _ _ _ _ (BS.of_stay rfl) (.nil _)) (kk) fun hlm hid rp=>?_;unfold Pi;simp (disch:=omega)only[go_sem, *]
 clear kk
 have hgf:h.get id=some ⟨2,[[.fl 1 (s.b.map Aj),.b s.bad]]⟩:=hg
 try simp (disch:=omega)only[go_sem, *]
 refine Bi (s:=s) ?_ hb ?_ ?_
 ·simp (disch:=omega)only[go_sem, *]
 ·simp (disch:=omega)only[go_sem, *]<;>omega
 have b1:Az (AI 6 s).2.b:=by first | exact Az.num hb | exact Az.flag hb | exact Az.cnt hb
 obtain ⟨t1,ht1⟩:∃ x,AI 6 s=x:=⟨_,rfl⟩
 rw [ht1] at b1 ⊢
 have c1:0≤t1.1∧t1.1≤6:=by rw [← ht1];exact Fm (by omega)
 obtain ⟨n1,hn1⟩:∃ n:Nat,t1.1=n:=⟨t1.1.toNat,by omega⟩
 obtain ⟨p1,hp1⟩:∃ x,Cv n1 [] t1.2=x:=⟨_,rfl⟩
 simp (disch:=omega)only[go_sem, *]
 refine aHQ (h:=((h.alloc ⟨3,[[.ns,.ns,.ns]]⟩).alloc ⟨3,[[.ns,.ns,.ns]]⟩).put id (Bs t1.2)) (id:=id) (bx:=h.next+1) (n:=n1) (s:=t1.2) (P:=p1) (v2:=.p h.next 0 0) ?_ ?_ (by omega) hp1 ⟨?_, ?_, ?_,rfl,Nat.le_refl _, ?_,b1, ?_,fun _ _ _ _=>rfl⟩ ?_ ?_ ?_ ?_ ?_ ?_
 any_goals (simp (disch:=omega)only[go_sem, *];done)
 any_goals (simp (disch:=omega)only[go_sem, *]<;>omega)
 ·omega
 have lo0:Lo h id (((h.alloc ⟨3,[[.ns,.ns,.ns]]⟩).alloc ⟨3,[[.ns,.ns,.ns]]⟩).put id (Bs t1.2)):=⟨rfl,Nat.le_refl _,by simp (disch:=omega)only[go_sem, *],fun j hj hne=>by simp (disch:=omega)only[go_sem, *]⟩
 intro e hh va r1 sa la e0 e2 e3
 have lo1:=lo0.thru hid r1
 have sa1:Sl (h.next+2) hh 11 va (p1.1.map Part.enc):=sa
 clear sa lo0 hgf b1 c1
 have b1:=r1.isb
 have q0:=r1.rd
 have l1:=lo1.lim
 have n1':=lo1.next
 simp only [Bs] at q0
 try simp (disch:=omega)only[go_sem, *]
 refine Bi (s:=p1.2) ?_ b1 ?_ ?_
 ·simp (disch:=omega)only[go_sem, *]
 ·simp (disch:=omega)only[go_sem, *]<;>omega
 have b2:Az (AI 8 p1.2).2.b:=by first | exact Az.num b1 | exact Az.flag b1 | exact Az.cnt b1
 obtain ⟨t2,ht2⟩:∃ x,AI 8 p1.2=x:=⟨_,rfl⟩
 rw [ht2] at b2 ⊢
 have c2:0≤t2.1∧t2.1≤8:=by rw [← ht2];exact Fm (by omega)
 obtain ⟨n2,hn2⟩:∃ n:Nat,t2.1=n:=⟨t2.1.toNat,by omega⟩
 obtain ⟨p2,hp2⟩:∃ x,Cp n2 [] t2.2=x:=⟨_,rfl⟩
 have r2:=r1.re b2
 have lo2:=lo1.put (k:=Bs t2.2) hid
 have sa2:=AA sa1 id (Bs t2.2) ((As sa1).imp (fun x=>x) (fun x=>by omega))
 simp only [Bs] at r2
 simp (disch:=omega)only[go_sem, *]
 refine mO (n:=n2) (P:=p2) (v2:=.p h.next 0 0) ?_ ?_ (by omega) hp2 r2 ?_ ?_ ?_ ?_ ?_ ?_
 any_goals (simp (disch:=omega)only[go_sem, *];done)
 any_goals (simp (disch:=omega)only[go_sem, *]<;>omega)
 clear r2 lo1 l1 n1' q0 sa1 b1 c2
 intro e hh3 vb r3 sb lb e0 e2 e3
 have lo3:=lo2.thru hid r3
 have sa3:=r3.thru sa2 (by omega) (by omega)
 have sb3:Sl (h.next+2) hh3 6 vb (p2.1.map Ar.enc):=Sl.weak sb lo2.next
 clear sb sa2 lo2 b2
 have b3:=r3.isb
 have q0:=r3.rd
 have l1:=lo3.lim
 have n1':=lo3.next
 simp only [Bs] at q0
 try simp (disch:=omega)only[go_sem, *]
 refine Bi (s:=p2.2) ?_ b3 ?_ ?_
 ·simp (disch:=omega)only[go_sem, *]
 ·simp (disch:=omega)only[go_sem, *]<;>omega
 have b3:Az (AI 3 p2.2).2.b:=by first | exact Az.num b3 | exact Az.flag b3 | exact Az.cnt b3
 obtain ⟨t3,ht3⟩:∃ x,AI 3 p2.2=x:=⟨_,rfl⟩
 rw [ht3] at b3 ⊢
 have c3:0≤t3.1∧t3.1≤3:=by rw [← ht3];exact Fm (by omega)
 obtain ⟨n3,hn3⟩:∃ n:Nat,t3.1=n:=⟨t3.1.toNat,by omega⟩
 obtain ⟨p3,hp3⟩:∃ x,Ep n3 [] t3.2=x:=⟨_,rfl⟩
 have r4:=r3.re b3
 have lo4:=lo3.put (k:=Bs t3.2) hid
 have sa4:=AA sa3 id (Bs t3.2) ((As sa3).imp (fun x=>x) (fun x=>by omega))
 have sb4:=AA sb3 id (Bs t3.2) ((As sb3).imp (fun x=>x) (fun x=>by omega))
 simp only [Bs] at r4
 simp (disch:=omega)only[go_sem, *]
 refine mQ (n:=n3) (P:=p3) (i2':=h.next) ?_ ?_ (by omega) hp3 r4 ?_ ?_ ?_ ?_ ?_ ?_ ?_
 any_goals (simp (disch:=omega)only[go_sem, *];done)
 any_goals (simp (disch:=omega)only[go_sem, *]<;>omega)
 clear r4 lo3 l1 n1' q0 sa3 sb3 b3 c3
 intro e hh5 vc r5 sc lc e0 e2 e3
 have lo5:=lo4.thru hid r5
 have sa5:=r5.thru sa4 (by omega) (by omega)
 have sb5:=r5.thru sb4 (by omega) (by omega)
 have sc5:Sl (h.next+2) hh5 1 vc (p3.1.map Tab.enc):=Sl.weak sc lo4.next
 clear sc sa4 sb4 lo4
 have q0:=r5.rd
 have q2:=r5.q
 obtain ⟨l5,n5,q1,fr5⟩:=lo5
 simp only [Bs] at q0
 have hcs:Bx s=(⟨p1.1,p2.1,p3.1⟩,p3.2):=by
  unfold Bx
  simp only [ht1,hn1,Int.toNat_natCast,hp1,ht2,hn2,hp2,ht3,hn3,hp3]
 obtain ⟨_,_,_,_,_,_,_,ac1,ac2⟩:=sa5.facts
 obtain ⟨_,_,_,_,_,_,_,bc1,bc2⟩:=sb5.facts
 obtain ⟨_,_,_,_,_,_,_,cc1,cc2⟩:=sc5.facts
 have oa:=As sa5
 have ob:=As sb5
 have oc:=As sc5
 have fa:=fun k=>Sl.frzb (nx:=h.next) (Sl.weak (AA sa5 h.next k (oa.imp (fun x=>x) (fun x=>by omega))) (Nat.le_add_right h.next 2)) (fun _=>rfl) (by omega)
 have fb:=fun k=>Sl.frzb (nx:=h.next) (Sl.weak (AA sb5 h.next k (ob.imp (fun x=>x) (fun x=>by omega))) (Nat.le_add_right h.next 2)) (fun _=>rfl) (by omega)
 have fc:=fun k=>Sl.frzb (nx:=h.next) (Sl.weak (AA sc5 h.next k (oc.imp (fun x=>x) (fun x=>by omega))) (Nat.le_add_right h.next 2)) (fun _=>rfl) (by omega)
 clear ht1 hn1 hp1 ht2 hn2 hp2 ht3 hn3 hp3 r1 r3 r5 oa ob oc sa5 sb5 sc5
 simp (disch:=omega)only[go_sem, *]
 exact ⟨by show h.next≤hh5.next;omega,l5,by rw [Ad,Ac (by omega)];exact q0,fun j hj hne=>by rw [Ad,Ac (by omega)];exact fr5 j hj hne⟩
end Go.Ab.T
namespace Go.Ab.T
open Go Go.Ab
set_option maxHeartbeats 4000000
noncomputable def BV (b:List Int):Ah×Int:=
 if (A6 b).2=false then (⟨[],[],[]⟩,13)
 else if (A6 b).1.length<4 then (⟨[],[],[]⟩,12)
 else if (Fd (Bx ⟨(A6 b).1.drop 4,false⟩).1).2=0∧(Fd (Bx ⟨(A6 b).1.drop 4,false⟩).1).1=b then ((Bx ⟨(A6 b).1.drop 4,false⟩).1,0) else (⟨[],[],[]⟩,12)
theorem cG {m:Int} {s:Rd} (hm:m≤1000):(DL m s).1.size≤1000:=by
 unfold DL
 split
 ·exact Nat.zero_le _
 ·unfold DN bC
  split
  ·exact Nat.zero_le _
  ·rename_i q
   simp only [ByteArray.size,List.size_toArray,List.length_map,List.length_take]
   omega
theorem Oa:∀ (n:Nat) (A:List Part) (s:Rd),(∀ p∈A,p.name.size≤1000)→∀ p∈(Cv n A s).1,p.name.size≤1000
 | 0,_,_,h=>h
 | n+1,A,s,h=>by
  unfold Cv
  refine Oa n _ _ fun p hp=>?_
  rcases List.mem_append.1 hp with q | q
  ·exact h p q
  ·rw [List.mem_singleton.1 q]
   unfold Da
   exact cG (by omega)
theorem SU {s:Rd}:Fs (Bx s).1:=fun p hp=>by
 have:=Oa (AI 6 s).1.toNat [] (AI 6 s).2 (fun _ h=>by cases h) p (by unfold Bx at hp;exact hp)
 omega
theorem L1 {b:List Int} (h:Az b):Az (A6 b).1:=by
 unfold A6
 split
 ·exact h.take
 ·exact fun z hz=>by cases hz
theorem XC {h:AH} {B:List Int} {K:V→AH→Prop} (kk:K (.p h.next 0 0) (h.alloc (Bs ⟨B,false⟩))):Cq tp YJ [.fl 1 (B.map Aj)] h K:=by
 refine A9 aGa (by simp [Pj]) fun wf rp=>?_
 unfold Pj
 simp only [Bs] at kk
 simp (disch:=omega)only[go_sem, *]
theorem Ff {b:List Int} (hb:Az b):Pf tp SZ [.fl 1 (b.map Aj)] (.tup [.agg (BV b).1.enc,.i .i64 (BV b).2]):=by
 refine AD aFJ (by simp [OQ]) fun rp=>?_
 have hL:=rp.head.len
 have ho:=Sq (B:=b)
 have hob:=L1 hb
 have hol:(A6 b).1.length≤b.length:=by unfold A6;split<;>simp
 have r1:(A6 b).2=false→BV b=(⟨[],[],[]⟩,13):=fun q=>if_pos q
 have r2:(A6 b).2=true→(A6 b).1.length<4→BV b=(⟨[],[],[]⟩,12):=fun q q2=>by unfold BV;rw [if_neg (by rw [q];decide),if_pos q2]
 have r3:(A6 b).2=true→¬ (A6 b).1.length<4→BV b=(if (Fd (Bx ⟨(A6 b).1.drop 4,false⟩).1).2=0∧(Fd (Bx ⟨(A6 b).1.drop 4,false⟩).1).1=b then ((Bx ⟨(A6 b).1.drop 4,false⟩).1,0) else (⟨[],[],[]⟩,12)):=fun q q2=>by unfold BV;rw [if_neg (by rw [q];decide),if_neg q2]
 unfold OQ
 simp (disch:=omega)only[go_sem, *]
 refine Pf.go (ho) (by simp only [go_sem]) fun _=>?_;simp (disch:=omega)only[go_sem, *]
 clear ho
 generalize A6 b=o at *
 obtain ⟨x,ok⟩:=o
 simp only at hob hol r1 r2 r3
 have md:∀ n,List.drop n (x.map Aj)=(x.drop n).map Aj:=fun n=>List.map_drop.symm
 have ml:List.take (x.length - 4) ((x.drop 4).map Aj)=(x.drop 4).map Aj:=List.take_of_length_le (by simp)
 cases ok with
 | false=>
  have e:=r1 rfl
  clear r1 r2 r3
  simp (disch:=omega)only[go_sem, *]
 | true=>
  simp (disch:=omega)only[go_sem, *]
  refine Aa (fun hc=>?_) (fun hc=>?_)
  ·have e:=r2 rfl (by omega)
   clear r1 r2 r3
   simp (disch:=omega)only[go_sem, *]
  ·have e:=r3 rfl (by omega)
   clear r1 r2 r3
   have hnm:=SU (s:=⟨x.drop 4,false⟩)
   simp (disch:=omega)only[go_sem, *]
   refine XC ?_
   simp (disch:=omega)only[go_sem, *]
   refine RL (s:=⟨x.drop 4,false⟩) ?_ hob.drop ?_ ?_
   ·simp (disch:=omega)only[go_sem, *]
   ·simp (disch:=omega)only[go_sem, *]
   generalize Bx ⟨x.drop 4,false⟩=P at *
   obtain ⟨C,s2⟩:=P
   simp only at hnm e
   have hby:=Ej hnm
   simp only [Ah.enc] at hby
   simp (disch:=omega)only[go_sem, *]
   refine Pf.go (hby) (by simp only [go_sem]) fun _=>?_;simp (disch:=omega)only[go_sem, *]
   clear hby
   refine Aq (fun h1=>?_) (fun h1=>?_)
   ·rw [if_neg (fun q=>h1 q.1)] at e
    simp (disch:=omega)only[go_sem, *]
   ·simp (disch:=omega)only[go_sem, *]
    refine Pf.go (GK) (by simp only [go_sem]) fun _=>?_;simp (disch:=omega)only[go_sem, *]
    refine AX (fun h2=>?_) (fun h2=>?_)
    ·rw [if_neg (fun q=>by simp [q.2] at h2)] at e
     clear h2
     simp (disch:=omega)only[go_sem, *]
    ·rw [if_pos ⟨Decidable.not_not.1 h1,by simpa using h2⟩] at e
     clear h2
     simp (disch:=omega)only[go_sem, *]
end Go.Ab.T
namespace Go.Ab.T
open Go Go.Ab
set_option maxHeartbeats 1000000
theorem U3 {L:List AN} (h:CH L=true):∀ x∈L,Qy x:=by
 unfold CH at h
 simp only [Bool.and_eq_true,List.all_eq_true] at h
 intro x hx
 have:=h.1 x hx
 unfold Em at this
 simp only [decide_eq_true_eq] at this
 exact ⟨by omega,by omega⟩
theorem Qq {C:Ah} (h:A1 C=(0,-1)):∀ p∈C.parts,Mm p:=fun p hp=>by
 obtain ⟨_,hg,_,_⟩:=Ds.1 h
 obtain ⟨j,hj,rfl⟩:=List.getElem_of_mem hp
 have g:=hg j hj
 have e:nth C.parts j=C.parts[j]:=BX hj
 rw [← e]
 have g2:=g.2.2
 unfold E6 at g2
 simp only [Bool.and_eq_true,F4,JC,decide_eq_true_eq] at g2
 obtain ⟨⟨a,b⟩,c⟩:=g2
 exact ⟨Kt g.1,by unfold Vq;omega,by unfold Vq;omega,(Jn a).2,U3 a,by omega⟩
theorem Qp {C:Ah} (h:A1 C=(0,-1)):∀ x∈C.chans,(0≤x.src∧x.src≤6)∧(0≤x.dst∧x.dst≤6)∧(0≤x.cap∧x.cap≤8)∧Vq x.late:=fun x hx=>by
 obtain ⟨a,_,hc,_⟩:=Ds.1 h
 have:=hc x hx
 unfold C4 at this
 simp only [Bool.and_eq_true,decide_eq_true_eq] at this
 obtain ⟨b,c⟩:=this
 split at c<;>simp only [decide_eq_true_eq] at c<;>exact ⟨by omega,by omega,by omega,by unfold Vq;omega⟩
theorem OI:∀ (l:List Node) (left n:Int),0≤n→EA l left n=n+l.length→∀ x∈l,0≤kids x
 | [],_,_,_,_=>fun x hx=>by cases hx
 | a::r,left,n,hn,h=>fun x hx=>by
  unfold EA at h
  rw [List.length_cons] at h
  by_cases h1:kids a<0
  ·rw [if_pos h1] at h;omega
  ·rw [if_neg h1] at h
   by_cases h2:left+(kids a - 1)=0
   ·rw [if_pos h2] at h
    have:r=[]:=List.length_eq_zero_iff.1 (by omega)
    subst this
    rw [List.mem_singleton.1 hx];omega
   ·rw [if_neg h2] at h
    rcases List.mem_cons.1 hx with rfl | hx
    ·omega
    ·exact OI r (left+(kids a - 1)) (n+1) (by omega) (by omega) x hx
theorem IK {x:Node} (h:0≤kids x):(0≤x.kind∧x.kind≤4)∧(0≤x.part∧x.part≤6)∧1≤x.n:=by
 unfold kids at h
 split at h
 ·omega
 ·rename_i h1
  split at h
  ·omega
  ·split at h
   ·omega
   ·split at h
    ·omega
    ·omega
theorem Sz {C:Ah} (h:A1 C=(0,-1)):∀ t∈C.tables,t.length≤128∧∀ x∈t,(0≤x.kind∧x.kind≤4)∧(0≤x.part∧x.part≤6)∧1≤x.n:=fun t ht=>by
 obtain ⟨_,_,_,hT⟩:=Ds.1 h
 have g:=hT t ht
 rw [D7] at g
 have hr:=g.1.right
 unfold Bk at hr
 split at hr
 ·cases hr
 ·rename_i h1
  split at hr
  ·cases hr
  ·rename_i h2
   refine ⟨by omega,fun x hx=>IK ?_⟩
   have hw:BI t=true:=by simpa using h2
   unfold BI at hw
   simp only [decide_eq_true_eq] at hw
   have hs:=hw.2
   unfold size at hs
   rw [if_neg (by omega)] at hs
   refine OI t 1 0 (by omega) ?_ x hx
   simpa using hs
theorem FD {α:Type} {f:List Int→α→List Int} {e:α→List Int} (h:∀ B a,f B a=B++e a):∀ (L:List α) (B:List Int),L.foldl f B=B++(L.map e).flatten
 | [],B=>by simp
 | a::L,B=>by rw [List.foldl_cons,FD h L,h,List.map_cons,List.flatten_cons,List.append_assoc]
theorem X4 (B:List Int) (p:AN):B1 B p=B++Nz p:=by unfold B1 Nz;rw [Fh,Fh,List.append_assoc]
theorem X2 (B:List Int) (p:Node):CW B p=B++LK p:=by unfold CW LK;simp only [Fh,List.append_assoc]
theorem X1 (C:List Ar) (hC:∀ x∈C,0≤x.top∧x.top≤4294967295):∀ (B:List Int),C.foldl Cl B=B++(C.map Kb).flatten:=by
 induction C with
 | nil=>intro B;simp
 | cons x L ih=>
  intro B
  have hx:=hC x (List.mem_cons_self ..)
  rw [List.foldl_cons,ih (fun y hy=>hC y (List.mem_cons_of_mem _ hy)),List.map_cons,List.flatten_cons]
  have:Cl B x=B++Kb x:=by
   unfold Cl Kb BJ
   have hw:IntKind.wrap .i64 x.top=x.top:=by rw [wrap_i64];omega
   rw [hw]
   simp only [Fh,List.append_assoc]
  rw [this,List.append_assoc]
theorem X3 (B:List Int) (p:Part):Cb B p=B++LL p:=by
 unfold Cb LL BJ
 simp only [Fh,FD X4,List.append_assoc]
theorem jQ (B:List Int) (t:List Node):E2 B t=B++Un t:=by
 unfold E2 Un
 rw [FD X2,Fh,List.append_assoc]
theorem HO {C:Ah} (h:∀ x∈C.chans,0≤x.top∧x.top≤4294967295):Fe C=[72,79,82,65]++Ny C:=by
 unfold Fe Ny
 rw [FD jQ,FD X3,X1 _ h]
 simp only [Fh,List.append_assoc]
end Go.Ab.T
namespace Go.Ab.T
open Go Go.Ab
set_option maxHeartbeats 1000000
theorem SC {a b:Int} (ha:0≤a) (ha2:a<4294967296) (hb:0≤b) (hb2:b<4294967296):xr a b=((a.toNat ^^^ b.toNat:Nat):Int):=by
 unfold xr
 rw [BZ,BitVec.toNat_xor,BitVec.toNat_ofInt,BitVec.toNat_ofInt]
 have e1:(a % ((2 ^ 32:Nat):Int)).toNat=a.toNat:=by omega
 have e2:(b % ((2 ^ 32:Nat):Int)).toNat=b.toNat:=by omega
 rw [e1,e2]
 have:=Nat.xor_lt_two_pow (n:=32) (show a.toNat<2 ^ 32 by omega) (show b.toNat<2 ^ 32 by omega)
 omega
theorem Nf {a c b:Int} (ha:0≤a) (ha2:a<4294967296) (hc:0≤c) (hc2:c<4294967296) (hb:0≤b) (hb2:b<4294967296) (h:xr a b=xr c b):a=c:=by
 rw [SC ha ha2 hb hb2,SC hc hc2 hb hb2] at h
 have h1:a.toNat ^^^ b.toNat=c.toNat ^^^ b.toNat:=by omega
 have h2:=congrArg (· ^^^ b.toNat) h1
 simp only [Nat.xor_assoc,Nat.xor_self,Nat.xor_zero] at h2
 omega
theorem JQ (a b:Int):xr a b=xr b a:=by unfold xr;rw [BitVec.xor_comm]
theorem dP {a b:Int} (ha:0≤a) (ha2:a<4294967296) (hb:0≤b) (hb2:b<4294967296):xr a b % 2=(a+b) % 2:=by
 rw [SC ha ha2 hb hb2]
 have h:=Nat.testBit_xor a.toNat b.toNat 0
 simp only [Nat.testBit_zero] at h
 have h1:=Nat.mod_two_eq_zero_or_one a.toNat
 have h2:=Nat.mod_two_eq_zero_or_one b.toNat
 have h3:=Nat.mod_two_eq_zero_or_one (a.toNat ^^^ b.toNat)
 generalize a.toNat ^^^ b.toNat=x at *
 rcases h1 with h1 | h1<;>rcases h2 with h2 | h2<;>rcases h3 with h3 | h3<;>simp [h1,h2,h3] at h<;>omega
theorem bJ (c:Int):Vh c=(c*2) % 4294967296:=by unfold Vh;rw [BZ]
theorem R2 {a c:Int} (ha:0≤a) (ha2:a<4294967296) (hc:0≤c) (hc2:c<4294967296) (h:Ez a=Ez c):a=c:=by
 unfold Ez at h
 have fa:a.fdiv 2147483648=a / 2147483648:=Int.fdiv_eq_ediv_of_nonneg _ (by omega)
 have fc:c.fdiv 2147483648=c / 2147483648:=Int.fdiv_eq_ediv_of_nonneg _ (by omega)
 rw [fa,fc] at h
 have ea:=bJ a
 have ec:=bJ c
 have pa:=dP (a:=Vh a) (b:=79764919) (by omega) (by omega) (by omega) (by omega)
 have pc:=dP (a:=Vh c) (b:=79764919) (by omega) (by omega) (by omega) (by omega)
 by_cases h1:a / 2147483648=1<;>by_cases h2:c / 2147483648=1
 ·rw [if_pos h1,if_pos h2] at h
  have:=Nf (by omega) (by omega) (by omega) (by omega) (by omega) (by omega) h
  omega
 ·rw [if_pos h1,if_neg h2] at h
  omega
 ·rw [if_neg h1,if_pos h2] at h
  omega
 ·rw [if_neg h1,if_neg h2] at h
  omega
theorem Kw:∀ (n:Nat) {a c:Int},0≤a→a<4294967296→0≤c→c<4294967296→IS n a=IS n c→a=c
 | 0,_,_,_,_,_,_,h=>h
 | n+1,a,c,h1,h2,h3,h4,h=>by
  unfold IS at h
  have b1:=GT a
  have b2:=GT c
  exact R2 h1 h2 h3 h4 (Kw n b1.1 b1.2 b2.1 b2.2 h)
theorem Tt:∀ (n:Nat) {a:Int},0≤a→a<4294967296→0≤IS n a∧IS n a<4294967296
 | 0,_,h1,h2=>⟨h1,h2⟩
 | n+1,a,h1,h2=>by unfold IS;have b1:=GT a;exact Tt n b1.1 b1.2
theorem C9 {c b:Int}:0≤DQ c b∧DQ c b<4294967296:=by unfold DQ;exact Tt _ (Gh _ _).1 (Gh _ _).2
theorem Q5 {b:Int} (h0:0≤b) (h1:b<256):IntKind.wrap .u32 (IntKind.wrap .u32 b*16777216)=b*16777216:=by rw [BZ,BZ];omega
theorem UR {c d b:Int} (hb0:0≤b) (hb1:b<256) (hc:0≤c) (hc2:c<4294967296) (hd:0≤d) (hd2:d<4294967296) (h:DQ c b=DQ d b):c=d:=by
 unfold DQ at h
 rw [Q5 hb0 hb1] at h
 have h1:=Kw 8 (Gh _ _).1 (Gh _ _).2 (Gh _ _).1 (Gh _ _).2 h
 exact Nf hc hc2 hd hd2 (by omega) (by omega) h1
theorem RU {c a b:Int} (ha0:0≤a) (ha1:a<256) (hb0:0≤b) (hb1:b<256) (hc:0≤c) (hc2:c<4294967296) (h:DQ c a=DQ c b):a=b:=by
 unfold DQ at h
 rw [Q5 ha0 ha1,Q5 hb0 hb1] at h
 have h1:=Kw 8 (Gh _ _).1 (Gh _ _).2 (Gh _ _).1 (Gh _ _).2 h
 rw [JQ c,JQ c] at h1
 have:=Nf (by omega) (by omega) (by omega) (by omega) hc hc2 h1
 omega
theorem FM:∀ (l:List Int) {c:Int},0≤c→c<4294967296→0≤CD l c∧CD l c<4294967296
 | [],_,h1,h2=>⟨h1,h2⟩
 | b::l,c,_,_=>by unfold CD;exact FM l C9.1 C9.2
theorem Me:∀ (l:List Int) {c d:Int},Az l→0≤c→c<4294967296→0≤d→d<4294967296→CD l c=CD l d→c=d
 | [],_,_,_,_,_,_,_,h=>h
 | b::l,c,d,hl,h1,h2,h3,h4,h=>by
  unfold CD at h
  have hb:=hl b (List.mem_cons_self ..)
  exact UR hb.1 hb.2 h1 h2 h3 h4 (Me l (fun z hz=>hl z (List.mem_cons_of_mem _ hz)) C9.1 C9.2 C9.1 C9.2 h)
theorem bU {A l:List Int} {a b:Int} (hl:Az l) (ha0:0≤a) (ha1:a<256) (hb0:0≤b) (hb1:b<256) (h:CD (A++a::l) 4294967295=CD (A++b::l) 4294967295):a=b:=by
 rw [I5,I5,CD,CD] at h
 have hA:=FM A (c:=4294967295) (by omega) (by omega)
 exact RU ha0 ha1 hb0 hb1 hA.1 hA.2 (Me l hl C9.1 C9.2 C9.1 C9.2 h)
end Go.Ab.T
namespace Go.Ab.T
open Go Go.Ab
set_option maxHeartbeats 1000000
theorem Fo.bds:∀ (f:Fo),f.ok→(f.count:Int)≤f.len∧∀ x∈f.flat,x.n≤f.len
 | .nil,_=>⟨by simp [Fo.count,Fo.len],fun x hx=>by simp [Fo.flat] at hx⟩
 | .leaf y r,ho=>by
  obtain ⟨a,b⟩:=Fo.bds r ho.2
  have k:=IK (x:=y) (by have:=ho.1;omega)
  simp only [Fo.count,Fo.len,Fo.flat,List.mem_cons]
  refine ⟨by omega,fun x hx=>?_⟩
  rcases hx with rfl | hx
  ·omega
  ·have:=b x hx;omega
 | .seq y q r,ho=>by
  obtain ⟨h3,hk,hp,hok,hor⟩:=ho
  obtain ⟨a,b⟩:=Fo.bds r hor
  obtain ⟨c,d⟩:=Fo.bds q hok
  have e:=(HX y (by omega)).1 h3
  simp only [Fo.count,Fo.len,Fo.flat,List.mem_cons,List.mem_append]
  refine ⟨by omega,fun x hx=>?_⟩
  rcases hx with rfl | hx | hx
  ·omega
  ·have:=d x hx;omega
  ·have:=b x hx;omega
 | .rep y q r,ho=>by
  obtain ⟨h3,hk,hp,hok,hor⟩:=ho
  obtain ⟨a,b⟩:=Fo.bds r hor
  obtain ⟨c,d⟩:=Fo.bds q hok
  have k:=IK (x:=y) (by omega)
  have m1:y.n*1≤y.n*q.len:=Int.mul_le_mul_of_nonneg_left (by omega) (by omega)
  have m2:1*q.len≤y.n*q.len:=Int.mul_le_mul_of_nonneg_right (by omega) (by omega)
  simp only [Fo.count,Fo.len,Fo.flat,List.mem_cons,List.mem_append]
  refine ⟨by omega,fun x hx=>?_⟩
  rcases hx with rfl | hx | hx
  ·omega
  ·have:=d x hx;omega
  ·have:=b x hx;omega
theorem mX {T:List Node} (h:Bk T=0):∀ x∈T,x.n≤4096:=fun x hx=>by
 obtain ⟨_,ho,_,hL,_,hl⟩:=F3 h
 rw [hL] at hx
 have:=(Fo.bds _ ho).2 x hx
 omega
theorem Li {C:Ah} (h:A1 C=(0,-1)) (ht:∀ x∈C.chans,Ft x):FS C:=by
 obtain ⟨⟨a1,a2,a3,a4,a5⟩,_,_,hT⟩:=Ds.1 h
 refine ⟨a2,a3,a5,Qq h,fun x hx=>?_,fun t q=>?_⟩
 ·obtain ⟨b1,b2,b3,b4⟩:=Qp h x hx
  exact ⟨b1,b2,b3,ht x hx,b4⟩
 ·obtain ⟨b1,b2⟩:=Sz h t q
  have g:=hT t q
  rw [D7] at g
  refine ⟨b1,fun x hx=>?_⟩
  obtain ⟨c1,c2,c3⟩:=b2 x hx
  exact ⟨c1,c2,by have:=mX g.1.right x hx;unfold Vq;omega⟩
theorem LI:∀ (n:Nat) (A:List Ar) (s:Rd),(∀ p∈A,Ft p)→∀ p∈(Cp n A s).1,Ft p
 | 0,_,_,h=>h
 | n+1,A,s,h=>by
  unfold Cp
  refine LI n _ _ fun p hp=>?_
  rcases List.mem_append.1 hp with q | q
  ·exact h p q
  ·rw [List.mem_singleton.1 q]
   unfold EC Ft
   simp only [Qs]
   omega
theorem Xz {s:Rd}:∀ x∈(Bx s).1.chans,Ft x:=by
 unfold Bx
 exact LI _ _ _ (fun _ h=>by cases h)
theorem Hs (B:List Int):A6 (BL B)=(B,true):=by
 have e:(BL B).length - 4=B.length:=by rw [CE];omega
 have e1:(BL B).take B.length=B:=by unfold BL;rw [List.take_left]
 have e2:(BL B).drop B.length=CR (Du B):=by unfold BL;rw [List.drop_left];rfl
 unfold A6
 rw [e,e1,e2,if_pos ⟨by rw [CE];omega,rfl⟩]
theorem R8 {b:List Int} (h:(A6 b).2=true):b=BL (A6 b).1:=by
 unfold A6 at h ⊢
 split
 ·rename_i q
  show b=b.take (b.length - 4)++CR _
  rw [q.2,List.take_append_drop]
 ·rename_i q
  rw [if_neg q] at h;cases h
theorem J8 {C:Ah} (hC:FS C):Bx ⟨(Fe C).drop 4,false⟩=(C,⟨[],false⟩):=by
 have h:=jH hC []
 rw [List.append_nil] at h
 rw [HO (fun x hx=>(hC.cc x hx).t)]
 exact h
theorem Xj {C:Ah} (hC:FS C):4≤(Fe C).length:=by
 rw [HO (fun x hx=>(hC.cc x hx).t)];simp
theorem aG {C:Ah} (hw:A1 C=(0,-1)) (hC:FS C):BV (Ci C)=(C,0):=by
 have e:Fd C=(Ci C,0):=if_pos (by rw [hw])
 have hl:=Xj hC
 unfold BV
 rw [← Dn,Hs]
 simp only [J8 hC,e]
 rw [if_neg (by decide),if_neg (by omega),if_pos ⟨trivial,Dn.symm⟩]
theorem U8 {b:List Int} {D:Ah} (h:BV b=(D,0)):A1 D=(0,-1)∧FS D∧Ci D=b∧A6 b=(Fe D,true)∧Bx ⟨(Fe D).drop 4,false⟩=(D,⟨[],false⟩):=by
 unfold BV at h
 split at h
 ·cases h
 ·split at h
  ·cases h
  ·split at h
   ·rename_i h1 h2 h3
    have hD:(Bx ⟨(A6 b).1.drop 4,false⟩).1=D:=by injection h
    have ht:=Xz (s:=⟨(A6 b).1.drop 4,false⟩)
    rw [hD] at h3 ht
    obtain ⟨h4,h5⟩:=h3
    have hw:A1 D=(0,-1):=by
     refine Lh (Classical.byContradiction fun q=>?_)
     unfold Fd at h4
     rw [if_neg q] at h4
     exact q h4
    have e:Fd D=(Ci D,0):=if_pos (by rw [hw])
    rw [e] at h5
    have hC:=Li hw ht
    refine ⟨hw,hC,h5, ?_,J8 hC⟩
    rw [← h5,←Dn,Hs]
   ·cases h
theorem Az.app {A B:List Int} (a:Az A) (b:Az B):Az (A++B):=fun z hz=>(List.mem_append.1 hz).elim (a z) (b z)
theorem A2 {B:List Int} (h:Az B) (n:Int):Az (Am B n):=by
 rw [JM]
 refine h.app fun z hz=>?_
 rcases List.mem_cons.1 hz with rfl | hz
 ·have:=FJ n
  unfold Oh;split<;>omega
 ·exact aC n z hz
theorem EJ {α:Type} {f:List Int→α→List Int} (h:∀ B a,Az B→Az (f B a)):∀ (L:List α) (B:List Int),Az B→Az (L.foldl f B)
 | [],_,hB=>hB
 | a::L,B,hB=>EJ h L _ (h B a hB)
theorem aHS (s:ByteArray):Az (sB s):=fun z hz=>by
 unfold sB at hz
 obtain ⟨c,_,rfl⟩:=List.mem_map.1 hz
 have:=c.toNat_lt
 omega
theorem Xi (C:Ah):Az (Fe C):=by
 unfold Fe
 refine EJ (fun B t h=>?_) _ _ (A2 (EJ (fun B x h=>?_) _ _ (A2 (EJ (fun B p h=>?_) _ _ (A2 (fun z hz=>?_) _)) _)) _)
 ·unfold E2
  exact EJ (fun B x h=>A2 (A2 (A2 h _) _) _) _ _ (A2 h _)
 ·exact A2 (A2 (A2 (A2 (A2 (A2 h _) _) _) _) _) _
 ·unfold Cb
  refine A2 (A2 (A2 (A2 (A2 (EJ (fun B x h=>A2 (A2 h _) _) _ _ (A2 (A2 (A2 (A2 (A2 (Az.app (A2 h _) (aHS _)) _) _) _) _) _)) _) _) _) _) _
 ·simp only [List.mem_cons,List.not_mem_nil,or_false] at hz
  omega
theorem FL {B:List Int} (h:Az B):Az (BL B):=by
 unfold BL
 refine h.app fun z hz=>?_
 simp only [List.mem_cons,List.not_mem_nil,or_false,Dd] at hz
 omega
theorem GF (C:Ah):Az (Ci C):=FL (Xi C)
end Go.Ab.T
namespace Go.Ab.T
open Go Go.Ab
set_option maxHeartbeats 4000000
/-! Chapter 14's known runs. -/
def Nh:Ah:=⟨[⟨⟨#[97]⟩,0,0,false,false,[⟨0,0⟩],0,0,0,0,0⟩],[],[[⟨1,0,1⟩]]⟩
theorem GN:A1 Nh=(0,-1):=by
 have hk:kids ⟨1,0,1⟩=0:=by unfold kids;decide
 have h1:(Fo.leaf ⟨1,0,1⟩ .nil).ok:=⟨hk,trivial⟩
 have e:([⟨1,0,1⟩]:List Node)=(Fo.leaf ⟨1,0,1⟩ .nil).flat:=rfl
 have h2:=Hy h1 rfl (by decide) (by decide) (by decide)
 have h3:=Uu h1 rfl (by decide) (by decide) (by decide)
 have ho:EG [⟨1,0,1⟩]=([⟨0,1⟩],0):=by rw [e,Gv h2,h3,if_neg (by decide)];rfl
 have hh:Ct Nh [⟨0,1⟩]=0:=by decide +kernel
 refine Ds.2 ⟨by decide,fun j hj=>?_,fun x hx=>(by cases hx),fun t ht=>?_⟩
 ·have:j=0:=by have:Nh.parts.length=1:=rfl;omega
  subst this
  exact ⟨by decide +kernel,rfl,by decide +kernel⟩
 ·rw [List.mem_singleton.1 ht,D7,ho]
  exact ⟨⟨by rw [ho],fun r hr=>by rw [ho] at hr;rw [List.mem_singleton.1 hr];decide⟩,hh⟩
theorem aHi:FS Nh:=Li GN (fun x hx=>by cases hx)
theorem lE:Fd Nh=(Ci Nh,0):=if_pos (by rw [GN])
theorem tD:Fd ⟨[],[],[]⟩=([],3):=rfl
theorem lF:BV []=(⟨[],[],[]⟩,13):=rfl
theorem Zx:BV (BL [72,79,82,65])=(⟨[],[],[]⟩,12):=by
 have e:(Bx ⟨[],false⟩).1=⟨[],[],[]⟩:=rfl
 unfold BV
 rw [Hs,if_neg (by decide),if_neg (by decide)]
 refine if_neg fun q=>?_
 have q1:(Fd (Bx ⟨[],false⟩).1).2=0:=q.1
 rw [e,tD] at q1
 cases q1
theorem Sl.newi {b i n:Nat} {h:AH} {sz:Nat} {N:List (List V)} (hi:i=h.next) (hn:n=N.length) (hb:b≤h.next) (hN:N.length<4294967296):Sl b (h.alloc ⟨sz,N⟩) sz (.sl i 0 n n) N:=by
 subst hi;subst hn;exact Sl.new hb hN
def MQ:AH:=⟨fun i=>if i=4 then some ⟨3,[Nh.enc]⟩ else none,5,0⟩
theorem lD {c : TC} {e : Env} {h : AH} {K : Ex → Env → AH → Prop} (hn : h.next = 5) (hl : h.lim = 0)
    (g0:h.get 0=some ⟨2,[[.i .i64 0,.i .i64 0]]⟩)
    (g1:h.get 1=some ⟨11,[[.s ⟨#[97]⟩,.i .i64 0,.i .i64 0,.b false,.b false,.sl 0 0 1 1,.i .i64 0,.i .i64 0,.i .i64 0,.i .i64 0,.i .i64 0]]⟩)
    (g2:h.get 2=some ⟨3,[[.i .i64 1,.i .i64 0,.i .i64 1]]⟩) (g3:h.get 3=some ⟨1,[[.sl 2 0 1 1]]⟩) (g4:h.get 4=some ⟨3,[[.sl 1 0 1 1,.ns,.sl 3 0 1 1]]⟩) (e1:e 1=.p 4 0 0)
    (z:∀ e',e' 1=.p 4 0 0→dU tp c e' MQ K):dU tp c e h K:=by
 have zz:∀ {n:Nat} {v:V},EU v→CA (·≠4) h n v v:=fun h0=>.z _ _ h0
 have slz:∀ {i sz:Nat} {cs r:List (List V)} {n:Nat},i≠4→h.get i=some ⟨sz,cs⟩→cs.length=1→BG (·≠4) h 0 cs r→CA (·≠4) h n (.sl i 0 1 1) (.fl sz r):=fun h1 h2 h3 h4=>by
  refine .sl _ _ _ _ _ _ _ _ h1 h2 (by omega) (Nat.le_refl _) (by simp [Di]) ?_
  rw [List.drop_zero,List.take_of_length_le (by omega)];exact h4
 refine Nn (JB (h2:=MQ) (·≠4) [1] (fun _=>.p 4 0 0) (fun wf=>⟨hn.symm,hl.symm,⟨fun i k hk=>?_,fun t ht=>?_⟩⟩)) (z _ rfl)
 ·unfold MQ at hk
  simp only at hk
  by_cases hi:i=4
  ·subst hi
   rw [if_pos rfl] at hk;cases hk
   refine ⟨by simp [MQ],by simp,_,g4,.cons _ _ _ _ _ (.cons _ _ _ _ _ (slz (by decide) g1 rfl ?_) (.cons _ _ _ _ _ (.ns _ _) (.cons _ _ _ _ _ (slz (by decide) g3 rfl ?_) (.nil _)))) (.nil _)⟩
   ·exact .cons _ _ _ _ _ (.cons _ _ _ _ _ (zz (.s _)) (.cons _ _ _ _ _ (zz (.i _ _)) (.cons _ _ _ _ _ (zz (.i _ _)) (.cons _ _ _ _ _ (zz (.b _)) (.cons _ _ _ _ _ (zz (.b _)) (.cons _ _ _ _ _ (slz (by decide) g0 rfl (.cons _ _ _ _ _ (.cons _ _ _ _ _ (zz (.i _ _)) (.cons _ _ _ _ _ (zz (.i _ _)) (.nil _))) (.nil _))) (.cons _ _ _ _ _ (zz (.i _ _)) (.cons _ _ _ _ _ (zz (.i _ _)) (.cons _ _ _ _ _ (zz (.i _ _)) (.cons _ _ _ _ _ (zz (.i _ _)) (.cons _ _ _ _ _ (zz (.i _ _)) (.nil _)))))))))))) (.nil _)
   ·exact .cons _ _ _ _ _ (.cons _ _ _ _ _ (slz (by decide) g2 rfl (.cons _ _ _ _ _ (.cons _ _ _ _ _ (zz (.i _ _)) (.cons _ _ _ _ _ (zz (.i _ _)) (.cons _ _ _ _ _ (zz (.i _ _)) (.nil _)))) (.nil _))) (.nil _)) (.nil _)
  ·rw [if_neg hi] at hk;cases hk
 ·rw [List.mem_singleton.1 ht,e1]
  exact .p _ _ _ _ (by simp [MQ])
theorem RN:Pf tp Ym [] (.b true):=by
 have hnm:Fs Nh:=(Dr GN).2
 have hne:Fs ⟨[],[],[]⟩:=fun p hp=>by cases hp
 have t1:=Ej hnm
 have t2:=Ff (b:=Ci Nh) (GF Nh)
 have t3:=Ff (b:=[]) (fun z hz=>by cases hz)
 have t4:=Ej hne
 have t5:=Ff (b:=BL [72,79,82,65]) (FL fun z hz=>by simp only [List.mem_cons,List.not_mem_nil,or_false] at hz;omega)
 have t6:=Ow (a:=Nh) (b:=Nh)
 have t7:=Hp hnm
 have t8:=Hp hne
 rw [lE] at t1 t7
 rw [aG GN aHi] at t2
 rw [lF] at t3
 rw [tD] at t4 t8
 rw [Zx] at t5
 refine Vx aFF (by simp [OM]) fun rp=>?_
 unfold OM
 refine CT ?_
 simp (disch:=omega)only[go_sem, *]
 refine CT ?_
 simp (disch:=omega)only[go_sem, *]
 refine lD rfl rfl rfl rfl rfl rfl rfl rfl ?_
 intro e1 f1
 have g1:MQ.get 4=some ⟨3,[Nh.enc]⟩:=rfl
 have n1:MQ.next=5:=rfl
 have l1:MQ.lim=0:=rfl
 have ea:Nh.enc=[.fl 11 (Nh.parts.map Part.enc),.fl 6 (Nh.chans.map Ar.enc),.fl 1 (Nh.tables.map Tab.enc)]:=rfl
 rw [ea] at g1 t1 t2 t6 t7
 clear ea
 generalize MQ=H at *
 generalize Ci Nh=B at *
 simp only at t1 t2 t3 t4 t5 t6 t7 t8
 refine CT ?_
 simp (disch:=omega)only[go_sem, *]
 refine Pf.go (t1) (by simp only [go_sem]) fun _=>?_;simp (disch:=omega)only[go_sem, *]
 refine WN ?_
 simp (disch:=omega)only[go_sem, *]
 refine Pf.go (t2) (by simp only [go_sem]) fun _=>?_;simp (disch:=omega)only[go_sem, *]
 have hk0:∀ h:AH,h.kills []=h:=fun h=>by simp [AH.kills]
 refine Pf.take [] t3 (.cons _ _ _ _ _ (.ns _ _) (.nil _)) fun _=>?_
 rw [hk0]
 simp (disch:=omega)only[go_sem, *]
 refine Pf.take [] t4 (.cons _ _ _ _ _ (.agg _ _ _ (.cons _ _ _ _ _ (.ns _ _) (.cons _ _ _ _ _ (.ns _ _) (.cons _ _ _ _ _ (.ns _ _) (.nil _))))) (.nil _)) fun _=>?_
 rw [hk0]
 simp (disch:=omega)only[go_sem, *]
 refine Pf.take [7] (G1 (B:=[72,79,82,65]) (by decide)) (.cons _ _ _ _ _ (Sl.froze (Sl.newi (b:=0) (N:=[72,79,82,65].map Aj) ?_ rfl (Nat.zero_le _) (by decide)) (fun _=>rfl) (by decide) (by decide)) (.nil _)) fun _=>?_
 ·simp (disch:=omega)only[go_sem, *]
 simp (disch:=omega)only[go_sem, *]
 refine Pf.go (t5) (by simp only [go_sem]) fun _=>?_;simp (disch:=omega)only[go_sem, *]
 refine Pf.go (t6) (by simp only [go_sem]) fun _=>?_;simp (disch:=omega)only[go_sem, *]
 refine Pf.go (t7) (by simp only [go_sem]) fun _=>?_;simp (disch:=omega)only[go_sem, *]
 refine Pf.take [] t8 (.cons _ _ _ _ _ (.agg _ _ _ (.cons _ _ _ _ _ (.ns _ _) (.cons _ _ _ _ _ (.ns _ _) (.cons _ _ _ _ _ (.ns _ _) (.nil _))))) (.nil _)) fun _=>?_
 rw [hk0]
 simp (disch:=omega)only[go_sem, *]
end Go.Ab.T
namespace Go.Ab.T
open Go Go.Ab
set_option maxHeartbeats 4000000
theorem nA {A B:List Int} (a:Az A) (b:Az B) (h:bC A=bC B):A=B:=by
 have h1:A.map (fun z=>UInt8.ofNat z.toNat)=B.map (fun z=>UInt8.ofNat z.toNat):=by
  unfold bC at h
  injection h with h
  exact List.toArray_inj h
 have key:∀ {l:List Int},Az l→(l.map (fun z=>UInt8.ofNat z.toNat)).map (fun c=>(c.toNat:Int))=l:=fun {l} hl=>by
  rw [List.map_map]
  refine (List.map_congr_left fun z hz=>?_).trans (List.map_id l)
  have:=hl z hz
  simp only [Function.comp,UInt8.toNat_ofNat',id]
  omega
 rw [← key a,←key b,h1]
theorem Made.ok {C:Ah} (m:Made C):FS C:=Li m.wh m.tops
end Go.Ab.T
namespace Go.Ab.T
open Go Go.Ab
set_option maxHeartbeats 4000000
attribute [-go_sem] FX
theorem tP (a:Int):ux a=xr 4294967295 a:=rfl
theorem aIe {a b:Int} (ha:0≤a) (ha2:a<4294967296) (hb:0≤b) (hb2:b<4294967296) (h:ux a=ux b):a=b:=by
 rw [tP,tP,JQ _ a,JQ _ b] at h
 exact Nf ha ha2 hb hb2 (by omega) (by omega) h
theorem TI (a:Int):0≤ux a∧ux a<4294967296:=by
 unfold ux;rw [BZ];omega
theorem Vk {a b:Int} (ha:0≤a) (ha2:a<4294967296) (hb:0≤b) (hb2:b<4294967296) (h:CR a=CR b):a=b:=by
 unfold CR at h
 simp only [List.cons.injEq,Dd,and_true] at h
 have f1:∀ x:Int,x.fdiv 16777216=x / 16777216:=fun x=>Int.fdiv_eq_ediv_of_nonneg _ (by omega)
 have f2:∀ x:Int,x.fdiv 65536=x / 65536:=fun x=>Int.fdiv_eq_ediv_of_nonneg _ (by omega)
 have f3:∀ x:Int,x.fdiv 256=x / 256:=fun x=>Int.fdiv_eq_ediv_of_nonneg _ (by omega)
 simp only [f1,f2,f3] at h
 omega
theorem aXb {C:List Int} (hB:Az C) {k:Nat} {y:Int} (hk:k<(BL C).length) (hy0:0≤y) (hy:y<256) (hne:y≠nth (BL C) k):(A6 ((BL C).set k y)).2=false:=by
 cases hq:(A6 ((BL C).set k y)).2 with
 | false=>rfl
 | true=>
  exfalso
  have e:=R8 hq
  generalize (A6 ((BL C).set k y)).1=E at e
  have hl:C.length=E.length:=by have:=congrArg List.length e;rw [List.length_set,CE,CE] at this;omega
  have hs:BL C=C++CR (Du C):=rfl
  have hs2:BL E=E++CR (Du E):=rfl
  rw [CE] at hk
  rw [hs2,hs] at e
  rw [hs] at hne
  by_cases hkc:k<C.length
  ·rw [List.set_append_left _ _ hkc] at e
   obtain ⟨e1,e2⟩:=List.append_inj e (by rw [List.length_set];exact hl)
   subst e1
   have e4:=aIe (FM _ (by omega) (by omega)).1 (FM _ (by omega) (by omega)).2 (FM _ (by omega) (by omega)).1 (FM _ (by omega) (by omega)).2 (Vk (TI _).1 (TI _).2 (TI _).1 (TI _).2 e2)
   have hn:nth (C++CR (Du C)) k=C[k]:=by rw [BX (by rw [List.length_append];omega),List.getElem_append_left hkc]
   have hc:C=C.take k++C[k]::C.drop (k+1):=by simp
   have hb:=hB _ (List.getElem_mem hkc)
   rw [List.set_eq_take_append_cons_drop,if_pos hkc] at e4
   rw [hn] at hne
   generalize C[k]=z at *
   rw [hc] at e4
   have ht:(C.take k++z::C.drop (k+1)).take k=C.take k:=by rw [← hc]
   have hd:(C.take k++z::C.drop (k+1)).drop (k+1)=C.drop (k+1):=by rw [← hc]
   rw [ht,hd] at e4
   exact hne (bU (fun x hx=>hB x (List.mem_of_mem_drop hx)) hb.1 hb.2 hy0 hy e4).symm
  ·rw [List.set_append_right _ _ (by omega)] at e
   obtain ⟨e1,e2⟩:=List.append_inj e hl
   subst e1
   have h4:(CR (Du C)).length=4:=rfl
   have hn:nth (C++CR (Du C)) k=nth (CR (Du C)) (k - C.length):=by
    rw [BX (by rw [List.length_append];omega),BX (by omega),List.getElem_append_right (by omega)]
   have:nth ((CR (Du C)).set (k - C.length) y) (k - C.length)=y:=by
    rw [BX (by rw [List.length_set];omega),List.getElem_set_self]
   rw [e2] at this
   rw [hn] at hne
   exact hne this.symm
theorem T8 {C:Ah} (hw:A1 C=(0,-1)) (hC:FS C):9≤(Ci C).length∧(Ci C).length<1000000:=by
 have:=Iw (Dr hw).1
 rw [← Dn,CE]
 refine ⟨?_,by omega⟩
 rw [HO (fun x hx=>(hC.cc x hx).t)]
 unfold Ny pn
 simp only [List.length_append,List.length_cons]
 omega
theorem aXd {a b:Int} (a0:0≤a) (a1:a<256) (b0:0<b) (b1:b<256):∃ y:Int,0≤y∧y<256∧y≠a∧Bt .xor (.i .u8 a) (.i .u8 b)=some (.i .u8 y):=by
 obtain ⟨m,rfl⟩:∃ m:Nat,a=m:=⟨a.toNat,by omega⟩
 obtain ⟨k,rfl⟩:∃ k:Nat,b=k:=⟨b.toNat,by omega⟩
 have hx:=Nat.xor_lt_two_pow (n:=8) (show m<2 ^ 8 by omega) (show k<2 ^ 8 by omega)
 have e:(BitVec.ofInt 8 (m:Int) ^^^ BitVec.ofInt 8 (k:Int)).toNat=m ^^^ k:=by
  rw [BitVec.toNat_xor,BitVec.toNat_ofInt,BitVec.toNat_ofInt]
  congr 1<;>omega
 refine ⟨((m ^^^ k:Nat):Int),by omega,by omega,fun q=>?_, ?_⟩
 ·have q2:m ^^^ k=m:=by omega
  have:=congrArg (m ^^^ ·) q2
  simp only [← Nat.xor_assoc,Nat.xor_self,Nat.zero_xor] at this
  omega
 ·show some (V.i .u8 (IntKind.wrap .u8 ((BitVec.ofInt 8 (m:Int) ^^^ BitVec.ofInt 8 (k:Int)).toNat:Int)))=_
  rw [e,Dd]
  congr 2
  omega
end Go.Ab.T
namespace Go.Ab.T
open Go Go.Ab
set_option maxHeartbeats 2000000
attribute [-go_sem] FX
theorem gV:∀ k:Fin 256,((BitVec.ofInt 8 (k.val:Int) &&& BitVec.ofInt 8 127).toNat:Nat)=k.val % 128:=by decide +kernel
theorem UW {k:Int} (h0:0≤k) (h1:k<256):Bt .and (.i .u8 k) (.i .u8 127)=some (.i .u8 (k % 128)):=by
 obtain ⟨m,rfl⟩:∃ m:Nat,k=m:=⟨k.toNat,by omega⟩
 have h:((BitVec.ofInt 8 (m:Int) &&& BitVec.ofInt 8 127).toNat:Nat)=m % 128:=gV ⟨m,by omega⟩
 show some (V.i .u8 (IntKind.wrap .u8 ((BitVec.ofInt 8 (m:Int) &&& BitVec.ofInt 8 127).toNat:Int)))=_
 rw [h,Dd]
 congr 2
 omega
theorem Sl.b2s {b:Nat} {h:AH} {v:V} {B:List Int} (s:Sl b h 1 v (B.map Aj)):Ln h v=some (.s ⟨(B.map fun z=>UInt8.ofNat z.toNat).toArray⟩):=by
 have hr:=s.rows
 rcases s with ⟨hv,hR⟩ | ⟨id,el,cap,cs,rfl,_⟩
 ·have:B=[]:=List.map_eq_nil_iff.1 hR
  subst this
  rcases hv with rfl | rfl<;>rfl
 ·unfold Ln
  simp only [hr,Option.bind_some,Jc,Option.map_some]
theorem HG {A B:List Int} (a:Az A) (b:Az B):(⟨(A.map fun z=>UInt8.ofNat z.toNat).toArray⟩:ByteArray)=⟨(B.map fun z=>UInt8.ofNat z.toNat).toArray⟩↔A=B:=
 ⟨nA a b,fun h=>by rw [h]⟩
theorem mW {K : Ex → Env → AH → Prop} {e : Env} {b : List Int} {k : Nat} {h : AH} (hb : Az b) (hk : k < b.length) (hL : b.length < 4000000000) (e0 : e 0 = .fl 1 (b.map Aj)) (e4 : e 4 = .i .i64 k) (e5 : e 5 = .i .u64 0) (e6 : e 6 = .i .i64 1)
    (kk:∀ e:Env,e 0=.fl 1 (b.map Aj)→e 4=.i .i64 k→e 5=.i .u64 (Eu ((b.drop 1).take k) 0)→K (.ex 0) e h):ZC tp (.loop QT) e h K:=by
 have hll:((b.drop 1).take k).length=k:=by rw [List.length_take,List.length_drop];omega
 have hn:∀ j,1≤j→j≤k→nth ((b.drop 1).take k) (j - 1)=nth b j:=fun j h1 h2=>by
  rw [BX (by omega),BX (by omega),List.getElem_take,List.getElem_drop]
  congr 1;omega
 generalize (b.drop 1).take k=l at *
 refine Ae (fun n' e hh=>∃ (j:Nat) (u:Int),n'=k+1 - j∧hh=h∧e 0=.fl 1 (b.map Aj)∧e 4=.i .i64 k∧e 5=.i .u64 u∧e 6=.i .i64 j∧1≤j∧j≤k+1∧Eu (l.drop (j - 1)) u=Eu l 0) ?_ _ _ _ ⟨1,0,rfl,rfl,e0,e4,e5,e6,by omega,by omega,rfl⟩
 clear e0 e4 e5 e6 e
 rintro n' e hh ⟨j,u,rfl,rfl,e0,e4,e5,e6,hj,hi,hz⟩ ih
 have o1:=Tw
 rw [Ai QT.eq_1]
 simp (disch:=omega)only[go_sem, *]
 refine Aa (fun hc=>?_) (fun hc=>?_)
 ·rw [Ax (by omega),Eu,hn j hj (by omega)] at hz
  have hbi:=hb _ (Bm (L:=b) (j:=j) (by omega))
  have o3:=or8 (u:=u) hbi.1 hbi.2
  have ej:j - 1+1=j:=by omega
  rw [ej] at hz
  clear hn hll
  simp (disch:=omega)only[go_sem, *]
  refine ih _ _ _ ?_ ⟨j+1,IntKind.wrap .u64 (u*256)+nth b j,rfl, ?_⟩
  ·omega
  ·clear ih kk
   simp (disch:=omega)only[go_sem, *]
   all_goals ((repeat' refine And.intro ?_ ?_)<;>first | omega | assumption | (exact congrArg (V.i .u64) o3))
 ·rw [List.drop_eq_nil_of_le (by omega),Eu] at hz
  simp (disch:=omega)only[go_sem, *]
  refine kk _ ?_ ?_ ?_<;>simp (disch:=omega)only[go_sem, *]
theorem TA {b:List Int} (hb:Az b):Pf tp Zm [.fl 1 (b.map Aj)] (.tup [.i .i64 (Bg b).1,.i .i64 (Bg b).2]):=by
 refine AD aG1 (by simp [Qk]) fun rp=>?_
 have hL:=rp.head.len
 unfold Qk
 by_cases hne:b=[]
 ·subst hne
  simp (disch:=omega)only[go_sem, *]
  exact ⟨rfl,rfl⟩
 ·obtain ⟨k0,r,hbe⟩:∃ k0 r,k0::r=b:=by cases b with | nil=>exact absurd rfl hne | cons k r=>exact ⟨k,r,rfl⟩
  obtain ⟨h0,h1⟩:=hb k0 (by rw [← hbe];exact List.mem_cons_self ..)
  have o1:=UW h0 h1
  have hn:nth b 0=k0:=by rw [← hbe];rfl
  have hlb:b.length=r.length+1:=by rw [← hbe];rfl
  have mt:∀ n,List.take n (b.map Aj)=(b.take n).map Aj:=fun n=>List.map_take.symm
  clear hne
  obtain ⟨k,hk⟩:∃ k:Nat,k0 % 128=k:=⟨(k0 % 128).toNat,by omega⟩
  rw [hk] at o1
  simp (disch:=omega)only[go_sem, *]
  refine Aa (fun hc=>absurd hc (by omega)) (fun _=>?_)
  simp (disch:=omega)only[go_sem, *]
  have hg:Bg b=(if 8<k∨r.length<k then (0,0) else if Am [] (Gg k0 (r.take k))=k0::r.take k then (Gg k0 (r.take k),k+1) else (0,0)):=by
   rw [← hbe,Bg,hk]
   simp
  have bad:8<k∨r.length<k→Bg b=(0,0):=fun q=>by rw [hg,if_pos q]
  refine Aq (fun hc=>?_) (fun hc=>?_)
  ·have e:=bad (.inl (by omega))
   clear bad hg
   simp (disch:=omega)only[go_sem, *]
  ·simp (disch:=omega)only[go_sem, *]
   refine Aa (fun hc2=>?_) (fun hc2=>?_)
   ·have e:=bad (.inr (by omega))
    clear bad hg
    simp (disch:=omega)only[go_sem, *]
   ·rw [if_neg (by omega)] at hg
    have e1:(b.drop 1).take k=r.take k:=by rw [← hbe];rfl
    obtain ⟨T,hT⟩:∃ T,k0::r.take k=T:=⟨_,rfl⟩
    have e2:b.take (k+1)=T:=by rw [← hbe,←hT];rfl
    have hTi:Az T:=by rw [← e2];exact hb.take
    rw [hT] at hg
    have e3:((k:Int)+1).toNat=k+1:=by omega
    clear bad hbe hT
    simp (disch:=omega)only[go_sem, *]
    refine mW (b:=b) (k:=k) hb (by omega) hL ?_ ?_ ?_ ?_ ?_
    any_goals (simp (disch:=omega)only[go_sem, *];done)
    intro e f0 f4 f5
    simp (disch:=omega)only[go_sem, *]
    refine Aa (fun hc3=>?_) (fun hc3=>?_)
    ·have hnum:Gg k0 (r.take k)=IntKind.wrap .i64 (0 - IntKind.wrap .i64 (Eu (r.take k) 0)):=if_pos hc3
     rw [hnum] at hg
     clear hnum
     generalize Eu (r.take k) 0=u at *
     simp (disch:=omega)only[go_sem, *]
     refine Bw (b:=.ns) (B:=[]) (n:=IntKind.wrap .i64 (0 - IntKind.wrap .i64 u)) ?_ (Sl.nil 0 _ _) (by simp) ?_
     ·simp (disch:=omega)only[go_sem, *]
     intro q h2 s2 x2
     have hq:=Sl.b2s (Sl.back (l:=0) s2)
     have hpl:=Ak [] (IntKind.wrap .i64 (0 - IntKind.wrap .i64 u))
     have hpi:=A2 (B:=[]) (fun z hz=>by cases hz) (IntKind.wrap .i64 (0 - IntKind.wrap .i64 u))
     rw [List.length_nil] at hpl
     clear s2 x2
     generalize Am [] (IntKind.wrap .i64 (0 - IntKind.wrap .i64 u))=W at *
     simp (disch:=omega)only[go_sem, *]
     refine Aa (fun hc4=>?_) (fun hc4=>?_)
     ·rw [if_neg (fun q=>hc4 ((HG hpi hTi).2 q))] at hg
      clear hpi hTi
      simp (disch:=omega)only[go_sem, *]
     ·rw [if_pos ((HG hpi hTi).1 (Classical.not_not.1 hc4))] at hg
      clear hpi hTi
      simp (disch:=omega)only[go_sem, *]
    ·have hnum:Gg k0 (r.take k)=IntKind.wrap .i64 (Eu (r.take k) 0):=if_neg (by omega)
     rw [hnum] at hg
     clear hnum
     generalize Eu (r.take k) 0=u at *
     simp (disch:=omega)only[go_sem, *]
     refine Bw (b:=.ns) (B:=[]) (n:=IntKind.wrap .i64 u) ?_ (Sl.nil 0 _ _) (by simp) ?_
     ·simp (disch:=omega)only[go_sem, *]
     intro q h2 s2 x2
     have hq:=Sl.b2s (Sl.back (l:=0) s2)
     have hpl:=Ak [] (IntKind.wrap .i64 u)
     have hpi:=A2 (B:=[]) (fun z hz=>by cases hz) (IntKind.wrap .i64 u)
     rw [List.length_nil] at hpl
     clear s2 x2
     generalize Am [] (IntKind.wrap .i64 u)=W at *
     simp (disch:=omega)only[go_sem, *]
     refine Aa (fun hc4=>?_) (fun hc4=>?_)
     ·rw [if_neg (fun q=>hc4 ((HG hpi hTi).2 q))] at hg
      clear hpi hTi
      simp (disch:=omega)only[go_sem, *]
     ·rw [if_pos ((HG hpi hTi).1 (Classical.not_not.1 hc4))] at hg
      clear hpi hTi
      simp (disch:=omega)only[go_sem, *]
theorem mN {b:List Int} {m:Int} (hb:Az b) (hm:m≤1000):Pf tp RD [.fl 1 (b.map Aj),.i .i64 m] (.tup [.s (bC (DN b m).1),.i .i64 (DN b m).2]):=by
 refine AD kN (by simp [K3]) fun rp=>?_
 have hL:=rp.head.len
 have hg:=TA hb
 have hbd:=GL (b:=b)
 unfold K3
 simp (disch:=omega)only[go_sem, *]
 refine Pf.go (hg) (by simp only [go_sem]) fun _=>?_;simp (disch:=omega)only[go_sem, *]
 clear hg
 have mt:∀ n m,List.take m (List.drop n (b.map Aj))=((b.drop n).take m).map Aj:=fun n m=>by rw [List.map_take,List.map_drop]
 have md2:∀ n m,List.drop m (List.take n (b.map Aj))=((b.take n).drop m).map Aj:=fun n m=>by rw [List.map_drop,List.map_take]
 have bad:(Bg b).2=0∨(Bg b).1<0∨m<(Bg b).1∨(b.length:Int) - (Bg b).2<(Bg b).1→DN b m=([],0):=fun q=>if_pos q
 have good:¬ ((Bg b).2=0∨(Bg b).1<0∨m<(Bg b).1∨(b.length:Int) - (Bg b).2<(Bg b).1)→DN b m=((b.drop (Bg b).2).take (Bg b).1.toNat,(Bg b).2+(Bg b).1.toNat):=fun q=>if_neg q
 generalize Bg b=p at *
 obtain ⟨n,k⟩:=p
 simp only at bad good hbd
 simp (disch:=omega)only[go_sem, *]
 refine Aq (fun hc=>?_) (fun hc=>?_)
 ·have e:=bad (.inl (by omega))
  clear bad good
  simp (disch:=omega)only[go_sem, *]
  rfl
 ·simp (disch:=omega)only[go_sem, *]
  refine Aq (fun hc2=>?_) (fun hc2=>?_)
  ·have e:=bad (.inr (.inl hc2))
   clear bad good
   simp (disch:=omega)only[go_sem, *]
   rfl
  ·simp (disch:=omega)only[go_sem, *]
   refine Aq (fun hc3=>?_) (fun hc3=>?_)
   ·have e:=bad (by omega)
    clear bad good
    simp (disch:=omega)only[go_sem, *]
    rfl
   ·simp (disch:=omega)only[go_sem, *]
    refine Aa (fun hc4=>?_) (fun hc4=>?_)
    ·have e:=bad (by omega)
     clear bad good
     simp (disch:=omega)only[go_sem, *]
     rfl
    ·have e:=good (by omega)
     obtain ⟨w,rfl⟩:∃ w:Nat,n=w:=⟨n.toNat,by omega⟩
     have h1:((k:Int)+(w:Int)).toNat=k+w:=by omega
     have h2:k+w - k=w:=by omega
     rw [Int.toNat_natCast] at e
     clear bad good
     simp (disch:=omega)only[go_sem, *]
     rfl
end Go.Ab.T
namespace Go.Ab.T
open Go Go.Ab
set_option maxHeartbeats 2000000
theorem Ig {h:AH} {id:Nat} {s:Rd} {K:V→AH→Prop} (hg:h.get id=some (Bs s)) (hb:Az s.b) (hlo:h.lim≤id) (kk:K (.i .i64 (BD s).1) (h.put id (Bs (BD s).2))):Cq tp S7 [.p id 0 0] h K:=by
 obtain ⟨b,bad⟩:=s
 have hg1:=TA hb
 have hbd:=GL (b:=b)
 have f1:bad=true∨(Bg b).2=0→BD ⟨b,bad⟩=(0,⟨b,true⟩):=fun q=>if_pos q
 have f2:¬ (bad=true∨(Bg b).2=0)→BD ⟨b,bad⟩=((Bg b).1,⟨b.drop (Bg b).2,bad⟩):=fun q=>if_neg q
 have mk:∀ n,List.drop n (b.map Aj)=(b.drop n).map Aj:=fun n=>List.map_drop.symm
 simp only [Bs] at hg
 refine ER aGs (by simp [PC]) ((by rw [hg];rfl)) (fun _ _ _=>.cons _ _ _ _ _ (BS.of_stay rfl) (.nil _)) (kk) fun hlm hid rp=>?_;unfold PC;simp (disch:=omega)only[go_sem, *]
 refine Pf.go (hg1) (by simp only [go_sem]) fun _=>?_;simp (disch:=omega)only[go_sem, *]
 clear hg1
 generalize Bg b=p at *
 obtain ⟨n,k⟩:=p
 simp only at f1 f2 hbd
 have ml:List.take (b.length - k) ((b.drop k).map Aj)=(b.drop k).map Aj:=List.take_of_length_le (by simp)
 cases bad with
 | true=>
  have e:=f1 (.inl rfl)
  clear f1 f2
  simp (disch:=omega)only[go_sem, *]
  exact Bd (EI.same hg)
 | false=>
  simp (disch:=omega)only[go_sem, *]
  refine Aa (fun hc=>?_) (fun hc=>?_)
  ·have e:=f1 (.inr (by omega))
   clear f1 f2
   simp (disch:=omega)only[go_sem, *]
   exact Bd (EI.same hg)
  ·have e:=f2 (by simp;omega)
   clear f1 f2
   simp (disch:=omega)only[go_sem, *]
   exact Bd (EI.same hg)
theorem BA {h:AH} {id:Nat} {s:Rd} {m:Int} {K:V→AH→Prop} (hg:h.get id=some (Bs s)) (hb:Az s.b) (hlo:h.lim≤id) (kk:K (.i .i64 (AI m s).1) (h.put id (Bs (AI m s).2))):Cq tp Jh [.p id 0 0,.i .i64 0,.i .i64 m] h K:=by
 have f1:(BD s).1<0∨m<(BD s).1→AI m s=(0,⟨(BD s).2.b,true⟩):=fun q=>if_pos q
 have f2:¬ ((BD s).1<0∨m<(BD s).1)→AI m s=BD s:=fun q=>if_neg q
 refine ER aGp (by simp [Pz]) ((by rw [hg];rfl)) (fun _ _ _=>.cons _ _ _ _ _ (BS.of_stay rfl) (.nil _)) (kk) fun hlm hid rp=>?_;unfold Pz;simp (disch:=omega)only[go_sem, *]
 refine Ig hg hb hlo ?_
 have hu:=Bd (b':=Bs (BD s).2) (EI.same hg)
 simp only [Bs] at hu
 generalize BD s=p at *
 obtain ⟨n,b,bad⟩:=p
 simp only at f1 f2 hu
 simp (disch:=omega)only[go_sem, *]
 refine Aq (fun hc=>?_) (fun hc=>?_)
 ·have e:=f1 (.inl hc)
  clear f1 f2
  simp (disch:=omega)only[go_sem, *]
  exact Bd (EI.same hg)
 ·simp (disch:=omega)only[go_sem, *]
  refine Aa (fun hc2=>?_) (fun hc2=>?_)
  ·have e:=f1 (.inr hc2)
   clear f1 f2
   simp (disch:=omega)only[go_sem, *]
   exact Bd (EI.same hg)
  ·have e:=f2 (by omega)
   clear f1 f2
   simp (disch:=omega)only[go_sem, *]
theorem mZ {h:AH} {id:Nat} {s:Rd} {m:Int} {K:V→AH→Prop} (hg:h.get id=some (Bs s)) (hb:Az s.b) (hm:m≤1000) (hlo:h.lim≤id) (kk:K (.s (DL m s).1) (h.put id (Bs (DL m s).2))):Cq tp Te [.p id 0 0,.i .i64 m] h K:=by
 obtain ⟨b,bad⟩:=s
 have hg1:=mN hb hm
 have hbd:(DN b m).2≤b.length:=by
  have:=GL (b:=b)
  unfold DN
  split
  ·simp
  ·rename_i q
   simp only
   omega
 have f1:bad=true∨(DN b m).2=0→DL m ⟨b,bad⟩=(⟨#[]⟩,⟨b,true⟩):=fun q=>if_pos q
 have f2:¬ (bad=true∨(DN b m).2=0)→DL m ⟨b,bad⟩=(bC (DN b m).1,⟨b.drop (DN b m).2,bad⟩):=fun q=>if_neg q
 have mk:∀ n,List.drop n (b.map Aj)=(b.drop n).map Aj:=fun n=>List.map_drop.symm
 simp only [Bs] at hg
 refine ER aG0 (by simp [Qj]) ((by rw [hg];rfl)) (fun _ _ _=>.cons _ _ _ _ _ (BS.of_stay rfl) (.nil _)) (kk) fun hlm hid rp=>?_;unfold Qj;simp (disch:=omega)only[go_sem, *]
 refine Pf.go (hg1) (by simp only [go_sem]) fun _=>?_;simp (disch:=omega)only[go_sem, *]
 clear hg1
 generalize DN b m=p at *
 obtain ⟨n,k⟩:=p
 simp only at f1 f2 hbd
 have ml:List.take (b.length - k) ((b.drop k).map Aj)=(b.drop k).map Aj:=List.take_of_length_le (by simp)
 cases bad with
 | true=>
  have e:=f1 (.inl rfl)
  clear f1 f2
  simp (disch:=omega)only[go_sem, *]
  exact Bd (EI.same hg)
 | false=>
  simp (disch:=omega)only[go_sem, *]
  refine Aa (fun hc=>?_) (fun hc=>?_)
  ·have e:=f1 (.inr (by omega))
   clear f1 f2
   simp (disch:=omega)only[go_sem, *]
   exact Bd (EI.same hg)
  ·have e:=f2 (by simp;omega)
   clear f1 f2
   simp (disch:=omega)only[go_sem, *]
   exact Bd (EI.same hg)
theorem aF {h:AH} {id:Nat} {s:Rd} {K:V→AH→Prop} (hg:h.get id=some (Bs s)) (hL:s.b.length<4000000000) (kk:K (.b (!s.bad&&decide ((s.b.length:Int)=0))) h):Cq tp YZ [.p id 0 0] h K:=by
 obtain ⟨b,bad⟩:=s
 simp only [Bs] at hg
 simp only at hL
 refine Mk aGt (by simp [PD]) (kk) fun hlm rp=>?_;unfold PD;simp (disch:=omega)only[go_sem, *]
 clear kk
 cases bad with
 | true=>
  simp (disch:=omega)only[go_sem, *]
  (repeat (first | exact AJ.refl _ | refine AJ.alloc ?_ _ | (refine AJ.put ?_ _ _ ?_;rotate_left;(first | omega | (simp only [Ag,AB];omega)))))
 | false=>
  simp (disch:=omega)only[go_sem, *]
  (repeat (first | exact AJ.refl _ | refine AJ.alloc ?_ _ | (refine AJ.put ?_ _ _ ?_;rotate_left;(first | omega | (simp only [Ag,AB];omega)))))
theorem Z2 {B:List Int} (h:4≤B.length):(BL (B.take (B.length - 4))=B↔CR (Du (B.take (B.length - 4)))=B.drop (B.length - 4)):=by
 have hs:BL (B.take (B.length - 4))=B.take (B.length - 4)++CR (Du (B.take (B.length - 4))):=rfl
 rw [hs]
 constructor
 ·intro e
  exact List.append_cancel_left (e.trans (List.take_append_drop (B.length - 4) B).symm)
 ·intro e
  rw [e,List.take_append_drop]
theorem aN {B:List Int} (hB:Az B) (hl:B.length<2500000):Pf tp YX [.fl 1 (B.map Aj)] (.tup [.fl 1 ((A6 B).1.map Aj),.b (A6 B).2]):=by
 refine AD aGo (by simp [Py]) fun rp=>?_;unfold Py;simp (disch:=omega)only[go_sem, *]
 have mt:∀ n,List.take n (B.map Aj)=(B.take n).map Aj:=fun n=>List.map_take.symm
 refine Aq (fun hc=>?_) (fun hc=>?_)
 ·have e:A6 B=([],false):=if_neg (by omega)
  simp (disch:=omega)only[go_sem, *]
 ·have et:((B.length:Int) - 4).toNat=B.length - 4:=by omega
  simp (disch:=omega)only[go_sem, *]
  refine Pf.go (G1 (B:=B.take (B.length - 4)) (by rw [List.length_take];omega)) (by simp only [go_sem]) fun _=>?_;simp (disch:=omega)only[go_sem, *]
  have hu:=HG (FL (hB.take (n:=B.length - 4))) hB
  have he:=Z2 (B:=B) (by omega)
  refine Aa (fun hc2=>?_) (fun hc2=>?_)
  ·have e:A6 B=([],false):=if_neg (fun q=>hc2 (hu.2 (he.2 q.2)))
   clear hc2 hu he
   simp (disch:=omega)only[go_sem, *]
  ·have e:A6 B=(B.take (B.length - 4),true):=if_pos ⟨by omega,he.1 (hu.1 (Classical.not_not.1 hc2))⟩
   clear hc2 hu he
   simp (disch:=omega)only[go_sem, *]
   refine Ap (N:=(B.take (B.length - 4)).map Aj) (Sl.nil' 0 _ 1) (by simp (disch:=omega)only[go_sem, *]) (by simp (disch:=omega)only[go_sem, *]) (by simp;omega) ?_
   intro w h4 s4 g4
   clear g4
   simp (disch:=omega)only[go_sem, *]
   exact Sl.froze (by simpa using s4) (fun _=>rfl) trivial (by rw [List.length_take];omega)
end Go.Ab.T
namespace Go.Ab.T
open Go Go.Ab
set_option maxHeartbeats 4000000
theorem aR {K : Ex → Env → AH → Prop} {e : Env} {h hh : AH} {id n : Nat} {s : Rd} {P : List AN × Rd} {r0 : List V} {a b c d f g0 g1 g2 g3 g4 : V} (hid : id < h.next) (hlo : h.lim ≤ id) (hn : n ≤ 3) (hP : Cw n [] s = P) (hb : Az s.b)
    (l0:hh.lim=h.lim) (n0:h.next+2≤hh.next) (q0:hh.get id=some (Bs s)) (q1:hh.get h.next=some ⟨11,[r0]⟩) (q2:hh.get (h.next+1)=some ⟨11,[[a,b,c,d,f,.ns,g0,g1,g2,g3,g4]]⟩) (fr:∀ j,j<h.next→j≠id→hh.get j=h.get j)
    (e0:e 0=.p id 0 0) (e2:e 2=.p h.next 0 0) (e3:e 3=.p (h.next+1) 0 0) (e4:e 4=.i .i64 n)
    (kk:∀ (e:Env) (hh:AH) (v:V),hh.lim=h.lim→h.next+2≤hh.next→hh.get id=some (Bs P.2)→Az P.2.b→hh.get h.next=some ⟨11,[r0]⟩→hh.get (h.next+1)=some ⟨11,[[a,b,c,d,f,v,g0,g1,g2,g3,g4]]⟩→(∀ j,j<h.next→j≠id→hh.get j=h.get j)→Sl (h.next+2) hh 2 v (P.1.map AN.enc)→P.1.length≤3→e 0=.p id 0 0→e 2=.p h.next 0 0→e 3=.p (h.next+1) 0 0→K (.ex 0) e hh):ZC tp (.loop QQ) e hh K:=by
 refine Ae (fun n' e hh=>∃ (i:Nat) (v:V) (A:List AN) (s:Rd),n'=i∧hh.lim=h.lim∧h.next+2≤hh.next∧hh.get id=some (Bs s)∧Az s.b∧hh.get h.next=some ⟨11,[r0]⟩∧hh.get (h.next+1)=some ⟨11,[[a,b,c,d,f,v,g0,g1,g2,g3,g4]]⟩∧(∀ j,j<h.next→j≠id→hh.get j=h.get j)∧Sl (h.next+2) hh 2 v (A.map AN.enc)∧A.length+i=n∧Cw i A s=P∧e 0=.p id 0 0∧e 2=.p h.next 0 0∧e 3=.p (h.next+1) 0 0∧e 4=.i .i64 i) ?_ _ _ _ ⟨n,.ns,[],s,rfl,l0,n0,q0,hb,q1,q2,fr,Sl.nil _ _ _,by simp,hP,e0,e2,e3,e4⟩
 clear l0 n0 q0 q1 q2 fr e0 e2 e3 e4 e hh hb hP s
 rintro n' e hh ⟨i,v,A,s,hn0,l0,n0,q0,hb,q1,q2,fr,sl,hA,hP,e0,e2,e3,e4⟩ ih
 have hsv:=Sl.sameV sl
 have hown:=As sl
 obtain ⟨wlen,wbig,wlt,wlo,wget,FO,wrow,wcell,wcells⟩:=sl.facts
 clear wlt wlo wget FO wrow
 rw [Ai QQ.eq_1]
 simp (disch:=omega)only[go_sem, *]
 refine Aa (fun hc=>?_) (fun hc=>?_)
 ·have hni:i=(i - 1)+1:=by omega
  rw [hni,Cw] at hP
  have hcm:(i:Int) - 1=((i - 1:Nat):Int):=by omega
  clear hni
  have b1:=hb.cnt (m:=512)
  have b2:=b1.cnt (m:=255)
  simp (disch:=omega)only[go_sem, *]
  refine BA (s:=s) (m:=512) ?_ hb ?_ ?_
  ·simp (disch:=omega)only[go_sem, *]
  ·simp (disch:=omega)only[go_sem, *]
  generalize AI 512 s=t1 at *
  have q0':(hh.put id (Bs t1.2)).get id=some (Bs t1.2):=by rw [Ad,AC rfl]
  simp (disch:=omega)only[go_sem, *]
  refine BA (s:=t1.2) (m:=255) ?_ b1 ?_ ?_
  ·simp (disch:=omega)only[go_sem, *]
  ·simp (disch:=omega)only[go_sem, *]
  generalize AI 255 t1.2=t2 at *
  have sl2:=AA sl id (Bs t2.2) (hown.imp (fun x=>x) (fun x=>by omega))
  simp only [Bs] at sl2
  simp (disch:=omega)only[go_sem, *]
  refine Ap (N:=[AN.enc ⟨t1.1,t2.1⟩]) (Sl.alloc sl2 ⟨2,[AN.enc ⟨t1.1,t2.1⟩]⟩) ?_ ?_ ?_ ?_
  ·rw [AL,CV];omega
  ·rw [Ag,AB];omega
  ·simp;omega
  intro w h4 s4 g4
  have hl4:=g4.lim
  have hn4:=g4.next
  have lo4:∀ j,j<h.next+2→h4.get j=if j=id then some (Bs t2.2) else hh.get j:=fun j hj=>by
   rw [g4.low j hj,AM,Ac (by rw [AB];omega),Ad]
   by_cases hq:j=id
   ·rw [AC hq,if_pos hq];rfl
   ·rw [Ac hq,if_neg hq]
  have s5:Sl (h.next+2) h4 2 w ((A++[(⟨t1.1,t2.1⟩:AN)]).map AN.enc):=by simpa using s4
  rw [AL,CV] at hl4
  rw [Ag,AB] at hn4
  have p0:=lo4 id (by omega)
  rw [if_pos rfl] at p0
  have p1:=lo4 h.next (by omega)
  rw [if_neg (by omega),q1] at p1
  have p2:=lo4 (h.next+1) (by omega)
  rw [if_neg (by omega),q2] at p2
  have fr4:∀ j,j<h.next→j≠id→h4.get j=h.get j:=fun j hj hne=>by rw [lo4 j (by omega),if_neg hne];exact fr j hj hne
  obtain ⟨_,_,_,_,_,_,_,xc1,xc2⟩:=s5.facts
  have so5:=As s5
  clear s4 g4 sl2 sl lo4 q0 q0' q1 q2 fr hsv wlen wbig wcell wcells
  simp (disch:=omega)only[go_sem, *]
  have s6:=AA s5 (h.next+1) ⟨11,[[a,b,c,d,f,w,g0,g1,g2,g3,g4]]⟩ (so5.imp (fun x=>x) (fun x=>by omega))
  refine ih _ _ _ ?_ ⟨i - 1,w,A++[⟨t1.1,t2.1⟩],t2.2,rfl, ?_⟩
  ·omega
  ·clear ih kk s5
   simp (disch:=omega)only[go_sem, *]
   all_goals ((repeat' refine And.intro ?_ ?_)<;>first | omega | assumption | (exact s6) | (exact b2) | ((simp;omega)) | (exact hP) | ((intro j hj hne;rw [Ac (by omega)];exact fr4 j hj hne)))
 ·have h0:i=0:=by omega
  rw [h0,Cw] at hP
  subst hP
  simp (disch:=omega)only[go_sem, *]
  exact kk _ _ v l0 n0 q0 hb q1 q2 fr sl (show A.length≤3 by omega) e0 e2 e3
theorem U7 {h:AH} {id:Nat} {s:Rd} {K:V→AH→Prop} (hg:h.get id=some (Bs s)) (hb:Az s.b) (hlo:h.lim≤id) (kk:K (.agg (Da s).1.enc) (h.put id (Bs (Da s).2))):Cq tp S5 [.p id 0 0] h K:=by
 refine ER aGq (by simp [PA]) ((by rw [hg];rfl)) (fun _ _ _=>.cons _ _ _ _ _ (BS.of_stay rfl) (.nil _)) (kk) fun hlm hid rp=>?_;unfold PA;simp (disch:=omega)only[go_sem, *]
 clear kk
 have hgf:h.get id=some ⟨2,[[.fl 1 (s.b.map Aj),.b s.bad]]⟩:=hg
 have hun:=hid
 refine mZ (s:=s) (m:=12) ?_ hb (by omega) ?_ ?_
 ·simp (disch:=omega)only[go_sem, *]
 ·simp (disch:=omega)only[go_sem, *]
 have b1:=hb.text (m:=12)
 obtain ⟨t1,ht1⟩:∃ x,DL 12 s=x:=⟨_,rfl⟩
 rw [ht1] at b1 ⊢
 simp (disch:=omega)only[go_sem, *]
 refine Ig (s:=t1.2) ?_ b1 ?_ ?_
 ·simp (disch:=omega)only[go_sem, *]
 ·simp (disch:=omega)only[go_sem, *]
 have b2:=b1.num
 obtain ⟨t2,ht2⟩:∃ x,BD t1.2=x:=⟨_,rfl⟩
 rw [ht2] at b2 ⊢
 simp (disch:=omega)only[go_sem, *]
 refine Ig (s:=t2.2) ?_ b2 ?_ ?_
 ·simp (disch:=omega)only[go_sem, *]
 ·simp (disch:=omega)only[go_sem, *]
 have b3:Az (BD t2.2).2.b:=by first | exact Az.num b2 | exact Az.flag b2 | exact Az.cnt b2
 obtain ⟨t3,ht3⟩:∃ x,BD t2.2=x:=⟨_,rfl⟩
 rw [ht3] at b3 ⊢
 simp (disch:=omega)only[go_sem, *]
 refine BA (s:=t3.2) ?_ b3 ?_ ?_
 ·simp (disch:=omega)only[go_sem, *]
 ·simp (disch:=omega)only[go_sem, *]
 have b4:Az (AI 1 t3.2).2.b:=by first | exact Az.num b3 | exact Az.flag b3 | exact Az.cnt b3
 obtain ⟨t4,ht4⟩:∃ x,AI 1 t3.2=x:=⟨_,rfl⟩
 rw [ht4] at b4 ⊢
 simp (disch:=omega)only[go_sem, *]
 refine BA (s:=t4.2) ?_ b4 ?_ ?_
 ·simp (disch:=omega)only[go_sem, *]
 ·simp (disch:=omega)only[go_sem, *]
 have b5:Az (AI 1 t4.2).2.b:=by first | exact Az.num b4 | exact Az.flag b4 | exact Az.cnt b4
 obtain ⟨t5,ht5⟩:∃ x,AI 1 t4.2=x:=⟨_,rfl⟩
 rw [ht5] at b5 ⊢
 simp (disch:=omega)only[go_sem, *]
 refine BA (s:=t5.2) ?_ b5 ?_ ?_
 ·simp (disch:=omega)only[go_sem, *]
 ·simp (disch:=omega)only[go_sem, *]
 have b6:Az (AI 3 t5.2).2.b:=by first | exact Az.num b5 | exact Az.flag b5 | exact Az.cnt b5
 obtain ⟨t6,ht6⟩:∃ x,AI 3 t5.2=x:=⟨_,rfl⟩
 rw [ht6] at b6 ⊢
 have c6:0≤t6.1∧t6.1≤3:=by rw [← ht6];exact Fm (by omega)
 obtain ⟨n6,hn6⟩:∃ n:Nat,t6.1=n:=⟨t6.1.toNat,by omega⟩
 obtain ⟨t7,ht7⟩:∃ x,Cw n6 [] t6.2=x:=⟨_,rfl⟩
 simp (disch:=omega)only[go_sem, *]
 refine aR (h:=h) (id:=id) (n:=n6) (s:=t6.2) (P:=t7) (r0:=[.s ⟨#[]⟩,.i .i64 0,.i .i64 0,.b false,.b false,.ns,.i .i64 0,.i .i64 0,.i .i64 0,.i .i64 0,.i .i64 0]) (a:=.s t1.1) (b:=.i .i64 t2.1) (c:=.i .i64 t3.1) (d:=.b (decide (t4.1=1))) (f:=.b (decide (t5.1=1))) (g0:=.i .i64 0) (g1:=.i .i64 0) (g2:=.i .i64 0) (g3:=.i .i64 0) (g4:=.i .i64 0) hid hlo (by omega) ht7 b6 ?_ ?_ ?_ ?_ ?_ ?_ ?_ ?_ ?_ ?_ ?_
 any_goals (simp (disch:=omega)only[go_sem, *];done)
 try (any_goals (simp (disch:=omega)only[go_sem, *]<;>omega))
 ·intro j hj hne
  simp (disch:=omega)only[go_sem, *]
 clear b1 b2 b3 b4 b5 b6 hg hgf c6
 intro e hh v l0 n0 q0 b7 q1 q2 fr sl hpl e0 e2 e3
 simp only [Bs] at q0
 have hown:=As sl
 obtain ⟨_,_,_,_,_,_,_,wc1,wc2⟩:=sl.facts
 simp (disch:=omega)only[go_sem, *]
 refine Bc ?_
 rw [Ai Hh.eq_1]
 simp (disch:=omega)only[go_sem, *]
 refine BA (s:=t7.2) ?_ b7 ?_ ?_
 ·simp (disch:=omega)only[go_sem, *]
 ·simp (disch:=omega)only[go_sem, *]
 have b8:Az (AI 2 t7.2).2.b:=by first | exact Az.num b7 | exact Az.flag b7 | exact Az.cnt b7
 obtain ⟨t8,ht8⟩:∃ x,AI 2 t7.2=x:=⟨_,rfl⟩
 rw [ht8] at b8 ⊢
 simp (disch:=omega)only[go_sem, *]
 refine Bc ?_
 rw [Ai Hh.eq_1]
 simp (disch:=omega)only[go_sem, *]
 refine BA (s:=t8.2) ?_ b8 ?_ ?_
 ·simp (disch:=omega)only[go_sem, *]
 ·simp (disch:=omega)only[go_sem, *]
 have b9:Az (AI 2 t8.2).2.b:=by first | exact Az.num b8 | exact Az.flag b8 | exact Az.cnt b8
 obtain ⟨t9,ht9⟩:∃ x,AI 2 t8.2=x:=⟨_,rfl⟩
 rw [ht9] at b9 ⊢
 simp (disch:=omega)only[go_sem, *]
 refine Bc ?_
 rw [Ai Hh.eq_1]
 simp (disch:=omega)only[go_sem, *]
 refine BA (s:=t9.2) ?_ b9 ?_ ?_
 ·simp (disch:=omega)only[go_sem, *]
 ·simp (disch:=omega)only[go_sem, *]
 have b10:Az (AI 2 t9.2).2.b:=by first | exact Az.num b9 | exact Az.flag b9 | exact Az.cnt b9
 obtain ⟨t10,ht10⟩:∃ x,AI 2 t9.2=x:=⟨_,rfl⟩
 rw [ht10] at b10 ⊢
 simp (disch:=omega)only[go_sem, *]
 refine Bc ?_
 rw [Ai Hh.eq_1]
 simp (disch:=omega)only[go_sem, *]
 refine BA (s:=t10.2) ?_ b10 ?_ ?_
 ·simp (disch:=omega)only[go_sem, *]
 ·simp (disch:=omega)only[go_sem, *]
 have b11:Az (AI 2 t10.2).2.b:=by first | exact Az.num b10 | exact Az.flag b10 | exact Az.cnt b10
 obtain ⟨t11,ht11⟩:∃ x,AI 2 t10.2=x:=⟨_,rfl⟩
 rw [ht11] at b11 ⊢
 simp (disch:=omega)only[go_sem, *]
 refine Bc ?_
 rw [Ai Hh.eq_1]
 simp (disch:=omega)only[go_sem, *]
 refine BA (s:=t11.2) ?_ b11 ?_ ?_
 ·simp (disch:=omega)only[go_sem, *]
 ·simp (disch:=omega)only[go_sem, *]
 have b12:Az (AI 2 t11.2).2.b:=by first | exact Az.num b11 | exact Az.flag b11 | exact Az.cnt b11
 obtain ⟨t12,ht12⟩:∃ x,AI 2 t11.2=x:=⟨_,rfl⟩
 rw [ht12] at b12 ⊢
 simp (disch:=omega)only[go_sem, *]
 have hps:Da s=(⟨t1.1,t2.1,t3.1,decide (t4.1=1),decide (t5.1=1),t7.1,t8.1,t9.1,t10.1,t11.1,t12.1⟩,t12.2):=by
  unfold Da
  simp only [DD,ht1,ht2,ht3,ht4,ht5,ht6,hn6,Int.toNat_natCast,ht7,ht8,ht9,ht10,ht11,ht12]
 refine Bc ?_
 rw [Ai Hh.eq_1]
 clear ht1 ht2 ht3 ht4 ht5 ht6 ht7 ht8 ht9 ht10 ht11 ht12
 have key:∀ (H:AH) (k:BU),H.next=hh.next→H.lim=hh.lim→(∀ j,h.next+2≤j→H.get j=hh.get j)→H.get id=some k→(∀ j,j<h.next→j≠id→H.get j=hh.get j)→CA (fun x=>h.next≤x) H h.next v (.fl 2 (t7.1.map AN.enc))∧EI h id k H:=by
  intro H k k1 k2 k3 k4 k5
  have sl':Sl (h.next+2) H 2 v (t7.1.map AN.enc):=by
   rcases hown with q | q
   ·rcases sl with ⟨a,b⟩ | ⟨_,_,_,_,rfl,_⟩
    ·exact .inl ⟨a,b⟩
    ·cases q
   ·exact sl.same (by omega) (fun _=>k3 _ q)
  exact ⟨Sl.frzb (Sl.weak sl' (Nat.le_add_right _ _)) (fun _=>rfl) (by omega),⟨by omega,by omega,k4,fun j hj hne=>by rw [k5 j hj hne];exact fr j hj hne⟩⟩
 clear hown sl fr
 simp (disch:=omega)only[go_sem, *]
 refine key _ _ ?_ ?_ ?_ ?_ ?_
 ·simp (disch:=omega)only[go_sem, *]
 ·simp (disch:=omega)only[go_sem, *]
 ·intro j hj;simp (disch:=omega)only[go_sem, *]
 ·simp (disch:=omega)only[go_sem, *]
 ·intro j hj hne;simp (disch:=omega)only[go_sem, *]
end Go.Ab.T
namespace Go.Ab.T
open Go Go.Ab
set_option maxHeartbeats 4000000
theorem U6 {h:AH} {id:Nat} {s:Rd} {K:V→AH→Prop} (hg:h.get id=some (Bs s)) (hb:Az s.b) (hlo:h.lim≤id) (kk:K (.agg (EC s).1.enc) (h.put id (Bs (EC s).2))):Cq tp S6 [.p id 0 0] h K:=by
 refine ER aGr (by simp [PB]) ((by rw [hg];rfl)) (fun _ _ _=>.cons _ _ _ _ _ (BS.of_stay rfl) (.nil _)) (kk) fun hlm hid rp=>?_;unfold PB;simp (disch:=omega)only[go_sem, *]
 clear kk
 have hgf:h.get id=some ⟨2,[[.fl 1 (s.b.map Aj),.b s.bad]]⟩:=hg
 try simp (disch:=omega)only[go_sem, *]
 refine BA (s:=s) ?_ hb ?_ ?_
 ·simp (disch:=omega)only[go_sem, *]
 ·simp (disch:=omega)only[go_sem, *]<;>omega
 have b1:Az (AI 6 s).2.b:=by first | exact Az.num hb | exact Az.flag hb | exact Az.cnt hb
 obtain ⟨t1,ht1⟩:∃ x,AI 6 s=x:=⟨_,rfl⟩
 rw [ht1] at b1 ⊢
 try simp (disch:=omega)only[go_sem, *]
 refine BA (s:=t1.2) ?_ b1 ?_ ?_
 ·simp (disch:=omega)only[go_sem, *]
 ·simp (disch:=omega)only[go_sem, *]<;>omega
 have b2:Az (AI 6 t1.2).2.b:=by first | exact Az.num b1 | exact Az.flag b1 | exact Az.cnt b1
 obtain ⟨t2,ht2⟩:∃ x,AI 6 t1.2=x:=⟨_,rfl⟩
 rw [ht2] at b2 ⊢
 try simp (disch:=omega)only[go_sem, *]
 refine BA (s:=t2.2) ?_ b2 ?_ ?_
 ·simp (disch:=omega)only[go_sem, *]
 ·simp (disch:=omega)only[go_sem, *]<;>omega
 have b3:Az (AI 1 t2.2).2.b:=by first | exact Az.num b2 | exact Az.flag b2 | exact Az.cnt b2
 obtain ⟨t3,ht3⟩:∃ x,AI 1 t2.2=x:=⟨_,rfl⟩
 rw [ht3] at b3 ⊢
 try simp (disch:=omega)only[go_sem, *]
 refine BA (s:=t3.2) ?_ b3 ?_ ?_
 ·simp (disch:=omega)only[go_sem, *]
 ·simp (disch:=omega)only[go_sem, *]<;>omega
 have b4:Az (AI 8 t3.2).2.b:=by first | exact Az.num b3 | exact Az.flag b3 | exact Az.cnt b3
 obtain ⟨t4,ht4⟩:∃ x,AI 8 t3.2=x:=⟨_,rfl⟩
 rw [ht4] at b4 ⊢
 try simp (disch:=omega)only[go_sem, *]
 refine BA (s:=t4.2) ?_ b4 ?_ ?_
 ·simp (disch:=omega)only[go_sem, *]
 ·simp (disch:=omega)only[go_sem, *]<;>omega
 have b5:Az (AI 4294967295 t4.2).2.b:=by first | exact Az.num b4 | exact Az.flag b4 | exact Az.cnt b4
 obtain ⟨t5,ht5⟩:∃ x,AI 4294967295 t4.2=x:=⟨_,rfl⟩
 rw [ht5] at b5 ⊢
 try simp (disch:=omega)only[go_sem, *]
 refine Ig (s:=t5.2) ?_ b5 ?_ ?_
 ·simp (disch:=omega)only[go_sem, *]
 ·simp (disch:=omega)only[go_sem, *]<;>omega
 have b6:Az (BD t5.2).2.b:=by first | exact Az.num b5 | exact Az.flag b5 | exact Az.cnt b5
 obtain ⟨t6,ht6⟩:∃ x,BD t5.2=x:=⟨_,rfl⟩
 rw [ht6] at b6 ⊢
 have hch:EC s=(⟨t1.1,t2.1,decide (t3.1=1),t4.1,IntKind.wrap .u32 t5.1,t6.1⟩,t6.2):=by
  unfold EC
  simp only [DD,ht1,ht2,ht3,ht4,ht5,ht6]
 clear ht1 ht2 ht3 ht4 ht5 ht6 hg hgf b1 b2 b3 b4 b5 b6
 simp (disch:=omega)only[go_sem, *]
 refine ⟨?_, ?_, ?_, ?_⟩
 ·simp (disch:=omega)only[go_sem, *]<;>omega
 ·simp (disch:=omega)only[go_sem, *]
 ·simp (disch:=omega)only[go_sem, *]
 ·intro j hj hne;simp (disch:=omega)only[go_sem, *]
end Go.Ab.T
namespace Go.Ab.T
open Go Go.Ab
set_option maxHeartbeats 4000000
theorem aU {K : Ex → Env → AH → Prop} {e : Env} {h hh : AH} {id bx n : Nat} {s : Rd} {P : List Part × Rd} {v0 v2 : V} (hlo : h.lim ≤ id) (hlb : h.lim ≤ bx) (hn : n ≤ 6) (hP : Cv n [] s = P) (rs : RS h id bx s [.ns, .ns, .ns] hh)
    (e0:e 0=v0) (e2:e 2=v2) (e6:e 6=.p bx 0 0) (e7:e 7=.p id 0 0) (e8:e 8=.i .i64 n)
    (kk:∀ (e:Env) (hh:AH) (v:V),RS h id bx P.2 [v,.ns,.ns] hh→Sl h.next hh 11 v (P.1.map Part.enc)→P.1.length≤6→e 0=v0→e 2=v2→e 6=.p bx 0 0→e 7=.p id 0 0→K (.ex 0) e hh):ZC tp (.loop QG) e hh K:=by
 refine Ae (fun n' e hh=>∃ (i:Nat) (v:V) (A:List Part) (s:Rd),n'=i∧RS h id bx s [v,.ns,.ns] hh∧Sl h.next hh 11 v (A.map Part.enc)∧A.length+i=n∧Cv i A s=P∧e 0=v0∧e 2=v2∧e 6=.p bx 0 0∧e 7=.p id 0 0∧e 8=.i .i64 i) ?_ _ _ _ ⟨n,.ns,[],s,rfl,rs,Sl.nil _ _ _,by simp,hP,e0,e2,e6,e7,e8⟩
 clear rs e0 e2 e6 e7 e8 e hh hP s
 rintro n' e hh ⟨i,v,A,s,hn0,rs,sl,hA,hP,e0,e2,e6,e7,e8⟩ ih
 have rs0:=rs
 obtain ⟨i1,i2,i3,l0,n0,q0,hb,q2,fr⟩:=rs
 have hsv:=Sl.sameV sl
 have hown:=As sl
 rw [Ai QG.eq_1]
 simp (disch:=omega)only[go_sem, *]
 refine Aa (fun hc=>?_) (fun hc=>?_)
 ·have hni:i=(i - 1)+1:=by omega
  rw [hni,Cv] at hP
  have hcm:(i:Int) - 1=((i - 1:Nat):Int):=by omega
  clear hni
  have b1:Az (Da s).2.b:=hb.part
  simp (disch:=omega)only[go_sem, *]
  refine U7 (s:=s) ?_ hb ?_ ?_
  ·simp (disch:=omega)only[go_sem, *]
  ·simp (disch:=omega)only[go_sem, *]
  generalize Da s=t at *
  obtain ⟨p,s2⟩:=t
  simp only at hP b1 ⊢
  have sl2:=AA sl id (Bs s2) (hown.imp (fun x=>x) (fun x=>by omega))
  have rs2:=rs0.put b1
  have hen:p.enc=[.s p.name,.i .i64 p.budget,.i .i64 p.period,.b p.sched,.b p.stop,.fl 2 (p.procs.map AN.enc),.i .i64 p.h0,.i .i64 p.h1,.i .i64 p.h2,.i .i64 p.h3,.i .i64 p.h4]:=rfl
  simp only [Bs] at sl2 rs2
  simp (disch:=omega)only[go_sem, *]
  clear l0 n0 q0 q2 fr rs0 hsv i1 i2 i3
  refine Ap (N:=[Part.enc p]) (Sl.alloc sl2 ⟨11,[Part.enc p]⟩) ?_ ?_ ?_ ?_
  ·rw [AL];have:=rs2.lim;have:=rs2.i1;omega
  ·rw [Ag];have:=rs2.next;omega
  ·simp;omega
  intro w h4 s4 g4
  have rs5:=(rs2.new (k:=⟨11,[Part.enc p]⟩)).app g4
  have s5:Sl h.next h4 11 w ((A++[p]).map Part.enc):=by simpa using s4
  have so5:=As s5
  obtain ⟨_,_,_,_,_,_,_,xc1,xc2⟩:=s5.facts
  clear s4 g4 sl2 rs2
  obtain ⟨i1,i2,i3,l0,n0,q0,_,q2,_⟩:=rs5
  simp only [Bs] at q0
  simp (disch:=omega)only[go_sem, *]
  refine ih _ _ _ ?_ ⟨i - 1,w,A++[p],s2,rfl,RS.box (row:=[v,.ns,.ns]) ⟨i1,i2,i3,l0,n0,q0,b1,q2,by assumption⟩,AA s5 bx _ (so5.imp (fun x=>x) (fun x=>by omega)),by simp;omega,hP, ?_⟩
  ·omega
  ·clear ih kk s5
   simp (disch:=omega)only[go_sem, *]
 ·have h0:i=0:=by omega
  rw [h0,Cv] at hP
  subst hP
  simp (disch:=omega)only[go_sem, *]
  exact kk _ _ v ⟨i1,i2,i3,l0,n0,q0,hb,q2,fr⟩ sl (show A.length≤6 by omega) e0 e2 e6 e7
theorem aV {K : Ex → Env → AH → Prop} {e : Env} {h hh : AH} {id bx n : Nat} {s : Rd} {P : List Ar × Rd} {v0 v2 a : V} (hlo : h.lim ≤ id) (hlb : h.lim ≤ bx) (hn : n ≤ 8) (hP : Cp n [] s = P) (rs : RS h id bx s [a, .ns, .ns] hh)
    (e0:e 0=v0) (e2:e 2=v2) (e6:e 6=.p bx 0 0) (e7:e 7=.p id 0 0) (e9:e 9=.i .i64 n)
    (kk:∀ (e:Env) (hh:AH) (v:V),RS h id bx P.2 [a,v,.ns] hh→Sl h.next hh 6 v (P.1.map Ar.enc)→P.1.length≤8→e 0=v0→e 2=v2→e 6=.p bx 0 0→e 7=.p id 0 0→K (.ex 2) e hh):ZC tp (.loop QH) e hh K:=by
 refine Ae (fun n' e hh=>∃ (i:Nat) (v:V) (A:List Ar) (s:Rd),n'=i∧RS h id bx s [a,v,.ns] hh∧Sl h.next hh 6 v (A.map Ar.enc)∧A.length+i=n∧Cp i A s=P∧e 0=v0∧e 2=v2∧e 6=.p bx 0 0∧e 7=.p id 0 0∧e 9=.i .i64 i) ?_ _ _ _ ⟨n,.ns,[],s,rfl,rs,Sl.nil _ _ _,by simp,hP,e0,e2,e6,e7,e9⟩
 clear rs e0 e2 e6 e7 e9 e hh hP s
 rintro n' e hh ⟨i,v,A,s,hn0,rs,sl,hA,hP,e0,e2,e6,e7,e9⟩ ih
 have rs0:=rs
 obtain ⟨i1,i2,i3,l0,n0,q0,hb,q2,fr⟩:=rs
 have hown:=As sl
 have hsv:=Sl.sameV sl
 simp only [Bs] at q0
 rw [Ai QH.eq_1]
 simp (disch:=omega)only[go_sem, *]
 refine Aa (fun hc=>?_) (fun hc=>?_)
 ·have hni:i=(i - 1)+1:=by omega
  rw [hni,Cp] at hP
  have hcm:(i:Int) - 1=((i - 1:Nat):Int):=by omega
  clear hni
  have b1:Az (EC s).2.b:=hb.chan
  simp (disch:=omega)only[go_sem, *]
  refine U6 (s:=s) ?_ hb ?_ ?_
  ·simp (disch:=omega)only[go_sem, *]
  ·simp (disch:=omega)only[go_sem, *]
  generalize EC s=t at *
  obtain ⟨p,s2⟩:=t
  simp only at hP b1 ⊢
  have sl2:=AA sl id (Bs s2) (hown.imp (fun x=>x) (fun x=>by omega))
  have rs2:=rs0.put b1
  have hen:p.enc=[.i .i64 p.src,.i .i64 p.dst,.b p.queue,.i .i64 p.cap,.i .u32 p.top,.i .i64 p.late]:=rfl
  simp only [Bs] at sl2 rs2
  simp (disch:=omega)only[go_sem, *]
  clear l0 n0 q0 q2 fr rs0 hsv i1 i2 i3
  refine Ap (N:=[Ar.enc p]) (Sl.alloc sl2 ⟨6,[Ar.enc p]⟩) ?_ ?_ ?_ ?_
  ·rw [AL];have:=rs2.lim;have:=rs2.i1;omega
  ·rw [Ag];have:=rs2.next;omega
  ·simp;omega
  intro w h4 s4 g4
  have rs5:=(rs2.new (k:=⟨6,[Ar.enc p]⟩)).app g4
  have s5:Sl h.next h4 6 w ((A++[p]).map Ar.enc):=by simpa using s4
  have so5:=As s5
  obtain ⟨_,_,_,_,_,_,_,xc1,xc2⟩:=s5.facts
  clear s4 g4 sl2 rs2
  obtain ⟨i1,i2,i3,l0,n0,q0,_,q2,_⟩:=rs5
  simp only [Bs] at q0
  simp (disch:=omega)only[go_sem, *]
  refine ih _ _ _ ?_ ⟨i - 1,w,A++[p],s2,rfl,RS.box (row:=[a,v,.ns]) ⟨i1,i2,i3,l0,n0,q0,b1,q2,by assumption⟩,AA s5 bx _ (so5.imp (fun x=>x) (fun x=>by omega)),by simp;omega,hP, ?_⟩
  ·omega
  ·clear ih kk s5
   simp (disch:=omega)only[go_sem, *]
 ·have h0:i=0:=by omega
  rw [h0,Cp] at hP
  subst hP
  simp (disch:=omega)only[go_sem, *]
  exact kk _ _ v ⟨i1,i2,i3,l0,n0,q0,hb,q2,fr⟩ sl (show A.length≤8 by omega) e0 e2 e6 e7
end Go.Ab.T
namespace Go.Ab.T
open Go Go.Ab
set_option maxHeartbeats 4000000
theorem aW {K : Ex → Env → AH → Prop} {e : Env} {h hh : AH} {id bx n : Nat} {s : Rd} {P : List Node × Rd} {v0 v2 v10 : V} {row : List V} (hlo : h.lim ≤ id) (hn : n ≤ 128) (hP : Cu n [] s = P) (rs : RS h id bx s row hh)
    (e0:e 0=v0) (e2:e 2=v2) (e6:e 6=.p bx 0 0) (e7:e 7=.p id 0 0) (e10:e 10=v10) (e11:e 11=.ns) (e12:e 12=.i .i64 n)
    (kk:∀ (e:Env) (hh:AH) (v:V),RS h id bx P.2 row hh→Sl h.next hh 3 v (P.1.map Node.enc)→P.1.length≤128→e 0=v0→e 2=v2→e 6=.p bx 0 0→e 7=.p id 0 0→e 10=v10→e 11=v→K (.ex 6) e hh):ZC tp (.loop QI) e hh K:=by
 refine Ae (fun n' e hh=>∃ (i:Nat) (v:V) (A:List Node) (s:Rd),n'=i∧RS h id bx s row hh∧Sl h.next hh 3 v (A.map Node.enc)∧A.length+i=n∧Cu i A s=P∧e 0=v0∧e 2=v2∧e 6=.p bx 0 0∧e 7=.p id 0 0∧e 10=v10∧e 11=v∧e 12=.i .i64 i) ?_ _ _ _ ⟨n,.ns,[],s,rfl,rs,Sl.nil _ _ _,by simp,hP,e0,e2,e6,e7,e10,e11,e12⟩
 clear rs e0 e2 e6 e7 e10 e11 e12 e hh hP s
 rintro n' e hh ⟨i,v,A,s,hn0,rs,sl,hA,hP,e0,e2,e6,e7,e10,e11,e12⟩ ih
 have rs0:=rs
 obtain ⟨i1,i2,i3,l0,n0,q0,hb,q2,fr⟩:=rs
 have hown:=As sl
 have hslt:=Mb sl
 simp only [Bs] at q0
 rw [Ai QI.eq_1]
 simp (disch:=omega)only[go_sem, *]
 refine Aa (fun hc=>?_) (fun hc=>?_)
 ·have hni:i=(i - 1)+1:=by omega
  rw [hni,Cu] at hP
  have hcm:(i:Int) - 1=((i - 1:Nat):Int):=by omega
  clear hni
  simp (disch:=omega)only[go_sem, *]
  refine BA (s:=s) ?_ hb ?_ ?_
  ·simp (disch:=omega)only[go_sem, *]
  ·simp (disch:=omega)only[go_sem, *]
  have b1:Az (AI 4 s).2.b:=by first | exact Az.num hb | exact Az.flag hb | exact Az.cnt hb
  obtain ⟨t1,ht1⟩:∃ x,AI 4 s=x:=⟨_,rfl⟩
  rw [ht1] at b1 ⊢
  simp (disch:=omega)only[go_sem, *]
  refine BA (s:=t1.2) ?_ b1 ?_ ?_
  ·simp (disch:=omega)only[go_sem, *]
  ·simp (disch:=omega)only[go_sem, *]
  have b2:Az (AI 6 t1.2).2.b:=by first | exact Az.num b1 | exact Az.flag b1 | exact Az.cnt b1
  obtain ⟨t2,ht2⟩:∃ x,AI 6 t1.2=x:=⟨_,rfl⟩
  rw [ht2] at b2 ⊢
  simp (disch:=omega)only[go_sem, *]
  refine Ig (s:=t2.2) ?_ b2 ?_ ?_
  ·simp (disch:=omega)only[go_sem, *]
  ·simp (disch:=omega)only[go_sem, *]
  have b3:Az (BD t2.2).2.b:=by first | exact Az.num b2 | exact Az.flag b2 | exact Az.cnt b2
  obtain ⟨t3,ht3⟩:∃ x,BD t2.2=x:=⟨_,rfl⟩
  rw [ht3] at b3 ⊢
  have hnd:H9 s=(⟨t1.1,t2.1,t3.1⟩,t3.2):=by
   unfold H9
   simp only [ht1,ht2,ht3]
  rw [hnd] at hP
  simp only at hP
  clear ht1 ht2 ht3 hnd
  simp (disch:=omega)only[go_sem, *]
  have rs2:=(((((rs0.put (s2:=t1.2) b1).new (k:=⟨3,[[.i .i64 0,.i .i64 0,.i .i64 0]]⟩)).putx (k:=⟨3,[[.i .i64 t1.1,.i .i64 0,.i .i64 0]]⟩) n0).put (s2:=t2.2) b2).putx (k:=⟨3,[[.i .i64 t1.1,.i .i64 t2.1,.i .i64 0]]⟩) n0).put (s2:=t3.2) b3
  have rs2:=rs2.putx (k:=⟨3,[[.i .i64 t1.1,.i .i64 t2.1,.i .i64 t3.1]]⟩) n0
  have pid:∀ {H:AH} (r:Rd),Sl h.next H 3 v (A.map Node.enc)→Sl h.next (H.put id (Bs r)) 3 v (A.map Node.enc):=fun r q=>AA q id _ (hown.imp (fun x=>x) (fun x=>by omega))
  have pbx:∀ {H:AH} (r:List V),Sl h.next H 3 v (A.map Node.enc)→Sl h.next (H.put hh.next ⟨3,[r]⟩) 3 v (A.map Node.enc):=fun r q=>AA q _ _ (hslt.imp (fun x=>x) (fun x=>by omega))
  have sl2:=pbx [.i .i64 t1.1,.i .i64 t2.1,.i .i64 t3.1] (pid t3.2 (pbx [.i .i64 t1.1,.i .i64 t2.1,.i .i64 0] (pid t2.2 (pbx [.i .i64 t1.1,.i .i64 0,.i .i64 0] (Sl.alloc (pid t1.2 sl) ⟨3,[[.i .i64 0,.i .i64 0,.i .i64 0]]⟩)))))
  simp only [Bs] at sl2 rs2
  clear l0 q0 q2 fr rs0 b1 b2 pid pbx
  refine Ap (N:=[Node.enc ⟨t1.1,t2.1,t3.1⟩]) (Sl.alloc sl2 ⟨3,[Node.enc ⟨t1.1,t2.1,t3.1⟩]⟩) ?_ ?_ ?_ ?_
  ·rw [AL];have:=rs2.lim;have:=rs2.i1;omega
  ·rw [Ag];have:=rs2.next;omega
  ·simp;omega
  intro w h4 s4 g4
  have rs5:=(rs2.new (k:=⟨3,[Node.enc ⟨t1.1,t2.1,t3.1⟩]⟩)).app g4
  have s5:Sl h.next h4 3 w ((A++[(⟨t1.1,t2.1,t3.1⟩:Node)]).map Node.enc):=by simpa using s4
  clear s4 g4 sl2 rs2
  simp (disch:=omega)only[go_sem, *]
  refine ih _ _ _ ?_ ⟨i - 1,w,A++[⟨t1.1,t2.1,t3.1⟩],t3.2,rfl,rs5,s5,by simp;omega,hP, ?_⟩
  ·omega
  ·clear ih kk s5 rs5
   simp (disch:=omega)only[go_sem, *]
 ·have h0:i=0:=by omega
  rw [h0,Cu] at hP
  subst hP
  simp (disch:=omega)only[go_sem, *]
  exact kk _ _ v rs0 sl (show A.length≤128 by omega) e0 e2 e6 e7 e10 e11
theorem aX {K : Ex → Env → AH → Prop} {e : Env} {h hh : AH} {id bx n : Nat} {s : Rd} {P : List (List Node) × Rd} {i2' : Nat} {v0 a c : V} (hv0 : ∀ P H n, CA P H n v0 v0) (hlo : h.lim ≤ id) (hlb : h.lim ≤ bx) (hn : n ≤ 3) (hP : Ep n [] s = P) (rs : RS h id bx s [a, c, .ns] hh) (h2 : i2' < h.next)
    (e0:e 0=v0) (e2:e 2=.p i2' 0 0) (e6:e 6=.p bx 0 0) (e7:e 7=.p id 0 0) (e10:e 10=.i .i64 n)
    (kk:∀ (e:Env) (hh:AH) (v:V),RS h id bx P.2 [a,c,v] hh→Sl h.next hh 1 v (P.1.map Tab.enc)→P.1.length≤3→e 0=v0→e 2=.p i2' 0 0→e 6=.p bx 0 0→e 7=.p id 0 0→K (.ex 4) e hh):ZC tp (.loop Mo) e hh K:=by
 refine Ae (fun n' e hh=>∃ (i:Nat) (v:V) (A:List (List Node)) (s:Rd),n'=i∧RS h id bx s [a,c,v] hh∧Sl h.next hh 1 v (A.map Tab.enc)∧A.length+i=n∧Ep i A s=P∧e 0=v0∧e 2=.p i2' 0 0∧e 6=.p bx 0 0∧e 7=.p id 0 0∧e 10=.i .i64 i) ?_ _ _ _ ⟨n,.ns,[],s,rfl,rs,Sl.nil _ _ _,by simp,hP,e0,e2,e6,e7,e10⟩
 clear rs e0 e2 e6 e7 e10 e hh hP s
 rintro n' e hh ⟨i,v,A,s,hn0,rs,sl,hA,hP,e0,e2,e6,e7,e10⟩ ih
 have rs0:=rs
 obtain ⟨i1,i2,i3,l0,n0,q0,hb,q2,fr⟩:=rs
 have hown:=As sl
 have hslt:=Mb sl
 simp only [Bs] at q0
 rw [Ai Mo.eq_1]
 simp (disch:=omega)only[go_sem, *]
 refine Aa (fun hc=>?_) (fun hc=>?_)
 ·have hni:i=(i - 1)+1:=by omega
  rw [hni,Ep] at hP
  have hcm:(i:Int) - 1=((i - 1:Nat):Int):=by omega
  clear hni
  simp (disch:=omega)only[go_sem, *]
  refine BA (s:=s) ?_ hb ?_ ?_
  ·simp (disch:=omega)only[go_sem, *]
  ·simp (disch:=omega)only[go_sem, *]
  have b1:Az (AI 128 s).2.b:=by first | exact Az.num hb | exact Az.flag hb | exact Az.cnt hb
  obtain ⟨t1,ht1⟩:∃ x,AI 128 s=x:=⟨_,rfl⟩
  rw [ht1] at b1 ⊢
  have c1:0≤t1.1∧t1.1≤128:=by rw [← ht1];exact Fm (by omega)
  obtain ⟨n1,hn1⟩:∃ n:Nat,t1.1=n:=⟨t1.1.toNat,by omega⟩
  have htb:Nb s=Cu n1 [] t1.2:=by unfold Nb;rw [ht1,hn1,Int.toNat_natCast]
  rw [htb] at hP
  obtain ⟨t2,ht2⟩:∃ x,Cu n1 [] t1.2=x:=⟨_,rfl⟩
  rw [ht2] at hP
  clear ht1 htb
  have rs2:=rs0.put (s2:=t1.2) b1
  have sl2:=AA sl id (Bs t1.2) (hown.imp (fun x=>x) (fun x=>by omega))
  have rs3:RS (hh.put id (Bs t1.2)) id bx t1.2 [a,c,v] (hh.put id (Bs t1.2)):=⟨by show id<hh.next;omega,by show bx<hh.next;omega,i3,rfl,Nat.le_refl _,rs2.rd,b1,rs2.q,fun _ _ _ _=>rfl⟩
  simp only [Bs] at rs3
  simp (disch:=omega)only[go_sem, *]
  refine aW (n:=n1) (P:=t2) (v0:=v0) (v2:=.p i2' 0 0) (v10:=.i .i64 i) ?_ (by omega) ht2 rs3 ?_ ?_ ?_ ?_ ?_ ?_ ?_ ?_
  any_goals (simp (disch:=omega)only[go_sem, *];done)
  clear e0 e2 e6 e7 e10 e
  intro e h1 v1 rsI sv hT e0 e2 e6 e7 e10 e11
  have nI:hh.next≤h1.next:=rsI.next
  have lI:h1.lim=hh.lim:=rsI.lim
  have rs4:RS h id bx t2.2 [a,c,v] h1:=⟨i1,i2,i3,lI.trans l0,by omega,rsI.rd,rsI.isb,rsI.q,fun j hj hne hne2=>by
   rw [rsI.fr j (by show j<hh.next;omega) hne hne2,Ad,Ac hne];exact fr j hj hne hne2⟩
  have sl3:Sl h.next h1 1 v (A.map Tab.enc):=by
   rcases hown with q | q
   ·rcases sl with ⟨a,b⟩ | ⟨_,_,_,_,rfl,_⟩
    ·exact .inl ⟨a,b⟩
    ·cases q
   ·exact sl.same nI (fun hq=>by rw [rsI.fr _ (by show AW v<hh.next;exact hq) (by omega) (by omega),Ad,Ac (by omega)])
  have sv1:Sl h.next h1 3 v1 (t2.1.map Node.enc):=Sl.weak sv (by show h.next≤hh.next;exact n0)
  have o1:Bb v1=true∨hh.next≤AW v1:=As sv
  have o2:=Mb sv1
  obtain ⟨_,_,_,_,_,_,_,vc1,vc2⟩:=sv1.facts
  have rs4':=rs4
  obtain ⟨_,_,_,l1,n1',q0,b4,q2,_⟩:=rs4
  simp only [Bs] at q0
  clear fr sl2 rs2 rs3 rs0 hb b1 sl sv rsI
  simp (disch:=omega)only[go_sem, *]
  refine Ap (N:=[[v1]]) (Sl.alloc sl3 ⟨1,[[v1]]⟩) ?_ ?_ ?_ ?_
  ·rw [AL];omega
  ·rw [Ag];omega
  ·simp;omega
  intro w h4 s4 g4
  have rs5:=(rs4'.new (k:=⟨1,[[v1]]⟩)).app g4
  have so5:=As s4
  have hgv:Bb v=true∨AW v<hh.next:=hslt
  have hd:Bb v1=true∨AW w≠AW v1:=by
   rcases o1 with q | q
   ·exact .inl q
   ·refine .inr ?_
    rcases o2 with q2 | q2
    ·rcases sv1 with ⟨x,_⟩ | ⟨_,_,_,_,rfl,_⟩
     ·rcases x with rfl | rfl<;>simp [AW] at q<;>omega
     ·cases q2
    ·rcases g4.own with y | ⟨y1,y2⟩ | y
     ·rcases s4 with ⟨_,z⟩ | ⟨_,_,_,_,rfl,_⟩
      ·simp at z
      ·cases y
     ·rcases hgv with z | z
      ·rw [z] at y1;cases y1
      ·omega
     ·rw [Ag] at y;omega
  have sv4:Sl h.next h4 3 v1 (t2.1.map Node.enc):=by
   have gn:=g4.next
   rw [Ag] at gn
   rcases o1 with q | q
   ·rcases sv1 with ⟨a,b⟩ | ⟨_,_,_,_,rfl,_⟩
    ·exact .inl ⟨a,b⟩
    ·cases q
   ·exact sv1.same (by omega) (fun hq=>by rw [g4.get _ (by rw [Ag];omega) (hgv.imp (fun x=>x) (fun z=>by omega)),AM,Ac (by omega)])
  have ov4:Bb v1=true∨h.next≤AW v1:=As sv4
  have xc1:=g4.cell
  have xc2:=g4.cells
  clear sl3 rs4' l1 n1' q0 q2 b4 g4 sv1 nI lI
  have rs6:=rs5
  obtain ⟨_,_,_,l5,n5,q0,b5,q2,_⟩:=rs5
  simp only [Bs] at q0
  simp (disch:=omega)only[go_sem, *]
  have rs7:=RS.box (row':=[a,c,w]) rs6
  have sw7:=AA s4 bx ⟨3,[[a,c,w]]⟩ (so5.imp (fun x=>x) (fun x=>by omega))
  have sv7:=AA sv4 bx ⟨3,[[a,c,w]]⟩ (ov4.imp (fun x=>x) (fun x=>by omega))
  have n7:h.next≤(h4.put bx ⟨3,[[a,c,w]]⟩).next:=n5
  clear rs6 s4 sv4 q0 q2 l5
  have key:∀ (E:Env) (H:AH),E 0=v0→E 2=.p i2' 0 0→E 6=.p bx 0 0→E 7=.p id 0 0→E 10=.i .i64 ((i - 1:Nat):Int)→RS h id bx t2.2 [a,c,w] H→Sl h.next H 1 w (A.map Tab.enc++[[v1]])→Sl h.next H 3 v1 (t2.1.map Node.enc)→ZC tp (.loop Mo) E H K:=by
   intro E H f0 f2 f6 f7 f10 r6 w6 v6
   have nx:=r6.next
   obtain ⟨H',st,rs',sw'⟩:=SI (e:=E) [0,2,6,7,10] r6 w6 v6 hd (by omega) (fun t ht P=>by
    simp only [List.mem_cons,List.not_mem_nil,or_false] at ht
    rcases ht with rfl | rfl | rfl | rfl | rfl
    ·rw [f0];exact hv0 _ _ _
    ·rw [f2];exact .p _ _ _ _ (by omega)
    ·rw [f6];exact .p _ _ _ _ (by omega)
    ·rw [f7];exact .p _ _ _ _ (by omega)
    ·rw [f10];exact .z _ _ (.i _ _))
   refine Mu st (ih _ _ _ ?_ ⟨i - 1,w,A++[t2.1],t2.2,rfl,rs',by simpa [Tab.enc] using sw',by simp;omega,hP,by simp [f0],by simp [f2],by simp [f6],by simp [f7],by simp [f10]⟩)
   omega
  clear ih kk
  refine key _ _ ?_ ?_ ?_ ?_ ?_ rs7 sw7 sv7
  all_goals simp (disch:=omega)only[go_sem, *]
 ·have h0:i=0:=by omega
  rw [h0,Ep] at hP
  subst hP
  simp (disch:=omega)only[go_sem, *]
  exact kk _ _ v rs0 sl (show A.length≤3 by omega) e0 e2 e6 e7
end Go.Ab.T
namespace Go.Ab.T
open Go Go.Ab
set_option maxHeartbeats 4000000
structure sS (b x:List Int) (D:Ah) (s:Rd):Prop where
 mark:x.take 4≠[72,79,82,65]→BV b=(⟨[],[],[]⟩,12)
 bad:s.bad=true→BV b=(⟨[],[],[]⟩,12)
 left:¬ (s.b.length:Int)=0→BV b=(⟨[],[],[]⟩,12)
 wh:(A1 D).1≠0→BV b=(⟨[],[],[]⟩,12)
 byt:Ci D≠b→BV b=(⟨[],[],[]⟩,12)
 ok:(A1 D).1=0→Ci D=b→BV b=(D,0)
theorem aU1 {b x:List Int} (hq:A6 b=(x,true)) (h4:¬ x.length<4):sS b x (Bx ⟨x.drop 4,false⟩).1 (Bx ⟨x.drop 4,false⟩).2:=by
 have e:BV b=(if (Fd (Bx ⟨x.drop 4,false⟩).1).2=0∧(Fd (Bx ⟨x.drop 4,false⟩).1).1=b then ((Bx ⟨x.drop 4,false⟩).1,0) else (⟨[],[],[]⟩,12)):=by
  unfold BV;rw [hq,if_neg (by simp),if_neg h4]
 by_cases hc:(Fd (Bx ⟨x.drop 4,false⟩).1).2=0∧(Fd (Bx ⟨x.drop 4,false⟩).1).1=b
 ·rw [if_pos hc] at e
  obtain ⟨a1,a2,a3,a4,a5⟩:=U8 e
  generalize (Bx ⟨x.drop 4,false⟩).1=D at *
  rw [hq] at a4
  have hx:x=Fe D:=by injection a4
  rw [← hx] at a5
  rw [a5]
  refine ⟨fun q=>absurd ?_ q,fun q=>(by cases q),fun q=>absurd rfl q,fun q=>absurd (by rw [a1]) q,fun q=>absurd a3 q,fun _ _=>e⟩
  rw [hx,HO (fun x hx=>(a2.cc x hx).t)];rfl
 ·rw [if_neg hc] at e
  exact ⟨fun _=>e,fun _=>e,fun _=>e,fun _=>e,fun _=>e,fun q1 q2=>absurd (by unfold Fd;rw [if_pos q1];exact ⟨rfl,q2⟩) hc⟩
abbrev Le (n:Nat) (s:Rd):Prop:=s.b.length≤n
section
variable {n:Nat} {m:Int} {s:Rd}
theorem Le.num (h:Le n s):Le n (BD s).2:=by
 unfold Le BD at *;split<;>simp only [List.length_drop]<;>omega
theorem Le.cnt (h:Le n s):Le n (AI m s).2:=by
 have:=h.num
 unfold AI;split
 ·exact this
 ·exact this
theorem Le.text (h:Le n s):Le n (DL m s).2:=by
 unfold Le DL at *;split<;>simp only [List.length_drop]<;>omega
theorem Le.procs:∀ (k:Nat) (A:List AN) (s:Rd),Le n s→Le n (Cw k A s).2
 | 0,_,_,h=>h
 | k+1,A,s,h=>by unfold Cw;exact Le.procs k _ _ h.cnt.cnt
theorem Le.part (h:Le n s):Le n (Da s).2:=by
 unfold Da DD
 exact (Le.procs _ _ _ h.text.num.num.cnt.cnt.cnt).cnt.cnt.cnt.cnt.cnt
theorem Le.parts:∀ (k:Nat) (A:List Part) (s:Rd),Le n s→Le n (Cv k A s).2
 | 0,_,_,h=>h
 | k+1,A,s,h=>by unfold Cv;exact Le.parts k _ _ h.part
theorem Le.chans:∀ (k:Nat) (A:List Ar) (s:Rd),Le n s→Le n (Cp k A s).2
 | 0,_,_,h=>h
 | k+1,A,s,h=>by unfold Cp EC DD;exact Le.chans k _ _ h.cnt.cnt.cnt.cnt.cnt.num
theorem Le.nodes:∀ (k:Nat) (A:List Node) (s:Rd),Le n s→Le n (Cu k A s).2
 | 0,_,_,h=>h
 | k+1,A,s,h=>by unfold Cu H9;exact Le.nodes k _ _ h.cnt.cnt.num
theorem Le.tabs:∀ (k:Nat) (A:List (List Node)) (s:Rd),Le n s→Le n (Ep k A s).2
 | 0,_,_,h=>h
 | k+1,A,s,h=>by unfold Ep Nb;exact Le.tabs k _ _ (Le.nodes _ _ _ h.cnt)
theorem Le.conf (h:Le n s):Le n (Bx s).2:=by
 unfold Bx
 exact Le.tabs _ _ _ (Le.chans _ _ _ (Le.parts _ _ _ h.cnt).cnt).cnt
end
theorem Vc {c : TC} {K : Ex → Env → AH → Prop} {e : Env} {H : AH} {C : Ah} {s : Rd} {va vb vc : V} {xs : List (List V)} (z0 : H.get 0 = some ⟨3, [[.ns, .ns, .ns]]⟩) (q1 : H.get 1 = some ⟨3, [[va, vb, vc]]⟩) (q2 : H.get 2 = some (Bs s)) (hl : H.lim = 0) (hn : 3 ≤ H.next)
    (sa:Sl 3 H 11 va (C.parts.map Part.enc)) (sb:Sl 3 H 6 vb (C.chans.map Ar.enc)) (sc:Sl 3 H 1 vc (C.tables.map Tab.enc)) (la:C.parts.length≤6) (lb:C.chans.length≤8) (lc:C.tables.length≤3) (e0:e 0=.fl 1 xs) (e2:e 2=.p 0 0 0) (e6:e 6=.p 1 0 0) (e7:e 7=.p 2 0 0)
    (z:∀ (e:Env) (H:AH),H.get 0=some ⟨3,[[.ns,.ns,.ns]]⟩→H.get 1=some ⟨3,[C.enc]⟩→H.get 2=some (Bs s)→H.lim=0→3≤H.next→e 0=.fl 1 xs→e 2=.p 0 0 0→e 6=.p 1 0 0→e 7=.p 2 0 0→dU tp c e H K):dU tp c e H K:=by
 refine Nn (JB (h2:=⟨fun i=>if i=0 then some ⟨3,[[.ns,.ns,.ns]]⟩ else if i=1 then some ⟨3,[C.enc]⟩ else if i=2 then some (Bs s) else none,H.next,H.lim⟩) (3≤·) [0,2,6,7] e (fun wf=>⟨rfl,rfl,fun i k hk=>?_,fun t ht=>?_⟩)) (z _ _ rfl rfl rfl hl hn ?_ ?_ ?_ ?_)
 ·simp only at hk
  by_cases h0:i=0
  ·subst h0
   rw [if_pos rfl] at hk;cases hk
   exact ⟨by show 0<H.next;omega,by omega,_,z0,(wf.2 _ _ z0).2 _ _⟩
  ·rw [if_neg h0] at hk
   by_cases h1:i=1
   ·subst h1
    rw [if_pos rfl] at hk;cases hk
    exact ⟨by show 1<H.next;omega,by omega,_,q1,.cons _ _ _ _ _ (.cons _ _ _ _ _ (Sl.frzb sa (fun _=>rfl) (by omega)) (.cons _ _ _ _ _ (Sl.frzb sb (fun _=>rfl) (by omega)) (.cons _ _ _ _ _ (Sl.frzb sc (fun _=>rfl) (by omega)) (.nil _)))) (.nil _)⟩
   ·rw [if_neg h1] at hk
    by_cases h2:i=2
    ·subst h2
     rw [if_pos rfl] at hk;cases hk
     exact ⟨by show 2<H.next;omega,by omega,_,q2,(wf.2 _ _ q2).2 _ _⟩
    ·rw [if_neg h2] at hk;cases hk
 ·simp only [List.mem_cons,List.not_mem_nil,or_false] at ht
  rcases ht with rfl | rfl | rfl | rfl
  ·rw [e0];exact .fl _ _ _
  ·rw [e2];exact .p _ _ _ _ (Nat.lt_of_lt_of_le (by omega) hn)
  ·rw [e6];exact .p _ _ _ _ (Nat.lt_of_lt_of_le (by omega) hn)
  ·rw [e7];exact .p _ _ _ _ (Nat.lt_of_lt_of_le (by omega) hn)
 all_goals (simp only [List.mem_cons,List.not_mem_nil,or_false];simp;assumption)
theorem aY {b:List Int} (hb:Az b) (hl:b.length<2000000):Pf tp YE [.fl 1 (b.map Aj)] (.tup [.agg (BV b).1.enc,.i .i64 (BV b).2]):=by
 have ho:=aN hb (by omega)
 have hob:=L1 hb
 have hol:(A6 b).1.length≤b.length:=by unfold A6;split<;>simp
 have r1:(A6 b).2=false→BV b=(⟨[],[],[]⟩,13):=fun q=>if_pos q
 have r2:(A6 b).2=true→(A6 b).1.length<4→BV b=(⟨[],[],[]⟩,12):=fun q q2=>by unfold BV;rw [if_neg (by rw [q];decide),if_pos q2]
 have r3:(A6 b).2=true→¬ (A6 b).1.length<4→sS b (A6 b).1 (Bx ⟨(A6 b).1.drop 4,false⟩).1 (Bx ⟨(A6 b).1.drop 4,false⟩).2:=fun q q2=>aU1 (Prod.ext rfl q) q2
 refine Vx aF3 (by simp [Pb]) fun rp=>?_
 unfold Pb
 refine CT ?_
 simp (disch:=omega)only[go_sem, *]
 refine CT ?_
 simp (disch:=omega)only[go_sem, *]
 refine Pf.go (ho) (by simp only [go_sem]) fun _=>?_;simp (disch:=omega)only[go_sem, *]
 clear ho
 generalize A6 b=o at *
 obtain ⟨x,ok⟩:=o
 simp only at hob hol r1 r2 r3
 have md:∀ n,List.drop n (x.map Aj)=(x.drop n).map Aj:=fun n=>List.map_drop.symm
 have mt:∀ n,List.take n (x.map Aj)=(x.take n).map Aj:=fun n=>List.map_take.symm
 have ml:List.take (x.length - 4) ((x.drop 4).map Aj)=(x.drop 4).map Aj:=List.take_of_length_le (by simp)
 refine CT ?_
 cases ok with
 | false=>
  have e:=r1 rfl
  clear r1 r2 r3 md mt ml
  simp (disch:=omega)only[go_sem, *]
 | true=>
  simp (disch:=omega)only[go_sem, *]
  refine CT ?_
  simp (disch:=omega)only[go_sem, *]
  refine Aq (fun hc=>?_) (fun hc=>?_)
  ·have e:=r2 rfl (by omega)
   clear r1 r2 r3 md mt ml
   simp (disch:=omega)only[go_sem, *]
  ·have hr:=r3 rfl (by omega)
   clear r1 r2 r3
   simp (disch:=omega)only[go_sem, *]
   have hu:=HG (hob.take (n:=4)) (B:=[72,79,82,65]) (fun z hz=>by simp only [List.mem_cons,List.not_mem_nil,or_false] at hz;omega)
   refine Aa (fun hc2=>?_) (fun hc2=>?_)
   ·have e:=hr.mark (fun q=>hc2 (hu.2 q))
    clear hr hu hc2 md mt ml
    simp (disch:=omega)only[go_sem, *]
   ·clear hu hc2
    have hob4:Az (⟨x.drop 4,false⟩:Rd).b:=hob.drop
    simp (disch:=omega)only[go_sem, *]
    refine CT ?_
    simp (disch:=omega)only[go_sem, *]
    refine CT ?_
    simp (disch:=omega)only[go_sem, *]
    have z0:(((AH.emp.alloc ⟨3,[[.ns,.ns,.ns]]⟩).alloc ⟨3,[[.ns,.ns,.ns]]⟩).alloc (Bs ⟨x.drop 4,false⟩)).get 0=some ⟨3,[[.ns,.ns,.ns]]⟩:=rfl
    have l0:(((AH.emp.alloc ⟨3,[[.ns,.ns,.ns]]⟩).alloc ⟨3,[[.ns,.ns,.ns]]⟩).alloc (Bs ⟨x.drop 4,false⟩)).lim=0:=rfl
    have n0:3≤(((AH.emp.alloc ⟨3,[[.ns,.ns,.ns]]⟩).alloc ⟨3,[[.ns,.ns,.ns]]⟩).alloc (Bs ⟨x.drop 4,false⟩)).next:=Nat.le_refl 3
    have rs0:RS (((AH.emp.alloc ⟨3,[[.ns,.ns,.ns]]⟩).alloc ⟨3,[[.ns,.ns,.ns]]⟩).alloc (Bs ⟨x.drop 4,false⟩)) 2 1 ⟨x.drop 4,false⟩ [.ns,.ns,.ns] (((AH.emp.alloc ⟨3,[[.ns,.ns,.ns]]⟩).alloc ⟨3,[[.ns,.ns,.ns]]⟩).alloc (Bs ⟨x.drop 4,false⟩)):=⟨by omega,by omega,by decide,rfl,Nat.le_refl _,rfl,hob4,rfl,fun _ _ _ _=>rfl⟩
    simp only [Bs] at z0 l0 n0 rs0
    generalize ((AH.emp.alloc ⟨3,[[.ns,.ns,.ns]]⟩).alloc ⟨3,[[.ns,.ns,.ns]]⟩).alloc ⟨2,[[.fl 1 ((x.drop 4).map Aj),.b false]]⟩=H0 at *
    generalize hs:(⟨x.drop 4,false⟩:Rd)=s at *
    refine CT ?_
    have q0:=rs0.rd
    simp only [Bs] at q0
    try simp (disch:=omega)only[go_sem, *]
    refine BA (s:=s) ?_ hob4 ?_ ?_
    ·simp (disch:=omega)only[go_sem, *]
    ·simp (disch:=omega)only[go_sem, *]<;>omega
    have b1:Az (AI 6 s).2.b:=by first | exact Az.num hob4 | exact Az.flag hob4 | exact Az.cnt hob4
    obtain ⟨t1,ht1⟩:∃ x,AI 6 s=x:=⟨_,rfl⟩
    rw [ht1] at b1 ⊢
    have c1:0≤t1.1∧t1.1≤6:=by rw [← ht1];exact Fm (by omega)
    obtain ⟨n1,hn1⟩:∃ n:Nat,t1.1=n:=⟨t1.1.toNat,by omega⟩
    obtain ⟨p1,hp1⟩:∃ x,Cv n1 [] t1.2=x:=⟨_,rfl⟩
    have rs1:=rs0.put b1
    simp only [Bs] at rs1
    simp (disch:=omega)only[go_sem, *]
    refine aU (h:=H0) (n:=n1) (P:=p1) (v0:=.fl 1 (b.map Aj)) (v2:=.p 0 0 0) (by omega) (by omega) (by omega) hp1 rs1 ?_ ?_ ?_ ?_ ?_ ?_
    any_goals (simp (disch:=omega)only[go_sem, *];done)
    intro e hh va r1 sa la e0 e2 e6 e7
    have z1:=(r1.fr 0 (by omega) (by decide) (by decide)).trans z0
    have l1:hh.lim=0:=r1.lim.trans l0
    have m1:3≤hh.next:=by have:=r1.next;omega
    have b1:=r1.isb
    have q0:=r1.rd
    have sa1:=Sl.weak sa n0
    simp only [Bs] at q0
    clear sa z0 rs0 rs1 hob4
    simp (disch:=omega)only[go_sem, *]
    refine CT ?_
    try simp (disch:=omega)only[go_sem, *]
    refine BA (s:=p1.2) ?_ b1 ?_ ?_
    ·simp (disch:=omega)only[go_sem, *]
    ·simp (disch:=omega)only[go_sem, *]<;>omega
    have b2:Az (AI 8 p1.2).2.b:=by first | exact Az.num b1 | exact Az.flag b1 | exact Az.cnt b1
    obtain ⟨t2,ht2⟩:∃ x,AI 8 p1.2=x:=⟨_,rfl⟩
    rw [ht2] at b2 ⊢
    have c2:0≤t2.1∧t2.1≤8:=by rw [← ht2];exact Fm (by omega)
    obtain ⟨n2,hn2⟩:∃ n:Nat,t2.1=n:=⟨t2.1.toNat,by omega⟩
    obtain ⟨p2,hp2⟩:∃ x,Cp n2 [] t2.2=x:=⟨_,rfl⟩
    have r2:=r1.re b2
    have sa2:=AA sa1 2 (Bs t2.2) ((As sa1).imp (fun x=>x) (fun x=>by omega))
    simp only [Bs] at r2 sa2
    simp (disch:=omega)only[go_sem, *]
    refine aV (n:=n2) (P:=p2) (v0:=.fl 1 (b.map Aj)) (v2:=.p 0 0 0) ?_ ?_ (by omega) hp2 r2 ?_ ?_ ?_ ?_ ?_ ?_
    any_goals (simp (disch:=omega)only[go_sem, *];done)
    clear e0 e2 e6 e7
    intro e hh3 vb r3 sb lb e0 e2 e6 e7
    have z3:=(r3.fr 0 (by show 0<hh.next;omega) (by decide) (by decide)).trans ((by rw [Ad,Ac (by decide)]:_=hh.get 0).trans z1)
    have l3:hh3.lim=0:=r3.lim.trans l1
    have m3:3≤hh3.next:=by have:hh.next≤hh3.next:=r3.next;omega
    have b3:=r3.isb
    have q0:=r3.rd
    have sa3:=r3.thru sa2 (by omega) (by omega)
    have sb3:Sl 3 hh3 6 vb (p2.1.map Ar.enc):=Sl.weak sb m1
    simp only [Bs] at q0
    clear sb sa2 sa1 z1 l1 m1 r1 r2 b2
    simp (disch:=omega)only[go_sem, *]
    refine CT ?_
    try simp (disch:=omega)only[go_sem, *]
    refine BA (s:=p2.2) ?_ b3 ?_ ?_
    ·simp (disch:=omega)only[go_sem, *]
    ·simp (disch:=omega)only[go_sem, *]<;>omega
    have b3:Az (AI 3 p2.2).2.b:=by first | exact Az.num b3 | exact Az.flag b3 | exact Az.cnt b3
    obtain ⟨t3,ht3⟩:∃ x,AI 3 p2.2=x:=⟨_,rfl⟩
    rw [ht3] at b3 ⊢
    have c3:0≤t3.1∧t3.1≤3:=by rw [← ht3];exact Fm (by omega)
    obtain ⟨n3,hn3⟩:∃ n:Nat,t3.1=n:=⟨t3.1.toNat,by omega⟩
    obtain ⟨p3,hp3⟩:∃ x,Ep n3 [] t3.2=x:=⟨_,rfl⟩
    have r4:=r3.re b3
    have sa4:=AA sa3 2 (Bs t3.2) ((As sa3).imp (fun x=>x) (fun x=>by omega))
    have sb4:=AA sb3 2 (Bs t3.2) ((As sb3).imp (fun x=>x) (fun x=>by omega))
    simp only [Bs] at r4 sa4 sb4
    simp (disch:=omega)only[go_sem, *]
    refine aX (n:=n3) (P:=p3) (v0:=.fl 1 (b.map Aj)) (i2':=0) (fun _ _ _=>.fl _ _ _) ?_ ?_ (by omega) hp3 r4 ?_ ?_ ?_ ?_ ?_ ?_ ?_
    any_goals (simp (disch:=omega)only[go_sem, *];done)
    ·show 0<hh3.next;omega
    clear e0 e2 e6 e7
    intro e hh5 vc r5 sc lc e0 e2 e6 e7
    have z5:=(r5.fr 0 (by show 0<hh3.next;omega) (by decide) (by decide)).trans ((by rw [Ad,Ac (by decide)]:_=hh3.get 0).trans z3)
    have l5:hh5.lim=0:=r5.lim.trans l3
    have m5:3≤hh5.next:=by have:hh3.next≤hh5.next:=r5.next;omega
    have sa5:=r5.thru sa4 (by omega) (by omega)
    have sb5:=r5.thru sb4 (by omega) (by omega)
    have sc5:Sl 3 hh5 1 vc (p3.1.map Tab.enc):=Sl.weak sc m3
    have q0:=r5.rd
    have q1:=r5.q
    have hcs:Bx s=(⟨p1.1,p2.1,p3.1⟩,p3.2):=by
     unfold Bx
     simp only [ht1,hn1,Int.toNat_natCast,hp1,ht2,hn2,hp2,ht3,hn3,hp3]
    clear ht1 hn1 hp1 ht2 hn2 hp2 ht3 hn3 hp3 r3 r4 r5 sc sa4 sb4 sa3 sb3 z3 l3 m3 b1 b3 c1 c2 c3 md mt ml
    have hnm:=SU (s:=s)
    have hle:=Le.conf (n:=x.length) (s:=s) (by rw [← hs];simp [Le])
    rw [hcs] at hr hnm hle
    simp only at hr hnm hle
    simp (disch:=omega)only[go_sem, *]
    refine Vc (C:=⟨p1.1,p2.1,p3.1⟩) z5 q1 q0 l5 m5 sa5 sb5 sc5 la lb lc e0 e2 e6 e7 ?_
    clear z5 q1 q0 l5 m5 sa5 sb5 sc5 la lb lc e0 e2 e6 e7 hcs
    generalize (⟨p1.1,p2.1,p3.1⟩:Ah)=D at *
    intro e H z0 q1 q2 hl0 hn e0 e2 e6 e7
    have hrd:=q2
    generalize p3.2=s2 at *
    simp only [Bs] at q2
    simp only [Ah.enc] at q1
    have hrt:=Fq hnm
    have hby:=fun h=>J2 (C:=D) (Dr (Lh h)).1
    simp only [Ah.enc] at hrt hby
    refine CT ?_
    simp (disch:=omega)only[go_sem, *]
    refine aF (s:=s2) ?_ ?_ ?_
    ·simp (disch:=omega)only[go_sem, *]
    ·have:s2.b.length≤x.length:=hle
     omega
    have h1:=hr.bad
    have h2:=hr.left
    have h3:=hr.wh
    have h4:=hr.byt
    have h5:=hr.ok
    have hu:=HG (GF D) hb
    clear hr hrd hle
    obtain ⟨b2,bad⟩:=s2
    simp only at h1 h2 q2
    cases bad with
    | true=>
     have e:=h1 rfl
     clear h1 h2 h3 h4 h5 hu
     simp (disch:=omega)only[go_sem, *]
    | false=>
     clear h1
     simp (disch:=omega)only[go_sem, *]
     refine Aq (fun hc3=>?_) (fun hc3=>?_)
     ·have e:=h2 hc3
      clear h2 h3 h4 h5 hu
      simp (disch:=omega)only[go_sem, *]
     ·clear h2
      simp (disch:=omega)only[go_sem, *]
      refine Pf.go (hrt) (by simp only [go_sem]) fun _=>?_;simp (disch:=omega)only[go_sem, *]
      refine Aq (fun hc4=>?_) (fun hc4=>?_)
      ·have e:=h3 hc4
       clear h3 h4 h5 hu
       simp (disch:=omega)only[go_sem, *]
      ·have hw:(A1 D).1=0:=Classical.not_not.1 hc4
       have hb2:=hby hw
       have h5:=h5 hw
       clear h3 hby hrt
       simp (disch:=omega)only[go_sem, *]
       refine Pf.go (hb2) (by simp only [go_sem]) fun _=>?_;simp (disch:=omega)only[go_sem, *]
       refine Aa (fun hc5=>?_) (fun hc5=>?_)
       ·have e:=h4 hc5
        clear h4 h5 hu hc5
        simp (disch:=omega)only[go_sem, *]
       ·have e:=h5 (Classical.not_not.1 hc5)
        clear h4 h5 hu hc5
        simp (disch:=omega)only[go_sem, *]
        refine WN ?_
        simp (disch:=omega)only[go_sem, *]
theorem Gw {b:List Int} (hb:Az b) (hl:b.length<2000000):Pf tp Yk [.fl 1 (b.map Aj)] (.b true):=by
 have t1:=Ff hb
 have t2:=aY hb hl
 have t3:=Ow (a:=(BV b).1) (b:=(BV b).1)
 rw [decide_eq_true rfl] at t3
 generalize BV b=D at *
 obtain ⟨D,w⟩:=D
 simp only [Ah.enc] at t1 t2 t3
 refine AD aFD (by simp [OK]) fun rp=>?_;unfold OK;simp (disch:=omega)only[go_sem, *]
 refine Pf.go (t1) (by simp only [go_sem]) fun _=>?_;simp (disch:=omega)only[go_sem, *]
 refine Pf.go (t2) (by simp only [go_sem]) fun _=>?_;simp (disch:=omega)only[go_sem, *]
 refine Pf.go (t3) (by simp only [go_sem]) fun _=>?_;simp (disch:=omega)only[go_sem, *]
theorem GZ {C:Ah} (hnm:Fs C):Pf tp aHb [.agg C.enc] (.b true):=by
 have t1:=Ej hnm
 have t2:=Fq hnm
 have t3:=Hp hnm
 have f1:(A1 C).1≠0→Fd C=([],(A1 C).1):=fun h=>if_neg h
 have f2:(A1 C).1=0→Fd C=(Ci C,0):=fun h=>if_pos h
 have t4:=fun h=>J2 (C:=C) (Dr (Lh h)).1
 have t5:=fun h=>Gw (GF C) (by have:=Iw (Dr (Lh (C:=C) h)).1;rw [← Dn,CE];omega)
 simp only [Ah.enc] at t1 t2 t3 t4
 by_cases hw:(A1 C).1=0
 ·have t4:=t4 hw
  have t5:=t5 hw
  rw [f2 hw] at t1 t3
  rw [hw] at t2
  clear f1 f2
  refine AD tB (by simp [Su]) fun rp=>?_;unfold Su;simp (disch:=omega)only[go_sem, *]
  refine Pf.go (t1) (by simp only [go_sem]) fun _=>?_;simp (disch:=omega)only[go_sem, *]
  refine Pf.go (t2) (by simp only [go_sem]) fun _=>?_;simp (disch:=omega)only[go_sem, *]
  refine Pf.go (t4) (by simp only [go_sem]) fun _=>?_;simp (disch:=omega)only[go_sem, *]
  refine Pf.go (t3) (by simp only [go_sem]) fun _=>?_;simp (disch:=omega)only[go_sem, *]
  refine Pf.go (t5) (by simp only [go_sem]) fun _=>?_;simp (disch:=omega)only[go_sem, *]
 ·rw [f1 hw] at t1 t3
  clear f1 f2 t4 t5
  refine AD tB (by simp [Su]) fun rp=>?_;unfold Su;simp (disch:=omega)only[go_sem, *]
  refine Pf.go (t1) (by simp only [go_sem]) fun _=>?_;simp (disch:=omega)only[go_sem, *]
  refine Pf.go (t2) (by simp only [go_sem]) fun _=>?_;simp (disch:=omega)only[go_sem, *]
  refine Pf.go (t3) (by simp only [go_sem]) fun _=>?_;simp (disch:=omega)only[go_sem, *]
end Go.Ab.T
namespace Go.Ab.T
open Go Go.Ab
set_option maxHeartbeats 4000000
attribute [go_sem] FX
theorem Made.small {C:Ah} (m:Made C):Cg 10 C:=by
 obtain ⟨⟨h1,h2,h3,h4,h5⟩,hp,hc,ht⟩:=Ds.1 m.wh
 refine ⟨h1,h2,by omega,by omega,fun t hx=>?_,fun p hx=>?_,m.nm⟩
 ·have:=(D7.1 (ht t hx)).1.right
  have:=((FK t).1 this).1
  omega
 ·obtain ⟨i,hi,rfl⟩:=List.mem_iff_getElem.1 hx
  have:=(hp i hi).2.2
  rw [BX hi] at this
  unfold E6 at this
  simp only [Bool.and_eq_true] at this
  have:=this.1.1
  unfold CH at this
  simp only [Bool.and_eq_true,decide_eq_true_eq] at this
  omega
theorem jT {C:Ah} (h:Fs C):Fs (aUy C):=fun p hp=>h p (List.mem_of_mem_take hp)
end Go.Ab.T
namespace Go.Ab.T
open Go Go.Ab
set_option maxHeartbeats 4000000
theorem aU9 {a b:Int} (a0:0≤a) (a1:a<256) (b0:0≤b) (b1:b<256):∃ y:Int,0≤y∧y<256∧Bt .xor (.i .u8 a) (.i .u8 b)=some (.i .u8 y):=by
 by_cases h:b=0
 ·subst h
  refine ⟨_, ?_, ?_,rfl⟩<;>rw [Dd]<;>omega
 ·obtain ⟨y,h1,h2,_,h3⟩:=aXd a0 a1 (by omega) b1
  exact ⟨y,h1,h2,h3⟩
theorem Ls {L b : List Int} {what n at_ turn : Int} {R : Ah} (hL : L.length < 4000000000) (hR : Fs R) (hb : Az b) (hbl : b.length ≤ 1048576) (ht0 : 0 ≤ turn) (ht1 : turn < 256) :
    Pf tp aUK [.fl 1 (L.map E0),.i .i64 what,.i .i64 n,.agg R.enc,.fl 1 (b.map Aj),.i .i64 at_,.i .u8 turn] (.b true):=by
 refine AD aUB (by simp [bV]) fun rp=>?_;unfold bV;simp (disch:=omega)only[go_sem, *]
 refine Ug (id:=1) (k:=0) (L:=L) ?_ (by omega) hL ?_ ?_
 ·simp only [Av]
  simp (disch:=omega)only[go_sem, *]
  all_goals rfl
 ·simp (disch:=omega)only[go_sem, *]
 intro C j hj hC
 have hl:=T8 hC.wh hC.ok
 have t1:=J2 (C:=C) (Dr hC.wh).1
 have t2:=GZ hC.nm
 have sm:=hC.small
 have hB:=GF C
 obtain ⟨hl1,hl2⟩:=hl
 simp only [Ah.enc] at t1 t2
 simp (disch:=omega)only[go_sem, *]
 refine Pf.go (t1) (by simp only [go_sem]) fun _=>?_;simp (disch:=omega)only[go_sem, *]
 clear hC
 generalize Ci C=B at *
 have et:((B.length:Int) - 4).toNat=B.length - 4:=by omega
 have mt:∀ n,List.take n (B.map Aj)=(B.take n).map Aj:=fun n=>List.map_take.symm
 have hX:Az (B.take (B.length - 4)):=hB.take
 have hxl:(B.take (B.length - 4)).length=B.length - 4:=by rw [List.length_take];omega
 simp (disch:=omega)only[go_sem, *]
 generalize B.take (B.length - 4)=X at *
 have hx1:5≤X.length:=by omega
 have hx2:X.length<1000000:=by omega
 clear hxl
 refine Ap (N:=X.map Aj) (Sl.nil' 3 _ 1) (by simp (disch:=omega)only[go_sem, *]<;>omega) (by simp (disch:=omega)only[go_sem, *]<;>omega) (by simp;omega) ?_
 intro w h4 s4 g4
 have hl4:=g4.lim
 have hn4:=g4.next
 have g0:=g4.low 0 (by omega)
 have g2:=g4.low 2 (by omega)
 simp (disch:=omega)only[go_sem] at hl4 hn4 g0 g2
 rw [List.nil_append] at s4
 have hw:=As s4
 obtain ⟨wlen,wbig,wlt,wlo,wget,FO,wrow,wcell,wcells⟩:=s4.facts
 clear g4
 simp (disch:=omega)only[go_sem, *]
 refine Pf.go (G6 (n:=at_) (lo:=0) (hi:=(X.length:Int) - 1) (by omega) (by omega) (by omega)) (by simp only [go_sem]) fun _=>?_
 have wb:=FP (n:=at_) (lo:=0) (hi:=(X.length:Int) - 1) (by omega)
 generalize D9 at_ 0 ((X.length:Int) - 1)=z at wb ⊢
 obtain ⟨k,rfl⟩:∃ k:Nat,z=k:=⟨z.toNat,by omega⟩
 have hk:k<X.length:=by omega
 clear wb
 have w1:=wlt (by omega)
 have w2:=wlo (by omega)
 have w3:=wget (by omega)
 have w4:=FO .i64 k (Bn h4 w) (by omega) (by omega)
 have w5:=wrow k (by omega)
 simp only [Aj] at w5
 clear wlt wlo wget FO wrow
 obtain ⟨y,hy0,hy1,o4⟩:=aU9 (hX _ (Bm hk)).1 (hX _ (Bm hk)).2 ht0 ht1
 simp (disch:=omega)only[go_sem, *]
 have s5:=Sl.setT (x:=y) (h':=h4.put (AW w) ⟨1,(Bn h4 w).set (Fa w+k) (Aj y)⟩) s4 hk (Nat.le_refl _) (by rw [Ad,AC rfl])
 have hY:Az (X.set k y):=fun z hz=>(List.mem_or_eq_of_mem_set hz).elim (hX z) (fun e=>by subst e;exact ⟨hy0,hy1⟩)
 have hyl:(X.set k y).length<1000000:=by rw [List.length_set];omega
 simp only [Aj] at s5
 clear s4 w3 w4 w5 o4 wlen wcell wcells hX
 generalize X.set k y=Y at *
 refine Pf.go (t2) (by simp only [go_sem]) fun _=>?_;simp (disch:=omega)only[go_sem, *]
 refine ZP sm (by omega) ?_
 intro C1 s1
 simp (disch:=omega)only[go_sem, *]
 refine Pf.go (GZ s1.nm) (by simp only [go_sem]) fun _=>?_;simp (disch:=omega)only[go_sem, *]
 refine ZP sm (by omega) ?_
 intro C2 s2
 simp (disch:=omega)only[go_sem, *]
 refine Pf.go (GZ s2.nm) (by simp only [go_sem]) fun _=>?_;simp (disch:=omega)only[go_sem, *]
 refine Pf.go (aFA (C:=R)) (by simp only [go_sem]) fun _=>?_;simp (disch:=omega)only[go_sem, *]
 refine Pf.go (GZ (jT hR)) (by simp only [go_sem]) fun _=>?_;simp (disch:=omega)only[go_sem, *]
 refine Pf.take [AW w] (G1 (B:=Y) (by omega)) (.cons _ _ _ _ _ (Sl.froze s5 (fun _=>rfl) (by simp) (by omega)) (.nil _)) fun _=>?_
 clear s5
 simp (disch:=omega)only[go_sem, *]
 refine Pf.go (Gw (FL hY) (by rw [CE];omega)) (by simp only [go_sem]) fun _=>?_;simp (disch:=omega)only[go_sem, *]
 refine Pf.go (Gw hb (by omega)) (by simp only [go_sem]) fun _=>?_;simp (disch:=omega)only[go_sem, *]
 refine Pf.go (G1 (B:=b) (by omega)) (by simp only [go_sem]) fun _=>?_;simp (disch:=omega)only[go_sem, *]
 refine Pf.go (Gw (FL hb) (by rw [CE];omega)) (by simp only [go_sem]) fun _=>?_;simp (disch:=omega)only[go_sem, *]
 refine Ap (N:=b.map Aj) (Sl.newi (b:=3) (N:=[72,79,82,65].map Aj) rfl rfl (by simp (disch:=omega)only[go_sem, *]) (by decide)) (by simp (disch:=omega)only[go_sem, *]<;>omega) (by simp (disch:=omega)only[go_sem, *]<;>omega) (by simp;omega) ?_
 intro v h6 s6 g6
 have hl6:=g6.lim
 clear g6
 simp (disch:=omega)only[go_sem, *] at hl6
 rw [← List.map_append] at s6
 have hi:Az ([72,79,82,65]++b):=Az.app (fun z hz=>by simp only [List.mem_cons,List.not_mem_nil,or_false] at hz;omega) hb
 have hil:([72,79,82,65]++b).length<1100000:=by rw [List.length_append];simp only [List.length_cons,List.length_nil];omega
 generalize [72,79,82,65]++b=D at *
 simp (disch:=omega)only[go_sem, *]
 refine Pf.take [AW v] (G1 (B:=D) (by omega)) (.cons _ _ _ _ _ (Sl.froze s6 (fun _=>rfl) (by simp) (by omega)) (.nil _)) fun _=>?_
 clear s6
 simp (disch:=omega)only[go_sem, *]
 refine Pf.go (Gw (FL hi) (by rw [CE];omega)) (by simp only [go_sem]) fun _=>?_;simp (disch:=omega)only[go_sem, *]
 refine Pf.go (RN) (by simp only [go_sem]) fun _=>?_;simp (disch:=omega)only[go_sem, *]
end Go.Ab.T
